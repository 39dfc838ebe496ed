/- Images of sets, powers: plain laws. -/
import Derived.Test.YtjegmdkaiddokaaTrans
import Derived.Test.YtjegmdkaiddokaaBits
namespace Sg
open Go

/-! ### Images of sets -/
/-- The image of a set under the first points. -/
def appN (f : List Int) (s : Nat) : Nat → Nat
  | 0 => 0
  | k + 1 => appN f s k ||| (s.testBit k).toNat <<< (ix f k).toNat
theorem appN_bit {f : List Int} {s : Nat} (k j : Nat) : (appN f s k).testBit j = true ↔ ∃ i, i < k ∧ s.testBit i = true ∧ (ix f i).toNat = j := by
  induction k with
  | zero => simp [appN]
  | succ k ih =>
    rw [appN, Nat.testBit_or, Bool.or_eq_true, ih, Nat.testBit_shiftLeft]
    constructor
    · rintro (⟨i, h1, h2, h3⟩ | h)
      · exact ⟨i, by omega, h2, h3⟩
      · refine ⟨k, by omega, ?_⟩
        cases hb : s.testBit k
        · simp [hb] at h
        · simp [hb, Nat.testBit_one_eq_true_iff_self_eq_zero] at h
          exact ⟨rfl, by omega⟩
    · rintro ⟨i, h1, h2, h3⟩
      by_cases hi : i = k
      · subst hi; right; simp [h2, h3]
      · left; exact ⟨i, by omega, h2, h3⟩
theorem appN_lt {f : List Int} (hf : VF f = true) {s : Nat} (k : Nat) (hk : k ≤ f.length) : appN f s k < 2 ^ 32 := by
  refine Nat.lt_pow_two_of_testBit _ fun j hj => ?_
  rw [Bool.eq_false_iff]; intro h
  obtain ⟨i, h1, _, h3⟩ := (appN_bit k j).1 h
  have := (VF_iff.1 hf).2.2 i (by omega)
  have := VF.len hf
  omega
theorem app_step {f : List Int} (hf : VF f = true) {s k : Nat} (hs : s < 2 ^ 64) (hk : k < f.length) :
    bits .or .u64 (appN f s k : Int) (shlK .u64 (bits .and .u64 (shrK .u64 (s : Int) (k : Int)) 1) (ix f k)) = (appN f s (k + 1) : Int) := by
  have hl := VF.len hf
  have hx := (VF_iff.1 hf).2.2 k hk
  obtain ⟨j, hj⟩ := Int.eq_ofNat_of_zero_le hx.1
  rw [bit_u64 hs (by omega), hj, bit_shl (by omega), appN, hj]
  refine (bits64 (Nat.lt_trans (appN_lt hf k (by omega)) (by decide)) ?_).2
  refine Nat.lt_pow_two_of_testBit _ fun i hi => ?_
  rw [Nat.testBit_shiftLeft]
  cases s.testBit k
  · simp
  · rw [Bool.eq_false_iff]
    simp [Nat.testBit_one_eq_true_iff_self_eq_zero]; omega
def appF (f : List Int) (s : Nat) : Int := if VF f = true then (appN f s f.length : Int) else 0
theorem trans_Apply_ok {f : List Int} {s : Nat} {K : Int → Prop} (hs : s < 2 ^ 64) (h : K (appF f s)) : trans_Apply f s K := by
  unfold trans_Apply
  refine trans_Valid_ok ?_
  split
  · rename_i hf
    rw [appF, if_pos hf] at h
    intro _
    refine LoopWP.to f.length (fun s : Int × Nat => s.2) (fun t => t.2 ≤ f.length ∧ t.1 = appN f s t.2) ⟨by simp, rfl⟩ (fun s h => h.1) ?_
    rintro ⟨im, k⟩ X ⟨hk, hI⟩ hX
    simp only at hk hI
    show trans_Apply_L1 f s K _ im k
    unfold trans_Apply_L1
    split
    · have := (VF_iff.1 hf).2.2 k (by omega)
      exact ⟨by omega, by omega, by omega, hX (_, k + 1) ⟨by simp only; omega, by simp only; rw [hI, app_step hf hs (by omega)]⟩ rfl⟩
    · have : k = f.length := by omega
      rw [hI, this]; exact h
  · rename_i hf
    rw [appF, if_neg hf] at h; exact h
theorem ref02_Has_ok {s : Nat} {k : Nat} {K : Bool → Prop} (hs : s < 2 ^ 64) (hk : k < 64) (h : K (s.testBit k)) : ref02_Has s k K := by
  unfold ref02_Has
  rw [wrap_u64_id ⟨by omega, by omega⟩]
  refine ⟨by omega, ?_⟩
  rw [bit_u64 hs hk]
  cases hb : s.testBit k
  · rw [hb] at h; exact h
  · rw [hb] at h; exact h
theorem ref02_Bit_ok {j : Nat} {K : Int → Prop} (hj : j < 64) (h : K ((1 <<< j : Nat) : Int)) : ref02_Bit j K := by
  unfold ref02_Bit
  rw [wrap_u64_id ⟨by omega, by omega⟩]
  refine ⟨by omega, ?_⟩
  have := bit_shl (b := true) (j := j) hj
  exact this.symm ▸ h
theorem appN_comp {f g : List Int} (hf : VF f = true) (hg : VF g = true) (hl : f.length = g.length) (s : Nat) :
    appN (compF f g) s f.length = appN g (appN f s f.length) g.length := by
  apply Nat.eq_of_testBit_eq
  intro j
  rw [Bool.eq_iff_iff, appN_bit, appN_bit]
  constructor
  · rintro ⟨i, h1, h2, h3⟩
    rw [ix_compF (by omega) (by omega)] at h3
    have := (VF_iff.1 hf).2.2 i h1
    refine ⟨(ix f i).toNat, by omega, (appN_bit _ _).2 ⟨i, h1, h2, rfl⟩, ?_⟩
    rw [show ((ix f i).toNat : Int) = ix f i from by omega]; exact h3
  · rintro ⟨m, h1, h2, h3⟩
    obtain ⟨i, h4, h5, h6⟩ := (appN_bit _ _).1 h2
    refine ⟨i, h4, h5, ?_⟩
    have := (VF_iff.1 hf).2.2 i h4
    rw [ix_compF (by omega) (by omega), show ix f i = (m : Int) from by omega]; exact h3
theorem VF_compF {f g : List Int} (hf : VF f = true) (hg : VF g = true) (hl : f.length = g.length) : VF (compF f g) = true := by
  rw [VF_iff]
  have := VF.len hf
  refine ⟨by simp; omega, by simp; omega, fun j hj => ?_⟩
  simp only [compF_length] at hj ⊢
  have h1 := (VF_iff.1 hf).2.2 j hj
  rw [ix_compF (by omega) (by omega)]
  have h2 := VF.at_ hg h1.1 (by omega)
  omega
theorem law11_TransApplies_ok (f g : List Int) (set_ : Int) (hs : U64 set_) : law11_TransApplies f g set_ (fun b => b = true) := by
  obtain ⟨s, rfl⟩ := Int.eq_ofNat_of_zero_le hs.1
  have hs' : s < 2 ^ 64 := by have := hs.2; omega
  unfold law11_TransApplies
  refine trans_Apply_ok hs' (ref11_Valid_ok ?_)
  split
  · rename_i hf
    intro _
    refine LoopWP.to f.length (fun s : Int × Nat => s.2) (fun t => t.2 ≤ f.length ∧ t.1 = appN f s t.2) ⟨by simp, rfl⟩ (fun s h => h.1) ?_
    rintro ⟨im, k⟩ X ⟨hk, hI⟩ hX
    simp only at hk hI
    show law11_TransApplies_L1 f g s _ _ _ im k
    unfold law11_TransApplies_L1
    have hl := VF.len hf
    split
    · have hx := (VF_iff.1 hf).2.2 k (by omega)
      refine ⟨by omega, by omega, ref02_Has_ok hs' (by omega) ?_⟩
      obtain ⟨j, hj⟩ := Int.eq_ofNat_of_zero_le hx.1
      have hst := app_step hf hs' (k := k) (by omega)
      rw [bit_u64 hs' (by omega), hj, bit_shl (by omega)] at hst
      split
      · rename_i hb
        rw [hj]
        refine ref02_Bit_ok (by omega) (hX (_, k + 1) ⟨by simp only; omega, ?_⟩ rfl)
        rw [hb] at hst
        simp only [hI]
        exact hst
      · rename_i hb
        refine hX (_, k + 1) ⟨by simp only; omega, ?_⟩ rfl
        have hb' : s.testBit k = false := by simpa using hb
        simp only [hI, appN, hb']; simp
    · have hk' : k = f.length := by omega
      subst hk'
      rw [if_pos (by rw [hI, appF, if_pos hf])]
      refine law11_pair_ok ?_
      split
      · rename_i hp
        obtain ⟨_, hg, hlen⟩ := pairB_iff.1 hp
        refine trans_Compose_ok (trans_Apply_ok hs' ?_)
        rw [appF, if_pos hf]
        have hlt := appN_lt hf (s := s) f.length (Nat.le_refl _)
        refine trans_Apply_ok (by omega) ?_
        rw [if_pos]
        · exact law11_awake_ok rfl
        · rw [compT, if_pos hp, appF, appF, if_pos (VF_compF hf hg hlen), if_pos hg, compF_length, appN_comp hf hg hlen]
      · exact law11_awake_ok rfl
  · rename_i hf
    rw [if_pos (by rw [appF, if_neg hf])]
    exact law11_awake_ok rfl

/-! ### Powers -/
def itr (f : List Int) : Nat → Int → Int
  | 0, x => x
  | k + 1, x => itr f k (ix f x)
theorem itr_add (f : List Int) (a b : Nat) (x : Int) : itr f (a + b) x = itr f b (itr f a x) := by
  induction a generalizing x with
  | zero => simp [itr]
  | succ a ih => rw [show a + 1 + b = (a + b) + 1 from by omega]; exact ih (ix f x)
theorem itr_one (f : List Int) (x : Int) : itr f 1 x = ix f x := rfl
theorem itr_succ (f : List Int) (k : Nat) (x : Int) : itr f (k + 1) x = ix f (itr f k x) := by rw [itr_add]; rfl
theorem itr_in {f : List Int} (hf : VF f = true) (k : Nat) {x : Int} (h0 : 0 ≤ x) (h1 : x < f.length) : 0 ≤ itr f k x ∧ itr f k x < f.length := by
  induction k generalizing x with
  | zero => exact ⟨h0, h1⟩
  | succ k ih => have := VF.at_ hf h0 h1; exact ih this.1 this.2
/-- The power of a transformation. -/
def pw (f : List Int) (k : Nat) : List Int := (iota f.length).map (itr f k)
@[simp] theorem pw_length (f : List Int) (k : Nat) : (pw f k).length = f.length := by simp [pw]
theorem ix_pw (f : List Int) (k : Nat) {x : Int} (h0 : 0 ≤ x) (h1 : x < f.length) : ix (pw f k) x = itr f k x := by
  rw [pw, ix_map _ h0 (by simpa using h1), ix_iota' h0 h1]
theorem pw_zero (f : List Int) : pw f 0 = iota f.length := list_ix (by simp) fun j hj => by
  rw [pw_length] at hj; rw [ix_pw f 0 (by omega) (by omega), ix_iota hj]; rfl
theorem pw_one (f : List Int) : pw f 1 = f := list_ix (by simp) fun j hj => by
  rw [pw_length] at hj; rw [ix_pw f 1 (by omega) (by omega)]; rfl
theorem VF_pw {f : List Int} (hf : VF f = true) (k : Nat) : VF (pw f k) = true := by
  rw [VF_iff]; have := VF.len hf
  refine ⟨by simp; omega, by simp; omega, fun j hj => ?_⟩
  simp only [pw_length] at hj ⊢
  rw [ix_pw f k (by omega) (by omega)]; exact itr_in hf k (by omega) (by omega)
theorem compF_pw {f : List Int} (hf : VF f = true) (a b : Nat) : compF (pw f a) (pw f b) = pw f (a + b) := list_ix (by simp) fun j hj => by
  simp only [compF_length, pw_length] at hj
  have := itr_in hf a (x := j) (by omega) (by omega)
  rw [ix_compF (by omega) (by simp; omega), ix_pw f a (by omega) (by omega), ix_pw f b this.1 this.2, ix_pw f _ (by omega) (by omega), itr_add]
theorem compT_pw {f : List Int} (hf : VF f = true) (a b : Nat) : compT (pw f a) (pw f b) = pw f (a + b) := by
  rw [compT, if_pos (pairB_iff.2 ⟨VF_pw hf a, VF_pw hf b, by simp⟩), compF_pw hf]
def powF (f : List Int) (k : Int) : List Int := if VF f = true ∧ 0 ≤ k then pw f k.toNat else []
theorem trans_Power_ok {f : List Int} {k : Int} {K : List Int → Prop} (hk : I64 k) (h : K (powF f k)) : trans_Power f k K := by
  unfold trans_Power
  refine trans_Valid_ok ?_
  split
  · rename_i hf
    split
    · rw [powF, if_neg (by omega)] at h; exact h
    · rename_i h0
      rw [powF, if_pos ⟨hf, by omega⟩] at h
      obtain ⟨m, rfl⟩ := Int.eq_ofNat_of_zero_le (by omega : 0 ≤ k)
      intro _
      have hl := VF.len hf
      refine trans_Identity_ok ?_
      rw [if_pos (by omega), show (f.length : Int).toNat = f.length from rfl, ← pw_zero]
      refine LoopWP.intro (fun s : Int × List Int × List Int => ∃ (r a q : Nat), s = ((r : Int), pw f a, pw f q) ∧ a + q * r = m ∧ r ≤ m) (fun s => s.1.toNat) ⟨m, 0, 1, by rw [pw_one], by omega, Nat.le_refl _⟩ ?_
      rintro s X ⟨r, a, q, rfl, he, hr⟩ hX
      show trans_Power_L1 K _ (r : Int) (pw f a) (pw f q)
      unfold trans_Power_L1
      split
      · have hr' : r < 2 ^ 63 := by have := hk.2; omega
        rw [and1_i64 hr']
        split
        · refine trans_Compose_ok (trans_Compose_ok ?_)
          rw [compT_pw hf, compT_pw hf, shr_i64_1]
          refine hX _ ⟨r / 2, a + q, q + q, rfl, ?_, by omega⟩ (by simp only; omega)
          rw [← he]
          have : r = 2 * (r / 2) + 1 := by omega
          generalize hd : r / 2 = d at this
          rw [this, Nat.mul_add, ← Nat.mul_assoc, Nat.mul_two]; omega
        · refine trans_Compose_ok ?_
          rw [compT_pw hf, shr_i64_1]
          refine hX _ ⟨r / 2, a, q + q, rfl, ?_, by omega⟩ (by simp only; omega)
          rw [← he]
          have : r = 2 * (r / 2) := by omega
          generalize hd : r / 2 = d at this
          rw [this, ← Nat.mul_assoc, Nat.mul_two]
      · have : r = 0 := by omega
        subst this
        have : a = m := by simpa using he
        rw [this]; exact h
  · rename_i hf
    rw [powF, if_neg (fun h => hf h.1)] at h; exact h
theorem ref11_Compose_pw {f : List Int} (hf : VF f = true) {a b : Nat} {K : List Int → Prop} (h : K (pw f (a + b))) : ref11_Compose (pw f a) (pw f b) K := by
  have hl := VF.len hf
  refine ref11_Compose_ok (by simp; omega) (fun j hj => ?_) (by rw [compF_pw hf]; exact h)
  have := (VF_iff.1 (VF_pw hf a)).2.2 j hj
  simpa using this
theorem ref11_Power_ok {f : List Int} {k : Int} {K : List Int → Prop} (hk : I64 k) (hf : VF f = true) (h0 : 0 ≤ k) (h : K (pw f k.toNat)) : ref11_Power f k K := by
  unfold ref11_Power
  obtain ⟨m, rfl⟩ := Int.eq_ofNat_of_zero_le h0
  have hl := VF.len hf
  intro _
  refine ref03_Discrete_ok (by omega) (by omega) ?_
  rw [show (f.length : Int).toNat = f.length from rfl, ← pw_zero]
  refine LoopWP.intro (fun s : List Int × Int × List Int => ∃ (r a q : Nat), s = (pw f q, (r : Int), pw f a) ∧ a + q * r = m ∧ r ≤ m) (fun s => s.2.1.toNat) ⟨m, 0, 1, by rw [pw_one], by omega, Nat.le_refl _⟩ ?_
  rintro s X ⟨r, a, q, rfl, he, hr⟩ hX
  show ref11_Power_L1 K _ (pw f q) (r : Int) (pw f a)
  unfold ref11_Power_L1
  have ht : (r : Int).tmod 2 = ((r % 2 : Nat) : Int) := rfl
  have hd2 : (r : Int).tdiv 2 = ((r / 2 : Nat) : Int) := rfl
  split
  · have hk2 := hk.2
    rw [ht, hd2]
    split
    · refine ref11_Compose_pw hf (ref11_Compose_pw hf ⟨⟨by omega, by omega⟩, ?_⟩)
      refine hX _ ⟨r / 2, a + q, q + q, rfl, ?_, by omega⟩ (by simp only; omega)
      rw [← he]
      have : r = 2 * (r / 2) + 1 := by omega
      generalize hd : r / 2 = d at this
      rw [this, Nat.mul_add, ← Nat.mul_assoc, Nat.mul_two]; omega
    · refine ref11_Compose_pw hf ⟨⟨by omega, by omega⟩, ?_⟩
      refine hX _ ⟨r / 2, a, q + q, rfl, ?_, by omega⟩ (by simp only; omega)
      rw [← he]
      have : r = 2 * (r / 2) := by omega
      generalize hd : r / 2 = d at this
      rw [this, ← Nat.mul_assoc, Nat.mul_two]
  · have : r = 0 := by omega
    subst this
    have : a = m := by simpa using he
    rw [this]; exact h
theorem law11_TransPowers_ok (f : List Int) (k : Int) (hk : I64 k) : law11_TransPowers f k (fun b => b = true) := by
  unfold law11_TransPowers
  refine trans_Power_ok hk (ref11_Valid_ok ?_)
  split
  · rename_i hf
    split
    · rw [powF, if_neg (by omega)]
      exact fun _ => law11_awake_ok rfl
    · rename_i h0
      refine ref11_Power_ok hk hf (by omega) (ref03_Same_ok ?_)
      rw [powF, if_pos (show VF f = true ∧ 0 ≤ k from ⟨hf, by omega⟩)]
      simp only [decide_true, if_true]
      exact law11_awake_ok rfl
  · rename_i hf
    rw [powF, if_neg (fun h => hf h.1)]
    exact fun _ => law11_awake_ok rfl
end Sg
