/- Powers repeat from the index on with the period: the law. -/
import Derived.Test.YtjegmdkaiddokaaTransE
namespace Sg
open Go

theorem stepLcm_ok {n m : Nat} {body : Int → (Int → Prop) → Prop} {K : Int → Prop} (hn : 1 ≤ n) (hm : 1 ≤ m) (hb : n * m ≤ 4611686018427387904)
    (hbody : ∀ (x : Nat) X, (n ∣ x → K x) → (¬ n ∣ x → I64 ((x : Int) + m) → X ((x : Int) + m)) → x ≤ n * m → body x X) (h : K (Nat.lcm m n : Int)) : LoopWP body (m : Int) := by
  refine LoopWP.intro (fun s => ∃ q : Nat, 1 ≤ q ∧ q ≤ n ∧ s = ((q * m : Nat) : Int) ∧ ∀ r, 1 ≤ r → r < q → ¬ n ∣ r * m) (fun s => n * m - s.toNat) ⟨1, by omega, hn, by simp, fun r h1 h2 => by omega⟩ ?_
  rintro s X ⟨q, hq1, hqn, rfl, hmin⟩ hX
  have hqm : q * m ≤ n * m := Nat.mul_le_mul_right _ hqn
  refine hbody (q * m) X (fun hd => ?_) (fun hnd hi => ?_) hqm
  · have h1 : Nat.lcm m n ∣ q * m := Nat.lcm_dvd (Nat.dvd_mul_left _ _) hd
    obtain ⟨r, hr⟩ : m ∣ Nat.lcm m n := Nat.dvd_lcm_left _ _
    have hpos : 0 < Nat.lcm m n := Nat.lcm_pos hm hn
    have hle := Nat.le_of_dvd (Nat.mul_pos hq1 hm) h1
    have hr1 : 1 ≤ r := by
      rcases Nat.eq_zero_or_pos r with h0 | h0
      · subst h0; rw [Nat.mul_zero] at hr; omega
      · exact h0
    have hrq : q ≤ r := by
      rcases Nat.lt_or_ge r q with hlt | hge
      · exact absurd (by rw [Nat.mul_comm, ← hr]; exact Nat.dvd_lcm_right _ _) (hmin r hr1 hlt)
      · exact hge
    have : q * m ≤ Nat.lcm m n := by rw [hr, Nat.mul_comm m r]; exact Nat.mul_le_mul_right _ hrq
    have he : q * m = Nat.lcm m n := Nat.le_antisymm this hle
    rw [he]; exact h
  · have hq2 : q < n := by
      rcases Nat.lt_or_ge q n with hlt | hge
      · exact hlt
      · obtain rfl : q = n := by omega
        exact absurd (Nat.dvd_mul_right _ _) hnd
    have hs : (q + 1) * m = q * m + m := by rw [Nat.add_mul, Nat.one_mul]
    have hle : (q + 1) * m ≤ n * m := Nat.mul_le_mul_right _ hq2
    have e : ((q * m : Nat) : Int) + m = (((q + 1) * m : Nat) : Int) := by rw [hs]; omega
    rw [e]
    refine hX _ ⟨q + 1, by omega, hq2, rfl, fun r h1 h2 => ?_⟩ ?_
    · by_cases hrq : r = q
      · subst hrq; exact hnd
      · exact hmin r h1 (by omega)
    · simp only [Int.toNat_natCast]; omega
theorem tmod_dvd {x n : Nat} : (x : Int).tmod (n : Int) = 0 ↔ n ∣ x := by
  have : (x : Int).tmod (n : Int) = ((x % n : Nat) : Int) := rfl
  rw [this, Nat.dvd_iff_mod_eq_zero]; omega
theorem compT_len {f g : List Int} (hf : VF f = true) (hg : VF g = true) (hl : f.length = g.length) : compT f g = compF f g := by
  rw [compT, if_pos (pairB_iff.2 ⟨hf, hg, hl⟩)]
theorem LC.uniq {L : List (List Int)} {m m' : Nat} (h : LC L m) (h' : LC L m') : m = m' := Nat.dvd_antisymm (h.2.2 _ h'.2.1) (h'.2.2 _ h.2.1)
theorem repeats_end {f : List Int} (hf : VF f = true) (hn : f.length ≤ 16) {a p : Nat} (hip : IP f a p) {l : List (List Int)} (hC : CY f f.length l) {K : Bool → Prop} (hK : K true) :
    ∀ m : Nat, LC l m → (trans_Omega f fun r84 => (if (p : Int) = (m : Int) then (trans_Compose r84 r84 fun r90 => (ref03_Same r90 r84 fun r95 => (if r95 = true then (trans_Compose r84 f fun r100 => (trans_Compose f r84 fun r105 => (ref03_Same r100 r105 fun r110 => (if r110 = true then (law11_awake  fun r115 => (K r115)) else (K false))))) else (K false)))) else (K false))) := by
  intro m hm
  refine trans_Omega_ok (fun _ a' p' hip' => ?_) (fun h => absurd hf h)
  obtain ⟨rfl, rfl⟩ := hip.uniq2 hip'
  have : p = m := hip.uniq (hC.lc hm)
  subst this
  rw [if_pos rfl]
  have ho := omE_ok (a := a) hip.p1
  have h1 : compT (pw f (omE a p)) (pw f (omE a p)) = pw f (omE a p) := by
    rw [compT_pw hf]
    exact (hip.eq_of hf ho.1 (by omega) (by rw [Nat.add_sub_cancel]; exact ho.2.2.1)).symm
  refine trans_Compose_ok (ref03_Same_ok ?_)
  rw [h1]
  simp only [decide_true, if_true]
  refine trans_Compose_ok (trans_Compose_ok (ref03_Same_ok ?_))
  have h2 : compT (pw f (omE a p)) f = compT f (pw f (omE a p)) := by
    have e1 := compT_pw hf (omE a p) 1
    have e2 := compT_pw hf 1 (omE a p)
    rw [pw_one] at e1 e2
    rw [e1, e2, Nat.add_comm]
  rw [h2]
  simp only [decide_true, if_true]
  exact law11_awake_ok hK
theorem repeats_loop {f : List Int} (hf : VF f = true) (hn : f.length ≤ 16) {a p : Nat} (hip : IP f a p) {l : List (List Int)} (hC : CY f f.length l) {body : Int × Nat → (Int × Nat → Prop) → Prop}
    (hbody : ∀ (m k : Nat) (X : Int × Nat → Prop), 1 ≤ m → m ≤ 720720 → (k < l.length → ∀ c : List Int, c = ix l (k : Int) → c ∈ l → 1 ≤ c.length → c.length ≤ f.length → X ((Nat.lcm m c.length : Nat), k + 1)) → (k = l.length → LC l m) → k ≤ l.length → body ((m : Int), k) X) : LoopWP body ((1 : Int), 0) := by
  refine LoopWP.to l.length (fun s : Int × Nat => s.2) (fun s => s.2 ≤ l.length ∧ ∃ m : Nat, s.1 = m ∧ LC (l.take s.2) m) ⟨by simp, 1, rfl, by simpa using LC.nil⟩ (fun s h => h.1) ?_
  rintro ⟨q, k⟩ X ⟨hk, m, hq, hm⟩ hX
  simp only at hk hq hm
  subst hq
  have hb : m ≤ 720720 := by
    refine Nat.le_of_dvd (by decide) (hm.2.2 _ fun c hc => ?_)
    have := hC.dvd hf (List.mem_of_mem_take hc)
    have : ∀ k, k < 17 → 1 ≤ k → k ∣ 720720 := by decide
    exact this _ (by omega) (by omega)
  refine hbody m k X hm.1 hb (fun hkl c hc hcl h1 h2 => ?_) (fun hkl => by rw [hkl, List.take_length] at hm; exact hm) hk
  subst hc
  refine hX (_, k + 1) ⟨by simp only; omega, _, rfl, ?_⟩ rfl
  simp only
  rw [take_ix hkl]
  exact hm.snoc h1
theorem repeats_cyc1 {f : List Int} (hf : VF f = true) (hn : f.length ≤ 16) {a p : Nat} (hip : IP f a p) (l : List (List Int)) (hC : CY f f.length l) (_ : l.length ≤ mx) : LoopWP (S := Int × Nat) (fun s X => law11_TransRepeats_L1 f p l (fun b => b = true) (fun k1_68 k1_69 => X (k1_68, k1_69)) s.1 s.2) ((1 : Int), 0) := by
  refine repeats_loop hf (by omega) hip hC fun m k X hm1 hm2 hX hend hk => ?_
  show law11_TransRepeats_L1 f p l _ _ (m : Int) k
  unfold law11_TransRepeats_L1
  split
  · have hkl : k < l.length := by omega
    have hmem : ix l (k : Int) ∈ l := ix_mem (by omega) (by omega)
    have hcl := hC.dvd hf hmem
    refine ⟨by omega, by omega, fun _ => ?_⟩
    rw [if_neg (by omega), if_neg (by omega)]
    have hnm : (ix l (k : Int)).length * m ≤ 16 * 720720 := Nat.mul_le_mul (by omega) hm2
    refine stepLcm_ok (n := (ix l (k : Int)).length) (K := fun x => X (x, k + 1)) hcl.1 hm1 (by omega) (fun x X2 hd hnd hx => ?_) (hX hkl _ rfl hmem hcl.1 hcl.2)
    show law11_TransRepeats_L2 l m k _ _ X2 x
    unfold law11_TransRepeats_L2
    refine ⟨by omega, ?_⟩
    by_cases hdv : (ix l (k : Int)).length ∣ x
    · rw [if_pos (tmod_dvd.2 hdv)]; exact hd hdv
    · rw [if_neg (fun h => hdv (tmod_dvd.1 h))]
      have hi : I64 ((x : Int) + m) := ⟨by omega, by omega⟩
      exact ⟨hi, hnd hdv hi⟩
  · exact repeats_end (K := fun b => b = true) hf (by omega) hip hC rfl m (hend (by omega))
theorem repeats_cyc3 {f : List Int} (hf : VF f = true) (hn : f.length ≤ 16) {a p : Nat} (hip : IP f a p) (l : List (List Int)) (hC : CY f f.length l) (_ : l.length ≤ mx) : LoopWP (S := Int × Nat) (fun s X => law11_TransRepeats_L3 f p l (fun b => b = true) (fun k1_68 k1_69 => X (k1_68, k1_69)) s.1 s.2) ((1 : Int), 0) := by
  refine repeats_loop hf (by omega) hip hC fun m k X hm1 hm2 hX hend hk => ?_
  show law11_TransRepeats_L3 f p l _ _ (m : Int) k
  unfold law11_TransRepeats_L3
  split
  · have hkl : k < l.length := by omega
    have hmem : ix l (k : Int) ∈ l := ix_mem (by omega) (by omega)
    have hcl := hC.dvd hf hmem
    refine ⟨by omega, by omega, fun _ => ?_⟩
    rw [if_neg (by omega), if_neg (by omega)]
    have hnm : (ix l (k : Int)).length * m ≤ 16 * 720720 := Nat.mul_le_mul (by omega) hm2
    refine stepLcm_ok (n := (ix l (k : Int)).length) (K := fun x => X (x, k + 1)) hcl.1 hm1 (by omega) (fun x X2 hd hnd hx => ?_) (hX hkl _ rfl hmem hcl.1 hcl.2)
    show law11_TransRepeats_L4 l m k _ _ X2 x
    unfold law11_TransRepeats_L4
    refine ⟨by omega, ?_⟩
    by_cases hdv : (ix l (k : Int)).length ∣ x
    · rw [if_pos (tmod_dvd.2 hdv)]; exact hd hdv
    · rw [if_neg (fun h => hdv (tmod_dvd.1 h))]
      have hi : I64 ((x : Int) + m) := ⟨by omega, by omega⟩
      exact ⟨hi, hnd hdv hi⟩
  · exact repeats_end (K := fun b => b = true) hf (by omega) hip hC rfl m (hend (by omega))
theorem law11_TransRepeats_ok (f : List Int) (k : Int) (hk : 0 ≤ k ∧ k ≤ 255) : law11_TransRepeats f k (fun b => b = true) := by
  unfold law11_TransRepeats
  refine ref11_Valid_ok ?_
  split
  · rename_i hf
    intro _
    split
    · exact law11_awake_ok rfl
    · rename_i hn
      refine trans_IndexPeriod_ok (fun _ a p hip => ?_) (fun h => absurd hf h)
      have := hip.a1; have := hip.p1; have := hip.an
      have hp := Nat.le_of_dvd (by decide) (hip.bd16 hf (by omega))
      obtain ⟨j, rfl⟩ := Int.eq_ofNat_of_zero_le hk.1
      rw [if_neg (by omega), if_neg (by omega), wrap_i64_id ⟨by omega, by omega⟩]
      refine ⟨⟨by omega, by omega⟩, trans_Power_ok ⟨by omega, by omega⟩ ⟨⟨by omega, by omega⟩, ⟨by omega, by omega⟩, trans_Power_ok ⟨by omega, by omega⟩ (ref03_Same_ok ?_)⟩⟩
      have e1 : powF f ((a : Int) + (j : Int)) = pw f (a + j) := by
        rw [powF, if_pos ⟨hf, by omega⟩]; congr 1
      have e2 : powF f ((a : Int) + (j : Int) + p) = pw f (a + j + p) := by
        rw [powF, if_pos ⟨hf, by omega⟩]; congr 1
      rw [e1, e2, hip.eq_of hf (s := a + j) (t := a + j + p) (by omega) (by omega) ⟨1, by omega⟩]
      simp only [decide_true, if_true]
      split
      · rename_i ha
        have e3 : powF f ((a : Int) - 1) = pw f (a - 1) := by
          rw [powF, if_pos ⟨hf, by omega⟩]; congr 1; omega
        have e4 : powF f ((a : Int) - 1 + p) = pw f (a - 1 + p) := by
          rw [powF, if_pos ⟨hf, by omega⟩]; congr 1; omega
        refine ⟨⟨by omega, by omega⟩, trans_Power_ok ⟨by omega, by omega⟩ ⟨⟨by omega, by omega⟩, ⟨by omega, by omega⟩, trans_Power_ok ⟨by omega, by omega⟩ (ref03_Same_ok ?_)⟩⟩
        rw [e3, e4, if_neg]
        · exact trans_Cycles_ok (fun _ l hC => repeats_cyc1 hf (by omega) hip l hC) (fun h => absurd hf h)
        · intro he
          have he' : pw f (a - 1) = pw f (a - 1 + p) := by simpa using he
          have := (hip.of_eq hf (by omega) (by omega) he').1
          omega
      · exact trans_Cycles_ok (fun _ l hC => repeats_cyc3 hf (by omega) hip l hC) (fun h => absurd hf h)
  · exact law11_awake_ok rfl
end Sg
