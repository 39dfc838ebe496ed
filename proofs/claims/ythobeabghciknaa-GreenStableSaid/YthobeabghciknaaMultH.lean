/- Tables: exponents; idempotents. Plain laws. -/
import Derived.Test.YthobeabghciknaaMultG
namespace Sg
open Go
set_option linter.unusedVariables false
set_option linter.unusedSimpArgs false

/-! ### What DeleteFunc keeps -/
/-- Of the first numbers those up to j that are wanted lie ahead, behind j all lie as they did. -/
structure DI (p : Int → Bool) (n i j : Nat) (s : List Int) : Prop where
  len : s.length = n
  ij : i ≤ j
  jn : j ≤ n
  hd : s.take i = (iota j).filter p
  tl : ∀ k : Nat, j ≤ k → k < n → ix s (k : Int) = k
theorem DI.start {p : Int → Bool} {n k : Nat} (hk : k < n) (h : ∀ j : Nat, j < k → p j = true) (hn : p k = false) : DI p n k (k + 1) (iota n) := by
  refine ⟨by simp, by omega, by omega, ?_, fun m _ hm => ix_iota hm⟩
  have e1 : (iota n).take k = iota k := by
    unfold iota; rw [← List.map_take, List.take_range, Nat.min_eq_left (by omega)]
  rw [e1, iota_succ, List.filter_append, List.filter_eq_self.2 fun x hx => ?_]
  · simp [hn]
  · obtain ⟨h0, h1⟩ := mem_iota.1 hx
    obtain ⟨m, rfl⟩ := Int.eq_ofNat_of_zero_le h0
    exact h m (by omega)
theorem DI.drop {p : Int → Bool} {n i j : Nat} {s : List Int} (h : DI p n i j s) (hj : j < n) (hp : p j = false) : DI p n i (j + 1) s :=
  ⟨h.len, by have := h.ij; omega, by omega, by rw [h.hd, iota_succ, List.filter_append]; simp [hp], fun k hk hkn => h.tl k (by omega) hkn⟩
theorem DI.keep {p : Int → Bool} {n i j : Nat} {s : List Int} (h : DI p n i j s) (hj : j < n) (hp : p j = true) : DI p n (i + 1) (j + 1) (st s (i : Int) (ix s (j : Int))) := by
  have hij := h.ij
  have hl := h.len
  refine ⟨by simpa using hl, by omega, by omega, ?_, fun k hk hkn => ?_⟩
  · rw [h.tl j (Nat.le_refl _) hj, iota_succ, List.filter_append, ← h.hd]
    simp only [st, Int.toNat_natCast]
    rw [List.take_set, List.take_succ_eq_append_getElem (by omega), List.set_append_right _ _ (by simp; omega)]
    have h5 : i - min i s.length = 0 := by omega
    simp [hp, h5]
  · rw [ix_st _ (by omega) (by omega) (by omega), if_neg (by omega)]
    exact h.tl k (by omega) hkn
theorem DI.fin {p : Int → Bool} {n i : Nat} {s : List Int} (h : DI p n i n s) (q : List Int) : (s.take i ++ q).take i = (iota n).filter p := by
  have := h.ij
  have := h.len
  rw [List.take_append_of_le_length (by simp; omega), List.take_take, Nat.min_self, h.hd]
theorem filter_all {p : Int → Bool} {n : Nat} (h : ∀ j : Nat, j < n → p j = true) : (iota n).filter p = iota n := by
  rw [List.filter_eq_self]
  intro x hx
  obtain ⟨h0, h1⟩ := mem_iota.1 hx
  obtain ⟨m, rfl⟩ := Int.eq_ofNat_of_zero_le h0
  exact h m (by omega)
theorem foldD {S : Type} {body : Nat × Nat × S → (Nat × Nat × S → Prop) → Prop} (n : Nat) (I : Nat → Nat → S → Prop) {i0 j0 : Nat} {s0 : S} (hj : j0 ≤ n) (h0 : I i0 j0 s0)
    (h : ∀ i j s X, j ≤ n → I i j s → (∀ i' s', j < n → I i' (j + 1) s' → X (i', j + 1, s')) → body (i, j, s) X) : LoopWP body (i0, j0, s0) := by
  refine LoopWP.to n (fun s : Nat × Nat × S => s.2.1) (fun s => s.2.1 ≤ n ∧ I s.1 s.2.1 s.2.2) ⟨hj, h0⟩ (fun s h => h.1) ?_
  rintro ⟨i, j, s⟩ X ⟨hj, hI⟩ hX
  exact h i j s X hj hI fun i' s' hjn hs' => hX (i', j + 1, s') ⟨hjn, hs'⟩ rfl
def idemB (t : List (List Int)) (x : Int) : Bool := decide (mu t x x = x)
theorem mult_Idempotents_ok {t : List (List Int)} {K : List Int → Prop} (h : K (if VT t = true then (iota t.length).filter (idemB t) else [])) : mult_Idempotents t K := by
  unfold mult_Idempotents
  refine mult_valid_ok ?_
  split
  · rename_i hv
    rw [if_pos hv] at h
    have T := SH.tb (VT.sh hv)
    have n4 := T.n4
    refine mult_elements_ok n4 (LoopWP.scan t.length (fun j => idemB t j = true) ?_)
    intro k X hk hI hX
    show mult_Idempotents_L1 t (iota t.length) K _ k
    unfold mult_Idempotents_L1
    rw [iota_length]
    split
    · have hkl : k < t.length := by omega
      rw [ix_iota hkl]
      have r1 := T.row k (by omega) (by omega)
      refine ⟨by omega, by omega, by omega, by omega, by omega, by omega, ?_⟩
      split
      · rename_i he; exact hX hkl (decide_eq_true he)
      · rename_i he
        rw [if_neg (by omega)]
        refine foldD t.length (DI (idemB t) t.length) (by omega) (DI.start hkl hI (decide_eq_false he)) ?_
        intro i j s X2 hj hD hX2
        show mult_Idempotents_L2 t K _ i j s
        unfold mult_Idempotents_L2
        have hl := hD.len
        have hij := hD.ij
        split
        · have hjl : j < t.length := by omega
          have e1 := hD.tl j (Nat.le_refl _) hjl
          have r2 := T.row j (by omega) (by omega)
          rw [e1]
          refine ⟨by omega, by omega, by omega, by omega, by omega, by omega, ?_⟩
          split
          · rename_i hp
            have := hD.keep hjl (p := idemB t) (decide_eq_true hp)
            rw [e1] at this
            exact ⟨by omega, by omega, ⟨by omega, by omega⟩, ⟨by omega, by omega⟩, hX2 _ _ hjl this⟩
          · rename_i hp; exact hX2 _ _ hjl (hD.drop hjl (decide_eq_false hp))
        · have : j = t.length := by omega
          subst this
          refine ⟨by omega, by omega, by omega, by simp; omega, ?_⟩
          rw [show ((i : Int)).toNat = i from rfl, hD.fin]
          exact h
    · rw [if_pos rfl]
      have : k = t.length := by omega
      subst this
      rw [filter_all hI] at h; exact h
  · rename_i hv
    rw [if_neg hv] at h; exact h
/-- The powers come again. -/
theorem exRP {t : List (List Int)} {n : Nat} (T : Tb t n) {x : Int} (hx : 0 ≤ x ∧ x < n) : ∃ a m, RP (pow t x) a m := by
  obtain ⟨a, b, hab, _, he⟩ := pigeon n (pow t x) fun k _ => pow_in T hx k
  obtain ⟨m, ⟨a', ha', he'⟩, hm, hmin⟩ := least_of (fun m => ∃ a, a < m ∧ pow t x m = pow t x a) b ⟨a, hab, he.symm⟩
  exact ⟨a', m, ha', he', fun i j hij hj hh => hmin j hj ⟨i, hij, hh.symm⟩⟩
theorem exIdem {t : List (List Int)} (hv : VT t = true) : ∃ e : Int, (0 ≤ e ∧ e < t.length) ∧ mu t e e = e := by
  have T := SH.tb (VT.sh hv)
  have hx : 0 ≤ (0 : Int) ∧ (0 : Int) < t.length := ⟨by omega, by have := T.n1; omega⟩
  obtain ⟨a, m, hR⟩ := exRP T hx
  have hlt := hR.lt
  exact ⟨_, pow_in T hx _, omR.mul (q := a + 1) hv hx hR (Nat.le_mul_of_pos_right _ (by omega))⟩
end Sg
