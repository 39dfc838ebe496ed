/- Tables: opposites and adjoined identities. Plain laws. -/
import Derived.Test.YthobeabghciknaaMultJ
namespace Sg
open Go
set_option linter.unusedVariables false
set_option linter.unusedSimpArgs false

def oRow (t : List (List Int)) (x : Nat) : List Int := t.map fun row => ix row (x : Int)
def opp (t : List (List Int)) : List (List Int) := (List.range t.length).map (oRow t)
@[simp] theorem oRow_len {t : List (List Int)} {x : Nat} : (oRow t x).length = t.length := by simp [oRow]
@[simp] theorem opp_len {t : List (List Int)} : (opp t).length = t.length := by simp [opp]
theorem ix_opp {t : List (List Int)} {x : Nat} (h : x < t.length) : ix (opp t) (x : Int) = oRow t x := by
  rw [ix_lt (by simpa using h)]; simp [opp]
theorem ix_oRow {t : List (List Int)} {x y : Nat} (h : y < t.length) : ix (oRow t x) (y : Int) = ix (ix t (y : Int)) (x : Int) := by
  unfold oRow; rw [ix_map _ (by omega) (by omega)]
theorem mu_opp {t : List (List Int)} {x y : Nat} (hx : x < t.length) (hy : y < t.length) : mu (opp t) x y = mu t y x := by
  unfold mu; rw [ix_opp hx, ix_oRow hy]
theorem mult_Opposite_ok {t : List (List Int)} {K : List (List Int) → Prop} (h : K (if VT t = true then opp t else [])) : mult_Opposite t K := by
  unfold mult_Opposite
  refine mult_valid_ok ?_
  split
  · rename_i hv
    rw [if_pos hv] at h
    have T := SH.tb (VT.sh hv)
    have n4 := T.n4
    refine fun _ => ⟨by omega, by omega, ?_⟩
    refine LoopWP.fold t.length (fun k (o : List (List Int)) => o.length = t.length ∧ ∀ j : Nat, j < k → ix o j = oRow t j) ⟨by simp, fun j hj => absurd hj (Nat.not_lt_zero _)⟩ ?_
    rintro k o X hk ⟨hl, hI⟩ hX
    show mult_Opposite_L1 t K _ k o
    unfold mult_Opposite_L1
    simp only [List.length_replicate]
    split
    · have hkl : k < t.length := by omega
      refine ⟨by omega, by omega, by omega, by omega, ?_⟩
      refine LoopWP.fold t.length (fun m (o : List (List Int)) => o.length = t.length ∧ (∀ j : Nat, j < k → ix o j = oRow t j) ∧ (ix o (k : Int)).length = t.length ∧ ∀ y : Nat, y < m → ix (ix o (k : Int)) y = ix (ix t (y : Int)) (k : Int)) ⟨by simpa using hl, fun j hj => ?_, ?_, fun q hq => absurd hq (Nat.not_lt_zero _)⟩ ?_
      · rw [ix_st _ (by omega) (by omega) (by omega), if_neg (by omega)]; exact hI j hj
      · rw [ix_st _ (by omega) (by omega) (by omega), if_pos rfl]; simp
      · rintro m o2 X2 hm ⟨hl2, hJ, hlen, hq⟩ hX2
        show mult_Opposite_L2 t k _ K _ m o2
        unfold mult_Opposite_L2
        split
        · have hml : m < t.length := by omega
          have hr := T.row m (by omega) (by omega)
          refine ⟨by omega, by omega, by omega, by omega, by omega, by omega, by omega, by omega, hX2 _ hml ⟨by simpa using hl2, fun j hj => ?_, ?_, fun q hqm => ?_⟩⟩
          · rw [ix_st _ (by omega) (by omega) (by omega), if_neg (by omega)]; exact hJ j hj
          · rw [ix_st _ (by omega) (by omega) (by omega), if_pos rfl]; simpa using hlen
          · rw [ix_st (xs := o2) _ (by omega) (by omega) (by omega), if_pos rfl, ix_st _ (by omega) (by omega) (by omega)]
            split
            · rename_i he
              have : q = m := by omega
              subst this; rfl
            · exact hq q (by omega)
        · have : m = t.length := by omega
          subst this
          refine ⟨⟨by omega, by omega⟩, hX _ (by omega) ⟨hl2, fun j hj => ?_⟩⟩
          by_cases hjk : j = k
          · subst hjk
            exact list_ix (by simp [hlen]) fun q hql => by rw [hq q (by omega), ix_oRow (by omega)]
          · exact hJ j (by omega)
    · have : o = opp t := list_ix (by simp [hl]) fun j hj => by rw [hI j (by omega), ix_opp (by omega)]
      subst this; exact h
  · rename_i hv
    rw [if_neg hv] at h; exact h
theorem Tb.copy {t : List (List Int)} (T : Tb t t.length) : t.length ≤ 1000 ∧ ∀ j : Nat, j < t.length → (ix t j).length ≤ 1000 := ⟨by have := T.n4; omega, fun j hj => by have := T.row j (by omega) (by omega); have := T.n4; omega⟩
/-! ### A new identity -/
def aRows (t : List (List Int)) (k : Nat) : List (List Int) := (List.range k).map fun (x : Nat) => ix t (x : Int) ++ [(x : Int)]
def adj (t : List (List Int)) : List (List Int) := aRows t t.length ++ [iota t.length ++ [(t.length : Int)]]
theorem aRows_succ {t : List (List Int)} (k : Nat) : aRows t (k + 1) = aRows t k ++ [ix t (k : Int) ++ [(k : Int)]] := by simp [aRows, List.range_succ]
@[simp] theorem aRows_len {t : List (List Int)} (k : Nat) : (aRows t k).length = k := by simp [aRows]
@[simp] theorem adj_len {t : List (List Int)} : (adj t).length = t.length + 1 := by simp [adj]
end Sg
