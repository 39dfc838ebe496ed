/- Which strings are words. -/
import Derived.Test.YtolobiljalelgaaFns
import Derived.Test.YtolobiljalelgaaGen
namespace Sg
open Go
theorem ref01_Valid_ok {w : Str} {n : Int} {K : Bool → Prop} (h : K (WV w n)) : ref01_Valid w n K := by
  unfold ref01_Valid ref01_MayLetters
  by_cases h1 : 1 ≤ n
  · rw [if_pos h1]
    by_cases h6 : n ≤ 6
    · rw [if_pos h6]
      simp only [if_true]
      intro _
      split
      · rw [WV_false (by omega)] at h; exact h
      · refine LoopWP.to w.length (fun k : Nat => k) (fun k => k ≤ w.length ∧ ∀ j : Nat, j < k → 97 ≤ (ix w j).toNat ∧ ((ix w j).toNat : Int) - 97 < n) ⟨by omega, fun j hj => by omega⟩ (fun s h => h.1) ?_
        rintro k X ⟨hk, hI⟩ hX
        show ref01_Valid_L1 w n K X k
        unfold ref01_Valid_L1
        split
        · refine ⟨by omega, by omega, ?_⟩
          split
          · rw [WV_false (fun hv => by have := hv.2.2.2 k (by omega); omega)] at h; exact h
          · rename_i hlo
            refine ⟨by omega, by omega, ?_⟩
            rw [wrapL (by omega)]
            split
            · rw [WV_false (fun hv => by have := hv.2.2.2 k (by omega); omega)] at h; exact h
            · refine hX (k + 1) ⟨by omega, fun j hj => ?_⟩ rfl
              by_cases hjk : j = k
              · subst hjk; exact ⟨by omega, by omega⟩
              · exact hI j (by omega)
        · rw [WV_iff.2 ⟨h1, h6, by omega, fun j hj => hI j (by omega)⟩] at h; exact h
    · rw [if_neg h6]
      rw [WV_false (by omega)] at h
      simpa using h
  · rw [if_neg h1]
    rw [WV_false (by omega)] at h
    simpa using h
theorem word_Valid_ok {w : Str} {n : Int} {K : Bool → Prop} (h : K (WV w n)) : word_Valid w n K := by
  unfold word_Valid
  split
  · rw [WV_false (by omega)] at h; exact h
  · split
    · rw [WV_false (by omega)] at h; exact h
    · intro _
      split
      · rw [WV_false (by omega)] at h; exact h
      · refine LoopWP.to w.length (fun k : Nat => k) (fun k => k ≤ w.length ∧ ∀ j : Nat, j < k → 97 ≤ (ix w j).toNat ∧ ((ix w j).toNat : Int) - 97 < n) ⟨by omega, fun j hj => by omega⟩ (fun s h => h.1) ?_
        rintro k X ⟨hk, hI⟩ hX
        show word_Valid_L1 w n K X k
        unfold word_Valid_L1
        split
        · refine ⟨by omega, by omega, ?_⟩
          split
          · rw [WV_false (fun hv => by have := hv.2.2.2 k (by omega); omega)] at h; exact h
          · rename_i hlo
            refine ⟨by omega, by omega, ?_⟩
            rw [wrapL (by omega)]
            split
            · rw [WV_false (fun hv => by have := hv.2.2.2 k (by omega); omega)] at h; exact h
            · refine hX (k + 1) ⟨by omega, fun j hj => ?_⟩ rfl
              by_cases hjk : j = k
              · subst hjk; exact ⟨by omega, by omega⟩
              · exact hI j (by omega)
        · rw [WV_iff.2 ⟨by omega, by omega, by omega, fun j hj => hI j (by omega)⟩] at h; exact h
end Sg
