/- Comparing lists; the list of the first numbers. -/
import Derived.Test.YthobeabghciknaaFns
import Derived.Test.YthobeabghciknaaGen
namespace Sg
open Go
set_option linter.unusedVariables false
set_option linter.unusedSimpArgs false
theorem ref03_Same_ok {a b : List Int} {K : Bool → Prop} (h : K (decide (a = b))) : ref03_Same a b K := by
  unfold ref03_Same
  intro ha hb
  split
  · rename_i hl
    have hl' : a.length = b.length := by omega
    refine LoopWP.to a.length (fun k : Nat => k) (fun k => k ≤ a.length ∧ ∀ j : Nat, j < k → ix a j = ix b j) ⟨by omega, fun j hj => by omega⟩ (fun s h => h.1) ?_
    rintro k X ⟨hk, hI⟩ hX
    show ref03_Same_L1 a b K X k
    unfold ref03_Same_L1
    split
    · refine ⟨by omega, by omega, by omega, by omega, ?_⟩
      split
      · rename_i he
        refine hX (k + 1) ⟨by omega, fun j hj => ?_⟩ rfl
        by_cases hjk : j = k
        · subst hjk; exact he
        · exact hI j (by omega)
      · rename_i hne
        have : a ≠ b := fun h => hne (by rw [h])
        simpa [this] using h
    · have : a = b := list_ix hl' fun j hj => hI j (by omega)
      simpa [this] using h
  · rename_i hl
    have : a ≠ b := fun h => hl (by rw [h])
    simpa [this] using h

theorem ref03_SameRows_ok {a b : List (List Int)} {K : Bool → Prop} (h : K (decide (a = b))) : ref03_SameRows a b K := by
  unfold ref03_SameRows
  intro ha hb
  split
  · rename_i hl
    have hl' : a.length = b.length := by omega
    refine LoopWP.to a.length (fun k : Nat => k) (fun k => k ≤ a.length ∧ ∀ j : Nat, j < k → ix a j = ix b j) ⟨by omega, fun j hj => by omega⟩ (fun s h => h.1) ?_
    rintro k X ⟨hk, hI⟩ hX
    show ref03_SameRows_L1 a b K X k
    unfold ref03_SameRows_L1
    split
    · refine ⟨by omega, by omega, by omega, by omega, ref03_Same_ok ?_⟩
      by_cases he : ix a (k : Int) = ix b (k : Int)
      · rw [if_pos (by simpa using he)]
        refine hX (k + 1) ⟨by omega, fun j hj => ?_⟩ rfl
        by_cases hjk : j = k
        · subst hjk; exact he
        · exact hI j (by omega)
      · rw [if_neg (by simpa using he)]
        have : a ≠ b := fun h => he (by rw [h])
        simpa [this] using h
    · have : a = b := list_ix hl' fun j hj => hI j (by omega)
      simpa [this] using h
  · rename_i hl
    have : a ≠ b := fun h => hl (by rw [h])
    simpa [this] using h
end Sg
