/- Tables: center, elements that are no products, commuting. Plain laws. -/
import Derived.Test.YthobeabghciknaaMultH
namespace Sg
open Go
set_option linter.unusedVariables false
set_option linter.unusedSimpArgs false

/-! ### The center -/
def cenB (t : List (List Int)) (x : Int) : Bool := (iota t.length).all fun y => decide (mu t x y = mu t y x)
theorem cenB_iff {t : List (List Int)} {x : Int} : cenB t x = true ↔ ∀ y : Nat, y < t.length → mu t x y = mu t y x := by
  simp only [cenB, List.all_eq_true, mem_iota, decide_eq_true_eq]
  constructor
  · intro h y hy; exact h y (by omega)
  · intro h y hy
    obtain ⟨b, rfl⟩ := Int.eq_ofNat_of_zero_le hy.1
    exact h b (by omega)
theorem cenB_false {t : List (List Int)} {x : Int} (h : ¬ ∀ y : Nat, y < t.length → mu t x y = mu t y x) : cenB t x = false := by
  rw [Bool.eq_false_iff, ne_eq, cenB_iff]; exact h
def cenF (t : List (List Int)) : List Int := if VT t = true then (iota t.length).filter (cenB t) else []
theorem cenF_le {t : List (List Int)} : (cenF t).length ≤ t.length := by
  unfold cenF
  split
  · have := List.length_filter_le (cenB t) (iota t.length); simpa using this
  · simp
/-! ### Products -/
/-- Is it a product of two elements? -/
def prB (t : List (List Int)) (z : Int) : Prop := ∃ x y : Nat, x < t.length ∧ y < t.length ∧ mu t x y = z
open Classical in
noncomputable def indF (t : List (List Int)) : List Int := (iota t.length).filter fun z => decide (¬ prB t z)
end Sg
