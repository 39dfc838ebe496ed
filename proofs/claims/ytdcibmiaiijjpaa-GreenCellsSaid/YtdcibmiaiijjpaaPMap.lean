/- -/
import Derived.Test.YtdcibmiaiijjpaaPure
namespace Sg
set_option linter.unusedVariables false
set_option linter.unusedSimpArgs false
section data
variable {κ ν : Type} [DecidableEq κ]
def mhas : List (κ × ν) → κ → Bool
 | [], _ => false
 | p :: D, a => decide (a = p.1) || mhas D a
def mgt [Inhabited ν] : List (κ × ν) → κ → ν
 | [], _ => default
 | p :: D, a => if a = p.1 then p.2 else mgt D a
def mput : List (κ × ν) → κ → ν → List (κ × ν)
 | [], a, v => [(a, v)]
 | p :: D, a, v => if a = p.1 then (a, v) :: D else p :: mput D a v
theorem J6x {D : List (κ × ν)} {a b : κ} {v : ν} : mhas (mput D a v) b = (decide (b = a) || mhas D b) := by
  induction D with
  | nil => simp [mput, mhas]
  | cons p D ih =>
    unfold mput
    by_cases h : a = p.1
    · rw [if_pos h]; subst h; simp [mhas]
    · rw [if_neg h]
      simp only [mhas, ih]
      cases decide (b = p.1) <;> cases decide (b = a) <;> rfl
theorem J77 [Inhabited ν] {D : List (κ × ν)} {a b : κ} {v : ν} : mgt (mput D a v) b = if b = a then v else mgt D b := by
  induction D with
  | nil => simp [mput, mgt]
  | cons p D ih =>
    unfold mput
    by_cases h : a = p.1
    · rw [if_pos h]; subst h; by_cases hb : b = p.1 <;> simp [mgt, hb]
    · rw [if_neg h]
      simp only [mgt, ih]
      by_cases hb : b = p.1
      · have : ¬ b = a := fun hh => h (hh ▸ hb)
        simp [hb, Ne.symm h]
      · simp [hb]
theorem J6C {D : List (κ × ν)} {a : κ} {v : ν} : (mput D a v).length = if mhas D a = true then D.length else D.length + 1 := by
  induction D with
  | nil => simp [mput, mhas]
  | cons p D ih =>
    unfold mput
    by_cases h : a = p.1
    · rw [if_pos h]; simp [mhas, h]
    · rw [if_neg h]
      simp only [mhas, h, decide_false, Bool.false_or, List.length_cons, ih]
      split <;> rfl
end data
end Sg
