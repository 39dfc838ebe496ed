/- Tables: direct products; how many elements they may have. Plain laws. -/
import Derived.Test.YthobeabghciknaaMultE
namespace Sg
open Go
set_option linter.unusedVariables false
set_option linter.unusedSimpArgs false

theorem flatMap_len {α β : Type} {l : List α} {f : α → List β} {m : Nat} (h : ∀ a ∈ l, (f a).length = m) : (l.flatMap f).length = l.length * m := by
  induction l with
  | nil => simp
  | cons a l ih =>
    rw [List.flatMap_cons, List.length_append, ih fun b hb => h b (by simp [hb]), h a (by simp), List.length_cons, Nat.succ_mul, Nat.add_comm]
/-- One row of the product. -/
def dRow (m : Nat) (a b : List Int) : List Int := a.flatMap fun x => b.map fun y => x * m + y
def dTab (t u : List (List Int)) : List (List Int) := t.flatMap fun a => u.map fun b => dRow u.length a b
theorem dRow_len {m : Nat} {a b : List Int} : (dRow m a b).length = a.length * b.length := flatMap_len fun x _ => by simp
theorem dTab_len {t u : List (List Int)} : (dTab t u).length = t.length * u.length := flatMap_len fun x _ => by simp
theorem i64_mul {a b : Int} (ha : 0 ≤ a ∧ a ≤ 400) (hb : 0 ≤ b ∧ b ≤ 400) : 0 ≤ a * b ∧ a * b ≤ 160000 := by
  refine ⟨Int.mul_nonneg ha.1 hb.1, ?_⟩
  have := Int.mul_le_mul ha.2 hb.2 hb.1 (by decide : (0 : Int) ≤ 400)
  omega
section
variable {t u : List (List Int)} (T : Tb t t.length) (U : Tb u u.length)
include T U
end
/-- The table in which every product is element 0. -/
def zer (n : Nat) : List (List Int) := List.replicate n (List.replicate n (0 : Int))
theorem zer_VT {n : Nat} (h1 : 1 ≤ n) (h2 : n ≤ 30) : VT (zer n) = true := by
  have hix : ∀ x y : Nat, x < n → y < n → mu (zer n) x y = 0 := fun x y hx hy => by
    unfold mu zer; rw [ix_replicate _ _ hx, ix_replicate _ _ hy]
  have hs : SH (zer n) = true := SH_iff.2 ⟨by simp [zer]; omega, by simp [zer]; omega, fun j hj => by
    have hj' : j < n := by simpa [zer] using hj
    unfold zer
    rw [ix_replicate _ _ hj']
    refine rowB_iff.2 ⟨by simp, fun i hi => ?_⟩
    rw [ix_replicate _ _ (by simpa using hi)]; simp; omega⟩
  simp only [VT, hs, Bool.true_and, decide_eq_true_eq]
  intro x y z hx hy hz
  have hl : (zer n).length = n := by simp [zer]
  rw [hix x y (by omega) (by omega), hix y z (by omega) (by omega)]
  have := hix 0 z (by omega) (by omega)
  have := hix x 0 (by omega) (by omega)
  simp_all
end Sg
