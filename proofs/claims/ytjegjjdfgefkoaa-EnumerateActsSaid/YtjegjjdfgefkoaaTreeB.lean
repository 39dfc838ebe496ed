/- Rows of rows: a row is taken out, put back; rows are appended. -/
import Derived.Test.YtjegjjdfgefkoaaTail
namespace Sg
open Go Go.RowKit
set_option linter.unusedVariables false
set_option linter.unusedSimpArgs false
section
variable {P : Program} {σ : Nat → Value} {w : World} {t t' ty e e' : TypeId} {x y z : Operand} {A : List Nat} {E : List Ent} {n0 : Nat}
variable {α : Type} {r : Rp α} {hf : Fl r} {p : Option Addr} {n c : Nat} {hs : Hd} {xss : List (List α)}
theorem Stp.trans {w1 w2 : World} {E1 E2 : List Ent} (h : Stp n0 A w E w1 E1) (k : Stp n0 A w1 E1 w2 E2) : Stp n0 A w E w2 E2 := ⟨k.own, h.fr.trans k.fr⟩
/-- Rows of rows of which the one at i is taken out. -/
structure T2H {α : Type} (r : Rp α) (e e' : TypeId) (p : Option Addr) (n c : Nat) (hs : Hd) (xss : List (List α)) (i : Nat) (n0 : Nat) (w : World) : Prop where
  out : ∃ vs, w.ownsRow n0 e 1 (.slice p n c) n vs ∧ vs.length = xss.length ∧ ∀ k, k < xss.length → k ≠ i → vs[k]? = some (hcell hs xss k)
  len : n = xss.length
  bd : xss.length ≤ mx
  inn : ∀ k : Nat, k < xss.length → k ≠ i → Inn r e' n0 w (hs k) (ix xss (k : Int))
/-! ### Appending rows -/
/-- A cell as it is. -/
def Rp.val : Rp Value where
  sz := 1
  pos := by decide
  R _ _ cs x := cs 0 = some x ∧ x.oneCell' = true
  ch _ h := h
  ext e h := by rw [e 0 (by decide)]; exact h
  one h i hi := ⟨_, (by obtain rfl : i = 0 := by omega
                        exact h.1), h.2⟩
end
end Sg
