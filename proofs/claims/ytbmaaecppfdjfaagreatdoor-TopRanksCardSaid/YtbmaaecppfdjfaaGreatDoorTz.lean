/- -/
import Derived.Test.YtbmaaecppfdjfaaGreatDoorCB
namespace Sg
open Go Go.RowKit
set_option linter.unusedVariables false
set_option linter.unusedSimpArgs false
section
variable {w : World} {e e' : TypeId} {A : List Nat} {E : List Ent} {n0 : Nat} {α : Type} {r : Rp α} {hf : Fl r} {p : Option Addr} {n c : Nat} {hs : Hd} {xss : List (List α)} {ys : List α} {i : Int}
def Tz (hs : Hd) (xss : List (List α)) : Prop := ∀ k : Nat, k < xss.length → ix xss (k : Int) = [] → (hs k).1 = none
theorem Tz.make : Tz (fun _ => (none, 0)) xss := fun _ _ _ => rfl
theorem Tz.put {h : Option Addr × Nat} (t : Tz hs xss) (h0 : 0 ≤ i) (hy : ys ≠ []) : Tz (hup hs i.toNat h) (st xss i ys) := fun k hk hz => by
 rw [J04] at hk
 by_cases e : (k : Int) = i
 ·subst e
  rw [ix_st _ h0 (by omega) h0, if_pos rfl] at hz
  exact absurd hz hy
 ·have hz' : ix xss (k : Int) = [] := by
   by_cases hi : i < xss.length
   ·rw [ix_st _ h0 hi (by omega), if_neg e] at hz; exact hz
   ·have : st xss i ys = xss := by unfold st; exact List.set_eq_of_length_le (by omega)
    rw [this] at hz; exact hz
  rw [J5F _ _ (by omega)]
  exact t k hk hz'
theorem Tz.st {k : Int} {u : α} (t : Tz hs xss) (h0 : 0 ≤ i) : Tz hs (Sg.st xss i (Sg.st (ix xss i) k u)) := fun j hj hz => by
 rw [J04] at hj
 by_cases e : (j : Int) = i
 ·subst e
  rw [ix_st _ h0 (by omega) h0, if_pos rfl] at hz
  refine t j hj (List.eq_nil_of_length_eq_zero ?_)
  have := congrArg List.length hz
  rwa [J04] at this
 ·refine t j hj ?_
  by_cases hi : i < xss.length
  ·rw [ix_st _ h0 hi (by omega), if_neg e] at hz; exact hz
  ·have : Sg.st xss i (Sg.st (ix xss i) k u) = xss := by unfold Sg.st; exact List.set_eq_of_length_le (by omega)
   rw [this] at hz; exact hz
theorem Tz.nil (j : Nat) (hO : Owns n0 w E A) (hj : E[j]? = some (t2 hf e e' p n c hs xss)) (t : Tz hs xss) (h0 : 0 ≤ i) (h1 : i < (xss.length : Int)) (h : ix xss i = []) : (hs i.toNat).1.isNone = true := by
 obtain ⟨k, rfl⟩ := Int.eq_ofNat_of_zero_le h0
 rw [Int.toNat_natCast, t k (by omega) h]; rfl
theorem Tz.some (j : Nat) (hO : Owns n0 w E A) (hj : E[j]? = some (t2 hf e e' p n c hs xss)) (t : Tz hs xss) (h0 : 0 ≤ i) (h1 : i < (xss.length : Int)) (h : ¬ ix xss i = []) : (hs i.toNat).1.isNone = false := by
 obtain ⟨k, rfl⟩ := Int.eq_ofNat_of_zero_le h0
 obtain ⟨vs, hv, _⟩ := ((t2at j hO hj).inn k (by omega)).ex
 have := Jb9 hv (Nat.pos_of_ne_zero fun e => h (List.length_eq_zero_iff.1 e))
 rw [Int.toNat_natCast]
 cases hh : (hs k).1 with
 | none => rw [hh] at this; cases this
 | some a => rfl
end
end Sg
