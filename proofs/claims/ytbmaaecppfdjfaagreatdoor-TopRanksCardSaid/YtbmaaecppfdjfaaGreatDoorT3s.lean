/- -/
import Derived.Test.YtbmaaecppfdjfaaGreatDoorCB
namespace Sg
open Go Go.RowKit
set_option linter.unusedVariables false
set_option linter.unusedSimpArgs false
section
variable {P : Program} {σ : Nat → Value} {x y z : Operand} {t e ty : TypeId} {w : World} {A : List Nat} {E : List Ent} {n0 : Nat}
theorem JeA {p : Option Addr} {m c : Nat} {h : Int} {kk kl : IntKind} {zz : Option Value} {sz bb : Nat} (ht : P.underlying t = some (.slice e)) (he : ti P e = some (zz, sz, bb)) (hx : ev σ x = .slice p m c) (hy : ev σ y = .int kk h) (hz : ev σ z = .int kl h) (h0 : 0 ≤ h) (h1 : h ≤ c) (w : World) :
  OpV P (.slice t x none (some y) (some z)) ty σ w (.slice p h.toNat h.toNat) w := .inl (by
 have hs := fun w => run_sizeOf he w
 have h2 : h ≤ (c : Int) := h1
 have h3 : h ≤ (h.toNat : Int) := by omega
 have hp : Option.map (fun a : Addr => a.add 0) p = p := by cases p <;> simp [Addr.add_zero']
 have hm : max h 0 = h := by omega
 by_cases hc : h.toNat = 0
 ·obtain rfl : h = 0 := by omega
  simp [execOp, opr, hx, hy, hz, Instr.sliceAt, Instr.slice, Instr.sliceBounds, Instr.sliceBound, run_underlying ht, asIntOf, hs]
 ·simp [execOp, opr, hx, hy, hz, Instr.sliceAt, Instr.slice, Instr.sliceBounds, Instr.sliceBound, run_underlying ht, asIntOf, h0, h2, h3, hs, hc, hp, hm])
theorem AL.start3 {α : Type} {r : Rp α} {p : Option Addr} {m c : Nat} {vs : List Value} {xs : List α} (j : Nat) (hO : Owns n0 w E A) (hj : E[j]? = some (.row e r.sz p m c vs)) (hE : Els r (bl E ++ A) w vs xs) (k : Nat) (hk : k ≤ xs.length) : AL r (bl E ++ A) w p xs p k (xs.take k) := by
 have hh := hO.at_ _ (List.mem_of_getElem? hj)
 have hn := hE.n_eq hh
 have hle := (J7r hh).1
 refine .inr ⟨rfl, ⟨xs.drop k, (List.take_append_drop k xs).symm⟩, by simp; omega, fun hp => ?_⟩
 subst hp
 rcases hh.2 with ⟨hv, _⟩ | ⟨g, cap, cur, hv, _⟩
 ·cases hv; omega
 ·cases hv
end
end Sg
