/- -/
import Derived.Test.YtlneebpmblkllaaTi
import Derived.Test.YtlneebpmblkllaaAl
namespace Sg
open Go Go.RowKit Go.Proofs
set_option linter.unusedVariables false
set_option linter.unusedSimpArgs false
set_option maxRecDepth 100000
set_option maxHeartbeats 4000000
theorem body69 : Body Try.prog 69 := ⟨Try.f69, Try.func69, rfl, by kernel_rfl⟩
theorem J2C {A : List Nat} {w0 : World} {nW : Option Addr} {sI : Nat} {s_ : List Bool} (hA : ∀ b ∈ A, b < w0.heap.size) (iU : ISl (Rp.bool) A w0 nW sI s_) {K : List Bool → Prop} (H : J0M s_ K) :
    CallsV Try.prog 69 #[.slice nW s_.length sI] w0 (fun v w' => ∃ (r0 : List Bool) (Ag : Nat) (tS : Option Addr) (tT : Nat) (x5 : List Value), v = .slice tS Ag tT ∧ Same w0 w' ∧ Owns w0.heap.size w' [.row 4 1 tS Ag tT x5] A ∧ Els (Rp.bool) (bl [.row 4 1 tS Ag tT x5] ++ A) w' x5 r0 ∧ K r0) := by
 refine CallsV.of (l := [.slice nW s_.length sI]) Try.func69 rfl Try.ntmps69 rfl ?_
 have hO := Owns.start hA
 have hB := Fr.refl (bl []) w0
 unfold J0M at H
 refine zq (zr (za rfl (zn (zq (zq ?_)))))
 refine zr (zm rfl ?_)
 replace iU := iU.ch (Ch.start A w0)
 replace H := H nW.isNone (fun h => iU.nilD h)
 by_cases hz2 : nW.isNone = true
 ·replace H := ifp hz2 H
  refine zo (fun w => opB (J1V Try.underlying22 rfl rfl w) (hz2)) (zn (zt rfl rfl (zq (zr (za rfl ?_)))))
  refine zn ?_
  have ne := Stp.nil (e := 4) (r := 1) hO
  replace hO := ne.own
  have hE5 := Els.nil (Rp.bool) (bl (.row 4 1 none 0 0 [] :: []) ++ A) w0
  refine Go1.ret1 Try.func69 rfl ?_
  replace hB := hB.trans ne.fr
  exact ⟨(([] : List Bool)), 0, none, 0, ([]), rfl, hB.same, hO, hE5, H⟩
 ·replace H := ifn hz2 H
  refine zo (fun w => opB (J1V Try.underlying22 rfl rfl w) (Bool.eq_false_iff.2 hz2)) (zn (zf rfl rfl (zk (zq (zr ?_)))))
  have zz := J0n (r := Rp.bool) (n := 0) (parts := []) (vs := []) (xs := ([] : List Bool)) rfl Try.underlying22 ti4 hO (by decide) (by kernel_rfl) (Els.nil _ _ _) rfl
  obtain ⟨w6, p7, Ah, hE9, xF, tH⟩ := zz
  refine zg (tH rfl) ?_
  replace hO := Ah.own
  refine zm rfl ?_
  obtain ⟨h13, H⟩ := H
  replace iU := iU.ch Ah.ch
  have zz := oapp Try.underlying22 ti4 rfl 0 hO rfl hE9 iU rfl h13 (by decide)
  obtain ⟨w14, p15, c16, lH, gN, Gh, x6⟩ := zz
  refine zg (x6 (by exact rfl) (by exact rfl)) ?_
  replace hO := gN.own
  refine za rfl (zn ?_)
  refine Go1.ret1 Try.func69 rfl ?_
  replace hB := (hB.trans Ah.fr).trans gN.fr
  exact ⟨((([] : List Bool)) ++ s_), (0 + s_.length), p15, c16, lH, rfl, hB.same, hO, Gh, H⟩
end Sg
