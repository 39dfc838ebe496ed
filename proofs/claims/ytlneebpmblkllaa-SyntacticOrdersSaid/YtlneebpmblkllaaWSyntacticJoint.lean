/- -/
import Derived.Test.YtlneebpmblkllaaTi
import Derived.Test.YtlneebpmblkllaaAl
namespace Sg
open Go Go.RowKit Go.Proofs
set_option linter.unusedVariables false
set_option linter.unusedSimpArgs false
set_option maxRecDepth 100000
set_option maxHeartbeats 4000000
theorem body69 : Body Try.prog 69 := ⟨Try.f69, Try.func69, rfl, by kernel_rfl⟩
theorem walk_slices_Clone_bool {A : List Nat} {w0 : World} {nM : Option Addr} {sx : Nat} {s_ : List Bool} (hA : ∀ b ∈ A, b < w0.heap.size) (iP : ISl (Rp.bool) A w0 nM sx s_) {K : List Bool → Prop} (H : J0J s_ K) :
    CallsV Try.prog 69 #[.slice nM s_.length sx] w0 (fun v w' => ∃ (r0 : List Bool) (zi : Nat) (qD : Option Addr) (qE : Nat) (xr : List Value), v = .slice qD zi qE ∧ Same w0 w' ∧ Owns w0.heap.size w' [.row 4 1 qD zi qE xr] A ∧ Els (Rp.bool) (bl [.row 4 1 qD zi qE xr] ++ A) w' xr r0 ∧ K r0) := by
 refine CallsV.of (l := [.slice nM s_.length sx]) Try.func69 rfl Try.ntmps69 rfl ?_
 have hO := Owns.start hA
 have hB := Fr.refl (bl []) w0
 unfold J0J at H
 refine zq (zr (za rfl (zn (zq (zq ?_)))))
 refine zr (zm rfl ?_)
 replace iP := iP.ch (Ch.start A w0)
 replace H := H nM.isNone (fun h => iP.nilD h)
 by_cases hz2 : nM.isNone = true
 ·replace H := ifp hz2 H
  refine zo (fun w => opB (op_nilSlice Try.underlying22 rfl rfl w) (hz2)) (zn (zt rfl rfl (zq (zr (za rfl ?_)))))
  refine zn ?_
  have m5 := Stp.nil (e := 4) (r := 1) hO
  replace hO := m5.own
  have hE5 := Els.nil (Rp.bool) (bl (.row 4 1 none 0 0 [] :: []) ++ A) w0
  refine Go1.ret1 Try.func69 rfl ?_
  replace hB := hB.trans m5.fr
  exact ⟨(([] : List Bool)), 0, none, 0, ([]), rfl, hB.same, hO, hE5, H⟩
 ·replace H := ifn hz2 H
  refine zo (fun w => opB (op_nilSlice Try.underlying22 rfl rfl w) (Bool.eq_false_iff.2 hz2)) (zn (zf rfl rfl (zk (zq (zr ?_)))))
  have zz := J0j (r := Rp.bool) (n := 0) (parts := []) (vs := []) (xs := ([] : List Bool)) rfl Try.underlying22 ti4 hO (by decide) (by kernel_rfl) (Els.nil _ _ _) rfl
  obtain ⟨w6, p7, zj, hE9, wX, tw⟩ := zz
  refine zg (tw rfl) ?_
  replace hO := zj.own
  refine zm rfl ?_
  obtain ⟨h13, H⟩ := H
  replace iP := iP.ch zj.ch
  have zz := oapp Try.underlying22 ti4 rfl 0 hO rfl hE9 iP rfl h13 (by decide)
  obtain ⟨w14, p15, c16, lv, gG, Fg, xt⟩ := zz
  refine zg (xt (by exact rfl) (by exact rfl)) ?_
  replace hO := gG.own
  refine za rfl (zn ?_)
  refine Go1.ret1 Try.func69 rfl ?_
  replace hB := (hB.trans zj.fr).trans gG.fr
  exact ⟨((([] : List Bool)) ++ s_), (0 + s_.length), p15, c16, lv, rfl, hB.same, hO, Fg, H⟩
end Sg
