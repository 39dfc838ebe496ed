/- -/
import Derived.Test.YtdcibmiaiijjpaaOvGreenCells
import Derived.Test.YtdcibmiaiijjpaaWGreenCells
import Derived.Test.YtdcibmiaiijjpaaOpen
import Derived.Test.YtdcibmiaiijjpaaZq
import Derived.WalkKit
import Derived.ProofKit
import Derived.OpenShut
import Derived.ShutString
import Derived.ChangeOld
import Derived.Below
import Derived.SizedLaws
namespace Go.Proofs.Ytdcibmiaiijjpaa.greenCells
open Go.ChangeShapes Go.WideShapes Go.ChangeAt Go.RowKit Sg
open Go.ChangeMaps (open_string shut_string)
set_option linter.unusedVariables false
set_option linter.unusedSimpArgs false
set_option maxHeartbeats 4000000
theorem own : ownKnob Try.prog.godebug = none := by kernel_rfl
theorem laidOut : laidOutB Try.prog = true := by kernel_rfl
set_option maxRecDepth 100000 in
theorem lifted (os : Os) (started : os.Started) (H : Type) (enc : TypeId × Value → H) :
  ReturnsInHanded {} Try.checked os 5 .any (Rows.greenCellsSpec.pre6 enc Try.prog Try.f5 Rows.greenCellsRow.domain false) (Rows.greenCellsSpec.post enc Try.prog Try.f5 false true false false) := by
 refine returnsInHanded_of_change_sized (C := Try.checked) own started (by kernel_rfl) Try.func5
  (ChangeSpec.witness6 (enc := enc) (C := Try.checked) false ⟨#[], #[.slice none 0 0], []⟩ 8 (by kernel_rfl) (by kernel_rfl) (by kernel_rfl) (by kernel_rfl)) ?_
 intro W base args ds gs before hval0 hW hcnd hsz0 _
 have hval : ∀ (j : Nat) t v, Try.f5.params[j]? = some t → args[j]? = some v → Value.okWide Try.prog W .any base t v := hval0
 have hW' := hW
 obtain ⟨p, q, hA0, hV, rfl, hfz, hnd⟩ := hW
 have hA : DataW.TrodAll enc Try.prog W 0 (fun _ => true) true Try.f5.params.toList args.toList ds p := hA0
 have hsz : (DataW.weightsEach Try.prog (Try.f5.params.toList ++ Rows.greenCellsSpec.plain.varTypes Try.prog) (ds ++ gs)).all (· ≤ reachBytes) = true := hsz0
 rw [Try.params5] at hA hval hsz
 obtain ⟨v0, vs0, d0, ds0, p0, q0, hargs, rfl, rfl, h0, r0⟩ := trodAll_cons hA
 obtain ⟨rfl, rfl, rfl⟩ := trodAll_nil r0
 obtain rfl : args = #[v0] := by cases args; simp_all
 obtain ⟨rfl, rfl⟩ := trodVars_none hV
 have k0 := h0
 have lt0 : ∀ x ∈ p0, x.block < W.heap.size := by obtain ⟨m, hm⟩ := k0; exact DataW.trod_lt m _ _ _ hm
 obtain ⟨a0, len0, cap0, rfl⟩ := Go.WideShapes.okWide_slice Try.underlying22 (hval 0 22 v0 rfl rfl)
 obtain ⟨fu0, hf0⟩ := h0
 obtain ⟨pp0, cc0, x0, hcs0, I0⟩ := Opens.sl Try.underlying22 (by kernel_rfl) (Opens.ofSl Try.underlying26 (by kernel_rfl) (Opens.int Try.underlying3)) hf0
 simp only [Value.cells, List.cons.injEq, and_true, Value.slice.injEq] at hcs0
 obtain ⟨rfl, rfl, rfl⟩ := hcs0
 clear hA0 hval0
 have hz := J2r (A := []) (fun _ h => nomatch h) I0 (law15_GreenCells_ok x0)
 refine Calls.mono hz ?_
 rintro e W' ⟨v, he, r, hv, hS, hK⟩
 subst he; subst hv
 cases hK
 have bel : Below W.heap.size W W' := ⟨hS.os, hS.tape, hS.output, hS.size, hS.block⟩
 exact ⟨_, rfl, _, _, _, [], _, [], hW', trodAll_mk1 (shut_bool Try.underlying4 _), (trodAll_cons_mk (Below.trod laidOut (by kernel_rfl) (of_decide_eq_true (by kernel_rfl)) k0 bel lt0) trodAll_mk0), rfl, bel.frame _, fun h => by cases h⟩
theorem over : Rows.greenCellsRow.holds Try.pinned (OpenSpec.ofChange Rows.greenCellsSpec) :=
 OpenClaim.holds_of_wide 5 Try.f5 rfl rfl rfl rfl rfl rfl rfl ⟨rfl, rfl, rfl, rfl, rfl⟩ rfl rfl rfl rfl rfl (by kernel_rfl) Try.func5 greenCellsOv.closed greenCellsOv.inst greenCellsOv.wrap
  (fun os started H enc _ => lifted os started H enc)
theorem proved : Rows.GreenCellsSaid := over
end Go.Proofs.Ytdcibmiaiijjpaa.greenCells
