/- -/
import Derived.Test.YtlneebpmblkllaaOvSyntacticAutomata
import Derived.Test.YtlneebpmblkllaaWSyntacticAutomata
import Derived.Test.YtlneebpmblkllaaOpen
import Derived.Test.YtlneebpmblkllaaZq
import Derived.WalkKit
import Derived.ProofKit
import Derived.OpenShut
import Derived.ShutString
import Derived.ChangeOld
import Derived.Below
import Derived.SizedLaws
namespace Go.Proofs.Ytlneebpmblkllaa.syntacticAutomata
open Go.ChangeShapes Go.WideShapes Go.ChangeAt Go.RowKit Sg
open Go.ChangeMaps (open_string shut_string)
set_option linter.unusedVariables false
set_option linter.unusedSimpArgs false
set_option maxHeartbeats 4000000
theorem own : ownKnob Try.prog.godebug = none := by kernel_rfl
theorem laidOut : laidOutB Try.prog = true := by kernel_rfl
set_option maxRecDepth 100000 in
theorem lifted (os : Os) (started : os.Started) (H : Type) (enc : TypeId × Value → H) :
  ReturnsInHanded {} Try.checked os 12 .any (Rows.syntacticAutomataSpec.pre6 enc Try.prog Try.f12 Rows.syntacticAutomataRow.domain false) (Rows.syntacticAutomataSpec.post enc Try.prog Try.f12 false true false false) := by
 refine returnsInHanded_of_change_sized (C := Try.checked) own started (by kernel_rfl) Try.func12
  (ChangeSpec.witness6 (enc := enc) (C := Try.checked) false ⟨#[], #[.agg #[.int .i64 0, .int .i64 0, .slice none 0 0, .slice none 0 0], .agg #[.int .i64 0, .slice none 0 0, .slice none 0 0, .slice none 0 0, .slice none 0 0, .slice none 0 0]], []⟩ 8 (by kernel_rfl) (by kernel_rfl) (by kernel_rfl) (by kernel_rfl)) ?_
 intro W base args ds gs before hval0 hW hcnd hsz0 _
 have hval : ∀ (j : Nat) t v, Try.f12.params[j]? = some t → args[j]? = some v → Value.okWide Try.prog W .any base t v := hval0
 have hW' := hW
 obtain ⟨p, q, hA0, hV, rfl, hfz, hnd⟩ := hW
 have hA : DataW.TrodAll enc Try.prog W 0 (fun _ => true) true Try.f12.params.toList args.toList ds p := hA0
 have hsz : (DataW.weightsEach Try.prog (Try.f12.params.toList ++ Rows.syntacticAutomataSpec.plain.varTypes Try.prog) (ds ++ gs)).all (· ≤ reachBytes) = true := hsz0
 rw [Try.params12] at hA hval hsz
 obtain ⟨v0, vs0, d0, ds0, p0, q0, hargs, rfl, rfl, h0, r0⟩ := trodAll_cons hA
 obtain ⟨v1, vs1, d1, ds1, p1, q1, rfl, rfl, rfl, h1, r1⟩ := trodAll_cons r0
 obtain ⟨rfl, rfl, rfl⟩ := trodAll_nil r1
 obtain rfl : args = #[v0, v1] := by cases args; simp_all
 obtain ⟨rfl, rfl⟩ := trodVars_none hV
 have k0 := h0
 have lt0 : ∀ x ∈ p0, x.block < W.heap.size := by obtain ⟨m, hm⟩ := k0; exact DataW.trod_lt m _ _ _ hm
 obtain ⟨cs0, rfl, hcs0⟩ := Go.WideShapes.okWide_struct Try.underlying25 (hval 0 25 v0 rfl rfl)
 have hsize0 : cs0.size = 4 := hcs0.trans (by kernel_rfl)
 obtain ⟨c0_0, c0_1, c0_2, c0_3, rfl⟩ : ∃ c0_0 c0_1 c0_2 c0_3 : Value, cs0 = #[c0_0, c0_1, c0_2, c0_3] := size4 hsize0
 obtain ⟨fu0, hf0⟩ := h0
 obtain ⟨xs0, n0, _, _, _, hxl0, hfl0⟩ := DataW.trod_struct Try.underlying25 hf0
 have e0_0 := hfl0 0 _ rfl
 obtain ⟨y0_0, hy0_0⟩ : ∃ y, xs0[0]? = some y := ⟨_, List.getElem?_eq_getElem (by rw [hxl0]; decide)⟩
 rw [hy0_0] at e0_0
 replace e0_0 : DataW.trod enc Try.prog W 0 (fun _ => true) true n0 3 [c0_0] = some y0_0 := e0_0
 obtain ⟨d0_0, q0_0, _, wf0_0⟩ := DataW.trod_int Try.underlying3 e0_0
 cases q0_0
 have e0_1 := hfl0 1 _ rfl
 obtain ⟨y0_1, hy0_1⟩ : ∃ y, xs0[1]? = some y := ⟨_, List.getElem?_eq_getElem (by rw [hxl0]; decide)⟩
 rw [hy0_1] at e0_1
 replace e0_1 : DataW.trod enc Try.prog W 0 (fun _ => true) true n0 3 [c0_1] = some y0_1 := e0_1
 obtain ⟨d0_1, q0_1, _, wf0_1⟩ := DataW.trod_int Try.underlying3 e0_1
 cases q0_1
 have e0_2 := hfl0 2 _ rfl
 obtain ⟨y0_2, hy0_2⟩ : ∃ y, xs0[2]? = some y := ⟨_, List.getElem?_eq_getElem (by rw [hxl0]; decide)⟩
 rw [hy0_2] at e0_2
 replace e0_2 : DataW.trod enc Try.prog W 0 (fun _ => true) true n0 22 [c0_2] = some y0_2 := e0_2
 obtain ⟨pp0_2, cc0_2, d0_2, q0_2, I0_2⟩ := Opens.sl Try.underlying22 (by kernel_rfl) (Opens.bool Try.underlying4) e0_2
 cases q0_2
 have e0_3 := hfl0 3 _ rfl
 obtain ⟨y0_3, hy0_3⟩ : ∃ y, xs0[3]? = some y := ⟨_, List.getElem?_eq_getElem (by rw [hxl0]; decide)⟩
 rw [hy0_3] at e0_3
 replace e0_3 : DataW.trod enc Try.prog W 0 (fun _ => true) true n0 23 [c0_3] = some y0_3 := e0_3
 obtain ⟨pp0_3, cc0_3, d0_3, q0_3, I0_3⟩ := Opens.sl Try.underlying23 (by kernel_rfl) (Opens.ofSl Try.underlying31 (by kernel_rfl) (Opens.int Try.underlying3)) e0_3
 cases q0_3
 have k1 := h1
 have lt1 : ∀ x ∈ p1, x.block < W.heap.size := by obtain ⟨m, hm⟩ := k1; exact DataW.trod_lt m _ _ _ hm
 obtain ⟨cs1, rfl, hcs1⟩ := Go.WideShapes.okWide_struct Try.underlying33 (hval 1 33 v1 rfl rfl)
 have hsize1 : cs1.size = 6 := hcs1.trans (by kernel_rfl)
 obtain ⟨c1_0, c1_1, c1_2, c1_3, c1_4, c1_5, rfl⟩ : ∃ c1_0 c1_1 c1_2 c1_3 c1_4 c1_5 : Value, cs1 = #[c1_0, c1_1, c1_2, c1_3, c1_4, c1_5] := size6 hsize1
 obtain ⟨fu1, hf1⟩ := h1
 obtain ⟨xs1, n1, _, _, _, hxl1, hfl1⟩ := DataW.trod_struct Try.underlying33 hf1
 have e1_0 := hfl1 0 _ rfl
 obtain ⟨y1_0, hy1_0⟩ : ∃ y, xs1[0]? = some y := ⟨_, List.getElem?_eq_getElem (by rw [hxl1]; decide)⟩
 rw [hy1_0] at e1_0
 replace e1_0 : DataW.trod enc Try.prog W 0 (fun _ => true) true n1 3 [c1_0] = some y1_0 := e1_0
 obtain ⟨d1_0, q1_0, _, wf1_0⟩ := DataW.trod_int Try.underlying3 e1_0
 cases q1_0
 have e1_1 := hfl1 1 _ rfl
 obtain ⟨y1_1, hy1_1⟩ : ∃ y, xs1[1]? = some y := ⟨_, List.getElem?_eq_getElem (by rw [hxl1]; decide)⟩
 rw [hy1_1] at e1_1
 replace e1_1 : DataW.trod enc Try.prog W 0 (fun _ => true) true n1 23 [c1_1] = some y1_1 := e1_1
 obtain ⟨pp1_1, cc1_1, d1_1, q1_1, I1_1⟩ := Opens.sl Try.underlying23 (by kernel_rfl) (Opens.ofSl Try.underlying31 (by kernel_rfl) (Opens.int Try.underlying3)) e1_1
 cases q1_1
 have e1_2 := hfl1 2 _ rfl
 obtain ⟨y1_2, hy1_2⟩ : ∃ y, xs1[2]? = some y := ⟨_, List.getElem?_eq_getElem (by rw [hxl1]; decide)⟩
 rw [hy1_2] at e1_2
 replace e1_2 : DataW.trod enc Try.prog W 0 (fun _ => true) true n1 30 [c1_2] = some y1_2 := e1_2
 obtain ⟨pp1_2, cc1_2, d1_2, q1_2, I1_2⟩ := Opens.sl Try.underlying30 (by kernel_rfl) (Opens.str Try.underlying9) e1_2
 cases q1_2
 have e1_3 := hfl1 3 _ rfl
 obtain ⟨y1_3, hy1_3⟩ : ∃ y, xs1[3]? = some y := ⟨_, List.getElem?_eq_getElem (by rw [hxl1]; decide)⟩
 rw [hy1_3] at e1_3
 replace e1_3 : DataW.trod enc Try.prog W 0 (fun _ => true) true n1 31 [c1_3] = some y1_3 := e1_3
 obtain ⟨pp1_3, cc1_3, d1_3, q1_3, I1_3⟩ := Opens.sl Try.underlying31 (by kernel_rfl) (Opens.int Try.underlying3) e1_3
 cases q1_3
 have e1_4 := hfl1 4 _ rfl
 obtain ⟨y1_4, hy1_4⟩ : ∃ y, xs1[4]? = some y := ⟨_, List.getElem?_eq_getElem (by rw [hxl1]; decide)⟩
 rw [hy1_4] at e1_4
 replace e1_4 : DataW.trod enc Try.prog W 0 (fun _ => true) true n1 22 [c1_4] = some y1_4 := e1_4
 obtain ⟨pp1_4, cc1_4, d1_4, q1_4, I1_4⟩ := Opens.sl Try.underlying22 (by kernel_rfl) (Opens.bool Try.underlying4) e1_4
 cases q1_4
 have e1_5 := hfl1 5 _ rfl
 obtain ⟨y1_5, hy1_5⟩ : ∃ y, xs1[5]? = some y := ⟨_, List.getElem?_eq_getElem (by rw [hxl1]; decide)⟩
 rw [hy1_5] at e1_5
 replace e1_5 : DataW.trod enc Try.prog W 0 (fun _ => true) true n1 22 [c1_5] = some y1_5 := e1_5
 obtain ⟨pp1_5, cc1_5, d1_5, q1_5, I1_5⟩ := Opens.sl Try.underlying22 (by kernel_rfl) (Opens.bool Try.underlying4) e1_5
 cases q1_5
 clear hA0 hval0
 have hz := J2v (A := []) (fun _ h => nomatch h) I0_2 I0_3 I1_1 I1_2 I1_3 I1_4 I1_5 (law21_SyntacticAutomata_ok (⟨d0_0, d0_1, d0_2, d0_3⟩ : DFA) (⟨d1_0, d1_1, d1_2, d1_3, d1_4, d1_5⟩ : Syntactic))
 refine Calls.mono hz ?_
 rintro e W' ⟨v, he, r, hv, hS, hK⟩
 subst he; subst hv
 cases hK
 have bel : Below W.heap.size W W' := ⟨hS.os, hS.tape, hS.output, hS.size, hS.block⟩
 exact ⟨_, rfl, _, _, _, [], _, [], hW', trodAll_mk1 (shut_bool Try.underlying4 _), (trodAll_cons_mk (Below.trod laidOut (by kernel_rfl) (of_decide_eq_true (by kernel_rfl)) k0 bel lt0) (trodAll_cons_mk (Below.trod laidOut (by kernel_rfl) (of_decide_eq_true (by kernel_rfl)) k1 bel lt1) trodAll_mk0)), rfl, bel.frame _, fun h => by cases h⟩
theorem over : Rows.syntacticAutomataRow.holds Try.pinned (OpenSpec.ofChange Rows.syntacticAutomataSpec) :=
 OpenClaim.holds_of_wide 12 Try.f12 rfl rfl rfl rfl rfl rfl rfl ⟨rfl, rfl, rfl, rfl, rfl⟩ rfl rfl rfl rfl rfl (by kernel_rfl) Try.func12 syntacticAutomataOv.closed syntacticAutomataOv.inst syntacticAutomataOv.wrap
  (fun os started H enc _ => lifted os started H enc)
theorem proved : Rows.SyntacticAutomataSaid := over
end Go.Proofs.Ytlneebpmblkllaa.syntacticAutomata
