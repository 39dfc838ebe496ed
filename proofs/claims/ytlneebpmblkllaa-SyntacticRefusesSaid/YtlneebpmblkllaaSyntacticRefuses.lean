/- -/
import Derived.Test.YtlneebpmblkllaaOvSyntacticRefuses
import Derived.Test.YtlneebpmblkllaaWSyntacticRefuses
import Derived.Test.YtlneebpmblkllaaOpen
import Derived.Test.YtlneebpmblkllaaZq
import Derived.WalkKit
import Derived.ProofKit
import Derived.OpenShut
import Derived.ShutString
import Derived.ChangeOld
import Derived.Below
import Derived.SizedLaws
namespace Go.Proofs.Ytlneebpmblkllaa.syntacticRefuses
open Go.ChangeShapes Go.WideShapes Go.ChangeAt Go.RowKit Sg
open Go.ChangeMaps (open_string shut_string)
set_option linter.unusedVariables false
set_option linter.unusedSimpArgs false
set_option maxHeartbeats 4000000
theorem own : ownKnob Try.prog.godebug = none := by kernel_rfl
theorem laidOut : laidOutB Try.prog = true := by kernel_rfl
set_option maxRecDepth 100000 in
theorem lifted (os : Os) (started : os.Started) (H : Type) (enc : TypeId × Value → H) :
  ReturnsInHanded {} Try.checked os 6 .any (Rows.syntacticRefusesSpec.pre6 enc Try.prog Try.f6 Rows.syntacticRefusesRow.domain false) (Rows.syntacticRefusesSpec.post enc Try.prog Try.f6 false true false false) := by
 refine returnsInHanded_of_change_sized (C := Try.checked) own started (by kernel_rfl) Try.func6
  (ChangeSpec.witness6 (enc := enc) (C := Try.checked) false ⟨#[], #[.agg #[.int .i64 0, .slice none 0 0, .slice none 0 0, .slice none 0 0, .slice none 0 0, .slice none 0 0], .agg #[.int .i64 0, .int .i64 0, .slice none 0 0, .slice none 0 0], .int .i64 0, .int .i64 0], []⟩ 8 (by kernel_rfl) (by kernel_rfl) (by kernel_rfl) (by kernel_rfl)) ?_
 intro W base args ds gs before hval0 hW hcnd hsz0 _
 have hval : ∀ (j : Nat) t v, Try.f6.params[j]? = some t → args[j]? = some v → Value.okWide Try.prog W .any base t v := hval0
 have hW' := hW
 obtain ⟨p, q, hA0, hV, rfl, hfz, hnd⟩ := hW
 have hA : DataW.TrodAll enc Try.prog W 0 (fun _ => true) true Try.f6.params.toList args.toList ds p := hA0
 have hsz : (DataW.weightsEach Try.prog (Try.f6.params.toList ++ Rows.syntacticRefusesSpec.plain.varTypes Try.prog) (ds ++ gs)).all (· ≤ reachBytes) = true := hsz0
 rw [Try.params6] at hA hval hsz
 obtain ⟨v0, vs0, d0, ds0, p0, q0, hargs, rfl, rfl, h0, r0⟩ := trodAll_cons hA
 obtain ⟨v1, vs1, d1, ds1, p1, q1, rfl, rfl, rfl, h1, r1⟩ := trodAll_cons r0
 obtain ⟨v2, vs2, d2, ds2, p2, q2, rfl, rfl, rfl, h2, r2⟩ := trodAll_cons r1
 obtain ⟨v3, vs3, d3, ds3, p3, q3, rfl, rfl, rfl, h3, r3⟩ := trodAll_cons r2
 obtain ⟨rfl, rfl, rfl⟩ := trodAll_nil r3
 obtain rfl : args = #[v0, v1, v2, v3] := by cases args; simp_all
 obtain ⟨rfl, rfl⟩ := trodVars_none hV
 have k0 := h0
 have lt0 : ∀ x ∈ p0, x.block < W.heap.size := by obtain ⟨m, hm⟩ := k0; exact DataW.trod_lt m _ _ _ hm
 obtain ⟨cs0, rfl, hcs0⟩ := Go.WideShapes.okWide_struct Try.underlying33 (hval 0 33 v0 rfl rfl)
 have hsize0 : cs0.size = 6 := hcs0.trans (by kernel_rfl)
 obtain ⟨c0_0, c0_1, c0_2, c0_3, c0_4, c0_5, rfl⟩ : ∃ c0_0 c0_1 c0_2 c0_3 c0_4 c0_5 : Value, cs0 = #[c0_0, c0_1, c0_2, c0_3, c0_4, c0_5] := size6 hsize0
 obtain ⟨fu0, hf0⟩ := h0
 obtain ⟨xs0, n0, _, _, _, hxl0, hfl0⟩ := DataW.trod_struct Try.underlying33 hf0
 have e0_0 := hfl0 0 _ rfl
 obtain ⟨y0_0, hy0_0⟩ : ∃ y, xs0[0]? = some y := ⟨_, List.getElem?_eq_getElem (by rw [hxl0]; decide)⟩
 rw [hy0_0] at e0_0
 replace e0_0 : DataW.trod enc Try.prog W 0 (fun _ => true) true n0 3 [c0_0] = some y0_0 := e0_0
 obtain ⟨d0_0, q0_0, _, wf0_0⟩ := DataW.trod_int Try.underlying3 e0_0
 cases q0_0
 have e0_1 := hfl0 1 _ rfl
 obtain ⟨y0_1, hy0_1⟩ : ∃ y, xs0[1]? = some y := ⟨_, List.getElem?_eq_getElem (by rw [hxl0]; decide)⟩
 rw [hy0_1] at e0_1
 replace e0_1 : DataW.trod enc Try.prog W 0 (fun _ => true) true n0 23 [c0_1] = some y0_1 := e0_1
 obtain ⟨pp0_1, cc0_1, d0_1, q0_1, I0_1⟩ := Opens.sl Try.underlying23 (by kernel_rfl) (Opens.ofSl Try.underlying31 (by kernel_rfl) (Opens.int Try.underlying3)) e0_1
 cases q0_1
 have e0_2 := hfl0 2 _ rfl
 obtain ⟨y0_2, hy0_2⟩ : ∃ y, xs0[2]? = some y := ⟨_, List.getElem?_eq_getElem (by rw [hxl0]; decide)⟩
 rw [hy0_2] at e0_2
 replace e0_2 : DataW.trod enc Try.prog W 0 (fun _ => true) true n0 30 [c0_2] = some y0_2 := e0_2
 obtain ⟨pp0_2, cc0_2, d0_2, q0_2, I0_2⟩ := Opens.sl Try.underlying30 (by kernel_rfl) (Opens.str Try.underlying9) e0_2
 cases q0_2
 have e0_3 := hfl0 3 _ rfl
 obtain ⟨y0_3, hy0_3⟩ : ∃ y, xs0[3]? = some y := ⟨_, List.getElem?_eq_getElem (by rw [hxl0]; decide)⟩
 rw [hy0_3] at e0_3
 replace e0_3 : DataW.trod enc Try.prog W 0 (fun _ => true) true n0 31 [c0_3] = some y0_3 := e0_3
 obtain ⟨pp0_3, cc0_3, d0_3, q0_3, I0_3⟩ := Opens.sl Try.underlying31 (by kernel_rfl) (Opens.int Try.underlying3) e0_3
 cases q0_3
 have e0_4 := hfl0 4 _ rfl
 obtain ⟨y0_4, hy0_4⟩ : ∃ y, xs0[4]? = some y := ⟨_, List.getElem?_eq_getElem (by rw [hxl0]; decide)⟩
 rw [hy0_4] at e0_4
 replace e0_4 : DataW.trod enc Try.prog W 0 (fun _ => true) true n0 22 [c0_4] = some y0_4 := e0_4
 obtain ⟨pp0_4, cc0_4, d0_4, q0_4, I0_4⟩ := Opens.sl Try.underlying22 (by kernel_rfl) (Opens.bool Try.underlying4) e0_4
 cases q0_4
 have e0_5 := hfl0 5 _ rfl
 obtain ⟨y0_5, hy0_5⟩ : ∃ y, xs0[5]? = some y := ⟨_, List.getElem?_eq_getElem (by rw [hxl0]; decide)⟩
 rw [hy0_5] at e0_5
 replace e0_5 : DataW.trod enc Try.prog W 0 (fun _ => true) true n0 22 [c0_5] = some y0_5 := e0_5
 obtain ⟨pp0_5, cc0_5, d0_5, q0_5, I0_5⟩ := Opens.sl Try.underlying22 (by kernel_rfl) (Opens.bool Try.underlying4) e0_5
 cases q0_5
 have k1 := h1
 have lt1 : ∀ x ∈ p1, x.block < W.heap.size := by obtain ⟨m, hm⟩ := k1; exact DataW.trod_lt m _ _ _ hm
 obtain ⟨cs1, rfl, hcs1⟩ := Go.WideShapes.okWide_struct Try.underlying25 (hval 1 25 v1 rfl rfl)
 have hsize1 : cs1.size = 4 := hcs1.trans (by kernel_rfl)
 obtain ⟨c1_0, c1_1, c1_2, c1_3, rfl⟩ : ∃ c1_0 c1_1 c1_2 c1_3 : Value, cs1 = #[c1_0, c1_1, c1_2, c1_3] := size4 hsize1
 obtain ⟨fu1, hf1⟩ := h1
 obtain ⟨xs1, n1, _, _, _, hxl1, hfl1⟩ := DataW.trod_struct Try.underlying25 hf1
 have e1_0 := hfl1 0 _ rfl
 obtain ⟨y1_0, hy1_0⟩ : ∃ y, xs1[0]? = some y := ⟨_, List.getElem?_eq_getElem (by rw [hxl1]; decide)⟩
 rw [hy1_0] at e1_0
 replace e1_0 : DataW.trod enc Try.prog W 0 (fun _ => true) true n1 3 [c1_0] = some y1_0 := e1_0
 obtain ⟨d1_0, q1_0, _, wf1_0⟩ := DataW.trod_int Try.underlying3 e1_0
 cases q1_0
 have e1_1 := hfl1 1 _ rfl
 obtain ⟨y1_1, hy1_1⟩ : ∃ y, xs1[1]? = some y := ⟨_, List.getElem?_eq_getElem (by rw [hxl1]; decide)⟩
 rw [hy1_1] at e1_1
 replace e1_1 : DataW.trod enc Try.prog W 0 (fun _ => true) true n1 3 [c1_1] = some y1_1 := e1_1
 obtain ⟨d1_1, q1_1, _, wf1_1⟩ := DataW.trod_int Try.underlying3 e1_1
 cases q1_1
 have e1_2 := hfl1 2 _ rfl
 obtain ⟨y1_2, hy1_2⟩ : ∃ y, xs1[2]? = some y := ⟨_, List.getElem?_eq_getElem (by rw [hxl1]; decide)⟩
 rw [hy1_2] at e1_2
 replace e1_2 : DataW.trod enc Try.prog W 0 (fun _ => true) true n1 22 [c1_2] = some y1_2 := e1_2
 obtain ⟨pp1_2, cc1_2, d1_2, q1_2, I1_2⟩ := Opens.sl Try.underlying22 (by kernel_rfl) (Opens.bool Try.underlying4) e1_2
 cases q1_2
 have e1_3 := hfl1 3 _ rfl
 obtain ⟨y1_3, hy1_3⟩ : ∃ y, xs1[3]? = some y := ⟨_, List.getElem?_eq_getElem (by rw [hxl1]; decide)⟩
 rw [hy1_3] at e1_3
 replace e1_3 : DataW.trod enc Try.prog W 0 (fun _ => true) true n1 23 [c1_3] = some y1_3 := e1_3
 obtain ⟨pp1_3, cc1_3, d1_3, q1_3, I1_3⟩ := Opens.sl Try.underlying23 (by kernel_rfl) (Opens.ofSl Try.underlying31 (by kernel_rfl) (Opens.int Try.underlying3)) e1_3
 cases q1_3
 have k2 := h2
 have lt2 : ∀ x ∈ p2, x.block < W.heap.size := by obtain ⟨m, hm⟩ := k2; exact DataW.trod_lt m _ _ _ hm
 obtain ⟨x2, rfl, rfl, rfl, wx2⟩ := Go.ChangeShapes.open_int Try.underlying3 (hval 2 3 v2 rfl rfl) h2
 have k3 := h3
 have lt3 : ∀ x ∈ p3, x.block < W.heap.size := by obtain ⟨m, hm⟩ := k3; exact DataW.trod_lt m _ _ _ hm
 obtain ⟨x3, rfl, rfl, rfl, wx3⟩ := Go.ChangeShapes.open_int Try.underlying3 (hval 3 3 v3 rfl rfl) h3
 clear hA0 hval0
 have hz := J2o (A := []) (fun _ h => nomatch h) I0_1 I0_2 I0_3 I0_4 I0_5 I1_2 I1_3 (law21_SyntacticRefuses_ok (⟨d0_0, d0_1, d0_2, d0_3, d0_4, d0_5⟩ : Syntactic) (⟨d1_0, d1_1, d1_2, d1_3⟩ : DFA) x2 x3 (wf_i64 wx2) (wf_i64 wx3))
 refine Calls.mono hz ?_
 rintro e W' ⟨v, he, r, hv, hS, hK⟩
 subst he; subst hv
 cases hK
 have bel : Below W.heap.size W W' := ⟨hS.os, hS.tape, hS.output, hS.size, hS.block⟩
 exact ⟨_, rfl, _, _, _, [], _, [], hW', trodAll_mk1 (shut_bool Try.underlying4 _), (trodAll_cons_mk (Below.trod laidOut (by kernel_rfl) (of_decide_eq_true (by kernel_rfl)) k0 bel lt0) (trodAll_cons_mk (Below.trod laidOut (by kernel_rfl) (of_decide_eq_true (by kernel_rfl)) k1 bel lt1) (trodAll_cons_mk (Below.trod laidOut (by kernel_rfl) (of_decide_eq_true (by kernel_rfl)) k2 bel lt2) (trodAll_cons_mk (Below.trod laidOut (by kernel_rfl) (of_decide_eq_true (by kernel_rfl)) k3 bel lt3) trodAll_mk0)))), rfl, bel.frame _, fun h => by cases h⟩
theorem over : Rows.syntacticRefusesRow.holds Try.pinned (OpenSpec.ofChange Rows.syntacticRefusesSpec) :=
 OpenClaim.holds_of_wide 6 Try.f6 rfl rfl rfl rfl rfl rfl rfl ⟨rfl, rfl, rfl, rfl, rfl⟩ rfl rfl rfl rfl rfl (by kernel_rfl) Try.func6 syntacticRefusesOv.closed syntacticRefusesOv.inst syntacticRefusesOv.wrap
  (fun os started H enc _ => lifted os started H enc)
theorem proved : Rows.SyntacticRefusesSaid := over
end Go.Proofs.Ytlneebpmblkllaa.syntacticRefuses
