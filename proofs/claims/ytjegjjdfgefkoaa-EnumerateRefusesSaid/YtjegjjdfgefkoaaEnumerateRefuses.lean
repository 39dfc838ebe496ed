/- EnumerateRefuses: for every input the call returns true and its arguments read as before. The walk (walk_law12_EnumerateRefuses) and the plain law (law12_EnumerateRefuses_ok) joined to the given row. -/
import Derived.Test.YtjegjjdfgefkoaaWEnumerateRefusesb
import Derived.Test.YtjegjjdfgefkoaaOpen
import Derived.Test.YtjegjjdfgefkoaaEnu
import Derived.WalkKit
import Derived.ProofKit
import Derived.OpenShut
import Derived.ShutString
import Derived.ChangeOld
import Derived.Below
import Derived.SizedLaws
namespace Go.Proofs.Ytjegjjdfgefkoaa.enumerateRefuses
open Go.ChangeShapes Go.WideShapes Go.ChangeAt Go.RowKit Sg
open Go.ChangeMaps (open_string shut_string)
set_option linter.unusedVariables false
set_option linter.unusedSimpArgs false
set_option maxHeartbeats 4000000
theorem own : ownKnob Try.prog.godebug = none := by kernel_rfl
theorem laidOut : laidOutB Try.prog = true := by kernel_rfl
theorem opensRule : Opens Try.prog 39 rpRule := by
  intro H enc w base spare held fuel cs x h
  obtain ⟨xs, n, _, _, hl, hxl, hfl⟩ := DataW.trod_struct Try.underlying39 h
  obtain ⟨c0, c1, rfl⟩ := ocells2 (hl.trans (by kernel_rfl))
  have e0 := hfl 0 _ rfl
  obtain ⟨y0, hy0⟩ : ∃ y, xs[0]? = some y := ⟨_, List.getElem?_eq_getElem (by rw [hxl]; decide)⟩
  rw [hy0] at e0
  replace e0 : DataW.trod enc Try.prog w base spare held n 9 [c0] = some y0 := e0
  obtain ⟨_, d0, r0⟩ := (Opens.str Try.underlying9) e0
  have e1 := hfl 1 _ rfl
  obtain ⟨y1, hy1⟩ : ∃ y, xs[1]? = some y := ⟨_, List.getElem?_eq_getElem (by rw [hxl]; decide)⟩
  rw [hy1] at e1
  replace e1 : DataW.trod enc Try.prog w base spare held n 9 [c1] = some y1 := e1
  obtain ⟨_, d1, r1⟩ := (Opens.str Try.underlying9) e1
  obtain rfl := Option.some.inj r0.1
  obtain rfl := Option.some.inj r1.1
  exact ⟨rfl, ⟨d0, d1⟩, ⟨r0.2, r1.2⟩, fun i _ => rfl⟩
set_option maxRecDepth 100000 in
theorem lifted (os : Os) (started : os.Started) (H : Type) (enc : TypeId × Value → H) :
    ReturnsInHanded {} Try.checked os 4 .any (Rows.enumerateRefusesSpec.pre6 enc Try.prog Try.f4 Rows.enumerateRefusesRow.domain false) (Rows.enumerateRefusesSpec.post enc Try.prog Try.f4 false true false false) := by
  refine returnsInHanded_of_change_sized (C := Try.checked) own started (by kernel_rfl) Try.func4
    (ChangeSpec.witness6 (enc := enc) (C := Try.checked) false ⟨#[], #[.agg #[.int .i64 0, .bool false, .slice none 0 0, .slice none 0 0, .slice none 0 0, .slice none 0 0, .slice none 0 0, .slice none 0 0, .int .i64 0], .slice none 0 0, .bool false, .int .u8 0, .int .i64 0, .int .i64 0, .int .i64 0], []⟩ 8 (by kernel_rfl) (by kernel_rfl) (by kernel_rfl) (by kernel_rfl)) ?_
  intro W base args ds gs before hval0 hW hcnd hsz0 _
  have hval : ∀ (j : Nat) t v, Try.f4.params[j]? = some t → args[j]? = some v → Value.okWide Try.prog W .any base t v := hval0
  have hW' := hW
  obtain ⟨p, q, hA0, hV, rfl, hfz, hnd⟩ := hW
  have hA : DataW.TrodAll enc Try.prog W 0 (fun _ => true) true Try.f4.params.toList args.toList ds p := hA0
  have hsz : (DataW.weightsEach Try.prog (Try.f4.params.toList ++ Rows.enumerateRefusesSpec.plain.varTypes Try.prog) (ds ++ gs)).all (· ≤ reachBytes) = true := hsz0
  rw [Try.params4] at hA hval hsz
  obtain ⟨v0, vs0, d0, ds0, p0, q0, hargs, rfl, rfl, h0, r0⟩ := trodAll_cons hA
  obtain ⟨v1, vs1, d1, ds1, p1, q1, rfl, rfl, rfl, h1, r1⟩ := trodAll_cons r0
  obtain ⟨v2, vs2, d2, ds2, p2, q2, rfl, rfl, rfl, h2, r2⟩ := trodAll_cons r1
  obtain ⟨v3, vs3, d3, ds3, p3, q3, rfl, rfl, rfl, h3, r3⟩ := trodAll_cons r2
  obtain ⟨v4, vs4, d4, ds4, p4, q4, rfl, rfl, rfl, h4, r4⟩ := trodAll_cons r3
  obtain ⟨v5, vs5, d5, ds5, p5, q5, rfl, rfl, rfl, h5, r5⟩ := trodAll_cons r4
  obtain ⟨v6, vs6, d6, ds6, p6, q6, rfl, rfl, rfl, h6, r6⟩ := trodAll_cons r5
  obtain ⟨rfl, rfl, rfl⟩ := trodAll_nil r6
  obtain rfl : args = #[v0, v1, v2, v3, v4, v5, v6] := by cases args; simp_all
  obtain ⟨rfl, rfl⟩ := trodVars_none hV
  have k0 := h0
  have lt0 : ∀ x ∈ p0, x.block < W.heap.size := by obtain ⟨m, hm⟩ := k0; exact DataW.trod_lt m _ _ _ hm
  obtain ⟨cs0, rfl, hcs0⟩ := Go.WideShapes.okWide_struct Try.underlying29 (hval 0 29 v0 rfl rfl)
  have hsize0 : cs0.size = 9 := hcs0.trans (by kernel_rfl)
  obtain ⟨c0_0, c0_1, c0_2, c0_3, c0_4, c0_5, c0_6, c0_7, c0_8, rfl⟩ : ∃ c0_0 c0_1 c0_2 c0_3 c0_4 c0_5 c0_6 c0_7 c0_8 : Value, cs0 = #[c0_0, c0_1, c0_2, c0_3, c0_4, c0_5, c0_6, c0_7, c0_8] := size9 hsize0
  obtain ⟨fu0, hf0⟩ := h0
  obtain ⟨xs0, n0, _, _, _, hxl0, hfl0⟩ := DataW.trod_struct Try.underlying29 hf0
  have e0_0 := hfl0 0 _ rfl
  obtain ⟨y0_0, hy0_0⟩ : ∃ y, xs0[0]? = some y := ⟨_, List.getElem?_eq_getElem (by rw [hxl0]; decide)⟩
  rw [hy0_0] at e0_0
  replace e0_0 : DataW.trod enc Try.prog W 0 (fun _ => true) true n0 3 [c0_0] = some y0_0 := e0_0
  obtain ⟨d0_0, q0_0, _, wf0_0⟩ := DataW.trod_int Try.underlying3 e0_0
  cases q0_0
  have e0_1 := hfl0 1 _ rfl
  obtain ⟨y0_1, hy0_1⟩ : ∃ y, xs0[1]? = some y := ⟨_, List.getElem?_eq_getElem (by rw [hxl0]; decide)⟩
  rw [hy0_1] at e0_1
  replace e0_1 : DataW.trod enc Try.prog W 0 (fun _ => true) true n0 4 [c0_1] = some y0_1 := e0_1
  obtain ⟨d0_1, q0_1, _⟩ := DataW.trod_bool Try.underlying4 e0_1
  cases q0_1
  have e0_2 := hfl0 2 _ rfl
  obtain ⟨y0_2, hy0_2⟩ : ∃ y, xs0[2]? = some y := ⟨_, List.getElem?_eq_getElem (by rw [hxl0]; decide)⟩
  rw [hy0_2] at e0_2
  replace e0_2 : DataW.trod enc Try.prog W 0 (fun _ => true) true n0 22 [c0_2] = some y0_2 := e0_2
  obtain ⟨pp0_2, cc0_2, d0_2, q0_2, I0_2⟩ := Opens.sl Try.underlying22 (by kernel_rfl) (Opens.ofSl Try.underlying26 (by kernel_rfl) (Opens.int Try.underlying3)) e0_2
  cases q0_2
  have e0_3 := hfl0 3 _ rfl
  obtain ⟨y0_3, hy0_3⟩ : ∃ y, xs0[3]? = some y := ⟨_, List.getElem?_eq_getElem (by rw [hxl0]; decide)⟩
  rw [hy0_3] at e0_3
  replace e0_3 : DataW.trod enc Try.prog W 0 (fun _ => true) true n0 22 [c0_3] = some y0_3 := e0_3
  obtain ⟨pp0_3, cc0_3, d0_3, q0_3, I0_3⟩ := Opens.sl Try.underlying22 (by kernel_rfl) (Opens.ofSl Try.underlying26 (by kernel_rfl) (Opens.int Try.underlying3)) e0_3
  cases q0_3
  have e0_4 := hfl0 4 _ rfl
  obtain ⟨y0_4, hy0_4⟩ : ∃ y, xs0[4]? = some y := ⟨_, List.getElem?_eq_getElem (by rw [hxl0]; decide)⟩
  rw [hy0_4] at e0_4
  replace e0_4 : DataW.trod enc Try.prog W 0 (fun _ => true) true n0 26 [c0_4] = some y0_4 := e0_4
  obtain ⟨pp0_4, cc0_4, d0_4, q0_4, I0_4⟩ := Opens.sl Try.underlying26 (by kernel_rfl) (Opens.int Try.underlying3) e0_4
  cases q0_4
  have e0_5 := hfl0 5 _ rfl
  obtain ⟨y0_5, hy0_5⟩ : ∃ y, xs0[5]? = some y := ⟨_, List.getElem?_eq_getElem (by rw [hxl0]; decide)⟩
  rw [hy0_5] at e0_5
  replace e0_5 : DataW.trod enc Try.prog W 0 (fun _ => true) true n0 26 [c0_5] = some y0_5 := e0_5
  obtain ⟨pp0_5, cc0_5, d0_5, q0_5, I0_5⟩ := Opens.sl Try.underlying26 (by kernel_rfl) (Opens.int Try.underlying3) e0_5
  cases q0_5
  have e0_6 := hfl0 6 _ rfl
  obtain ⟨y0_6, hy0_6⟩ : ∃ y, xs0[6]? = some y := ⟨_, List.getElem?_eq_getElem (by rw [hxl0]; decide)⟩
  rw [hy0_6] at e0_6
  replace e0_6 : DataW.trod enc Try.prog W 0 (fun _ => true) true n0 22 [c0_6] = some y0_6 := e0_6
  obtain ⟨pp0_6, cc0_6, d0_6, q0_6, I0_6⟩ := Opens.sl Try.underlying22 (by kernel_rfl) (Opens.ofSl Try.underlying26 (by kernel_rfl) (Opens.int Try.underlying3)) e0_6
  cases q0_6
  have e0_7 := hfl0 7 _ rfl
  obtain ⟨y0_7, hy0_7⟩ : ∃ y, xs0[7]? = some y := ⟨_, List.getElem?_eq_getElem (by rw [hxl0]; decide)⟩
  rw [hy0_7] at e0_7
  replace e0_7 : DataW.trod enc Try.prog W 0 (fun _ => true) true n0 27 [c0_7] = some y0_7 := e0_7
  obtain ⟨pp0_7, cc0_7, d0_7, q0_7, I0_7⟩ := Opens.sl Try.underlying27 (by kernel_rfl) opensRule e0_7
  cases q0_7
  have e0_8 := hfl0 8 _ rfl
  obtain ⟨y0_8, hy0_8⟩ : ∃ y, xs0[8]? = some y := ⟨_, List.getElem?_eq_getElem (by rw [hxl0]; decide)⟩
  rw [hy0_8] at e0_8
  replace e0_8 : DataW.trod enc Try.prog W 0 (fun _ => true) true n0 3 [c0_8] = some y0_8 := e0_8
  obtain ⟨d0_8, q0_8, _, wf0_8⟩ := DataW.trod_int Try.underlying3 e0_8
  cases q0_8
  have k1 := h1
  have lt1 : ∀ x ∈ p1, x.block < W.heap.size := by obtain ⟨m, hm⟩ := k1; exact DataW.trod_lt m _ _ _ hm
  obtain ⟨a1, len1, cap1, rfl⟩ := Go.WideShapes.okWide_slice Try.underlying22 (hval 1 22 v1 rfl rfl)
  obtain ⟨fu1, hf1⟩ := h1
  obtain ⟨pp1, cc1, x1, hcs1, I1⟩ := Opens.sl Try.underlying22 (by kernel_rfl) (Opens.ofSl Try.underlying26 (by kernel_rfl) (Opens.int Try.underlying3)) hf1
  simp only [Value.cells, List.cons.injEq, and_true, Value.slice.injEq] at hcs1
  obtain ⟨rfl, rfl, rfl⟩ := hcs1
  have k2 := h2
  have lt2 : ∀ x ∈ p2, x.block < W.heap.size := by obtain ⟨m, hm⟩ := k2; exact DataW.trod_lt m _ _ _ hm
  obtain ⟨x2, rfl, rfl, rfl⟩ := Go.RowKit.open_bool Try.underlying4 (hval 2 4 v2 rfl rfl) h2
  have k3 := h3
  have lt3 : ∀ x ∈ p3, x.block < W.heap.size := by obtain ⟨m, hm⟩ := k3; exact DataW.trod_lt m _ _ _ hm
  obtain ⟨x3, rfl, rfl, rfl, wx3⟩ := Go.ChangeShapes.open_int Try.underlying5 (hval 3 5 v3 rfl rfl) h3
  have k4 := h4
  have lt4 : ∀ x ∈ p4, x.block < W.heap.size := by obtain ⟨m, hm⟩ := k4; exact DataW.trod_lt m _ _ _ hm
  obtain ⟨x4, rfl, rfl, rfl, wx4⟩ := Go.ChangeShapes.open_int Try.underlying3 (hval 4 3 v4 rfl rfl) h4
  have k5 := h5
  have lt5 : ∀ x ∈ p5, x.block < W.heap.size := by obtain ⟨m, hm⟩ := k5; exact DataW.trod_lt m _ _ _ hm
  obtain ⟨x5, rfl, rfl, rfl, wx5⟩ := Go.ChangeShapes.open_int Try.underlying3 (hval 5 3 v5 rfl rfl) h5
  have k6 := h6
  have lt6 : ∀ x ∈ p6, x.block < W.heap.size := by obtain ⟨m, hm⟩ := k6; exact DataW.trod_lt m _ _ _ hm
  obtain ⟨x6, rfl, rfl, rfl, wx6⟩ := Go.ChangeShapes.open_int Try.underlying3 (hval 6 3 v6 rfl rfl) h6
  clear hA0 hval0
  have hz := walk_law12_EnumerateRefuses (A := []) (fun _ h => nomatch h) I0_2 I0_3 I0_4 I0_5 I0_6 I0_7 I1 (law12_EnumerateRefuses_ok (⟨d0_0, d0_1, d0_2, d0_3, d0_4, d0_5, d0_6, d0_7, d0_8⟩ : Enum) x1 x2 x3 x4 x5 x6 (wf_u8 wx3) (wf_i64 wx4) (wf_i64 wx5) (wf_i64 wx6))
  refine Calls.mono hz ?_
  rintro e W' ⟨v, he, r, hv, hS, hK⟩
  subst he; subst hv
  cases hK
  have bel : Below W.heap.size W W' := ⟨hS.os, hS.tape, hS.output, hS.size, hS.block⟩
  exact ⟨_, rfl, _, _, _, [], _, [], hW', trodAll_mk1 (shut_bool Try.underlying4 _), (trodAll_cons_mk (Below.trod laidOut (by kernel_rfl) (of_decide_eq_true (by kernel_rfl)) k0 bel lt0) (trodAll_cons_mk (Below.trod laidOut (by kernel_rfl) (of_decide_eq_true (by kernel_rfl)) k1 bel lt1) (trodAll_cons_mk (Below.trod laidOut (by kernel_rfl) (of_decide_eq_true (by kernel_rfl)) k2 bel lt2) (trodAll_cons_mk (Below.trod laidOut (by kernel_rfl) (of_decide_eq_true (by kernel_rfl)) k3 bel lt3) (trodAll_cons_mk (Below.trod laidOut (by kernel_rfl) (of_decide_eq_true (by kernel_rfl)) k4 bel lt4) (trodAll_cons_mk (Below.trod laidOut (by kernel_rfl) (of_decide_eq_true (by kernel_rfl)) k5 bel lt5) (trodAll_cons_mk (Below.trod laidOut (by kernel_rfl) (of_decide_eq_true (by kernel_rfl)) k6 bel lt6) trodAll_mk0))))))), rfl, bel.frame _, fun h => by cases h⟩
theorem over : Rows.enumerateRefusesRow.holds Try.pinned (OpenSpec.ofChange Rows.enumerateRefusesSpec) :=
  OpenClaim.holds_of_wide 4 Try.f4 rfl rfl rfl rfl rfl rfl rfl ⟨rfl, rfl, rfl, rfl, rfl⟩ rfl rfl rfl rfl rfl (by kernel_rfl) Try.func4 (by kernel_rfl)
    (of_decide_eq_true (by kernel_rfl)) (by unfold Func.isWrapper; first | (rw [if_pos (by decide +kernel)]; kernel_rfl) | (rw [if_neg (by decide +kernel)]; exact ⟨rfl, rfl⟩))
    (fun os started H enc _ => lifted os started H enc)
theorem proved : Rows.EnumerateRefusesSaid := over
end Go.Proofs.Ytjegjjdfgefkoaa.enumerateRefuses
