/- -/
import Derived.Test.YtlneebpmblkllaaOvSyntacticMultiplies
import Derived.Test.YtlneebpmblkllaaWSyntacticMultiplies
import Derived.Test.YtlneebpmblkllaaOpen
import Derived.Test.YtlneebpmblkllaaZq
import Derived.WalkKit
import Derived.ProofKit
import Derived.OpenShut
import Derived.ShutString
import Derived.ChangeOld
import Derived.Below
import Derived.SizedLaws
namespace Go.Proofs.Ytlneebpmblkllaa.syntacticMultiplies
open Go.ChangeShapes Go.WideShapes Go.ChangeAt Go.RowKit Sg
open Go.ChangeMaps (open_string shut_string)
set_option linter.unusedVariables false
set_option linter.unusedSimpArgs false
set_option maxHeartbeats 4000000
theorem own : ownKnob Try.prog.godebug = none := by kernel_rfl
theorem laidOut : laidOutB Try.prog = true := by kernel_rfl
set_option maxRecDepth 100000 in
theorem lifted (os : Os) (started : os.Started) (H : Type) (enc : TypeId × Value → H) :
  ReturnsInHanded {} Try.checked os 15 .any (Rows.syntacticMultipliesSpec.pre6 enc Try.prog Try.f15 Rows.syntacticMultipliesRow.domain false) (Rows.syntacticMultipliesSpec.post enc Try.prog Try.f15 false true false false) := by
 refine returnsInHanded_of_change_sized (C := Try.checked) own started (by kernel_rfl) Try.func15
  (ChangeSpec.witness6 (enc := enc) (C := Try.checked) false ⟨#[], #[.agg #[.int .i64 0, .int .i64 0, .slice none 0 0, .slice none 0 0], .string ByteArray.empty, .string ByteArray.empty], []⟩ 8 (by kernel_rfl) (by kernel_rfl) (by kernel_rfl) (by kernel_rfl)) ?_
 intro W base args ds gs before hval0 hW hcnd hsz0 _
 have hval : ∀ (j : Nat) t v, Try.f15.params[j]? = some t → args[j]? = some v → Value.okWide Try.prog W .any base t v := hval0
 have hW' := hW
 obtain ⟨p, q, hA0, hV, rfl, hfz, hnd⟩ := hW
 have hA : DataW.TrodAll enc Try.prog W 0 (fun _ => true) true Try.f15.params.toList args.toList ds p := hA0
 have hsz : (DataW.weightsEach Try.prog (Try.f15.params.toList ++ Rows.syntacticMultipliesSpec.plain.varTypes Try.prog) (ds ++ gs)).all (· ≤ reachBytes) = true := hsz0
 rw [Try.params15] at hA hval hsz
 obtain ⟨v0, vs0, d0, ds0, p0, q0, hargs, rfl, rfl, h0, r0⟩ := trodAll_cons hA
 obtain ⟨v1, vs1, d1, ds1, p1, q1, rfl, rfl, rfl, h1, r1⟩ := trodAll_cons r0
 obtain ⟨v2, vs2, d2, ds2, p2, q2, rfl, rfl, rfl, h2, r2⟩ := trodAll_cons r1
 obtain ⟨rfl, rfl, rfl⟩ := trodAll_nil r2
 obtain rfl : args = #[v0, v1, v2] := by cases args; simp_all
 obtain ⟨rfl, rfl⟩ := trodVars_none hV
 have k0 := h0
 have lt0 : ∀ x ∈ p0, x.block < W.heap.size := by obtain ⟨m, hm⟩ := k0; exact DataW.trod_lt m _ _ _ hm
 obtain ⟨cs0, rfl, hcs0⟩ := Go.WideShapes.okWide_struct Try.underlying25 (hval 0 25 v0 rfl rfl)
 have hsize0 : cs0.size = 4 := hcs0.trans (by kernel_rfl)
 obtain ⟨c0_0, c0_1, c0_2, c0_3, rfl⟩ : ∃ c0_0 c0_1 c0_2 c0_3 : Value, cs0 = #[c0_0, c0_1, c0_2, c0_3] := size4 hsize0
 obtain ⟨fu0, hf0⟩ := h0
 obtain ⟨xs0, n0, _, _, _, hxl0, hfl0⟩ := DataW.trod_struct Try.underlying25 hf0
 have e0_0 := hfl0 0 _ rfl
 obtain ⟨y0_0, hy0_0⟩ : ∃ y, xs0[0]? = some y := ⟨_, List.getElem?_eq_getElem (by rw [hxl0]; decide)⟩
 rw [hy0_0] at e0_0
 replace e0_0 : DataW.trod enc Try.prog W 0 (fun _ => true) true n0 3 [c0_0] = some y0_0 := e0_0
 obtain ⟨d0_0, q0_0, _, wf0_0⟩ := DataW.trod_int Try.underlying3 e0_0
 cases q0_0
 have e0_1 := hfl0 1 _ rfl
 obtain ⟨y0_1, hy0_1⟩ : ∃ y, xs0[1]? = some y := ⟨_, List.getElem?_eq_getElem (by rw [hxl0]; decide)⟩
 rw [hy0_1] at e0_1
 replace e0_1 : DataW.trod enc Try.prog W 0 (fun _ => true) true n0 3 [c0_1] = some y0_1 := e0_1
 obtain ⟨d0_1, q0_1, _, wf0_1⟩ := DataW.trod_int Try.underlying3 e0_1
 cases q0_1
 have e0_2 := hfl0 2 _ rfl
 obtain ⟨y0_2, hy0_2⟩ : ∃ y, xs0[2]? = some y := ⟨_, List.getElem?_eq_getElem (by rw [hxl0]; decide)⟩
 rw [hy0_2] at e0_2
 replace e0_2 : DataW.trod enc Try.prog W 0 (fun _ => true) true n0 22 [c0_2] = some y0_2 := e0_2
 obtain ⟨pp0_2, cc0_2, d0_2, q0_2, I0_2⟩ := Opens.sl Try.underlying22 (by kernel_rfl) (Opens.bool Try.underlying4) e0_2
 cases q0_2
 have e0_3 := hfl0 3 _ rfl
 obtain ⟨y0_3, hy0_3⟩ : ∃ y, xs0[3]? = some y := ⟨_, List.getElem?_eq_getElem (by rw [hxl0]; decide)⟩
 rw [hy0_3] at e0_3
 replace e0_3 : DataW.trod enc Try.prog W 0 (fun _ => true) true n0 23 [c0_3] = some y0_3 := e0_3
 obtain ⟨pp0_3, cc0_3, d0_3, q0_3, I0_3⟩ := Opens.sl Try.underlying23 (by kernel_rfl) (Opens.ofSl Try.underlying31 (by kernel_rfl) (Opens.int Try.underlying3)) e0_3
 cases q0_3
 have k1 := h1
 have lt1 : ∀ x ∈ p1, x.block < W.heap.size := by obtain ⟨m, hm⟩ := k1; exact DataW.trod_lt m _ _ _ hm
 obtain ⟨s1, rfl, rfl, rfl, hs1⟩ := Go.ChangeMaps.open_string Try.underlying9 (hval 1 9 v1 rfl rfl) h1
 have sz1 := sized_string hsz (j := 1) (t := 9) rfl rfl
 obtain ⟨x1, hx1⟩ : ∃ l : Str, s1 = gstr l := ⟨_, (J5L s1).symm⟩
 have hl1 : x1.length ≤ 140737488351232 := by rw [hx1, J60] at sz1; exact sz1
 subst hx1
 have k2 := h2
 have lt2 : ∀ x ∈ p2, x.block < W.heap.size := by obtain ⟨m, hm⟩ := k2; exact DataW.trod_lt m _ _ _ hm
 obtain ⟨s2, rfl, rfl, rfl, hs2⟩ := Go.ChangeMaps.open_string Try.underlying9 (hval 2 9 v2 rfl rfl) h2
 have sz2 := sized_string hsz (j := 2) (t := 9) rfl rfl
 obtain ⟨x2, hx2⟩ : ∃ l : Str, s2 = gstr l := ⟨_, (J5L s2).symm⟩
 have hl2 : x2.length ≤ 140737488351232 := by rw [hx2, J60] at sz2; exact sz2
 subst hx2
 clear hA0 hval0
 have hz := J1C (A := []) (fun _ h => nomatch h) I0_2 I0_3 (Nat.le_trans hl1 (by decide)) (Nat.le_trans hl2 (by decide)) (law21_SyntacticMultiplies_ok (⟨d0_0, d0_1, d0_2, d0_3⟩ : DFA) x1 x2 hl1 hl2)
 refine Calls.mono hz ?_
 rintro e W' ⟨v, he, r, hv, hS, hK⟩
 subst he; subst hv
 cases hK
 have bel : Below W.heap.size W W' := ⟨hS.os, hS.tape, hS.output, hS.size, hS.block⟩
 exact ⟨_, rfl, _, _, _, [], _, [], hW', trodAll_mk1 (shut_bool Try.underlying4 _), (trodAll_cons_mk (Below.trod laidOut (by kernel_rfl) (of_decide_eq_true (by kernel_rfl)) k0 bel lt0) (trodAll_cons_mk (Below.trod laidOut (by kernel_rfl) (of_decide_eq_true (by kernel_rfl)) k1 bel lt1) (trodAll_cons_mk (Below.trod laidOut (by kernel_rfl) (of_decide_eq_true (by kernel_rfl)) k2 bel lt2) trodAll_mk0))), rfl, bel.frame _, fun h => by cases h⟩
theorem over : Rows.syntacticMultipliesRow.holds Try.pinned (OpenSpec.ofChange Rows.syntacticMultipliesSpec) :=
 OpenClaim.holds_of_wide 15 Try.f15 rfl rfl rfl rfl rfl rfl rfl ⟨rfl, rfl, rfl, rfl, rfl⟩ rfl rfl rfl rfl rfl (by kernel_rfl) Try.func15 syntacticMultipliesOv.closed syntacticMultipliesOv.inst syntacticMultipliesOv.wrap
  (fun os started H enc _ => lifted os started H enc)
theorem proved : Rows.SyntacticMultipliesSaid := over
end Go.Proofs.Ytlneebpmblkllaa.syntacticMultiplies
