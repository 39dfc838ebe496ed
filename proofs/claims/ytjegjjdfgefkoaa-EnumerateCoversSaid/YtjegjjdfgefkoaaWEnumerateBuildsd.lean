/- The walks: each call keeps to its plain transformer. Printed by walkgen.py. -/
import Derived.Test.YtjegjjdfgefkoaaTi
import Derived.Test.YtjegjjdfgefkoaaWEnumerateBuildsb
import Derived.Test.YtjegjjdfgefkoaaWEnumerateBuildsc
namespace Sg
open Go Go.RowKit Go.Proofs
set_option linter.unusedVariables false
set_option linter.unusedSimpArgs false
set_option maxRecDepth 100000
set_option maxHeartbeats 4000000
theorem body16 : Body Try.prog 16 := ⟨Try.f16, Try.func16, rfl, by kernel_rfl⟩
theorem walk_law12_awake {A : List Nat} {w0 : World} (hA : ∀ b ∈ A, b < w0.heap.size) {K : Bool → Prop} (H : law12_awake  K) :
    CallsV Try.prog 16 #[] w0 (fun v w' => ∃ (r0 : Bool), v = .bool r0 ∧ Same w0 w' ∧ K r0) := by
 refine CallsV.of (l := []) Try.func16 rfl Try.ntmps16 rfl ?_
 have hO := Owns.start hA
 have hB := Fr.refl (bl []) w0
 unfold law12_awake at H
 refine Go1.seq ?_
 refine Go1.region ?_
 refine GoR.op ((op_assign rfl) _) rfl rfl ?_
 refine GoR.nil ?_
 refine Go1.seq ?_
 refine Go1.region ?_
 have hobt := obuild (r := Rp.int .i64) (n := 2) (parts := [(0, .int .i64 (1 : Int)), (1, .int .i64 (0 : Int))]) (vs := [.int .i64 (1 : Int), .int .i64 (0 : Int)]) (xs := [(1 : Int), (0 : Int)]) rfl Try.underlying26 ti3 hO (by decide) (by kernel_rfl) (Els.cons rfl rfl (Els.cons rfl rfl (Els.nil _ _ _) (by simp [mx])) (by simp [mx])) rfl
 obtain ⟨w1, p2, jo, hE4, hs5, IF⟩ := hobt
 refine GoR.op (IF rfl) rfl rfl ?_
 replace hO := jo.own
 replace hB := hB.trans jo.fr
 have hobt := obuild (r := Rp.int .i64) (n := 2) (parts := [(0, .int .i64 (0 : Int)), (1, .int .i64 (0 : Int))]) (vs := [.int .i64 (0 : Int), .int .i64 (0 : Int)]) (xs := [(0 : Int), (0 : Int)]) rfl Try.underlying26 ti3 hO (by decide) (by kernel_rfl) (Els.cons rfl rfl (Els.cons rfl rfl (Els.nil _ _ _) (by simp [mx])) (by simp [mx])) rfl
 obtain ⟨w8, p9, rV, AO, xU, yC⟩ := hobt
 refine GoR.op (yC rfl) rfl rfl ?_
 replace hE4 := hE4.ch rV.ch
 replace hO := rV.own
 replace hB := hB.trans rV.fr
 have hobt := freeze 1 hO rfl hE4
 obtain ⟨hO1, IG, pp, IH⟩ := hobt
 replace AO := AO.ch IG
 replace hB := hB.trans (Owns.dropFr _ _ 1)
 replace hO := hO1; clear hO1
 have hobt := freeze 0 hO rfl AO
 obtain ⟨hO1, II, sF, IJ⟩ := hobt
 replace pp := pp.ch II
 replace hB := hB.trans (Owns.dropFr _ _ 0)
 replace hO := hO1; clear hO1
 have hobt := obuild (r := Rp.sl (Rp.int .i64)) (n := 2) (parts := [(0, .slice p2 2 2), (1, .slice p9 2 2)]) (vs := [.slice p2 2 2, .slice p9 2 2]) (xs := [[(1 : Int), (0 : Int)], [(0 : Int), (0 : Int)]]) rfl Try.underlying22 ti26 hO (by decide) (by kernel_rfl) (Els.cons rfl ⟨p2, 2, congrArg some (congrArg (fun nn => Value.slice p2 nn 2) IH), pp⟩ (Els.cons rfl ⟨p9, 2, congrArg some (congrArg (fun nn => Value.slice p9 nn 2) IJ), sF⟩ (Els.nil _ _ _) (by simp [mx])) (by simp [mx])) rfl
 obtain ⟨w21, p22, jy, cG, Do, yD⟩ := hobt
 refine GoR.op (yD rfl) rfl rfl ?_
 replace hO := jy.own
 replace pp := pp.ch jy.ch
 replace sF := sF.ch jy.ch
 replace hB := hB.trans jy.fr
 have hobt := freeze 0 hO rfl cG
 obtain ⟨hO1, Dp, uK, IK⟩ := hobt
 replace pp := pp.ch Dp
 replace sF := sF.ch Dp
 replace hB := hB.trans (Owns.dropFr _ _ 0)
 replace hO := hO1; clear hO1
 refine GoR.call (op_call body17 (show ([.slice p22 2 2, .bool true] : List Value) = [.slice p22 ([[(1 : Int), (0 : Int)], [(0 : Int), (0 : Int)]]).length 2, .bool true] from by rw [← IK]) (walk_enumerate_Build hO.lt uK H)) rfl rfl ?_
 rintro v36 w33 ⟨r31, r32, uL, uM, um, un, tN, tO, uN, uO, uo, uq, ur, ut, rfl, IL, pv, nb, nw, px, n9, nc, H⟩
 have w7 := Stp.same hO IL
 replace hO := w7.own
 replace pp := pp.ch w7.ch
 replace sF := sF.ch w7.ch
 replace uK := uK.ch w7.ch
 replace hB := hB.trans w7.fr
 refine GoR.op ((op_move rfl) _) rfl rfl ?_
 refine GoR.op ((op_extract rfl rfl) _) rfl rfl ?_
 refine GoR.op ((op_extract rfl rfl) _) rfl rfl ?_
 have hobt := oalloc (t := 29) (cs := #[.int .i64 (0 : Int), .bool false, .slice none 0 0, .slice none 0 0, .slice none 0 0, .slice none 0 0, .slice none 0 0, .slice none 0 0, .int .i64 (0 : Int)]) ti29 hO rfl
 obtain ⟨w38, B39, sn, Nh, GO⟩ := hobt
 refine GoR.op GO rfl rfl ?_
 replace hO := sn.own
 replace pp := pp.ch sn.ch
 replace sF := sF.ch sn.ch
 replace uK := uK.ch sn.ch
 replace pv := pv.ch sn.ch
 replace nb := nb.ch sn.ch
 replace nw := nw.ch sn.ch
 replace px := px.ch sn.ch
 replace n9 := n9.ch sn.ch
 replace nc := nc.ch sn.ch
 replace hB := hB.trans sn.fr
 have hobt := oblkStAgg (us := [.int .i64 r31.Points, .bool r31.Monoid, .slice uL r31.Gens.length uM, .slice um r31.Elems.length un, .slice tN r31.Prefix.length tO, .slice uN r31.Last.length uO, .slice uo r31.Right.length uq, .slice ur r31.Rules.length ut, .int .i64 r31.Done]) (o := 0) (cs' := #[.int .i64 r31.Points, .bool r31.Monoid, .slice uL r31.Gens.length uM, .slice um r31.Elems.length un, .slice tN r31.Prefix.length tO, .slice uN r31.Last.length uO, .slice uo r31.Right.length uq, .slice ur r31.Rules.length ut, .int .i64 r31.Done]) 0 hO rfl rfl (Nat.le_of_ble_eq_true rfl) rfl
 obtain ⟨w44, sq, GP⟩ := hobt
 refine GoR.op (GP ti29 (by exact rfl) (by exact rfl) rfl) rfl rfl ?_
 replace hO := sq.own
 replace pp := pp.ch sq.ch
 replace sF := sF.ch sq.ch
 replace uK := uK.ch sq.ch
 replace pv := pv.ch sq.ch
 replace nb := nb.ch sq.ch
 replace nw := nw.ch sq.ch
 replace px := px.ch sq.ch
 replace n9 := n9.ch sq.ch
 replace nc := nc.ch sq.ch
 replace hB := hB.trans sq.fr
 refine GoR.op ((op_assign rfl) _) rfl rfl ?_
 refine GoR.nil ?_
 refine Go1.seq ?_
 refine Go1.region ?_
 refine GoR.op ((op_move rfl) _) rfl rfl ?_
 by_cases h47 : r32 = (0 : Int)
 ·replace H := ifp h47 H
  refine GoR.op ((fun w => opB (op_eql rfl rfl w) (decide_eq_true h47)) _) rfl rfl ?_
  refine GoR.op ((op_move rfl) _) rfl rfl ?_
  refine GoR.op ((op_fieldAddr Try.underlying29 rfl ti22 rfl (by decide)) _) rfl rfl ?_
  refine GoR.op ((oblk (i := 3) 0 hO rfl rfl Try.underlying22 rfl rfl) _ (Same.refl _)) rfl rfl ?_
  refine GoR.op ((op_len Try.underlying22 rfl) _) rfl rfl ?_
  replace H := H nb.bd
  by_cases h48 : (r31.Elems.length : Int) = (4 : Int)
  ·replace H := ifp h48 H
   refine GoR.op ((fun w => opB (op_eql rfl rfl w) (decide_eq_true h48)) _) rfl rfl ?_
   refine GoR.op ((op_pickT rfl rfl rfl) _) rfl rfl ?_
   refine GoR.op ((op_move rfl) _) rfl rfl ?_
   refine GoR.op ((op_fieldAddr Try.underlying29 rfl ti27 rfl (by decide)) _) rfl rfl ?_
   refine GoR.op ((oblk (i := 7) 0 hO rfl rfl Try.underlying27 rfl rfl) _ (Same.refl _)) rfl rfl ?_
   refine GoR.op ((op_len Try.underlying27 rfl) _) rfl rfl ?_
   replace H := H nc.bd
   by_cases h49 : (r31.Rules.length : Int) = (3 : Int)
   ·replace H := ifp h49 H
    refine GoR.op ((fun w => opB (op_eql rfl rfl w) (decide_eq_true h49)) _) rfl rfl ?_
    refine GoR.op ((op_pickT rfl rfl rfl) _) rfl rfl ?_
    refine GoR.op ((op_move rfl) _) rfl rfl ?_
    refine GoR.op ((oblkAgg (vs := [.int .i64 r31.Points, .bool r31.Monoid, .slice uL r31.Gens.length uM, .slice um r31.Elems.length un, .slice tN r31.Prefix.length tO, .slice uN r31.Last.length uO, .slice uo r31.Right.length uq, .slice ur r31.Rules.length ut, .int .i64 r31.Done]) (i := 0) 0 hO rfl rfl Try.underlying29 rfl ti29 rfl) _ (Same.refl _)) rfl rfl ?_
    refine GoR.call (op_call body29 rfl (walk_enumerate_Word (e := r31) hO.lt pv nb nw px n9 nc H)) rfl rfl ?_
    rintro v54 w51 ⟨r50, rfl, IM, Jg, H⟩
    have sr := Stp.same hO IM
    replace hO := sr.own
    replace pp := pp.ch sr.ch
    replace sF := sF.ch sr.ch
    replace uK := uK.ch sr.ch
    replace pv := pv.ch sr.ch
    replace nb := nb.ch sr.ch
    replace nw := nw.ch sr.ch
    replace px := px.ch sr.ch
    replace n9 := n9.ch sr.ch
    replace nc := nc.ch sr.ch
    replace hB := hB.trans sr.fr
    by_cases h56 : r50 = (([98, 97] : Str))
    ·replace H := ifp h56 H
     refine GoR.op ((fun w => opB (op_eqlS rfl rfl w) (decide_eq_true h56)) _) rfl rfl ?_
     refine GoR.op ((op_pickT rfl rfl rfl) _) rfl rfl ?_
     refine GoR.op ((op_assign rfl) _) rfl rfl ?_
     refine GoR.nil ?_
     refine Go1.ret1 Try.func16 rfl ?_
     exact ⟨true, rfl, hB.same, H⟩
    replace H := ifn h56 H
    refine GoR.op ((fun w => opB (op_eqlS rfl rfl w) (decide_eq_false h56)) _) rfl rfl ?_
    refine GoR.op ((op_pickT rfl rfl rfl) _) rfl rfl ?_
    refine GoR.op ((op_assign rfl) _) rfl rfl ?_
    refine GoR.nil ?_
    refine Go1.ret1 Try.func16 rfl ?_
    exact ⟨false, rfl, hB.same, H⟩
   replace H := ifn h49 H
   refine GoR.op ((fun w => opB (op_eql rfl rfl w) (decide_eq_false h49)) _) rfl rfl ?_
   refine GoR.op ((op_pickT rfl rfl rfl) _) rfl rfl ?_
   refine GoR.op ((op_move rfl) _) rfl rfl ?_
   refine GoR.pass rfl rfl ?_
   refine GoR.pass rfl rfl ?_
   refine GoR.pass rfl rfl ?_
   refine GoR.op ((op_pickF rfl rfl rfl) _) rfl rfl ?_
   refine GoR.op ((op_assign rfl) _) rfl rfl ?_
   refine GoR.nil ?_
   refine Go1.ret1 Try.func16 rfl ?_
   exact ⟨false, rfl, hB.same, H⟩
  replace H := ifn h48 H
  refine GoR.op ((fun w => opB (op_eql rfl rfl w) (decide_eq_false h48)) _) rfl rfl ?_
  refine GoR.op ((op_pickT rfl rfl rfl) _) rfl rfl ?_
  refine GoR.op ((op_move rfl) _) rfl rfl ?_
  refine GoR.pass rfl rfl ?_
  refine GoR.pass rfl rfl ?_
  refine GoR.pass rfl rfl ?_
  refine GoR.pass rfl rfl ?_
  refine GoR.op ((op_pickF rfl rfl rfl) _) rfl rfl ?_
  refine GoR.op ((op_move rfl) _) rfl rfl ?_
  refine GoR.pass rfl rfl ?_
  refine GoR.pass rfl rfl ?_
  refine GoR.pass rfl rfl ?_
  refine GoR.op ((op_pickF rfl rfl rfl) _) rfl rfl ?_
  refine GoR.op ((op_assign rfl) _) rfl rfl ?_
  refine GoR.nil ?_
  refine Go1.ret1 Try.func16 rfl ?_
  exact ⟨false, rfl, hB.same, H⟩
 replace H := ifn h47 H
 refine GoR.op ((fun w => opB (op_eql rfl rfl w) (decide_eq_false h47)) _) rfl rfl ?_
 refine GoR.op ((op_move rfl) _) rfl rfl ?_
 refine GoR.pass rfl rfl ?_
 refine GoR.pass rfl rfl ?_
 refine GoR.pass rfl rfl ?_
 refine GoR.pass rfl rfl ?_
 refine GoR.op ((op_pickF rfl rfl rfl) _) rfl rfl ?_
 refine GoR.op ((op_move rfl) _) rfl rfl ?_
 refine GoR.pass rfl rfl ?_
 refine GoR.pass rfl rfl ?_
 refine GoR.pass rfl rfl ?_
 refine GoR.pass rfl rfl ?_
 refine GoR.op ((op_pickF rfl rfl rfl) _) rfl rfl ?_
 refine GoR.op ((op_move rfl) _) rfl rfl ?_
 refine GoR.pass rfl rfl ?_
 refine GoR.pass rfl rfl ?_
 refine GoR.pass rfl rfl ?_
 refine GoR.op ((op_pickF rfl rfl rfl) _) rfl rfl ?_
 refine GoR.op ((op_assign rfl) _) rfl rfl ?_
 refine GoR.nil ?_
 refine Go1.ret1 Try.func16 rfl ?_
 exact ⟨false, rfl, hB.same, H⟩
end Sg
