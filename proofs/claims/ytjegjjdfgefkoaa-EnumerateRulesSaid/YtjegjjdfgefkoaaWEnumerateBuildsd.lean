/- The walks: each call keeps to its plain transformer. Printed by walkgen.py. -/
import Derived.Test.YtjegjjdfgefkoaaTi
import Derived.Test.YtjegjjdfgefkoaaWEnumerateBuildsb
import Derived.Test.YtjegjjdfgefkoaaWEnumerateBuildsc
namespace Sg
open Go Go.RowKit Go.Proofs
set_option linter.unusedVariables false
set_option linter.unusedSimpArgs false
set_option maxRecDepth 100000
set_option maxHeartbeats 4000000
theorem body16 : Body Try.prog 16 := ⟨Try.f16, Try.func16, rfl, by kernel_rfl⟩
theorem walk_law12_awake {A : List Nat} {w0 : World} (hA : ∀ b ∈ A, b < w0.heap.size) {K : Bool → Prop} (H : law12_awake  K) :
    CallsV Try.prog 16 #[] w0 (fun v w' => ∃ (r0 : Bool), v = .bool r0 ∧ Same w0 w' ∧ K r0) := by
 refine CallsV.of (l := []) Try.func16 rfl Try.ntmps16 rfl ?_
 have hO := Owns.start hA
 have hB := Fr.refl (bl []) w0
 unfold law12_awake at H
 refine Go1.seq ?_
 refine Go1.region ?_
 refine GoR.op ((op_assign rfl) _) rfl rfl ?_
 refine GoR.nil ?_
 refine Go1.seq ?_
 refine Go1.region ?_
 have hobt := obuild (r := Rp.int .i64) (n := 2) (parts := [(0, .int .i64 (1 : Int)), (1, .int .i64 (0 : Int))]) (vs := [.int .i64 (1 : Int), .int .i64 (0 : Int)]) (xs := [(1 : Int), (0 : Int)]) rfl Try.underlying26 ti3 hO (by decide) (by kernel_rfl) (Els.cons rfl rfl (Els.cons rfl rfl (Els.nil _ _ _) (by simp [mx])) (by simp [mx])) rfl
 obtain ⟨w1, p2, g6, hE4, hs5, Hl⟩ := hobt
 refine GoR.op (Hl rfl) rfl rfl ?_
 replace hO := g6.own
 replace hB := hB.trans g6.fr
 have hobt := obuild (r := Rp.int .i64) (n := 2) (parts := [(0, .int .i64 (0 : Int)), (1, .int .i64 (0 : Int))]) (vs := [.int .i64 (0 : Int), .int .i64 (0 : Int)]) (xs := [(0 : Int), (0 : Int)]) rfl Try.underlying26 ti3 hO (by decide) (by kernel_rfl) (Els.cons rfl rfl (Els.cons rfl rfl (Els.nil _ _ _) (by simp [mx])) (by simp [mx])) rfl
 obtain ⟨w8, p9, yq, zH, wB, xn⟩ := hobt
 refine GoR.op (xn rfl) rfl rfl ?_
 replace hE4 := hE4.ch yq.ch
 replace hO := yq.own
 replace hB := hB.trans yq.fr
 have hobt := freeze 1 hO rfl hE4
 obtain ⟨hO1, Hm, lQ, Hn⟩ := hobt
 replace zH := zH.ch Hm
 replace hB := hB.trans (Owns.dropFr _ _ 1)
 replace hO := hO1; clear hO1
 have hobt := freeze 0 hO rfl zH
 obtain ⟨hO1, Ho, rG, Hp⟩ := hobt
 replace lQ := lQ.ch Ho
 replace hB := hB.trans (Owns.dropFr _ _ 0)
 replace hO := hO1; clear hO1
 have hobt := obuild (r := Rp.sl (Rp.int .i64)) (n := 2) (parts := [(0, .slice p2 2 2), (1, .slice p9 2 2)]) (vs := [.slice p2 2 2, .slice p9 2 2]) (xs := [[(1 : Int), (0 : Int)], [(0 : Int), (0 : Int)]]) rfl Try.underlying22 ti26 hO (by decide) (by kernel_rfl) (Els.cons rfl ⟨p2, 2, congrArg some (congrArg (fun nn => Value.slice p2 nn 2) Hn), lQ⟩ (Els.cons rfl ⟨p9, 2, congrArg some (congrArg (fun nn => Value.slice p9 nn 2) Hp), rG⟩ (Els.nil _ _ _) (by simp [mx])) (by simp [mx])) rfl
 obtain ⟨w21, p22, ie, bW, Ma, xo⟩ := hobt
 refine GoR.op (xo rfl) rfl rfl ?_
 replace hO := ie.own
 replace lQ := lQ.ch ie.ch
 replace rG := rG.ch ie.ch
 replace hB := hB.trans ie.fr
 have hobt := freeze 0 hO rfl bW
 obtain ⟨hO1, Cd, tG, Hq⟩ := hobt
 replace lQ := lQ.ch Cd
 replace rG := rG.ch Cd
 replace hB := hB.trans (Owns.dropFr _ _ 0)
 replace hO := hO1; clear hO1
 refine GoR.call (op_call body17 (show ([.slice p22 2 2, .bool true] : List Value) = [.slice p22 ([[(1 : Int), (0 : Int)], [(0 : Int), (0 : Int)]]).length 2, .bool true] from by rw [← Hq]) (walk_enumerate_Build hO.lt tG H)) rfl rfl ?_
 rintro v36 w33 ⟨r31, r32, tH, tI, tk, tm, sG, sH, tJ, tK, tn, tp, tq, tt, rfl, Hr, nZ, lR, mh, n7, mS, lS, H⟩
 have vC := Stp.same hO Hr
 replace hO := vC.own
 replace lQ := lQ.ch vC.ch
 replace rG := rG.ch vC.ch
 replace tG := tG.ch vC.ch
 replace hB := hB.trans vC.fr
 refine GoR.op ((op_move rfl) _) rfl rfl ?_
 refine GoR.op ((op_extract rfl rfl) _) rfl rfl ?_
 refine GoR.op ((op_extract rfl rfl) _) rfl rfl ?_
 have hobt := oalloc (t := 29) (cs := #[.int .i64 (0 : Int), .bool false, .slice none 0 0, .slice none 0 0, .slice none 0 0, .slice none 0 0, .slice none 0 0, .slice none 0 0, .int .i64 (0 : Int)]) ti29 hO rfl
 obtain ⟨w38, B39, ra, Mb, FF⟩ := hobt
 refine GoR.op FF rfl rfl ?_
 replace hO := ra.own
 replace lQ := lQ.ch ra.ch
 replace rG := rG.ch ra.ch
 replace tG := tG.ch ra.ch
 replace nZ := nZ.ch ra.ch
 replace lR := lR.ch ra.ch
 replace mh := mh.ch ra.ch
 replace n7 := n7.ch ra.ch
 replace mS := mS.ch ra.ch
 replace lS := lS.ch ra.ch
 replace hB := hB.trans ra.fr
 have hobt := oblkStAgg (us := [.int .i64 r31.Points, .bool r31.Monoid, .slice tH r31.Gens.length tI, .slice tk r31.Elems.length tm, .slice sG r31.Prefix.length sH, .slice tJ r31.Last.length tK, .slice tn r31.Right.length tp, .slice tq r31.Rules.length tt, .int .i64 r31.Done]) (o := 0) (cs' := #[.int .i64 r31.Points, .bool r31.Monoid, .slice tH r31.Gens.length tI, .slice tk r31.Elems.length tm, .slice sG r31.Prefix.length sH, .slice tJ r31.Last.length tK, .slice tn r31.Right.length tp, .slice tq r31.Rules.length tt, .int .i64 r31.Done]) 0 hO rfl rfl (Nat.le_of_ble_eq_true rfl) rfl
 obtain ⟨w44, rb, yr⟩ := hobt
 refine GoR.op (yr ti29 (by exact rfl) (by exact rfl) rfl) rfl rfl ?_
 replace hO := rb.own
 replace lQ := lQ.ch rb.ch
 replace rG := rG.ch rb.ch
 replace tG := tG.ch rb.ch
 replace nZ := nZ.ch rb.ch
 replace lR := lR.ch rb.ch
 replace mh := mh.ch rb.ch
 replace n7 := n7.ch rb.ch
 replace mS := mS.ch rb.ch
 replace lS := lS.ch rb.ch
 replace hB := hB.trans rb.fr
 refine GoR.op ((op_assign rfl) _) rfl rfl ?_
 refine GoR.nil ?_
 refine Go1.seq ?_
 refine Go1.region ?_
 refine GoR.op ((op_move rfl) _) rfl rfl ?_
 by_cases h47 : r32 = (0 : Int)
 ·replace H := ifp h47 H
  refine GoR.op ((fun w => opB (op_eql rfl rfl w) (decide_eq_true h47)) _) rfl rfl ?_
  refine GoR.op ((op_move rfl) _) rfl rfl ?_
  refine GoR.op ((op_fieldAddr Try.underlying29 rfl ti22 rfl (by decide)) _) rfl rfl ?_
  refine GoR.op ((oblk (i := 3) 0 hO rfl rfl Try.underlying22 rfl rfl) _ (Same.refl _)) rfl rfl ?_
  refine GoR.op ((op_len Try.underlying22 rfl) _) rfl rfl ?_
  replace H := H lR.bd
  by_cases h48 : (r31.Elems.length : Int) = (4 : Int)
  ·replace H := ifp h48 H
   refine GoR.op ((fun w => opB (op_eql rfl rfl w) (decide_eq_true h48)) _) rfl rfl ?_
   refine GoR.op ((op_pickT rfl rfl rfl) _) rfl rfl ?_
   refine GoR.op ((op_move rfl) _) rfl rfl ?_
   refine GoR.op ((op_fieldAddr Try.underlying29 rfl ti27 rfl (by decide)) _) rfl rfl ?_
   refine GoR.op ((oblk (i := 7) 0 hO rfl rfl Try.underlying27 rfl rfl) _ (Same.refl _)) rfl rfl ?_
   refine GoR.op ((op_len Try.underlying27 rfl) _) rfl rfl ?_
   replace H := H lS.bd
   by_cases h49 : (r31.Rules.length : Int) = (3 : Int)
   ·replace H := ifp h49 H
    refine GoR.op ((fun w => opB (op_eql rfl rfl w) (decide_eq_true h49)) _) rfl rfl ?_
    refine GoR.op ((op_pickT rfl rfl rfl) _) rfl rfl ?_
    refine GoR.op ((op_move rfl) _) rfl rfl ?_
    refine GoR.op ((oblkAgg (vs := [.int .i64 r31.Points, .bool r31.Monoid, .slice tH r31.Gens.length tI, .slice tk r31.Elems.length tm, .slice sG r31.Prefix.length sH, .slice tJ r31.Last.length tK, .slice tn r31.Right.length tp, .slice tq r31.Rules.length tt, .int .i64 r31.Done]) (i := 0) 0 hO rfl rfl Try.underlying29 rfl ti29 rfl) _ (Same.refl _)) rfl rfl ?_
    refine GoR.call (op_call body29 rfl (walk_enumerate_Word (e := r31) hO.lt nZ lR mh n7 mS lS H)) rfl rfl ?_
    rintro v54 w51 ⟨r50, rfl, Hs, HX, H⟩
    have rc := Stp.same hO Hs
    replace hO := rc.own
    replace lQ := lQ.ch rc.ch
    replace rG := rG.ch rc.ch
    replace tG := tG.ch rc.ch
    replace nZ := nZ.ch rc.ch
    replace lR := lR.ch rc.ch
    replace mh := mh.ch rc.ch
    replace n7 := n7.ch rc.ch
    replace mS := mS.ch rc.ch
    replace lS := lS.ch rc.ch
    replace hB := hB.trans rc.fr
    by_cases h56 : r50 = (([98, 97] : Str))
    ·replace H := ifp h56 H
     refine GoR.op ((fun w => opB (op_eqlS rfl rfl w) (decide_eq_true h56)) _) rfl rfl ?_
     refine GoR.op ((op_pickT rfl rfl rfl) _) rfl rfl ?_
     refine GoR.op ((op_assign rfl) _) rfl rfl ?_
     refine GoR.nil ?_
     refine Go1.ret1 Try.func16 rfl ?_
     exact ⟨true, rfl, hB.same, H⟩
    replace H := ifn h56 H
    refine GoR.op ((fun w => opB (op_eqlS rfl rfl w) (decide_eq_false h56)) _) rfl rfl ?_
    refine GoR.op ((op_pickT rfl rfl rfl) _) rfl rfl ?_
    refine GoR.op ((op_assign rfl) _) rfl rfl ?_
    refine GoR.nil ?_
    refine Go1.ret1 Try.func16 rfl ?_
    exact ⟨false, rfl, hB.same, H⟩
   replace H := ifn h49 H
   refine GoR.op ((fun w => opB (op_eql rfl rfl w) (decide_eq_false h49)) _) rfl rfl ?_
   refine GoR.op ((op_pickT rfl rfl rfl) _) rfl rfl ?_
   refine GoR.op ((op_move rfl) _) rfl rfl ?_
   refine GoR.pass rfl rfl ?_
   refine GoR.pass rfl rfl ?_
   refine GoR.pass rfl rfl ?_
   refine GoR.op ((op_pickF rfl rfl rfl) _) rfl rfl ?_
   refine GoR.op ((op_assign rfl) _) rfl rfl ?_
   refine GoR.nil ?_
   refine Go1.ret1 Try.func16 rfl ?_
   exact ⟨false, rfl, hB.same, H⟩
  replace H := ifn h48 H
  refine GoR.op ((fun w => opB (op_eql rfl rfl w) (decide_eq_false h48)) _) rfl rfl ?_
  refine GoR.op ((op_pickT rfl rfl rfl) _) rfl rfl ?_
  refine GoR.op ((op_move rfl) _) rfl rfl ?_
  refine GoR.pass rfl rfl ?_
  refine GoR.pass rfl rfl ?_
  refine GoR.pass rfl rfl ?_
  refine GoR.pass rfl rfl ?_
  refine GoR.op ((op_pickF rfl rfl rfl) _) rfl rfl ?_
  refine GoR.op ((op_move rfl) _) rfl rfl ?_
  refine GoR.pass rfl rfl ?_
  refine GoR.pass rfl rfl ?_
  refine GoR.pass rfl rfl ?_
  refine GoR.op ((op_pickF rfl rfl rfl) _) rfl rfl ?_
  refine GoR.op ((op_assign rfl) _) rfl rfl ?_
  refine GoR.nil ?_
  refine Go1.ret1 Try.func16 rfl ?_
  exact ⟨false, rfl, hB.same, H⟩
 replace H := ifn h47 H
 refine GoR.op ((fun w => opB (op_eql rfl rfl w) (decide_eq_false h47)) _) rfl rfl ?_
 refine GoR.op ((op_move rfl) _) rfl rfl ?_
 refine GoR.pass rfl rfl ?_
 refine GoR.pass rfl rfl ?_
 refine GoR.pass rfl rfl ?_
 refine GoR.pass rfl rfl ?_
 refine GoR.op ((op_pickF rfl rfl rfl) _) rfl rfl ?_
 refine GoR.op ((op_move rfl) _) rfl rfl ?_
 refine GoR.pass rfl rfl ?_
 refine GoR.pass rfl rfl ?_
 refine GoR.pass rfl rfl ?_
 refine GoR.pass rfl rfl ?_
 refine GoR.op ((op_pickF rfl rfl rfl) _) rfl rfl ?_
 refine GoR.op ((op_move rfl) _) rfl rfl ?_
 refine GoR.pass rfl rfl ?_
 refine GoR.pass rfl rfl ?_
 refine GoR.pass rfl rfl ?_
 refine GoR.op ((op_pickF rfl rfl rfl) _) rfl rfl ?_
 refine GoR.op ((op_assign rfl) _) rfl rfl ?_
 refine GoR.nil ?_
 refine Go1.ret1 Try.func16 rfl ?_
 exact ⟨false, rfl, hB.same, H⟩
theorem body34 : Body Try.prog 34 := ⟨Try.f34, Try.func34, rfl, by kernel_rfl⟩
theorem walk_ref03_Same {A : List Nat} {w0 : World} {p_a : Option Addr} {c_a : Nat} {p_b : Option Addr} {c_b : Nat} {a : List Int} {b : List Int} (hA : ∀ b ∈ A, b < w0.heap.size) (h_a : ISl (Rp.int .i64) A w0 p_a c_a a) (h_b : ISl (Rp.int .i64) A w0 p_b c_b b) {K : Bool → Prop} (H : ref03_Same a b K) :
    CallsV Try.prog 34 #[.slice p_a a.length c_a, .slice p_b b.length c_b] w0 (fun v w' => ∃ (r0 : Bool), v = .bool r0 ∧ Same w0 w' ∧ K r0) := by
 refine CallsV.of (l := [.slice p_a a.length c_a, .slice p_b b.length c_b]) Try.func34 rfl Try.ntmps34 rfl ?_
 have hO := Owns.start hA
 have hB := Fr.refl (bl []) w0
 unfold ref03_Same at H
 replace h_a := h_a.ch (Ch.start A w0)
 replace h_b := h_b.ch (Ch.start A w0)
 refine Go1.seq ?_
 refine Go1.region ?_
 refine GoR.op ((op_assign rfl) _) rfl rfl ?_
 refine GoR.nil ?_
 refine Go1.seq ?_
 refine Go1.seq ?_
 refine Go1.region ?_
 refine GoR.op ((op_move rfl) _) rfl rfl ?_
 refine GoR.op ((op_len Try.underlying26 rfl) _) rfl rfl ?_
 replace H := H h_a.bd
 refine GoR.op ((op_move rfl) _) rfl rfl ?_
 refine GoR.op ((op_len Try.underlying26 rfl) _) rfl rfl ?_
 replace H := H h_b.bd
 by_cases h1 : (a.length : Int) = (b.length : Int)
 ·replace H := ifp h1 H
  refine GoR.op ((fun w => opB (op_neq rfl rfl w) (ndT h1)) _) rfl rfl ?_
  refine GoR.nil ?_
  refine Go1.condF rfl rfl ?_
  refine Go1.skip ?_
  refine Go1.seq ?_
  refine Go1.seq ?_
  refine Go1.region ?_
  refine GoR.op ((op_move rfl) _) rfl rfl ?_
  refine GoR.op ((op_len Try.underlying26 rfl) _) rfl rfl ?_
  refine GoR.op ((op_move rfl) _) rfl rfl ?_
  refine GoR.nil ?_
  refine Go1.block ?_
  refine Go1.loopW (S := Nat) (fun s σ w => agrees σ [(0, .slice p_a a.length c_a), (1, .slice p_b b.length c_b), (12, .int .i64 (a.length : Int)), (13, .int .i64 (s : Int))] ∧ Owns w0.heap.size w [] A ∧ ISl (Rp.int .i64) (bl [] ++ A) w p_a c_a a ∧ ISl (Rp.int .i64) (bl [] ++ A) w p_b c_b b ∧ Fr (bl []) w0 (bl []) w) H ⟨⟨rfl, rfl, rfl, rfl, trivial⟩, hO, h_a, h_b, hB⟩ ?_
  intro X1 k1_3
  intro H hX1 σ w2
  refine andE fun hag => andE fun hO => andE fun h_a => andE fun h_b => fun hB => ?_
  refine Go1.keep [(0, .slice p_a a.length c_a), (1, .slice p_b b.length c_b), (12, .int .i64 (a.length : Int)), (13, .int .i64 (k1_3 : Int))] hag ?_
  refine Go1.seq ?_
  refine Go1.region ?_
  by_cases h4 : (k1_3 : Int) < (a.length : Int)
  ·replace H := ifp h4 H
   refine GoR.op ((fun w => opB (op_lss rfl rfl w) (decide_eq_true h4)) _) rfl rfl ?_
   refine GoR.nil ?_
   refine Go1.seq ?_
   refine Go1.condT rfl rfl ?_
   refine Go1.skip ?_
   refine Go1.seq ?_
   refine Go1.block ?_
   refine Go1.seq ?_
   refine Go1.region ?_
   refine GoR.op ((op_move rfl) _) rfl rfl ?_
   refine GoR.op ((op_assign rfl) _) rfl rfl ?_
   refine GoR.nil ?_
   refine Go1.seq ?_
   refine Go1.drawS 0 [(0, .pure), (1, .pure), (2, .pure), (3, .stable), (4, .pure), (5, .pure), (6, .pure), (7, .stable), (8, .pure)] mixed (by kernel_rfl) ?_
   intro w5 hs6
   have l5 := Stp.same hO hs6
   replace hO := l5.own
   replace h_a := h_a.ch l5.ch
   replace h_b := h_b.ch l5.ch
   replace hB := hB.trans l5.fr
   refine GoQ.pure rfl (op_move rfl) rfl rfl ?_
   refine GoQ.pure rfl (op_move rfl) rfl rfl ?_
   obtain ⟨h8, H⟩ := H
   obtain ⟨h9, H⟩ := H
   refine GoQ.pure rfl (op_index Try.underlying26 ti3 rfl rfl h8 h9 (h_a.some_ h8 h9)) rfl rfl ?_
   refine GoQ.stable rfl (ldInt h_a h8 h9 Try.underlying3 rfl rfl) rfl rfl ?_
   refine GoQ.pure rfl (op_move rfl) rfl rfl ?_
   refine GoQ.pure rfl (op_move rfl) rfl rfl ?_
   obtain ⟨h10, H⟩ := H
   obtain ⟨h11, H⟩ := H
   refine GoQ.pure rfl (op_index Try.underlying26 ti3 rfl rfl h10 h11 (h_b.some_ h10 h11)) rfl rfl ?_
   refine GoQ.stable rfl (ldInt h_b h10 h11 Try.underlying3 rfl rfl) rfl rfl ?_
   by_cases h12 : (ix a (k1_3 : Int)) = (ix b (k1_3 : Int))
   ·replace H := ifp h12 H
    refine GoQ.pure rfl (fun w => opB (op_neq rfl rfl w) (ndT h12)) rfl rfl ?_
    refine GoQ.nil ?_
    refine Go1.condF rfl rfl ?_
    refine Go1.skip ?_
    refine Go1.inBlock ?_
    refine Go1.region ?_
    refine GoR.op ((op_add rfl rfl (wrap_i64 (natbd h4 h_a.bd))) _) rfl rfl ?_
    refine GoR.op ((op_move rfl) _) rfl rfl ?_
    refine GoR.nil ?_
    exact hX1 _ H _ _ ⟨⟨rfl, rfl, rfl, rfl, trivial⟩, hO, h_a, h_b, hB⟩
   replace H := ifn h12 H
   refine GoQ.pure rfl (fun w => opB (op_neq rfl rfl w) (ndF h12)) rfl rfl ?_
   refine GoQ.nil ?_
   refine Go1.condT rfl rfl ?_
   refine Go1.seq ?_
   refine Go1.region ?_
   refine GoR.op ((op_assign rfl) _) rfl rfl ?_
   refine GoR.nil ?_
   refine Go1.ret1 Try.func34 rfl ?_
   exact ⟨false, rfl, hB.same, H⟩
  replace H := ifn h4 H
  refine GoR.op ((fun w => opB (op_lss rfl rfl w) (decide_eq_false h4)) _) rfl rfl ?_
  refine GoR.nil ?_
  refine Go1.seq ?_
  refine Go1.condF rfl rfl ?_
  refine Go1.exit rfl ?_
  refine Go1.seq ?_
  refine Go1.region ?_
  refine GoR.op ((op_assign rfl) _) rfl rfl ?_
  refine GoR.nil ?_
  refine Go1.ret1 Try.func34 rfl ?_
  exact ⟨true, rfl, hB.same, H⟩
 replace H := ifn h1 H
 refine GoR.op ((fun w => opB (op_neq rfl rfl w) (ndF h1)) _) rfl rfl ?_
 refine GoR.nil ?_
 refine Go1.condT rfl rfl ?_
 refine Go1.seq ?_
 refine Go1.region ?_
 refine GoR.op ((op_assign rfl) _) rfl rfl ?_
 refine GoR.nil ?_
 refine Go1.ret1 Try.func34 rfl ?_
 exact ⟨false, rfl, hB.same, H⟩
end Sg
