/- The walks: each call keeps to its plain transformer. Printed by walkgen.py. -/
import Derived.Test.YtjegjjdfgefkoaaTi
import Derived.Test.YtjegjjdfgefkoaaWEnumerateBuildsb
import Derived.Test.YtjegjjdfgefkoaaWEnumerateBuildsc
namespace Sg
open Go Go.RowKit Go.Proofs
set_option linter.unusedVariables false
set_option linter.unusedSimpArgs false
set_option maxRecDepth 100000
set_option maxHeartbeats 4000000
theorem body16 : Body Try.prog 16 := ⟨Try.f16, Try.func16, rfl, by kernel_rfl⟩
theorem walk_law12_awake {A : List Nat} {w0 : World} (hA : ∀ b ∈ A, b < w0.heap.size) {K : Bool → Prop} (H : law12_awake  K) :
    CallsV Try.prog 16 #[] w0 (fun v w' => ∃ (r0 : Bool), v = .bool r0 ∧ Same w0 w' ∧ K r0) := by
 refine CallsV.of (l := []) Try.func16 rfl Try.ntmps16 rfl ?_
 have hO := Owns.start hA
 have hB := Fr.refl (bl []) w0
 unfold law12_awake at H
 refine Go1.seq ?_
 refine Go1.region ?_
 refine GoR.op ((op_assign rfl) _) rfl rfl ?_
 refine GoR.nil ?_
 refine Go1.seq ?_
 refine Go1.region ?_
 have hobt := obuild (r := Rp.int .i64) (n := 2) (parts := [(0, .int .i64 (1 : Int)), (1, .int .i64 (0 : Int))]) (vs := [.int .i64 (1 : Int), .int .i64 (0 : Int)]) (xs := [(1 : Int), (0 : Int)]) rfl Try.underlying26 ti3 hO (by decide) (by kernel_rfl) (Els.cons rfl rfl (Els.cons rfl rfl (Els.nil _ _ _) (by simp [mx])) (by simp [mx])) rfl
 obtain ⟨w1, p2, fE, hE4, hs5, LI⟩ := hobt
 refine GoR.op (LI rfl) rfl rfl ?_
 replace hO := fE.own
 replace hB := hB.trans fE.fr
 have hobt := obuild (r := Rp.int .i64) (n := 2) (parts := [(0, .int .i64 (0 : Int)), (1, .int .i64 (0 : Int))]) (vs := [.int .i64 (0 : Int), .int .i64 (0 : Int)]) (xs := [(0 : Int), (0 : Int)]) rfl Try.underlying26 ti3 hO (by decide) (by kernel_rfl) (Els.cons rfl rfl (Els.cons rfl rfl (Els.nil _ _ _) (by simp [mx])) (by simp [mx])) rfl
 obtain ⟨w8, p9, CM, D1, AW, BL⟩ := hobt
 refine GoR.op (BL rfl) rfl rfl ?_
 replace hE4 := hE4.ch CM.ch
 replace hO := CM.own
 replace hB := hB.trans CM.fr
 have hobt := freeze 1 hO rfl hE4
 obtain ⟨hO1, LJ, rS, LK⟩ := hobt
 replace D1 := D1.ch LJ
 replace hB := hB.trans (Owns.dropFr _ _ 1)
 replace hO := hO1; clear hO1
 have hobt := freeze 0 hO rfl D1
 obtain ⟨hO1, LM, t4, LN⟩ := hobt
 replace rS := rS.ch LM
 replace hB := hB.trans (Owns.dropFr _ _ 0)
 replace hO := hO1; clear hO1
 have hobt := obuild (r := Rp.sl (Rp.int .i64)) (n := 2) (parts := [(0, .slice p2 2 2), (1, .slice p9 2 2)]) (vs := [.slice p2 2 2, .slice p9 2 2]) (xs := [[(1 : Int), (0 : Int)], [(0 : Int), (0 : Int)]]) rfl Try.underlying22 ti26 hO (by decide) (by kernel_rfl) (Els.cons rfl ⟨p2, 2, congrArg some (congrArg (fun nn => Value.slice p2 nn 2) LK), rS⟩ (Els.cons rfl ⟨p9, 2, congrArg some (congrArg (fun nn => Value.slice p9 nn 2) LN), t4⟩ (Els.nil _ _ _) (by simp [mx])) (by simp [mx])) rfl
 obtain ⟨w21, p22, gS, bW, Gu, BM⟩ := hobt
 refine GoR.op (BM rfl) rfl rfl ?_
 replace hO := gS.own
 replace rS := rS.ch gS.ch
 replace t4 := t4.ch gS.ch
 replace hB := hB.trans gS.fr
 have hobt := freeze 0 hO rfl bW
 obtain ⟨hO1, Gv, xQ, LO⟩ := hobt
 replace rS := rS.ch Gv
 replace t4 := t4.ch Gv
 replace hB := hB.trans (Owns.dropFr _ _ 0)
 replace hO := hO1; clear hO1
 refine GoR.call (op_call body17 (show ([.slice p22 2 2, .bool true] : List Value) = [.slice p22 ([[(1 : Int), (0 : Int)], [(0 : Int), (0 : Int)]]).length 2, .bool true] from by rw [← LO]) (walk_enumerate_Build hO.lt xQ H)) rfl rfl ?_
 rintro v36 w33 ⟨r31, r32, xR, xS, wU, wV, wh, wi, xT, xU, wW, wX, wY, wZ, rfl, D2, rW, o7, pK, rX, qC, o8, H⟩
 have rY := Stp.same hO D2
 replace hO := rY.own
 replace rS := rS.ch rY.ch
 replace t4 := t4.ch rY.ch
 replace xQ := xQ.ch rY.ch
 replace hB := hB.trans rY.fr
 refine GoR.op ((op_move rfl) _) rfl rfl ?_
 refine GoR.op ((op_extract rfl rfl) _) rfl rfl ?_
 refine GoR.op ((op_extract rfl rfl) _) rfl rfl ?_
 have hobt := oalloc (t := 29) (cs := #[.int .i64 (0 : Int), .bool false, .slice none 0 0, .slice none 0 0, .slice none 0 0, .slice none 0 0, .slice none 0 0, .slice none 0 0, .int .i64 (0 : Int)]) ti29 hO rfl
 obtain ⟨w38, B39, kz, Qj, JP⟩ := hobt
 refine GoR.op JP rfl rfl ?_
 replace hO := kz.own
 replace rS := rS.ch kz.ch
 replace t4 := t4.ch kz.ch
 replace xQ := xQ.ch kz.ch
 replace rW := rW.ch kz.ch
 replace o7 := o7.ch kz.ch
 replace pK := pK.ch kz.ch
 replace rX := rX.ch kz.ch
 replace qC := qC.ch kz.ch
 replace o8 := o8.ch kz.ch
 replace hB := hB.trans kz.fr
 have hobt := oblkStAgg (us := [.int .i64 r31.Points, .bool r31.Monoid, .slice xR r31.Gens.length xS, .slice wU r31.Elems.length wV, .slice wh r31.Prefix.length wi, .slice xT r31.Last.length xU, .slice wW r31.Right.length wX, .slice wY r31.Rules.length wZ, .int .i64 r31.Done]) (o := 0) (cs' := #[.int .i64 r31.Points, .bool r31.Monoid, .slice xR r31.Gens.length xS, .slice wU r31.Elems.length wV, .slice wh r31.Prefix.length wi, .slice xT r31.Last.length xU, .slice wW r31.Right.length wX, .slice wY r31.Rules.length wZ, .int .i64 r31.Done]) 0 hO rfl rfl (Nat.le_of_ble_eq_true rfl) rfl
 obtain ⟨w44, uY, JQ⟩ := hobt
 refine GoR.op (JQ ti29 (by exact rfl) (by exact rfl) rfl) rfl rfl ?_
 replace hO := uY.own
 replace rS := rS.ch uY.ch
 replace t4 := t4.ch uY.ch
 replace xQ := xQ.ch uY.ch
 replace rW := rW.ch uY.ch
 replace o7 := o7.ch uY.ch
 replace pK := pK.ch uY.ch
 replace rX := rX.ch uY.ch
 replace qC := qC.ch uY.ch
 replace o8 := o8.ch uY.ch
 replace hB := hB.trans uY.fr
 refine GoR.op ((op_assign rfl) _) rfl rfl ?_
 refine GoR.nil ?_
 refine Go1.seq ?_
 refine Go1.region ?_
 refine GoR.op ((op_move rfl) _) rfl rfl ?_
 by_cases h47 : r32 = (0 : Int)
 ·replace H := ifp h47 H
  refine GoR.op ((fun w => opB (op_eql rfl rfl w) (decide_eq_true h47)) _) rfl rfl ?_
  refine GoR.op ((op_move rfl) _) rfl rfl ?_
  refine GoR.op ((op_fieldAddr Try.underlying29 rfl ti22 rfl (by decide)) _) rfl rfl ?_
  refine GoR.op ((oblk (i := 3) 0 hO rfl rfl Try.underlying22 rfl rfl) _ (Same.refl _)) rfl rfl ?_
  refine GoR.op ((op_len Try.underlying22 rfl) _) rfl rfl ?_
  replace H := H o7.bd
  by_cases h48 : (r31.Elems.length : Int) = (4 : Int)
  ·replace H := ifp h48 H
   refine GoR.op ((fun w => opB (op_eql rfl rfl w) (decide_eq_true h48)) _) rfl rfl ?_
   refine GoR.op ((op_pickT rfl rfl rfl) _) rfl rfl ?_
   refine GoR.op ((op_move rfl) _) rfl rfl ?_
   refine GoR.op ((op_fieldAddr Try.underlying29 rfl ti27 rfl (by decide)) _) rfl rfl ?_
   refine GoR.op ((oblk (i := 7) 0 hO rfl rfl Try.underlying27 rfl rfl) _ (Same.refl _)) rfl rfl ?_
   refine GoR.op ((op_len Try.underlying27 rfl) _) rfl rfl ?_
   replace H := H o8.bd
   by_cases h49 : (r31.Rules.length : Int) = (3 : Int)
   ·replace H := ifp h49 H
    refine GoR.op ((fun w => opB (op_eql rfl rfl w) (decide_eq_true h49)) _) rfl rfl ?_
    refine GoR.op ((op_pickT rfl rfl rfl) _) rfl rfl ?_
    refine GoR.op ((op_move rfl) _) rfl rfl ?_
    refine GoR.op ((oblkAgg (vs := [.int .i64 r31.Points, .bool r31.Monoid, .slice xR r31.Gens.length xS, .slice wU r31.Elems.length wV, .slice wh r31.Prefix.length wi, .slice xT r31.Last.length xU, .slice wW r31.Right.length wX, .slice wY r31.Rules.length wZ, .int .i64 r31.Done]) (i := 0) 0 hO rfl rfl Try.underlying29 rfl ti29 rfl) _ (Same.refl _)) rfl rfl ?_
    refine GoR.call (op_call body29 rfl (walk_enumerate_Word (e := r31) hO.lt rW o7 pK rX qC o8 H)) rfl rfl ?_
    rintro v54 w51 ⟨r50, rfl, D3, Mq, H⟩
    have uZ := Stp.same hO D3
    replace hO := uZ.own
    replace rS := rS.ch uZ.ch
    replace t4 := t4.ch uZ.ch
    replace xQ := xQ.ch uZ.ch
    replace rW := rW.ch uZ.ch
    replace o7 := o7.ch uZ.ch
    replace pK := pK.ch uZ.ch
    replace rX := rX.ch uZ.ch
    replace qC := qC.ch uZ.ch
    replace o8 := o8.ch uZ.ch
    replace hB := hB.trans uZ.fr
    by_cases h56 : r50 = (([98, 97] : Str))
    ·replace H := ifp h56 H
     refine GoR.op ((fun w => opB (op_eqlS rfl rfl w) (decide_eq_true h56)) _) rfl rfl ?_
     refine GoR.op ((op_pickT rfl rfl rfl) _) rfl rfl ?_
     refine GoR.op ((op_assign rfl) _) rfl rfl ?_
     refine GoR.nil ?_
     refine Go1.ret1 Try.func16 rfl ?_
     exact ⟨true, rfl, hB.same, H⟩
    replace H := ifn h56 H
    refine GoR.op ((fun w => opB (op_eqlS rfl rfl w) (decide_eq_false h56)) _) rfl rfl ?_
    refine GoR.op ((op_pickT rfl rfl rfl) _) rfl rfl ?_
    refine GoR.op ((op_assign rfl) _) rfl rfl ?_
    refine GoR.nil ?_
    refine Go1.ret1 Try.func16 rfl ?_
    exact ⟨false, rfl, hB.same, H⟩
   replace H := ifn h49 H
   refine GoR.op ((fun w => opB (op_eql rfl rfl w) (decide_eq_false h49)) _) rfl rfl ?_
   refine GoR.op ((op_pickT rfl rfl rfl) _) rfl rfl ?_
   refine GoR.op ((op_move rfl) _) rfl rfl ?_
   refine GoR.pass rfl rfl ?_
   refine GoR.pass rfl rfl ?_
   refine GoR.pass rfl rfl ?_
   refine GoR.op ((op_pickF rfl rfl rfl) _) rfl rfl ?_
   refine GoR.op ((op_assign rfl) _) rfl rfl ?_
   refine GoR.nil ?_
   refine Go1.ret1 Try.func16 rfl ?_
   exact ⟨false, rfl, hB.same, H⟩
  replace H := ifn h48 H
  refine GoR.op ((fun w => opB (op_eql rfl rfl w) (decide_eq_false h48)) _) rfl rfl ?_
  refine GoR.op ((op_pickT rfl rfl rfl) _) rfl rfl ?_
  refine GoR.op ((op_move rfl) _) rfl rfl ?_
  refine GoR.pass rfl rfl ?_
  refine GoR.pass rfl rfl ?_
  refine GoR.pass rfl rfl ?_
  refine GoR.pass rfl rfl ?_
  refine GoR.op ((op_pickF rfl rfl rfl) _) rfl rfl ?_
  refine GoR.op ((op_move rfl) _) rfl rfl ?_
  refine GoR.pass rfl rfl ?_
  refine GoR.pass rfl rfl ?_
  refine GoR.pass rfl rfl ?_
  refine GoR.op ((op_pickF rfl rfl rfl) _) rfl rfl ?_
  refine GoR.op ((op_assign rfl) _) rfl rfl ?_
  refine GoR.nil ?_
  refine Go1.ret1 Try.func16 rfl ?_
  exact ⟨false, rfl, hB.same, H⟩
 replace H := ifn h47 H
 refine GoR.op ((fun w => opB (op_eql rfl rfl w) (decide_eq_false h47)) _) rfl rfl ?_
 refine GoR.op ((op_move rfl) _) rfl rfl ?_
 refine GoR.pass rfl rfl ?_
 refine GoR.pass rfl rfl ?_
 refine GoR.pass rfl rfl ?_
 refine GoR.pass rfl rfl ?_
 refine GoR.op ((op_pickF rfl rfl rfl) _) rfl rfl ?_
 refine GoR.op ((op_move rfl) _) rfl rfl ?_
 refine GoR.pass rfl rfl ?_
 refine GoR.pass rfl rfl ?_
 refine GoR.pass rfl rfl ?_
 refine GoR.pass rfl rfl ?_
 refine GoR.op ((op_pickF rfl rfl rfl) _) rfl rfl ?_
 refine GoR.op ((op_move rfl) _) rfl rfl ?_
 refine GoR.pass rfl rfl ?_
 refine GoR.pass rfl rfl ?_
 refine GoR.pass rfl rfl ?_
 refine GoR.op ((op_pickF rfl rfl rfl) _) rfl rfl ?_
 refine GoR.op ((op_assign rfl) _) rfl rfl ?_
 refine GoR.nil ?_
 refine Go1.ret1 Try.func16 rfl ?_
 exact ⟨false, rfl, hB.same, H⟩
theorem body34 : Body Try.prog 34 := ⟨Try.f34, Try.func34, rfl, by kernel_rfl⟩
theorem walk_ref03_Same {A : List Nat} {w0 : World} {p_a : Option Addr} {c_a : Nat} {p_b : Option Addr} {c_b : Nat} {a : List Int} {b : List Int} (hA : ∀ b ∈ A, b < w0.heap.size) (h_a : ISl (Rp.int .i64) A w0 p_a c_a a) (h_b : ISl (Rp.int .i64) A w0 p_b c_b b) {K : Bool → Prop} (H : ref03_Same a b K) :
    CallsV Try.prog 34 #[.slice p_a a.length c_a, .slice p_b b.length c_b] w0 (fun v w' => ∃ (r0 : Bool), v = .bool r0 ∧ Same w0 w' ∧ K r0) := by
 refine CallsV.of (l := [.slice p_a a.length c_a, .slice p_b b.length c_b]) Try.func34 rfl Try.ntmps34 rfl ?_
 have hO := Owns.start hA
 have hB := Fr.refl (bl []) w0
 unfold ref03_Same at H
 replace h_a := h_a.ch (Ch.start A w0)
 replace h_b := h_b.ch (Ch.start A w0)
 refine Go1.seq ?_
 refine Go1.region ?_
 refine GoR.op ((op_assign rfl) _) rfl rfl ?_
 refine GoR.nil ?_
 refine Go1.seq ?_
 refine Go1.seq ?_
 refine Go1.region ?_
 refine GoR.op ((op_move rfl) _) rfl rfl ?_
 refine GoR.op ((op_len Try.underlying26 rfl) _) rfl rfl ?_
 replace H := H h_a.bd
 refine GoR.op ((op_move rfl) _) rfl rfl ?_
 refine GoR.op ((op_len Try.underlying26 rfl) _) rfl rfl ?_
 replace H := H h_b.bd
 by_cases h1 : (a.length : Int) = (b.length : Int)
 ·replace H := ifp h1 H
  refine GoR.op ((fun w => opB (op_neq rfl rfl w) (ndT h1)) _) rfl rfl ?_
  refine GoR.nil ?_
  refine Go1.condF rfl rfl ?_
  refine Go1.skip ?_
  refine Go1.seq ?_
  refine Go1.seq ?_
  refine Go1.region ?_
  refine GoR.op ((op_move rfl) _) rfl rfl ?_
  refine GoR.op ((op_len Try.underlying26 rfl) _) rfl rfl ?_
  refine GoR.op ((op_move rfl) _) rfl rfl ?_
  refine GoR.nil ?_
  refine Go1.block ?_
  refine Go1.loopW (S := Nat) (fun s σ w => agrees σ [(0, .slice p_a a.length c_a), (1, .slice p_b b.length c_b), (12, .int .i64 (a.length : Int)), (13, .int .i64 (s : Int))] ∧ Owns w0.heap.size w [] A ∧ ISl (Rp.int .i64) (bl [] ++ A) w p_a c_a a ∧ ISl (Rp.int .i64) (bl [] ++ A) w p_b c_b b ∧ Fr (bl []) w0 (bl []) w) H ⟨⟨rfl, rfl, rfl, rfl, trivial⟩, hO, h_a, h_b, hB⟩ ?_
  intro X1 k1_3
  intro H hX1 σ w2
  refine andE fun hag => andE fun hO => andE fun h_a => andE fun h_b => fun hB => ?_
  refine Go1.keep [(0, .slice p_a a.length c_a), (1, .slice p_b b.length c_b), (12, .int .i64 (a.length : Int)), (13, .int .i64 (k1_3 : Int))] hag ?_
  refine Go1.seq ?_
  refine Go1.region ?_
  by_cases h4 : (k1_3 : Int) < (a.length : Int)
  ·replace H := ifp h4 H
   refine GoR.op ((fun w => opB (op_lss rfl rfl w) (decide_eq_true h4)) _) rfl rfl ?_
   refine GoR.nil ?_
   refine Go1.seq ?_
   refine Go1.condT rfl rfl ?_
   refine Go1.skip ?_
   refine Go1.seq ?_
   refine Go1.block ?_
   refine Go1.seq ?_
   refine Go1.region ?_
   refine GoR.op ((op_move rfl) _) rfl rfl ?_
   refine GoR.op ((op_assign rfl) _) rfl rfl ?_
   refine GoR.nil ?_
   refine Go1.seq ?_
   refine Go1.drawS 0 [(0, .pure), (1, .pure), (2, .pure), (3, .stable), (4, .pure), (5, .pure), (6, .pure), (7, .stable), (8, .pure)] mixed (by kernel_rfl) ?_
   intro w5 hs6
   have o0 := Stp.same hO hs6
   replace hO := o0.own
   replace h_a := h_a.ch o0.ch
   replace h_b := h_b.ch o0.ch
   replace hB := hB.trans o0.fr
   refine GoQ.pure rfl (op_move rfl) rfl rfl ?_
   refine GoQ.pure rfl (op_move rfl) rfl rfl ?_
   obtain ⟨h8, H⟩ := H
   obtain ⟨h9, H⟩ := H
   refine GoQ.pure rfl (op_index Try.underlying26 ti3 rfl rfl h8 h9 (h_a.some_ h8 h9)) rfl rfl ?_
   refine GoQ.stable rfl (ldInt h_a h8 h9 Try.underlying3 rfl rfl) rfl rfl ?_
   refine GoQ.pure rfl (op_move rfl) rfl rfl ?_
   refine GoQ.pure rfl (op_move rfl) rfl rfl ?_
   obtain ⟨h10, H⟩ := H
   obtain ⟨h11, H⟩ := H
   refine GoQ.pure rfl (op_index Try.underlying26 ti3 rfl rfl h10 h11 (h_b.some_ h10 h11)) rfl rfl ?_
   refine GoQ.stable rfl (ldInt h_b h10 h11 Try.underlying3 rfl rfl) rfl rfl ?_
   by_cases h12 : (ix a (k1_3 : Int)) = (ix b (k1_3 : Int))
   ·replace H := ifp h12 H
    refine GoQ.pure rfl (fun w => opB (op_neq rfl rfl w) (ndT h12)) rfl rfl ?_
    refine GoQ.nil ?_
    refine Go1.condF rfl rfl ?_
    refine Go1.skip ?_
    refine Go1.inBlock ?_
    refine Go1.region ?_
    refine GoR.op ((op_add rfl rfl (wrap_i64 (natbd h4 h_a.bd))) _) rfl rfl ?_
    refine GoR.op ((op_move rfl) _) rfl rfl ?_
    refine GoR.nil ?_
    exact hX1 _ H _ _ ⟨⟨rfl, rfl, rfl, rfl, trivial⟩, hO, h_a, h_b, hB⟩
   replace H := ifn h12 H
   refine GoQ.pure rfl (fun w => opB (op_neq rfl rfl w) (ndF h12)) rfl rfl ?_
   refine GoQ.nil ?_
   refine Go1.condT rfl rfl ?_
   refine Go1.seq ?_
   refine Go1.region ?_
   refine GoR.op ((op_assign rfl) _) rfl rfl ?_
   refine GoR.nil ?_
   refine Go1.ret1 Try.func34 rfl ?_
   exact ⟨false, rfl, hB.same, H⟩
  replace H := ifn h4 H
  refine GoR.op ((fun w => opB (op_lss rfl rfl w) (decide_eq_false h4)) _) rfl rfl ?_
  refine GoR.nil ?_
  refine Go1.seq ?_
  refine Go1.condF rfl rfl ?_
  refine Go1.exit rfl ?_
  refine Go1.seq ?_
  refine Go1.region ?_
  refine GoR.op ((op_assign rfl) _) rfl rfl ?_
  refine GoR.nil ?_
  refine Go1.ret1 Try.func34 rfl ?_
  exact ⟨true, rfl, hB.same, H⟩
 replace H := ifn h1 H
 refine GoR.op ((fun w => opB (op_neq rfl rfl w) (ndF h1)) _) rfl rfl ?_
 refine GoR.nil ?_
 refine Go1.condT rfl rfl ?_
 refine Go1.seq ?_
 refine Go1.region ?_
 refine GoR.op ((op_assign rfl) _) rfl rfl ?_
 refine GoR.nil ?_
 refine Go1.ret1 Try.func34 rfl ?_
 exact ⟨false, rfl, hB.same, H⟩
theorem body45 : Body Try.prog 45 := ⟨Try.f45, Try.func45, rfl, by kernel_rfl⟩
theorem walk_ref03_SameRows {A : List Nat} {w0 : World} {p_a : Option Addr} {c_a : Nat} {p_b : Option Addr} {c_b : Nat} {a : List (List Int)} {b : List (List Int)} (hA : ∀ b ∈ A, b < w0.heap.size) (h_a : ISl (Rp.sl (Rp.int .i64)) A w0 p_a c_a a) (h_b : ISl (Rp.sl (Rp.int .i64)) A w0 p_b c_b b) {K : Bool → Prop} (H : ref03_SameRows a b K) :
    CallsV Try.prog 45 #[.slice p_a a.length c_a, .slice p_b b.length c_b] w0 (fun v w' => ∃ (r0 : Bool), v = .bool r0 ∧ Same w0 w' ∧ K r0) := by
 refine CallsV.of (l := [.slice p_a a.length c_a, .slice p_b b.length c_b]) Try.func45 rfl Try.ntmps45 rfl ?_
 have hO := Owns.start hA
 have hB := Fr.refl (bl []) w0
 unfold ref03_SameRows at H
 replace h_a := h_a.ch (Ch.start A w0)
 replace h_b := h_b.ch (Ch.start A w0)
 refine Go1.seq ?_
 refine Go1.region ?_
 refine GoR.op ((op_assign rfl) _) rfl rfl ?_
 refine GoR.nil ?_
 refine Go1.seq ?_
 refine Go1.seq ?_
 refine Go1.region ?_
 refine GoR.op ((op_move rfl) _) rfl rfl ?_
 refine GoR.op ((op_len Try.underlying22 rfl) _) rfl rfl ?_
 replace H := H h_a.bd
 refine GoR.op ((op_move rfl) _) rfl rfl ?_
 refine GoR.op ((op_len Try.underlying22 rfl) _) rfl rfl ?_
 replace H := H h_b.bd
 by_cases h1 : (a.length : Int) = (b.length : Int)
 ·replace H := ifp h1 H
  refine GoR.op ((fun w => opB (op_neq rfl rfl w) (ndT h1)) _) rfl rfl ?_
  refine GoR.nil ?_
  refine Go1.condF rfl rfl ?_
  refine Go1.skip ?_
  refine Go1.seq ?_
  refine Go1.seq ?_
  refine Go1.region ?_
  refine GoR.op ((op_move rfl) _) rfl rfl ?_
  refine GoR.op ((op_len Try.underlying22 rfl) _) rfl rfl ?_
  refine GoR.op ((op_move rfl) _) rfl rfl ?_
  refine GoR.nil ?_
  refine Go1.block ?_
  refine Go1.loopW (S := Nat) (fun s σ w => agrees σ [(0, .slice p_a a.length c_a), (1, .slice p_b b.length c_b), (12, .int .i64 (a.length : Int)), (13, .int .i64 (s : Int))] ∧ Owns w0.heap.size w [] A ∧ ISl (Rp.sl (Rp.int .i64)) (bl [] ++ A) w p_a c_a a ∧ ISl (Rp.sl (Rp.int .i64)) (bl [] ++ A) w p_b c_b b ∧ Fr (bl []) w0 (bl []) w) H ⟨⟨rfl, rfl, rfl, rfl, trivial⟩, hO, h_a, h_b, hB⟩ ?_
  intro X1 k1_3
  intro H hX1 σ w2
  refine andE fun hag => andE fun hO => andE fun h_a => andE fun h_b => fun hB => ?_
  refine Go1.keep [(0, .slice p_a a.length c_a), (1, .slice p_b b.length c_b), (12, .int .i64 (a.length : Int)), (13, .int .i64 (k1_3 : Int))] hag ?_
  refine Go1.seq ?_
  refine Go1.region ?_
  by_cases h4 : (k1_3 : Int) < (a.length : Int)
  ·replace H := ifp h4 H
   refine GoR.op ((fun w => opB (op_lss rfl rfl w) (decide_eq_true h4)) _) rfl rfl ?_
   refine GoR.nil ?_
   refine Go1.seq ?_
   refine Go1.condT rfl rfl ?_
   refine Go1.skip ?_
   refine Go1.seq ?_
   refine Go1.block ?_
   refine Go1.seq ?_
   refine Go1.region ?_
   refine GoR.op ((op_move rfl) _) rfl rfl ?_
   refine GoR.op ((op_assign rfl) _) rfl rfl ?_
   refine GoR.nil ?_
   refine Go1.seq ?_
   refine Go1.drawS 0 [(0, .pure), (1, .pure), (2, .pure), (3, .stable), (4, .pure), (5, .pure), (6, .pure), (7, .stable), (8, .loud), (9, .pure)] mixed (by kernel_rfl) ?_
   intro w5 hs6
   have o0 := Stp.same hO hs6
   replace hO := o0.own
   replace h_a := h_a.ch o0.ch
   replace h_b := h_b.ch o0.ch
   replace hB := hB.trans o0.fr
   refine GoQ.pure rfl (op_move rfl) rfl rfl ?_
   refine GoQ.pure rfl (op_move rfl) rfl rfl ?_
   obtain ⟨h8, H⟩ := H
   obtain ⟨h9, H⟩ := H
   refine GoQ.pure rfl (op_index Try.underlying22 ti26 rfl rfl h8 h9 (h_a.some_ h8 h9)) rfl rfl ?_
   have hobt := ldSl h_a h8 h9
   obtain ⟨p10, c11, AU, CX⟩ := hobt
   refine GoQ.stable rfl (CX Try.underlying26 rfl rfl) rfl rfl ?_
   refine GoQ.pure rfl (op_move rfl) rfl rfl ?_
   refine GoQ.pure rfl (op_move rfl) rfl rfl ?_
   obtain ⟨h14, H⟩ := H
   obtain ⟨h15, H⟩ := H
   refine GoQ.pure rfl (op_index Try.underlying22 ti26 rfl rfl h14 h15 (h_b.some_ h14 h15)) rfl rfl ?_
   have hobt := ldSl h_b h14 h15
   obtain ⟨p16, c17, t4, LP⟩ := hobt
   refine GoQ.stable rfl (LP Try.underlying26 rfl rfl) rfl rfl ?_
   refine GoQ.call rfl (op_call body34 rfl (walk_ref03_Same hO.lt AU t4 H)) (fun v w hr => by obtain ⟨_, _, hs, _⟩ := hr; assumption) rfl rfl ?_
   rintro v24 w21 ⟨r20, rfl, LQ, H⟩
   have uJ := Stp.same hO LQ
   replace hO := uJ.own
   replace h_a := h_a.ch uJ.ch
   replace h_b := h_b.ch uJ.ch
   replace AU := AU.ch uJ.ch
   replace t4 := t4.ch uJ.ch
   replace hB := hB.trans uJ.fr
   cases r20
   ·replace H := ifn Bool.false_ne_true H
    refine GoQ.pure rfl (op_not rfl) rfl rfl ?_
    refine GoQ.nil ?_
    refine Go1.condT rfl rfl ?_
    refine Go1.seq ?_
    refine Go1.region ?_
    refine GoR.op ((op_assign rfl) _) rfl rfl ?_
    refine GoR.nil ?_
    refine Go1.ret1 Try.func45 rfl ?_
    exact ⟨false, rfl, hB.same, H⟩
   replace H := ifp rfl H
   refine GoQ.pure rfl (op_not rfl) rfl rfl ?_
   refine GoQ.nil ?_
   refine Go1.condF rfl rfl ?_
   refine Go1.skip ?_
   refine Go1.inBlock ?_
   refine Go1.region ?_
   refine GoR.op ((op_add rfl rfl (wrap_i64 (natbd h4 h_a.bd))) _) rfl rfl ?_
   refine GoR.op ((op_move rfl) _) rfl rfl ?_
   refine GoR.nil ?_
   exact hX1 _ H _ _ ⟨⟨rfl, rfl, rfl, rfl, trivial⟩, hO, h_a, h_b, hB⟩
  replace H := ifn h4 H
  refine GoR.op ((fun w => opB (op_lss rfl rfl w) (decide_eq_false h4)) _) rfl rfl ?_
  refine GoR.nil ?_
  refine Go1.seq ?_
  refine Go1.condF rfl rfl ?_
  refine Go1.exit rfl ?_
  refine Go1.seq ?_
  refine Go1.region ?_
  refine GoR.op ((op_assign rfl) _) rfl rfl ?_
  refine GoR.nil ?_
  refine Go1.ret1 Try.func45 rfl ?_
  exact ⟨true, rfl, hB.same, H⟩
 replace H := ifn h1 H
 refine GoR.op ((fun w => opB (op_neq rfl rfl w) (ndF h1)) _) rfl rfl ?_
 refine GoR.nil ?_
 refine Go1.condT rfl rfl ?_
 refine Go1.seq ?_
 refine Go1.cut [] trivial ?_
 intro σ _
 refine Go1.region ?_
 refine GoR.op ((op_assign rfl) _) rfl rfl ?_
 refine GoR.nil ?_
 refine Go1.ret1 Try.func45 rfl ?_
 exact ⟨false, rfl, hB.same, H⟩
theorem body19 : Body Try.prog 19 := ⟨Try.f19, Try.func19, rfl, by kernel_rfl⟩
theorem walk_ref12_Same {A : List Nat} {w0 : World} {dC : Option Addr} {dD : Nat} {cY : Option Addr} {cZ : Nat} {cz : Option Addr} {cA : Nat} {dE : Option Addr} {dF : Nat} {c5 : Option Addr} {c6 : Nat} {c7 : Option Addr} {da : Nat} {dG : Option Addr} {dH : Nat} {db : Option Addr} {dc : Nat} {cB : Option Addr} {cC : Nat} {dI : Option Addr} {dJ : Nat} {de : Option Addr} {dg : Nat} {dh : Option Addr} {di : Nat} {a0 : Enum} {a1 : Enum} (hA : ∀ b ∈ A, b < w0.heap.size) (dk : ISl (Rp.sl (Rp.int .i64)) A w0 dC dD a0.Gens) (cI : ISl (Rp.sl (Rp.int .i64)) A w0 cY cZ a0.Elems) (cb : ISl (Rp.int .i64) A w0 cz cA a0.Prefix) (dl : ISl (Rp.int .i64) A w0 dE dF a0.Last) (cJ : ISl (Rp.sl (Rp.int .i64)) A w0 c5 c6 a0.Right) (bT : ISl (rpRule) A w0 c7 da a0.Rules) (dm : ISl (Rp.sl (Rp.int .i64)) A w0 dG dH a1.Gens) (cK : ISl (Rp.sl (Rp.int .i64)) A w0 db dc a1.Elems) (cd : ISl (Rp.int .i64) A w0 cB cC a1.Prefix) (dn : ISl (Rp.int .i64) A w0 dI dJ a1.Last) (cL : ISl (Rp.sl (Rp.int .i64)) A w0 de dg a1.Right) (b4 : ISl (rpRule) A w0 dh di a1.Rules) {K : Bool → Prop} (H : ref12_Same a0 a1 K) :
    CallsV Try.prog 19 #[.agg #[.int .i64 a0.Points, .bool a0.Monoid, .slice dC a0.Gens.length dD, .slice cY a0.Elems.length cZ, .slice cz a0.Prefix.length cA, .slice dE a0.Last.length dF, .slice c5 a0.Right.length c6, .slice c7 a0.Rules.length da, .int .i64 a0.Done], .agg #[.int .i64 a1.Points, .bool a1.Monoid, .slice dG a1.Gens.length dH, .slice db a1.Elems.length dc, .slice cB a1.Prefix.length cC, .slice dI a1.Last.length dJ, .slice de a1.Right.length dg, .slice dh a1.Rules.length di, .int .i64 a1.Done]] w0 (fun v w' => ∃ (r0 : Bool), v = .bool r0 ∧ Same w0 w' ∧ K r0) := by
 refine CallsV.of (l := [.agg #[.int .i64 a0.Points, .bool a0.Monoid, .slice dC a0.Gens.length dD, .slice cY a0.Elems.length cZ, .slice cz a0.Prefix.length cA, .slice dE a0.Last.length dF, .slice c5 a0.Right.length c6, .slice c7 a0.Rules.length da, .int .i64 a0.Done], .agg #[.int .i64 a1.Points, .bool a1.Monoid, .slice dG a1.Gens.length dH, .slice db a1.Elems.length dc, .slice cB a1.Prefix.length cC, .slice dI a1.Last.length dJ, .slice de a1.Right.length dg, .slice dh a1.Rules.length di, .int .i64 a1.Done]]) Try.func19 rfl Try.ntmps19 rfl ?_
 have hO := Owns.start hA
 have hB := Fr.refl (bl []) w0
 unfold ref12_Same at H
 replace dk := dk.ch (Ch.start A w0)
 replace cI := cI.ch (Ch.start A w0)
 replace cb := cb.ch (Ch.start A w0)
 replace dl := dl.ch (Ch.start A w0)
 replace cJ := cJ.ch (Ch.start A w0)
 replace bT := bT.ch (Ch.start A w0)
 replace dm := dm.ch (Ch.start A w0)
 replace cK := cK.ch (Ch.start A w0)
 replace cd := cd.ch (Ch.start A w0)
 replace dn := dn.ch (Ch.start A w0)
 replace cL := cL.ch (Ch.start A w0)
 replace b4 := b4.ch (Ch.start A w0)
 refine Go1.seq ?_
 refine Go1.region ?_
 have hobt := obox (t := 29) (v := .agg #[.int .i64 a0.Points, .bool a0.Monoid, .slice dC a0.Gens.length dD, .slice cY a0.Elems.length cZ, .slice cz a0.Prefix.length cA, .slice dE a0.Last.length dF, .slice c5 a0.Right.length c6, .slice c7 a0.Rules.length da, .int .i64 a0.Done]) (cs := #[.int .i64 a0.Points, .bool a0.Monoid, .slice dC a0.Gens.length dD, .slice cY a0.Elems.length cZ, .slice cz a0.Prefix.length cA, .slice dE a0.Last.length dF, .slice c5 a0.Right.length c6, .slice c7 a0.Rules.length da, .int .i64 a0.Done]) hO rfl
 obtain ⟨w1, B2, fE, hs4, wb⟩ := hobt
 refine GoR.op (wb rfl) rfl rfl ?_
 replace hO := fE.own
 replace dk := dk.ch fE.ch
 replace cI := cI.ch fE.ch
 replace cb := cb.ch fE.ch
 replace dl := dl.ch fE.ch
 replace cJ := cJ.ch fE.ch
 replace bT := bT.ch fE.ch
 replace dm := dm.ch fE.ch
 replace cK := cK.ch fE.ch
 replace cd := cd.ch fE.ch
 replace dn := dn.ch fE.ch
 replace cL := cL.ch fE.ch
 replace b4 := b4.ch fE.ch
 replace hB := hB.trans fE.fr
 have hobt := obox (t := 29) (v := .agg #[.int .i64 a1.Points, .bool a1.Monoid, .slice dG a1.Gens.length dH, .slice db a1.Elems.length dc, .slice cB a1.Prefix.length cC, .slice dI a1.Last.length dJ, .slice de a1.Right.length dg, .slice dh a1.Rules.length di, .int .i64 a1.Done]) (cs := #[.int .i64 a1.Points, .bool a1.Monoid, .slice dG a1.Gens.length dH, .slice db a1.Elems.length dc, .slice cB a1.Prefix.length cC, .slice dI a1.Last.length dJ, .slice de a1.Right.length dg, .slice dh a1.Rules.length di, .int .i64 a1.Done]) hO rfl
 obtain ⟨w7, B8, pM, BG, zH⟩ := hobt
 refine GoR.op (zH rfl) rfl rfl ?_
 replace hO := pM.own
 replace dk := dk.ch pM.ch
 replace cI := cI.ch pM.ch
 replace cb := cb.ch pM.ch
 replace dl := dl.ch pM.ch
 replace cJ := cJ.ch pM.ch
 replace bT := bT.ch pM.ch
 replace dm := dm.ch pM.ch
 replace cK := cK.ch pM.ch
 replace cd := cd.ch pM.ch
 replace dn := dn.ch pM.ch
 replace cL := cL.ch pM.ch
 replace b4 := b4.ch pM.ch
 replace hB := hB.trans pM.fr
 refine GoR.op ((op_assign rfl) _) rfl rfl ?_
 refine GoR.nil ?_
 refine Go1.seq ?_
 refine Go1.seq ?_
 refine Go1.region ?_
 refine GoR.op ((op_fieldAddr Try.underlying29 rfl ti3 rfl (by decide)) _) rfl rfl ?_
 refine GoR.op ((oblk (i := 0) 1 hO rfl rfl Try.underlying3 rfl rfl) _ (Same.refl _)) rfl rfl ?_
 refine GoR.op ((op_fieldAddr Try.underlying29 rfl ti3 rfl (by decide)) _) rfl rfl ?_
 refine GoR.op ((oblk (i := 0) 0 hO rfl rfl Try.underlying3 rfl rfl) _ (Same.refl _)) rfl rfl ?_
 by_cases h13 : a0.Points = a1.Points
 ·replace H := ifp h13 H
  refine GoR.op ((fun w => opB (op_neq rfl rfl w) (ndT h13)) _) rfl rfl ?_
  refine GoR.op ((op_move rfl) _) rfl rfl ?_
  refine GoR.op ((op_fieldAddr Try.underlying29 rfl ti4 rfl (by decide)) _) rfl rfl ?_
  by_cases h14 : a0.Monoid = true
  ·replace H := ifp h14 H
   refine GoR.op (opB ((oblk (i := 1) 1 hO rfl rfl Try.underlying4 rfl rfl) _ (Same.refl _)) (h14)) rfl rfl ?_
   refine GoR.op ((op_fieldAddr Try.underlying29 rfl ti4 rfl (by decide)) _) rfl rfl ?_
   by_cases h15 : a1.Monoid = true
   ·replace H := ifp h15 H
    refine GoR.op (opB ((oblk (i := 1) 0 hO rfl rfl Try.underlying4 rfl rfl) _ (Same.refl _)) (h15)) rfl rfl ?_
    refine GoR.op ((op_neqB Try.underlying4 rfl rfl) _) rfl rfl ?_
    refine GoR.op ((op_pickF rfl rfl rfl) _) rfl rfl ?_
    refine GoR.op ((op_move rfl) _) rfl rfl ?_
    refine GoR.op ((op_fieldAddr Try.underlying29 rfl ti3 rfl (by decide)) _) rfl rfl ?_
    refine GoR.op ((oblk (i := 8) 1 hO rfl rfl Try.underlying3 rfl rfl) _ (Same.refl _)) rfl rfl ?_
    refine GoR.op ((op_fieldAddr Try.underlying29 rfl ti3 rfl (by decide)) _) rfl rfl ?_
    refine GoR.op ((oblk (i := 8) 0 hO rfl rfl Try.underlying3 rfl rfl) _ (Same.refl _)) rfl rfl ?_
    by_cases h16 : a0.Done = a1.Done
    ·replace H := ifp h16 H
     refine GoR.op ((fun w => opB (op_neq rfl rfl w) (ndT h16)) _) rfl rfl ?_
     refine GoR.op ((op_pickF rfl rfl rfl) _) rfl rfl ?_
     refine GoR.op ((op_move rfl) _) rfl rfl ?_
     refine GoR.op ((op_fieldAddr Try.underlying29 rfl ti22 rfl (by decide)) _) rfl rfl ?_
     refine GoR.op ((oblk (i := 2) 1 hO rfl rfl Try.underlying22 rfl rfl) _ (Same.refl _)) rfl rfl ?_
     refine GoR.op ((op_fieldAddr Try.underlying29 rfl ti22 rfl (by decide)) _) rfl rfl ?_
     refine GoR.op ((oblk (i := 2) 0 hO rfl rfl Try.underlying22 rfl rfl) _ (Same.refl _)) rfl rfl ?_
     refine GoR.call (op_call body45 rfl (walk_ref03_SameRows hO.lt dk dm H)) rfl rfl ?_
     rintro v21 w18 ⟨r17, rfl, B7, H⟩
     have gw := Stp.same hO B7
     replace hO := gw.own
     replace dk := dk.ch gw.ch
     replace cI := cI.ch gw.ch
     replace cb := cb.ch gw.ch
     replace dl := dl.ch gw.ch
     replace cJ := cJ.ch gw.ch
     replace bT := bT.ch gw.ch
     replace dm := dm.ch gw.ch
     replace cK := cK.ch gw.ch
     replace cd := cd.ch gw.ch
     replace dn := dn.ch gw.ch
     replace cL := cL.ch gw.ch
     replace b4 := b4.ch gw.ch
     replace hB := hB.trans gw.fr
     cases r17
     ·replace H := ifn Bool.false_ne_true H
      refine GoR.op ((op_not rfl) _) rfl rfl ?_
      refine GoR.op ((op_pickF rfl rfl rfl) _) rfl rfl ?_
      refine GoR.op ((op_move rfl) _) rfl rfl ?_
      refine GoR.pass rfl rfl ?_
      refine GoR.pass rfl rfl ?_
      refine GoR.pass rfl rfl ?_
      refine GoR.pass rfl rfl ?_
      refine GoR.pass rfl rfl ?_
      refine GoR.pass rfl rfl ?_
      refine GoR.op ((op_pickT rfl rfl rfl) _) rfl rfl ?_
      refine GoR.op ((op_move rfl) _) rfl rfl ?_
      refine GoR.pass rfl rfl ?_
      refine GoR.pass rfl rfl ?_
      refine GoR.pass rfl rfl ?_
      refine GoR.pass rfl rfl ?_
      refine GoR.pass rfl rfl ?_
      refine GoR.pass rfl rfl ?_
      refine GoR.op ((op_pickT rfl rfl rfl) _) rfl rfl ?_
      refine GoR.op ((op_move rfl) _) rfl rfl ?_
      refine GoR.pass rfl rfl ?_
      refine GoR.pass rfl rfl ?_
      refine GoR.pass rfl rfl ?_
      refine GoR.pass rfl rfl ?_
      refine GoR.pass rfl rfl ?_
      refine GoR.pass rfl rfl ?_
      refine GoR.op ((op_pickT rfl rfl rfl) _) rfl rfl ?_
      refine GoR.op ((op_move rfl) _) rfl rfl ?_
      refine GoR.pass rfl rfl ?_
      refine GoR.pass rfl rfl ?_
      refine GoR.pass rfl rfl ?_
      refine GoR.pass rfl rfl ?_
      refine GoR.pass rfl rfl ?_
      refine GoR.pass rfl rfl ?_
      refine GoR.op ((op_pickT rfl rfl rfl) _) rfl rfl ?_
      refine GoR.op ((op_move rfl) _) rfl rfl ?_
      refine GoR.pass rfl rfl ?_
      refine GoR.pass rfl rfl ?_
      refine GoR.pass rfl rfl ?_
      refine GoR.pass rfl rfl ?_
      refine GoR.pass rfl rfl ?_
      refine GoR.pass rfl rfl ?_
      refine GoR.pass rfl rfl ?_
      refine GoR.op ((op_pickT rfl rfl rfl) _) rfl rfl ?_
      refine GoR.nil ?_
      refine Go1.condT rfl rfl ?_
      refine Go1.seq ?_
      refine Go1.cut [] trivial ?_
      intro σ _
      refine Go1.region ?_
      refine GoR.op ((op_assign rfl) _) rfl rfl ?_
      refine GoR.nil ?_
      refine Go1.ret1 Try.func19 rfl ?_
      exact ⟨false, rfl, hB.same, H⟩
     replace H := ifp rfl H
     refine GoR.op ((op_not rfl) _) rfl rfl ?_
     refine GoR.op ((op_pickF rfl rfl rfl) _) rfl rfl ?_
     refine GoR.op ((op_move rfl) _) rfl rfl ?_
     refine GoR.op ((op_fieldAddr Try.underlying29 rfl ti22 rfl (by decide)) _) rfl rfl ?_
     refine GoR.op ((oblk (i := 3) 1 hO rfl rfl Try.underlying22 rfl rfl) _ (Same.refl _)) rfl rfl ?_
     refine GoR.op ((op_fieldAddr Try.underlying29 rfl ti22 rfl (by decide)) _) rfl rfl ?_
     refine GoR.op ((oblk (i := 3) 0 hO rfl rfl Try.underlying22 rfl rfl) _ (Same.refl _)) rfl rfl ?_
     refine GoR.call (op_call body45 rfl (walk_ref03_SameRows hO.lt cI cK H)) rfl rfl ?_
     rintro v27 w24 ⟨r23, rfl, Gu, H⟩
     have oZ := Stp.same hO Gu
     replace hO := oZ.own
     replace dk := dk.ch oZ.ch
     replace cI := cI.ch oZ.ch
     replace cb := cb.ch oZ.ch
     replace dl := dl.ch oZ.ch
     replace cJ := cJ.ch oZ.ch
     replace bT := bT.ch oZ.ch
     replace dm := dm.ch oZ.ch
     replace cK := cK.ch oZ.ch
     replace cd := cd.ch oZ.ch
     replace dn := dn.ch oZ.ch
     replace cL := cL.ch oZ.ch
     replace b4 := b4.ch oZ.ch
     replace hB := hB.trans oZ.fr
     cases r23
     ·replace H := ifn Bool.false_ne_true H
      refine GoR.op ((op_not rfl) _) rfl rfl ?_
      refine GoR.op ((op_pickF rfl rfl rfl) _) rfl rfl ?_
      refine GoR.op ((op_move rfl) _) rfl rfl ?_
      refine GoR.pass rfl rfl ?_
      refine GoR.pass rfl rfl ?_
      refine GoR.pass rfl rfl ?_
      refine GoR.pass rfl rfl ?_
      refine GoR.pass rfl rfl ?_
      refine GoR.pass rfl rfl ?_
      refine GoR.op ((op_pickT rfl rfl rfl) _) rfl rfl ?_
      refine GoR.op ((op_move rfl) _) rfl rfl ?_
      refine GoR.pass rfl rfl ?_
      refine GoR.pass rfl rfl ?_
      refine GoR.pass rfl rfl ?_
      refine GoR.pass rfl rfl ?_
      refine GoR.pass rfl rfl ?_
      refine GoR.pass rfl rfl ?_
      refine GoR.op ((op_pickT rfl rfl rfl) _) rfl rfl ?_
      refine GoR.op ((op_move rfl) _) rfl rfl ?_
      refine GoR.pass rfl rfl ?_
      refine GoR.pass rfl rfl ?_
      refine GoR.pass rfl rfl ?_
      refine GoR.pass rfl rfl ?_
      refine GoR.pass rfl rfl ?_
      refine GoR.pass rfl rfl ?_
      refine GoR.op ((op_pickT rfl rfl rfl) _) rfl rfl ?_
      refine GoR.op ((op_move rfl) _) rfl rfl ?_
      refine GoR.pass rfl rfl ?_
      refine GoR.pass rfl rfl ?_
      refine GoR.pass rfl rfl ?_
      refine GoR.pass rfl rfl ?_
      refine GoR.pass rfl rfl ?_
      refine GoR.pass rfl rfl ?_
      refine GoR.pass rfl rfl ?_
      refine GoR.op ((op_pickT rfl rfl rfl) _) rfl rfl ?_
      refine GoR.nil ?_
      refine Go1.condT rfl rfl ?_
      refine Go1.seq ?_
      refine Go1.cut [] trivial ?_
      intro σ _
      refine Go1.region ?_
      refine GoR.op ((op_assign rfl) _) rfl rfl ?_
      refine GoR.nil ?_
      refine Go1.ret1 Try.func19 rfl ?_
      exact ⟨false, rfl, hB.same, H⟩
     replace H := ifp rfl H
     refine GoR.op ((op_not rfl) _) rfl rfl ?_
     refine GoR.op ((op_pickF rfl rfl rfl) _) rfl rfl ?_
     refine GoR.op ((op_move rfl) _) rfl rfl ?_
     refine GoR.op ((op_fieldAddr Try.underlying29 rfl ti26 rfl (by decide)) _) rfl rfl ?_
     refine GoR.op ((oblk (i := 4) 1 hO rfl rfl Try.underlying26 rfl rfl) _ (Same.refl _)) rfl rfl ?_
     refine GoR.op ((op_fieldAddr Try.underlying29 rfl ti26 rfl (by decide)) _) rfl rfl ?_
     refine GoR.op ((oblk (i := 4) 0 hO rfl rfl Try.underlying26 rfl rfl) _ (Same.refl _)) rfl rfl ?_
     refine GoR.call (op_call body34 rfl (walk_ref03_Same hO.lt cb cd H)) rfl rfl ?_
     rintro v33 w30 ⟨r29, rfl, LS, H⟩
     have tK := Stp.same hO LS
     replace hO := tK.own
     replace dk := dk.ch tK.ch
     replace cI := cI.ch tK.ch
     replace cb := cb.ch tK.ch
     replace dl := dl.ch tK.ch
     replace cJ := cJ.ch tK.ch
     replace bT := bT.ch tK.ch
     replace dm := dm.ch tK.ch
     replace cK := cK.ch tK.ch
     replace cd := cd.ch tK.ch
     replace dn := dn.ch tK.ch
     replace cL := cL.ch tK.ch
     replace b4 := b4.ch tK.ch
     replace hB := hB.trans tK.fr
     cases r29
     ·replace H := ifn Bool.false_ne_true H
      refine GoR.op ((op_not rfl) _) rfl rfl ?_
      refine GoR.op ((op_pickF rfl rfl rfl) _) rfl rfl ?_
      refine GoR.op ((op_move rfl) _) rfl rfl ?_
      refine GoR.pass rfl rfl ?_
      refine GoR.pass rfl rfl ?_
      refine GoR.pass rfl rfl ?_
      refine GoR.pass rfl rfl ?_
      refine GoR.pass rfl rfl ?_
      refine GoR.pass rfl rfl ?_
      refine GoR.op ((op_pickT rfl rfl rfl) _) rfl rfl ?_
      refine GoR.op ((op_move rfl) _) rfl rfl ?_
      refine GoR.pass rfl rfl ?_
      refine GoR.pass rfl rfl ?_
      refine GoR.pass rfl rfl ?_
      refine GoR.pass rfl rfl ?_
      refine GoR.pass rfl rfl ?_
      refine GoR.pass rfl rfl ?_
      refine GoR.op ((op_pickT rfl rfl rfl) _) rfl rfl ?_
      refine GoR.op ((op_move rfl) _) rfl rfl ?_
      refine GoR.pass rfl rfl ?_
      refine GoR.pass rfl rfl ?_
      refine GoR.pass rfl rfl ?_
      refine GoR.pass rfl rfl ?_
      refine GoR.pass rfl rfl ?_
      refine GoR.pass rfl rfl ?_
      refine GoR.pass rfl rfl ?_
      refine GoR.op ((op_pickT rfl rfl rfl) _) rfl rfl ?_
      refine GoR.nil ?_
      refine Go1.condT rfl rfl ?_
      refine Go1.seq ?_
      refine Go1.cut [] trivial ?_
      intro σ _
      refine Go1.region ?_
      refine GoR.op ((op_assign rfl) _) rfl rfl ?_
      refine GoR.nil ?_
      refine Go1.ret1 Try.func19 rfl ?_
      exact ⟨false, rfl, hB.same, H⟩
     replace H := ifp rfl H
     refine GoR.op ((op_not rfl) _) rfl rfl ?_
     refine GoR.op ((op_pickF rfl rfl rfl) _) rfl rfl ?_
     refine GoR.op ((op_move rfl) _) rfl rfl ?_
     refine GoR.op ((op_fieldAddr Try.underlying29 rfl ti26 rfl (by decide)) _) rfl rfl ?_
     refine GoR.op ((oblk (i := 5) 1 hO rfl rfl Try.underlying26 rfl rfl) _ (Same.refl _)) rfl rfl ?_
     refine GoR.op ((op_fieldAddr Try.underlying29 rfl ti26 rfl (by decide)) _) rfl rfl ?_
     refine GoR.op ((oblk (i := 5) 0 hO rfl rfl Try.underlying26 rfl rfl) _ (Same.refl _)) rfl rfl ?_
     refine GoR.call (op_call body34 rfl (walk_ref03_Same hO.lt dl dn H)) rfl rfl ?_
     rintro v39 w36 ⟨r35, rfl, LT, H⟩
     have kz := Stp.same hO LT
     replace hO := kz.own
     replace dk := dk.ch kz.ch
     replace cI := cI.ch kz.ch
     replace cb := cb.ch kz.ch
     replace dl := dl.ch kz.ch
     replace cJ := cJ.ch kz.ch
     replace bT := bT.ch kz.ch
     replace dm := dm.ch kz.ch
     replace cK := cK.ch kz.ch
     replace cd := cd.ch kz.ch
     replace dn := dn.ch kz.ch
     replace cL := cL.ch kz.ch
     replace b4 := b4.ch kz.ch
     replace hB := hB.trans kz.fr
     cases r35
     ·replace H := ifn Bool.false_ne_true H
      refine GoR.op ((op_not rfl) _) rfl rfl ?_
      refine GoR.op ((op_pickF rfl rfl rfl) _) rfl rfl ?_
      refine GoR.op ((op_move rfl) _) rfl rfl ?_
      refine GoR.pass rfl rfl ?_
      refine GoR.pass rfl rfl ?_
      refine GoR.pass rfl rfl ?_
      refine GoR.pass rfl rfl ?_
      refine GoR.pass rfl rfl ?_
      refine GoR.pass rfl rfl ?_
      refine GoR.op ((op_pickT rfl rfl rfl) _) rfl rfl ?_
      refine GoR.op ((op_move rfl) _) rfl rfl ?_
      refine GoR.pass rfl rfl ?_
      refine GoR.pass rfl rfl ?_
      refine GoR.pass rfl rfl ?_
      refine GoR.pass rfl rfl ?_
      refine GoR.pass rfl rfl ?_
      refine GoR.pass rfl rfl ?_
      refine GoR.pass rfl rfl ?_
      refine GoR.op ((op_pickT rfl rfl rfl) _) rfl rfl ?_
      refine GoR.nil ?_
      refine Go1.condT rfl rfl ?_
      refine Go1.seq ?_
      refine Go1.cut [] trivial ?_
      intro σ _
      refine Go1.region ?_
      refine GoR.op ((op_assign rfl) _) rfl rfl ?_
      refine GoR.nil ?_
      refine Go1.ret1 Try.func19 rfl ?_
      exact ⟨false, rfl, hB.same, H⟩
     replace H := ifp rfl H
     refine GoR.op ((op_not rfl) _) rfl rfl ?_
     refine GoR.op ((op_pickF rfl rfl rfl) _) rfl rfl ?_
     refine GoR.op ((op_move rfl) _) rfl rfl ?_
     refine GoR.op ((op_fieldAddr Try.underlying29 rfl ti22 rfl (by decide)) _) rfl rfl ?_
     refine GoR.op ((oblk (i := 6) 1 hO rfl rfl Try.underlying22 rfl rfl) _ (Same.refl _)) rfl rfl ?_
     refine GoR.op ((op_fieldAddr Try.underlying29 rfl ti22 rfl (by decide)) _) rfl rfl ?_
     refine GoR.op ((oblk (i := 6) 0 hO rfl rfl Try.underlying22 rfl rfl) _ (Same.refl _)) rfl rfl ?_
     refine GoR.call (op_call body45 rfl (walk_ref03_SameRows hO.lt cJ cL H)) rfl rfl ?_
     rintro v45 w42 ⟨r41, rfl, LU, H⟩
     have tL := Stp.same hO LU
     replace hO := tL.own
     replace dk := dk.ch tL.ch
     replace cI := cI.ch tL.ch
     replace cb := cb.ch tL.ch
     replace dl := dl.ch tL.ch
     replace cJ := cJ.ch tL.ch
     replace bT := bT.ch tL.ch
     replace dm := dm.ch tL.ch
     replace cK := cK.ch tL.ch
     replace cd := cd.ch tL.ch
     replace dn := dn.ch tL.ch
     replace cL := cL.ch tL.ch
     replace b4 := b4.ch tL.ch
     replace hB := hB.trans tL.fr
     cases r41
     ·replace H := ifn Bool.false_ne_true H
      refine GoR.op ((op_not rfl) _) rfl rfl ?_
      refine GoR.op ((op_pickF rfl rfl rfl) _) rfl rfl ?_
      refine GoR.op ((op_move rfl) _) rfl rfl ?_
      refine GoR.pass rfl rfl ?_
      refine GoR.pass rfl rfl ?_
      refine GoR.pass rfl rfl ?_
      refine GoR.pass rfl rfl ?_
      refine GoR.pass rfl rfl ?_
      refine GoR.pass rfl rfl ?_
      refine GoR.pass rfl rfl ?_
      refine GoR.op ((op_pickT rfl rfl rfl) _) rfl rfl ?_
      refine GoR.nil ?_
      refine Go1.condT rfl rfl ?_
      refine Go1.seq ?_
      refine Go1.cut [] trivial ?_
      intro σ _
      refine Go1.region ?_
      refine GoR.op ((op_assign rfl) _) rfl rfl ?_
      refine GoR.nil ?_
      refine Go1.ret1 Try.func19 rfl ?_
      exact ⟨false, rfl, hB.same, H⟩
     replace H := ifp rfl H
     refine GoR.op ((op_not rfl) _) rfl rfl ?_
     refine GoR.op ((op_pickF rfl rfl rfl) _) rfl rfl ?_
     refine GoR.op ((op_move rfl) _) rfl rfl ?_
     refine GoR.op ((op_fieldAddr Try.underlying29 rfl ti27 rfl (by decide)) _) rfl rfl ?_
     refine GoR.op ((oblk (i := 7) 1 hO rfl rfl Try.underlying27 rfl rfl) _ (Same.refl _)) rfl rfl ?_
     refine GoR.op ((op_len Try.underlying27 rfl) _) rfl rfl ?_
     replace H := H bT.bd
     refine GoR.op ((op_fieldAddr Try.underlying29 rfl ti27 rfl (by decide)) _) rfl rfl ?_
     refine GoR.op ((oblk (i := 7) 0 hO rfl rfl Try.underlying27 rfl rfl) _ (Same.refl _)) rfl rfl ?_
     refine GoR.op ((op_len Try.underlying27 rfl) _) rfl rfl ?_
     replace H := H b4.bd
     by_cases h47 : (a0.Rules.length : Int) = (a1.Rules.length : Int)
     ·replace H := ifp h47 H
      refine GoR.op ((fun w => opB (op_neq rfl rfl w) (ndT h47)) _) rfl rfl ?_
      refine GoR.op ((op_pickF rfl rfl rfl) _) rfl rfl ?_
      refine GoR.nil ?_
      refine Go1.condF rfl rfl ?_
      refine Go1.skip ?_
      refine Go1.seq ?_
      refine Go1.seq ?_
      refine Go1.region ?_
      refine GoR.op ((op_fieldAddr Try.underlying29 rfl ti27 rfl (by decide)) _) rfl rfl ?_
      refine GoR.op ((oblk (i := 7) 1 hO rfl rfl Try.underlying27 rfl rfl) _ (Same.refl _)) rfl rfl ?_
      refine GoR.op ((op_len Try.underlying27 rfl) _) rfl rfl ?_
      refine GoR.op ((op_move rfl) _) rfl rfl ?_
      refine GoR.nil ?_
      refine Go1.block ?_
      refine Go1.loopW (S := Nat) (fun s σ w => agrees σ [(2, .pointer (some ⟨B2, 0, none⟩)), (3, .pointer (some ⟨B8, 0, none⟩)), (76, .int .i64 (a0.Rules.length : Int)), (77, .int .i64 (s : Int))] ∧ Owns w0.heap.size w [.blk B8 (.cells #[.int .i64 a1.Points, .bool a1.Monoid, .slice dG a1.Gens.length dH, .slice db a1.Elems.length dc, .slice cB a1.Prefix.length cC, .slice dI a1.Last.length dJ, .slice de a1.Right.length dg, .slice dh a1.Rules.length di, .int .i64 a1.Done] 29 (0, 0)), .blk B2 (.cells #[.int .i64 a0.Points, .bool a0.Monoid, .slice dC a0.Gens.length dD, .slice cY a0.Elems.length cZ, .slice cz a0.Prefix.length cA, .slice dE a0.Last.length dF, .slice c5 a0.Right.length c6, .slice c7 a0.Rules.length da, .int .i64 a0.Done] 29 (0, 0))] A ∧ ISl (Rp.sl (Rp.int .i64)) (bl [.blk B8 (.cells #[.int .i64 a1.Points, .bool a1.Monoid, .slice dG a1.Gens.length dH, .slice db a1.Elems.length dc, .slice cB a1.Prefix.length cC, .slice dI a1.Last.length dJ, .slice de a1.Right.length dg, .slice dh a1.Rules.length di, .int .i64 a1.Done] 29 (0, 0)), .blk B2 (.cells #[.int .i64 a0.Points, .bool a0.Monoid, .slice dC a0.Gens.length dD, .slice cY a0.Elems.length cZ, .slice cz a0.Prefix.length cA, .slice dE a0.Last.length dF, .slice c5 a0.Right.length c6, .slice c7 a0.Rules.length da, .int .i64 a0.Done] 29 (0, 0))] ++ A) w dC dD a0.Gens ∧ ISl (Rp.sl (Rp.int .i64)) (bl [.blk B8 (.cells #[.int .i64 a1.Points, .bool a1.Monoid, .slice dG a1.Gens.length dH, .slice db a1.Elems.length dc, .slice cB a1.Prefix.length cC, .slice dI a1.Last.length dJ, .slice de a1.Right.length dg, .slice dh a1.Rules.length di, .int .i64 a1.Done] 29 (0, 0)), .blk B2 (.cells #[.int .i64 a0.Points, .bool a0.Monoid, .slice dC a0.Gens.length dD, .slice cY a0.Elems.length cZ, .slice cz a0.Prefix.length cA, .slice dE a0.Last.length dF, .slice c5 a0.Right.length c6, .slice c7 a0.Rules.length da, .int .i64 a0.Done] 29 (0, 0))] ++ A) w cY cZ a0.Elems ∧ ISl (Rp.int .i64) (bl [.blk B8 (.cells #[.int .i64 a1.Points, .bool a1.Monoid, .slice dG a1.Gens.length dH, .slice db a1.Elems.length dc, .slice cB a1.Prefix.length cC, .slice dI a1.Last.length dJ, .slice de a1.Right.length dg, .slice dh a1.Rules.length di, .int .i64 a1.Done] 29 (0, 0)), .blk B2 (.cells #[.int .i64 a0.Points, .bool a0.Monoid, .slice dC a0.Gens.length dD, .slice cY a0.Elems.length cZ, .slice cz a0.Prefix.length cA, .slice dE a0.Last.length dF, .slice c5 a0.Right.length c6, .slice c7 a0.Rules.length da, .int .i64 a0.Done] 29 (0, 0))] ++ A) w cz cA a0.Prefix ∧ ISl (Rp.int .i64) (bl [.blk B8 (.cells #[.int .i64 a1.Points, .bool a1.Monoid, .slice dG a1.Gens.length dH, .slice db a1.Elems.length dc, .slice cB a1.Prefix.length cC, .slice dI a1.Last.length dJ, .slice de a1.Right.length dg, .slice dh a1.Rules.length di, .int .i64 a1.Done] 29 (0, 0)), .blk B2 (.cells #[.int .i64 a0.Points, .bool a0.Monoid, .slice dC a0.Gens.length dD, .slice cY a0.Elems.length cZ, .slice cz a0.Prefix.length cA, .slice dE a0.Last.length dF, .slice c5 a0.Right.length c6, .slice c7 a0.Rules.length da, .int .i64 a0.Done] 29 (0, 0))] ++ A) w dE dF a0.Last ∧ ISl (Rp.sl (Rp.int .i64)) (bl [.blk B8 (.cells #[.int .i64 a1.Points, .bool a1.Monoid, .slice dG a1.Gens.length dH, .slice db a1.Elems.length dc, .slice cB a1.Prefix.length cC, .slice dI a1.Last.length dJ, .slice de a1.Right.length dg, .slice dh a1.Rules.length di, .int .i64 a1.Done] 29 (0, 0)), .blk B2 (.cells #[.int .i64 a0.Points, .bool a0.Monoid, .slice dC a0.Gens.length dD, .slice cY a0.Elems.length cZ, .slice cz a0.Prefix.length cA, .slice dE a0.Last.length dF, .slice c5 a0.Right.length c6, .slice c7 a0.Rules.length da, .int .i64 a0.Done] 29 (0, 0))] ++ A) w c5 c6 a0.Right ∧ ISl (rpRule) (bl [.blk B8 (.cells #[.int .i64 a1.Points, .bool a1.Monoid, .slice dG a1.Gens.length dH, .slice db a1.Elems.length dc, .slice cB a1.Prefix.length cC, .slice dI a1.Last.length dJ, .slice de a1.Right.length dg, .slice dh a1.Rules.length di, .int .i64 a1.Done] 29 (0, 0)), .blk B2 (.cells #[.int .i64 a0.Points, .bool a0.Monoid, .slice dC a0.Gens.length dD, .slice cY a0.Elems.length cZ, .slice cz a0.Prefix.length cA, .slice dE a0.Last.length dF, .slice c5 a0.Right.length c6, .slice c7 a0.Rules.length da, .int .i64 a0.Done] 29 (0, 0))] ++ A) w c7 da a0.Rules ∧ ISl (Rp.sl (Rp.int .i64)) (bl [.blk B8 (.cells #[.int .i64 a1.Points, .bool a1.Monoid, .slice dG a1.Gens.length dH, .slice db a1.Elems.length dc, .slice cB a1.Prefix.length cC, .slice dI a1.Last.length dJ, .slice de a1.Right.length dg, .slice dh a1.Rules.length di, .int .i64 a1.Done] 29 (0, 0)), .blk B2 (.cells #[.int .i64 a0.Points, .bool a0.Monoid, .slice dC a0.Gens.length dD, .slice cY a0.Elems.length cZ, .slice cz a0.Prefix.length cA, .slice dE a0.Last.length dF, .slice c5 a0.Right.length c6, .slice c7 a0.Rules.length da, .int .i64 a0.Done] 29 (0, 0))] ++ A) w dG dH a1.Gens ∧ ISl (Rp.sl (Rp.int .i64)) (bl [.blk B8 (.cells #[.int .i64 a1.Points, .bool a1.Monoid, .slice dG a1.Gens.length dH, .slice db a1.Elems.length dc, .slice cB a1.Prefix.length cC, .slice dI a1.Last.length dJ, .slice de a1.Right.length dg, .slice dh a1.Rules.length di, .int .i64 a1.Done] 29 (0, 0)), .blk B2 (.cells #[.int .i64 a0.Points, .bool a0.Monoid, .slice dC a0.Gens.length dD, .slice cY a0.Elems.length cZ, .slice cz a0.Prefix.length cA, .slice dE a0.Last.length dF, .slice c5 a0.Right.length c6, .slice c7 a0.Rules.length da, .int .i64 a0.Done] 29 (0, 0))] ++ A) w db dc a1.Elems ∧ ISl (Rp.int .i64) (bl [.blk B8 (.cells #[.int .i64 a1.Points, .bool a1.Monoid, .slice dG a1.Gens.length dH, .slice db a1.Elems.length dc, .slice cB a1.Prefix.length cC, .slice dI a1.Last.length dJ, .slice de a1.Right.length dg, .slice dh a1.Rules.length di, .int .i64 a1.Done] 29 (0, 0)), .blk B2 (.cells #[.int .i64 a0.Points, .bool a0.Monoid, .slice dC a0.Gens.length dD, .slice cY a0.Elems.length cZ, .slice cz a0.Prefix.length cA, .slice dE a0.Last.length dF, .slice c5 a0.Right.length c6, .slice c7 a0.Rules.length da, .int .i64 a0.Done] 29 (0, 0))] ++ A) w cB cC a1.Prefix ∧ ISl (Rp.int .i64) (bl [.blk B8 (.cells #[.int .i64 a1.Points, .bool a1.Monoid, .slice dG a1.Gens.length dH, .slice db a1.Elems.length dc, .slice cB a1.Prefix.length cC, .slice dI a1.Last.length dJ, .slice de a1.Right.length dg, .slice dh a1.Rules.length di, .int .i64 a1.Done] 29 (0, 0)), .blk B2 (.cells #[.int .i64 a0.Points, .bool a0.Monoid, .slice dC a0.Gens.length dD, .slice cY a0.Elems.length cZ, .slice cz a0.Prefix.length cA, .slice dE a0.Last.length dF, .slice c5 a0.Right.length c6, .slice c7 a0.Rules.length da, .int .i64 a0.Done] 29 (0, 0))] ++ A) w dI dJ a1.Last ∧ ISl (Rp.sl (Rp.int .i64)) (bl [.blk B8 (.cells #[.int .i64 a1.Points, .bool a1.Monoid, .slice dG a1.Gens.length dH, .slice db a1.Elems.length dc, .slice cB a1.Prefix.length cC, .slice dI a1.Last.length dJ, .slice de a1.Right.length dg, .slice dh a1.Rules.length di, .int .i64 a1.Done] 29 (0, 0)), .blk B2 (.cells #[.int .i64 a0.Points, .bool a0.Monoid, .slice dC a0.Gens.length dD, .slice cY a0.Elems.length cZ, .slice cz a0.Prefix.length cA, .slice dE a0.Last.length dF, .slice c5 a0.Right.length c6, .slice c7 a0.Rules.length da, .int .i64 a0.Done] 29 (0, 0))] ++ A) w de dg a1.Right ∧ ISl (rpRule) (bl [.blk B8 (.cells #[.int .i64 a1.Points, .bool a1.Monoid, .slice dG a1.Gens.length dH, .slice db a1.Elems.length dc, .slice cB a1.Prefix.length cC, .slice dI a1.Last.length dJ, .slice de a1.Right.length dg, .slice dh a1.Rules.length di, .int .i64 a1.Done] 29 (0, 0)), .blk B2 (.cells #[.int .i64 a0.Points, .bool a0.Monoid, .slice dC a0.Gens.length dD, .slice cY a0.Elems.length cZ, .slice cz a0.Prefix.length cA, .slice dE a0.Last.length dF, .slice c5 a0.Right.length c6, .slice c7 a0.Rules.length da, .int .i64 a0.Done] 29 (0, 0))] ++ A) w dh di a1.Rules ∧ Fr (bl []) w0 (bl [.blk B8 (.cells #[.int .i64 a1.Points, .bool a1.Monoid, .slice dG a1.Gens.length dH, .slice db a1.Elems.length dc, .slice cB a1.Prefix.length cC, .slice dI a1.Last.length dJ, .slice de a1.Right.length dg, .slice dh a1.Rules.length di, .int .i64 a1.Done] 29 (0, 0)), .blk B2 (.cells #[.int .i64 a0.Points, .bool a0.Monoid, .slice dC a0.Gens.length dD, .slice cY a0.Elems.length cZ, .slice cz a0.Prefix.length cA, .slice dE a0.Last.length dF, .slice c5 a0.Right.length c6, .slice c7 a0.Rules.length da, .int .i64 a0.Done] 29 (0, 0))]) w) H ⟨⟨rfl, rfl, rfl, rfl, trivial⟩, hO, dk, cI, cb, dl, cJ, bT, dm, cK, cd, dn, cL, b4, hB⟩ ?_
      intro X1 k1_49
      intro H hX1 σ w48
      refine andE fun hag => andE fun hO => andE fun dk => andE fun cI => andE fun cb => andE fun dl => andE fun cJ => andE fun bT => andE fun dm => andE fun cK => andE fun cd => andE fun dn => andE fun cL => andE fun b4 => fun hB => ?_
      refine Go1.keep [(2, .pointer (some ⟨B2, 0, none⟩)), (3, .pointer (some ⟨B8, 0, none⟩)), (76, .int .i64 (a0.Rules.length : Int)), (77, .int .i64 (k1_49 : Int))] hag ?_
      refine Go1.seq ?_
      refine Go1.region ?_
      by_cases h50 : (k1_49 : Int) < (a0.Rules.length : Int)
      ·replace H := ifp h50 H
       refine GoR.op ((fun w => opB (op_lss rfl rfl w) (decide_eq_true h50)) _) rfl rfl ?_
       refine GoR.nil ?_
       refine Go1.seq ?_
       refine Go1.condT rfl rfl ?_
       refine Go1.skip ?_
       refine Go1.seq ?_
       refine Go1.block ?_
       refine Go1.seq ?_
       refine Go1.region ?_
       refine GoR.op ((op_move rfl) _) rfl rfl ?_
       refine GoR.op ((op_assign rfl) _) rfl rfl ?_
       refine GoR.nil ?_
       refine Go1.seq ?_
       refine Go1.drawS 0 [(0, .pure), (1, .stable), (2, .pure), (3, .pure), (4, .stable), (5, .pure), (6, .stable), (7, .pure), (8, .pure), (9, .stable), (10, .pure)] mixed (by kernel_rfl) ?_
       intro w51 D3
       have tM := Stp.same hO D3
       replace hO := tM.own
       replace dk := dk.ch tM.ch
       replace cI := cI.ch tM.ch
       replace cb := cb.ch tM.ch
       replace dl := dl.ch tM.ch
       replace cJ := cJ.ch tM.ch
       replace bT := bT.ch tM.ch
       replace dm := dm.ch tM.ch
       replace cK := cK.ch tM.ch
       replace cd := cd.ch tM.ch
       replace dn := dn.ch tM.ch
       replace cL := cL.ch tM.ch
       replace b4 := b4.ch tM.ch
       replace hB := hB.trans tM.fr
       refine GoQ.pure rfl (op_fieldAddr Try.underlying29 rfl ti27 rfl (by decide)) rfl rfl ?_
       refine GoQ.stable rfl (oblk (i := 7) 1 hO rfl rfl Try.underlying27 rfl rfl) rfl rfl ?_
       refine GoQ.pure rfl (op_move rfl) rfl rfl ?_
       obtain ⟨h54, H⟩ := H
       obtain ⟨h55, H⟩ := H
       refine GoQ.pure rfl (op_index Try.underlying27 ti39 rfl rfl h54 h55 (bT.some_ h54 h55)) rfl rfl ?_
       have hok56 := ldFlatOk bT h54 h55
       refine GoQ.stable rfl (ldFlat bT h54 h55 Try.underlying39 rfl ti39 rfl) rfl rfl ?_
       refine GoQ.pure rfl (op_fieldAddr Try.underlying29 rfl ti27 rfl (by decide)) rfl rfl ?_
       refine GoQ.stable rfl (oblk (i := 7) 0 hO rfl rfl Try.underlying27 rfl rfl) rfl rfl ?_
       refine GoQ.pure rfl (op_move rfl) rfl rfl ?_
       obtain ⟨h57, H⟩ := H
       obtain ⟨h58, H⟩ := H
       refine GoQ.pure rfl (op_index Try.underlying27 ti39 rfl rfl h57 h58 (b4.some_ h57 h58)) rfl rfl ?_
       have hok59 := ldFlatOk b4 h57 h58
       refine GoQ.stable rfl (ldFlat b4 h57 h58 Try.underlying39 rfl ti39 rfl) rfl rfl ?_
       by_cases h60 : (((ix a0.Rules (k1_49 : Int)).Left) = ((ix a1.Rules (k1_49 : Int)).Left) ∧ ((ix a0.Rules (k1_49 : Int)).Right) = ((ix a1.Rules (k1_49 : Int)).Right))
       ·replace H := ifp h60 H
        refine GoQ.pure rfl (fun w => opB (op_neqSS Try.underlying39 eqh39 eqg39 (by decide) (by decide) rfl rfl Try.underlying9 Try.underlying9 rfl rfl w) (ndT h60)) rfl rfl ?_
        refine GoQ.nil ?_
        refine Go1.condF rfl rfl ?_
        refine Go1.skip ?_
        refine Go1.inBlock ?_
        refine Go1.region ?_
        refine GoR.op ((op_add rfl rfl (wrap_i64 (natbd h50 bT.bd))) _) rfl rfl ?_
        refine GoR.op ((op_move rfl) _) rfl rfl ?_
        refine GoR.nil ?_
        exact hX1 _ H _ _ ⟨⟨rfl, rfl, rfl, rfl, trivial⟩, hO, dk, cI, cb, dl, cJ, bT, dm, cK, cd, dn, cL, b4, hB⟩
       replace H := ifn h60 H
       refine GoQ.pure rfl (fun w => opB (op_neqSS Try.underlying39 eqh39 eqg39 (by decide) (by decide) rfl rfl Try.underlying9 Try.underlying9 rfl rfl w) (ndF h60)) rfl rfl ?_
       refine GoQ.nil ?_
       refine Go1.condT rfl rfl ?_
       refine Go1.seq ?_
       refine Go1.region ?_
       refine GoR.op ((op_assign rfl) _) rfl rfl ?_
       refine GoR.nil ?_
       refine Go1.ret1 Try.func19 rfl ?_
       exact ⟨false, rfl, hB.same, H⟩
      replace H := ifn h50 H
      refine GoR.op ((fun w => opB (op_lss rfl rfl w) (decide_eq_false h50)) _) rfl rfl ?_
      refine GoR.nil ?_
      refine Go1.seq ?_
      refine Go1.condF rfl rfl ?_
      refine Go1.exit rfl ?_
      refine Go1.seq ?_
      refine Go1.region ?_
      refine GoR.op ((op_assign rfl) _) rfl rfl ?_
      refine GoR.nil ?_
      refine Go1.ret1 Try.func19 rfl ?_
      exact ⟨true, rfl, hB.same, H⟩
     replace H := ifn h47 H
     refine GoR.op ((fun w => opB (op_neq rfl rfl w) (ndF h47)) _) rfl rfl ?_
     refine GoR.op ((op_pickF rfl rfl rfl) _) rfl rfl ?_
     refine GoR.nil ?_
     refine Go1.condT rfl rfl ?_
     refine Go1.seq ?_
     refine Go1.cut [] trivial ?_
     intro σ _
     refine Go1.region ?_
     refine GoR.op ((op_assign rfl) _) rfl rfl ?_
     refine GoR.nil ?_
     refine Go1.ret1 Try.func19 rfl ?_
     exact ⟨false, rfl, hB.same, H⟩
    replace H := ifn h16 H
    refine GoR.op ((fun w => opB (op_neq rfl rfl w) (ndF h16)) _) rfl rfl ?_
    refine GoR.op ((op_pickF rfl rfl rfl) _) rfl rfl ?_
    refine GoR.op ((op_move rfl) _) rfl rfl ?_
    refine GoR.pass rfl rfl ?_
    refine GoR.pass rfl rfl ?_
    refine GoR.pass rfl rfl ?_
    refine GoR.pass rfl rfl ?_
    refine GoR.pass rfl rfl ?_
    refine GoR.pass rfl rfl ?_
    refine GoR.op ((op_pickT rfl rfl rfl) _) rfl rfl ?_
    refine GoR.op ((op_move rfl) _) rfl rfl ?_
    refine GoR.pass rfl rfl ?_
    refine GoR.pass rfl rfl ?_
    refine GoR.pass rfl rfl ?_
    refine GoR.pass rfl rfl ?_
    refine GoR.pass rfl rfl ?_
    refine GoR.pass rfl rfl ?_
    refine GoR.op ((op_pickT rfl rfl rfl) _) rfl rfl ?_
    refine GoR.op ((op_move rfl) _) rfl rfl ?_
    refine GoR.pass rfl rfl ?_
    refine GoR.pass rfl rfl ?_
    refine GoR.pass rfl rfl ?_
    refine GoR.pass rfl rfl ?_
    refine GoR.pass rfl rfl ?_
    refine GoR.pass rfl rfl ?_
    refine GoR.op ((op_pickT rfl rfl rfl) _) rfl rfl ?_
    refine GoR.op ((op_move rfl) _) rfl rfl ?_
    refine GoR.pass rfl rfl ?_
    refine GoR.pass rfl rfl ?_
    refine GoR.pass rfl rfl ?_
    refine GoR.pass rfl rfl ?_
    refine GoR.pass rfl rfl ?_
    refine GoR.pass rfl rfl ?_
    refine GoR.op ((op_pickT rfl rfl rfl) _) rfl rfl ?_
    refine GoR.op ((op_move rfl) _) rfl rfl ?_
    refine GoR.pass rfl rfl ?_
    refine GoR.pass rfl rfl ?_
    refine GoR.pass rfl rfl ?_
    refine GoR.pass rfl rfl ?_
    refine GoR.pass rfl rfl ?_
    refine GoR.pass rfl rfl ?_
    refine GoR.op ((op_pickT rfl rfl rfl) _) rfl rfl ?_
    refine GoR.op ((op_move rfl) _) rfl rfl ?_
    refine GoR.pass rfl rfl ?_
    refine GoR.pass rfl rfl ?_
    refine GoR.pass rfl rfl ?_
    refine GoR.pass rfl rfl ?_
    refine GoR.pass rfl rfl ?_
    refine GoR.pass rfl rfl ?_
    refine GoR.pass rfl rfl ?_
    refine GoR.op ((op_pickT rfl rfl rfl) _) rfl rfl ?_
    refine GoR.nil ?_
    refine Go1.condT rfl rfl ?_
    refine Go1.seq ?_
    refine Go1.cut [] trivial ?_
    intro σ _
    refine Go1.region ?_
    refine GoR.op ((op_assign rfl) _) rfl rfl ?_
    refine GoR.nil ?_
    refine Go1.ret1 Try.func19 rfl ?_
    exact ⟨false, rfl, hB.same, H⟩
   replace H := ifn h15 H
   refine GoR.op (opB ((oblk (i := 1) 0 hO rfl rfl Try.underlying4 rfl rfl) _ (Same.refl _)) (Bool.eq_false_iff.2 h15)) rfl rfl ?_
   refine GoR.op ((op_neqB Try.underlying4 rfl rfl) _) rfl rfl ?_
   refine GoR.op ((op_pickF rfl rfl rfl) _) rfl rfl ?_
   refine GoR.op ((op_move rfl) _) rfl rfl ?_
   refine GoR.pass rfl rfl ?_
   refine GoR.pass rfl rfl ?_
   refine GoR.pass rfl rfl ?_
   refine GoR.pass rfl rfl ?_
   refine GoR.pass rfl rfl ?_
   refine GoR.op ((op_pickT rfl rfl rfl) _) rfl rfl ?_
   refine GoR.op ((op_move rfl) _) rfl rfl ?_
   refine GoR.pass rfl rfl ?_
   refine GoR.pass rfl rfl ?_
   refine GoR.pass rfl rfl ?_
   refine GoR.pass rfl rfl ?_
   refine GoR.pass rfl rfl ?_
   refine GoR.pass rfl rfl ?_
   refine GoR.op ((op_pickT rfl rfl rfl) _) rfl rfl ?_
   refine GoR.op ((op_move rfl) _) rfl rfl ?_
   refine GoR.pass rfl rfl ?_
   refine GoR.pass rfl rfl ?_
   refine GoR.pass rfl rfl ?_
   refine GoR.pass rfl rfl ?_
   refine GoR.pass rfl rfl ?_
   refine GoR.pass rfl rfl ?_
   refine GoR.op ((op_pickT rfl rfl rfl) _) rfl rfl ?_
   refine GoR.op ((op_move rfl) _) rfl rfl ?_
   refine GoR.pass rfl rfl ?_
   refine GoR.pass rfl rfl ?_
   refine GoR.pass rfl rfl ?_
   refine GoR.pass rfl rfl ?_
   refine GoR.pass rfl rfl ?_
   refine GoR.pass rfl rfl ?_
   refine GoR.op ((op_pickT rfl rfl rfl) _) rfl rfl ?_
   refine GoR.op ((op_move rfl) _) rfl rfl ?_
   refine GoR.pass rfl rfl ?_
   refine GoR.pass rfl rfl ?_
   refine GoR.pass rfl rfl ?_
   refine GoR.pass rfl rfl ?_
   refine GoR.pass rfl rfl ?_
   refine GoR.pass rfl rfl ?_
   refine GoR.op ((op_pickT rfl rfl rfl) _) rfl rfl ?_
   refine GoR.op ((op_move rfl) _) rfl rfl ?_
   refine GoR.pass rfl rfl ?_
   refine GoR.pass rfl rfl ?_
   refine GoR.pass rfl rfl ?_
   refine GoR.pass rfl rfl ?_
   refine GoR.pass rfl rfl ?_
   refine GoR.pass rfl rfl ?_
   refine GoR.op ((op_pickT rfl rfl rfl) _) rfl rfl ?_
   refine GoR.op ((op_move rfl) _) rfl rfl ?_
   refine GoR.pass rfl rfl ?_
   refine GoR.pass rfl rfl ?_
   refine GoR.pass rfl rfl ?_
   refine GoR.pass rfl rfl ?_
   refine GoR.pass rfl rfl ?_
   refine GoR.pass rfl rfl ?_
   refine GoR.pass rfl rfl ?_
   refine GoR.op ((op_pickT rfl rfl rfl) _) rfl rfl ?_
   refine GoR.nil ?_
   refine Go1.condT rfl rfl ?_
   refine Go1.seq ?_
   refine Go1.cut [] trivial ?_
   intro σ _
   refine Go1.region ?_
   refine GoR.op ((op_assign rfl) _) rfl rfl ?_
   refine GoR.nil ?_
   refine Go1.ret1 Try.func19 rfl ?_
   exact ⟨false, rfl, hB.same, H⟩
  replace H := ifn h14 H
  refine GoR.op (opB ((oblk (i := 1) 1 hO rfl rfl Try.underlying4 rfl rfl) _ (Same.refl _)) (Bool.eq_false_iff.2 h14)) rfl rfl ?_
  refine GoR.op ((op_fieldAddr Try.underlying29 rfl ti4 rfl (by decide)) _) rfl rfl ?_
  by_cases h61 : a1.Monoid = true
  ·replace H := ifp h61 H
   refine GoR.op (opB ((oblk (i := 1) 0 hO rfl rfl Try.underlying4 rfl rfl) _ (Same.refl _)) (h61)) rfl rfl ?_
   refine GoR.op ((op_neqB Try.underlying4 rfl rfl) _) rfl rfl ?_
   refine GoR.op ((op_pickF rfl rfl rfl) _) rfl rfl ?_
   refine GoR.op ((op_move rfl) _) rfl rfl ?_
   refine GoR.pass rfl rfl ?_
   refine GoR.pass rfl rfl ?_
   refine GoR.pass rfl rfl ?_
   refine GoR.pass rfl rfl ?_
   refine GoR.pass rfl rfl ?_
   refine GoR.op ((op_pickT rfl rfl rfl) _) rfl rfl ?_
   refine GoR.op ((op_move rfl) _) rfl rfl ?_
   refine GoR.pass rfl rfl ?_
   refine GoR.pass rfl rfl ?_
   refine GoR.pass rfl rfl ?_
   refine GoR.pass rfl rfl ?_
   refine GoR.pass rfl rfl ?_
   refine GoR.pass rfl rfl ?_
   refine GoR.op ((op_pickT rfl rfl rfl) _) rfl rfl ?_
   refine GoR.op ((op_move rfl) _) rfl rfl ?_
   refine GoR.pass rfl rfl ?_
   refine GoR.pass rfl rfl ?_
   refine GoR.pass rfl rfl ?_
   refine GoR.pass rfl rfl ?_
   refine GoR.pass rfl rfl ?_
   refine GoR.pass rfl rfl ?_
   refine GoR.op ((op_pickT rfl rfl rfl) _) rfl rfl ?_
   refine GoR.op ((op_move rfl) _) rfl rfl ?_
   refine GoR.pass rfl rfl ?_
   refine GoR.pass rfl rfl ?_
   refine GoR.pass rfl rfl ?_
   refine GoR.pass rfl rfl ?_
   refine GoR.pass rfl rfl ?_
   refine GoR.pass rfl rfl ?_
   refine GoR.op ((op_pickT rfl rfl rfl) _) rfl rfl ?_
   refine GoR.op ((op_move rfl) _) rfl rfl ?_
   refine GoR.pass rfl rfl ?_
   refine GoR.pass rfl rfl ?_
   refine GoR.pass rfl rfl ?_
   refine GoR.pass rfl rfl ?_
   refine GoR.pass rfl rfl ?_
   refine GoR.pass rfl rfl ?_
   refine GoR.op ((op_pickT rfl rfl rfl) _) rfl rfl ?_
   refine GoR.op ((op_move rfl) _) rfl rfl ?_
   refine GoR.pass rfl rfl ?_
   refine GoR.pass rfl rfl ?_
   refine GoR.pass rfl rfl ?_
   refine GoR.pass rfl rfl ?_
   refine GoR.pass rfl rfl ?_
   refine GoR.pass rfl rfl ?_
   refine GoR.op ((op_pickT rfl rfl rfl) _) rfl rfl ?_
   refine GoR.op ((op_move rfl) _) rfl rfl ?_
   refine GoR.pass rfl rfl ?_
   refine GoR.pass rfl rfl ?_
   refine GoR.pass rfl rfl ?_
   refine GoR.pass rfl rfl ?_
   refine GoR.pass rfl rfl ?_
   refine GoR.pass rfl rfl ?_
   refine GoR.pass rfl rfl ?_
   refine GoR.op ((op_pickT rfl rfl rfl) _) rfl rfl ?_
   refine GoR.nil ?_
   refine Go1.condT rfl rfl ?_
   refine Go1.seq ?_
   refine Go1.cut [] trivial ?_
   intro σ _
   refine Go1.region ?_
   refine GoR.op ((op_assign rfl) _) rfl rfl ?_
   refine GoR.nil ?_
   refine Go1.ret1 Try.func19 rfl ?_
   exact ⟨false, rfl, hB.same, H⟩
  replace H := ifn h61 H
  refine GoR.op (opB ((oblk (i := 1) 0 hO rfl rfl Try.underlying4 rfl rfl) _ (Same.refl _)) (Bool.eq_false_iff.2 h61)) rfl rfl ?_
  refine GoR.op ((op_neqB Try.underlying4 rfl rfl) _) rfl rfl ?_
  refine GoR.op ((op_pickF rfl rfl rfl) _) rfl rfl ?_
  refine GoR.op ((op_move rfl) _) rfl rfl ?_
  refine GoR.op ((op_fieldAddr Try.underlying29 rfl ti3 rfl (by decide)) _) rfl rfl ?_
  refine GoR.op ((oblk (i := 8) 1 hO rfl rfl Try.underlying3 rfl rfl) _ (Same.refl _)) rfl rfl ?_
  refine GoR.op ((op_fieldAddr Try.underlying29 rfl ti3 rfl (by decide)) _) rfl rfl ?_
  refine GoR.op ((oblk (i := 8) 0 hO rfl rfl Try.underlying3 rfl rfl) _ (Same.refl _)) rfl rfl ?_
  by_cases h62 : a0.Done = a1.Done
  ·replace H := ifp h62 H
   refine GoR.op ((fun w => opB (op_neq rfl rfl w) (ndT h62)) _) rfl rfl ?_
   refine GoR.op ((op_pickF rfl rfl rfl) _) rfl rfl ?_
   refine GoR.op ((op_move rfl) _) rfl rfl ?_
   refine GoR.op ((op_fieldAddr Try.underlying29 rfl ti22 rfl (by decide)) _) rfl rfl ?_
   refine GoR.op ((oblk (i := 2) 1 hO rfl rfl Try.underlying22 rfl rfl) _ (Same.refl _)) rfl rfl ?_
   refine GoR.op ((op_fieldAddr Try.underlying29 rfl ti22 rfl (by decide)) _) rfl rfl ?_
   refine GoR.op ((oblk (i := 2) 0 hO rfl rfl Try.underlying22 rfl rfl) _ (Same.refl _)) rfl rfl ?_
   refine GoR.call (op_call body45 rfl (walk_ref03_SameRows hO.lt dk dm H)) rfl rfl ?_
   rintro v67 w64 ⟨r63, rfl, D4, H⟩
   have eV := Stp.same hO D4
   replace hO := eV.own
   replace dk := dk.ch eV.ch
   replace cI := cI.ch eV.ch
   replace cb := cb.ch eV.ch
   replace dl := dl.ch eV.ch
   replace cJ := cJ.ch eV.ch
   replace bT := bT.ch eV.ch
   replace dm := dm.ch eV.ch
   replace cK := cK.ch eV.ch
   replace cd := cd.ch eV.ch
   replace dn := dn.ch eV.ch
   replace cL := cL.ch eV.ch
   replace b4 := b4.ch eV.ch
   replace hB := hB.trans eV.fr
   cases r63
   ·replace H := ifn Bool.false_ne_true H
    refine GoR.op ((op_not rfl) _) rfl rfl ?_
    refine GoR.op ((op_pickF rfl rfl rfl) _) rfl rfl ?_
    refine GoR.op ((op_move rfl) _) rfl rfl ?_
    refine GoR.pass rfl rfl ?_
    refine GoR.pass rfl rfl ?_
    refine GoR.pass rfl rfl ?_
    refine GoR.pass rfl rfl ?_
    refine GoR.pass rfl rfl ?_
    refine GoR.pass rfl rfl ?_
    refine GoR.op ((op_pickT rfl rfl rfl) _) rfl rfl ?_
    refine GoR.op ((op_move rfl) _) rfl rfl ?_
    refine GoR.pass rfl rfl ?_
    refine GoR.pass rfl rfl ?_
    refine GoR.pass rfl rfl ?_
    refine GoR.pass rfl rfl ?_
    refine GoR.pass rfl rfl ?_
    refine GoR.pass rfl rfl ?_
    refine GoR.op ((op_pickT rfl rfl rfl) _) rfl rfl ?_
    refine GoR.op ((op_move rfl) _) rfl rfl ?_
    refine GoR.pass rfl rfl ?_
    refine GoR.pass rfl rfl ?_
    refine GoR.pass rfl rfl ?_
    refine GoR.pass rfl rfl ?_
    refine GoR.pass rfl rfl ?_
    refine GoR.pass rfl rfl ?_
    refine GoR.op ((op_pickT rfl rfl rfl) _) rfl rfl ?_
    refine GoR.op ((op_move rfl) _) rfl rfl ?_
    refine GoR.pass rfl rfl ?_
    refine GoR.pass rfl rfl ?_
    refine GoR.pass rfl rfl ?_
    refine GoR.pass rfl rfl ?_
    refine GoR.pass rfl rfl ?_
    refine GoR.pass rfl rfl ?_
    refine GoR.op ((op_pickT rfl rfl rfl) _) rfl rfl ?_
    refine GoR.op ((op_move rfl) _) rfl rfl ?_
    refine GoR.pass rfl rfl ?_
    refine GoR.pass rfl rfl ?_
    refine GoR.pass rfl rfl ?_
    refine GoR.pass rfl rfl ?_
    refine GoR.pass rfl rfl ?_
    refine GoR.pass rfl rfl ?_
    refine GoR.pass rfl rfl ?_
    refine GoR.op ((op_pickT rfl rfl rfl) _) rfl rfl ?_
    refine GoR.nil ?_
    refine Go1.condT rfl rfl ?_
    refine Go1.seq ?_
    refine Go1.cut [] trivial ?_
    intro σ _
    refine Go1.region ?_
    refine GoR.op ((op_assign rfl) _) rfl rfl ?_
    refine GoR.nil ?_
    refine Go1.ret1 Try.func19 rfl ?_
    exact ⟨false, rfl, hB.same, H⟩
   replace H := ifp rfl H
   refine GoR.op ((op_not rfl) _) rfl rfl ?_
   refine GoR.op ((op_pickF rfl rfl rfl) _) rfl rfl ?_
   refine GoR.op ((op_move rfl) _) rfl rfl ?_
   refine GoR.op ((op_fieldAddr Try.underlying29 rfl ti22 rfl (by decide)) _) rfl rfl ?_
   refine GoR.op ((oblk (i := 3) 1 hO rfl rfl Try.underlying22 rfl rfl) _ (Same.refl _)) rfl rfl ?_
   refine GoR.op ((op_fieldAddr Try.underlying29 rfl ti22 rfl (by decide)) _) rfl rfl ?_
   refine GoR.op ((oblk (i := 3) 0 hO rfl rfl Try.underlying22 rfl rfl) _ (Same.refl _)) rfl rfl ?_
   refine GoR.call (op_call body45 rfl (walk_ref03_SameRows hO.lt cI cK H)) rfl rfl ?_
   rintro v73 w70 ⟨r69, rfl, LV, H⟩
   have jy := Stp.same hO LV
   replace hO := jy.own
   replace dk := dk.ch jy.ch
   replace cI := cI.ch jy.ch
   replace cb := cb.ch jy.ch
   replace dl := dl.ch jy.ch
   replace cJ := cJ.ch jy.ch
   replace bT := bT.ch jy.ch
   replace dm := dm.ch jy.ch
   replace cK := cK.ch jy.ch
   replace cd := cd.ch jy.ch
   replace dn := dn.ch jy.ch
   replace cL := cL.ch jy.ch
   replace b4 := b4.ch jy.ch
   replace hB := hB.trans jy.fr
   cases r69
   ·replace H := ifn Bool.false_ne_true H
    refine GoR.op ((op_not rfl) _) rfl rfl ?_
    refine GoR.op ((op_pickF rfl rfl rfl) _) rfl rfl ?_
    refine GoR.op ((op_move rfl) _) rfl rfl ?_
    refine GoR.pass rfl rfl ?_
    refine GoR.pass rfl rfl ?_
    refine GoR.pass rfl rfl ?_
    refine GoR.pass rfl rfl ?_
    refine GoR.pass rfl rfl ?_
    refine GoR.pass rfl rfl ?_
    refine GoR.op ((op_pickT rfl rfl rfl) _) rfl rfl ?_
    refine GoR.op ((op_move rfl) _) rfl rfl ?_
    refine GoR.pass rfl rfl ?_
    refine GoR.pass rfl rfl ?_
    refine GoR.pass rfl rfl ?_
    refine GoR.pass rfl rfl ?_
    refine GoR.pass rfl rfl ?_
    refine GoR.pass rfl rfl ?_
    refine GoR.op ((op_pickT rfl rfl rfl) _) rfl rfl ?_
    refine GoR.op ((op_move rfl) _) rfl rfl ?_
    refine GoR.pass rfl rfl ?_
    refine GoR.pass rfl rfl ?_
    refine GoR.pass rfl rfl ?_
    refine GoR.pass rfl rfl ?_
    refine GoR.pass rfl rfl ?_
    refine GoR.pass rfl rfl ?_
    refine GoR.op ((op_pickT rfl rfl rfl) _) rfl rfl ?_
    refine GoR.op ((op_move rfl) _) rfl rfl ?_
    refine GoR.pass rfl rfl ?_
    refine GoR.pass rfl rfl ?_
    refine GoR.pass rfl rfl ?_
    refine GoR.pass rfl rfl ?_
    refine GoR.pass rfl rfl ?_
    refine GoR.pass rfl rfl ?_
    refine GoR.pass rfl rfl ?_
    refine GoR.op ((op_pickT rfl rfl rfl) _) rfl rfl ?_
    refine GoR.nil ?_
    refine Go1.condT rfl rfl ?_
    refine Go1.seq ?_
    refine Go1.cut [] trivial ?_
    intro σ _
    refine Go1.region ?_
    refine GoR.op ((op_assign rfl) _) rfl rfl ?_
    refine GoR.nil ?_
    refine Go1.ret1 Try.func19 rfl ?_
    exact ⟨false, rfl, hB.same, H⟩
   replace H := ifp rfl H
   refine GoR.op ((op_not rfl) _) rfl rfl ?_
   refine GoR.op ((op_pickF rfl rfl rfl) _) rfl rfl ?_
   refine GoR.op ((op_move rfl) _) rfl rfl ?_
   refine GoR.op ((op_fieldAddr Try.underlying29 rfl ti26 rfl (by decide)) _) rfl rfl ?_
   refine GoR.op ((oblk (i := 4) 1 hO rfl rfl Try.underlying26 rfl rfl) _ (Same.refl _)) rfl rfl ?_
   refine GoR.op ((op_fieldAddr Try.underlying29 rfl ti26 rfl (by decide)) _) rfl rfl ?_
   refine GoR.op ((oblk (i := 4) 0 hO rfl rfl Try.underlying26 rfl rfl) _ (Same.refl _)) rfl rfl ?_
   refine GoR.call (op_call body34 rfl (walk_ref03_Same hO.lt cb cd H)) rfl rfl ?_
   rintro v79 w76 ⟨r75, rfl, Di, H⟩
   have jz := Stp.same hO Di
   replace hO := jz.own
   replace dk := dk.ch jz.ch
   replace cI := cI.ch jz.ch
   replace cb := cb.ch jz.ch
   replace dl := dl.ch jz.ch
   replace cJ := cJ.ch jz.ch
   replace bT := bT.ch jz.ch
   replace dm := dm.ch jz.ch
   replace cK := cK.ch jz.ch
   replace cd := cd.ch jz.ch
   replace dn := dn.ch jz.ch
   replace cL := cL.ch jz.ch
   replace b4 := b4.ch jz.ch
   replace hB := hB.trans jz.fr
   cases r75
   ·replace H := ifn Bool.false_ne_true H
    refine GoR.op ((op_not rfl) _) rfl rfl ?_
    refine GoR.op ((op_pickF rfl rfl rfl) _) rfl rfl ?_
    refine GoR.op ((op_move rfl) _) rfl rfl ?_
    refine GoR.pass rfl rfl ?_
    refine GoR.pass rfl rfl ?_
    refine GoR.pass rfl rfl ?_
    refine GoR.pass rfl rfl ?_
    refine GoR.pass rfl rfl ?_
    refine GoR.pass rfl rfl ?_
    refine GoR.op ((op_pickT rfl rfl rfl) _) rfl rfl ?_
    refine GoR.op ((op_move rfl) _) rfl rfl ?_
    refine GoR.pass rfl rfl ?_
    refine GoR.pass rfl rfl ?_
    refine GoR.pass rfl rfl ?_
    refine GoR.pass rfl rfl ?_
    refine GoR.pass rfl rfl ?_
    refine GoR.pass rfl rfl ?_
    refine GoR.op ((op_pickT rfl rfl rfl) _) rfl rfl ?_
    refine GoR.op ((op_move rfl) _) rfl rfl ?_
    refine GoR.pass rfl rfl ?_
    refine GoR.pass rfl rfl ?_
    refine GoR.pass rfl rfl ?_
    refine GoR.pass rfl rfl ?_
    refine GoR.pass rfl rfl ?_
    refine GoR.pass rfl rfl ?_
    refine GoR.pass rfl rfl ?_
    refine GoR.op ((op_pickT rfl rfl rfl) _) rfl rfl ?_
    refine GoR.nil ?_
    refine Go1.condT rfl rfl ?_
    refine Go1.seq ?_
    refine Go1.cut [] trivial ?_
    intro σ _
    refine Go1.region ?_
    refine GoR.op ((op_assign rfl) _) rfl rfl ?_
    refine GoR.nil ?_
    refine Go1.ret1 Try.func19 rfl ?_
    exact ⟨false, rfl, hB.same, H⟩
   replace H := ifp rfl H
   refine GoR.op ((op_not rfl) _) rfl rfl ?_
   refine GoR.op ((op_pickF rfl rfl rfl) _) rfl rfl ?_
   refine GoR.op ((op_move rfl) _) rfl rfl ?_
   refine GoR.op ((op_fieldAddr Try.underlying29 rfl ti26 rfl (by decide)) _) rfl rfl ?_
   refine GoR.op ((oblk (i := 5) 1 hO rfl rfl Try.underlying26 rfl rfl) _ (Same.refl _)) rfl rfl ?_
   refine GoR.op ((op_fieldAddr Try.underlying29 rfl ti26 rfl (by decide)) _) rfl rfl ?_
   refine GoR.op ((oblk (i := 5) 0 hO rfl rfl Try.underlying26 rfl rfl) _ (Same.refl _)) rfl rfl ?_
   refine GoR.call (op_call body34 rfl (walk_ref03_Same hO.lt dl dn H)) rfl rfl ?_
   rintro v85 w82 ⟨r81, rfl, LW, H⟩
   have mH := Stp.same hO LW
   replace hO := mH.own
   replace dk := dk.ch mH.ch
   replace cI := cI.ch mH.ch
   replace cb := cb.ch mH.ch
   replace dl := dl.ch mH.ch
   replace cJ := cJ.ch mH.ch
   replace bT := bT.ch mH.ch
   replace dm := dm.ch mH.ch
   replace cK := cK.ch mH.ch
   replace cd := cd.ch mH.ch
   replace dn := dn.ch mH.ch
   replace cL := cL.ch mH.ch
   replace b4 := b4.ch mH.ch
   replace hB := hB.trans mH.fr
   cases r81
   ·replace H := ifn Bool.false_ne_true H
    refine GoR.op ((op_not rfl) _) rfl rfl ?_
    refine GoR.op ((op_pickF rfl rfl rfl) _) rfl rfl ?_
    refine GoR.op ((op_move rfl) _) rfl rfl ?_
    refine GoR.pass rfl rfl ?_
    refine GoR.pass rfl rfl ?_
    refine GoR.pass rfl rfl ?_
    refine GoR.pass rfl rfl ?_
    refine GoR.pass rfl rfl ?_
    refine GoR.pass rfl rfl ?_
    refine GoR.op ((op_pickT rfl rfl rfl) _) rfl rfl ?_
    refine GoR.op ((op_move rfl) _) rfl rfl ?_
    refine GoR.pass rfl rfl ?_
    refine GoR.pass rfl rfl ?_
    refine GoR.pass rfl rfl ?_
    refine GoR.pass rfl rfl ?_
    refine GoR.pass rfl rfl ?_
    refine GoR.pass rfl rfl ?_
    refine GoR.pass rfl rfl ?_
    refine GoR.op ((op_pickT rfl rfl rfl) _) rfl rfl ?_
    refine GoR.nil ?_
    refine Go1.condT rfl rfl ?_
    refine Go1.seq ?_
    refine Go1.cut [] trivial ?_
    intro σ _
    refine Go1.region ?_
    refine GoR.op ((op_assign rfl) _) rfl rfl ?_
    refine GoR.nil ?_
    refine Go1.ret1 Try.func19 rfl ?_
    exact ⟨false, rfl, hB.same, H⟩
   replace H := ifp rfl H
   refine GoR.op ((op_not rfl) _) rfl rfl ?_
   refine GoR.op ((op_pickF rfl rfl rfl) _) rfl rfl ?_
   refine GoR.op ((op_move rfl) _) rfl rfl ?_
   refine GoR.op ((op_fieldAddr Try.underlying29 rfl ti22 rfl (by decide)) _) rfl rfl ?_
   refine GoR.op ((oblk (i := 6) 1 hO rfl rfl Try.underlying22 rfl rfl) _ (Same.refl _)) rfl rfl ?_
   refine GoR.op ((op_fieldAddr Try.underlying29 rfl ti22 rfl (by decide)) _) rfl rfl ?_
   refine GoR.op ((oblk (i := 6) 0 hO rfl rfl Try.underlying22 rfl rfl) _ (Same.refl _)) rfl rfl ?_
   refine GoR.call (op_call body45 rfl (walk_ref03_SameRows hO.lt cJ cL H)) rfl rfl ?_
   rintro v91 w88 ⟨r87, rfl, LX, H⟩
   have oo := Stp.same hO LX
   replace hO := oo.own
   replace dk := dk.ch oo.ch
   replace cI := cI.ch oo.ch
   replace cb := cb.ch oo.ch
   replace dl := dl.ch oo.ch
   replace cJ := cJ.ch oo.ch
   replace bT := bT.ch oo.ch
   replace dm := dm.ch oo.ch
   replace cK := cK.ch oo.ch
   replace cd := cd.ch oo.ch
   replace dn := dn.ch oo.ch
   replace cL := cL.ch oo.ch
   replace b4 := b4.ch oo.ch
   replace hB := hB.trans oo.fr
   cases r87
   ·replace H := ifn Bool.false_ne_true H
    refine GoR.op ((op_not rfl) _) rfl rfl ?_
    refine GoR.op ((op_pickF rfl rfl rfl) _) rfl rfl ?_
    refine GoR.op ((op_move rfl) _) rfl rfl ?_
    refine GoR.pass rfl rfl ?_
    refine GoR.pass rfl rfl ?_
    refine GoR.pass rfl rfl ?_
    refine GoR.pass rfl rfl ?_
    refine GoR.pass rfl rfl ?_
    refine GoR.pass rfl rfl ?_
    refine GoR.pass rfl rfl ?_
    refine GoR.op ((op_pickT rfl rfl rfl) _) rfl rfl ?_
    refine GoR.nil ?_
    refine Go1.condT rfl rfl ?_
    refine Go1.seq ?_
    refine Go1.cut [] trivial ?_
    intro σ _
    refine Go1.region ?_
    refine GoR.op ((op_assign rfl) _) rfl rfl ?_
    refine GoR.nil ?_
    refine Go1.ret1 Try.func19 rfl ?_
    exact ⟨false, rfl, hB.same, H⟩
   replace H := ifp rfl H
   refine GoR.op ((op_not rfl) _) rfl rfl ?_
   refine GoR.op ((op_pickF rfl rfl rfl) _) rfl rfl ?_
   refine GoR.op ((op_move rfl) _) rfl rfl ?_
   refine GoR.op ((op_fieldAddr Try.underlying29 rfl ti27 rfl (by decide)) _) rfl rfl ?_
   refine GoR.op ((oblk (i := 7) 1 hO rfl rfl Try.underlying27 rfl rfl) _ (Same.refl _)) rfl rfl ?_
   refine GoR.op ((op_len Try.underlying27 rfl) _) rfl rfl ?_
   replace H := H bT.bd
   refine GoR.op ((op_fieldAddr Try.underlying29 rfl ti27 rfl (by decide)) _) rfl rfl ?_
   refine GoR.op ((oblk (i := 7) 0 hO rfl rfl Try.underlying27 rfl rfl) _ (Same.refl _)) rfl rfl ?_
   refine GoR.op ((op_len Try.underlying27 rfl) _) rfl rfl ?_
   replace H := H b4.bd
   by_cases h93 : (a0.Rules.length : Int) = (a1.Rules.length : Int)
   ·replace H := ifp h93 H
    refine GoR.op ((fun w => opB (op_neq rfl rfl w) (ndT h93)) _) rfl rfl ?_
    refine GoR.op ((op_pickF rfl rfl rfl) _) rfl rfl ?_
    refine GoR.nil ?_
    refine Go1.condF rfl rfl ?_
    refine Go1.skip ?_
    refine Go1.seq ?_
    refine Go1.seq ?_
    refine Go1.region ?_
    refine GoR.op ((op_fieldAddr Try.underlying29 rfl ti27 rfl (by decide)) _) rfl rfl ?_
    refine GoR.op ((oblk (i := 7) 1 hO rfl rfl Try.underlying27 rfl rfl) _ (Same.refl _)) rfl rfl ?_
    refine GoR.op ((op_len Try.underlying27 rfl) _) rfl rfl ?_
    refine GoR.op ((op_move rfl) _) rfl rfl ?_
    refine GoR.nil ?_
    refine Go1.block ?_
    refine Go1.loopW (S := Nat) (fun s σ w => agrees σ [(2, .pointer (some ⟨B2, 0, none⟩)), (3, .pointer (some ⟨B8, 0, none⟩)), (76, .int .i64 (a0.Rules.length : Int)), (77, .int .i64 (s : Int))] ∧ Owns w0.heap.size w [.blk B8 (.cells #[.int .i64 a1.Points, .bool a1.Monoid, .slice dG a1.Gens.length dH, .slice db a1.Elems.length dc, .slice cB a1.Prefix.length cC, .slice dI a1.Last.length dJ, .slice de a1.Right.length dg, .slice dh a1.Rules.length di, .int .i64 a1.Done] 29 (0, 0)), .blk B2 (.cells #[.int .i64 a0.Points, .bool a0.Monoid, .slice dC a0.Gens.length dD, .slice cY a0.Elems.length cZ, .slice cz a0.Prefix.length cA, .slice dE a0.Last.length dF, .slice c5 a0.Right.length c6, .slice c7 a0.Rules.length da, .int .i64 a0.Done] 29 (0, 0))] A ∧ ISl (Rp.sl (Rp.int .i64)) (bl [.blk B8 (.cells #[.int .i64 a1.Points, .bool a1.Monoid, .slice dG a1.Gens.length dH, .slice db a1.Elems.length dc, .slice cB a1.Prefix.length cC, .slice dI a1.Last.length dJ, .slice de a1.Right.length dg, .slice dh a1.Rules.length di, .int .i64 a1.Done] 29 (0, 0)), .blk B2 (.cells #[.int .i64 a0.Points, .bool a0.Monoid, .slice dC a0.Gens.length dD, .slice cY a0.Elems.length cZ, .slice cz a0.Prefix.length cA, .slice dE a0.Last.length dF, .slice c5 a0.Right.length c6, .slice c7 a0.Rules.length da, .int .i64 a0.Done] 29 (0, 0))] ++ A) w dC dD a0.Gens ∧ ISl (Rp.sl (Rp.int .i64)) (bl [.blk B8 (.cells #[.int .i64 a1.Points, .bool a1.Monoid, .slice dG a1.Gens.length dH, .slice db a1.Elems.length dc, .slice cB a1.Prefix.length cC, .slice dI a1.Last.length dJ, .slice de a1.Right.length dg, .slice dh a1.Rules.length di, .int .i64 a1.Done] 29 (0, 0)), .blk B2 (.cells #[.int .i64 a0.Points, .bool a0.Monoid, .slice dC a0.Gens.length dD, .slice cY a0.Elems.length cZ, .slice cz a0.Prefix.length cA, .slice dE a0.Last.length dF, .slice c5 a0.Right.length c6, .slice c7 a0.Rules.length da, .int .i64 a0.Done] 29 (0, 0))] ++ A) w cY cZ a0.Elems ∧ ISl (Rp.int .i64) (bl [.blk B8 (.cells #[.int .i64 a1.Points, .bool a1.Monoid, .slice dG a1.Gens.length dH, .slice db a1.Elems.length dc, .slice cB a1.Prefix.length cC, .slice dI a1.Last.length dJ, .slice de a1.Right.length dg, .slice dh a1.Rules.length di, .int .i64 a1.Done] 29 (0, 0)), .blk B2 (.cells #[.int .i64 a0.Points, .bool a0.Monoid, .slice dC a0.Gens.length dD, .slice cY a0.Elems.length cZ, .slice cz a0.Prefix.length cA, .slice dE a0.Last.length dF, .slice c5 a0.Right.length c6, .slice c7 a0.Rules.length da, .int .i64 a0.Done] 29 (0, 0))] ++ A) w cz cA a0.Prefix ∧ ISl (Rp.int .i64) (bl [.blk B8 (.cells #[.int .i64 a1.Points, .bool a1.Monoid, .slice dG a1.Gens.length dH, .slice db a1.Elems.length dc, .slice cB a1.Prefix.length cC, .slice dI a1.Last.length dJ, .slice de a1.Right.length dg, .slice dh a1.Rules.length di, .int .i64 a1.Done] 29 (0, 0)), .blk B2 (.cells #[.int .i64 a0.Points, .bool a0.Monoid, .slice dC a0.Gens.length dD, .slice cY a0.Elems.length cZ, .slice cz a0.Prefix.length cA, .slice dE a0.Last.length dF, .slice c5 a0.Right.length c6, .slice c7 a0.Rules.length da, .int .i64 a0.Done] 29 (0, 0))] ++ A) w dE dF a0.Last ∧ ISl (Rp.sl (Rp.int .i64)) (bl [.blk B8 (.cells #[.int .i64 a1.Points, .bool a1.Monoid, .slice dG a1.Gens.length dH, .slice db a1.Elems.length dc, .slice cB a1.Prefix.length cC, .slice dI a1.Last.length dJ, .slice de a1.Right.length dg, .slice dh a1.Rules.length di, .int .i64 a1.Done] 29 (0, 0)), .blk B2 (.cells #[.int .i64 a0.Points, .bool a0.Monoid, .slice dC a0.Gens.length dD, .slice cY a0.Elems.length cZ, .slice cz a0.Prefix.length cA, .slice dE a0.Last.length dF, .slice c5 a0.Right.length c6, .slice c7 a0.Rules.length da, .int .i64 a0.Done] 29 (0, 0))] ++ A) w c5 c6 a0.Right ∧ ISl (rpRule) (bl [.blk B8 (.cells #[.int .i64 a1.Points, .bool a1.Monoid, .slice dG a1.Gens.length dH, .slice db a1.Elems.length dc, .slice cB a1.Prefix.length cC, .slice dI a1.Last.length dJ, .slice de a1.Right.length dg, .slice dh a1.Rules.length di, .int .i64 a1.Done] 29 (0, 0)), .blk B2 (.cells #[.int .i64 a0.Points, .bool a0.Monoid, .slice dC a0.Gens.length dD, .slice cY a0.Elems.length cZ, .slice cz a0.Prefix.length cA, .slice dE a0.Last.length dF, .slice c5 a0.Right.length c6, .slice c7 a0.Rules.length da, .int .i64 a0.Done] 29 (0, 0))] ++ A) w c7 da a0.Rules ∧ ISl (Rp.sl (Rp.int .i64)) (bl [.blk B8 (.cells #[.int .i64 a1.Points, .bool a1.Monoid, .slice dG a1.Gens.length dH, .slice db a1.Elems.length dc, .slice cB a1.Prefix.length cC, .slice dI a1.Last.length dJ, .slice de a1.Right.length dg, .slice dh a1.Rules.length di, .int .i64 a1.Done] 29 (0, 0)), .blk B2 (.cells #[.int .i64 a0.Points, .bool a0.Monoid, .slice dC a0.Gens.length dD, .slice cY a0.Elems.length cZ, .slice cz a0.Prefix.length cA, .slice dE a0.Last.length dF, .slice c5 a0.Right.length c6, .slice c7 a0.Rules.length da, .int .i64 a0.Done] 29 (0, 0))] ++ A) w dG dH a1.Gens ∧ ISl (Rp.sl (Rp.int .i64)) (bl [.blk B8 (.cells #[.int .i64 a1.Points, .bool a1.Monoid, .slice dG a1.Gens.length dH, .slice db a1.Elems.length dc, .slice cB a1.Prefix.length cC, .slice dI a1.Last.length dJ, .slice de a1.Right.length dg, .slice dh a1.Rules.length di, .int .i64 a1.Done] 29 (0, 0)), .blk B2 (.cells #[.int .i64 a0.Points, .bool a0.Monoid, .slice dC a0.Gens.length dD, .slice cY a0.Elems.length cZ, .slice cz a0.Prefix.length cA, .slice dE a0.Last.length dF, .slice c5 a0.Right.length c6, .slice c7 a0.Rules.length da, .int .i64 a0.Done] 29 (0, 0))] ++ A) w db dc a1.Elems ∧ ISl (Rp.int .i64) (bl [.blk B8 (.cells #[.int .i64 a1.Points, .bool a1.Monoid, .slice dG a1.Gens.length dH, .slice db a1.Elems.length dc, .slice cB a1.Prefix.length cC, .slice dI a1.Last.length dJ, .slice de a1.Right.length dg, .slice dh a1.Rules.length di, .int .i64 a1.Done] 29 (0, 0)), .blk B2 (.cells #[.int .i64 a0.Points, .bool a0.Monoid, .slice dC a0.Gens.length dD, .slice cY a0.Elems.length cZ, .slice cz a0.Prefix.length cA, .slice dE a0.Last.length dF, .slice c5 a0.Right.length c6, .slice c7 a0.Rules.length da, .int .i64 a0.Done] 29 (0, 0))] ++ A) w cB cC a1.Prefix ∧ ISl (Rp.int .i64) (bl [.blk B8 (.cells #[.int .i64 a1.Points, .bool a1.Monoid, .slice dG a1.Gens.length dH, .slice db a1.Elems.length dc, .slice cB a1.Prefix.length cC, .slice dI a1.Last.length dJ, .slice de a1.Right.length dg, .slice dh a1.Rules.length di, .int .i64 a1.Done] 29 (0, 0)), .blk B2 (.cells #[.int .i64 a0.Points, .bool a0.Monoid, .slice dC a0.Gens.length dD, .slice cY a0.Elems.length cZ, .slice cz a0.Prefix.length cA, .slice dE a0.Last.length dF, .slice c5 a0.Right.length c6, .slice c7 a0.Rules.length da, .int .i64 a0.Done] 29 (0, 0))] ++ A) w dI dJ a1.Last ∧ ISl (Rp.sl (Rp.int .i64)) (bl [.blk B8 (.cells #[.int .i64 a1.Points, .bool a1.Monoid, .slice dG a1.Gens.length dH, .slice db a1.Elems.length dc, .slice cB a1.Prefix.length cC, .slice dI a1.Last.length dJ, .slice de a1.Right.length dg, .slice dh a1.Rules.length di, .int .i64 a1.Done] 29 (0, 0)), .blk B2 (.cells #[.int .i64 a0.Points, .bool a0.Monoid, .slice dC a0.Gens.length dD, .slice cY a0.Elems.length cZ, .slice cz a0.Prefix.length cA, .slice dE a0.Last.length dF, .slice c5 a0.Right.length c6, .slice c7 a0.Rules.length da, .int .i64 a0.Done] 29 (0, 0))] ++ A) w de dg a1.Right ∧ ISl (rpRule) (bl [.blk B8 (.cells #[.int .i64 a1.Points, .bool a1.Monoid, .slice dG a1.Gens.length dH, .slice db a1.Elems.length dc, .slice cB a1.Prefix.length cC, .slice dI a1.Last.length dJ, .slice de a1.Right.length dg, .slice dh a1.Rules.length di, .int .i64 a1.Done] 29 (0, 0)), .blk B2 (.cells #[.int .i64 a0.Points, .bool a0.Monoid, .slice dC a0.Gens.length dD, .slice cY a0.Elems.length cZ, .slice cz a0.Prefix.length cA, .slice dE a0.Last.length dF, .slice c5 a0.Right.length c6, .slice c7 a0.Rules.length da, .int .i64 a0.Done] 29 (0, 0))] ++ A) w dh di a1.Rules ∧ Fr (bl []) w0 (bl [.blk B8 (.cells #[.int .i64 a1.Points, .bool a1.Monoid, .slice dG a1.Gens.length dH, .slice db a1.Elems.length dc, .slice cB a1.Prefix.length cC, .slice dI a1.Last.length dJ, .slice de a1.Right.length dg, .slice dh a1.Rules.length di, .int .i64 a1.Done] 29 (0, 0)), .blk B2 (.cells #[.int .i64 a0.Points, .bool a0.Monoid, .slice dC a0.Gens.length dD, .slice cY a0.Elems.length cZ, .slice cz a0.Prefix.length cA, .slice dE a0.Last.length dF, .slice c5 a0.Right.length c6, .slice c7 a0.Rules.length da, .int .i64 a0.Done] 29 (0, 0))]) w) H ⟨⟨rfl, rfl, rfl, rfl, trivial⟩, hO, dk, cI, cb, dl, cJ, bT, dm, cK, cd, dn, cL, b4, hB⟩ ?_
    intro X2 k2_95
    intro H hX2 σ w94
    refine andE fun hag => andE fun hO => andE fun dk => andE fun cI => andE fun cb => andE fun dl => andE fun cJ => andE fun bT => andE fun dm => andE fun cK => andE fun cd => andE fun dn => andE fun cL => andE fun b4 => fun hB => ?_
    refine Go1.keep [(2, .pointer (some ⟨B2, 0, none⟩)), (3, .pointer (some ⟨B8, 0, none⟩)), (76, .int .i64 (a0.Rules.length : Int)), (77, .int .i64 (k2_95 : Int))] hag ?_
    refine Go1.seq ?_
    refine Go1.region ?_
    by_cases h96 : (k2_95 : Int) < (a0.Rules.length : Int)
    ·replace H := ifp h96 H
     refine GoR.op ((fun w => opB (op_lss rfl rfl w) (decide_eq_true h96)) _) rfl rfl ?_
     refine GoR.nil ?_
     refine Go1.seq ?_
     refine Go1.condT rfl rfl ?_
     refine Go1.skip ?_
     refine Go1.seq ?_
     refine Go1.block ?_
     refine Go1.seq ?_
     refine Go1.region ?_
     refine GoR.op ((op_move rfl) _) rfl rfl ?_
     refine GoR.op ((op_assign rfl) _) rfl rfl ?_
     refine GoR.nil ?_
     refine Go1.seq ?_
     refine Go1.drawS 0 [(0, .pure), (1, .stable), (2, .pure), (3, .pure), (4, .stable), (5, .pure), (6, .stable), (7, .pure), (8, .pure), (9, .stable), (10, .pure)] mixed (by kernel_rfl) ?_
     intro w97 LY
     have tN := Stp.same hO LY
     replace hO := tN.own
     replace dk := dk.ch tN.ch
     replace cI := cI.ch tN.ch
     replace cb := cb.ch tN.ch
     replace dl := dl.ch tN.ch
     replace cJ := cJ.ch tN.ch
     replace bT := bT.ch tN.ch
     replace dm := dm.ch tN.ch
     replace cK := cK.ch tN.ch
     replace cd := cd.ch tN.ch
     replace dn := dn.ch tN.ch
     replace cL := cL.ch tN.ch
     replace b4 := b4.ch tN.ch
     replace hB := hB.trans tN.fr
     refine GoQ.pure rfl (op_fieldAddr Try.underlying29 rfl ti27 rfl (by decide)) rfl rfl ?_
     refine GoQ.stable rfl (oblk (i := 7) 1 hO rfl rfl Try.underlying27 rfl rfl) rfl rfl ?_
     refine GoQ.pure rfl (op_move rfl) rfl rfl ?_
     obtain ⟨yi, H⟩ := H
     obtain ⟨yj, H⟩ := H
     refine GoQ.pure rfl (op_index Try.underlying27 ti39 rfl rfl yi yj (bT.some_ yi yj)) rfl rfl ?_
     have hok102 := ldFlatOk bT yi yj
     refine GoQ.stable rfl (ldFlat bT yi yj Try.underlying39 rfl ti39 rfl) rfl rfl ?_
     refine GoQ.pure rfl (op_fieldAddr Try.underlying29 rfl ti27 rfl (by decide)) rfl rfl ?_
     refine GoQ.stable rfl (oblk (i := 7) 0 hO rfl rfl Try.underlying27 rfl rfl) rfl rfl ?_
     refine GoQ.pure rfl (op_move rfl) rfl rfl ?_
     obtain ⟨xP, H⟩ := H
     obtain ⟨xK, H⟩ := H
     refine GoQ.pure rfl (op_index Try.underlying27 ti39 rfl rfl xP xK (b4.some_ xP xK)) rfl rfl ?_
     have hok105 := ldFlatOk b4 xP xK
     refine GoQ.stable rfl (ldFlat b4 xP xK Try.underlying39 rfl ti39 rfl) rfl rfl ?_
     by_cases yk : (((ix a0.Rules (k2_95 : Int)).Left) = ((ix a1.Rules (k2_95 : Int)).Left) ∧ ((ix a0.Rules (k2_95 : Int)).Right) = ((ix a1.Rules (k2_95 : Int)).Right))
     ·replace H := ifp yk H
      refine GoQ.pure rfl (fun w => opB (op_neqSS Try.underlying39 eqh39 eqg39 (by decide) (by decide) rfl rfl Try.underlying9 Try.underlying9 rfl rfl w) (ndT yk)) rfl rfl ?_
      refine GoQ.nil ?_
      refine Go1.condF rfl rfl ?_
      refine Go1.skip ?_
      refine Go1.inBlock ?_
      refine Go1.region ?_
      refine GoR.op ((op_add rfl rfl (wrap_i64 (natbd h96 bT.bd))) _) rfl rfl ?_
      refine GoR.op ((op_move rfl) _) rfl rfl ?_
      refine GoR.nil ?_
      exact hX2 _ H _ _ ⟨⟨rfl, rfl, rfl, rfl, trivial⟩, hO, dk, cI, cb, dl, cJ, bT, dm, cK, cd, dn, cL, b4, hB⟩
     replace H := ifn yk H
     refine GoQ.pure rfl (fun w => opB (op_neqSS Try.underlying39 eqh39 eqg39 (by decide) (by decide) rfl rfl Try.underlying9 Try.underlying9 rfl rfl w) (ndF yk)) rfl rfl ?_
     refine GoQ.nil ?_
     refine Go1.condT rfl rfl ?_
     refine Go1.seq ?_
     refine Go1.region ?_
     refine GoR.op ((op_assign rfl) _) rfl rfl ?_
     refine GoR.nil ?_
     refine Go1.ret1 Try.func19 rfl ?_
     exact ⟨false, rfl, hB.same, H⟩
    replace H := ifn h96 H
    refine GoR.op ((fun w => opB (op_lss rfl rfl w) (decide_eq_false h96)) _) rfl rfl ?_
    refine GoR.nil ?_
    refine Go1.seq ?_
    refine Go1.condF rfl rfl ?_
    refine Go1.exit rfl ?_
    refine Go1.seq ?_
    refine Go1.region ?_
    refine GoR.op ((op_assign rfl) _) rfl rfl ?_
    refine GoR.nil ?_
    refine Go1.ret1 Try.func19 rfl ?_
    exact ⟨true, rfl, hB.same, H⟩
   replace H := ifn h93 H
   refine GoR.op ((fun w => opB (op_neq rfl rfl w) (ndF h93)) _) rfl rfl ?_
   refine GoR.op ((op_pickF rfl rfl rfl) _) rfl rfl ?_
   refine GoR.nil ?_
   refine Go1.condT rfl rfl ?_
   refine Go1.seq ?_
   refine Go1.cut [] trivial ?_
   intro σ _
   refine Go1.region ?_
   refine GoR.op ((op_assign rfl) _) rfl rfl ?_
   refine GoR.nil ?_
   refine Go1.ret1 Try.func19 rfl ?_
   exact ⟨false, rfl, hB.same, H⟩
  replace H := ifn h62 H
  refine GoR.op ((fun w => opB (op_neq rfl rfl w) (ndF h62)) _) rfl rfl ?_
  refine GoR.op ((op_pickF rfl rfl rfl) _) rfl rfl ?_
  refine GoR.op ((op_move rfl) _) rfl rfl ?_
  refine GoR.pass rfl rfl ?_
  refine GoR.pass rfl rfl ?_
  refine GoR.pass rfl rfl ?_
  refine GoR.pass rfl rfl ?_
  refine GoR.pass rfl rfl ?_
  refine GoR.pass rfl rfl ?_
  refine GoR.op ((op_pickT rfl rfl rfl) _) rfl rfl ?_
  refine GoR.op ((op_move rfl) _) rfl rfl ?_
  refine GoR.pass rfl rfl ?_
  refine GoR.pass rfl rfl ?_
  refine GoR.pass rfl rfl ?_
  refine GoR.pass rfl rfl ?_
  refine GoR.pass rfl rfl ?_
  refine GoR.pass rfl rfl ?_
  refine GoR.op ((op_pickT rfl rfl rfl) _) rfl rfl ?_
  refine GoR.op ((op_move rfl) _) rfl rfl ?_
  refine GoR.pass rfl rfl ?_
  refine GoR.pass rfl rfl ?_
  refine GoR.pass rfl rfl ?_
  refine GoR.pass rfl rfl ?_
  refine GoR.pass rfl rfl ?_
  refine GoR.pass rfl rfl ?_
  refine GoR.op ((op_pickT rfl rfl rfl) _) rfl rfl ?_
  refine GoR.op ((op_move rfl) _) rfl rfl ?_
  refine GoR.pass rfl rfl ?_
  refine GoR.pass rfl rfl ?_
  refine GoR.pass rfl rfl ?_
  refine GoR.pass rfl rfl ?_
  refine GoR.pass rfl rfl ?_
  refine GoR.pass rfl rfl ?_
  refine GoR.op ((op_pickT rfl rfl rfl) _) rfl rfl ?_
  refine GoR.op ((op_move rfl) _) rfl rfl ?_
  refine GoR.pass rfl rfl ?_
  refine GoR.pass rfl rfl ?_
  refine GoR.pass rfl rfl ?_
  refine GoR.pass rfl rfl ?_
  refine GoR.pass rfl rfl ?_
  refine GoR.pass rfl rfl ?_
  refine GoR.op ((op_pickT rfl rfl rfl) _) rfl rfl ?_
  refine GoR.op ((op_move rfl) _) rfl rfl ?_
  refine GoR.pass rfl rfl ?_
  refine GoR.pass rfl rfl ?_
  refine GoR.pass rfl rfl ?_
  refine GoR.pass rfl rfl ?_
  refine GoR.pass rfl rfl ?_
  refine GoR.pass rfl rfl ?_
  refine GoR.pass rfl rfl ?_
  refine GoR.op ((op_pickT rfl rfl rfl) _) rfl rfl ?_
  refine GoR.nil ?_
  refine Go1.condT rfl rfl ?_
  refine Go1.seq ?_
  refine Go1.cut [] trivial ?_
  intro σ _
  refine Go1.region ?_
  refine GoR.op ((op_assign rfl) _) rfl rfl ?_
  refine GoR.nil ?_
  refine Go1.ret1 Try.func19 rfl ?_
  exact ⟨false, rfl, hB.same, H⟩
 replace H := ifn h13 H
 refine GoR.op ((fun w => opB (op_neq rfl rfl w) (ndF h13)) _) rfl rfl ?_
 refine GoR.op ((op_move rfl) _) rfl rfl ?_
 refine GoR.pass rfl rfl ?_
 refine GoR.pass rfl rfl ?_
 refine GoR.pass rfl rfl ?_
 refine GoR.pass rfl rfl ?_
 refine GoR.pass rfl rfl ?_
 refine GoR.op ((op_pickT rfl rfl rfl) _) rfl rfl ?_
 refine GoR.op ((op_move rfl) _) rfl rfl ?_
 refine GoR.pass rfl rfl ?_
 refine GoR.pass rfl rfl ?_
 refine GoR.pass rfl rfl ?_
 refine GoR.pass rfl rfl ?_
 refine GoR.pass rfl rfl ?_
 refine GoR.op ((op_pickT rfl rfl rfl) _) rfl rfl ?_
 refine GoR.op ((op_move rfl) _) rfl rfl ?_
 refine GoR.pass rfl rfl ?_
 refine GoR.pass rfl rfl ?_
 refine GoR.pass rfl rfl ?_
 refine GoR.pass rfl rfl ?_
 refine GoR.pass rfl rfl ?_
 refine GoR.pass rfl rfl ?_
 refine GoR.op ((op_pickT rfl rfl rfl) _) rfl rfl ?_
 refine GoR.op ((op_move rfl) _) rfl rfl ?_
 refine GoR.pass rfl rfl ?_
 refine GoR.pass rfl rfl ?_
 refine GoR.pass rfl rfl ?_
 refine GoR.pass rfl rfl ?_
 refine GoR.pass rfl rfl ?_
 refine GoR.pass rfl rfl ?_
 refine GoR.op ((op_pickT rfl rfl rfl) _) rfl rfl ?_
 refine GoR.op ((op_move rfl) _) rfl rfl ?_
 refine GoR.pass rfl rfl ?_
 refine GoR.pass rfl rfl ?_
 refine GoR.pass rfl rfl ?_
 refine GoR.pass rfl rfl ?_
 refine GoR.pass rfl rfl ?_
 refine GoR.pass rfl rfl ?_
 refine GoR.op ((op_pickT rfl rfl rfl) _) rfl rfl ?_
 refine GoR.op ((op_move rfl) _) rfl rfl ?_
 refine GoR.pass rfl rfl ?_
 refine GoR.pass rfl rfl ?_
 refine GoR.pass rfl rfl ?_
 refine GoR.pass rfl rfl ?_
 refine GoR.pass rfl rfl ?_
 refine GoR.pass rfl rfl ?_
 refine GoR.op ((op_pickT rfl rfl rfl) _) rfl rfl ?_
 refine GoR.op ((op_move rfl) _) rfl rfl ?_
 refine GoR.pass rfl rfl ?_
 refine GoR.pass rfl rfl ?_
 refine GoR.pass rfl rfl ?_
 refine GoR.pass rfl rfl ?_
 refine GoR.pass rfl rfl ?_
 refine GoR.pass rfl rfl ?_
 refine GoR.op ((op_pickT rfl rfl rfl) _) rfl rfl ?_
 refine GoR.op ((op_move rfl) _) rfl rfl ?_
 refine GoR.pass rfl rfl ?_
 refine GoR.pass rfl rfl ?_
 refine GoR.pass rfl rfl ?_
 refine GoR.pass rfl rfl ?_
 refine GoR.pass rfl rfl ?_
 refine GoR.pass rfl rfl ?_
 refine GoR.pass rfl rfl ?_
 refine GoR.op ((op_pickT rfl rfl rfl) _) rfl rfl ?_
 refine GoR.nil ?_
 refine Go1.condT rfl rfl ?_
 refine Go1.seq ?_
 refine Go1.cut [] trivial ?_
 intro σ _
 refine Go1.region ?_
 refine GoR.op ((op_assign rfl) _) rfl rfl ?_
 refine GoR.nil ?_
 refine Go1.ret1 Try.func19 rfl ?_
 exact ⟨false, rfl, hB.same, H⟩
end Sg
