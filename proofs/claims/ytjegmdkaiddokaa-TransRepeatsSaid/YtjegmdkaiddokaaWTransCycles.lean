/- The walks: each call keeps to its plain transformer. Printed by walkgen.py. -/
import Derived.Test.YtjegmdkaiddokaaWTransLetters
namespace Sg
open Go Go.RowKit Go.Proofs
set_option linter.unusedVariables false
set_option maxRecDepth 100000
theorem body39 : Body Try.prog 39 := ⟨Try.f39, Try.func39, rfl, by kernel_rfl⟩
theorem walk_trans_Cycles {A : List Nat} {w0 : World} {p_f : Option Addr} {c_f : Nat} {f : List Int} (hA : ∀ b ∈ A, b < w0.heap.size) (h_f : ISl (Rp.int .i64) A w0 p_f c_f f) {K : List (List Int) → Prop} (H : trans_Cycles f K) :
    CallsV Try.prog 39 #[.slice p_f f.length c_f] w0 (fun v w' => ∃ (r0 : List (List Int)), ∃ (p_r0 : Option Addr), ∃ (c_r0 : Nat), v = .slice p_r0 r0.length c_r0 ∧ Same w0 w' ∧ ISl (Rp.sl (Rp.int .i64)) A w' p_r0 c_r0 r0 ∧ K r0) := by
 refine CallsV.of (l := [.slice p_f f.length c_f]) Try.func39 rfl Try.ntmps39 rfl ?_
 have hO := Owns.start hA
 have hB := Below.refl w0.heap.size w0
 unfold trans_Cycles at H
 replace h_f := h_f.ch (Ch.start A w0)
 refine Go1.seq ?_
 refine Go1.region ?_
 refine GoR.op ((op_assign rfl) _) rfl rfl ?_
 refine GoR.nil ?_
 refine Go1.seq ?_
 refine Go1.seq ?_
 refine Go1.region ?_
 refine GoR.op ((op_move rfl) _) rfl rfl ?_
 refine GoR.call (op_call body21 rfl (walk_trans_Valid hO.lt h_f H)) rfl rfl ?_
 rintro v4 w2 ⟨r1, rfl, hs3, H⟩
 have hst5 := Stp.same hO hs3
 replace hO := hst5.own
 replace h_f := h_f.ch hst5.ch
 replace hB := hB.trans hst5.bel
 cases r1
 ·replace H := ifn Bool.false_ne_true H
  refine GoR.op ((op_not rfl) _) rfl rfl ?_
  refine GoR.nil ?_
  refine Go1.condT rfl rfl ?_
  refine Go1.seq ?_
  refine Go1.region ?_
  refine GoR.op ((op_assign rfl) _) rfl rfl ?_
  refine GoR.nil ?_
  refine Go1.ret1 Try.func39 rfl ?_
  exact ⟨([] : List (List Int)), none, 0, rfl, (Below.same' hB), (ISl.null _ _ _), H⟩
 ·replace H := ifp rfl H
  refine GoR.op ((op_not rfl) _) rfl rfl ?_
  refine GoR.nil ?_
  refine Go1.condF rfl rfl ?_
  refine Go1.skip ?_
  refine Go1.seq ?_
  refine Go1.region ?_
  refine GoR.op ((op_assign rfl) _) rfl rfl ?_
  refine GoR.nil ?_
  refine Go1.seq ?_
  refine Go1.seq ?_
  refine Go1.region ?_
  refine GoR.op ((op_move rfl) _) rfl rfl ?_
  refine GoR.op ((op_len Try.underlying22 rfl) _) rfl rfl ?_
  replace H := H h_f.bd
  refine GoR.op ((op_move rfl) _) rfl rfl ?_
  refine GoR.nil ?_
  refine Go1.block ?_
  have hst7 := Stp.nil (e := 22) (r := 1) hO
  replace hO := hst7.own
  replace h_f := h_f.ch hst7.ch
  replace hB := hB.trans hst7.bel
  have hE8 := Els.nil (Rp.sl (Rp.int .i64)) (bl (.row 22 1 none 0 0 [] :: []) ++ A) w2
  refine Go1.loopW (S := Nat × List (List Int)) (fun s σ w => ∃ (n16 : Nat), ∃ (p12 : Option Addr), ∃ (c13 : Nat), ∃ (vs14 : List Value), agrees σ [(0, .slice p_f f.length c_f), (3, .slice p12 n16 c13), (11, .int .i64 (f.length : Int)), (12, .int .i64 ((s.1) : Int))] ∧ Owns w0.heap.size w [.row 22 1 p12 n16 c13 vs14] A ∧ Els (Rp.sl (Rp.int .i64)) (bl [.row 22 1 p12 n16 c13 vs14] ++ A) w vs14 (s.2) ∧ ISl (Rp.int .i64) (bl [.row 22 1 p12 n16 c13 vs14] ++ A) w p_f c_f f ∧ Below w0.heap.size w0 w) H ⟨0, none, 0, [], ⟨rfl, rfl, rfl, rfl, trivial⟩, hO, hE8, h_f, hB⟩ ?_
  rintro X1 ⟨k1_10, cycles1_11⟩ H hX1 σ w9 ⟨n16, p12, c13, vs14, hag, hO, hE15, h_f, hB⟩
  dsimp only at H
  refine Go1.keep [(0, .slice p_f f.length c_f), (3, .slice p12 n16 c13), (11, .int .i64 (f.length : Int)), (12, .int .i64 (k1_10 : Int))] hag ?_
  refine Go1.seq ?_
  refine Go1.region ?_
  by_cases h17 : (k1_10 : Int) < (f.length : Int)
  ·replace H := ifp h17 H
   refine GoR.op ((fun w => opB (op_lss rfl rfl w) (decide_eq_true h17)) _) rfl rfl ?_
   refine GoR.nil ?_
   refine Go1.seq ?_
   refine Go1.condT rfl rfl ?_
   refine Go1.skip ?_
   refine Go1.seq ?_
   refine Go1.block ?_
   refine Go1.seq ?_
   refine Go1.region ?_
   refine GoR.op ((op_move rfl) _) rfl rfl ?_
   refine GoR.op ((op_assign rfl) _) rfl rfl ?_
   refine GoR.nil ?_
   refine Go1.seq ?_
   refine Go1.region ?_
   refine GoR.op ((op_move rfl) _) rfl rfl ?_
   obtain ⟨w18, p19, hst20, hE21, hs22, hop23⟩ := obuild (r := Rp.int .i64) (n := 1) (parts := [(0, .int .i64 (k1_10 : Int))]) (vs := [.int .i64 (k1_10 : Int)]) (xs := [(k1_10 : Int)]) rfl Try.underlying22 ti3 hO (by decide) (by kernel_rfl) (Els.cons rfl rfl (Els.nil _ _ _) (by decide)) rfl
   refine GoR.op (hop23 rfl) rfl rfl ?_
   replace hE15 := hE15.ch hst20.ch
   replace hO := hst20.own
   replace h_f := h_f.ch hst20.ch
   replace hB := hB.trans hst20.bel
   refine GoR.op ((op_assign rfl) _) rfl rfl ?_
   refine GoR.nil ?_
   refine Go1.seq ?_
   refine Go1.region ?_
   refine GoR.op ((op_move rfl) _) rfl rfl ?_
   refine GoR.op ((op_move rfl) _) rfl rfl ?_
   obtain ⟨h25, H⟩ := H
   obtain ⟨h26, H⟩ := H
   refine GoR.op ((op_index Try.underlying22 ti3 rfl rfl h25 h26 (h_f.some_ h25 h26)) _) rfl rfl ?_
   refine GoR.op ((ldInt h_f h25 h26 Try.underlying3 rfl rfl) _ (Same.refl _)) rfl rfl ?_
   refine GoR.op ((op_assign rfl) _) rfl rfl ?_
   refine GoR.nil ?_
   refine Go1.seq ?_
   refine Go1.block ?_
   refine Go1.loopW (S := Int × List Int) (fun s σ w => ∃ (n34 : Nat), ∃ (p30 : Option Addr), ∃ (c31 : Nat), ∃ (vs32 : List Value), agrees σ [(0, .slice p_f f.length c_f), (3, .slice p12 n16 c13), (4, .int .i64 (k1_10 : Int)), (5, .slice p30 n34 c31), (6, .int .i64 (s.1)), (11, .int .i64 (f.length : Int)), (12, .int .i64 (k1_10 : Int))] ∧ Owns w0.heap.size w [.row 3 1 p30 n34 c31 vs32, .row 22 1 p12 n16 c13 vs14] A ∧ Els (Rp.int .i64) (bl [.row 3 1 p30 n34 c31 vs32, .row 22 1 p12 n16 c13 vs14] ++ A) w vs32 (s.2) ∧ Els (Rp.sl (Rp.int .i64)) (bl [.row 3 1 p30 n34 c31 vs32, .row 22 1 p12 n16 c13 vs14] ++ A) w vs14 cycles1_11 ∧ ISl (Rp.int .i64) (bl [.row 3 1 p30 n34 c31 vs32, .row 22 1 p12 n16 c13 vs14] ++ A) w p_f c_f f ∧ Below w0.heap.size w0 w) H ⟨1, p19, 1, [.int .i64 (k1_10 : Int)], ⟨rfl, rfl, rfl, rfl, rfl, rfl, rfl, trivial⟩, hO, hE21, hE15, h_f, hB⟩ ?_
   rintro X2 ⟨j2_28, cycle2_29⟩ H hX2 σ w27 ⟨n34, p30, c31, vs32, hag, hO, hE33, hE15, h_f, hB⟩
   dsimp only at H
   refine Go1.keep [(0, .slice p_f f.length c_f), (3, .slice p12 n16 c13), (4, .int .i64 (k1_10 : Int)), (5, .slice p30 n34 c31), (6, .int .i64 j2_28), (11, .int .i64 (f.length : Int)), (12, .int .i64 (k1_10 : Int))] hag ?_
   refine Go1.seq ?_
   refine Go1.seq ?_
   refine Go1.region ?_
   refine GoR.op ((op_move rfl) _) rfl rfl ?_
   refine GoR.op ((op_move rfl) _) rfl rfl ?_
   by_cases h35 : (k1_10 : Int) < j2_28
   ·replace H := ifp h35 H
    refine GoR.op ((fun w => opB (op_gtr rfl rfl w) (decide_eq_true h35)) _) rfl rfl ?_
    refine GoR.op ((op_move rfl) _) rfl rfl ?_
    refine GoR.op ((op_move rfl) _) rfl rfl ?_
    refine GoR.op ((op_lenN Try.underlying22 rfl (hE33.neq hO 0 rfl)) _) rfl rfl ?_
    refine GoR.op ((op_move rfl) _) rfl rfl ?_
    refine GoR.op ((op_len Try.underlying22 rfl) _) rfl rfl ?_
    by_cases h36 : (cycle2_29.length : Int) < (f.length : Int)
    ·replace H := ifp h36 H
     refine GoR.op ((fun w => opB (op_lss rfl rfl w) (decide_eq_true h36)) _) rfl rfl ?_
     refine GoR.op ((op_pickT rfl rfl rfl) _) rfl rfl ?_
     refine GoR.nil ?_
     refine Go1.condT rfl rfl ?_
     refine Go1.skip ?_
     refine Go1.seq ?_
     refine Go1.block ?_
     refine Go1.region ?_
     refine GoR.op ((op_move rfl) _) rfl rfl ?_
     refine GoR.op ((op_move rfl) _) rfl rfl ?_
     obtain ⟨w37, p38, hst39, hE40, hs41, hop42⟩ := obuild (r := Rp.int .i64) (n := 1) (parts := [(0, .int .i64 j2_28)]) (vs := [.int .i64 j2_28]) (xs := [j2_28]) rfl Try.underlying22 ti3 hO (by decide) (by kernel_rfl) (Els.cons rfl rfl (Els.nil _ _ _) (by decide)) rfl
     refine GoR.op (hop42 rfl) rfl rfl ?_
     replace hE33 := hE33.ch hst39.ch
     replace hE15 := hE15.ch hst39.ch
     replace hO := hst39.own
     replace h_f := h_f.ch hst39.ch
     replace hB := hB.trans hst39.bel
     obtain ⟨hO1, hc46, hi44, hn45⟩ := freeze 0 hO rfl hE40
     replace h_f := h_f.ch hc46
     replace hE33 := hE33.ch hc46
     replace hE15 := hE15.ch hc46
     replace hO := hO1; clear hO1
     obtain ⟨h47, H⟩ := H
     obtain ⟨w48, p49, c50, vs51, hst52, hE53, hop54⟩ := oapp Try.underlying22 ti3 rfl 0 hO rfl hE33 hi44 hn45 h47 (by decide)
     refine GoR.op (hop54 rfl rfl) rfl rfl ?_
     replace hE15 := hE15.ch hst52.ch
     replace hO := hst52.own
     replace h_f := h_f.ch hst52.ch
     replace hi44 := hi44.ch hst52.ch
     replace hB := hB.trans hst52.bel
     refine GoR.op ((op_assign rfl) _) rfl rfl ?_
     refine GoR.nil ?_
     refine Go1.inBlock ?_
     refine Go1.region ?_
     refine GoR.op ((op_move rfl) _) rfl rfl ?_
     refine GoR.op ((op_move rfl) _) rfl rfl ?_
     obtain ⟨h55, H⟩ := H
     obtain ⟨h56, H⟩ := H
     refine GoR.op ((op_index Try.underlying22 ti3 rfl rfl h55 h56 (h_f.some_ h55 h56)) _) rfl rfl ?_
     refine GoR.op ((ldInt h_f h55 h56 Try.underlying3 rfl rfl) _ (Same.refl _)) rfl rfl ?_
     refine GoR.op ((op_assign rfl) _) rfl rfl ?_
     refine GoR.nil ?_
     exact hX2 _ H _ _ ⟨n34 + 1, p49, c50, vs51, ⟨rfl, rfl, rfl, rfl, rfl, rfl, rfl, trivial⟩, hO, hE53, hE15, h_f, hB⟩
    ·replace H := ifn h36 H
     refine GoR.op ((fun w => opB (op_lss rfl rfl w) (decide_eq_false h36)) _) rfl rfl ?_
     refine GoR.op ((op_pickT rfl rfl rfl) _) rfl rfl ?_
     refine GoR.nil ?_
     refine Go1.condF rfl rfl ?_
     refine Go1.exit rfl ?_
     refine Go1.seq ?_
     refine Go1.region ?_
     refine GoR.op ((op_move rfl) _) rfl rfl ?_
     refine GoR.op ((op_move rfl) _) rfl rfl ?_
     by_cases h57 : j2_28 = (k1_10 : Int)
     ·replace H := ifp h57 H
      refine GoR.op ((fun w => opB (op_eql rfl rfl w) (decide_eq_true h57)) _) rfl rfl ?_
      refine GoR.nil ?_
      refine Go1.condT rfl rfl ?_
      refine Go1.region ?_
      refine GoR.op ((op_move rfl) _) rfl rfl ?_
      refine GoR.op ((op_move rfl) _) rfl rfl ?_
      obtain ⟨hO1, hc60, hi58, hn59⟩ := freeze 0 hO rfl hE33
      replace h_f := h_f.ch hc60
      replace hE15 := hE15.ch hc60
      replace hO := hO1; clear hO1
      obtain ⟨w61, p62, hst63, hE64, hs65, hop66⟩ := obuild (r := Rp.sl (Rp.int .i64)) (n := 1) (parts := [(0, .slice p30 n34 c31)]) (vs := [.slice p30 n34 c31]) (xs := [cycle2_29]) rfl Try.underlying35 ti22 hO (by decide) (by kernel_rfl) (Els.cons rfl ⟨p30, c31, congrArg some (congrArg (fun nn => Value.slice p30 nn c31) hn59), hi58⟩ (Els.nil _ _ _) (by decide)) rfl
      refine GoR.op (hop66 rfl) rfl rfl ?_
      replace hE15 := hE15.ch hst63.ch
      replace hO := hst63.own
      replace h_f := h_f.ch hst63.ch
      replace hi58 := hi58.ch hst63.ch
      replace hB := hB.trans hst63.bel
      obtain ⟨hO1, hc70, hi68, hn69⟩ := freeze 0 hO rfl hE64
      replace h_f := h_f.ch hc70
      replace hi58 := hi58.ch hc70
      replace hE15 := hE15.ch hc70
      replace hO := hO1; clear hO1
      obtain ⟨h71, H⟩ := H
      obtain ⟨w72, p73, c74, vs75, hst76, hE77, hop78⟩ := oapp Try.underlying35 ti22 rfl 0 hO rfl hE15 hi68 hn69 h71 (by decide)
      refine GoR.op (hop78 rfl rfl) rfl rfl ?_
      replace hO := hst76.own
      replace h_f := h_f.ch hst76.ch
      replace hi58 := hi58.ch hst76.ch
      replace hi68 := hi68.ch hst76.ch
      replace hB := hB.trans hst76.bel
      refine GoR.op ((op_assign rfl) _) rfl rfl ?_
      refine GoR.nil ?_
      refine Go1.inBlock ?_
      refine Go1.region ?_
      refine GoR.op ((op_add rfl rfl (wrap_i64 (by have := h17; have := h_f.bd; unfold mx at this; exact ⟨by omega, by omega⟩))) _) rfl rfl ?_
      refine GoR.op ((op_move rfl) _) rfl rfl ?_
      refine GoR.nil ?_
      exact hX1 _ H _ _ ⟨n16 + 1, p73, c74, vs75, ⟨rfl, rfl, rfl, rfl, trivial⟩, hO, hE77, h_f, hB⟩
     ·replace H := ifn h57 H
      refine GoR.op ((fun w => opB (op_eql rfl rfl w) (decide_eq_false h57)) _) rfl rfl ?_
      refine GoR.nil ?_
      refine Go1.condF rfl rfl ?_
      refine Go1.skip ?_
      refine Go1.inBlock ?_
      refine Go1.region ?_
      refine GoR.op ((op_add rfl rfl (wrap_i64 (by have := h17; have := h_f.bd; unfold mx at this; exact ⟨by omega, by omega⟩))) _) rfl rfl ?_
      refine GoR.op ((op_move rfl) _) rfl rfl ?_
      refine GoR.nil ?_
      replace h_f := h_f.ch (Owns.dropCh _ _ 0)
      replace hE15 := hE15.ch (Owns.dropCh _ _ 0)
      replace hO := hO.drop 0
      exact hX1 _ H _ _ ⟨n16, p12, c13, vs14, ⟨rfl, rfl, rfl, rfl, trivial⟩, hO, hE15, h_f, hB⟩
   ·replace H := ifn h35 H
    refine GoR.op ((fun w => opB (op_gtr rfl rfl w) (decide_eq_false h35)) _) rfl rfl ?_
    refine GoR.op ((op_move rfl) _) rfl rfl ?_
    refine GoR.pass rfl rfl ?_
    refine GoR.pass rfl rfl ?_
    refine GoR.pass rfl rfl ?_
    refine GoR.pass rfl rfl ?_
    refine GoR.pass rfl rfl ?_
    refine GoR.op ((op_pickF rfl rfl rfl) _) rfl rfl ?_
    refine GoR.nil ?_
    refine Go1.condF rfl rfl ?_
    refine Go1.exit rfl ?_
    refine Go1.seq ?_
    refine Go1.region ?_
    refine GoR.op ((op_move rfl) _) rfl rfl ?_
    refine GoR.op ((op_move rfl) _) rfl rfl ?_
    by_cases h79 : j2_28 = (k1_10 : Int)
    ·replace H := ifp h79 H
     refine GoR.op ((fun w => opB (op_eql rfl rfl w) (decide_eq_true h79)) _) rfl rfl ?_
     refine GoR.nil ?_
     refine Go1.condT rfl rfl ?_
     refine Go1.region ?_
     refine GoR.op ((op_move rfl) _) rfl rfl ?_
     refine GoR.op ((op_move rfl) _) rfl rfl ?_
     obtain ⟨hO1, hc82, hi80, hn81⟩ := freeze 0 hO rfl hE33
     replace h_f := h_f.ch hc82
     replace hE15 := hE15.ch hc82
     replace hO := hO1; clear hO1
     obtain ⟨w83, p84, hst85, hE86, hs87, hop88⟩ := obuild (r := Rp.sl (Rp.int .i64)) (n := 1) (parts := [(0, .slice p30 n34 c31)]) (vs := [.slice p30 n34 c31]) (xs := [cycle2_29]) rfl Try.underlying35 ti22 hO (by decide) (by kernel_rfl) (Els.cons rfl ⟨p30, c31, congrArg some (congrArg (fun nn => Value.slice p30 nn c31) hn81), hi80⟩ (Els.nil _ _ _) (by decide)) rfl
     refine GoR.op (hop88 rfl) rfl rfl ?_
     replace hE15 := hE15.ch hst85.ch
     replace hO := hst85.own
     replace h_f := h_f.ch hst85.ch
     replace hi80 := hi80.ch hst85.ch
     replace hB := hB.trans hst85.bel
     obtain ⟨hO1, hc92, hi90, hn91⟩ := freeze 0 hO rfl hE86
     replace h_f := h_f.ch hc92
     replace hi80 := hi80.ch hc92
     replace hE15 := hE15.ch hc92
     replace hO := hO1; clear hO1
     obtain ⟨h93, H⟩ := H
     obtain ⟨w94, p95, c96, vs97, hst98, hE99, hop100⟩ := oapp Try.underlying35 ti22 rfl 0 hO rfl hE15 hi90 hn91 h93 (by decide)
     refine GoR.op (hop100 rfl rfl) rfl rfl ?_
     replace hO := hst98.own
     replace h_f := h_f.ch hst98.ch
     replace hi80 := hi80.ch hst98.ch
     replace hi90 := hi90.ch hst98.ch
     replace hB := hB.trans hst98.bel
     refine GoR.op ((op_assign rfl) _) rfl rfl ?_
     refine GoR.nil ?_
     refine Go1.inBlock ?_
     refine Go1.region ?_
     refine GoR.op ((op_add rfl rfl (wrap_i64 (by have := h17; have := h_f.bd; unfold mx at this; exact ⟨by omega, by omega⟩))) _) rfl rfl ?_
     refine GoR.op ((op_move rfl) _) rfl rfl ?_
     refine GoR.nil ?_
     exact hX1 _ H _ _ ⟨n16 + 1, p95, c96, vs97, ⟨rfl, rfl, rfl, rfl, trivial⟩, hO, hE99, h_f, hB⟩
    ·replace H := ifn h79 H
     refine GoR.op ((fun w => opB (op_eql rfl rfl w) (decide_eq_false h79)) _) rfl rfl ?_
     refine GoR.nil ?_
     refine Go1.condF rfl rfl ?_
     refine Go1.skip ?_
     refine Go1.inBlock ?_
     refine Go1.region ?_
     refine GoR.op ((op_add rfl rfl (wrap_i64 (by have := h17; have := h_f.bd; unfold mx at this; exact ⟨by omega, by omega⟩))) _) rfl rfl ?_
     refine GoR.op ((op_move rfl) _) rfl rfl ?_
     refine GoR.nil ?_
     replace h_f := h_f.ch (Owns.dropCh _ _ 0)
     replace hE15 := hE15.ch (Owns.dropCh _ _ 0)
     replace hO := hO.drop 0
     exact hX1 _ H _ _ ⟨n16, p12, c13, vs14, ⟨rfl, rfl, rfl, rfl, trivial⟩, hO, hE15, h_f, hB⟩
  ·replace H := ifn h17 H
   refine GoR.op ((fun w => opB (op_lss rfl rfl w) (decide_eq_false h17)) _) rfl rfl ?_
   refine GoR.nil ?_
   refine Go1.seq ?_
   refine Go1.condF rfl rfl ?_
   refine Go1.exit rfl ?_
   refine Go1.seq ?_
   refine Go1.region ?_
   refine GoR.op ((op_move rfl) _) rfl rfl ?_
   refine GoR.op ((op_assign rfl) _) rfl rfl ?_
   refine GoR.nil ?_
   obtain ⟨hO1, hc103, hi101, hn102⟩ := freeze 0 hO rfl hE15
   replace h_f := h_f.ch hc103
   replace hO := hO1; clear hO1
   refine Go1.ret1 Try.func39 rfl ?_
   exact ⟨cycles1_11, p12, c13, ((congrArg (fun nn => Value.slice p12 nn c13) hn102)), (Below.same' hB), (hi101.ch (Ch.weak _ _ _)), H⟩
theorem body57 : Body Try.prog 57 := ⟨Try.f57, Try.func57, rfl, by kernel_rfl⟩
theorem walk_trans_divisor {A : List Nat} {w0 : World} {a : Int} {b : Int} (hA : ∀ b ∈ A, b < w0.heap.size) {K : Int → Prop} (H : trans_divisor a b K) :
    CallsV Try.prog 57 #[.int .i64 a, .int .i64 b] w0 (fun v w' => ∃ (r0 : Int), v = .int .i64 r0 ∧ Same w0 w' ∧ K r0) := by
 refine CallsV.of (l := [.int .i64 a, .int .i64 b]) Try.func57 rfl Try.ntmps57 rfl ?_
 have hO := Owns.start hA
 have hB := Below.refl w0.heap.size w0
 unfold trans_divisor at H
 refine Go1.seq ?_
 refine Go1.region ?_
 refine GoR.op ((op_assign rfl) _) rfl rfl ?_
 refine GoR.nil ?_
 refine Go1.seq ?_
 refine Go1.block ?_
 refine Go1.loopW (S := Int × Int) (fun s σ w => agrees σ [(0, .int .i64 (s.1)), (1, .int .i64 (s.2))] ∧ Owns w0.heap.size w [] A ∧ Below w0.heap.size w0 w) H ⟨⟨rfl, rfl, trivial⟩, hO, hB⟩ ?_
 rintro X1 ⟨a1_2, b1_3⟩ H hX1 σ w1 ⟨hag, hO, hB⟩
 dsimp only at H
 refine Go1.keep [(0, .int .i64 a1_2), (1, .int .i64 b1_3)] hag ?_
 refine Go1.seq ?_
 refine Go1.seq ?_
 refine Go1.region ?_
 refine GoR.op ((op_move rfl) _) rfl rfl ?_
 by_cases h4 : (0 : Int) < b1_3
 ·replace H := ifp h4 H
  refine GoR.op ((fun w => opB (op_gtr rfl rfl w) (decide_eq_true h4)) _) rfl rfl ?_
  refine GoR.nil ?_
  refine Go1.condT rfl rfl ?_
  refine Go1.skip ?_
  refine Go1.block ?_
  refine Go1.drawS 0 [(0, .pure), (1, .pure), (2, .pure), (3, .pure), (4, .pure), (5, .pure)] mixed (by kernel_rfl) ?_
  intro w5 hs6
  have hst7 := Stp.same hO hs6
  replace hO := hst7.own
  replace hB := hB.trans hst7.bel
  refine GoQ.pure rfl (op_move rfl) rfl rfl ?_
  refine GoQ.pure rfl (op_move rfl) rfl rfl ?_
  refine GoQ.pure rfl (op_move rfl) rfl rfl ?_
  obtain ⟨h8, H⟩ := H
  refine GoQ.pure rfl (op_rem rfl rfl h8 rfl) rfl rfl ?_
  refine GoQ.pure rfl (op_assign rfl) rfl rfl ?_
  refine GoQ.pure rfl (op_assign rfl) rfl rfl ?_
  refine GoQ.nil ?_
  refine Go1.inBlock ?_
  exact hX1 _ H _ _ ⟨⟨rfl, rfl, trivial⟩, hO, hB⟩
 ·replace H := ifn h4 H
  refine GoR.op ((fun w => opB (op_gtr rfl rfl w) (decide_eq_false h4)) _) rfl rfl ?_
  refine GoR.nil ?_
  refine Go1.condF rfl rfl ?_
  refine Go1.exit rfl ?_
  refine Go1.seq ?_
  refine Go1.region ?_
  refine GoR.op ((op_move rfl) _) rfl rfl ?_
  refine GoR.op ((op_assign rfl) _) rfl rfl ?_
  refine GoR.nil ?_
  refine Go1.ret1 Try.func57 rfl ?_
  exact ⟨a1_2, rfl, (Below.same' hB), H⟩
theorem body37 : Body Try.prog 37 := ⟨Try.f37, Try.func37, rfl, by kernel_rfl⟩
theorem walk_trans_IndexPeriod {A : List Nat} {w0 : World} {p_Listappend : Option Addr} {c_Listappend : Nat} {Listappend : List Int} (hA : ∀ b ∈ A, b < w0.heap.size) (h_Listappend : ISl (Rp.int .i64) A w0 p_Listappend c_Listappend Listappend) {K : Int → Int → Prop} (H : trans_IndexPeriod Listappend K) :
    CallsV Try.prog 37 #[.slice p_Listappend Listappend.length c_Listappend] w0 (fun v w' => ∃ (r0 : Int), ∃ (r1 : Int), v = .tuple #[.int .i64 r0, .int .i64 r1] ∧ Same w0 w' ∧ K r0 r1) := by
 refine CallsV.of (l := [.slice p_Listappend Listappend.length c_Listappend]) Try.func37 rfl Try.ntmps37 rfl ?_
 have hO := Owns.start hA
 have hB := Below.refl w0.heap.size w0
 unfold trans_IndexPeriod at H
 replace h_Listappend := h_Listappend.ch (Ch.start A w0)
 refine Go1.seq ?_
 refine Go1.region ?_
 refine GoR.op ((op_assign rfl) _) rfl rfl ?_
 refine GoR.op ((op_assign rfl) _) rfl rfl ?_
 refine GoR.nil ?_
 refine Go1.seq ?_
 refine Go1.seq ?_
 refine Go1.region ?_
 refine GoR.op ((op_move rfl) _) rfl rfl ?_
 refine GoR.call (op_call body21 rfl (walk_trans_Valid hO.lt h_Listappend H)) rfl rfl ?_
 rintro v4 w2 ⟨r1, rfl, hs3, H⟩
 have hst5 := Stp.same hO hs3
 replace hO := hst5.own
 replace h_Listappend := h_Listappend.ch hst5.ch
 replace hB := hB.trans hst5.bel
 cases r1
 ·replace H := ifn Bool.false_ne_true H
  refine GoR.op ((op_not rfl) _) rfl rfl ?_
  refine GoR.nil ?_
  refine Go1.condT rfl rfl ?_
  refine Go1.seq ?_
  refine Go1.region ?_
  refine GoR.op ((op_assign rfl) _) rfl rfl ?_
  refine GoR.op ((op_assign rfl) _) rfl rfl ?_
  refine GoR.nil ?_
  refine Go1.ret2 Try.func37 rfl ?_
  exact ⟨(0 : Int), (0 : Int), rfl, (Below.same' hB), H⟩
 ·replace H := ifp rfl H
  refine GoR.op ((op_not rfl) _) rfl rfl ?_
  refine GoR.nil ?_
  refine Go1.condF rfl rfl ?_
  refine Go1.skip ?_
  refine Go1.seq ?_
  refine Go1.region ?_
  refine GoR.op ((op_move rfl) _) rfl rfl ?_
  refine GoR.op ((op_len Try.underlying22 rfl) _) rfl rfl ?_
  replace H := H h_Listappend.bd
  obtain ⟨h13, H⟩ := H
  obtain ⟨h14, H⟩ := H
  obtain ⟨w6, p7, vs8, hst9, hE10, hs11, hop12⟩ := omake (n := (Listappend.length : Int)) (r := Rp.bool) (d := false) Try.underlying40 ti4 (fun _ _ => rfl) rfl hO h13 h14 (by decide)
  refine GoR.op (hop12 rfl rfl) rfl rfl ?_
  replace hO := hst9.own
  replace h_Listappend := h_Listappend.ch hst9.ch
  replace hB := hB.trans hst9.bel
  refine GoR.op ((op_assign rfl) _) rfl rfl ?_
  refine GoR.nil ?_
  refine Go1.seq ?_
  refine Go1.region ?_
  refine GoR.op ((op_assign rfl) _) rfl rfl ?_
  refine GoR.nil ?_
  refine Go1.seq ?_
  refine Go1.seq ?_
  refine Go1.region ?_
  refine GoR.op ((op_move rfl) _) rfl rfl ?_
  refine GoR.call (op_call body39 rfl (walk_trans_Cycles hO.lt h_Listappend H)) rfl rfl ?_
  rintro v19 w17 ⟨r16, p_r16, c_r16, rfl, hs18, h_r16, H⟩
  have hst20 := Stp.same hO hs18
  replace hE10 := hE10.ch hst20.ch
  replace hO := hst20.own
  replace h_Listappend := h_Listappend.ch hst20.ch
  replace hB := hB.trans hst20.bel
  refine GoR.op ((op_len Try.underlying35 rfl) _) rfl rfl ?_
  replace H := H h_r16.bd
  refine GoR.op ((op_move rfl) _) rfl rfl ?_
  refine GoR.nil ?_
  refine Go1.block ?_
  refine Go1.loopW (S := Int × Nat × List Bool) (fun s σ w => ∃ (n29 : Nat), ∃ (p25 : Option Addr), ∃ (c26 : Nat), ∃ (vs27 : List Value), agrees σ [(0, .slice p_Listappend Listappend.length c_Listappend), (4, .slice p25 n29 c26), (5, .int .i64 (s.1)), (21, .slice p_r16 r16.length c_r16), (22, .int .i64 (r16.length : Int)), (23, .int .i64 ((s.2.1) : Int))] ∧ Owns w0.heap.size w [.row 4 1 p25 n29 c26 vs27] A ∧ Els (Rp.bool) (bl [.row 4 1 p25 n29 c26 vs27] ++ A) w vs27 (s.2.2) ∧ ISl (Rp.int .i64) (bl [.row 4 1 p25 n29 c26 vs27] ++ A) w p_Listappend c_Listappend Listappend ∧ ISl (Rp.sl (Rp.int .i64)) (bl [.row 4 1 p25 n29 c26 vs27] ++ A) w p_r16 c_r16 r16 ∧ Below w0.heap.size w0 w) H ⟨Listappend.length, p7, Listappend.length, vs8, ⟨rfl, rfl, rfl, rfl, rfl, rfl, trivial⟩, hO, hE10, h_Listappend, h_r16, hB⟩ ?_
  rintro X1 ⟨k1_22, k1_23, d_24⟩ H hX1 σ w21 ⟨n29, p25, c26, vs27, hag, hO, hE28, h_Listappend, h_r16, hB⟩
  dsimp only at H
  refine Go1.keep [(0, .slice p_Listappend Listappend.length c_Listappend), (4, .slice p25 n29 c26), (5, .int .i64 k1_22), (21, .slice p_r16 r16.length c_r16), (22, .int .i64 (r16.length : Int)), (23, .int .i64 (k1_23 : Int))] hag ?_
  refine Go1.seq ?_
  refine Go1.region ?_
  by_cases h30 : (k1_23 : Int) < (r16.length : Int)
  ·replace H := ifp h30 H
   refine GoR.op ((fun w => opB (op_lss rfl rfl w) (decide_eq_true h30)) _) rfl rfl ?_
   refine GoR.nil ?_
   refine Go1.seq ?_
   refine Go1.condT rfl rfl ?_
   refine Go1.skip ?_
   refine Go1.seq ?_
   refine Go1.block ?_
   refine Go1.seq ?_
   refine Go1.region ?_
   obtain ⟨h31, H⟩ := H
   obtain ⟨h32, H⟩ := H
   refine GoR.op ((op_index Try.underlying35 ti22 rfl rfl h31 h32 (h_r16.some_ h31 h32)) _) rfl rfl ?_
   obtain ⟨p33, c34, hi35, hl36⟩ := ldSl h_r16 h31 h32
   refine GoR.op ((hl36 Try.underlying22 rfl rfl) _ (Same.refl _)) rfl rfl ?_
   refine GoR.op ((op_assign rfl) _) rfl rfl ?_
   refine GoR.nil ?_
   refine Go1.seq ?_
   refine Go1.seq ?_
   refine Go1.region ?_
   refine GoR.op ((op_move rfl) _) rfl rfl ?_
   refine GoR.op ((op_len Try.underlying22 rfl) _) rfl rfl ?_
   replace H := H hi35.bd
   refine GoR.op ((op_move rfl) _) rfl rfl ?_
   refine GoR.nil ?_
   refine Go1.block ?_
   refine Go1.loopW (S := Nat × List Bool) (fun s σ w => ∃ (n44 : Nat), ∃ (p40 : Option Addr), ∃ (c41 : Nat), ∃ (vs42 : List Value), agrees σ [(0, .slice p_Listappend Listappend.length c_Listappend), (4, .slice p40 n44 c41), (5, .int .i64 k1_22), (7, .slice p33 ((ix r16 (k1_23 : Int)).length) c34), (21, .slice p_r16 r16.length c_r16), (22, .int .i64 (r16.length : Int)), (23, .int .i64 (k1_23 : Int)), (27, .slice p33 ((ix r16 (k1_23 : Int)).length) c34), (28, .int .i64 ((ix r16 (k1_23 : Int)).length : Int)), (29, .int .i64 ((s.1) : Int))] ∧ Owns w0.heap.size w [.row 4 1 p40 n44 c41 vs42] A ∧ Els (Rp.bool) (bl [.row 4 1 p40 n44 c41 vs42] ++ A) w vs42 (s.2) ∧ ISl (Rp.int .i64) (bl [.row 4 1 p40 n44 c41 vs42] ++ A) w p_Listappend c_Listappend Listappend ∧ ISl (Rp.sl (Rp.int .i64)) (bl [.row 4 1 p40 n44 c41 vs42] ++ A) w p_r16 c_r16 r16 ∧ ISl (Rp.int .i64) (bl [.row 4 1 p40 n44 c41 vs42] ++ A) w p33 c34 (ix r16 (k1_23 : Int)) ∧ Below w0.heap.size w0 w) H ⟨n29, p25, c26, vs27, ⟨rfl, rfl, rfl, rfl, rfl, rfl, rfl, rfl, rfl, rfl, trivial⟩, hO, hE28, h_Listappend, h_r16, hi35, hB⟩ ?_
   rintro X2 ⟨k2_38, d_39⟩ H hX2 σ w37 ⟨n44, p40, c41, vs42, hag, hO, hE43, h_Listappend, h_r16, hi35, hB⟩
   dsimp only at H
   refine Go1.keep [(0, .slice p_Listappend Listappend.length c_Listappend), (4, .slice p40 n44 c41), (5, .int .i64 k1_22), (7, .slice p33 ((ix r16 (k1_23 : Int)).length) c34), (21, .slice p_r16 r16.length c_r16), (22, .int .i64 (r16.length : Int)), (23, .int .i64 (k1_23 : Int)), (27, .slice p33 ((ix r16 (k1_23 : Int)).length) c34), (28, .int .i64 ((ix r16 (k1_23 : Int)).length : Int)), (29, .int .i64 (k2_38 : Int))] hag ?_
   refine Go1.seq ?_
   refine Go1.region ?_
   by_cases h45 : (k2_38 : Int) < ((ix r16 (k1_23 : Int)).length : Int)
   ·replace H := ifp h45 H
    refine GoR.op ((fun w => opB (op_lss rfl rfl w) (decide_eq_true h45)) _) rfl rfl ?_
    refine GoR.nil ?_
    refine Go1.seq ?_
    refine Go1.condT rfl rfl ?_
    refine Go1.skip ?_
    refine Go1.seq ?_
    refine Go1.block ?_
    refine Go1.seq ?_
    refine Go1.region ?_
    obtain ⟨h46, H⟩ := H
    obtain ⟨h47, H⟩ := H
    refine GoR.op ((op_index Try.underlying22 ti3 rfl rfl h46 h47 (hi35.some_ h46 h47)) _) rfl rfl ?_
    refine GoR.op ((ldInt hi35 h46 h47 Try.underlying3 rfl rfl) _ (Same.refl _)) rfl rfl ?_
    refine GoR.op ((op_assign rfl) _) rfl rfl ?_
    refine GoR.nil ?_
    refine Go1.region ?_
    refine GoR.op ((op_move rfl) _) rfl rfl ?_
    refine GoR.op ((op_move rfl) _) rfl rfl ?_
    obtain ⟨h48, H⟩ := H
    obtain ⟨h49, H⟩ := H
    refine GoR.op ((op_index Try.underlying40 ti4 rfl rfl h48 (ltn (hE43.neq hO 0 rfl) h49) (hE43.psome hO 0 rfl h48 h49)) _) rfl rfl ?_
    obtain ⟨w50, vs51, hst52, hE53, hop54⟩ := ost (r := Rp.bool) rfl 0 hO rfl hE43 h48 h49 (v := .bool true) (u := true) rfl rfl
    refine GoR.op (hop54 Try.underlying4 rfl ti4 rfl rfl) rfl rfl ?_
    replace hO := hst52.own
    replace h_Listappend := h_Listappend.ch hst52.ch
    replace h_r16 := h_r16.ch hst52.ch
    replace hi35 := hi35.ch hst52.ch
    replace hB := hB.trans hst52.bel
    refine GoR.nil ?_
    refine Go1.inBlock ?_
    refine Go1.region ?_
    refine GoR.op ((op_add rfl rfl (wrap_i64 (by have := h45; have := hi35.bd; unfold mx at this; exact ⟨by omega, by omega⟩))) _) rfl rfl ?_
    refine GoR.op ((op_move rfl) _) rfl rfl ?_
    refine GoR.nil ?_
    exact hX2 _ H _ _ ⟨n44, p40, c41, vs51, ⟨rfl, rfl, rfl, rfl, rfl, rfl, rfl, rfl, rfl, rfl, trivial⟩, hO, hE53, h_Listappend, h_r16, hi35, hB⟩
   ·replace H := ifn h45 H
    refine GoR.op ((fun w => opB (op_lss rfl rfl w) (decide_eq_false h45)) _) rfl rfl ?_
    refine GoR.nil ?_
    refine Go1.seq ?_
    refine Go1.condF rfl rfl ?_
    refine Go1.exit rfl ?_
    refine Go1.region ?_
    refine GoR.op ((op_move rfl) _) rfl rfl ?_
    refine GoR.op ((op_move rfl) _) rfl rfl ?_
    refine GoR.op ((op_move rfl) _) rfl rfl ?_
    refine GoR.op ((op_len Try.underlying22 rfl) _) rfl rfl ?_
    refine GoR.call (op_call body57 rfl (walk_trans_divisor hO.lt H)) rfl rfl ?_
    rintro v58 w56 ⟨r55, rfl, hs57, H⟩
    have hst59 := Stp.same hO hs57
    replace hE43 := hE43.ch hst59.ch
    replace hO := hst59.own
    replace h_Listappend := h_Listappend.ch hst59.ch
    replace h_r16 := h_r16.ch hst59.ch
    replace hi35 := hi35.ch hst59.ch
    replace hB := hB.trans hst59.bel
    obtain ⟨h60, H⟩ := H
    obtain ⟨h61, H⟩ := H
    refine GoR.op ((op_quo rfl rfl h60 (wrap_i64 h61)) _) rfl rfl ?_
    refine GoR.op ((op_move rfl) _) rfl rfl ?_
    refine GoR.op ((op_len Try.underlying22 rfl) _) rfl rfl ?_
    obtain ⟨h62, H⟩ := H
    refine GoR.op ((op_mul rfl rfl (wrap_i64 h62)) _) rfl rfl ?_
    refine GoR.op ((op_assign rfl) _) rfl rfl ?_
    refine GoR.nil ?_
    refine Go1.inBlock ?_
    refine Go1.region ?_
    refine GoR.op ((op_add rfl rfl (wrap_i64 (by have := h30; have := h_r16.bd; unfold mx at this; exact ⟨by omega, by omega⟩))) _) rfl rfl ?_
    refine GoR.op ((op_move rfl) _) rfl rfl ?_
    refine GoR.nil ?_
    exact hX1 _ H _ _ ⟨n44, p40, c41, vs42, ⟨rfl, rfl, rfl, rfl, rfl, rfl, trivial⟩, hO, hE43, h_Listappend, h_r16, hB⟩
  ·replace H := ifn h30 H
   refine GoR.op ((fun w => opB (op_lss rfl rfl w) (decide_eq_false h30)) _) rfl rfl ?_
   refine GoR.nil ?_
   refine Go1.seq ?_
   refine Go1.condF rfl rfl ?_
   refine Go1.exit rfl ?_
   refine Go1.seq ?_
   refine Go1.region ?_
   refine GoR.op ((op_assign rfl) _) rfl rfl ?_
   refine GoR.nil ?_
   refine Go1.seq ?_
   refine Go1.seq ?_
   refine Go1.region ?_
   refine GoR.op ((op_move rfl) _) rfl rfl ?_
   refine GoR.op ((op_len Try.underlying22 rfl) _) rfl rfl ?_
   refine GoR.op ((op_move rfl) _) rfl rfl ?_
   refine GoR.nil ?_
   refine Go1.block ?_
   refine Go1.loopW (S := Int × Nat) (fun s σ w => agrees σ [(0, .slice p_Listappend Listappend.length c_Listappend), (4, .slice p25 n29 c26), (5, .int .i64 k1_22), (10, .int .i64 (s.1)), (48, .int .i64 (Listappend.length : Int)), (49, .int .i64 ((s.2) : Int))] ∧ Owns w0.heap.size w [.row 4 1 p25 n29 c26 vs27] A ∧ Els (Rp.bool) (bl [.row 4 1 p25 n29 c26 vs27] ++ A) w vs27 d_24 ∧ ISl (Rp.int .i64) (bl [.row 4 1 p25 n29 c26 vs27] ++ A) w p_Listappend c_Listappend Listappend ∧ Below w0.heap.size w0 w) H ⟨⟨rfl, rfl, rfl, rfl, rfl, rfl, trivial⟩, hO, hE28, h_Listappend, hB⟩ ?_
   rintro X3 ⟨k3_64, k3_65⟩ H hX3 σ w63 ⟨hag, hO, hE28, h_Listappend, hB⟩
   dsimp only at H
   refine Go1.keep [(0, .slice p_Listappend Listappend.length c_Listappend), (4, .slice p25 n29 c26), (5, .int .i64 k1_22), (10, .int .i64 k3_64), (48, .int .i64 (Listappend.length : Int)), (49, .int .i64 (k3_65 : Int))] hag ?_
   refine Go1.seq ?_
   refine Go1.region ?_
   by_cases h66 : (k3_65 : Int) < (Listappend.length : Int)
   ·replace H := ifp h66 H
    refine GoR.op ((fun w => opB (op_lss rfl rfl w) (decide_eq_true h66)) _) rfl rfl ?_
    refine GoR.nil ?_
    refine Go1.seq ?_
    refine Go1.condT rfl rfl ?_
    refine Go1.skip ?_
    refine Go1.seq ?_
    refine Go1.block ?_
    refine Go1.seq ?_
    refine Go1.region ?_
    refine GoR.op ((op_move rfl) _) rfl rfl ?_
    refine GoR.op ((op_assign rfl) _) rfl rfl ?_
    refine GoR.nil ?_
    refine Go1.seq ?_
    refine Go1.region ?_
    refine GoR.op ((op_assign rfl) _) rfl rfl ?_
    refine GoR.nil ?_
    refine Go1.seq ?_
    refine Go1.seq ?_
    refine Go1.region ?_
    refine GoR.op ((op_move rfl) _) rfl rfl ?_
    refine GoR.op ((op_assign rfl) _) rfl rfl ?_
    refine GoR.nil ?_
    refine Go1.block ?_
    refine Go1.loopW (S := Nat × Int) (fun s σ w => agrees σ [(0, .slice p_Listappend Listappend.length c_Listappend), (4, .slice p25 n29 c26), (5, .int .i64 k1_22), (10, .int .i64 k3_64), (12, .int .i64 ((s.1) : Int)), (13, .int .i64 (s.2)), (48, .int .i64 (Listappend.length : Int)), (49, .int .i64 (k3_65 : Int))] ∧ Owns w0.heap.size w [.row 4 1 p25 n29 c26 vs27] A ∧ Els (Rp.bool) (bl [.row 4 1 p25 n29 c26 vs27] ++ A) w vs27 d_24 ∧ ISl (Rp.int .i64) (bl [.row 4 1 p25 n29 c26 vs27] ++ A) w p_Listappend c_Listappend Listappend ∧ Below w0.heap.size w0 w) H ⟨⟨rfl, rfl, rfl, rfl, rfl, rfl, rfl, rfl, trivial⟩, hO, hE28, h_Listappend, hB⟩ ?_
    rintro X4 ⟨k4_68, k4_69⟩ H hX4 σ w67 ⟨hag, hO, hE28, h_Listappend, hB⟩
    dsimp only at H
    refine Go1.keep [(0, .slice p_Listappend Listappend.length c_Listappend), (4, .slice p25 n29 c26), (5, .int .i64 k1_22), (10, .int .i64 k3_64), (12, .int .i64 (k4_68 : Int)), (13, .int .i64 k4_69), (48, .int .i64 (Listappend.length : Int)), (49, .int .i64 (k3_65 : Int))] hag ?_
    refine Go1.seq ?_
    refine Go1.seq ?_
    refine Go1.region ?_
    refine GoR.op ((op_move rfl) _) rfl rfl ?_
    refine GoR.op ((op_move rfl) _) rfl rfl ?_
    obtain ⟨h70, H⟩ := H
    obtain ⟨h71, H⟩ := H
    refine GoR.op ((op_index Try.underlying40 ti4 rfl rfl h70 (ltn (hE28.neq hO 0 rfl) h71) (hE28.psome hO 0 rfl h70 h71)) _) rfl rfl ?_
    by_cases h72 : ix d_24 k4_69 = true
    ·replace H := ifp h72 H
     refine GoR.op (opB ((oldBool 0 hO rfl hE28 h70 h71 Try.underlying4 rfl rfl) _ (Same.refl _)) (h72)) rfl rfl ?_
     refine GoR.op ((op_not rfl) _) rfl rfl ?_
     refine GoR.nil ?_
     refine Go1.condF rfl rfl ?_
     refine Go1.exit rfl ?_
     refine Go1.region ?_
     refine GoR.op ((op_move rfl) _) rfl rfl ?_
     refine GoR.op ((op_move rfl) _) rfl rfl ?_
     by_cases h73 : k3_64 < (k4_68 : Int)
     ·replace H := ifp h73 H
      refine GoR.op ((op_maxT rfl rfl h73) _) rfl rfl ?_
      refine GoR.op ((op_assign rfl) _) rfl rfl ?_
      refine GoR.nil ?_
      refine Go1.inBlock ?_
      refine Go1.region ?_
      refine GoR.op ((op_add rfl rfl (wrap_i64 (by have := h66; have := h_Listappend.bd; unfold mx at this; exact ⟨by omega, by omega⟩))) _) rfl rfl ?_
      refine GoR.op ((op_move rfl) _) rfl rfl ?_
      refine GoR.nil ?_
      exact hX3 _ H _ _ ⟨⟨rfl, rfl, rfl, rfl, rfl, rfl, trivial⟩, hO, hE28, h_Listappend, hB⟩
     ·replace H := ifn h73 H
      refine GoR.op ((op_maxF rfl rfl h73) _) rfl rfl ?_
      refine GoR.op ((op_assign rfl) _) rfl rfl ?_
      refine GoR.nil ?_
      refine Go1.inBlock ?_
      refine Go1.region ?_
      refine GoR.op ((op_add rfl rfl (wrap_i64 (by have := h66; have := h_Listappend.bd; unfold mx at this; exact ⟨by omega, by omega⟩))) _) rfl rfl ?_
      refine GoR.op ((op_move rfl) _) rfl rfl ?_
      refine GoR.nil ?_
      exact hX3 _ H _ _ ⟨⟨rfl, rfl, rfl, rfl, rfl, rfl, trivial⟩, hO, hE28, h_Listappend, hB⟩
    ·replace H := ifn h72 H
     refine GoR.op (opB ((oldBool 0 hO rfl hE28 h70 h71 Try.underlying4 rfl rfl) _ (Same.refl _)) (Bool.eq_false_iff.2 h72)) rfl rfl ?_
     refine GoR.op ((op_not rfl) _) rfl rfl ?_
     refine GoR.nil ?_
     refine Go1.condT rfl rfl ?_
     refine Go1.skip ?_
     refine Go1.seq ?_
     refine Go1.block ?_
     refine Go1.region ?_
     refine GoR.op ((op_move rfl) _) rfl rfl ?_
     obtain ⟨h74, H⟩ := H
     refine GoR.op ((op_add rfl rfl (wrap_i64 h74)) _) rfl rfl ?_
     refine GoR.op ((op_assign rfl) _) rfl rfl ?_
     refine GoR.nil ?_
     refine Go1.inBlock ?_
     refine Go1.region ?_
     refine GoR.op ((op_move rfl) _) rfl rfl ?_
     refine GoR.op ((op_move rfl) _) rfl rfl ?_
     obtain ⟨h75, H⟩ := H
     obtain ⟨h76, H⟩ := H
     refine GoR.op ((op_index Try.underlying22 ti3 rfl rfl h75 h76 (h_Listappend.some_ h75 h76)) _) rfl rfl ?_
     refine GoR.op ((ldInt h_Listappend h75 h76 Try.underlying3 rfl rfl) _ (Same.refl _)) rfl rfl ?_
     refine GoR.op ((op_assign rfl) _) rfl rfl ?_
     refine GoR.nil ?_
     exact hX4 _ H _ _ ⟨⟨rfl, rfl, rfl, rfl, rfl, rfl, rfl, rfl, trivial⟩, hO, hE28, h_Listappend, hB⟩
   ·replace H := ifn h66 H
    refine GoR.op ((fun w => opB (op_lss rfl rfl w) (decide_eq_false h66)) _) rfl rfl ?_
    refine GoR.nil ?_
    refine Go1.seq ?_
    refine Go1.condF rfl rfl ?_
    refine Go1.exit rfl ?_
    refine Go1.seq ?_
    refine Go1.region ?_
    refine GoR.op ((op_move rfl) _) rfl rfl ?_
    refine GoR.op ((op_move rfl) _) rfl rfl ?_
    refine GoR.op ((op_assign rfl) _) rfl rfl ?_
    refine GoR.op ((op_assign rfl) _) rfl rfl ?_
    refine GoR.nil ?_
    refine Go1.ret2 Try.func37 rfl ?_
    exact ⟨k3_64, k1_22, rfl, (Below.same' hB), H⟩
theorem body38 : Body Try.prog 38 := ⟨Try.f38, Try.func38, rfl, by kernel_rfl⟩
theorem walk_trans_Omega {A : List Nat} {w0 : World} {p_f : Option Addr} {c_f : Nat} {f : List Int} (hA : ∀ b ∈ A, b < w0.heap.size) (h_f : ISl (Rp.int .i64) A w0 p_f c_f f) {K : List Int → Prop} (H : trans_Omega f K) :
    CallsV Try.prog 38 #[.slice p_f f.length c_f] w0 (fun v w' => ∃ (r0 : List Int), ∃ (p_r0 : Option Addr), ∃ (c_r0 : Nat), v = .slice p_r0 r0.length c_r0 ∧ Same w0 w' ∧ ISl (Rp.int .i64) A w' p_r0 c_r0 r0 ∧ K r0) := by
 refine CallsV.of (l := [.slice p_f f.length c_f]) Try.func38 rfl Try.ntmps38 rfl ?_
 have hO := Owns.start hA
 have hB := Below.refl w0.heap.size w0
 unfold trans_Omega at H
 replace h_f := h_f.ch (Ch.start A w0)
 refine Go1.seq ?_
 refine Go1.region ?_
 refine GoR.op ((op_assign rfl) _) rfl rfl ?_
 refine GoR.nil ?_
 refine Go1.seq ?_
 refine Go1.seq ?_
 refine Go1.region ?_
 refine GoR.op ((op_move rfl) _) rfl rfl ?_
 refine GoR.call (op_call body21 rfl (walk_trans_Valid hO.lt h_f H)) rfl rfl ?_
 rintro v4 w2 ⟨r1, rfl, hs3, H⟩
 have hst5 := Stp.same hO hs3
 replace hO := hst5.own
 replace h_f := h_f.ch hst5.ch
 replace hB := hB.trans hst5.bel
 cases r1
 ·replace H := ifn Bool.false_ne_true H
  refine GoR.op ((op_not rfl) _) rfl rfl ?_
  refine GoR.nil ?_
  refine Go1.condT rfl rfl ?_
  refine Go1.seq ?_
  refine Go1.region ?_
  refine GoR.op ((op_assign rfl) _) rfl rfl ?_
  refine GoR.nil ?_
  refine Go1.ret1 Try.func38 rfl ?_
  exact ⟨([] : List Int), none, 0, rfl, (Below.same' hB), (ISl.null _ _ _), H⟩
 ·replace H := ifp rfl H
  refine GoR.op ((op_not rfl) _) rfl rfl ?_
  refine GoR.nil ?_
  refine Go1.condF rfl rfl ?_
  refine Go1.skip ?_
  refine Go1.seq ?_
  refine Go1.region ?_
  refine GoR.op ((op_move rfl) _) rfl rfl ?_
  refine GoR.call (op_call body37 rfl (walk_trans_IndexPeriod hO.lt h_f H)) rfl rfl ?_
  rintro v10 w8 ⟨r6, r7, rfl, hs9, H⟩
  have hst11 := Stp.same hO hs9
  replace hO := hst11.own
  replace h_f := h_f.ch hst11.ch
  replace hB := hB.trans hst11.bel
  refine GoR.op ((op_move rfl) _) rfl rfl ?_
  refine GoR.op ((op_extract rfl rfl) _) rfl rfl ?_
  refine GoR.op ((op_extract rfl rfl) _) rfl rfl ?_
  refine GoR.op ((op_assign rfl) _) rfl rfl ?_
  refine GoR.op ((op_assign rfl) _) rfl rfl ?_
  refine GoR.nil ?_
  refine Go1.seq ?_
  refine Go1.region ?_
  refine GoR.op ((op_move rfl) _) rfl rfl ?_
  refine GoR.op ((op_move rfl) _) rfl rfl ?_
  refine GoR.op ((op_move rfl) _) rfl rfl ?_
  obtain ⟨h12, H⟩ := H
  refine GoR.op ((op_add rfl rfl (wrap_i64 h12)) _) rfl rfl ?_
  obtain ⟨h13, H⟩ := H
  refine GoR.op ((op_sub rfl rfl (wrap_i64 h13)) _) rfl rfl ?_
  refine GoR.op ((op_move rfl) _) rfl rfl ?_
  obtain ⟨h14, H⟩ := H
  obtain ⟨h15, H⟩ := H
  refine GoR.op ((op_quo rfl rfl h14 (wrap_i64 h15)) _) rfl rfl ?_
  refine GoR.op ((op_move rfl) _) rfl rfl ?_
  obtain ⟨h16, H⟩ := H
  refine GoR.op ((op_mul rfl rfl (wrap_i64 h16)) _) rfl rfl ?_
  refine GoR.call (op_call body27 rfl (walk_trans_Power hO.lt h_f H)) rfl rfl ?_
  rintro v20 w18 ⟨r17, p_r17, c_r17, rfl, hs19, h_r17, H⟩
  have hst21 := Stp.same hO hs19
  replace hO := hst21.own
  replace h_f := h_f.ch hst21.ch
  replace hB := hB.trans hst21.bel
  refine GoR.op ((op_assign rfl) _) rfl rfl ?_
  refine GoR.nil ?_
  refine Go1.ret1 Try.func38 rfl ?_
  exact ⟨r17, p_r17, c_r17, rfl, (Below.same' hB), (h_r17.ch (Ch.weak _ _ _)), H⟩
theorem body40 : Body Try.prog 40 := ⟨Try.f40, Try.func40, rfl, by kernel_rfl⟩
theorem walk_ref11_Cycles {A : List Nat} {w0 : World} {p_f : Option Addr} {c_f : Nat} {f : List Int} (hA : ∀ b ∈ A, b < w0.heap.size) (h_f : ISl (Rp.int .i64) A w0 p_f c_f f) {K : List (List Int) → Prop} (H : ref11_Cycles f K) :
    CallsV Try.prog 40 #[.slice p_f f.length c_f] w0 (fun v w' => ∃ (r0 : List (List Int)), ∃ (p_r0 : Option Addr), ∃ (c_r0 : Nat), v = .slice p_r0 r0.length c_r0 ∧ Same w0 w' ∧ ISl (Rp.sl (Rp.int .i64)) A w' p_r0 c_r0 r0 ∧ K r0) := by
 refine CallsV.of (l := [.slice p_f f.length c_f]) Try.func40 rfl Try.ntmps40 rfl ?_
 have hO := Owns.start hA
 have hB := Below.refl w0.heap.size w0
 unfold ref11_Cycles at H
 replace h_f := h_f.ch (Ch.start A w0)
 refine Go1.seq ?_
 refine Go1.region ?_
 refine GoR.op ((op_assign rfl) _) rfl rfl ?_
 refine GoR.nil ?_
 refine Go1.seq ?_
 refine Go1.region ?_
 refine GoR.op ((op_assign rfl) _) rfl rfl ?_
 refine GoR.nil ?_
 refine Go1.seq ?_
 refine Go1.seq ?_
 refine Go1.region ?_
 refine GoR.op ((op_move rfl) _) rfl rfl ?_
 refine GoR.op ((op_len Try.underlying22 rfl) _) rfl rfl ?_
 replace H := H h_f.bd
 refine GoR.op ((op_move rfl) _) rfl rfl ?_
 refine GoR.nil ?_
 refine Go1.block ?_
 have hst2 := Stp.nil (e := 22) (r := 1) hO
 replace hO := hst2.own
 replace h_f := h_f.ch hst2.ch
 replace hB := hB.trans hst2.bel
 have hE3 := Els.nil (Rp.sl (Rp.int .i64)) (bl (.row 22 1 none 0 0 [] :: []) ++ A) w0
 refine Go1.loopW (S := Nat × List (List Int)) (fun s σ w => ∃ (n11 : Nat), ∃ (p7 : Option Addr), ∃ (c8 : Nat), ∃ (vs9 : List Value), agrees σ [(0, .slice p_f f.length c_f), (3, .slice p7 n11 c8), (8, .int .i64 (f.length : Int)), (9, .int .i64 ((s.1) : Int))] ∧ Owns w0.heap.size w [.row 22 1 p7 n11 c8 vs9] A ∧ Els (Rp.sl (Rp.int .i64)) (bl [.row 22 1 p7 n11 c8 vs9] ++ A) w vs9 (s.2) ∧ ISl (Rp.int .i64) (bl [.row 22 1 p7 n11 c8 vs9] ++ A) w p_f c_f f ∧ Below w0.heap.size w0 w) H ⟨0, none, 0, [], ⟨rfl, rfl, rfl, rfl, trivial⟩, hO, hE3, h_f, hB⟩ ?_
 rintro X1 ⟨k1_5, out1_6⟩ H hX1 σ w4 ⟨n11, p7, c8, vs9, hag, hO, hE10, h_f, hB⟩
 dsimp only at H
 refine Go1.keep [(0, .slice p_f f.length c_f), (3, .slice p7 n11 c8), (8, .int .i64 (f.length : Int)), (9, .int .i64 (k1_5 : Int))] hag ?_
 refine Go1.seq ?_
 refine Go1.region ?_
 by_cases h12 : (k1_5 : Int) < (f.length : Int)
 ·replace H := ifp h12 H
  refine GoR.op ((fun w => opB (op_lss rfl rfl w) (decide_eq_true h12)) _) rfl rfl ?_
  refine GoR.nil ?_
  refine Go1.seq ?_
  refine Go1.condT rfl rfl ?_
  refine Go1.skip ?_
  refine Go1.seq ?_
  refine Go1.block ?_
  refine Go1.seq ?_
  refine Go1.region ?_
  refine GoR.op ((op_move rfl) _) rfl rfl ?_
  refine GoR.op ((op_assign rfl) _) rfl rfl ?_
  refine GoR.nil ?_
  refine Go1.seq ?_
  refine Go1.region ?_
  refine GoR.op ((op_move rfl) _) rfl rfl ?_
  obtain ⟨w13, p14, hst15, hE16, hs17, hop18⟩ := obuild (r := Rp.int .i64) (n := 1) (parts := [(0, .int .i64 (k1_5 : Int))]) (vs := [.int .i64 (k1_5 : Int)]) (xs := [(k1_5 : Int)]) rfl Try.underlying22 ti3 hO (by decide) (by kernel_rfl) (Els.cons rfl rfl (Els.nil _ _ _) (by decide)) rfl
  refine GoR.op (hop18 rfl) rfl rfl ?_
  replace hE10 := hE10.ch hst15.ch
  replace hO := hst15.own
  replace h_f := h_f.ch hst15.ch
  replace hB := hB.trans hst15.bel
  refine GoR.op ((op_assign rfl) _) rfl rfl ?_
  refine GoR.nil ?_
  refine Go1.seq ?_
  refine Go1.seq ?_
  refine Go1.region ?_
  refine GoR.op ((op_move rfl) _) rfl rfl ?_
  refine GoR.op ((op_move rfl) _) rfl rfl ?_
  obtain ⟨h20, H⟩ := H
  obtain ⟨h21, H⟩ := H
  refine GoR.op ((op_index Try.underlying22 ti3 rfl rfl h20 h21 (h_f.some_ h20 h21)) _) rfl rfl ?_
  refine GoR.op ((ldInt h_f h20 h21 Try.underlying3 rfl rfl) _ (Same.refl _)) rfl rfl ?_
  refine GoR.op ((op_assign rfl) _) rfl rfl ?_
  refine GoR.nil ?_
  refine Go1.block ?_
  refine Go1.loopW (S := Int × List Int) (fun s σ w => ∃ (n29 : Nat), ∃ (p25 : Option Addr), ∃ (c26 : Nat), ∃ (vs27 : List Value), agrees σ [(0, .slice p_f f.length c_f), (3, .slice p7 n11 c8), (4, .int .i64 (k1_5 : Int)), (5, .slice p25 n29 c26), (6, .int .i64 (s.1)), (8, .int .i64 (f.length : Int)), (9, .int .i64 (k1_5 : Int))] ∧ Owns w0.heap.size w [.row 3 1 p25 n29 c26 vs27, .row 22 1 p7 n11 c8 vs9] A ∧ Els (Rp.int .i64) (bl [.row 3 1 p25 n29 c26 vs27, .row 22 1 p7 n11 c8 vs9] ++ A) w vs27 (s.2) ∧ Els (Rp.sl (Rp.int .i64)) (bl [.row 3 1 p25 n29 c26 vs27, .row 22 1 p7 n11 c8 vs9] ++ A) w vs9 out1_6 ∧ ISl (Rp.int .i64) (bl [.row 3 1 p25 n29 c26 vs27, .row 22 1 p7 n11 c8 vs9] ++ A) w p_f c_f f ∧ Below w0.heap.size w0 w) H ⟨1, p14, 1, [.int .i64 (k1_5 : Int)], ⟨rfl, rfl, rfl, rfl, rfl, rfl, rfl, trivial⟩, hO, hE16, hE10, h_f, hB⟩ ?_
  rintro X2 ⟨x2_23, c2_24⟩ H hX2 σ w22 ⟨n29, p25, c26, vs27, hag, hO, hE28, hE10, h_f, hB⟩
  dsimp only at H
  refine Go1.keep [(0, .slice p_f f.length c_f), (3, .slice p7 n11 c8), (4, .int .i64 (k1_5 : Int)), (5, .slice p25 n29 c26), (6, .int .i64 x2_23), (8, .int .i64 (f.length : Int)), (9, .int .i64 (k1_5 : Int))] hag ?_
  refine Go1.seq ?_
  refine Go1.seq ?_
  refine Go1.region ?_
  refine GoR.op ((op_move rfl) _) rfl rfl ?_
  refine GoR.op ((op_move rfl) _) rfl rfl ?_
  by_cases h30 : (k1_5 : Int) < x2_23
  ·replace H := ifp h30 H
   refine GoR.op ((fun w => opB (op_gtr rfl rfl w) (decide_eq_true h30)) _) rfl rfl ?_
   refine GoR.op ((op_move rfl) _) rfl rfl ?_
   refine GoR.op ((op_move rfl) _) rfl rfl ?_
   refine GoR.op ((op_lenN Try.underlying22 rfl (hE28.neq hO 0 rfl)) _) rfl rfl ?_
   refine GoR.op ((op_move rfl) _) rfl rfl ?_
   refine GoR.op ((op_len Try.underlying22 rfl) _) rfl rfl ?_
   by_cases h31 : (c2_24.length : Int) ≤ (f.length : Int)
   ·replace H := ifp h31 H
    refine GoR.op ((fun w => opB (op_leq rfl rfl w) (decide_eq_true h31)) _) rfl rfl ?_
    refine GoR.op ((op_pickT rfl rfl rfl) _) rfl rfl ?_
    refine GoR.nil ?_
    refine Go1.condT rfl rfl ?_
    refine Go1.skip ?_
    refine Go1.seq ?_
    refine Go1.block ?_
    refine Go1.region ?_
    refine GoR.op ((op_move rfl) _) rfl rfl ?_
    refine GoR.op ((op_move rfl) _) rfl rfl ?_
    obtain ⟨w32, p33, hst34, hE35, hs36, hop37⟩ := obuild (r := Rp.int .i64) (n := 1) (parts := [(0, .int .i64 x2_23)]) (vs := [.int .i64 x2_23]) (xs := [x2_23]) rfl Try.underlying22 ti3 hO (by decide) (by kernel_rfl) (Els.cons rfl rfl (Els.nil _ _ _) (by decide)) rfl
    refine GoR.op (hop37 rfl) rfl rfl ?_
    replace hE28 := hE28.ch hst34.ch
    replace hE10 := hE10.ch hst34.ch
    replace hO := hst34.own
    replace h_f := h_f.ch hst34.ch
    replace hB := hB.trans hst34.bel
    obtain ⟨hO1, hc41, hi39, hn40⟩ := freeze 0 hO rfl hE35
    replace h_f := h_f.ch hc41
    replace hE28 := hE28.ch hc41
    replace hE10 := hE10.ch hc41
    replace hO := hO1; clear hO1
    obtain ⟨h42, H⟩ := H
    obtain ⟨w43, p44, c45, vs46, hst47, hE48, hop49⟩ := oapp Try.underlying22 ti3 rfl 0 hO rfl hE28 hi39 hn40 h42 (by decide)
    refine GoR.op (hop49 rfl rfl) rfl rfl ?_
    replace hE10 := hE10.ch hst47.ch
    replace hO := hst47.own
    replace h_f := h_f.ch hst47.ch
    replace hi39 := hi39.ch hst47.ch
    replace hB := hB.trans hst47.bel
    refine GoR.op ((op_assign rfl) _) rfl rfl ?_
    refine GoR.nil ?_
    refine Go1.inBlock ?_
    refine Go1.region ?_
    refine GoR.op ((op_move rfl) _) rfl rfl ?_
    refine GoR.op ((op_move rfl) _) rfl rfl ?_
    obtain ⟨h50, H⟩ := H
    obtain ⟨h51, H⟩ := H
    refine GoR.op ((op_index Try.underlying22 ti3 rfl rfl h50 h51 (h_f.some_ h50 h51)) _) rfl rfl ?_
    refine GoR.op ((ldInt h_f h50 h51 Try.underlying3 rfl rfl) _ (Same.refl _)) rfl rfl ?_
    refine GoR.op ((op_assign rfl) _) rfl rfl ?_
    refine GoR.nil ?_
    exact hX2 _ H _ _ ⟨n29 + 1, p44, c45, vs46, ⟨rfl, rfl, rfl, rfl, rfl, rfl, rfl, trivial⟩, hO, hE48, hE10, h_f, hB⟩
   ·replace H := ifn h31 H
    refine GoR.op ((fun w => opB (op_leq rfl rfl w) (decide_eq_false h31)) _) rfl rfl ?_
    refine GoR.op ((op_pickT rfl rfl rfl) _) rfl rfl ?_
    refine GoR.nil ?_
    refine Go1.condF rfl rfl ?_
    refine Go1.exit rfl ?_
    refine Go1.seq ?_
    refine Go1.region ?_
    refine GoR.op ((op_move rfl) _) rfl rfl ?_
    refine GoR.op ((op_move rfl) _) rfl rfl ?_
    refine GoR.op ((op_move rfl) _) rfl rfl ?_
    refine GoR.op ((op_lenN Try.underlying22 rfl (hE28.neq hO 0 rfl)) _) rfl rfl ?_
    obtain ⟨h52, H⟩ := H
    refine GoR.op ((op_sub rfl rfl (wrap_i64 h52)) _) rfl rfl ?_
    obtain ⟨h53, H⟩ := H
    obtain ⟨h54, H⟩ := H
    refine GoR.op ((op_index Try.underlying22 ti3 rfl rfl h53 (ltn (hE28.neq hO 0 rfl) h54) (hE28.psome hO 0 rfl h53 h54)) _) rfl rfl ?_
    refine GoR.op ((oldInt 0 hO rfl hE28 h53 h54 Try.underlying3 rfl rfl) _ (Same.refl _)) rfl rfl ?_
    obtain ⟨h55, H⟩ := H
    obtain ⟨h56, H⟩ := H
    refine GoR.op ((op_index Try.underlying22 ti3 rfl rfl h55 h56 (h_f.some_ h55 h56)) _) rfl rfl ?_
    refine GoR.op ((ldInt h_f h55 h56 Try.underlying3 rfl rfl) _ (Same.refl _)) rfl rfl ?_
    refine GoR.op ((op_move rfl) _) rfl rfl ?_
    by_cases h57 : (ix f (ix c2_24 ((c2_24.length : Int) - (1 : Int)))) = (k1_5 : Int)
    ·replace H := ifp h57 H
     refine GoR.op ((fun w => opB (op_eql rfl rfl w) (decide_eq_true h57)) _) rfl rfl ?_
     refine GoR.nil ?_
     refine Go1.condT rfl rfl ?_
     refine Go1.region ?_
     refine GoR.op ((op_move rfl) _) rfl rfl ?_
     refine GoR.op ((op_move rfl) _) rfl rfl ?_
     obtain ⟨hO1, hc60, hi58, hn59⟩ := freeze 0 hO rfl hE28
     replace h_f := h_f.ch hc60
     replace hE10 := hE10.ch hc60
     replace hO := hO1; clear hO1
     obtain ⟨w61, p62, hst63, hE64, hs65, hop66⟩ := obuild (r := Rp.sl (Rp.int .i64)) (n := 1) (parts := [(0, .slice p25 n29 c26)]) (vs := [.slice p25 n29 c26]) (xs := [c2_24]) rfl Try.underlying35 ti22 hO (by decide) (by kernel_rfl) (Els.cons rfl ⟨p25, c26, congrArg some (congrArg (fun nn => Value.slice p25 nn c26) hn59), hi58⟩ (Els.nil _ _ _) (by decide)) rfl
     refine GoR.op (hop66 rfl) rfl rfl ?_
     replace hE10 := hE10.ch hst63.ch
     replace hO := hst63.own
     replace h_f := h_f.ch hst63.ch
     replace hi58 := hi58.ch hst63.ch
     replace hB := hB.trans hst63.bel
     obtain ⟨hO1, hc70, hi68, hn69⟩ := freeze 0 hO rfl hE64
     replace h_f := h_f.ch hc70
     replace hi58 := hi58.ch hc70
     replace hE10 := hE10.ch hc70
     replace hO := hO1; clear hO1
     obtain ⟨h71, H⟩ := H
     obtain ⟨w72, p73, c74, vs75, hst76, hE77, hop78⟩ := oapp Try.underlying35 ti22 rfl 0 hO rfl hE10 hi68 hn69 h71 (by decide)
     refine GoR.op (hop78 rfl rfl) rfl rfl ?_
     replace hO := hst76.own
     replace h_f := h_f.ch hst76.ch
     replace hi58 := hi58.ch hst76.ch
     replace hi68 := hi68.ch hst76.ch
     replace hB := hB.trans hst76.bel
     refine GoR.op ((op_assign rfl) _) rfl rfl ?_
     refine GoR.nil ?_
     refine Go1.inBlock ?_
     refine Go1.region ?_
     refine GoR.op ((op_add rfl rfl (wrap_i64 (by have := h12; have := h_f.bd; unfold mx at this; exact ⟨by omega, by omega⟩))) _) rfl rfl ?_
     refine GoR.op ((op_move rfl) _) rfl rfl ?_
     refine GoR.nil ?_
     exact hX1 _ H _ _ ⟨n11 + 1, p73, c74, vs75, ⟨rfl, rfl, rfl, rfl, trivial⟩, hO, hE77, h_f, hB⟩
    ·replace H := ifn h57 H
     refine GoR.op ((fun w => opB (op_eql rfl rfl w) (decide_eq_false h57)) _) rfl rfl ?_
     refine GoR.nil ?_
     refine Go1.condF rfl rfl ?_
     refine Go1.skip ?_
     refine Go1.inBlock ?_
     refine Go1.region ?_
     refine GoR.op ((op_add rfl rfl (wrap_i64 (by have := h12; have := h_f.bd; unfold mx at this; exact ⟨by omega, by omega⟩))) _) rfl rfl ?_
     refine GoR.op ((op_move rfl) _) rfl rfl ?_
     refine GoR.nil ?_
     replace h_f := h_f.ch (Owns.dropCh _ _ 0)
     replace hE10 := hE10.ch (Owns.dropCh _ _ 0)
     replace hO := hO.drop 0
     exact hX1 _ H _ _ ⟨n11, p7, c8, vs9, ⟨rfl, rfl, rfl, rfl, trivial⟩, hO, hE10, h_f, hB⟩
  ·replace H := ifn h30 H
   refine GoR.op ((fun w => opB (op_gtr rfl rfl w) (decide_eq_false h30)) _) rfl rfl ?_
   refine GoR.op ((op_move rfl) _) rfl rfl ?_
   refine GoR.pass rfl rfl ?_
   refine GoR.pass rfl rfl ?_
   refine GoR.pass rfl rfl ?_
   refine GoR.pass rfl rfl ?_
   refine GoR.pass rfl rfl ?_
   refine GoR.op ((op_pickF rfl rfl rfl) _) rfl rfl ?_
   refine GoR.nil ?_
   refine Go1.condF rfl rfl ?_
   refine Go1.exit rfl ?_
   refine Go1.seq ?_
   refine Go1.region ?_
   refine GoR.op ((op_move rfl) _) rfl rfl ?_
   refine GoR.op ((op_move rfl) _) rfl rfl ?_
   refine GoR.op ((op_move rfl) _) rfl rfl ?_
   refine GoR.op ((op_lenN Try.underlying22 rfl (hE28.neq hO 0 rfl)) _) rfl rfl ?_
   obtain ⟨h79, H⟩ := H
   refine GoR.op ((op_sub rfl rfl (wrap_i64 h79)) _) rfl rfl ?_
   obtain ⟨h80, H⟩ := H
   obtain ⟨h81, H⟩ := H
   refine GoR.op ((op_index Try.underlying22 ti3 rfl rfl h80 (ltn (hE28.neq hO 0 rfl) h81) (hE28.psome hO 0 rfl h80 h81)) _) rfl rfl ?_
   refine GoR.op ((oldInt 0 hO rfl hE28 h80 h81 Try.underlying3 rfl rfl) _ (Same.refl _)) rfl rfl ?_
   obtain ⟨h82, H⟩ := H
   obtain ⟨h83, H⟩ := H
   refine GoR.op ((op_index Try.underlying22 ti3 rfl rfl h82 h83 (h_f.some_ h82 h83)) _) rfl rfl ?_
   refine GoR.op ((ldInt h_f h82 h83 Try.underlying3 rfl rfl) _ (Same.refl _)) rfl rfl ?_
   refine GoR.op ((op_move rfl) _) rfl rfl ?_
   by_cases h84 : (ix f (ix c2_24 ((c2_24.length : Int) - (1 : Int)))) = (k1_5 : Int)
   ·replace H := ifp h84 H
    refine GoR.op ((fun w => opB (op_eql rfl rfl w) (decide_eq_true h84)) _) rfl rfl ?_
    refine GoR.nil ?_
    refine Go1.condT rfl rfl ?_
    refine Go1.region ?_
    refine GoR.op ((op_move rfl) _) rfl rfl ?_
    refine GoR.op ((op_move rfl) _) rfl rfl ?_
    obtain ⟨hO1, hc87, hi85, hn86⟩ := freeze 0 hO rfl hE28
    replace h_f := h_f.ch hc87
    replace hE10 := hE10.ch hc87
    replace hO := hO1; clear hO1
    obtain ⟨w88, p89, hst90, hE91, hs92, hop93⟩ := obuild (r := Rp.sl (Rp.int .i64)) (n := 1) (parts := [(0, .slice p25 n29 c26)]) (vs := [.slice p25 n29 c26]) (xs := [c2_24]) rfl Try.underlying35 ti22 hO (by decide) (by kernel_rfl) (Els.cons rfl ⟨p25, c26, congrArg some (congrArg (fun nn => Value.slice p25 nn c26) hn86), hi85⟩ (Els.nil _ _ _) (by decide)) rfl
    refine GoR.op (hop93 rfl) rfl rfl ?_
    replace hE10 := hE10.ch hst90.ch
    replace hO := hst90.own
    replace h_f := h_f.ch hst90.ch
    replace hi85 := hi85.ch hst90.ch
    replace hB := hB.trans hst90.bel
    obtain ⟨hO1, hc97, hi95, hn96⟩ := freeze 0 hO rfl hE91
    replace h_f := h_f.ch hc97
    replace hi85 := hi85.ch hc97
    replace hE10 := hE10.ch hc97
    replace hO := hO1; clear hO1
    obtain ⟨h98, H⟩ := H
    obtain ⟨w99, p100, c101, vs102, hst103, hE104, hop105⟩ := oapp Try.underlying35 ti22 rfl 0 hO rfl hE10 hi95 hn96 h98 (by decide)
    refine GoR.op (hop105 rfl rfl) rfl rfl ?_
    replace hO := hst103.own
    replace h_f := h_f.ch hst103.ch
    replace hi85 := hi85.ch hst103.ch
    replace hi95 := hi95.ch hst103.ch
    replace hB := hB.trans hst103.bel
    refine GoR.op ((op_assign rfl) _) rfl rfl ?_
    refine GoR.nil ?_
    refine Go1.inBlock ?_
    refine Go1.region ?_
    refine GoR.op ((op_add rfl rfl (wrap_i64 (by have := h12; have := h_f.bd; unfold mx at this; exact ⟨by omega, by omega⟩))) _) rfl rfl ?_
    refine GoR.op ((op_move rfl) _) rfl rfl ?_
    refine GoR.nil ?_
    exact hX1 _ H _ _ ⟨n11 + 1, p100, c101, vs102, ⟨rfl, rfl, rfl, rfl, trivial⟩, hO, hE104, h_f, hB⟩
   ·replace H := ifn h84 H
    refine GoR.op ((fun w => opB (op_eql rfl rfl w) (decide_eq_false h84)) _) rfl rfl ?_
    refine GoR.nil ?_
    refine Go1.condF rfl rfl ?_
    refine Go1.skip ?_
    refine Go1.inBlock ?_
    refine Go1.region ?_
    refine GoR.op ((op_add rfl rfl (wrap_i64 (by have := h12; have := h_f.bd; unfold mx at this; exact ⟨by omega, by omega⟩))) _) rfl rfl ?_
    refine GoR.op ((op_move rfl) _) rfl rfl ?_
    refine GoR.nil ?_
    replace h_f := h_f.ch (Owns.dropCh _ _ 0)
    replace hE10 := hE10.ch (Owns.dropCh _ _ 0)
    replace hO := hO.drop 0
    exact hX1 _ H _ _ ⟨n11, p7, c8, vs9, ⟨rfl, rfl, rfl, rfl, trivial⟩, hO, hE10, h_f, hB⟩
 ·replace H := ifn h12 H
  refine GoR.op ((fun w => opB (op_lss rfl rfl w) (decide_eq_false h12)) _) rfl rfl ?_
  refine GoR.nil ?_
  refine Go1.seq ?_
  refine Go1.condF rfl rfl ?_
  refine Go1.exit rfl ?_
  refine Go1.seq ?_
  refine Go1.region ?_
  refine GoR.op ((op_move rfl) _) rfl rfl ?_
  refine GoR.op ((op_assign rfl) _) rfl rfl ?_
  refine GoR.nil ?_
  obtain ⟨hO1, hc108, hi106, hn107⟩ := freeze 0 hO rfl hE10
  replace h_f := h_f.ch hc108
  replace hO := hO1; clear hO1
  refine Go1.ret1 Try.func40 rfl ?_
  exact ⟨out1_6, p7, c8, ((congrArg (fun nn => Value.slice p7 nn c8) hn107)), (Below.same' hB), (hi106.ch (Ch.weak _ _ _)), H⟩
theorem body58 : Body Try.prog 58 := ⟨Try.f58, Try.func58, rfl, by kernel_rfl⟩
theorem walk_ref11_Powers {A : List Nat} {w0 : World} {p_f : Option Addr} {c_f : Nat} {f : List Int} (hA : ∀ b ∈ A, b < w0.heap.size) (h_f : ISl (Rp.int .i64) A w0 p_f c_f f) {K : List (List Int) → Int → Prop} (H : ref11_Powers f K) :
    CallsV Try.prog 58 #[.slice p_f f.length c_f] w0 (fun v w' => ∃ (r0 : List (List Int)), ∃ (r1 : Int), ∃ (p_r0 : Option Addr), ∃ (c_r0 : Nat), v = .tuple #[.slice p_r0 r0.length c_r0, .int .i64 r1] ∧ Same w0 w' ∧ ISl (Rp.sl (Rp.int .i64)) A w' p_r0 c_r0 r0 ∧ K r0 r1) := by
 refine CallsV.of (l := [.slice p_f f.length c_f]) Try.func58 rfl Try.ntmps58 rfl ?_
 have hO := Owns.start hA
 have hB := Below.refl w0.heap.size w0
 unfold ref11_Powers at H
 replace h_f := h_f.ch (Ch.start A w0)
 refine Go1.seq ?_
 refine Go1.region ?_
 refine GoR.op ((op_assign rfl) _) rfl rfl ?_
 refine GoR.op ((op_assign rfl) _) rfl rfl ?_
 refine GoR.nil ?_
 refine Go1.seq ?_
 refine Go1.region ?_
 refine GoR.op ((op_move rfl) _) rfl rfl ?_
 obtain ⟨w1, p2, hst3, hE4, hs5, hop6⟩ := obuild (r := Rp.sl (Rp.int .i64)) (n := 1) (parts := [(0, .slice p_f f.length c_f)]) (vs := [.slice p_f f.length c_f]) (xs := [f]) rfl Try.underlying35 ti22 hO (by decide) (by kernel_rfl) (Els.cons rfl ⟨p_f, c_f, rfl, h_f⟩ (Els.nil _ _ _) (by decide)) rfl
 refine GoR.op (hop6 rfl) rfl rfl ?_
 replace hO := hst3.own
 replace h_f := h_f.ch hst3.ch
 replace hB := hB.trans hst3.bel
 refine GoR.op ((op_assign rfl) _) rfl rfl ?_
 refine GoR.nil ?_
 refine Go1.block ?_
 refine Go1.loopW (S := List (List Int)) (fun s σ w => ∃ (n14 : Nat), ∃ (p10 : Option Addr), ∃ (c11 : Nat), ∃ (vs12 : List Value), agrees σ [(0, .slice p_f f.length c_f), (4, .slice p10 n14 c11)] ∧ Owns w0.heap.size w [.row 22 1 p10 n14 c11 vs12] A ∧ Els (Rp.sl (Rp.int .i64)) (bl [.row 22 1 p10 n14 c11 vs12] ++ A) w vs12 s ∧ ISl (Rp.int .i64) (bl [.row 22 1 p10 n14 c11 vs12] ++ A) w p_f c_f f ∧ Below w0.heap.size w0 w) H ⟨1, p2, 1, [.slice p_f f.length c_f], ⟨rfl, rfl, trivial⟩, hO, hE4, h_f, hB⟩ ?_
 rintro X1 l1_9 H hX1 σ w8 ⟨n14, p10, c11, vs12, hag, hO, hE13, h_f, hB⟩
 refine Go1.keep [(0, .slice p_f f.length c_f), (4, .slice p10 n14 c11)] hag ?_
 refine Go1.block ?_
 refine Go1.seq ?_
 refine Go1.region ?_
 refine GoR.op ((op_move rfl) _) rfl rfl ?_
 refine GoR.op ((op_move rfl) _) rfl rfl ?_
 refine GoR.op ((op_lenN Try.underlying35 rfl (hE13.neq hO 0 rfl)) _) rfl rfl ?_
 obtain ⟨h15, H⟩ := H
 refine GoR.op ((op_sub rfl rfl (wrap_i64 h15)) _) rfl rfl ?_
 obtain ⟨h16, H⟩ := H
 obtain ⟨h17, H⟩ := H
 refine GoR.op ((op_index Try.underlying35 ti22 rfl rfl h16 (ltn (hE13.neq hO 0 rfl) h17) (hE13.psome hO 0 rfl h16 h17)) _) rfl rfl ?_
 obtain ⟨p18, c19, hi20, hl21⟩ := oldSl 0 hO rfl hE13 h16 h17
 refine GoR.op ((hl21 Try.underlying22 rfl rfl) _ (Same.refl _)) rfl rfl ?_
 refine GoR.op ((op_move rfl) _) rfl rfl ?_
 refine GoR.call (op_call body19 rfl (walk_ref11_Compose hO.lt hi20 h_f H)) rfl rfl ?_
 rintro v25 w23 ⟨r22, p_r22, c_r22, rfl, hs24, h_r22, H⟩
 have hst26 := Stp.same hO hs24
 replace hE13 := hE13.ch hst26.ch
 replace hO := hst26.own
 replace h_f := h_f.ch hst26.ch
 replace hi20 := hi20.ch hst26.ch
 replace hB := hB.trans hst26.bel
 refine GoR.op ((op_assign rfl) _) rfl rfl ?_
 refine GoR.nil ?_
 refine Go1.seq ?_
 refine Go1.seq ?_
 refine Go1.region ?_
 refine GoR.op ((op_move rfl) _) rfl rfl ?_
 refine GoR.op ((op_lenN Try.underlying35 rfl (hE13.neq hO 0 rfl)) _) rfl rfl ?_
 refine GoR.op ((op_move rfl) _) rfl rfl ?_
 refine GoR.nil ?_
 refine Go1.block ?_
 refine Go1.loopW (S := Nat) (fun s σ w => agrees σ [(0, .slice p_f f.length c_f), (4, .slice p10 n14 c11), (5, .slice p_r22 r22.length c_r22), (18, .int .i64 (l1_9.length : Int)), (19, .int .i64 (s : Int))] ∧ Owns w0.heap.size w [.row 22 1 p10 n14 c11 vs12] A ∧ Els (Rp.sl (Rp.int .i64)) (bl [.row 22 1 p10 n14 c11 vs12] ++ A) w vs12 l1_9 ∧ ISl (Rp.int .i64) (bl [.row 22 1 p10 n14 c11 vs12] ++ A) w p_f c_f f ∧ ISl (Rp.int .i64) (bl [.row 22 1 p10 n14 c11 vs12] ++ A) w p_r22 c_r22 r22 ∧ Below w0.heap.size w0 w) H ⟨⟨rfl, rfl, rfl, rfl, rfl, trivial⟩, hO, hE13, h_f, h_r22, hB⟩ ?_
 rintro X2 k2_28 H hX2 σ w27 ⟨hag, hO, hE13, h_f, h_r22, hB⟩
 refine Go1.keep [(0, .slice p_f f.length c_f), (4, .slice p10 n14 c11), (5, .slice p_r22 r22.length c_r22), (18, .int .i64 (l1_9.length : Int)), (19, .int .i64 (k2_28 : Int))] hag ?_
 refine Go1.seq ?_
 refine Go1.region ?_
 by_cases h29 : (k2_28 : Int) < (l1_9.length : Int)
 ·replace H := ifp h29 H
  refine GoR.op ((fun w => opB (op_lss rfl rfl w) (decide_eq_true h29)) _) rfl rfl ?_
  refine GoR.nil ?_
  refine Go1.seq ?_
  refine Go1.condT rfl rfl ?_
  refine Go1.skip ?_
  refine Go1.seq ?_
  refine Go1.block ?_
  refine Go1.seq ?_
  refine Go1.region ?_
  refine GoR.op ((op_move rfl) _) rfl rfl ?_
  refine GoR.op ((op_assign rfl) _) rfl rfl ?_
  refine GoR.nil ?_
  refine Go1.seq ?_
  refine Go1.region ?_
  refine GoR.op ((op_move rfl) _) rfl rfl ?_
  refine GoR.op ((op_move rfl) _) rfl rfl ?_
  obtain ⟨h30, H⟩ := H
  obtain ⟨h31, H⟩ := H
  refine GoR.op ((op_index Try.underlying35 ti22 rfl rfl h30 (ltn (hE13.neq hO 0 rfl) h31) (hE13.psome hO 0 rfl h30 h31)) _) rfl rfl ?_
  obtain ⟨p32, c33, hi34, hl35⟩ := oldSl 0 hO rfl hE13 h30 h31
  refine GoR.op ((hl35 Try.underlying22 rfl rfl) _ (Same.refl _)) rfl rfl ?_
  refine GoR.op ((op_move rfl) _) rfl rfl ?_
  refine GoR.call (op_call body18 rfl (walk_ref03_Same hO.lt hi34 h_r22 H)) rfl rfl ?_
  rintro v39 w37 ⟨r36, rfl, hs38, H⟩
  have hst40 := Stp.same hO hs38
  replace hE13 := hE13.ch hst40.ch
  replace hO := hst40.own
  replace h_f := h_f.ch hst40.ch
  replace h_r22 := h_r22.ch hst40.ch
  replace hi34 := hi34.ch hst40.ch
  replace hB := hB.trans hst40.bel
  refine GoR.nil ?_
  cases r36
  ·replace H := ifn Bool.false_ne_true H
   refine Go1.condF rfl rfl ?_
   refine Go1.skip ?_
   refine Go1.inBlock ?_
   refine Go1.region ?_
   refine GoR.op ((op_add rfl rfl (wrap_i64 (by have := h29; have := hE13.bd; unfold mx at this; exact ⟨by omega, by omega⟩))) _) rfl rfl ?_
   refine GoR.op ((op_move rfl) _) rfl rfl ?_
   refine GoR.nil ?_
   exact hX2 _ H _ _ ⟨⟨rfl, rfl, rfl, rfl, rfl, trivial⟩, hO, hE13, h_f, h_r22, hB⟩
  ·replace H := ifp rfl H
   refine Go1.condT rfl rfl ?_
   refine Go1.seq ?_
   refine Go1.region ?_
   refine GoR.op ((op_move rfl) _) rfl rfl ?_
   refine GoR.op ((op_move rfl) _) rfl rfl ?_
   refine GoR.op ((op_assign rfl) _) rfl rfl ?_
   refine GoR.op ((op_assign rfl) _) rfl rfl ?_
   refine GoR.nil ?_
   obtain ⟨hO1, hc43, hi41, hn42⟩ := freeze 0 hO rfl hE13
   replace h_f := h_f.ch hc43
   replace h_r22 := h_r22.ch hc43
   replace hi34 := hi34.ch hc43
   replace hO := hO1; clear hO1
   refine Go1.ret2 Try.func58 rfl ?_
   exact ⟨l1_9, (k2_28 : Int), p10, c11, (by show Value.tuple #[.slice p10 n14 c11, .int .i64 (k2_28 : Int)] = _; rw [hn42]), (Below.same' hB), (hi41.ch (Ch.weak _ _ _)), H⟩
 ·replace H := ifn h29 H
  refine GoR.op ((fun w => opB (op_lss rfl rfl w) (decide_eq_false h29)) _) rfl rfl ?_
  refine GoR.nil ?_
  refine Go1.seq ?_
  refine Go1.condF rfl rfl ?_
  refine Go1.exit rfl ?_
  refine Go1.region ?_
  refine GoR.op ((op_move rfl) _) rfl rfl ?_
  refine GoR.op ((op_move rfl) _) rfl rfl ?_
  obtain ⟨w44, p45, hst46, hE47, hs48, hop49⟩ := obuild (r := Rp.sl (Rp.int .i64)) (n := 1) (parts := [(0, .slice p_r22 r22.length c_r22)]) (vs := [.slice p_r22 r22.length c_r22]) (xs := [r22]) rfl Try.underlying35 ti22 hO (by decide) (by kernel_rfl) (Els.cons rfl ⟨p_r22, c_r22, rfl, h_r22⟩ (Els.nil _ _ _) (by decide)) rfl
  refine GoR.op (hop49 rfl) rfl rfl ?_
  replace hE13 := hE13.ch hst46.ch
  replace hO := hst46.own
  replace h_f := h_f.ch hst46.ch
  replace h_r22 := h_r22.ch hst46.ch
  replace hB := hB.trans hst46.bel
  obtain ⟨hO1, hc53, hi51, hn52⟩ := freeze 0 hO rfl hE47
  replace h_f := h_f.ch hc53
  replace h_r22 := h_r22.ch hc53
  replace hE13 := hE13.ch hc53
  replace hO := hO1; clear hO1
  obtain ⟨h54, H⟩ := H
  obtain ⟨w55, p56, c57, vs58, hst59, hE60, hop61⟩ := oapp Try.underlying35 ti22 rfl 0 hO rfl hE13 hi51 hn52 h54 (by decide)
  refine GoR.op (hop61 rfl rfl) rfl rfl ?_
  replace hO := hst59.own
  replace h_f := h_f.ch hst59.ch
  replace h_r22 := h_r22.ch hst59.ch
  replace hi51 := hi51.ch hst59.ch
  replace hB := hB.trans hst59.bel
  refine GoR.op ((op_assign rfl) _) rfl rfl ?_
  refine GoR.nil ?_
  refine Go1.inBlock ?_
  exact hX1 _ H _ _ ⟨n14 + 1, p56, c57, vs58, ⟨rfl, rfl, trivial⟩, hO, hE60, h_f, hB⟩
theorem body41 : Body Try.prog 41 := ⟨Try.f41, Try.func41, rfl, by kernel_rfl⟩
theorem walk_ref11_IndexPeriod {A : List Nat} {w0 : World} {p_f : Option Addr} {c_f : Nat} {f : List Int} (hA : ∀ b ∈ A, b < w0.heap.size) (h_f : ISl (Rp.int .i64) A w0 p_f c_f f) {K : Int → Int → Prop} (H : ref11_IndexPeriod f K) :
    CallsV Try.prog 41 #[.slice p_f f.length c_f] w0 (fun v w' => ∃ (r0 : Int), ∃ (r1 : Int), v = .tuple #[.int .i64 r0, .int .i64 r1] ∧ Same w0 w' ∧ K r0 r1) := by
 refine CallsV.of (l := [.slice p_f f.length c_f]) Try.func41 rfl Try.ntmps41 rfl ?_
 have hO := Owns.start hA
 have hB := Below.refl w0.heap.size w0
 unfold ref11_IndexPeriod at H
 replace h_f := h_f.ch (Ch.start A w0)
 refine Go1.seq ?_
 refine Go1.region ?_
 refine GoR.op ((op_assign rfl) _) rfl rfl ?_
 refine GoR.op ((op_assign rfl) _) rfl rfl ?_
 refine GoR.nil ?_
 refine Go1.seq ?_
 refine Go1.region ?_
 refine GoR.op ((op_move rfl) _) rfl rfl ?_
 refine GoR.call (op_call body58 rfl (walk_ref11_Powers hO.lt h_f H)) rfl rfl ?_
 rintro v5 w3 ⟨r1, r2, p_r1, c_r1, rfl, hs4, h_r1, H⟩
 have hst6 := Stp.same hO hs4
 replace hO := hst6.own
 replace h_f := h_f.ch hst6.ch
 replace hB := hB.trans hst6.bel
 refine GoR.op ((op_move rfl) _) rfl rfl ?_
 refine GoR.op ((op_extract rfl rfl) _) rfl rfl ?_
 refine GoR.op ((op_extract rfl rfl) _) rfl rfl ?_
 refine GoR.op ((op_assign rfl) _) rfl rfl ?_
 refine GoR.op ((op_assign rfl) _) rfl rfl ?_
 refine GoR.nil ?_
 refine Go1.seq ?_
 refine Go1.region ?_
 refine GoR.op ((op_move rfl) _) rfl rfl ?_
 obtain ⟨h7, H⟩ := H
 refine GoR.op ((op_add rfl rfl (wrap_i64 h7)) _) rfl rfl ?_
 refine GoR.op ((op_move rfl) _) rfl rfl ?_
 refine GoR.op ((op_len Try.underlying35 rfl) _) rfl rfl ?_
 replace H := H h_r1.bd
 refine GoR.op ((op_move rfl) _) rfl rfl ?_
 obtain ⟨h8, H⟩ := H
 refine GoR.op ((op_sub rfl rfl (wrap_i64 h8)) _) rfl rfl ?_
 refine GoR.op ((op_assign rfl) _) rfl rfl ?_
 refine GoR.op ((op_assign rfl) _) rfl rfl ?_
 refine GoR.nil ?_
 refine Go1.ret2 Try.func41 rfl ?_
 exact ⟨(r2 + (1 : Int)), ((r1.length : Int) - r2), rfl, (Below.same' hB), H⟩
theorem body42 : Body Try.prog 42 := ⟨Try.f42, Try.func42, rfl, by kernel_rfl⟩
theorem walk_ref11_Omega {A : List Nat} {w0 : World} {p_f : Option Addr} {c_f : Nat} {f : List Int} (hA : ∀ b ∈ A, b < w0.heap.size) (h_f : ISl (Rp.int .i64) A w0 p_f c_f f) {K : List Int → Prop} (H : ref11_Omega f K) :
    CallsV Try.prog 42 #[.slice p_f f.length c_f] w0 (fun v w' => ∃ (r0 : List Int), ∃ (p_r0 : Option Addr), ∃ (c_r0 : Nat), v = .slice p_r0 r0.length c_r0 ∧ Same w0 w' ∧ ISl (Rp.int .i64) A w' p_r0 c_r0 r0 ∧ K r0) := by
 refine CallsV.of (l := [.slice p_f f.length c_f]) Try.func42 rfl Try.ntmps42 rfl ?_
 have hO := Owns.start hA
 have hB := Below.refl w0.heap.size w0
 unfold ref11_Omega at H
 replace h_f := h_f.ch (Ch.start A w0)
 refine Go1.seq ?_
 refine Go1.region ?_
 refine GoR.op ((op_assign rfl) _) rfl rfl ?_
 refine GoR.nil ?_
 refine Go1.seq ?_
 refine Go1.region ?_
 refine GoR.op ((op_move rfl) _) rfl rfl ?_
 refine GoR.call (op_call body58 rfl (walk_ref11_Powers hO.lt h_f H)) rfl rfl ?_
 rintro v5 w3 ⟨r1, r2, p_r1, c_r1, rfl, hs4, h_r1, H⟩
 have hst6 := Stp.same hO hs4
 replace hO := hst6.own
 replace h_f := h_f.ch hst6.ch
 replace hB := hB.trans hst6.bel
 refine GoR.op ((op_move rfl) _) rfl rfl ?_
 refine GoR.op ((op_extract rfl rfl) _) rfl rfl ?_
 refine GoR.op ((op_extract rfl rfl) _) rfl rfl ?_
 refine GoR.op ((op_assign rfl) _) rfl rfl ?_
 refine GoR.op ((op_assign rfl) _) rfl rfl ?_
 refine GoR.nil ?_
 refine Go1.seq ?_
 refine Go1.seq ?_
 refine Go1.region ?_
 refine GoR.op ((op_move rfl) _) rfl rfl ?_
 refine GoR.op ((op_len Try.underlying35 rfl) _) rfl rfl ?_
 replace H := H h_r1.bd
 refine GoR.op ((op_move rfl) _) rfl rfl ?_
 refine GoR.nil ?_
 refine Go1.block ?_
 refine Go1.loopW (S := Nat) (fun s σ w => agrees σ [(12, .slice p_r1 r1.length c_r1), (13, .int .i64 (r1.length : Int)), (14, .int .i64 (s : Int))] ∧ Owns w0.heap.size w [] A ∧ ISl (Rp.sl (Rp.int .i64)) (bl [] ++ A) w p_r1 c_r1 r1 ∧ Below w0.heap.size w0 w) H ⟨⟨rfl, rfl, rfl, trivial⟩, hO, h_r1, hB⟩ ?_
 rintro X1 k1_8 H hX1 σ w7 ⟨hag, hO, h_r1, hB⟩
 refine Go1.keep [(12, .slice p_r1 r1.length c_r1), (13, .int .i64 (r1.length : Int)), (14, .int .i64 (k1_8 : Int))] hag ?_
 refine Go1.seq ?_
 refine Go1.region ?_
 by_cases h9 : (k1_8 : Int) < (r1.length : Int)
 ·replace H := ifp h9 H
  refine GoR.op ((fun w => opB (op_lss rfl rfl w) (decide_eq_true h9)) _) rfl rfl ?_
  refine GoR.nil ?_
  refine Go1.seq ?_
  refine Go1.condT rfl rfl ?_
  refine Go1.skip ?_
  refine Go1.seq ?_
  refine Go1.block ?_
  refine Go1.seq ?_
  refine Go1.region ?_
  obtain ⟨h10, H⟩ := H
  obtain ⟨h11, H⟩ := H
  refine GoR.op ((op_index Try.underlying35 ti22 rfl rfl h10 h11 (h_r1.some_ h10 h11)) _) rfl rfl ?_
  obtain ⟨p12, c13, hi14, hl15⟩ := ldSl h_r1 h10 h11
  refine GoR.op ((hl15 Try.underlying22 rfl rfl) _ (Same.refl _)) rfl rfl ?_
  refine GoR.op ((op_assign rfl) _) rfl rfl ?_
  refine GoR.nil ?_
  refine Go1.seq ?_
  refine Go1.region ?_
  refine GoR.op ((op_move rfl) _) rfl rfl ?_
  refine GoR.op ((op_move rfl) _) rfl rfl ?_
  refine GoR.call (op_call body19 rfl (walk_ref11_Compose hO.lt hi14 hi14 H)) rfl rfl ?_
  rintro v19 w17 ⟨r16, p_r16, c_r16, rfl, hs18, h_r16, H⟩
  have hst20 := Stp.same hO hs18
  replace hO := hst20.own
  replace h_r1 := h_r1.ch hst20.ch
  replace hi14 := hi14.ch hst20.ch
  replace hB := hB.trans hst20.bel
  refine GoR.op ((op_move rfl) _) rfl rfl ?_
  refine GoR.call (op_call body18 rfl (walk_ref03_Same hO.lt h_r16 hi14 H)) rfl rfl ?_
  rintro v24 w22 ⟨r21, rfl, hs23, H⟩
  have hst25 := Stp.same hO hs23
  replace hO := hst25.own
  replace h_r1 := h_r1.ch hst25.ch
  replace hi14 := hi14.ch hst25.ch
  replace h_r16 := h_r16.ch hst25.ch
  replace hB := hB.trans hst25.bel
  refine GoR.nil ?_
  cases r21
  ·replace H := ifn Bool.false_ne_true H
   refine Go1.condF rfl rfl ?_
   refine Go1.skip ?_
   refine Go1.inBlock ?_
   refine Go1.region ?_
   refine GoR.op ((op_add rfl rfl (wrap_i64 (by have := h9; have := h_r1.bd; unfold mx at this; exact ⟨by omega, by omega⟩))) _) rfl rfl ?_
   refine GoR.op ((op_move rfl) _) rfl rfl ?_
   refine GoR.nil ?_
   exact hX1 _ H _ _ ⟨⟨rfl, rfl, rfl, trivial⟩, hO, h_r1, hB⟩
  ·replace H := ifp rfl H
   refine Go1.condT rfl rfl ?_
   refine Go1.seq ?_
   refine Go1.region ?_
   refine GoR.op ((op_move rfl) _) rfl rfl ?_
   refine GoR.op ((op_assign rfl) _) rfl rfl ?_
   refine GoR.nil ?_
   refine Go1.ret1 Try.func42 rfl ?_
   exact ⟨ix r1 (k1_8 : Int), p12, c13, rfl, (Below.same' hB), (hi14.ch (Ch.weak _ _ _)), H⟩
 ·replace H := ifn h9 H
  refine GoR.op ((fun w => opB (op_lss rfl rfl w) (decide_eq_false h9)) _) rfl rfl ?_
  refine GoR.nil ?_
  refine Go1.seq ?_
  refine Go1.condF rfl rfl ?_
  refine Go1.exit rfl ?_
  refine Go1.seq ?_
  refine Go1.region ?_
  refine GoR.op ((op_assign rfl) _) rfl rfl ?_
  refine GoR.nil ?_
  refine Go1.ret1 Try.func42 rfl ?_
  exact ⟨([] : List Int), none, 0, rfl, (Below.same' hB), (ISl.null _ _ _), H⟩
theorem body9 : Body Try.prog 9 := ⟨Try.f9, Try.func9, rfl, by kernel_rfl⟩
theorem walk_law11_TransCycles {A : List Nat} {w0 : World} {p_Listappend : Option Addr} {c_Listappend : Nat} {Listappend : List Int} (hA : ∀ b ∈ A, b < w0.heap.size) (h_Listappend : ISl (Rp.int .i64) A w0 p_Listappend c_Listappend Listappend) {K : Bool → Prop} (H : law11_TransCycles Listappend K) :
    CallsV Try.prog 9 #[.slice p_Listappend Listappend.length c_Listappend] w0 (fun v w' => ∃ (r0 : Bool), v = .bool r0 ∧ Same w0 w' ∧ K r0) := by
 refine CallsV.of (l := [.slice p_Listappend Listappend.length c_Listappend]) Try.func9 rfl Try.ntmps9 rfl ?_
 have hO := Owns.start hA
 have hB := Below.refl w0.heap.size w0
 unfold law11_TransCycles at H
 replace h_Listappend := h_Listappend.ch (Ch.start A w0)
 refine Go1.seq ?_
 refine Go1.region ?_
 refine GoR.op ((op_assign rfl) _) rfl rfl ?_
 refine GoR.nil ?_
 refine Go1.seq ?_
 refine Go1.region ?_
 refine GoR.op ((op_move rfl) _) rfl rfl ?_
 refine GoR.call (op_call body37 rfl (walk_trans_IndexPeriod hO.lt h_Listappend H)) rfl rfl ?_
 rintro v5 w3 ⟨r1, r2, rfl, hs4, H⟩
 have hst6 := Stp.same hO hs4
 replace hO := hst6.own
 replace h_Listappend := h_Listappend.ch hst6.ch
 replace hB := hB.trans hst6.bel
 refine GoR.op ((op_move rfl) _) rfl rfl ?_
 refine GoR.op ((op_extract rfl rfl) _) rfl rfl ?_
 refine GoR.op ((op_extract rfl rfl) _) rfl rfl ?_
 refine GoR.op ((op_assign rfl) _) rfl rfl ?_
 refine GoR.op ((op_assign rfl) _) rfl rfl ?_
 refine GoR.nil ?_
 refine Go1.seq ?_
 refine Go1.region ?_
 refine GoR.op ((op_move rfl) _) rfl rfl ?_
 refine GoR.call (op_call body38 rfl (walk_trans_Omega hO.lt h_Listappend H)) rfl rfl ?_
 rintro v10 w8 ⟨r7, p_r7, c_r7, rfl, hs9, h_r7, H⟩
 have hst11 := Stp.same hO hs9
 replace hO := hst11.own
 replace h_Listappend := h_Listappend.ch hst11.ch
 replace hB := hB.trans hst11.bel
 refine GoR.op ((op_move rfl) _) rfl rfl ?_
 refine GoR.call (op_call body39 rfl (walk_trans_Cycles hO.lt h_Listappend H)) rfl rfl ?_
 rintro v15 w13 ⟨r12, p_r12, c_r12, rfl, hs14, h_r12, H⟩
 have hst16 := Stp.same hO hs14
 replace hO := hst16.own
 replace h_Listappend := h_Listappend.ch hst16.ch
 replace h_r7 := h_r7.ch hst16.ch
 replace hB := hB.trans hst16.bel
 refine GoR.op ((op_assign rfl) _) rfl rfl ?_
 refine GoR.op ((op_assign rfl) _) rfl rfl ?_
 refine GoR.nil ?_
 refine Go1.seq ?_
 refine Go1.seq ?_
 refine Go1.region ?_
 refine GoR.op ((op_move rfl) _) rfl rfl ?_
 refine GoR.call (op_call body22 rfl (walk_ref11_Valid hO.lt h_Listappend H)) rfl rfl ?_
 rintro v20 w18 ⟨r17, rfl, hs19, H⟩
 have hst21 := Stp.same hO hs19
 replace hO := hst21.own
 replace h_Listappend := h_Listappend.ch hst21.ch
 replace h_r7 := h_r7.ch hst21.ch
 replace h_r12 := h_r12.ch hst21.ch
 replace hB := hB.trans hst21.bel
 cases r17
 ·replace H := ifn Bool.false_ne_true H
  refine GoR.op ((op_not rfl) _) rfl rfl ?_
  refine GoR.nil ?_
  refine Go1.condT rfl rfl ?_
  refine Go1.seq ?_
  refine Go1.region ?_
  refine GoR.op ((op_move rfl) _) rfl rfl ?_
  by_cases h22 : r1 = (0 : Int)
  ·replace H := ifp h22 H
   refine GoR.op ((fun w => opB (op_eql rfl rfl w) (decide_eq_true h22)) _) rfl rfl ?_
   refine GoR.op ((op_move rfl) _) rfl rfl ?_
   refine GoR.op ((op_move rfl) _) rfl rfl ?_
   by_cases h23 : r2 = (0 : Int)
   ·replace H := ifp h23 H
    refine GoR.op ((fun w => opB (op_eql rfl rfl w) (decide_eq_true h23)) _) rfl rfl ?_
    refine GoR.op ((op_pickT rfl rfl rfl) _) rfl rfl ?_
    refine GoR.op ((op_move rfl) _) rfl rfl ?_
    refine GoR.op ((op_move rfl) _) rfl rfl ?_
    refine GoR.op ((op_len Try.underlying22 rfl) _) rfl rfl ?_
    replace H := H h_r7.bd
    by_cases h24 : (r7.length : Int) = (0 : Int)
    ·replace H := ifp h24 H
     refine GoR.op ((fun w => opB (op_eql rfl rfl w) (decide_eq_true h24)) _) rfl rfl ?_
     refine GoR.op ((op_pickT rfl rfl rfl) _) rfl rfl ?_
     refine GoR.op ((op_move rfl) _) rfl rfl ?_
     refine GoR.op ((op_move rfl) _) rfl rfl ?_
     refine GoR.op ((op_len Try.underlying35 rfl) _) rfl rfl ?_
     replace H := H h_r12.bd
     by_cases h25 : (r12.length : Int) = (0 : Int)
     ·replace H := ifp h25 H
      refine GoR.op ((fun w => opB (op_eql rfl rfl w) (decide_eq_true h25)) _) rfl rfl ?_
      refine GoR.op ((op_pickT rfl rfl rfl) _) rfl rfl ?_
      refine GoR.op ((op_move rfl) _) rfl rfl ?_
      refine GoR.call (op_call body17 rfl (walk_law11_awake hO.lt H)) rfl rfl ?_
      rintro v29 w27 ⟨r26, rfl, hs28, H⟩
      have hst30 := Stp.same hO hs28
      replace hO := hst30.own
      replace h_Listappend := h_Listappend.ch hst30.ch
      replace h_r7 := h_r7.ch hst30.ch
      replace h_r12 := h_r12.ch hst30.ch
      replace hB := hB.trans hst30.bel
      refine GoR.op ((op_pickT rfl rfl rfl) _) rfl rfl ?_
      refine GoR.op ((op_assign rfl) _) rfl rfl ?_
      refine GoR.nil ?_
      refine Go1.ret1 Try.func9 rfl ?_
      exact ⟨r26, rfl, (Below.same' hB), H⟩
     ·replace H := ifn h25 H
      refine GoR.op ((fun w => opB (op_eql rfl rfl w) (decide_eq_false h25)) _) rfl rfl ?_
      refine GoR.op ((op_pickT rfl rfl rfl) _) rfl rfl ?_
      refine GoR.op ((op_move rfl) _) rfl rfl ?_
      refine GoR.pass rfl rfl ?_
      refine GoR.op ((op_pickF rfl rfl rfl) _) rfl rfl ?_
      refine GoR.op ((op_assign rfl) _) rfl rfl ?_
      refine GoR.nil ?_
      refine Go1.ret1 Try.func9 rfl ?_
      exact ⟨false, rfl, (Below.same' hB), H⟩
    ·replace H := ifn h24 H
     refine GoR.op ((fun w => opB (op_eql rfl rfl w) (decide_eq_false h24)) _) rfl rfl ?_
     refine GoR.op ((op_pickT rfl rfl rfl) _) rfl rfl ?_
     refine GoR.op ((op_move rfl) _) rfl rfl ?_
     refine GoR.pass rfl rfl ?_
     refine GoR.pass rfl rfl ?_
     refine GoR.pass rfl rfl ?_
     refine GoR.op ((op_pickF rfl rfl rfl) _) rfl rfl ?_
     refine GoR.op ((op_move rfl) _) rfl rfl ?_
     refine GoR.pass rfl rfl ?_
     refine GoR.op ((op_pickF rfl rfl rfl) _) rfl rfl ?_
     refine GoR.op ((op_assign rfl) _) rfl rfl ?_
     refine GoR.nil ?_
     refine Go1.ret1 Try.func9 rfl ?_
     exact ⟨false, rfl, (Below.same' hB), H⟩
   ·replace H := ifn h23 H
    refine GoR.op ((fun w => opB (op_eql rfl rfl w) (decide_eq_false h23)) _) rfl rfl ?_
    refine GoR.op ((op_pickT rfl rfl rfl) _) rfl rfl ?_
    refine GoR.op ((op_move rfl) _) rfl rfl ?_
    refine GoR.pass rfl rfl ?_
    refine GoR.pass rfl rfl ?_
    refine GoR.pass rfl rfl ?_
    refine GoR.op ((op_pickF rfl rfl rfl) _) rfl rfl ?_
    refine GoR.op ((op_move rfl) _) rfl rfl ?_
    refine GoR.pass rfl rfl ?_
    refine GoR.pass rfl rfl ?_
    refine GoR.pass rfl rfl ?_
    refine GoR.op ((op_pickF rfl rfl rfl) _) rfl rfl ?_
    refine GoR.op ((op_move rfl) _) rfl rfl ?_
    refine GoR.pass rfl rfl ?_
    refine GoR.op ((op_pickF rfl rfl rfl) _) rfl rfl ?_
    refine GoR.op ((op_assign rfl) _) rfl rfl ?_
    refine GoR.nil ?_
    refine Go1.ret1 Try.func9 rfl ?_
    exact ⟨false, rfl, (Below.same' hB), H⟩
  ·replace H := ifn h22 H
   refine GoR.op ((fun w => opB (op_eql rfl rfl w) (decide_eq_false h22)) _) rfl rfl ?_
   refine GoR.op ((op_move rfl) _) rfl rfl ?_
   refine GoR.pass rfl rfl ?_
   refine GoR.pass rfl rfl ?_
   refine GoR.op ((op_pickF rfl rfl rfl) _) rfl rfl ?_
   refine GoR.op ((op_move rfl) _) rfl rfl ?_
   refine GoR.pass rfl rfl ?_
   refine GoR.pass rfl rfl ?_
   refine GoR.pass rfl rfl ?_
   refine GoR.op ((op_pickF rfl rfl rfl) _) rfl rfl ?_
   refine GoR.op ((op_move rfl) _) rfl rfl ?_
   refine GoR.pass rfl rfl ?_
   refine GoR.pass rfl rfl ?_
   refine GoR.pass rfl rfl ?_
   refine GoR.op ((op_pickF rfl rfl rfl) _) rfl rfl ?_
   refine GoR.op ((op_move rfl) _) rfl rfl ?_
   refine GoR.pass rfl rfl ?_
   refine GoR.op ((op_pickF rfl rfl rfl) _) rfl rfl ?_
   refine GoR.op ((op_assign rfl) _) rfl rfl ?_
   refine GoR.nil ?_
   refine Go1.ret1 Try.func9 rfl ?_
   exact ⟨false, rfl, (Below.same' hB), H⟩
 ·replace H := ifp rfl H
  refine GoR.op ((op_not rfl) _) rfl rfl ?_
  refine GoR.nil ?_
  refine Go1.condF rfl rfl ?_
  refine Go1.skip ?_
  refine Go1.seq ?_
  refine Go1.seq ?_
  refine Go1.region ?_
  refine GoR.op ((op_move rfl) _) rfl rfl ?_
  refine GoR.op ((op_len Try.underlying22 rfl) _) rfl rfl ?_
  replace H := H h_Listappend.bd
  by_cases h31 : (16 : Int) < (Listappend.length : Int)
  ·replace H := ifp h31 H
   refine GoR.op ((fun w => opB (op_gtr rfl rfl w) (decide_eq_true h31)) _) rfl rfl ?_
   refine GoR.nil ?_
   refine Go1.condT rfl rfl ?_
   refine Go1.seq ?_
   refine Go1.region ?_
   refine GoR.op ((op_move rfl) _) rfl rfl ?_
   refine GoR.op ((op_move rfl) _) rfl rfl ?_
   refine GoR.call (op_call body40 rfl (walk_ref11_Cycles hO.lt h_Listappend H)) rfl rfl ?_
   rintro v35 w33 ⟨r32, p_r32, c_r32, rfl, hs34, h_r32, H⟩
   have hst36 := Stp.same hO hs34
   replace hO := hst36.own
   replace h_Listappend := h_Listappend.ch hst36.ch
   replace h_r7 := h_r7.ch hst36.ch
   replace h_r12 := h_r12.ch hst36.ch
   replace hB := hB.trans hst36.bel
   refine GoR.call (op_call body35 rfl (walk_ref03_SameRows hO.lt h_r12 h_r32 H)) rfl rfl ?_
   rintro v40 w38 ⟨r37, rfl, hs39, H⟩
   have hst41 := Stp.same hO hs39
   replace hO := hst41.own
   replace h_Listappend := h_Listappend.ch hst41.ch
   replace h_r7 := h_r7.ch hst41.ch
   replace h_r12 := h_r12.ch hst41.ch
   replace h_r32 := h_r32.ch hst41.ch
   replace hB := hB.trans hst41.bel
   refine GoR.op ((op_move rfl) _) rfl rfl ?_
   cases r37
   ·replace H := ifn Bool.false_ne_true H
    refine GoR.pass rfl rfl ?_
    refine GoR.op ((op_pickF rfl rfl rfl) _) rfl rfl ?_
    refine GoR.op ((op_assign rfl) _) rfl rfl ?_
    refine GoR.nil ?_
    refine Go1.ret1 Try.func9 rfl ?_
    exact ⟨false, rfl, (Below.same' hB), H⟩
   ·replace H := ifp rfl H
    refine GoR.call (op_call body17 rfl (walk_law11_awake hO.lt H)) rfl rfl ?_
    rintro v45 w43 ⟨r42, rfl, hs44, H⟩
    have hst46 := Stp.same hO hs44
    replace hO := hst46.own
    replace h_Listappend := h_Listappend.ch hst46.ch
    replace h_r7 := h_r7.ch hst46.ch
    replace h_r12 := h_r12.ch hst46.ch
    replace h_r32 := h_r32.ch hst46.ch
    replace hB := hB.trans hst46.bel
    refine GoR.op ((op_pickT rfl rfl rfl) _) rfl rfl ?_
    refine GoR.op ((op_assign rfl) _) rfl rfl ?_
    refine GoR.nil ?_
    refine Go1.ret1 Try.func9 rfl ?_
    exact ⟨r42, rfl, (Below.same' hB), H⟩
  ·replace H := ifn h31 H
   refine GoR.op ((fun w => opB (op_gtr rfl rfl w) (decide_eq_false h31)) _) rfl rfl ?_
   refine GoR.nil ?_
   refine Go1.condF rfl rfl ?_
   refine Go1.skip ?_
   refine Go1.seq ?_
   refine Go1.region ?_
   refine GoR.op ((op_move rfl) _) rfl rfl ?_
   refine GoR.call (op_call body41 rfl (walk_ref11_IndexPeriod hO.lt h_Listappend H)) rfl rfl ?_
   rintro v51 w49 ⟨r47, r48, rfl, hs50, H⟩
   have hst52 := Stp.same hO hs50
   replace hO := hst52.own
   replace h_Listappend := h_Listappend.ch hst52.ch
   replace h_r7 := h_r7.ch hst52.ch
   replace h_r12 := h_r12.ch hst52.ch
   replace hB := hB.trans hst52.bel
   refine GoR.op ((op_move rfl) _) rfl rfl ?_
   refine GoR.op ((op_extract rfl rfl) _) rfl rfl ?_
   refine GoR.op ((op_extract rfl rfl) _) rfl rfl ?_
   refine GoR.op ((op_assign rfl) _) rfl rfl ?_
   refine GoR.op ((op_assign rfl) _) rfl rfl ?_
   refine GoR.nil ?_
   refine Go1.seq ?_
   refine Go1.region ?_
   refine GoR.op ((op_move rfl) _) rfl rfl ?_
   refine GoR.op ((op_move rfl) _) rfl rfl ?_
   by_cases h53 : r1 = r47
   ·replace H := ifp h53 H
    refine GoR.op ((fun w => opB (op_eql rfl rfl w) (decide_eq_true h53)) _) rfl rfl ?_
    refine GoR.op ((op_move rfl) _) rfl rfl ?_
    refine GoR.op ((op_move rfl) _) rfl rfl ?_
    refine GoR.op ((op_move rfl) _) rfl rfl ?_
    by_cases h54 : r2 = r48
    ·replace H := ifp h54 H
     refine GoR.op ((fun w => opB (op_eql rfl rfl w) (decide_eq_true h54)) _) rfl rfl ?_
     refine GoR.op ((op_pickT rfl rfl rfl) _) rfl rfl ?_
     refine GoR.op ((op_move rfl) _) rfl rfl ?_
     refine GoR.op ((op_move rfl) _) rfl rfl ?_
     refine GoR.op ((op_move rfl) _) rfl rfl ?_
     refine GoR.call (op_call body42 rfl (walk_ref11_Omega hO.lt h_Listappend H)) rfl rfl ?_
     rintro v58 w56 ⟨r55, p_r55, c_r55, rfl, hs57, h_r55, H⟩
     have hst59 := Stp.same hO hs57
     replace hO := hst59.own
     replace h_Listappend := h_Listappend.ch hst59.ch
     replace h_r7 := h_r7.ch hst59.ch
     replace h_r12 := h_r12.ch hst59.ch
     replace hB := hB.trans hst59.bel
     refine GoR.call (op_call body18 rfl (walk_ref03_Same hO.lt h_r7 h_r55 H)) rfl rfl ?_
     rintro v63 w61 ⟨r60, rfl, hs62, H⟩
     have hst64 := Stp.same hO hs62
     replace hO := hst64.own
     replace h_Listappend := h_Listappend.ch hst64.ch
     replace h_r7 := h_r7.ch hst64.ch
     replace h_r12 := h_r12.ch hst64.ch
     replace h_r55 := h_r55.ch hst64.ch
     replace hB := hB.trans hst64.bel
     refine GoR.op ((op_pickT rfl rfl rfl) _) rfl rfl ?_
     refine GoR.op ((op_move rfl) _) rfl rfl ?_
     cases r60
     ·replace H := ifn Bool.false_ne_true H
      refine GoR.pass rfl rfl ?_
      refine GoR.pass rfl rfl ?_
      refine GoR.pass rfl rfl ?_
      refine GoR.pass rfl rfl ?_
      refine GoR.op ((op_pickF rfl rfl rfl) _) rfl rfl ?_
      refine GoR.op ((op_move rfl) _) rfl rfl ?_
      refine GoR.pass rfl rfl ?_
      refine GoR.op ((op_pickF rfl rfl rfl) _) rfl rfl ?_
      refine GoR.op ((op_assign rfl) _) rfl rfl ?_
      refine GoR.nil ?_
      refine Go1.ret1 Try.func9 rfl ?_
      exact ⟨false, rfl, (Below.same' hB), H⟩
     ·replace H := ifp rfl H
      refine GoR.op ((op_move rfl) _) rfl rfl ?_
      refine GoR.op ((op_move rfl) _) rfl rfl ?_
      refine GoR.call (op_call body40 rfl (walk_ref11_Cycles hO.lt h_Listappend H)) rfl rfl ?_
      rintro v68 w66 ⟨r65, p_r65, c_r65, rfl, hs67, h_r65, H⟩
      have hst69 := Stp.same hO hs67
      replace hO := hst69.own
      replace h_Listappend := h_Listappend.ch hst69.ch
      replace h_r7 := h_r7.ch hst69.ch
      replace h_r12 := h_r12.ch hst69.ch
      replace h_r55 := h_r55.ch hst69.ch
      replace hB := hB.trans hst69.bel
      refine GoR.call (op_call body35 rfl (walk_ref03_SameRows hO.lt h_r12 h_r65 H)) rfl rfl ?_
      rintro v73 w71 ⟨r70, rfl, hs72, H⟩
      have hst74 := Stp.same hO hs72
      replace hO := hst74.own
      replace h_Listappend := h_Listappend.ch hst74.ch
      replace h_r7 := h_r7.ch hst74.ch
      replace h_r12 := h_r12.ch hst74.ch
      replace h_r55 := h_r55.ch hst74.ch
      replace h_r65 := h_r65.ch hst74.ch
      replace hB := hB.trans hst74.bel
      refine GoR.op ((op_pickT rfl rfl rfl) _) rfl rfl ?_
      refine GoR.op ((op_move rfl) _) rfl rfl ?_
      cases r70
      ·replace H := ifn Bool.false_ne_true H
       refine GoR.pass rfl rfl ?_
       refine GoR.op ((op_pickF rfl rfl rfl) _) rfl rfl ?_
       refine GoR.op ((op_assign rfl) _) rfl rfl ?_
       refine GoR.nil ?_
       refine Go1.ret1 Try.func9 rfl ?_
       exact ⟨false, rfl, (Below.same' hB), H⟩
      ·replace H := ifp rfl H
       refine GoR.call (op_call body17 rfl (walk_law11_awake hO.lt H)) rfl rfl ?_
       rintro v78 w76 ⟨r75, rfl, hs77, H⟩
       have hst79 := Stp.same hO hs77
       replace hO := hst79.own
       replace h_Listappend := h_Listappend.ch hst79.ch
       replace h_r7 := h_r7.ch hst79.ch
       replace h_r12 := h_r12.ch hst79.ch
       replace h_r55 := h_r55.ch hst79.ch
       replace h_r65 := h_r65.ch hst79.ch
       replace hB := hB.trans hst79.bel
       refine GoR.op ((op_pickT rfl rfl rfl) _) rfl rfl ?_
       refine GoR.op ((op_assign rfl) _) rfl rfl ?_
       refine GoR.nil ?_
       refine Go1.ret1 Try.func9 rfl ?_
       exact ⟨r75, rfl, (Below.same' hB), H⟩
    ·replace H := ifn h54 H
     refine GoR.op ((fun w => opB (op_eql rfl rfl w) (decide_eq_false h54)) _) rfl rfl ?_
     refine GoR.op ((op_pickT rfl rfl rfl) _) rfl rfl ?_
     refine GoR.op ((op_move rfl) _) rfl rfl ?_
     refine GoR.pass rfl rfl ?_
     refine GoR.pass rfl rfl ?_
     refine GoR.pass rfl rfl ?_
     refine GoR.pass rfl rfl ?_
     refine GoR.op ((op_pickF rfl rfl rfl) _) rfl rfl ?_
     refine GoR.op ((op_move rfl) _) rfl rfl ?_
     refine GoR.pass rfl rfl ?_
     refine GoR.pass rfl rfl ?_
     refine GoR.pass rfl rfl ?_
     refine GoR.pass rfl rfl ?_
     refine GoR.op ((op_pickF rfl rfl rfl) _) rfl rfl ?_
     refine GoR.op ((op_move rfl) _) rfl rfl ?_
     refine GoR.pass rfl rfl ?_
     refine GoR.op ((op_pickF rfl rfl rfl) _) rfl rfl ?_
     refine GoR.op ((op_assign rfl) _) rfl rfl ?_
     refine GoR.nil ?_
     refine Go1.ret1 Try.func9 rfl ?_
     exact ⟨false, rfl, (Below.same' hB), H⟩
   ·replace H := ifn h53 H
    refine GoR.op ((fun w => opB (op_eql rfl rfl w) (decide_eq_false h53)) _) rfl rfl ?_
    refine GoR.op ((op_move rfl) _) rfl rfl ?_
    refine GoR.pass rfl rfl ?_
    refine GoR.pass rfl rfl ?_
    refine GoR.pass rfl rfl ?_
    refine GoR.op ((op_pickF rfl rfl rfl) _) rfl rfl ?_
    refine GoR.op ((op_move rfl) _) rfl rfl ?_
    refine GoR.pass rfl rfl ?_
    refine GoR.pass rfl rfl ?_
    refine GoR.pass rfl rfl ?_
    refine GoR.pass rfl rfl ?_
    refine GoR.op ((op_pickF rfl rfl rfl) _) rfl rfl ?_
    refine GoR.op ((op_move rfl) _) rfl rfl ?_
    refine GoR.pass rfl rfl ?_
    refine GoR.pass rfl rfl ?_
    refine GoR.pass rfl rfl ?_
    refine GoR.pass rfl rfl ?_
    refine GoR.op ((op_pickF rfl rfl rfl) _) rfl rfl ?_
    refine GoR.op ((op_move rfl) _) rfl rfl ?_
    refine GoR.pass rfl rfl ?_
    refine GoR.op ((op_pickF rfl rfl rfl) _) rfl rfl ?_
    refine GoR.op ((op_assign rfl) _) rfl rfl ?_
    refine GoR.nil ?_
    refine Go1.ret1 Try.func9 rfl ?_
    exact ⟨false, rfl, (Below.same' hB), H⟩
end Sg
