/- The walks: each call keeps to its plain transformer. Printed by walkgen.py. -/
import Derived.Test.YtjegmdkaiddokaaWTransApplies
namespace Sg
open Go Go.RowKit Go.Proofs
set_option linter.unusedVariables false
set_option maxRecDepth 100000
theorem body27 : Body Try.prog 27 := ⟨Try.f27, Try.func27, rfl, by kernel_rfl⟩
theorem walk_trans_Power {A : List Nat} {w0 : World} {p_f : Option Addr} {c_f : Nat} {f : List Int} {k : Int} (hA : ∀ b ∈ A, b < w0.heap.size) (h_f : ISl (Rp.int .i64) A w0 p_f c_f f) {K : List Int → Prop} (H : trans_Power f k K) :
    CallsV Try.prog 27 #[.slice p_f f.length c_f, .int .i64 k] w0 (fun v w' => ∃ (r0 : List Int), ∃ (p_r0 : Option Addr), ∃ (c_r0 : Nat), v = .slice p_r0 r0.length c_r0 ∧ Same w0 w' ∧ ISl (Rp.int .i64) A w' p_r0 c_r0 r0 ∧ K r0) := by
 refine CallsV.of (l := [.slice p_f f.length c_f, .int .i64 k]) Try.func27 rfl Try.ntmps27 rfl ?_
 have hO := Owns.start hA
 have hB := Below.refl w0.heap.size w0
 unfold trans_Power at H
 replace h_f := h_f.ch (Ch.start A w0)
 refine Go1.seq ?_
 refine Go1.region ?_
 refine GoR.op ((op_assign rfl) _) rfl rfl ?_
 refine GoR.nil ?_
 refine Go1.seq ?_
 refine Go1.seq ?_
 refine Go1.region ?_
 refine GoR.op ((op_move rfl) _) rfl rfl ?_
 refine GoR.call (op_call body21 rfl (walk_trans_Valid hO.lt h_f H)) rfl rfl ?_
 rintro v4 w2 ⟨r1, rfl, hs3, H⟩
 have hst5 := Stp.same hO hs3
 replace hO := hst5.own
 replace h_f := h_f.ch hst5.ch
 replace hB := hB.trans hst5.bel
 cases r1
 ·replace H := ifn Bool.false_ne_true H
  refine GoR.op ((op_not rfl) _) rfl rfl ?_
  refine GoR.op ((op_move rfl) _) rfl rfl ?_
  refine GoR.pass rfl rfl ?_
  refine GoR.pass rfl rfl ?_
  refine GoR.op ((op_pickT rfl rfl rfl) _) rfl rfl ?_
  refine GoR.nil ?_
  refine Go1.condT rfl rfl ?_
  refine Go1.seq ?_
  refine Go1.region ?_
  refine GoR.op ((op_assign rfl) _) rfl rfl ?_
  refine GoR.nil ?_
  refine Go1.ret1 Try.func27 rfl ?_
  exact ⟨([] : List Int), none, 0, rfl, (Below.same' hB), (ISl.null _ _ _), H⟩
 ·replace H := ifp rfl H
  refine GoR.op ((op_not rfl) _) rfl rfl ?_
  refine GoR.op ((op_move rfl) _) rfl rfl ?_
  refine GoR.op ((op_move rfl) _) rfl rfl ?_
  by_cases h6 : k < (0 : Int)
  ·replace H := ifp h6 H
   refine GoR.op ((fun w => opB (op_lss rfl rfl w) (decide_eq_true h6)) _) rfl rfl ?_
   refine GoR.op ((op_pickF rfl rfl rfl) _) rfl rfl ?_
   refine GoR.nil ?_
   refine Go1.condT rfl rfl ?_
   refine Go1.seq ?_
   refine Go1.region ?_
   refine GoR.op ((op_assign rfl) _) rfl rfl ?_
   refine GoR.nil ?_
   refine Go1.ret1 Try.func27 rfl ?_
   exact ⟨([] : List Int), none, 0, rfl, (Below.same' hB), (ISl.null _ _ _), H⟩
  ·replace H := ifn h6 H
   refine GoR.op ((fun w => opB (op_lss rfl rfl w) (decide_eq_false h6)) _) rfl rfl ?_
   refine GoR.op ((op_pickF rfl rfl rfl) _) rfl rfl ?_
   refine GoR.nil ?_
   refine Go1.condF rfl rfl ?_
   refine Go1.skip ?_
   refine Go1.seq ?_
   refine Go1.region ?_
   refine GoR.op ((op_move rfl) _) rfl rfl ?_
   refine GoR.op ((op_len Try.underlying22 rfl) _) rfl rfl ?_
   replace H := H h_f.bd
   refine GoR.call (op_call body20 rfl (walk_trans_Identity hO.lt H)) rfl rfl ?_
   rintro v10 w8 ⟨r7, p_r7, c_r7, rfl, hs9, h_r7, H⟩
   have hst11 := Stp.same hO hs9
   replace hO := hst11.own
   replace h_f := h_f.ch hst11.ch
   replace hB := hB.trans hst11.bel
   refine GoR.op ((op_move rfl) _) rfl rfl ?_
   refine GoR.op ((op_assign rfl) _) rfl rfl ?_
   refine GoR.op ((op_assign rfl) _) rfl rfl ?_
   refine GoR.nil ?_
   refine Go1.seq ?_
   refine Go1.block ?_
   refine Go1.loopW (S := Int × List Int × List Int) (fun s σ w => ∃ (p15 : Option Addr), ∃ (c16 : Nat), ∃ (p19 : Option Addr), ∃ (c20 : Nat), agrees σ [(1, .int .i64 (s.1)), (5, .slice p15 (s.2.1).length c16), (6, .slice p19 (s.2.2).length c20)] ∧ Owns w0.heap.size w [] A ∧ ISl (Rp.int .i64) (bl [] ++ A) w p15 c16 (s.2.1) ∧ ISl (Rp.int .i64) (bl [] ++ A) w p19 c20 (s.2.2) ∧ Below w0.heap.size w0 w) H ⟨p_r7, c_r7, p_f, c_f, ⟨rfl, rfl, rfl, trivial⟩, hO, h_r7, h_f, hB⟩ ?_
   rintro X1 ⟨k1_13, result1_14, square1_18⟩ H hX1 σ w12 ⟨p15, c16, p19, c20, hag, hO, hi17, hi21, hB⟩
   dsimp only at H
   refine Go1.keep [(1, .int .i64 k1_13), (5, .slice p15 result1_14.length c16), (6, .slice p19 square1_18.length c20)] hag ?_
   refine Go1.seq ?_
   refine Go1.seq ?_
   refine Go1.region ?_
   refine GoR.op ((op_move rfl) _) rfl rfl ?_
   by_cases h22 : (0 : Int) < k1_13
   ·replace H := ifp h22 H
    refine GoR.op ((fun w => opB (op_gtr rfl rfl w) (decide_eq_true h22)) _) rfl rfl ?_
    refine GoR.nil ?_
    refine Go1.condT rfl rfl ?_
    refine Go1.skip ?_
    refine Go1.seq ?_
    refine Go1.block ?_
    refine Go1.seq ?_
    refine Go1.seq ?_
    refine Go1.region ?_
    refine GoR.op ((op_move rfl) _) rfl rfl ?_
    refine GoR.op ((op_and rfl rfl) _) rfl rfl ?_
    by_cases h23 : (bits .and .i64 k1_13 (1 : Int)) = (1 : Int)
    ·replace H := ifp h23 H
     refine GoR.op ((fun w => opB (op_eql rfl rfl w) (decide_eq_true h23)) _) rfl rfl ?_
     refine GoR.nil ?_
     refine Go1.condT rfl rfl ?_
     refine Go1.region ?_
     refine GoR.op ((op_move rfl) _) rfl rfl ?_
     refine GoR.op ((op_move rfl) _) rfl rfl ?_
     refine GoR.call (op_call body15 rfl (walk_trans_Compose hO.lt hi17 hi21 H)) rfl rfl ?_
     rintro v27 w25 ⟨r24, p_r24, c_r24, rfl, hs26, h_r24, H⟩
     have hst28 := Stp.same hO hs26
     replace hO := hst28.own
     replace hi17 := hi17.ch hst28.ch
     replace hi21 := hi21.ch hst28.ch
     replace hB := hB.trans hst28.bel
     refine GoR.op ((op_assign rfl) _) rfl rfl ?_
     refine GoR.nil ?_
     refine Go1.region ?_
     refine GoR.op ((op_move rfl) _) rfl rfl ?_
     refine GoR.op ((op_move rfl) _) rfl rfl ?_
     refine GoR.call (op_call body15 rfl (walk_trans_Compose hO.lt hi21 hi21 H)) rfl rfl ?_
     rintro v32 w30 ⟨r29, p_r29, c_r29, rfl, hs31, h_r29, H⟩
     have hst33 := Stp.same hO hs31
     replace hO := hst33.own
     replace hi17 := hi17.ch hst33.ch
     replace hi21 := hi21.ch hst33.ch
     replace h_r24 := h_r24.ch hst33.ch
     replace hB := hB.trans hst33.bel
     refine GoR.op ((op_assign rfl) _) rfl rfl ?_
     refine GoR.nil ?_
     refine Go1.inBlock ?_
     refine Go1.region ?_
     refine GoR.op ((op_move rfl) _) rfl rfl ?_
     refine GoR.op ((op_shr rfl rfl (by decide) rfl) _) rfl rfl ?_
     refine GoR.op ((op_assign rfl) _) rfl rfl ?_
     refine GoR.nil ?_
     exact hX1 _ H _ _ ⟨p_r24, c_r24, p_r29, c_r29, ⟨rfl, rfl, rfl, trivial⟩, hO, h_r24, h_r29, hB⟩
    ·replace H := ifn h23 H
     refine GoR.op ((fun w => opB (op_eql rfl rfl w) (decide_eq_false h23)) _) rfl rfl ?_
     refine GoR.nil ?_
     refine Go1.condF rfl rfl ?_
     refine Go1.skip ?_
     refine Go1.region ?_
     refine GoR.op ((op_move rfl) _) rfl rfl ?_
     refine GoR.op ((op_move rfl) _) rfl rfl ?_
     refine GoR.call (op_call body15 rfl (walk_trans_Compose hO.lt hi21 hi21 H)) rfl rfl ?_
     rintro v37 w35 ⟨r34, p_r34, c_r34, rfl, hs36, h_r34, H⟩
     have hst38 := Stp.same hO hs36
     replace hO := hst38.own
     replace hi17 := hi17.ch hst38.ch
     replace hi21 := hi21.ch hst38.ch
     replace hB := hB.trans hst38.bel
     refine GoR.op ((op_assign rfl) _) rfl rfl ?_
     refine GoR.nil ?_
     refine Go1.inBlock ?_
     refine Go1.region ?_
     refine GoR.op ((op_move rfl) _) rfl rfl ?_
     refine GoR.op ((op_shr rfl rfl (by decide) rfl) _) rfl rfl ?_
     refine GoR.op ((op_assign rfl) _) rfl rfl ?_
     refine GoR.nil ?_
     exact hX1 _ H _ _ ⟨p15, c16, p_r34, c_r34, ⟨rfl, rfl, rfl, trivial⟩, hO, hi17, h_r34, hB⟩
   ·replace H := ifn h22 H
    refine GoR.op ((fun w => opB (op_gtr rfl rfl w) (decide_eq_false h22)) _) rfl rfl ?_
    refine GoR.nil ?_
    refine Go1.condF rfl rfl ?_
    refine Go1.exit rfl ?_
    refine Go1.seq ?_
    refine Go1.region ?_
    refine GoR.op ((op_move rfl) _) rfl rfl ?_
    refine GoR.op ((op_assign rfl) _) rfl rfl ?_
    refine GoR.nil ?_
    refine Go1.ret1 Try.func27 rfl ?_
    exact ⟨result1_14, p15, c16, rfl, (Below.same' hB), (hi17.ch (Ch.weak _ _ _)), H⟩
theorem body28 : Body Try.prog 28 := ⟨Try.f28, Try.func28, rfl, by kernel_rfl⟩
theorem walk_ref11_Power {A : List Nat} {w0 : World} {p_f : Option Addr} {c_f : Nat} {f : List Int} {k : Int} (hA : ∀ b ∈ A, b < w0.heap.size) (h_f : ISl (Rp.int .i64) A w0 p_f c_f f) {K : List Int → Prop} (H : ref11_Power f k K) :
    CallsV Try.prog 28 #[.slice p_f f.length c_f, .int .i64 k] w0 (fun v w' => ∃ (r0 : List Int), ∃ (p_r0 : Option Addr), ∃ (c_r0 : Nat), v = .slice p_r0 r0.length c_r0 ∧ Same w0 w' ∧ ISl (Rp.int .i64) A w' p_r0 c_r0 r0 ∧ K r0) := by
 refine CallsV.of (l := [.slice p_f f.length c_f, .int .i64 k]) Try.func28 rfl Try.ntmps28 rfl ?_
 have hO := Owns.start hA
 have hB := Below.refl w0.heap.size w0
 unfold ref11_Power at H
 replace h_f := h_f.ch (Ch.start A w0)
 refine Go1.seq ?_
 refine Go1.region ?_
 refine GoR.op ((op_assign rfl) _) rfl rfl ?_
 refine GoR.nil ?_
 refine Go1.seq ?_
 refine Go1.region ?_
 refine GoR.op ((op_move rfl) _) rfl rfl ?_
 refine GoR.op ((op_len Try.underlying22 rfl) _) rfl rfl ?_
 replace H := H h_f.bd
 refine GoR.call (op_call body23 rfl (walk_ref03_Discrete hO.lt H)) rfl rfl ?_
 rintro v4 w2 ⟨r1, p_r1, c_r1, rfl, hs3, h_r1, H⟩
 have hst5 := Stp.same hO hs3
 replace hO := hst5.own
 replace h_f := h_f.ch hst5.ch
 replace hB := hB.trans hst5.bel
 refine GoR.op ((op_assign rfl) _) rfl rfl ?_
 refine GoR.nil ?_
 refine Go1.seq ?_
 refine Go1.block ?_
 refine Go1.loopW (S := List Int × Int × List Int) (fun s σ w => ∃ (p8 : Option Addr), ∃ (c9 : Nat), ∃ (p13 : Option Addr), ∃ (c14 : Nat), agrees σ [(0, .slice p8 (s.1).length c9), (1, .int .i64 (s.2.1)), (5, .slice p13 (s.2.2).length c14)] ∧ Owns w0.heap.size w [] A ∧ ISl (Rp.int .i64) (bl [] ++ A) w p8 c9 (s.1) ∧ ISl (Rp.int .i64) (bl [] ++ A) w p13 c14 (s.2.2) ∧ Below w0.heap.size w0 w) H ⟨p_f, c_f, p_r1, c_r1, ⟨rfl, rfl, rfl, trivial⟩, hO, h_f, h_r1, hB⟩ ?_
 rintro X1 ⟨f1_7, k1_11, out1_12⟩ H hX1 σ w6 ⟨p8, c9, p13, c14, hag, hO, hi10, hi15, hB⟩
 dsimp only at H
 refine Go1.keep [(0, .slice p8 f1_7.length c9), (1, .int .i64 k1_11), (5, .slice p13 out1_12.length c14)] hag ?_
 refine Go1.seq ?_
 refine Go1.seq ?_
 refine Go1.region ?_
 refine GoR.op ((op_move rfl) _) rfl rfl ?_
 by_cases h16 : (0 : Int) < k1_11
 ·replace H := ifp h16 H
  refine GoR.op ((fun w => opB (op_gtr rfl rfl w) (decide_eq_true h16)) _) rfl rfl ?_
  refine GoR.nil ?_
  refine Go1.condT rfl rfl ?_
  refine Go1.skip ?_
  refine Go1.seq ?_
  refine Go1.block ?_
  refine Go1.seq ?_
  refine Go1.seq ?_
  refine Go1.region ?_
  refine GoR.op ((op_move rfl) _) rfl rfl ?_
  refine GoR.op ((op_rem rfl rfl (by decide) rfl) _) rfl rfl ?_
  by_cases h17 : (k1_11.tmod (2 : Int)) = (1 : Int)
  ·replace H := ifp h17 H
   refine GoR.op ((fun w => opB (op_eql rfl rfl w) (decide_eq_true h17)) _) rfl rfl ?_
   refine GoR.nil ?_
   refine Go1.condT rfl rfl ?_
   refine Go1.region ?_
   refine GoR.op ((op_move rfl) _) rfl rfl ?_
   refine GoR.op ((op_move rfl) _) rfl rfl ?_
   refine GoR.call (op_call body19 rfl (walk_ref11_Compose hO.lt hi15 hi10 H)) rfl rfl ?_
   rintro v21 w19 ⟨r18, p_r18, c_r18, rfl, hs20, h_r18, H⟩
   have hst22 := Stp.same hO hs20
   replace hO := hst22.own
   replace hi10 := hi10.ch hst22.ch
   replace hi15 := hi15.ch hst22.ch
   replace hB := hB.trans hst22.bel
   refine GoR.op ((op_assign rfl) _) rfl rfl ?_
   refine GoR.nil ?_
   refine Go1.region ?_
   refine GoR.op ((op_move rfl) _) rfl rfl ?_
   refine GoR.op ((op_move rfl) _) rfl rfl ?_
   refine GoR.call (op_call body19 rfl (walk_ref11_Compose hO.lt hi10 hi10 H)) rfl rfl ?_
   rintro v26 w24 ⟨r23, p_r23, c_r23, rfl, hs25, h_r23, H⟩
   have hst27 := Stp.same hO hs25
   replace hO := hst27.own
   replace hi10 := hi10.ch hst27.ch
   replace hi15 := hi15.ch hst27.ch
   replace h_r18 := h_r18.ch hst27.ch
   replace hB := hB.trans hst27.bel
   refine GoR.op ((op_assign rfl) _) rfl rfl ?_
   refine GoR.nil ?_
   refine Go1.inBlock ?_
   refine Go1.region ?_
   refine GoR.op ((op_move rfl) _) rfl rfl ?_
   obtain ⟨h28, H⟩ := H
   refine GoR.op ((op_quo rfl rfl (by decide) (wrap_i64 h28)) _) rfl rfl ?_
   refine GoR.op ((op_assign rfl) _) rfl rfl ?_
   refine GoR.nil ?_
   exact hX1 _ H _ _ ⟨p_r23, c_r23, p_r18, c_r18, ⟨rfl, rfl, rfl, trivial⟩, hO, h_r23, h_r18, hB⟩
  ·replace H := ifn h17 H
   refine GoR.op ((fun w => opB (op_eql rfl rfl w) (decide_eq_false h17)) _) rfl rfl ?_
   refine GoR.nil ?_
   refine Go1.condF rfl rfl ?_
   refine Go1.skip ?_
   refine Go1.region ?_
   refine GoR.op ((op_move rfl) _) rfl rfl ?_
   refine GoR.op ((op_move rfl) _) rfl rfl ?_
   refine GoR.call (op_call body19 rfl (walk_ref11_Compose hO.lt hi10 hi10 H)) rfl rfl ?_
   rintro v32 w30 ⟨r29, p_r29, c_r29, rfl, hs31, h_r29, H⟩
   have hst33 := Stp.same hO hs31
   replace hO := hst33.own
   replace hi10 := hi10.ch hst33.ch
   replace hi15 := hi15.ch hst33.ch
   replace hB := hB.trans hst33.bel
   refine GoR.op ((op_assign rfl) _) rfl rfl ?_
   refine GoR.nil ?_
   refine Go1.inBlock ?_
   refine Go1.region ?_
   refine GoR.op ((op_move rfl) _) rfl rfl ?_
   obtain ⟨h34, H⟩ := H
   refine GoR.op ((op_quo rfl rfl (by decide) (wrap_i64 h34)) _) rfl rfl ?_
   refine GoR.op ((op_assign rfl) _) rfl rfl ?_
   refine GoR.nil ?_
   exact hX1 _ H _ _ ⟨p_r29, c_r29, p13, c14, ⟨rfl, rfl, rfl, trivial⟩, hO, h_r29, hi15, hB⟩
 ·replace H := ifn h16 H
  refine GoR.op ((fun w => opB (op_gtr rfl rfl w) (decide_eq_false h16)) _) rfl rfl ?_
  refine GoR.nil ?_
  refine Go1.condF rfl rfl ?_
  refine Go1.exit rfl ?_
  refine Go1.seq ?_
  refine Go1.region ?_
  refine GoR.op ((op_move rfl) _) rfl rfl ?_
  refine GoR.op ((op_assign rfl) _) rfl rfl ?_
  refine GoR.nil ?_
  refine Go1.ret1 Try.func28 rfl ?_
  exact ⟨out1_12, p13, c14, rfl, (Below.same' hB), (hi15.ch (Ch.weak _ _ _)), H⟩
theorem body6 : Body Try.prog 6 := ⟨Try.f6, Try.func6, rfl, by kernel_rfl⟩
theorem walk_law11_TransPowers {A : List Nat} {w0 : World} {p_f : Option Addr} {c_f : Nat} {f : List Int} {k : Int} (hA : ∀ b ∈ A, b < w0.heap.size) (h_f : ISl (Rp.int .i64) A w0 p_f c_f f) {K : Bool → Prop} (H : law11_TransPowers f k K) :
    CallsV Try.prog 6 #[.slice p_f f.length c_f, .int .i64 k] w0 (fun v w' => ∃ (r0 : Bool), v = .bool r0 ∧ Same w0 w' ∧ K r0) := by
 refine CallsV.of (l := [.slice p_f f.length c_f, .int .i64 k]) Try.func6 rfl Try.ntmps6 rfl ?_
 have hO := Owns.start hA
 have hB := Below.refl w0.heap.size w0
 unfold law11_TransPowers at H
 replace h_f := h_f.ch (Ch.start A w0)
 refine Go1.seq ?_
 refine Go1.region ?_
 refine GoR.op ((op_assign rfl) _) rfl rfl ?_
 refine GoR.nil ?_
 refine Go1.seq ?_
 refine Go1.region ?_
 refine GoR.op ((op_move rfl) _) rfl rfl ?_
 refine GoR.op ((op_move rfl) _) rfl rfl ?_
 refine GoR.call (op_call body27 rfl (walk_trans_Power hO.lt h_f H)) rfl rfl ?_
 rintro v4 w2 ⟨r1, p_r1, c_r1, rfl, hs3, h_r1, H⟩
 have hst5 := Stp.same hO hs3
 replace hO := hst5.own
 replace h_f := h_f.ch hst5.ch
 replace hB := hB.trans hst5.bel
 refine GoR.op ((op_assign rfl) _) rfl rfl ?_
 refine GoR.nil ?_
 refine Go1.seq ?_
 refine Go1.seq ?_
 refine Go1.region ?_
 refine GoR.op ((op_move rfl) _) rfl rfl ?_
 refine GoR.call (op_call body22 rfl (walk_ref11_Valid hO.lt h_f H)) rfl rfl ?_
 rintro v9 w7 ⟨r6, rfl, hs8, H⟩
 have hst10 := Stp.same hO hs8
 replace hO := hst10.own
 replace h_f := h_f.ch hst10.ch
 replace h_r1 := h_r1.ch hst10.ch
 replace hB := hB.trans hst10.bel
 cases r6
 ·replace H := ifn Bool.false_ne_true H
  refine GoR.op ((op_not rfl) _) rfl rfl ?_
  refine GoR.op ((op_move rfl) _) rfl rfl ?_
  refine GoR.pass rfl rfl ?_
  refine GoR.pass rfl rfl ?_
  refine GoR.op ((op_pickT rfl rfl rfl) _) rfl rfl ?_
  refine GoR.nil ?_
  refine Go1.condT rfl rfl ?_
  refine Go1.seq ?_
  refine Go1.region ?_
  refine GoR.op ((op_move rfl) _) rfl rfl ?_
  refine GoR.op ((op_len Try.underlying22 rfl) _) rfl rfl ?_
  replace H := H h_r1.bd
  by_cases h11 : (r1.length : Int) = (0 : Int)
  ·replace H := ifp h11 H
   refine GoR.op ((fun w => opB (op_eql rfl rfl w) (decide_eq_true h11)) _) rfl rfl ?_
   refine GoR.op ((op_move rfl) _) rfl rfl ?_
   refine GoR.call (op_call body17 rfl (walk_law11_awake hO.lt H)) rfl rfl ?_
   rintro v15 w13 ⟨r12, rfl, hs14, H⟩
   have hst16 := Stp.same hO hs14
   replace hO := hst16.own
   replace h_f := h_f.ch hst16.ch
   replace h_r1 := h_r1.ch hst16.ch
   replace hB := hB.trans hst16.bel
   refine GoR.op ((op_pickT rfl rfl rfl) _) rfl rfl ?_
   refine GoR.op ((op_assign rfl) _) rfl rfl ?_
   refine GoR.nil ?_
   refine Go1.ret1 Try.func6 rfl ?_
   exact ⟨r12, rfl, (Below.same' hB), H⟩
  ·replace H := ifn h11 H
   refine GoR.op ((fun w => opB (op_eql rfl rfl w) (decide_eq_false h11)) _) rfl rfl ?_
   refine GoR.op ((op_move rfl) _) rfl rfl ?_
   refine GoR.pass rfl rfl ?_
   refine GoR.op ((op_pickF rfl rfl rfl) _) rfl rfl ?_
   refine GoR.op ((op_assign rfl) _) rfl rfl ?_
   refine GoR.nil ?_
   refine Go1.ret1 Try.func6 rfl ?_
   exact ⟨false, rfl, (Below.same' hB), H⟩
 ·replace H := ifp rfl H
  refine GoR.op ((op_not rfl) _) rfl rfl ?_
  refine GoR.op ((op_move rfl) _) rfl rfl ?_
  refine GoR.op ((op_move rfl) _) rfl rfl ?_
  by_cases h17 : k < (0 : Int)
  ·replace H := ifp h17 H
   refine GoR.op ((fun w => opB (op_lss rfl rfl w) (decide_eq_true h17)) _) rfl rfl ?_
   refine GoR.op ((op_pickF rfl rfl rfl) _) rfl rfl ?_
   refine GoR.nil ?_
   refine Go1.condT rfl rfl ?_
   refine Go1.seq ?_
   refine Go1.region ?_
   refine GoR.op ((op_move rfl) _) rfl rfl ?_
   refine GoR.op ((op_len Try.underlying22 rfl) _) rfl rfl ?_
   replace H := H h_r1.bd
   by_cases h18 : (r1.length : Int) = (0 : Int)
   ·replace H := ifp h18 H
    refine GoR.op ((fun w => opB (op_eql rfl rfl w) (decide_eq_true h18)) _) rfl rfl ?_
    refine GoR.op ((op_move rfl) _) rfl rfl ?_
    refine GoR.call (op_call body17 rfl (walk_law11_awake hO.lt H)) rfl rfl ?_
    rintro v22 w20 ⟨r19, rfl, hs21, H⟩
    have hst23 := Stp.same hO hs21
    replace hO := hst23.own
    replace h_f := h_f.ch hst23.ch
    replace h_r1 := h_r1.ch hst23.ch
    replace hB := hB.trans hst23.bel
    refine GoR.op ((op_pickT rfl rfl rfl) _) rfl rfl ?_
    refine GoR.op ((op_assign rfl) _) rfl rfl ?_
    refine GoR.nil ?_
    refine Go1.ret1 Try.func6 rfl ?_
    exact ⟨r19, rfl, (Below.same' hB), H⟩
   ·replace H := ifn h18 H
    refine GoR.op ((fun w => opB (op_eql rfl rfl w) (decide_eq_false h18)) _) rfl rfl ?_
    refine GoR.op ((op_move rfl) _) rfl rfl ?_
    refine GoR.pass rfl rfl ?_
    refine GoR.op ((op_pickF rfl rfl rfl) _) rfl rfl ?_
    refine GoR.op ((op_assign rfl) _) rfl rfl ?_
    refine GoR.nil ?_
    refine Go1.ret1 Try.func6 rfl ?_
    exact ⟨false, rfl, (Below.same' hB), H⟩
  ·replace H := ifn h17 H
   refine GoR.op ((fun w => opB (op_lss rfl rfl w) (decide_eq_false h17)) _) rfl rfl ?_
   refine GoR.op ((op_pickF rfl rfl rfl) _) rfl rfl ?_
   refine GoR.nil ?_
   refine Go1.condF rfl rfl ?_
   refine Go1.skip ?_
   refine Go1.seq ?_
   refine Go1.region ?_
   refine GoR.op ((op_move rfl) _) rfl rfl ?_
   refine GoR.op ((op_move rfl) _) rfl rfl ?_
   refine GoR.op ((op_move rfl) _) rfl rfl ?_
   refine GoR.call (op_call body28 rfl (walk_ref11_Power hO.lt h_f H)) rfl rfl ?_
   rintro v27 w25 ⟨r24, p_r24, c_r24, rfl, hs26, h_r24, H⟩
   have hst28 := Stp.same hO hs26
   replace hO := hst28.own
   replace h_f := h_f.ch hst28.ch
   replace h_r1 := h_r1.ch hst28.ch
   replace hB := hB.trans hst28.bel
   refine GoR.call (op_call body18 rfl (walk_ref03_Same hO.lt h_r1 h_r24 H)) rfl rfl ?_
   rintro v32 w30 ⟨r29, rfl, hs31, H⟩
   have hst33 := Stp.same hO hs31
   replace hO := hst33.own
   replace h_f := h_f.ch hst33.ch
   replace h_r1 := h_r1.ch hst33.ch
   replace h_r24 := h_r24.ch hst33.ch
   replace hB := hB.trans hst33.bel
   refine GoR.op ((op_move rfl) _) rfl rfl ?_
   cases r29
   ·replace H := ifn Bool.false_ne_true H
    refine GoR.pass rfl rfl ?_
    refine GoR.op ((op_pickF rfl rfl rfl) _) rfl rfl ?_
    refine GoR.op ((op_assign rfl) _) rfl rfl ?_
    refine GoR.nil ?_
    refine Go1.ret1 Try.func6 rfl ?_
    exact ⟨false, rfl, (Below.same' hB), H⟩
   ·replace H := ifp rfl H
    refine GoR.call (op_call body17 rfl (walk_law11_awake hO.lt H)) rfl rfl ?_
    rintro v37 w35 ⟨r34, rfl, hs36, H⟩
    have hst38 := Stp.same hO hs36
    replace hO := hst38.own
    replace h_f := h_f.ch hst38.ch
    replace h_r1 := h_r1.ch hst38.ch
    replace h_r24 := h_r24.ch hst38.ch
    replace hB := hB.trans hst38.bel
    refine GoR.op ((op_pickT rfl rfl rfl) _) rfl rfl ?_
    refine GoR.op ((op_assign rfl) _) rfl rfl ?_
    refine GoR.nil ?_
    refine Go1.ret1 Try.func6 rfl ?_
    exact ⟨r34, rfl, (Below.same' hB), H⟩
end Sg
