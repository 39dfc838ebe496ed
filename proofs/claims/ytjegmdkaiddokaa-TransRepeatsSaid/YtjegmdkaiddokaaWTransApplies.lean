/- The walks: each call keeps to its plain transformer. Printed by walkgen.py. -/
import Derived.Test.YtjegmdkaiddokaaWTransValid
namespace Sg
open Go Go.RowKit Go.Proofs
set_option linter.unusedVariables false
set_option maxRecDepth 100000
theorem body24 : Body Try.prog 24 := ⟨Try.f24, Try.func24, rfl, by kernel_rfl⟩
theorem walk_trans_Apply {A : List Nat} {w0 : World} {p_f : Option Addr} {c_f : Nat} {f : List Int} {set_ : Int} (hA : ∀ b ∈ A, b < w0.heap.size) (h_f : ISl (Rp.int .i64) A w0 p_f c_f f) {K : Int → Prop} (H : trans_Apply f set_ K) :
    CallsV Try.prog 24 #[.slice p_f f.length c_f, .int .u64 set_] w0 (fun v w' => ∃ (r0 : Int), v = .int .u64 r0 ∧ Same w0 w' ∧ K r0) := by
 refine CallsV.of (l := [.slice p_f f.length c_f, .int .u64 set_]) Try.func24 rfl Try.ntmps24 rfl ?_
 have hO := Owns.start hA
 have hB := Below.refl w0.heap.size w0
 unfold trans_Apply at H
 replace h_f := h_f.ch (Ch.start A w0)
 refine Go1.seq ?_
 refine Go1.region ?_
 refine GoR.op ((op_assign rfl) _) rfl rfl ?_
 refine GoR.nil ?_
 refine Go1.seq ?_
 refine Go1.seq ?_
 refine Go1.region ?_
 refine GoR.op ((op_move rfl) _) rfl rfl ?_
 refine GoR.call (op_call body21 rfl (walk_trans_Valid hO.lt h_f H)) rfl rfl ?_
 rintro v4 w2 ⟨r1, rfl, hs3, H⟩
 have hst5 := Stp.same hO hs3
 replace hO := hst5.own
 replace h_f := h_f.ch hst5.ch
 replace hB := hB.trans hst5.bel
 cases r1
 ·replace H := ifn Bool.false_ne_true H
  refine GoR.op ((op_not rfl) _) rfl rfl ?_
  refine GoR.nil ?_
  refine Go1.condT rfl rfl ?_
  refine Go1.seq ?_
  refine Go1.region ?_
  refine GoR.op ((op_assign rfl) _) rfl rfl ?_
  refine GoR.nil ?_
  refine Go1.ret1 Try.func24 rfl ?_
  exact ⟨(0 : Int), rfl, (Below.same' hB), H⟩
 ·replace H := ifp rfl H
  refine GoR.op ((op_not rfl) _) rfl rfl ?_
  refine GoR.nil ?_
  refine Go1.condF rfl rfl ?_
  refine Go1.skip ?_
  refine Go1.seq ?_
  refine Go1.region ?_
  refine GoR.op ((op_assign rfl) _) rfl rfl ?_
  refine GoR.nil ?_
  refine Go1.seq ?_
  refine Go1.seq ?_
  refine Go1.region ?_
  refine GoR.op ((op_move rfl) _) rfl rfl ?_
  refine GoR.op ((op_len Try.underlying22 rfl) _) rfl rfl ?_
  replace H := H h_f.bd
  refine GoR.op ((op_move rfl) _) rfl rfl ?_
  refine GoR.nil ?_
  refine Go1.block ?_
  refine Go1.loopW (S := Int × Nat) (fun s σ w => agrees σ [(1, .int .u64 set_), (5, .int .u64 (s.1)), (11, .slice p_f f.length c_f), (12, .int .i64 (f.length : Int)), (13, .int .i64 ((s.2) : Int))] ∧ Owns w0.heap.size w [] A ∧ ISl (Rp.int .i64) (bl [] ++ A) w p_f c_f f ∧ Below w0.heap.size w0 w) H ⟨⟨rfl, rfl, rfl, rfl, rfl, trivial⟩, hO, h_f, hB⟩ ?_
  rintro X1 ⟨image1_7, k1_8⟩ H hX1 σ w6 ⟨hag, hO, h_f, hB⟩
  dsimp only at H
  refine Go1.keep [(1, .int .u64 set_), (5, .int .u64 image1_7), (11, .slice p_f f.length c_f), (12, .int .i64 (f.length : Int)), (13, .int .i64 (k1_8 : Int))] hag ?_
  refine Go1.seq ?_
  refine Go1.region ?_
  by_cases h9 : (k1_8 : Int) < (f.length : Int)
  ·replace H := ifp h9 H
   refine GoR.op ((fun w => opB (op_lss rfl rfl w) (decide_eq_true h9)) _) rfl rfl ?_
   refine GoR.nil ?_
   refine Go1.seq ?_
   refine Go1.condT rfl rfl ?_
   refine Go1.skip ?_
   refine Go1.seq ?_
   refine Go1.block ?_
   refine Go1.seq ?_
   refine Go1.region ?_
   refine GoR.op ((op_move rfl) _) rfl rfl ?_
   obtain ⟨h10, H⟩ := H
   obtain ⟨h11, H⟩ := H
   refine GoR.op ((op_index Try.underlying22 ti3 rfl rfl h10 h11 (h_f.some_ h10 h11)) _) rfl rfl ?_
   refine GoR.op ((ldInt h_f h10 h11 Try.underlying3 rfl rfl) _ (Same.refl _)) rfl rfl ?_
   refine GoR.op ((op_assign rfl) _) rfl rfl ?_
   refine GoR.op ((op_assign rfl) _) rfl rfl ?_
   refine GoR.nil ?_
   refine Go1.region ?_
   refine GoR.op ((op_move rfl) _) rfl rfl ?_
   refine GoR.op ((op_move rfl) _) rfl rfl ?_
   refine GoR.op ((op_move rfl) _) rfl rfl ?_
   refine GoR.op ((op_shr rfl rfl (Int.natCast_nonneg _) rfl) _) rfl rfl ?_
   refine GoR.op ((op_and rfl rfl) _) rfl rfl ?_
   refine GoR.op ((op_move rfl) _) rfl rfl ?_
   obtain ⟨h12, H⟩ := H
   refine GoR.op ((op_shl rfl rfl h12 rfl) _) rfl rfl ?_
   refine GoR.op ((op_or rfl rfl) _) rfl rfl ?_
   refine GoR.op ((op_assign rfl) _) rfl rfl ?_
   refine GoR.nil ?_
   refine Go1.inBlock ?_
   refine Go1.region ?_
   refine GoR.op ((op_add rfl rfl (wrap_i64 (by have := h9; have := h_f.bd; unfold mx at this; exact ⟨by omega, by omega⟩))) _) rfl rfl ?_
   refine GoR.op ((op_move rfl) _) rfl rfl ?_
   refine GoR.nil ?_
   exact hX1 _ H _ _ ⟨⟨rfl, rfl, rfl, rfl, rfl, trivial⟩, hO, h_f, hB⟩
  ·replace H := ifn h9 H
   refine GoR.op ((fun w => opB (op_lss rfl rfl w) (decide_eq_false h9)) _) rfl rfl ?_
   refine GoR.nil ?_
   refine Go1.seq ?_
   refine Go1.condF rfl rfl ?_
   refine Go1.exit rfl ?_
   refine Go1.seq ?_
   refine Go1.region ?_
   refine GoR.op ((op_move rfl) _) rfl rfl ?_
   refine GoR.op ((op_assign rfl) _) rfl rfl ?_
   refine GoR.nil ?_
   refine Go1.ret1 Try.func24 rfl ?_
   exact ⟨image1_7, rfl, (Below.same' hB), H⟩
theorem body25 : Body Try.prog 25 := ⟨Try.f25, Try.func25, rfl, by kernel_rfl⟩
theorem walk_ref02_Has {A : List Nat} {w0 : World} {set_ : Int} {j : Int} (hA : ∀ b ∈ A, b < w0.heap.size) {K : Bool → Prop} (H : ref02_Has set_ j K) :
    CallsV Try.prog 25 #[.int .u64 set_, .int .i64 j] w0 (fun v w' => ∃ (r0 : Bool), v = .bool r0 ∧ Same w0 w' ∧ K r0) := by
 refine CallsV.of (l := [.int .u64 set_, .int .i64 j]) Try.func25 rfl Try.ntmps25 rfl ?_
 have hO := Owns.start hA
 have hB := Below.refl w0.heap.size w0
 unfold ref02_Has at H
 refine Go1.seq ?_
 refine Go1.region ?_
 refine GoR.op ((op_assign rfl) _) rfl rfl ?_
 refine GoR.nil ?_
 refine Go1.seq ?_
 refine Go1.region ?_
 refine GoR.op ((op_move rfl) _) rfl rfl ?_
 refine GoR.op ((op_move rfl) _) rfl rfl ?_
 refine GoR.op ((op_conv Try.underlying3 Try.underlying59 rfl rfl) _) rfl rfl ?_
 obtain ⟨h1, H⟩ := H
 refine GoR.op ((op_shr rfl rfl h1 rfl) _) rfl rfl ?_
 refine GoR.op ((op_and rfl rfl) _) rfl rfl ?_
 by_cases h2 : (bits .and .u64 (shrK .u64 set_ (IntKind.u64.wrap j)) (1 : Int)) = (1 : Int)
 ·replace H := ifp h2 H
  refine GoR.op ((fun w => opB (op_eql rfl rfl w) (decide_eq_true h2)) _) rfl rfl ?_
  refine GoR.op ((op_assign rfl) _) rfl rfl ?_
  refine GoR.nil ?_
  refine Go1.ret1 Try.func25 rfl ?_
  exact ⟨true, rfl, (Below.same' hB), H⟩
 ·replace H := ifn h2 H
  refine GoR.op ((fun w => opB (op_eql rfl rfl w) (decide_eq_false h2)) _) rfl rfl ?_
  refine GoR.op ((op_assign rfl) _) rfl rfl ?_
  refine GoR.nil ?_
  refine Go1.ret1 Try.func25 rfl ?_
  exact ⟨false, rfl, (Below.same' hB), H⟩
theorem body26 : Body Try.prog 26 := ⟨Try.f26, Try.func26, rfl, by kernel_rfl⟩
theorem walk_ref02_Bit {A : List Nat} {w0 : World} {j : Int} (hA : ∀ b ∈ A, b < w0.heap.size) {K : Int → Prop} (H : ref02_Bit j K) :
    CallsV Try.prog 26 #[.int .i64 j] w0 (fun v w' => ∃ (r0 : Int), v = .int .u64 r0 ∧ Same w0 w' ∧ K r0) := by
 refine CallsV.of (l := [.int .i64 j]) Try.func26 rfl Try.ntmps26 rfl ?_
 have hO := Owns.start hA
 have hB := Below.refl w0.heap.size w0
 unfold ref02_Bit at H
 refine Go1.seq ?_
 refine Go1.region ?_
 refine GoR.op ((op_assign rfl) _) rfl rfl ?_
 refine GoR.nil ?_
 refine Go1.seq ?_
 refine Go1.region ?_
 refine GoR.op ((op_move rfl) _) rfl rfl ?_
 refine GoR.op ((op_conv Try.underlying3 Try.underlying59 rfl rfl) _) rfl rfl ?_
 obtain ⟨h1, H⟩ := H
 refine GoR.op ((op_shl rfl rfl h1 rfl) _) rfl rfl ?_
 refine GoR.op ((op_assign rfl) _) rfl rfl ?_
 refine GoR.nil ?_
 refine Go1.ret1 Try.func26 rfl ?_
 exact ⟨(shlK .u64 (1 : Int) (IntKind.u64.wrap j)), rfl, (Below.same' hB), H⟩
theorem body5 : Body Try.prog 5 := ⟨Try.f5, Try.func5, rfl, by kernel_rfl⟩
theorem walk_law11_TransApplies {A : List Nat} {w0 : World} {p_f : Option Addr} {c_f : Nat} {p_g : Option Addr} {c_g : Nat} {f : List Int} {g : List Int} {set_ : Int} (hA : ∀ b ∈ A, b < w0.heap.size) (h_f : ISl (Rp.int .i64) A w0 p_f c_f f) (h_g : ISl (Rp.int .i64) A w0 p_g c_g g) {K : Bool → Prop} (H : law11_TransApplies f g set_ K) :
    CallsV Try.prog 5 #[.slice p_f f.length c_f, .slice p_g g.length c_g, .int .u64 set_] w0 (fun v w' => ∃ (r0 : Bool), v = .bool r0 ∧ Same w0 w' ∧ K r0) := by
 refine CallsV.of (l := [.slice p_f f.length c_f, .slice p_g g.length c_g, .int .u64 set_]) Try.func5 rfl Try.ntmps5 rfl ?_
 have hO := Owns.start hA
 have hB := Below.refl w0.heap.size w0
 unfold law11_TransApplies at H
 replace h_f := h_f.ch (Ch.start A w0)
 replace h_g := h_g.ch (Ch.start A w0)
 refine Go1.seq ?_
 refine Go1.region ?_
 refine GoR.op ((op_assign rfl) _) rfl rfl ?_
 refine GoR.nil ?_
 refine Go1.seq ?_
 refine Go1.region ?_
 refine GoR.op ((op_move rfl) _) rfl rfl ?_
 refine GoR.op ((op_move rfl) _) rfl rfl ?_
 refine GoR.call (op_call body24 rfl (walk_trans_Apply hO.lt h_f H)) rfl rfl ?_
 rintro v4 w2 ⟨r1, rfl, hs3, H⟩
 have hst5 := Stp.same hO hs3
 replace hO := hst5.own
 replace h_f := h_f.ch hst5.ch
 replace h_g := h_g.ch hst5.ch
 replace hB := hB.trans hst5.bel
 refine GoR.op ((op_assign rfl) _) rfl rfl ?_
 refine GoR.nil ?_
 refine Go1.seq ?_
 refine Go1.seq ?_
 refine Go1.region ?_
 refine GoR.op ((op_move rfl) _) rfl rfl ?_
 refine GoR.call (op_call body22 rfl (walk_ref11_Valid hO.lt h_f H)) rfl rfl ?_
 rintro v9 w7 ⟨r6, rfl, hs8, H⟩
 have hst10 := Stp.same hO hs8
 replace hO := hst10.own
 replace h_f := h_f.ch hst10.ch
 replace h_g := h_g.ch hst10.ch
 replace hB := hB.trans hst10.bel
 cases r6
 ·replace H := ifn Bool.false_ne_true H
  refine GoR.op ((op_not rfl) _) rfl rfl ?_
  refine GoR.nil ?_
  refine Go1.condT rfl rfl ?_
  refine Go1.seq ?_
  refine Go1.region ?_
  refine GoR.op ((op_move rfl) _) rfl rfl ?_
  by_cases h11 : r1 = (0 : Int)
  ·replace H := ifp h11 H
   refine GoR.op ((fun w => opB (op_eql rfl rfl w) (decide_eq_true h11)) _) rfl rfl ?_
   refine GoR.op ((op_move rfl) _) rfl rfl ?_
   refine GoR.call (op_call body17 rfl (walk_law11_awake hO.lt H)) rfl rfl ?_
   rintro v15 w13 ⟨r12, rfl, hs14, H⟩
   have hst16 := Stp.same hO hs14
   replace hO := hst16.own
   replace h_f := h_f.ch hst16.ch
   replace h_g := h_g.ch hst16.ch
   replace hB := hB.trans hst16.bel
   refine GoR.op ((op_pickT rfl rfl rfl) _) rfl rfl ?_
   refine GoR.op ((op_assign rfl) _) rfl rfl ?_
   refine GoR.nil ?_
   refine Go1.ret1 Try.func5 rfl ?_
   exact ⟨r12, rfl, (Below.same' hB), H⟩
  ·replace H := ifn h11 H
   refine GoR.op ((fun w => opB (op_eql rfl rfl w) (decide_eq_false h11)) _) rfl rfl ?_
   refine GoR.op ((op_move rfl) _) rfl rfl ?_
   refine GoR.pass rfl rfl ?_
   refine GoR.op ((op_pickF rfl rfl rfl) _) rfl rfl ?_
   refine GoR.op ((op_assign rfl) _) rfl rfl ?_
   refine GoR.nil ?_
   refine Go1.ret1 Try.func5 rfl ?_
   exact ⟨false, rfl, (Below.same' hB), H⟩
 ·replace H := ifp rfl H
  refine GoR.op ((op_not rfl) _) rfl rfl ?_
  refine GoR.nil ?_
  refine Go1.condF rfl rfl ?_
  refine Go1.skip ?_
  refine Go1.seq ?_
  refine Go1.region ?_
  refine GoR.op ((op_assign rfl) _) rfl rfl ?_
  refine GoR.nil ?_
  refine Go1.seq ?_
  refine Go1.seq ?_
  refine Go1.region ?_
  refine GoR.op ((op_move rfl) _) rfl rfl ?_
  refine GoR.op ((op_len Try.underlying22 rfl) _) rfl rfl ?_
  replace H := H h_f.bd
  refine GoR.op ((op_move rfl) _) rfl rfl ?_
  refine GoR.nil ?_
  refine Go1.block ?_
  refine Go1.loopW (S := Int × Nat) (fun s σ w => agrees σ [(0, .slice p_f f.length c_f), (1, .slice p_g g.length c_g), (2, .int .u64 set_), (7, .int .u64 r1), (8, .int .u64 (s.1)), (22, .slice p_f f.length c_f), (23, .int .i64 (f.length : Int)), (24, .int .i64 ((s.2) : Int))] ∧ Owns w0.heap.size w [] A ∧ ISl (Rp.int .i64) (bl [] ++ A) w p_f c_f f ∧ ISl (Rp.int .i64) (bl [] ++ A) w p_g c_g g ∧ Below w0.heap.size w0 w) H ⟨⟨rfl, rfl, rfl, rfl, rfl, rfl, rfl, rfl, trivial⟩, hO, h_f, h_g, hB⟩ ?_
  rintro X1 ⟨want1_18, k1_19⟩ H hX1 σ w17 ⟨hag, hO, h_f, h_g, hB⟩
  dsimp only at H
  refine Go1.keep [(0, .slice p_f f.length c_f), (1, .slice p_g g.length c_g), (2, .int .u64 set_), (7, .int .u64 r1), (8, .int .u64 want1_18), (22, .slice p_f f.length c_f), (23, .int .i64 (f.length : Int)), (24, .int .i64 (k1_19 : Int))] hag ?_
  refine Go1.seq ?_
  refine Go1.region ?_
  by_cases h20 : (k1_19 : Int) < (f.length : Int)
  ·replace H := ifp h20 H
   refine GoR.op ((fun w => opB (op_lss rfl rfl w) (decide_eq_true h20)) _) rfl rfl ?_
   refine GoR.nil ?_
   refine Go1.seq ?_
   refine Go1.condT rfl rfl ?_
   refine Go1.skip ?_
   refine Go1.seq ?_
   refine Go1.block ?_
   refine Go1.seq ?_
   refine Go1.region ?_
   refine GoR.op ((op_move rfl) _) rfl rfl ?_
   obtain ⟨h21, H⟩ := H
   obtain ⟨h22, H⟩ := H
   refine GoR.op ((op_index Try.underlying22 ti3 rfl rfl h21 h22 (h_f.some_ h21 h22)) _) rfl rfl ?_
   refine GoR.op ((ldInt h_f h21 h22 Try.underlying3 rfl rfl) _ (Same.refl _)) rfl rfl ?_
   refine GoR.op ((op_assign rfl) _) rfl rfl ?_
   refine GoR.op ((op_assign rfl) _) rfl rfl ?_
   refine GoR.nil ?_
   refine Go1.seq ?_
   refine Go1.region ?_
   refine GoR.op ((op_move rfl) _) rfl rfl ?_
   refine GoR.op ((op_move rfl) _) rfl rfl ?_
   refine GoR.call (op_call body25 rfl (walk_ref02_Has hO.lt H)) rfl rfl ?_
   rintro v26 w24 ⟨r23, rfl, hs25, H⟩
   have hst27 := Stp.same hO hs25
   replace hO := hst27.own
   replace h_f := h_f.ch hst27.ch
   replace h_g := h_g.ch hst27.ch
   replace hB := hB.trans hst27.bel
   refine GoR.nil ?_
   cases r23
   ·replace H := ifn Bool.false_ne_true H
    refine Go1.condF rfl rfl ?_
    refine Go1.skip ?_
    refine Go1.inBlock ?_
    refine Go1.region ?_
    refine GoR.op ((op_add rfl rfl (wrap_i64 (by have := h20; have := h_f.bd; unfold mx at this; exact ⟨by omega, by omega⟩))) _) rfl rfl ?_
    refine GoR.op ((op_move rfl) _) rfl rfl ?_
    refine GoR.nil ?_
    exact hX1 _ H _ _ ⟨⟨rfl, rfl, rfl, rfl, rfl, rfl, rfl, rfl, trivial⟩, hO, h_f, h_g, hB⟩
   ·replace H := ifp rfl H
    refine Go1.condT rfl rfl ?_
    refine Go1.region ?_
    refine GoR.op ((op_move rfl) _) rfl rfl ?_
    refine GoR.op ((op_move rfl) _) rfl rfl ?_
    refine GoR.call (op_call body26 rfl (walk_ref02_Bit hO.lt H)) rfl rfl ?_
    rintro v31 w29 ⟨r28, rfl, hs30, H⟩
    have hst32 := Stp.same hO hs30
    replace hO := hst32.own
    replace h_f := h_f.ch hst32.ch
    replace h_g := h_g.ch hst32.ch
    replace hB := hB.trans hst32.bel
    refine GoR.op ((op_or rfl rfl) _) rfl rfl ?_
    refine GoR.op ((op_assign rfl) _) rfl rfl ?_
    refine GoR.nil ?_
    refine Go1.inBlock ?_
    refine Go1.region ?_
    refine GoR.op ((op_add rfl rfl (wrap_i64 (by have := h20; have := h_f.bd; unfold mx at this; exact ⟨by omega, by omega⟩))) _) rfl rfl ?_
    refine GoR.op ((op_move rfl) _) rfl rfl ?_
    refine GoR.nil ?_
    exact hX1 _ H _ _ ⟨⟨rfl, rfl, rfl, rfl, rfl, rfl, rfl, rfl, trivial⟩, hO, h_f, h_g, hB⟩
  ·replace H := ifn h20 H
   refine GoR.op ((fun w => opB (op_lss rfl rfl w) (decide_eq_false h20)) _) rfl rfl ?_
   refine GoR.nil ?_
   refine Go1.seq ?_
   refine Go1.condF rfl rfl ?_
   refine Go1.exit rfl ?_
   refine Go1.seq ?_
   refine Go1.seq ?_
   refine Go1.region ?_
   refine GoR.op ((op_move rfl) _) rfl rfl ?_
   refine GoR.op ((op_move rfl) _) rfl rfl ?_
   by_cases h33 : r1 = want1_18
   ·replace H := ifp h33 H
    refine GoR.op ((fun w => opB (op_neq rfl rfl w) (ndT h33)) _) rfl rfl ?_
    refine GoR.nil ?_
    refine Go1.condF rfl rfl ?_
    refine Go1.skip ?_
    refine Go1.seq ?_
    refine Go1.region ?_
    refine GoR.op ((op_move rfl) _) rfl rfl ?_
    refine GoR.op ((op_move rfl) _) rfl rfl ?_
    refine GoR.call (op_call body16 rfl (walk_law11_pair hO.lt h_f h_g H)) rfl rfl ?_
    rintro v37 w35 ⟨r34, rfl, hs36, H⟩
    have hst38 := Stp.same hO hs36
    replace hO := hst38.own
    replace h_f := h_f.ch hst38.ch
    replace h_g := h_g.ch hst38.ch
    replace hB := hB.trans hst38.bel
    cases r34
    ·replace H := ifn Bool.false_ne_true H
     refine GoR.op ((op_not rfl) _) rfl rfl ?_
     refine GoR.op ((op_move rfl) _) rfl rfl ?_
     refine GoR.pass rfl rfl ?_
     refine GoR.pass rfl rfl ?_
     refine GoR.pass rfl rfl ?_
     refine GoR.pass rfl rfl ?_
     refine GoR.pass rfl rfl ?_
     refine GoR.pass rfl rfl ?_
     refine GoR.pass rfl rfl ?_
     refine GoR.pass rfl rfl ?_
     refine GoR.pass rfl rfl ?_
     refine GoR.op ((op_pickT rfl rfl rfl) _) rfl rfl ?_
     refine GoR.op ((op_move rfl) _) rfl rfl ?_
     refine GoR.call (op_call body17 rfl (walk_law11_awake hO.lt H)) rfl rfl ?_
     rintro v42 w40 ⟨r39, rfl, hs41, H⟩
     have hst43 := Stp.same hO hs41
     replace hO := hst43.own
     replace h_f := h_f.ch hst43.ch
     replace h_g := h_g.ch hst43.ch
     replace hB := hB.trans hst43.bel
     refine GoR.op ((op_pickT rfl rfl rfl) _) rfl rfl ?_
     refine GoR.op ((op_assign rfl) _) rfl rfl ?_
     refine GoR.nil ?_
     refine Go1.ret1 Try.func5 rfl ?_
     exact ⟨r39, rfl, (Below.same' hB), H⟩
    ·replace H := ifp rfl H
     refine GoR.op ((op_not rfl) _) rfl rfl ?_
     refine GoR.op ((op_move rfl) _) rfl rfl ?_
     refine GoR.op ((op_move rfl) _) rfl rfl ?_
     refine GoR.op ((op_move rfl) _) rfl rfl ?_
     refine GoR.call (op_call body15 rfl (walk_trans_Compose hO.lt h_f h_g H)) rfl rfl ?_
     rintro v47 w45 ⟨r44, p_r44, c_r44, rfl, hs46, h_r44, H⟩
     have hst48 := Stp.same hO hs46
     replace hO := hst48.own
     replace h_f := h_f.ch hst48.ch
     replace h_g := h_g.ch hst48.ch
     replace hB := hB.trans hst48.bel
     refine GoR.op ((op_move rfl) _) rfl rfl ?_
     refine GoR.call (op_call body24 rfl (walk_trans_Apply hO.lt h_r44 H)) rfl rfl ?_
     rintro v52 w50 ⟨r49, rfl, hs51, H⟩
     have hst53 := Stp.same hO hs51
     replace hO := hst53.own
     replace h_f := h_f.ch hst53.ch
     replace h_g := h_g.ch hst53.ch
     replace h_r44 := h_r44.ch hst53.ch
     replace hB := hB.trans hst53.bel
     refine GoR.op ((op_move rfl) _) rfl rfl ?_
     refine GoR.op ((op_move rfl) _) rfl rfl ?_
     refine GoR.call (op_call body24 rfl (walk_trans_Apply hO.lt h_g H)) rfl rfl ?_
     rintro v57 w55 ⟨r54, rfl, hs56, H⟩
     have hst58 := Stp.same hO hs56
     replace hO := hst58.own
     replace h_f := h_f.ch hst58.ch
     replace h_g := h_g.ch hst58.ch
     replace h_r44 := h_r44.ch hst58.ch
     replace hB := hB.trans hst58.bel
     by_cases h59 : r49 = r54
     ·replace H := ifp h59 H
      refine GoR.op ((fun w => opB (op_eql rfl rfl w) (decide_eq_true h59)) _) rfl rfl ?_
      refine GoR.op ((op_pickF rfl rfl rfl) _) rfl rfl ?_
      refine GoR.op ((op_move rfl) _) rfl rfl ?_
      refine GoR.call (op_call body17 rfl (walk_law11_awake hO.lt H)) rfl rfl ?_
      rintro v63 w61 ⟨r60, rfl, hs62, H⟩
      have hst64 := Stp.same hO hs62
      replace hO := hst64.own
      replace h_f := h_f.ch hst64.ch
      replace h_g := h_g.ch hst64.ch
      replace h_r44 := h_r44.ch hst64.ch
      replace hB := hB.trans hst64.bel
      refine GoR.op ((op_pickT rfl rfl rfl) _) rfl rfl ?_
      refine GoR.op ((op_assign rfl) _) rfl rfl ?_
      refine GoR.nil ?_
      refine Go1.ret1 Try.func5 rfl ?_
      exact ⟨r60, rfl, (Below.same' hB), H⟩
     ·replace H := ifn h59 H
      refine GoR.op ((fun w => opB (op_eql rfl rfl w) (decide_eq_false h59)) _) rfl rfl ?_
      refine GoR.op ((op_pickF rfl rfl rfl) _) rfl rfl ?_
      refine GoR.op ((op_move rfl) _) rfl rfl ?_
      refine GoR.pass rfl rfl ?_
      refine GoR.op ((op_pickF rfl rfl rfl) _) rfl rfl ?_
      refine GoR.op ((op_assign rfl) _) rfl rfl ?_
      refine GoR.nil ?_
      refine Go1.ret1 Try.func5 rfl ?_
      exact ⟨false, rfl, (Below.same' hB), H⟩
   ·replace H := ifn h33 H
    refine GoR.op ((fun w => opB (op_neq rfl rfl w) (ndF h33)) _) rfl rfl ?_
    refine GoR.nil ?_
    refine Go1.condT rfl rfl ?_
    refine Go1.seq ?_
    refine Go1.region ?_
    refine GoR.op ((op_assign rfl) _) rfl rfl ?_
    refine GoR.nil ?_
    refine Go1.ret1 Try.func5 rfl ?_
    exact ⟨false, rfl, (Below.same' hB), H⟩
end Sg
