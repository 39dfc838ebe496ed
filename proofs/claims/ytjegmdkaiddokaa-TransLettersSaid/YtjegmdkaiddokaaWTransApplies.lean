/- The walks: each call keeps to its plain transformer. Printed by walkgen.py. -/
import Derived.Test.YtjegmdkaiddokaaWTransValid
namespace Sg
open Go Go.RowKit Go.Proofs
set_option linter.unusedVariables false
set_option maxRecDepth 100000
set_option maxHeartbeats 4000000
theorem body24 : Body Try.prog 24 := ⟨Try.f24, Try.func24, rfl, by kernel_rfl⟩
theorem walk_trans_Apply {A : List Nat} {w0 : World} {p_f : Option Addr} {c_f : Nat} {f : List Int} {set_ : Int} (hA : ∀ b ∈ A, b < w0.heap.size) (h_f : ISl (Rp.int .i64) A w0 p_f c_f f) {K : Int → Prop} (H : trans_Apply f set_ K) :
    CallsV Try.prog 24 #[.slice p_f f.length c_f, .int .u64 set_] w0 (fun v w' => ∃ (r0 : Int), v = .int .u64 r0 ∧ Same w0 w' ∧ K r0) := by
 refine CallsV.of (l := [.slice p_f f.length c_f, .int .u64 set_]) Try.func24 rfl Try.ntmps24 rfl ?_
 have hO := Owns.start hA
 have hB := Fr.refl (bl []) w0
 unfold trans_Apply at H
 replace h_f := h_f.ch (Ch.start A w0)
 refine Go1.seq ?_
 refine Go1.region ?_
 refine GoR.op ((op_assign rfl) _) rfl rfl ?_
 refine GoR.nil ?_
 refine Go1.seq ?_
 refine Go1.seq ?_
 refine Go1.region ?_
 refine GoR.op ((op_move rfl) _) rfl rfl ?_
 refine GoR.call (op_call body21 rfl (walk_trans_Valid hO.lt h_f H)) rfl rfl ?_
 rintro v5 w2 ⟨r1, rfl, hs3, H⟩
 have hst6 := Stp.same hO hs3
 replace hO := hst6.own
 replace h_f := h_f.ch hst6.ch
 replace hB := hB.trans hst6.fr
 cases r1
 ·replace H := ifn Bool.false_ne_true H
  refine GoR.op ((op_not rfl) _) rfl rfl ?_
  refine GoR.nil ?_
  refine Go1.condT rfl rfl ?_
  refine Go1.seq ?_
  refine Go1.region ?_
  refine GoR.op ((op_assign rfl) _) rfl rfl ?_
  refine GoR.nil ?_
  refine Go1.ret1 Try.func24 rfl ?_
  exact ⟨(0 : Int), rfl, hB.same, H⟩
 ·replace H := ifp rfl H
  refine GoR.op ((op_not rfl) _) rfl rfl ?_
  refine GoR.nil ?_
  refine Go1.condF rfl rfl ?_
  refine Go1.skip ?_
  refine Go1.seq ?_
  refine Go1.region ?_
  refine GoR.op ((op_assign rfl) _) rfl rfl ?_
  refine GoR.nil ?_
  refine Go1.seq ?_
  refine Go1.seq ?_
  refine Go1.region ?_
  refine GoR.op ((op_move rfl) _) rfl rfl ?_
  refine GoR.op ((op_len Try.underlying22 rfl) _) rfl rfl ?_
  replace H := H h_f.bd
  refine GoR.op ((op_move rfl) _) rfl rfl ?_
  refine GoR.nil ?_
  refine Go1.block ?_
  refine Go1.loopW (S := Int × Nat) (fun s σ w => agrees σ [(1, .int .u64 set_), (5, .int .u64 (s.1)), (11, .slice p_f f.length c_f), (12, .int .i64 (f.length : Int)), (13, .int .i64 ((s.2) : Int))] ∧ Owns w0.heap.size w [] A ∧ ISl (Rp.int .i64) (bl [] ++ A) w p_f c_f f ∧ Fr (bl []) w0 (bl []) w) H ⟨⟨rfl, rfl, rfl, rfl, rfl, trivial⟩, hO, h_f, hB⟩ ?_
  rintro X1 ⟨image1_8, k1_9⟩ H hX1 σ w7 ⟨hag, hO, h_f, hB⟩
  dsimp only at H
  refine Go1.keep [(1, .int .u64 set_), (5, .int .u64 image1_8), (11, .slice p_f f.length c_f), (12, .int .i64 (f.length : Int)), (13, .int .i64 (k1_9 : Int))] hag ?_
  refine Go1.seq ?_
  refine Go1.region ?_
  by_cases h10 : (k1_9 : Int) < (f.length : Int)
  ·replace H := ifp h10 H
   refine GoR.op ((fun w => opB (op_lss rfl rfl w) (decide_eq_true h10)) _) rfl rfl ?_
   refine GoR.nil ?_
   refine Go1.seq ?_
   refine Go1.condT rfl rfl ?_
   refine Go1.skip ?_
   refine Go1.seq ?_
   refine Go1.block ?_
   refine Go1.seq ?_
   refine Go1.region ?_
   refine GoR.op ((op_move rfl) _) rfl rfl ?_
   obtain ⟨h11, H⟩ := H
   obtain ⟨h12, H⟩ := H
   refine GoR.op ((op_index Try.underlying22 ti3 rfl rfl h11 h12 (h_f.some_ h11 h12)) _) rfl rfl ?_
   refine GoR.op ((ldInt h_f h11 h12 Try.underlying3 rfl rfl) _ (Same.refl _)) rfl rfl ?_
   refine GoR.op ((op_assign rfl) _) rfl rfl ?_
   refine GoR.op ((op_assign rfl) _) rfl rfl ?_
   refine GoR.nil ?_
   refine Go1.region ?_
   refine GoR.op ((op_move rfl) _) rfl rfl ?_
   refine GoR.op ((op_move rfl) _) rfl rfl ?_
   refine GoR.op ((op_move rfl) _) rfl rfl ?_
   refine GoR.op ((op_shr rfl rfl (Int.natCast_nonneg _) rfl) _) rfl rfl ?_
   refine GoR.op ((op_and rfl rfl) _) rfl rfl ?_
   refine GoR.op ((op_move rfl) _) rfl rfl ?_
   obtain ⟨h13, H⟩ := H
   refine GoR.op ((op_shl rfl rfl h13 rfl) _) rfl rfl ?_
   refine GoR.op ((op_or rfl rfl) _) rfl rfl ?_
   refine GoR.op ((op_assign rfl) _) rfl rfl ?_
   refine GoR.nil ?_
   refine Go1.inBlock ?_
   refine Go1.region ?_
   refine GoR.op ((op_add rfl rfl (wrap_i64 (natbd h10 h_f.bd))) _) rfl rfl ?_
   refine GoR.op ((op_move rfl) _) rfl rfl ?_
   refine GoR.nil ?_
   exact hX1 _ H _ _ ⟨⟨rfl, rfl, rfl, rfl, rfl, trivial⟩, hO, h_f, hB⟩
  ·replace H := ifn h10 H
   refine GoR.op ((fun w => opB (op_lss rfl rfl w) (decide_eq_false h10)) _) rfl rfl ?_
   refine GoR.nil ?_
   refine Go1.seq ?_
   refine Go1.condF rfl rfl ?_
   refine Go1.exit rfl ?_
   refine Go1.seq ?_
   refine Go1.region ?_
   refine GoR.op ((op_move rfl) _) rfl rfl ?_
   refine GoR.op ((op_assign rfl) _) rfl rfl ?_
   refine GoR.nil ?_
   refine Go1.ret1 Try.func24 rfl ?_
   exact ⟨image1_8, rfl, hB.same, H⟩
theorem body25 : Body Try.prog 25 := ⟨Try.f25, Try.func25, rfl, by kernel_rfl⟩
theorem walk_ref02_Has {A : List Nat} {w0 : World} {set_ : Int} {j : Int} (hA : ∀ b ∈ A, b < w0.heap.size) {K : Bool → Prop} (H : ref02_Has set_ j K) :
    CallsV Try.prog 25 #[.int .u64 set_, .int .i64 j] w0 (fun v w' => ∃ (r0 : Bool), v = .bool r0 ∧ Same w0 w' ∧ K r0) := by
 refine CallsV.of (l := [.int .u64 set_, .int .i64 j]) Try.func25 rfl Try.ntmps25 rfl ?_
 have hO := Owns.start hA
 have hB := Fr.refl (bl []) w0
 unfold ref02_Has at H
 refine Go1.seq ?_
 refine Go1.region ?_
 refine GoR.op ((op_assign rfl) _) rfl rfl ?_
 refine GoR.nil ?_
 refine Go1.seq ?_
 refine Go1.region ?_
 refine GoR.op ((op_move rfl) _) rfl rfl ?_
 refine GoR.op ((op_move rfl) _) rfl rfl ?_
 refine GoR.op ((op_conv Try.underlying3 Try.underlying59 rfl rfl) _) rfl rfl ?_
 obtain ⟨h1, H⟩ := H
 refine GoR.op ((op_shr rfl rfl h1 rfl) _) rfl rfl ?_
 refine GoR.op ((op_and rfl rfl) _) rfl rfl ?_
 by_cases h2 : (bits .and .u64 (shrK .u64 set_ (IntKind.u64.wrap j)) (1 : Int)) = (1 : Int)
 ·replace H := ifp h2 H
  refine GoR.op ((fun w => opB (op_eql rfl rfl w) (decide_eq_true h2)) _) rfl rfl ?_
  refine GoR.op ((op_assign rfl) _) rfl rfl ?_
  refine GoR.nil ?_
  refine Go1.ret1 Try.func25 rfl ?_
  exact ⟨true, rfl, hB.same, H⟩
 ·replace H := ifn h2 H
  refine GoR.op ((fun w => opB (op_eql rfl rfl w) (decide_eq_false h2)) _) rfl rfl ?_
  refine GoR.op ((op_assign rfl) _) rfl rfl ?_
  refine GoR.nil ?_
  refine Go1.ret1 Try.func25 rfl ?_
  exact ⟨false, rfl, hB.same, H⟩
theorem body26 : Body Try.prog 26 := ⟨Try.f26, Try.func26, rfl, by kernel_rfl⟩
theorem walk_ref02_Bit {A : List Nat} {w0 : World} {j : Int} (hA : ∀ b ∈ A, b < w0.heap.size) {K : Int → Prop} (H : ref02_Bit j K) :
    CallsV Try.prog 26 #[.int .i64 j] w0 (fun v w' => ∃ (r0 : Int), v = .int .u64 r0 ∧ Same w0 w' ∧ K r0) := by
 refine CallsV.of (l := [.int .i64 j]) Try.func26 rfl Try.ntmps26 rfl ?_
 have hO := Owns.start hA
 have hB := Fr.refl (bl []) w0
 unfold ref02_Bit at H
 refine Go1.seq ?_
 refine Go1.region ?_
 refine GoR.op ((op_assign rfl) _) rfl rfl ?_
 refine GoR.nil ?_
 refine Go1.seq ?_
 refine Go1.region ?_
 refine GoR.op ((op_move rfl) _) rfl rfl ?_
 refine GoR.op ((op_conv Try.underlying3 Try.underlying59 rfl rfl) _) rfl rfl ?_
 obtain ⟨h1, H⟩ := H
 refine GoR.op ((op_shl rfl rfl h1 rfl) _) rfl rfl ?_
 refine GoR.op ((op_assign rfl) _) rfl rfl ?_
 refine GoR.nil ?_
 refine Go1.ret1 Try.func26 rfl ?_
 exact ⟨(shlK .u64 (1 : Int) (IntKind.u64.wrap j)), rfl, hB.same, H⟩
theorem body5 : Body Try.prog 5 := ⟨Try.f5, Try.func5, rfl, by kernel_rfl⟩
theorem walk_law11_TransApplies {A : List Nat} {w0 : World} {p_f : Option Addr} {c_f : Nat} {p_g : Option Addr} {c_g : Nat} {f : List Int} {g : List Int} {set_ : Int} (hA : ∀ b ∈ A, b < w0.heap.size) (h_f : ISl (Rp.int .i64) A w0 p_f c_f f) (h_g : ISl (Rp.int .i64) A w0 p_g c_g g) {K : Bool → Prop} (H : law11_TransApplies f g set_ K) :
    CallsV Try.prog 5 #[.slice p_f f.length c_f, .slice p_g g.length c_g, .int .u64 set_] w0 (fun v w' => ∃ (r0 : Bool), v = .bool r0 ∧ Same w0 w' ∧ K r0) := by
 refine CallsV.of (l := [.slice p_f f.length c_f, .slice p_g g.length c_g, .int .u64 set_]) Try.func5 rfl Try.ntmps5 rfl ?_
 have hO := Owns.start hA
 have hB := Fr.refl (bl []) w0
 unfold law11_TransApplies at H
 replace h_f := h_f.ch (Ch.start A w0)
 replace h_g := h_g.ch (Ch.start A w0)
 refine Go1.seq ?_
 refine Go1.region ?_
 refine GoR.op ((op_assign rfl) _) rfl rfl ?_
 refine GoR.nil ?_
 refine Go1.seq ?_
 refine Go1.region ?_
 refine GoR.op ((op_move rfl) _) rfl rfl ?_
 refine GoR.op ((op_move rfl) _) rfl rfl ?_
 refine GoR.call (op_call body24 rfl (walk_trans_Apply hO.lt h_f H)) rfl rfl ?_
 rintro v5 w2 ⟨r1, rfl, hs3, H⟩
 have hst6 := Stp.same hO hs3
 replace hO := hst6.own
 replace h_f := h_f.ch hst6.ch
 replace h_g := h_g.ch hst6.ch
 replace hB := hB.trans hst6.fr
 refine GoR.op ((op_assign rfl) _) rfl rfl ?_
 refine GoR.nil ?_
 refine Go1.seq ?_
 refine Go1.seq ?_
 refine Go1.region ?_
 refine GoR.op ((op_move rfl) _) rfl rfl ?_
 refine GoR.call (op_call body22 rfl (walk_ref11_Valid hO.lt h_f H)) rfl rfl ?_
 rintro v11 w8 ⟨r7, rfl, hs9, H⟩
 have hst12 := Stp.same hO hs9
 replace hO := hst12.own
 replace h_f := h_f.ch hst12.ch
 replace h_g := h_g.ch hst12.ch
 replace hB := hB.trans hst12.fr
 cases r7
 ·replace H := ifn Bool.false_ne_true H
  refine GoR.op ((op_not rfl) _) rfl rfl ?_
  refine GoR.nil ?_
  refine Go1.condT rfl rfl ?_
  refine Go1.seq ?_
  refine Go1.region ?_
  refine GoR.op ((op_move rfl) _) rfl rfl ?_
  by_cases h13 : r1 = (0 : Int)
  ·replace H := ifp h13 H
   refine GoR.op ((fun w => opB (op_eql rfl rfl w) (decide_eq_true h13)) _) rfl rfl ?_
   refine GoR.op ((op_move rfl) _) rfl rfl ?_
   refine GoR.call (op_call body17 rfl (walk_law11_awake hO.lt H)) rfl rfl ?_
   rintro v18 w15 ⟨r14, rfl, hs16, H⟩
   have hst19 := Stp.same hO hs16
   replace hO := hst19.own
   replace h_f := h_f.ch hst19.ch
   replace h_g := h_g.ch hst19.ch
   replace hB := hB.trans hst19.fr
   refine GoR.op ((op_pickT rfl rfl rfl) _) rfl rfl ?_
   refine GoR.op ((op_assign rfl) _) rfl rfl ?_
   refine GoR.nil ?_
   refine Go1.ret1 Try.func5 rfl ?_
   exact ⟨r14, rfl, hB.same, H⟩
  ·replace H := ifn h13 H
   refine GoR.op ((fun w => opB (op_eql rfl rfl w) (decide_eq_false h13)) _) rfl rfl ?_
   refine GoR.op ((op_move rfl) _) rfl rfl ?_
   refine GoR.pass rfl rfl ?_
   refine GoR.op ((op_pickF rfl rfl rfl) _) rfl rfl ?_
   refine GoR.op ((op_assign rfl) _) rfl rfl ?_
   refine GoR.nil ?_
   refine Go1.ret1 Try.func5 rfl ?_
   exact ⟨false, rfl, hB.same, H⟩
 ·replace H := ifp rfl H
  refine GoR.op ((op_not rfl) _) rfl rfl ?_
  refine GoR.nil ?_
  refine Go1.condF rfl rfl ?_
  refine Go1.skip ?_
  refine Go1.seq ?_
  refine Go1.region ?_
  refine GoR.op ((op_assign rfl) _) rfl rfl ?_
  refine GoR.nil ?_
  refine Go1.seq ?_
  refine Go1.seq ?_
  refine Go1.region ?_
  refine GoR.op ((op_move rfl) _) rfl rfl ?_
  refine GoR.op ((op_len Try.underlying22 rfl) _) rfl rfl ?_
  replace H := H h_f.bd
  refine GoR.op ((op_move rfl) _) rfl rfl ?_
  refine GoR.nil ?_
  refine Go1.block ?_
  refine Go1.loopW (S := Int × Nat) (fun s σ w => agrees σ [(0, .slice p_f f.length c_f), (1, .slice p_g g.length c_g), (2, .int .u64 set_), (7, .int .u64 r1), (8, .int .u64 (s.1)), (22, .slice p_f f.length c_f), (23, .int .i64 (f.length : Int)), (24, .int .i64 ((s.2) : Int))] ∧ Owns w0.heap.size w [] A ∧ ISl (Rp.int .i64) (bl [] ++ A) w p_f c_f f ∧ ISl (Rp.int .i64) (bl [] ++ A) w p_g c_g g ∧ Fr (bl []) w0 (bl []) w) H ⟨⟨rfl, rfl, rfl, rfl, rfl, rfl, rfl, rfl, trivial⟩, hO, h_f, h_g, hB⟩ ?_
  rintro X1 ⟨want1_21, k1_22⟩ H hX1 σ w20 ⟨hag, hO, h_f, h_g, hB⟩
  dsimp only at H
  refine Go1.keep [(0, .slice p_f f.length c_f), (1, .slice p_g g.length c_g), (2, .int .u64 set_), (7, .int .u64 r1), (8, .int .u64 want1_21), (22, .slice p_f f.length c_f), (23, .int .i64 (f.length : Int)), (24, .int .i64 (k1_22 : Int))] hag ?_
  refine Go1.seq ?_
  refine Go1.region ?_
  by_cases h23 : (k1_22 : Int) < (f.length : Int)
  ·replace H := ifp h23 H
   refine GoR.op ((fun w => opB (op_lss rfl rfl w) (decide_eq_true h23)) _) rfl rfl ?_
   refine GoR.nil ?_
   refine Go1.seq ?_
   refine Go1.condT rfl rfl ?_
   refine Go1.skip ?_
   refine Go1.seq ?_
   refine Go1.block ?_
   refine Go1.seq ?_
   refine Go1.region ?_
   refine GoR.op ((op_move rfl) _) rfl rfl ?_
   obtain ⟨h24, H⟩ := H
   obtain ⟨h25, H⟩ := H
   refine GoR.op ((op_index Try.underlying22 ti3 rfl rfl h24 h25 (h_f.some_ h24 h25)) _) rfl rfl ?_
   refine GoR.op ((ldInt h_f h24 h25 Try.underlying3 rfl rfl) _ (Same.refl _)) rfl rfl ?_
   refine GoR.op ((op_assign rfl) _) rfl rfl ?_
   refine GoR.op ((op_assign rfl) _) rfl rfl ?_
   refine GoR.nil ?_
   refine Go1.seq ?_
   refine Go1.region ?_
   refine GoR.op ((op_move rfl) _) rfl rfl ?_
   refine GoR.op ((op_move rfl) _) rfl rfl ?_
   refine GoR.call (op_call body25 rfl (walk_ref02_Has hO.lt H)) rfl rfl ?_
   rintro v30 w27 ⟨r26, rfl, hs28, H⟩
   have hst31 := Stp.same hO hs28
   replace hO := hst31.own
   replace h_f := h_f.ch hst31.ch
   replace h_g := h_g.ch hst31.ch
   replace hB := hB.trans hst31.fr
   refine GoR.nil ?_
   cases r26
   ·replace H := ifn Bool.false_ne_true H
    refine Go1.condF rfl rfl ?_
    refine Go1.skip ?_
    refine Go1.inBlock ?_
    refine Go1.region ?_
    refine GoR.op ((op_add rfl rfl (wrap_i64 (natbd h23 h_f.bd))) _) rfl rfl ?_
    refine GoR.op ((op_move rfl) _) rfl rfl ?_
    refine GoR.nil ?_
    exact hX1 _ H _ _ ⟨⟨rfl, rfl, rfl, rfl, rfl, rfl, rfl, rfl, trivial⟩, hO, h_f, h_g, hB⟩
   ·replace H := ifp rfl H
    refine Go1.condT rfl rfl ?_
    refine Go1.region ?_
    refine GoR.op ((op_move rfl) _) rfl rfl ?_
    refine GoR.op ((op_move rfl) _) rfl rfl ?_
    refine GoR.call (op_call body26 rfl (walk_ref02_Bit hO.lt H)) rfl rfl ?_
    rintro v36 w33 ⟨r32, rfl, hs34, H⟩
    have hst37 := Stp.same hO hs34
    replace hO := hst37.own
    replace h_f := h_f.ch hst37.ch
    replace h_g := h_g.ch hst37.ch
    replace hB := hB.trans hst37.fr
    refine GoR.op ((op_or rfl rfl) _) rfl rfl ?_
    refine GoR.op ((op_assign rfl) _) rfl rfl ?_
    refine GoR.nil ?_
    refine Go1.inBlock ?_
    refine Go1.region ?_
    refine GoR.op ((op_add rfl rfl (wrap_i64 (natbd h23 h_f.bd))) _) rfl rfl ?_
    refine GoR.op ((op_move rfl) _) rfl rfl ?_
    refine GoR.nil ?_
    exact hX1 _ H _ _ ⟨⟨rfl, rfl, rfl, rfl, rfl, rfl, rfl, rfl, trivial⟩, hO, h_f, h_g, hB⟩
  ·replace H := ifn h23 H
   refine GoR.op ((fun w => opB (op_lss rfl rfl w) (decide_eq_false h23)) _) rfl rfl ?_
   refine GoR.nil ?_
   refine Go1.seq ?_
   refine Go1.condF rfl rfl ?_
   refine Go1.exit rfl ?_
   refine Go1.seq ?_
   refine Go1.seq ?_
   refine Go1.region ?_
   refine GoR.op ((op_move rfl) _) rfl rfl ?_
   refine GoR.op ((op_move rfl) _) rfl rfl ?_
   by_cases h38 : r1 = want1_21
   ·replace H := ifp h38 H
    refine GoR.op ((fun w => opB (op_neq rfl rfl w) (ndT h38)) _) rfl rfl ?_
    refine GoR.nil ?_
    refine Go1.condF rfl rfl ?_
    refine Go1.skip ?_
    refine Go1.seq ?_
    refine Go1.region ?_
    refine GoR.op ((op_move rfl) _) rfl rfl ?_
    refine GoR.op ((op_move rfl) _) rfl rfl ?_
    refine GoR.call (op_call body16 rfl (walk_law11_pair hO.lt h_f h_g H)) rfl rfl ?_
    rintro v43 w40 ⟨r39, rfl, hs41, H⟩
    have hst44 := Stp.same hO hs41
    replace hO := hst44.own
    replace h_f := h_f.ch hst44.ch
    replace h_g := h_g.ch hst44.ch
    replace hB := hB.trans hst44.fr
    cases r39
    ·replace H := ifn Bool.false_ne_true H
     refine GoR.op ((op_not rfl) _) rfl rfl ?_
     refine GoR.op ((op_move rfl) _) rfl rfl ?_
     refine GoR.pass rfl rfl ?_
     refine GoR.pass rfl rfl ?_
     refine GoR.pass rfl rfl ?_
     refine GoR.pass rfl rfl ?_
     refine GoR.pass rfl rfl ?_
     refine GoR.pass rfl rfl ?_
     refine GoR.pass rfl rfl ?_
     refine GoR.pass rfl rfl ?_
     refine GoR.pass rfl rfl ?_
     refine GoR.op ((op_pickT rfl rfl rfl) _) rfl rfl ?_
     refine GoR.op ((op_move rfl) _) rfl rfl ?_
     refine GoR.call (op_call body17 rfl (walk_law11_awake hO.lt H)) rfl rfl ?_
     rintro v49 w46 ⟨r45, rfl, hs47, H⟩
     have hst50 := Stp.same hO hs47
     replace hO := hst50.own
     replace h_f := h_f.ch hst50.ch
     replace h_g := h_g.ch hst50.ch
     replace hB := hB.trans hst50.fr
     refine GoR.op ((op_pickT rfl rfl rfl) _) rfl rfl ?_
     refine GoR.op ((op_assign rfl) _) rfl rfl ?_
     refine GoR.nil ?_
     refine Go1.ret1 Try.func5 rfl ?_
     exact ⟨r45, rfl, hB.same, H⟩
    ·replace H := ifp rfl H
     refine GoR.op ((op_not rfl) _) rfl rfl ?_
     refine GoR.op ((op_move rfl) _) rfl rfl ?_
     refine GoR.op ((op_move rfl) _) rfl rfl ?_
     refine GoR.op ((op_move rfl) _) rfl rfl ?_
     refine GoR.call (op_call body15 rfl (walk_trans_Compose hO.lt h_f h_g H)) rfl rfl ?_
     rintro v55 w52 ⟨r51, p_r51, c_r51, rfl, hs53, h_r51, H⟩
     have hst56 := Stp.same hO hs53
     replace hO := hst56.own
     replace h_f := h_f.ch hst56.ch
     replace h_g := h_g.ch hst56.ch
     replace hB := hB.trans hst56.fr
     refine GoR.op ((op_move rfl) _) rfl rfl ?_
     refine GoR.call (op_call body24 rfl (walk_trans_Apply hO.lt h_r51 H)) rfl rfl ?_
     rintro v61 w58 ⟨r57, rfl, hs59, H⟩
     have hst62 := Stp.same hO hs59
     replace hO := hst62.own
     replace h_f := h_f.ch hst62.ch
     replace h_g := h_g.ch hst62.ch
     replace h_r51 := h_r51.ch hst62.ch
     replace hB := hB.trans hst62.fr
     refine GoR.op ((op_move rfl) _) rfl rfl ?_
     refine GoR.op ((op_move rfl) _) rfl rfl ?_
     refine GoR.call (op_call body24 rfl (walk_trans_Apply hO.lt h_g H)) rfl rfl ?_
     rintro v67 w64 ⟨r63, rfl, hs65, H⟩
     have hst68 := Stp.same hO hs65
     replace hO := hst68.own
     replace h_f := h_f.ch hst68.ch
     replace h_g := h_g.ch hst68.ch
     replace h_r51 := h_r51.ch hst68.ch
     replace hB := hB.trans hst68.fr
     by_cases h69 : r57 = r63
     ·replace H := ifp h69 H
      refine GoR.op ((fun w => opB (op_eql rfl rfl w) (decide_eq_true h69)) _) rfl rfl ?_
      refine GoR.op ((op_pickF rfl rfl rfl) _) rfl rfl ?_
      refine GoR.op ((op_move rfl) _) rfl rfl ?_
      refine GoR.call (op_call body17 rfl (walk_law11_awake hO.lt H)) rfl rfl ?_
      rintro v74 w71 ⟨r70, rfl, hs72, H⟩
      have hst75 := Stp.same hO hs72
      replace hO := hst75.own
      replace h_f := h_f.ch hst75.ch
      replace h_g := h_g.ch hst75.ch
      replace h_r51 := h_r51.ch hst75.ch
      replace hB := hB.trans hst75.fr
      refine GoR.op ((op_pickT rfl rfl rfl) _) rfl rfl ?_
      refine GoR.op ((op_assign rfl) _) rfl rfl ?_
      refine GoR.nil ?_
      refine Go1.ret1 Try.func5 rfl ?_
      exact ⟨r70, rfl, hB.same, H⟩
     ·replace H := ifn h69 H
      refine GoR.op ((fun w => opB (op_eql rfl rfl w) (decide_eq_false h69)) _) rfl rfl ?_
      refine GoR.op ((op_pickF rfl rfl rfl) _) rfl rfl ?_
      refine GoR.op ((op_move rfl) _) rfl rfl ?_
      refine GoR.pass rfl rfl ?_
      refine GoR.op ((op_pickF rfl rfl rfl) _) rfl rfl ?_
      refine GoR.op ((op_assign rfl) _) rfl rfl ?_
      refine GoR.nil ?_
      refine Go1.ret1 Try.func5 rfl ?_
      exact ⟨false, rfl, hB.same, H⟩
   ·replace H := ifn h38 H
    refine GoR.op ((fun w => opB (op_neq rfl rfl w) (ndF h38)) _) rfl rfl ?_
    refine GoR.nil ?_
    refine Go1.condT rfl rfl ?_
    refine Go1.seq ?_
    refine Go1.region ?_
    refine GoR.op ((op_assign rfl) _) rfl rfl ?_
    refine GoR.nil ?_
    refine Go1.ret1 Try.func5 rfl ?_
    exact ⟨false, rfl, hB.same, H⟩
end Sg
