/- The walks: each call keeps to its plain transformer. Printed by walkgen.py. -/
import Derived.Test.YthobeabghciknaaTi
import Derived.Test.YthobeabghciknaaWGreenStable
namespace Sg
open Go Go.RowKit Go.Proofs
set_option linter.unusedVariables false
set_option linter.unusedSimpArgs false
set_option maxRecDepth 100000
set_option maxHeartbeats 4000000
theorem body60 : Body Try.prog 60 := ⟨Try.f60, Try.func60, rfl, by kernel_rfl⟩
theorem walk_green_areElements {A : List Nat} {w0 : World} {p_t : Option Addr} {c_t : Nat} {t : List (List Int)} {x : Int} {y : Int} (hA : ∀ b ∈ A, b < w0.heap.size) (h_t : ISl (Rp.sl (Rp.int .i64)) A w0 p_t c_t t) {K : Bool → Prop} (H : green_areElements t x y K) :
    CallsV Try.prog 60 #[.slice p_t t.length c_t, .int .i64 x, .int .i64 y] w0 (fun v w' => ∃ (r0 : Bool), v = .bool r0 ∧ Same w0 w' ∧ K r0) := by
 refine CallsV.of (l := [.slice p_t t.length c_t, .int .i64 x, .int .i64 y]) Try.func60 rfl Try.ntmps60 rfl ?_
 have hO := Owns.start hA
 have hB := Fr.refl (bl []) w0
 unfold green_areElements at H
 replace h_t := h_t.ch (Ch.start A w0)
 refine Go1.seq ?_
 refine Go1.region ?_
 refine GoR.op ((op_assign rfl) _) rfl rfl ?_
 refine GoR.nil ?_
 refine Go1.seq ?_
 refine Go1.region ?_
 refine GoR.op ((op_move rfl) _) rfl rfl ?_
 refine GoR.op ((op_move rfl) _) rfl rfl ?_
 by_cases h1 : y < x
 ·replace H := ifp h1 H
  refine GoR.op ((op_minT rfl rfl h1) _) rfl rfl ?_
  by_cases h2 : (0 : Int) ≤ y
  ·replace H := ifp h2 H
   refine GoR.op ((fun w => opB (op_geq rfl rfl w) (decide_eq_true h2)) _) rfl rfl ?_
   refine GoR.op ((op_move rfl) _) rfl rfl ?_
   refine GoR.op ((op_move rfl) _) rfl rfl ?_
   refine GoR.op ((op_move rfl) _) rfl rfl ?_
   by_cases h3 : x < y
   ·replace H := ifp h3 H
    refine GoR.op ((op_maxT rfl rfl h3) _) rfl rfl ?_
    refine GoR.op ((op_move rfl) _) rfl rfl ?_
    refine GoR.op ((op_len Try.underlying22 rfl) _) rfl rfl ?_
    replace H := H h_t.bd
    by_cases h4 : y < (t.length : Int)
    ·replace H := ifp h4 H
     refine GoR.op ((fun w => opB (op_lss rfl rfl w) (decide_eq_true h4)) _) rfl rfl ?_
     refine GoR.op ((op_pickT rfl rfl rfl) _) rfl rfl ?_
     refine GoR.op ((op_move rfl) _) rfl rfl ?_
     refine GoR.op ((op_move rfl) _) rfl rfl ?_
     refine GoR.call (op_call body45 rfl (walk_mult_Validate hO.lt h_t H)) rfl rfl ?_
     rintro v9 w6 ⟨r5, rfl, hs7, H⟩
     have hst10 := Stp.same hO hs7
     replace hO := hst10.own
     replace h_t := h_t.ch hst10.ch
     replace hB := hB.trans hst10.fr
     by_cases h11 : r5 = (0 : Int)
     ·replace H := ifp h11 H
      refine GoR.op ((fun w => opB (op_eql rfl rfl w) (decide_eq_true h11)) _) rfl rfl ?_
      refine GoR.op ((op_pickT rfl rfl rfl) _) rfl rfl ?_
      refine GoR.op ((op_assign rfl) _) rfl rfl ?_
      refine GoR.nil ?_
      refine Go1.ret1 Try.func60 rfl ?_
      exact ⟨true, rfl, hB.same, H⟩
     ·replace H := ifn h11 H
      refine GoR.op ((fun w => opB (op_eql rfl rfl w) (decide_eq_false h11)) _) rfl rfl ?_
      refine GoR.op ((op_pickT rfl rfl rfl) _) rfl rfl ?_
      refine GoR.op ((op_assign rfl) _) rfl rfl ?_
      refine GoR.nil ?_
      refine Go1.ret1 Try.func60 rfl ?_
      exact ⟨false, rfl, hB.same, H⟩
    ·replace H := ifn h4 H
     refine GoR.op ((fun w => opB (op_lss rfl rfl w) (decide_eq_false h4)) _) rfl rfl ?_
     refine GoR.op ((op_pickT rfl rfl rfl) _) rfl rfl ?_
     refine GoR.op ((op_move rfl) _) rfl rfl ?_
     refine GoR.pass rfl rfl ?_
     refine GoR.pass rfl rfl ?_
     refine GoR.pass rfl rfl ?_
     refine GoR.op ((op_pickF rfl rfl rfl) _) rfl rfl ?_
     refine GoR.op ((op_assign rfl) _) rfl rfl ?_
     refine GoR.nil ?_
     refine Go1.ret1 Try.func60 rfl ?_
     exact ⟨false, rfl, hB.same, H⟩
   ·replace H := ifn h3 H
    refine GoR.op ((op_maxF rfl rfl h3) _) rfl rfl ?_
    refine GoR.op ((op_move rfl) _) rfl rfl ?_
    refine GoR.op ((op_len Try.underlying22 rfl) _) rfl rfl ?_
    replace H := H h_t.bd
    by_cases h12 : x < (t.length : Int)
    ·replace H := ifp h12 H
     refine GoR.op ((fun w => opB (op_lss rfl rfl w) (decide_eq_true h12)) _) rfl rfl ?_
     refine GoR.op ((op_pickT rfl rfl rfl) _) rfl rfl ?_
     refine GoR.op ((op_move rfl) _) rfl rfl ?_
     refine GoR.op ((op_move rfl) _) rfl rfl ?_
     refine GoR.call (op_call body45 rfl (walk_mult_Validate hO.lt h_t H)) rfl rfl ?_
     rintro v17 w14 ⟨r13, rfl, hs15, H⟩
     have hst18 := Stp.same hO hs15
     replace hO := hst18.own
     replace h_t := h_t.ch hst18.ch
     replace hB := hB.trans hst18.fr
     by_cases h19 : r13 = (0 : Int)
     ·replace H := ifp h19 H
      refine GoR.op ((fun w => opB (op_eql rfl rfl w) (decide_eq_true h19)) _) rfl rfl ?_
      refine GoR.op ((op_pickT rfl rfl rfl) _) rfl rfl ?_
      refine GoR.op ((op_assign rfl) _) rfl rfl ?_
      refine GoR.nil ?_
      refine Go1.ret1 Try.func60 rfl ?_
      exact ⟨true, rfl, hB.same, H⟩
     ·replace H := ifn h19 H
      refine GoR.op ((fun w => opB (op_eql rfl rfl w) (decide_eq_false h19)) _) rfl rfl ?_
      refine GoR.op ((op_pickT rfl rfl rfl) _) rfl rfl ?_
      refine GoR.op ((op_assign rfl) _) rfl rfl ?_
      refine GoR.nil ?_
      refine Go1.ret1 Try.func60 rfl ?_
      exact ⟨false, rfl, hB.same, H⟩
    ·replace H := ifn h12 H
     refine GoR.op ((fun w => opB (op_lss rfl rfl w) (decide_eq_false h12)) _) rfl rfl ?_
     refine GoR.op ((op_pickT rfl rfl rfl) _) rfl rfl ?_
     refine GoR.op ((op_move rfl) _) rfl rfl ?_
     refine GoR.pass rfl rfl ?_
     refine GoR.pass rfl rfl ?_
     refine GoR.pass rfl rfl ?_
     refine GoR.op ((op_pickF rfl rfl rfl) _) rfl rfl ?_
     refine GoR.op ((op_assign rfl) _) rfl rfl ?_
     refine GoR.nil ?_
     refine Go1.ret1 Try.func60 rfl ?_
     exact ⟨false, rfl, hB.same, H⟩
  ·replace H := ifn h2 H
   refine GoR.op ((fun w => opB (op_geq rfl rfl w) (decide_eq_false h2)) _) rfl rfl ?_
   refine GoR.op ((op_move rfl) _) rfl rfl ?_
   refine GoR.pass rfl rfl ?_
   refine GoR.pass rfl rfl ?_
   refine GoR.pass rfl rfl ?_
   refine GoR.pass rfl rfl ?_
   refine GoR.pass rfl rfl ?_
   refine GoR.pass rfl rfl ?_
   refine GoR.op ((op_pickF rfl rfl rfl) _) rfl rfl ?_
   refine GoR.op ((op_move rfl) _) rfl rfl ?_
   refine GoR.pass rfl rfl ?_
   refine GoR.pass rfl rfl ?_
   refine GoR.pass rfl rfl ?_
   refine GoR.op ((op_pickF rfl rfl rfl) _) rfl rfl ?_
   refine GoR.op ((op_assign rfl) _) rfl rfl ?_
   refine GoR.nil ?_
   refine Go1.ret1 Try.func60 rfl ?_
   exact ⟨false, rfl, hB.same, H⟩
 ·replace H := ifn h1 H
  refine GoR.op ((op_minF rfl rfl h1) _) rfl rfl ?_
  by_cases h20 : (0 : Int) ≤ x
  ·replace H := ifp h20 H
   refine GoR.op ((fun w => opB (op_geq rfl rfl w) (decide_eq_true h20)) _) rfl rfl ?_
   refine GoR.op ((op_move rfl) _) rfl rfl ?_
   refine GoR.op ((op_move rfl) _) rfl rfl ?_
   refine GoR.op ((op_move rfl) _) rfl rfl ?_
   by_cases h21 : x < y
   ·replace H := ifp h21 H
    refine GoR.op ((op_maxT rfl rfl h21) _) rfl rfl ?_
    refine GoR.op ((op_move rfl) _) rfl rfl ?_
    refine GoR.op ((op_len Try.underlying22 rfl) _) rfl rfl ?_
    replace H := H h_t.bd
    by_cases h22 : y < (t.length : Int)
    ·replace H := ifp h22 H
     refine GoR.op ((fun w => opB (op_lss rfl rfl w) (decide_eq_true h22)) _) rfl rfl ?_
     refine GoR.op ((op_pickT rfl rfl rfl) _) rfl rfl ?_
     refine GoR.op ((op_move rfl) _) rfl rfl ?_
     refine GoR.op ((op_move rfl) _) rfl rfl ?_
     refine GoR.call (op_call body45 rfl (walk_mult_Validate hO.lt h_t H)) rfl rfl ?_
     rintro v27 w24 ⟨r23, rfl, hs25, H⟩
     have hst28 := Stp.same hO hs25
     replace hO := hst28.own
     replace h_t := h_t.ch hst28.ch
     replace hB := hB.trans hst28.fr
     by_cases h29 : r23 = (0 : Int)
     ·replace H := ifp h29 H
      refine GoR.op ((fun w => opB (op_eql rfl rfl w) (decide_eq_true h29)) _) rfl rfl ?_
      refine GoR.op ((op_pickT rfl rfl rfl) _) rfl rfl ?_
      refine GoR.op ((op_assign rfl) _) rfl rfl ?_
      refine GoR.nil ?_
      refine Go1.ret1 Try.func60 rfl ?_
      exact ⟨true, rfl, hB.same, H⟩
     ·replace H := ifn h29 H
      refine GoR.op ((fun w => opB (op_eql rfl rfl w) (decide_eq_false h29)) _) rfl rfl ?_
      refine GoR.op ((op_pickT rfl rfl rfl) _) rfl rfl ?_
      refine GoR.op ((op_assign rfl) _) rfl rfl ?_
      refine GoR.nil ?_
      refine Go1.ret1 Try.func60 rfl ?_
      exact ⟨false, rfl, hB.same, H⟩
    ·replace H := ifn h22 H
     refine GoR.op ((fun w => opB (op_lss rfl rfl w) (decide_eq_false h22)) _) rfl rfl ?_
     refine GoR.op ((op_pickT rfl rfl rfl) _) rfl rfl ?_
     refine GoR.op ((op_move rfl) _) rfl rfl ?_
     refine GoR.pass rfl rfl ?_
     refine GoR.pass rfl rfl ?_
     refine GoR.pass rfl rfl ?_
     refine GoR.op ((op_pickF rfl rfl rfl) _) rfl rfl ?_
     refine GoR.op ((op_assign rfl) _) rfl rfl ?_
     refine GoR.nil ?_
     refine Go1.ret1 Try.func60 rfl ?_
     exact ⟨false, rfl, hB.same, H⟩
   ·replace H := ifn h21 H
    refine GoR.op ((op_maxF rfl rfl h21) _) rfl rfl ?_
    refine GoR.op ((op_move rfl) _) rfl rfl ?_
    refine GoR.op ((op_len Try.underlying22 rfl) _) rfl rfl ?_
    replace H := H h_t.bd
    by_cases h30 : x < (t.length : Int)
    ·replace H := ifp h30 H
     refine GoR.op ((fun w => opB (op_lss rfl rfl w) (decide_eq_true h30)) _) rfl rfl ?_
     refine GoR.op ((op_pickT rfl rfl rfl) _) rfl rfl ?_
     refine GoR.op ((op_move rfl) _) rfl rfl ?_
     refine GoR.op ((op_move rfl) _) rfl rfl ?_
     refine GoR.call (op_call body45 rfl (walk_mult_Validate hO.lt h_t H)) rfl rfl ?_
     rintro v35 w32 ⟨r31, rfl, hs33, H⟩
     have hst36 := Stp.same hO hs33
     replace hO := hst36.own
     replace h_t := h_t.ch hst36.ch
     replace hB := hB.trans hst36.fr
     by_cases h37 : r31 = (0 : Int)
     ·replace H := ifp h37 H
      refine GoR.op ((fun w => opB (op_eql rfl rfl w) (decide_eq_true h37)) _) rfl rfl ?_
      refine GoR.op ((op_pickT rfl rfl rfl) _) rfl rfl ?_
      refine GoR.op ((op_assign rfl) _) rfl rfl ?_
      refine GoR.nil ?_
      refine Go1.ret1 Try.func60 rfl ?_
      exact ⟨true, rfl, hB.same, H⟩
     ·replace H := ifn h37 H
      refine GoR.op ((fun w => opB (op_eql rfl rfl w) (decide_eq_false h37)) _) rfl rfl ?_
      refine GoR.op ((op_pickT rfl rfl rfl) _) rfl rfl ?_
      refine GoR.op ((op_assign rfl) _) rfl rfl ?_
      refine GoR.nil ?_
      refine Go1.ret1 Try.func60 rfl ?_
      exact ⟨false, rfl, hB.same, H⟩
    ·replace H := ifn h30 H
     refine GoR.op ((fun w => opB (op_lss rfl rfl w) (decide_eq_false h30)) _) rfl rfl ?_
     refine GoR.op ((op_pickT rfl rfl rfl) _) rfl rfl ?_
     refine GoR.op ((op_move rfl) _) rfl rfl ?_
     refine GoR.pass rfl rfl ?_
     refine GoR.pass rfl rfl ?_
     refine GoR.pass rfl rfl ?_
     refine GoR.op ((op_pickF rfl rfl rfl) _) rfl rfl ?_
     refine GoR.op ((op_assign rfl) _) rfl rfl ?_
     refine GoR.nil ?_
     refine Go1.ret1 Try.func60 rfl ?_
     exact ⟨false, rfl, hB.same, H⟩
  ·replace H := ifn h20 H
   refine GoR.op ((fun w => opB (op_geq rfl rfl w) (decide_eq_false h20)) _) rfl rfl ?_
   refine GoR.op ((op_move rfl) _) rfl rfl ?_
   refine GoR.pass rfl rfl ?_
   refine GoR.pass rfl rfl ?_
   refine GoR.pass rfl rfl ?_
   refine GoR.pass rfl rfl ?_
   refine GoR.pass rfl rfl ?_
   refine GoR.pass rfl rfl ?_
   refine GoR.op ((op_pickF rfl rfl rfl) _) rfl rfl ?_
   refine GoR.op ((op_move rfl) _) rfl rfl ?_
   refine GoR.pass rfl rfl ?_
   refine GoR.pass rfl rfl ?_
   refine GoR.pass rfl rfl ?_
   refine GoR.op ((op_pickF rfl rfl rfl) _) rfl rfl ?_
   refine GoR.op ((op_assign rfl) _) rfl rfl ?_
   refine GoR.nil ?_
   refine Go1.ret1 Try.func60 rfl ?_
   exact ⟨false, rfl, hB.same, H⟩
theorem body26 : Body Try.prog 26 := ⟨Try.f26, Try.func26, rfl, by kernel_rfl⟩
theorem walk_green_LeqR {A : List Nat} {w0 : World} {p_t : Option Addr} {c_t : Nat} {t : List (List Int)} {x : Int} {y : Int} (hA : ∀ b ∈ A, b < w0.heap.size) (h_t : ISl (Rp.sl (Rp.int .i64)) A w0 p_t c_t t) {K : Bool → Prop} (H : green_LeqR t x y K) :
    CallsV Try.prog 26 #[.slice p_t t.length c_t, .int .i64 x, .int .i64 y] w0 (fun v w' => ∃ (r0 : Bool), v = .bool r0 ∧ Same w0 w' ∧ K r0) := by
 refine CallsV.of (l := [.slice p_t t.length c_t, .int .i64 x, .int .i64 y]) Try.func26 rfl Try.ntmps26 rfl ?_
 have hO := Owns.start hA
 have hB := Fr.refl (bl []) w0
 unfold green_LeqR at H
 replace h_t := h_t.ch (Ch.start A w0)
 refine Go1.seq ?_
 refine Go1.region ?_
 refine GoR.op ((op_assign rfl) _) rfl rfl ?_
 refine GoR.nil ?_
 refine Go1.seq ?_
 refine Go1.region ?_
 refine GoR.op ((op_move rfl) _) rfl rfl ?_
 refine GoR.op ((op_move rfl) _) rfl rfl ?_
 refine GoR.op ((op_move rfl) _) rfl rfl ?_
 refine GoR.call (op_call body60 rfl (walk_green_areElements hO.lt h_t H)) rfl rfl ?_
 rintro v5 w2 ⟨r1, rfl, hs3, H⟩
 have hst6 := Stp.same hO hs3
 replace hO := hst6.own
 replace h_t := h_t.ch hst6.ch
 replace hB := hB.trans hst6.fr
 refine GoR.op ((op_move rfl) _) rfl rfl ?_
 cases r1
 ·replace H := ifn Bool.false_ne_true H
  refine GoR.pass rfl rfl ?_
  refine GoR.pass rfl rfl ?_
  refine GoR.pass rfl rfl ?_
  refine GoR.pass rfl rfl ?_
  refine GoR.pass rfl rfl ?_
  refine GoR.pass rfl rfl ?_
  refine GoR.pass rfl rfl ?_
  refine GoR.op ((op_pickF rfl rfl rfl) _) rfl rfl ?_
  refine GoR.op ((op_assign rfl) _) rfl rfl ?_
  refine GoR.nil ?_
  refine Go1.ret1 Try.func26 rfl ?_
  exact ⟨false, rfl, hB.same, H⟩
 ·replace H := ifp rfl H
  refine GoR.op ((op_move rfl) _) rfl rfl ?_
  refine GoR.call (op_call body46 rfl (walk_green_rightIdeals hO.lt h_t H)) rfl rfl ?_
  rintro v11 w8 ⟨r7, p_r7, c_r7, rfl, hs9, h_r7, H⟩
  have hst12 := Stp.same hO hs9
  replace hO := hst12.own
  replace h_t := h_t.ch hst12.ch
  replace hB := hB.trans hst12.fr
  refine GoR.op ((op_move rfl) _) rfl rfl ?_
  obtain ⟨h13, H⟩ := H
  obtain ⟨h14, H⟩ := H
  refine GoR.op ((op_index Try.underlying56 ti62 rfl rfl h13 h14 (h_r7.some_ h13 h14)) _) rfl rfl ?_
  have hobt := ldSl h_r7 h13 h14
  obtain ⟨p15, c16, hi17, hl18⟩ := hobt
  refine GoR.op ((hl18 Try.underlying62 rfl rfl) _ (Same.refl _)) rfl rfl ?_
  refine GoR.op ((op_move rfl) _) rfl rfl ?_
  refine GoR.call (op_call body52 rfl (walk_green_ideal_has hO.lt hi17 H)) rfl rfl ?_
  rintro v23 w20 ⟨r19, rfl, hs21, H⟩
  have hst24 := Stp.same hO hs21
  replace hO := hst24.own
  replace h_t := h_t.ch hst24.ch
  replace h_r7 := h_r7.ch hst24.ch
  replace hi17 := hi17.ch hst24.ch
  replace hB := hB.trans hst24.fr
  refine GoR.op ((op_pickT rfl rfl rfl) _) rfl rfl ?_
  refine GoR.op ((op_assign rfl) _) rfl rfl ?_
  refine GoR.nil ?_
  refine Go1.ret1 Try.func26 rfl ?_
  exact ⟨r19, rfl, hB.same, H⟩
theorem body27 : Body Try.prog 27 := ⟨Try.f27, Try.func27, rfl, by kernel_rfl⟩
theorem walk_green_LeqL {A : List Nat} {w0 : World} {p_t : Option Addr} {c_t : Nat} {t : List (List Int)} {x : Int} {y : Int} (hA : ∀ b ∈ A, b < w0.heap.size) (h_t : ISl (Rp.sl (Rp.int .i64)) A w0 p_t c_t t) {K : Bool → Prop} (H : green_LeqL t x y K) :
    CallsV Try.prog 27 #[.slice p_t t.length c_t, .int .i64 x, .int .i64 y] w0 (fun v w' => ∃ (r0 : Bool), v = .bool r0 ∧ Same w0 w' ∧ K r0) := by
 refine CallsV.of (l := [.slice p_t t.length c_t, .int .i64 x, .int .i64 y]) Try.func27 rfl Try.ntmps27 rfl ?_
 have hO := Owns.start hA
 have hB := Fr.refl (bl []) w0
 unfold green_LeqL at H
 replace h_t := h_t.ch (Ch.start A w0)
 refine Go1.seq ?_
 refine Go1.region ?_
 refine GoR.op ((op_assign rfl) _) rfl rfl ?_
 refine GoR.nil ?_
 refine Go1.seq ?_
 refine Go1.region ?_
 refine GoR.op ((op_move rfl) _) rfl rfl ?_
 refine GoR.op ((op_move rfl) _) rfl rfl ?_
 refine GoR.op ((op_move rfl) _) rfl rfl ?_
 refine GoR.call (op_call body60 rfl (walk_green_areElements hO.lt h_t H)) rfl rfl ?_
 rintro v5 w2 ⟨r1, rfl, hs3, H⟩
 have hst6 := Stp.same hO hs3
 replace hO := hst6.own
 replace h_t := h_t.ch hst6.ch
 replace hB := hB.trans hst6.fr
 refine GoR.op ((op_move rfl) _) rfl rfl ?_
 cases r1
 ·replace H := ifn Bool.false_ne_true H
  refine GoR.pass rfl rfl ?_
  refine GoR.pass rfl rfl ?_
  refine GoR.pass rfl rfl ?_
  refine GoR.pass rfl rfl ?_
  refine GoR.pass rfl rfl ?_
  refine GoR.pass rfl rfl ?_
  refine GoR.pass rfl rfl ?_
  refine GoR.op ((op_pickF rfl rfl rfl) _) rfl rfl ?_
  refine GoR.op ((op_assign rfl) _) rfl rfl ?_
  refine GoR.nil ?_
  refine Go1.ret1 Try.func27 rfl ?_
  exact ⟨false, rfl, hB.same, H⟩
 ·replace H := ifp rfl H
  refine GoR.op ((op_move rfl) _) rfl rfl ?_
  refine GoR.call (op_call body47 rfl (walk_green_leftIdeals hO.lt h_t H)) rfl rfl ?_
  rintro v11 w8 ⟨r7, p_r7, c_r7, rfl, hs9, h_r7, H⟩
  have hst12 := Stp.same hO hs9
  replace hO := hst12.own
  replace h_t := h_t.ch hst12.ch
  replace hB := hB.trans hst12.fr
  refine GoR.op ((op_move rfl) _) rfl rfl ?_
  obtain ⟨h13, H⟩ := H
  obtain ⟨h14, H⟩ := H
  refine GoR.op ((op_index Try.underlying56 ti62 rfl rfl h13 h14 (h_r7.some_ h13 h14)) _) rfl rfl ?_
  have hobt := ldSl h_r7 h13 h14
  obtain ⟨p15, c16, hi17, hl18⟩ := hobt
  refine GoR.op ((hl18 Try.underlying62 rfl rfl) _ (Same.refl _)) rfl rfl ?_
  refine GoR.op ((op_move rfl) _) rfl rfl ?_
  refine GoR.call (op_call body52 rfl (walk_green_ideal_has hO.lt hi17 H)) rfl rfl ?_
  rintro v23 w20 ⟨r19, rfl, hs21, H⟩
  have hst24 := Stp.same hO hs21
  replace hO := hst24.own
  replace h_t := h_t.ch hst24.ch
  replace h_r7 := h_r7.ch hst24.ch
  replace hi17 := hi17.ch hst24.ch
  replace hB := hB.trans hst24.fr
  refine GoR.op ((op_pickT rfl rfl rfl) _) rfl rfl ?_
  refine GoR.op ((op_assign rfl) _) rfl rfl ?_
  refine GoR.nil ?_
  refine Go1.ret1 Try.func27 rfl ?_
  exact ⟨r19, rfl, hB.same, H⟩
theorem body28 : Body Try.prog 28 := ⟨Try.f28, Try.func28, rfl, by kernel_rfl⟩
theorem walk_green_LeqJ {A : List Nat} {w0 : World} {p_t : Option Addr} {c_t : Nat} {t : List (List Int)} {x : Int} {y : Int} (hA : ∀ b ∈ A, b < w0.heap.size) (h_t : ISl (Rp.sl (Rp.int .i64)) A w0 p_t c_t t) {K : Bool → Prop} (H : green_LeqJ t x y K) :
    CallsV Try.prog 28 #[.slice p_t t.length c_t, .int .i64 x, .int .i64 y] w0 (fun v w' => ∃ (r0 : Bool), v = .bool r0 ∧ Same w0 w' ∧ K r0) := by
 refine CallsV.of (l := [.slice p_t t.length c_t, .int .i64 x, .int .i64 y]) Try.func28 rfl Try.ntmps28 rfl ?_
 have hO := Owns.start hA
 have hB := Fr.refl (bl []) w0
 unfold green_LeqJ at H
 replace h_t := h_t.ch (Ch.start A w0)
 refine Go1.seq ?_
 refine Go1.region ?_
 refine GoR.op ((op_assign rfl) _) rfl rfl ?_
 refine GoR.nil ?_
 refine Go1.seq ?_
 refine Go1.region ?_
 refine GoR.op ((op_move rfl) _) rfl rfl ?_
 refine GoR.op ((op_move rfl) _) rfl rfl ?_
 refine GoR.op ((op_move rfl) _) rfl rfl ?_
 refine GoR.call (op_call body60 rfl (walk_green_areElements hO.lt h_t H)) rfl rfl ?_
 rintro v5 w2 ⟨r1, rfl, hs3, H⟩
 have hst6 := Stp.same hO hs3
 replace hO := hst6.own
 replace h_t := h_t.ch hst6.ch
 replace hB := hB.trans hst6.fr
 refine GoR.op ((op_move rfl) _) rfl rfl ?_
 cases r1
 ·replace H := ifn Bool.false_ne_true H
  refine GoR.pass rfl rfl ?_
  refine GoR.pass rfl rfl ?_
  refine GoR.pass rfl rfl ?_
  refine GoR.pass rfl rfl ?_
  refine GoR.pass rfl rfl ?_
  refine GoR.pass rfl rfl ?_
  refine GoR.pass rfl rfl ?_
  refine GoR.pass rfl rfl ?_
  refine GoR.pass rfl rfl ?_
  refine GoR.pass rfl rfl ?_
  refine GoR.op ((op_pickF rfl rfl rfl) _) rfl rfl ?_
  refine GoR.op ((op_assign rfl) _) rfl rfl ?_
  refine GoR.nil ?_
  refine Go1.ret1 Try.func28 rfl ?_
  exact ⟨false, rfl, hB.same, H⟩
 ·replace H := ifp rfl H
  refine GoR.op ((op_move rfl) _) rfl rfl ?_
  refine GoR.call (op_call body46 rfl (walk_green_rightIdeals hO.lt h_t H)) rfl rfl ?_
  rintro v11 w8 ⟨r7, p_r7, c_r7, rfl, hs9, h_r7, H⟩
  have hst12 := Stp.same hO hs9
  replace hO := hst12.own
  replace h_t := h_t.ch hst12.ch
  replace hB := hB.trans hst12.fr
  refine GoR.op ((op_move rfl) _) rfl rfl ?_
  refine GoR.call (op_call body47 rfl (walk_green_leftIdeals hO.lt h_t H)) rfl rfl ?_
  rintro v17 w14 ⟨r13, p_r13, c_r13, rfl, hs15, h_r13, H⟩
  have hst18 := Stp.same hO hs15
  replace hO := hst18.own
  replace h_t := h_t.ch hst18.ch
  replace h_r7 := h_r7.ch hst18.ch
  replace hB := hB.trans hst18.fr
  refine GoR.call (op_call body48 rfl (walk_green_twoSided hO.lt h_r7 h_r13 H)) rfl rfl ?_
  rintro v23 w20 ⟨r19, p_r19, c_r19, rfl, hs21, h_r19, H⟩
  have hst24 := Stp.same hO hs21
  replace hO := hst24.own
  replace h_t := h_t.ch hst24.ch
  replace h_r7 := h_r7.ch hst24.ch
  replace h_r13 := h_r13.ch hst24.ch
  replace hB := hB.trans hst24.fr
  refine GoR.op ((op_move rfl) _) rfl rfl ?_
  obtain ⟨h25, H⟩ := H
  obtain ⟨h26, H⟩ := H
  refine GoR.op ((op_index Try.underlying56 ti62 rfl rfl h25 h26 (h_r19.some_ h25 h26)) _) rfl rfl ?_
  have hobt := ldSl h_r19 h25 h26
  obtain ⟨p27, c28, hi29, hl30⟩ := hobt
  refine GoR.op ((hl30 Try.underlying62 rfl rfl) _ (Same.refl _)) rfl rfl ?_
  refine GoR.op ((op_move rfl) _) rfl rfl ?_
  refine GoR.call (op_call body52 rfl (walk_green_ideal_has hO.lt hi29 H)) rfl rfl ?_
  rintro v35 w32 ⟨r31, rfl, hs33, H⟩
  have hst36 := Stp.same hO hs33
  replace hO := hst36.own
  replace h_t := h_t.ch hst36.ch
  replace h_r7 := h_r7.ch hst36.ch
  replace h_r13 := h_r13.ch hst36.ch
  replace h_r19 := h_r19.ch hst36.ch
  replace hi29 := hi29.ch hst36.ch
  replace hB := hB.trans hst36.fr
  refine GoR.op ((op_pickT rfl rfl rfl) _) rfl rfl ?_
  refine GoR.op ((op_assign rfl) _) rfl rfl ?_
  refine GoR.nil ?_
  refine Go1.ret1 Try.func28 rfl ?_
  exact ⟨r31, rfl, hB.same, H⟩
theorem body6 : Body Try.prog 6 := ⟨Try.f6, Try.func6, rfl, by kernel_rfl⟩
theorem walk_law15_GreenBelow {A : List Nat} {w0 : World} {p_a0 : Option Addr} {c_a0 : Nat} {a0 : List (List Int)} {a1 : Int} {a2 : Int} (hA : ∀ b ∈ A, b < w0.heap.size) (h_a0 : ISl (Rp.sl (Rp.int .i64)) A w0 p_a0 c_a0 a0) {K : Bool → Prop} (H : law15_GreenBelow a0 a1 a2 K) :
    CallsV Try.prog 6 #[.slice p_a0 a0.length c_a0, .int .i64 a1, .int .i64 a2] w0 (fun v w' => ∃ (r0 : Bool), v = .bool r0 ∧ Same w0 w' ∧ K r0) := by
 refine CallsV.of (l := [.slice p_a0 a0.length c_a0, .int .i64 a1, .int .i64 a2]) Try.func6 rfl Try.ntmps6 rfl ?_
 have hO := Owns.start hA
 have hB := Fr.refl (bl []) w0
 unfold law15_GreenBelow at H
 replace h_a0 := h_a0.ch (Ch.start A w0)
 refine Go1.seq ?_
 refine Go1.region ?_
 refine GoR.op ((op_assign rfl) _) rfl rfl ?_
 refine GoR.nil ?_
 refine Go1.seq ?_
 refine Go1.seq ?_
 refine Go1.region ?_
 refine GoR.op ((op_move rfl) _) rfl rfl ?_
 refine GoR.call (op_call body13 rfl (walk_law15_large hO.lt h_a0 H)) rfl rfl ?_
 rintro v5 w2 ⟨r1, rfl, hs3, H⟩
 have hst6 := Stp.same hO hs3
 replace hO := hst6.own
 replace h_a0 := h_a0.ch hst6.ch
 replace hB := hB.trans hst6.fr
 refine GoR.nil ?_
 cases r1
 ·replace H := ifn Bool.false_ne_true H
  refine Go1.condF rfl rfl ?_
  refine Go1.skip ?_
  refine Go1.seq ?_
  refine Go1.region ?_
  refine GoR.op ((op_move rfl) _) rfl rfl ?_
  refine GoR.op ((op_move rfl) _) rfl rfl ?_
  refine GoR.op ((op_move rfl) _) rfl rfl ?_
  refine GoR.call (op_call body26 rfl (walk_green_LeqR hO.lt h_a0 H)) rfl rfl ?_
  rintro v11 w8 ⟨r7, rfl, hs9, H⟩
  have hst12 := Stp.same hO hs9
  replace hO := hst12.own
  replace h_a0 := h_a0.ch hst12.ch
  replace hB := hB.trans hst12.fr
  refine GoR.op ((op_move rfl) _) rfl rfl ?_
  refine GoR.op ((op_move rfl) _) rfl rfl ?_
  refine GoR.op ((op_move rfl) _) rfl rfl ?_
  refine GoR.call (op_call body27 rfl (walk_green_LeqL hO.lt h_a0 H)) rfl rfl ?_
  rintro v17 w14 ⟨r13, rfl, hs15, H⟩
  have hst18 := Stp.same hO hs15
  replace hO := hst18.own
  replace h_a0 := h_a0.ch hst18.ch
  replace hB := hB.trans hst18.fr
  refine GoR.op ((op_move rfl) _) rfl rfl ?_
  refine GoR.op ((op_move rfl) _) rfl rfl ?_
  refine GoR.op ((op_move rfl) _) rfl rfl ?_
  refine GoR.call (op_call body28 rfl (walk_green_LeqJ hO.lt h_a0 H)) rfl rfl ?_
  rintro v23 w20 ⟨r19, rfl, hs21, H⟩
  have hst24 := Stp.same hO hs21
  replace hO := hst24.own
  replace h_a0 := h_a0.ch hst24.ch
  replace hB := hB.trans hst24.fr
  refine GoR.op ((op_assign rfl) _) rfl rfl ?_
  refine GoR.op ((op_assign rfl) _) rfl rfl ?_
  refine GoR.op ((op_assign rfl) _) rfl rfl ?_
  refine GoR.nil ?_
  refine Go1.seq ?_
  refine Go1.seq ?_
  refine Go1.region ?_
  refine GoR.op ((op_move rfl) _) rfl rfl ?_
  refine GoR.call (op_call body16 rfl (walk_ref14_Valid hO.lt h_a0 H)) rfl rfl ?_
  rintro v29 w26 ⟨r25, rfl, hs27, H⟩
  have hst30 := Stp.same hO hs27
  replace hO := hst30.own
  replace h_a0 := h_a0.ch hst30.ch
  replace hB := hB.trans hst30.fr
  cases r25
  ·replace H := ifn Bool.false_ne_true H
   refine GoR.op ((op_not rfl) _) rfl rfl ?_
   refine GoR.op ((op_move rfl) _) rfl rfl ?_
   refine GoR.pass rfl rfl ?_
   refine GoR.pass rfl rfl ?_
   refine GoR.pass rfl rfl ?_
   refine GoR.pass rfl rfl ?_
   refine GoR.pass rfl rfl ?_
   refine GoR.pass rfl rfl ?_
   refine GoR.op ((op_pickT rfl rfl rfl) _) rfl rfl ?_
   refine GoR.nil ?_
   refine Go1.condT rfl rfl ?_
   refine Go1.seq ?_
   refine Go1.region ?_
   refine GoR.op ((op_move rfl) _) rfl rfl ?_
   cases r7
   ·replace H := ifn Bool.false_ne_true H
    refine GoR.op ((op_not rfl) _) rfl rfl ?_
    refine GoR.op ((op_move rfl) _) rfl rfl ?_
    refine GoR.op ((op_move rfl) _) rfl rfl ?_
    cases r13
    ·replace H := ifn Bool.false_ne_true H
     refine GoR.op ((op_not rfl) _) rfl rfl ?_
     refine GoR.op ((op_pickT rfl rfl rfl) _) rfl rfl ?_
     refine GoR.op ((op_move rfl) _) rfl rfl ?_
     refine GoR.op ((op_move rfl) _) rfl rfl ?_
     cases r19
     ·replace H := ifn Bool.false_ne_true H
      refine GoR.op ((op_not rfl) _) rfl rfl ?_
      refine GoR.op ((op_pickT rfl rfl rfl) _) rfl rfl ?_
      refine GoR.op ((op_move rfl) _) rfl rfl ?_
      refine GoR.call (op_call body14 rfl (walk_law15_awake hO.lt H)) rfl rfl ?_
      rintro v35 w32 ⟨r31, rfl, hs33, H⟩
      have hst36 := Stp.same hO hs33
      replace hO := hst36.own
      replace h_a0 := h_a0.ch hst36.ch
      replace hB := hB.trans hst36.fr
      refine GoR.op ((op_pickT rfl rfl rfl) _) rfl rfl ?_
      refine GoR.op ((op_assign rfl) _) rfl rfl ?_
      refine GoR.nil ?_
      refine Go1.ret1 Try.func6 rfl ?_
      exact ⟨r31, rfl, hB.same, H⟩
     ·replace H := ifp rfl H
      refine GoR.op ((op_not rfl) _) rfl rfl ?_
      refine GoR.op ((op_pickT rfl rfl rfl) _) rfl rfl ?_
      refine GoR.op ((op_move rfl) _) rfl rfl ?_
      refine GoR.pass rfl rfl ?_
      refine GoR.op ((op_pickF rfl rfl rfl) _) rfl rfl ?_
      refine GoR.op ((op_assign rfl) _) rfl rfl ?_
      refine GoR.nil ?_
      refine Go1.ret1 Try.func6 rfl ?_
      exact ⟨false, rfl, hB.same, H⟩
    ·replace H := ifp rfl H
     refine GoR.op ((op_not rfl) _) rfl rfl ?_
     refine GoR.op ((op_pickT rfl rfl rfl) _) rfl rfl ?_
     refine GoR.op ((op_move rfl) _) rfl rfl ?_
     refine GoR.pass rfl rfl ?_
     refine GoR.pass rfl rfl ?_
     refine GoR.op ((op_pickF rfl rfl rfl) _) rfl rfl ?_
     refine GoR.op ((op_move rfl) _) rfl rfl ?_
     refine GoR.pass rfl rfl ?_
     refine GoR.op ((op_pickF rfl rfl rfl) _) rfl rfl ?_
     refine GoR.op ((op_assign rfl) _) rfl rfl ?_
     refine GoR.nil ?_
     refine Go1.ret1 Try.func6 rfl ?_
     exact ⟨false, rfl, hB.same, H⟩
   ·replace H := ifp rfl H
    refine GoR.op ((op_not rfl) _) rfl rfl ?_
    refine GoR.op ((op_move rfl) _) rfl rfl ?_
    refine GoR.pass rfl rfl ?_
    refine GoR.pass rfl rfl ?_
    refine GoR.op ((op_pickF rfl rfl rfl) _) rfl rfl ?_
    refine GoR.op ((op_move rfl) _) rfl rfl ?_
    refine GoR.pass rfl rfl ?_
    refine GoR.pass rfl rfl ?_
    refine GoR.op ((op_pickF rfl rfl rfl) _) rfl rfl ?_
    refine GoR.op ((op_move rfl) _) rfl rfl ?_
    refine GoR.pass rfl rfl ?_
    refine GoR.op ((op_pickF rfl rfl rfl) _) rfl rfl ?_
    refine GoR.op ((op_assign rfl) _) rfl rfl ?_
    refine GoR.nil ?_
    refine Go1.ret1 Try.func6 rfl ?_
    exact ⟨false, rfl, hB.same, H⟩
  ·replace H := ifp rfl H
   refine GoR.op ((op_not rfl) _) rfl rfl ?_
   refine GoR.op ((op_move rfl) _) rfl rfl ?_
   refine GoR.op ((op_move rfl) _) rfl rfl ?_
   refine GoR.op ((op_move rfl) _) rfl rfl ?_
   refine GoR.op ((op_move rfl) _) rfl rfl ?_
   have hobt := obuild (r := Rp.int .i64) (n := 2) (parts := [(0, .int .i64 a1), (1, .int .i64 a2)]) (vs := [.int .i64 a1, .int .i64 a2]) (xs := [a1, a2]) rfl Try.underlying25 ti3 hO (by decide) (by kernel_rfl) (Els.cons rfl rfl (Els.cons rfl rfl (Els.nil _ _ _) (by simp [mx])) (by simp [mx])) rfl
   obtain ⟨w37, p38, hst39, hE40, hs41, hop42⟩ := hobt
   refine GoR.op (hop42 rfl) rfl rfl ?_
   replace hO := hst39.own
   replace h_a0 := h_a0.ch hst39.ch
   replace hB := hB.trans hst39.fr
   have hobt := rowlend 0 hO rfl hE40
   obtain ⟨hl44, hn45⟩ := hobt
   have hOc46 := hO.drop 0
   refine GoR.call (op_call body20 (show ([.slice p_a0 a0.length c_a0, .slice p38 2 2] : List Value) = [.slice p_a0 a0.length c_a0, .slice p38 ([a1, a2]).length 2] from by rw [← hn45]) (walk_ref14_In hOc46.lt (h_a0.ch (Owns.dropCh _ _ 0)) hl44 H)) rfl rfl ?_
   rintro v51 w48 ⟨r47, rfl, hs49, H⟩
   have hst52 := Stp.same hO hs49
   replace hE40 := hE40.ch hst52.ch
   replace hO := hst52.own
   replace h_a0 := h_a0.ch hst52.ch
   replace hB := hB.trans hst52.fr
   cases r47
   ·replace H := ifn Bool.false_ne_true H
    refine GoR.op ((op_not rfl) _) rfl rfl ?_
    refine GoR.op ((op_pickF rfl rfl rfl) _) rfl rfl ?_
    refine GoR.nil ?_
    refine Go1.condT rfl rfl ?_
    refine Go1.seq ?_
    refine Go1.region ?_
    refine GoR.op ((op_move rfl) _) rfl rfl ?_
    cases r7
    ·replace H := ifn Bool.false_ne_true H
     refine GoR.op ((op_not rfl) _) rfl rfl ?_
     refine GoR.op ((op_move rfl) _) rfl rfl ?_
     refine GoR.op ((op_move rfl) _) rfl rfl ?_
     cases r13
     ·replace H := ifn Bool.false_ne_true H
      refine GoR.op ((op_not rfl) _) rfl rfl ?_
      refine GoR.op ((op_pickT rfl rfl rfl) _) rfl rfl ?_
      refine GoR.op ((op_move rfl) _) rfl rfl ?_
      refine GoR.op ((op_move rfl) _) rfl rfl ?_
      cases r19
      ·replace H := ifn Bool.false_ne_true H
       refine GoR.op ((op_not rfl) _) rfl rfl ?_
       refine GoR.op ((op_pickT rfl rfl rfl) _) rfl rfl ?_
       refine GoR.op ((op_move rfl) _) rfl rfl ?_
       refine GoR.call (op_call body14 rfl (walk_law15_awake hO.lt H)) rfl rfl ?_
       rintro v57 w54 ⟨r53, rfl, hs55, H⟩
       have hst58 := Stp.same hO hs55
       replace hE40 := hE40.ch hst58.ch
       replace hO := hst58.own
       replace h_a0 := h_a0.ch hst58.ch
       replace hB := hB.trans hst58.fr
       refine GoR.op ((op_pickT rfl rfl rfl) _) rfl rfl ?_
       refine GoR.op ((op_assign rfl) _) rfl rfl ?_
       refine GoR.nil ?_
       refine Go1.ret1 Try.func6 rfl ?_
       exact ⟨r53, rfl, hB.same, H⟩
      ·replace H := ifp rfl H
       refine GoR.op ((op_not rfl) _) rfl rfl ?_
       refine GoR.op ((op_pickT rfl rfl rfl) _) rfl rfl ?_
       refine GoR.op ((op_move rfl) _) rfl rfl ?_
       refine GoR.pass rfl rfl ?_
       refine GoR.op ((op_pickF rfl rfl rfl) _) rfl rfl ?_
       refine GoR.op ((op_assign rfl) _) rfl rfl ?_
       refine GoR.nil ?_
       refine Go1.ret1 Try.func6 rfl ?_
       exact ⟨false, rfl, hB.same, H⟩
     ·replace H := ifp rfl H
      refine GoR.op ((op_not rfl) _) rfl rfl ?_
      refine GoR.op ((op_pickT rfl rfl rfl) _) rfl rfl ?_
      refine GoR.op ((op_move rfl) _) rfl rfl ?_
      refine GoR.pass rfl rfl ?_
      refine GoR.pass rfl rfl ?_
      refine GoR.op ((op_pickF rfl rfl rfl) _) rfl rfl ?_
      refine GoR.op ((op_move rfl) _) rfl rfl ?_
      refine GoR.pass rfl rfl ?_
      refine GoR.op ((op_pickF rfl rfl rfl) _) rfl rfl ?_
      refine GoR.op ((op_assign rfl) _) rfl rfl ?_
      refine GoR.nil ?_
      refine Go1.ret1 Try.func6 rfl ?_
      exact ⟨false, rfl, hB.same, H⟩
    ·replace H := ifp rfl H
     refine GoR.op ((op_not rfl) _) rfl rfl ?_
     refine GoR.op ((op_move rfl) _) rfl rfl ?_
     refine GoR.pass rfl rfl ?_
     refine GoR.pass rfl rfl ?_
     refine GoR.op ((op_pickF rfl rfl rfl) _) rfl rfl ?_
     refine GoR.op ((op_move rfl) _) rfl rfl ?_
     refine GoR.pass rfl rfl ?_
     refine GoR.pass rfl rfl ?_
     refine GoR.op ((op_pickF rfl rfl rfl) _) rfl rfl ?_
     refine GoR.op ((op_move rfl) _) rfl rfl ?_
     refine GoR.pass rfl rfl ?_
     refine GoR.op ((op_pickF rfl rfl rfl) _) rfl rfl ?_
     refine GoR.op ((op_assign rfl) _) rfl rfl ?_
     refine GoR.nil ?_
     refine Go1.ret1 Try.func6 rfl ?_
     exact ⟨false, rfl, hB.same, H⟩
   ·replace H := ifp rfl H
    refine GoR.op ((op_not rfl) _) rfl rfl ?_
    refine GoR.op ((op_pickF rfl rfl rfl) _) rfl rfl ?_
    refine GoR.nil ?_
    refine Go1.condF rfl rfl ?_
    refine Go1.skip ?_
    refine Go1.seq ?_
    refine Go1.region ?_
    refine GoR.op ((op_move rfl) _) rfl rfl ?_
    refine GoR.op ((op_move rfl) _) rfl rfl ?_
    refine GoR.op ((op_move rfl) _) rfl rfl ?_
    refine GoR.call (op_call body29 rfl (walk_ref15_Right hO.lt h_a0 H)) rfl rfl ?_
    rintro v63 w60 ⟨r59, p_r59, c_r59, rfl, hs61, h_r59, H⟩
    have hst64 := Stp.same hO hs61
    replace hE40 := hE40.ch hst64.ch
    replace hO := hst64.own
    replace h_a0 := h_a0.ch hst64.ch
    replace hB := hB.trans hst64.fr
    refine GoR.op ((op_move rfl) _) rfl rfl ?_
    obtain ⟨h65, H⟩ := H
    obtain ⟨h66, H⟩ := H
    refine GoR.op ((op_index Try.underlying38 ti4 rfl rfl h65 h66 (h_r59.some_ h65 h66)) _) rfl rfl ?_
    by_cases h67 : ix r59 a1 = true
    ·replace H := ifp h67 H
     refine GoR.op (opB ((ldBool h_r59 h65 h66 Try.underlying4 rfl rfl) _ (Same.refl _)) (h67)) rfl rfl ?_
     cases r7
     ·replace H := ifn Bool.false_ne_true H
      refine GoR.op ((op_eqlB Try.underlying4 rfl rfl) _) rfl rfl ?_
      refine GoR.op ((op_move rfl) _) rfl rfl ?_
      refine GoR.pass rfl rfl ?_
      refine GoR.pass rfl rfl ?_
      refine GoR.pass rfl rfl ?_
      refine GoR.pass rfl rfl ?_
      refine GoR.pass rfl rfl ?_
      refine GoR.pass rfl rfl ?_
      refine GoR.pass rfl rfl ?_
      refine GoR.pass rfl rfl ?_
      refine GoR.op ((op_pickF rfl rfl rfl) _) rfl rfl ?_
      refine GoR.op ((op_move rfl) _) rfl rfl ?_
      refine GoR.pass rfl rfl ?_
      refine GoR.pass rfl rfl ?_
      refine GoR.pass rfl rfl ?_
      refine GoR.pass rfl rfl ?_
      refine GoR.pass rfl rfl ?_
      refine GoR.pass rfl rfl ?_
      refine GoR.pass rfl rfl ?_
      refine GoR.pass rfl rfl ?_
      refine GoR.op ((op_pickF rfl rfl rfl) _) rfl rfl ?_
      refine GoR.op ((op_move rfl) _) rfl rfl ?_
      refine GoR.pass rfl rfl ?_
      refine GoR.pass rfl rfl ?_
      refine GoR.pass rfl rfl ?_
      refine GoR.pass rfl rfl ?_
      refine GoR.pass rfl rfl ?_
      refine GoR.pass rfl rfl ?_
      refine GoR.pass rfl rfl ?_
      refine GoR.pass rfl rfl ?_
      refine GoR.pass rfl rfl ?_
      refine GoR.op ((op_pickF rfl rfl rfl) _) rfl rfl ?_
      refine GoR.op ((op_move rfl) _) rfl rfl ?_
      refine GoR.pass rfl rfl ?_
      refine GoR.op ((op_pickF rfl rfl rfl) _) rfl rfl ?_
      refine GoR.op ((op_assign rfl) _) rfl rfl ?_
      refine GoR.nil ?_
      refine Go1.ret1 Try.func6 rfl ?_
      exact ⟨false, rfl, hB.same, H⟩
     ·replace H := ifp rfl H
      refine GoR.op ((op_eqlB Try.underlying4 rfl rfl) _) rfl rfl ?_
      refine GoR.op ((op_move rfl) _) rfl rfl ?_
      refine GoR.op ((op_move rfl) _) rfl rfl ?_
      refine GoR.op ((op_move rfl) _) rfl rfl ?_
      refine GoR.op ((op_move rfl) _) rfl rfl ?_
      refine GoR.call (op_call body30 rfl (walk_ref15_Left hO.lt h_a0 H)) rfl rfl ?_
      rintro v72 w69 ⟨r68, p_r68, c_r68, rfl, hs70, h_r68, H⟩
      have hst73 := Stp.same hO hs70
      replace hE40 := hE40.ch hst73.ch
      replace hO := hst73.own
      replace h_a0 := h_a0.ch hst73.ch
      replace h_r59 := h_r59.ch hst73.ch
      replace hB := hB.trans hst73.fr
      refine GoR.op ((op_move rfl) _) rfl rfl ?_
      obtain ⟨h74, H⟩ := H
      obtain ⟨h75, H⟩ := H
      refine GoR.op ((op_index Try.underlying38 ti4 rfl rfl h74 h75 (h_r68.some_ h74 h75)) _) rfl rfl ?_
      by_cases h76 : ix r68 a1 = true
      ·replace H := ifp h76 H
       refine GoR.op (opB ((ldBool h_r68 h74 h75 Try.underlying4 rfl rfl) _ (Same.refl _)) (h76)) rfl rfl ?_
       cases r13
       ·replace H := ifn Bool.false_ne_true H
        refine GoR.op ((op_eqlB Try.underlying4 rfl rfl) _) rfl rfl ?_
        refine GoR.op ((op_pickT rfl rfl rfl) _) rfl rfl ?_
        refine GoR.op ((op_move rfl) _) rfl rfl ?_
        refine GoR.pass rfl rfl ?_
        refine GoR.pass rfl rfl ?_
        refine GoR.pass rfl rfl ?_
        refine GoR.pass rfl rfl ?_
        refine GoR.pass rfl rfl ?_
        refine GoR.pass rfl rfl ?_
        refine GoR.pass rfl rfl ?_
        refine GoR.pass rfl rfl ?_
        refine GoR.op ((op_pickF rfl rfl rfl) _) rfl rfl ?_
        refine GoR.op ((op_move rfl) _) rfl rfl ?_
        refine GoR.pass rfl rfl ?_
        refine GoR.pass rfl rfl ?_
        refine GoR.pass rfl rfl ?_
        refine GoR.pass rfl rfl ?_
        refine GoR.pass rfl rfl ?_
        refine GoR.pass rfl rfl ?_
        refine GoR.pass rfl rfl ?_
        refine GoR.pass rfl rfl ?_
        refine GoR.pass rfl rfl ?_
        refine GoR.op ((op_pickF rfl rfl rfl) _) rfl rfl ?_
        refine GoR.op ((op_move rfl) _) rfl rfl ?_
        refine GoR.pass rfl rfl ?_
        refine GoR.op ((op_pickF rfl rfl rfl) _) rfl rfl ?_
        refine GoR.op ((op_assign rfl) _) rfl rfl ?_
        refine GoR.nil ?_
        refine Go1.ret1 Try.func6 rfl ?_
        exact ⟨false, rfl, hB.same, H⟩
       ·replace H := ifp rfl H
        refine GoR.op ((op_eqlB Try.underlying4 rfl rfl) _) rfl rfl ?_
        refine GoR.op ((op_pickT rfl rfl rfl) _) rfl rfl ?_
        refine GoR.op ((op_move rfl) _) rfl rfl ?_
        refine GoR.op ((op_move rfl) _) rfl rfl ?_
        refine GoR.op ((op_move rfl) _) rfl rfl ?_
        refine GoR.op ((op_move rfl) _) rfl rfl ?_
        refine GoR.call (op_call body31 rfl (walk_ref15_Both hO.lt h_a0 H)) rfl rfl ?_
        rintro v81 w78 ⟨r77, p_r77, c_r77, rfl, hs79, h_r77, H⟩
        have hst82 := Stp.same hO hs79
        replace hE40 := hE40.ch hst82.ch
        replace hO := hst82.own
        replace h_a0 := h_a0.ch hst82.ch
        replace h_r59 := h_r59.ch hst82.ch
        replace h_r68 := h_r68.ch hst82.ch
        replace hB := hB.trans hst82.fr
        refine GoR.op ((op_move rfl) _) rfl rfl ?_
        obtain ⟨h83, H⟩ := H
        obtain ⟨h84, H⟩ := H
        refine GoR.op ((op_index Try.underlying38 ti4 rfl rfl h83 h84 (h_r77.some_ h83 h84)) _) rfl rfl ?_
        by_cases h85 : ix r77 a1 = true
        ·replace H := ifp h85 H
         refine GoR.op (opB ((ldBool h_r77 h83 h84 Try.underlying4 rfl rfl) _ (Same.refl _)) (h85)) rfl rfl ?_
         cases r19
         ·replace H := ifn Bool.false_ne_true H
          refine GoR.op ((op_eqlB Try.underlying4 rfl rfl) _) rfl rfl ?_
          refine GoR.op ((op_pickT rfl rfl rfl) _) rfl rfl ?_
          refine GoR.op ((op_move rfl) _) rfl rfl ?_
          refine GoR.pass rfl rfl ?_
          refine GoR.pass rfl rfl ?_
          refine GoR.pass rfl rfl ?_
          refine GoR.pass rfl rfl ?_
          refine GoR.pass rfl rfl ?_
          refine GoR.pass rfl rfl ?_
          refine GoR.pass rfl rfl ?_
          refine GoR.pass rfl rfl ?_
          refine GoR.pass rfl rfl ?_
          refine GoR.op ((op_pickF rfl rfl rfl) _) rfl rfl ?_
          refine GoR.op ((op_move rfl) _) rfl rfl ?_
          refine GoR.pass rfl rfl ?_
          refine GoR.op ((op_pickF rfl rfl rfl) _) rfl rfl ?_
          refine GoR.op ((op_assign rfl) _) rfl rfl ?_
          refine GoR.nil ?_
          refine Go1.ret1 Try.func6 rfl ?_
          exact ⟨false, rfl, hB.same, H⟩
         ·replace H := ifp rfl H
          refine GoR.op ((op_eqlB Try.underlying4 rfl rfl) _) rfl rfl ?_
          refine GoR.op ((op_pickT rfl rfl rfl) _) rfl rfl ?_
          refine GoR.op ((op_move rfl) _) rfl rfl ?_
          refine GoR.op ((op_move rfl) _) rfl rfl ?_
          refine GoR.op ((op_move rfl) _) rfl rfl ?_
          refine GoR.pass rfl rfl ?_
          refine GoR.pass rfl rfl ?_
          refine GoR.pass rfl rfl ?_
          refine GoR.pass rfl rfl ?_
          refine GoR.pass rfl rfl ?_
          refine GoR.pass rfl rfl ?_
          refine GoR.op ((op_pickT rfl rfl rfl) _) rfl rfl ?_
          refine GoR.op ((op_pickT rfl rfl rfl) _) rfl rfl ?_
          refine GoR.op ((op_move rfl) _) rfl rfl ?_
          refine GoR.call (op_call body14 rfl (walk_law15_awake hO.lt H)) rfl rfl ?_
          rintro v90 w87 ⟨r86, rfl, hs88, H⟩
          have hst91 := Stp.same hO hs88
          replace hE40 := hE40.ch hst91.ch
          replace hO := hst91.own
          replace h_a0 := h_a0.ch hst91.ch
          replace h_r59 := h_r59.ch hst91.ch
          replace h_r68 := h_r68.ch hst91.ch
          replace h_r77 := h_r77.ch hst91.ch
          replace hB := hB.trans hst91.fr
          refine GoR.op ((op_pickT rfl rfl rfl) _) rfl rfl ?_
          refine GoR.op ((op_assign rfl) _) rfl rfl ?_
          refine GoR.nil ?_
          refine Go1.ret1 Try.func6 rfl ?_
          exact ⟨r86, rfl, hB.same, H⟩
        ·replace H := ifn h85 H
         refine GoR.op (opB ((ldBool h_r77 h83 h84 Try.underlying4 rfl rfl) _ (Same.refl _)) (Bool.eq_false_iff.2 h85)) rfl rfl ?_
         cases r19
         ·replace H := ifn Bool.false_ne_true H
          refine GoR.op ((op_eqlB Try.underlying4 rfl rfl) _) rfl rfl ?_
          refine GoR.op ((op_pickT rfl rfl rfl) _) rfl rfl ?_
          refine GoR.op ((op_move rfl) _) rfl rfl ?_
          refine GoR.op ((op_move rfl) _) rfl rfl ?_
          refine GoR.op ((op_move rfl) _) rfl rfl ?_
          refine GoR.op ((op_move rfl) _) rfl rfl ?_
          refine GoR.op ((op_not rfl) _) rfl rfl ?_
          refine GoR.op ((op_move rfl) _) rfl rfl ?_
          refine GoR.pass rfl rfl ?_
          refine GoR.pass rfl rfl ?_
          refine GoR.op ((op_pickF rfl rfl rfl) _) rfl rfl ?_
          refine GoR.op ((op_pickF rfl rfl rfl) _) rfl rfl ?_
          refine GoR.op ((op_pickT rfl rfl rfl) _) rfl rfl ?_
          refine GoR.op ((op_move rfl) _) rfl rfl ?_
          refine GoR.pass rfl rfl ?_
          refine GoR.op ((op_pickF rfl rfl rfl) _) rfl rfl ?_
          refine GoR.op ((op_assign rfl) _) rfl rfl ?_
          refine GoR.nil ?_
          refine Go1.ret1 Try.func6 rfl ?_
          exact ⟨false, rfl, hB.same, H⟩
         ·replace H := ifp rfl H
          refine GoR.op ((op_eqlB Try.underlying4 rfl rfl) _) rfl rfl ?_
          refine GoR.op ((op_pickT rfl rfl rfl) _) rfl rfl ?_
          refine GoR.op ((op_move rfl) _) rfl rfl ?_
          refine GoR.pass rfl rfl ?_
          refine GoR.pass rfl rfl ?_
          refine GoR.pass rfl rfl ?_
          refine GoR.pass rfl rfl ?_
          refine GoR.pass rfl rfl ?_
          refine GoR.pass rfl rfl ?_
          refine GoR.pass rfl rfl ?_
          refine GoR.pass rfl rfl ?_
          refine GoR.pass rfl rfl ?_
          refine GoR.op ((op_pickF rfl rfl rfl) _) rfl rfl ?_
          refine GoR.op ((op_move rfl) _) rfl rfl ?_
          refine GoR.pass rfl rfl ?_
          refine GoR.op ((op_pickF rfl rfl rfl) _) rfl rfl ?_
          refine GoR.op ((op_assign rfl) _) rfl rfl ?_
          refine GoR.nil ?_
          refine Go1.ret1 Try.func6 rfl ?_
          exact ⟨false, rfl, hB.same, H⟩
      ·replace H := ifn h76 H
       refine GoR.op (opB ((ldBool h_r68 h74 h75 Try.underlying4 rfl rfl) _ (Same.refl _)) (Bool.eq_false_iff.2 h76)) rfl rfl ?_
       cases r13
       ·replace H := ifn Bool.false_ne_true H
        refine GoR.op ((op_eqlB Try.underlying4 rfl rfl) _) rfl rfl ?_
        refine GoR.op ((op_pickT rfl rfl rfl) _) rfl rfl ?_
        refine GoR.op ((op_move rfl) _) rfl rfl ?_
        refine GoR.op ((op_move rfl) _) rfl rfl ?_
        refine GoR.op ((op_move rfl) _) rfl rfl ?_
        refine GoR.op ((op_move rfl) _) rfl rfl ?_
        refine GoR.call (op_call body31 rfl (walk_ref15_Both hO.lt h_a0 H)) rfl rfl ?_
        rintro v96 w93 ⟨r92, p_r92, c_r92, rfl, hs94, h_r92, H⟩
        have hst97 := Stp.same hO hs94
        replace hE40 := hE40.ch hst97.ch
        replace hO := hst97.own
        replace h_a0 := h_a0.ch hst97.ch
        replace h_r59 := h_r59.ch hst97.ch
        replace h_r68 := h_r68.ch hst97.ch
        replace hB := hB.trans hst97.fr
        refine GoR.op ((op_move rfl) _) rfl rfl ?_
        obtain ⟨h98, H⟩ := H
        obtain ⟨h99, H⟩ := H
        refine GoR.op ((op_index Try.underlying38 ti4 rfl rfl h98 h99 (h_r92.some_ h98 h99)) _) rfl rfl ?_
        by_cases h100 : ix r92 a1 = true
        ·replace H := ifp h100 H
         refine GoR.op (opB ((ldBool h_r92 h98 h99 Try.underlying4 rfl rfl) _ (Same.refl _)) (h100)) rfl rfl ?_
         cases r19
         ·replace H := ifn Bool.false_ne_true H
          refine GoR.op ((op_eqlB Try.underlying4 rfl rfl) _) rfl rfl ?_
          refine GoR.op ((op_pickT rfl rfl rfl) _) rfl rfl ?_
          refine GoR.op ((op_move rfl) _) rfl rfl ?_
          refine GoR.pass rfl rfl ?_
          refine GoR.pass rfl rfl ?_
          refine GoR.pass rfl rfl ?_
          refine GoR.pass rfl rfl ?_
          refine GoR.pass rfl rfl ?_
          refine GoR.pass rfl rfl ?_
          refine GoR.pass rfl rfl ?_
          refine GoR.pass rfl rfl ?_
          refine GoR.pass rfl rfl ?_
          refine GoR.op ((op_pickF rfl rfl rfl) _) rfl rfl ?_
          refine GoR.op ((op_move rfl) _) rfl rfl ?_
          refine GoR.pass rfl rfl ?_
          refine GoR.op ((op_pickF rfl rfl rfl) _) rfl rfl ?_
          refine GoR.op ((op_assign rfl) _) rfl rfl ?_
          refine GoR.nil ?_
          refine Go1.ret1 Try.func6 rfl ?_
          exact ⟨false, rfl, hB.same, H⟩
         ·replace H := ifp rfl H
          refine GoR.op ((op_eqlB Try.underlying4 rfl rfl) _) rfl rfl ?_
          refine GoR.op ((op_pickT rfl rfl rfl) _) rfl rfl ?_
          refine GoR.op ((op_move rfl) _) rfl rfl ?_
          refine GoR.op ((op_move rfl) _) rfl rfl ?_
          refine GoR.op ((op_move rfl) _) rfl rfl ?_
          refine GoR.pass rfl rfl ?_
          refine GoR.pass rfl rfl ?_
          refine GoR.pass rfl rfl ?_
          refine GoR.pass rfl rfl ?_
          refine GoR.pass rfl rfl ?_
          refine GoR.pass rfl rfl ?_
          refine GoR.op ((op_pickT rfl rfl rfl) _) rfl rfl ?_
          refine GoR.op ((op_pickT rfl rfl rfl) _) rfl rfl ?_
          refine GoR.op ((op_move rfl) _) rfl rfl ?_
          refine GoR.call (op_call body14 rfl (walk_law15_awake hO.lt H)) rfl rfl ?_
          rintro v105 w102 ⟨r101, rfl, hs103, H⟩
          have hst106 := Stp.same hO hs103
          replace hE40 := hE40.ch hst106.ch
          replace hO := hst106.own
          replace h_a0 := h_a0.ch hst106.ch
          replace h_r59 := h_r59.ch hst106.ch
          replace h_r68 := h_r68.ch hst106.ch
          replace h_r92 := h_r92.ch hst106.ch
          replace hB := hB.trans hst106.fr
          refine GoR.op ((op_pickT rfl rfl rfl) _) rfl rfl ?_
          refine GoR.op ((op_assign rfl) _) rfl rfl ?_
          refine GoR.nil ?_
          refine Go1.ret1 Try.func6 rfl ?_
          exact ⟨r101, rfl, hB.same, H⟩
        ·replace H := ifn h100 H
         refine GoR.op (opB ((ldBool h_r92 h98 h99 Try.underlying4 rfl rfl) _ (Same.refl _)) (Bool.eq_false_iff.2 h100)) rfl rfl ?_
         cases r19
         ·replace H := ifn Bool.false_ne_true H
          refine GoR.op ((op_eqlB Try.underlying4 rfl rfl) _) rfl rfl ?_
          refine GoR.op ((op_pickT rfl rfl rfl) _) rfl rfl ?_
          refine GoR.op ((op_move rfl) _) rfl rfl ?_
          refine GoR.op ((op_move rfl) _) rfl rfl ?_
          refine GoR.op ((op_move rfl) _) rfl rfl ?_
          refine GoR.op ((op_move rfl) _) rfl rfl ?_
          refine GoR.op ((op_not rfl) _) rfl rfl ?_
          refine GoR.op ((op_move rfl) _) rfl rfl ?_
          refine GoR.pass rfl rfl ?_
          refine GoR.pass rfl rfl ?_
          refine GoR.op ((op_pickF rfl rfl rfl) _) rfl rfl ?_
          refine GoR.op ((op_pickF rfl rfl rfl) _) rfl rfl ?_
          refine GoR.op ((op_pickT rfl rfl rfl) _) rfl rfl ?_
          refine GoR.op ((op_move rfl) _) rfl rfl ?_
          refine GoR.pass rfl rfl ?_
          refine GoR.op ((op_pickF rfl rfl rfl) _) rfl rfl ?_
          refine GoR.op ((op_assign rfl) _) rfl rfl ?_
          refine GoR.nil ?_
          refine Go1.ret1 Try.func6 rfl ?_
          exact ⟨false, rfl, hB.same, H⟩
         ·replace H := ifp rfl H
          refine GoR.op ((op_eqlB Try.underlying4 rfl rfl) _) rfl rfl ?_
          refine GoR.op ((op_pickT rfl rfl rfl) _) rfl rfl ?_
          refine GoR.op ((op_move rfl) _) rfl rfl ?_
          refine GoR.pass rfl rfl ?_
          refine GoR.pass rfl rfl ?_
          refine GoR.pass rfl rfl ?_
          refine GoR.pass rfl rfl ?_
          refine GoR.pass rfl rfl ?_
          refine GoR.pass rfl rfl ?_
          refine GoR.pass rfl rfl ?_
          refine GoR.pass rfl rfl ?_
          refine GoR.pass rfl rfl ?_
          refine GoR.op ((op_pickF rfl rfl rfl) _) rfl rfl ?_
          refine GoR.op ((op_move rfl) _) rfl rfl ?_
          refine GoR.pass rfl rfl ?_
          refine GoR.op ((op_pickF rfl rfl rfl) _) rfl rfl ?_
          refine GoR.op ((op_assign rfl) _) rfl rfl ?_
          refine GoR.nil ?_
          refine Go1.ret1 Try.func6 rfl ?_
          exact ⟨false, rfl, hB.same, H⟩
       ·replace H := ifp rfl H
        refine GoR.op ((op_eqlB Try.underlying4 rfl rfl) _) rfl rfl ?_
        refine GoR.op ((op_pickT rfl rfl rfl) _) rfl rfl ?_
        refine GoR.op ((op_move rfl) _) rfl rfl ?_
        refine GoR.pass rfl rfl ?_
        refine GoR.pass rfl rfl ?_
        refine GoR.pass rfl rfl ?_
        refine GoR.pass rfl rfl ?_
        refine GoR.pass rfl rfl ?_
        refine GoR.pass rfl rfl ?_
        refine GoR.pass rfl rfl ?_
        refine GoR.pass rfl rfl ?_
        refine GoR.op ((op_pickF rfl rfl rfl) _) rfl rfl ?_
        refine GoR.op ((op_move rfl) _) rfl rfl ?_
        refine GoR.pass rfl rfl ?_
        refine GoR.pass rfl rfl ?_
        refine GoR.pass rfl rfl ?_
        refine GoR.pass rfl rfl ?_
        refine GoR.pass rfl rfl ?_
        refine GoR.pass rfl rfl ?_
        refine GoR.pass rfl rfl ?_
        refine GoR.pass rfl rfl ?_
        refine GoR.pass rfl rfl ?_
        refine GoR.op ((op_pickF rfl rfl rfl) _) rfl rfl ?_
        refine GoR.op ((op_move rfl) _) rfl rfl ?_
        refine GoR.pass rfl rfl ?_
        refine GoR.op ((op_pickF rfl rfl rfl) _) rfl rfl ?_
        refine GoR.op ((op_assign rfl) _) rfl rfl ?_
        refine GoR.nil ?_
        refine Go1.ret1 Try.func6 rfl ?_
        exact ⟨false, rfl, hB.same, H⟩
    ·replace H := ifn h67 H
     refine GoR.op (opB ((ldBool h_r59 h65 h66 Try.underlying4 rfl rfl) _ (Same.refl _)) (Bool.eq_false_iff.2 h67)) rfl rfl ?_
     cases r7
     ·replace H := ifn Bool.false_ne_true H
      refine GoR.op ((op_eqlB Try.underlying4 rfl rfl) _) rfl rfl ?_
      refine GoR.op ((op_move rfl) _) rfl rfl ?_
      refine GoR.op ((op_move rfl) _) rfl rfl ?_
      refine GoR.op ((op_move rfl) _) rfl rfl ?_
      refine GoR.op ((op_move rfl) _) rfl rfl ?_
      refine GoR.call (op_call body30 rfl (walk_ref15_Left hO.lt h_a0 H)) rfl rfl ?_
      rintro v111 w108 ⟨r107, p_r107, c_r107, rfl, hs109, h_r107, H⟩
      have hst112 := Stp.same hO hs109
      replace hE40 := hE40.ch hst112.ch
      replace hO := hst112.own
      replace h_a0 := h_a0.ch hst112.ch
      replace h_r59 := h_r59.ch hst112.ch
      replace hB := hB.trans hst112.fr
      refine GoR.op ((op_move rfl) _) rfl rfl ?_
      obtain ⟨h113, H⟩ := H
      obtain ⟨h114, H⟩ := H
      refine GoR.op ((op_index Try.underlying38 ti4 rfl rfl h113 h114 (h_r107.some_ h113 h114)) _) rfl rfl ?_
      by_cases h115 : ix r107 a1 = true
      ·replace H := ifp h115 H
       refine GoR.op (opB ((ldBool h_r107 h113 h114 Try.underlying4 rfl rfl) _ (Same.refl _)) (h115)) rfl rfl ?_
       cases r13
       ·replace H := ifn Bool.false_ne_true H
        refine GoR.op ((op_eqlB Try.underlying4 rfl rfl) _) rfl rfl ?_
        refine GoR.op ((op_pickT rfl rfl rfl) _) rfl rfl ?_
        refine GoR.op ((op_move rfl) _) rfl rfl ?_
        refine GoR.pass rfl rfl ?_
        refine GoR.pass rfl rfl ?_
        refine GoR.pass rfl rfl ?_
        refine GoR.pass rfl rfl ?_
        refine GoR.pass rfl rfl ?_
        refine GoR.pass rfl rfl ?_
        refine GoR.pass rfl rfl ?_
        refine GoR.pass rfl rfl ?_
        refine GoR.op ((op_pickF rfl rfl rfl) _) rfl rfl ?_
        refine GoR.op ((op_move rfl) _) rfl rfl ?_
        refine GoR.pass rfl rfl ?_
        refine GoR.pass rfl rfl ?_
        refine GoR.pass rfl rfl ?_
        refine GoR.pass rfl rfl ?_
        refine GoR.pass rfl rfl ?_
        refine GoR.pass rfl rfl ?_
        refine GoR.pass rfl rfl ?_
        refine GoR.pass rfl rfl ?_
        refine GoR.pass rfl rfl ?_
        refine GoR.op ((op_pickF rfl rfl rfl) _) rfl rfl ?_
        refine GoR.op ((op_move rfl) _) rfl rfl ?_
        refine GoR.pass rfl rfl ?_
        refine GoR.op ((op_pickF rfl rfl rfl) _) rfl rfl ?_
        refine GoR.op ((op_assign rfl) _) rfl rfl ?_
        refine GoR.nil ?_
        refine Go1.ret1 Try.func6 rfl ?_
        exact ⟨false, rfl, hB.same, H⟩
       ·replace H := ifp rfl H
        refine GoR.op ((op_eqlB Try.underlying4 rfl rfl) _) rfl rfl ?_
        refine GoR.op ((op_pickT rfl rfl rfl) _) rfl rfl ?_
        refine GoR.op ((op_move rfl) _) rfl rfl ?_
        refine GoR.op ((op_move rfl) _) rfl rfl ?_
        refine GoR.op ((op_move rfl) _) rfl rfl ?_
        refine GoR.op ((op_move rfl) _) rfl rfl ?_
        refine GoR.call (op_call body31 rfl (walk_ref15_Both hO.lt h_a0 H)) rfl rfl ?_
        rintro v120 w117 ⟨r116, p_r116, c_r116, rfl, hs118, h_r116, H⟩
        have hst121 := Stp.same hO hs118
        replace hE40 := hE40.ch hst121.ch
        replace hO := hst121.own
        replace h_a0 := h_a0.ch hst121.ch
        replace h_r59 := h_r59.ch hst121.ch
        replace h_r107 := h_r107.ch hst121.ch
        replace hB := hB.trans hst121.fr
        refine GoR.op ((op_move rfl) _) rfl rfl ?_
        obtain ⟨h122, H⟩ := H
        obtain ⟨h123, H⟩ := H
        refine GoR.op ((op_index Try.underlying38 ti4 rfl rfl h122 h123 (h_r116.some_ h122 h123)) _) rfl rfl ?_
        by_cases h124 : ix r116 a1 = true
        ·replace H := ifp h124 H
         refine GoR.op (opB ((ldBool h_r116 h122 h123 Try.underlying4 rfl rfl) _ (Same.refl _)) (h124)) rfl rfl ?_
         cases r19
         ·replace H := ifn Bool.false_ne_true H
          refine GoR.op ((op_eqlB Try.underlying4 rfl rfl) _) rfl rfl ?_
          refine GoR.op ((op_pickT rfl rfl rfl) _) rfl rfl ?_
          refine GoR.op ((op_move rfl) _) rfl rfl ?_
          refine GoR.pass rfl rfl ?_
          refine GoR.pass rfl rfl ?_
          refine GoR.pass rfl rfl ?_
          refine GoR.pass rfl rfl ?_
          refine GoR.pass rfl rfl ?_
          refine GoR.pass rfl rfl ?_
          refine GoR.pass rfl rfl ?_
          refine GoR.pass rfl rfl ?_
          refine GoR.pass rfl rfl ?_
          refine GoR.op ((op_pickF rfl rfl rfl) _) rfl rfl ?_
          refine GoR.op ((op_move rfl) _) rfl rfl ?_
          refine GoR.pass rfl rfl ?_
          refine GoR.op ((op_pickF rfl rfl rfl) _) rfl rfl ?_
          refine GoR.op ((op_assign rfl) _) rfl rfl ?_
          refine GoR.nil ?_
          refine Go1.ret1 Try.func6 rfl ?_
          exact ⟨false, rfl, hB.same, H⟩
         ·replace H := ifp rfl H
          refine GoR.op ((op_eqlB Try.underlying4 rfl rfl) _) rfl rfl ?_
          refine GoR.op ((op_pickT rfl rfl rfl) _) rfl rfl ?_
          refine GoR.op ((op_move rfl) _) rfl rfl ?_
          refine GoR.op ((op_move rfl) _) rfl rfl ?_
          refine GoR.op ((op_move rfl) _) rfl rfl ?_
          refine GoR.pass rfl rfl ?_
          refine GoR.pass rfl rfl ?_
          refine GoR.pass rfl rfl ?_
          refine GoR.pass rfl rfl ?_
          refine GoR.pass rfl rfl ?_
          refine GoR.pass rfl rfl ?_
          refine GoR.op ((op_pickT rfl rfl rfl) _) rfl rfl ?_
          refine GoR.op ((op_pickT rfl rfl rfl) _) rfl rfl ?_
          refine GoR.op ((op_move rfl) _) rfl rfl ?_
          refine GoR.call (op_call body14 rfl (walk_law15_awake hO.lt H)) rfl rfl ?_
          rintro v129 w126 ⟨r125, rfl, hs127, H⟩
          have hst130 := Stp.same hO hs127
          replace hE40 := hE40.ch hst130.ch
          replace hO := hst130.own
          replace h_a0 := h_a0.ch hst130.ch
          replace h_r59 := h_r59.ch hst130.ch
          replace h_r107 := h_r107.ch hst130.ch
          replace h_r116 := h_r116.ch hst130.ch
          replace hB := hB.trans hst130.fr
          refine GoR.op ((op_pickT rfl rfl rfl) _) rfl rfl ?_
          refine GoR.op ((op_assign rfl) _) rfl rfl ?_
          refine GoR.nil ?_
          refine Go1.ret1 Try.func6 rfl ?_
          exact ⟨r125, rfl, hB.same, H⟩
        ·replace H := ifn h124 H
         refine GoR.op (opB ((ldBool h_r116 h122 h123 Try.underlying4 rfl rfl) _ (Same.refl _)) (Bool.eq_false_iff.2 h124)) rfl rfl ?_
         cases r19
         ·replace H := ifn Bool.false_ne_true H
          refine GoR.op ((op_eqlB Try.underlying4 rfl rfl) _) rfl rfl ?_
          refine GoR.op ((op_pickT rfl rfl rfl) _) rfl rfl ?_
          refine GoR.op ((op_move rfl) _) rfl rfl ?_
          refine GoR.op ((op_move rfl) _) rfl rfl ?_
          refine GoR.op ((op_move rfl) _) rfl rfl ?_
          refine GoR.op ((op_move rfl) _) rfl rfl ?_
          refine GoR.op ((op_not rfl) _) rfl rfl ?_
          refine GoR.op ((op_move rfl) _) rfl rfl ?_
          refine GoR.op ((op_move rfl) _) rfl rfl ?_
          refine GoR.op ((op_not rfl) _) rfl rfl ?_
          refine GoR.op ((op_pickT rfl rfl rfl) _) rfl rfl ?_
          refine GoR.op ((op_pickF rfl rfl rfl) _) rfl rfl ?_
          refine GoR.op ((op_pickT rfl rfl rfl) _) rfl rfl ?_
          refine GoR.op ((op_move rfl) _) rfl rfl ?_
          refine GoR.pass rfl rfl ?_
          refine GoR.op ((op_pickF rfl rfl rfl) _) rfl rfl ?_
          refine GoR.op ((op_assign rfl) _) rfl rfl ?_
          refine GoR.nil ?_
          refine Go1.ret1 Try.func6 rfl ?_
          exact ⟨false, rfl, hB.same, H⟩
         ·replace H := ifp rfl H
          refine GoR.op ((op_eqlB Try.underlying4 rfl rfl) _) rfl rfl ?_
          refine GoR.op ((op_pickT rfl rfl rfl) _) rfl rfl ?_
          refine GoR.op ((op_move rfl) _) rfl rfl ?_
          refine GoR.pass rfl rfl ?_
          refine GoR.pass rfl rfl ?_
          refine GoR.pass rfl rfl ?_
          refine GoR.pass rfl rfl ?_
          refine GoR.pass rfl rfl ?_
          refine GoR.pass rfl rfl ?_
          refine GoR.pass rfl rfl ?_
          refine GoR.pass rfl rfl ?_
          refine GoR.pass rfl rfl ?_
          refine GoR.op ((op_pickF rfl rfl rfl) _) rfl rfl ?_
          refine GoR.op ((op_move rfl) _) rfl rfl ?_
          refine GoR.pass rfl rfl ?_
          refine GoR.op ((op_pickF rfl rfl rfl) _) rfl rfl ?_
          refine GoR.op ((op_assign rfl) _) rfl rfl ?_
          refine GoR.nil ?_
          refine Go1.ret1 Try.func6 rfl ?_
          exact ⟨false, rfl, hB.same, H⟩
      ·replace H := ifn h115 H
       refine GoR.op (opB ((ldBool h_r107 h113 h114 Try.underlying4 rfl rfl) _ (Same.refl _)) (Bool.eq_false_iff.2 h115)) rfl rfl ?_
       cases r13
       ·replace H := ifn Bool.false_ne_true H
        refine GoR.op ((op_eqlB Try.underlying4 rfl rfl) _) rfl rfl ?_
        refine GoR.op ((op_pickT rfl rfl rfl) _) rfl rfl ?_
        refine GoR.op ((op_move rfl) _) rfl rfl ?_
        refine GoR.op ((op_move rfl) _) rfl rfl ?_
        refine GoR.op ((op_move rfl) _) rfl rfl ?_
        refine GoR.op ((op_move rfl) _) rfl rfl ?_
        refine GoR.call (op_call body31 rfl (walk_ref15_Both hO.lt h_a0 H)) rfl rfl ?_
        rintro v135 w132 ⟨r131, p_r131, c_r131, rfl, hs133, h_r131, H⟩
        have hst136 := Stp.same hO hs133
        replace hE40 := hE40.ch hst136.ch
        replace hO := hst136.own
        replace h_a0 := h_a0.ch hst136.ch
        replace h_r59 := h_r59.ch hst136.ch
        replace h_r107 := h_r107.ch hst136.ch
        replace hB := hB.trans hst136.fr
        refine GoR.op ((op_move rfl) _) rfl rfl ?_
        obtain ⟨h137, H⟩ := H
        obtain ⟨h138, H⟩ := H
        refine GoR.op ((op_index Try.underlying38 ti4 rfl rfl h137 h138 (h_r131.some_ h137 h138)) _) rfl rfl ?_
        by_cases h139 : ix r131 a1 = true
        ·replace H := ifp h139 H
         refine GoR.op (opB ((ldBool h_r131 h137 h138 Try.underlying4 rfl rfl) _ (Same.refl _)) (h139)) rfl rfl ?_
         cases r19
         ·replace H := ifn Bool.false_ne_true H
          refine GoR.op ((op_eqlB Try.underlying4 rfl rfl) _) rfl rfl ?_
          refine GoR.op ((op_pickT rfl rfl rfl) _) rfl rfl ?_
          refine GoR.op ((op_move rfl) _) rfl rfl ?_
          refine GoR.pass rfl rfl ?_
          refine GoR.pass rfl rfl ?_
          refine GoR.pass rfl rfl ?_
          refine GoR.pass rfl rfl ?_
          refine GoR.pass rfl rfl ?_
          refine GoR.pass rfl rfl ?_
          refine GoR.pass rfl rfl ?_
          refine GoR.pass rfl rfl ?_
          refine GoR.pass rfl rfl ?_
          refine GoR.op ((op_pickF rfl rfl rfl) _) rfl rfl ?_
          refine GoR.op ((op_move rfl) _) rfl rfl ?_
          refine GoR.pass rfl rfl ?_
          refine GoR.op ((op_pickF rfl rfl rfl) _) rfl rfl ?_
          refine GoR.op ((op_assign rfl) _) rfl rfl ?_
          refine GoR.nil ?_
          refine Go1.ret1 Try.func6 rfl ?_
          exact ⟨false, rfl, hB.same, H⟩
         ·replace H := ifp rfl H
          refine GoR.op ((op_eqlB Try.underlying4 rfl rfl) _) rfl rfl ?_
          refine GoR.op ((op_pickT rfl rfl rfl) _) rfl rfl ?_
          refine GoR.op ((op_move rfl) _) rfl rfl ?_
          refine GoR.op ((op_move rfl) _) rfl rfl ?_
          refine GoR.op ((op_move rfl) _) rfl rfl ?_
          refine GoR.pass rfl rfl ?_
          refine GoR.pass rfl rfl ?_
          refine GoR.pass rfl rfl ?_
          refine GoR.pass rfl rfl ?_
          refine GoR.pass rfl rfl ?_
          refine GoR.pass rfl rfl ?_
          refine GoR.op ((op_pickT rfl rfl rfl) _) rfl rfl ?_
          refine GoR.op ((op_pickT rfl rfl rfl) _) rfl rfl ?_
          refine GoR.op ((op_move rfl) _) rfl rfl ?_
          refine GoR.call (op_call body14 rfl (walk_law15_awake hO.lt H)) rfl rfl ?_
          rintro v144 w141 ⟨r140, rfl, hs142, H⟩
          have hst145 := Stp.same hO hs142
          replace hE40 := hE40.ch hst145.ch
          replace hO := hst145.own
          replace h_a0 := h_a0.ch hst145.ch
          replace h_r59 := h_r59.ch hst145.ch
          replace h_r107 := h_r107.ch hst145.ch
          replace h_r131 := h_r131.ch hst145.ch
          replace hB := hB.trans hst145.fr
          refine GoR.op ((op_pickT rfl rfl rfl) _) rfl rfl ?_
          refine GoR.op ((op_assign rfl) _) rfl rfl ?_
          refine GoR.nil ?_
          refine Go1.ret1 Try.func6 rfl ?_
          exact ⟨r140, rfl, hB.same, H⟩
        ·replace H := ifn h139 H
         refine GoR.op (opB ((ldBool h_r131 h137 h138 Try.underlying4 rfl rfl) _ (Same.refl _)) (Bool.eq_false_iff.2 h139)) rfl rfl ?_
         cases r19
         ·replace H := ifn Bool.false_ne_true H
          refine GoR.op ((op_eqlB Try.underlying4 rfl rfl) _) rfl rfl ?_
          refine GoR.op ((op_pickT rfl rfl rfl) _) rfl rfl ?_
          refine GoR.op ((op_move rfl) _) rfl rfl ?_
          refine GoR.op ((op_move rfl) _) rfl rfl ?_
          refine GoR.op ((op_move rfl) _) rfl rfl ?_
          refine GoR.op ((op_move rfl) _) rfl rfl ?_
          refine GoR.op ((op_not rfl) _) rfl rfl ?_
          refine GoR.op ((op_move rfl) _) rfl rfl ?_
          refine GoR.op ((op_move rfl) _) rfl rfl ?_
          refine GoR.op ((op_not rfl) _) rfl rfl ?_
          refine GoR.op ((op_pickT rfl rfl rfl) _) rfl rfl ?_
          refine GoR.op ((op_pickF rfl rfl rfl) _) rfl rfl ?_
          refine GoR.op ((op_pickT rfl rfl rfl) _) rfl rfl ?_
          refine GoR.op ((op_move rfl) _) rfl rfl ?_
          refine GoR.call (op_call body14 rfl (walk_law15_awake hO.lt H)) rfl rfl ?_
          rintro v150 w147 ⟨r146, rfl, hs148, H⟩
          have hst151 := Stp.same hO hs148
          replace hE40 := hE40.ch hst151.ch
          replace hO := hst151.own
          replace h_a0 := h_a0.ch hst151.ch
          replace h_r59 := h_r59.ch hst151.ch
          replace h_r107 := h_r107.ch hst151.ch
          replace h_r131 := h_r131.ch hst151.ch
          replace hB := hB.trans hst151.fr
          refine GoR.op ((op_pickT rfl rfl rfl) _) rfl rfl ?_
          refine GoR.op ((op_assign rfl) _) rfl rfl ?_
          refine GoR.nil ?_
          refine Go1.ret1 Try.func6 rfl ?_
          exact ⟨r146, rfl, hB.same, H⟩
         ·replace H := ifp rfl H
          refine GoR.op ((op_eqlB Try.underlying4 rfl rfl) _) rfl rfl ?_
          refine GoR.op ((op_pickT rfl rfl rfl) _) rfl rfl ?_
          refine GoR.op ((op_move rfl) _) rfl rfl ?_
          refine GoR.pass rfl rfl ?_
          refine GoR.pass rfl rfl ?_
          refine GoR.pass rfl rfl ?_
          refine GoR.pass rfl rfl ?_
          refine GoR.pass rfl rfl ?_
          refine GoR.pass rfl rfl ?_
          refine GoR.pass rfl rfl ?_
          refine GoR.pass rfl rfl ?_
          refine GoR.pass rfl rfl ?_
          refine GoR.op ((op_pickF rfl rfl rfl) _) rfl rfl ?_
          refine GoR.op ((op_move rfl) _) rfl rfl ?_
          refine GoR.pass rfl rfl ?_
          refine GoR.op ((op_pickF rfl rfl rfl) _) rfl rfl ?_
          refine GoR.op ((op_assign rfl) _) rfl rfl ?_
          refine GoR.nil ?_
          refine Go1.ret1 Try.func6 rfl ?_
          exact ⟨false, rfl, hB.same, H⟩
       ·replace H := ifp rfl H
        refine GoR.op ((op_eqlB Try.underlying4 rfl rfl) _) rfl rfl ?_
        refine GoR.op ((op_pickT rfl rfl rfl) _) rfl rfl ?_
        refine GoR.op ((op_move rfl) _) rfl rfl ?_
        refine GoR.pass rfl rfl ?_
        refine GoR.pass rfl rfl ?_
        refine GoR.pass rfl rfl ?_
        refine GoR.pass rfl rfl ?_
        refine GoR.pass rfl rfl ?_
        refine GoR.pass rfl rfl ?_
        refine GoR.pass rfl rfl ?_
        refine GoR.pass rfl rfl ?_
        refine GoR.op ((op_pickF rfl rfl rfl) _) rfl rfl ?_
        refine GoR.op ((op_move rfl) _) rfl rfl ?_
        refine GoR.pass rfl rfl ?_
        refine GoR.pass rfl rfl ?_
        refine GoR.pass rfl rfl ?_
        refine GoR.pass rfl rfl ?_
        refine GoR.pass rfl rfl ?_
        refine GoR.pass rfl rfl ?_
        refine GoR.pass rfl rfl ?_
        refine GoR.pass rfl rfl ?_
        refine GoR.pass rfl rfl ?_
        refine GoR.op ((op_pickF rfl rfl rfl) _) rfl rfl ?_
        refine GoR.op ((op_move rfl) _) rfl rfl ?_
        refine GoR.pass rfl rfl ?_
        refine GoR.op ((op_pickF rfl rfl rfl) _) rfl rfl ?_
        refine GoR.op ((op_assign rfl) _) rfl rfl ?_
        refine GoR.nil ?_
        refine Go1.ret1 Try.func6 rfl ?_
        exact ⟨false, rfl, hB.same, H⟩
     ·replace H := ifp rfl H
      refine GoR.op ((op_eqlB Try.underlying4 rfl rfl) _) rfl rfl ?_
      refine GoR.op ((op_move rfl) _) rfl rfl ?_
      refine GoR.pass rfl rfl ?_
      refine GoR.pass rfl rfl ?_
      refine GoR.pass rfl rfl ?_
      refine GoR.pass rfl rfl ?_
      refine GoR.pass rfl rfl ?_
      refine GoR.pass rfl rfl ?_
      refine GoR.pass rfl rfl ?_
      refine GoR.pass rfl rfl ?_
      refine GoR.op ((op_pickF rfl rfl rfl) _) rfl rfl ?_
      refine GoR.op ((op_move rfl) _) rfl rfl ?_
      refine GoR.pass rfl rfl ?_
      refine GoR.pass rfl rfl ?_
      refine GoR.pass rfl rfl ?_
      refine GoR.pass rfl rfl ?_
      refine GoR.pass rfl rfl ?_
      refine GoR.pass rfl rfl ?_
      refine GoR.pass rfl rfl ?_
      refine GoR.pass rfl rfl ?_
      refine GoR.op ((op_pickF rfl rfl rfl) _) rfl rfl ?_
      refine GoR.op ((op_move rfl) _) rfl rfl ?_
      refine GoR.pass rfl rfl ?_
      refine GoR.pass rfl rfl ?_
      refine GoR.pass rfl rfl ?_
      refine GoR.pass rfl rfl ?_
      refine GoR.pass rfl rfl ?_
      refine GoR.pass rfl rfl ?_
      refine GoR.pass rfl rfl ?_
      refine GoR.pass rfl rfl ?_
      refine GoR.pass rfl rfl ?_
      refine GoR.op ((op_pickF rfl rfl rfl) _) rfl rfl ?_
      refine GoR.op ((op_move rfl) _) rfl rfl ?_
      refine GoR.pass rfl rfl ?_
      refine GoR.op ((op_pickF rfl rfl rfl) _) rfl rfl ?_
      refine GoR.op ((op_assign rfl) _) rfl rfl ?_
      refine GoR.nil ?_
      refine Go1.ret1 Try.func6 rfl ?_
      exact ⟨false, rfl, hB.same, H⟩
 ·replace H := ifp rfl H
  refine Go1.condT rfl rfl ?_
  refine Go1.seq ?_
  refine Go1.region ?_
  refine GoR.call (op_call body14 rfl (walk_law15_awake hO.lt H)) rfl rfl ?_
  rintro v156 w153 ⟨r152, rfl, hs154, H⟩
  have hst157 := Stp.same hO hs154
  replace hO := hst157.own
  replace h_a0 := h_a0.ch hst157.ch
  replace hB := hB.trans hst157.fr
  refine GoR.op ((op_assign rfl) _) rfl rfl ?_
  refine GoR.nil ?_
  refine Go1.ret1 Try.func6 rfl ?_
  exact ⟨r152, rfl, hB.same, H⟩
end Sg
