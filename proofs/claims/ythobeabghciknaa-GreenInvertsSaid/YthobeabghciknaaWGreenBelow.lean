/- The walks: each call keeps to its plain transformer. Printed by walkgen.py. -/
import Derived.Test.YthobeabghciknaaTi
import Derived.Test.YthobeabghciknaaWGreenClasses
namespace Sg
open Go Go.RowKit Go.Proofs
set_option linter.unusedVariables false
set_option linter.unusedSimpArgs false
set_option maxRecDepth 100000
set_option maxHeartbeats 4000000
theorem body60 : Body Try.prog 60 := ⟨Try.f60, Try.func60, rfl, by kernel_rfl⟩
theorem walk_green_areElements {A : List Nat} {w0 : World} {p_t : Option Addr} {c_t : Nat} {t : List (List Int)} {x : Int} {y : Int} (hA : ∀ b ∈ A, b < w0.heap.size) (h_t : ISl (Rp.sl (Rp.int .i64)) A w0 p_t c_t t) {K : Bool → Prop} (H : green_areElements t x y K) :
    CallsV Try.prog 60 #[.slice p_t t.length c_t, .int .i64 x, .int .i64 y] w0 (fun v w' => ∃ (r0 : Bool), v = .bool r0 ∧ Same w0 w' ∧ K r0) := by
 refine CallsV.of (l := [.slice p_t t.length c_t, .int .i64 x, .int .i64 y]) Try.func60 rfl Try.ntmps60 rfl ?_
 have hO := Owns.start hA
 have hB := Fr.refl (bl []) w0
 unfold green_areElements at H
 replace h_t := h_t.ch (Ch.start A w0)
 refine Go1.seq ?_
 refine Go1.region ?_
 refine GoR.op ((op_assign rfl) _) rfl rfl ?_
 refine GoR.nil ?_
 refine Go1.seq ?_
 refine Go1.region ?_
 refine GoR.op ((op_move rfl) _) rfl rfl ?_
 refine GoR.op ((op_move rfl) _) rfl rfl ?_
 by_cases h1 : y < x
 ·replace H := ifp h1 H
  refine GoR.op ((op_minT rfl rfl h1) _) rfl rfl ?_
  by_cases h2 : (0 : Int) ≤ y
  ·replace H := ifp h2 H
   refine GoR.op ((fun w => opB (op_geq rfl rfl w) (decide_eq_true h2)) _) rfl rfl ?_
   refine GoR.op ((op_move rfl) _) rfl rfl ?_
   refine GoR.op ((op_move rfl) _) rfl rfl ?_
   refine GoR.op ((op_move rfl) _) rfl rfl ?_
   by_cases h3 : x < y
   ·replace H := ifp h3 H
    refine GoR.op ((op_maxT rfl rfl h3) _) rfl rfl ?_
    refine GoR.op ((op_move rfl) _) rfl rfl ?_
    refine GoR.op ((op_len Try.underlying22 rfl) _) rfl rfl ?_
    replace H := H h_t.bd
    by_cases h4 : y < (t.length : Int)
    ·replace H := ifp h4 H
     refine GoR.op ((fun w => opB (op_lss rfl rfl w) (decide_eq_true h4)) _) rfl rfl ?_
     refine GoR.op ((op_pickT rfl rfl rfl) _) rfl rfl ?_
     refine GoR.op ((op_move rfl) _) rfl rfl ?_
     refine GoR.op ((op_move rfl) _) rfl rfl ?_
     refine GoR.call (op_call body45 rfl (walk_mult_Validate hO.lt h_t H)) rfl rfl ?_
     rintro v9 w6 ⟨r5, rfl, hs7, H⟩
     have hst10 := Stp.same hO hs7
     replace hO := hst10.own
     replace h_t := h_t.ch hst10.ch
     replace hB := hB.trans hst10.fr
     by_cases h11 : r5 = (0 : Int)
     ·replace H := ifp h11 H
      refine GoR.op ((fun w => opB (op_eql rfl rfl w) (decide_eq_true h11)) _) rfl rfl ?_
      refine GoR.op ((op_pickT rfl rfl rfl) _) rfl rfl ?_
      refine GoR.op ((op_assign rfl) _) rfl rfl ?_
      refine GoR.nil ?_
      refine Go1.ret1 Try.func60 rfl ?_
      exact ⟨true, rfl, hB.same, H⟩
     ·replace H := ifn h11 H
      refine GoR.op ((fun w => opB (op_eql rfl rfl w) (decide_eq_false h11)) _) rfl rfl ?_
      refine GoR.op ((op_pickT rfl rfl rfl) _) rfl rfl ?_
      refine GoR.op ((op_assign rfl) _) rfl rfl ?_
      refine GoR.nil ?_
      refine Go1.ret1 Try.func60 rfl ?_
      exact ⟨false, rfl, hB.same, H⟩
    ·replace H := ifn h4 H
     refine GoR.op ((fun w => opB (op_lss rfl rfl w) (decide_eq_false h4)) _) rfl rfl ?_
     refine GoR.op ((op_pickT rfl rfl rfl) _) rfl rfl ?_
     refine GoR.op ((op_move rfl) _) rfl rfl ?_
     refine GoR.pass rfl rfl ?_
     refine GoR.pass rfl rfl ?_
     refine GoR.pass rfl rfl ?_
     refine GoR.op ((op_pickF rfl rfl rfl) _) rfl rfl ?_
     refine GoR.op ((op_assign rfl) _) rfl rfl ?_
     refine GoR.nil ?_
     refine Go1.ret1 Try.func60 rfl ?_
     exact ⟨false, rfl, hB.same, H⟩
   ·replace H := ifn h3 H
    refine GoR.op ((op_maxF rfl rfl h3) _) rfl rfl ?_
    refine GoR.op ((op_move rfl) _) rfl rfl ?_
    refine GoR.op ((op_len Try.underlying22 rfl) _) rfl rfl ?_
    replace H := H h_t.bd
    by_cases h12 : x < (t.length : Int)
    ·replace H := ifp h12 H
     refine GoR.op ((fun w => opB (op_lss rfl rfl w) (decide_eq_true h12)) _) rfl rfl ?_
     refine GoR.op ((op_pickT rfl rfl rfl) _) rfl rfl ?_
     refine GoR.op ((op_move rfl) _) rfl rfl ?_
     refine GoR.op ((op_move rfl) _) rfl rfl ?_
     refine GoR.call (op_call body45 rfl (walk_mult_Validate hO.lt h_t H)) rfl rfl ?_
     rintro v17 w14 ⟨r13, rfl, hs15, H⟩
     have hst18 := Stp.same hO hs15
     replace hO := hst18.own
     replace h_t := h_t.ch hst18.ch
     replace hB := hB.trans hst18.fr
     by_cases h19 : r13 = (0 : Int)
     ·replace H := ifp h19 H
      refine GoR.op ((fun w => opB (op_eql rfl rfl w) (decide_eq_true h19)) _) rfl rfl ?_
      refine GoR.op ((op_pickT rfl rfl rfl) _) rfl rfl ?_
      refine GoR.op ((op_assign rfl) _) rfl rfl ?_
      refine GoR.nil ?_
      refine Go1.ret1 Try.func60 rfl ?_
      exact ⟨true, rfl, hB.same, H⟩
     ·replace H := ifn h19 H
      refine GoR.op ((fun w => opB (op_eql rfl rfl w) (decide_eq_false h19)) _) rfl rfl ?_
      refine GoR.op ((op_pickT rfl rfl rfl) _) rfl rfl ?_
      refine GoR.op ((op_assign rfl) _) rfl rfl ?_
      refine GoR.nil ?_
      refine Go1.ret1 Try.func60 rfl ?_
      exact ⟨false, rfl, hB.same, H⟩
    ·replace H := ifn h12 H
     refine GoR.op ((fun w => opB (op_lss rfl rfl w) (decide_eq_false h12)) _) rfl rfl ?_
     refine GoR.op ((op_pickT rfl rfl rfl) _) rfl rfl ?_
     refine GoR.op ((op_move rfl) _) rfl rfl ?_
     refine GoR.pass rfl rfl ?_
     refine GoR.pass rfl rfl ?_
     refine GoR.pass rfl rfl ?_
     refine GoR.op ((op_pickF rfl rfl rfl) _) rfl rfl ?_
     refine GoR.op ((op_assign rfl) _) rfl rfl ?_
     refine GoR.nil ?_
     refine Go1.ret1 Try.func60 rfl ?_
     exact ⟨false, rfl, hB.same, H⟩
  ·replace H := ifn h2 H
   refine GoR.op ((fun w => opB (op_geq rfl rfl w) (decide_eq_false h2)) _) rfl rfl ?_
   refine GoR.op ((op_move rfl) _) rfl rfl ?_
   refine GoR.pass rfl rfl ?_
   refine GoR.pass rfl rfl ?_
   refine GoR.pass rfl rfl ?_
   refine GoR.pass rfl rfl ?_
   refine GoR.pass rfl rfl ?_
   refine GoR.pass rfl rfl ?_
   refine GoR.op ((op_pickF rfl rfl rfl) _) rfl rfl ?_
   refine GoR.op ((op_move rfl) _) rfl rfl ?_
   refine GoR.pass rfl rfl ?_
   refine GoR.pass rfl rfl ?_
   refine GoR.pass rfl rfl ?_
   refine GoR.op ((op_pickF rfl rfl rfl) _) rfl rfl ?_
   refine GoR.op ((op_assign rfl) _) rfl rfl ?_
   refine GoR.nil ?_
   refine Go1.ret1 Try.func60 rfl ?_
   exact ⟨false, rfl, hB.same, H⟩
 ·replace H := ifn h1 H
  refine GoR.op ((op_minF rfl rfl h1) _) rfl rfl ?_
  by_cases h20 : (0 : Int) ≤ x
  ·replace H := ifp h20 H
   refine GoR.op ((fun w => opB (op_geq rfl rfl w) (decide_eq_true h20)) _) rfl rfl ?_
   refine GoR.op ((op_move rfl) _) rfl rfl ?_
   refine GoR.op ((op_move rfl) _) rfl rfl ?_
   refine GoR.op ((op_move rfl) _) rfl rfl ?_
   by_cases h21 : x < y
   ·replace H := ifp h21 H
    refine GoR.op ((op_maxT rfl rfl h21) _) rfl rfl ?_
    refine GoR.op ((op_move rfl) _) rfl rfl ?_
    refine GoR.op ((op_len Try.underlying22 rfl) _) rfl rfl ?_
    replace H := H h_t.bd
    by_cases h22 : y < (t.length : Int)
    ·replace H := ifp h22 H
     refine GoR.op ((fun w => opB (op_lss rfl rfl w) (decide_eq_true h22)) _) rfl rfl ?_
     refine GoR.op ((op_pickT rfl rfl rfl) _) rfl rfl ?_
     refine GoR.op ((op_move rfl) _) rfl rfl ?_
     refine GoR.op ((op_move rfl) _) rfl rfl ?_
     refine GoR.call (op_call body45 rfl (walk_mult_Validate hO.lt h_t H)) rfl rfl ?_
     rintro v27 w24 ⟨r23, rfl, hs25, H⟩
     have hst28 := Stp.same hO hs25
     replace hO := hst28.own
     replace h_t := h_t.ch hst28.ch
     replace hB := hB.trans hst28.fr
     by_cases h29 : r23 = (0 : Int)
     ·replace H := ifp h29 H
      refine GoR.op ((fun w => opB (op_eql rfl rfl w) (decide_eq_true h29)) _) rfl rfl ?_
      refine GoR.op ((op_pickT rfl rfl rfl) _) rfl rfl ?_
      refine GoR.op ((op_assign rfl) _) rfl rfl ?_
      refine GoR.nil ?_
      refine Go1.ret1 Try.func60 rfl ?_
      exact ⟨true, rfl, hB.same, H⟩
     ·replace H := ifn h29 H
      refine GoR.op ((fun w => opB (op_eql rfl rfl w) (decide_eq_false h29)) _) rfl rfl ?_
      refine GoR.op ((op_pickT rfl rfl rfl) _) rfl rfl ?_
      refine GoR.op ((op_assign rfl) _) rfl rfl ?_
      refine GoR.nil ?_
      refine Go1.ret1 Try.func60 rfl ?_
      exact ⟨false, rfl, hB.same, H⟩
    ·replace H := ifn h22 H
     refine GoR.op ((fun w => opB (op_lss rfl rfl w) (decide_eq_false h22)) _) rfl rfl ?_
     refine GoR.op ((op_pickT rfl rfl rfl) _) rfl rfl ?_
     refine GoR.op ((op_move rfl) _) rfl rfl ?_
     refine GoR.pass rfl rfl ?_
     refine GoR.pass rfl rfl ?_
     refine GoR.pass rfl rfl ?_
     refine GoR.op ((op_pickF rfl rfl rfl) _) rfl rfl ?_
     refine GoR.op ((op_assign rfl) _) rfl rfl ?_
     refine GoR.nil ?_
     refine Go1.ret1 Try.func60 rfl ?_
     exact ⟨false, rfl, hB.same, H⟩
   ·replace H := ifn h21 H
    refine GoR.op ((op_maxF rfl rfl h21) _) rfl rfl ?_
    refine GoR.op ((op_move rfl) _) rfl rfl ?_
    refine GoR.op ((op_len Try.underlying22 rfl) _) rfl rfl ?_
    replace H := H h_t.bd
    by_cases h30 : x < (t.length : Int)
    ·replace H := ifp h30 H
     refine GoR.op ((fun w => opB (op_lss rfl rfl w) (decide_eq_true h30)) _) rfl rfl ?_
     refine GoR.op ((op_pickT rfl rfl rfl) _) rfl rfl ?_
     refine GoR.op ((op_move rfl) _) rfl rfl ?_
     refine GoR.op ((op_move rfl) _) rfl rfl ?_
     refine GoR.call (op_call body45 rfl (walk_mult_Validate hO.lt h_t H)) rfl rfl ?_
     rintro v35 w32 ⟨r31, rfl, hs33, H⟩
     have hst36 := Stp.same hO hs33
     replace hO := hst36.own
     replace h_t := h_t.ch hst36.ch
     replace hB := hB.trans hst36.fr
     by_cases h37 : r31 = (0 : Int)
     ·replace H := ifp h37 H
      refine GoR.op ((fun w => opB (op_eql rfl rfl w) (decide_eq_true h37)) _) rfl rfl ?_
      refine GoR.op ((op_pickT rfl rfl rfl) _) rfl rfl ?_
      refine GoR.op ((op_assign rfl) _) rfl rfl ?_
      refine GoR.nil ?_
      refine Go1.ret1 Try.func60 rfl ?_
      exact ⟨true, rfl, hB.same, H⟩
     ·replace H := ifn h37 H
      refine GoR.op ((fun w => opB (op_eql rfl rfl w) (decide_eq_false h37)) _) rfl rfl ?_
      refine GoR.op ((op_pickT rfl rfl rfl) _) rfl rfl ?_
      refine GoR.op ((op_assign rfl) _) rfl rfl ?_
      refine GoR.nil ?_
      refine Go1.ret1 Try.func60 rfl ?_
      exact ⟨false, rfl, hB.same, H⟩
    ·replace H := ifn h30 H
     refine GoR.op ((fun w => opB (op_lss rfl rfl w) (decide_eq_false h30)) _) rfl rfl ?_
     refine GoR.op ((op_pickT rfl rfl rfl) _) rfl rfl ?_
     refine GoR.op ((op_move rfl) _) rfl rfl ?_
     refine GoR.pass rfl rfl ?_
     refine GoR.pass rfl rfl ?_
     refine GoR.pass rfl rfl ?_
     refine GoR.op ((op_pickF rfl rfl rfl) _) rfl rfl ?_
     refine GoR.op ((op_assign rfl) _) rfl rfl ?_
     refine GoR.nil ?_
     refine Go1.ret1 Try.func60 rfl ?_
     exact ⟨false, rfl, hB.same, H⟩
  ·replace H := ifn h20 H
   refine GoR.op ((fun w => opB (op_geq rfl rfl w) (decide_eq_false h20)) _) rfl rfl ?_
   refine GoR.op ((op_move rfl) _) rfl rfl ?_
   refine GoR.pass rfl rfl ?_
   refine GoR.pass rfl rfl ?_
   refine GoR.pass rfl rfl ?_
   refine GoR.pass rfl rfl ?_
   refine GoR.pass rfl rfl ?_
   refine GoR.pass rfl rfl ?_
   refine GoR.op ((op_pickF rfl rfl rfl) _) rfl rfl ?_
   refine GoR.op ((op_move rfl) _) rfl rfl ?_
   refine GoR.pass rfl rfl ?_
   refine GoR.pass rfl rfl ?_
   refine GoR.pass rfl rfl ?_
   refine GoR.op ((op_pickF rfl rfl rfl) _) rfl rfl ?_
   refine GoR.op ((op_assign rfl) _) rfl rfl ?_
   refine GoR.nil ?_
   refine Go1.ret1 Try.func60 rfl ?_
   exact ⟨false, rfl, hB.same, H⟩
end Sg
