/- The walks: each call keeps to its plain transformer. Printed by walkgen.py. -/
import Derived.Test.YtjegmdkaiddokaaWTransCycles
namespace Sg
open Go Go.RowKit Go.Proofs
set_option linter.unusedVariables false
set_option maxRecDepth 100000
set_option maxHeartbeats 4000000
theorem body10 : Body Try.prog 10 := ⟨Try.f10, Try.func10, rfl, by kernel_rfl⟩
theorem walk_law11_TransRepeats {A : List Nat} {w0 : World} {p_a0 : Option Addr} {c_a0 : Nat} {a0 : List Int} {a1 : Int} (hA : ∀ b ∈ A, b < w0.heap.size) (h_a0 : ISl (Rp.int .i64) A w0 p_a0 c_a0 a0) {K : Bool → Prop} (H : law11_TransRepeats a0 a1 K) :
    CallsV Try.prog 10 #[.slice p_a0 a0.length c_a0, .int .u8 a1] w0 (fun v w' => ∃ (r0 : Bool), v = .bool r0 ∧ Same w0 w' ∧ K r0) := by
 refine CallsV.of (l := [.slice p_a0 a0.length c_a0, .int .u8 a1]) Try.func10 rfl Try.ntmps10 rfl ?_
 have hO := Owns.start hA
 have hB := Fr.refl (bl []) w0
 unfold law11_TransRepeats at H
 replace h_a0 := h_a0.ch (Ch.start A w0)
 refine Go1.seq ?_
 refine Go1.region ?_
 refine GoR.op ((op_assign rfl) _) rfl rfl ?_
 refine GoR.nil ?_
 refine Go1.seq ?_
 refine Go1.seq ?_
 refine Go1.region ?_
 refine GoR.op ((op_move rfl) _) rfl rfl ?_
 refine GoR.call (op_call body22 rfl (walk_ref11_Valid hO.lt h_a0 H)) rfl rfl ?_
 rintro v5 w2 ⟨r1, rfl, hs3, H⟩
 have hst6 := Stp.same hO hs3
 replace hO := hst6.own
 replace h_a0 := h_a0.ch hst6.ch
 replace hB := hB.trans hst6.fr
 cases r1
 ·replace H := ifn Bool.false_ne_true H
  refine GoR.op ((op_not rfl) _) rfl rfl ?_
  refine GoR.op ((op_move rfl) _) rfl rfl ?_
  refine GoR.pass rfl rfl ?_
  refine GoR.pass rfl rfl ?_
  refine GoR.pass rfl rfl ?_
  refine GoR.op ((op_pickT rfl rfl rfl) _) rfl rfl ?_
  refine GoR.nil ?_
  refine Go1.condT rfl rfl ?_
  refine Go1.seq ?_
  refine Go1.region ?_
  refine GoR.call (op_call body17 rfl (walk_law11_awake hO.lt H)) rfl rfl ?_
  rintro v11 w8 ⟨r7, rfl, hs9, H⟩
  have hst12 := Stp.same hO hs9
  replace hO := hst12.own
  replace h_a0 := h_a0.ch hst12.ch
  replace hB := hB.trans hst12.fr
  refine GoR.op ((op_assign rfl) _) rfl rfl ?_
  refine GoR.nil ?_
  refine Go1.ret1 Try.func10 rfl ?_
  exact ⟨r7, rfl, hB.same, H⟩
 ·replace H := ifp rfl H
  refine GoR.op ((op_not rfl) _) rfl rfl ?_
  refine GoR.op ((op_move rfl) _) rfl rfl ?_
  refine GoR.op ((op_move rfl) _) rfl rfl ?_
  refine GoR.op ((op_len Try.underlying22 rfl) _) rfl rfl ?_
  replace H := H h_a0.bd
  by_cases h13 : (16 : Int) < (a0.length : Int)
  ·replace H := ifp h13 H
   refine GoR.op ((fun w => opB (op_gtr rfl rfl w) (decide_eq_true h13)) _) rfl rfl ?_
   refine GoR.op ((op_pickF rfl rfl rfl) _) rfl rfl ?_
   refine GoR.nil ?_
   refine Go1.condT rfl rfl ?_
   refine Go1.seq ?_
   refine Go1.region ?_
   refine GoR.call (op_call body17 rfl (walk_law11_awake hO.lt H)) rfl rfl ?_
   rintro v18 w15 ⟨r14, rfl, hs16, H⟩
   have hst19 := Stp.same hO hs16
   replace hO := hst19.own
   replace h_a0 := h_a0.ch hst19.ch
   replace hB := hB.trans hst19.fr
   refine GoR.op ((op_assign rfl) _) rfl rfl ?_
   refine GoR.nil ?_
   refine Go1.ret1 Try.func10 rfl ?_
   exact ⟨r14, rfl, hB.same, H⟩
  ·replace H := ifn h13 H
   refine GoR.op ((fun w => opB (op_gtr rfl rfl w) (decide_eq_false h13)) _) rfl rfl ?_
   refine GoR.op ((op_pickF rfl rfl rfl) _) rfl rfl ?_
   refine GoR.nil ?_
   refine Go1.condF rfl rfl ?_
   refine Go1.skip ?_
   refine Go1.seq ?_
   refine Go1.region ?_
   refine GoR.op ((op_move rfl) _) rfl rfl ?_
   refine GoR.call (op_call body37 rfl (walk_trans_IndexPeriod hO.lt h_a0 H)) rfl rfl ?_
   rintro v25 w22 ⟨r20, r21, rfl, hs23, H⟩
   have hst26 := Stp.same hO hs23
   replace hO := hst26.own
   replace h_a0 := h_a0.ch hst26.ch
   replace hB := hB.trans hst26.fr
   refine GoR.op ((op_move rfl) _) rfl rfl ?_
   refine GoR.op ((op_extract rfl rfl) _) rfl rfl ?_
   refine GoR.op ((op_extract rfl rfl) _) rfl rfl ?_
   refine GoR.op ((op_assign rfl) _) rfl rfl ?_
   refine GoR.op ((op_assign rfl) _) rfl rfl ?_
   refine GoR.nil ?_
   refine Go1.seq ?_
   refine Go1.seq ?_
   refine Go1.region ?_
   refine GoR.op ((op_move rfl) _) rfl rfl ?_
   by_cases h27 : r20 < (1 : Int)
   ·replace H := ifp h27 H
    refine GoR.op ((fun w => opB (op_lss rfl rfl w) (decide_eq_true h27)) _) rfl rfl ?_
    refine GoR.op ((op_move rfl) _) rfl rfl ?_
    refine GoR.pass rfl rfl ?_
    refine GoR.pass rfl rfl ?_
    refine GoR.op ((op_pickT rfl rfl rfl) _) rfl rfl ?_
    refine GoR.op ((op_move rfl) _) rfl rfl ?_
    refine GoR.pass rfl rfl ?_
    refine GoR.pass rfl rfl ?_
    refine GoR.pass rfl rfl ?_
    refine GoR.pass rfl rfl ?_
    refine GoR.pass rfl rfl ?_
    refine GoR.pass rfl rfl ?_
    refine GoR.pass rfl rfl ?_
    refine GoR.pass rfl rfl ?_
    refine GoR.pass rfl rfl ?_
    refine GoR.pass rfl rfl ?_
    refine GoR.pass rfl rfl ?_
    refine GoR.pass rfl rfl ?_
    refine GoR.pass rfl rfl ?_
    refine GoR.pass rfl rfl ?_
    refine GoR.pass rfl rfl ?_
    refine GoR.pass rfl rfl ?_
    refine GoR.op ((op_pickT rfl rfl rfl) _) rfl rfl ?_
    refine GoR.op ((op_move rfl) _) rfl rfl ?_
    refine GoR.pass rfl rfl ?_
    refine GoR.pass rfl rfl ?_
    refine GoR.pass rfl rfl ?_
    refine GoR.pass rfl rfl ?_
    refine GoR.pass rfl rfl ?_
    refine GoR.pass rfl rfl ?_
    refine GoR.pass rfl rfl ?_
    refine GoR.pass rfl rfl ?_
    refine GoR.pass rfl rfl ?_
    refine GoR.pass rfl rfl ?_
    refine GoR.pass rfl rfl ?_
    refine GoR.pass rfl rfl ?_
    refine GoR.pass rfl rfl ?_
    refine GoR.pass rfl rfl ?_
    refine GoR.pass rfl rfl ?_
    refine GoR.op ((op_pickT rfl rfl rfl) _) rfl rfl ?_
    refine GoR.nil ?_
    refine Go1.condT rfl rfl ?_
    refine Go1.seq ?_
    refine Go1.region ?_
    refine GoR.op ((op_assign rfl) _) rfl rfl ?_
    refine GoR.nil ?_
    refine Go1.ret1 Try.func10 rfl ?_
    exact ⟨false, rfl, hB.same, H⟩
   ·replace H := ifn h27 H
    refine GoR.op ((fun w => opB (op_lss rfl rfl w) (decide_eq_false h27)) _) rfl rfl ?_
    refine GoR.op ((op_move rfl) _) rfl rfl ?_
    refine GoR.op ((op_move rfl) _) rfl rfl ?_
    by_cases h28 : r21 < (1 : Int)
    ·replace H := ifp h28 H
     refine GoR.op ((fun w => opB (op_lss rfl rfl w) (decide_eq_true h28)) _) rfl rfl ?_
     refine GoR.op ((op_pickF rfl rfl rfl) _) rfl rfl ?_
     refine GoR.op ((op_move rfl) _) rfl rfl ?_
     refine GoR.pass rfl rfl ?_
     refine GoR.pass rfl rfl ?_
     refine GoR.pass rfl rfl ?_
     refine GoR.pass rfl rfl ?_
     refine GoR.pass rfl rfl ?_
     refine GoR.pass rfl rfl ?_
     refine GoR.pass rfl rfl ?_
     refine GoR.pass rfl rfl ?_
     refine GoR.pass rfl rfl ?_
     refine GoR.pass rfl rfl ?_
     refine GoR.pass rfl rfl ?_
     refine GoR.pass rfl rfl ?_
     refine GoR.pass rfl rfl ?_
     refine GoR.pass rfl rfl ?_
     refine GoR.pass rfl rfl ?_
     refine GoR.pass rfl rfl ?_
     refine GoR.op ((op_pickT rfl rfl rfl) _) rfl rfl ?_
     refine GoR.op ((op_move rfl) _) rfl rfl ?_
     refine GoR.pass rfl rfl ?_
     refine GoR.pass rfl rfl ?_
     refine GoR.pass rfl rfl ?_
     refine GoR.pass rfl rfl ?_
     refine GoR.pass rfl rfl ?_
     refine GoR.pass rfl rfl ?_
     refine GoR.pass rfl rfl ?_
     refine GoR.pass rfl rfl ?_
     refine GoR.pass rfl rfl ?_
     refine GoR.pass rfl rfl ?_
     refine GoR.pass rfl rfl ?_
     refine GoR.pass rfl rfl ?_
     refine GoR.pass rfl rfl ?_
     refine GoR.pass rfl rfl ?_
     refine GoR.pass rfl rfl ?_
     refine GoR.op ((op_pickT rfl rfl rfl) _) rfl rfl ?_
     refine GoR.nil ?_
     refine Go1.condT rfl rfl ?_
     refine Go1.seq ?_
     refine Go1.region ?_
     refine GoR.op ((op_assign rfl) _) rfl rfl ?_
     refine GoR.nil ?_
     refine Go1.ret1 Try.func10 rfl ?_
     exact ⟨false, rfl, hB.same, H⟩
    ·replace H := ifn h28 H
     refine GoR.op ((fun w => opB (op_lss rfl rfl w) (decide_eq_false h28)) _) rfl rfl ?_
     refine GoR.op ((op_pickF rfl rfl rfl) _) rfl rfl ?_
     refine GoR.op ((op_move rfl) _) rfl rfl ?_
     refine GoR.op ((op_move rfl) _) rfl rfl ?_
     refine GoR.op ((op_move rfl) _) rfl rfl ?_
     refine GoR.op ((op_move rfl) _) rfl rfl ?_
     refine GoR.op ((op_conv Try.underlying5 Try.underlying3 rfl rfl) _) rfl rfl ?_
     obtain ⟨h29, H⟩ := H
     refine GoR.op ((op_add rfl rfl (wrap_i64 h29)) _) rfl rfl ?_
     refine GoR.call (op_call body27 rfl (walk_trans_Power hO.lt h_a0 H)) rfl rfl ?_
     rintro v34 w31 ⟨r30, p_r30, c_r30, rfl, hs32, h_r30, H⟩
     have hst35 := Stp.same hO hs32
     replace hO := hst35.own
     replace h_a0 := h_a0.ch hst35.ch
     replace hB := hB.trans hst35.fr
     refine GoR.op ((op_move rfl) _) rfl rfl ?_
     refine GoR.op ((op_move rfl) _) rfl rfl ?_
     refine GoR.op ((op_move rfl) _) rfl rfl ?_
     refine GoR.op ((op_conv Try.underlying5 Try.underlying3 rfl rfl) _) rfl rfl ?_
     obtain ⟨h36, H⟩ := H
     refine GoR.op ((op_add rfl rfl (wrap_i64 h36)) _) rfl rfl ?_
     refine GoR.op ((op_move rfl) _) rfl rfl ?_
     obtain ⟨h37, H⟩ := H
     refine GoR.op ((op_add rfl rfl (wrap_i64 h37)) _) rfl rfl ?_
     refine GoR.call (op_call body27 rfl (walk_trans_Power hO.lt h_a0 H)) rfl rfl ?_
     rintro v42 w39 ⟨r38, p_r38, c_r38, rfl, hs40, h_r38, H⟩
     have hst43 := Stp.same hO hs40
     replace hO := hst43.own
     replace h_a0 := h_a0.ch hst43.ch
     replace h_r30 := h_r30.ch hst43.ch
     replace hB := hB.trans hst43.fr
     refine GoR.call (op_call body18 rfl (walk_ref03_Same hO.lt h_r30 h_r38 H)) rfl rfl ?_
     rintro v48 w45 ⟨r44, rfl, hs46, H⟩
     have hst49 := Stp.same hO hs46
     replace hO := hst49.own
     replace h_a0 := h_a0.ch hst49.ch
     replace h_r30 := h_r30.ch hst49.ch
     replace h_r38 := h_r38.ch hst49.ch
     replace hB := hB.trans hst49.fr
     cases r44
     ·replace H := ifn Bool.false_ne_true H
      refine GoR.op ((op_not rfl) _) rfl rfl ?_
      refine GoR.op ((op_pickF rfl rfl rfl) _) rfl rfl ?_
      refine GoR.op ((op_move rfl) _) rfl rfl ?_
      refine GoR.pass rfl rfl ?_
      refine GoR.pass rfl rfl ?_
      refine GoR.pass rfl rfl ?_
      refine GoR.pass rfl rfl ?_
      refine GoR.pass rfl rfl ?_
      refine GoR.pass rfl rfl ?_
      refine GoR.pass rfl rfl ?_
      refine GoR.pass rfl rfl ?_
      refine GoR.pass rfl rfl ?_
      refine GoR.pass rfl rfl ?_
      refine GoR.pass rfl rfl ?_
      refine GoR.pass rfl rfl ?_
      refine GoR.pass rfl rfl ?_
      refine GoR.pass rfl rfl ?_
      refine GoR.pass rfl rfl ?_
      refine GoR.op ((op_pickT rfl rfl rfl) _) rfl rfl ?_
      refine GoR.nil ?_
      refine Go1.condT rfl rfl ?_
      refine Go1.seq ?_
      refine Go1.region ?_
      refine GoR.op ((op_assign rfl) _) rfl rfl ?_
      refine GoR.nil ?_
      refine Go1.ret1 Try.func10 rfl ?_
      exact ⟨false, rfl, hB.same, H⟩
     ·replace H := ifp rfl H
      refine GoR.op ((op_not rfl) _) rfl rfl ?_
      refine GoR.op ((op_pickF rfl rfl rfl) _) rfl rfl ?_
      refine GoR.op ((op_move rfl) _) rfl rfl ?_
      refine GoR.op ((op_move rfl) _) rfl rfl ?_
      by_cases h50 : (1 : Int) < r20
      ·replace H := ifp h50 H
       refine GoR.op ((fun w => opB (op_gtr rfl rfl w) (decide_eq_true h50)) _) rfl rfl ?_
       refine GoR.op ((op_move rfl) _) rfl rfl ?_
       refine GoR.op ((op_move rfl) _) rfl rfl ?_
       refine GoR.op ((op_move rfl) _) rfl rfl ?_
       obtain ⟨h51, H⟩ := H
       refine GoR.op ((op_sub rfl rfl (wrap_i64 h51)) _) rfl rfl ?_
       refine GoR.call (op_call body27 rfl (walk_trans_Power hO.lt h_a0 H)) rfl rfl ?_
       rintro v56 w53 ⟨r52, p_r52, c_r52, rfl, hs54, h_r52, H⟩
       have hst57 := Stp.same hO hs54
       replace hO := hst57.own
       replace h_a0 := h_a0.ch hst57.ch
       replace h_r30 := h_r30.ch hst57.ch
       replace h_r38 := h_r38.ch hst57.ch
       replace hB := hB.trans hst57.fr
       refine GoR.op ((op_move rfl) _) rfl rfl ?_
       refine GoR.op ((op_move rfl) _) rfl rfl ?_
       obtain ⟨h58, H⟩ := H
       refine GoR.op ((op_sub rfl rfl (wrap_i64 h58)) _) rfl rfl ?_
       refine GoR.op ((op_move rfl) _) rfl rfl ?_
       obtain ⟨h59, H⟩ := H
       refine GoR.op ((op_add rfl rfl (wrap_i64 h59)) _) rfl rfl ?_
       refine GoR.call (op_call body27 rfl (walk_trans_Power hO.lt h_a0 H)) rfl rfl ?_
       rintro v64 w61 ⟨r60, p_r60, c_r60, rfl, hs62, h_r60, H⟩
       have hst65 := Stp.same hO hs62
       replace hO := hst65.own
       replace h_a0 := h_a0.ch hst65.ch
       replace h_r30 := h_r30.ch hst65.ch
       replace h_r38 := h_r38.ch hst65.ch
       replace h_r52 := h_r52.ch hst65.ch
       replace hB := hB.trans hst65.fr
       refine GoR.call (op_call body18 rfl (walk_ref03_Same hO.lt h_r52 h_r60 H)) rfl rfl ?_
       rintro v70 w67 ⟨r66, rfl, hs68, H⟩
       have hst71 := Stp.same hO hs68
       replace hO := hst71.own
       replace h_a0 := h_a0.ch hst71.ch
       replace h_r30 := h_r30.ch hst71.ch
       replace h_r38 := h_r38.ch hst71.ch
       replace h_r52 := h_r52.ch hst71.ch
       replace h_r60 := h_r60.ch hst71.ch
       replace hB := hB.trans hst71.fr
       refine GoR.op ((op_pickT rfl rfl rfl) _) rfl rfl ?_
       refine GoR.op ((op_pickF rfl rfl rfl) _) rfl rfl ?_
       refine GoR.nil ?_
       cases r66
       ·replace H := ifn Bool.false_ne_true H
        refine Go1.condF rfl rfl ?_
        refine Go1.skip ?_
        refine Go1.seq ?_
        refine Go1.region ?_
        refine GoR.op ((op_assign rfl) _) rfl rfl ?_
        refine GoR.nil ?_
        refine Go1.seq ?_
        refine Go1.seq ?_
        refine Go1.region ?_
        refine GoR.op ((op_move rfl) _) rfl rfl ?_
        refine GoR.call (op_call body39 rfl (walk_trans_Cycles hO.lt h_a0 H)) rfl rfl ?_
        rintro v76 w73 ⟨r72, p_r72, c_r72, rfl, hs74, h_r72, H⟩
        have hst77 := Stp.same hO hs74
        replace hO := hst77.own
        replace h_a0 := h_a0.ch hst77.ch
        replace h_r30 := h_r30.ch hst77.ch
        replace h_r38 := h_r38.ch hst77.ch
        replace h_r52 := h_r52.ch hst77.ch
        replace h_r60 := h_r60.ch hst77.ch
        replace hB := hB.trans hst77.fr
        refine GoR.op ((op_len Try.underlying35 rfl) _) rfl rfl ?_
        replace H := H h_r72.bd
        refine GoR.op ((op_move rfl) _) rfl rfl ?_
        refine GoR.nil ?_
        refine Go1.block ?_
        refine Go1.loopW (S := Int × Nat) (fun s σ w => agrees σ [(0, .slice p_a0 a0.length c_a0), (6, .int .i64 r21), (7, .int .i64 (s.1)), (69, .slice p_r72 r72.length c_r72), (70, .int .i64 (r72.length : Int)), (71, .int .i64 ((s.2) : Int))] ∧ Owns w0.heap.size w [] A ∧ ISl (Rp.int .i64) (bl [] ++ A) w p_a0 c_a0 a0 ∧ ISl (Rp.sl (Rp.int .i64)) (bl [] ++ A) w p_r72 c_r72 r72 ∧ Fr (bl []) w0 (bl []) w) H ⟨⟨rfl, rfl, rfl, rfl, rfl, rfl, trivial⟩, hO, h_a0, h_r72, hB⟩ ?_
        rintro X1 ⟨k1_79, k1_80⟩ H hX1 σ w78 ⟨hag, hO, h_a0, h_r72, hB⟩
        dsimp only at H
        refine Go1.keep [(0, .slice p_a0 a0.length c_a0), (6, .int .i64 r21), (7, .int .i64 k1_79), (69, .slice p_r72 r72.length c_r72), (70, .int .i64 (r72.length : Int)), (71, .int .i64 (k1_80 : Int))] hag ?_
        refine Go1.seq ?_
        refine Go1.region ?_
        by_cases h81 : (k1_80 : Int) < (r72.length : Int)
        ·replace H := ifp h81 H
         refine GoR.op ((fun w => opB (op_lss rfl rfl w) (decide_eq_true h81)) _) rfl rfl ?_
         refine GoR.nil ?_
         refine Go1.seq ?_
         refine Go1.condT rfl rfl ?_
         refine Go1.skip ?_
         refine Go1.seq ?_
         refine Go1.block ?_
         refine Go1.seq ?_
         refine Go1.region ?_
         obtain ⟨h82, H⟩ := H
         obtain ⟨h83, H⟩ := H
         refine GoR.op ((op_index Try.underlying35 ti22 rfl rfl h82 h83 (h_r72.some_ h82 h83)) _) rfl rfl ?_
         have hobt := ldSl h_r72 h82 h83
         obtain ⟨p84, c85, hi86, hl87⟩ := hobt
         refine GoR.op ((hl87 Try.underlying22 rfl rfl) _ (Same.refl _)) rfl rfl ?_
         refine GoR.op ((op_assign rfl) _) rfl rfl ?_
         refine GoR.nil ?_
         refine Go1.seq ?_
         refine Go1.region ?_
         refine GoR.op ((op_move rfl) _) rfl rfl ?_
         refine GoR.op ((op_len Try.underlying22 rfl) _) rfl rfl ?_
         replace H := H hi86.bd
         refine GoR.op ((op_assign rfl) _) rfl rfl ?_
         refine GoR.nil ?_
         refine Go1.seq ?_
         refine Go1.seq ?_
         refine Go1.region ?_
         refine GoR.op ((op_move rfl) _) rfl rfl ?_
         by_cases h88 : ((ix r72 (k1_80 : Int)).length : Int) < (1 : Int)
         ·replace H := ifp h88 H
          refine GoR.op ((fun w => opB (op_lss rfl rfl w) (decide_eq_true h88)) _) rfl rfl ?_
          refine GoR.op ((op_move rfl) _) rfl rfl ?_
          refine GoR.pass rfl rfl ?_
          refine GoR.pass rfl rfl ?_
          refine GoR.pass rfl rfl ?_
          refine GoR.pass rfl rfl ?_
          refine GoR.op ((op_pickT rfl rfl rfl) _) rfl rfl ?_
          refine GoR.nil ?_
          refine Go1.condT rfl rfl ?_
          refine Go1.seq ?_
          refine Go1.region ?_
          refine GoR.op ((op_assign rfl) _) rfl rfl ?_
          refine GoR.nil ?_
          refine Go1.ret1 Try.func10 rfl ?_
          exact ⟨false, rfl, hB.same, H⟩
         ·replace H := ifn h88 H
          refine GoR.op ((fun w => opB (op_lss rfl rfl w) (decide_eq_false h88)) _) rfl rfl ?_
          refine GoR.op ((op_move rfl) _) rfl rfl ?_
          refine GoR.op ((op_move rfl) _) rfl rfl ?_
          refine GoR.op ((op_move rfl) _) rfl rfl ?_
          refine GoR.op ((op_len Try.underlying22 rfl) _) rfl rfl ?_
          by_cases h89 : (a0.length : Int) < ((ix r72 (k1_80 : Int)).length : Int)
          ·replace H := ifp h89 H
           refine GoR.op ((fun w => opB (op_gtr rfl rfl w) (decide_eq_true h89)) _) rfl rfl ?_
           refine GoR.op ((op_pickF rfl rfl rfl) _) rfl rfl ?_
           refine GoR.nil ?_
           refine Go1.condT rfl rfl ?_
           refine Go1.seq ?_
           refine Go1.region ?_
           refine GoR.op ((op_assign rfl) _) rfl rfl ?_
           refine GoR.nil ?_
           refine Go1.ret1 Try.func10 rfl ?_
           exact ⟨false, rfl, hB.same, H⟩
          ·replace H := ifn h89 H
           refine GoR.op ((fun w => opB (op_gtr rfl rfl w) (decide_eq_false h89)) _) rfl rfl ?_
           refine GoR.op ((op_pickF rfl rfl rfl) _) rfl rfl ?_
           refine GoR.nil ?_
           refine Go1.condF rfl rfl ?_
           refine Go1.skip ?_
           refine Go1.seq ?_
           refine Go1.region ?_
           refine GoR.op ((op_move rfl) _) rfl rfl ?_
           refine GoR.op ((op_assign rfl) _) rfl rfl ?_
           refine GoR.nil ?_
           refine Go1.block ?_
           refine Go1.loopW (S := Int) (fun s σ w => agrees σ [(0, .slice p_a0 a0.length c_a0), (6, .int .i64 r21), (7, .int .i64 s), (10, .int .i64 ((ix r72 (k1_80 : Int)).length : Int)), (11, .int .i64 k1_79), (69, .slice p_r72 r72.length c_r72), (70, .int .i64 (r72.length : Int)), (71, .int .i64 (k1_80 : Int))] ∧ Owns w0.heap.size w [] A ∧ ISl (Rp.int .i64) (bl [] ++ A) w p_a0 c_a0 a0 ∧ ISl (Rp.sl (Rp.int .i64)) (bl [] ++ A) w p_r72 c_r72 r72 ∧ Fr (bl []) w0 (bl []) w) H ⟨⟨rfl, rfl, rfl, rfl, rfl, rfl, rfl, rfl, trivial⟩, hO, h_a0, h_r72, hB⟩ ?_
           rintro X2 k2_91 H hX2 σ w90 ⟨hag, hO, h_a0, h_r72, hB⟩
           refine Go1.keep [(0, .slice p_a0 a0.length c_a0), (6, .int .i64 r21), (7, .int .i64 k2_91), (10, .int .i64 ((ix r72 (k1_80 : Int)).length : Int)), (11, .int .i64 k1_79), (69, .slice p_r72 r72.length c_r72), (70, .int .i64 (r72.length : Int)), (71, .int .i64 (k1_80 : Int))] hag ?_
           refine Go1.seq ?_
           refine Go1.seq ?_
           refine Go1.region ?_
           refine GoR.op ((op_move rfl) _) rfl rfl ?_
           refine GoR.op ((op_move rfl) _) rfl rfl ?_
           obtain ⟨h92, H⟩ := H
           refine GoR.op ((op_rem rfl rfl h92 rfl) _) rfl rfl ?_
           by_cases h93 : (k2_91.tmod ((ix r72 (k1_80 : Int)).length : Int)) = (0 : Int)
           ·replace H := ifp h93 H
            refine GoR.op ((fun w => opB (op_neq rfl rfl w) (ndT h93)) _) rfl rfl ?_
            refine GoR.nil ?_
            refine Go1.condF rfl rfl ?_
            refine Go1.exit rfl ?_
            refine Go1.inBlock ?_
            refine Go1.region ?_
            refine GoR.op ((op_add rfl rfl (wrap_i64 (natbd h81 h_r72.bd))) _) rfl rfl ?_
            refine GoR.op ((op_move rfl) _) rfl rfl ?_
            refine GoR.nil ?_
            exact hX1 _ H _ _ ⟨⟨rfl, rfl, rfl, rfl, rfl, rfl, trivial⟩, hO, h_a0, h_r72, hB⟩
           ·replace H := ifn h93 H
            refine GoR.op ((fun w => opB (op_neq rfl rfl w) (ndF h93)) _) rfl rfl ?_
            refine GoR.nil ?_
            refine Go1.condT rfl rfl ?_
            refine Go1.skip ?_
            refine Go1.block ?_
            refine Go1.region ?_
            refine GoR.op ((op_move rfl) _) rfl rfl ?_
            refine GoR.op ((op_move rfl) _) rfl rfl ?_
            obtain ⟨h94, H⟩ := H
            refine GoR.op ((op_add rfl rfl (wrap_i64 h94)) _) rfl rfl ?_
            refine GoR.op ((op_assign rfl) _) rfl rfl ?_
            refine GoR.nil ?_
            refine Go1.inBlock ?_
            exact hX2 _ H _ _ ⟨⟨rfl, rfl, rfl, rfl, rfl, rfl, rfl, rfl, trivial⟩, hO, h_a0, h_r72, hB⟩
        ·replace H := ifn h81 H
         refine GoR.op ((fun w => opB (op_lss rfl rfl w) (decide_eq_false h81)) _) rfl rfl ?_
         refine GoR.nil ?_
         refine Go1.seq ?_
         refine Go1.condF rfl rfl ?_
         refine Go1.exit rfl ?_
         refine Go1.seq ?_
         refine Go1.region ?_
         refine GoR.op ((op_move rfl) _) rfl rfl ?_
         refine GoR.call (op_call body38 rfl (walk_trans_Omega hO.lt h_a0 H)) rfl rfl ?_
         rintro v99 w96 ⟨r95, p_r95, c_r95, rfl, hs97, h_r95, H⟩
         have hst100 := Stp.same hO hs97
         replace hO := hst100.own
         replace h_a0 := h_a0.ch hst100.ch
         replace h_r72 := h_r72.ch hst100.ch
         replace hB := hB.trans hst100.fr
         refine GoR.op ((op_assign rfl) _) rfl rfl ?_
         refine GoR.nil ?_
         refine Go1.seq ?_
         refine Go1.region ?_
         refine GoR.op ((op_move rfl) _) rfl rfl ?_
         refine GoR.op ((op_move rfl) _) rfl rfl ?_
         by_cases h101 : r21 = k1_79
         ·replace H := ifp h101 H
          refine GoR.op ((fun w => opB (op_eql rfl rfl w) (decide_eq_true h101)) _) rfl rfl ?_
          refine GoR.op ((op_move rfl) _) rfl rfl ?_
          refine GoR.op ((op_move rfl) _) rfl rfl ?_
          refine GoR.op ((op_move rfl) _) rfl rfl ?_
          refine GoR.call (op_call body15 rfl (walk_trans_Compose hO.lt h_r95 h_r95 H)) rfl rfl ?_
          rintro v106 w103 ⟨r102, p_r102, c_r102, rfl, hs104, h_r102, H⟩
          have hst107 := Stp.same hO hs104
          replace hO := hst107.own
          replace h_a0 := h_a0.ch hst107.ch
          replace h_r72 := h_r72.ch hst107.ch
          replace h_r95 := h_r95.ch hst107.ch
          replace hB := hB.trans hst107.fr
          refine GoR.op ((op_move rfl) _) rfl rfl ?_
          refine GoR.call (op_call body18 rfl (walk_ref03_Same hO.lt h_r102 h_r95 H)) rfl rfl ?_
          rintro v112 w109 ⟨r108, rfl, hs110, H⟩
          have hst113 := Stp.same hO hs110
          replace hO := hst113.own
          replace h_a0 := h_a0.ch hst113.ch
          replace h_r72 := h_r72.ch hst113.ch
          replace h_r95 := h_r95.ch hst113.ch
          replace h_r102 := h_r102.ch hst113.ch
          replace hB := hB.trans hst113.fr
          refine GoR.op ((op_pickT rfl rfl rfl) _) rfl rfl ?_
          refine GoR.op ((op_move rfl) _) rfl rfl ?_
          cases r108
          ·replace H := ifn Bool.false_ne_true H
           refine GoR.pass rfl rfl ?_
           refine GoR.pass rfl rfl ?_
           refine GoR.pass rfl rfl ?_
           refine GoR.pass rfl rfl ?_
           refine GoR.pass rfl rfl ?_
           refine GoR.pass rfl rfl ?_
           refine GoR.pass rfl rfl ?_
           refine GoR.op ((op_pickF rfl rfl rfl) _) rfl rfl ?_
           refine GoR.op ((op_move rfl) _) rfl rfl ?_
           refine GoR.pass rfl rfl ?_
           refine GoR.op ((op_pickF rfl rfl rfl) _) rfl rfl ?_
           refine GoR.op ((op_assign rfl) _) rfl rfl ?_
           refine GoR.nil ?_
           refine Go1.ret1 Try.func10 rfl ?_
           exact ⟨false, rfl, hB.same, H⟩
          ·replace H := ifp rfl H
           refine GoR.op ((op_move rfl) _) rfl rfl ?_
           refine GoR.op ((op_move rfl) _) rfl rfl ?_
           refine GoR.call (op_call body15 rfl (walk_trans_Compose hO.lt h_r95 h_a0 H)) rfl rfl ?_
           rintro v118 w115 ⟨r114, p_r114, c_r114, rfl, hs116, h_r114, H⟩
           have hst119 := Stp.same hO hs116
           replace hO := hst119.own
           replace h_a0 := h_a0.ch hst119.ch
           replace h_r72 := h_r72.ch hst119.ch
           replace h_r95 := h_r95.ch hst119.ch
           replace h_r102 := h_r102.ch hst119.ch
           replace hB := hB.trans hst119.fr
           refine GoR.op ((op_move rfl) _) rfl rfl ?_
           refine GoR.op ((op_move rfl) _) rfl rfl ?_
           refine GoR.call (op_call body15 rfl (walk_trans_Compose hO.lt h_a0 h_r95 H)) rfl rfl ?_
           rintro v124 w121 ⟨r120, p_r120, c_r120, rfl, hs122, h_r120, H⟩
           have hst125 := Stp.same hO hs122
           replace hO := hst125.own
           replace h_a0 := h_a0.ch hst125.ch
           replace h_r72 := h_r72.ch hst125.ch
           replace h_r95 := h_r95.ch hst125.ch
           replace h_r102 := h_r102.ch hst125.ch
           replace h_r114 := h_r114.ch hst125.ch
           replace hB := hB.trans hst125.fr
           refine GoR.call (op_call body18 rfl (walk_ref03_Same hO.lt h_r114 h_r120 H)) rfl rfl ?_
           rintro v130 w127 ⟨r126, rfl, hs128, H⟩
           have hst131 := Stp.same hO hs128
           replace hO := hst131.own
           replace h_a0 := h_a0.ch hst131.ch
           replace h_r72 := h_r72.ch hst131.ch
           replace h_r95 := h_r95.ch hst131.ch
           replace h_r102 := h_r102.ch hst131.ch
           replace h_r114 := h_r114.ch hst131.ch
           replace h_r120 := h_r120.ch hst131.ch
           replace hB := hB.trans hst131.fr
           refine GoR.op ((op_pickT rfl rfl rfl) _) rfl rfl ?_
           refine GoR.op ((op_move rfl) _) rfl rfl ?_
           cases r126
           ·replace H := ifn Bool.false_ne_true H
            refine GoR.pass rfl rfl ?_
            refine GoR.op ((op_pickF rfl rfl rfl) _) rfl rfl ?_
            refine GoR.op ((op_assign rfl) _) rfl rfl ?_
            refine GoR.nil ?_
            refine Go1.ret1 Try.func10 rfl ?_
            exact ⟨false, rfl, hB.same, H⟩
           ·replace H := ifp rfl H
            refine GoR.call (op_call body17 rfl (walk_law11_awake hO.lt H)) rfl rfl ?_
            rintro v136 w133 ⟨r132, rfl, hs134, H⟩
            have hst137 := Stp.same hO hs134
            replace hO := hst137.own
            replace h_a0 := h_a0.ch hst137.ch
            replace h_r72 := h_r72.ch hst137.ch
            replace h_r95 := h_r95.ch hst137.ch
            replace h_r102 := h_r102.ch hst137.ch
            replace h_r114 := h_r114.ch hst137.ch
            replace h_r120 := h_r120.ch hst137.ch
            replace hB := hB.trans hst137.fr
            refine GoR.op ((op_pickT rfl rfl rfl) _) rfl rfl ?_
            refine GoR.op ((op_assign rfl) _) rfl rfl ?_
            refine GoR.nil ?_
            refine Go1.ret1 Try.func10 rfl ?_
            exact ⟨r132, rfl, hB.same, H⟩
         ·replace H := ifn h101 H
          refine GoR.op ((fun w => opB (op_eql rfl rfl w) (decide_eq_false h101)) _) rfl rfl ?_
          refine GoR.op ((op_move rfl) _) rfl rfl ?_
          refine GoR.pass rfl rfl ?_
          refine GoR.pass rfl rfl ?_
          refine GoR.pass rfl rfl ?_
          refine GoR.pass rfl rfl ?_
          refine GoR.pass rfl rfl ?_
          refine GoR.op ((op_pickF rfl rfl rfl) _) rfl rfl ?_
          refine GoR.op ((op_move rfl) _) rfl rfl ?_
          refine GoR.pass rfl rfl ?_
          refine GoR.pass rfl rfl ?_
          refine GoR.pass rfl rfl ?_
          refine GoR.pass rfl rfl ?_
          refine GoR.pass rfl rfl ?_
          refine GoR.pass rfl rfl ?_
          refine GoR.pass rfl rfl ?_
          refine GoR.op ((op_pickF rfl rfl rfl) _) rfl rfl ?_
          refine GoR.op ((op_move rfl) _) rfl rfl ?_
          refine GoR.pass rfl rfl ?_
          refine GoR.op ((op_pickF rfl rfl rfl) _) rfl rfl ?_
          refine GoR.op ((op_assign rfl) _) rfl rfl ?_
          refine GoR.nil ?_
          refine Go1.ret1 Try.func10 rfl ?_
          exact ⟨false, rfl, hB.same, H⟩
       ·replace H := ifp rfl H
        refine Go1.condT rfl rfl ?_
        refine Go1.seq ?_
        refine Go1.region ?_
        refine GoR.op ((op_assign rfl) _) rfl rfl ?_
        refine GoR.nil ?_
        refine Go1.ret1 Try.func10 rfl ?_
        exact ⟨false, rfl, hB.same, H⟩
      ·replace H := ifn h50 H
       refine GoR.op ((fun w => opB (op_gtr rfl rfl w) (decide_eq_false h50)) _) rfl rfl ?_
       refine GoR.op ((op_move rfl) _) rfl rfl ?_
       refine GoR.pass rfl rfl ?_
       refine GoR.pass rfl rfl ?_
       refine GoR.pass rfl rfl ?_
       refine GoR.pass rfl rfl ?_
       refine GoR.pass rfl rfl ?_
       refine GoR.pass rfl rfl ?_
       refine GoR.pass rfl rfl ?_
       refine GoR.pass rfl rfl ?_
       refine GoR.pass rfl rfl ?_
       refine GoR.pass rfl rfl ?_
       refine GoR.pass rfl rfl ?_
       refine GoR.op ((op_pickF rfl rfl rfl) _) rfl rfl ?_
       refine GoR.op ((op_pickF rfl rfl rfl) _) rfl rfl ?_
       refine GoR.nil ?_
       refine Go1.condF rfl rfl ?_
       refine Go1.skip ?_
       refine Go1.seq ?_
       refine Go1.region ?_
       refine GoR.op ((op_assign rfl) _) rfl rfl ?_
       refine GoR.nil ?_
       refine Go1.seq ?_
       refine Go1.seq ?_
       refine Go1.region ?_
       refine GoR.op ((op_move rfl) _) rfl rfl ?_
       refine GoR.call (op_call body39 rfl (walk_trans_Cycles hO.lt h_a0 H)) rfl rfl ?_
       rintro v142 w139 ⟨r138, p_r138, c_r138, rfl, hs140, h_r138, H⟩
       have hst143 := Stp.same hO hs140
       replace hO := hst143.own
       replace h_a0 := h_a0.ch hst143.ch
       replace h_r30 := h_r30.ch hst143.ch
       replace h_r38 := h_r38.ch hst143.ch
       replace hB := hB.trans hst143.fr
       refine GoR.op ((op_len Try.underlying35 rfl) _) rfl rfl ?_
       replace H := H h_r138.bd
       refine GoR.op ((op_move rfl) _) rfl rfl ?_
       refine GoR.nil ?_
       refine Go1.block ?_
       refine Go1.loopW (S := Int × Nat) (fun s σ w => agrees σ [(0, .slice p_a0 a0.length c_a0), (6, .int .i64 r21), (7, .int .i64 (s.1)), (69, .slice p_r138 r138.length c_r138), (70, .int .i64 (r138.length : Int)), (71, .int .i64 ((s.2) : Int))] ∧ Owns w0.heap.size w [] A ∧ ISl (Rp.int .i64) (bl [] ++ A) w p_a0 c_a0 a0 ∧ ISl (Rp.sl (Rp.int .i64)) (bl [] ++ A) w p_r138 c_r138 r138 ∧ Fr (bl []) w0 (bl []) w) H ⟨⟨rfl, rfl, rfl, rfl, rfl, rfl, trivial⟩, hO, h_a0, h_r138, hB⟩ ?_
       rintro X3 ⟨k3_145, k3_146⟩ H hX3 σ w144 ⟨hag, hO, h_a0, h_r138, hB⟩
       dsimp only at H
       refine Go1.keep [(0, .slice p_a0 a0.length c_a0), (6, .int .i64 r21), (7, .int .i64 k3_145), (69, .slice p_r138 r138.length c_r138), (70, .int .i64 (r138.length : Int)), (71, .int .i64 (k3_146 : Int))] hag ?_
       refine Go1.seq ?_
       refine Go1.region ?_
       by_cases h147 : (k3_146 : Int) < (r138.length : Int)
       ·replace H := ifp h147 H
        refine GoR.op ((fun w => opB (op_lss rfl rfl w) (decide_eq_true h147)) _) rfl rfl ?_
        refine GoR.nil ?_
        refine Go1.seq ?_
        refine Go1.condT rfl rfl ?_
        refine Go1.skip ?_
        refine Go1.seq ?_
        refine Go1.block ?_
        refine Go1.seq ?_
        refine Go1.region ?_
        obtain ⟨h148, H⟩ := H
        obtain ⟨h149, H⟩ := H
        refine GoR.op ((op_index Try.underlying35 ti22 rfl rfl h148 h149 (h_r138.some_ h148 h149)) _) rfl rfl ?_
        have hobt := ldSl h_r138 h148 h149
        obtain ⟨p150, c151, hi152, hl153⟩ := hobt
        refine GoR.op ((hl153 Try.underlying22 rfl rfl) _ (Same.refl _)) rfl rfl ?_
        refine GoR.op ((op_assign rfl) _) rfl rfl ?_
        refine GoR.nil ?_
        refine Go1.seq ?_
        refine Go1.region ?_
        refine GoR.op ((op_move rfl) _) rfl rfl ?_
        refine GoR.op ((op_len Try.underlying22 rfl) _) rfl rfl ?_
        replace H := H hi152.bd
        refine GoR.op ((op_assign rfl) _) rfl rfl ?_
        refine GoR.nil ?_
        refine Go1.seq ?_
        refine Go1.seq ?_
        refine Go1.region ?_
        refine GoR.op ((op_move rfl) _) rfl rfl ?_
        by_cases h154 : ((ix r138 (k3_146 : Int)).length : Int) < (1 : Int)
        ·replace H := ifp h154 H
         refine GoR.op ((fun w => opB (op_lss rfl rfl w) (decide_eq_true h154)) _) rfl rfl ?_
         refine GoR.op ((op_move rfl) _) rfl rfl ?_
         refine GoR.pass rfl rfl ?_
         refine GoR.pass rfl rfl ?_
         refine GoR.pass rfl rfl ?_
         refine GoR.pass rfl rfl ?_
         refine GoR.op ((op_pickT rfl rfl rfl) _) rfl rfl ?_
         refine GoR.nil ?_
         refine Go1.condT rfl rfl ?_
         refine Go1.seq ?_
         refine Go1.region ?_
         refine GoR.op ((op_assign rfl) _) rfl rfl ?_
         refine GoR.nil ?_
         refine Go1.ret1 Try.func10 rfl ?_
         exact ⟨false, rfl, hB.same, H⟩
        ·replace H := ifn h154 H
         refine GoR.op ((fun w => opB (op_lss rfl rfl w) (decide_eq_false h154)) _) rfl rfl ?_
         refine GoR.op ((op_move rfl) _) rfl rfl ?_
         refine GoR.op ((op_move rfl) _) rfl rfl ?_
         refine GoR.op ((op_move rfl) _) rfl rfl ?_
         refine GoR.op ((op_len Try.underlying22 rfl) _) rfl rfl ?_
         by_cases h155 : (a0.length : Int) < ((ix r138 (k3_146 : Int)).length : Int)
         ·replace H := ifp h155 H
          refine GoR.op ((fun w => opB (op_gtr rfl rfl w) (decide_eq_true h155)) _) rfl rfl ?_
          refine GoR.op ((op_pickF rfl rfl rfl) _) rfl rfl ?_
          refine GoR.nil ?_
          refine Go1.condT rfl rfl ?_
          refine Go1.seq ?_
          refine Go1.region ?_
          refine GoR.op ((op_assign rfl) _) rfl rfl ?_
          refine GoR.nil ?_
          refine Go1.ret1 Try.func10 rfl ?_
          exact ⟨false, rfl, hB.same, H⟩
         ·replace H := ifn h155 H
          refine GoR.op ((fun w => opB (op_gtr rfl rfl w) (decide_eq_false h155)) _) rfl rfl ?_
          refine GoR.op ((op_pickF rfl rfl rfl) _) rfl rfl ?_
          refine GoR.nil ?_
          refine Go1.condF rfl rfl ?_
          refine Go1.skip ?_
          refine Go1.seq ?_
          refine Go1.region ?_
          refine GoR.op ((op_move rfl) _) rfl rfl ?_
          refine GoR.op ((op_assign rfl) _) rfl rfl ?_
          refine GoR.nil ?_
          refine Go1.block ?_
          refine Go1.loopW (S := Int) (fun s σ w => agrees σ [(0, .slice p_a0 a0.length c_a0), (6, .int .i64 r21), (7, .int .i64 s), (10, .int .i64 ((ix r138 (k3_146 : Int)).length : Int)), (11, .int .i64 k3_145), (69, .slice p_r138 r138.length c_r138), (70, .int .i64 (r138.length : Int)), (71, .int .i64 (k3_146 : Int))] ∧ Owns w0.heap.size w [] A ∧ ISl (Rp.int .i64) (bl [] ++ A) w p_a0 c_a0 a0 ∧ ISl (Rp.sl (Rp.int .i64)) (bl [] ++ A) w p_r138 c_r138 r138 ∧ Fr (bl []) w0 (bl []) w) H ⟨⟨rfl, rfl, rfl, rfl, rfl, rfl, rfl, rfl, trivial⟩, hO, h_a0, h_r138, hB⟩ ?_
          rintro X4 k4_157 H hX4 σ w156 ⟨hag, hO, h_a0, h_r138, hB⟩
          refine Go1.keep [(0, .slice p_a0 a0.length c_a0), (6, .int .i64 r21), (7, .int .i64 k4_157), (10, .int .i64 ((ix r138 (k3_146 : Int)).length : Int)), (11, .int .i64 k3_145), (69, .slice p_r138 r138.length c_r138), (70, .int .i64 (r138.length : Int)), (71, .int .i64 (k3_146 : Int))] hag ?_
          refine Go1.seq ?_
          refine Go1.seq ?_
          refine Go1.region ?_
          refine GoR.op ((op_move rfl) _) rfl rfl ?_
          refine GoR.op ((op_move rfl) _) rfl rfl ?_
          obtain ⟨h158, H⟩ := H
          refine GoR.op ((op_rem rfl rfl h158 rfl) _) rfl rfl ?_
          by_cases h159 : (k4_157.tmod ((ix r138 (k3_146 : Int)).length : Int)) = (0 : Int)
          ·replace H := ifp h159 H
           refine GoR.op ((fun w => opB (op_neq rfl rfl w) (ndT h159)) _) rfl rfl ?_
           refine GoR.nil ?_
           refine Go1.condF rfl rfl ?_
           refine Go1.exit rfl ?_
           refine Go1.inBlock ?_
           refine Go1.region ?_
           refine GoR.op ((op_add rfl rfl (wrap_i64 (natbd h147 h_r138.bd))) _) rfl rfl ?_
           refine GoR.op ((op_move rfl) _) rfl rfl ?_
           refine GoR.nil ?_
           exact hX3 _ H _ _ ⟨⟨rfl, rfl, rfl, rfl, rfl, rfl, trivial⟩, hO, h_a0, h_r138, hB⟩
          ·replace H := ifn h159 H
           refine GoR.op ((fun w => opB (op_neq rfl rfl w) (ndF h159)) _) rfl rfl ?_
           refine GoR.nil ?_
           refine Go1.condT rfl rfl ?_
           refine Go1.skip ?_
           refine Go1.block ?_
           refine Go1.region ?_
           refine GoR.op ((op_move rfl) _) rfl rfl ?_
           refine GoR.op ((op_move rfl) _) rfl rfl ?_
           obtain ⟨h160, H⟩ := H
           refine GoR.op ((op_add rfl rfl (wrap_i64 h160)) _) rfl rfl ?_
           refine GoR.op ((op_assign rfl) _) rfl rfl ?_
           refine GoR.nil ?_
           refine Go1.inBlock ?_
           exact hX4 _ H _ _ ⟨⟨rfl, rfl, rfl, rfl, rfl, rfl, rfl, rfl, trivial⟩, hO, h_a0, h_r138, hB⟩
       ·replace H := ifn h147 H
        refine GoR.op ((fun w => opB (op_lss rfl rfl w) (decide_eq_false h147)) _) rfl rfl ?_
        refine GoR.nil ?_
        refine Go1.seq ?_
        refine Go1.condF rfl rfl ?_
        refine Go1.exit rfl ?_
        refine Go1.seq ?_
        refine Go1.region ?_
        refine GoR.op ((op_move rfl) _) rfl rfl ?_
        refine GoR.call (op_call body38 rfl (walk_trans_Omega hO.lt h_a0 H)) rfl rfl ?_
        rintro v165 w162 ⟨r161, p_r161, c_r161, rfl, hs163, h_r161, H⟩
        have hst166 := Stp.same hO hs163
        replace hO := hst166.own
        replace h_a0 := h_a0.ch hst166.ch
        replace h_r138 := h_r138.ch hst166.ch
        replace hB := hB.trans hst166.fr
        refine GoR.op ((op_assign rfl) _) rfl rfl ?_
        refine GoR.nil ?_
        refine Go1.seq ?_
        refine Go1.region ?_
        refine GoR.op ((op_move rfl) _) rfl rfl ?_
        refine GoR.op ((op_move rfl) _) rfl rfl ?_
        by_cases h167 : r21 = k3_145
        ·replace H := ifp h167 H
         refine GoR.op ((fun w => opB (op_eql rfl rfl w) (decide_eq_true h167)) _) rfl rfl ?_
         refine GoR.op ((op_move rfl) _) rfl rfl ?_
         refine GoR.op ((op_move rfl) _) rfl rfl ?_
         refine GoR.op ((op_move rfl) _) rfl rfl ?_
         refine GoR.call (op_call body15 rfl (walk_trans_Compose hO.lt h_r161 h_r161 H)) rfl rfl ?_
         rintro v172 w169 ⟨r168, p_r168, c_r168, rfl, hs170, h_r168, H⟩
         have hst173 := Stp.same hO hs170
         replace hO := hst173.own
         replace h_a0 := h_a0.ch hst173.ch
         replace h_r138 := h_r138.ch hst173.ch
         replace h_r161 := h_r161.ch hst173.ch
         replace hB := hB.trans hst173.fr
         refine GoR.op ((op_move rfl) _) rfl rfl ?_
         refine GoR.call (op_call body18 rfl (walk_ref03_Same hO.lt h_r168 h_r161 H)) rfl rfl ?_
         rintro v178 w175 ⟨r174, rfl, hs176, H⟩
         have hst179 := Stp.same hO hs176
         replace hO := hst179.own
         replace h_a0 := h_a0.ch hst179.ch
         replace h_r138 := h_r138.ch hst179.ch
         replace h_r161 := h_r161.ch hst179.ch
         replace h_r168 := h_r168.ch hst179.ch
         replace hB := hB.trans hst179.fr
         refine GoR.op ((op_pickT rfl rfl rfl) _) rfl rfl ?_
         refine GoR.op ((op_move rfl) _) rfl rfl ?_
         cases r174
         ·replace H := ifn Bool.false_ne_true H
          refine GoR.pass rfl rfl ?_
          refine GoR.pass rfl rfl ?_
          refine GoR.pass rfl rfl ?_
          refine GoR.pass rfl rfl ?_
          refine GoR.pass rfl rfl ?_
          refine GoR.pass rfl rfl ?_
          refine GoR.pass rfl rfl ?_
          refine GoR.op ((op_pickF rfl rfl rfl) _) rfl rfl ?_
          refine GoR.op ((op_move rfl) _) rfl rfl ?_
          refine GoR.pass rfl rfl ?_
          refine GoR.op ((op_pickF rfl rfl rfl) _) rfl rfl ?_
          refine GoR.op ((op_assign rfl) _) rfl rfl ?_
          refine GoR.nil ?_
          refine Go1.ret1 Try.func10 rfl ?_
          exact ⟨false, rfl, hB.same, H⟩
         ·replace H := ifp rfl H
          refine GoR.op ((op_move rfl) _) rfl rfl ?_
          refine GoR.op ((op_move rfl) _) rfl rfl ?_
          refine GoR.call (op_call body15 rfl (walk_trans_Compose hO.lt h_r161 h_a0 H)) rfl rfl ?_
          rintro v184 w181 ⟨r180, p_r180, c_r180, rfl, hs182, h_r180, H⟩
          have hst185 := Stp.same hO hs182
          replace hO := hst185.own
          replace h_a0 := h_a0.ch hst185.ch
          replace h_r138 := h_r138.ch hst185.ch
          replace h_r161 := h_r161.ch hst185.ch
          replace h_r168 := h_r168.ch hst185.ch
          replace hB := hB.trans hst185.fr
          refine GoR.op ((op_move rfl) _) rfl rfl ?_
          refine GoR.op ((op_move rfl) _) rfl rfl ?_
          refine GoR.call (op_call body15 rfl (walk_trans_Compose hO.lt h_a0 h_r161 H)) rfl rfl ?_
          rintro v190 w187 ⟨r186, p_r186, c_r186, rfl, hs188, h_r186, H⟩
          have hst191 := Stp.same hO hs188
          replace hO := hst191.own
          replace h_a0 := h_a0.ch hst191.ch
          replace h_r138 := h_r138.ch hst191.ch
          replace h_r161 := h_r161.ch hst191.ch
          replace h_r168 := h_r168.ch hst191.ch
          replace h_r180 := h_r180.ch hst191.ch
          replace hB := hB.trans hst191.fr
          refine GoR.call (op_call body18 rfl (walk_ref03_Same hO.lt h_r180 h_r186 H)) rfl rfl ?_
          rintro v196 w193 ⟨r192, rfl, hs194, H⟩
          have hst197 := Stp.same hO hs194
          replace hO := hst197.own
          replace h_a0 := h_a0.ch hst197.ch
          replace h_r138 := h_r138.ch hst197.ch
          replace h_r161 := h_r161.ch hst197.ch
          replace h_r168 := h_r168.ch hst197.ch
          replace h_r180 := h_r180.ch hst197.ch
          replace h_r186 := h_r186.ch hst197.ch
          replace hB := hB.trans hst197.fr
          refine GoR.op ((op_pickT rfl rfl rfl) _) rfl rfl ?_
          refine GoR.op ((op_move rfl) _) rfl rfl ?_
          cases r192
          ·replace H := ifn Bool.false_ne_true H
           refine GoR.pass rfl rfl ?_
           refine GoR.op ((op_pickF rfl rfl rfl) _) rfl rfl ?_
           refine GoR.op ((op_assign rfl) _) rfl rfl ?_
           refine GoR.nil ?_
           refine Go1.ret1 Try.func10 rfl ?_
           exact ⟨false, rfl, hB.same, H⟩
          ·replace H := ifp rfl H
           refine GoR.call (op_call body17 rfl (walk_law11_awake hO.lt H)) rfl rfl ?_
           rintro v202 w199 ⟨r198, rfl, hs200, H⟩
           have hst203 := Stp.same hO hs200
           replace hO := hst203.own
           replace h_a0 := h_a0.ch hst203.ch
           replace h_r138 := h_r138.ch hst203.ch
           replace h_r161 := h_r161.ch hst203.ch
           replace h_r168 := h_r168.ch hst203.ch
           replace h_r180 := h_r180.ch hst203.ch
           replace h_r186 := h_r186.ch hst203.ch
           replace hB := hB.trans hst203.fr
           refine GoR.op ((op_pickT rfl rfl rfl) _) rfl rfl ?_
           refine GoR.op ((op_assign rfl) _) rfl rfl ?_
           refine GoR.nil ?_
           refine Go1.ret1 Try.func10 rfl ?_
           exact ⟨r198, rfl, hB.same, H⟩
        ·replace H := ifn h167 H
         refine GoR.op ((fun w => opB (op_eql rfl rfl w) (decide_eq_false h167)) _) rfl rfl ?_
         refine GoR.op ((op_move rfl) _) rfl rfl ?_
         refine GoR.pass rfl rfl ?_
         refine GoR.pass rfl rfl ?_
         refine GoR.pass rfl rfl ?_
         refine GoR.pass rfl rfl ?_
         refine GoR.pass rfl rfl ?_
         refine GoR.op ((op_pickF rfl rfl rfl) _) rfl rfl ?_
         refine GoR.op ((op_move rfl) _) rfl rfl ?_
         refine GoR.pass rfl rfl ?_
         refine GoR.pass rfl rfl ?_
         refine GoR.pass rfl rfl ?_
         refine GoR.pass rfl rfl ?_
         refine GoR.pass rfl rfl ?_
         refine GoR.pass rfl rfl ?_
         refine GoR.pass rfl rfl ?_
         refine GoR.op ((op_pickF rfl rfl rfl) _) rfl rfl ?_
         refine GoR.op ((op_move rfl) _) rfl rfl ?_
         refine GoR.pass rfl rfl ?_
         refine GoR.op ((op_pickF rfl rfl rfl) _) rfl rfl ?_
         refine GoR.op ((op_assign rfl) _) rfl rfl ?_
         refine GoR.nil ?_
         refine Go1.ret1 Try.func10 rfl ?_
         exact ⟨false, rfl, hB.same, H⟩
end Sg
