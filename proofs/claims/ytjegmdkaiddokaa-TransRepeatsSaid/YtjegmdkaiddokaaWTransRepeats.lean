/- The walks: each call keeps to its plain transformer. Printed by walkgen.py. -/
import Derived.Test.YtjegmdkaiddokaaWTransCycles
namespace Sg
open Go Go.RowKit Go.Proofs
set_option linter.unusedVariables false
set_option maxRecDepth 100000
theorem body10 : Body Try.prog 10 := ⟨Try.f10, Try.func10, rfl, by kernel_rfl⟩
theorem walk_law11_TransRepeats {A : List Nat} {w0 : World} {p_Listappend : Option Addr} {c_Listappend : Nat} {Listappend : List Int} {String : Int} (hA : ∀ b ∈ A, b < w0.heap.size) (h_Listappend : ISl (Rp.int .i64) A w0 p_Listappend c_Listappend Listappend) {K : Bool → Prop} (H : law11_TransRepeats Listappend String K) :
    CallsV Try.prog 10 #[.slice p_Listappend Listappend.length c_Listappend, .int .u8 String] w0 (fun v w' => ∃ (r0 : Bool), v = .bool r0 ∧ Same w0 w' ∧ K r0) := by
 refine CallsV.of (l := [.slice p_Listappend Listappend.length c_Listappend, .int .u8 String]) Try.func10 rfl Try.ntmps10 rfl ?_
 have hO := Owns.start hA
 have hB := Below.refl w0.heap.size w0
 unfold law11_TransRepeats at H
 replace h_Listappend := h_Listappend.ch (Ch.start A w0)
 refine Go1.seq ?_
 refine Go1.region ?_
 refine GoR.op ((op_assign rfl) _) rfl rfl ?_
 refine GoR.nil ?_
 refine Go1.seq ?_
 refine Go1.seq ?_
 refine Go1.region ?_
 refine GoR.op ((op_move rfl) _) rfl rfl ?_
 refine GoR.call (op_call body22 rfl (walk_ref11_Valid hO.lt h_Listappend H)) rfl rfl ?_
 rintro v4 w2 ⟨r1, rfl, hs3, H⟩
 have hst5 := Stp.same hO hs3
 replace hO := hst5.own
 replace h_Listappend := h_Listappend.ch hst5.ch
 replace hB := hB.trans hst5.bel
 cases r1
 ·replace H := ifn Bool.false_ne_true H
  refine GoR.op ((op_not rfl) _) rfl rfl ?_
  refine GoR.op ((op_move rfl) _) rfl rfl ?_
  refine GoR.pass rfl rfl ?_
  refine GoR.pass rfl rfl ?_
  refine GoR.pass rfl rfl ?_
  refine GoR.op ((op_pickT rfl rfl rfl) _) rfl rfl ?_
  refine GoR.nil ?_
  refine Go1.condT rfl rfl ?_
  refine Go1.seq ?_
  refine Go1.region ?_
  refine GoR.call (op_call body17 rfl (walk_law11_awake hO.lt H)) rfl rfl ?_
  rintro v9 w7 ⟨r6, rfl, hs8, H⟩
  have hst10 := Stp.same hO hs8
  replace hO := hst10.own
  replace h_Listappend := h_Listappend.ch hst10.ch
  replace hB := hB.trans hst10.bel
  refine GoR.op ((op_assign rfl) _) rfl rfl ?_
  refine GoR.nil ?_
  refine Go1.ret1 Try.func10 rfl ?_
  exact ⟨r6, rfl, (Below.same' hB), H⟩
 ·replace H := ifp rfl H
  refine GoR.op ((op_not rfl) _) rfl rfl ?_
  refine GoR.op ((op_move rfl) _) rfl rfl ?_
  refine GoR.op ((op_move rfl) _) rfl rfl ?_
  refine GoR.op ((op_len Try.underlying22 rfl) _) rfl rfl ?_
  replace H := H h_Listappend.bd
  by_cases h11 : (16 : Int) < (Listappend.length : Int)
  ·replace H := ifp h11 H
   refine GoR.op ((fun w => opB (op_gtr rfl rfl w) (decide_eq_true h11)) _) rfl rfl ?_
   refine GoR.op ((op_pickF rfl rfl rfl) _) rfl rfl ?_
   refine GoR.nil ?_
   refine Go1.condT rfl rfl ?_
   refine Go1.seq ?_
   refine Go1.region ?_
   refine GoR.call (op_call body17 rfl (walk_law11_awake hO.lt H)) rfl rfl ?_
   rintro v15 w13 ⟨r12, rfl, hs14, H⟩
   have hst16 := Stp.same hO hs14
   replace hO := hst16.own
   replace h_Listappend := h_Listappend.ch hst16.ch
   replace hB := hB.trans hst16.bel
   refine GoR.op ((op_assign rfl) _) rfl rfl ?_
   refine GoR.nil ?_
   refine Go1.ret1 Try.func10 rfl ?_
   exact ⟨r12, rfl, (Below.same' hB), H⟩
  ·replace H := ifn h11 H
   refine GoR.op ((fun w => opB (op_gtr rfl rfl w) (decide_eq_false h11)) _) rfl rfl ?_
   refine GoR.op ((op_pickF rfl rfl rfl) _) rfl rfl ?_
   refine GoR.nil ?_
   refine Go1.condF rfl rfl ?_
   refine Go1.skip ?_
   refine Go1.seq ?_
   refine Go1.region ?_
   refine GoR.op ((op_move rfl) _) rfl rfl ?_
   refine GoR.call (op_call body37 rfl (walk_trans_IndexPeriod hO.lt h_Listappend H)) rfl rfl ?_
   rintro v21 w19 ⟨r17, r18, rfl, hs20, H⟩
   have hst22 := Stp.same hO hs20
   replace hO := hst22.own
   replace h_Listappend := h_Listappend.ch hst22.ch
   replace hB := hB.trans hst22.bel
   refine GoR.op ((op_move rfl) _) rfl rfl ?_
   refine GoR.op ((op_extract rfl rfl) _) rfl rfl ?_
   refine GoR.op ((op_extract rfl rfl) _) rfl rfl ?_
   refine GoR.op ((op_assign rfl) _) rfl rfl ?_
   refine GoR.op ((op_assign rfl) _) rfl rfl ?_
   refine GoR.nil ?_
   refine Go1.seq ?_
   refine Go1.seq ?_
   refine Go1.region ?_
   refine GoR.op ((op_move rfl) _) rfl rfl ?_
   by_cases h23 : r17 < (1 : Int)
   ·replace H := ifp h23 H
    refine GoR.op ((fun w => opB (op_lss rfl rfl w) (decide_eq_true h23)) _) rfl rfl ?_
    refine GoR.op ((op_move rfl) _) rfl rfl ?_
    refine GoR.pass rfl rfl ?_
    refine GoR.pass rfl rfl ?_
    refine GoR.op ((op_pickT rfl rfl rfl) _) rfl rfl ?_
    refine GoR.op ((op_move rfl) _) rfl rfl ?_
    refine GoR.pass rfl rfl ?_
    refine GoR.pass rfl rfl ?_
    refine GoR.pass rfl rfl ?_
    refine GoR.pass rfl rfl ?_
    refine GoR.pass rfl rfl ?_
    refine GoR.pass rfl rfl ?_
    refine GoR.pass rfl rfl ?_
    refine GoR.pass rfl rfl ?_
    refine GoR.pass rfl rfl ?_
    refine GoR.pass rfl rfl ?_
    refine GoR.pass rfl rfl ?_
    refine GoR.pass rfl rfl ?_
    refine GoR.pass rfl rfl ?_
    refine GoR.pass rfl rfl ?_
    refine GoR.pass rfl rfl ?_
    refine GoR.pass rfl rfl ?_
    refine GoR.op ((op_pickT rfl rfl rfl) _) rfl rfl ?_
    refine GoR.op ((op_move rfl) _) rfl rfl ?_
    refine GoR.pass rfl rfl ?_
    refine GoR.pass rfl rfl ?_
    refine GoR.pass rfl rfl ?_
    refine GoR.pass rfl rfl ?_
    refine GoR.pass rfl rfl ?_
    refine GoR.pass rfl rfl ?_
    refine GoR.pass rfl rfl ?_
    refine GoR.pass rfl rfl ?_
    refine GoR.pass rfl rfl ?_
    refine GoR.pass rfl rfl ?_
    refine GoR.pass rfl rfl ?_
    refine GoR.pass rfl rfl ?_
    refine GoR.pass rfl rfl ?_
    refine GoR.pass rfl rfl ?_
    refine GoR.pass rfl rfl ?_
    refine GoR.op ((op_pickT rfl rfl rfl) _) rfl rfl ?_
    refine GoR.nil ?_
    refine Go1.condT rfl rfl ?_
    refine Go1.seq ?_
    refine Go1.region ?_
    refine GoR.op ((op_assign rfl) _) rfl rfl ?_
    refine GoR.nil ?_
    refine Go1.ret1 Try.func10 rfl ?_
    exact ⟨false, rfl, (Below.same' hB), H⟩
   ·replace H := ifn h23 H
    refine GoR.op ((fun w => opB (op_lss rfl rfl w) (decide_eq_false h23)) _) rfl rfl ?_
    refine GoR.op ((op_move rfl) _) rfl rfl ?_
    refine GoR.op ((op_move rfl) _) rfl rfl ?_
    by_cases h24 : r18 < (1 : Int)
    ·replace H := ifp h24 H
     refine GoR.op ((fun w => opB (op_lss rfl rfl w) (decide_eq_true h24)) _) rfl rfl ?_
     refine GoR.op ((op_pickF rfl rfl rfl) _) rfl rfl ?_
     refine GoR.op ((op_move rfl) _) rfl rfl ?_
     refine GoR.pass rfl rfl ?_
     refine GoR.pass rfl rfl ?_
     refine GoR.pass rfl rfl ?_
     refine GoR.pass rfl rfl ?_
     refine GoR.pass rfl rfl ?_
     refine GoR.pass rfl rfl ?_
     refine GoR.pass rfl rfl ?_
     refine GoR.pass rfl rfl ?_
     refine GoR.pass rfl rfl ?_
     refine GoR.pass rfl rfl ?_
     refine GoR.pass rfl rfl ?_
     refine GoR.pass rfl rfl ?_
     refine GoR.pass rfl rfl ?_
     refine GoR.pass rfl rfl ?_
     refine GoR.pass rfl rfl ?_
     refine GoR.pass rfl rfl ?_
     refine GoR.op ((op_pickT rfl rfl rfl) _) rfl rfl ?_
     refine GoR.op ((op_move rfl) _) rfl rfl ?_
     refine GoR.pass rfl rfl ?_
     refine GoR.pass rfl rfl ?_
     refine GoR.pass rfl rfl ?_
     refine GoR.pass rfl rfl ?_
     refine GoR.pass rfl rfl ?_
     refine GoR.pass rfl rfl ?_
     refine GoR.pass rfl rfl ?_
     refine GoR.pass rfl rfl ?_
     refine GoR.pass rfl rfl ?_
     refine GoR.pass rfl rfl ?_
     refine GoR.pass rfl rfl ?_
     refine GoR.pass rfl rfl ?_
     refine GoR.pass rfl rfl ?_
     refine GoR.pass rfl rfl ?_
     refine GoR.pass rfl rfl ?_
     refine GoR.op ((op_pickT rfl rfl rfl) _) rfl rfl ?_
     refine GoR.nil ?_
     refine Go1.condT rfl rfl ?_
     refine Go1.seq ?_
     refine Go1.region ?_
     refine GoR.op ((op_assign rfl) _) rfl rfl ?_
     refine GoR.nil ?_
     refine Go1.ret1 Try.func10 rfl ?_
     exact ⟨false, rfl, (Below.same' hB), H⟩
    ·replace H := ifn h24 H
     refine GoR.op ((fun w => opB (op_lss rfl rfl w) (decide_eq_false h24)) _) rfl rfl ?_
     refine GoR.op ((op_pickF rfl rfl rfl) _) rfl rfl ?_
     refine GoR.op ((op_move rfl) _) rfl rfl ?_
     refine GoR.op ((op_move rfl) _) rfl rfl ?_
     refine GoR.op ((op_move rfl) _) rfl rfl ?_
     refine GoR.op ((op_move rfl) _) rfl rfl ?_
     refine GoR.op ((op_conv Try.underlying5 Try.underlying3 rfl rfl) _) rfl rfl ?_
     obtain ⟨h25, H⟩ := H
     refine GoR.op ((op_add rfl rfl (wrap_i64 h25)) _) rfl rfl ?_
     refine GoR.call (op_call body27 rfl (walk_trans_Power hO.lt h_Listappend H)) rfl rfl ?_
     rintro v29 w27 ⟨r26, p_r26, c_r26, rfl, hs28, h_r26, H⟩
     have hst30 := Stp.same hO hs28
     replace hO := hst30.own
     replace h_Listappend := h_Listappend.ch hst30.ch
     replace hB := hB.trans hst30.bel
     refine GoR.op ((op_move rfl) _) rfl rfl ?_
     refine GoR.op ((op_move rfl) _) rfl rfl ?_
     refine GoR.op ((op_move rfl) _) rfl rfl ?_
     refine GoR.op ((op_conv Try.underlying5 Try.underlying3 rfl rfl) _) rfl rfl ?_
     obtain ⟨h31, H⟩ := H
     refine GoR.op ((op_add rfl rfl (wrap_i64 h31)) _) rfl rfl ?_
     refine GoR.op ((op_move rfl) _) rfl rfl ?_
     obtain ⟨h32, H⟩ := H
     refine GoR.op ((op_add rfl rfl (wrap_i64 h32)) _) rfl rfl ?_
     refine GoR.call (op_call body27 rfl (walk_trans_Power hO.lt h_Listappend H)) rfl rfl ?_
     rintro v36 w34 ⟨r33, p_r33, c_r33, rfl, hs35, h_r33, H⟩
     have hst37 := Stp.same hO hs35
     replace hO := hst37.own
     replace h_Listappend := h_Listappend.ch hst37.ch
     replace h_r26 := h_r26.ch hst37.ch
     replace hB := hB.trans hst37.bel
     refine GoR.call (op_call body18 rfl (walk_ref03_Same hO.lt h_r26 h_r33 H)) rfl rfl ?_
     rintro v41 w39 ⟨r38, rfl, hs40, H⟩
     have hst42 := Stp.same hO hs40
     replace hO := hst42.own
     replace h_Listappend := h_Listappend.ch hst42.ch
     replace h_r26 := h_r26.ch hst42.ch
     replace h_r33 := h_r33.ch hst42.ch
     replace hB := hB.trans hst42.bel
     cases r38
     ·replace H := ifn Bool.false_ne_true H
      refine GoR.op ((op_not rfl) _) rfl rfl ?_
      refine GoR.op ((op_pickF rfl rfl rfl) _) rfl rfl ?_
      refine GoR.op ((op_move rfl) _) rfl rfl ?_
      refine GoR.pass rfl rfl ?_
      refine GoR.pass rfl rfl ?_
      refine GoR.pass rfl rfl ?_
      refine GoR.pass rfl rfl ?_
      refine GoR.pass rfl rfl ?_
      refine GoR.pass rfl rfl ?_
      refine GoR.pass rfl rfl ?_
      refine GoR.pass rfl rfl ?_
      refine GoR.pass rfl rfl ?_
      refine GoR.pass rfl rfl ?_
      refine GoR.pass rfl rfl ?_
      refine GoR.pass rfl rfl ?_
      refine GoR.pass rfl rfl ?_
      refine GoR.pass rfl rfl ?_
      refine GoR.pass rfl rfl ?_
      refine GoR.op ((op_pickT rfl rfl rfl) _) rfl rfl ?_
      refine GoR.nil ?_
      refine Go1.condT rfl rfl ?_
      refine Go1.seq ?_
      refine Go1.region ?_
      refine GoR.op ((op_assign rfl) _) rfl rfl ?_
      refine GoR.nil ?_
      refine Go1.ret1 Try.func10 rfl ?_
      exact ⟨false, rfl, (Below.same' hB), H⟩
     ·replace H := ifp rfl H
      refine GoR.op ((op_not rfl) _) rfl rfl ?_
      refine GoR.op ((op_pickF rfl rfl rfl) _) rfl rfl ?_
      refine GoR.op ((op_move rfl) _) rfl rfl ?_
      refine GoR.op ((op_move rfl) _) rfl rfl ?_
      by_cases h43 : (1 : Int) < r17
      ·replace H := ifp h43 H
       refine GoR.op ((fun w => opB (op_gtr rfl rfl w) (decide_eq_true h43)) _) rfl rfl ?_
       refine GoR.op ((op_move rfl) _) rfl rfl ?_
       refine GoR.op ((op_move rfl) _) rfl rfl ?_
       refine GoR.op ((op_move rfl) _) rfl rfl ?_
       obtain ⟨h44, H⟩ := H
       refine GoR.op ((op_sub rfl rfl (wrap_i64 h44)) _) rfl rfl ?_
       refine GoR.call (op_call body27 rfl (walk_trans_Power hO.lt h_Listappend H)) rfl rfl ?_
       rintro v48 w46 ⟨r45, p_r45, c_r45, rfl, hs47, h_r45, H⟩
       have hst49 := Stp.same hO hs47
       replace hO := hst49.own
       replace h_Listappend := h_Listappend.ch hst49.ch
       replace h_r26 := h_r26.ch hst49.ch
       replace h_r33 := h_r33.ch hst49.ch
       replace hB := hB.trans hst49.bel
       refine GoR.op ((op_move rfl) _) rfl rfl ?_
       refine GoR.op ((op_move rfl) _) rfl rfl ?_
       obtain ⟨h50, H⟩ := H
       refine GoR.op ((op_sub rfl rfl (wrap_i64 h50)) _) rfl rfl ?_
       refine GoR.op ((op_move rfl) _) rfl rfl ?_
       obtain ⟨h51, H⟩ := H
       refine GoR.op ((op_add rfl rfl (wrap_i64 h51)) _) rfl rfl ?_
       refine GoR.call (op_call body27 rfl (walk_trans_Power hO.lt h_Listappend H)) rfl rfl ?_
       rintro v55 w53 ⟨r52, p_r52, c_r52, rfl, hs54, h_r52, H⟩
       have hst56 := Stp.same hO hs54
       replace hO := hst56.own
       replace h_Listappend := h_Listappend.ch hst56.ch
       replace h_r26 := h_r26.ch hst56.ch
       replace h_r33 := h_r33.ch hst56.ch
       replace h_r45 := h_r45.ch hst56.ch
       replace hB := hB.trans hst56.bel
       refine GoR.call (op_call body18 rfl (walk_ref03_Same hO.lt h_r45 h_r52 H)) rfl rfl ?_
       rintro v60 w58 ⟨r57, rfl, hs59, H⟩
       have hst61 := Stp.same hO hs59
       replace hO := hst61.own
       replace h_Listappend := h_Listappend.ch hst61.ch
       replace h_r26 := h_r26.ch hst61.ch
       replace h_r33 := h_r33.ch hst61.ch
       replace h_r45 := h_r45.ch hst61.ch
       replace h_r52 := h_r52.ch hst61.ch
       replace hB := hB.trans hst61.bel
       refine GoR.op ((op_pickT rfl rfl rfl) _) rfl rfl ?_
       refine GoR.op ((op_pickF rfl rfl rfl) _) rfl rfl ?_
       refine GoR.nil ?_
       cases r57
       ·replace H := ifn Bool.false_ne_true H
        refine Go1.condF rfl rfl ?_
        refine Go1.skip ?_
        refine Go1.seq ?_
        refine Go1.region ?_
        refine GoR.op ((op_assign rfl) _) rfl rfl ?_
        refine GoR.nil ?_
        refine Go1.seq ?_
        refine Go1.seq ?_
        refine Go1.region ?_
        refine GoR.op ((op_move rfl) _) rfl rfl ?_
        refine GoR.call (op_call body39 rfl (walk_trans_Cycles hO.lt h_Listappend H)) rfl rfl ?_
        rintro v65 w63 ⟨r62, p_r62, c_r62, rfl, hs64, h_r62, H⟩
        have hst66 := Stp.same hO hs64
        replace hO := hst66.own
        replace h_Listappend := h_Listappend.ch hst66.ch
        replace h_r26 := h_r26.ch hst66.ch
        replace h_r33 := h_r33.ch hst66.ch
        replace h_r45 := h_r45.ch hst66.ch
        replace h_r52 := h_r52.ch hst66.ch
        replace hB := hB.trans hst66.bel
        refine GoR.op ((op_len Try.underlying35 rfl) _) rfl rfl ?_
        replace H := H h_r62.bd
        refine GoR.op ((op_move rfl) _) rfl rfl ?_
        refine GoR.nil ?_
        refine Go1.block ?_
        refine Go1.loopW (S := Int × Nat) (fun s σ w => agrees σ [(0, .slice p_Listappend Listappend.length c_Listappend), (6, .int .i64 r18), (7, .int .i64 (s.1)), (69, .slice p_r62 r62.length c_r62), (70, .int .i64 (r62.length : Int)), (71, .int .i64 ((s.2) : Int))] ∧ Owns w0.heap.size w [] A ∧ ISl (Rp.int .i64) (bl [] ++ A) w p_Listappend c_Listappend Listappend ∧ ISl (Rp.sl (Rp.int .i64)) (bl [] ++ A) w p_r62 c_r62 r62 ∧ Below w0.heap.size w0 w) H ⟨⟨rfl, rfl, rfl, rfl, rfl, rfl, trivial⟩, hO, h_Listappend, h_r62, hB⟩ ?_
        rintro X1 ⟨k1_68, k1_69⟩ H hX1 σ w67 ⟨hag, hO, h_Listappend, h_r62, hB⟩
        dsimp only at H
        refine Go1.keep [(0, .slice p_Listappend Listappend.length c_Listappend), (6, .int .i64 r18), (7, .int .i64 k1_68), (69, .slice p_r62 r62.length c_r62), (70, .int .i64 (r62.length : Int)), (71, .int .i64 (k1_69 : Int))] hag ?_
        refine Go1.seq ?_
        refine Go1.region ?_
        by_cases h70 : (k1_69 : Int) < (r62.length : Int)
        ·replace H := ifp h70 H
         refine GoR.op ((fun w => opB (op_lss rfl rfl w) (decide_eq_true h70)) _) rfl rfl ?_
         refine GoR.nil ?_
         refine Go1.seq ?_
         refine Go1.condT rfl rfl ?_
         refine Go1.skip ?_
         refine Go1.seq ?_
         refine Go1.block ?_
         refine Go1.seq ?_
         refine Go1.region ?_
         obtain ⟨h71, H⟩ := H
         obtain ⟨h72, H⟩ := H
         refine GoR.op ((op_index Try.underlying35 ti22 rfl rfl h71 h72 (h_r62.some_ h71 h72)) _) rfl rfl ?_
         obtain ⟨p73, c74, hi75, hl76⟩ := ldSl h_r62 h71 h72
         refine GoR.op ((hl76 Try.underlying22 rfl rfl) _ (Same.refl _)) rfl rfl ?_
         refine GoR.op ((op_assign rfl) _) rfl rfl ?_
         refine GoR.nil ?_
         refine Go1.seq ?_
         refine Go1.region ?_
         refine GoR.op ((op_move rfl) _) rfl rfl ?_
         refine GoR.op ((op_len Try.underlying22 rfl) _) rfl rfl ?_
         replace H := H hi75.bd
         refine GoR.op ((op_assign rfl) _) rfl rfl ?_
         refine GoR.nil ?_
         refine Go1.seq ?_
         refine Go1.seq ?_
         refine Go1.region ?_
         refine GoR.op ((op_move rfl) _) rfl rfl ?_
         by_cases h77 : ((ix r62 (k1_69 : Int)).length : Int) < (1 : Int)
         ·replace H := ifp h77 H
          refine GoR.op ((fun w => opB (op_lss rfl rfl w) (decide_eq_true h77)) _) rfl rfl ?_
          refine GoR.op ((op_move rfl) _) rfl rfl ?_
          refine GoR.pass rfl rfl ?_
          refine GoR.pass rfl rfl ?_
          refine GoR.pass rfl rfl ?_
          refine GoR.pass rfl rfl ?_
          refine GoR.op ((op_pickT rfl rfl rfl) _) rfl rfl ?_
          refine GoR.nil ?_
          refine Go1.condT rfl rfl ?_
          refine Go1.seq ?_
          refine Go1.region ?_
          refine GoR.op ((op_assign rfl) _) rfl rfl ?_
          refine GoR.nil ?_
          refine Go1.ret1 Try.func10 rfl ?_
          exact ⟨false, rfl, (Below.same' hB), H⟩
         ·replace H := ifn h77 H
          refine GoR.op ((fun w => opB (op_lss rfl rfl w) (decide_eq_false h77)) _) rfl rfl ?_
          refine GoR.op ((op_move rfl) _) rfl rfl ?_
          refine GoR.op ((op_move rfl) _) rfl rfl ?_
          refine GoR.op ((op_move rfl) _) rfl rfl ?_
          refine GoR.op ((op_len Try.underlying22 rfl) _) rfl rfl ?_
          by_cases h78 : (Listappend.length : Int) < ((ix r62 (k1_69 : Int)).length : Int)
          ·replace H := ifp h78 H
           refine GoR.op ((fun w => opB (op_gtr rfl rfl w) (decide_eq_true h78)) _) rfl rfl ?_
           refine GoR.op ((op_pickF rfl rfl rfl) _) rfl rfl ?_
           refine GoR.nil ?_
           refine Go1.condT rfl rfl ?_
           refine Go1.seq ?_
           refine Go1.region ?_
           refine GoR.op ((op_assign rfl) _) rfl rfl ?_
           refine GoR.nil ?_
           refine Go1.ret1 Try.func10 rfl ?_
           exact ⟨false, rfl, (Below.same' hB), H⟩
          ·replace H := ifn h78 H
           refine GoR.op ((fun w => opB (op_gtr rfl rfl w) (decide_eq_false h78)) _) rfl rfl ?_
           refine GoR.op ((op_pickF rfl rfl rfl) _) rfl rfl ?_
           refine GoR.nil ?_
           refine Go1.condF rfl rfl ?_
           refine Go1.skip ?_
           refine Go1.seq ?_
           refine Go1.region ?_
           refine GoR.op ((op_move rfl) _) rfl rfl ?_
           refine GoR.op ((op_assign rfl) _) rfl rfl ?_
           refine GoR.nil ?_
           refine Go1.block ?_
           refine Go1.loopW (S := Int) (fun s σ w => agrees σ [(0, .slice p_Listappend Listappend.length c_Listappend), (6, .int .i64 r18), (7, .int .i64 s), (10, .int .i64 ((ix r62 (k1_69 : Int)).length : Int)), (11, .int .i64 k1_68), (69, .slice p_r62 r62.length c_r62), (70, .int .i64 (r62.length : Int)), (71, .int .i64 (k1_69 : Int))] ∧ Owns w0.heap.size w [] A ∧ ISl (Rp.int .i64) (bl [] ++ A) w p_Listappend c_Listappend Listappend ∧ ISl (Rp.sl (Rp.int .i64)) (bl [] ++ A) w p_r62 c_r62 r62 ∧ Below w0.heap.size w0 w) H ⟨⟨rfl, rfl, rfl, rfl, rfl, rfl, rfl, rfl, trivial⟩, hO, h_Listappend, h_r62, hB⟩ ?_
           rintro X2 k2_80 H hX2 σ w79 ⟨hag, hO, h_Listappend, h_r62, hB⟩
           refine Go1.keep [(0, .slice p_Listappend Listappend.length c_Listappend), (6, .int .i64 r18), (7, .int .i64 k2_80), (10, .int .i64 ((ix r62 (k1_69 : Int)).length : Int)), (11, .int .i64 k1_68), (69, .slice p_r62 r62.length c_r62), (70, .int .i64 (r62.length : Int)), (71, .int .i64 (k1_69 : Int))] hag ?_
           refine Go1.seq ?_
           refine Go1.seq ?_
           refine Go1.region ?_
           refine GoR.op ((op_move rfl) _) rfl rfl ?_
           refine GoR.op ((op_move rfl) _) rfl rfl ?_
           obtain ⟨h81, H⟩ := H
           refine GoR.op ((op_rem rfl rfl h81 rfl) _) rfl rfl ?_
           by_cases h82 : (k2_80.tmod ((ix r62 (k1_69 : Int)).length : Int)) = (0 : Int)
           ·replace H := ifp h82 H
            refine GoR.op ((fun w => opB (op_neq rfl rfl w) (ndT h82)) _) rfl rfl ?_
            refine GoR.nil ?_
            refine Go1.condF rfl rfl ?_
            refine Go1.exit rfl ?_
            refine Go1.inBlock ?_
            refine Go1.region ?_
            refine GoR.op ((op_add rfl rfl (wrap_i64 (by have := h70; have := h_r62.bd; unfold mx at this; exact ⟨by omega, by omega⟩))) _) rfl rfl ?_
            refine GoR.op ((op_move rfl) _) rfl rfl ?_
            refine GoR.nil ?_
            exact hX1 _ H _ _ ⟨⟨rfl, rfl, rfl, rfl, rfl, rfl, trivial⟩, hO, h_Listappend, h_r62, hB⟩
           ·replace H := ifn h82 H
            refine GoR.op ((fun w => opB (op_neq rfl rfl w) (ndF h82)) _) rfl rfl ?_
            refine GoR.nil ?_
            refine Go1.condT rfl rfl ?_
            refine Go1.skip ?_
            refine Go1.block ?_
            refine Go1.region ?_
            refine GoR.op ((op_move rfl) _) rfl rfl ?_
            refine GoR.op ((op_move rfl) _) rfl rfl ?_
            obtain ⟨h83, H⟩ := H
            refine GoR.op ((op_add rfl rfl (wrap_i64 h83)) _) rfl rfl ?_
            refine GoR.op ((op_assign rfl) _) rfl rfl ?_
            refine GoR.nil ?_
            refine Go1.inBlock ?_
            exact hX2 _ H _ _ ⟨⟨rfl, rfl, rfl, rfl, rfl, rfl, rfl, rfl, trivial⟩, hO, h_Listappend, h_r62, hB⟩
        ·replace H := ifn h70 H
         refine GoR.op ((fun w => opB (op_lss rfl rfl w) (decide_eq_false h70)) _) rfl rfl ?_
         refine GoR.nil ?_
         refine Go1.seq ?_
         refine Go1.condF rfl rfl ?_
         refine Go1.exit rfl ?_
         refine Go1.seq ?_
         refine Go1.region ?_
         refine GoR.op ((op_move rfl) _) rfl rfl ?_
         refine GoR.call (op_call body38 rfl (walk_trans_Omega hO.lt h_Listappend H)) rfl rfl ?_
         rintro v87 w85 ⟨r84, p_r84, c_r84, rfl, hs86, h_r84, H⟩
         have hst88 := Stp.same hO hs86
         replace hO := hst88.own
         replace h_Listappend := h_Listappend.ch hst88.ch
         replace h_r62 := h_r62.ch hst88.ch
         replace hB := hB.trans hst88.bel
         refine GoR.op ((op_assign rfl) _) rfl rfl ?_
         refine GoR.nil ?_
         refine Go1.seq ?_
         refine Go1.region ?_
         refine GoR.op ((op_move rfl) _) rfl rfl ?_
         refine GoR.op ((op_move rfl) _) rfl rfl ?_
         by_cases h89 : r18 = k1_68
         ·replace H := ifp h89 H
          refine GoR.op ((fun w => opB (op_eql rfl rfl w) (decide_eq_true h89)) _) rfl rfl ?_
          refine GoR.op ((op_move rfl) _) rfl rfl ?_
          refine GoR.op ((op_move rfl) _) rfl rfl ?_
          refine GoR.op ((op_move rfl) _) rfl rfl ?_
          refine GoR.call (op_call body15 rfl (walk_trans_Compose hO.lt h_r84 h_r84 H)) rfl rfl ?_
          rintro v93 w91 ⟨r90, p_r90, c_r90, rfl, hs92, h_r90, H⟩
          have hst94 := Stp.same hO hs92
          replace hO := hst94.own
          replace h_Listappend := h_Listappend.ch hst94.ch
          replace h_r62 := h_r62.ch hst94.ch
          replace h_r84 := h_r84.ch hst94.ch
          replace hB := hB.trans hst94.bel
          refine GoR.op ((op_move rfl) _) rfl rfl ?_
          refine GoR.call (op_call body18 rfl (walk_ref03_Same hO.lt h_r90 h_r84 H)) rfl rfl ?_
          rintro v98 w96 ⟨r95, rfl, hs97, H⟩
          have hst99 := Stp.same hO hs97
          replace hO := hst99.own
          replace h_Listappend := h_Listappend.ch hst99.ch
          replace h_r62 := h_r62.ch hst99.ch
          replace h_r84 := h_r84.ch hst99.ch
          replace h_r90 := h_r90.ch hst99.ch
          replace hB := hB.trans hst99.bel
          refine GoR.op ((op_pickT rfl rfl rfl) _) rfl rfl ?_
          refine GoR.op ((op_move rfl) _) rfl rfl ?_
          cases r95
          ·replace H := ifn Bool.false_ne_true H
           refine GoR.pass rfl rfl ?_
           refine GoR.pass rfl rfl ?_
           refine GoR.pass rfl rfl ?_
           refine GoR.pass rfl rfl ?_
           refine GoR.pass rfl rfl ?_
           refine GoR.pass rfl rfl ?_
           refine GoR.pass rfl rfl ?_
           refine GoR.op ((op_pickF rfl rfl rfl) _) rfl rfl ?_
           refine GoR.op ((op_move rfl) _) rfl rfl ?_
           refine GoR.pass rfl rfl ?_
           refine GoR.op ((op_pickF rfl rfl rfl) _) rfl rfl ?_
           refine GoR.op ((op_assign rfl) _) rfl rfl ?_
           refine GoR.nil ?_
           refine Go1.ret1 Try.func10 rfl ?_
           exact ⟨false, rfl, (Below.same' hB), H⟩
          ·replace H := ifp rfl H
           refine GoR.op ((op_move rfl) _) rfl rfl ?_
           refine GoR.op ((op_move rfl) _) rfl rfl ?_
           refine GoR.call (op_call body15 rfl (walk_trans_Compose hO.lt h_r84 h_Listappend H)) rfl rfl ?_
           rintro v103 w101 ⟨r100, p_r100, c_r100, rfl, hs102, h_r100, H⟩
           have hst104 := Stp.same hO hs102
           replace hO := hst104.own
           replace h_Listappend := h_Listappend.ch hst104.ch
           replace h_r62 := h_r62.ch hst104.ch
           replace h_r84 := h_r84.ch hst104.ch
           replace h_r90 := h_r90.ch hst104.ch
           replace hB := hB.trans hst104.bel
           refine GoR.op ((op_move rfl) _) rfl rfl ?_
           refine GoR.op ((op_move rfl) _) rfl rfl ?_
           refine GoR.call (op_call body15 rfl (walk_trans_Compose hO.lt h_Listappend h_r84 H)) rfl rfl ?_
           rintro v108 w106 ⟨r105, p_r105, c_r105, rfl, hs107, h_r105, H⟩
           have hst109 := Stp.same hO hs107
           replace hO := hst109.own
           replace h_Listappend := h_Listappend.ch hst109.ch
           replace h_r62 := h_r62.ch hst109.ch
           replace h_r84 := h_r84.ch hst109.ch
           replace h_r90 := h_r90.ch hst109.ch
           replace h_r100 := h_r100.ch hst109.ch
           replace hB := hB.trans hst109.bel
           refine GoR.call (op_call body18 rfl (walk_ref03_Same hO.lt h_r100 h_r105 H)) rfl rfl ?_
           rintro v113 w111 ⟨r110, rfl, hs112, H⟩
           have hst114 := Stp.same hO hs112
           replace hO := hst114.own
           replace h_Listappend := h_Listappend.ch hst114.ch
           replace h_r62 := h_r62.ch hst114.ch
           replace h_r84 := h_r84.ch hst114.ch
           replace h_r90 := h_r90.ch hst114.ch
           replace h_r100 := h_r100.ch hst114.ch
           replace h_r105 := h_r105.ch hst114.ch
           replace hB := hB.trans hst114.bel
           refine GoR.op ((op_pickT rfl rfl rfl) _) rfl rfl ?_
           refine GoR.op ((op_move rfl) _) rfl rfl ?_
           cases r110
           ·replace H := ifn Bool.false_ne_true H
            refine GoR.pass rfl rfl ?_
            refine GoR.op ((op_pickF rfl rfl rfl) _) rfl rfl ?_
            refine GoR.op ((op_assign rfl) _) rfl rfl ?_
            refine GoR.nil ?_
            refine Go1.ret1 Try.func10 rfl ?_
            exact ⟨false, rfl, (Below.same' hB), H⟩
           ·replace H := ifp rfl H
            refine GoR.call (op_call body17 rfl (walk_law11_awake hO.lt H)) rfl rfl ?_
            rintro v118 w116 ⟨r115, rfl, hs117, H⟩
            have hst119 := Stp.same hO hs117
            replace hO := hst119.own
            replace h_Listappend := h_Listappend.ch hst119.ch
            replace h_r62 := h_r62.ch hst119.ch
            replace h_r84 := h_r84.ch hst119.ch
            replace h_r90 := h_r90.ch hst119.ch
            replace h_r100 := h_r100.ch hst119.ch
            replace h_r105 := h_r105.ch hst119.ch
            replace hB := hB.trans hst119.bel
            refine GoR.op ((op_pickT rfl rfl rfl) _) rfl rfl ?_
            refine GoR.op ((op_assign rfl) _) rfl rfl ?_
            refine GoR.nil ?_
            refine Go1.ret1 Try.func10 rfl ?_
            exact ⟨r115, rfl, (Below.same' hB), H⟩
         ·replace H := ifn h89 H
          refine GoR.op ((fun w => opB (op_eql rfl rfl w) (decide_eq_false h89)) _) rfl rfl ?_
          refine GoR.op ((op_move rfl) _) rfl rfl ?_
          refine GoR.pass rfl rfl ?_
          refine GoR.pass rfl rfl ?_
          refine GoR.pass rfl rfl ?_
          refine GoR.pass rfl rfl ?_
          refine GoR.pass rfl rfl ?_
          refine GoR.op ((op_pickF rfl rfl rfl) _) rfl rfl ?_
          refine GoR.op ((op_move rfl) _) rfl rfl ?_
          refine GoR.pass rfl rfl ?_
          refine GoR.pass rfl rfl ?_
          refine GoR.pass rfl rfl ?_
          refine GoR.pass rfl rfl ?_
          refine GoR.pass rfl rfl ?_
          refine GoR.pass rfl rfl ?_
          refine GoR.pass rfl rfl ?_
          refine GoR.op ((op_pickF rfl rfl rfl) _) rfl rfl ?_
          refine GoR.op ((op_move rfl) _) rfl rfl ?_
          refine GoR.pass rfl rfl ?_
          refine GoR.op ((op_pickF rfl rfl rfl) _) rfl rfl ?_
          refine GoR.op ((op_assign rfl) _) rfl rfl ?_
          refine GoR.nil ?_
          refine Go1.ret1 Try.func10 rfl ?_
          exact ⟨false, rfl, (Below.same' hB), H⟩
       ·replace H := ifp rfl H
        refine Go1.condT rfl rfl ?_
        refine Go1.seq ?_
        refine Go1.region ?_
        refine GoR.op ((op_assign rfl) _) rfl rfl ?_
        refine GoR.nil ?_
        refine Go1.ret1 Try.func10 rfl ?_
        exact ⟨false, rfl, (Below.same' hB), H⟩
      ·replace H := ifn h43 H
       refine GoR.op ((fun w => opB (op_gtr rfl rfl w) (decide_eq_false h43)) _) rfl rfl ?_
       refine GoR.op ((op_move rfl) _) rfl rfl ?_
       refine GoR.pass rfl rfl ?_
       refine GoR.pass rfl rfl ?_
       refine GoR.pass rfl rfl ?_
       refine GoR.pass rfl rfl ?_
       refine GoR.pass rfl rfl ?_
       refine GoR.pass rfl rfl ?_
       refine GoR.pass rfl rfl ?_
       refine GoR.pass rfl rfl ?_
       refine GoR.pass rfl rfl ?_
       refine GoR.pass rfl rfl ?_
       refine GoR.pass rfl rfl ?_
       refine GoR.op ((op_pickF rfl rfl rfl) _) rfl rfl ?_
       refine GoR.op ((op_pickF rfl rfl rfl) _) rfl rfl ?_
       refine GoR.nil ?_
       refine Go1.condF rfl rfl ?_
       refine Go1.skip ?_
       refine Go1.seq ?_
       refine Go1.region ?_
       refine GoR.op ((op_assign rfl) _) rfl rfl ?_
       refine GoR.nil ?_
       refine Go1.seq ?_
       refine Go1.seq ?_
       refine Go1.region ?_
       refine GoR.op ((op_move rfl) _) rfl rfl ?_
       refine GoR.call (op_call body39 rfl (walk_trans_Cycles hO.lt h_Listappend H)) rfl rfl ?_
       rintro v123 w121 ⟨r120, p_r120, c_r120, rfl, hs122, h_r120, H⟩
       have hst124 := Stp.same hO hs122
       replace hO := hst124.own
       replace h_Listappend := h_Listappend.ch hst124.ch
       replace h_r26 := h_r26.ch hst124.ch
       replace h_r33 := h_r33.ch hst124.ch
       replace hB := hB.trans hst124.bel
       refine GoR.op ((op_len Try.underlying35 rfl) _) rfl rfl ?_
       replace H := H h_r120.bd
       refine GoR.op ((op_move rfl) _) rfl rfl ?_
       refine GoR.nil ?_
       refine Go1.block ?_
       refine Go1.loopW (S := Int × Nat) (fun s σ w => agrees σ [(0, .slice p_Listappend Listappend.length c_Listappend), (6, .int .i64 r18), (7, .int .i64 (s.1)), (69, .slice p_r120 r120.length c_r120), (70, .int .i64 (r120.length : Int)), (71, .int .i64 ((s.2) : Int))] ∧ Owns w0.heap.size w [] A ∧ ISl (Rp.int .i64) (bl [] ++ A) w p_Listappend c_Listappend Listappend ∧ ISl (Rp.sl (Rp.int .i64)) (bl [] ++ A) w p_r120 c_r120 r120 ∧ Below w0.heap.size w0 w) H ⟨⟨rfl, rfl, rfl, rfl, rfl, rfl, trivial⟩, hO, h_Listappend, h_r120, hB⟩ ?_
       rintro X3 ⟨k3_126, k3_127⟩ H hX3 σ w125 ⟨hag, hO, h_Listappend, h_r120, hB⟩
       dsimp only at H
       refine Go1.keep [(0, .slice p_Listappend Listappend.length c_Listappend), (6, .int .i64 r18), (7, .int .i64 k3_126), (69, .slice p_r120 r120.length c_r120), (70, .int .i64 (r120.length : Int)), (71, .int .i64 (k3_127 : Int))] hag ?_
       refine Go1.seq ?_
       refine Go1.region ?_
       by_cases h128 : (k3_127 : Int) < (r120.length : Int)
       ·replace H := ifp h128 H
        refine GoR.op ((fun w => opB (op_lss rfl rfl w) (decide_eq_true h128)) _) rfl rfl ?_
        refine GoR.nil ?_
        refine Go1.seq ?_
        refine Go1.condT rfl rfl ?_
        refine Go1.skip ?_
        refine Go1.seq ?_
        refine Go1.block ?_
        refine Go1.seq ?_
        refine Go1.region ?_
        obtain ⟨h129, H⟩ := H
        obtain ⟨h130, H⟩ := H
        refine GoR.op ((op_index Try.underlying35 ti22 rfl rfl h129 h130 (h_r120.some_ h129 h130)) _) rfl rfl ?_
        obtain ⟨p131, c132, hi133, hl134⟩ := ldSl h_r120 h129 h130
        refine GoR.op ((hl134 Try.underlying22 rfl rfl) _ (Same.refl _)) rfl rfl ?_
        refine GoR.op ((op_assign rfl) _) rfl rfl ?_
        refine GoR.nil ?_
        refine Go1.seq ?_
        refine Go1.region ?_
        refine GoR.op ((op_move rfl) _) rfl rfl ?_
        refine GoR.op ((op_len Try.underlying22 rfl) _) rfl rfl ?_
        replace H := H hi133.bd
        refine GoR.op ((op_assign rfl) _) rfl rfl ?_
        refine GoR.nil ?_
        refine Go1.seq ?_
        refine Go1.seq ?_
        refine Go1.region ?_
        refine GoR.op ((op_move rfl) _) rfl rfl ?_
        by_cases h135 : ((ix r120 (k3_127 : Int)).length : Int) < (1 : Int)
        ·replace H := ifp h135 H
         refine GoR.op ((fun w => opB (op_lss rfl rfl w) (decide_eq_true h135)) _) rfl rfl ?_
         refine GoR.op ((op_move rfl) _) rfl rfl ?_
         refine GoR.pass rfl rfl ?_
         refine GoR.pass rfl rfl ?_
         refine GoR.pass rfl rfl ?_
         refine GoR.pass rfl rfl ?_
         refine GoR.op ((op_pickT rfl rfl rfl) _) rfl rfl ?_
         refine GoR.nil ?_
         refine Go1.condT rfl rfl ?_
         refine Go1.seq ?_
         refine Go1.region ?_
         refine GoR.op ((op_assign rfl) _) rfl rfl ?_
         refine GoR.nil ?_
         refine Go1.ret1 Try.func10 rfl ?_
         exact ⟨false, rfl, (Below.same' hB), H⟩
        ·replace H := ifn h135 H
         refine GoR.op ((fun w => opB (op_lss rfl rfl w) (decide_eq_false h135)) _) rfl rfl ?_
         refine GoR.op ((op_move rfl) _) rfl rfl ?_
         refine GoR.op ((op_move rfl) _) rfl rfl ?_
         refine GoR.op ((op_move rfl) _) rfl rfl ?_
         refine GoR.op ((op_len Try.underlying22 rfl) _) rfl rfl ?_
         by_cases h136 : (Listappend.length : Int) < ((ix r120 (k3_127 : Int)).length : Int)
         ·replace H := ifp h136 H
          refine GoR.op ((fun w => opB (op_gtr rfl rfl w) (decide_eq_true h136)) _) rfl rfl ?_
          refine GoR.op ((op_pickF rfl rfl rfl) _) rfl rfl ?_
          refine GoR.nil ?_
          refine Go1.condT rfl rfl ?_
          refine Go1.seq ?_
          refine Go1.region ?_
          refine GoR.op ((op_assign rfl) _) rfl rfl ?_
          refine GoR.nil ?_
          refine Go1.ret1 Try.func10 rfl ?_
          exact ⟨false, rfl, (Below.same' hB), H⟩
         ·replace H := ifn h136 H
          refine GoR.op ((fun w => opB (op_gtr rfl rfl w) (decide_eq_false h136)) _) rfl rfl ?_
          refine GoR.op ((op_pickF rfl rfl rfl) _) rfl rfl ?_
          refine GoR.nil ?_
          refine Go1.condF rfl rfl ?_
          refine Go1.skip ?_
          refine Go1.seq ?_
          refine Go1.region ?_
          refine GoR.op ((op_move rfl) _) rfl rfl ?_
          refine GoR.op ((op_assign rfl) _) rfl rfl ?_
          refine GoR.nil ?_
          refine Go1.block ?_
          refine Go1.loopW (S := Int) (fun s σ w => agrees σ [(0, .slice p_Listappend Listappend.length c_Listappend), (6, .int .i64 r18), (7, .int .i64 s), (10, .int .i64 ((ix r120 (k3_127 : Int)).length : Int)), (11, .int .i64 k3_126), (69, .slice p_r120 r120.length c_r120), (70, .int .i64 (r120.length : Int)), (71, .int .i64 (k3_127 : Int))] ∧ Owns w0.heap.size w [] A ∧ ISl (Rp.int .i64) (bl [] ++ A) w p_Listappend c_Listappend Listappend ∧ ISl (Rp.sl (Rp.int .i64)) (bl [] ++ A) w p_r120 c_r120 r120 ∧ Below w0.heap.size w0 w) H ⟨⟨rfl, rfl, rfl, rfl, rfl, rfl, rfl, rfl, trivial⟩, hO, h_Listappend, h_r120, hB⟩ ?_
          rintro X4 k4_138 H hX4 σ w137 ⟨hag, hO, h_Listappend, h_r120, hB⟩
          refine Go1.keep [(0, .slice p_Listappend Listappend.length c_Listappend), (6, .int .i64 r18), (7, .int .i64 k4_138), (10, .int .i64 ((ix r120 (k3_127 : Int)).length : Int)), (11, .int .i64 k3_126), (69, .slice p_r120 r120.length c_r120), (70, .int .i64 (r120.length : Int)), (71, .int .i64 (k3_127 : Int))] hag ?_
          refine Go1.seq ?_
          refine Go1.seq ?_
          refine Go1.region ?_
          refine GoR.op ((op_move rfl) _) rfl rfl ?_
          refine GoR.op ((op_move rfl) _) rfl rfl ?_
          obtain ⟨h139, H⟩ := H
          refine GoR.op ((op_rem rfl rfl h139 rfl) _) rfl rfl ?_
          by_cases h140 : (k4_138.tmod ((ix r120 (k3_127 : Int)).length : Int)) = (0 : Int)
          ·replace H := ifp h140 H
           refine GoR.op ((fun w => opB (op_neq rfl rfl w) (ndT h140)) _) rfl rfl ?_
           refine GoR.nil ?_
           refine Go1.condF rfl rfl ?_
           refine Go1.exit rfl ?_
           refine Go1.inBlock ?_
           refine Go1.region ?_
           refine GoR.op ((op_add rfl rfl (wrap_i64 (by have := h128; have := h_r120.bd; unfold mx at this; exact ⟨by omega, by omega⟩))) _) rfl rfl ?_
           refine GoR.op ((op_move rfl) _) rfl rfl ?_
           refine GoR.nil ?_
           exact hX3 _ H _ _ ⟨⟨rfl, rfl, rfl, rfl, rfl, rfl, trivial⟩, hO, h_Listappend, h_r120, hB⟩
          ·replace H := ifn h140 H
           refine GoR.op ((fun w => opB (op_neq rfl rfl w) (ndF h140)) _) rfl rfl ?_
           refine GoR.nil ?_
           refine Go1.condT rfl rfl ?_
           refine Go1.skip ?_
           refine Go1.block ?_
           refine Go1.region ?_
           refine GoR.op ((op_move rfl) _) rfl rfl ?_
           refine GoR.op ((op_move rfl) _) rfl rfl ?_
           obtain ⟨h141, H⟩ := H
           refine GoR.op ((op_add rfl rfl (wrap_i64 h141)) _) rfl rfl ?_
           refine GoR.op ((op_assign rfl) _) rfl rfl ?_
           refine GoR.nil ?_
           refine Go1.inBlock ?_
           exact hX4 _ H _ _ ⟨⟨rfl, rfl, rfl, rfl, rfl, rfl, rfl, rfl, trivial⟩, hO, h_Listappend, h_r120, hB⟩
       ·replace H := ifn h128 H
        refine GoR.op ((fun w => opB (op_lss rfl rfl w) (decide_eq_false h128)) _) rfl rfl ?_
        refine GoR.nil ?_
        refine Go1.seq ?_
        refine Go1.condF rfl rfl ?_
        refine Go1.exit rfl ?_
        refine Go1.seq ?_
        refine Go1.region ?_
        refine GoR.op ((op_move rfl) _) rfl rfl ?_
        refine GoR.call (op_call body38 rfl (walk_trans_Omega hO.lt h_Listappend H)) rfl rfl ?_
        rintro v145 w143 ⟨r142, p_r142, c_r142, rfl, hs144, h_r142, H⟩
        have hst146 := Stp.same hO hs144
        replace hO := hst146.own
        replace h_Listappend := h_Listappend.ch hst146.ch
        replace h_r120 := h_r120.ch hst146.ch
        replace hB := hB.trans hst146.bel
        refine GoR.op ((op_assign rfl) _) rfl rfl ?_
        refine GoR.nil ?_
        refine Go1.seq ?_
        refine Go1.region ?_
        refine GoR.op ((op_move rfl) _) rfl rfl ?_
        refine GoR.op ((op_move rfl) _) rfl rfl ?_
        by_cases h147 : r18 = k3_126
        ·replace H := ifp h147 H
         refine GoR.op ((fun w => opB (op_eql rfl rfl w) (decide_eq_true h147)) _) rfl rfl ?_
         refine GoR.op ((op_move rfl) _) rfl rfl ?_
         refine GoR.op ((op_move rfl) _) rfl rfl ?_
         refine GoR.op ((op_move rfl) _) rfl rfl ?_
         refine GoR.call (op_call body15 rfl (walk_trans_Compose hO.lt h_r142 h_r142 H)) rfl rfl ?_
         rintro v151 w149 ⟨r148, p_r148, c_r148, rfl, hs150, h_r148, H⟩
         have hst152 := Stp.same hO hs150
         replace hO := hst152.own
         replace h_Listappend := h_Listappend.ch hst152.ch
         replace h_r120 := h_r120.ch hst152.ch
         replace h_r142 := h_r142.ch hst152.ch
         replace hB := hB.trans hst152.bel
         refine GoR.op ((op_move rfl) _) rfl rfl ?_
         refine GoR.call (op_call body18 rfl (walk_ref03_Same hO.lt h_r148 h_r142 H)) rfl rfl ?_
         rintro v156 w154 ⟨r153, rfl, hs155, H⟩
         have hst157 := Stp.same hO hs155
         replace hO := hst157.own
         replace h_Listappend := h_Listappend.ch hst157.ch
         replace h_r120 := h_r120.ch hst157.ch
         replace h_r142 := h_r142.ch hst157.ch
         replace h_r148 := h_r148.ch hst157.ch
         replace hB := hB.trans hst157.bel
         refine GoR.op ((op_pickT rfl rfl rfl) _) rfl rfl ?_
         refine GoR.op ((op_move rfl) _) rfl rfl ?_
         cases r153
         ·replace H := ifn Bool.false_ne_true H
          refine GoR.pass rfl rfl ?_
          refine GoR.pass rfl rfl ?_
          refine GoR.pass rfl rfl ?_
          refine GoR.pass rfl rfl ?_
          refine GoR.pass rfl rfl ?_
          refine GoR.pass rfl rfl ?_
          refine GoR.pass rfl rfl ?_
          refine GoR.op ((op_pickF rfl rfl rfl) _) rfl rfl ?_
          refine GoR.op ((op_move rfl) _) rfl rfl ?_
          refine GoR.pass rfl rfl ?_
          refine GoR.op ((op_pickF rfl rfl rfl) _) rfl rfl ?_
          refine GoR.op ((op_assign rfl) _) rfl rfl ?_
          refine GoR.nil ?_
          refine Go1.ret1 Try.func10 rfl ?_
          exact ⟨false, rfl, (Below.same' hB), H⟩
         ·replace H := ifp rfl H
          refine GoR.op ((op_move rfl) _) rfl rfl ?_
          refine GoR.op ((op_move rfl) _) rfl rfl ?_
          refine GoR.call (op_call body15 rfl (walk_trans_Compose hO.lt h_r142 h_Listappend H)) rfl rfl ?_
          rintro v161 w159 ⟨r158, p_r158, c_r158, rfl, hs160, h_r158, H⟩
          have hst162 := Stp.same hO hs160
          replace hO := hst162.own
          replace h_Listappend := h_Listappend.ch hst162.ch
          replace h_r120 := h_r120.ch hst162.ch
          replace h_r142 := h_r142.ch hst162.ch
          replace h_r148 := h_r148.ch hst162.ch
          replace hB := hB.trans hst162.bel
          refine GoR.op ((op_move rfl) _) rfl rfl ?_
          refine GoR.op ((op_move rfl) _) rfl rfl ?_
          refine GoR.call (op_call body15 rfl (walk_trans_Compose hO.lt h_Listappend h_r142 H)) rfl rfl ?_
          rintro v166 w164 ⟨r163, p_r163, c_r163, rfl, hs165, h_r163, H⟩
          have hst167 := Stp.same hO hs165
          replace hO := hst167.own
          replace h_Listappend := h_Listappend.ch hst167.ch
          replace h_r120 := h_r120.ch hst167.ch
          replace h_r142 := h_r142.ch hst167.ch
          replace h_r148 := h_r148.ch hst167.ch
          replace h_r158 := h_r158.ch hst167.ch
          replace hB := hB.trans hst167.bel
          refine GoR.call (op_call body18 rfl (walk_ref03_Same hO.lt h_r158 h_r163 H)) rfl rfl ?_
          rintro v171 w169 ⟨r168, rfl, hs170, H⟩
          have hst172 := Stp.same hO hs170
          replace hO := hst172.own
          replace h_Listappend := h_Listappend.ch hst172.ch
          replace h_r120 := h_r120.ch hst172.ch
          replace h_r142 := h_r142.ch hst172.ch
          replace h_r148 := h_r148.ch hst172.ch
          replace h_r158 := h_r158.ch hst172.ch
          replace h_r163 := h_r163.ch hst172.ch
          replace hB := hB.trans hst172.bel
          refine GoR.op ((op_pickT rfl rfl rfl) _) rfl rfl ?_
          refine GoR.op ((op_move rfl) _) rfl rfl ?_
          cases r168
          ·replace H := ifn Bool.false_ne_true H
           refine GoR.pass rfl rfl ?_
           refine GoR.op ((op_pickF rfl rfl rfl) _) rfl rfl ?_
           refine GoR.op ((op_assign rfl) _) rfl rfl ?_
           refine GoR.nil ?_
           refine Go1.ret1 Try.func10 rfl ?_
           exact ⟨false, rfl, (Below.same' hB), H⟩
          ·replace H := ifp rfl H
           refine GoR.call (op_call body17 rfl (walk_law11_awake hO.lt H)) rfl rfl ?_
           rintro v176 w174 ⟨r173, rfl, hs175, H⟩
           have hst177 := Stp.same hO hs175
           replace hO := hst177.own
           replace h_Listappend := h_Listappend.ch hst177.ch
           replace h_r120 := h_r120.ch hst177.ch
           replace h_r142 := h_r142.ch hst177.ch
           replace h_r148 := h_r148.ch hst177.ch
           replace h_r158 := h_r158.ch hst177.ch
           replace h_r163 := h_r163.ch hst177.ch
           replace hB := hB.trans hst177.bel
           refine GoR.op ((op_pickT rfl rfl rfl) _) rfl rfl ?_
           refine GoR.op ((op_assign rfl) _) rfl rfl ?_
           refine GoR.nil ?_
           refine Go1.ret1 Try.func10 rfl ?_
           exact ⟨r173, rfl, (Below.same' hB), H⟩
        ·replace H := ifn h147 H
         refine GoR.op ((fun w => opB (op_eql rfl rfl w) (decide_eq_false h147)) _) rfl rfl ?_
         refine GoR.op ((op_move rfl) _) rfl rfl ?_
         refine GoR.pass rfl rfl ?_
         refine GoR.pass rfl rfl ?_
         refine GoR.pass rfl rfl ?_
         refine GoR.pass rfl rfl ?_
         refine GoR.pass rfl rfl ?_
         refine GoR.op ((op_pickF rfl rfl rfl) _) rfl rfl ?_
         refine GoR.op ((op_move rfl) _) rfl rfl ?_
         refine GoR.pass rfl rfl ?_
         refine GoR.pass rfl rfl ?_
         refine GoR.pass rfl rfl ?_
         refine GoR.pass rfl rfl ?_
         refine GoR.pass rfl rfl ?_
         refine GoR.pass rfl rfl ?_
         refine GoR.pass rfl rfl ?_
         refine GoR.op ((op_pickF rfl rfl rfl) _) rfl rfl ?_
         refine GoR.op ((op_move rfl) _) rfl rfl ?_
         refine GoR.pass rfl rfl ?_
         refine GoR.op ((op_pickF rfl rfl rfl) _) rfl rfl ?_
         refine GoR.op ((op_assign rfl) _) rfl rfl ?_
         refine GoR.nil ?_
         refine Go1.ret1 Try.func10 rfl ?_
         exact ⟨false, rfl, (Below.same' hB), H⟩
end Sg
