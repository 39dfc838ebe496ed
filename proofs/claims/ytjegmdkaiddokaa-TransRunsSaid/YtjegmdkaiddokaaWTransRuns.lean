/- The walks: each call keeps to its plain transformer. Printed by walkgen.py. -/
import Derived.Test.YtjegmdkaiddokaaWTransRepeats
namespace Sg
open Go Go.RowKit Go.Proofs
set_option linter.unusedVariables false
set_option maxRecDepth 100000
set_option maxHeartbeats 4000000
theorem body43 : Body Try.prog 43 := ⟨Try.f43, Try.func43, rfl, by kernel_rfl⟩
theorem walk_dfa_Run {A : List Nat} {w0 : World} {p_d_Final : Option Addr} {c_d_Final : Nat} {p_d_Next : Option Addr} {c_d_Next : Nat} {d : DFA} {state : Int} {w_ : Str} (hA : ∀ b ∈ A, b < w0.heap.size) (h_d_Final : ISl (Rp.bool) A w0 p_d_Final c_d_Final d.Final) (h_d_Next : ISl (Rp.sl (Rp.int .i64)) A w0 p_d_Next c_d_Next d.Next) (hs_w_ : w_.length ≤ mx) {K : Int → Prop} (H : dfa_Run d state w_ K) :
    CallsV Try.prog 43 #[.agg #[.int .i64 d.Letters, .int .i64 d.Start, .slice p_d_Final d.Final.length c_d_Final, .slice p_d_Next d.Next.length c_d_Next], .int .i64 state, .string (gstr w_)] w0 (fun v w' => ∃ (r0 : Int), v = .int .i64 r0 ∧ Same w0 w' ∧ K r0) := by
 refine CallsV.of (l := [.agg #[.int .i64 d.Letters, .int .i64 d.Start, .slice p_d_Final d.Final.length c_d_Final, .slice p_d_Next d.Next.length c_d_Next], .int .i64 state, .string (gstr w_)]) Try.func43 rfl Try.ntmps43 rfl ?_
 have hO := Owns.start hA
 have hB := Fr.refl (bl []) w0
 unfold dfa_Run at H
 replace h_d_Final := h_d_Final.ch (Ch.start A w0)
 replace h_d_Next := h_d_Next.ch (Ch.start A w0)
 refine Go1.seq ?_
 refine Go1.region ?_
 have hobt := obox (t := 42) (v := .agg #[.int .i64 d.Letters, .int .i64 d.Start, .slice p_d_Final d.Final.length c_d_Final, .slice p_d_Next d.Next.length c_d_Next]) (cs := #[.int .i64 d.Letters, .int .i64 d.Start, .slice p_d_Final d.Final.length c_d_Final, .slice p_d_Next d.Next.length c_d_Next]) hO rfl
 obtain ⟨w1, B2, hst3, hs4, hop5⟩ := hobt
 refine GoR.op (hop5 rfl) rfl rfl ?_
 replace hO := hst3.own
 replace h_d_Final := h_d_Final.ch hst3.ch
 replace h_d_Next := h_d_Next.ch hst3.ch
 replace hB := hB.trans hst3.fr
 refine GoR.op ((op_assign rfl) _) rfl rfl ?_
 refine GoR.nil ?_
 refine Go1.seq ?_
 refine Go1.seq ?_
 refine Go1.region ?_
 refine GoR.op ((oblkAgg (vs := [.int .i64 d.Letters, .int .i64 d.Start, .slice p_d_Final d.Final.length c_d_Final, .slice p_d_Next d.Next.length c_d_Next]) 0 hO rfl rfl Try.underlying42 rfl ti42 rfl) _ (Same.refl _)) rfl rfl ?_
 refine GoR.call (op_call body56 rfl (walk_dfa_Validate hO.lt h_d_Final h_d_Next H)) rfl rfl ?_
 rintro v11 w8 ⟨r7, rfl, hs9, H⟩
 have hst12 := Stp.same hO hs9
 replace hO := hst12.own
 replace h_d_Final := h_d_Final.ch hst12.ch
 replace h_d_Next := h_d_Next.ch hst12.ch
 replace hB := hB.trans hst12.fr
 by_cases h13 : r7 = (0 : Int)
 ·replace H := ifp h13 H
  refine GoR.op ((fun w => opB (op_neq rfl rfl w) (ndT h13)) _) rfl rfl ?_
  refine GoR.op ((op_move rfl) _) rfl rfl ?_
  refine GoR.op ((op_move rfl) _) rfl rfl ?_
  by_cases h14 : state < (0 : Int)
  ·replace H := ifp h14 H
   refine GoR.op ((fun w => opB (op_lss rfl rfl w) (decide_eq_true h14)) _) rfl rfl ?_
   refine GoR.op ((op_pickF rfl rfl rfl) _) rfl rfl ?_
   refine GoR.op ((op_move rfl) _) rfl rfl ?_
   refine GoR.pass rfl rfl ?_
   refine GoR.pass rfl rfl ?_
   refine GoR.pass rfl rfl ?_
   refine GoR.pass rfl rfl ?_
   refine GoR.pass rfl rfl ?_
   refine GoR.op ((op_pickT rfl rfl rfl) _) rfl rfl ?_
   refine GoR.op ((op_move rfl) _) rfl rfl ?_
   refine GoR.pass rfl rfl ?_
   refine GoR.pass rfl rfl ?_
   refine GoR.pass rfl rfl ?_
   refine GoR.pass rfl rfl ?_
   refine GoR.pass rfl rfl ?_
   refine GoR.op ((op_pickT rfl rfl rfl) _) rfl rfl ?_
   refine GoR.nil ?_
   refine Go1.condT rfl rfl ?_
   refine Go1.seq ?_
   refine Go1.region ?_
   refine GoR.op ((op_assign rfl) _) rfl rfl ?_
   refine GoR.nil ?_
   refine Go1.ret1 Try.func43 rfl ?_
   exact ⟨(-1 : Int), rfl, hB.same, H⟩
  ·replace H := ifn h14 H
   refine GoR.op ((fun w => opB (op_lss rfl rfl w) (decide_eq_false h14)) _) rfl rfl ?_
   refine GoR.op ((op_pickF rfl rfl rfl) _) rfl rfl ?_
   refine GoR.op ((op_move rfl) _) rfl rfl ?_
   refine GoR.op ((op_move rfl) _) rfl rfl ?_
   refine GoR.op ((op_fieldAddr Try.underlying42 rfl ti40 rfl (by decide)) _) rfl rfl ?_
   refine GoR.op ((oblk 0 hO rfl rfl Try.underlying40 rfl rfl) _ (Same.refl _)) rfl rfl ?_
   refine GoR.op ((op_len Try.underlying40 rfl) _) rfl rfl ?_
   replace H := H h_d_Final.bd
   by_cases h15 : (d.Final.length : Int) ≤ state
   ·replace H := ifp h15 H
    refine GoR.op ((fun w => opB (op_geq rfl rfl w) (decide_eq_true h15)) _) rfl rfl ?_
    refine GoR.op ((op_pickF rfl rfl rfl) _) rfl rfl ?_
    refine GoR.op ((op_move rfl) _) rfl rfl ?_
    refine GoR.pass rfl rfl ?_
    refine GoR.pass rfl rfl ?_
    refine GoR.pass rfl rfl ?_
    refine GoR.pass rfl rfl ?_
    refine GoR.pass rfl rfl ?_
    refine GoR.op ((op_pickT rfl rfl rfl) _) rfl rfl ?_
    refine GoR.nil ?_
    refine Go1.condT rfl rfl ?_
    refine Go1.seq ?_
    refine Go1.region ?_
    refine GoR.op ((op_assign rfl) _) rfl rfl ?_
    refine GoR.nil ?_
    refine Go1.ret1 Try.func43 rfl ?_
    exact ⟨(-1 : Int), rfl, hB.same, H⟩
   ·replace H := ifn h15 H
    refine GoR.op ((fun w => opB (op_geq rfl rfl w) (decide_eq_false h15)) _) rfl rfl ?_
    refine GoR.op ((op_pickF rfl rfl rfl) _) rfl rfl ?_
    refine GoR.op ((op_move rfl) _) rfl rfl ?_
    refine GoR.op ((op_move rfl) _) rfl rfl ?_
    refine GoR.op ((op_fieldAddr Try.underlying42 rfl ti3 rfl (by decide)) _) rfl rfl ?_
    refine GoR.op ((oblk 0 hO rfl rfl Try.underlying3 rfl rfl) _ (Same.refl _)) rfl rfl ?_
    refine GoR.call (op_call body54 rfl (walk_word_Valid hO.lt hs_w_ H)) rfl rfl ?_
    rintro v20 w17 ⟨r16, rfl, hs18, H⟩
    have hst21 := Stp.same hO hs18
    replace hO := hst21.own
    replace h_d_Final := h_d_Final.ch hst21.ch
    replace h_d_Next := h_d_Next.ch hst21.ch
    replace hB := hB.trans hst21.fr
    cases r16
    ·replace H := ifn Bool.false_ne_true H
     refine GoR.op ((op_not rfl) _) rfl rfl ?_
     refine GoR.op ((op_pickF rfl rfl rfl) _) rfl rfl ?_
     refine GoR.nil ?_
     refine Go1.condT rfl rfl ?_
     refine Go1.seq ?_
     refine Go1.region ?_
     refine GoR.op ((op_assign rfl) _) rfl rfl ?_
     refine GoR.nil ?_
     refine Go1.ret1 Try.func43 rfl ?_
     exact ⟨(-1 : Int), rfl, hB.same, H⟩
    ·replace H := ifp rfl H
     refine GoR.op ((op_not rfl) _) rfl rfl ?_
     refine GoR.op ((op_pickF rfl rfl rfl) _) rfl rfl ?_
     refine GoR.nil ?_
     refine Go1.condF rfl rfl ?_
     refine Go1.skip ?_
     refine Go1.seq ?_
     refine Go1.seq ?_
     refine Go1.region ?_
     refine GoR.op ((op_move rfl) _) rfl rfl ?_
     refine GoR.op ((op_lenS Try.underlying9 rfl) _) rfl rfl ?_
     replace H := H hs_w_
     refine GoR.op ((op_move rfl) _) rfl rfl ?_
     refine GoR.nil ?_
     refine Go1.block ?_
     refine Go1.loopW (S := Int × Nat) (fun s σ w => agrees σ [(1, .int .i64 (s.1)), (2, .string (gstr w_)), (3, .pointer (some ⟨B2, 0, none⟩)), (30, .int .i64 (w_.length : Int)), (31, .int .i64 ((s.2) : Int))] ∧ Owns w0.heap.size w [.blk B2 (.cells #[.int .i64 d.Letters, .int .i64 d.Start, .slice p_d_Final d.Final.length c_d_Final, .slice p_d_Next d.Next.length c_d_Next] 42 (0, 0))] A ∧ ISl (Rp.bool) (bl [.blk B2 (.cells #[.int .i64 d.Letters, .int .i64 d.Start, .slice p_d_Final d.Final.length c_d_Final, .slice p_d_Next d.Next.length c_d_Next] 42 (0, 0))] ++ A) w p_d_Final c_d_Final d.Final ∧ ISl (Rp.sl (Rp.int .i64)) (bl [.blk B2 (.cells #[.int .i64 d.Letters, .int .i64 d.Start, .slice p_d_Final d.Final.length c_d_Final, .slice p_d_Next d.Next.length c_d_Next] 42 (0, 0))] ++ A) w p_d_Next c_d_Next d.Next ∧ Fr (bl []) w0 (bl [.blk B2 (.cells #[.int .i64 d.Letters, .int .i64 d.Start, .slice p_d_Final d.Final.length c_d_Final, .slice p_d_Next d.Next.length c_d_Next] 42 (0, 0))]) w) H ⟨⟨rfl, rfl, rfl, rfl, rfl, trivial⟩, hO, h_d_Final, h_d_Next, hB⟩ ?_
     rintro X1 ⟨state1_23, k1_24⟩ H hX1 σ w22 ⟨hag, hO, h_d_Final, h_d_Next, hB⟩
     dsimp only at H
     refine Go1.keep [(1, .int .i64 state1_23), (2, .string (gstr w_)), (3, .pointer (some ⟨B2, 0, none⟩)), (30, .int .i64 (w_.length : Int)), (31, .int .i64 (k1_24 : Int))] hag ?_
     refine Go1.seq ?_
     refine Go1.region ?_
     by_cases h25 : (k1_24 : Int) < (w_.length : Int)
     ·replace H := ifp h25 H
      refine GoR.op ((fun w => opB (op_lss rfl rfl w) (decide_eq_true h25)) _) rfl rfl ?_
      refine GoR.nil ?_
      refine Go1.seq ?_
      refine Go1.condT rfl rfl ?_
      refine Go1.skip ?_
      refine Go1.seq ?_
      refine Go1.block ?_
      refine Go1.seq ?_
      refine Go1.region ?_
      refine GoR.op ((op_move rfl) _) rfl rfl ?_
      refine GoR.op ((op_assign rfl) _) rfl rfl ?_
      refine GoR.nil ?_
      refine Go1.drawS 0 [(0, .pure), (1, .stable), (2, .pure), (3, .pure), (4, .stable), (5, .pure), (6, .pure), (7, .pure), (8, .pure), (9, .pure), (10, .stable), (11, .pure)] mixed (by kernel_rfl) ?_
      intro w26 hs27
      have hst28 := Stp.same hO hs27
      replace hO := hst28.own
      replace h_d_Final := h_d_Final.ch hst28.ch
      replace h_d_Next := h_d_Next.ch hst28.ch
      replace hB := hB.trans hst28.fr
      refine GoQ.pure rfl (op_fieldAddr Try.underlying42 rfl ti35 rfl (by decide)) rfl rfl ?_
      refine GoQ.stable rfl (oblk 0 hO rfl rfl Try.underlying35 rfl rfl) rfl rfl ?_
      refine GoQ.pure rfl (op_move rfl) rfl rfl ?_
      obtain ⟨h29, H⟩ := H
      obtain ⟨h30, H⟩ := H
      refine GoQ.pure rfl (op_index Try.underlying35 ti22 rfl rfl h29 h30 (h_d_Next.some_ h29 h30)) rfl rfl ?_
      have hobt := ldSl h_d_Next h29 h30
      obtain ⟨p31, c32, hi33, hl34⟩ := hobt
      refine GoQ.stable rfl (hl34 Try.underlying22 rfl rfl) rfl rfl ?_
      refine GoQ.pure rfl (op_move rfl) rfl rfl ?_
      refine GoQ.pure rfl (op_move rfl) rfl rfl ?_
      obtain ⟨h35, H⟩ := H
      obtain ⟨h36, H⟩ := H
      refine GoQ.pure rfl (op_indexS Try.underlying9 rfl rfl h35 h36) rfl rfl ?_
      refine GoQ.pure rfl (op_sub rfl rfl rfl) rfl rfl ?_
      obtain ⟨h37, H⟩ := H
      obtain ⟨h38, H⟩ := H
      refine GoQ.pure rfl (op_index Try.underlying22 ti3 rfl rfl h37 h38 (hi33.some_ h37 h38)) rfl rfl ?_
      refine GoQ.stable rfl (ldInt hi33 h37 h38 Try.underlying3 rfl rfl) rfl rfl ?_
      refine GoQ.pure rfl (op_assign rfl) rfl rfl ?_
      refine GoQ.nil ?_
      refine Go1.inBlock ?_
      refine Go1.region ?_
      refine GoR.op ((op_add rfl rfl (wrap_i64 (natbd h25 hs_w_))) _) rfl rfl ?_
      refine GoR.op ((op_move rfl) _) rfl rfl ?_
      refine GoR.nil ?_
      exact hX1 _ H _ _ ⟨⟨rfl, rfl, rfl, rfl, rfl, trivial⟩, hO, h_d_Final, h_d_Next, hB⟩
     ·replace H := ifn h25 H
      refine GoR.op ((fun w => opB (op_lss rfl rfl w) (decide_eq_false h25)) _) rfl rfl ?_
      refine GoR.nil ?_
      refine Go1.seq ?_
      refine Go1.condF rfl rfl ?_
      refine Go1.exit rfl ?_
      refine Go1.seq ?_
      refine Go1.region ?_
      refine GoR.op ((op_move rfl) _) rfl rfl ?_
      refine GoR.op ((op_assign rfl) _) rfl rfl ?_
      refine GoR.nil ?_
      refine Go1.ret1 Try.func43 rfl ?_
      exact ⟨state1_23, rfl, hB.same, H⟩
 ·replace H := ifn h13 H
  refine GoR.op ((fun w => opB (op_neq rfl rfl w) (ndF h13)) _) rfl rfl ?_
  refine GoR.op ((op_move rfl) _) rfl rfl ?_
  refine GoR.pass rfl rfl ?_
  refine GoR.pass rfl rfl ?_
  refine GoR.op ((op_pickT rfl rfl rfl) _) rfl rfl ?_
  refine GoR.op ((op_move rfl) _) rfl rfl ?_
  refine GoR.pass rfl rfl ?_
  refine GoR.pass rfl rfl ?_
  refine GoR.pass rfl rfl ?_
  refine GoR.pass rfl rfl ?_
  refine GoR.pass rfl rfl ?_
  refine GoR.op ((op_pickT rfl rfl rfl) _) rfl rfl ?_
  refine GoR.op ((op_move rfl) _) rfl rfl ?_
  refine GoR.pass rfl rfl ?_
  refine GoR.pass rfl rfl ?_
  refine GoR.pass rfl rfl ?_
  refine GoR.pass rfl rfl ?_
  refine GoR.pass rfl rfl ?_
  refine GoR.op ((op_pickT rfl rfl rfl) _) rfl rfl ?_
  refine GoR.nil ?_
  refine Go1.condT rfl rfl ?_
  refine Go1.seq ?_
  refine Go1.region ?_
  refine GoR.op ((op_assign rfl) _) rfl rfl ?_
  refine GoR.nil ?_
  refine Go1.ret1 Try.func43 rfl ?_
  exact ⟨(-1 : Int), rfl, hB.same, H⟩
theorem body11 : Body Try.prog 11 := ⟨Try.f11, Try.func11, rfl, by kernel_rfl⟩
theorem walk_law11_TransRuns {A : List Nat} {w0 : World} {p_d_Final : Option Addr} {c_d_Final : Nat} {p_d_Next : Option Addr} {c_d_Next : Nat} {d : DFA} {q : Int} {w_ : Str} (hA : ∀ b ∈ A, b < w0.heap.size) (h_d_Final : ISl (Rp.bool) A w0 p_d_Final c_d_Final d.Final) (h_d_Next : ISl (Rp.sl (Rp.int .i64)) A w0 p_d_Next c_d_Next d.Next) (hs_w_ : w_.length ≤ mx) {K : Bool → Prop} (H : law11_TransRuns d q w_ K) :
    CallsV Try.prog 11 #[.agg #[.int .i64 d.Letters, .int .i64 d.Start, .slice p_d_Final d.Final.length c_d_Final, .slice p_d_Next d.Next.length c_d_Next], .int .i64 q, .string (gstr w_)] w0 (fun v w' => ∃ (r0 : Bool), v = .bool r0 ∧ Same w0 w' ∧ K r0) := by
 refine CallsV.of (l := [.agg #[.int .i64 d.Letters, .int .i64 d.Start, .slice p_d_Final d.Final.length c_d_Final, .slice p_d_Next d.Next.length c_d_Next], .int .i64 q, .string (gstr w_)]) Try.func11 rfl Try.ntmps11 rfl ?_
 have hO := Owns.start hA
 have hB := Fr.refl (bl []) w0
 unfold law11_TransRuns at H
 replace h_d_Final := h_d_Final.ch (Ch.start A w0)
 replace h_d_Next := h_d_Next.ch (Ch.start A w0)
 refine Go1.seq ?_
 refine Go1.region ?_
 have hobt := obox (t := 42) (v := .agg #[.int .i64 d.Letters, .int .i64 d.Start, .slice p_d_Final d.Final.length c_d_Final, .slice p_d_Next d.Next.length c_d_Next]) (cs := #[.int .i64 d.Letters, .int .i64 d.Start, .slice p_d_Final d.Final.length c_d_Final, .slice p_d_Next d.Next.length c_d_Next]) hO rfl
 obtain ⟨w1, B2, hst3, hs4, hop5⟩ := hobt
 refine GoR.op (hop5 rfl) rfl rfl ?_
 replace hO := hst3.own
 replace h_d_Final := h_d_Final.ch hst3.ch
 replace h_d_Next := h_d_Next.ch hst3.ch
 replace hB := hB.trans hst3.fr
 refine GoR.op ((op_assign rfl) _) rfl rfl ?_
 refine GoR.nil ?_
 refine Go1.seq ?_
 refine Go1.region ?_
 refine GoR.op ((oblkAgg (vs := [.int .i64 d.Letters, .int .i64 d.Start, .slice p_d_Final d.Final.length c_d_Final, .slice p_d_Next d.Next.length c_d_Next]) 0 hO rfl rfl Try.underlying42 rfl ti42 rfl) _ (Same.refl _)) rfl rfl ?_
 refine GoR.call (op_call body33 rfl (walk_trans_OfDFA hO.lt h_d_Final h_d_Next H)) rfl rfl ?_
 rintro v12 w9 ⟨r7, r8, p_r7, c_r7, rfl, hs10, h_r7, H⟩
 have hst13 := Stp.same hO hs10
 replace hO := hst13.own
 replace h_d_Final := h_d_Final.ch hst13.ch
 replace h_d_Next := h_d_Next.ch hst13.ch
 replace hB := hB.trans hst13.fr
 refine GoR.op ((op_move rfl) _) rfl rfl ?_
 refine GoR.op ((op_extract rfl rfl) _) rfl rfl ?_
 refine GoR.op ((op_extract rfl rfl) _) rfl rfl ?_
 refine GoR.op ((op_assign rfl) _) rfl rfl ?_
 refine GoR.op ((op_assign rfl) _) rfl rfl ?_
 refine GoR.nil ?_
 refine Go1.seq ?_
 refine Go1.seq ?_
 refine Go1.region ?_
 refine GoR.op ((op_move rfl) _) rfl rfl ?_
 by_cases h14 : r8 = (0 : Int)
 ·replace H := ifp h14 H
  refine GoR.op ((fun w => opB (op_neq rfl rfl w) (ndT h14)) _) rfl rfl ?_
  refine GoR.op ((op_move rfl) _) rfl rfl ?_
  refine GoR.op ((op_move rfl) _) rfl rfl ?_
  by_cases h15 : q < (0 : Int)
  ·replace H := ifp h15 H
   refine GoR.op ((fun w => opB (op_lss rfl rfl w) (decide_eq_true h15)) _) rfl rfl ?_
   refine GoR.op ((op_pickF rfl rfl rfl) _) rfl rfl ?_
   refine GoR.op ((op_move rfl) _) rfl rfl ?_
   refine GoR.pass rfl rfl ?_
   refine GoR.pass rfl rfl ?_
   refine GoR.pass rfl rfl ?_
   refine GoR.pass rfl rfl ?_
   refine GoR.pass rfl rfl ?_
   refine GoR.op ((op_pickT rfl rfl rfl) _) rfl rfl ?_
   refine GoR.op ((op_move rfl) _) rfl rfl ?_
   refine GoR.pass rfl rfl ?_
   refine GoR.pass rfl rfl ?_
   refine GoR.pass rfl rfl ?_
   refine GoR.pass rfl rfl ?_
   refine GoR.pass rfl rfl ?_
   refine GoR.op ((op_pickT rfl rfl rfl) _) rfl rfl ?_
   refine GoR.nil ?_
   refine Go1.condT rfl rfl ?_
   refine Go1.seq ?_
   refine Go1.region ?_
   refine GoR.call (op_call body17 rfl (walk_law11_awake hO.lt H)) rfl rfl ?_
   rintro v20 w17 ⟨r16, rfl, hs18, H⟩
   have hst21 := Stp.same hO hs18
   replace hO := hst21.own
   replace h_d_Final := h_d_Final.ch hst21.ch
   replace h_d_Next := h_d_Next.ch hst21.ch
   replace h_r7 := h_r7.ch hst21.ch
   replace hB := hB.trans hst21.fr
   refine GoR.op ((op_assign rfl) _) rfl rfl ?_
   refine GoR.nil ?_
   refine Go1.ret1 Try.func11 rfl ?_
   exact ⟨r16, rfl, hB.same, H⟩
  ·replace H := ifn h15 H
   refine GoR.op ((fun w => opB (op_lss rfl rfl w) (decide_eq_false h15)) _) rfl rfl ?_
   refine GoR.op ((op_pickF rfl rfl rfl) _) rfl rfl ?_
   refine GoR.op ((op_move rfl) _) rfl rfl ?_
   refine GoR.op ((op_move rfl) _) rfl rfl ?_
   refine GoR.op ((op_fieldAddr Try.underlying42 rfl ti40 rfl (by decide)) _) rfl rfl ?_
   refine GoR.op ((oblk 0 hO rfl rfl Try.underlying40 rfl rfl) _ (Same.refl _)) rfl rfl ?_
   refine GoR.op ((op_len Try.underlying40 rfl) _) rfl rfl ?_
   replace H := H h_d_Final.bd
   by_cases h22 : (d.Final.length : Int) ≤ q
   ·replace H := ifp h22 H
    refine GoR.op ((fun w => opB (op_geq rfl rfl w) (decide_eq_true h22)) _) rfl rfl ?_
    refine GoR.op ((op_pickF rfl rfl rfl) _) rfl rfl ?_
    refine GoR.op ((op_move rfl) _) rfl rfl ?_
    refine GoR.pass rfl rfl ?_
    refine GoR.pass rfl rfl ?_
    refine GoR.pass rfl rfl ?_
    refine GoR.pass rfl rfl ?_
    refine GoR.pass rfl rfl ?_
    refine GoR.op ((op_pickT rfl rfl rfl) _) rfl rfl ?_
    refine GoR.nil ?_
    refine Go1.condT rfl rfl ?_
    refine Go1.seq ?_
    refine Go1.region ?_
    refine GoR.call (op_call body17 rfl (walk_law11_awake hO.lt H)) rfl rfl ?_
    rintro v27 w24 ⟨r23, rfl, hs25, H⟩
    have hst28 := Stp.same hO hs25
    replace hO := hst28.own
    replace h_d_Final := h_d_Final.ch hst28.ch
    replace h_d_Next := h_d_Next.ch hst28.ch
    replace h_r7 := h_r7.ch hst28.ch
    replace hB := hB.trans hst28.fr
    refine GoR.op ((op_assign rfl) _) rfl rfl ?_
    refine GoR.nil ?_
    refine Go1.ret1 Try.func11 rfl ?_
    exact ⟨r23, rfl, hB.same, H⟩
   ·replace H := ifn h22 H
    refine GoR.op ((fun w => opB (op_geq rfl rfl w) (decide_eq_false h22)) _) rfl rfl ?_
    refine GoR.op ((op_pickF rfl rfl rfl) _) rfl rfl ?_
    refine GoR.op ((op_move rfl) _) rfl rfl ?_
    refine GoR.op ((op_move rfl) _) rfl rfl ?_
    refine GoR.op ((op_fieldAddr Try.underlying42 rfl ti3 rfl (by decide)) _) rfl rfl ?_
    refine GoR.op ((oblk 0 hO rfl rfl Try.underlying3 rfl rfl) _ (Same.refl _)) rfl rfl ?_
    refine GoR.call (op_call body31 rfl (walk_ref01_Valid hO.lt hs_w_ H)) rfl rfl ?_
    rintro v33 w30 ⟨r29, rfl, hs31, H⟩
    have hst34 := Stp.same hO hs31
    replace hO := hst34.own
    replace h_d_Final := h_d_Final.ch hst34.ch
    replace h_d_Next := h_d_Next.ch hst34.ch
    replace h_r7 := h_r7.ch hst34.ch
    replace hB := hB.trans hst34.fr
    cases r29
    ·replace H := ifn Bool.false_ne_true H
     refine GoR.op ((op_not rfl) _) rfl rfl ?_
     refine GoR.op ((op_pickF rfl rfl rfl) _) rfl rfl ?_
     refine GoR.nil ?_
     refine Go1.condT rfl rfl ?_
     refine Go1.seq ?_
     refine Go1.region ?_
     refine GoR.call (op_call body17 rfl (walk_law11_awake hO.lt H)) rfl rfl ?_
     rintro v39 w36 ⟨r35, rfl, hs37, H⟩
     have hst40 := Stp.same hO hs37
     replace hO := hst40.own
     replace h_d_Final := h_d_Final.ch hst40.ch
     replace h_d_Next := h_d_Next.ch hst40.ch
     replace h_r7 := h_r7.ch hst40.ch
     replace hB := hB.trans hst40.fr
     refine GoR.op ((op_assign rfl) _) rfl rfl ?_
     refine GoR.nil ?_
     refine Go1.ret1 Try.func11 rfl ?_
     exact ⟨r35, rfl, hB.same, H⟩
    ·replace H := ifp rfl H
     refine GoR.op ((op_not rfl) _) rfl rfl ?_
     refine GoR.op ((op_pickF rfl rfl rfl) _) rfl rfl ?_
     refine GoR.nil ?_
     refine Go1.condF rfl rfl ?_
     refine Go1.skip ?_
     refine Go1.seq ?_
     refine Go1.region ?_
     refine GoR.op ((op_move rfl) _) rfl rfl ?_
     refine GoR.op ((op_move rfl) _) rfl rfl ?_
     refine GoR.call (op_call body29 rfl (walk_trans_OfWord hO.lt h_r7 hs_w_ H)) rfl rfl ?_
     rintro v45 w42 ⟨r41, p_r41, c_r41, rfl, hs43, h_r41, H⟩
     have hst46 := Stp.same hO hs43
     replace hO := hst46.own
     replace h_d_Final := h_d_Final.ch hst46.ch
     replace h_d_Next := h_d_Next.ch hst46.ch
     replace h_r7 := h_r7.ch hst46.ch
     replace hB := hB.trans hst46.fr
     refine GoR.op ((op_assign rfl) _) rfl rfl ?_
     refine GoR.nil ?_
     refine Go1.seq ?_
     refine Go1.drawS 0 [(0, .pure), (1, .pure), (2, .pure), (3, .stable), (4, .pure), (5, .pure), (6, .pure), (7, .pure), (8, .pure), (9, .pure), (10, .stable), (11, .stable), (12, .pure), (13, .pure), (14, .loud), (15, .pure), (16, .pure), (17, .pure), (18, .loud), (19, .pure), (20, .pure)] mixed (by kernel_rfl) ?_
     intro w47 hs48
     have hst49 := Stp.same hO hs48
     replace hO := hst49.own
     replace h_d_Final := h_d_Final.ch hst49.ch
     replace h_d_Next := h_d_Next.ch hst49.ch
     replace h_r7 := h_r7.ch hst49.ch
     replace h_r41 := h_r41.ch hst49.ch
     replace hB := hB.trans hst49.fr
     refine GoQ.pure rfl (op_move rfl) rfl rfl ?_
     refine GoQ.pure rfl (op_len Try.underlying22 rfl) rfl rfl ?_
     replace H := H h_r41.bd
     refine GoQ.pure rfl (op_fieldAddr Try.underlying42 rfl ti40 rfl (by decide)) rfl rfl ?_
     refine GoQ.stable rfl (oblk 0 hO rfl rfl Try.underlying40 rfl rfl) rfl rfl ?_
     refine GoQ.pure rfl (op_len Try.underlying40 rfl) rfl rfl ?_
     by_cases h50 : (r41.length : Int) = (d.Final.length : Int)
     ·replace H := ifp h50 H
      refine GoQ.pure rfl (fun w => opB (op_eql rfl rfl w) (decide_eq_true h50)) rfl rfl ?_
      refine GoQ.pure rfl (op_move rfl) rfl rfl ?_
      refine GoQ.pure rfl (op_move rfl) rfl rfl ?_
      refine GoQ.pure rfl (op_move rfl) rfl rfl ?_
      obtain ⟨h51, H⟩ := H
      obtain ⟨h52, H⟩ := H
      refine GoQ.pure rfl (op_index Try.underlying22 ti3 rfl rfl h51 h52 (h_r41.some_ h51 h52)) rfl rfl ?_
      refine GoQ.stable rfl (ldInt h_r41 h51 h52 Try.underlying3 rfl rfl) rfl rfl ?_
      refine GoQ.stable rfl (oblkAgg (vs := [.int .i64 d.Letters, .int .i64 d.Start, .slice p_d_Final d.Final.length c_d_Final, .slice p_d_Next d.Next.length c_d_Next]) 0 hO rfl rfl Try.underlying42 rfl ti42 rfl) rfl rfl ?_
      refine GoQ.pure rfl (op_move rfl) rfl rfl ?_
      refine GoQ.pure rfl (op_move rfl) rfl rfl ?_
      refine GoQ.call rfl (op_call body43 rfl (walk_dfa_Run hO.lt h_d_Final h_d_Next hs_w_ H)) (fun v w hr => by obtain ⟨_, _, hs, _⟩ := hr; assumption) rfl rfl ?_
      rintro v57 w54 ⟨r53, rfl, hs55, H⟩
      have hst58 := Stp.same hO hs55
      replace hO := hst58.own
      replace h_d_Final := h_d_Final.ch hst58.ch
      replace h_d_Next := h_d_Next.ch hst58.ch
      replace h_r7 := h_r7.ch hst58.ch
      replace h_r41 := h_r41.ch hst58.ch
      replace hB := hB.trans hst58.fr
      by_cases h59 : (ix r41 q) = r53
      ·replace H := ifp h59 H
       refine GoQ.pure rfl (fun w => opB (op_eql rfl rfl w) (decide_eq_true h59)) rfl rfl ?_
       refine GoQ.pure rfl (op_pickT rfl rfl rfl) rfl rfl ?_
       refine GoQ.pure rfl (op_move rfl) rfl rfl ?_
       refine GoQ.call rfl (op_call body17 rfl (walk_law11_awake hO.lt H)) (fun v w hr => by obtain ⟨_, _, hs, _⟩ := hr; assumption) rfl rfl ?_
       rintro v64 w61 ⟨r60, rfl, hs62, H⟩
       have hst65 := Stp.same hO hs62
       replace hO := hst65.own
       replace h_d_Final := h_d_Final.ch hst65.ch
       replace h_d_Next := h_d_Next.ch hst65.ch
       replace h_r7 := h_r7.ch hst65.ch
       replace h_r41 := h_r41.ch hst65.ch
       replace hB := hB.trans hst65.fr
       refine GoQ.pure rfl (op_pickT rfl rfl rfl) rfl rfl ?_
       refine GoQ.pure rfl (op_assign rfl) rfl rfl ?_
       refine GoQ.nil ?_
       refine Go1.ret1 Try.func11 rfl ?_
       exact ⟨r60, rfl, hB.same, H⟩
      ·replace H := ifn h59 H
       refine GoQ.pure rfl (fun w => opB (op_eql rfl rfl w) (decide_eq_false h59)) rfl rfl ?_
       refine GoQ.pure rfl (op_pickT rfl rfl rfl) rfl rfl ?_
       refine GoQ.pure rfl (op_move rfl) rfl rfl ?_
       refine GoQ.pass rfl rfl rfl ?_
       refine GoQ.pure rfl (op_pickF rfl rfl rfl) rfl rfl ?_
       refine GoQ.pure rfl (op_assign rfl) rfl rfl ?_
       refine GoQ.nil ?_
       refine Go1.ret1 Try.func11 rfl ?_
       exact ⟨false, rfl, hB.same, H⟩
     ·replace H := ifn h50 H
      refine GoQ.pure rfl (fun w => opB (op_eql rfl rfl w) (decide_eq_false h50)) rfl rfl ?_
      refine GoQ.pure rfl (op_move rfl) rfl rfl ?_
      refine GoQ.pass rfl rfl rfl ?_
      refine GoQ.pass rfl rfl rfl ?_
      refine GoQ.pass rfl rfl rfl ?_
      refine GoQ.pass rfl rfl rfl ?_
      refine GoQ.pass rfl rfl rfl ?_
      refine GoQ.pass rfl rfl rfl ?_
      refine GoQ.pass rfl rfl rfl ?_
      refine GoQ.pass rfl rfl rfl ?_
      refine GoQ.pass rfl rfl rfl ?_
      refine GoQ.pure rfl (op_pickF rfl rfl rfl) rfl rfl ?_
      refine GoQ.pure rfl (op_move rfl) rfl rfl ?_
      refine GoQ.pass rfl rfl rfl ?_
      refine GoQ.pure rfl (op_pickF rfl rfl rfl) rfl rfl ?_
      refine GoQ.pure rfl (op_assign rfl) rfl rfl ?_
      refine GoQ.nil ?_
      refine Go1.ret1 Try.func11 rfl ?_
      exact ⟨false, rfl, hB.same, H⟩
 ·replace H := ifn h14 H
  refine GoR.op ((fun w => opB (op_neq rfl rfl w) (ndF h14)) _) rfl rfl ?_
  refine GoR.op ((op_move rfl) _) rfl rfl ?_
  refine GoR.pass rfl rfl ?_
  refine GoR.pass rfl rfl ?_
  refine GoR.op ((op_pickT rfl rfl rfl) _) rfl rfl ?_
  refine GoR.op ((op_move rfl) _) rfl rfl ?_
  refine GoR.pass rfl rfl ?_
  refine GoR.pass rfl rfl ?_
  refine GoR.pass rfl rfl ?_
  refine GoR.pass rfl rfl ?_
  refine GoR.pass rfl rfl ?_
  refine GoR.op ((op_pickT rfl rfl rfl) _) rfl rfl ?_
  refine GoR.op ((op_move rfl) _) rfl rfl ?_
  refine GoR.pass rfl rfl ?_
  refine GoR.pass rfl rfl ?_
  refine GoR.pass rfl rfl ?_
  refine GoR.pass rfl rfl ?_
  refine GoR.pass rfl rfl ?_
  refine GoR.op ((op_pickT rfl rfl rfl) _) rfl rfl ?_
  refine GoR.nil ?_
  refine Go1.condT rfl rfl ?_
  refine Go1.seq ?_
  refine Go1.region ?_
  refine GoR.call (op_call body17 rfl (walk_law11_awake hO.lt H)) rfl rfl ?_
  rintro v70 w67 ⟨r66, rfl, hs68, H⟩
  have hst71 := Stp.same hO hs68
  replace hO := hst71.own
  replace h_d_Final := h_d_Final.ch hst71.ch
  replace h_d_Next := h_d_Next.ch hst71.ch
  replace h_r7 := h_r7.ch hst71.ch
  replace hB := hB.trans hst71.fr
  refine GoR.op ((op_assign rfl) _) rfl rfl ?_
  refine GoR.nil ?_
  refine Go1.ret1 Try.func11 rfl ?_
  exact ⟨r66, rfl, hB.same, H⟩
end Sg
