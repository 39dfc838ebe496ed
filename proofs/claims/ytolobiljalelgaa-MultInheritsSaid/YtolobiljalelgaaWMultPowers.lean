/- The walks: each call keeps to its plain transformer. Printed by walkgen.py. -/
import Derived.Test.YtolobiljalelgaaWMultLight
namespace Sg
open Go Go.RowKit Go.Proofs
set_option linter.unusedVariables false
set_option maxRecDepth 100000
set_option maxHeartbeats 4000000
theorem body23 : Body Try.prog 23 := ⟨Try.f23, Try.func23, rfl, by kernel_rfl⟩
theorem walk_mult_Power {A : List Nat} {w0 : World} {p_t : Option Addr} {c_t : Nat} {t : List (List Int)} {x : Int} {k : Int} (hA : ∀ b ∈ A, b < w0.heap.size) (h_t : ISl (Rp.sl (Rp.int .i64)) A w0 p_t c_t t) {K : Int → Prop} (H : mult_Power t x k K) :
    CallsV Try.prog 23 #[.slice p_t t.length c_t, .int .i64 x, .int .i64 k] w0 (fun v w' => ∃ (r0 : Int), v = .int .i64 r0 ∧ Same w0 w' ∧ K r0) := by
 refine CallsV.of (l := [.slice p_t t.length c_t, .int .i64 x, .int .i64 k]) Try.func23 rfl Try.ntmps23 rfl ?_
 have hO := Owns.start hA
 have hB := Fr.refl (bl []) w0
 unfold mult_Power at H
 replace h_t := h_t.ch (Ch.start A w0)
 refine Go1.seq ?_
 refine Go1.region ?_
 refine GoR.op ((op_assign rfl) _) rfl rfl ?_
 refine GoR.nil ?_
 refine Go1.seq ?_
 refine Go1.seq ?_
 refine Go1.region ?_
 refine GoR.op ((op_move rfl) _) rfl rfl ?_
 by_cases h1 : k < (1 : Int)
 ·replace H := ifp h1 H
  refine GoR.op ((fun w => opB (op_lss rfl rfl w) (decide_eq_true h1)) _) rfl rfl ?_
  refine GoR.op ((op_move rfl) _) rfl rfl ?_
  refine GoR.pass rfl rfl ?_
  refine GoR.pass rfl rfl ?_
  refine GoR.pass rfl rfl ?_
  refine GoR.pass rfl rfl ?_
  refine GoR.pass rfl rfl ?_
  refine GoR.op ((op_pickT rfl rfl rfl) _) rfl rfl ?_
  refine GoR.nil ?_
  refine Go1.condT rfl rfl ?_
  refine Go1.seq ?_
  refine Go1.region ?_
  refine GoR.op ((op_assign rfl) _) rfl rfl ?_
  refine GoR.nil ?_
  refine Go1.ret1 Try.func23 rfl ?_
  exact ⟨(-1 : Int), rfl, hB.same, H⟩
 ·replace H := ifn h1 H
  refine GoR.op ((fun w => opB (op_lss rfl rfl w) (decide_eq_false h1)) _) rfl rfl ?_
  refine GoR.op ((op_move rfl) _) rfl rfl ?_
  refine GoR.op ((op_move rfl) _) rfl rfl ?_
  refine GoR.op ((op_move rfl) _) rfl rfl ?_
  have hobt := obuild (r := Rp.int .i64) (n := 1) (parts := [(0, .int .i64 x)]) (vs := [.int .i64 x]) (xs := [x]) rfl Try.underlying23 ti3 hO (by decide) (by kernel_rfl) (Els.cons rfl rfl (Els.nil _ _ _) (by simp [mx])) rfl
  obtain ⟨w2, p3, hst4, hE5, hs6, hop7⟩ := hobt
  refine GoR.op (hop7 rfl) rfl rfl ?_
  replace hO := hst4.own
  replace h_t := h_t.ch hst4.ch
  replace hB := hB.trans hst4.fr
  have hobt := rowlend 0 hO rfl hE5
  obtain ⟨hl9, hn10⟩ := hobt
  have hOc11 := hO.drop 0
  refine GoR.call (op_call body67 (show ([.slice p_t t.length c_t, .slice p3 1 1] : List Value) = [.slice p_t t.length c_t, .slice p3 ([x]).length 1] from by rw [← hn10]) (walk_mult_has hOc11.lt (h_t.ch (Owns.dropCh _ _ 0)) hl9 H)) rfl rfl ?_
  rintro v16 w13 ⟨r12, rfl, hs14, H⟩
  have hst17 := Stp.same hO hs14
  replace hE5 := hE5.ch hst17.ch
  replace hO := hst17.own
  replace h_t := h_t.ch hst17.ch
  replace hB := hB.trans hst17.fr
  cases r12
  ·replace H := ifn Bool.false_ne_true H
   refine GoR.op ((op_not rfl) _) rfl rfl ?_
   refine GoR.op ((op_pickF rfl rfl rfl) _) rfl rfl ?_
   refine GoR.nil ?_
   refine Go1.condT rfl rfl ?_
   refine Go1.seq ?_
   refine Go1.region ?_
   refine GoR.op ((op_assign rfl) _) rfl rfl ?_
   refine GoR.nil ?_
   refine Go1.ret1 Try.func23 rfl ?_
   exact ⟨(-1 : Int), rfl, hB.same, H⟩
  ·replace H := ifp rfl H
   refine GoR.op ((op_not rfl) _) rfl rfl ?_
   refine GoR.op ((op_pickF rfl rfl rfl) _) rfl rfl ?_
   refine GoR.nil ?_
   refine Go1.condF rfl rfl ?_
   refine Go1.skip ?_
   refine Go1.seq ?_
   refine Go1.region ?_
   refine GoR.op ((op_move rfl) _) rfl rfl ?_
   refine GoR.op ((op_move rfl) _) rfl rfl ?_
   refine GoR.op ((op_move rfl) _) rfl rfl ?_
   refine GoR.call (op_call body68 rfl (walk_mult_power hO.lt h_t H)) rfl rfl ?_
   rintro v22 w19 ⟨r18, rfl, hs20, H⟩
   have hst23 := Stp.same hO hs20
   replace hE5 := hE5.ch hst23.ch
   replace hO := hst23.own
   replace h_t := h_t.ch hst23.ch
   replace hB := hB.trans hst23.fr
   refine GoR.op ((op_assign rfl) _) rfl rfl ?_
   refine GoR.nil ?_
   refine Go1.ret1 Try.func23 rfl ?_
   exact ⟨r18, rfl, hB.same, H⟩
theorem body32 : Body Try.prog 32 := ⟨Try.f32, Try.func32, rfl, by kernel_rfl⟩
theorem walk_ref14_Associative {A : List Nat} {w0 : World} {p_t : Option Addr} {c_t : Nat} {t : List (List Int)} (hA : ∀ b ∈ A, b < w0.heap.size) (h_t : ISl (Rp.sl (Rp.int .i64)) A w0 p_t c_t t) {K : Int → Int → Int → Int → Prop} (H : ref14_Associative t K) :
    CallsV Try.prog 32 #[.slice p_t t.length c_t] w0 (fun v w' => ∃ (r0 : Int), ∃ (r1 : Int), ∃ (r2 : Int), ∃ (r3 : Int), v = .tuple #[.int .i64 r0, .int .i64 r1, .int .i64 r2, .int .i64 r3] ∧ Same w0 w' ∧ K r0 r1 r2 r3) := by
 refine CallsV.of (l := [.slice p_t t.length c_t]) Try.func32 rfl Try.ntmps32 rfl ?_
 have hO := Owns.start hA
 have hB := Fr.refl (bl []) w0
 unfold ref14_Associative at H
 replace h_t := h_t.ch (Ch.start A w0)
 refine Go1.seq ?_
 refine Go1.region ?_
 refine GoR.op ((op_assign rfl) _) rfl rfl ?_
 refine GoR.op ((op_assign rfl) _) rfl rfl ?_
 refine GoR.op ((op_assign rfl) _) rfl rfl ?_
 refine GoR.op ((op_assign rfl) _) rfl rfl ?_
 refine GoR.nil ?_
 refine Go1.seq ?_
 refine Go1.seq ?_
 refine Go1.region ?_
 refine GoR.op ((op_move rfl) _) rfl rfl ?_
 refine GoR.call (op_call body19 rfl (walk_ref14_Shape hO.lt h_t H)) rfl rfl ?_
 rintro v5 w2 ⟨r1, rfl, hs3, H⟩
 have hst6 := Stp.same hO hs3
 replace hO := hst6.own
 replace h_t := h_t.ch hst6.ch
 replace hB := hB.trans hst6.fr
 refine GoR.op ((op_assign rfl) _) rfl rfl ?_
 refine GoR.nil ?_
 refine Go1.seq ?_
 refine Go1.region ?_
 refine GoR.op ((op_move rfl) _) rfl rfl ?_
 by_cases h7 : r1 = (0 : Int)
 ·replace H := ifp h7 H
  refine GoR.op ((fun w => opB (op_neq rfl rfl w) (ndT h7)) _) rfl rfl ?_
  refine GoR.nil ?_
  refine Go1.condF rfl rfl ?_
  refine Go1.skip ?_
  refine Go1.seq ?_
  refine Go1.seq ?_
  refine Go1.region ?_
  refine GoR.op ((op_move rfl) _) rfl rfl ?_
  refine GoR.op ((op_len Try.underlying22 rfl) _) rfl rfl ?_
  replace H := H h_t.bd
  refine GoR.op ((op_move rfl) _) rfl rfl ?_
  refine GoR.nil ?_
  refine Go1.block ?_
  refine Go1.loopW (S := Nat) (fun s σ w => agrees σ [(0, .slice p_t t.length c_t), (16, .int .i64 (t.length : Int)), (17, .int .i64 (s : Int))] ∧ Owns w0.heap.size w [] A ∧ ISl (Rp.sl (Rp.int .i64)) (bl [] ++ A) w p_t c_t t ∧ Fr (bl []) w0 (bl []) w) H ⟨⟨rfl, rfl, rfl, trivial⟩, hO, h_t, hB⟩ ?_
  rintro X1 k1_9 H hX1 σ w8 ⟨hag, hO, h_t, hB⟩
  refine Go1.keep [(0, .slice p_t t.length c_t), (16, .int .i64 (t.length : Int)), (17, .int .i64 (k1_9 : Int))] hag ?_
  refine Go1.seq ?_
  refine Go1.region ?_
  by_cases h10 : (k1_9 : Int) < (t.length : Int)
  ·replace H := ifp h10 H
   refine GoR.op ((fun w => opB (op_lss rfl rfl w) (decide_eq_true h10)) _) rfl rfl ?_
   refine GoR.nil ?_
   refine Go1.seq ?_
   refine Go1.condT rfl rfl ?_
   refine Go1.skip ?_
   refine Go1.seq ?_
   refine Go1.block ?_
   refine Go1.seq ?_
   refine Go1.region ?_
   refine GoR.op ((op_move rfl) _) rfl rfl ?_
   refine GoR.op ((op_assign rfl) _) rfl rfl ?_
   refine GoR.nil ?_
   refine Go1.seq ?_
   refine Go1.region ?_
   refine GoR.op ((op_move rfl) _) rfl rfl ?_
   refine GoR.op ((op_len Try.underlying22 rfl) _) rfl rfl ?_
   refine GoR.op ((op_move rfl) _) rfl rfl ?_
   refine GoR.nil ?_
   refine Go1.block ?_
   refine Go1.loopW (S := Nat) (fun s σ w => agrees σ [(0, .slice p_t t.length c_t), (7, .int .i64 (k1_9 : Int)), (16, .int .i64 (t.length : Int)), (17, .int .i64 (k1_9 : Int)), (21, .int .i64 (t.length : Int)), (22, .int .i64 (s : Int))] ∧ Owns w0.heap.size w [] A ∧ ISl (Rp.sl (Rp.int .i64)) (bl [] ++ A) w p_t c_t t ∧ Fr (bl []) w0 (bl []) w) H ⟨⟨rfl, rfl, rfl, rfl, rfl, rfl, trivial⟩, hO, h_t, hB⟩ ?_
   rintro X2 k2_12 H hX2 σ w11 ⟨hag, hO, h_t, hB⟩
   refine Go1.keep [(0, .slice p_t t.length c_t), (7, .int .i64 (k1_9 : Int)), (16, .int .i64 (t.length : Int)), (17, .int .i64 (k1_9 : Int)), (21, .int .i64 (t.length : Int)), (22, .int .i64 (k2_12 : Int))] hag ?_
   refine Go1.seq ?_
   refine Go1.region ?_
   by_cases h13 : (k2_12 : Int) < (t.length : Int)
   ·replace H := ifp h13 H
    refine GoR.op ((fun w => opB (op_lss rfl rfl w) (decide_eq_true h13)) _) rfl rfl ?_
    refine GoR.nil ?_
    refine Go1.seq ?_
    refine Go1.condT rfl rfl ?_
    refine Go1.skip ?_
    refine Go1.seq ?_
    refine Go1.block ?_
    refine Go1.seq ?_
    refine Go1.region ?_
    refine GoR.op ((op_move rfl) _) rfl rfl ?_
    refine GoR.op ((op_assign rfl) _) rfl rfl ?_
    refine GoR.nil ?_
    refine Go1.seq ?_
    refine Go1.region ?_
    refine GoR.op ((op_move rfl) _) rfl rfl ?_
    refine GoR.op ((op_len Try.underlying22 rfl) _) rfl rfl ?_
    refine GoR.op ((op_move rfl) _) rfl rfl ?_
    refine GoR.nil ?_
    refine Go1.block ?_
    refine Go1.loopW (S := Nat) (fun s σ w => agrees σ [(0, .slice p_t t.length c_t), (7, .int .i64 (k1_9 : Int)), (8, .int .i64 (k2_12 : Int)), (16, .int .i64 (t.length : Int)), (17, .int .i64 (k1_9 : Int)), (21, .int .i64 (t.length : Int)), (22, .int .i64 (k2_12 : Int)), (26, .int .i64 (t.length : Int)), (27, .int .i64 (s : Int))] ∧ Owns w0.heap.size w [] A ∧ ISl (Rp.sl (Rp.int .i64)) (bl [] ++ A) w p_t c_t t ∧ Fr (bl []) w0 (bl []) w) H ⟨⟨rfl, rfl, rfl, rfl, rfl, rfl, rfl, rfl, rfl, trivial⟩, hO, h_t, hB⟩ ?_
    rintro X3 k3_15 H hX3 σ w14 ⟨hag, hO, h_t, hB⟩
    refine Go1.keep [(0, .slice p_t t.length c_t), (7, .int .i64 (k1_9 : Int)), (8, .int .i64 (k2_12 : Int)), (16, .int .i64 (t.length : Int)), (17, .int .i64 (k1_9 : Int)), (21, .int .i64 (t.length : Int)), (22, .int .i64 (k2_12 : Int)), (26, .int .i64 (t.length : Int)), (27, .int .i64 (k3_15 : Int))] hag ?_
    refine Go1.seq ?_
    refine Go1.region ?_
    by_cases h16 : (k3_15 : Int) < (t.length : Int)
    ·replace H := ifp h16 H
     refine GoR.op ((fun w => opB (op_lss rfl rfl w) (decide_eq_true h16)) _) rfl rfl ?_
     refine GoR.nil ?_
     refine Go1.seq ?_
     refine Go1.condT rfl rfl ?_
     refine Go1.skip ?_
     refine Go1.seq ?_
     refine Go1.block ?_
     refine Go1.seq ?_
     refine Go1.region ?_
     refine GoR.op ((op_move rfl) _) rfl rfl ?_
     refine GoR.op ((op_assign rfl) _) rfl rfl ?_
     refine GoR.nil ?_
     refine Go1.seq ?_
     refine Go1.drawS 0 [(0, .pure), (1, .pure), (2, .pure), (3, .pure), (4, .stable), (5, .pure), (6, .pure), (7, .stable), (8, .pure), (9, .stable), (10, .pure), (11, .pure), (12, .stable), (13, .pure), (14, .pure), (15, .pure), (16, .stable), (17, .pure), (18, .pure), (19, .pure), (20, .stable), (21, .pure), (22, .pure), (23, .stable), (24, .pure), (25, .stable), (26, .pure)] mixed (by kernel_rfl) ?_
     intro w17 hs18
     have hst19 := Stp.same hO hs18
     replace hO := hst19.own
     replace h_t := h_t.ch hst19.ch
     replace hB := hB.trans hst19.fr
     refine GoQ.pure rfl (op_move rfl) rfl rfl ?_
     refine GoQ.pure rfl (op_move rfl) rfl rfl ?_
     refine GoQ.pure rfl (op_move rfl) rfl rfl ?_
     obtain ⟨h20, H⟩ := H
     obtain ⟨h21, H⟩ := H
     refine GoQ.pure rfl (op_index Try.underlying22 ti23 rfl rfl h20 h21 (h_t.some_ h20 h21)) rfl rfl ?_
     have hobt := ldSl h_t h20 h21
     obtain ⟨p22, c23, hi24, hl25⟩ := hobt
     refine GoQ.stable rfl (hl25 Try.underlying23 rfl rfl) rfl rfl ?_
     refine GoQ.pure rfl (op_move rfl) rfl rfl ?_
     obtain ⟨h26, H⟩ := H
     obtain ⟨h27, H⟩ := H
     refine GoQ.pure rfl (op_index Try.underlying23 ti3 rfl rfl h26 h27 (hi24.some_ h26 h27)) rfl rfl ?_
     refine GoQ.stable rfl (ldInt hi24 h26 h27 Try.underlying3 rfl rfl) rfl rfl ?_
     obtain ⟨h28, H⟩ := H
     obtain ⟨h29, H⟩ := H
     refine GoQ.pure rfl (op_index Try.underlying22 ti23 rfl rfl h28 h29 (h_t.some_ h28 h29)) rfl rfl ?_
     have hobt := ldSl h_t h28 h29
     obtain ⟨p30, c31, hi32, hl33⟩ := hobt
     refine GoQ.stable rfl (hl33 Try.underlying23 rfl rfl) rfl rfl ?_
     refine GoQ.pure rfl (op_move rfl) rfl rfl ?_
     obtain ⟨h34, H⟩ := H
     obtain ⟨h35, H⟩ := H
     refine GoQ.pure rfl (op_index Try.underlying23 ti3 rfl rfl h34 h35 (hi32.some_ h34 h35)) rfl rfl ?_
     refine GoQ.stable rfl (ldInt hi32 h34 h35 Try.underlying3 rfl rfl) rfl rfl ?_
     refine GoQ.pure rfl (op_move rfl) rfl rfl ?_
     refine GoQ.pure rfl (op_move rfl) rfl rfl ?_
     obtain ⟨h36, H⟩ := H
     obtain ⟨h37, H⟩ := H
     refine GoQ.pure rfl (op_index Try.underlying22 ti23 rfl rfl h36 h37 (h_t.some_ h36 h37)) rfl rfl ?_
     have hobt := ldSl h_t h36 h37
     obtain ⟨p38, c39, hi40, hl41⟩ := hobt
     refine GoQ.stable rfl (hl41 Try.underlying23 rfl rfl) rfl rfl ?_
     refine GoQ.pure rfl (op_move rfl) rfl rfl ?_
     refine GoQ.pure rfl (op_move rfl) rfl rfl ?_
     obtain ⟨h42, H⟩ := H
     obtain ⟨h43, H⟩ := H
     refine GoQ.pure rfl (op_index Try.underlying22 ti23 rfl rfl h42 h43 (h_t.some_ h42 h43)) rfl rfl ?_
     have hobt := ldSl h_t h42 h43
     obtain ⟨p44, c45, hi46, hl47⟩ := hobt
     refine GoQ.stable rfl (hl47 Try.underlying23 rfl rfl) rfl rfl ?_
     refine GoQ.pure rfl (op_move rfl) rfl rfl ?_
     obtain ⟨h48, H⟩ := H
     obtain ⟨h49, H⟩ := H
     refine GoQ.pure rfl (op_index Try.underlying23 ti3 rfl rfl h48 h49 (hi46.some_ h48 h49)) rfl rfl ?_
     refine GoQ.stable rfl (ldInt hi46 h48 h49 Try.underlying3 rfl rfl) rfl rfl ?_
     obtain ⟨h50, H⟩ := H
     obtain ⟨h51, H⟩ := H
     refine GoQ.pure rfl (op_index Try.underlying23 ti3 rfl rfl h50 h51 (hi40.some_ h50 h51)) rfl rfl ?_
     refine GoQ.stable rfl (ldInt hi40 h50 h51 Try.underlying3 rfl rfl) rfl rfl ?_
     by_cases h52 : (ix (ix t (ix (ix t (k1_9 : Int)) (k2_12 : Int))) (k3_15 : Int)) = (ix (ix t (k1_9 : Int)) (ix (ix t (k2_12 : Int)) (k3_15 : Int)))
     ·replace H := ifp h52 H
      refine GoQ.pure rfl (fun w => opB (op_neq rfl rfl w) (ndT h52)) rfl rfl ?_
      refine GoQ.nil ?_
      refine Go1.condF rfl rfl ?_
      refine Go1.skip ?_
      refine Go1.inBlock ?_
      refine Go1.region ?_
      refine GoR.op ((op_add rfl rfl (wrap_i64 (natbd h16 h_t.bd))) _) rfl rfl ?_
      refine GoR.op ((op_move rfl) _) rfl rfl ?_
      refine GoR.nil ?_
      exact hX3 _ H _ _ ⟨⟨rfl, rfl, rfl, rfl, rfl, rfl, rfl, rfl, rfl, trivial⟩, hO, h_t, hB⟩
     ·replace H := ifn h52 H
      refine GoQ.pure rfl (fun w => opB (op_neq rfl rfl w) (ndF h52)) rfl rfl ?_
      refine GoQ.nil ?_
      refine Go1.condT rfl rfl ?_
      refine Go1.seq ?_
      refine Go1.region ?_
      refine GoR.op ((op_move rfl) _) rfl rfl ?_
      refine GoR.op ((op_move rfl) _) rfl rfl ?_
      refine GoR.op ((op_move rfl) _) rfl rfl ?_
      refine GoR.op ((op_assign rfl) _) rfl rfl ?_
      refine GoR.op ((op_assign rfl) _) rfl rfl ?_
      refine GoR.op ((op_assign rfl) _) rfl rfl ?_
      refine GoR.op ((op_assign rfl) _) rfl rfl ?_
      refine GoR.nil ?_
      refine Go1.ret4 Try.func32 rfl ?_
      exact ⟨(k1_9 : Int), (k2_12 : Int), (k3_15 : Int), (5 : Int), rfl, hB.same, H⟩
    ·replace H := ifn h16 H
     refine GoR.op ((fun w => opB (op_lss rfl rfl w) (decide_eq_false h16)) _) rfl rfl ?_
     refine GoR.nil ?_
     refine Go1.seq ?_
     refine Go1.condF rfl rfl ?_
     refine Go1.exit rfl ?_
     refine Go1.inBlock ?_
     refine Go1.region ?_
     refine GoR.op ((op_add rfl rfl (wrap_i64 (natbd h13 h_t.bd))) _) rfl rfl ?_
     refine GoR.op ((op_move rfl) _) rfl rfl ?_
     refine GoR.nil ?_
     exact hX2 _ H _ _ ⟨⟨rfl, rfl, rfl, rfl, rfl, rfl, trivial⟩, hO, h_t, hB⟩
   ·replace H := ifn h13 H
    refine GoR.op ((fun w => opB (op_lss rfl rfl w) (decide_eq_false h13)) _) rfl rfl ?_
    refine GoR.nil ?_
    refine Go1.seq ?_
    refine Go1.condF rfl rfl ?_
    refine Go1.exit rfl ?_
    refine Go1.inBlock ?_
    refine Go1.region ?_
    refine GoR.op ((op_add rfl rfl (wrap_i64 (natbd h10 h_t.bd))) _) rfl rfl ?_
    refine GoR.op ((op_move rfl) _) rfl rfl ?_
    refine GoR.nil ?_
    exact hX1 _ H _ _ ⟨⟨rfl, rfl, rfl, trivial⟩, hO, h_t, hB⟩
  ·replace H := ifn h10 H
   refine GoR.op ((fun w => opB (op_lss rfl rfl w) (decide_eq_false h10)) _) rfl rfl ?_
   refine GoR.nil ?_
   refine Go1.seq ?_
   refine Go1.condF rfl rfl ?_
   refine Go1.exit rfl ?_
   refine Go1.seq ?_
   refine Go1.region ?_
   refine GoR.op ((op_assign rfl) _) rfl rfl ?_
   refine GoR.op ((op_assign rfl) _) rfl rfl ?_
   refine GoR.op ((op_assign rfl) _) rfl rfl ?_
   refine GoR.op ((op_assign rfl) _) rfl rfl ?_
   refine GoR.nil ?_
   refine Go1.ret4 Try.func32 rfl ?_
   exact ⟨(0 : Int), (0 : Int), (0 : Int), (0 : Int), rfl, hB.same, H⟩
 ·replace H := ifn h7 H
  refine GoR.op ((fun w => opB (op_neq rfl rfl w) (ndF h7)) _) rfl rfl ?_
  refine GoR.nil ?_
  refine Go1.condT rfl rfl ?_
  refine Go1.seq ?_
  refine Go1.region ?_
  refine GoR.op ((op_move rfl) _) rfl rfl ?_
  refine GoR.op ((op_assign rfl) _) rfl rfl ?_
  refine GoR.op ((op_assign rfl) _) rfl rfl ?_
  refine GoR.op ((op_assign rfl) _) rfl rfl ?_
  refine GoR.op ((op_assign rfl) _) rfl rfl ?_
  refine GoR.nil ?_
  refine Go1.ret4 Try.func32 rfl ?_
  exact ⟨(0 : Int), (0 : Int), (0 : Int), r1, rfl, hB.same, H⟩
theorem body69 : Body Try.prog 69 := ⟨Try.f69, Try.func69, rfl, by kernel_rfl⟩
theorem walk_ref14_Validate {A : List Nat} {w0 : World} {p_t : Option Addr} {c_t : Nat} {t : List (List Int)} (hA : ∀ b ∈ A, b < w0.heap.size) (h_t : ISl (Rp.sl (Rp.int .i64)) A w0 p_t c_t t) {K : Int → Prop} (H : ref14_Validate t K) :
    CallsV Try.prog 69 #[.slice p_t t.length c_t] w0 (fun v w' => ∃ (r0 : Int), v = .int .i64 r0 ∧ Same w0 w' ∧ K r0) := by
 refine CallsV.of (l := [.slice p_t t.length c_t]) Try.func69 rfl Try.ntmps69 rfl ?_
 have hO := Owns.start hA
 have hB := Fr.refl (bl []) w0
 unfold ref14_Validate at H
 replace h_t := h_t.ch (Ch.start A w0)
 refine Go1.seq ?_
 refine Go1.region ?_
 refine GoR.op ((op_assign rfl) _) rfl rfl ?_
 refine GoR.nil ?_
 refine Go1.seq ?_
 refine Go1.region ?_
 refine GoR.op ((op_move rfl) _) rfl rfl ?_
 refine GoR.call (op_call body32 rfl (walk_ref14_Associative hO.lt h_t H)) rfl rfl ?_
 rintro v8 w5 ⟨r1, r2, r3, r4, rfl, hs6, H⟩
 have hst9 := Stp.same hO hs6
 replace hO := hst9.own
 replace h_t := h_t.ch hst9.ch
 replace hB := hB.trans hst9.fr
 refine GoR.op ((op_move rfl) _) rfl rfl ?_
 refine GoR.op ((op_extract rfl rfl) _) rfl rfl ?_
 refine GoR.op ((op_extract rfl rfl) _) rfl rfl ?_
 refine GoR.op ((op_extract rfl rfl) _) rfl rfl ?_
 refine GoR.op ((op_extract rfl rfl) _) rfl rfl ?_
 refine GoR.op ((op_assign rfl) _) rfl rfl ?_
 refine GoR.op ((op_assign rfl) _) rfl rfl ?_
 refine GoR.op ((op_assign rfl) _) rfl rfl ?_
 refine GoR.op ((op_assign rfl) _) rfl rfl ?_
 refine GoR.nil ?_
 refine Go1.seq ?_
 refine Go1.region ?_
 refine GoR.op ((op_move rfl) _) rfl rfl ?_
 refine GoR.op ((op_assign rfl) _) rfl rfl ?_
 refine GoR.nil ?_
 refine Go1.ret1 Try.func69 rfl ?_
 exact ⟨r4, rfl, hB.same, H⟩
theorem body26 : Body Try.prog 26 := ⟨Try.f26, Try.func26, rfl, by kernel_rfl⟩
theorem walk_ref14_Valid {A : List Nat} {w0 : World} {p_t : Option Addr} {c_t : Nat} {t : List (List Int)} (hA : ∀ b ∈ A, b < w0.heap.size) (h_t : ISl (Rp.sl (Rp.int .i64)) A w0 p_t c_t t) {K : Bool → Prop} (H : ref14_Valid t K) :
    CallsV Try.prog 26 #[.slice p_t t.length c_t] w0 (fun v w' => ∃ (r0 : Bool), v = .bool r0 ∧ Same w0 w' ∧ K r0) := by
 refine CallsV.of (l := [.slice p_t t.length c_t]) Try.func26 rfl Try.ntmps26 rfl ?_
 have hO := Owns.start hA
 have hB := Fr.refl (bl []) w0
 unfold ref14_Valid at H
 replace h_t := h_t.ch (Ch.start A w0)
 refine Go1.seq ?_
 refine Go1.region ?_
 refine GoR.op ((op_assign rfl) _) rfl rfl ?_
 refine GoR.nil ?_
 refine Go1.seq ?_
 refine Go1.region ?_
 refine GoR.op ((op_move rfl) _) rfl rfl ?_
 refine GoR.call (op_call body69 rfl (walk_ref14_Validate hO.lt h_t H)) rfl rfl ?_
 rintro v5 w2 ⟨r1, rfl, hs3, H⟩
 have hst6 := Stp.same hO hs3
 replace hO := hst6.own
 replace h_t := h_t.ch hst6.ch
 replace hB := hB.trans hst6.fr
 by_cases h7 : r1 = (0 : Int)
 ·replace H := ifp h7 H
  refine GoR.op ((fun w => opB (op_eql rfl rfl w) (decide_eq_true h7)) _) rfl rfl ?_
  refine GoR.op ((op_assign rfl) _) rfl rfl ?_
  refine GoR.nil ?_
  refine Go1.ret1 Try.func26 rfl ?_
  exact ⟨true, rfl, hB.same, H⟩
 ·replace H := ifn h7 H
  refine GoR.op ((fun w => opB (op_eql rfl rfl w) (decide_eq_false h7)) _) rfl rfl ?_
  refine GoR.op ((op_assign rfl) _) rfl rfl ?_
  refine GoR.nil ?_
  refine Go1.ret1 Try.func26 rfl ?_
  exact ⟨false, rfl, hB.same, H⟩
theorem body70 : Body Try.prog 70 := ⟨Try.f70, Try.func70, rfl, by kernel_rfl⟩
theorem walk_ref14_Powers {A : List Nat} {w0 : World} {p_t : Option Addr} {c_t : Nat} {t : List (List Int)} {x : Int} (hA : ∀ b ∈ A, b < w0.heap.size) (h_t : ISl (Rp.sl (Rp.int .i64)) A w0 p_t c_t t) {K : List Int → Int → Prop} (H : ref14_Powers t x K) :
    CallsV Try.prog 70 #[.slice p_t t.length c_t, .int .i64 x] w0 (fun v w' => ∃ (r0 : List Int), ∃ (r1 : Int), ∃ (p_r0 : Option Addr), ∃ (c_r0 : Nat), v = .tuple #[.slice p_r0 r0.length c_r0, .int .i64 r1] ∧ Same w0 w' ∧ ISl (Rp.int .i64) A w' p_r0 c_r0 r0 ∧ K r0 r1) := by
 refine CallsV.of (l := [.slice p_t t.length c_t, .int .i64 x]) Try.func70 rfl Try.ntmps70 rfl ?_
 have hO := Owns.start hA
 have hB := Fr.refl (bl []) w0
 unfold ref14_Powers at H
 replace h_t := h_t.ch (Ch.start A w0)
 refine Go1.seq ?_
 refine Go1.region ?_
 refine GoR.op ((op_assign rfl) _) rfl rfl ?_
 refine GoR.op ((op_assign rfl) _) rfl rfl ?_
 refine GoR.nil ?_
 refine Go1.seq ?_
 refine Go1.region ?_
 refine GoR.op ((op_move rfl) _) rfl rfl ?_
 have hobt := obuild (r := Rp.int .i64) (n := 1) (parts := [(0, .int .i64 x)]) (vs := [.int .i64 x]) (xs := [x]) rfl Try.underlying23 ti3 hO (by decide) (by kernel_rfl) (Els.cons rfl rfl (Els.nil _ _ _) (by simp [mx])) rfl
 obtain ⟨w1, p2, hst3, hE4, hs5, hop6⟩ := hobt
 refine GoR.op (hop6 rfl) rfl rfl ?_
 replace hO := hst3.own
 replace h_t := h_t.ch hst3.ch
 replace hB := hB.trans hst3.fr
 refine GoR.op ((op_assign rfl) _) rfl rfl ?_
 refine GoR.nil ?_
 refine Go1.block ?_
 refine Go1.loopW (S := List Int) (fun s σ w => ∃ (n14 : Nat), ∃ (p12 : Option Addr), ∃ (c13 : Nat), ∃ (vs10 : List Value), agrees σ [(0, .slice p_t t.length c_t), (1, .int .i64 x), (6, .slice p12 n14 c13)] ∧ Owns w0.heap.size w [.row 3 1 p12 n14 c13 vs10] A ∧ Els (Rp.int .i64) (bl [.row 3 1 p12 n14 c13 vs10] ++ A) w vs10 s ∧ ISl (Rp.sl (Rp.int .i64)) (bl [.row 3 1 p12 n14 c13 vs10] ++ A) w p_t c_t t ∧ Fr (bl []) w0 (bl [.row 3 1 p12 n14 c13 vs10]) w) H ⟨1, p2, 1, [.int .i64 x], ⟨rfl, rfl, rfl, trivial⟩, hO, hE4, h_t, hB⟩ ?_
 rintro X1 l1_9 H hX1 σ w8 ⟨n14, p12, c13, vs10, hag, hO, hE11, h_t, hB⟩
 refine Go1.keep [(0, .slice p_t t.length c_t), (1, .int .i64 x), (6, .slice p12 n14 c13)] hag ?_
 refine Go1.block ?_
 refine Go1.seq ?_
 refine Go1.region ?_
 refine GoR.op ((op_move rfl) _) rfl rfl ?_
 refine GoR.op ((op_move rfl) _) rfl rfl ?_
 refine GoR.op ((op_move rfl) _) rfl rfl ?_
 refine GoR.op ((op_lenN Try.underlying23 rfl (hE11.neq hO 0 rfl)) _) rfl rfl ?_
 obtain ⟨h15, H⟩ := H
 refine GoR.op ((op_sub rfl rfl (wrap_i64 h15)) _) rfl rfl ?_
 obtain ⟨h16, H⟩ := H
 obtain ⟨h17, H⟩ := H
 refine GoR.op ((op_index Try.underlying23 ti3 rfl rfl h16 (ltn (hE11.neq hO 0 rfl) h17) (hE11.psome hO 0 rfl h16 h17)) _) rfl rfl ?_
 refine GoR.op ((oldInt 0 hO rfl hE11 h16 h17 Try.underlying3 rfl rfl) _ (Same.refl _)) rfl rfl ?_
 obtain ⟨h18, H⟩ := H
 obtain ⟨h19, H⟩ := H
 refine GoR.op ((op_index Try.underlying22 ti23 rfl rfl h18 h19 (h_t.some_ h18 h19)) _) rfl rfl ?_
 have hobt := ldSl h_t h18 h19
 obtain ⟨p20, c21, hi22, hl23⟩ := hobt
 refine GoR.op ((hl23 Try.underlying23 rfl rfl) _ (Same.refl _)) rfl rfl ?_
 refine GoR.op ((op_move rfl) _) rfl rfl ?_
 obtain ⟨h24, H⟩ := H
 obtain ⟨h25, H⟩ := H
 refine GoR.op ((op_index Try.underlying23 ti3 rfl rfl h24 h25 (hi22.some_ h24 h25)) _) rfl rfl ?_
 refine GoR.op ((ldInt hi22 h24 h25 Try.underlying3 rfl rfl) _ (Same.refl _)) rfl rfl ?_
 refine GoR.op ((op_assign rfl) _) rfl rfl ?_
 refine GoR.nil ?_
 refine Go1.seq ?_
 refine Go1.seq ?_
 refine Go1.region ?_
 refine GoR.op ((op_move rfl) _) rfl rfl ?_
 refine GoR.op ((op_lenN Try.underlying23 rfl (hE11.neq hO 0 rfl)) _) rfl rfl ?_
 refine GoR.op ((op_move rfl) _) rfl rfl ?_
 refine GoR.nil ?_
 refine Go1.block ?_
 refine Go1.loopW (S := Nat) (fun s σ w => agrees σ [(0, .slice p_t t.length c_t), (1, .int .i64 x), (6, .slice p12 n14 c13), (7, .int .i64 (ix (ix t (ix l1_9 ((l1_9.length : Int) - (1 : Int)))) x)), (24, .int .i64 (l1_9.length : Int)), (25, .int .i64 (s : Int))] ∧ Owns w0.heap.size w [.row 3 1 p12 n14 c13 vs10] A ∧ Els (Rp.int .i64) (bl [.row 3 1 p12 n14 c13 vs10] ++ A) w vs10 l1_9 ∧ ISl (Rp.sl (Rp.int .i64)) (bl [.row 3 1 p12 n14 c13 vs10] ++ A) w p_t c_t t ∧ Fr (bl []) w0 (bl [.row 3 1 p12 n14 c13 vs10]) w) H ⟨⟨rfl, rfl, rfl, rfl, rfl, rfl, trivial⟩, hO, hE11, h_t, hB⟩ ?_
 rintro X2 k2_27 H hX2 σ w26 ⟨hag, hO, hE11, h_t, hB⟩
 refine Go1.keep [(0, .slice p_t t.length c_t), (1, .int .i64 x), (6, .slice p12 n14 c13), (7, .int .i64 (ix (ix t (ix l1_9 ((l1_9.length : Int) - (1 : Int)))) x)), (24, .int .i64 (l1_9.length : Int)), (25, .int .i64 (k2_27 : Int))] hag ?_
 refine Go1.seq ?_
 refine Go1.region ?_
 by_cases h28 : (k2_27 : Int) < (l1_9.length : Int)
 ·replace H := ifp h28 H
  refine GoR.op ((fun w => opB (op_lss rfl rfl w) (decide_eq_true h28)) _) rfl rfl ?_
  refine GoR.nil ?_
  refine Go1.seq ?_
  refine Go1.condT rfl rfl ?_
  refine Go1.skip ?_
  refine Go1.seq ?_
  refine Go1.block ?_
  refine Go1.seq ?_
  refine Go1.region ?_
  refine GoR.op ((op_move rfl) _) rfl rfl ?_
  refine GoR.op ((op_assign rfl) _) rfl rfl ?_
  refine GoR.nil ?_
  refine Go1.seq ?_
  refine Go1.region ?_
  refine GoR.op ((op_move rfl) _) rfl rfl ?_
  refine GoR.op ((op_move rfl) _) rfl rfl ?_
  obtain ⟨h29, H⟩ := H
  obtain ⟨h30, H⟩ := H
  refine GoR.op ((op_index Try.underlying23 ti3 rfl rfl h29 (ltn (hE11.neq hO 0 rfl) h30) (hE11.psome hO 0 rfl h29 h30)) _) rfl rfl ?_
  refine GoR.op ((oldInt 0 hO rfl hE11 h29 h30 Try.underlying3 rfl rfl) _ (Same.refl _)) rfl rfl ?_
  refine GoR.op ((op_move rfl) _) rfl rfl ?_
  by_cases h31 : (ix l1_9 (k2_27 : Int)) = (ix (ix t (ix l1_9 ((l1_9.length : Int) - (1 : Int)))) x)
  ·replace H := ifp h31 H
   refine GoR.op ((fun w => opB (op_eql rfl rfl w) (decide_eq_true h31)) _) rfl rfl ?_
   refine GoR.nil ?_
   refine Go1.condT rfl rfl ?_
   refine Go1.seq ?_
   refine Go1.region ?_
   refine GoR.op ((op_move rfl) _) rfl rfl ?_
   refine GoR.op ((op_move rfl) _) rfl rfl ?_
   refine GoR.op ((op_assign rfl) _) rfl rfl ?_
   refine GoR.op ((op_assign rfl) _) rfl rfl ?_
   refine GoR.nil ?_
   have hobt := freeze 0 hO rfl hE11
   obtain ⟨hO1, hc34, hi32, hn33⟩ := hobt
   replace h_t := h_t.ch hc34
   replace hB := hB.trans (Owns.dropFr _ _ 0)
   replace hO := hO1; clear hO1
   refine Go1.ret2 Try.func70 rfl ?_
   exact ⟨l1_9, (k2_27 : Int), p12, c13, (by show Value.tuple #[.slice p12 n14 c13, .int .i64 (k2_27 : Int)] = _; rw [hn33]), hB.same, (hi32.ch (Ch.weak _ _ _)), H⟩
  ·replace H := ifn h31 H
   refine GoR.op ((fun w => opB (op_eql rfl rfl w) (decide_eq_false h31)) _) rfl rfl ?_
   refine GoR.nil ?_
   refine Go1.condF rfl rfl ?_
   refine Go1.skip ?_
   refine Go1.inBlock ?_
   refine Go1.region ?_
   refine GoR.op ((op_add rfl rfl (wrap_i64 (natbd h28 hE11.bd))) _) rfl rfl ?_
   refine GoR.op ((op_move rfl) _) rfl rfl ?_
   refine GoR.nil ?_
   exact hX2 _ H _ _ ⟨⟨rfl, rfl, rfl, rfl, rfl, rfl, trivial⟩, hO, hE11, h_t, hB⟩
 ·replace H := ifn h28 H
  refine GoR.op ((fun w => opB (op_lss rfl rfl w) (decide_eq_false h28)) _) rfl rfl ?_
  refine GoR.nil ?_
  refine Go1.seq ?_
  refine Go1.condF rfl rfl ?_
  refine Go1.exit rfl ?_
  refine Go1.region ?_
  refine GoR.op ((op_move rfl) _) rfl rfl ?_
  refine GoR.op ((op_move rfl) _) rfl rfl ?_
  have hobt := obuild (r := Rp.int .i64) (n := 1) (parts := [(0, .int .i64 (ix (ix t (ix l1_9 ((l1_9.length : Int) - (1 : Int)))) x))]) (vs := [.int .i64 (ix (ix t (ix l1_9 ((l1_9.length : Int) - (1 : Int)))) x)]) (xs := [(ix (ix t (ix l1_9 ((l1_9.length : Int) - (1 : Int)))) x)]) rfl Try.underlying23 ti3 hO (by decide) (by kernel_rfl) (Els.cons rfl rfl (Els.nil _ _ _) (by simp [mx])) rfl
  obtain ⟨w35, p36, hst37, hE38, hs39, hop40⟩ := hobt
  refine GoR.op (hop40 rfl) rfl rfl ?_
  replace hE11 := hE11.ch hst37.ch
  replace hO := hst37.own
  replace h_t := h_t.ch hst37.ch
  replace hB := hB.trans hst37.fr
  have hobt := freeze 0 hO rfl hE38
  obtain ⟨hO1, hc44, hi42, hn43⟩ := hobt
  replace h_t := h_t.ch hc44
  replace hE11 := hE11.ch hc44
  replace hB := hB.trans (Owns.dropFr _ _ 0)
  replace hO := hO1; clear hO1
  obtain ⟨h45, H⟩ := H
  have hobt := oapp Try.underlying23 ti3 rfl 0 hO rfl hE11 hi42 hn43 h45 (by decide)
  obtain ⟨w46, p47, c48, vs49, hst50, hE51, hop52⟩ := hobt
  refine GoR.op (hop52 rfl rfl) rfl rfl ?_
  replace hO := hst50.own
  replace h_t := h_t.ch hst50.ch
  replace hi42 := hi42.ch hst50.ch
  replace hB := hB.trans hst50.fr
  refine GoR.op ((op_assign rfl) _) rfl rfl ?_
  refine GoR.nil ?_
  refine Go1.inBlock ?_
  exact hX1 _ H _ _ ⟨n14 + 1, p47, c48, vs49, ⟨rfl, rfl, rfl, trivial⟩, hO, hE51, h_t, hB⟩
theorem body27 : Body Try.prog 27 := ⟨Try.f27, Try.func27, rfl, by kernel_rfl⟩
theorem walk_ref14_IndexPeriod {A : List Nat} {w0 : World} {p_t : Option Addr} {c_t : Nat} {t : List (List Int)} {x : Int} (hA : ∀ b ∈ A, b < w0.heap.size) (h_t : ISl (Rp.sl (Rp.int .i64)) A w0 p_t c_t t) {K : Int → Int → Prop} (H : ref14_IndexPeriod t x K) :
    CallsV Try.prog 27 #[.slice p_t t.length c_t, .int .i64 x] w0 (fun v w' => ∃ (r0 : Int), ∃ (r1 : Int), v = .tuple #[.int .i64 r0, .int .i64 r1] ∧ Same w0 w' ∧ K r0 r1) := by
 refine CallsV.of (l := [.slice p_t t.length c_t, .int .i64 x]) Try.func27 rfl Try.ntmps27 rfl ?_
 have hO := Owns.start hA
 have hB := Fr.refl (bl []) w0
 unfold ref14_IndexPeriod at H
 replace h_t := h_t.ch (Ch.start A w0)
 refine Go1.seq ?_
 refine Go1.region ?_
 refine GoR.op ((op_assign rfl) _) rfl rfl ?_
 refine GoR.op ((op_assign rfl) _) rfl rfl ?_
 refine GoR.nil ?_
 refine Go1.seq ?_
 refine Go1.region ?_
 refine GoR.op ((op_move rfl) _) rfl rfl ?_
 refine GoR.op ((op_move rfl) _) rfl rfl ?_
 refine GoR.call (op_call body70 rfl (walk_ref14_Powers hO.lt h_t H)) rfl rfl ?_
 rintro v6 w3 ⟨r1, r2, p_r1, c_r1, rfl, hs4, h_r1, H⟩
 have hst7 := Stp.same hO hs4
 replace hO := hst7.own
 replace h_t := h_t.ch hst7.ch
 replace hB := hB.trans hst7.fr
 refine GoR.op ((op_move rfl) _) rfl rfl ?_
 refine GoR.op ((op_extract rfl rfl) _) rfl rfl ?_
 refine GoR.op ((op_extract rfl rfl) _) rfl rfl ?_
 refine GoR.op ((op_assign rfl) _) rfl rfl ?_
 refine GoR.op ((op_assign rfl) _) rfl rfl ?_
 refine GoR.nil ?_
 refine Go1.seq ?_
 refine Go1.region ?_
 refine GoR.op ((op_move rfl) _) rfl rfl ?_
 obtain ⟨h8, H⟩ := H
 refine GoR.op ((op_add rfl rfl (wrap_i64 h8)) _) rfl rfl ?_
 refine GoR.op ((op_move rfl) _) rfl rfl ?_
 refine GoR.op ((op_len Try.underlying23 rfl) _) rfl rfl ?_
 replace H := H h_r1.bd
 refine GoR.op ((op_move rfl) _) rfl rfl ?_
 obtain ⟨h9, H⟩ := H
 refine GoR.op ((op_sub rfl rfl (wrap_i64 h9)) _) rfl rfl ?_
 refine GoR.op ((op_assign rfl) _) rfl rfl ?_
 refine GoR.op ((op_assign rfl) _) rfl rfl ?_
 refine GoR.nil ?_
 refine Go1.ret2 Try.func27 rfl ?_
 exact ⟨(r2 + (1 : Int)), ((r1.length : Int) - r2), rfl, hB.same, H⟩
theorem body28 : Body Try.prog 28 := ⟨Try.f28, Try.func28, rfl, by kernel_rfl⟩
theorem walk_ref14_Omega {A : List Nat} {w0 : World} {p_t : Option Addr} {c_t : Nat} {t : List (List Int)} {x : Int} (hA : ∀ b ∈ A, b < w0.heap.size) (h_t : ISl (Rp.sl (Rp.int .i64)) A w0 p_t c_t t) {K : Int → Prop} (H : ref14_Omega t x K) :
    CallsV Try.prog 28 #[.slice p_t t.length c_t, .int .i64 x] w0 (fun v w' => ∃ (r0 : Int), v = .int .i64 r0 ∧ Same w0 w' ∧ K r0) := by
 refine CallsV.of (l := [.slice p_t t.length c_t, .int .i64 x]) Try.func28 rfl Try.ntmps28 rfl ?_
 have hO := Owns.start hA
 have hB := Fr.refl (bl []) w0
 unfold ref14_Omega at H
 replace h_t := h_t.ch (Ch.start A w0)
 refine Go1.seq ?_
 refine Go1.region ?_
 refine GoR.op ((op_assign rfl) _) rfl rfl ?_
 refine GoR.nil ?_
 refine Go1.seq ?_
 refine Go1.region ?_
 refine GoR.op ((op_move rfl) _) rfl rfl ?_
 refine GoR.op ((op_move rfl) _) rfl rfl ?_
 refine GoR.call (op_call body70 rfl (walk_ref14_Powers hO.lt h_t H)) rfl rfl ?_
 rintro v6 w3 ⟨r1, r2, p_r1, c_r1, rfl, hs4, h_r1, H⟩
 have hst7 := Stp.same hO hs4
 replace hO := hst7.own
 replace h_t := h_t.ch hst7.ch
 replace hB := hB.trans hst7.fr
 refine GoR.op ((op_move rfl) _) rfl rfl ?_
 refine GoR.op ((op_extract rfl rfl) _) rfl rfl ?_
 refine GoR.op ((op_extract rfl rfl) _) rfl rfl ?_
 refine GoR.op ((op_assign rfl) _) rfl rfl ?_
 refine GoR.op ((op_assign rfl) _) rfl rfl ?_
 refine GoR.nil ?_
 refine Go1.seq ?_
 refine Go1.seq ?_
 refine Go1.region ?_
 refine GoR.op ((op_move rfl) _) rfl rfl ?_
 refine GoR.op ((op_len Try.underlying23 rfl) _) rfl rfl ?_
 replace H := H h_r1.bd
 refine GoR.op ((op_move rfl) _) rfl rfl ?_
 refine GoR.nil ?_
 refine Go1.block ?_
 refine Go1.loopW (S := Nat) (fun s σ w => agrees σ [(0, .slice p_t t.length c_t), (15, .slice p_r1 r1.length c_r1), (16, .int .i64 (r1.length : Int)), (17, .int .i64 (s : Int))] ∧ Owns w0.heap.size w [] A ∧ ISl (Rp.sl (Rp.int .i64)) (bl [] ++ A) w p_t c_t t ∧ ISl (Rp.int .i64) (bl [] ++ A) w p_r1 c_r1 r1 ∧ Fr (bl []) w0 (bl []) w) H ⟨⟨rfl, rfl, rfl, rfl, trivial⟩, hO, h_t, h_r1, hB⟩ ?_
 rintro X1 k1_9 H hX1 σ w8 ⟨hag, hO, h_t, h_r1, hB⟩
 refine Go1.keep [(0, .slice p_t t.length c_t), (15, .slice p_r1 r1.length c_r1), (16, .int .i64 (r1.length : Int)), (17, .int .i64 (k1_9 : Int))] hag ?_
 refine Go1.seq ?_
 refine Go1.region ?_
 by_cases h10 : (k1_9 : Int) < (r1.length : Int)
 ·replace H := ifp h10 H
  refine GoR.op ((fun w => opB (op_lss rfl rfl w) (decide_eq_true h10)) _) rfl rfl ?_
  refine GoR.nil ?_
  refine Go1.seq ?_
  refine Go1.condT rfl rfl ?_
  refine Go1.skip ?_
  refine Go1.seq ?_
  refine Go1.block ?_
  refine Go1.seq ?_
  refine Go1.region ?_
  obtain ⟨h11, H⟩ := H
  obtain ⟨h12, H⟩ := H
  refine GoR.op ((op_index Try.underlying23 ti3 rfl rfl h11 h12 (h_r1.some_ h11 h12)) _) rfl rfl ?_
  refine GoR.op ((ldInt h_r1 h11 h12 Try.underlying3 rfl rfl) _ (Same.refl _)) rfl rfl ?_
  refine GoR.op ((op_assign rfl) _) rfl rfl ?_
  refine GoR.nil ?_
  refine Go1.seq ?_
  refine Go1.region ?_
  refine GoR.op ((op_move rfl) _) rfl rfl ?_
  refine GoR.op ((op_move rfl) _) rfl rfl ?_
  obtain ⟨h13, H⟩ := H
  obtain ⟨h14, H⟩ := H
  refine GoR.op ((op_index Try.underlying22 ti23 rfl rfl h13 h14 (h_t.some_ h13 h14)) _) rfl rfl ?_
  have hobt := ldSl h_t h13 h14
  obtain ⟨p15, c16, hi17, hl18⟩ := hobt
  refine GoR.op ((hl18 Try.underlying23 rfl rfl) _ (Same.refl _)) rfl rfl ?_
  refine GoR.op ((op_move rfl) _) rfl rfl ?_
  obtain ⟨h19, H⟩ := H
  obtain ⟨h20, H⟩ := H
  refine GoR.op ((op_index Try.underlying23 ti3 rfl rfl h19 h20 (hi17.some_ h19 h20)) _) rfl rfl ?_
  refine GoR.op ((ldInt hi17 h19 h20 Try.underlying3 rfl rfl) _ (Same.refl _)) rfl rfl ?_
  refine GoR.op ((op_move rfl) _) rfl rfl ?_
  by_cases h21 : (ix (ix t (ix r1 (k1_9 : Int))) (ix r1 (k1_9 : Int))) = (ix r1 (k1_9 : Int))
  ·replace H := ifp h21 H
   refine GoR.op ((fun w => opB (op_eql rfl rfl w) (decide_eq_true h21)) _) rfl rfl ?_
   refine GoR.nil ?_
   refine Go1.condT rfl rfl ?_
   refine Go1.seq ?_
   refine Go1.region ?_
   refine GoR.op ((op_move rfl) _) rfl rfl ?_
   refine GoR.op ((op_assign rfl) _) rfl rfl ?_
   refine GoR.nil ?_
   refine Go1.ret1 Try.func28 rfl ?_
   exact ⟨(ix r1 (k1_9 : Int)), rfl, hB.same, H⟩
  ·replace H := ifn h21 H
   refine GoR.op ((fun w => opB (op_eql rfl rfl w) (decide_eq_false h21)) _) rfl rfl ?_
   refine GoR.nil ?_
   refine Go1.condF rfl rfl ?_
   refine Go1.skip ?_
   refine Go1.inBlock ?_
   refine Go1.region ?_
   refine GoR.op ((op_add rfl rfl (wrap_i64 (natbd h10 h_r1.bd))) _) rfl rfl ?_
   refine GoR.op ((op_move rfl) _) rfl rfl ?_
   refine GoR.nil ?_
   exact hX1 _ H _ _ ⟨⟨rfl, rfl, rfl, rfl, trivial⟩, hO, h_t, h_r1, hB⟩
 ·replace H := ifn h10 H
  refine GoR.op ((fun w => opB (op_lss rfl rfl w) (decide_eq_false h10)) _) rfl rfl ?_
  refine GoR.nil ?_
  refine Go1.seq ?_
  refine Go1.condF rfl rfl ?_
  refine Go1.exit rfl ?_
  refine Go1.seq ?_
  refine Go1.region ?_
  refine GoR.op ((op_assign rfl) _) rfl rfl ?_
  refine GoR.nil ?_
  refine Go1.ret1 Try.func28 rfl ?_
  exact ⟨(-1 : Int), rfl, hB.same, H⟩
theorem body29 : Body Try.prog 29 := ⟨Try.f29, Try.func29, rfl, by kernel_rfl⟩
theorem walk_ref14_Power {A : List Nat} {w0 : World} {p_t : Option Addr} {c_t : Nat} {t : List (List Int)} {x : Int} {k : Int} (hA : ∀ b ∈ A, b < w0.heap.size) (h_t : ISl (Rp.sl (Rp.int .i64)) A w0 p_t c_t t) {K : Int → Prop} (H : ref14_Power t x k K) :
    CallsV Try.prog 29 #[.slice p_t t.length c_t, .int .i64 x, .int .i64 k] w0 (fun v w' => ∃ (r0 : Int), v = .int .i64 r0 ∧ Same w0 w' ∧ K r0) := by
 refine CallsV.of (l := [.slice p_t t.length c_t, .int .i64 x, .int .i64 k]) Try.func29 rfl Try.ntmps29 rfl ?_
 have hO := Owns.start hA
 have hB := Fr.refl (bl []) w0
 unfold ref14_Power at H
 replace h_t := h_t.ch (Ch.start A w0)
 refine Go1.seq ?_
 refine Go1.region ?_
 refine GoR.op ((op_assign rfl) _) rfl rfl ?_
 refine GoR.nil ?_
 refine Go1.seq ?_
 refine Go1.region ?_
 refine GoR.op ((op_move rfl) _) rfl rfl ?_
 refine GoR.op ((op_move rfl) _) rfl rfl ?_
 refine GoR.call (op_call body70 rfl (walk_ref14_Powers hO.lt h_t H)) rfl rfl ?_
 rintro v6 w3 ⟨r1, r2, p_r1, c_r1, rfl, hs4, h_r1, H⟩
 have hst7 := Stp.same hO hs4
 replace hO := hst7.own
 replace h_t := h_t.ch hst7.ch
 replace hB := hB.trans hst7.fr
 refine GoR.op ((op_move rfl) _) rfl rfl ?_
 refine GoR.op ((op_extract rfl rfl) _) rfl rfl ?_
 refine GoR.op ((op_extract rfl rfl) _) rfl rfl ?_
 refine GoR.op ((op_assign rfl) _) rfl rfl ?_
 refine GoR.op ((op_assign rfl) _) rfl rfl ?_
 refine GoR.nil ?_
 refine Go1.seq ?_
 refine Go1.seq ?_
 refine Go1.region ?_
 refine GoR.op ((op_move rfl) _) rfl rfl ?_
 refine GoR.op ((op_move rfl) _) rfl rfl ?_
 refine GoR.op ((op_len Try.underlying23 rfl) _) rfl rfl ?_
 replace H := H h_r1.bd
 by_cases h8 : k ≤ (r1.length : Int)
 ·replace H := ifp h8 H
  refine GoR.op ((fun w => opB (op_leq rfl rfl w) (decide_eq_true h8)) _) rfl rfl ?_
  refine GoR.nil ?_
  refine Go1.condT rfl rfl ?_
  refine Go1.seq ?_
  refine Go1.region ?_
  refine GoR.op ((op_move rfl) _) rfl rfl ?_
  refine GoR.op ((op_move rfl) _) rfl rfl ?_
  obtain ⟨h9, H⟩ := H
  refine GoR.op ((op_sub rfl rfl (wrap_i64 h9)) _) rfl rfl ?_
  obtain ⟨h10, H⟩ := H
  obtain ⟨h11, H⟩ := H
  refine GoR.op ((op_index Try.underlying23 ti3 rfl rfl h10 h11 (h_r1.some_ h10 h11)) _) rfl rfl ?_
  refine GoR.op ((ldInt h_r1 h10 h11 Try.underlying3 rfl rfl) _ (Same.refl _)) rfl rfl ?_
  refine GoR.op ((op_assign rfl) _) rfl rfl ?_
  refine GoR.nil ?_
  refine Go1.ret1 Try.func29 rfl ?_
  exact ⟨(ix r1 (k - (1 : Int))), rfl, hB.same, H⟩
 ·replace H := ifn h8 H
  refine GoR.op ((fun w => opB (op_leq rfl rfl w) (decide_eq_false h8)) _) rfl rfl ?_
  refine GoR.nil ?_
  refine Go1.condF rfl rfl ?_
  refine Go1.skip ?_
  refine Go1.seq ?_
  refine Go1.region ?_
  refine GoR.op ((op_move rfl) _) rfl rfl ?_
  refine GoR.op ((op_move rfl) _) rfl rfl ?_
  refine GoR.op ((op_move rfl) _) rfl rfl ?_
  obtain ⟨h12, H⟩ := H
  refine GoR.op ((op_sub rfl rfl (wrap_i64 h12)) _) rfl rfl ?_
  refine GoR.op ((op_move rfl) _) rfl rfl ?_
  obtain ⟨h13, H⟩ := H
  refine GoR.op ((op_sub rfl rfl (wrap_i64 h13)) _) rfl rfl ?_
  refine GoR.op ((op_move rfl) _) rfl rfl ?_
  refine GoR.op ((op_len Try.underlying23 rfl) _) rfl rfl ?_
  refine GoR.op ((op_move rfl) _) rfl rfl ?_
  obtain ⟨h14, H⟩ := H
  refine GoR.op ((op_sub rfl rfl (wrap_i64 h14)) _) rfl rfl ?_
  obtain ⟨h15, H⟩ := H
  refine GoR.op ((op_rem rfl rfl h15 rfl) _) rfl rfl ?_
  obtain ⟨h16, H⟩ := H
  refine GoR.op ((op_add rfl rfl (wrap_i64 h16)) _) rfl rfl ?_
  obtain ⟨h17, H⟩ := H
  obtain ⟨h18, H⟩ := H
  refine GoR.op ((op_index Try.underlying23 ti3 rfl rfl h17 h18 (h_r1.some_ h17 h18)) _) rfl rfl ?_
  refine GoR.op ((ldInt h_r1 h17 h18 Try.underlying3 rfl rfl) _ (Same.refl _)) rfl rfl ?_
  refine GoR.op ((op_assign rfl) _) rfl rfl ?_
  refine GoR.nil ?_
  refine Go1.ret1 Try.func29 rfl ?_
  exact ⟨(ix r1 (r2 + (((k - (1 : Int)) - r2).tmod ((r1.length : Int) - r2)))), rfl, hB.same, H⟩
theorem body4 : Body Try.prog 4 := ⟨Try.f4, Try.func4, rfl, by kernel_rfl⟩
theorem walk_law14_MultPowers {A : List Nat} {w0 : World} {p_a0 : Option Addr} {c_a0 : Nat} {a0 : List (List Int)} {a1 : Int} {a2 : Int} (hA : ∀ b ∈ A, b < w0.heap.size) (h_a0 : ISl (Rp.sl (Rp.int .i64)) A w0 p_a0 c_a0 a0) {K : Bool → Prop} (H : law14_MultPowers a0 a1 a2 K) :
    CallsV Try.prog 4 #[.slice p_a0 a0.length c_a0, .int .i64 a1, .int .i64 a2] w0 (fun v w' => ∃ (r0 : Bool), v = .bool r0 ∧ Same w0 w' ∧ K r0) := by
 refine CallsV.of (l := [.slice p_a0 a0.length c_a0, .int .i64 a1, .int .i64 a2]) Try.func4 rfl Try.ntmps4 rfl ?_
 have hO := Owns.start hA
 have hB := Fr.refl (bl []) w0
 unfold law14_MultPowers at H
 replace h_a0 := h_a0.ch (Ch.start A w0)
 refine Go1.seq ?_
 refine Go1.region ?_
 refine GoR.op ((op_assign rfl) _) rfl rfl ?_
 refine GoR.nil ?_
 refine Go1.seq ?_
 refine Go1.seq ?_
 refine Go1.region ?_
 refine GoR.op ((op_move rfl) _) rfl rfl ?_
 refine GoR.call (op_call body19 rfl (walk_ref14_Shape hO.lt h_a0 H)) rfl rfl ?_
 rintro v5 w2 ⟨r1, rfl, hs3, H⟩
 have hst6 := Stp.same hO hs3
 replace hO := hst6.own
 replace h_a0 := h_a0.ch hst6.ch
 replace hB := hB.trans hst6.fr
 by_cases h7 : r1 = (0 : Int)
 ·replace H := ifp h7 H
  refine GoR.op ((fun w => opB (op_eql rfl rfl w) (decide_eq_true h7)) _) rfl rfl ?_
  refine GoR.op ((op_move rfl) _) rfl rfl ?_
  refine GoR.op ((op_move rfl) _) rfl rfl ?_
  refine GoR.op ((op_len Try.underlying22 rfl) _) rfl rfl ?_
  replace H := H h_a0.bd
  by_cases h8 : (30 : Int) < (a0.length : Int)
  ·replace H := ifp h8 H
   refine GoR.op ((fun w => opB (op_gtr rfl rfl w) (decide_eq_true h8)) _) rfl rfl ?_
   refine GoR.op ((op_pickT rfl rfl rfl) _) rfl rfl ?_
   refine GoR.nil ?_
   refine Go1.condT rfl rfl ?_
   refine Go1.seq ?_
   refine Go1.region ?_
   refine GoR.call (op_call body16 rfl (walk_law14_awake hO.lt H)) rfl rfl ?_
   rintro v13 w10 ⟨r9, rfl, hs11, H⟩
   have hst14 := Stp.same hO hs11
   replace hO := hst14.own
   replace h_a0 := h_a0.ch hst14.ch
   replace hB := hB.trans hst14.fr
   refine GoR.op ((op_assign rfl) _) rfl rfl ?_
   refine GoR.nil ?_
   refine Go1.ret1 Try.func4 rfl ?_
   exact ⟨r9, rfl, hB.same, H⟩
  ·replace H := ifn h8 H
   refine GoR.op ((fun w => opB (op_gtr rfl rfl w) (decide_eq_false h8)) _) rfl rfl ?_
   refine GoR.op ((op_pickT rfl rfl rfl) _) rfl rfl ?_
   refine GoR.nil ?_
   refine Go1.condF rfl rfl ?_
   refine Go1.skip ?_
   refine Go1.seq ?_
   refine Go1.region ?_
   refine GoR.op ((op_move rfl) _) rfl rfl ?_
   refine GoR.op ((op_move rfl) _) rfl rfl ?_
   refine GoR.op ((op_move rfl) _) rfl rfl ?_
   refine GoR.call (op_call body23 rfl (walk_mult_Power hO.lt h_a0 H)) rfl rfl ?_
   rintro v19 w16 ⟨r15, rfl, hs17, H⟩
   have hst20 := Stp.same hO hs17
   replace hO := hst20.own
   replace h_a0 := h_a0.ch hst20.ch
   replace hB := hB.trans hst20.fr
   refine GoR.op ((op_move rfl) _) rfl rfl ?_
   refine GoR.op ((op_move rfl) _) rfl rfl ?_
   refine GoR.call (op_call body24 rfl (walk_mult_Omega hO.lt h_a0 H)) rfl rfl ?_
   rintro v25 w22 ⟨r21, rfl, hs23, H⟩
   have hst26 := Stp.same hO hs23
   replace hO := hst26.own
   replace h_a0 := h_a0.ch hst26.ch
   replace hB := hB.trans hst26.fr
   refine GoR.op ((op_assign rfl) _) rfl rfl ?_
   refine GoR.op ((op_assign rfl) _) rfl rfl ?_
   refine GoR.nil ?_
   refine Go1.seq ?_
   refine Go1.region ?_
   refine GoR.op ((op_move rfl) _) rfl rfl ?_
   refine GoR.op ((op_move rfl) _) rfl rfl ?_
   refine GoR.call (op_call body25 rfl (walk_mult_IndexPeriod hO.lt h_a0 H)) rfl rfl ?_
   rintro v32 w29 ⟨r27, r28, rfl, hs30, H⟩
   have hst33 := Stp.same hO hs30
   replace hO := hst33.own
   replace h_a0 := h_a0.ch hst33.ch
   replace hB := hB.trans hst33.fr
   refine GoR.op ((op_move rfl) _) rfl rfl ?_
   refine GoR.op ((op_extract rfl rfl) _) rfl rfl ?_
   refine GoR.op ((op_extract rfl rfl) _) rfl rfl ?_
   refine GoR.op ((op_assign rfl) _) rfl rfl ?_
   refine GoR.op ((op_assign rfl) _) rfl rfl ?_
   refine GoR.nil ?_
   refine Go1.seq ?_
   refine Go1.seq ?_
   refine Go1.region ?_
   refine GoR.op ((op_move rfl) _) rfl rfl ?_
   refine GoR.call (op_call body26 rfl (walk_ref14_Valid hO.lt h_a0 H)) rfl rfl ?_
   rintro v38 w35 ⟨r34, rfl, hs36, H⟩
   have hst39 := Stp.same hO hs36
   replace hO := hst39.own
   replace h_a0 := h_a0.ch hst39.ch
   replace hB := hB.trans hst39.fr
   cases r34
   ·replace H := ifn Bool.false_ne_true H
    refine GoR.op ((op_not rfl) _) rfl rfl ?_
    refine GoR.op ((op_move rfl) _) rfl rfl ?_
    refine GoR.pass rfl rfl ?_
    refine GoR.pass rfl rfl ?_
    refine GoR.pass rfl rfl ?_
    refine GoR.pass rfl rfl ?_
    refine GoR.pass rfl rfl ?_
    refine GoR.op ((op_pickT rfl rfl rfl) _) rfl rfl ?_
    refine GoR.nil ?_
    refine Go1.condT rfl rfl ?_
    refine Go1.seq ?_
    refine Go1.region ?_
    refine GoR.op ((op_move rfl) _) rfl rfl ?_
    by_cases h40 : r15 = (-1 : Int)
    ·replace H := ifp h40 H
     refine GoR.op ((fun w => opB (op_eql rfl rfl w) (decide_eq_true h40)) _) rfl rfl ?_
     refine GoR.op ((op_move rfl) _) rfl rfl ?_
     refine GoR.op ((op_move rfl) _) rfl rfl ?_
     by_cases h41 : r21 = (-1 : Int)
     ·replace H := ifp h41 H
      refine GoR.op ((fun w => opB (op_eql rfl rfl w) (decide_eq_true h41)) _) rfl rfl ?_
      refine GoR.op ((op_pickT rfl rfl rfl) _) rfl rfl ?_
      refine GoR.op ((op_move rfl) _) rfl rfl ?_
      refine GoR.op ((op_move rfl) _) rfl rfl ?_
      by_cases h42 : r27 = (0 : Int)
      ·replace H := ifp h42 H
       refine GoR.op ((fun w => opB (op_eql rfl rfl w) (decide_eq_true h42)) _) rfl rfl ?_
       refine GoR.op ((op_pickT rfl rfl rfl) _) rfl rfl ?_
       refine GoR.op ((op_move rfl) _) rfl rfl ?_
       refine GoR.op ((op_move rfl) _) rfl rfl ?_
       by_cases h43 : r28 = (0 : Int)
       ·replace H := ifp h43 H
        refine GoR.op ((fun w => opB (op_eql rfl rfl w) (decide_eq_true h43)) _) rfl rfl ?_
        refine GoR.op ((op_pickT rfl rfl rfl) _) rfl rfl ?_
        refine GoR.op ((op_move rfl) _) rfl rfl ?_
        refine GoR.call (op_call body16 rfl (walk_law14_awake hO.lt H)) rfl rfl ?_
        rintro v48 w45 ⟨r44, rfl, hs46, H⟩
        have hst49 := Stp.same hO hs46
        replace hO := hst49.own
        replace h_a0 := h_a0.ch hst49.ch
        replace hB := hB.trans hst49.fr
        refine GoR.op ((op_pickT rfl rfl rfl) _) rfl rfl ?_
        refine GoR.op ((op_assign rfl) _) rfl rfl ?_
        refine GoR.nil ?_
        refine Go1.ret1 Try.func4 rfl ?_
        exact ⟨r44, rfl, hB.same, H⟩
       ·replace H := ifn h43 H
        refine GoR.op ((fun w => opB (op_eql rfl rfl w) (decide_eq_false h43)) _) rfl rfl ?_
        refine GoR.op ((op_pickT rfl rfl rfl) _) rfl rfl ?_
        refine GoR.op ((op_move rfl) _) rfl rfl ?_
        refine GoR.pass rfl rfl ?_
        refine GoR.op ((op_pickF rfl rfl rfl) _) rfl rfl ?_
        refine GoR.op ((op_assign rfl) _) rfl rfl ?_
        refine GoR.nil ?_
        refine Go1.ret1 Try.func4 rfl ?_
        exact ⟨false, rfl, hB.same, H⟩
      ·replace H := ifn h42 H
       refine GoR.op ((fun w => opB (op_eql rfl rfl w) (decide_eq_false h42)) _) rfl rfl ?_
       refine GoR.op ((op_pickT rfl rfl rfl) _) rfl rfl ?_
       refine GoR.op ((op_move rfl) _) rfl rfl ?_
       refine GoR.pass rfl rfl ?_
       refine GoR.pass rfl rfl ?_
       refine GoR.op ((op_pickF rfl rfl rfl) _) rfl rfl ?_
       refine GoR.op ((op_move rfl) _) rfl rfl ?_
       refine GoR.pass rfl rfl ?_
       refine GoR.op ((op_pickF rfl rfl rfl) _) rfl rfl ?_
       refine GoR.op ((op_assign rfl) _) rfl rfl ?_
       refine GoR.nil ?_
       refine Go1.ret1 Try.func4 rfl ?_
       exact ⟨false, rfl, hB.same, H⟩
     ·replace H := ifn h41 H
      refine GoR.op ((fun w => opB (op_eql rfl rfl w) (decide_eq_false h41)) _) rfl rfl ?_
      refine GoR.op ((op_pickT rfl rfl rfl) _) rfl rfl ?_
      refine GoR.op ((op_move rfl) _) rfl rfl ?_
      refine GoR.pass rfl rfl ?_
      refine GoR.pass rfl rfl ?_
      refine GoR.op ((op_pickF rfl rfl rfl) _) rfl rfl ?_
      refine GoR.op ((op_move rfl) _) rfl rfl ?_
      refine GoR.pass rfl rfl ?_
      refine GoR.pass rfl rfl ?_
      refine GoR.op ((op_pickF rfl rfl rfl) _) rfl rfl ?_
      refine GoR.op ((op_move rfl) _) rfl rfl ?_
      refine GoR.pass rfl rfl ?_
      refine GoR.op ((op_pickF rfl rfl rfl) _) rfl rfl ?_
      refine GoR.op ((op_assign rfl) _) rfl rfl ?_
      refine GoR.nil ?_
      refine Go1.ret1 Try.func4 rfl ?_
      exact ⟨false, rfl, hB.same, H⟩
    ·replace H := ifn h40 H
     refine GoR.op ((fun w => opB (op_eql rfl rfl w) (decide_eq_false h40)) _) rfl rfl ?_
     refine GoR.op ((op_move rfl) _) rfl rfl ?_
     refine GoR.pass rfl rfl ?_
     refine GoR.pass rfl rfl ?_
     refine GoR.op ((op_pickF rfl rfl rfl) _) rfl rfl ?_
     refine GoR.op ((op_move rfl) _) rfl rfl ?_
     refine GoR.pass rfl rfl ?_
     refine GoR.pass rfl rfl ?_
     refine GoR.op ((op_pickF rfl rfl rfl) _) rfl rfl ?_
     refine GoR.op ((op_move rfl) _) rfl rfl ?_
     refine GoR.pass rfl rfl ?_
     refine GoR.pass rfl rfl ?_
     refine GoR.op ((op_pickF rfl rfl rfl) _) rfl rfl ?_
     refine GoR.op ((op_move rfl) _) rfl rfl ?_
     refine GoR.pass rfl rfl ?_
     refine GoR.op ((op_pickF rfl rfl rfl) _) rfl rfl ?_
     refine GoR.op ((op_assign rfl) _) rfl rfl ?_
     refine GoR.nil ?_
     refine Go1.ret1 Try.func4 rfl ?_
     exact ⟨false, rfl, hB.same, H⟩
   ·replace H := ifp rfl H
    refine GoR.op ((op_not rfl) _) rfl rfl ?_
    refine GoR.op ((op_move rfl) _) rfl rfl ?_
    refine GoR.op ((op_move rfl) _) rfl rfl ?_
    refine GoR.op ((op_move rfl) _) rfl rfl ?_
    have hobt := obuild (r := Rp.int .i64) (n := 1) (parts := [(0, .int .i64 a1)]) (vs := [.int .i64 a1]) (xs := [a1]) rfl Try.underlying23 ti3 hO (by decide) (by kernel_rfl) (Els.cons rfl rfl (Els.nil _ _ _) (by simp [mx])) rfl
    obtain ⟨w50, p51, hst52, hE53, hs54, hop55⟩ := hobt
    refine GoR.op (hop55 rfl) rfl rfl ?_
    replace hO := hst52.own
    replace h_a0 := h_a0.ch hst52.ch
    replace hB := hB.trans hst52.fr
    have hobt := rowlend 0 hO rfl hE53
    obtain ⟨hl57, hn58⟩ := hobt
    have hOc59 := hO.drop 0
    refine GoR.call (op_call body20 (show ([.slice p_a0 a0.length c_a0, .slice p51 1 1] : List Value) = [.slice p_a0 a0.length c_a0, .slice p51 ([a1]).length 1] from by rw [← hn58]) (walk_ref14_In hOc59.lt (h_a0.ch (Owns.dropCh _ _ 0)) hl57 H)) rfl rfl ?_
    rintro v64 w61 ⟨r60, rfl, hs62, H⟩
    have hst65 := Stp.same hO hs62
    replace hE53 := hE53.ch hst65.ch
    replace hO := hst65.own
    replace h_a0 := h_a0.ch hst65.ch
    replace hB := hB.trans hst65.fr
    cases r60
    ·replace H := ifn Bool.false_ne_true H
     refine GoR.op ((op_not rfl) _) rfl rfl ?_
     refine GoR.op ((op_pickF rfl rfl rfl) _) rfl rfl ?_
     refine GoR.nil ?_
     refine Go1.condT rfl rfl ?_
     refine Go1.seq ?_
     refine Go1.region ?_
     refine GoR.op ((op_move rfl) _) rfl rfl ?_
     by_cases h66 : r15 = (-1 : Int)
     ·replace H := ifp h66 H
      refine GoR.op ((fun w => opB (op_eql rfl rfl w) (decide_eq_true h66)) _) rfl rfl ?_
      refine GoR.op ((op_move rfl) _) rfl rfl ?_
      refine GoR.op ((op_move rfl) _) rfl rfl ?_
      by_cases h67 : r21 = (-1 : Int)
      ·replace H := ifp h67 H
       refine GoR.op ((fun w => opB (op_eql rfl rfl w) (decide_eq_true h67)) _) rfl rfl ?_
       refine GoR.op ((op_pickT rfl rfl rfl) _) rfl rfl ?_
       refine GoR.op ((op_move rfl) _) rfl rfl ?_
       refine GoR.op ((op_move rfl) _) rfl rfl ?_
       by_cases h68 : r27 = (0 : Int)
       ·replace H := ifp h68 H
        refine GoR.op ((fun w => opB (op_eql rfl rfl w) (decide_eq_true h68)) _) rfl rfl ?_
        refine GoR.op ((op_pickT rfl rfl rfl) _) rfl rfl ?_
        refine GoR.op ((op_move rfl) _) rfl rfl ?_
        refine GoR.op ((op_move rfl) _) rfl rfl ?_
        by_cases h69 : r28 = (0 : Int)
        ·replace H := ifp h69 H
         refine GoR.op ((fun w => opB (op_eql rfl rfl w) (decide_eq_true h69)) _) rfl rfl ?_
         refine GoR.op ((op_pickT rfl rfl rfl) _) rfl rfl ?_
         refine GoR.op ((op_move rfl) _) rfl rfl ?_
         refine GoR.call (op_call body16 rfl (walk_law14_awake hO.lt H)) rfl rfl ?_
         rintro v74 w71 ⟨r70, rfl, hs72, H⟩
         have hst75 := Stp.same hO hs72
         replace hE53 := hE53.ch hst75.ch
         replace hO := hst75.own
         replace h_a0 := h_a0.ch hst75.ch
         replace hB := hB.trans hst75.fr
         refine GoR.op ((op_pickT rfl rfl rfl) _) rfl rfl ?_
         refine GoR.op ((op_assign rfl) _) rfl rfl ?_
         refine GoR.nil ?_
         refine Go1.ret1 Try.func4 rfl ?_
         exact ⟨r70, rfl, hB.same, H⟩
        ·replace H := ifn h69 H
         refine GoR.op ((fun w => opB (op_eql rfl rfl w) (decide_eq_false h69)) _) rfl rfl ?_
         refine GoR.op ((op_pickT rfl rfl rfl) _) rfl rfl ?_
         refine GoR.op ((op_move rfl) _) rfl rfl ?_
         refine GoR.pass rfl rfl ?_
         refine GoR.op ((op_pickF rfl rfl rfl) _) rfl rfl ?_
         refine GoR.op ((op_assign rfl) _) rfl rfl ?_
         refine GoR.nil ?_
         refine Go1.ret1 Try.func4 rfl ?_
         exact ⟨false, rfl, hB.same, H⟩
       ·replace H := ifn h68 H
        refine GoR.op ((fun w => opB (op_eql rfl rfl w) (decide_eq_false h68)) _) rfl rfl ?_
        refine GoR.op ((op_pickT rfl rfl rfl) _) rfl rfl ?_
        refine GoR.op ((op_move rfl) _) rfl rfl ?_
        refine GoR.pass rfl rfl ?_
        refine GoR.pass rfl rfl ?_
        refine GoR.op ((op_pickF rfl rfl rfl) _) rfl rfl ?_
        refine GoR.op ((op_move rfl) _) rfl rfl ?_
        refine GoR.pass rfl rfl ?_
        refine GoR.op ((op_pickF rfl rfl rfl) _) rfl rfl ?_
        refine GoR.op ((op_assign rfl) _) rfl rfl ?_
        refine GoR.nil ?_
        refine Go1.ret1 Try.func4 rfl ?_
        exact ⟨false, rfl, hB.same, H⟩
      ·replace H := ifn h67 H
       refine GoR.op ((fun w => opB (op_eql rfl rfl w) (decide_eq_false h67)) _) rfl rfl ?_
       refine GoR.op ((op_pickT rfl rfl rfl) _) rfl rfl ?_
       refine GoR.op ((op_move rfl) _) rfl rfl ?_
       refine GoR.pass rfl rfl ?_
       refine GoR.pass rfl rfl ?_
       refine GoR.op ((op_pickF rfl rfl rfl) _) rfl rfl ?_
       refine GoR.op ((op_move rfl) _) rfl rfl ?_
       refine GoR.pass rfl rfl ?_
       refine GoR.pass rfl rfl ?_
       refine GoR.op ((op_pickF rfl rfl rfl) _) rfl rfl ?_
       refine GoR.op ((op_move rfl) _) rfl rfl ?_
       refine GoR.pass rfl rfl ?_
       refine GoR.op ((op_pickF rfl rfl rfl) _) rfl rfl ?_
       refine GoR.op ((op_assign rfl) _) rfl rfl ?_
       refine GoR.nil ?_
       refine Go1.ret1 Try.func4 rfl ?_
       exact ⟨false, rfl, hB.same, H⟩
     ·replace H := ifn h66 H
      refine GoR.op ((fun w => opB (op_eql rfl rfl w) (decide_eq_false h66)) _) rfl rfl ?_
      refine GoR.op ((op_move rfl) _) rfl rfl ?_
      refine GoR.pass rfl rfl ?_
      refine GoR.pass rfl rfl ?_
      refine GoR.op ((op_pickF rfl rfl rfl) _) rfl rfl ?_
      refine GoR.op ((op_move rfl) _) rfl rfl ?_
      refine GoR.pass rfl rfl ?_
      refine GoR.pass rfl rfl ?_
      refine GoR.op ((op_pickF rfl rfl rfl) _) rfl rfl ?_
      refine GoR.op ((op_move rfl) _) rfl rfl ?_
      refine GoR.pass rfl rfl ?_
      refine GoR.pass rfl rfl ?_
      refine GoR.op ((op_pickF rfl rfl rfl) _) rfl rfl ?_
      refine GoR.op ((op_move rfl) _) rfl rfl ?_
      refine GoR.pass rfl rfl ?_
      refine GoR.op ((op_pickF rfl rfl rfl) _) rfl rfl ?_
      refine GoR.op ((op_assign rfl) _) rfl rfl ?_
      refine GoR.nil ?_
      refine Go1.ret1 Try.func4 rfl ?_
      exact ⟨false, rfl, hB.same, H⟩
    ·replace H := ifp rfl H
     refine GoR.op ((op_not rfl) _) rfl rfl ?_
     refine GoR.op ((op_pickF rfl rfl rfl) _) rfl rfl ?_
     refine GoR.nil ?_
     refine Go1.condF rfl rfl ?_
     refine Go1.skip ?_
     refine Go1.seq ?_
     refine Go1.region ?_
     refine GoR.op ((op_move rfl) _) rfl rfl ?_
     refine GoR.op ((op_move rfl) _) rfl rfl ?_
     refine GoR.call (op_call body27 rfl (walk_ref14_IndexPeriod hO.lt h_a0 H)) rfl rfl ?_
     rintro v81 w78 ⟨r76, r77, rfl, hs79, H⟩
     have hst82 := Stp.same hO hs79
     replace hE53 := hE53.ch hst82.ch
     replace hO := hst82.own
     replace h_a0 := h_a0.ch hst82.ch
     replace hB := hB.trans hst82.fr
     refine GoR.op ((op_move rfl) _) rfl rfl ?_
     refine GoR.op ((op_extract rfl rfl) _) rfl rfl ?_
     refine GoR.op ((op_extract rfl rfl) _) rfl rfl ?_
     refine GoR.op ((op_assign rfl) _) rfl rfl ?_
     refine GoR.op ((op_assign rfl) _) rfl rfl ?_
     refine GoR.nil ?_
     refine Go1.seq ?_
     refine Go1.seq ?_
     refine Go1.region ?_
     refine GoR.op ((op_move rfl) _) rfl rfl ?_
     refine GoR.op ((op_move rfl) _) rfl rfl ?_
     by_cases h83 : r27 = r76
     ·replace H := ifp h83 H
      refine GoR.op ((fun w => opB (op_neq rfl rfl w) (ndT h83)) _) rfl rfl ?_
      refine GoR.op ((op_move rfl) _) rfl rfl ?_
      refine GoR.op ((op_move rfl) _) rfl rfl ?_
      refine GoR.op ((op_move rfl) _) rfl rfl ?_
      by_cases h84 : r28 = r77
      ·replace H := ifp h84 H
       refine GoR.op ((fun w => opB (op_neq rfl rfl w) (ndT h84)) _) rfl rfl ?_
       refine GoR.op ((op_pickF rfl rfl rfl) _) rfl rfl ?_
       refine GoR.op ((op_move rfl) _) rfl rfl ?_
       refine GoR.op ((op_move rfl) _) rfl rfl ?_
       refine GoR.op ((op_move rfl) _) rfl rfl ?_
       refine GoR.op ((op_move rfl) _) rfl rfl ?_
       refine GoR.call (op_call body28 rfl (walk_ref14_Omega hO.lt h_a0 H)) rfl rfl ?_
       rintro v89 w86 ⟨r85, rfl, hs87, H⟩
       have hst90 := Stp.same hO hs87
       replace hE53 := hE53.ch hst90.ch
       replace hO := hst90.own
       replace h_a0 := h_a0.ch hst90.ch
       replace hB := hB.trans hst90.fr
       by_cases h91 : r21 = r85
       ·replace H := ifp h91 H
        refine GoR.op ((fun w => opB (op_neq rfl rfl w) (ndT h91)) _) rfl rfl ?_
        refine GoR.op ((op_pickF rfl rfl rfl) _) rfl rfl ?_
        refine GoR.nil ?_
        refine Go1.condF rfl rfl ?_
        refine Go1.skip ?_
        refine Go1.seq ?_
        refine Go1.seq ?_
        refine Go1.region ?_
        refine GoR.op ((op_move rfl) _) rfl rfl ?_
        by_cases h92 : a2 < (1 : Int)
        ·replace H := ifp h92 H
         refine GoR.op ((fun w => opB (op_lss rfl rfl w) (decide_eq_true h92)) _) rfl rfl ?_
         refine GoR.nil ?_
         refine Go1.condT rfl rfl ?_
         refine Go1.seq ?_
         refine Go1.region ?_
         refine GoR.op ((op_move rfl) _) rfl rfl ?_
         by_cases h93 : r15 = (-1 : Int)
         ·replace H := ifp h93 H
          refine GoR.op ((fun w => opB (op_eql rfl rfl w) (decide_eq_true h93)) _) rfl rfl ?_
          refine GoR.op ((op_move rfl) _) rfl rfl ?_
          refine GoR.call (op_call body16 rfl (walk_law14_awake hO.lt H)) rfl rfl ?_
          rintro v98 w95 ⟨r94, rfl, hs96, H⟩
          have hst99 := Stp.same hO hs96
          replace hE53 := hE53.ch hst99.ch
          replace hO := hst99.own
          replace h_a0 := h_a0.ch hst99.ch
          replace hB := hB.trans hst99.fr
          refine GoR.op ((op_pickT rfl rfl rfl) _) rfl rfl ?_
          refine GoR.op ((op_assign rfl) _) rfl rfl ?_
          refine GoR.nil ?_
          refine Go1.ret1 Try.func4 rfl ?_
          exact ⟨r94, rfl, hB.same, H⟩
         ·replace H := ifn h93 H
          refine GoR.op ((fun w => opB (op_eql rfl rfl w) (decide_eq_false h93)) _) rfl rfl ?_
          refine GoR.op ((op_move rfl) _) rfl rfl ?_
          refine GoR.pass rfl rfl ?_
          refine GoR.op ((op_pickF rfl rfl rfl) _) rfl rfl ?_
          refine GoR.op ((op_assign rfl) _) rfl rfl ?_
          refine GoR.nil ?_
          refine Go1.ret1 Try.func4 rfl ?_
          exact ⟨false, rfl, hB.same, H⟩
        ·replace H := ifn h92 H
         refine GoR.op ((fun w => opB (op_lss rfl rfl w) (decide_eq_false h92)) _) rfl rfl ?_
         refine GoR.nil ?_
         refine Go1.condF rfl rfl ?_
         refine Go1.skip ?_
         refine Go1.seq ?_
         refine Go1.region ?_
         refine GoR.op ((op_move rfl) _) rfl rfl ?_
         refine GoR.op ((op_move rfl) _) rfl rfl ?_
         refine GoR.op ((op_move rfl) _) rfl rfl ?_
         refine GoR.op ((op_move rfl) _) rfl rfl ?_
         refine GoR.call (op_call body29 rfl (walk_ref14_Power hO.lt h_a0 H)) rfl rfl ?_
         rintro v104 w101 ⟨r100, rfl, hs102, H⟩
         have hst105 := Stp.same hO hs102
         replace hE53 := hE53.ch hst105.ch
         replace hO := hst105.own
         replace h_a0 := h_a0.ch hst105.ch
         replace hB := hB.trans hst105.fr
         by_cases h106 : r15 = r100
         ·replace H := ifp h106 H
          refine GoR.op ((fun w => opB (op_eql rfl rfl w) (decide_eq_true h106)) _) rfl rfl ?_
          refine GoR.op ((op_move rfl) _) rfl rfl ?_
          refine GoR.call (op_call body16 rfl (walk_law14_awake hO.lt H)) rfl rfl ?_
          rintro v111 w108 ⟨r107, rfl, hs109, H⟩
          have hst112 := Stp.same hO hs109
          replace hE53 := hE53.ch hst112.ch
          replace hO := hst112.own
          replace h_a0 := h_a0.ch hst112.ch
          replace hB := hB.trans hst112.fr
          refine GoR.op ((op_pickT rfl rfl rfl) _) rfl rfl ?_
          refine GoR.op ((op_assign rfl) _) rfl rfl ?_
          refine GoR.nil ?_
          refine Go1.ret1 Try.func4 rfl ?_
          exact ⟨r107, rfl, hB.same, H⟩
         ·replace H := ifn h106 H
          refine GoR.op ((fun w => opB (op_eql rfl rfl w) (decide_eq_false h106)) _) rfl rfl ?_
          refine GoR.op ((op_move rfl) _) rfl rfl ?_
          refine GoR.pass rfl rfl ?_
          refine GoR.op ((op_pickF rfl rfl rfl) _) rfl rfl ?_
          refine GoR.op ((op_assign rfl) _) rfl rfl ?_
          refine GoR.nil ?_
          refine Go1.ret1 Try.func4 rfl ?_
          exact ⟨false, rfl, hB.same, H⟩
       ·replace H := ifn h91 H
        refine GoR.op ((fun w => opB (op_neq rfl rfl w) (ndF h91)) _) rfl rfl ?_
        refine GoR.op ((op_pickF rfl rfl rfl) _) rfl rfl ?_
        refine GoR.nil ?_
        refine Go1.condT rfl rfl ?_
        refine Go1.seq ?_
        refine Go1.region ?_
        refine GoR.op ((op_assign rfl) _) rfl rfl ?_
        refine GoR.nil ?_
        refine Go1.ret1 Try.func4 rfl ?_
        exact ⟨false, rfl, hB.same, H⟩
      ·replace H := ifn h84 H
       refine GoR.op ((fun w => opB (op_neq rfl rfl w) (ndF h84)) _) rfl rfl ?_
       refine GoR.op ((op_pickF rfl rfl rfl) _) rfl rfl ?_
       refine GoR.op ((op_move rfl) _) rfl rfl ?_
       refine GoR.pass rfl rfl ?_
       refine GoR.pass rfl rfl ?_
       refine GoR.pass rfl rfl ?_
       refine GoR.pass rfl rfl ?_
       refine GoR.pass rfl rfl ?_
       refine GoR.op ((op_pickT rfl rfl rfl) _) rfl rfl ?_
       refine GoR.nil ?_
       refine Go1.condT rfl rfl ?_
       refine Go1.seq ?_
       refine Go1.region ?_
       refine GoR.op ((op_assign rfl) _) rfl rfl ?_
       refine GoR.nil ?_
       refine Go1.ret1 Try.func4 rfl ?_
       exact ⟨false, rfl, hB.same, H⟩
     ·replace H := ifn h83 H
      refine GoR.op ((fun w => opB (op_neq rfl rfl w) (ndF h83)) _) rfl rfl ?_
      refine GoR.op ((op_move rfl) _) rfl rfl ?_
      refine GoR.pass rfl rfl ?_
      refine GoR.pass rfl rfl ?_
      refine GoR.pass rfl rfl ?_
      refine GoR.op ((op_pickT rfl rfl rfl) _) rfl rfl ?_
      refine GoR.op ((op_move rfl) _) rfl rfl ?_
      refine GoR.pass rfl rfl ?_
      refine GoR.pass rfl rfl ?_
      refine GoR.pass rfl rfl ?_
      refine GoR.pass rfl rfl ?_
      refine GoR.pass rfl rfl ?_
      refine GoR.op ((op_pickT rfl rfl rfl) _) rfl rfl ?_
      refine GoR.nil ?_
      refine Go1.condT rfl rfl ?_
      refine Go1.seq ?_
      refine Go1.region ?_
      refine GoR.op ((op_assign rfl) _) rfl rfl ?_
      refine GoR.nil ?_
      refine Go1.ret1 Try.func4 rfl ?_
      exact ⟨false, rfl, hB.same, H⟩
 ·replace H := ifn h7 H
  refine GoR.op ((fun w => opB (op_eql rfl rfl w) (decide_eq_false h7)) _) rfl rfl ?_
  refine GoR.op ((op_move rfl) _) rfl rfl ?_
  refine GoR.pass rfl rfl ?_
  refine GoR.pass rfl rfl ?_
  refine GoR.pass rfl rfl ?_
  refine GoR.op ((op_pickF rfl rfl rfl) _) rfl rfl ?_
  refine GoR.nil ?_
  refine Go1.condF rfl rfl ?_
  refine Go1.skip ?_
  refine Go1.seq ?_
  refine Go1.region ?_
  refine GoR.op ((op_move rfl) _) rfl rfl ?_
  refine GoR.op ((op_move rfl) _) rfl rfl ?_
  refine GoR.op ((op_move rfl) _) rfl rfl ?_
  refine GoR.call (op_call body23 rfl (walk_mult_Power hO.lt h_a0 H)) rfl rfl ?_
  rintro v117 w114 ⟨r113, rfl, hs115, H⟩
  have hst118 := Stp.same hO hs115
  replace hO := hst118.own
  replace h_a0 := h_a0.ch hst118.ch
  replace hB := hB.trans hst118.fr
  refine GoR.op ((op_move rfl) _) rfl rfl ?_
  refine GoR.op ((op_move rfl) _) rfl rfl ?_
  refine GoR.call (op_call body24 rfl (walk_mult_Omega hO.lt h_a0 H)) rfl rfl ?_
  rintro v123 w120 ⟨r119, rfl, hs121, H⟩
  have hst124 := Stp.same hO hs121
  replace hO := hst124.own
  replace h_a0 := h_a0.ch hst124.ch
  replace hB := hB.trans hst124.fr
  refine GoR.op ((op_assign rfl) _) rfl rfl ?_
  refine GoR.op ((op_assign rfl) _) rfl rfl ?_
  refine GoR.nil ?_
  refine Go1.seq ?_
  refine Go1.region ?_
  refine GoR.op ((op_move rfl) _) rfl rfl ?_
  refine GoR.op ((op_move rfl) _) rfl rfl ?_
  refine GoR.call (op_call body25 rfl (walk_mult_IndexPeriod hO.lt h_a0 H)) rfl rfl ?_
  rintro v130 w127 ⟨r125, r126, rfl, hs128, H⟩
  have hst131 := Stp.same hO hs128
  replace hO := hst131.own
  replace h_a0 := h_a0.ch hst131.ch
  replace hB := hB.trans hst131.fr
  refine GoR.op ((op_move rfl) _) rfl rfl ?_
  refine GoR.op ((op_extract rfl rfl) _) rfl rfl ?_
  refine GoR.op ((op_extract rfl rfl) _) rfl rfl ?_
  refine GoR.op ((op_assign rfl) _) rfl rfl ?_
  refine GoR.op ((op_assign rfl) _) rfl rfl ?_
  refine GoR.nil ?_
  refine Go1.seq ?_
  refine Go1.seq ?_
  refine Go1.region ?_
  refine GoR.op ((op_move rfl) _) rfl rfl ?_
  refine GoR.call (op_call body26 rfl (walk_ref14_Valid hO.lt h_a0 H)) rfl rfl ?_
  rintro v136 w133 ⟨r132, rfl, hs134, H⟩
  have hst137 := Stp.same hO hs134
  replace hO := hst137.own
  replace h_a0 := h_a0.ch hst137.ch
  replace hB := hB.trans hst137.fr
  cases r132
  ·replace H := ifn Bool.false_ne_true H
   refine GoR.op ((op_not rfl) _) rfl rfl ?_
   refine GoR.op ((op_move rfl) _) rfl rfl ?_
   refine GoR.pass rfl rfl ?_
   refine GoR.pass rfl rfl ?_
   refine GoR.pass rfl rfl ?_
   refine GoR.pass rfl rfl ?_
   refine GoR.pass rfl rfl ?_
   refine GoR.op ((op_pickT rfl rfl rfl) _) rfl rfl ?_
   refine GoR.nil ?_
   refine Go1.condT rfl rfl ?_
   refine Go1.seq ?_
   refine Go1.region ?_
   refine GoR.op ((op_move rfl) _) rfl rfl ?_
   by_cases h138 : r113 = (-1 : Int)
   ·replace H := ifp h138 H
    refine GoR.op ((fun w => opB (op_eql rfl rfl w) (decide_eq_true h138)) _) rfl rfl ?_
    refine GoR.op ((op_move rfl) _) rfl rfl ?_
    refine GoR.op ((op_move rfl) _) rfl rfl ?_
    by_cases h139 : r119 = (-1 : Int)
    ·replace H := ifp h139 H
     refine GoR.op ((fun w => opB (op_eql rfl rfl w) (decide_eq_true h139)) _) rfl rfl ?_
     refine GoR.op ((op_pickT rfl rfl rfl) _) rfl rfl ?_
     refine GoR.op ((op_move rfl) _) rfl rfl ?_
     refine GoR.op ((op_move rfl) _) rfl rfl ?_
     by_cases h140 : r125 = (0 : Int)
     ·replace H := ifp h140 H
      refine GoR.op ((fun w => opB (op_eql rfl rfl w) (decide_eq_true h140)) _) rfl rfl ?_
      refine GoR.op ((op_pickT rfl rfl rfl) _) rfl rfl ?_
      refine GoR.op ((op_move rfl) _) rfl rfl ?_
      refine GoR.op ((op_move rfl) _) rfl rfl ?_
      by_cases h141 : r126 = (0 : Int)
      ·replace H := ifp h141 H
       refine GoR.op ((fun w => opB (op_eql rfl rfl w) (decide_eq_true h141)) _) rfl rfl ?_
       refine GoR.op ((op_pickT rfl rfl rfl) _) rfl rfl ?_
       refine GoR.op ((op_move rfl) _) rfl rfl ?_
       refine GoR.call (op_call body16 rfl (walk_law14_awake hO.lt H)) rfl rfl ?_
       rintro v146 w143 ⟨r142, rfl, hs144, H⟩
       have hst147 := Stp.same hO hs144
       replace hO := hst147.own
       replace h_a0 := h_a0.ch hst147.ch
       replace hB := hB.trans hst147.fr
       refine GoR.op ((op_pickT rfl rfl rfl) _) rfl rfl ?_
       refine GoR.op ((op_assign rfl) _) rfl rfl ?_
       refine GoR.nil ?_
       refine Go1.ret1 Try.func4 rfl ?_
       exact ⟨r142, rfl, hB.same, H⟩
      ·replace H := ifn h141 H
       refine GoR.op ((fun w => opB (op_eql rfl rfl w) (decide_eq_false h141)) _) rfl rfl ?_
       refine GoR.op ((op_pickT rfl rfl rfl) _) rfl rfl ?_
       refine GoR.op ((op_move rfl) _) rfl rfl ?_
       refine GoR.pass rfl rfl ?_
       refine GoR.op ((op_pickF rfl rfl rfl) _) rfl rfl ?_
       refine GoR.op ((op_assign rfl) _) rfl rfl ?_
       refine GoR.nil ?_
       refine Go1.ret1 Try.func4 rfl ?_
       exact ⟨false, rfl, hB.same, H⟩
     ·replace H := ifn h140 H
      refine GoR.op ((fun w => opB (op_eql rfl rfl w) (decide_eq_false h140)) _) rfl rfl ?_
      refine GoR.op ((op_pickT rfl rfl rfl) _) rfl rfl ?_
      refine GoR.op ((op_move rfl) _) rfl rfl ?_
      refine GoR.pass rfl rfl ?_
      refine GoR.pass rfl rfl ?_
      refine GoR.op ((op_pickF rfl rfl rfl) _) rfl rfl ?_
      refine GoR.op ((op_move rfl) _) rfl rfl ?_
      refine GoR.pass rfl rfl ?_
      refine GoR.op ((op_pickF rfl rfl rfl) _) rfl rfl ?_
      refine GoR.op ((op_assign rfl) _) rfl rfl ?_
      refine GoR.nil ?_
      refine Go1.ret1 Try.func4 rfl ?_
      exact ⟨false, rfl, hB.same, H⟩
    ·replace H := ifn h139 H
     refine GoR.op ((fun w => opB (op_eql rfl rfl w) (decide_eq_false h139)) _) rfl rfl ?_
     refine GoR.op ((op_pickT rfl rfl rfl) _) rfl rfl ?_
     refine GoR.op ((op_move rfl) _) rfl rfl ?_
     refine GoR.pass rfl rfl ?_
     refine GoR.pass rfl rfl ?_
     refine GoR.op ((op_pickF rfl rfl rfl) _) rfl rfl ?_
     refine GoR.op ((op_move rfl) _) rfl rfl ?_
     refine GoR.pass rfl rfl ?_
     refine GoR.pass rfl rfl ?_
     refine GoR.op ((op_pickF rfl rfl rfl) _) rfl rfl ?_
     refine GoR.op ((op_move rfl) _) rfl rfl ?_
     refine GoR.pass rfl rfl ?_
     refine GoR.op ((op_pickF rfl rfl rfl) _) rfl rfl ?_
     refine GoR.op ((op_assign rfl) _) rfl rfl ?_
     refine GoR.nil ?_
     refine Go1.ret1 Try.func4 rfl ?_
     exact ⟨false, rfl, hB.same, H⟩
   ·replace H := ifn h138 H
    refine GoR.op ((fun w => opB (op_eql rfl rfl w) (decide_eq_false h138)) _) rfl rfl ?_
    refine GoR.op ((op_move rfl) _) rfl rfl ?_
    refine GoR.pass rfl rfl ?_
    refine GoR.pass rfl rfl ?_
    refine GoR.op ((op_pickF rfl rfl rfl) _) rfl rfl ?_
    refine GoR.op ((op_move rfl) _) rfl rfl ?_
    refine GoR.pass rfl rfl ?_
    refine GoR.pass rfl rfl ?_
    refine GoR.op ((op_pickF rfl rfl rfl) _) rfl rfl ?_
    refine GoR.op ((op_move rfl) _) rfl rfl ?_
    refine GoR.pass rfl rfl ?_
    refine GoR.pass rfl rfl ?_
    refine GoR.op ((op_pickF rfl rfl rfl) _) rfl rfl ?_
    refine GoR.op ((op_move rfl) _) rfl rfl ?_
    refine GoR.pass rfl rfl ?_
    refine GoR.op ((op_pickF rfl rfl rfl) _) rfl rfl ?_
    refine GoR.op ((op_assign rfl) _) rfl rfl ?_
    refine GoR.nil ?_
    refine Go1.ret1 Try.func4 rfl ?_
    exact ⟨false, rfl, hB.same, H⟩
  ·replace H := ifp rfl H
   refine GoR.op ((op_not rfl) _) rfl rfl ?_
   refine GoR.op ((op_move rfl) _) rfl rfl ?_
   refine GoR.op ((op_move rfl) _) rfl rfl ?_
   refine GoR.op ((op_move rfl) _) rfl rfl ?_
   have hobt := obuild (r := Rp.int .i64) (n := 1) (parts := [(0, .int .i64 a1)]) (vs := [.int .i64 a1]) (xs := [a1]) rfl Try.underlying23 ti3 hO (by decide) (by kernel_rfl) (Els.cons rfl rfl (Els.nil _ _ _) (by simp [mx])) rfl
   obtain ⟨w148, p149, hst150, hE151, hs152, hop153⟩ := hobt
   refine GoR.op (hop153 rfl) rfl rfl ?_
   replace hO := hst150.own
   replace h_a0 := h_a0.ch hst150.ch
   replace hB := hB.trans hst150.fr
   have hobt := rowlend 0 hO rfl hE151
   obtain ⟨hl155, hn156⟩ := hobt
   have hOc157 := hO.drop 0
   refine GoR.call (op_call body20 (show ([.slice p_a0 a0.length c_a0, .slice p149 1 1] : List Value) = [.slice p_a0 a0.length c_a0, .slice p149 ([a1]).length 1] from by rw [← hn156]) (walk_ref14_In hOc157.lt (h_a0.ch (Owns.dropCh _ _ 0)) hl155 H)) rfl rfl ?_
   rintro v162 w159 ⟨r158, rfl, hs160, H⟩
   have hst163 := Stp.same hO hs160
   replace hE151 := hE151.ch hst163.ch
   replace hO := hst163.own
   replace h_a0 := h_a0.ch hst163.ch
   replace hB := hB.trans hst163.fr
   cases r158
   ·replace H := ifn Bool.false_ne_true H
    refine GoR.op ((op_not rfl) _) rfl rfl ?_
    refine GoR.op ((op_pickF rfl rfl rfl) _) rfl rfl ?_
    refine GoR.nil ?_
    refine Go1.condT rfl rfl ?_
    refine Go1.seq ?_
    refine Go1.region ?_
    refine GoR.op ((op_move rfl) _) rfl rfl ?_
    by_cases h164 : r113 = (-1 : Int)
    ·replace H := ifp h164 H
     refine GoR.op ((fun w => opB (op_eql rfl rfl w) (decide_eq_true h164)) _) rfl rfl ?_
     refine GoR.op ((op_move rfl) _) rfl rfl ?_
     refine GoR.op ((op_move rfl) _) rfl rfl ?_
     by_cases h165 : r119 = (-1 : Int)
     ·replace H := ifp h165 H
      refine GoR.op ((fun w => opB (op_eql rfl rfl w) (decide_eq_true h165)) _) rfl rfl ?_
      refine GoR.op ((op_pickT rfl rfl rfl) _) rfl rfl ?_
      refine GoR.op ((op_move rfl) _) rfl rfl ?_
      refine GoR.op ((op_move rfl) _) rfl rfl ?_
      by_cases h166 : r125 = (0 : Int)
      ·replace H := ifp h166 H
       refine GoR.op ((fun w => opB (op_eql rfl rfl w) (decide_eq_true h166)) _) rfl rfl ?_
       refine GoR.op ((op_pickT rfl rfl rfl) _) rfl rfl ?_
       refine GoR.op ((op_move rfl) _) rfl rfl ?_
       refine GoR.op ((op_move rfl) _) rfl rfl ?_
       by_cases h167 : r126 = (0 : Int)
       ·replace H := ifp h167 H
        refine GoR.op ((fun w => opB (op_eql rfl rfl w) (decide_eq_true h167)) _) rfl rfl ?_
        refine GoR.op ((op_pickT rfl rfl rfl) _) rfl rfl ?_
        refine GoR.op ((op_move rfl) _) rfl rfl ?_
        refine GoR.call (op_call body16 rfl (walk_law14_awake hO.lt H)) rfl rfl ?_
        rintro v172 w169 ⟨r168, rfl, hs170, H⟩
        have hst173 := Stp.same hO hs170
        replace hE151 := hE151.ch hst173.ch
        replace hO := hst173.own
        replace h_a0 := h_a0.ch hst173.ch
        replace hB := hB.trans hst173.fr
        refine GoR.op ((op_pickT rfl rfl rfl) _) rfl rfl ?_
        refine GoR.op ((op_assign rfl) _) rfl rfl ?_
        refine GoR.nil ?_
        refine Go1.ret1 Try.func4 rfl ?_
        exact ⟨r168, rfl, hB.same, H⟩
       ·replace H := ifn h167 H
        refine GoR.op ((fun w => opB (op_eql rfl rfl w) (decide_eq_false h167)) _) rfl rfl ?_
        refine GoR.op ((op_pickT rfl rfl rfl) _) rfl rfl ?_
        refine GoR.op ((op_move rfl) _) rfl rfl ?_
        refine GoR.pass rfl rfl ?_
        refine GoR.op ((op_pickF rfl rfl rfl) _) rfl rfl ?_
        refine GoR.op ((op_assign rfl) _) rfl rfl ?_
        refine GoR.nil ?_
        refine Go1.ret1 Try.func4 rfl ?_
        exact ⟨false, rfl, hB.same, H⟩
      ·replace H := ifn h166 H
       refine GoR.op ((fun w => opB (op_eql rfl rfl w) (decide_eq_false h166)) _) rfl rfl ?_
       refine GoR.op ((op_pickT rfl rfl rfl) _) rfl rfl ?_
       refine GoR.op ((op_move rfl) _) rfl rfl ?_
       refine GoR.pass rfl rfl ?_
       refine GoR.pass rfl rfl ?_
       refine GoR.op ((op_pickF rfl rfl rfl) _) rfl rfl ?_
       refine GoR.op ((op_move rfl) _) rfl rfl ?_
       refine GoR.pass rfl rfl ?_
       refine GoR.op ((op_pickF rfl rfl rfl) _) rfl rfl ?_
       refine GoR.op ((op_assign rfl) _) rfl rfl ?_
       refine GoR.nil ?_
       refine Go1.ret1 Try.func4 rfl ?_
       exact ⟨false, rfl, hB.same, H⟩
     ·replace H := ifn h165 H
      refine GoR.op ((fun w => opB (op_eql rfl rfl w) (decide_eq_false h165)) _) rfl rfl ?_
      refine GoR.op ((op_pickT rfl rfl rfl) _) rfl rfl ?_
      refine GoR.op ((op_move rfl) _) rfl rfl ?_
      refine GoR.pass rfl rfl ?_
      refine GoR.pass rfl rfl ?_
      refine GoR.op ((op_pickF rfl rfl rfl) _) rfl rfl ?_
      refine GoR.op ((op_move rfl) _) rfl rfl ?_
      refine GoR.pass rfl rfl ?_
      refine GoR.pass rfl rfl ?_
      refine GoR.op ((op_pickF rfl rfl rfl) _) rfl rfl ?_
      refine GoR.op ((op_move rfl) _) rfl rfl ?_
      refine GoR.pass rfl rfl ?_
      refine GoR.op ((op_pickF rfl rfl rfl) _) rfl rfl ?_
      refine GoR.op ((op_assign rfl) _) rfl rfl ?_
      refine GoR.nil ?_
      refine Go1.ret1 Try.func4 rfl ?_
      exact ⟨false, rfl, hB.same, H⟩
    ·replace H := ifn h164 H
     refine GoR.op ((fun w => opB (op_eql rfl rfl w) (decide_eq_false h164)) _) rfl rfl ?_
     refine GoR.op ((op_move rfl) _) rfl rfl ?_
     refine GoR.pass rfl rfl ?_
     refine GoR.pass rfl rfl ?_
     refine GoR.op ((op_pickF rfl rfl rfl) _) rfl rfl ?_
     refine GoR.op ((op_move rfl) _) rfl rfl ?_
     refine GoR.pass rfl rfl ?_
     refine GoR.pass rfl rfl ?_
     refine GoR.op ((op_pickF rfl rfl rfl) _) rfl rfl ?_
     refine GoR.op ((op_move rfl) _) rfl rfl ?_
     refine GoR.pass rfl rfl ?_
     refine GoR.pass rfl rfl ?_
     refine GoR.op ((op_pickF rfl rfl rfl) _) rfl rfl ?_
     refine GoR.op ((op_move rfl) _) rfl rfl ?_
     refine GoR.pass rfl rfl ?_
     refine GoR.op ((op_pickF rfl rfl rfl) _) rfl rfl ?_
     refine GoR.op ((op_assign rfl) _) rfl rfl ?_
     refine GoR.nil ?_
     refine Go1.ret1 Try.func4 rfl ?_
     exact ⟨false, rfl, hB.same, H⟩
   ·replace H := ifp rfl H
    refine GoR.op ((op_not rfl) _) rfl rfl ?_
    refine GoR.op ((op_pickF rfl rfl rfl) _) rfl rfl ?_
    refine GoR.nil ?_
    refine Go1.condF rfl rfl ?_
    refine Go1.skip ?_
    refine Go1.seq ?_
    refine Go1.region ?_
    refine GoR.op ((op_move rfl) _) rfl rfl ?_
    refine GoR.op ((op_move rfl) _) rfl rfl ?_
    refine GoR.call (op_call body27 rfl (walk_ref14_IndexPeriod hO.lt h_a0 H)) rfl rfl ?_
    rintro v179 w176 ⟨r174, r175, rfl, hs177, H⟩
    have hst180 := Stp.same hO hs177
    replace hE151 := hE151.ch hst180.ch
    replace hO := hst180.own
    replace h_a0 := h_a0.ch hst180.ch
    replace hB := hB.trans hst180.fr
    refine GoR.op ((op_move rfl) _) rfl rfl ?_
    refine GoR.op ((op_extract rfl rfl) _) rfl rfl ?_
    refine GoR.op ((op_extract rfl rfl) _) rfl rfl ?_
    refine GoR.op ((op_assign rfl) _) rfl rfl ?_
    refine GoR.op ((op_assign rfl) _) rfl rfl ?_
    refine GoR.nil ?_
    refine Go1.seq ?_
    refine Go1.seq ?_
    refine Go1.region ?_
    refine GoR.op ((op_move rfl) _) rfl rfl ?_
    refine GoR.op ((op_move rfl) _) rfl rfl ?_
    by_cases h181 : r125 = r174
    ·replace H := ifp h181 H
     refine GoR.op ((fun w => opB (op_neq rfl rfl w) (ndT h181)) _) rfl rfl ?_
     refine GoR.op ((op_move rfl) _) rfl rfl ?_
     refine GoR.op ((op_move rfl) _) rfl rfl ?_
     refine GoR.op ((op_move rfl) _) rfl rfl ?_
     by_cases h182 : r126 = r175
     ·replace H := ifp h182 H
      refine GoR.op ((fun w => opB (op_neq rfl rfl w) (ndT h182)) _) rfl rfl ?_
      refine GoR.op ((op_pickF rfl rfl rfl) _) rfl rfl ?_
      refine GoR.op ((op_move rfl) _) rfl rfl ?_
      refine GoR.op ((op_move rfl) _) rfl rfl ?_
      refine GoR.op ((op_move rfl) _) rfl rfl ?_
      refine GoR.op ((op_move rfl) _) rfl rfl ?_
      refine GoR.call (op_call body28 rfl (walk_ref14_Omega hO.lt h_a0 H)) rfl rfl ?_
      rintro v187 w184 ⟨r183, rfl, hs185, H⟩
      have hst188 := Stp.same hO hs185
      replace hE151 := hE151.ch hst188.ch
      replace hO := hst188.own
      replace h_a0 := h_a0.ch hst188.ch
      replace hB := hB.trans hst188.fr
      by_cases h189 : r119 = r183
      ·replace H := ifp h189 H
       refine GoR.op ((fun w => opB (op_neq rfl rfl w) (ndT h189)) _) rfl rfl ?_
       refine GoR.op ((op_pickF rfl rfl rfl) _) rfl rfl ?_
       refine GoR.nil ?_
       refine Go1.condF rfl rfl ?_
       refine Go1.skip ?_
       refine Go1.seq ?_
       refine Go1.seq ?_
       refine Go1.region ?_
       refine GoR.op ((op_move rfl) _) rfl rfl ?_
       by_cases h190 : a2 < (1 : Int)
       ·replace H := ifp h190 H
        refine GoR.op ((fun w => opB (op_lss rfl rfl w) (decide_eq_true h190)) _) rfl rfl ?_
        refine GoR.nil ?_
        refine Go1.condT rfl rfl ?_
        refine Go1.seq ?_
        refine Go1.region ?_
        refine GoR.op ((op_move rfl) _) rfl rfl ?_
        by_cases h191 : r113 = (-1 : Int)
        ·replace H := ifp h191 H
         refine GoR.op ((fun w => opB (op_eql rfl rfl w) (decide_eq_true h191)) _) rfl rfl ?_
         refine GoR.op ((op_move rfl) _) rfl rfl ?_
         refine GoR.call (op_call body16 rfl (walk_law14_awake hO.lt H)) rfl rfl ?_
         rintro v196 w193 ⟨r192, rfl, hs194, H⟩
         have hst197 := Stp.same hO hs194
         replace hE151 := hE151.ch hst197.ch
         replace hO := hst197.own
         replace h_a0 := h_a0.ch hst197.ch
         replace hB := hB.trans hst197.fr
         refine GoR.op ((op_pickT rfl rfl rfl) _) rfl rfl ?_
         refine GoR.op ((op_assign rfl) _) rfl rfl ?_
         refine GoR.nil ?_
         refine Go1.ret1 Try.func4 rfl ?_
         exact ⟨r192, rfl, hB.same, H⟩
        ·replace H := ifn h191 H
         refine GoR.op ((fun w => opB (op_eql rfl rfl w) (decide_eq_false h191)) _) rfl rfl ?_
         refine GoR.op ((op_move rfl) _) rfl rfl ?_
         refine GoR.pass rfl rfl ?_
         refine GoR.op ((op_pickF rfl rfl rfl) _) rfl rfl ?_
         refine GoR.op ((op_assign rfl) _) rfl rfl ?_
         refine GoR.nil ?_
         refine Go1.ret1 Try.func4 rfl ?_
         exact ⟨false, rfl, hB.same, H⟩
       ·replace H := ifn h190 H
        refine GoR.op ((fun w => opB (op_lss rfl rfl w) (decide_eq_false h190)) _) rfl rfl ?_
        refine GoR.nil ?_
        refine Go1.condF rfl rfl ?_
        refine Go1.skip ?_
        refine Go1.seq ?_
        refine Go1.region ?_
        refine GoR.op ((op_move rfl) _) rfl rfl ?_
        refine GoR.op ((op_move rfl) _) rfl rfl ?_
        refine GoR.op ((op_move rfl) _) rfl rfl ?_
        refine GoR.op ((op_move rfl) _) rfl rfl ?_
        refine GoR.call (op_call body29 rfl (walk_ref14_Power hO.lt h_a0 H)) rfl rfl ?_
        rintro v202 w199 ⟨r198, rfl, hs200, H⟩
        have hst203 := Stp.same hO hs200
        replace hE151 := hE151.ch hst203.ch
        replace hO := hst203.own
        replace h_a0 := h_a0.ch hst203.ch
        replace hB := hB.trans hst203.fr
        by_cases h204 : r113 = r198
        ·replace H := ifp h204 H
         refine GoR.op ((fun w => opB (op_eql rfl rfl w) (decide_eq_true h204)) _) rfl rfl ?_
         refine GoR.op ((op_move rfl) _) rfl rfl ?_
         refine GoR.call (op_call body16 rfl (walk_law14_awake hO.lt H)) rfl rfl ?_
         rintro v209 w206 ⟨r205, rfl, hs207, H⟩
         have hst210 := Stp.same hO hs207
         replace hE151 := hE151.ch hst210.ch
         replace hO := hst210.own
         replace h_a0 := h_a0.ch hst210.ch
         replace hB := hB.trans hst210.fr
         refine GoR.op ((op_pickT rfl rfl rfl) _) rfl rfl ?_
         refine GoR.op ((op_assign rfl) _) rfl rfl ?_
         refine GoR.nil ?_
         refine Go1.ret1 Try.func4 rfl ?_
         exact ⟨r205, rfl, hB.same, H⟩
        ·replace H := ifn h204 H
         refine GoR.op ((fun w => opB (op_eql rfl rfl w) (decide_eq_false h204)) _) rfl rfl ?_
         refine GoR.op ((op_move rfl) _) rfl rfl ?_
         refine GoR.pass rfl rfl ?_
         refine GoR.op ((op_pickF rfl rfl rfl) _) rfl rfl ?_
         refine GoR.op ((op_assign rfl) _) rfl rfl ?_
         refine GoR.nil ?_
         refine Go1.ret1 Try.func4 rfl ?_
         exact ⟨false, rfl, hB.same, H⟩
      ·replace H := ifn h189 H
       refine GoR.op ((fun w => opB (op_neq rfl rfl w) (ndF h189)) _) rfl rfl ?_
       refine GoR.op ((op_pickF rfl rfl rfl) _) rfl rfl ?_
       refine GoR.nil ?_
       refine Go1.condT rfl rfl ?_
       refine Go1.seq ?_
       refine Go1.region ?_
       refine GoR.op ((op_assign rfl) _) rfl rfl ?_
       refine GoR.nil ?_
       refine Go1.ret1 Try.func4 rfl ?_
       exact ⟨false, rfl, hB.same, H⟩
     ·replace H := ifn h182 H
      refine GoR.op ((fun w => opB (op_neq rfl rfl w) (ndF h182)) _) rfl rfl ?_
      refine GoR.op ((op_pickF rfl rfl rfl) _) rfl rfl ?_
      refine GoR.op ((op_move rfl) _) rfl rfl ?_
      refine GoR.pass rfl rfl ?_
      refine GoR.pass rfl rfl ?_
      refine GoR.pass rfl rfl ?_
      refine GoR.pass rfl rfl ?_
      refine GoR.pass rfl rfl ?_
      refine GoR.op ((op_pickT rfl rfl rfl) _) rfl rfl ?_
      refine GoR.nil ?_
      refine Go1.condT rfl rfl ?_
      refine Go1.seq ?_
      refine Go1.region ?_
      refine GoR.op ((op_assign rfl) _) rfl rfl ?_
      refine GoR.nil ?_
      refine Go1.ret1 Try.func4 rfl ?_
      exact ⟨false, rfl, hB.same, H⟩
    ·replace H := ifn h181 H
     refine GoR.op ((fun w => opB (op_neq rfl rfl w) (ndF h181)) _) rfl rfl ?_
     refine GoR.op ((op_move rfl) _) rfl rfl ?_
     refine GoR.pass rfl rfl ?_
     refine GoR.pass rfl rfl ?_
     refine GoR.pass rfl rfl ?_
     refine GoR.op ((op_pickT rfl rfl rfl) _) rfl rfl ?_
     refine GoR.op ((op_move rfl) _) rfl rfl ?_
     refine GoR.pass rfl rfl ?_
     refine GoR.pass rfl rfl ?_
     refine GoR.pass rfl rfl ?_
     refine GoR.pass rfl rfl ?_
     refine GoR.pass rfl rfl ?_
     refine GoR.op ((op_pickT rfl rfl rfl) _) rfl rfl ?_
     refine GoR.nil ?_
     refine Go1.condT rfl rfl ?_
     refine Go1.seq ?_
     refine Go1.region ?_
     refine GoR.op ((op_assign rfl) _) rfl rfl ?_
     refine GoR.nil ?_
     refine Go1.ret1 Try.func4 rfl ?_
     exact ⟨false, rfl, hB.same, H⟩
end Sg
