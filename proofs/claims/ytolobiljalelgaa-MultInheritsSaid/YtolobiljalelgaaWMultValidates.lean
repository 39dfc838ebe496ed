/- The walks: each call keeps to its plain transformer. Printed by walkgen.py. -/
import Derived.Test.YtolobiljalelgaaWMultExponents
namespace Sg
open Go Go.RowKit Go.Proofs
set_option linter.unusedVariables false
set_option maxRecDepth 100000
set_option maxHeartbeats 4000000
theorem body31 : Body Try.prog 31 := ⟨Try.f31, Try.func31, rfl, by kernel_rfl⟩
theorem walk_mult_Associative {A : List Nat} {w0 : World} {p_t : Option Addr} {c_t : Nat} {t : List (List Int)} (hA : ∀ b ∈ A, b < w0.heap.size) (h_t : ISl (Rp.sl (Rp.int .i64)) A w0 p_t c_t t) {K : Int → Int → Int → Int → Prop} (H : mult_Associative t K) :
    CallsV Try.prog 31 #[.slice p_t t.length c_t] w0 (fun v w' => ∃ (r0 : Int), ∃ (r1 : Int), ∃ (r2 : Int), ∃ (r3 : Int), v = .tuple #[.int .i64 r0, .int .i64 r1, .int .i64 r2, .int .i64 r3] ∧ Same w0 w' ∧ K r0 r1 r2 r3) := by
 refine CallsV.of (l := [.slice p_t t.length c_t]) Try.func31 rfl Try.ntmps31 rfl ?_
 have hO := Owns.start hA
 have hB := Fr.refl (bl []) w0
 unfold mult_Associative at H
 replace h_t := h_t.ch (Ch.start A w0)
 refine Go1.seq ?_
 refine Go1.region ?_
 refine GoR.op ((op_assign rfl) _) rfl rfl ?_
 refine GoR.op ((op_assign rfl) _) rfl rfl ?_
 refine GoR.op ((op_assign rfl) _) rfl rfl ?_
 refine GoR.op ((op_assign rfl) _) rfl rfl ?_
 refine GoR.nil ?_
 refine Go1.seq ?_
 refine Go1.seq ?_
 refine Go1.region ?_
 refine GoR.op ((op_move rfl) _) rfl rfl ?_
 refine GoR.call (op_call body22 rfl (walk_mult_Validate hO.lt h_t H)) rfl rfl ?_
 rintro v5 w2 ⟨r1, rfl, hs3, H⟩
 have hst6 := Stp.same hO hs3
 replace hO := hst6.own
 replace h_t := h_t.ch hst6.ch
 replace hB := hB.trans hst6.fr
 refine GoR.op ((op_assign rfl) _) rfl rfl ?_
 refine GoR.nil ?_
 refine Go1.seq ?_
 refine Go1.region ?_
 refine GoR.op ((op_move rfl) _) rfl rfl ?_
 by_cases h7 : r1 = (5 : Int)
 ·replace H := ifp h7 H
  refine GoR.op ((fun w => opB (op_neq rfl rfl w) (ndT h7)) _) rfl rfl ?_
  refine GoR.nil ?_
  refine Go1.condF rfl rfl ?_
  refine Go1.skip ?_
  refine Go1.seq ?_
  refine Go1.seq ?_
  refine Go1.region ?_
  refine GoR.op ((op_move rfl) _) rfl rfl ?_
  refine GoR.op ((op_len Try.underlying22 rfl) _) rfl rfl ?_
  replace H := H h_t.bd
  refine GoR.op ((op_move rfl) _) rfl rfl ?_
  refine GoR.nil ?_
  refine Go1.block ?_
  refine Go1.loopW (S := Nat) (fun s σ w => agrees σ [(0, .slice p_t t.length c_t), (18, .slice p_t t.length c_t), (19, .int .i64 (t.length : Int)), (20, .int .i64 (s : Int))] ∧ Owns w0.heap.size w [] A ∧ ISl (Rp.sl (Rp.int .i64)) (bl [] ++ A) w p_t c_t t ∧ Fr (bl []) w0 (bl []) w) H ⟨⟨rfl, rfl, rfl, rfl, trivial⟩, hO, h_t, hB⟩ ?_
  rintro X1 k1_9 H hX1 σ w8 ⟨hag, hO, h_t, hB⟩
  refine Go1.keep [(0, .slice p_t t.length c_t), (18, .slice p_t t.length c_t), (19, .int .i64 (t.length : Int)), (20, .int .i64 (k1_9 : Int))] hag ?_
  refine Go1.seq ?_
  refine Go1.region ?_
  by_cases h10 : (k1_9 : Int) < (t.length : Int)
  ·replace H := ifp h10 H
   refine GoR.op ((fun w => opB (op_lss rfl rfl w) (decide_eq_true h10)) _) rfl rfl ?_
   refine GoR.nil ?_
   refine Go1.seq ?_
   refine Go1.condT rfl rfl ?_
   refine Go1.skip ?_
   refine Go1.seq ?_
   refine Go1.block ?_
   refine Go1.seq ?_
   refine Go1.region ?_
   refine GoR.op ((op_move rfl) _) rfl rfl ?_
   obtain ⟨h11, H⟩ := H
   obtain ⟨h12, H⟩ := H
   refine GoR.op ((op_index Try.underlying22 ti23 rfl rfl h11 h12 (h_t.some_ h11 h12)) _) rfl rfl ?_
   have hobt := ldSl h_t h11 h12
   obtain ⟨p13, c14, hi15, hl16⟩ := hobt
   refine GoR.op ((hl16 Try.underlying23 rfl rfl) _ (Same.refl _)) rfl rfl ?_
   refine GoR.op ((op_assign rfl) _) rfl rfl ?_
   refine GoR.op ((op_assign rfl) _) rfl rfl ?_
   refine GoR.nil ?_
   refine Go1.seq ?_
   refine Go1.region ?_
   refine GoR.op ((op_move rfl) _) rfl rfl ?_
   refine GoR.op ((op_len Try.underlying22 rfl) _) rfl rfl ?_
   refine GoR.op ((op_move rfl) _) rfl rfl ?_
   refine GoR.nil ?_
   refine Go1.block ?_
   refine Go1.loopW (S := Nat) (fun s σ w => agrees σ [(0, .slice p_t t.length c_t), (7, .int .i64 (k1_9 : Int)), (8, .slice p13 ((ix t (k1_9 : Int)).length) c14), (18, .slice p_t t.length c_t), (19, .int .i64 (t.length : Int)), (20, .int .i64 (k1_9 : Int)), (26, .int .i64 (t.length : Int)), (27, .int .i64 (s : Int))] ∧ Owns w0.heap.size w [] A ∧ ISl (Rp.sl (Rp.int .i64)) (bl [] ++ A) w p_t c_t t ∧ ISl (Rp.int .i64) (bl [] ++ A) w p13 c14 (ix t (k1_9 : Int)) ∧ Fr (bl []) w0 (bl []) w) H ⟨⟨rfl, rfl, rfl, rfl, rfl, rfl, rfl, rfl, trivial⟩, hO, h_t, hi15, hB⟩ ?_
   rintro X2 k2_18 H hX2 σ w17 ⟨hag, hO, h_t, hi15, hB⟩
   refine Go1.keep [(0, .slice p_t t.length c_t), (7, .int .i64 (k1_9 : Int)), (8, .slice p13 ((ix t (k1_9 : Int)).length) c14), (18, .slice p_t t.length c_t), (19, .int .i64 (t.length : Int)), (20, .int .i64 (k1_9 : Int)), (26, .int .i64 (t.length : Int)), (27, .int .i64 (k2_18 : Int))] hag ?_
   refine Go1.seq ?_
   refine Go1.region ?_
   by_cases h19 : (k2_18 : Int) < (t.length : Int)
   ·replace H := ifp h19 H
    refine GoR.op ((fun w => opB (op_lss rfl rfl w) (decide_eq_true h19)) _) rfl rfl ?_
    refine GoR.nil ?_
    refine Go1.seq ?_
    refine Go1.condT rfl rfl ?_
    refine Go1.skip ?_
    refine Go1.seq ?_
    refine Go1.block ?_
    refine Go1.seq ?_
    refine Go1.region ?_
    refine GoR.op ((op_move rfl) _) rfl rfl ?_
    refine GoR.op ((op_assign rfl) _) rfl rfl ?_
    refine GoR.nil ?_
    refine Go1.seq ?_
    refine Go1.region ?_
    refine GoR.op ((op_move rfl) _) rfl rfl ?_
    refine GoR.op ((op_move rfl) _) rfl rfl ?_
    refine GoR.op ((op_move rfl) _) rfl rfl ?_
    obtain ⟨h20, H⟩ := H
    obtain ⟨h21, H⟩ := H
    refine GoR.op ((op_index Try.underlying23 ti3 rfl rfl h20 h21 (hi15.some_ h20 h21)) _) rfl rfl ?_
    refine GoR.op ((ldInt hi15 h20 h21 Try.underlying3 rfl rfl) _ (Same.refl _)) rfl rfl ?_
    obtain ⟨h22, H⟩ := H
    obtain ⟨h23, H⟩ := H
    refine GoR.op ((op_index Try.underlying22 ti23 rfl rfl h22 h23 (h_t.some_ h22 h23)) _) rfl rfl ?_
    have hobt := ldSl h_t h22 h23
    obtain ⟨p24, c25, hi26, hl27⟩ := hobt
    refine GoR.op ((hl27 Try.underlying23 rfl rfl) _ (Same.refl _)) rfl rfl ?_
    refine GoR.op ((op_assign rfl) _) rfl rfl ?_
    refine GoR.nil ?_
    refine Go1.seq ?_
    refine Go1.region ?_
    refine GoR.op ((op_move rfl) _) rfl rfl ?_
    refine GoR.op ((op_move rfl) _) rfl rfl ?_
    obtain ⟨h28, H⟩ := H
    obtain ⟨h29, H⟩ := H
    refine GoR.op ((op_index Try.underlying22 ti23 rfl rfl h28 h29 (h_t.some_ h28 h29)) _) rfl rfl ?_
    have hobt := ldSl h_t h28 h29
    obtain ⟨p30, c31, hi32, hl33⟩ := hobt
    refine GoR.op ((hl33 Try.underlying23 rfl rfl) _ (Same.refl _)) rfl rfl ?_
    refine GoR.op ((op_len Try.underlying23 rfl) _) rfl rfl ?_
    replace H := H hi32.bd
    refine GoR.op ((op_move rfl) _) rfl rfl ?_
    refine GoR.nil ?_
    refine Go1.block ?_
    refine Go1.loopW (S := Nat) (fun s σ w => agrees σ [(0, .slice p_t t.length c_t), (7, .int .i64 (k1_9 : Int)), (8, .slice p13 ((ix t (k1_9 : Int)).length) c14), (9, .int .i64 (k2_18 : Int)), (10, .slice p24 ((ix t (ix (ix t (k1_9 : Int)) (k2_18 : Int))).length) c25), (18, .slice p_t t.length c_t), (19, .int .i64 (t.length : Int)), (20, .int .i64 (k1_9 : Int)), (26, .int .i64 (t.length : Int)), (27, .int .i64 (k2_18 : Int)), (40, .slice p30 ((ix t (k2_18 : Int)).length) c31), (41, .int .i64 ((ix t (k2_18 : Int)).length : Int)), (42, .int .i64 (s : Int))] ∧ Owns w0.heap.size w [] A ∧ ISl (Rp.sl (Rp.int .i64)) (bl [] ++ A) w p_t c_t t ∧ ISl (Rp.int .i64) (bl [] ++ A) w p13 c14 (ix t (k1_9 : Int)) ∧ ISl (Rp.int .i64) (bl [] ++ A) w p24 c25 (ix t (ix (ix t (k1_9 : Int)) (k2_18 : Int))) ∧ ISl (Rp.int .i64) (bl [] ++ A) w p30 c31 (ix t (k2_18 : Int)) ∧ Fr (bl []) w0 (bl []) w) H ⟨⟨rfl, rfl, rfl, rfl, rfl, rfl, rfl, rfl, rfl, rfl, rfl, rfl, rfl, trivial⟩, hO, h_t, hi15, hi26, hi32, hB⟩ ?_
    rintro X3 k3_35 H hX3 σ w34 ⟨hag, hO, h_t, hi15, hi26, hi32, hB⟩
    refine Go1.keep [(0, .slice p_t t.length c_t), (7, .int .i64 (k1_9 : Int)), (8, .slice p13 ((ix t (k1_9 : Int)).length) c14), (9, .int .i64 (k2_18 : Int)), (10, .slice p24 ((ix t (ix (ix t (k1_9 : Int)) (k2_18 : Int))).length) c25), (18, .slice p_t t.length c_t), (19, .int .i64 (t.length : Int)), (20, .int .i64 (k1_9 : Int)), (26, .int .i64 (t.length : Int)), (27, .int .i64 (k2_18 : Int)), (40, .slice p30 ((ix t (k2_18 : Int)).length) c31), (41, .int .i64 ((ix t (k2_18 : Int)).length : Int)), (42, .int .i64 (k3_35 : Int))] hag ?_
    refine Go1.seq ?_
    refine Go1.region ?_
    by_cases h36 : (k3_35 : Int) < ((ix t (k2_18 : Int)).length : Int)
    ·replace H := ifp h36 H
     refine GoR.op ((fun w => opB (op_lss rfl rfl w) (decide_eq_true h36)) _) rfl rfl ?_
     refine GoR.nil ?_
     refine Go1.seq ?_
     refine Go1.condT rfl rfl ?_
     refine Go1.skip ?_
     refine Go1.seq ?_
     refine Go1.block ?_
     refine Go1.seq ?_
     refine Go1.region ?_
     refine GoR.op ((op_move rfl) _) rfl rfl ?_
     obtain ⟨h37, H⟩ := H
     obtain ⟨h38, H⟩ := H
     refine GoR.op ((op_index Try.underlying23 ti3 rfl rfl h37 h38 (hi32.some_ h37 h38)) _) rfl rfl ?_
     refine GoR.op ((ldInt hi32 h37 h38 Try.underlying3 rfl rfl) _ (Same.refl _)) rfl rfl ?_
     refine GoR.op ((op_assign rfl) _) rfl rfl ?_
     refine GoR.op ((op_assign rfl) _) rfl rfl ?_
     refine GoR.nil ?_
     refine Go1.seq ?_
     refine Go1.drawS 0 [(0, .pure), (1, .pure), (2, .pure), (3, .stable), (4, .pure), (5, .pure), (6, .pure), (7, .stable), (8, .pure)] mixed (by kernel_rfl) ?_
     intro w39 hs40
     have hst41 := Stp.same hO hs40
     replace hO := hst41.own
     replace h_t := h_t.ch hst41.ch
     replace hi15 := hi15.ch hst41.ch
     replace hi26 := hi26.ch hst41.ch
     replace hi32 := hi32.ch hst41.ch
     replace hB := hB.trans hst41.fr
     refine GoQ.pure rfl (op_move rfl) rfl rfl ?_
     refine GoQ.pure rfl (op_move rfl) rfl rfl ?_
     obtain ⟨h42, H⟩ := H
     obtain ⟨h43, H⟩ := H
     refine GoQ.pure rfl (op_index Try.underlying23 ti3 rfl rfl h42 h43 (hi26.some_ h42 h43)) rfl rfl ?_
     refine GoQ.stable rfl (ldInt hi26 h42 h43 Try.underlying3 rfl rfl) rfl rfl ?_
     refine GoQ.pure rfl (op_move rfl) rfl rfl ?_
     refine GoQ.pure rfl (op_move rfl) rfl rfl ?_
     obtain ⟨h44, H⟩ := H
     obtain ⟨h45, H⟩ := H
     refine GoQ.pure rfl (op_index Try.underlying23 ti3 rfl rfl h44 h45 (hi15.some_ h44 h45)) rfl rfl ?_
     refine GoQ.stable rfl (ldInt hi15 h44 h45 Try.underlying3 rfl rfl) rfl rfl ?_
     by_cases h46 : (ix (ix t (ix (ix t (k1_9 : Int)) (k2_18 : Int))) (k3_35 : Int)) = (ix (ix t (k1_9 : Int)) (ix (ix t (k2_18 : Int)) (k3_35 : Int)))
     ·replace H := ifp h46 H
      refine GoQ.pure rfl (fun w => opB (op_neq rfl rfl w) (ndT h46)) rfl rfl ?_
      refine GoQ.nil ?_
      refine Go1.condF rfl rfl ?_
      refine Go1.skip ?_
      refine Go1.inBlock ?_
      refine Go1.region ?_
      refine GoR.op ((op_add rfl rfl (wrap_i64 (natbd h36 hi32.bd))) _) rfl rfl ?_
      refine GoR.op ((op_move rfl) _) rfl rfl ?_
      refine GoR.nil ?_
      exact hX3 _ H _ _ ⟨⟨rfl, rfl, rfl, rfl, rfl, rfl, rfl, rfl, rfl, rfl, rfl, rfl, rfl, trivial⟩, hO, h_t, hi15, hi26, hi32, hB⟩
     ·replace H := ifn h46 H
      refine GoQ.pure rfl (fun w => opB (op_neq rfl rfl w) (ndF h46)) rfl rfl ?_
      refine GoQ.nil ?_
      refine Go1.condT rfl rfl ?_
      refine Go1.seq ?_
      refine Go1.region ?_
      refine GoR.op ((op_move rfl) _) rfl rfl ?_
      refine GoR.op ((op_move rfl) _) rfl rfl ?_
      refine GoR.op ((op_move rfl) _) rfl rfl ?_
      refine GoR.op ((op_assign rfl) _) rfl rfl ?_
      refine GoR.op ((op_assign rfl) _) rfl rfl ?_
      refine GoR.op ((op_assign rfl) _) rfl rfl ?_
      refine GoR.op ((op_assign rfl) _) rfl rfl ?_
      refine GoR.nil ?_
      refine Go1.ret4 Try.func31 rfl ?_
      exact ⟨(k1_9 : Int), (k2_18 : Int), (k3_35 : Int), (5 : Int), rfl, hB.same, H⟩
    ·replace H := ifn h36 H
     refine GoR.op ((fun w => opB (op_lss rfl rfl w) (decide_eq_false h36)) _) rfl rfl ?_
     refine GoR.nil ?_
     refine Go1.seq ?_
     refine Go1.condF rfl rfl ?_
     refine Go1.exit rfl ?_
     refine Go1.inBlock ?_
     refine Go1.region ?_
     refine GoR.op ((op_add rfl rfl (wrap_i64 (natbd h19 h_t.bd))) _) rfl rfl ?_
     refine GoR.op ((op_move rfl) _) rfl rfl ?_
     refine GoR.nil ?_
     exact hX2 _ H _ _ ⟨⟨rfl, rfl, rfl, rfl, rfl, rfl, rfl, rfl, trivial⟩, hO, h_t, hi15, hB⟩
   ·replace H := ifn h19 H
    refine GoR.op ((fun w => opB (op_lss rfl rfl w) (decide_eq_false h19)) _) rfl rfl ?_
    refine GoR.nil ?_
    refine Go1.seq ?_
    refine Go1.condF rfl rfl ?_
    refine Go1.exit rfl ?_
    refine Go1.inBlock ?_
    refine Go1.region ?_
    refine GoR.op ((op_add rfl rfl (wrap_i64 (natbd h10 h_t.bd))) _) rfl rfl ?_
    refine GoR.op ((op_move rfl) _) rfl rfl ?_
    refine GoR.nil ?_
    exact hX1 _ H _ _ ⟨⟨rfl, rfl, rfl, rfl, trivial⟩, hO, h_t, hB⟩
  ·replace H := ifn h10 H
   refine GoR.op ((fun w => opB (op_lss rfl rfl w) (decide_eq_false h10)) _) rfl rfl ?_
   refine GoR.nil ?_
   refine Go1.seq ?_
   refine Go1.condF rfl rfl ?_
   refine Go1.exit rfl ?_
   refine Go1.seq ?_
   refine Go1.region ?_
   refine GoR.op ((op_assign rfl) _) rfl rfl ?_
   refine GoR.op ((op_assign rfl) _) rfl rfl ?_
   refine GoR.op ((op_assign rfl) _) rfl rfl ?_
   refine GoR.op ((op_assign rfl) _) rfl rfl ?_
   refine GoR.nil ?_
   refine Go1.ret4 Try.func31 rfl ?_
   exact ⟨(0 : Int), (0 : Int), (0 : Int), (0 : Int), rfl, hB.same, H⟩
 ·replace H := ifn h7 H
  refine GoR.op ((fun w => opB (op_neq rfl rfl w) (ndF h7)) _) rfl rfl ?_
  refine GoR.nil ?_
  refine Go1.condT rfl rfl ?_
  refine Go1.seq ?_
  refine Go1.region ?_
  refine GoR.op ((op_move rfl) _) rfl rfl ?_
  refine GoR.op ((op_assign rfl) _) rfl rfl ?_
  refine GoR.op ((op_assign rfl) _) rfl rfl ?_
  refine GoR.op ((op_assign rfl) _) rfl rfl ?_
  refine GoR.op ((op_assign rfl) _) rfl rfl ?_
  refine GoR.nil ?_
  refine Go1.ret4 Try.func31 rfl ?_
  exact ⟨(0 : Int), (0 : Int), (0 : Int), r1, rfl, hB.same, H⟩
theorem body6 : Body Try.prog 6 := ⟨Try.f6, Try.func6, rfl, by kernel_rfl⟩
theorem walk_law14_MultValidates {A : List Nat} {w0 : World} {p_t : Option Addr} {c_t : Nat} {t : List (List Int)} (hA : ∀ b ∈ A, b < w0.heap.size) (h_t : ISl (Rp.sl (Rp.int .i64)) A w0 p_t c_t t) {K : Bool → Prop} (H : law14_MultValidates t K) :
    CallsV Try.prog 6 #[.slice p_t t.length c_t] w0 (fun v w' => ∃ (r0 : Bool), v = .bool r0 ∧ Same w0 w' ∧ K r0) := by
 refine CallsV.of (l := [.slice p_t t.length c_t]) Try.func6 rfl Try.ntmps6 rfl ?_
 have hO := Owns.start hA
 have hB := Fr.refl (bl []) w0
 unfold law14_MultValidates at H
 replace h_t := h_t.ch (Ch.start A w0)
 refine Go1.seq ?_
 refine Go1.region ?_
 refine GoR.op ((op_assign rfl) _) rfl rfl ?_
 refine GoR.nil ?_
 refine Go1.seq ?_
 refine Go1.seq ?_
 refine Go1.region ?_
 refine GoR.op ((op_move rfl) _) rfl rfl ?_
 refine GoR.op ((op_len Try.underlying22 rfl) _) rfl rfl ?_
 replace H := H h_t.bd
 by_cases h1 : (40 : Int) < (t.length : Int)
 ·replace H := ifp h1 H
  refine GoR.op ((fun w => opB (op_gtr rfl rfl w) (decide_eq_true h1)) _) rfl rfl ?_
  refine GoR.op ((op_move rfl) _) rfl rfl ?_
  refine GoR.op ((op_move rfl) _) rfl rfl ?_
  refine GoR.op ((op_len Try.underlying22 rfl) _) rfl rfl ?_
  by_cases h2 : (t.length : Int) ≤ (400 : Int)
  ·replace H := ifp h2 H
   refine GoR.op ((fun w => opB (op_leq rfl rfl w) (decide_eq_true h2)) _) rfl rfl ?_
   refine GoR.op ((op_pickT rfl rfl rfl) _) rfl rfl ?_
   refine GoR.nil ?_
   refine Go1.condT rfl rfl ?_
   refine Go1.seq ?_
   refine Go1.region ?_
   refine GoR.call (op_call body16 rfl (walk_law14_awake hO.lt H)) rfl rfl ?_
   rintro v7 w4 ⟨r3, rfl, hs5, H⟩
   have hst8 := Stp.same hO hs5
   replace hO := hst8.own
   replace h_t := h_t.ch hst8.ch
   replace hB := hB.trans hst8.fr
   refine GoR.op ((op_assign rfl) _) rfl rfl ?_
   refine GoR.nil ?_
   refine Go1.ret1 Try.func6 rfl ?_
   exact ⟨r3, rfl, hB.same, H⟩
  ·replace H := ifn h2 H
   refine GoR.op ((fun w => opB (op_leq rfl rfl w) (decide_eq_false h2)) _) rfl rfl ?_
   refine GoR.op ((op_pickT rfl rfl rfl) _) rfl rfl ?_
   refine GoR.nil ?_
   refine Go1.condF rfl rfl ?_
   refine Go1.skip ?_
   refine Go1.seq ?_
   refine Go1.region ?_
   refine GoR.op ((op_move rfl) _) rfl rfl ?_
   refine GoR.call (op_call body31 rfl (walk_mult_Associative hO.lt h_t H)) rfl rfl ?_
   rintro v16 w13 ⟨r9, r10, r11, r12, rfl, hs14, H⟩
   have hst17 := Stp.same hO hs14
   replace hO := hst17.own
   replace h_t := h_t.ch hst17.ch
   replace hB := hB.trans hst17.fr
   refine GoR.op ((op_move rfl) _) rfl rfl ?_
   refine GoR.op ((op_extract rfl rfl) _) rfl rfl ?_
   refine GoR.op ((op_extract rfl rfl) _) rfl rfl ?_
   refine GoR.op ((op_extract rfl rfl) _) rfl rfl ?_
   refine GoR.op ((op_extract rfl rfl) _) rfl rfl ?_
   refine GoR.op ((op_assign rfl) _) rfl rfl ?_
   refine GoR.op ((op_assign rfl) _) rfl rfl ?_
   refine GoR.op ((op_assign rfl) _) rfl rfl ?_
   refine GoR.op ((op_assign rfl) _) rfl rfl ?_
   refine GoR.nil ?_
   refine Go1.seq ?_
   refine Go1.region ?_
   refine GoR.op ((op_move rfl) _) rfl rfl ?_
   refine GoR.call (op_call body32 rfl (walk_ref14_Associative hO.lt h_t H)) rfl rfl ?_
   rintro v25 w22 ⟨r18, r19, r20, r21, rfl, hs23, H⟩
   have hst26 := Stp.same hO hs23
   replace hO := hst26.own
   replace h_t := h_t.ch hst26.ch
   replace hB := hB.trans hst26.fr
   refine GoR.op ((op_move rfl) _) rfl rfl ?_
   refine GoR.op ((op_extract rfl rfl) _) rfl rfl ?_
   refine GoR.op ((op_extract rfl rfl) _) rfl rfl ?_
   refine GoR.op ((op_extract rfl rfl) _) rfl rfl ?_
   refine GoR.op ((op_extract rfl rfl) _) rfl rfl ?_
   refine GoR.op ((op_assign rfl) _) rfl rfl ?_
   refine GoR.op ((op_assign rfl) _) rfl rfl ?_
   refine GoR.op ((op_assign rfl) _) rfl rfl ?_
   refine GoR.op ((op_assign rfl) _) rfl rfl ?_
   refine GoR.nil ?_
   refine Go1.seq ?_
   refine Go1.region ?_
   refine GoR.op ((op_move rfl) _) rfl rfl ?_
   refine GoR.op ((op_move rfl) _) rfl rfl ?_
   by_cases h27 : r9 = r18
   ·replace H := ifp h27 H
    refine GoR.op ((fun w => opB (op_eql rfl rfl w) (decide_eq_true h27)) _) rfl rfl ?_
    refine GoR.op ((op_move rfl) _) rfl rfl ?_
    refine GoR.op ((op_move rfl) _) rfl rfl ?_
    refine GoR.op ((op_move rfl) _) rfl rfl ?_
    by_cases h28 : r10 = r19
    ·replace H := ifp h28 H
     refine GoR.op ((fun w => opB (op_eql rfl rfl w) (decide_eq_true h28)) _) rfl rfl ?_
     refine GoR.op ((op_pickT rfl rfl rfl) _) rfl rfl ?_
     refine GoR.op ((op_move rfl) _) rfl rfl ?_
     refine GoR.op ((op_move rfl) _) rfl rfl ?_
     refine GoR.op ((op_move rfl) _) rfl rfl ?_
     by_cases h29 : r11 = r20
     ·replace H := ifp h29 H
      refine GoR.op ((fun w => opB (op_eql rfl rfl w) (decide_eq_true h29)) _) rfl rfl ?_
      refine GoR.op ((op_pickT rfl rfl rfl) _) rfl rfl ?_
      refine GoR.op ((op_move rfl) _) rfl rfl ?_
      refine GoR.op ((op_move rfl) _) rfl rfl ?_
      refine GoR.op ((op_move rfl) _) rfl rfl ?_
      by_cases h30 : r12 = r21
      ·replace H := ifp h30 H
       refine GoR.op ((fun w => opB (op_eql rfl rfl w) (decide_eq_true h30)) _) rfl rfl ?_
       refine GoR.op ((op_pickT rfl rfl rfl) _) rfl rfl ?_
       refine GoR.op ((op_move rfl) _) rfl rfl ?_
       refine GoR.op ((op_move rfl) _) rfl rfl ?_
       refine GoR.call (op_call body22 rfl (walk_mult_Validate hO.lt h_t H)) rfl rfl ?_
       rintro v35 w32 ⟨r31, rfl, hs33, H⟩
       have hst36 := Stp.same hO hs33
       replace hO := hst36.own
       replace h_t := h_t.ch hst36.ch
       replace hB := hB.trans hst36.fr
       refine GoR.op ((op_move rfl) _) rfl rfl ?_
       by_cases h37 : r31 = r21
       ·replace H := ifp h37 H
        refine GoR.op ((fun w => opB (op_eql rfl rfl w) (decide_eq_true h37)) _) rfl rfl ?_
        refine GoR.op ((op_pickT rfl rfl rfl) _) rfl rfl ?_
        refine GoR.op ((op_move rfl) _) rfl rfl ?_
        refine GoR.call (op_call body16 rfl (walk_law14_awake hO.lt H)) rfl rfl ?_
        rintro v42 w39 ⟨r38, rfl, hs40, H⟩
        have hst43 := Stp.same hO hs40
        replace hO := hst43.own
        replace h_t := h_t.ch hst43.ch
        replace hB := hB.trans hst43.fr
        refine GoR.op ((op_pickT rfl rfl rfl) _) rfl rfl ?_
        refine GoR.op ((op_assign rfl) _) rfl rfl ?_
        refine GoR.nil ?_
        refine Go1.ret1 Try.func6 rfl ?_
        exact ⟨r38, rfl, hB.same, H⟩
       ·replace H := ifn h37 H
        refine GoR.op ((fun w => opB (op_eql rfl rfl w) (decide_eq_false h37)) _) rfl rfl ?_
        refine GoR.op ((op_pickT rfl rfl rfl) _) rfl rfl ?_
        refine GoR.op ((op_move rfl) _) rfl rfl ?_
        refine GoR.pass rfl rfl ?_
        refine GoR.op ((op_pickF rfl rfl rfl) _) rfl rfl ?_
        refine GoR.op ((op_assign rfl) _) rfl rfl ?_
        refine GoR.nil ?_
        refine Go1.ret1 Try.func6 rfl ?_
        exact ⟨false, rfl, hB.same, H⟩
      ·replace H := ifn h30 H
       refine GoR.op ((fun w => opB (op_eql rfl rfl w) (decide_eq_false h30)) _) rfl rfl ?_
       refine GoR.op ((op_pickT rfl rfl rfl) _) rfl rfl ?_
       refine GoR.op ((op_move rfl) _) rfl rfl ?_
       refine GoR.pass rfl rfl ?_
       refine GoR.pass rfl rfl ?_
       refine GoR.pass rfl rfl ?_
       refine GoR.pass rfl rfl ?_
       refine GoR.op ((op_pickF rfl rfl rfl) _) rfl rfl ?_
       refine GoR.op ((op_move rfl) _) rfl rfl ?_
       refine GoR.pass rfl rfl ?_
       refine GoR.op ((op_pickF rfl rfl rfl) _) rfl rfl ?_
       refine GoR.op ((op_assign rfl) _) rfl rfl ?_
       refine GoR.nil ?_
       refine Go1.ret1 Try.func6 rfl ?_
       exact ⟨false, rfl, hB.same, H⟩
     ·replace H := ifn h29 H
      refine GoR.op ((fun w => opB (op_eql rfl rfl w) (decide_eq_false h29)) _) rfl rfl ?_
      refine GoR.op ((op_pickT rfl rfl rfl) _) rfl rfl ?_
      refine GoR.op ((op_move rfl) _) rfl rfl ?_
      refine GoR.pass rfl rfl ?_
      refine GoR.pass rfl rfl ?_
      refine GoR.pass rfl rfl ?_
      refine GoR.op ((op_pickF rfl rfl rfl) _) rfl rfl ?_
      refine GoR.op ((op_move rfl) _) rfl rfl ?_
      refine GoR.pass rfl rfl ?_
      refine GoR.pass rfl rfl ?_
      refine GoR.pass rfl rfl ?_
      refine GoR.pass rfl rfl ?_
      refine GoR.op ((op_pickF rfl rfl rfl) _) rfl rfl ?_
      refine GoR.op ((op_move rfl) _) rfl rfl ?_
      refine GoR.pass rfl rfl ?_
      refine GoR.op ((op_pickF rfl rfl rfl) _) rfl rfl ?_
      refine GoR.op ((op_assign rfl) _) rfl rfl ?_
      refine GoR.nil ?_
      refine Go1.ret1 Try.func6 rfl ?_
      exact ⟨false, rfl, hB.same, H⟩
    ·replace H := ifn h28 H
     refine GoR.op ((fun w => opB (op_eql rfl rfl w) (decide_eq_false h28)) _) rfl rfl ?_
     refine GoR.op ((op_pickT rfl rfl rfl) _) rfl rfl ?_
     refine GoR.op ((op_move rfl) _) rfl rfl ?_
     refine GoR.pass rfl rfl ?_
     refine GoR.pass rfl rfl ?_
     refine GoR.pass rfl rfl ?_
     refine GoR.op ((op_pickF rfl rfl rfl) _) rfl rfl ?_
     refine GoR.op ((op_move rfl) _) rfl rfl ?_
     refine GoR.pass rfl rfl ?_
     refine GoR.pass rfl rfl ?_
     refine GoR.pass rfl rfl ?_
     refine GoR.op ((op_pickF rfl rfl rfl) _) rfl rfl ?_
     refine GoR.op ((op_move rfl) _) rfl rfl ?_
     refine GoR.pass rfl rfl ?_
     refine GoR.pass rfl rfl ?_
     refine GoR.pass rfl rfl ?_
     refine GoR.pass rfl rfl ?_
     refine GoR.op ((op_pickF rfl rfl rfl) _) rfl rfl ?_
     refine GoR.op ((op_move rfl) _) rfl rfl ?_
     refine GoR.pass rfl rfl ?_
     refine GoR.op ((op_pickF rfl rfl rfl) _) rfl rfl ?_
     refine GoR.op ((op_assign rfl) _) rfl rfl ?_
     refine GoR.nil ?_
     refine Go1.ret1 Try.func6 rfl ?_
     exact ⟨false, rfl, hB.same, H⟩
   ·replace H := ifn h27 H
    refine GoR.op ((fun w => opB (op_eql rfl rfl w) (decide_eq_false h27)) _) rfl rfl ?_
    refine GoR.op ((op_move rfl) _) rfl rfl ?_
    refine GoR.pass rfl rfl ?_
    refine GoR.pass rfl rfl ?_
    refine GoR.pass rfl rfl ?_
    refine GoR.op ((op_pickF rfl rfl rfl) _) rfl rfl ?_
    refine GoR.op ((op_move rfl) _) rfl rfl ?_
    refine GoR.pass rfl rfl ?_
    refine GoR.pass rfl rfl ?_
    refine GoR.pass rfl rfl ?_
    refine GoR.op ((op_pickF rfl rfl rfl) _) rfl rfl ?_
    refine GoR.op ((op_move rfl) _) rfl rfl ?_
    refine GoR.pass rfl rfl ?_
    refine GoR.pass rfl rfl ?_
    refine GoR.pass rfl rfl ?_
    refine GoR.op ((op_pickF rfl rfl rfl) _) rfl rfl ?_
    refine GoR.op ((op_move rfl) _) rfl rfl ?_
    refine GoR.pass rfl rfl ?_
    refine GoR.pass rfl rfl ?_
    refine GoR.pass rfl rfl ?_
    refine GoR.pass rfl rfl ?_
    refine GoR.op ((op_pickF rfl rfl rfl) _) rfl rfl ?_
    refine GoR.op ((op_move rfl) _) rfl rfl ?_
    refine GoR.pass rfl rfl ?_
    refine GoR.op ((op_pickF rfl rfl rfl) _) rfl rfl ?_
    refine GoR.op ((op_assign rfl) _) rfl rfl ?_
    refine GoR.nil ?_
    refine Go1.ret1 Try.func6 rfl ?_
    exact ⟨false, rfl, hB.same, H⟩
 ·replace H := ifn h1 H
  refine GoR.op ((fun w => opB (op_gtr rfl rfl w) (decide_eq_false h1)) _) rfl rfl ?_
  refine GoR.op ((op_move rfl) _) rfl rfl ?_
  refine GoR.pass rfl rfl ?_
  refine GoR.pass rfl rfl ?_
  refine GoR.pass rfl rfl ?_
  refine GoR.op ((op_pickF rfl rfl rfl) _) rfl rfl ?_
  refine GoR.nil ?_
  refine Go1.condF rfl rfl ?_
  refine Go1.skip ?_
  refine Go1.seq ?_
  refine Go1.region ?_
  refine GoR.op ((op_move rfl) _) rfl rfl ?_
  refine GoR.call (op_call body31 rfl (walk_mult_Associative hO.lt h_t H)) rfl rfl ?_
  rintro v51 w48 ⟨r44, r45, r46, r47, rfl, hs49, H⟩
  have hst52 := Stp.same hO hs49
  replace hO := hst52.own
  replace h_t := h_t.ch hst52.ch
  replace hB := hB.trans hst52.fr
  refine GoR.op ((op_move rfl) _) rfl rfl ?_
  refine GoR.op ((op_extract rfl rfl) _) rfl rfl ?_
  refine GoR.op ((op_extract rfl rfl) _) rfl rfl ?_
  refine GoR.op ((op_extract rfl rfl) _) rfl rfl ?_
  refine GoR.op ((op_extract rfl rfl) _) rfl rfl ?_
  refine GoR.op ((op_assign rfl) _) rfl rfl ?_
  refine GoR.op ((op_assign rfl) _) rfl rfl ?_
  refine GoR.op ((op_assign rfl) _) rfl rfl ?_
  refine GoR.op ((op_assign rfl) _) rfl rfl ?_
  refine GoR.nil ?_
  refine Go1.seq ?_
  refine Go1.region ?_
  refine GoR.op ((op_move rfl) _) rfl rfl ?_
  refine GoR.call (op_call body32 rfl (walk_ref14_Associative hO.lt h_t H)) rfl rfl ?_
  rintro v60 w57 ⟨r53, r54, r55, r56, rfl, hs58, H⟩
  have hst61 := Stp.same hO hs58
  replace hO := hst61.own
  replace h_t := h_t.ch hst61.ch
  replace hB := hB.trans hst61.fr
  refine GoR.op ((op_move rfl) _) rfl rfl ?_
  refine GoR.op ((op_extract rfl rfl) _) rfl rfl ?_
  refine GoR.op ((op_extract rfl rfl) _) rfl rfl ?_
  refine GoR.op ((op_extract rfl rfl) _) rfl rfl ?_
  refine GoR.op ((op_extract rfl rfl) _) rfl rfl ?_
  refine GoR.op ((op_assign rfl) _) rfl rfl ?_
  refine GoR.op ((op_assign rfl) _) rfl rfl ?_
  refine GoR.op ((op_assign rfl) _) rfl rfl ?_
  refine GoR.op ((op_assign rfl) _) rfl rfl ?_
  refine GoR.nil ?_
  refine Go1.seq ?_
  refine Go1.region ?_
  refine GoR.op ((op_move rfl) _) rfl rfl ?_
  refine GoR.op ((op_move rfl) _) rfl rfl ?_
  by_cases h62 : r44 = r53
  ·replace H := ifp h62 H
   refine GoR.op ((fun w => opB (op_eql rfl rfl w) (decide_eq_true h62)) _) rfl rfl ?_
   refine GoR.op ((op_move rfl) _) rfl rfl ?_
   refine GoR.op ((op_move rfl) _) rfl rfl ?_
   refine GoR.op ((op_move rfl) _) rfl rfl ?_
   by_cases h63 : r45 = r54
   ·replace H := ifp h63 H
    refine GoR.op ((fun w => opB (op_eql rfl rfl w) (decide_eq_true h63)) _) rfl rfl ?_
    refine GoR.op ((op_pickT rfl rfl rfl) _) rfl rfl ?_
    refine GoR.op ((op_move rfl) _) rfl rfl ?_
    refine GoR.op ((op_move rfl) _) rfl rfl ?_
    refine GoR.op ((op_move rfl) _) rfl rfl ?_
    by_cases h64 : r46 = r55
    ·replace H := ifp h64 H
     refine GoR.op ((fun w => opB (op_eql rfl rfl w) (decide_eq_true h64)) _) rfl rfl ?_
     refine GoR.op ((op_pickT rfl rfl rfl) _) rfl rfl ?_
     refine GoR.op ((op_move rfl) _) rfl rfl ?_
     refine GoR.op ((op_move rfl) _) rfl rfl ?_
     refine GoR.op ((op_move rfl) _) rfl rfl ?_
     by_cases h65 : r47 = r56
     ·replace H := ifp h65 H
      refine GoR.op ((fun w => opB (op_eql rfl rfl w) (decide_eq_true h65)) _) rfl rfl ?_
      refine GoR.op ((op_pickT rfl rfl rfl) _) rfl rfl ?_
      refine GoR.op ((op_move rfl) _) rfl rfl ?_
      refine GoR.op ((op_move rfl) _) rfl rfl ?_
      refine GoR.call (op_call body22 rfl (walk_mult_Validate hO.lt h_t H)) rfl rfl ?_
      rintro v70 w67 ⟨r66, rfl, hs68, H⟩
      have hst71 := Stp.same hO hs68
      replace hO := hst71.own
      replace h_t := h_t.ch hst71.ch
      replace hB := hB.trans hst71.fr
      refine GoR.op ((op_move rfl) _) rfl rfl ?_
      by_cases h72 : r66 = r56
      ·replace H := ifp h72 H
       refine GoR.op ((fun w => opB (op_eql rfl rfl w) (decide_eq_true h72)) _) rfl rfl ?_
       refine GoR.op ((op_pickT rfl rfl rfl) _) rfl rfl ?_
       refine GoR.op ((op_move rfl) _) rfl rfl ?_
       refine GoR.call (op_call body16 rfl (walk_law14_awake hO.lt H)) rfl rfl ?_
       rintro v77 w74 ⟨r73, rfl, hs75, H⟩
       have hst78 := Stp.same hO hs75
       replace hO := hst78.own
       replace h_t := h_t.ch hst78.ch
       replace hB := hB.trans hst78.fr
       refine GoR.op ((op_pickT rfl rfl rfl) _) rfl rfl ?_
       refine GoR.op ((op_assign rfl) _) rfl rfl ?_
       refine GoR.nil ?_
       refine Go1.ret1 Try.func6 rfl ?_
       exact ⟨r73, rfl, hB.same, H⟩
      ·replace H := ifn h72 H
       refine GoR.op ((fun w => opB (op_eql rfl rfl w) (decide_eq_false h72)) _) rfl rfl ?_
       refine GoR.op ((op_pickT rfl rfl rfl) _) rfl rfl ?_
       refine GoR.op ((op_move rfl) _) rfl rfl ?_
       refine GoR.pass rfl rfl ?_
       refine GoR.op ((op_pickF rfl rfl rfl) _) rfl rfl ?_
       refine GoR.op ((op_assign rfl) _) rfl rfl ?_
       refine GoR.nil ?_
       refine Go1.ret1 Try.func6 rfl ?_
       exact ⟨false, rfl, hB.same, H⟩
     ·replace H := ifn h65 H
      refine GoR.op ((fun w => opB (op_eql rfl rfl w) (decide_eq_false h65)) _) rfl rfl ?_
      refine GoR.op ((op_pickT rfl rfl rfl) _) rfl rfl ?_
      refine GoR.op ((op_move rfl) _) rfl rfl ?_
      refine GoR.pass rfl rfl ?_
      refine GoR.pass rfl rfl ?_
      refine GoR.pass rfl rfl ?_
      refine GoR.pass rfl rfl ?_
      refine GoR.op ((op_pickF rfl rfl rfl) _) rfl rfl ?_
      refine GoR.op ((op_move rfl) _) rfl rfl ?_
      refine GoR.pass rfl rfl ?_
      refine GoR.op ((op_pickF rfl rfl rfl) _) rfl rfl ?_
      refine GoR.op ((op_assign rfl) _) rfl rfl ?_
      refine GoR.nil ?_
      refine Go1.ret1 Try.func6 rfl ?_
      exact ⟨false, rfl, hB.same, H⟩
    ·replace H := ifn h64 H
     refine GoR.op ((fun w => opB (op_eql rfl rfl w) (decide_eq_false h64)) _) rfl rfl ?_
     refine GoR.op ((op_pickT rfl rfl rfl) _) rfl rfl ?_
     refine GoR.op ((op_move rfl) _) rfl rfl ?_
     refine GoR.pass rfl rfl ?_
     refine GoR.pass rfl rfl ?_
     refine GoR.pass rfl rfl ?_
     refine GoR.op ((op_pickF rfl rfl rfl) _) rfl rfl ?_
     refine GoR.op ((op_move rfl) _) rfl rfl ?_
     refine GoR.pass rfl rfl ?_
     refine GoR.pass rfl rfl ?_
     refine GoR.pass rfl rfl ?_
     refine GoR.pass rfl rfl ?_
     refine GoR.op ((op_pickF rfl rfl rfl) _) rfl rfl ?_
     refine GoR.op ((op_move rfl) _) rfl rfl ?_
     refine GoR.pass rfl rfl ?_
     refine GoR.op ((op_pickF rfl rfl rfl) _) rfl rfl ?_
     refine GoR.op ((op_assign rfl) _) rfl rfl ?_
     refine GoR.nil ?_
     refine Go1.ret1 Try.func6 rfl ?_
     exact ⟨false, rfl, hB.same, H⟩
   ·replace H := ifn h63 H
    refine GoR.op ((fun w => opB (op_eql rfl rfl w) (decide_eq_false h63)) _) rfl rfl ?_
    refine GoR.op ((op_pickT rfl rfl rfl) _) rfl rfl ?_
    refine GoR.op ((op_move rfl) _) rfl rfl ?_
    refine GoR.pass rfl rfl ?_
    refine GoR.pass rfl rfl ?_
    refine GoR.pass rfl rfl ?_
    refine GoR.op ((op_pickF rfl rfl rfl) _) rfl rfl ?_
    refine GoR.op ((op_move rfl) _) rfl rfl ?_
    refine GoR.pass rfl rfl ?_
    refine GoR.pass rfl rfl ?_
    refine GoR.pass rfl rfl ?_
    refine GoR.op ((op_pickF rfl rfl rfl) _) rfl rfl ?_
    refine GoR.op ((op_move rfl) _) rfl rfl ?_
    refine GoR.pass rfl rfl ?_
    refine GoR.pass rfl rfl ?_
    refine GoR.pass rfl rfl ?_
    refine GoR.pass rfl rfl ?_
    refine GoR.op ((op_pickF rfl rfl rfl) _) rfl rfl ?_
    refine GoR.op ((op_move rfl) _) rfl rfl ?_
    refine GoR.pass rfl rfl ?_
    refine GoR.op ((op_pickF rfl rfl rfl) _) rfl rfl ?_
    refine GoR.op ((op_assign rfl) _) rfl rfl ?_
    refine GoR.nil ?_
    refine Go1.ret1 Try.func6 rfl ?_
    exact ⟨false, rfl, hB.same, H⟩
  ·replace H := ifn h62 H
   refine GoR.op ((fun w => opB (op_eql rfl rfl w) (decide_eq_false h62)) _) rfl rfl ?_
   refine GoR.op ((op_move rfl) _) rfl rfl ?_
   refine GoR.pass rfl rfl ?_
   refine GoR.pass rfl rfl ?_
   refine GoR.pass rfl rfl ?_
   refine GoR.op ((op_pickF rfl rfl rfl) _) rfl rfl ?_
   refine GoR.op ((op_move rfl) _) rfl rfl ?_
   refine GoR.pass rfl rfl ?_
   refine GoR.pass rfl rfl ?_
   refine GoR.pass rfl rfl ?_
   refine GoR.op ((op_pickF rfl rfl rfl) _) rfl rfl ?_
   refine GoR.op ((op_move rfl) _) rfl rfl ?_
   refine GoR.pass rfl rfl ?_
   refine GoR.pass rfl rfl ?_
   refine GoR.pass rfl rfl ?_
   refine GoR.op ((op_pickF rfl rfl rfl) _) rfl rfl ?_
   refine GoR.op ((op_move rfl) _) rfl rfl ?_
   refine GoR.pass rfl rfl ?_
   refine GoR.pass rfl rfl ?_
   refine GoR.pass rfl rfl ?_
   refine GoR.pass rfl rfl ?_
   refine GoR.op ((op_pickF rfl rfl rfl) _) rfl rfl ?_
   refine GoR.op ((op_move rfl) _) rfl rfl ?_
   refine GoR.pass rfl rfl ?_
   refine GoR.op ((op_pickF rfl rfl rfl) _) rfl rfl ?_
   refine GoR.op ((op_assign rfl) _) rfl rfl ?_
   refine GoR.nil ?_
   refine Go1.ret1 Try.func6 rfl ?_
   exact ⟨false, rfl, hB.same, H⟩
end Sg
