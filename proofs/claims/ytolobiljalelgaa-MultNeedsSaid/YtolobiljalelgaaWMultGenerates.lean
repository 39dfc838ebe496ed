/- The walks: each call keeps to its plain transformer. Printed by walkgen.py. -/
import Derived.Test.YtolobiljalelgaaSort
namespace Sg
open Go Go.RowKit Go.Proofs
set_option linter.unusedVariables false
set_option maxRecDepth 100000
set_option maxHeartbeats 4000000
theorem body19 : Body Try.prog 19 := ⟨Try.f19, Try.func19, rfl, by kernel_rfl⟩
theorem walk_ref14_Shape {A : List Nat} {w0 : World} {p_t : Option Addr} {c_t : Nat} {t : List (List Int)} (hA : ∀ b ∈ A, b < w0.heap.size) (h_t : ISl (Rp.sl (Rp.int .i64)) A w0 p_t c_t t) {K : Int → Prop} (H : ref14_Shape t K) :
    CallsV Try.prog 19 #[.slice p_t t.length c_t] w0 (fun v w' => ∃ (r0 : Int), v = .int .i64 r0 ∧ Same w0 w' ∧ K r0) := by
 refine CallsV.of (l := [.slice p_t t.length c_t]) Try.func19 rfl Try.ntmps19 rfl ?_
 have hO := Owns.start hA
 have hB := Fr.refl (bl []) w0
 unfold ref14_Shape at H
 replace h_t := h_t.ch (Ch.start A w0)
 refine Go1.seq ?_
 refine Go1.region ?_
 refine GoR.op ((op_assign rfl) _) rfl rfl ?_
 refine GoR.nil ?_
 refine Go1.seq ?_
 refine Go1.seq ?_
 refine Go1.region ?_
 refine GoR.op ((op_move rfl) _) rfl rfl ?_
 refine GoR.op ((op_len Try.underlying22 rfl) _) rfl rfl ?_
 replace H := H h_t.bd
 by_cases h1 : (400 : Int) < (t.length : Int)
 ·replace H := ifp h1 H
  refine GoR.op ((fun w => opB (op_gtr rfl rfl w) (decide_eq_true h1)) _) rfl rfl ?_
  refine GoR.nil ?_
  refine Go1.condT rfl rfl ?_
  refine Go1.seq ?_
  refine Go1.region ?_
  refine GoR.op ((op_assign rfl) _) rfl rfl ?_
  refine GoR.nil ?_
  refine Go1.ret1 Try.func19 rfl ?_
  exact ⟨(3 : Int), rfl, hB.same, H⟩
 ·replace H := ifn h1 H
  refine GoR.op ((fun w => opB (op_gtr rfl rfl w) (decide_eq_false h1)) _) rfl rfl ?_
  refine GoR.nil ?_
  refine Go1.condF rfl rfl ?_
  refine Go1.skip ?_
  refine Go1.seq ?_
  refine Go1.seq ?_
  refine Go1.region ?_
  refine GoR.op ((op_move rfl) _) rfl rfl ?_
  refine GoR.op ((op_len Try.underlying22 rfl) _) rfl rfl ?_
  by_cases h2 : (t.length : Int) = (0 : Int)
  ·replace H := ifp h2 H
   refine GoR.op ((fun w => opB (op_eql rfl rfl w) (decide_eq_true h2)) _) rfl rfl ?_
   refine GoR.nil ?_
   refine Go1.condT rfl rfl ?_
   refine Go1.seq ?_
   refine Go1.region ?_
   refine GoR.op ((op_assign rfl) _) rfl rfl ?_
   refine GoR.nil ?_
   refine Go1.ret1 Try.func19 rfl ?_
   exact ⟨(4 : Int), rfl, hB.same, H⟩
  ·replace H := ifn h2 H
   refine GoR.op ((fun w => opB (op_eql rfl rfl w) (decide_eq_false h2)) _) rfl rfl ?_
   refine GoR.nil ?_
   refine Go1.condF rfl rfl ?_
   refine Go1.skip ?_
   refine Go1.seq ?_
   refine Go1.seq ?_
   refine Go1.region ?_
   refine GoR.op ((op_move rfl) _) rfl rfl ?_
   refine GoR.op ((op_len Try.underlying22 rfl) _) rfl rfl ?_
   refine GoR.op ((op_move rfl) _) rfl rfl ?_
   refine GoR.nil ?_
   refine Go1.block ?_
   refine Go1.loopW (S := Nat) (fun s σ w => agrees σ [(0, .slice p_t t.length c_t), (13, .slice p_t t.length c_t), (14, .int .i64 (t.length : Int)), (15, .int .i64 (s : Int))] ∧ Owns w0.heap.size w [] A ∧ ISl (Rp.sl (Rp.int .i64)) (bl [] ++ A) w p_t c_t t ∧ Fr (bl []) w0 (bl []) w) H ⟨⟨rfl, rfl, rfl, rfl, trivial⟩, hO, h_t, hB⟩ ?_
   rintro X1 k1_4 H hX1 σ w3 ⟨hag, hO, h_t, hB⟩
   refine Go1.keep [(0, .slice p_t t.length c_t), (13, .slice p_t t.length c_t), (14, .int .i64 (t.length : Int)), (15, .int .i64 (k1_4 : Int))] hag ?_
   refine Go1.seq ?_
   refine Go1.region ?_
   by_cases h5 : (k1_4 : Int) < (t.length : Int)
   ·replace H := ifp h5 H
    refine GoR.op ((fun w => opB (op_lss rfl rfl w) (decide_eq_true h5)) _) rfl rfl ?_
    refine GoR.nil ?_
    refine Go1.seq ?_
    refine Go1.condT rfl rfl ?_
    refine Go1.skip ?_
    refine Go1.seq ?_
    refine Go1.block ?_
    refine Go1.seq ?_
    refine Go1.region ?_
    obtain ⟨h6, H⟩ := H
    obtain ⟨h7, H⟩ := H
    refine GoR.op ((op_index Try.underlying22 ti23 rfl rfl h6 h7 (h_t.some_ h6 h7)) _) rfl rfl ?_
    have hobt := ldSl h_t h6 h7
    obtain ⟨p8, c9, hi10, hl11⟩ := hobt
    refine GoR.op ((hl11 Try.underlying23 rfl rfl) _ (Same.refl _)) rfl rfl ?_
    refine GoR.op ((op_assign rfl) _) rfl rfl ?_
    refine GoR.nil ?_
    refine Go1.seq ?_
    refine Go1.seq ?_
    refine Go1.region ?_
    refine GoR.op ((op_move rfl) _) rfl rfl ?_
    refine GoR.op ((op_len Try.underlying23 rfl) _) rfl rfl ?_
    replace H := H hi10.bd
    refine GoR.op ((op_move rfl) _) rfl rfl ?_
    refine GoR.op ((op_len Try.underlying22 rfl) _) rfl rfl ?_
    by_cases h12 : ((ix t (k1_4 : Int)).length : Int) = (t.length : Int)
    ·replace H := ifp h12 H
     refine GoR.op ((fun w => opB (op_neq rfl rfl w) (ndT h12)) _) rfl rfl ?_
     refine GoR.nil ?_
     refine Go1.condF rfl rfl ?_
     refine Go1.skip ?_
     refine Go1.seq ?_
     refine Go1.region ?_
     refine GoR.op ((op_move rfl) _) rfl rfl ?_
     refine GoR.op ((op_len Try.underlying23 rfl) _) rfl rfl ?_
     refine GoR.op ((op_move rfl) _) rfl rfl ?_
     refine GoR.nil ?_
     refine Go1.block ?_
     refine Go1.loopW (S := Nat) (fun s σ w => agrees σ [(0, .slice p_t t.length c_t), (13, .slice p_t t.length c_t), (14, .int .i64 (t.length : Int)), (15, .int .i64 (k1_4 : Int)), (24, .slice p8 ((ix t (k1_4 : Int)).length) c9), (25, .int .i64 ((ix t (k1_4 : Int)).length : Int)), (26, .int .i64 (s : Int))] ∧ Owns w0.heap.size w [] A ∧ ISl (Rp.sl (Rp.int .i64)) (bl [] ++ A) w p_t c_t t ∧ ISl (Rp.int .i64) (bl [] ++ A) w p8 c9 (ix t (k1_4 : Int)) ∧ Fr (bl []) w0 (bl []) w) H ⟨⟨rfl, rfl, rfl, rfl, rfl, rfl, rfl, trivial⟩, hO, h_t, hi10, hB⟩ ?_
     rintro X2 k2_14 H hX2 σ w13 ⟨hag, hO, h_t, hi10, hB⟩
     refine Go1.keep [(0, .slice p_t t.length c_t), (13, .slice p_t t.length c_t), (14, .int .i64 (t.length : Int)), (15, .int .i64 (k1_4 : Int)), (24, .slice p8 ((ix t (k1_4 : Int)).length) c9), (25, .int .i64 ((ix t (k1_4 : Int)).length : Int)), (26, .int .i64 (k2_14 : Int))] hag ?_
     refine Go1.seq ?_
     refine Go1.region ?_
     by_cases h15 : (k2_14 : Int) < ((ix t (k1_4 : Int)).length : Int)
     ·replace H := ifp h15 H
      refine GoR.op ((fun w => opB (op_lss rfl rfl w) (decide_eq_true h15)) _) rfl rfl ?_
      refine GoR.nil ?_
      refine Go1.seq ?_
      refine Go1.condT rfl rfl ?_
      refine Go1.skip ?_
      refine Go1.seq ?_
      refine Go1.block ?_
      refine Go1.seq ?_
      refine Go1.region ?_
      obtain ⟨h16, H⟩ := H
      obtain ⟨h17, H⟩ := H
      refine GoR.op ((op_index Try.underlying23 ti3 rfl rfl h16 h17 (hi10.some_ h16 h17)) _) rfl rfl ?_
      refine GoR.op ((ldInt hi10 h16 h17 Try.underlying3 rfl rfl) _ (Same.refl _)) rfl rfl ?_
      refine GoR.op ((op_assign rfl) _) rfl rfl ?_
      refine GoR.nil ?_
      refine Go1.seq ?_
      refine Go1.region ?_
      refine GoR.op ((op_move rfl) _) rfl rfl ?_
      by_cases h18 : (ix (ix t (k1_4 : Int)) (k2_14 : Int)) < (0 : Int)
      ·replace H := ifp h18 H
       refine GoR.op ((fun w => opB (op_lss rfl rfl w) (decide_eq_true h18)) _) rfl rfl ?_
       refine GoR.op ((op_move rfl) _) rfl rfl ?_
       refine GoR.pass rfl rfl ?_
       refine GoR.pass rfl rfl ?_
       refine GoR.pass rfl rfl ?_
       refine GoR.pass rfl rfl ?_
       refine GoR.op ((op_pickT rfl rfl rfl) _) rfl rfl ?_
       refine GoR.nil ?_
       refine Go1.condT rfl rfl ?_
       refine Go1.seq ?_
       refine Go1.region ?_
       refine GoR.op ((op_assign rfl) _) rfl rfl ?_
       refine GoR.nil ?_
       refine Go1.ret1 Try.func19 rfl ?_
       exact ⟨(4 : Int), rfl, hB.same, H⟩
      ·replace H := ifn h18 H
       refine GoR.op ((fun w => opB (op_lss rfl rfl w) (decide_eq_false h18)) _) rfl rfl ?_
       refine GoR.op ((op_move rfl) _) rfl rfl ?_
       refine GoR.op ((op_move rfl) _) rfl rfl ?_
       refine GoR.op ((op_move rfl) _) rfl rfl ?_
       refine GoR.op ((op_len Try.underlying22 rfl) _) rfl rfl ?_
       by_cases h19 : (t.length : Int) ≤ (ix (ix t (k1_4 : Int)) (k2_14 : Int))
       ·replace H := ifp h19 H
        refine GoR.op ((fun w => opB (op_geq rfl rfl w) (decide_eq_true h19)) _) rfl rfl ?_
        refine GoR.op ((op_pickF rfl rfl rfl) _) rfl rfl ?_
        refine GoR.nil ?_
        refine Go1.condT rfl rfl ?_
        refine Go1.seq ?_
        refine Go1.region ?_
        refine GoR.op ((op_assign rfl) _) rfl rfl ?_
        refine GoR.nil ?_
        refine Go1.ret1 Try.func19 rfl ?_
        exact ⟨(4 : Int), rfl, hB.same, H⟩
       ·replace H := ifn h19 H
        refine GoR.op ((fun w => opB (op_geq rfl rfl w) (decide_eq_false h19)) _) rfl rfl ?_
        refine GoR.op ((op_pickF rfl rfl rfl) _) rfl rfl ?_
        refine GoR.nil ?_
        refine Go1.condF rfl rfl ?_
        refine Go1.skip ?_
        refine Go1.inBlock ?_
        refine Go1.region ?_
        refine GoR.op ((op_add rfl rfl (wrap_i64 (natbd h15 hi10.bd))) _) rfl rfl ?_
        refine GoR.op ((op_move rfl) _) rfl rfl ?_
        refine GoR.nil ?_
        exact hX2 _ H _ _ ⟨⟨rfl, rfl, rfl, rfl, rfl, rfl, rfl, trivial⟩, hO, h_t, hi10, hB⟩
     ·replace H := ifn h15 H
      refine GoR.op ((fun w => opB (op_lss rfl rfl w) (decide_eq_false h15)) _) rfl rfl ?_
      refine GoR.nil ?_
      refine Go1.seq ?_
      refine Go1.condF rfl rfl ?_
      refine Go1.exit rfl ?_
      refine Go1.inBlock ?_
      refine Go1.region ?_
      refine GoR.op ((op_add rfl rfl (wrap_i64 (natbd h5 h_t.bd))) _) rfl rfl ?_
      refine GoR.op ((op_move rfl) _) rfl rfl ?_
      refine GoR.nil ?_
      exact hX1 _ H _ _ ⟨⟨rfl, rfl, rfl, rfl, trivial⟩, hO, h_t, hB⟩
    ·replace H := ifn h12 H
     refine GoR.op ((fun w => opB (op_neq rfl rfl w) (ndF h12)) _) rfl rfl ?_
     refine GoR.nil ?_
     refine Go1.condT rfl rfl ?_
     refine Go1.seq ?_
     refine Go1.region ?_
     refine GoR.op ((op_assign rfl) _) rfl rfl ?_
     refine GoR.nil ?_
     refine Go1.ret1 Try.func19 rfl ?_
     exact ⟨(4 : Int), rfl, hB.same, H⟩
   ·replace H := ifn h5 H
    refine GoR.op ((fun w => opB (op_lss rfl rfl w) (decide_eq_false h5)) _) rfl rfl ?_
    refine GoR.nil ?_
    refine Go1.seq ?_
    refine Go1.condF rfl rfl ?_
    refine Go1.exit rfl ?_
    refine Go1.seq ?_
    refine Go1.region ?_
    refine GoR.op ((op_assign rfl) _) rfl rfl ?_
    refine GoR.nil ?_
    refine Go1.ret1 Try.func19 rfl ?_
    exact ⟨(0 : Int), rfl, hB.same, H⟩
theorem body62 : Body Try.prog 62 := ⟨Try.f62, Try.func62, rfl, by kernel_rfl⟩
theorem walk_mult_shape {A : List Nat} {w0 : World} {p_t : Option Addr} {c_t : Nat} {t : List (List Int)} (hA : ∀ b ∈ A, b < w0.heap.size) (h_t : ISl (Rp.sl (Rp.int .i64)) A w0 p_t c_t t) {K : Int → Prop} (H : mult_shape t K) :
    CallsV Try.prog 62 #[.slice p_t t.length c_t] w0 (fun v w' => ∃ (r0 : Int), v = .int .i64 r0 ∧ Same w0 w' ∧ K r0) := by
 refine CallsV.of (l := [.slice p_t t.length c_t]) Try.func62 rfl Try.ntmps62 rfl ?_
 have hO := Owns.start hA
 have hB := Fr.refl (bl []) w0
 unfold mult_shape at H
 replace h_t := h_t.ch (Ch.start A w0)
 refine Go1.seq ?_
 refine Go1.region ?_
 refine GoR.op ((op_assign rfl) _) rfl rfl ?_
 refine GoR.nil ?_
 refine Go1.seq ?_
 refine Go1.seq ?_
 refine Go1.region ?_
 refine GoR.op ((op_move rfl) _) rfl rfl ?_
 refine GoR.op ((op_len Try.underlying22 rfl) _) rfl rfl ?_
 replace H := H h_t.bd
 by_cases h1 : (400 : Int) < (t.length : Int)
 ·replace H := ifp h1 H
  refine GoR.op ((fun w => opB (op_gtr rfl rfl w) (decide_eq_true h1)) _) rfl rfl ?_
  refine GoR.nil ?_
  refine Go1.condT rfl rfl ?_
  refine Go1.seq ?_
  refine Go1.region ?_
  refine GoR.op ((op_assign rfl) _) rfl rfl ?_
  refine GoR.nil ?_
  refine Go1.ret1 Try.func62 rfl ?_
  exact ⟨(3 : Int), rfl, hB.same, H⟩
 ·replace H := ifn h1 H
  refine GoR.op ((fun w => opB (op_gtr rfl rfl w) (decide_eq_false h1)) _) rfl rfl ?_
  refine GoR.nil ?_
  refine Go1.condF rfl rfl ?_
  refine Go1.skip ?_
  refine Go1.seq ?_
  refine Go1.seq ?_
  refine Go1.region ?_
  refine GoR.op ((op_move rfl) _) rfl rfl ?_
  refine GoR.op ((op_len Try.underlying22 rfl) _) rfl rfl ?_
  by_cases h2 : (t.length : Int) = (0 : Int)
  ·replace H := ifp h2 H
   refine GoR.op ((fun w => opB (op_eql rfl rfl w) (decide_eq_true h2)) _) rfl rfl ?_
   refine GoR.nil ?_
   refine Go1.condT rfl rfl ?_
   refine Go1.seq ?_
   refine Go1.region ?_
   refine GoR.op ((op_assign rfl) _) rfl rfl ?_
   refine GoR.nil ?_
   refine Go1.ret1 Try.func62 rfl ?_
   exact ⟨(4 : Int), rfl, hB.same, H⟩
  ·replace H := ifn h2 H
   refine GoR.op ((fun w => opB (op_eql rfl rfl w) (decide_eq_false h2)) _) rfl rfl ?_
   refine GoR.nil ?_
   refine Go1.condF rfl rfl ?_
   refine Go1.skip ?_
   refine Go1.seq ?_
   refine Go1.seq ?_
   refine Go1.region ?_
   refine GoR.op ((op_move rfl) _) rfl rfl ?_
   refine GoR.op ((op_len Try.underlying22 rfl) _) rfl rfl ?_
   refine GoR.op ((op_move rfl) _) rfl rfl ?_
   refine GoR.nil ?_
   refine Go1.block ?_
   refine Go1.loopW (S := Nat) (fun s σ w => agrees σ [(0, .slice p_t t.length c_t), (13, .slice p_t t.length c_t), (14, .int .i64 (t.length : Int)), (15, .int .i64 (s : Int))] ∧ Owns w0.heap.size w [] A ∧ ISl (Rp.sl (Rp.int .i64)) (bl [] ++ A) w p_t c_t t ∧ Fr (bl []) w0 (bl []) w) H ⟨⟨rfl, rfl, rfl, rfl, trivial⟩, hO, h_t, hB⟩ ?_
   rintro X1 k1_4 H hX1 σ w3 ⟨hag, hO, h_t, hB⟩
   refine Go1.keep [(0, .slice p_t t.length c_t), (13, .slice p_t t.length c_t), (14, .int .i64 (t.length : Int)), (15, .int .i64 (k1_4 : Int))] hag ?_
   refine Go1.seq ?_
   refine Go1.region ?_
   by_cases h5 : (k1_4 : Int) < (t.length : Int)
   ·replace H := ifp h5 H
    refine GoR.op ((fun w => opB (op_lss rfl rfl w) (decide_eq_true h5)) _) rfl rfl ?_
    refine GoR.nil ?_
    refine Go1.seq ?_
    refine Go1.condT rfl rfl ?_
    refine Go1.skip ?_
    refine Go1.seq ?_
    refine Go1.block ?_
    refine Go1.seq ?_
    refine Go1.region ?_
    obtain ⟨h6, H⟩ := H
    obtain ⟨h7, H⟩ := H
    refine GoR.op ((op_index Try.underlying22 ti23 rfl rfl h6 h7 (h_t.some_ h6 h7)) _) rfl rfl ?_
    have hobt := ldSl h_t h6 h7
    obtain ⟨p8, c9, hi10, hl11⟩ := hobt
    refine GoR.op ((hl11 Try.underlying23 rfl rfl) _ (Same.refl _)) rfl rfl ?_
    refine GoR.op ((op_assign rfl) _) rfl rfl ?_
    refine GoR.nil ?_
    refine Go1.seq ?_
    refine Go1.seq ?_
    refine Go1.region ?_
    refine GoR.op ((op_move rfl) _) rfl rfl ?_
    refine GoR.op ((op_len Try.underlying23 rfl) _) rfl rfl ?_
    replace H := H hi10.bd
    refine GoR.op ((op_move rfl) _) rfl rfl ?_
    refine GoR.op ((op_len Try.underlying22 rfl) _) rfl rfl ?_
    by_cases h12 : ((ix t (k1_4 : Int)).length : Int) = (t.length : Int)
    ·replace H := ifp h12 H
     refine GoR.op ((fun w => opB (op_neq rfl rfl w) (ndT h12)) _) rfl rfl ?_
     refine GoR.nil ?_
     refine Go1.condF rfl rfl ?_
     refine Go1.skip ?_
     refine Go1.seq ?_
     refine Go1.region ?_
     refine GoR.op ((op_move rfl) _) rfl rfl ?_
     refine GoR.op ((op_len Try.underlying23 rfl) _) rfl rfl ?_
     refine GoR.op ((op_move rfl) _) rfl rfl ?_
     refine GoR.nil ?_
     refine Go1.block ?_
     refine Go1.loopW (S := Nat) (fun s σ w => agrees σ [(0, .slice p_t t.length c_t), (13, .slice p_t t.length c_t), (14, .int .i64 (t.length : Int)), (15, .int .i64 (k1_4 : Int)), (24, .slice p8 ((ix t (k1_4 : Int)).length) c9), (25, .int .i64 ((ix t (k1_4 : Int)).length : Int)), (26, .int .i64 (s : Int))] ∧ Owns w0.heap.size w [] A ∧ ISl (Rp.sl (Rp.int .i64)) (bl [] ++ A) w p_t c_t t ∧ ISl (Rp.int .i64) (bl [] ++ A) w p8 c9 (ix t (k1_4 : Int)) ∧ Fr (bl []) w0 (bl []) w) H ⟨⟨rfl, rfl, rfl, rfl, rfl, rfl, rfl, trivial⟩, hO, h_t, hi10, hB⟩ ?_
     rintro X2 k2_14 H hX2 σ w13 ⟨hag, hO, h_t, hi10, hB⟩
     refine Go1.keep [(0, .slice p_t t.length c_t), (13, .slice p_t t.length c_t), (14, .int .i64 (t.length : Int)), (15, .int .i64 (k1_4 : Int)), (24, .slice p8 ((ix t (k1_4 : Int)).length) c9), (25, .int .i64 ((ix t (k1_4 : Int)).length : Int)), (26, .int .i64 (k2_14 : Int))] hag ?_
     refine Go1.seq ?_
     refine Go1.region ?_
     by_cases h15 : (k2_14 : Int) < ((ix t (k1_4 : Int)).length : Int)
     ·replace H := ifp h15 H
      refine GoR.op ((fun w => opB (op_lss rfl rfl w) (decide_eq_true h15)) _) rfl rfl ?_
      refine GoR.nil ?_
      refine Go1.seq ?_
      refine Go1.condT rfl rfl ?_
      refine Go1.skip ?_
      refine Go1.seq ?_
      refine Go1.block ?_
      refine Go1.seq ?_
      refine Go1.region ?_
      obtain ⟨h16, H⟩ := H
      obtain ⟨h17, H⟩ := H
      refine GoR.op ((op_index Try.underlying23 ti3 rfl rfl h16 h17 (hi10.some_ h16 h17)) _) rfl rfl ?_
      refine GoR.op ((ldInt hi10 h16 h17 Try.underlying3 rfl rfl) _ (Same.refl _)) rfl rfl ?_
      refine GoR.op ((op_assign rfl) _) rfl rfl ?_
      refine GoR.nil ?_
      refine Go1.seq ?_
      refine Go1.region ?_
      refine GoR.op ((op_move rfl) _) rfl rfl ?_
      by_cases h18 : (ix (ix t (k1_4 : Int)) (k2_14 : Int)) < (0 : Int)
      ·replace H := ifp h18 H
       refine GoR.op ((fun w => opB (op_lss rfl rfl w) (decide_eq_true h18)) _) rfl rfl ?_
       refine GoR.op ((op_move rfl) _) rfl rfl ?_
       refine GoR.pass rfl rfl ?_
       refine GoR.pass rfl rfl ?_
       refine GoR.pass rfl rfl ?_
       refine GoR.pass rfl rfl ?_
       refine GoR.op ((op_pickT rfl rfl rfl) _) rfl rfl ?_
       refine GoR.nil ?_
       refine Go1.condT rfl rfl ?_
       refine Go1.seq ?_
       refine Go1.region ?_
       refine GoR.op ((op_assign rfl) _) rfl rfl ?_
       refine GoR.nil ?_
       refine Go1.ret1 Try.func62 rfl ?_
       exact ⟨(4 : Int), rfl, hB.same, H⟩
      ·replace H := ifn h18 H
       refine GoR.op ((fun w => opB (op_lss rfl rfl w) (decide_eq_false h18)) _) rfl rfl ?_
       refine GoR.op ((op_move rfl) _) rfl rfl ?_
       refine GoR.op ((op_move rfl) _) rfl rfl ?_
       refine GoR.op ((op_move rfl) _) rfl rfl ?_
       refine GoR.op ((op_len Try.underlying22 rfl) _) rfl rfl ?_
       by_cases h19 : (t.length : Int) ≤ (ix (ix t (k1_4 : Int)) (k2_14 : Int))
       ·replace H := ifp h19 H
        refine GoR.op ((fun w => opB (op_geq rfl rfl w) (decide_eq_true h19)) _) rfl rfl ?_
        refine GoR.op ((op_pickF rfl rfl rfl) _) rfl rfl ?_
        refine GoR.nil ?_
        refine Go1.condT rfl rfl ?_
        refine Go1.seq ?_
        refine Go1.region ?_
        refine GoR.op ((op_assign rfl) _) rfl rfl ?_
        refine GoR.nil ?_
        refine Go1.ret1 Try.func62 rfl ?_
        exact ⟨(4 : Int), rfl, hB.same, H⟩
       ·replace H := ifn h19 H
        refine GoR.op ((fun w => opB (op_geq rfl rfl w) (decide_eq_false h19)) _) rfl rfl ?_
        refine GoR.op ((op_pickF rfl rfl rfl) _) rfl rfl ?_
        refine GoR.nil ?_
        refine Go1.condF rfl rfl ?_
        refine Go1.skip ?_
        refine Go1.inBlock ?_
        refine Go1.region ?_
        refine GoR.op ((op_add rfl rfl (wrap_i64 (natbd h15 hi10.bd))) _) rfl rfl ?_
        refine GoR.op ((op_move rfl) _) rfl rfl ?_
        refine GoR.nil ?_
        exact hX2 _ H _ _ ⟨⟨rfl, rfl, rfl, rfl, rfl, rfl, rfl, trivial⟩, hO, h_t, hi10, hB⟩
     ·replace H := ifn h15 H
      refine GoR.op ((fun w => opB (op_lss rfl rfl w) (decide_eq_false h15)) _) rfl rfl ?_
      refine GoR.nil ?_
      refine Go1.seq ?_
      refine Go1.condF rfl rfl ?_
      refine Go1.exit rfl ?_
      refine Go1.inBlock ?_
      refine Go1.region ?_
      refine GoR.op ((op_add rfl rfl (wrap_i64 (natbd h5 h_t.bd))) _) rfl rfl ?_
      refine GoR.op ((op_move rfl) _) rfl rfl ?_
      refine GoR.nil ?_
      exact hX1 _ H _ _ ⟨⟨rfl, rfl, rfl, rfl, trivial⟩, hO, h_t, hB⟩
    ·replace H := ifn h12 H
     refine GoR.op ((fun w => opB (op_neq rfl rfl w) (ndF h12)) _) rfl rfl ?_
     refine GoR.nil ?_
     refine Go1.condT rfl rfl ?_
     refine Go1.seq ?_
     refine Go1.region ?_
     refine GoR.op ((op_assign rfl) _) rfl rfl ?_
     refine GoR.nil ?_
     refine Go1.ret1 Try.func62 rfl ?_
     exact ⟨(4 : Int), rfl, hB.same, H⟩
   ·replace H := ifn h5 H
    refine GoR.op ((fun w => opB (op_lss rfl rfl w) (decide_eq_false h5)) _) rfl rfl ?_
    refine GoR.nil ?_
    refine Go1.seq ?_
    refine Go1.condF rfl rfl ?_
    refine Go1.exit rfl ?_
    refine Go1.seq ?_
    refine Go1.region ?_
    refine GoR.op ((op_assign rfl) _) rfl rfl ?_
    refine GoR.nil ?_
    refine Go1.ret1 Try.func62 rfl ?_
    exact ⟨(0 : Int), rfl, hB.same, H⟩
theorem body88 : Body Try.prog 88 := ⟨Try.f88, Try.func88, rfl, by kernel_rfl⟩
theorem body66 : Body Try.prog 66 := ⟨Try.f66, Try.func66, rfl, by kernel_rfl⟩
theorem walk_mult_spanning {A : List Nat} {w0 : World} {p_a0 : Option Addr} {c_a0 : Nat} {a0 : List (List Int)} (hA : ∀ b ∈ A, b < w0.heap.size) (h_a0 : ISl (Rp.sl (Rp.int .i64)) A w0 p_a0 c_a0 a0) {K : List Int → Prop} (H : mult_spanning a0 K) :
    CallsV Try.prog 66 #[.slice p_a0 a0.length c_a0] w0 (fun v w' => ∃ (r0 : List Int), ∃ (p_r0 : Option Addr), ∃ (c_r0 : Nat), v = .slice p_r0 r0.length c_r0 ∧ Same w0 w' ∧ ISl (Rp.int .i64) A w' p_r0 c_r0 r0 ∧ K r0) := by
 refine CallsV.of (l := [.slice p_a0 a0.length c_a0]) Try.func66 rfl Try.ntmps66 rfl ?_
 have hO := Owns.start hA
 have hB := Fr.refl (bl []) w0
 unfold mult_spanning at H
 replace h_a0 := h_a0.ch (Ch.start A w0)
 refine Go1.seq ?_
 refine Go1.region ?_
 refine GoR.op ((op_assign rfl) _) rfl rfl ?_
 refine GoR.nil ?_
 refine Go1.seq ?_
 refine Go1.region ?_
 refine GoR.op ((op_assign rfl) _) rfl rfl ?_
 have hobt := oalloc (t := 23) (cs := #[.slice none 0 0]) ti23 hO rfl
 obtain ⟨w1, B2, hst3, hs4, hop5⟩ := hobt
 refine GoR.op hop5 rfl rfl ?_
 replace hO := hst3.own
 replace h_a0 := h_a0.ch hst3.ch
 replace hB := hB.trans hst3.fr
 refine GoR.nil ?_
 refine Go1.seq ?_
 refine Go1.region ?_
 refine GoR.op ((op_move rfl) _) rfl rfl ?_
 refine GoR.op ((op_len Try.underlying22 rfl) _) rfl rfl ?_
 replace H := H h_a0.bd
 obtain ⟨h14, H⟩ := H
 obtain ⟨h15, H⟩ := H
 have hobt := omake (n := (a0.length : Int)) (r := Rp.bool) (d := false) Try.underlying54 ti4 (fun _ _ => rfl) rfl hO h14 h15 (by decide)
 obtain ⟨w7, p8, vs9, hst10, hE11, hs12, hop13⟩ := hobt
 refine GoR.op (hop13 rfl rfl) rfl rfl ?_
 replace hO := hst10.own
 replace h_a0 := h_a0.ch hst10.ch
 replace hB := hB.trans hst10.fr
 have hobt := oalloc (t := 54) (cs := #[.slice none 0 0]) ti54 hO rfl
 obtain ⟨w17, B18, hst19, hs20, hop21⟩ := hobt
 refine GoR.op hop21 rfl rfl ?_
 replace hE11 := hE11.ch hst19.ch
 replace hO := hst19.own
 replace h_a0 := h_a0.ch hst19.ch
 replace hB := hB.trans hst19.fr
 have hobt := oblkSt (v := .slice p8 a0.length a0.length) (i := 0) 0 hO rfl rfl rfl
 obtain ⟨w23, hst24, hop25⟩ := hobt
 refine GoR.op (hop25 Try.underlying54 rfl ti54 rfl rfl) rfl rfl ?_
 replace hE11 := hE11.ch hst24.ch
 replace hO := hst24.own
 replace h_a0 := h_a0.ch hst24.ch
 replace hB := hB.trans hst24.fr
 refine GoR.nil ?_
 refine Go1.seq ?_
 refine Go1.region ?_
 refine GoR.op ((op_makeFunc (vs := [.pointer (some ⟨B18, 0, none⟩), .pointer (some ⟨B2, 0, none⟩)]) rfl) _) rfl rfl ?_
 refine GoR.op ((op_assign rfl) _) rfl rfl ?_
 refine GoR.nil ?_
 refine Go1.seq ?_
 refine Go1.region ?_
 refine GoR.op ((op_assign rfl) _) rfl rfl ?_
 refine GoR.nil ?_
 refine Go1.seq ?_
 refine Go1.seq ?_
 refine Go1.region ?_
 refine GoR.op ((op_move rfl) _) rfl rfl ?_
 refine GoR.op ((op_len Try.underlying22 rfl) _) rfl rfl ?_
 refine GoR.op ((op_move rfl) _) rfl rfl ?_
 refine GoR.nil ?_
 refine Go1.block ?_
 have hst27 := Stp.nil (e := 3) (r := 1) hO
 replace hE11 := hE11.ch hst27.ch
 replace hO := hst27.own
 replace h_a0 := h_a0.ch hst27.ch
 replace hB := hB.trans hst27.fr
 have hE28 := Els.nil (Rp.int .i64) (bl (.row 3 1 none 0 0 [] :: [.blk B18 (.cells #[.slice p8 a0.length a0.length] 54 (0, 0)), .row 4 1 p8 a0.length a0.length vs9, .blk B2 (.cells #[.slice none 0 0] 23 (0, 0))]) ++ A) w23
 have hst30 := Stp.nil (e := 3) (r := 1) hO
 replace hE28 := hE28.ch hst30.ch
 replace hE11 := hE11.ch hst30.ch
 replace hO := hst30.own
 replace h_a0 := h_a0.ch hst30.ch
 replace hB := hB.trans hst30.fr
 have hE31 := Els.nil (Rp.int .i64) (bl (.row 3 1 none 0 0 [] :: [.row 3 1 none 0 0 [], .blk B18 (.cells #[.slice p8 a0.length a0.length] 54 (0, 0)), .row 4 1 p8 a0.length a0.length vs9, .blk B2 (.cells #[.slice none 0 0] 23 (0, 0))]) ++ A) w23
 refine Go1.loopW (S := Nat × Nat × List Int × List Int × List Bool) (fun s σ w => ∃ (n40 : Nat), ∃ (p38 : Option Addr), ∃ (c39 : Nat), ∃ (vs36 : List Value), ∃ (n46 : Nat), ∃ (p44 : Option Addr), ∃ (c45 : Nat), ∃ (vs42 : List Value), ∃ (vs48 : List Value), agrees σ [(0, .slice p_a0 a0.length c_a0), (3, .slice p44 n46 c45), (4, .pointer (some ⟨B2, 0, none⟩)), (5, .pointer (some ⟨B18, 0, none⟩)), (6, .func (.func 88) #[] #[.pointer (some ⟨B18, 0, none⟩), .pointer (some ⟨B2, 0, none⟩)]), (7, .int .i64 ((s.1) : Int)), (17, .int .i64 (a0.length : Int)), (18, .int .i64 ((s.2.1) : Int))] ∧ Owns w0.heap.size w [.row 3 1 p38 n40 c39 vs36, .row 3 1 p44 n46 c45 vs42, .blk B18 (.cells #[.slice p8 a0.length a0.length] 54 (0, 0)), .row 4 1 p8 a0.length a0.length vs48, .blk B2 (.cells #[.slice p38 n40 c39] 23 (0, 0))] A ∧ Els (Rp.int .i64) (bl [.row 3 1 p38 n40 c39 vs36, .row 3 1 p44 n46 c45 vs42, .blk B18 (.cells #[.slice p8 a0.length a0.length] 54 (0, 0)), .row 4 1 p8 a0.length a0.length vs48, .blk B2 (.cells #[.slice p38 n40 c39] 23 (0, 0))] ++ A) w vs36 (s.2.2.1) ∧ Els (Rp.int .i64) (bl [.row 3 1 p38 n40 c39 vs36, .row 3 1 p44 n46 c45 vs42, .blk B18 (.cells #[.slice p8 a0.length a0.length] 54 (0, 0)), .row 4 1 p8 a0.length a0.length vs48, .blk B2 (.cells #[.slice p38 n40 c39] 23 (0, 0))] ++ A) w vs42 (s.2.2.2.1) ∧ Els (Rp.bool) (bl [.row 3 1 p38 n40 c39 vs36, .row 3 1 p44 n46 c45 vs42, .blk B18 (.cells #[.slice p8 a0.length a0.length] 54 (0, 0)), .row 4 1 p8 a0.length a0.length vs48, .blk B2 (.cells #[.slice p38 n40 c39] 23 (0, 0))] ++ A) w vs48 (s.2.2.2.2) ∧ ISl (Rp.sl (Rp.int .i64)) (bl [.row 3 1 p38 n40 c39 vs36, .row 3 1 p44 n46 c45 vs42, .blk B18 (.cells #[.slice p8 a0.length a0.length] 54 (0, 0)), .row 4 1 p8 a0.length a0.length vs48, .blk B2 (.cells #[.slice p38 n40 c39] 23 (0, 0))] ++ A) w p_a0 c_a0 a0 ∧ Fr (bl []) w0 (bl [.row 3 1 p38 n40 c39 vs36, .row 3 1 p44 n46 c45 vs42, .blk B18 (.cells #[.slice p8 a0.length a0.length] 54 (0, 0)), .row 4 1 p8 a0.length a0.length vs48, .blk B2 (.cells #[.slice p38 n40 c39] 23 (0, 0))]) w) H ⟨0, none, 0, [], 0, none, 0, [], vs9, ⟨rfl, rfl, rfl, rfl, rfl, rfl, rfl, rfl, trivial⟩, hO, hE31, hE28, hE11, h_a0, hB⟩ ?_
 rintro X1 ⟨k1_33, k1_34, d_35, d_41, d_47⟩ H hX1 σ w32 ⟨n40, p38, c39, vs36, n46, p44, c45, vs42, vs48, hag, hO, hE37, hE43, hE49, h_a0, hB⟩
 dsimp only at H
 refine Go1.keep [(0, .slice p_a0 a0.length c_a0), (3, .slice p44 n46 c45), (4, .pointer (some ⟨B2, 0, none⟩)), (5, .pointer (some ⟨B18, 0, none⟩)), (6, .func (.func 88) #[] #[.pointer (some ⟨B18, 0, none⟩), .pointer (some ⟨B2, 0, none⟩)]), (7, .int .i64 (k1_33 : Int)), (17, .int .i64 (a0.length : Int)), (18, .int .i64 (k1_34 : Int))] hag ?_
 refine Go1.seq ?_
 refine Go1.region ?_
 by_cases h50 : (k1_34 : Int) < (a0.length : Int)
 ·replace H := ifp h50 H
  refine GoR.op ((fun w => opB (op_lss rfl rfl w) (decide_eq_true h50)) _) rfl rfl ?_
  refine GoR.nil ?_
  refine Go1.seq ?_
  refine Go1.condT rfl rfl ?_
  refine Go1.skip ?_
  refine Go1.seq ?_
  refine Go1.block ?_
  refine Go1.seq ?_
  refine Go1.region ?_
  refine GoR.op ((op_move rfl) _) rfl rfl ?_
  refine GoR.op ((op_assign rfl) _) rfl rfl ?_
  refine GoR.nil ?_
  refine Go1.seq ?_
  refine Go1.seq ?_
  refine Go1.region ?_
  refine GoR.op ((oblk 2 hO rfl rfl Try.underlying54 rfl rfl) _ (Same.refl _)) rfl rfl ?_
  refine GoR.op ((op_move rfl) _) rfl rfl ?_
  obtain ⟨h51, H⟩ := H
  obtain ⟨h52, H⟩ := H
  refine GoR.op ((op_index Try.underlying54 ti4 rfl rfl h51 (ltn (hE49.neq hO 3 rfl) h52) (hE49.psome hO 3 rfl h51 h52)) _) rfl rfl ?_
  by_cases h53 : ix d_47 (k1_34 : Int) = true
  ·replace H := ifp h53 H
   refine GoR.op (opB ((oldBool 3 hO rfl hE49 h51 h52 Try.underlying4 rfl rfl) _ (Same.refl _)) (h53)) rfl rfl ?_
   refine GoR.nil ?_
   refine Go1.condT rfl rfl ?_
   refine Go1.exit rfl ?_
   refine Go1.region ?_
   refine GoR.op ((op_add rfl rfl (wrap_i64 (natbd h50 h_a0.bd))) _) rfl rfl ?_
   refine GoR.op ((op_move rfl) _) rfl rfl ?_
   refine GoR.nil ?_
   exact hX1 _ H _ _ ⟨n40, p38, c39, vs36, n46, p44, c45, vs42, vs48, ⟨rfl, rfl, rfl, rfl, rfl, rfl, rfl, rfl, trivial⟩, hO, hE37, hE43, hE49, h_a0, hB⟩
  ·replace H := ifn h53 H
   refine GoR.op (opB ((oldBool 3 hO rfl hE49 h51 h52 Try.underlying4 rfl rfl) _ (Same.refl _)) (Bool.eq_false_iff.2 h53)) rfl rfl ?_
   refine GoR.nil ?_
   refine Go1.condF rfl rfl ?_
   refine Go1.skip ?_
   refine Go1.seq ?_
   refine Go1.region ?_
   refine GoR.op ((op_move rfl) _) rfl rfl ?_
   refine GoR.op ((op_move rfl) _) rfl rfl ?_
   have hobt := obuild (r := Rp.int .i64) (n := 1) (parts := [(0, .int .i64 (k1_34 : Int))]) (vs := [.int .i64 (k1_34 : Int)]) (xs := [(k1_34 : Int)]) rfl Try.underlying23 ti3 hO (by decide) (by kernel_rfl) (Els.cons rfl rfl (Els.nil _ _ _) (by simp [mx])) rfl
   obtain ⟨w54, p55, hst56, hE57, hs58, hop59⟩ := hobt
   refine GoR.op (hop59 rfl) rfl rfl ?_
   replace hE37 := hE37.ch hst56.ch
   replace hE43 := hE43.ch hst56.ch
   replace hE49 := hE49.ch hst56.ch
   replace hO := hst56.own
   replace h_a0 := h_a0.ch hst56.ch
   replace hB := hB.trans hst56.fr
   have hobt := freeze 0 hO rfl hE57
   obtain ⟨hO1, hc63, hi61, hn62⟩ := hobt
   replace h_a0 := h_a0.ch hc63
   replace hE37 := hE37.ch hc63
   replace hE43 := hE43.ch hc63
   replace hE49 := hE49.ch hc63
   replace hB := hB.trans (Owns.dropFr _ _ 0)
   replace hO := hO1; clear hO1
   obtain ⟨h64, H⟩ := H
   have hobt := oapp Try.underlying23 ti3 rfl 1 hO rfl hE43 hi61 hn62 h64 (by decide)
   obtain ⟨w65, p66, c67, vs68, hst69, hE70, hop71⟩ := hobt
   refine GoR.op (hop71 rfl rfl) rfl rfl ?_
   replace hE37 := hE37.ch hst69.ch
   replace hE49 := hE49.ch hst69.ch
   replace hO := hst69.own
   replace h_a0 := h_a0.ch hst69.ch
   replace hi61 := hi61.ch hst69.ch
   replace hB := hB.trans hst69.fr
   refine GoR.op ((op_assign rfl) _) rfl rfl ?_
   refine GoR.nil ?_
   refine Go1.seq ?_
   refine Go1.region ?_
   refine GoR.op ((op_move rfl) _) rfl rfl ?_
   refine GoR.op ((op_move rfl) _) rfl rfl ?_
   refine GoR.inl (vs := [.int .i64 (k1_34 : Int)]) (caps := [.pointer (some ⟨B18, 0, none⟩), .pointer (some ⟨B2, 0, none⟩)]) rfl rfl body88 Try.func88 rfl Try.ntmps88 rfl rfl rfl ?_
   intro RhR73 hR73
   refine Go1.seq ?_
   refine Go1.region ?_
   refine GoR.op ((oblk 2 hO rfl rfl Try.underlying54 rfl rfl) _ (Same.refl _)) rfl rfl ?_
   refine GoR.op ((op_move rfl) _) rfl rfl ?_
   obtain ⟨h74, H⟩ := H
   obtain ⟨h75, H⟩ := H
   refine GoR.op ((op_index Try.underlying54 ti4 rfl rfl h74 (ltn (hE49.neq hO 3 rfl) h75) (hE49.psome hO 3 rfl h74 h75)) _) rfl rfl ?_
   refine GoR.op (opB ((oldBool 3 hO rfl hE49 h74 h75 Try.underlying4 rfl rfl) _ (Same.refl _)) (Bool.eq_false_iff.2 h53)) rfl rfl ?_
   refine GoR.op ((op_not rfl) _) rfl rfl ?_
   refine GoR.nil ?_
   refine Go1.condT rfl rfl ?_
   refine Go1.seq ?_
   refine Go1.region ?_
   refine GoR.op ((oblk 2 hO rfl rfl Try.underlying54 rfl rfl) _ (Same.refl _)) rfl rfl ?_
   refine GoR.op ((op_move rfl) _) rfl rfl ?_
   obtain ⟨h76, H⟩ := H
   obtain ⟨h77, H⟩ := H
   refine GoR.op ((op_index Try.underlying54 ti4 rfl rfl h76 (ltn (hE49.neq hO 3 rfl) h77) (hE49.psome hO 3 rfl h76 h77)) _) rfl rfl ?_
   have hobt := ost (r := Rp.bool) rfl 3 hO rfl hE49 h76 h77 (v := .bool true) (u := true) rfl rfl
   obtain ⟨w78, vs79, hst80, hE81, hop82⟩ := hobt
   refine GoR.op (hop82 Try.underlying4 rfl ti4 rfl rfl) rfl rfl ?_
   replace hE37 := hE37.ch hst80.ch
   replace hE70 := hE70.ch hst80.ch
   replace hO := hst80.own
   replace h_a0 := h_a0.ch hst80.ch
   replace hi61 := hi61.ch hst80.ch
   replace hB := hB.trans hst80.fr
   refine GoR.nil ?_
   refine Go1.region ?_
   refine GoR.op ((oblk 4 hO rfl rfl Try.underlying23 rfl rfl) _ (Same.refl _)) rfl rfl ?_
   refine GoR.op ((op_move rfl) _) rfl rfl ?_
   have hobt := obuild (r := Rp.int .i64) (n := 1) (parts := [(0, .int .i64 (k1_34 : Int))]) (vs := [.int .i64 (k1_34 : Int)]) (xs := [(k1_34 : Int)]) rfl Try.underlying23 ti3 hO (by decide) (by kernel_rfl) (Els.cons rfl rfl (Els.nil _ _ _) (by simp [mx])) rfl
   obtain ⟨w83, p84, hst85, hE86, hs87, hop88⟩ := hobt
   refine GoR.op (hop88 rfl) rfl rfl ?_
   replace hE37 := hE37.ch hst85.ch
   replace hE70 := hE70.ch hst85.ch
   replace hE81 := hE81.ch hst85.ch
   replace hO := hst85.own
   replace h_a0 := h_a0.ch hst85.ch
   replace hi61 := hi61.ch hst85.ch
   replace hB := hB.trans hst85.fr
   have hobt := freeze 0 hO rfl hE86
   obtain ⟨hO1, hc92, hi90, hn91⟩ := hobt
   replace h_a0 := h_a0.ch hc92
   replace hi61 := hi61.ch hc92
   replace hE37 := hE37.ch hc92
   replace hE70 := hE70.ch hc92
   replace hE81 := hE81.ch hc92
   replace hB := hB.trans (Owns.dropFr _ _ 0)
   replace hO := hO1; clear hO1
   obtain ⟨h93, H⟩ := H
   have hobt := oapp Try.underlying23 ti3 rfl 0 hO rfl hE37 hi90 hn91 h93 (by decide)
   obtain ⟨w94, p95, c96, vs97, hst98, hE99, hop100⟩ := hobt
   refine GoR.op (hop100 rfl rfl) rfl rfl ?_
   replace hE70 := hE70.ch hst98.ch
   replace hE81 := hE81.ch hst98.ch
   replace hO := hst98.own
   replace h_a0 := h_a0.ch hst98.ch
   replace hi61 := hi61.ch hst98.ch
   replace hi90 := hi90.ch hst98.ch
   replace hB := hB.trans hst98.fr
   have hobt := oblkSt (v := .slice p95 (n40 + 1) c96) (i := 0) 4 hO rfl rfl rfl
   obtain ⟨w102, hst103, hop104⟩ := hobt
   refine GoR.op (hop104 Try.underlying23 rfl ti23 rfl rfl) rfl rfl ?_
   replace hE99 := hE99.ch hst103.ch
   replace hE70 := hE70.ch hst103.ch
   replace hE81 := hE81.ch hst103.ch
   replace hO := hst103.own
   replace h_a0 := h_a0.ch hst103.ch
   replace hi61 := hi61.ch hst103.ch
   replace hi90 := hi90.ch hst103.ch
   replace hB := hB.trans hst103.fr
   refine GoR.nil ?_
   refine Go1.fin0V Try.func88 rfl ?_
   refine hR73 _ _ ?_
   refine GoR.nil ?_
   refine Go1.block ?_
   refine Go1.loopW (S := Nat × List Int × List Bool) (fun s σ w => ∃ (n112 : Nat), ∃ (p110 : Option Addr), ∃ (c111 : Nat), ∃ (vs108 : List Value), ∃ (vs114 : List Value), agrees σ [(0, .slice p_a0 a0.length c_a0), (3, .slice p66 (n46 + 1) c67), (4, .pointer (some ⟨B2, 0, none⟩)), (5, .pointer (some ⟨B18, 0, none⟩)), (6, .func (.func 88) #[] #[.pointer (some ⟨B18, 0, none⟩), .pointer (some ⟨B2, 0, none⟩)]), (7, .int .i64 ((s.1) : Int)), (17, .int .i64 (a0.length : Int)), (18, .int .i64 (k1_34 : Int))] ∧ Owns w0.heap.size w [.row 3 1 p110 n112 c111 vs108, .row 3 1 p66 (n46 + 1) c67 vs68, .blk B18 (.cells #[.slice p8 a0.length a0.length] 54 (0, 0)), .row 4 1 p8 a0.length a0.length vs114, .blk B2 (.cells #[.slice p110 n112 c111] 23 (0, 0))] A ∧ Els (Rp.int .i64) (bl [.row 3 1 p110 n112 c111 vs108, .row 3 1 p66 (n46 + 1) c67 vs68, .blk B18 (.cells #[.slice p8 a0.length a0.length] 54 (0, 0)), .row 4 1 p8 a0.length a0.length vs114, .blk B2 (.cells #[.slice p110 n112 c111] 23 (0, 0))] ++ A) w vs108 (s.2.1) ∧ Els (Rp.int .i64) (bl [.row 3 1 p110 n112 c111 vs108, .row 3 1 p66 (n46 + 1) c67 vs68, .blk B18 (.cells #[.slice p8 a0.length a0.length] 54 (0, 0)), .row 4 1 p8 a0.length a0.length vs114, .blk B2 (.cells #[.slice p110 n112 c111] 23 (0, 0))] ++ A) w vs68 (d_41 ++ ([(k1_34 : Int)])) ∧ Els (Rp.bool) (bl [.row 3 1 p110 n112 c111 vs108, .row 3 1 p66 (n46 + 1) c67 vs68, .blk B18 (.cells #[.slice p8 a0.length a0.length] 54 (0, 0)), .row 4 1 p8 a0.length a0.length vs114, .blk B2 (.cells #[.slice p110 n112 c111] 23 (0, 0))] ++ A) w vs114 (s.2.2) ∧ ISl (Rp.sl (Rp.int .i64)) (bl [.row 3 1 p110 n112 c111 vs108, .row 3 1 p66 (n46 + 1) c67 vs68, .blk B18 (.cells #[.slice p8 a0.length a0.length] 54 (0, 0)), .row 4 1 p8 a0.length a0.length vs114, .blk B2 (.cells #[.slice p110 n112 c111] 23 (0, 0))] ++ A) w p_a0 c_a0 a0 ∧ Fr (bl []) w0 (bl [.row 3 1 p110 n112 c111 vs108, .row 3 1 p66 (n46 + 1) c67 vs68, .blk B18 (.cells #[.slice p8 a0.length a0.length] 54 (0, 0)), .row 4 1 p8 a0.length a0.length vs114, .blk B2 (.cells #[.slice p110 n112 c111] 23 (0, 0))]) w) H ⟨n40 + 1, p95, c96, vs97, vs79, ⟨rfl, rfl, rfl, rfl, rfl, rfl, rfl, rfl, trivial⟩, hO, hE99, hE70, hE81, h_a0, hB⟩ ?_
   rintro X2 ⟨k2_106, d_107, d_113⟩ H hX2 σ w105 ⟨n112, p110, c111, vs108, vs114, hag, hO, hE109, hE70, hE115, h_a0, hB⟩
   dsimp only at H
   refine Go1.keep [(0, .slice p_a0 a0.length c_a0), (3, .slice p66 (n46 + 1) c67), (4, .pointer (some ⟨B2, 0, none⟩)), (5, .pointer (some ⟨B18, 0, none⟩)), (6, .func (.func 88) #[] #[.pointer (some ⟨B18, 0, none⟩), .pointer (some ⟨B2, 0, none⟩)]), (7, .int .i64 (k2_106 : Int)), (17, .int .i64 (a0.length : Int)), (18, .int .i64 (k1_34 : Int))] hag ?_
   refine Go1.seq ?_
   refine Go1.seq ?_
   refine Go1.region ?_
   refine GoR.op ((op_move rfl) _) rfl rfl ?_
   refine GoR.op ((oblk 4 hO rfl rfl Try.underlying23 rfl rfl) _ (Same.refl _)) rfl rfl ?_
   refine GoR.op ((op_lenN Try.underlying23 rfl (hE109.neq hO 0 rfl)) _) rfl rfl ?_
   by_cases h116 : (k2_106 : Int) < (d_107.length : Int)
   ·replace H := ifp h116 H
    refine GoR.op ((fun w => opB (op_lss rfl rfl w) (decide_eq_true h116)) _) rfl rfl ?_
    refine GoR.nil ?_
    refine Go1.condT rfl rfl ?_
    refine Go1.skip ?_
    refine Go1.seq ?_
    refine Go1.block ?_
    refine Go1.seq ?_
    refine Go1.region ?_
    refine GoR.op ((oblk 4 hO rfl rfl Try.underlying23 rfl rfl) _ (Same.refl _)) rfl rfl ?_
    refine GoR.op ((op_move rfl) _) rfl rfl ?_
    obtain ⟨h117, H⟩ := H
    obtain ⟨h118, H⟩ := H
    refine GoR.op ((op_index Try.underlying23 ti3 rfl rfl h117 (ltn (hE109.neq hO 0 rfl) h118) (hE109.psome hO 0 rfl h117 h118)) _) rfl rfl ?_
    refine GoR.op ((oldInt 0 hO rfl hE109 h117 h118 Try.underlying3 rfl rfl) _ (Same.refl _)) rfl rfl ?_
    refine GoR.op ((op_assign rfl) _) rfl rfl ?_
    refine GoR.nil ?_
    refine Go1.seq ?_
    refine Go1.region ?_
    refine GoR.op ((oblk 4 hO rfl rfl Try.underlying23 rfl rfl) _ (Same.refl _)) rfl rfl ?_
    refine GoR.op ((op_move rfl) _) rfl rfl ?_
    refine GoR.op ((op_add rfl rfl (wrap_i64 (natbd h116 hE109.bd))) _) rfl rfl ?_
    obtain ⟨h119, H⟩ := H
    obtain ⟨h120, H⟩ := H
    have hal121 := AL.start 0 hO rfl hE109 ((k2_106 + 1 : Int)).toNat
    refine GoR.op ((op_sliceTo Try.underlying23 ti3 rfl rfl h119 (Els.lec 0 hO rfl hE109 h120)) _) rfl rfl ?_
    refine GoR.op ((op_lenN Try.underlying23 rfl (takeLen h119 h120)) _) rfl rfl ?_
    refine GoR.op ((op_move rfl) _) rfl rfl ?_
    refine GoR.nil ?_
    refine Go1.block ?_
    refine Go1.loopW (S := Nat × List Int × List Bool) (fun s σ w => ∃ (n129 : Nat), ∃ (p127 : Option Addr), ∃ (c128 : Nat), ∃ (vs125 : List Value), ∃ (vs131 : List Value), agrees σ [(0, .slice p_a0 a0.length c_a0), (3, .slice p66 (n46 + 1) c67), (4, .pointer (some ⟨B2, 0, none⟩)), (5, .pointer (some ⟨B18, 0, none⟩)), (6, .func (.func 88) #[] #[.pointer (some ⟨B18, 0, none⟩), .pointer (some ⟨B2, 0, none⟩)]), (7, .int .i64 (k2_106 : Int)), (9, .int .i64 (ix d_107 (k2_106 : Int))), (17, .int .i64 (a0.length : Int)), (18, .int .i64 (k1_34 : Int)), (45, .slice p110 (((k2_106 + 1 : Int)).toNat) c111), (46, .int .i64 ((d_107.take ((k2_106 + 1 : Int)).toNat).length : Int)), (47, .int .i64 ((s.1) : Int))] ∧ Owns w0.heap.size w [.row 3 1 p127 n129 c128 vs125, .row 3 1 p66 (n46 + 1) c67 vs68, .blk B18 (.cells #[.slice p8 a0.length a0.length] 54 (0, 0)), .row 4 1 p8 a0.length a0.length vs131, .blk B2 (.cells #[.slice p127 n129 c128] 23 (0, 0))] A ∧ Els (Rp.int .i64) (bl [.row 3 1 p127 n129 c128 vs125, .row 3 1 p66 (n46 + 1) c67 vs68, .blk B18 (.cells #[.slice p8 a0.length a0.length] 54 (0, 0)), .row 4 1 p8 a0.length a0.length vs131, .blk B2 (.cells #[.slice p127 n129 c128] 23 (0, 0))] ++ A) w vs125 (s.2.1) ∧ Els (Rp.int .i64) (bl [.row 3 1 p127 n129 c128 vs125, .row 3 1 p66 (n46 + 1) c67 vs68, .blk B18 (.cells #[.slice p8 a0.length a0.length] 54 (0, 0)), .row 4 1 p8 a0.length a0.length vs131, .blk B2 (.cells #[.slice p127 n129 c128] 23 (0, 0))] ++ A) w vs68 (d_41 ++ ([(k1_34 : Int)])) ∧ Els (Rp.bool) (bl [.row 3 1 p127 n129 c128 vs125, .row 3 1 p66 (n46 + 1) c67 vs68, .blk B18 (.cells #[.slice p8 a0.length a0.length] 54 (0, 0)), .row 4 1 p8 a0.length a0.length vs131, .blk B2 (.cells #[.slice p127 n129 c128] 23 (0, 0))] ++ A) w vs131 (s.2.2) ∧ AL (Rp.int .i64) (bl [.row 3 1 p127 n129 c128 vs125, .row 3 1 p66 (n46 + 1) c67 vs68, .blk B18 (.cells #[.slice p8 a0.length a0.length] 54 (0, 0)), .row 4 1 p8 a0.length a0.length vs131, .blk B2 (.cells #[.slice p127 n129 c128] 23 (0, 0))] ++ A) w p127 (s.2.1) p110 c111 (d_107.take ((k2_106 + 1 : Int)).toNat) ∧ ISl (Rp.sl (Rp.int .i64)) (bl [.row 3 1 p127 n129 c128 vs125, .row 3 1 p66 (n46 + 1) c67 vs68, .blk B18 (.cells #[.slice p8 a0.length a0.length] 54 (0, 0)), .row 4 1 p8 a0.length a0.length vs131, .blk B2 (.cells #[.slice p127 n129 c128] 23 (0, 0))] ++ A) w p_a0 c_a0 a0 ∧ Fr (bl []) w0 (bl [.row 3 1 p127 n129 c128 vs125, .row 3 1 p66 (n46 + 1) c67 vs68, .blk B18 (.cells #[.slice p8 a0.length a0.length] 54 (0, 0)), .row 4 1 p8 a0.length a0.length vs131, .blk B2 (.cells #[.slice p127 n129 c128] 23 (0, 0))]) w) H ⟨n112, p110, c111, vs108, vs114, ⟨rfl, rfl, rfl, rfl, rfl, rfl, rfl, rfl, rfl, rfl, rfl, rfl, trivial⟩, hO, hE109, hE70, hE115, hal121, h_a0, hB⟩ ?_
    rintro X3 ⟨k3_123, d_124, d_130⟩ H hX3 σ w122 ⟨n129, p127, c128, vs125, vs131, hag, hO, hE126, hE70, hE132, hal121, h_a0, hB⟩
    dsimp only at H
    refine Go1.keep [(0, .slice p_a0 a0.length c_a0), (3, .slice p66 (n46 + 1) c67), (4, .pointer (some ⟨B2, 0, none⟩)), (5, .pointer (some ⟨B18, 0, none⟩)), (6, .func (.func 88) #[] #[.pointer (some ⟨B18, 0, none⟩), .pointer (some ⟨B2, 0, none⟩)]), (7, .int .i64 (k2_106 : Int)), (9, .int .i64 (ix d_107 (k2_106 : Int))), (17, .int .i64 (a0.length : Int)), (18, .int .i64 (k1_34 : Int)), (45, .slice p110 (((k2_106 + 1 : Int)).toNat) c111), (46, .int .i64 ((d_107.take ((k2_106 + 1 : Int)).toNat).length : Int)), (47, .int .i64 (k3_123 : Int))] hag ?_
    refine Go1.seq ?_
    refine Go1.region ?_
    by_cases h133 : (k3_123 : Int) < ((d_107.take ((k2_106 + 1 : Int)).toNat).length : Int)
    ·replace H := ifp h133 H
     refine GoR.op ((fun w => opB (op_lss rfl rfl w) (decide_eq_true h133)) _) rfl rfl ?_
     refine GoR.nil ?_
     refine Go1.seq ?_
     refine Go1.condT rfl rfl ?_
     refine Go1.skip ?_
     refine Go1.seq ?_
     refine Go1.block ?_
     refine Go1.seq ?_
     refine Go1.region ?_
     obtain ⟨h134, H⟩ := H
     obtain ⟨h135, H⟩ := H
     refine GoR.op ((op_index Try.underlying23 ti3 rfl rfl h134 (ltn (takeLen h119 h120) h135) (hal121.some_ h134 h135)) _) rfl rfl ?_
     refine GoR.op ((AL.int 0 hO rfl hE126 hal121 h134 h135 Try.underlying3 rfl rfl) _ (Same.refl _)) rfl rfl ?_
     refine GoR.op ((op_assign rfl) _) rfl rfl ?_
     refine GoR.nil ?_
     refine Go1.seq ?_
     refine Go1.region ?_
     refine GoR.op ((op_move rfl) _) rfl rfl ?_
     refine GoR.op ((op_move rfl) _) rfl rfl ?_
     refine GoR.op ((op_move rfl) _) rfl rfl ?_
     obtain ⟨h136, H⟩ := H
     obtain ⟨h137, H⟩ := H
     refine GoR.op ((op_index Try.underlying22 ti23 rfl rfl h136 h137 (h_a0.some_ h136 h137)) _) rfl rfl ?_
     have hobt := ldSl h_a0 h136 h137
     obtain ⟨p138, c139, hi140, hl141⟩ := hobt
     refine GoR.op ((hl141 Try.underlying23 rfl rfl) _ (Same.refl _)) rfl rfl ?_
     refine GoR.op ((op_move rfl) _) rfl rfl ?_
     obtain ⟨h142, H⟩ := H
     obtain ⟨h143, H⟩ := H
     refine GoR.op ((op_index Try.underlying23 ti3 rfl rfl h142 h143 (hi140.some_ h142 h143)) _) rfl rfl ?_
     refine GoR.op ((ldInt hi140 h142 h143 Try.underlying3 rfl rfl) _ (Same.refl _)) rfl rfl ?_
     refine GoR.inl (vs := [.int .i64 (ix (ix a0 (ix d_107 (k2_106 : Int))) (ix (d_107.take ((k2_106 + 1 : Int)).toNat) (k3_123 : Int)))]) (caps := [.pointer (some ⟨B18, 0, none⟩), .pointer (some ⟨B2, 0, none⟩)]) rfl rfl body88 Try.func88 rfl Try.ntmps88 rfl rfl rfl ?_
     intro RhR144 hR144
     refine Go1.seq ?_
     refine Go1.region ?_
     refine GoR.op ((oblk 2 hO rfl rfl Try.underlying54 rfl rfl) _ (Same.refl _)) rfl rfl ?_
     refine GoR.op ((op_move rfl) _) rfl rfl ?_
     obtain ⟨h145, H⟩ := H
     obtain ⟨h146, H⟩ := H
     refine GoR.op ((op_index Try.underlying54 ti4 rfl rfl h145 (ltn (hE132.neq hO 3 rfl) h146) (hE132.psome hO 3 rfl h145 h146)) _) rfl rfl ?_
     by_cases h147 : ix d_130 (ix (ix a0 (ix d_107 (k2_106 : Int))) (ix (d_107.take ((k2_106 + 1 : Int)).toNat) (k3_123 : Int))) = true
     ·replace H := ifp h147 H
      refine GoR.op (opB ((oldBool 3 hO rfl hE132 h145 h146 Try.underlying4 rfl rfl) _ (Same.refl _)) (h147)) rfl rfl ?_
      refine GoR.op ((op_not rfl) _) rfl rfl ?_
      refine GoR.nil ?_
      refine Go1.condF rfl rfl ?_
      refine Go1.skip ?_
      refine Go1.fin0V Try.func88 rfl ?_
      refine hR144 _ _ ?_
      refine GoR.nil ?_
      refine Go1.region ?_
      refine GoR.op ((op_move rfl) _) rfl rfl ?_
      refine GoR.op ((op_move rfl) _) rfl rfl ?_
      refine GoR.op ((op_move rfl) _) rfl rfl ?_
      obtain ⟨h148, H⟩ := H
      obtain ⟨h149, H⟩ := H
      refine GoR.op ((op_index Try.underlying22 ti23 rfl rfl h148 h149 (h_a0.some_ h148 h149)) _) rfl rfl ?_
      have hobt := ldSl h_a0 h148 h149
      obtain ⟨p150, c151, hi152, hl153⟩ := hobt
      refine GoR.op ((hl153 Try.underlying23 rfl rfl) _ (Same.refl _)) rfl rfl ?_
      refine GoR.op ((op_move rfl) _) rfl rfl ?_
      obtain ⟨h154, H⟩ := H
      obtain ⟨h155, H⟩ := H
      refine GoR.op ((op_index Try.underlying23 ti3 rfl rfl h154 h155 (hi152.some_ h154 h155)) _) rfl rfl ?_
      refine GoR.op ((ldInt hi152 h154 h155 Try.underlying3 rfl rfl) _ (Same.refl _)) rfl rfl ?_
      refine GoR.inl (vs := [.int .i64 (ix (ix a0 (ix (d_107.take ((k2_106 + 1 : Int)).toNat) (k3_123 : Int))) (ix d_107 (k2_106 : Int)))]) (caps := [.pointer (some ⟨B18, 0, none⟩), .pointer (some ⟨B2, 0, none⟩)]) rfl rfl body88 Try.func88 rfl Try.ntmps88 rfl rfl rfl ?_
      intro RhR156 hR156
      refine Go1.seq ?_
      refine Go1.region ?_
      refine GoR.op ((oblk 2 hO rfl rfl Try.underlying54 rfl rfl) _ (Same.refl _)) rfl rfl ?_
      refine GoR.op ((op_move rfl) _) rfl rfl ?_
      obtain ⟨h157, H⟩ := H
      obtain ⟨h158, H⟩ := H
      refine GoR.op ((op_index Try.underlying54 ti4 rfl rfl h157 (ltn (hE132.neq hO 3 rfl) h158) (hE132.psome hO 3 rfl h157 h158)) _) rfl rfl ?_
      by_cases h159 : ix d_130 (ix (ix a0 (ix (d_107.take ((k2_106 + 1 : Int)).toNat) (k3_123 : Int))) (ix d_107 (k2_106 : Int))) = true
      ·replace H := ifp h159 H
       refine GoR.op (opB ((oldBool 3 hO rfl hE132 h157 h158 Try.underlying4 rfl rfl) _ (Same.refl _)) (h159)) rfl rfl ?_
       refine GoR.op ((op_not rfl) _) rfl rfl ?_
       refine GoR.nil ?_
       refine Go1.condF rfl rfl ?_
       refine Go1.skip ?_
       refine Go1.fin0V Try.func88 rfl ?_
       refine hR156 _ _ ?_
       refine GoR.nil ?_
       refine Go1.inBlock ?_
       refine Go1.region ?_
       obtain ⟨h160, H⟩ := H
       refine GoR.op ((op_add rfl rfl (wrap_i64 h160)) _) rfl rfl ?_
       refine GoR.op ((op_move rfl) _) rfl rfl ?_
       refine GoR.nil ?_
       exact hX3 _ H _ _ ⟨n129, p127, c128, vs125, vs131, ⟨rfl, rfl, rfl, rfl, rfl, rfl, rfl, rfl, rfl, rfl, rfl, rfl, trivial⟩, hO, hE126, hE70, hE132, hal121, h_a0, hB⟩
      ·replace H := ifn h159 H
       refine GoR.op (opB ((oldBool 3 hO rfl hE132 h157 h158 Try.underlying4 rfl rfl) _ (Same.refl _)) (Bool.eq_false_iff.2 h159)) rfl rfl ?_
       refine GoR.op ((op_not rfl) _) rfl rfl ?_
       refine GoR.nil ?_
       refine Go1.condT rfl rfl ?_
       refine Go1.seq ?_
       refine Go1.region ?_
       refine GoR.op ((oblk 2 hO rfl rfl Try.underlying54 rfl rfl) _ (Same.refl _)) rfl rfl ?_
       refine GoR.op ((op_move rfl) _) rfl rfl ?_
       obtain ⟨h161, H⟩ := H
       obtain ⟨h162, H⟩ := H
       refine GoR.op ((op_index Try.underlying54 ti4 rfl rfl h161 (ltn (hE132.neq hO 3 rfl) h162) (hE132.psome hO 3 rfl h161 h162)) _) rfl rfl ?_
       have hobt := ost (r := Rp.bool) rfl 3 hO rfl hE132 h161 h162 (v := .bool true) (u := true) rfl rfl
       obtain ⟨w163, vs164, hst165, hE166, hop167⟩ := hobt
       refine GoR.op (hop167 Try.underlying4 rfl ti4 rfl rfl) rfl rfl ?_
       replace hE126 := hE126.ch hst165.ch
       replace hE70 := hE70.ch hst165.ch
       replace hal121 := hal121.ch hst165.ch
       replace hO := hst165.own
       replace h_a0 := h_a0.ch hst165.ch
       replace hi140 := hi140.ch hst165.ch
       replace hi152 := hi152.ch hst165.ch
       replace hB := hB.trans hst165.fr
       refine GoR.nil ?_
       refine Go1.region ?_
       refine GoR.op ((oblk 4 hO rfl rfl Try.underlying23 rfl rfl) _ (Same.refl _)) rfl rfl ?_
       refine GoR.op ((op_move rfl) _) rfl rfl ?_
       have hobt := obuild (r := Rp.int .i64) (n := 1) (parts := [(0, .int .i64 (ix (ix a0 (ix (d_107.take ((k2_106 + 1 : Int)).toNat) (k3_123 : Int))) (ix d_107 (k2_106 : Int))))]) (vs := [.int .i64 (ix (ix a0 (ix (d_107.take ((k2_106 + 1 : Int)).toNat) (k3_123 : Int))) (ix d_107 (k2_106 : Int)))]) (xs := [(ix (ix a0 (ix (d_107.take ((k2_106 + 1 : Int)).toNat) (k3_123 : Int))) (ix d_107 (k2_106 : Int)))]) rfl Try.underlying23 ti3 hO (by decide) (by kernel_rfl) (Els.cons rfl rfl (Els.nil _ _ _) (by simp [mx])) rfl
       obtain ⟨w168, p169, hst170, hE171, hs172, hop173⟩ := hobt
       refine GoR.op (hop173 rfl) rfl rfl ?_
       replace hE126 := hE126.ch hst170.ch
       replace hE70 := hE70.ch hst170.ch
       replace hE166 := hE166.ch hst170.ch
       replace hal121 := hal121.ch hst170.ch
       replace hO := hst170.own
       replace h_a0 := h_a0.ch hst170.ch
       replace hi140 := hi140.ch hst170.ch
       replace hi152 := hi152.ch hst170.ch
       replace hB := hB.trans hst170.fr
       have hobt := freeze 0 hO rfl hE171
       obtain ⟨hO1, hc177, hi175, hn176⟩ := hobt
       replace h_a0 := h_a0.ch hc177
       replace hi140 := hi140.ch hc177
       replace hi152 := hi152.ch hc177
       replace hE126 := hE126.ch hc177
       replace hE70 := hE70.ch hc177
       replace hE166 := hE166.ch hc177
       replace hal121 := hal121.ch hc177
       replace hB := hB.trans (Owns.dropFr _ _ 0)
       replace hO := hO1; clear hO1
       obtain ⟨h178, H⟩ := H
       have hobt := oapp2 Try.underlying23 ti3 rfl 0 hO rfl hE126 hi175 hn176 h178 (by decide)
       obtain ⟨w179, p180, c181, vs182, hst183, hE184, hold186, hop185⟩ := hobt
       refine GoR.op (hop185 rfl rfl) rfl rfl ?_
       replace hE70 := hE70.ch hst183.ch
       replace hE166 := hE166.ch hst183.ch
       replace hal121 := hal121.app (us := [(ix (ix a0 (ix (d_107.take ((k2_106 + 1 : Int)).toNat) (k3_123 : Int))) (ix d_107 (k2_106 : Int)))]) hst183.ch hold186
       replace hO := hst183.own
       replace h_a0 := h_a0.ch hst183.ch
       replace hi140 := hi140.ch hst183.ch
       replace hi152 := hi152.ch hst183.ch
       replace hi175 := hi175.ch hst183.ch
       replace hB := hB.trans hst183.fr
       have hobt := oblkSt (v := .slice p180 (n129 + 1) c181) (i := 0) 4 hO rfl rfl rfl
       obtain ⟨w187, hst188, hop189⟩ := hobt
       refine GoR.op (hop189 Try.underlying23 rfl ti23 rfl rfl) rfl rfl ?_
       replace hE184 := hE184.ch hst188.ch
       replace hE70 := hE70.ch hst188.ch
       replace hE166 := hE166.ch hst188.ch
       replace hal121 := hal121.ch hst188.ch
       replace hO := hst188.own
       replace h_a0 := h_a0.ch hst188.ch
       replace hi140 := hi140.ch hst188.ch
       replace hi152 := hi152.ch hst188.ch
       replace hi175 := hi175.ch hst188.ch
       replace hB := hB.trans hst188.fr
       refine GoR.nil ?_
       refine Go1.fin0V Try.func88 rfl ?_
       refine hR156 _ _ ?_
       refine GoR.nil ?_
       refine Go1.inBlock ?_
       refine Go1.region ?_
       obtain ⟨h190, H⟩ := H
       refine GoR.op ((op_add rfl rfl (wrap_i64 h190)) _) rfl rfl ?_
       refine GoR.op ((op_move rfl) _) rfl rfl ?_
       refine GoR.nil ?_
       exact hX3 _ H _ _ ⟨n129 + 1, p180, c181, vs182, vs164, ⟨rfl, rfl, rfl, rfl, rfl, rfl, rfl, rfl, rfl, rfl, rfl, rfl, trivial⟩, hO, hE184, hE70, hE166, hal121, h_a0, hB⟩
     ·replace H := ifn h147 H
      refine GoR.op (opB ((oldBool 3 hO rfl hE132 h145 h146 Try.underlying4 rfl rfl) _ (Same.refl _)) (Bool.eq_false_iff.2 h147)) rfl rfl ?_
      refine GoR.op ((op_not rfl) _) rfl rfl ?_
      refine GoR.nil ?_
      refine Go1.condT rfl rfl ?_
      refine Go1.seq ?_
      refine Go1.region ?_
      refine GoR.op ((oblk 2 hO rfl rfl Try.underlying54 rfl rfl) _ (Same.refl _)) rfl rfl ?_
      refine GoR.op ((op_move rfl) _) rfl rfl ?_
      obtain ⟨h191, H⟩ := H
      obtain ⟨h192, H⟩ := H
      refine GoR.op ((op_index Try.underlying54 ti4 rfl rfl h191 (ltn (hE132.neq hO 3 rfl) h192) (hE132.psome hO 3 rfl h191 h192)) _) rfl rfl ?_
      have hobt := ost (r := Rp.bool) rfl 3 hO rfl hE132 h191 h192 (v := .bool true) (u := true) rfl rfl
      obtain ⟨w193, vs194, hst195, hE196, hop197⟩ := hobt
      refine GoR.op (hop197 Try.underlying4 rfl ti4 rfl rfl) rfl rfl ?_
      replace hE126 := hE126.ch hst195.ch
      replace hE70 := hE70.ch hst195.ch
      replace hal121 := hal121.ch hst195.ch
      replace hO := hst195.own
      replace h_a0 := h_a0.ch hst195.ch
      replace hi140 := hi140.ch hst195.ch
      replace hB := hB.trans hst195.fr
      refine GoR.nil ?_
      refine Go1.region ?_
      refine GoR.op ((oblk 4 hO rfl rfl Try.underlying23 rfl rfl) _ (Same.refl _)) rfl rfl ?_
      refine GoR.op ((op_move rfl) _) rfl rfl ?_
      have hobt := obuild (r := Rp.int .i64) (n := 1) (parts := [(0, .int .i64 (ix (ix a0 (ix d_107 (k2_106 : Int))) (ix (d_107.take ((k2_106 + 1 : Int)).toNat) (k3_123 : Int))))]) (vs := [.int .i64 (ix (ix a0 (ix d_107 (k2_106 : Int))) (ix (d_107.take ((k2_106 + 1 : Int)).toNat) (k3_123 : Int)))]) (xs := [(ix (ix a0 (ix d_107 (k2_106 : Int))) (ix (d_107.take ((k2_106 + 1 : Int)).toNat) (k3_123 : Int)))]) rfl Try.underlying23 ti3 hO (by decide) (by kernel_rfl) (Els.cons rfl rfl (Els.nil _ _ _) (by simp [mx])) rfl
      obtain ⟨w198, p199, hst200, hE201, hs202, hop203⟩ := hobt
      refine GoR.op (hop203 rfl) rfl rfl ?_
      replace hE126 := hE126.ch hst200.ch
      replace hE70 := hE70.ch hst200.ch
      replace hE196 := hE196.ch hst200.ch
      replace hal121 := hal121.ch hst200.ch
      replace hO := hst200.own
      replace h_a0 := h_a0.ch hst200.ch
      replace hi140 := hi140.ch hst200.ch
      replace hB := hB.trans hst200.fr
      have hobt := freeze 0 hO rfl hE201
      obtain ⟨hO1, hc207, hi205, hn206⟩ := hobt
      replace h_a0 := h_a0.ch hc207
      replace hi140 := hi140.ch hc207
      replace hE126 := hE126.ch hc207
      replace hE70 := hE70.ch hc207
      replace hE196 := hE196.ch hc207
      replace hal121 := hal121.ch hc207
      replace hB := hB.trans (Owns.dropFr _ _ 0)
      replace hO := hO1; clear hO1
      obtain ⟨h208, H⟩ := H
      have hobt := oapp2 Try.underlying23 ti3 rfl 0 hO rfl hE126 hi205 hn206 h208 (by decide)
      obtain ⟨w209, p210, c211, vs212, hst213, hE214, hold216, hop215⟩ := hobt
      refine GoR.op (hop215 rfl rfl) rfl rfl ?_
      replace hE70 := hE70.ch hst213.ch
      replace hE196 := hE196.ch hst213.ch
      replace hal121 := hal121.app (us := [(ix (ix a0 (ix d_107 (k2_106 : Int))) (ix (d_107.take ((k2_106 + 1 : Int)).toNat) (k3_123 : Int)))]) hst213.ch hold216
      replace hO := hst213.own
      replace h_a0 := h_a0.ch hst213.ch
      replace hi140 := hi140.ch hst213.ch
      replace hi205 := hi205.ch hst213.ch
      replace hB := hB.trans hst213.fr
      have hobt := oblkSt (v := .slice p210 (n129 + 1) c211) (i := 0) 4 hO rfl rfl rfl
      obtain ⟨w217, hst218, hop219⟩ := hobt
      refine GoR.op (hop219 Try.underlying23 rfl ti23 rfl rfl) rfl rfl ?_
      replace hE214 := hE214.ch hst218.ch
      replace hE70 := hE70.ch hst218.ch
      replace hE196 := hE196.ch hst218.ch
      replace hal121 := hal121.ch hst218.ch
      replace hO := hst218.own
      replace h_a0 := h_a0.ch hst218.ch
      replace hi140 := hi140.ch hst218.ch
      replace hi205 := hi205.ch hst218.ch
      replace hB := hB.trans hst218.fr
      refine GoR.nil ?_
      refine Go1.fin0V Try.func88 rfl ?_
      refine hR144 _ _ ?_
      refine GoR.nil ?_
      refine Go1.region ?_
      refine GoR.op ((op_move rfl) _) rfl rfl ?_
      refine GoR.op ((op_move rfl) _) rfl rfl ?_
      refine GoR.op ((op_move rfl) _) rfl rfl ?_
      obtain ⟨h220, H⟩ := H
      obtain ⟨h221, H⟩ := H
      refine GoR.op ((op_index Try.underlying22 ti23 rfl rfl h220 h221 (h_a0.some_ h220 h221)) _) rfl rfl ?_
      have hobt := ldSl h_a0 h220 h221
      obtain ⟨p222, c223, hi224, hl225⟩ := hobt
      refine GoR.op ((hl225 Try.underlying23 rfl rfl) _ (Same.refl _)) rfl rfl ?_
      refine GoR.op ((op_move rfl) _) rfl rfl ?_
      obtain ⟨h226, H⟩ := H
      obtain ⟨h227, H⟩ := H
      refine GoR.op ((op_index Try.underlying23 ti3 rfl rfl h226 h227 (hi224.some_ h226 h227)) _) rfl rfl ?_
      refine GoR.op ((ldInt hi224 h226 h227 Try.underlying3 rfl rfl) _ (Same.refl _)) rfl rfl ?_
      refine GoR.inl (vs := [.int .i64 (ix (ix a0 (ix (d_107.take ((k2_106 + 1 : Int)).toNat) (k3_123 : Int))) (ix d_107 (k2_106 : Int)))]) (caps := [.pointer (some ⟨B18, 0, none⟩), .pointer (some ⟨B2, 0, none⟩)]) rfl rfl body88 Try.func88 rfl Try.ntmps88 rfl rfl rfl ?_
      intro RhR228 hR228
      refine Go1.seq ?_
      refine Go1.region ?_
      refine GoR.op ((oblk 2 hO rfl rfl Try.underlying54 rfl rfl) _ (Same.refl _)) rfl rfl ?_
      refine GoR.op ((op_move rfl) _) rfl rfl ?_
      obtain ⟨h229, H⟩ := H
      obtain ⟨h230, H⟩ := H
      refine GoR.op ((op_index Try.underlying54 ti4 rfl rfl h229 (ltn (hE196.neq hO 3 rfl) h230) (hE196.psome hO 3 rfl h229 h230)) _) rfl rfl ?_
      by_cases h231 : ix (st d_130 (ix (ix a0 (ix d_107 (k2_106 : Int))) (ix (d_107.take ((k2_106 + 1 : Int)).toNat) (k3_123 : Int))) true) (ix (ix a0 (ix (d_107.take ((k2_106 + 1 : Int)).toNat) (k3_123 : Int))) (ix d_107 (k2_106 : Int))) = true
      ·replace H := ifp h231 H
       refine GoR.op (opB ((oldBool 3 hO rfl hE196 h229 h230 Try.underlying4 rfl rfl) _ (Same.refl _)) (h231)) rfl rfl ?_
       refine GoR.op ((op_not rfl) _) rfl rfl ?_
       refine GoR.nil ?_
       refine Go1.condF rfl rfl ?_
       refine Go1.skip ?_
       refine Go1.fin0V Try.func88 rfl ?_
       refine hR228 _ _ ?_
       refine GoR.nil ?_
       refine Go1.inBlock ?_
       refine Go1.region ?_
       obtain ⟨h232, H⟩ := H
       refine GoR.op ((op_add rfl rfl (wrap_i64 h232)) _) rfl rfl ?_
       refine GoR.op ((op_move rfl) _) rfl rfl ?_
       refine GoR.nil ?_
       exact hX3 _ H _ _ ⟨n129 + 1, p210, c211, vs212, vs194, ⟨rfl, rfl, rfl, rfl, rfl, rfl, rfl, rfl, rfl, rfl, rfl, rfl, trivial⟩, hO, hE214, hE70, hE196, hal121, h_a0, hB⟩
      ·replace H := ifn h231 H
       refine GoR.op (opB ((oldBool 3 hO rfl hE196 h229 h230 Try.underlying4 rfl rfl) _ (Same.refl _)) (Bool.eq_false_iff.2 h231)) rfl rfl ?_
       refine GoR.op ((op_not rfl) _) rfl rfl ?_
       refine GoR.nil ?_
       refine Go1.condT rfl rfl ?_
       refine Go1.seq ?_
       refine Go1.region ?_
       refine GoR.op ((oblk 2 hO rfl rfl Try.underlying54 rfl rfl) _ (Same.refl _)) rfl rfl ?_
       refine GoR.op ((op_move rfl) _) rfl rfl ?_
       obtain ⟨h233, H⟩ := H
       obtain ⟨h234, H⟩ := H
       refine GoR.op ((op_index Try.underlying54 ti4 rfl rfl h233 (ltn (hE196.neq hO 3 rfl) h234) (hE196.psome hO 3 rfl h233 h234)) _) rfl rfl ?_
       have hobt := ost (r := Rp.bool) rfl 3 hO rfl hE196 h233 h234 (v := .bool true) (u := true) rfl rfl
       obtain ⟨w235, vs236, hst237, hE238, hop239⟩ := hobt
       refine GoR.op (hop239 Try.underlying4 rfl ti4 rfl rfl) rfl rfl ?_
       replace hE214 := hE214.ch hst237.ch
       replace hE70 := hE70.ch hst237.ch
       replace hal121 := hal121.ch hst237.ch
       replace hO := hst237.own
       replace h_a0 := h_a0.ch hst237.ch
       replace hi140 := hi140.ch hst237.ch
       replace hi205 := hi205.ch hst237.ch
       replace hi224 := hi224.ch hst237.ch
       replace hB := hB.trans hst237.fr
       refine GoR.nil ?_
       refine Go1.region ?_
       refine GoR.op ((oblk 4 hO rfl rfl Try.underlying23 rfl rfl) _ (Same.refl _)) rfl rfl ?_
       refine GoR.op ((op_move rfl) _) rfl rfl ?_
       have hobt := obuild (r := Rp.int .i64) (n := 1) (parts := [(0, .int .i64 (ix (ix a0 (ix (d_107.take ((k2_106 + 1 : Int)).toNat) (k3_123 : Int))) (ix d_107 (k2_106 : Int))))]) (vs := [.int .i64 (ix (ix a0 (ix (d_107.take ((k2_106 + 1 : Int)).toNat) (k3_123 : Int))) (ix d_107 (k2_106 : Int)))]) (xs := [(ix (ix a0 (ix (d_107.take ((k2_106 + 1 : Int)).toNat) (k3_123 : Int))) (ix d_107 (k2_106 : Int)))]) rfl Try.underlying23 ti3 hO (by decide) (by kernel_rfl) (Els.cons rfl rfl (Els.nil _ _ _) (by simp [mx])) rfl
       obtain ⟨w240, p241, hst242, hE243, hs244, hop245⟩ := hobt
       refine GoR.op (hop245 rfl) rfl rfl ?_
       replace hE214 := hE214.ch hst242.ch
       replace hE70 := hE70.ch hst242.ch
       replace hE238 := hE238.ch hst242.ch
       replace hal121 := hal121.ch hst242.ch
       replace hO := hst242.own
       replace h_a0 := h_a0.ch hst242.ch
       replace hi140 := hi140.ch hst242.ch
       replace hi205 := hi205.ch hst242.ch
       replace hi224 := hi224.ch hst242.ch
       replace hB := hB.trans hst242.fr
       have hobt := freeze 0 hO rfl hE243
       obtain ⟨hO1, hc249, hi247, hn248⟩ := hobt
       replace h_a0 := h_a0.ch hc249
       replace hi140 := hi140.ch hc249
       replace hi205 := hi205.ch hc249
       replace hi224 := hi224.ch hc249
       replace hE214 := hE214.ch hc249
       replace hE70 := hE70.ch hc249
       replace hE238 := hE238.ch hc249
       replace hal121 := hal121.ch hc249
       replace hB := hB.trans (Owns.dropFr _ _ 0)
       replace hO := hO1; clear hO1
       obtain ⟨h250, H⟩ := H
       have hobt := oapp2 Try.underlying23 ti3 rfl 0 hO rfl hE214 hi247 hn248 h250 (by decide)
       obtain ⟨w251, p252, c253, vs254, hst255, hE256, hold258, hop257⟩ := hobt
       refine GoR.op (hop257 rfl rfl) rfl rfl ?_
       replace hE70 := hE70.ch hst255.ch
       replace hE238 := hE238.ch hst255.ch
       replace hal121 := hal121.app (us := [(ix (ix a0 (ix (d_107.take ((k2_106 + 1 : Int)).toNat) (k3_123 : Int))) (ix d_107 (k2_106 : Int)))]) hst255.ch hold258
       replace hO := hst255.own
       replace h_a0 := h_a0.ch hst255.ch
       replace hi140 := hi140.ch hst255.ch
       replace hi205 := hi205.ch hst255.ch
       replace hi224 := hi224.ch hst255.ch
       replace hi247 := hi247.ch hst255.ch
       replace hB := hB.trans hst255.fr
       have hobt := oblkSt (v := .slice p252 ((n129 + 1) + 1) c253) (i := 0) 4 hO rfl rfl rfl
       obtain ⟨w259, hst260, hop261⟩ := hobt
       refine GoR.op (hop261 Try.underlying23 rfl ti23 rfl rfl) rfl rfl ?_
       replace hE256 := hE256.ch hst260.ch
       replace hE70 := hE70.ch hst260.ch
       replace hE238 := hE238.ch hst260.ch
       replace hal121 := hal121.ch hst260.ch
       replace hO := hst260.own
       replace h_a0 := h_a0.ch hst260.ch
       replace hi140 := hi140.ch hst260.ch
       replace hi205 := hi205.ch hst260.ch
       replace hi224 := hi224.ch hst260.ch
       replace hi247 := hi247.ch hst260.ch
       replace hB := hB.trans hst260.fr
       refine GoR.nil ?_
       refine Go1.fin0V Try.func88 rfl ?_
       refine hR228 _ _ ?_
       refine GoR.nil ?_
       refine Go1.inBlock ?_
       refine Go1.region ?_
       obtain ⟨h262, H⟩ := H
       refine GoR.op ((op_add rfl rfl (wrap_i64 h262)) _) rfl rfl ?_
       refine GoR.op ((op_move rfl) _) rfl rfl ?_
       refine GoR.nil ?_
       exact hX3 _ H _ _ ⟨(n129 + 1) + 1, p252, c253, vs254, vs236, ⟨rfl, rfl, rfl, rfl, rfl, rfl, rfl, rfl, rfl, rfl, rfl, rfl, trivial⟩, hO, hE256, hE70, hE238, hal121, h_a0, hB⟩
    ·replace H := ifn h133 H
     refine GoR.op ((fun w => opB (op_lss rfl rfl w) (decide_eq_false h133)) _) rfl rfl ?_
     refine GoR.nil ?_
     refine Go1.seq ?_
     refine Go1.condF rfl rfl ?_
     refine Go1.exit rfl ?_
     refine Go1.inBlock ?_
     refine Go1.region ?_
     refine GoR.op ((op_move rfl) _) rfl rfl ?_
     obtain ⟨h263, H⟩ := H
     refine GoR.op ((op_add rfl rfl (wrap_i64 h263)) _) rfl rfl ?_
     refine GoR.op ((op_assign rfl) _) rfl rfl ?_
     refine GoR.nil ?_
     exact hX2 _ H _ _ ⟨n129, p127, c128, vs125, vs131, ⟨rfl, rfl, rfl, rfl, rfl, rfl, rfl, rfl, trivial⟩, hO, hE126, hE70, hE132, h_a0, hB⟩
   ·replace H := ifn h116 H
    refine GoR.op ((fun w => opB (op_lss rfl rfl w) (decide_eq_false h116)) _) rfl rfl ?_
    refine GoR.nil ?_
    refine Go1.condF rfl rfl ?_
    refine Go1.exit rfl ?_
    refine Go1.inBlock ?_
    refine Go1.region ?_
    refine GoR.op ((op_add rfl rfl (wrap_i64 (natbd h50 h_a0.bd))) _) rfl rfl ?_
    refine GoR.op ((op_move rfl) _) rfl rfl ?_
    refine GoR.nil ?_
    exact hX1 _ H _ _ ⟨n112, p110, c111, vs108, n46 + 1, p66, c67, vs68, vs114, ⟨rfl, rfl, rfl, rfl, rfl, rfl, rfl, rfl, trivial⟩, hO, hE109, hE70, hE115, h_a0, hB⟩
 ·replace H := ifn h50 H
  refine GoR.op ((fun w => opB (op_lss rfl rfl w) (decide_eq_false h50)) _) rfl rfl ?_
  refine GoR.nil ?_
  refine Go1.seq ?_
  refine Go1.condF rfl rfl ?_
  refine Go1.exit rfl ?_
  refine Go1.seq ?_
  refine Go1.region ?_
  refine GoR.op ((op_move rfl) _) rfl rfl ?_
  refine GoR.op ((op_assign rfl) _) rfl rfl ?_
  refine GoR.nil ?_
  have hobt := freeze 1 hO rfl hE43
  obtain ⟨hO1, hc266, hi264, hn265⟩ := hobt
  replace h_a0 := h_a0.ch hc266
  replace hE37 := hE37.ch hc266
  replace hE49 := hE49.ch hc266
  replace hB := hB.trans (Owns.dropFr _ _ 1)
  replace hO := hO1; clear hO1
  refine Go1.ret1 Try.func66 rfl ?_
  exact ⟨d_41, p44, c45, ((congrArg (fun nn => Value.slice p44 nn c45) hn265)), hB.same, (hi264.ch (Ch.weak _ _ _)), H⟩
theorem body64 : Body Try.prog 64 := ⟨Try.f64, Try.func64, rfl, by kernel_rfl⟩
theorem walk_mult_associates {A : List Nat} {w0 : World} {p_t : Option Addr} {c_t : Nat} {p_gens : Option Addr} {c_gens : Nat} {t : List (List Int)} {gens : List Int} (hA : ∀ b ∈ A, b < w0.heap.size) (h_t : ISl (Rp.sl (Rp.int .i64)) A w0 p_t c_t t) (h_gens : ISl (Rp.int .i64) A w0 p_gens c_gens gens) {K : Bool → Prop} (H : mult_associates t gens K) :
    CallsV Try.prog 64 #[.slice p_t t.length c_t, .slice p_gens gens.length c_gens] w0 (fun v w' => ∃ (r0 : Bool), v = .bool r0 ∧ Same w0 w' ∧ K r0) := by
 refine CallsV.of (l := [.slice p_t t.length c_t, .slice p_gens gens.length c_gens]) Try.func64 rfl Try.ntmps64 rfl ?_
 have hO := Owns.start hA
 have hB := Fr.refl (bl []) w0
 unfold mult_associates at H
 replace h_t := h_t.ch (Ch.start A w0)
 replace h_gens := h_gens.ch (Ch.start A w0)
 refine Go1.seq ?_
 refine Go1.region ?_
 refine GoR.op ((op_assign rfl) _) rfl rfl ?_
 refine GoR.nil ?_
 refine Go1.seq ?_
 refine Go1.region ?_
 refine GoR.op ((op_move rfl) _) rfl rfl ?_
 refine GoR.op ((op_len Try.underlying22 rfl) _) rfl rfl ?_
 replace H := H h_t.bd
 obtain ⟨h8, H⟩ := H
 obtain ⟨h9, H⟩ := H
 have hobt := omake (n := (t.length : Int)) (r := Rp.bool) (d := false) Try.underlying54 ti4 (fun _ _ => rfl) rfl hO h8 h9 (by decide)
 obtain ⟨w1, p2, vs3, hst4, hE5, hs6, hop7⟩ := hobt
 refine GoR.op (hop7 rfl rfl) rfl rfl ?_
 replace hO := hst4.own
 replace h_t := h_t.ch hst4.ch
 replace h_gens := h_gens.ch hst4.ch
 replace hB := hB.trans hst4.fr
 refine GoR.op ((op_assign rfl) _) rfl rfl ?_
 refine GoR.nil ?_
 refine Go1.seq ?_
 refine Go1.seq ?_
 refine Go1.region ?_
 refine GoR.op ((op_move rfl) _) rfl rfl ?_
 refine GoR.op ((op_len Try.underlying23 rfl) _) rfl rfl ?_
 replace H := H h_gens.bd
 refine GoR.op ((op_move rfl) _) rfl rfl ?_
 refine GoR.nil ?_
 refine Go1.block ?_
 refine Go1.loopW (S := Nat × List Bool) (fun s σ w => ∃ (vs14 : List Value), agrees σ [(0, .slice p_t t.length c_t), (5, .slice p2 t.length t.length), (16, .slice p_gens gens.length c_gens), (17, .int .i64 (gens.length : Int)), (18, .int .i64 ((s.1) : Int))] ∧ Owns w0.heap.size w [.row 4 1 p2 t.length t.length vs14] A ∧ Els (Rp.bool) (bl [.row 4 1 p2 t.length t.length vs14] ++ A) w vs14 (s.2) ∧ ISl (Rp.sl (Rp.int .i64)) (bl [.row 4 1 p2 t.length t.length vs14] ++ A) w p_t c_t t ∧ ISl (Rp.int .i64) (bl [.row 4 1 p2 t.length t.length vs14] ++ A) w p_gens c_gens gens ∧ Fr (bl []) w0 (bl [.row 4 1 p2 t.length t.length vs14]) w) H ⟨vs3, ⟨rfl, rfl, rfl, rfl, rfl, trivial⟩, hO, hE5, h_t, h_gens, hB⟩ ?_
 rintro X1 ⟨k1_12, tried1_13⟩ H hX1 σ w11 ⟨vs14, hag, hO, hE15, h_t, h_gens, hB⟩
 dsimp only at H
 refine Go1.keep [(0, .slice p_t t.length c_t), (5, .slice p2 t.length t.length), (16, .slice p_gens gens.length c_gens), (17, .int .i64 (gens.length : Int)), (18, .int .i64 (k1_12 : Int))] hag ?_
 refine Go1.seq ?_
 refine Go1.region ?_
 by_cases h16 : (k1_12 : Int) < (gens.length : Int)
 ·replace H := ifp h16 H
  refine GoR.op ((fun w => opB (op_lss rfl rfl w) (decide_eq_true h16)) _) rfl rfl ?_
  refine GoR.nil ?_
  refine Go1.seq ?_
  refine Go1.condT rfl rfl ?_
  refine Go1.skip ?_
  refine Go1.seq ?_
  refine Go1.block ?_
  refine Go1.seq ?_
  refine Go1.region ?_
  obtain ⟨h17, H⟩ := H
  obtain ⟨h18, H⟩ := H
  refine GoR.op ((op_index Try.underlying23 ti3 rfl rfl h17 h18 (h_gens.some_ h17 h18)) _) rfl rfl ?_
  refine GoR.op ((ldInt h_gens h17 h18 Try.underlying3 rfl rfl) _ (Same.refl _)) rfl rfl ?_
  refine GoR.op ((op_assign rfl) _) rfl rfl ?_
  refine GoR.nil ?_
  refine Go1.seq ?_
  refine Go1.seq ?_
  refine Go1.region ?_
  refine GoR.op ((op_move rfl) _) rfl rfl ?_
  refine GoR.op ((op_move rfl) _) rfl rfl ?_
  obtain ⟨h19, H⟩ := H
  obtain ⟨h20, H⟩ := H
  refine GoR.op ((op_index Try.underlying54 ti4 rfl rfl h19 (ltn (hE15.neq hO 0 rfl) h20) (hE15.psome hO 0 rfl h19 h20)) _) rfl rfl ?_
  by_cases h21 : ix tried1_13 (ix gens (k1_12 : Int)) = true
  ·replace H := ifp h21 H
   refine GoR.op (opB ((oldBool 0 hO rfl hE15 h19 h20 Try.underlying4 rfl rfl) _ (Same.refl _)) (h21)) rfl rfl ?_
   refine GoR.nil ?_
   refine Go1.condT rfl rfl ?_
   refine Go1.exit rfl ?_
   refine Go1.region ?_
   refine GoR.op ((op_add rfl rfl (wrap_i64 (natbd h16 h_gens.bd))) _) rfl rfl ?_
   refine GoR.op ((op_move rfl) _) rfl rfl ?_
   refine GoR.nil ?_
   exact hX1 _ H _ _ ⟨vs14, ⟨rfl, rfl, rfl, rfl, rfl, trivial⟩, hO, hE15, h_t, h_gens, hB⟩
  ·replace H := ifn h21 H
   refine GoR.op (opB ((oldBool 0 hO rfl hE15 h19 h20 Try.underlying4 rfl rfl) _ (Same.refl _)) (Bool.eq_false_iff.2 h21)) rfl rfl ?_
   refine GoR.nil ?_
   refine Go1.condF rfl rfl ?_
   refine Go1.skip ?_
   refine Go1.seq ?_
   refine Go1.region ?_
   refine GoR.op ((op_move rfl) _) rfl rfl ?_
   refine GoR.op ((op_move rfl) _) rfl rfl ?_
   obtain ⟨h22, H⟩ := H
   obtain ⟨h23, H⟩ := H
   refine GoR.op ((op_index Try.underlying54 ti4 rfl rfl h22 (ltn (hE15.neq hO 0 rfl) h23) (hE15.psome hO 0 rfl h22 h23)) _) rfl rfl ?_
   have hobt := ost (r := Rp.bool) rfl 0 hO rfl hE15 h22 h23 (v := .bool true) (u := true) rfl rfl
   obtain ⟨w24, vs25, hst26, hE27, hop28⟩ := hobt
   refine GoR.op (hop28 Try.underlying4 rfl ti4 rfl rfl) rfl rfl ?_
   replace hO := hst26.own
   replace h_t := h_t.ch hst26.ch
   replace h_gens := h_gens.ch hst26.ch
   replace hB := hB.trans hst26.fr
   refine GoR.nil ?_
   refine Go1.seq ?_
   refine Go1.region ?_
   refine GoR.op ((op_move rfl) _) rfl rfl ?_
   refine GoR.op ((op_len Try.underlying22 rfl) _) rfl rfl ?_
   refine GoR.op ((op_move rfl) _) rfl rfl ?_
   refine GoR.nil ?_
   refine Go1.block ?_
   refine Go1.loopW (S := Nat) (fun s σ w => agrees σ [(0, .slice p_t t.length c_t), (5, .slice p2 t.length t.length), (7, .int .i64 (ix gens (k1_12 : Int))), (16, .slice p_gens gens.length c_gens), (17, .int .i64 (gens.length : Int)), (18, .int .i64 (k1_12 : Int)), (29, .slice p_t t.length c_t), (30, .int .i64 (t.length : Int)), (31, .int .i64 (s : Int))] ∧ Owns w0.heap.size w [.row 4 1 p2 t.length t.length vs25] A ∧ Els (Rp.bool) (bl [.row 4 1 p2 t.length t.length vs25] ++ A) w vs25 (st tried1_13 (ix gens (k1_12 : Int)) true) ∧ ISl (Rp.sl (Rp.int .i64)) (bl [.row 4 1 p2 t.length t.length vs25] ++ A) w p_t c_t t ∧ ISl (Rp.int .i64) (bl [.row 4 1 p2 t.length t.length vs25] ++ A) w p_gens c_gens gens ∧ Fr (bl []) w0 (bl [.row 4 1 p2 t.length t.length vs25]) w) H ⟨⟨rfl, rfl, rfl, rfl, rfl, rfl, rfl, rfl, rfl, trivial⟩, hO, hE27, h_t, h_gens, hB⟩ ?_
   rintro X2 k2_30 H hX2 σ w29 ⟨hag, hO, hE27, h_t, h_gens, hB⟩
   refine Go1.keep [(0, .slice p_t t.length c_t), (5, .slice p2 t.length t.length), (7, .int .i64 (ix gens (k1_12 : Int))), (16, .slice p_gens gens.length c_gens), (17, .int .i64 (gens.length : Int)), (18, .int .i64 (k1_12 : Int)), (29, .slice p_t t.length c_t), (30, .int .i64 (t.length : Int)), (31, .int .i64 (k2_30 : Int))] hag ?_
   refine Go1.seq ?_
   refine Go1.region ?_
   by_cases h31 : (k2_30 : Int) < (t.length : Int)
   ·replace H := ifp h31 H
    refine GoR.op ((fun w => opB (op_lss rfl rfl w) (decide_eq_true h31)) _) rfl rfl ?_
    refine GoR.nil ?_
    refine Go1.seq ?_
    refine Go1.condT rfl rfl ?_
    refine Go1.skip ?_
    refine Go1.seq ?_
    refine Go1.block ?_
    refine Go1.seq ?_
    refine Go1.region ?_
    obtain ⟨h32, H⟩ := H
    obtain ⟨h33, H⟩ := H
    refine GoR.op ((op_index Try.underlying22 ti23 rfl rfl h32 h33 (h_t.some_ h32 h33)) _) rfl rfl ?_
    have hobt := ldSl h_t h32 h33
    obtain ⟨p34, c35, hi36, hl37⟩ := hobt
    refine GoR.op ((hl37 Try.underlying23 rfl rfl) _ (Same.refl _)) rfl rfl ?_
    refine GoR.op ((op_assign rfl) _) rfl rfl ?_
    refine GoR.nil ?_
    refine Go1.seq ?_
    refine Go1.region ?_
    refine GoR.op ((op_move rfl) _) rfl rfl ?_
    refine GoR.op ((op_move rfl) _) rfl rfl ?_
    refine GoR.op ((op_move rfl) _) rfl rfl ?_
    obtain ⟨h38, H⟩ := H
    obtain ⟨h39, H⟩ := H
    refine GoR.op ((op_index Try.underlying23 ti3 rfl rfl h38 h39 (hi36.some_ h38 h39)) _) rfl rfl ?_
    refine GoR.op ((ldInt hi36 h38 h39 Try.underlying3 rfl rfl) _ (Same.refl _)) rfl rfl ?_
    obtain ⟨h40, H⟩ := H
    obtain ⟨h41, H⟩ := H
    refine GoR.op ((op_index Try.underlying22 ti23 rfl rfl h40 h41 (h_t.some_ h40 h41)) _) rfl rfl ?_
    have hobt := ldSl h_t h40 h41
    obtain ⟨p42, c43, hi44, hl45⟩ := hobt
    refine GoR.op ((hl45 Try.underlying23 rfl rfl) _ (Same.refl _)) rfl rfl ?_
    refine GoR.op ((op_assign rfl) _) rfl rfl ?_
    refine GoR.nil ?_
    refine Go1.seq ?_
    refine Go1.region ?_
    refine GoR.op ((op_move rfl) _) rfl rfl ?_
    refine GoR.op ((op_move rfl) _) rfl rfl ?_
    obtain ⟨h46, H⟩ := H
    obtain ⟨h47, H⟩ := H
    refine GoR.op ((op_index Try.underlying22 ti23 rfl rfl h46 h47 (h_t.some_ h46 h47)) _) rfl rfl ?_
    have hobt := ldSl h_t h46 h47
    obtain ⟨p48, c49, hi50, hl51⟩ := hobt
    refine GoR.op ((hl51 Try.underlying23 rfl rfl) _ (Same.refl _)) rfl rfl ?_
    refine GoR.op ((op_len Try.underlying23 rfl) _) rfl rfl ?_
    replace H := H hi50.bd
    refine GoR.op ((op_move rfl) _) rfl rfl ?_
    refine GoR.nil ?_
    refine Go1.block ?_
    refine Go1.loopW (S := Nat) (fun s σ w => agrees σ [(0, .slice p_t t.length c_t), (5, .slice p2 t.length t.length), (7, .int .i64 (ix gens (k1_12 : Int))), (9, .slice p34 ((ix t (k2_30 : Int)).length) c35), (10, .slice p42 ((ix t (ix (ix t (k2_30 : Int)) (ix gens (k1_12 : Int)))).length) c43), (16, .slice p_gens gens.length c_gens), (17, .int .i64 (gens.length : Int)), (18, .int .i64 (k1_12 : Int)), (29, .slice p_t t.length c_t), (30, .int .i64 (t.length : Int)), (31, .int .i64 (k2_30 : Int)), (45, .slice p48 ((ix t (ix gens (k1_12 : Int))).length) c49), (46, .int .i64 ((ix t (ix gens (k1_12 : Int))).length : Int)), (47, .int .i64 (s : Int))] ∧ Owns w0.heap.size w [.row 4 1 p2 t.length t.length vs25] A ∧ Els (Rp.bool) (bl [.row 4 1 p2 t.length t.length vs25] ++ A) w vs25 (st tried1_13 (ix gens (k1_12 : Int)) true) ∧ ISl (Rp.sl (Rp.int .i64)) (bl [.row 4 1 p2 t.length t.length vs25] ++ A) w p_t c_t t ∧ ISl (Rp.int .i64) (bl [.row 4 1 p2 t.length t.length vs25] ++ A) w p_gens c_gens gens ∧ ISl (Rp.int .i64) (bl [.row 4 1 p2 t.length t.length vs25] ++ A) w p34 c35 (ix t (k2_30 : Int)) ∧ ISl (Rp.int .i64) (bl [.row 4 1 p2 t.length t.length vs25] ++ A) w p42 c43 (ix t (ix (ix t (k2_30 : Int)) (ix gens (k1_12 : Int)))) ∧ ISl (Rp.int .i64) (bl [.row 4 1 p2 t.length t.length vs25] ++ A) w p48 c49 (ix t (ix gens (k1_12 : Int))) ∧ Fr (bl []) w0 (bl [.row 4 1 p2 t.length t.length vs25]) w) H ⟨⟨rfl, rfl, rfl, rfl, rfl, rfl, rfl, rfl, rfl, rfl, rfl, rfl, rfl, rfl, trivial⟩, hO, hE27, h_t, h_gens, hi36, hi44, hi50, hB⟩ ?_
    rintro X3 k3_53 H hX3 σ w52 ⟨hag, hO, hE27, h_t, h_gens, hi36, hi44, hi50, hB⟩
    refine Go1.keep [(0, .slice p_t t.length c_t), (5, .slice p2 t.length t.length), (7, .int .i64 (ix gens (k1_12 : Int))), (9, .slice p34 ((ix t (k2_30 : Int)).length) c35), (10, .slice p42 ((ix t (ix (ix t (k2_30 : Int)) (ix gens (k1_12 : Int)))).length) c43), (16, .slice p_gens gens.length c_gens), (17, .int .i64 (gens.length : Int)), (18, .int .i64 (k1_12 : Int)), (29, .slice p_t t.length c_t), (30, .int .i64 (t.length : Int)), (31, .int .i64 (k2_30 : Int)), (45, .slice p48 ((ix t (ix gens (k1_12 : Int))).length) c49), (46, .int .i64 ((ix t (ix gens (k1_12 : Int))).length : Int)), (47, .int .i64 (k3_53 : Int))] hag ?_
    refine Go1.seq ?_
    refine Go1.region ?_
    by_cases h54 : (k3_53 : Int) < ((ix t (ix gens (k1_12 : Int))).length : Int)
    ·replace H := ifp h54 H
     refine GoR.op ((fun w => opB (op_lss rfl rfl w) (decide_eq_true h54)) _) rfl rfl ?_
     refine GoR.nil ?_
     refine Go1.seq ?_
     refine Go1.condT rfl rfl ?_
     refine Go1.skip ?_
     refine Go1.seq ?_
     refine Go1.block ?_
     refine Go1.seq ?_
     refine Go1.region ?_
     refine GoR.op ((op_move rfl) _) rfl rfl ?_
     obtain ⟨h55, H⟩ := H
     obtain ⟨h56, H⟩ := H
     refine GoR.op ((op_index Try.underlying23 ti3 rfl rfl h55 h56 (hi50.some_ h55 h56)) _) rfl rfl ?_
     refine GoR.op ((ldInt hi50 h55 h56 Try.underlying3 rfl rfl) _ (Same.refl _)) rfl rfl ?_
     refine GoR.op ((op_assign rfl) _) rfl rfl ?_
     refine GoR.op ((op_assign rfl) _) rfl rfl ?_
     refine GoR.nil ?_
     refine Go1.seq ?_
     refine Go1.drawS 0 [(0, .pure), (1, .pure), (2, .pure), (3, .stable), (4, .pure), (5, .pure), (6, .pure), (7, .stable), (8, .pure)] mixed (by kernel_rfl) ?_
     intro w57 hs58
     have hst59 := Stp.same hO hs58
     replace hE27 := hE27.ch hst59.ch
     replace hO := hst59.own
     replace h_t := h_t.ch hst59.ch
     replace h_gens := h_gens.ch hst59.ch
     replace hi36 := hi36.ch hst59.ch
     replace hi44 := hi44.ch hst59.ch
     replace hi50 := hi50.ch hst59.ch
     replace hB := hB.trans hst59.fr
     refine GoQ.pure rfl (op_move rfl) rfl rfl ?_
     refine GoQ.pure rfl (op_move rfl) rfl rfl ?_
     obtain ⟨h60, H⟩ := H
     obtain ⟨h61, H⟩ := H
     refine GoQ.pure rfl (op_index Try.underlying23 ti3 rfl rfl h60 h61 (hi44.some_ h60 h61)) rfl rfl ?_
     refine GoQ.stable rfl (ldInt hi44 h60 h61 Try.underlying3 rfl rfl) rfl rfl ?_
     refine GoQ.pure rfl (op_move rfl) rfl rfl ?_
     refine GoQ.pure rfl (op_move rfl) rfl rfl ?_
     obtain ⟨h62, H⟩ := H
     obtain ⟨h63, H⟩ := H
     refine GoQ.pure rfl (op_index Try.underlying23 ti3 rfl rfl h62 h63 (hi36.some_ h62 h63)) rfl rfl ?_
     refine GoQ.stable rfl (ldInt hi36 h62 h63 Try.underlying3 rfl rfl) rfl rfl ?_
     by_cases h64 : (ix (ix t (ix (ix t (k2_30 : Int)) (ix gens (k1_12 : Int)))) (k3_53 : Int)) = (ix (ix t (k2_30 : Int)) (ix (ix t (ix gens (k1_12 : Int))) (k3_53 : Int)))
     ·replace H := ifp h64 H
      refine GoQ.pure rfl (fun w => opB (op_neq rfl rfl w) (ndT h64)) rfl rfl ?_
      refine GoQ.nil ?_
      refine Go1.condF rfl rfl ?_
      refine Go1.skip ?_
      refine Go1.inBlock ?_
      refine Go1.region ?_
      refine GoR.op ((op_add rfl rfl (wrap_i64 (natbd h54 hi50.bd))) _) rfl rfl ?_
      refine GoR.op ((op_move rfl) _) rfl rfl ?_
      refine GoR.nil ?_
      exact hX3 _ H _ _ ⟨⟨rfl, rfl, rfl, rfl, rfl, rfl, rfl, rfl, rfl, rfl, rfl, rfl, rfl, rfl, trivial⟩, hO, hE27, h_t, h_gens, hi36, hi44, hi50, hB⟩
     ·replace H := ifn h64 H
      refine GoQ.pure rfl (fun w => opB (op_neq rfl rfl w) (ndF h64)) rfl rfl ?_
      refine GoQ.nil ?_
      refine Go1.condT rfl rfl ?_
      refine Go1.seq ?_
      refine Go1.region ?_
      refine GoR.op ((op_assign rfl) _) rfl rfl ?_
      refine GoR.nil ?_
      refine Go1.ret1 Try.func64 rfl ?_
      exact ⟨false, rfl, hB.same, H⟩
    ·replace H := ifn h54 H
     refine GoR.op ((fun w => opB (op_lss rfl rfl w) (decide_eq_false h54)) _) rfl rfl ?_
     refine GoR.nil ?_
     refine Go1.seq ?_
     refine Go1.condF rfl rfl ?_
     refine Go1.exit rfl ?_
     refine Go1.inBlock ?_
     refine Go1.region ?_
     refine GoR.op ((op_add rfl rfl (wrap_i64 (natbd h31 h_t.bd))) _) rfl rfl ?_
     refine GoR.op ((op_move rfl) _) rfl rfl ?_
     refine GoR.nil ?_
     exact hX2 _ H _ _ ⟨⟨rfl, rfl, rfl, rfl, rfl, rfl, rfl, rfl, rfl, trivial⟩, hO, hE27, h_t, h_gens, hB⟩
   ·replace H := ifn h31 H
    refine GoR.op ((fun w => opB (op_lss rfl rfl w) (decide_eq_false h31)) _) rfl rfl ?_
    refine GoR.nil ?_
    refine Go1.seq ?_
    refine Go1.condF rfl rfl ?_
    refine Go1.exit rfl ?_
    refine Go1.inBlock ?_
    refine Go1.region ?_
    refine GoR.op ((op_add rfl rfl (wrap_i64 (natbd h16 h_gens.bd))) _) rfl rfl ?_
    refine GoR.op ((op_move rfl) _) rfl rfl ?_
    refine GoR.nil ?_
    exact hX1 _ H _ _ ⟨vs25, ⟨rfl, rfl, rfl, rfl, rfl, trivial⟩, hO, hE27, h_t, h_gens, hB⟩
 ·replace H := ifn h16 H
  refine GoR.op ((fun w => opB (op_lss rfl rfl w) (decide_eq_false h16)) _) rfl rfl ?_
  refine GoR.nil ?_
  refine Go1.seq ?_
  refine Go1.condF rfl rfl ?_
  refine Go1.exit rfl ?_
  refine Go1.seq ?_
  refine Go1.region ?_
  refine GoR.op ((op_assign rfl) _) rfl rfl ?_
  refine GoR.nil ?_
  refine Go1.ret1 Try.func64 rfl ?_
  exact ⟨true, rfl, hB.same, H⟩
theorem body22 : Body Try.prog 22 := ⟨Try.f22, Try.func22, rfl, by kernel_rfl⟩
theorem walk_mult_Validate {A : List Nat} {w0 : World} {p_t : Option Addr} {c_t : Nat} {t : List (List Int)} (hA : ∀ b ∈ A, b < w0.heap.size) (h_t : ISl (Rp.sl (Rp.int .i64)) A w0 p_t c_t t) {K : Int → Prop} (H : mult_Validate t K) :
    CallsV Try.prog 22 #[.slice p_t t.length c_t] w0 (fun v w' => ∃ (r0 : Int), v = .int .i64 r0 ∧ Same w0 w' ∧ K r0) := by
 refine CallsV.of (l := [.slice p_t t.length c_t]) Try.func22 rfl Try.ntmps22 rfl ?_
 have hO := Owns.start hA
 have hB := Fr.refl (bl []) w0
 unfold mult_Validate at H
 replace h_t := h_t.ch (Ch.start A w0)
 refine Go1.seq ?_
 refine Go1.region ?_
 refine GoR.op ((op_assign rfl) _) rfl rfl ?_
 refine GoR.nil ?_
 refine Go1.seq ?_
 refine Go1.seq ?_
 refine Go1.region ?_
 refine GoR.op ((op_move rfl) _) rfl rfl ?_
 refine GoR.call (op_call body62 rfl (walk_mult_shape hO.lt h_t H)) rfl rfl ?_
 rintro v5 w2 ⟨r1, rfl, hs3, H⟩
 have hst6 := Stp.same hO hs3
 replace hO := hst6.own
 replace h_t := h_t.ch hst6.ch
 replace hB := hB.trans hst6.fr
 refine GoR.op ((op_assign rfl) _) rfl rfl ?_
 refine GoR.nil ?_
 refine Go1.seq ?_
 refine Go1.region ?_
 refine GoR.op ((op_move rfl) _) rfl rfl ?_
 by_cases h7 : r1 = (0 : Int)
 ·replace H := ifp h7 H
  refine GoR.op ((fun w => opB (op_neq rfl rfl w) (ndT h7)) _) rfl rfl ?_
  refine GoR.nil ?_
  refine Go1.condF rfl rfl ?_
  refine Go1.skip ?_
  refine Go1.seq ?_
  refine Go1.seq ?_
  refine Go1.region ?_
  refine GoR.op ((op_move rfl) _) rfl rfl ?_
  refine GoR.op ((op_move rfl) _) rfl rfl ?_
  refine GoR.call (op_call body66 rfl (walk_mult_spanning hO.lt h_t H)) rfl rfl ?_
  rintro v12 w9 ⟨r8, p_r8, c_r8, rfl, hs10, h_r8, H⟩
  have hst13 := Stp.same hO hs10
  replace hO := hst13.own
  replace h_t := h_t.ch hst13.ch
  replace hB := hB.trans hst13.fr
  refine GoR.call (op_call body64 rfl (walk_mult_associates hO.lt h_t h_r8 H)) rfl rfl ?_
  rintro v18 w15 ⟨r14, rfl, hs16, H⟩
  have hst19 := Stp.same hO hs16
  replace hO := hst19.own
  replace h_t := h_t.ch hst19.ch
  replace h_r8 := h_r8.ch hst19.ch
  replace hB := hB.trans hst19.fr
  cases r14
  ·replace H := ifn Bool.false_ne_true H
   refine GoR.op ((op_not rfl) _) rfl rfl ?_
   refine GoR.nil ?_
   refine Go1.condT rfl rfl ?_
   refine Go1.seq ?_
   refine Go1.region ?_
   refine GoR.op ((op_assign rfl) _) rfl rfl ?_
   refine GoR.nil ?_
   refine Go1.ret1 Try.func22 rfl ?_
   exact ⟨(5 : Int), rfl, hB.same, H⟩
  ·replace H := ifp rfl H
   refine GoR.op ((op_not rfl) _) rfl rfl ?_
   refine GoR.nil ?_
   refine Go1.condF rfl rfl ?_
   refine Go1.skip ?_
   refine Go1.seq ?_
   refine Go1.region ?_
   refine GoR.op ((op_assign rfl) _) rfl rfl ?_
   refine GoR.nil ?_
   refine Go1.ret1 Try.func22 rfl ?_
   exact ⟨(0 : Int), rfl, hB.same, H⟩
 ·replace H := ifn h7 H
  refine GoR.op ((fun w => opB (op_neq rfl rfl w) (ndF h7)) _) rfl rfl ?_
  refine GoR.nil ?_
  refine Go1.condT rfl rfl ?_
  refine Go1.seq ?_
  refine Go1.region ?_
  refine GoR.op ((op_move rfl) _) rfl rfl ?_
  refine GoR.op ((op_assign rfl) _) rfl rfl ?_
  refine GoR.nil ?_
  refine Go1.ret1 Try.func22 rfl ?_
  exact ⟨r1, rfl, hB.same, H⟩
theorem body71 : Body Try.prog 71 := ⟨Try.f71, Try.func71, rfl, by kernel_rfl⟩
theorem walk_mult_valid {A : List Nat} {w0 : World} {p_t : Option Addr} {c_t : Nat} {t : List (List Int)} (hA : ∀ b ∈ A, b < w0.heap.size) (h_t : ISl (Rp.sl (Rp.int .i64)) A w0 p_t c_t t) {K : Bool → Prop} (H : mult_valid t K) :
    CallsV Try.prog 71 #[.slice p_t t.length c_t] w0 (fun v w' => ∃ (r0 : Bool), v = .bool r0 ∧ Same w0 w' ∧ K r0) := by
 refine CallsV.of (l := [.slice p_t t.length c_t]) Try.func71 rfl Try.ntmps71 rfl ?_
 have hO := Owns.start hA
 have hB := Fr.refl (bl []) w0
 unfold mult_valid at H
 replace h_t := h_t.ch (Ch.start A w0)
 refine Go1.seq ?_
 refine Go1.region ?_
 refine GoR.op ((op_assign rfl) _) rfl rfl ?_
 refine GoR.nil ?_
 refine Go1.seq ?_
 refine Go1.region ?_
 refine GoR.op ((op_move rfl) _) rfl rfl ?_
 refine GoR.call (op_call body22 rfl (walk_mult_Validate hO.lt h_t H)) rfl rfl ?_
 rintro v5 w2 ⟨r1, rfl, hs3, H⟩
 have hst6 := Stp.same hO hs3
 replace hO := hst6.own
 replace h_t := h_t.ch hst6.ch
 replace hB := hB.trans hst6.fr
 by_cases h7 : r1 = (0 : Int)
 ·replace H := ifp h7 H
  refine GoR.op ((fun w => opB (op_eql rfl rfl w) (decide_eq_true h7)) _) rfl rfl ?_
  refine GoR.op ((op_assign rfl) _) rfl rfl ?_
  refine GoR.nil ?_
  refine Go1.ret1 Try.func71 rfl ?_
  exact ⟨true, rfl, hB.same, H⟩
 ·replace H := ifn h7 H
  refine GoR.op ((fun w => opB (op_eql rfl rfl w) (decide_eq_false h7)) _) rfl rfl ?_
  refine GoR.op ((op_assign rfl) _) rfl rfl ?_
  refine GoR.nil ?_
  refine Go1.ret1 Try.func71 rfl ?_
  exact ⟨false, rfl, hB.same, H⟩
theorem body73 : Body Try.prog 73 := ⟨Try.f73, Try.func73, rfl, by kernel_rfl⟩
theorem walk_mult_elements {A : List Nat} {w0 : World} {p_t : Option Addr} {c_t : Nat} {t : List (List Int)} (hA : ∀ b ∈ A, b < w0.heap.size) (h_t : ISl (Rp.sl (Rp.int .i64)) A w0 p_t c_t t) {K : List Int → Prop} (H : mult_elements t K) :
    CallsV Try.prog 73 #[.slice p_t t.length c_t] w0 (fun v w' => ∃ (r0 : List Int), ∃ (n_r0 : Nat), ∃ (p_r0 : Option Addr), ∃ (c_r0 : Nat), ∃ (vs_r0 : List Value), v = .slice p_r0 n_r0 c_r0 ∧ Same w0 w' ∧ Owns w0.heap.size w' [.row 3 1 p_r0 n_r0 c_r0 vs_r0] A ∧ Els (Rp.int .i64) (bl [.row 3 1 p_r0 n_r0 c_r0 vs_r0] ++ A) w' vs_r0 r0 ∧ K r0) := by
 refine CallsV.of (l := [.slice p_t t.length c_t]) Try.func73 rfl Try.ntmps73 rfl ?_
 have hO := Owns.start hA
 have hB := Fr.refl (bl []) w0
 unfold mult_elements at H
 replace h_t := h_t.ch (Ch.start A w0)
 refine Go1.seq ?_
 refine Go1.region ?_
 refine GoR.op ((op_assign rfl) _) rfl rfl ?_
 refine GoR.nil ?_
 refine Go1.seq ?_
 refine Go1.region ?_
 refine GoR.op ((op_move rfl) _) rfl rfl ?_
 refine GoR.op ((op_len Try.underlying22 rfl) _) rfl rfl ?_
 replace H := H h_t.bd
 obtain ⟨h8, H⟩ := H
 obtain ⟨h9, H⟩ := H
 have hobt := omake (n := (t.length : Int)) (r := Rp.int .i64) (d := (0 : Int)) Try.underlying23 ti3 (fun _ _ => rfl) rfl hO h8 h9 (by decide)
 obtain ⟨w1, p2, vs3, hst4, hE5, hs6, hop7⟩ := hobt
 refine GoR.op (hop7 rfl rfl) rfl rfl ?_
 replace hO := hst4.own
 replace h_t := h_t.ch hst4.ch
 replace hB := hB.trans hst4.fr
 refine GoR.op ((op_assign rfl) _) rfl rfl ?_
 refine GoR.nil ?_
 refine Go1.seq ?_
 refine Go1.seq ?_
 refine Go1.region ?_
 refine GoR.op ((op_move rfl) _) rfl rfl ?_
 refine GoR.op ((op_lenN Try.underlying23 rfl (hE5.neq hO 0 rfl)) _) rfl rfl ?_
 refine GoR.op ((op_move rfl) _) rfl rfl ?_
 refine GoR.nil ?_
 refine Go1.block ?_
 refine Go1.loopW (S := Nat × List Int) (fun s σ w => ∃ (vs14 : List Value), agrees σ [(3, .slice p2 t.length t.length), (9, .int .i64 ((List.replicate t.length ((0 : Int))).length : Int)), (10, .int .i64 ((s.1) : Int))] ∧ Owns w0.heap.size w [.row 3 1 p2 t.length t.length vs14] A ∧ Els (Rp.int .i64) (bl [.row 3 1 p2 t.length t.length vs14] ++ A) w vs14 (s.2) ∧ Fr (bl []) w0 (bl [.row 3 1 p2 t.length t.length vs14]) w) H ⟨vs3, ⟨rfl, rfl, rfl, trivial⟩, hO, hE5, hB⟩ ?_
 rintro X1 ⟨k1_12, list1_13⟩ H hX1 σ w11 ⟨vs14, hag, hO, hE15, hB⟩
 dsimp only at H
 refine Go1.keep [(3, .slice p2 t.length t.length), (9, .int .i64 ((List.replicate t.length ((0 : Int))).length : Int)), (10, .int .i64 (k1_12 : Int))] hag ?_
 refine Go1.seq ?_
 refine Go1.region ?_
 by_cases h16 : (k1_12 : Int) < ((List.replicate t.length ((0 : Int))).length : Int)
 ·replace H := ifp h16 H
  refine GoR.op ((fun w => opB (op_lss rfl rfl w) (decide_eq_true h16)) _) rfl rfl ?_
  refine GoR.nil ?_
  refine Go1.seq ?_
  refine Go1.condT rfl rfl ?_
  refine Go1.skip ?_
  refine Go1.seq ?_
  refine Go1.block ?_
  refine Go1.seq ?_
  refine Go1.region ?_
  refine GoR.op ((op_move rfl) _) rfl rfl ?_
  refine GoR.op ((op_assign rfl) _) rfl rfl ?_
  refine GoR.nil ?_
  refine Go1.region ?_
  refine GoR.op ((op_move rfl) _) rfl rfl ?_
  refine GoR.op ((op_move rfl) _) rfl rfl ?_
  refine GoR.op ((op_move rfl) _) rfl rfl ?_
  obtain ⟨h17, H⟩ := H
  obtain ⟨h18, H⟩ := H
  refine GoR.op ((op_index Try.underlying23 ti3 rfl rfl h17 (ltn (hE15.neq hO 0 rfl) h18) (hE15.psome hO 0 rfl h17 h18)) _) rfl rfl ?_
  have hobt := ost (r := Rp.int .i64) rfl 0 hO rfl hE15 h17 h18 (v := .int .i64 (k1_12 : Int)) (u := (k1_12 : Int)) rfl rfl
  obtain ⟨w19, vs20, hst21, hE22, hop23⟩ := hobt
  refine GoR.op (hop23 Try.underlying3 rfl ti3 rfl rfl) rfl rfl ?_
  replace hO := hst21.own
  replace hB := hB.trans hst21.fr
  refine GoR.nil ?_
  refine Go1.inBlock ?_
  refine Go1.region ?_
  obtain ⟨h24, H⟩ := H
  refine GoR.op ((op_add rfl rfl (wrap_i64 h24)) _) rfl rfl ?_
  refine GoR.op ((op_move rfl) _) rfl rfl ?_
  refine GoR.nil ?_
  exact hX1 _ H _ _ ⟨vs20, ⟨rfl, rfl, rfl, trivial⟩, hO, hE22, hB⟩
 ·replace H := ifn h16 H
  refine GoR.op ((fun w => opB (op_lss rfl rfl w) (decide_eq_false h16)) _) rfl rfl ?_
  refine GoR.nil ?_
  refine Go1.seq ?_
  refine Go1.condF rfl rfl ?_
  refine Go1.exit rfl ?_
  refine Go1.seq ?_
  refine Go1.region ?_
  refine GoR.op ((op_move rfl) _) rfl rfl ?_
  refine GoR.op ((op_assign rfl) _) rfl rfl ?_
  refine GoR.nil ?_
  refine Go1.ret1 Try.func73 rfl ?_
  exact ⟨list1_13, t.length, p2, t.length, vs14, rfl, hB.same, hO, hE15, H⟩
theorem body74 : Body Try.prog 74 := ⟨Try.f74, Try.func74, rfl, by kernel_rfl⟩
theorem body72 : Body Try.prog 72 := ⟨Try.f72, Try.func72, rfl, by kernel_rfl⟩
theorem body35 : Body Try.prog 35 := ⟨Try.f35, Try.func35, rfl, by kernel_rfl⟩
theorem walk_mult_Identity {A : List Nat} {w0 : World} {p_t : Option Addr} {c_t : Nat} {t : List (List Int)} (hA : ∀ b ∈ A, b < w0.heap.size) (h_t : ISl (Rp.sl (Rp.int .i64)) A w0 p_t c_t t) {K : Int → Prop} (H : mult_Identity t K) :
    CallsV Try.prog 35 #[.slice p_t t.length c_t] w0 (fun v w' => ∃ (r0 : Int), v = .int .i64 r0 ∧ Same w0 w' ∧ K r0) := by
 refine CallsV.of (l := [.slice p_t t.length c_t]) Try.func35 rfl Try.ntmps35 rfl ?_
 have hO := Owns.start hA
 have hB := Fr.refl (bl []) w0
 unfold mult_Identity at H
 replace h_t := h_t.ch (Ch.start A w0)
 refine Go1.seq ?_
 refine Go1.region ?_
 have hobt := obox (t := 22) (v := .slice p_t t.length c_t) (cs := #[.slice p_t t.length c_t]) hO rfl
 obtain ⟨w1, B2, hst3, hs4, hop5⟩ := hobt
 refine GoR.op (hop5 rfl) rfl rfl ?_
 replace hO := hst3.own
 replace h_t := h_t.ch hst3.ch
 replace hB := hB.trans hst3.fr
 refine GoR.op ((op_assign rfl) _) rfl rfl ?_
 refine GoR.nil ?_
 refine Go1.seq ?_
 refine Go1.seq ?_
 refine Go1.region ?_
 refine GoR.op ((oblk 0 hO rfl rfl Try.underlying22 rfl rfl) _ (Same.refl _)) rfl rfl ?_
 refine GoR.call (op_call body71 rfl (walk_mult_valid hO.lt h_t H)) rfl rfl ?_
 rintro v11 w8 ⟨r7, rfl, hs9, H⟩
 have hst12 := Stp.same hO hs9
 replace hO := hst12.own
 replace h_t := h_t.ch hst12.ch
 replace hB := hB.trans hst12.fr
 cases r7
 ·replace H := ifn Bool.false_ne_true H
  refine GoR.op ((op_not rfl) _) rfl rfl ?_
  refine GoR.nil ?_
  refine Go1.condT rfl rfl ?_
  refine Go1.seq ?_
  refine Go1.region ?_
  refine GoR.op ((op_assign rfl) _) rfl rfl ?_
  refine GoR.nil ?_
  refine Go1.ret1 Try.func35 rfl ?_
  exact ⟨(-1 : Int), rfl, hB.same, H⟩
 ·replace H := ifp rfl H
  refine GoR.op ((op_not rfl) _) rfl rfl ?_
  refine GoR.nil ?_
  refine Go1.condF rfl rfl ?_
  refine Go1.skip ?_
  refine Go1.seq ?_
  refine Go1.region ?_
  refine GoR.op ((oblk 0 hO rfl rfl Try.underlying22 rfl rfl) _ (Same.refl _)) rfl rfl ?_
  refine GoR.call (op_call body73 rfl (walk_mult_elements hO.lt h_t H)) rfl rfl ?_
  rintro v18 w15 ⟨r13, n_r13, p_r13, c_r13, vs_r13, rfl, hs16, hN17, hE14, H⟩
  have hst19 := Stp.more hO hs16 hN17
  replace hO := hst19.own
  replace h_t := h_t.ch hst19.ch
  replace hB := hB.trans hst19.fr
  replace hE14 := hE14.ch (Ch.assoc _ _ _ _)
  refine GoR.op ((op_makeFunc (vs := [.pointer (some ⟨B2, 0, none⟩)]) rfl) _) rfl rfl ?_
  refine GoR.inl (vs := [.slice p_r13 n_r13 c_r13, .func (.func 74) #[] #[.pointer (some ⟨B2, 0, none⟩)]]) (caps := []) rfl rfl body72 Try.func72 rfl Try.ntmps72 rfl rfl rfl ?_
  intro RhR21 hR21
  refine Go1.seq ?_
  refine Go1.region ?_
  refine GoR.op ((op_assign rfl) _) rfl rfl ?_
  refine GoR.nil ?_
  refine Go1.seq ?_
  refine Go1.seq ?_
  refine Go1.region ?_
  refine GoR.op ((op_move rfl) _) rfl rfl ?_
  refine GoR.op ((op_lenN Try.underlying23 rfl (hE14.neq hO 0 rfl)) _) rfl rfl ?_
  refine GoR.op ((op_move rfl) _) rfl rfl ?_
  refine GoR.nil ?_
  refine Go1.block ?_
  refine Go1.loopW (S := Nat) (fun s σ w => agrees σ [(0, .slice p_r13 n_r13 c_r13), (1, .func (.func 74) #[] #[.pointer (some ⟨B2, 0, none⟩)]), (7, .int .i64 (r13.length : Int)), (8, .int .i64 (s : Int))] ∧ Owns w0.heap.size w [.row 3 1 p_r13 n_r13 c_r13 vs_r13, .blk B2 (.cells #[.slice p_t t.length c_t] 22 (0, 0))] A ∧ Els (Rp.int .i64) (bl [.row 3 1 p_r13 n_r13 c_r13 vs_r13, .blk B2 (.cells #[.slice p_t t.length c_t] 22 (0, 0))] ++ A) w vs_r13 r13 ∧ ISl (Rp.sl (Rp.int .i64)) (bl [.row 3 1 p_r13 n_r13 c_r13 vs_r13, .blk B2 (.cells #[.slice p_t t.length c_t] 22 (0, 0))] ++ A) w p_t c_t t ∧ Fr (bl []) w0 (bl [.row 3 1 p_r13 n_r13 c_r13 vs_r13, .blk B2 (.cells #[.slice p_t t.length c_t] 22 (0, 0))]) w) H ⟨⟨rfl, rfl, rfl, rfl, trivial⟩, hO, hE14, h_t, hB⟩ ?_
  rintro X1 k1_23 H hX1 σ w22 ⟨hag, hO, hE14, h_t, hB⟩
  refine Go1.keep [(0, .slice p_r13 n_r13 c_r13), (1, .func (.func 74) #[] #[.pointer (some ⟨B2, 0, none⟩)]), (7, .int .i64 (r13.length : Int)), (8, .int .i64 (k1_23 : Int))] hag ?_
  refine Go1.seq ?_
  refine Go1.region ?_
  by_cases h24 : (k1_23 : Int) < (r13.length : Int)
  ·replace H := ifp h24 H
   refine GoR.op ((fun w => opB (op_lss rfl rfl w) (decide_eq_true h24)) _) rfl rfl ?_
   refine GoR.nil ?_
   refine Go1.seq ?_
   refine Go1.condT rfl rfl ?_
   refine Go1.skip ?_
   refine Go1.seq ?_
   refine Go1.block ?_
   refine Go1.seq ?_
   refine Go1.region ?_
   refine GoR.op ((op_move rfl) _) rfl rfl ?_
   refine GoR.op ((op_assign rfl) _) rfl rfl ?_
   refine GoR.nil ?_
   refine Go1.seq ?_
   refine Go1.region ?_
   refine GoR.op ((op_move rfl) _) rfl rfl ?_
   refine GoR.op ((op_move rfl) _) rfl rfl ?_
   refine GoR.op ((op_move rfl) _) rfl rfl ?_
   obtain ⟨h25, H⟩ := H
   obtain ⟨h26, H⟩ := H
   refine GoR.op ((op_index Try.underlying23 ti3 rfl rfl h25 (ltn (hE14.neq hO 0 rfl) h26) (hE14.psome hO 0 rfl h25 h26)) _) rfl rfl ?_
   refine GoR.op ((oldInt 0 hO rfl hE14 h25 h26 Try.underlying3 rfl rfl) _ (Same.refl _)) rfl rfl ?_
   refine GoR.inl (vs := [.int .i64 (ix r13 (k1_23 : Int))]) (caps := [.pointer (some ⟨B2, 0, none⟩)]) rfl rfl body74 Try.func74 rfl Try.ntmps74 rfl rfl rfl ?_
   intro RhR27 hR27
   refine Go1.seq ?_
   refine Go1.region ?_
   refine GoR.op ((op_assign rfl) _) rfl rfl ?_
   refine GoR.nil ?_
   refine Go1.seq ?_
   refine Go1.seq ?_
   refine Go1.region ?_
   refine GoR.op ((oblk 1 hO rfl rfl Try.underlying22 rfl rfl) _ (Same.refl _)) rfl rfl ?_
   refine GoR.op ((op_len Try.underlying22 rfl) _) rfl rfl ?_
   replace H := H h_t.bd
   refine GoR.op ((op_move rfl) _) rfl rfl ?_
   refine GoR.nil ?_
   refine Go1.block ?_
   refine Go1.loopW (S := Nat) (fun s σ w => agrees σ [(0, .int .i64 (ix r13 (k1_23 : Int))), (1, .pointer (some ⟨B2, 0, none⟩)), (6, .int .i64 (t.length : Int)), (7, .int .i64 (s : Int))] ∧ Owns w0.heap.size w [.row 3 1 p_r13 n_r13 c_r13 vs_r13, .blk B2 (.cells #[.slice p_t t.length c_t] 22 (0, 0))] A ∧ Els (Rp.int .i64) (bl [.row 3 1 p_r13 n_r13 c_r13 vs_r13, .blk B2 (.cells #[.slice p_t t.length c_t] 22 (0, 0))] ++ A) w vs_r13 r13 ∧ ISl (Rp.sl (Rp.int .i64)) (bl [.row 3 1 p_r13 n_r13 c_r13 vs_r13, .blk B2 (.cells #[.slice p_t t.length c_t] 22 (0, 0))] ++ A) w p_t c_t t ∧ Fr (bl []) w0 (bl [.row 3 1 p_r13 n_r13 c_r13 vs_r13, .blk B2 (.cells #[.slice p_t t.length c_t] 22 (0, 0))]) w) H ⟨⟨rfl, rfl, rfl, rfl, trivial⟩, hO, hE14, h_t, hB⟩ ?_
   rintro X2 k2_29 H hX2 σ w28 ⟨hag, hO, hE14, h_t, hB⟩
   refine Go1.keep [(0, .int .i64 (ix r13 (k1_23 : Int))), (1, .pointer (some ⟨B2, 0, none⟩)), (6, .int .i64 (t.length : Int)), (7, .int .i64 (k2_29 : Int))] hag ?_
   refine Go1.seq ?_
   refine Go1.region ?_
   by_cases h30 : (k2_29 : Int) < (t.length : Int)
   ·replace H := ifp h30 H
    refine GoR.op ((fun w => opB (op_lss rfl rfl w) (decide_eq_true h30)) _) rfl rfl ?_
    refine GoR.nil ?_
    refine Go1.seq ?_
    refine Go1.condT rfl rfl ?_
    refine Go1.skip ?_
    refine Go1.seq ?_
    refine Go1.block ?_
    refine Go1.seq ?_
    refine Go1.region ?_
    refine GoR.op ((op_move rfl) _) rfl rfl ?_
    refine GoR.op ((op_assign rfl) _) rfl rfl ?_
    refine GoR.nil ?_
    refine Go1.seq ?_
    refine Go1.region ?_
    refine GoR.op ((oblk 1 hO rfl rfl Try.underlying22 rfl rfl) _ (Same.refl _)) rfl rfl ?_
    refine GoR.op ((op_move rfl) _) rfl rfl ?_
    obtain ⟨h31, H⟩ := H
    obtain ⟨h32, H⟩ := H
    refine GoR.op ((op_index Try.underlying22 ti23 rfl rfl h31 h32 (h_t.some_ h31 h32)) _) rfl rfl ?_
    have hobt := ldSl h_t h31 h32
    obtain ⟨p33, c34, hi35, hl36⟩ := hobt
    refine GoR.op ((hl36 Try.underlying23 rfl rfl) _ (Same.refl _)) rfl rfl ?_
    refine GoR.op ((op_move rfl) _) rfl rfl ?_
    obtain ⟨h37, H⟩ := H
    obtain ⟨h38, H⟩ := H
    refine GoR.op ((op_index Try.underlying23 ti3 rfl rfl h37 h38 (hi35.some_ h37 h38)) _) rfl rfl ?_
    refine GoR.op ((ldInt hi35 h37 h38 Try.underlying3 rfl rfl) _ (Same.refl _)) rfl rfl ?_
    refine GoR.op ((op_move rfl) _) rfl rfl ?_
    by_cases h39 : (ix (ix t (ix r13 (k1_23 : Int))) (k2_29 : Int)) = (k2_29 : Int)
    ·replace H := ifp h39 H
     refine GoR.op ((fun w => opB (op_neq rfl rfl w) (ndT h39)) _) rfl rfl ?_
     refine GoR.op ((op_move rfl) _) rfl rfl ?_
     refine GoR.op ((oblk 1 hO rfl rfl Try.underlying22 rfl rfl) _ (Same.refl _)) rfl rfl ?_
     refine GoR.op ((op_move rfl) _) rfl rfl ?_
     obtain ⟨h40, H⟩ := H
     obtain ⟨h41, H⟩ := H
     refine GoR.op ((op_index Try.underlying22 ti23 rfl rfl h40 h41 (h_t.some_ h40 h41)) _) rfl rfl ?_
     have hobt := ldSl h_t h40 h41
     obtain ⟨p42, c43, hi44, hl45⟩ := hobt
     refine GoR.op ((hl45 Try.underlying23 rfl rfl) _ (Same.refl _)) rfl rfl ?_
     refine GoR.op ((op_move rfl) _) rfl rfl ?_
     obtain ⟨h46, H⟩ := H
     obtain ⟨h47, H⟩ := H
     refine GoR.op ((op_index Try.underlying23 ti3 rfl rfl h46 h47 (hi44.some_ h46 h47)) _) rfl rfl ?_
     refine GoR.op ((ldInt hi44 h46 h47 Try.underlying3 rfl rfl) _ (Same.refl _)) rfl rfl ?_
     refine GoR.op ((op_move rfl) _) rfl rfl ?_
     by_cases h48 : (ix (ix t (k2_29 : Int)) (ix r13 (k1_23 : Int))) = (k2_29 : Int)
     ·replace H := ifp h48 H
      refine GoR.op ((fun w => opB (op_neq rfl rfl w) (ndT h48)) _) rfl rfl ?_
      refine GoR.op ((op_pickF rfl rfl rfl) _) rfl rfl ?_
      refine GoR.nil ?_
      refine Go1.condF rfl rfl ?_
      refine Go1.skip ?_
      refine Go1.inBlock ?_
      refine Go1.region ?_
      refine GoR.op ((op_add rfl rfl (wrap_i64 (natbd h30 h_t.bd))) _) rfl rfl ?_
      refine GoR.op ((op_move rfl) _) rfl rfl ?_
      refine GoR.nil ?_
      exact hX2 _ H _ _ ⟨⟨rfl, rfl, rfl, rfl, trivial⟩, hO, hE14, h_t, hB⟩
     ·replace H := ifn h48 H
      refine GoR.op ((fun w => opB (op_neq rfl rfl w) (ndF h48)) _) rfl rfl ?_
      refine GoR.op ((op_pickF rfl rfl rfl) _) rfl rfl ?_
      refine GoR.nil ?_
      refine Go1.condT rfl rfl ?_
      refine Go1.seq ?_
      refine Go1.region ?_
      refine GoR.op ((op_assign rfl) _) rfl rfl ?_
      refine GoR.nil ?_
      refine Go1.ret1V Try.func74 rfl (show _ = .bool false from rfl) ?_
      refine hR27 _ _ ?_
      refine GoR.nil ?_
      refine Go1.condF rfl rfl ?_
      refine Go1.skip ?_
      refine Go1.inBlock ?_
      refine Go1.region ?_
      refine GoR.op ((op_add rfl rfl (wrap_i64 (natbd h24 hE14.bd))) _) rfl rfl ?_
      refine GoR.op ((op_move rfl) _) rfl rfl ?_
      refine GoR.nil ?_
      exact hX1 _ H _ _ ⟨⟨rfl, rfl, rfl, rfl, trivial⟩, hO, hE14, h_t, hB⟩
    ·replace H := ifn h39 H
     refine GoR.op ((fun w => opB (op_neq rfl rfl w) (ndF h39)) _) rfl rfl ?_
     refine GoR.op ((op_move rfl) _) rfl rfl ?_
     refine GoR.pass rfl rfl ?_
     refine GoR.pass rfl rfl ?_
     refine GoR.pass rfl rfl ?_
     refine GoR.pass rfl rfl ?_
     refine GoR.pass rfl rfl ?_
     refine GoR.pass rfl rfl ?_
     refine GoR.pass rfl rfl ?_
     refine GoR.pass rfl rfl ?_
     refine GoR.pass rfl rfl ?_
     refine GoR.op ((op_pickT rfl rfl rfl) _) rfl rfl ?_
     refine GoR.nil ?_
     refine Go1.condT rfl rfl ?_
     refine Go1.seq ?_
     refine Go1.region ?_
     refine GoR.op ((op_assign rfl) _) rfl rfl ?_
     refine GoR.nil ?_
     refine Go1.ret1V Try.func74 rfl (show _ = .bool false from rfl) ?_
     refine hR27 _ _ ?_
     refine GoR.nil ?_
     refine Go1.condF rfl rfl ?_
     refine Go1.skip ?_
     refine Go1.inBlock ?_
     refine Go1.region ?_
     refine GoR.op ((op_add rfl rfl (wrap_i64 (natbd h24 hE14.bd))) _) rfl rfl ?_
     refine GoR.op ((op_move rfl) _) rfl rfl ?_
     refine GoR.nil ?_
     exact hX1 _ H _ _ ⟨⟨rfl, rfl, rfl, rfl, trivial⟩, hO, hE14, h_t, hB⟩
   ·replace H := ifn h30 H
    refine GoR.op ((fun w => opB (op_lss rfl rfl w) (decide_eq_false h30)) _) rfl rfl ?_
    refine GoR.nil ?_
    refine Go1.seq ?_
    refine Go1.condF rfl rfl ?_
    refine Go1.exit rfl ?_
    refine Go1.seq ?_
    refine Go1.region ?_
    refine GoR.op ((op_assign rfl) _) rfl rfl ?_
    refine GoR.nil ?_
    refine Go1.ret1V Try.func74 rfl (show _ = .bool true from rfl) ?_
    refine hR27 _ _ ?_
    refine GoR.nil ?_
    refine Go1.condT rfl rfl ?_
    refine Go1.seq ?_
    refine Go1.region ?_
    refine GoR.op ((op_move rfl) _) rfl rfl ?_
    refine GoR.op ((op_assign rfl) _) rfl rfl ?_
    refine GoR.nil ?_
    refine Go1.ret1V Try.func72 rfl (show _ = .int .i64 (k1_23 : Int) from rfl) ?_
    refine hR21 _ _ ?_
    refine GoR.op ((op_assign rfl) _) rfl rfl ?_
    refine GoR.nil ?_
    refine Go1.ret1 Try.func35 rfl ?_
    exact ⟨(k1_23 : Int), rfl, hB.same, H⟩
  ·replace H := ifn h24 H
   refine GoR.op ((fun w => opB (op_lss rfl rfl w) (decide_eq_false h24)) _) rfl rfl ?_
   refine GoR.nil ?_
   refine Go1.seq ?_
   refine Go1.condF rfl rfl ?_
   refine Go1.exit rfl ?_
   refine Go1.seq ?_
   refine Go1.region ?_
   refine GoR.op ((op_assign rfl) _) rfl rfl ?_
   refine GoR.nil ?_
   refine Go1.ret1V Try.func72 rfl (show _ = .int .i64 (-1 : Int) from rfl) ?_
   refine hR21 _ _ ?_
   refine GoR.op ((op_assign rfl) _) rfl rfl ?_
   refine GoR.nil ?_
   refine Go1.ret1 Try.func35 rfl ?_
   exact ⟨(-1 : Int), rfl, hB.same, H⟩
theorem body63 : Body Try.prog 63 := ⟨Try.f63, Try.func63, rfl, by kernel_rfl⟩
theorem walk_mult_areElements {A : List Nat} {w0 : World} {p_t : Option Addr} {c_t : Nat} {p_numbers : Option Addr} {c_numbers : Nat} {t : List (List Int)} {numbers : List Int} (hA : ∀ b ∈ A, b < w0.heap.size) (h_t : ISl (Rp.sl (Rp.int .i64)) A w0 p_t c_t t) (h_numbers : ISl (Rp.int .i64) A w0 p_numbers c_numbers numbers) {K : Bool → Prop} (H : mult_areElements t numbers K) :
    CallsV Try.prog 63 #[.slice p_t t.length c_t, .slice p_numbers numbers.length c_numbers] w0 (fun v w' => ∃ (r0 : Bool), v = .bool r0 ∧ Same w0 w' ∧ K r0) := by
 refine CallsV.of (l := [.slice p_t t.length c_t, .slice p_numbers numbers.length c_numbers]) Try.func63 rfl Try.ntmps63 rfl ?_
 have hO := Owns.start hA
 have hB := Fr.refl (bl []) w0
 unfold mult_areElements at H
 replace h_t := h_t.ch (Ch.start A w0)
 replace h_numbers := h_numbers.ch (Ch.start A w0)
 refine Go1.seq ?_
 refine Go1.region ?_
 refine GoR.op ((op_assign rfl) _) rfl rfl ?_
 refine GoR.nil ?_
 refine Go1.seq ?_
 refine Go1.seq ?_
 refine Go1.region ?_
 refine GoR.op ((op_move rfl) _) rfl rfl ?_
 refine GoR.op ((op_len Try.underlying23 rfl) _) rfl rfl ?_
 replace H := H h_numbers.bd
 refine GoR.op ((op_move rfl) _) rfl rfl ?_
 refine GoR.nil ?_
 refine Go1.block ?_
 refine Go1.loopW (S := Nat) (fun s σ w => agrees σ [(0, .slice p_t t.length c_t), (7, .slice p_numbers numbers.length c_numbers), (8, .int .i64 (numbers.length : Int)), (9, .int .i64 (s : Int))] ∧ Owns w0.heap.size w [] A ∧ ISl (Rp.sl (Rp.int .i64)) (bl [] ++ A) w p_t c_t t ∧ ISl (Rp.int .i64) (bl [] ++ A) w p_numbers c_numbers numbers ∧ Fr (bl []) w0 (bl []) w) H ⟨⟨rfl, rfl, rfl, rfl, trivial⟩, hO, h_t, h_numbers, hB⟩ ?_
 rintro X1 k1_2 H hX1 σ w1 ⟨hag, hO, h_t, h_numbers, hB⟩
 refine Go1.keep [(0, .slice p_t t.length c_t), (7, .slice p_numbers numbers.length c_numbers), (8, .int .i64 (numbers.length : Int)), (9, .int .i64 (k1_2 : Int))] hag ?_
 refine Go1.seq ?_
 refine Go1.region ?_
 by_cases h3 : (k1_2 : Int) < (numbers.length : Int)
 ·replace H := ifp h3 H
  refine GoR.op ((fun w => opB (op_lss rfl rfl w) (decide_eq_true h3)) _) rfl rfl ?_
  refine GoR.nil ?_
  refine Go1.seq ?_
  refine Go1.condT rfl rfl ?_
  refine Go1.skip ?_
  refine Go1.seq ?_
  refine Go1.block ?_
  refine Go1.seq ?_
  refine Go1.region ?_
  obtain ⟨h4, H⟩ := H
  obtain ⟨h5, H⟩ := H
  refine GoR.op ((op_index Try.underlying23 ti3 rfl rfl h4 h5 (h_numbers.some_ h4 h5)) _) rfl rfl ?_
  refine GoR.op ((ldInt h_numbers h4 h5 Try.underlying3 rfl rfl) _ (Same.refl _)) rfl rfl ?_
  refine GoR.op ((op_assign rfl) _) rfl rfl ?_
  refine GoR.nil ?_
  refine Go1.seq ?_
  refine Go1.region ?_
  refine GoR.op ((op_move rfl) _) rfl rfl ?_
  by_cases h6 : (ix numbers (k1_2 : Int)) < (0 : Int)
  ·replace H := ifp h6 H
   refine GoR.op ((fun w => opB (op_lss rfl rfl w) (decide_eq_true h6)) _) rfl rfl ?_
   refine GoR.op ((op_move rfl) _) rfl rfl ?_
   refine GoR.pass rfl rfl ?_
   refine GoR.pass rfl rfl ?_
   refine GoR.pass rfl rfl ?_
   refine GoR.pass rfl rfl ?_
   refine GoR.op ((op_pickT rfl rfl rfl) _) rfl rfl ?_
   refine GoR.nil ?_
   refine Go1.condT rfl rfl ?_
   refine Go1.seq ?_
   refine Go1.region ?_
   refine GoR.op ((op_assign rfl) _) rfl rfl ?_
   refine GoR.nil ?_
   refine Go1.ret1 Try.func63 rfl ?_
   exact ⟨false, rfl, hB.same, H⟩
  ·replace H := ifn h6 H
   refine GoR.op ((fun w => opB (op_lss rfl rfl w) (decide_eq_false h6)) _) rfl rfl ?_
   refine GoR.op ((op_move rfl) _) rfl rfl ?_
   refine GoR.op ((op_move rfl) _) rfl rfl ?_
   refine GoR.op ((op_move rfl) _) rfl rfl ?_
   refine GoR.op ((op_len Try.underlying22 rfl) _) rfl rfl ?_
   replace H := H h_t.bd
   by_cases h7 : (t.length : Int) ≤ (ix numbers (k1_2 : Int))
   ·replace H := ifp h7 H
    refine GoR.op ((fun w => opB (op_geq rfl rfl w) (decide_eq_true h7)) _) rfl rfl ?_
    refine GoR.op ((op_pickF rfl rfl rfl) _) rfl rfl ?_
    refine GoR.nil ?_
    refine Go1.condT rfl rfl ?_
    refine Go1.seq ?_
    refine Go1.region ?_
    refine GoR.op ((op_assign rfl) _) rfl rfl ?_
    refine GoR.nil ?_
    refine Go1.ret1 Try.func63 rfl ?_
    exact ⟨false, rfl, hB.same, H⟩
   ·replace H := ifn h7 H
    refine GoR.op ((fun w => opB (op_geq rfl rfl w) (decide_eq_false h7)) _) rfl rfl ?_
    refine GoR.op ((op_pickF rfl rfl rfl) _) rfl rfl ?_
    refine GoR.nil ?_
    refine Go1.condF rfl rfl ?_
    refine Go1.skip ?_
    refine Go1.inBlock ?_
    refine Go1.region ?_
    refine GoR.op ((op_add rfl rfl (wrap_i64 (natbd h3 h_numbers.bd))) _) rfl rfl ?_
    refine GoR.op ((op_move rfl) _) rfl rfl ?_
    refine GoR.nil ?_
    exact hX1 _ H _ _ ⟨⟨rfl, rfl, rfl, rfl, trivial⟩, hO, h_t, h_numbers, hB⟩
 ·replace H := ifn h3 H
  refine GoR.op ((fun w => opB (op_lss rfl rfl w) (decide_eq_false h3)) _) rfl rfl ?_
  refine GoR.nil ?_
  refine Go1.seq ?_
  refine Go1.condF rfl rfl ?_
  refine Go1.exit rfl ?_
  refine Go1.seq ?_
  refine Go1.region ?_
  refine GoR.op ((op_assign rfl) _) rfl rfl ?_
  refine GoR.nil ?_
  refine Go1.ret1 Try.func63 rfl ?_
  exact ⟨true, rfl, hB.same, H⟩
theorem body67 : Body Try.prog 67 := ⟨Try.f67, Try.func67, rfl, by kernel_rfl⟩
theorem walk_mult_has {A : List Nat} {w0 : World} {p_t : Option Addr} {c_t : Nat} {p_numbers : Option Addr} {c_numbers : Nat} {t : List (List Int)} {numbers : List Int} (hA : ∀ b ∈ A, b < w0.heap.size) (h_t : ISl (Rp.sl (Rp.int .i64)) A w0 p_t c_t t) (h_numbers : ISl (Rp.int .i64) A w0 p_numbers c_numbers numbers) {K : Bool → Prop} (H : mult_has t numbers K) :
    CallsV Try.prog 67 #[.slice p_t t.length c_t, .slice p_numbers numbers.length c_numbers] w0 (fun v w' => ∃ (r0 : Bool), v = .bool r0 ∧ Same w0 w' ∧ K r0) := by
 refine CallsV.of (l := [.slice p_t t.length c_t, .slice p_numbers numbers.length c_numbers]) Try.func67 rfl Try.ntmps67 rfl ?_
 have hO := Owns.start hA
 have hB := Fr.refl (bl []) w0
 unfold mult_has at H
 replace h_t := h_t.ch (Ch.start A w0)
 replace h_numbers := h_numbers.ch (Ch.start A w0)
 refine Go1.seq ?_
 refine Go1.region ?_
 refine GoR.op ((op_assign rfl) _) rfl rfl ?_
 refine GoR.nil ?_
 refine Go1.seq ?_
 refine Go1.region ?_
 refine GoR.op ((op_move rfl) _) rfl rfl ?_
 refine GoR.op ((op_move rfl) _) rfl rfl ?_
 refine GoR.call (op_call body63 rfl (walk_mult_areElements hO.lt h_t h_numbers H)) rfl rfl ?_
 rintro v5 w2 ⟨r1, rfl, hs3, H⟩
 have hst6 := Stp.same hO hs3
 replace hO := hst6.own
 replace h_t := h_t.ch hst6.ch
 replace h_numbers := h_numbers.ch hst6.ch
 replace hB := hB.trans hst6.fr
 refine GoR.op ((op_move rfl) _) rfl rfl ?_
 cases r1
 ·replace H := ifn Bool.false_ne_true H
  refine GoR.pass rfl rfl ?_
  refine GoR.pass rfl rfl ?_
  refine GoR.op ((op_pickF rfl rfl rfl) _) rfl rfl ?_
  refine GoR.op ((op_assign rfl) _) rfl rfl ?_
  refine GoR.nil ?_
  refine Go1.ret1 Try.func67 rfl ?_
  exact ⟨false, rfl, hB.same, H⟩
 ·replace H := ifp rfl H
  refine GoR.op ((op_move rfl) _) rfl rfl ?_
  refine GoR.call (op_call body71 rfl (walk_mult_valid hO.lt h_t H)) rfl rfl ?_
  rintro v11 w8 ⟨r7, rfl, hs9, H⟩
  have hst12 := Stp.same hO hs9
  replace hO := hst12.own
  replace h_t := h_t.ch hst12.ch
  replace h_numbers := h_numbers.ch hst12.ch
  replace hB := hB.trans hst12.fr
  refine GoR.op ((op_pickT rfl rfl rfl) _) rfl rfl ?_
  refine GoR.op ((op_assign rfl) _) rfl rfl ?_
  refine GoR.nil ?_
  refine Go1.ret1 Try.func67 rfl ?_
  exact ⟨r7, rfl, hB.same, H⟩
theorem body25 : Body Try.prog 25 := ⟨Try.f25, Try.func25, rfl, by kernel_rfl⟩
theorem walk_mult_IndexPeriod {A : List Nat} {w0 : World} {p_t : Option Addr} {c_t : Nat} {t : List (List Int)} {x : Int} (hA : ∀ b ∈ A, b < w0.heap.size) (h_t : ISl (Rp.sl (Rp.int .i64)) A w0 p_t c_t t) {K : Int → Int → Prop} (H : mult_IndexPeriod t x K) :
    CallsV Try.prog 25 #[.slice p_t t.length c_t, .int .i64 x] w0 (fun v w' => ∃ (r0 : Int), ∃ (r1 : Int), v = .tuple #[.int .i64 r0, .int .i64 r1] ∧ Same w0 w' ∧ K r0 r1) := by
 refine CallsV.of (l := [.slice p_t t.length c_t, .int .i64 x]) Try.func25 rfl Try.ntmps25 rfl ?_
 have hO := Owns.start hA
 have hB := Fr.refl (bl []) w0
 unfold mult_IndexPeriod at H
 replace h_t := h_t.ch (Ch.start A w0)
 refine Go1.seq ?_
 refine Go1.region ?_
 refine GoR.op ((op_assign rfl) _) rfl rfl ?_
 refine GoR.op ((op_assign rfl) _) rfl rfl ?_
 refine GoR.nil ?_
 refine Go1.seq ?_
 refine Go1.seq ?_
 refine Go1.region ?_
 refine GoR.op ((op_move rfl) _) rfl rfl ?_
 refine GoR.op ((op_move rfl) _) rfl rfl ?_
 have hobt := obuild (r := Rp.int .i64) (n := 1) (parts := [(0, .int .i64 x)]) (vs := [.int .i64 x]) (xs := [x]) rfl Try.underlying23 ti3 hO (by decide) (by kernel_rfl) (Els.cons rfl rfl (Els.nil _ _ _) (by simp [mx])) rfl
 obtain ⟨w1, p2, hst3, hE4, hs5, hop6⟩ := hobt
 refine GoR.op (hop6 rfl) rfl rfl ?_
 replace hO := hst3.own
 replace h_t := h_t.ch hst3.ch
 replace hB := hB.trans hst3.fr
 have hobt := rowlend 0 hO rfl hE4
 obtain ⟨hl8, hn9⟩ := hobt
 have hOc10 := hO.drop 0
 refine GoR.call (op_call body67 (show ([.slice p_t t.length c_t, .slice p2 1 1] : List Value) = [.slice p_t t.length c_t, .slice p2 ([x]).length 1] from by rw [← hn9]) (walk_mult_has hOc10.lt (h_t.ch (Owns.dropCh _ _ 0)) hl8 H)) rfl rfl ?_
 rintro v15 w12 ⟨r11, rfl, hs13, H⟩
 have hst16 := Stp.same hO hs13
 replace hE4 := hE4.ch hst16.ch
 replace hO := hst16.own
 replace h_t := h_t.ch hst16.ch
 replace hB := hB.trans hst16.fr
 cases r11
 ·replace H := ifn Bool.false_ne_true H
  refine GoR.op ((op_not rfl) _) rfl rfl ?_
  refine GoR.nil ?_
  refine Go1.condT rfl rfl ?_
  refine Go1.seq ?_
  refine Go1.region ?_
  refine GoR.op ((op_assign rfl) _) rfl rfl ?_
  refine GoR.op ((op_assign rfl) _) rfl rfl ?_
  refine GoR.nil ?_
  refine Go1.ret2 Try.func25 rfl ?_
  exact ⟨(0 : Int), (0 : Int), rfl, hB.same, H⟩
 ·replace H := ifp rfl H
  refine GoR.op ((op_not rfl) _) rfl rfl ?_
  refine GoR.nil ?_
  refine Go1.condF rfl rfl ?_
  refine Go1.skip ?_
  refine Go1.seq ?_
  refine Go1.region ?_
  refine GoR.op ((op_move rfl) _) rfl rfl ?_
  refine GoR.op ((op_len Try.underlying22 rfl) _) rfl rfl ?_
  replace H := H h_t.bd
  obtain ⟨h24, H⟩ := H
  obtain ⟨h25, H⟩ := H
  have hobt := omake (n := (t.length : Int)) (r := Rp.int .i64) (d := (0 : Int)) Try.underlying23 ti3 (fun _ _ => rfl) rfl hO h24 h25 (by decide)
  obtain ⟨w17, p18, vs19, hst20, hE21, hs22, hop23⟩ := hobt
  refine GoR.op (hop23 rfl rfl) rfl rfl ?_
  replace hE4 := hE4.ch hst20.ch
  replace hO := hst20.own
  replace h_t := h_t.ch hst20.ch
  replace hB := hB.trans hst20.fr
  refine GoR.op ((op_assign rfl) _) rfl rfl ?_
  refine GoR.nil ?_
  refine Go1.seq ?_
  refine Go1.region ?_
  refine GoR.op ((op_move rfl) _) rfl rfl ?_
  refine GoR.op ((op_assign rfl) _) rfl rfl ?_
  refine GoR.op ((op_assign rfl) _) rfl rfl ?_
  refine GoR.nil ?_
  refine Go1.seq ?_
  refine Go1.block ?_
  replace h_t := h_t.ch (Owns.dropCh _ _ 1)
  replace hE21 := hE21.ch (Owns.dropCh _ _ 1)
  replace hB := hB.trans (Owns.dropFr _ _ 1)
  replace hO := hO.drop 1
  refine Go1.loopW (S := Int × Nat × List Int) (fun s σ w => ∃ (vs31 : List Value), agrees σ [(0, .slice p_t t.length c_t), (1, .int .i64 x), (6, .slice p18 t.length t.length), (7, .int .i64 (s.1)), (8, .int .i64 ((s.2.1) : Int))] ∧ Owns w0.heap.size w [.row 3 1 p18 t.length t.length vs31] A ∧ Els (Rp.int .i64) (bl [.row 3 1 p18 t.length t.length vs31] ++ A) w vs31 (s.2.2) ∧ ISl (Rp.sl (Rp.int .i64)) (bl [.row 3 1 p18 t.length t.length vs31] ++ A) w p_t c_t t ∧ Fr (bl []) w0 (bl [.row 3 1 p18 t.length t.length vs31]) w) H ⟨vs19, ⟨rfl, rfl, rfl, rfl, rfl, trivial⟩, hO, hE21, h_t, hB⟩ ?_
  rintro X1 ⟨y1_28, k1_29, exponent1_30⟩ H hX1 σ w27 ⟨vs31, hag, hO, hE32, h_t, hB⟩
  dsimp only at H
  refine Go1.keep [(0, .slice p_t t.length c_t), (1, .int .i64 x), (6, .slice p18 t.length t.length), (7, .int .i64 y1_28), (8, .int .i64 (k1_29 : Int))] hag ?_
  refine Go1.seq ?_
  refine Go1.seq ?_
  refine Go1.region ?_
  refine GoR.op ((op_move rfl) _) rfl rfl ?_
  refine GoR.op ((op_move rfl) _) rfl rfl ?_
  obtain ⟨h33, H⟩ := H
  obtain ⟨h34, H⟩ := H
  refine GoR.op ((op_index Try.underlying23 ti3 rfl rfl h33 (ltn (hE32.neq hO 0 rfl) h34) (hE32.psome hO 0 rfl h33 h34)) _) rfl rfl ?_
  refine GoR.op ((oldInt 0 hO rfl hE32 h33 h34 Try.underlying3 rfl rfl) _ (Same.refl _)) rfl rfl ?_
  by_cases h35 : (ix exponent1_30 y1_28) = (0 : Int)
  ·replace H := ifp h35 H
   refine GoR.op ((fun w => opB (op_eql rfl rfl w) (decide_eq_true h35)) _) rfl rfl ?_
   refine GoR.nil ?_
   refine Go1.condT rfl rfl ?_
   refine Go1.skip ?_
   refine Go1.block ?_
   refine Go1.seq ?_
   refine Go1.region ?_
   refine GoR.op ((op_move rfl) _) rfl rfl ?_
   refine GoR.op ((op_move rfl) _) rfl rfl ?_
   refine GoR.op ((op_move rfl) _) rfl rfl ?_
   obtain ⟨h36, H⟩ := H
   obtain ⟨h37, H⟩ := H
   refine GoR.op ((op_index Try.underlying23 ti3 rfl rfl h36 (ltn (hE32.neq hO 0 rfl) h37) (hE32.psome hO 0 rfl h36 h37)) _) rfl rfl ?_
   have hobt := ost (r := Rp.int .i64) rfl 0 hO rfl hE32 h36 h37 (v := .int .i64 (k1_29 : Int)) (u := (k1_29 : Int)) rfl rfl
   obtain ⟨w38, vs39, hst40, hE41, hop42⟩ := hobt
   refine GoR.op (hop42 Try.underlying3 rfl ti3 rfl rfl) rfl rfl ?_
   replace hO := hst40.own
   replace h_t := h_t.ch hst40.ch
   replace hB := hB.trans hst40.fr
   refine GoR.nil ?_
   refine Go1.seq ?_
   refine Go1.region ?_
   refine GoR.op ((op_move rfl) _) rfl rfl ?_
   refine GoR.op ((op_move rfl) _) rfl rfl ?_
   obtain ⟨h43, H⟩ := H
   obtain ⟨h44, H⟩ := H
   refine GoR.op ((op_index Try.underlying22 ti23 rfl rfl h43 h44 (h_t.some_ h43 h44)) _) rfl rfl ?_
   have hobt := ldSl h_t h43 h44
   obtain ⟨p45, c46, hi47, hl48⟩ := hobt
   refine GoR.op ((hl48 Try.underlying23 rfl rfl) _ (Same.refl _)) rfl rfl ?_
   refine GoR.op ((op_move rfl) _) rfl rfl ?_
   obtain ⟨h49, H⟩ := H
   obtain ⟨h50, H⟩ := H
   refine GoR.op ((op_index Try.underlying23 ti3 rfl rfl h49 h50 (hi47.some_ h49 h50)) _) rfl rfl ?_
   refine GoR.op ((ldInt hi47 h49 h50 Try.underlying3 rfl rfl) _ (Same.refl _)) rfl rfl ?_
   refine GoR.op ((op_assign rfl) _) rfl rfl ?_
   refine GoR.nil ?_
   refine Go1.region ?_
   refine GoR.op ((op_move rfl) _) rfl rfl ?_
   obtain ⟨h51, H⟩ := H
   refine GoR.op ((op_add rfl rfl (wrap_i64 h51)) _) rfl rfl ?_
   refine GoR.op ((op_assign rfl) _) rfl rfl ?_
   refine GoR.nil ?_
   refine Go1.inBlock ?_
   exact hX1 _ H _ _ ⟨vs39, ⟨rfl, rfl, rfl, rfl, rfl, trivial⟩, hO, hE41, h_t, hB⟩
  ·replace H := ifn h35 H
   refine GoR.op ((fun w => opB (op_eql rfl rfl w) (decide_eq_false h35)) _) rfl rfl ?_
   refine GoR.nil ?_
   refine Go1.condF rfl rfl ?_
   refine Go1.exit rfl ?_
   refine Go1.seq ?_
   refine Go1.drawS 0 [(0, .pure), (1, .pure), (2, .pure), (3, .stable), (4, .pure), (5, .pure), (6, .pure), (7, .pure), (8, .stable), (9, .pure), (10, .pure), (11, .pure)] mixed (by kernel_rfl) ?_
   intro w52 hs53
   have hst54 := Stp.same hO hs53
   replace hE32 := hE32.ch hst54.ch
   replace hO := hst54.own
   replace h_t := h_t.ch hst54.ch
   replace hB := hB.trans hst54.fr
   refine GoQ.pure rfl (op_move rfl) rfl rfl ?_
   refine GoQ.pure rfl (op_move rfl) rfl rfl ?_
   obtain ⟨h55, H⟩ := H
   obtain ⟨h56, H⟩ := H
   refine GoQ.pure rfl (op_index Try.underlying23 ti3 rfl rfl h55 (ltn (hE32.neq hO 0 rfl) h56) (hE32.psome hO 0 rfl h55 h56)) rfl rfl ?_
   refine GoQ.stable rfl (oldInt 0 hO rfl hE32 h55 h56 Try.underlying3 rfl rfl) rfl rfl ?_
   refine GoQ.pure rfl (op_move rfl) rfl rfl ?_
   refine GoQ.pure rfl (op_move rfl) rfl rfl ?_
   refine GoQ.pure rfl (op_move rfl) rfl rfl ?_
   obtain ⟨h57, H⟩ := H
   obtain ⟨h58, H⟩ := H
   refine GoQ.pure rfl (op_index Try.underlying23 ti3 rfl rfl h57 (ltn (hE32.neq hO 0 rfl) h58) (hE32.psome hO 0 rfl h57 h58)) rfl rfl ?_
   refine GoQ.stable rfl (oldInt 0 hO rfl hE32 h57 h58 Try.underlying3 rfl rfl) rfl rfl ?_
   obtain ⟨h59, H⟩ := H
   refine GoQ.pure rfl (op_sub rfl rfl (wrap_i64 h59)) rfl rfl ?_
   refine GoQ.pure rfl (op_assign rfl) rfl rfl ?_
   refine GoQ.pure rfl (op_assign rfl) rfl rfl ?_
   refine GoQ.nil ?_
   refine Go1.ret2 Try.func25 rfl ?_
   exact ⟨(ix exponent1_30 y1_28), ((k1_29 : Int) - (ix exponent1_30 y1_28)), rfl, hB.same, H⟩
theorem body68 : Body Try.prog 68 := ⟨Try.f68, Try.func68, rfl, by kernel_rfl⟩
theorem walk_mult_power {A : List Nat} {w0 : World} {p_t : Option Addr} {c_t : Nat} {t : List (List Int)} {x : Int} {k : Int} (hA : ∀ b ∈ A, b < w0.heap.size) (h_t : ISl (Rp.sl (Rp.int .i64)) A w0 p_t c_t t) {K : Int → Prop} (H : mult_power t x k K) :
    CallsV Try.prog 68 #[.slice p_t t.length c_t, .int .i64 x, .int .i64 k] w0 (fun v w' => ∃ (r0 : Int), v = .int .i64 r0 ∧ Same w0 w' ∧ K r0) := by
 refine CallsV.of (l := [.slice p_t t.length c_t, .int .i64 x, .int .i64 k]) Try.func68 rfl Try.ntmps68 rfl ?_
 have hO := Owns.start hA
 have hB := Fr.refl (bl []) w0
 unfold mult_power at H
 replace h_t := h_t.ch (Ch.start A w0)
 refine Go1.seq ?_
 refine Go1.region ?_
 refine GoR.op ((op_assign rfl) _) rfl rfl ?_
 refine GoR.nil ?_
 refine Go1.seq ?_
 refine Go1.region ?_
 refine GoR.op ((op_move rfl) _) rfl rfl ?_
 refine GoR.op ((op_assign rfl) _) rfl rfl ?_
 refine GoR.nil ?_
 refine Go1.seq ?_
 refine Go1.seq ?_
 refine Go1.region ?_
 refine GoR.op ((op_move rfl) _) rfl rfl ?_
 obtain ⟨h1, H⟩ := H
 refine GoR.op ((op_sub rfl rfl (wrap_i64 h1)) _) rfl rfl ?_
 refine GoR.op ((op_assign rfl) _) rfl rfl ?_
 refine GoR.nil ?_
 refine Go1.block ?_
 refine Go1.loopW (S := Int × Int × Int) (fun s σ w => agrees σ [(0, .slice p_t t.length c_t), (1, .int .i64 (s.1)), (2, .int .i64 (s.2.1)), (7, .int .i64 (s.2.2))] ∧ Owns w0.heap.size w [] A ∧ ISl (Rp.sl (Rp.int .i64)) (bl [] ++ A) w p_t c_t t ∧ Fr (bl []) w0 (bl []) w) H ⟨⟨rfl, rfl, rfl, rfl, trivial⟩, hO, h_t, hB⟩ ?_
 rintro X1 ⟨x1_3, k1_4, result1_5⟩ H hX1 σ w2 ⟨hag, hO, h_t, hB⟩
 dsimp only at H
 refine Go1.keep [(0, .slice p_t t.length c_t), (1, .int .i64 x1_3), (2, .int .i64 k1_4), (7, .int .i64 result1_5)] hag ?_
 refine Go1.seq ?_
 refine Go1.seq ?_
 refine Go1.region ?_
 refine GoR.op ((op_move rfl) _) rfl rfl ?_
 by_cases h6 : (0 : Int) < k1_4
 ·replace H := ifp h6 H
  refine GoR.op ((fun w => opB (op_gtr rfl rfl w) (decide_eq_true h6)) _) rfl rfl ?_
  refine GoR.nil ?_
  refine Go1.condT rfl rfl ?_
  refine Go1.skip ?_
  refine Go1.seq ?_
  refine Go1.block ?_
  refine Go1.seq ?_
  refine Go1.seq ?_
  refine Go1.region ?_
  refine GoR.op ((op_move rfl) _) rfl rfl ?_
  refine GoR.op ((op_and rfl rfl) _) rfl rfl ?_
  by_cases h7 : (bits .and .i64 k1_4 (1 : Int)) = (1 : Int)
  ·replace H := ifp h7 H
   refine GoR.op ((fun w => opB (op_eql rfl rfl w) (decide_eq_true h7)) _) rfl rfl ?_
   refine GoR.nil ?_
   refine Go1.condT rfl rfl ?_
   refine Go1.region ?_
   refine GoR.op ((op_move rfl) _) rfl rfl ?_
   refine GoR.op ((op_move rfl) _) rfl rfl ?_
   obtain ⟨h8, H⟩ := H
   obtain ⟨h9, H⟩ := H
   refine GoR.op ((op_index Try.underlying22 ti23 rfl rfl h8 h9 (h_t.some_ h8 h9)) _) rfl rfl ?_
   have hobt := ldSl h_t h8 h9
   obtain ⟨p10, c11, hi12, hl13⟩ := hobt
   refine GoR.op ((hl13 Try.underlying23 rfl rfl) _ (Same.refl _)) rfl rfl ?_
   refine GoR.op ((op_move rfl) _) rfl rfl ?_
   obtain ⟨h14, H⟩ := H
   obtain ⟨h15, H⟩ := H
   refine GoR.op ((op_index Try.underlying23 ti3 rfl rfl h14 h15 (hi12.some_ h14 h15)) _) rfl rfl ?_
   refine GoR.op ((ldInt hi12 h14 h15 Try.underlying3 rfl rfl) _ (Same.refl _)) rfl rfl ?_
   refine GoR.op ((op_assign rfl) _) rfl rfl ?_
   refine GoR.nil ?_
   refine Go1.region ?_
   refine GoR.op ((op_move rfl) _) rfl rfl ?_
   refine GoR.op ((op_move rfl) _) rfl rfl ?_
   obtain ⟨h16, H⟩ := H
   obtain ⟨h17, H⟩ := H
   refine GoR.op ((op_index Try.underlying22 ti23 rfl rfl h16 h17 (h_t.some_ h16 h17)) _) rfl rfl ?_
   have hobt := ldSl h_t h16 h17
   obtain ⟨p18, c19, hi20, hl21⟩ := hobt
   refine GoR.op ((hl21 Try.underlying23 rfl rfl) _ (Same.refl _)) rfl rfl ?_
   refine GoR.op ((op_move rfl) _) rfl rfl ?_
   obtain ⟨h22, H⟩ := H
   obtain ⟨h23, H⟩ := H
   refine GoR.op ((op_index Try.underlying23 ti3 rfl rfl h22 h23 (hi20.some_ h22 h23)) _) rfl rfl ?_
   refine GoR.op ((ldInt hi20 h22 h23 Try.underlying3 rfl rfl) _ (Same.refl _)) rfl rfl ?_
   refine GoR.op ((op_assign rfl) _) rfl rfl ?_
   refine GoR.nil ?_
   refine Go1.inBlock ?_
   refine Go1.region ?_
   refine GoR.op ((op_move rfl) _) rfl rfl ?_
   refine GoR.op ((op_shr rfl rfl (by decide) rfl) _) rfl rfl ?_
   refine GoR.op ((op_assign rfl) _) rfl rfl ?_
   refine GoR.nil ?_
   exact hX1 _ H _ _ ⟨⟨rfl, rfl, rfl, rfl, trivial⟩, hO, h_t, hB⟩
  ·replace H := ifn h7 H
   refine GoR.op ((fun w => opB (op_eql rfl rfl w) (decide_eq_false h7)) _) rfl rfl ?_
   refine GoR.nil ?_
   refine Go1.condF rfl rfl ?_
   refine Go1.skip ?_
   refine Go1.region ?_
   refine GoR.op ((op_move rfl) _) rfl rfl ?_
   refine GoR.op ((op_move rfl) _) rfl rfl ?_
   obtain ⟨h24, H⟩ := H
   obtain ⟨h25, H⟩ := H
   refine GoR.op ((op_index Try.underlying22 ti23 rfl rfl h24 h25 (h_t.some_ h24 h25)) _) rfl rfl ?_
   have hobt := ldSl h_t h24 h25
   obtain ⟨p26, c27, hi28, hl29⟩ := hobt
   refine GoR.op ((hl29 Try.underlying23 rfl rfl) _ (Same.refl _)) rfl rfl ?_
   refine GoR.op ((op_move rfl) _) rfl rfl ?_
   obtain ⟨h30, H⟩ := H
   obtain ⟨h31, H⟩ := H
   refine GoR.op ((op_index Try.underlying23 ti3 rfl rfl h30 h31 (hi28.some_ h30 h31)) _) rfl rfl ?_
   refine GoR.op ((ldInt hi28 h30 h31 Try.underlying3 rfl rfl) _ (Same.refl _)) rfl rfl ?_
   refine GoR.op ((op_assign rfl) _) rfl rfl ?_
   refine GoR.nil ?_
   refine Go1.inBlock ?_
   refine Go1.region ?_
   refine GoR.op ((op_move rfl) _) rfl rfl ?_
   refine GoR.op ((op_shr rfl rfl (by decide) rfl) _) rfl rfl ?_
   refine GoR.op ((op_assign rfl) _) rfl rfl ?_
   refine GoR.nil ?_
   exact hX1 _ H _ _ ⟨⟨rfl, rfl, rfl, rfl, trivial⟩, hO, h_t, hB⟩
 ·replace H := ifn h6 H
  refine GoR.op ((fun w => opB (op_gtr rfl rfl w) (decide_eq_false h6)) _) rfl rfl ?_
  refine GoR.nil ?_
  refine Go1.condF rfl rfl ?_
  refine Go1.exit rfl ?_
  refine Go1.seq ?_
  refine Go1.region ?_
  refine GoR.op ((op_move rfl) _) rfl rfl ?_
  refine GoR.op ((op_assign rfl) _) rfl rfl ?_
  refine GoR.nil ?_
  refine Go1.ret1 Try.func68 rfl ?_
  exact ⟨result1_5, rfl, hB.same, H⟩
theorem body24 : Body Try.prog 24 := ⟨Try.f24, Try.func24, rfl, by kernel_rfl⟩
theorem walk_mult_Omega {A : List Nat} {w0 : World} {p_t : Option Addr} {c_t : Nat} {t : List (List Int)} {x : Int} (hA : ∀ b ∈ A, b < w0.heap.size) (h_t : ISl (Rp.sl (Rp.int .i64)) A w0 p_t c_t t) {K : Int → Prop} (H : mult_Omega t x K) :
    CallsV Try.prog 24 #[.slice p_t t.length c_t, .int .i64 x] w0 (fun v w' => ∃ (r0 : Int), v = .int .i64 r0 ∧ Same w0 w' ∧ K r0) := by
 refine CallsV.of (l := [.slice p_t t.length c_t, .int .i64 x]) Try.func24 rfl Try.ntmps24 rfl ?_
 have hO := Owns.start hA
 have hB := Fr.refl (bl []) w0
 unfold mult_Omega at H
 replace h_t := h_t.ch (Ch.start A w0)
 refine Go1.seq ?_
 refine Go1.region ?_
 refine GoR.op ((op_assign rfl) _) rfl rfl ?_
 refine GoR.nil ?_
 refine Go1.seq ?_
 refine Go1.region ?_
 refine GoR.op ((op_move rfl) _) rfl rfl ?_
 refine GoR.op ((op_move rfl) _) rfl rfl ?_
 refine GoR.call (op_call body25 rfl (walk_mult_IndexPeriod hO.lt h_t H)) rfl rfl ?_
 rintro v6 w3 ⟨r1, r2, rfl, hs4, H⟩
 have hst7 := Stp.same hO hs4
 replace hO := hst7.own
 replace h_t := h_t.ch hst7.ch
 replace hB := hB.trans hst7.fr
 refine GoR.op ((op_move rfl) _) rfl rfl ?_
 refine GoR.op ((op_extract rfl rfl) _) rfl rfl ?_
 refine GoR.op ((op_extract rfl rfl) _) rfl rfl ?_
 refine GoR.op ((op_assign rfl) _) rfl rfl ?_
 refine GoR.op ((op_assign rfl) _) rfl rfl ?_
 refine GoR.nil ?_
 refine Go1.seq ?_
 refine Go1.seq ?_
 refine Go1.region ?_
 refine GoR.op ((op_move rfl) _) rfl rfl ?_
 by_cases h8 : r2 = (0 : Int)
 ·replace H := ifp h8 H
  refine GoR.op ((fun w => opB (op_eql rfl rfl w) (decide_eq_true h8)) _) rfl rfl ?_
  refine GoR.nil ?_
  refine Go1.condT rfl rfl ?_
  refine Go1.seq ?_
  refine Go1.region ?_
  refine GoR.op ((op_assign rfl) _) rfl rfl ?_
  refine GoR.nil ?_
  refine Go1.ret1 Try.func24 rfl ?_
  exact ⟨(-1 : Int), rfl, hB.same, H⟩
 ·replace H := ifn h8 H
  refine GoR.op ((fun w => opB (op_eql rfl rfl w) (decide_eq_false h8)) _) rfl rfl ?_
  refine GoR.nil ?_
  refine Go1.condF rfl rfl ?_
  refine Go1.skip ?_
  refine Go1.seq ?_
  refine Go1.region ?_
  refine GoR.op ((op_move rfl) _) rfl rfl ?_
  refine GoR.op ((op_move rfl) _) rfl rfl ?_
  refine GoR.op ((op_move rfl) _) rfl rfl ?_
  refine GoR.op ((op_move rfl) _) rfl rfl ?_
  obtain ⟨h9, H⟩ := H
  refine GoR.op ((op_add rfl rfl (wrap_i64 h9)) _) rfl rfl ?_
  obtain ⟨h10, H⟩ := H
  refine GoR.op ((op_sub rfl rfl (wrap_i64 h10)) _) rfl rfl ?_
  refine GoR.op ((op_move rfl) _) rfl rfl ?_
  obtain ⟨h11, H⟩ := H
  obtain ⟨h12, H⟩ := H
  refine GoR.op ((op_quo rfl rfl h11 (wrap_i64 h12)) _) rfl rfl ?_
  refine GoR.op ((op_move rfl) _) rfl rfl ?_
  obtain ⟨h13, H⟩ := H
  refine GoR.op ((op_mul rfl rfl (wrap_i64 h13)) _) rfl rfl ?_
  refine GoR.call (op_call body68 rfl (walk_mult_power hO.lt h_t H)) rfl rfl ?_
  rintro v18 w15 ⟨r14, rfl, hs16, H⟩
  have hst19 := Stp.same hO hs16
  replace hO := hst19.own
  replace h_t := h_t.ch hst19.ch
  replace hB := hB.trans hst19.fr
  refine GoR.op ((op_assign rfl) _) rfl rfl ?_
  refine GoR.nil ?_
  refine Go1.ret1 Try.func24 rfl ?_
  exact ⟨r14, rfl, hB.same, H⟩
theorem body75 : Body Try.prog 75 := ⟨Try.f75, Try.func75, rfl, by kernel_rfl⟩
theorem body36 : Body Try.prog 36 := ⟨Try.f36, Try.func36, rfl, by kernel_rfl⟩
theorem walk_mult_Zero {A : List Nat} {w0 : World} {p_t : Option Addr} {c_t : Nat} {t : List (List Int)} (hA : ∀ b ∈ A, b < w0.heap.size) (h_t : ISl (Rp.sl (Rp.int .i64)) A w0 p_t c_t t) {K : Int → Prop} (H : mult_Zero t K) :
    CallsV Try.prog 36 #[.slice p_t t.length c_t] w0 (fun v w' => ∃ (r0 : Int), v = .int .i64 r0 ∧ Same w0 w' ∧ K r0) := by
 refine CallsV.of (l := [.slice p_t t.length c_t]) Try.func36 rfl Try.ntmps36 rfl ?_
 have hO := Owns.start hA
 have hB := Fr.refl (bl []) w0
 unfold mult_Zero at H
 replace h_t := h_t.ch (Ch.start A w0)
 refine Go1.seq ?_
 refine Go1.region ?_
 have hobt := obox (t := 22) (v := .slice p_t t.length c_t) (cs := #[.slice p_t t.length c_t]) hO rfl
 obtain ⟨w1, B2, hst3, hs4, hop5⟩ := hobt
 refine GoR.op (hop5 rfl) rfl rfl ?_
 replace hO := hst3.own
 replace h_t := h_t.ch hst3.ch
 replace hB := hB.trans hst3.fr
 refine GoR.op ((op_assign rfl) _) rfl rfl ?_
 refine GoR.nil ?_
 refine Go1.seq ?_
 refine Go1.seq ?_
 refine Go1.region ?_
 refine GoR.op ((oblk 0 hO rfl rfl Try.underlying22 rfl rfl) _ (Same.refl _)) rfl rfl ?_
 refine GoR.call (op_call body71 rfl (walk_mult_valid hO.lt h_t H)) rfl rfl ?_
 rintro v11 w8 ⟨r7, rfl, hs9, H⟩
 have hst12 := Stp.same hO hs9
 replace hO := hst12.own
 replace h_t := h_t.ch hst12.ch
 replace hB := hB.trans hst12.fr
 cases r7
 ·replace H := ifn Bool.false_ne_true H
  refine GoR.op ((op_not rfl) _) rfl rfl ?_
  refine GoR.nil ?_
  refine Go1.condT rfl rfl ?_
  refine Go1.seq ?_
  refine Go1.region ?_
  refine GoR.op ((op_assign rfl) _) rfl rfl ?_
  refine GoR.nil ?_
  refine Go1.ret1 Try.func36 rfl ?_
  exact ⟨(-1 : Int), rfl, hB.same, H⟩
 ·replace H := ifp rfl H
  refine GoR.op ((op_not rfl) _) rfl rfl ?_
  refine GoR.nil ?_
  refine Go1.condF rfl rfl ?_
  refine Go1.skip ?_
  refine Go1.seq ?_
  refine Go1.region ?_
  refine GoR.op ((oblk 0 hO rfl rfl Try.underlying22 rfl rfl) _ (Same.refl _)) rfl rfl ?_
  refine GoR.call (op_call body73 rfl (walk_mult_elements hO.lt h_t H)) rfl rfl ?_
  rintro v18 w15 ⟨r13, n_r13, p_r13, c_r13, vs_r13, rfl, hs16, hN17, hE14, H⟩
  have hst19 := Stp.more hO hs16 hN17
  replace hO := hst19.own
  replace h_t := h_t.ch hst19.ch
  replace hB := hB.trans hst19.fr
  replace hE14 := hE14.ch (Ch.assoc _ _ _ _)
  refine GoR.op ((op_makeFunc (vs := [.pointer (some ⟨B2, 0, none⟩)]) rfl) _) rfl rfl ?_
  refine GoR.inl (vs := [.slice p_r13 n_r13 c_r13, .func (.func 75) #[] #[.pointer (some ⟨B2, 0, none⟩)]]) (caps := []) rfl rfl body72 Try.func72 rfl Try.ntmps72 rfl rfl rfl ?_
  intro RhR21 hR21
  refine Go1.seq ?_
  refine Go1.region ?_
  refine GoR.op ((op_assign rfl) _) rfl rfl ?_
  refine GoR.nil ?_
  refine Go1.seq ?_
  refine Go1.seq ?_
  refine Go1.region ?_
  refine GoR.op ((op_move rfl) _) rfl rfl ?_
  refine GoR.op ((op_lenN Try.underlying23 rfl (hE14.neq hO 0 rfl)) _) rfl rfl ?_
  refine GoR.op ((op_move rfl) _) rfl rfl ?_
  refine GoR.nil ?_
  refine Go1.block ?_
  refine Go1.loopW (S := Nat) (fun s σ w => agrees σ [(0, .slice p_r13 n_r13 c_r13), (1, .func (.func 75) #[] #[.pointer (some ⟨B2, 0, none⟩)]), (7, .int .i64 (r13.length : Int)), (8, .int .i64 (s : Int))] ∧ Owns w0.heap.size w [.row 3 1 p_r13 n_r13 c_r13 vs_r13, .blk B2 (.cells #[.slice p_t t.length c_t] 22 (0, 0))] A ∧ Els (Rp.int .i64) (bl [.row 3 1 p_r13 n_r13 c_r13 vs_r13, .blk B2 (.cells #[.slice p_t t.length c_t] 22 (0, 0))] ++ A) w vs_r13 r13 ∧ ISl (Rp.sl (Rp.int .i64)) (bl [.row 3 1 p_r13 n_r13 c_r13 vs_r13, .blk B2 (.cells #[.slice p_t t.length c_t] 22 (0, 0))] ++ A) w p_t c_t t ∧ Fr (bl []) w0 (bl [.row 3 1 p_r13 n_r13 c_r13 vs_r13, .blk B2 (.cells #[.slice p_t t.length c_t] 22 (0, 0))]) w) H ⟨⟨rfl, rfl, rfl, rfl, trivial⟩, hO, hE14, h_t, hB⟩ ?_
  rintro X1 k1_23 H hX1 σ w22 ⟨hag, hO, hE14, h_t, hB⟩
  refine Go1.keep [(0, .slice p_r13 n_r13 c_r13), (1, .func (.func 75) #[] #[.pointer (some ⟨B2, 0, none⟩)]), (7, .int .i64 (r13.length : Int)), (8, .int .i64 (k1_23 : Int))] hag ?_
  refine Go1.seq ?_
  refine Go1.region ?_
  by_cases h24 : (k1_23 : Int) < (r13.length : Int)
  ·replace H := ifp h24 H
   refine GoR.op ((fun w => opB (op_lss rfl rfl w) (decide_eq_true h24)) _) rfl rfl ?_
   refine GoR.nil ?_
   refine Go1.seq ?_
   refine Go1.condT rfl rfl ?_
   refine Go1.skip ?_
   refine Go1.seq ?_
   refine Go1.block ?_
   refine Go1.seq ?_
   refine Go1.region ?_
   refine GoR.op ((op_move rfl) _) rfl rfl ?_
   refine GoR.op ((op_assign rfl) _) rfl rfl ?_
   refine GoR.nil ?_
   refine Go1.seq ?_
   refine Go1.region ?_
   refine GoR.op ((op_move rfl) _) rfl rfl ?_
   refine GoR.op ((op_move rfl) _) rfl rfl ?_
   refine GoR.op ((op_move rfl) _) rfl rfl ?_
   obtain ⟨h25, H⟩ := H
   obtain ⟨h26, H⟩ := H
   refine GoR.op ((op_index Try.underlying23 ti3 rfl rfl h25 (ltn (hE14.neq hO 0 rfl) h26) (hE14.psome hO 0 rfl h25 h26)) _) rfl rfl ?_
   refine GoR.op ((oldInt 0 hO rfl hE14 h25 h26 Try.underlying3 rfl rfl) _ (Same.refl _)) rfl rfl ?_
   refine GoR.inl (vs := [.int .i64 (ix r13 (k1_23 : Int))]) (caps := [.pointer (some ⟨B2, 0, none⟩)]) rfl rfl body75 Try.func75 rfl Try.ntmps75 rfl rfl rfl ?_
   intro RhR27 hR27
   refine Go1.seq ?_
   refine Go1.region ?_
   refine GoR.op ((op_assign rfl) _) rfl rfl ?_
   refine GoR.nil ?_
   refine Go1.seq ?_
   refine Go1.seq ?_
   refine Go1.region ?_
   refine GoR.op ((oblk 1 hO rfl rfl Try.underlying22 rfl rfl) _ (Same.refl _)) rfl rfl ?_
   refine GoR.op ((op_len Try.underlying22 rfl) _) rfl rfl ?_
   replace H := H h_t.bd
   refine GoR.op ((op_move rfl) _) rfl rfl ?_
   refine GoR.nil ?_
   refine Go1.block ?_
   refine Go1.loopW (S := Nat) (fun s σ w => agrees σ [(0, .int .i64 (ix r13 (k1_23 : Int))), (1, .pointer (some ⟨B2, 0, none⟩)), (6, .int .i64 (t.length : Int)), (7, .int .i64 (s : Int))] ∧ Owns w0.heap.size w [.row 3 1 p_r13 n_r13 c_r13 vs_r13, .blk B2 (.cells #[.slice p_t t.length c_t] 22 (0, 0))] A ∧ Els (Rp.int .i64) (bl [.row 3 1 p_r13 n_r13 c_r13 vs_r13, .blk B2 (.cells #[.slice p_t t.length c_t] 22 (0, 0))] ++ A) w vs_r13 r13 ∧ ISl (Rp.sl (Rp.int .i64)) (bl [.row 3 1 p_r13 n_r13 c_r13 vs_r13, .blk B2 (.cells #[.slice p_t t.length c_t] 22 (0, 0))] ++ A) w p_t c_t t ∧ Fr (bl []) w0 (bl [.row 3 1 p_r13 n_r13 c_r13 vs_r13, .blk B2 (.cells #[.slice p_t t.length c_t] 22 (0, 0))]) w) H ⟨⟨rfl, rfl, rfl, rfl, trivial⟩, hO, hE14, h_t, hB⟩ ?_
   rintro X2 k2_29 H hX2 σ w28 ⟨hag, hO, hE14, h_t, hB⟩
   refine Go1.keep [(0, .int .i64 (ix r13 (k1_23 : Int))), (1, .pointer (some ⟨B2, 0, none⟩)), (6, .int .i64 (t.length : Int)), (7, .int .i64 (k2_29 : Int))] hag ?_
   refine Go1.seq ?_
   refine Go1.region ?_
   by_cases h30 : (k2_29 : Int) < (t.length : Int)
   ·replace H := ifp h30 H
    refine GoR.op ((fun w => opB (op_lss rfl rfl w) (decide_eq_true h30)) _) rfl rfl ?_
    refine GoR.nil ?_
    refine Go1.seq ?_
    refine Go1.condT rfl rfl ?_
    refine Go1.skip ?_
    refine Go1.seq ?_
    refine Go1.block ?_
    refine Go1.seq ?_
    refine Go1.region ?_
    refine GoR.op ((op_move rfl) _) rfl rfl ?_
    refine GoR.op ((op_assign rfl) _) rfl rfl ?_
    refine GoR.nil ?_
    refine Go1.seq ?_
    refine Go1.region ?_
    refine GoR.op ((oblk 1 hO rfl rfl Try.underlying22 rfl rfl) _ (Same.refl _)) rfl rfl ?_
    refine GoR.op ((op_move rfl) _) rfl rfl ?_
    obtain ⟨h31, H⟩ := H
    obtain ⟨h32, H⟩ := H
    refine GoR.op ((op_index Try.underlying22 ti23 rfl rfl h31 h32 (h_t.some_ h31 h32)) _) rfl rfl ?_
    have hobt := ldSl h_t h31 h32
    obtain ⟨p33, c34, hi35, hl36⟩ := hobt
    refine GoR.op ((hl36 Try.underlying23 rfl rfl) _ (Same.refl _)) rfl rfl ?_
    refine GoR.op ((op_move rfl) _) rfl rfl ?_
    obtain ⟨h37, H⟩ := H
    obtain ⟨h38, H⟩ := H
    refine GoR.op ((op_index Try.underlying23 ti3 rfl rfl h37 h38 (hi35.some_ h37 h38)) _) rfl rfl ?_
    refine GoR.op ((ldInt hi35 h37 h38 Try.underlying3 rfl rfl) _ (Same.refl _)) rfl rfl ?_
    refine GoR.op ((op_move rfl) _) rfl rfl ?_
    by_cases h39 : (ix (ix t (ix r13 (k1_23 : Int))) (k2_29 : Int)) = (ix r13 (k1_23 : Int))
    ·replace H := ifp h39 H
     refine GoR.op ((fun w => opB (op_neq rfl rfl w) (ndT h39)) _) rfl rfl ?_
     refine GoR.op ((op_move rfl) _) rfl rfl ?_
     refine GoR.op ((oblk 1 hO rfl rfl Try.underlying22 rfl rfl) _ (Same.refl _)) rfl rfl ?_
     refine GoR.op ((op_move rfl) _) rfl rfl ?_
     obtain ⟨h40, H⟩ := H
     obtain ⟨h41, H⟩ := H
     refine GoR.op ((op_index Try.underlying22 ti23 rfl rfl h40 h41 (h_t.some_ h40 h41)) _) rfl rfl ?_
     have hobt := ldSl h_t h40 h41
     obtain ⟨p42, c43, hi44, hl45⟩ := hobt
     refine GoR.op ((hl45 Try.underlying23 rfl rfl) _ (Same.refl _)) rfl rfl ?_
     refine GoR.op ((op_move rfl) _) rfl rfl ?_
     obtain ⟨h46, H⟩ := H
     obtain ⟨h47, H⟩ := H
     refine GoR.op ((op_index Try.underlying23 ti3 rfl rfl h46 h47 (hi44.some_ h46 h47)) _) rfl rfl ?_
     refine GoR.op ((ldInt hi44 h46 h47 Try.underlying3 rfl rfl) _ (Same.refl _)) rfl rfl ?_
     refine GoR.op ((op_move rfl) _) rfl rfl ?_
     by_cases h48 : (ix (ix t (k2_29 : Int)) (ix r13 (k1_23 : Int))) = (ix r13 (k1_23 : Int))
     ·replace H := ifp h48 H
      refine GoR.op ((fun w => opB (op_neq rfl rfl w) (ndT h48)) _) rfl rfl ?_
      refine GoR.op ((op_pickF rfl rfl rfl) _) rfl rfl ?_
      refine GoR.nil ?_
      refine Go1.condF rfl rfl ?_
      refine Go1.skip ?_
      refine Go1.inBlock ?_
      refine Go1.region ?_
      refine GoR.op ((op_add rfl rfl (wrap_i64 (natbd h30 h_t.bd))) _) rfl rfl ?_
      refine GoR.op ((op_move rfl) _) rfl rfl ?_
      refine GoR.nil ?_
      exact hX2 _ H _ _ ⟨⟨rfl, rfl, rfl, rfl, trivial⟩, hO, hE14, h_t, hB⟩
     ·replace H := ifn h48 H
      refine GoR.op ((fun w => opB (op_neq rfl rfl w) (ndF h48)) _) rfl rfl ?_
      refine GoR.op ((op_pickF rfl rfl rfl) _) rfl rfl ?_
      refine GoR.nil ?_
      refine Go1.condT rfl rfl ?_
      refine Go1.seq ?_
      refine Go1.region ?_
      refine GoR.op ((op_assign rfl) _) rfl rfl ?_
      refine GoR.nil ?_
      refine Go1.ret1V Try.func75 rfl (show _ = .bool false from rfl) ?_
      refine hR27 _ _ ?_
      refine GoR.nil ?_
      refine Go1.condF rfl rfl ?_
      refine Go1.skip ?_
      refine Go1.inBlock ?_
      refine Go1.region ?_
      refine GoR.op ((op_add rfl rfl (wrap_i64 (natbd h24 hE14.bd))) _) rfl rfl ?_
      refine GoR.op ((op_move rfl) _) rfl rfl ?_
      refine GoR.nil ?_
      exact hX1 _ H _ _ ⟨⟨rfl, rfl, rfl, rfl, trivial⟩, hO, hE14, h_t, hB⟩
    ·replace H := ifn h39 H
     refine GoR.op ((fun w => opB (op_neq rfl rfl w) (ndF h39)) _) rfl rfl ?_
     refine GoR.op ((op_move rfl) _) rfl rfl ?_
     refine GoR.pass rfl rfl ?_
     refine GoR.pass rfl rfl ?_
     refine GoR.pass rfl rfl ?_
     refine GoR.pass rfl rfl ?_
     refine GoR.pass rfl rfl ?_
     refine GoR.pass rfl rfl ?_
     refine GoR.pass rfl rfl ?_
     refine GoR.pass rfl rfl ?_
     refine GoR.pass rfl rfl ?_
     refine GoR.op ((op_pickT rfl rfl rfl) _) rfl rfl ?_
     refine GoR.nil ?_
     refine Go1.condT rfl rfl ?_
     refine Go1.seq ?_
     refine Go1.region ?_
     refine GoR.op ((op_assign rfl) _) rfl rfl ?_
     refine GoR.nil ?_
     refine Go1.ret1V Try.func75 rfl (show _ = .bool false from rfl) ?_
     refine hR27 _ _ ?_
     refine GoR.nil ?_
     refine Go1.condF rfl rfl ?_
     refine Go1.skip ?_
     refine Go1.inBlock ?_
     refine Go1.region ?_
     refine GoR.op ((op_add rfl rfl (wrap_i64 (natbd h24 hE14.bd))) _) rfl rfl ?_
     refine GoR.op ((op_move rfl) _) rfl rfl ?_
     refine GoR.nil ?_
     exact hX1 _ H _ _ ⟨⟨rfl, rfl, rfl, rfl, trivial⟩, hO, hE14, h_t, hB⟩
   ·replace H := ifn h30 H
    refine GoR.op ((fun w => opB (op_lss rfl rfl w) (decide_eq_false h30)) _) rfl rfl ?_
    refine GoR.nil ?_
    refine Go1.seq ?_
    refine Go1.condF rfl rfl ?_
    refine Go1.exit rfl ?_
    refine Go1.seq ?_
    refine Go1.region ?_
    refine GoR.op ((op_assign rfl) _) rfl rfl ?_
    refine GoR.nil ?_
    refine Go1.ret1V Try.func75 rfl (show _ = .bool true from rfl) ?_
    refine hR27 _ _ ?_
    refine GoR.nil ?_
    refine Go1.condT rfl rfl ?_
    refine Go1.seq ?_
    refine Go1.region ?_
    refine GoR.op ((op_move rfl) _) rfl rfl ?_
    refine GoR.op ((op_assign rfl) _) rfl rfl ?_
    refine GoR.nil ?_
    refine Go1.ret1V Try.func72 rfl (show _ = .int .i64 (k1_23 : Int) from rfl) ?_
    refine hR21 _ _ ?_
    refine GoR.op ((op_assign rfl) _) rfl rfl ?_
    refine GoR.nil ?_
    refine Go1.ret1 Try.func36 rfl ?_
    exact ⟨(k1_23 : Int), rfl, hB.same, H⟩
  ·replace H := ifn h24 H
   refine GoR.op ((fun w => opB (op_lss rfl rfl w) (decide_eq_false h24)) _) rfl rfl ?_
   refine GoR.nil ?_
   refine Go1.seq ?_
   refine Go1.condF rfl rfl ?_
   refine Go1.exit rfl ?_
   refine Go1.seq ?_
   refine Go1.region ?_
   refine GoR.op ((op_assign rfl) _) rfl rfl ?_
   refine GoR.nil ?_
   refine Go1.ret1V Try.func72 rfl (show _ = .int .i64 (-1 : Int) from rfl) ?_
   refine hR21 _ _ ?_
   refine GoR.op ((op_assign rfl) _) rfl rfl ?_
   refine GoR.nil ?_
   refine Go1.ret1 Try.func36 rfl ?_
   exact ⟨(-1 : Int), rfl, hB.same, H⟩
theorem body16 : Body Try.prog 16 := ⟨Try.f16, Try.func16, rfl, by kernel_rfl⟩
theorem walk_law14_awake {A : List Nat} {w0 : World} (hA : ∀ b ∈ A, b < w0.heap.size) {K : Bool → Prop} (H : law14_awake  K) :
    CallsV Try.prog 16 #[] w0 (fun v w' => ∃ (r0 : Bool), v = .bool r0 ∧ Same w0 w' ∧ K r0) := by
 refine CallsV.of (l := []) Try.func16 rfl Try.ntmps16 rfl ?_
 have hO := Owns.start hA
 have hB := Fr.refl (bl []) w0
 unfold law14_awake at H
 refine Go1.seq ?_
 refine Go1.region ?_
 refine GoR.op ((op_assign rfl) _) rfl rfl ?_
 refine GoR.nil ?_
 refine Go1.seq ?_
 refine Go1.region ?_
 have hobt := obuild (r := Rp.int .i64) (n := 2) (parts := [(0, .int .i64 (0 : Int)), (1, .int .i64 (1 : Int))]) (vs := [.int .i64 (0 : Int), .int .i64 (1 : Int)]) (xs := [(0 : Int), (1 : Int)]) rfl Try.underlying23 ti3 hO (by decide) (by kernel_rfl) (Els.cons rfl rfl (Els.cons rfl rfl (Els.nil _ _ _) (by simp [mx])) (by simp [mx])) rfl
 obtain ⟨w1, p2, hst3, hE4, hs5, hop6⟩ := hobt
 refine GoR.op (hop6 rfl) rfl rfl ?_
 replace hO := hst3.own
 replace hB := hB.trans hst3.fr
 have hobt := obuild (r := Rp.int .i64) (n := 2) (parts := [(0, .int .i64 (1 : Int)), (1, .int .i64 (0 : Int))]) (vs := [.int .i64 (1 : Int), .int .i64 (0 : Int)]) (xs := [(1 : Int), (0 : Int)]) rfl Try.underlying23 ti3 hO (by decide) (by kernel_rfl) (Els.cons rfl rfl (Els.cons rfl rfl (Els.nil _ _ _) (by simp [mx])) (by simp [mx])) rfl
 obtain ⟨w8, p9, hst10, hE11, hs12, hop13⟩ := hobt
 refine GoR.op (hop13 rfl) rfl rfl ?_
 replace hE4 := hE4.ch hst10.ch
 replace hO := hst10.own
 replace hB := hB.trans hst10.fr
 have hobt := freeze 1 hO rfl hE4
 obtain ⟨hO1, hc17, hi15, hn16⟩ := hobt
 replace hE11 := hE11.ch hc17
 replace hB := hB.trans (Owns.dropFr _ _ 1)
 replace hO := hO1; clear hO1
 have hobt := freeze 0 hO rfl hE11
 obtain ⟨hO1, hc20, hi18, hn19⟩ := hobt
 replace hi15 := hi15.ch hc20
 replace hB := hB.trans (Owns.dropFr _ _ 0)
 replace hO := hO1; clear hO1
 have hobt := obuild (r := Rp.sl (Rp.int .i64)) (n := 2) (parts := [(0, .slice p2 2 2), (1, .slice p9 2 2)]) (vs := [.slice p2 2 2, .slice p9 2 2]) (xs := [[(0 : Int), (1 : Int)], [(1 : Int), (0 : Int)]]) rfl Try.underlying22 ti23 hO (by decide) (by kernel_rfl) (Els.cons rfl ⟨p2, 2, congrArg some (congrArg (fun nn => Value.slice p2 nn 2) hn16), hi15⟩ (Els.cons rfl ⟨p9, 2, congrArg some (congrArg (fun nn => Value.slice p9 nn 2) hn19), hi18⟩ (Els.nil _ _ _) (by simp [mx])) (by simp [mx])) rfl
 obtain ⟨w21, p22, hst23, hE24, hs25, hop26⟩ := hobt
 refine GoR.op (hop26 rfl) rfl rfl ?_
 replace hO := hst23.own
 replace hi15 := hi15.ch hst23.ch
 replace hi18 := hi18.ch hst23.ch
 replace hB := hB.trans hst23.fr
 refine GoR.op ((op_assign rfl) _) rfl rfl ?_
 refine GoR.nil ?_
 refine Go1.seq ?_
 refine Go1.region ?_
 refine GoR.op ((op_move rfl) _) rfl rfl ?_
 have hobt := rowlend 0 hO rfl hE24
 obtain ⟨hl28, hn29⟩ := hobt
 have hOc30 := hO.drop 0
 refine GoR.call (op_call body22 (show ([.slice p22 2 2] : List Value) = [.slice p22 ([[(0 : Int), (1 : Int)], [(1 : Int), (0 : Int)]]).length 2] from by rw [← hn29]) (walk_mult_Validate hOc30.lt hl28 H)) rfl rfl ?_
 rintro v35 w32 ⟨r31, rfl, hs33, H⟩
 have hst36 := Stp.same hO hs33
 replace hE24 := hE24.ch hst36.ch
 replace hO := hst36.own
 replace hi15 := hi15.ch hst36.ch
 replace hi18 := hi18.ch hst36.ch
 replace hB := hB.trans hst36.fr
 by_cases h37 : r31 = (0 : Int)
 ·replace H := ifp h37 H
  refine GoR.op ((fun w => opB (op_eql rfl rfl w) (decide_eq_true h37)) _) rfl rfl ?_
  refine GoR.op ((op_move rfl) _) rfl rfl ?_
  refine GoR.op ((op_move rfl) _) rfl rfl ?_
  have hobt := rowlend 0 hO rfl hE24
  obtain ⟨hl38, hn39⟩ := hobt
  have hOc40 := hO.drop 0
  refine GoR.call (op_call body35 (show ([.slice p22 2 2] : List Value) = [.slice p22 ([[(0 : Int), (1 : Int)], [(1 : Int), (0 : Int)]]).length 2] from by rw [← hn39]) (walk_mult_Identity hOc40.lt hl38 H)) rfl rfl ?_
  rintro v45 w42 ⟨r41, rfl, hs43, H⟩
  have hst46 := Stp.same hO hs43
  replace hE24 := hE24.ch hst46.ch
  replace hO := hst46.own
  replace hi15 := hi15.ch hst46.ch
  replace hi18 := hi18.ch hst46.ch
  replace hB := hB.trans hst46.fr
  by_cases h47 : r41 = (0 : Int)
  ·replace H := ifp h47 H
   refine GoR.op ((fun w => opB (op_eql rfl rfl w) (decide_eq_true h47)) _) rfl rfl ?_
   refine GoR.op ((op_pickT rfl rfl rfl) _) rfl rfl ?_
   refine GoR.op ((op_move rfl) _) rfl rfl ?_
   refine GoR.op ((op_move rfl) _) rfl rfl ?_
   have hobt := rowlend 0 hO rfl hE24
   obtain ⟨hl48, hn49⟩ := hobt
   have hOc50 := hO.drop 0
   refine GoR.call (op_call body24 (show ([.slice p22 2 2, .int .i64 (1 : Int)] : List Value) = [.slice p22 ([[(0 : Int), (1 : Int)], [(1 : Int), (0 : Int)]]).length 2, .int .i64 (1 : Int)] from by rw [← hn49]) (walk_mult_Omega hOc50.lt hl48 H)) rfl rfl ?_
   rintro v55 w52 ⟨r51, rfl, hs53, H⟩
   have hst56 := Stp.same hO hs53
   replace hE24 := hE24.ch hst56.ch
   replace hO := hst56.own
   replace hi15 := hi15.ch hst56.ch
   replace hi18 := hi18.ch hst56.ch
   replace hB := hB.trans hst56.fr
   by_cases h57 : r51 = (0 : Int)
   ·replace H := ifp h57 H
    refine GoR.op ((fun w => opB (op_eql rfl rfl w) (decide_eq_true h57)) _) rfl rfl ?_
    refine GoR.op ((op_pickT rfl rfl rfl) _) rfl rfl ?_
    refine GoR.op ((op_move rfl) _) rfl rfl ?_
    refine GoR.op ((op_move rfl) _) rfl rfl ?_
    have hobt := rowlend 0 hO rfl hE24
    obtain ⟨hl58, hn59⟩ := hobt
    have hOc60 := hO.drop 0
    refine GoR.call (op_call body36 (show ([.slice p22 2 2] : List Value) = [.slice p22 ([[(0 : Int), (1 : Int)], [(1 : Int), (0 : Int)]]).length 2] from by rw [← hn59]) (walk_mult_Zero hOc60.lt hl58 H)) rfl rfl ?_
    rintro v65 w62 ⟨r61, rfl, hs63, H⟩
    have hst66 := Stp.same hO hs63
    replace hE24 := hE24.ch hst66.ch
    replace hO := hst66.own
    replace hi15 := hi15.ch hst66.ch
    replace hi18 := hi18.ch hst66.ch
    replace hB := hB.trans hst66.fr
    by_cases h67 : r61 = (-1 : Int)
    ·replace H := ifp h67 H
     refine GoR.op ((fun w => opB (op_eql rfl rfl w) (decide_eq_true h67)) _) rfl rfl ?_
     refine GoR.op ((op_pickT rfl rfl rfl) _) rfl rfl ?_
     refine GoR.op ((op_assign rfl) _) rfl rfl ?_
     refine GoR.nil ?_
     refine Go1.ret1 Try.func16 rfl ?_
     exact ⟨true, rfl, hB.same, H⟩
    ·replace H := ifn h67 H
     refine GoR.op ((fun w => opB (op_eql rfl rfl w) (decide_eq_false h67)) _) rfl rfl ?_
     refine GoR.op ((op_pickT rfl rfl rfl) _) rfl rfl ?_
     refine GoR.op ((op_assign rfl) _) rfl rfl ?_
     refine GoR.nil ?_
     refine Go1.ret1 Try.func16 rfl ?_
     exact ⟨false, rfl, hB.same, H⟩
   ·replace H := ifn h57 H
    refine GoR.op ((fun w => opB (op_eql rfl rfl w) (decide_eq_false h57)) _) rfl rfl ?_
    refine GoR.op ((op_pickT rfl rfl rfl) _) rfl rfl ?_
    refine GoR.op ((op_move rfl) _) rfl rfl ?_
    refine GoR.pass rfl rfl ?_
    refine GoR.pass rfl rfl ?_
    refine GoR.pass rfl rfl ?_
    refine GoR.op ((op_pickF rfl rfl rfl) _) rfl rfl ?_
    refine GoR.op ((op_assign rfl) _) rfl rfl ?_
    refine GoR.nil ?_
    refine Go1.ret1 Try.func16 rfl ?_
    exact ⟨false, rfl, hB.same, H⟩
  ·replace H := ifn h47 H
   refine GoR.op ((fun w => opB (op_eql rfl rfl w) (decide_eq_false h47)) _) rfl rfl ?_
   refine GoR.op ((op_pickT rfl rfl rfl) _) rfl rfl ?_
   refine GoR.op ((op_move rfl) _) rfl rfl ?_
   refine GoR.pass rfl rfl ?_
   refine GoR.pass rfl rfl ?_
   refine GoR.pass rfl rfl ?_
   refine GoR.op ((op_pickF rfl rfl rfl) _) rfl rfl ?_
   refine GoR.op ((op_move rfl) _) rfl rfl ?_
   refine GoR.pass rfl rfl ?_
   refine GoR.pass rfl rfl ?_
   refine GoR.pass rfl rfl ?_
   refine GoR.op ((op_pickF rfl rfl rfl) _) rfl rfl ?_
   refine GoR.op ((op_assign rfl) _) rfl rfl ?_
   refine GoR.nil ?_
   refine Go1.ret1 Try.func16 rfl ?_
   exact ⟨false, rfl, hB.same, H⟩
 ·replace H := ifn h37 H
  refine GoR.op ((fun w => opB (op_eql rfl rfl w) (decide_eq_false h37)) _) rfl rfl ?_
  refine GoR.op ((op_move rfl) _) rfl rfl ?_
  refine GoR.pass rfl rfl ?_
  refine GoR.pass rfl rfl ?_
  refine GoR.pass rfl rfl ?_
  refine GoR.op ((op_pickF rfl rfl rfl) _) rfl rfl ?_
  refine GoR.op ((op_move rfl) _) rfl rfl ?_
  refine GoR.pass rfl rfl ?_
  refine GoR.pass rfl rfl ?_
  refine GoR.pass rfl rfl ?_
  refine GoR.op ((op_pickF rfl rfl rfl) _) rfl rfl ?_
  refine GoR.op ((op_move rfl) _) rfl rfl ?_
  refine GoR.pass rfl rfl ?_
  refine GoR.pass rfl rfl ?_
  refine GoR.pass rfl rfl ?_
  refine GoR.op ((op_pickF rfl rfl rfl) _) rfl rfl ?_
  refine GoR.op ((op_assign rfl) _) rfl rfl ?_
  refine GoR.nil ?_
  refine Go1.ret1 Try.func16 rfl ?_
  exact ⟨false, rfl, hB.same, H⟩
theorem body86 : Body Try.prog 86 := ⟨Try.f86, Try.func86, rfl, by kernel_rfl⟩
theorem body91 : Body Try.prog 91 := ⟨Try.f91, Try.func91, rfl, by kernel_rfl⟩
theorem body83 : Body Try.prog 83 := ⟨Try.f83, Try.func83, rfl, by kernel_rfl⟩
theorem body82 : Body Try.prog 82 := ⟨Try.f82, Try.func82, rfl, by kernel_rfl⟩
theorem body58 : Body Try.prog 58 := ⟨Try.f58, Try.func58, rfl, by kernel_rfl⟩
theorem walk_mult_Generated {A : List Nat} {w0 : World} {p_t : Option Addr} {c_t : Nat} {p_gens : Option Addr} {c_gens : Nat} {t : List (List Int)} {gens : List Int} (hA : ∀ b ∈ A, b < w0.heap.size) (h_t : ISl (Rp.sl (Rp.int .i64)) A w0 p_t c_t t) (h_gens : ISl (Rp.int .i64) A w0 p_gens c_gens gens) {K : List Int → Prop} (H : mult_Generated t gens K) :
    CallsV Try.prog 58 #[.slice p_t t.length c_t, .slice p_gens gens.length c_gens] w0 (fun v w' => ∃ (r0 : List Int), ∃ (p_r0 : Option Addr), ∃ (c_r0 : Nat), v = .slice p_r0 r0.length c_r0 ∧ Same w0 w' ∧ ISl (Rp.int .i64) A w' p_r0 c_r0 r0 ∧ K r0) := by
 refine CallsV.of (l := [.slice p_t t.length c_t, .slice p_gens gens.length c_gens]) Try.func58 rfl Try.ntmps58 rfl ?_
 have hO := Owns.start hA
 have hB := Fr.refl (bl []) w0
 unfold mult_Generated at H
 replace h_t := h_t.ch (Ch.start A w0)
 replace h_gens := h_gens.ch (Ch.start A w0)
 refine Go1.seq ?_
 refine Go1.region ?_
 refine GoR.op ((op_assign rfl) _) rfl rfl ?_
 refine GoR.nil ?_
 refine Go1.seq ?_
 refine Go1.seq ?_
 refine Go1.region ?_
 refine GoR.op ((op_move rfl) _) rfl rfl ?_
 refine GoR.op ((op_move rfl) _) rfl rfl ?_
 refine GoR.call (op_call body67 rfl (walk_mult_has hO.lt h_t h_gens H)) rfl rfl ?_
 rintro v5 w2 ⟨r1, rfl, hs3, H⟩
 have hst6 := Stp.same hO hs3
 replace hO := hst6.own
 replace h_t := h_t.ch hst6.ch
 replace h_gens := h_gens.ch hst6.ch
 replace hB := hB.trans hst6.fr
 cases r1
 ·replace H := ifn Bool.false_ne_true H
  refine GoR.op ((op_not rfl) _) rfl rfl ?_
  refine GoR.nil ?_
  refine Go1.condT rfl rfl ?_
  refine Go1.seq ?_
  refine Go1.region ?_
  refine GoR.op ((op_assign rfl) _) rfl rfl ?_
  refine GoR.nil ?_
  refine Go1.ret1 Try.func58 rfl ?_
  exact ⟨([] : List Int), none, 0, rfl, hB.same, (ISl.null _ _ _), H⟩
 ·replace H := ifp rfl H
  refine GoR.op ((op_not rfl) _) rfl rfl ?_
  refine GoR.nil ?_
  refine Go1.condF rfl rfl ?_
  refine Go1.skip ?_
  refine Go1.seq ?_
  refine Go1.region ?_
  refine GoR.op ((op_move rfl) _) rfl rfl ?_
  refine GoR.inl (vs := [.slice p_t t.length c_t]) (caps := []) rfl rfl body82 Try.func82 rfl Try.ntmps82 rfl rfl rfl ?_
  intro RhR7 hR7
  refine Go1.seq ?_
  refine Go1.region ?_
  refine GoR.op ((op_assign rfl) _) rfl rfl ?_
  refine GoR.nil ?_
  refine Go1.seq ?_
  refine Go1.region ?_
  refine GoR.op ((op_move rfl) _) rfl rfl ?_
  refine GoR.op ((op_move rfl) _) rfl rfl ?_
  refine GoR.op ((op_len Try.underlying22 rfl) _) rfl rfl ?_
  replace H := H h_t.bd
  obtain ⟨h15, H⟩ := H
  obtain ⟨h16, H⟩ := H
  have hobt := omake (n := (t.length : Int)) (r := Rp.bool) (d := false) Try.underlying54 ti4 (fun _ _ => rfl) rfl hO h15 h16 (by decide)
  obtain ⟨w8, p9, vs10, hst11, hE12, hs13, hop14⟩ := hobt
  refine GoR.op (hop14 rfl rfl) rfl rfl ?_
  replace hO := hst11.own
  replace h_t := h_t.ch hst11.ch
  replace h_gens := h_gens.ch hst11.ch
  replace hB := hB.trans hst11.fr
  refine GoR.op ((op_build Try.underlying67 ti67 (pl := [(0, 1), (1, 1), (2, 1), (3, 1)]) (vs := [(0, .slice p_t t.length c_t), (2, .slice p9 t.length t.length)]) (cs := #[.slice p_t t.length c_t, .slice none 0 0, .slice p9 t.length t.length, .slice none 0 0]) (by kernel_rfl) rfl (by kernel_rfl)) _) rfl rfl ?_
  have hobt := obox (t := 67) (v := .agg #[.slice p_t t.length c_t, .slice none 0 0, .slice p9 t.length t.length, .slice none 0 0]) (cs := #[.slice p_t t.length c_t, .slice none 0 0, .slice p9 t.length t.length, .slice none 0 0]) hO rfl
  obtain ⟨w18, B19, hst20, hs21, hop22⟩ := hobt
  refine GoR.op (hop22 rfl) rfl rfl ?_
  replace hE12 := hE12.ch hst20.ch
  replace hO := hst20.own
  replace h_t := h_t.ch hst20.ch
  replace h_gens := h_gens.ch hst20.ch
  replace hB := hB.trans hst20.fr
  refine GoR.op ((op_assign rfl) _) rfl rfl ?_
  refine GoR.nil ?_
  refine Go1.ret1V Try.func82 rfl (show _ = .pointer (some ⟨B19, 0, none⟩) from rfl) ?_
  refine hR7 _ _ ?_
  refine GoR.op ((op_assign rfl) _) rfl rfl ?_
  refine GoR.nil ?_
  refine Go1.seq ?_
  refine Go1.seq ?_
  refine Go1.region ?_
  refine GoR.op ((op_move rfl) _) rfl rfl ?_
  refine GoR.op ((op_len Try.underlying23 rfl) _) rfl rfl ?_
  replace H := H h_gens.bd
  refine GoR.op ((op_move rfl) _) rfl rfl ?_
  refine GoR.nil ?_
  refine Go1.block ?_
  have hst25 := Stp.nil (e := 3) (r := 1) hO
  replace hE12 := hE12.ch hst25.ch
  replace hO := hst25.own
  replace h_t := h_t.ch hst25.ch
  replace h_gens := h_gens.ch hst25.ch
  replace hB := hB.trans hst25.fr
  have hE26 := Els.nil (Rp.int .i64) (bl (.row 3 1 none 0 0 [] :: [.blk B19 (.cells #[.slice p_t t.length c_t, .slice none 0 0, .slice p9 t.length t.length, .slice none 0 0] 67 (0, 0)), .row 4 1 p9 t.length t.length vs10]) ++ A) w18
  have hst28 := Stp.nil (e := 3) (r := 1) hO
  replace hE26 := hE26.ch hst28.ch
  replace hE12 := hE12.ch hst28.ch
  replace hO := hst28.own
  replace h_t := h_t.ch hst28.ch
  replace h_gens := h_gens.ch hst28.ch
  replace hB := hB.trans hst28.fr
  have hE29 := Els.nil (Rp.int .i64) (bl (.row 3 1 none 0 0 [] :: [.row 3 1 none 0 0 [], .blk B19 (.cells #[.slice p_t t.length c_t, .slice none 0 0, .slice p9 t.length t.length, .slice none 0 0] 67 (0, 0)), .row 4 1 p9 t.length t.length vs10]) ++ A) w18
  refine Go1.loopW (S := Nat × List Int × List Int × List Bool) (fun s σ w => ∃ (n37 : Nat), ∃ (p35 : Option Addr), ∃ (c36 : Nat), ∃ (vs33 : List Value), ∃ (n43 : Nat), ∃ (p41 : Option Addr), ∃ (c42 : Nat), ∃ (vs39 : List Value), ∃ (vs45 : List Value), agrees σ [(5, .pointer (some ⟨B19, 0, none⟩)), (14, .slice p_gens gens.length c_gens), (15, .int .i64 (gens.length : Int)), (16, .int .i64 ((s.1) : Int))] ∧ Owns w0.heap.size w [.row 3 1 p35 n37 c36 vs33, .row 3 1 p41 n43 c42 vs39, .blk B19 (.cells #[.slice p_t t.length c_t, .slice p41 n43 c42, .slice p9 t.length t.length, .slice p35 n37 c36] 67 (0, 0)), .row 4 1 p9 t.length t.length vs45] A ∧ Els (Rp.int .i64) (bl [.row 3 1 p35 n37 c36 vs33, .row 3 1 p41 n43 c42 vs39, .blk B19 (.cells #[.slice p_t t.length c_t, .slice p41 n43 c42, .slice p9 t.length t.length, .slice p35 n37 c36] 67 (0, 0)), .row 4 1 p9 t.length t.length vs45] ++ A) w vs33 (s.2.1) ∧ Els (Rp.int .i64) (bl [.row 3 1 p35 n37 c36 vs33, .row 3 1 p41 n43 c42 vs39, .blk B19 (.cells #[.slice p_t t.length c_t, .slice p41 n43 c42, .slice p9 t.length t.length, .slice p35 n37 c36] 67 (0, 0)), .row 4 1 p9 t.length t.length vs45] ++ A) w vs39 (s.2.2.1) ∧ Els (Rp.bool) (bl [.row 3 1 p35 n37 c36 vs33, .row 3 1 p41 n43 c42 vs39, .blk B19 (.cells #[.slice p_t t.length c_t, .slice p41 n43 c42, .slice p9 t.length t.length, .slice p35 n37 c36] 67 (0, 0)), .row 4 1 p9 t.length t.length vs45] ++ A) w vs45 (s.2.2.2) ∧ ISl (Rp.sl (Rp.int .i64)) (bl [.row 3 1 p35 n37 c36 vs33, .row 3 1 p41 n43 c42 vs39, .blk B19 (.cells #[.slice p_t t.length c_t, .slice p41 n43 c42, .slice p9 t.length t.length, .slice p35 n37 c36] 67 (0, 0)), .row 4 1 p9 t.length t.length vs45] ++ A) w p_t c_t t ∧ ISl (Rp.int .i64) (bl [.row 3 1 p35 n37 c36 vs33, .row 3 1 p41 n43 c42 vs39, .blk B19 (.cells #[.slice p_t t.length c_t, .slice p41 n43 c42, .slice p9 t.length t.length, .slice p35 n37 c36] 67 (0, 0)), .row 4 1 p9 t.length t.length vs45] ++ A) w p_gens c_gens gens ∧ Fr (bl []) w0 (bl [.row 3 1 p35 n37 c36 vs33, .row 3 1 p41 n43 c42 vs39, .blk B19 (.cells #[.slice p_t t.length c_t, .slice p41 n43 c42, .slice p9 t.length t.length, .slice p35 n37 c36] 67 (0, 0)), .row 4 1 p9 t.length t.length vs45]) w) H ⟨0, none, 0, [], 0, none, 0, [], vs10, ⟨rfl, rfl, rfl, rfl, trivial⟩, hO, hE29, hE26, hE12, h_t, h_gens, hB⟩ ?_
  rintro X1 ⟨k1_31, d_32, d_38, d_44⟩ H hX1 σ w30 ⟨n37, p35, c36, vs33, n43, p41, c42, vs39, vs45, hag, hO, hE34, hE40, hE46, h_t, h_gens, hB⟩
  dsimp only at H
  refine Go1.keep [(5, .pointer (some ⟨B19, 0, none⟩)), (14, .slice p_gens gens.length c_gens), (15, .int .i64 (gens.length : Int)), (16, .int .i64 (k1_31 : Int))] hag ?_
  refine Go1.seq ?_
  refine Go1.region ?_
  by_cases h47 : (k1_31 : Int) < (gens.length : Int)
  ·replace H := ifp h47 H
   refine GoR.op ((fun w => opB (op_lss rfl rfl w) (decide_eq_true h47)) _) rfl rfl ?_
   refine GoR.nil ?_
   refine Go1.seq ?_
   refine Go1.condT rfl rfl ?_
   refine Go1.skip ?_
   refine Go1.seq ?_
   refine Go1.block ?_
   refine Go1.seq ?_
   refine Go1.region ?_
   obtain ⟨h48, H⟩ := H
   obtain ⟨h49, H⟩ := H
   refine GoR.op ((op_index Try.underlying23 ti3 rfl rfl h48 h49 (h_gens.some_ h48 h49)) _) rfl rfl ?_
   refine GoR.op ((ldInt h_gens h48 h49 Try.underlying3 rfl rfl) _ (Same.refl _)) rfl rfl ?_
   refine GoR.op ((op_assign rfl) _) rfl rfl ?_
   refine GoR.nil ?_
   refine Go1.region ?_
   refine GoR.op ((op_move rfl) _) rfl rfl ?_
   refine GoR.op ((op_move rfl) _) rfl rfl ?_
   refine GoR.inl (vs := [.pointer (some ⟨B19, 0, none⟩), .int .i64 (ix gens (k1_31 : Int))]) (caps := []) rfl rfl body83 Try.func83 rfl Try.ntmps83 rfl rfl rfl ?_
   intro RhR50 hR50
   refine Go1.seq ?_
   refine Go1.seq ?_
   refine Go1.region ?_
   refine GoR.op ((op_move rfl) _) rfl rfl ?_
   refine GoR.op ((op_nilCheck rfl) _) rfl rfl ?_
   refine GoR.op ((op_fieldAddr Try.underlying67 rfl ti54 rfl (by decide)) _) rfl rfl ?_
   refine GoR.op ((oblk 2 hO rfl rfl Try.underlying54 rfl rfl) _ (Same.refl _)) rfl rfl ?_
   refine GoR.op ((op_move rfl) _) rfl rfl ?_
   obtain ⟨h51, H⟩ := H
   obtain ⟨h52, H⟩ := H
   refine GoR.op ((op_index Try.underlying54 ti4 rfl rfl h51 (ltn (hE46.neq hO 3 rfl) h52) (hE46.psome hO 3 rfl h51 h52)) _) rfl rfl ?_
   by_cases h53 : ix d_44 (ix gens (k1_31 : Int)) = true
   ·replace H := ifp h53 H
    refine GoR.op (opB ((oldBool 3 hO rfl hE46 h51 h52 Try.underlying4 rfl rfl) _ (Same.refl _)) (h53)) rfl rfl ?_
    refine GoR.nil ?_
    refine Go1.condT rfl rfl ?_
    refine Go1.ret0V Try.func83 rfl ?_
    refine hR50 _ _ ?_
    refine GoR.nil ?_
    refine Go1.inBlock ?_
    refine Go1.region ?_
    refine GoR.op ((op_add rfl rfl (wrap_i64 (natbd h47 h_gens.bd))) _) rfl rfl ?_
    refine GoR.op ((op_move rfl) _) rfl rfl ?_
    refine GoR.nil ?_
    exact hX1 _ H _ _ ⟨n37, p35, c36, vs33, n43, p41, c42, vs39, vs45, ⟨rfl, rfl, rfl, rfl, trivial⟩, hO, hE34, hE40, hE46, h_t, h_gens, hB⟩
   ·replace H := ifn h53 H
    refine GoR.op (opB ((oldBool 3 hO rfl hE46 h51 h52 Try.underlying4 rfl rfl) _ (Same.refl _)) (Bool.eq_false_iff.2 h53)) rfl rfl ?_
    refine GoR.nil ?_
    refine Go1.condF rfl rfl ?_
    refine Go1.skip ?_
    refine Go1.seq ?_
    refine Go1.region ?_
    refine GoR.op ((op_move rfl) _) rfl rfl ?_
    refine GoR.op ((op_nilCheck rfl) _) rfl rfl ?_
    refine GoR.op ((op_fieldAddr Try.underlying67 rfl ti23 rfl (by decide)) _) rfl rfl ?_
    refine GoR.op ((oblk 2 hO rfl rfl Try.underlying23 rfl rfl) _ (Same.refl _)) rfl rfl ?_
    refine GoR.op ((op_lenN Try.underlying23 rfl (hE34.neq hO 0 rfl)) _) rfl rfl ?_
    refine GoR.op ((op_assign rfl) _) rfl rfl ?_
    refine GoR.nil ?_
    refine Go1.seq ?_
    refine Go1.region ?_
    refine GoR.op ((op_move rfl) _) rfl rfl ?_
    refine GoR.op ((op_move rfl) _) rfl rfl ?_
    refine GoR.op ((op_nilCheck rfl) _) rfl rfl ?_
    refine GoR.op ((op_fieldAddr Try.underlying67 rfl ti23 rfl (by decide)) _) rfl rfl ?_
    refine GoR.op ((oblk 2 hO rfl rfl Try.underlying23 rfl rfl) _ (Same.refl _)) rfl rfl ?_
    refine GoR.op ((op_move rfl) _) rfl rfl ?_
    have hobt := obuild (r := Rp.int .i64) (n := 1) (parts := [(0, .int .i64 (ix gens (k1_31 : Int)))]) (vs := [.int .i64 (ix gens (k1_31 : Int))]) (xs := [(ix gens (k1_31 : Int))]) rfl Try.underlying23 ti3 hO (by decide) (by kernel_rfl) (Els.cons rfl rfl (Els.nil _ _ _) (by simp [mx])) rfl
    obtain ⟨w54, p55, hst56, hE57, hs58, hop59⟩ := hobt
    refine GoR.op (hop59 rfl) rfl rfl ?_
    replace hE34 := hE34.ch hst56.ch
    replace hE40 := hE40.ch hst56.ch
    replace hE46 := hE46.ch hst56.ch
    replace hO := hst56.own
    replace h_t := h_t.ch hst56.ch
    replace h_gens := h_gens.ch hst56.ch
    replace hB := hB.trans hst56.fr
    have hobt := freeze 0 hO rfl hE57
    obtain ⟨hO1, hc63, hi61, hn62⟩ := hobt
    replace h_t := h_t.ch hc63
    replace h_gens := h_gens.ch hc63
    replace hE34 := hE34.ch hc63
    replace hE40 := hE40.ch hc63
    replace hE46 := hE46.ch hc63
    replace hB := hB.trans (Owns.dropFr _ _ 0)
    replace hO := hO1; clear hO1
    obtain ⟨h64, H⟩ := H
    have hobt := oapp Try.underlying23 ti3 rfl 1 hO rfl hE40 hi61 hn62 h64 (by decide)
    obtain ⟨w65, p66, c67, vs68, hst69, hE70, hop71⟩ := hobt
    refine GoR.op (hop71 rfl rfl) rfl rfl ?_
    replace hE34 := hE34.ch hst69.ch
    replace hE46 := hE46.ch hst69.ch
    replace hO := hst69.own
    replace h_t := h_t.ch hst69.ch
    replace h_gens := h_gens.ch hst69.ch
    replace hi61 := hi61.ch hst69.ch
    replace hB := hB.trans hst69.fr
    refine GoR.op ((op_nilCheck rfl) _) rfl rfl ?_
    refine GoR.op ((op_fieldAddr Try.underlying67 rfl ti23 rfl (by decide)) _) rfl rfl ?_
    have hobt := oblkSt (v := .slice p66 (n43 + 1) c67) (i := 1) 2 hO rfl rfl rfl
    obtain ⟨w73, hst74, hop75⟩ := hobt
    refine GoR.op (hop75 Try.underlying23 rfl ti23 rfl rfl) rfl rfl ?_
    replace hE34 := hE34.ch hst74.ch
    replace hE70 := hE70.ch hst74.ch
    replace hE46 := hE46.ch hst74.ch
    replace hO := hst74.own
    replace h_t := h_t.ch hst74.ch
    replace h_gens := h_gens.ch hst74.ch
    replace hi61 := hi61.ch hst74.ch
    replace hB := hB.trans hst74.fr
    refine GoR.nil ?_
    refine Go1.seq ?_
    refine Go1.region ?_
    refine GoR.op ((op_move rfl) _) rfl rfl ?_
    refine GoR.op ((op_move rfl) _) rfl rfl ?_
    refine GoR.inl (vs := [.pointer (some ⟨B19, 0, none⟩), .int .i64 (ix gens (k1_31 : Int))]) (caps := []) rfl rfl body91 Try.func91 rfl Try.ntmps91 rfl rfl rfl ?_
    intro RhR76 hR76
    refine Go1.seq ?_
    refine Go1.region ?_
    refine GoR.op ((op_move rfl) _) rfl rfl ?_
    refine GoR.op ((op_nilCheck rfl) _) rfl rfl ?_
    refine GoR.op ((op_fieldAddr Try.underlying67 rfl ti54 rfl (by decide)) _) rfl rfl ?_
    refine GoR.op ((oblk 2 hO rfl rfl Try.underlying54 rfl rfl) _ (Same.refl _)) rfl rfl ?_
    refine GoR.op ((op_move rfl) _) rfl rfl ?_
    obtain ⟨h77, H⟩ := H
    obtain ⟨h78, H⟩ := H
    refine GoR.op ((op_index Try.underlying54 ti4 rfl rfl h77 (ltn (hE46.neq hO 3 rfl) h78) (hE46.psome hO 3 rfl h77 h78)) _) rfl rfl ?_
    refine GoR.op (opB ((oldBool 3 hO rfl hE46 h77 h78 Try.underlying4 rfl rfl) _ (Same.refl _)) (Bool.eq_false_iff.2 h53)) rfl rfl ?_
    refine GoR.op ((op_not rfl) _) rfl rfl ?_
    refine GoR.nil ?_
    refine Go1.condT rfl rfl ?_
    refine Go1.seq ?_
    refine Go1.region ?_
    refine GoR.op ((op_move rfl) _) rfl rfl ?_
    refine GoR.op ((op_nilCheck rfl) _) rfl rfl ?_
    refine GoR.op ((op_fieldAddr Try.underlying67 rfl ti54 rfl (by decide)) _) rfl rfl ?_
    refine GoR.op ((oblk 2 hO rfl rfl Try.underlying54 rfl rfl) _ (Same.refl _)) rfl rfl ?_
    refine GoR.op ((op_move rfl) _) rfl rfl ?_
    obtain ⟨h79, H⟩ := H
    obtain ⟨h80, H⟩ := H
    refine GoR.op ((op_index Try.underlying54 ti4 rfl rfl h79 (ltn (hE46.neq hO 3 rfl) h80) (hE46.psome hO 3 rfl h79 h80)) _) rfl rfl ?_
    have hobt := ost (r := Rp.bool) rfl 3 hO rfl hE46 h79 h80 (v := .bool true) (u := true) rfl rfl
    obtain ⟨w81, vs82, hst83, hE84, hop85⟩ := hobt
    refine GoR.op (hop85 Try.underlying4 rfl ti4 rfl rfl) rfl rfl ?_
    replace hE34 := hE34.ch hst83.ch
    replace hE70 := hE70.ch hst83.ch
    replace hO := hst83.own
    replace h_t := h_t.ch hst83.ch
    replace h_gens := h_gens.ch hst83.ch
    replace hi61 := hi61.ch hst83.ch
    replace hB := hB.trans hst83.fr
    refine GoR.nil ?_
    refine Go1.region ?_
    refine GoR.op ((op_move rfl) _) rfl rfl ?_
    refine GoR.op ((op_move rfl) _) rfl rfl ?_
    refine GoR.op ((op_nilCheck rfl) _) rfl rfl ?_
    refine GoR.op ((op_fieldAddr Try.underlying67 rfl ti23 rfl (by decide)) _) rfl rfl ?_
    refine GoR.op ((oblk 2 hO rfl rfl Try.underlying23 rfl rfl) _ (Same.refl _)) rfl rfl ?_
    refine GoR.op ((op_move rfl) _) rfl rfl ?_
    have hobt := obuild (r := Rp.int .i64) (n := 1) (parts := [(0, .int .i64 (ix gens (k1_31 : Int)))]) (vs := [.int .i64 (ix gens (k1_31 : Int))]) (xs := [(ix gens (k1_31 : Int))]) rfl Try.underlying23 ti3 hO (by decide) (by kernel_rfl) (Els.cons rfl rfl (Els.nil _ _ _) (by simp [mx])) rfl
    obtain ⟨w86, p87, hst88, hE89, hs90, hop91⟩ := hobt
    refine GoR.op (hop91 rfl) rfl rfl ?_
    replace hE34 := hE34.ch hst88.ch
    replace hE70 := hE70.ch hst88.ch
    replace hE84 := hE84.ch hst88.ch
    replace hO := hst88.own
    replace h_t := h_t.ch hst88.ch
    replace h_gens := h_gens.ch hst88.ch
    replace hi61 := hi61.ch hst88.ch
    replace hB := hB.trans hst88.fr
    have hobt := freeze 0 hO rfl hE89
    obtain ⟨hO1, hc95, hi93, hn94⟩ := hobt
    replace h_t := h_t.ch hc95
    replace h_gens := h_gens.ch hc95
    replace hi61 := hi61.ch hc95
    replace hE34 := hE34.ch hc95
    replace hE70 := hE70.ch hc95
    replace hE84 := hE84.ch hc95
    replace hB := hB.trans (Owns.dropFr _ _ 0)
    replace hO := hO1; clear hO1
    obtain ⟨h96, H⟩ := H
    have hobt := oapp Try.underlying23 ti3 rfl 0 hO rfl hE34 hi93 hn94 h96 (by decide)
    obtain ⟨w97, p98, c99, vs100, hst101, hE102, hop103⟩ := hobt
    refine GoR.op (hop103 rfl rfl) rfl rfl ?_
    replace hE70 := hE70.ch hst101.ch
    replace hE84 := hE84.ch hst101.ch
    replace hO := hst101.own
    replace h_t := h_t.ch hst101.ch
    replace h_gens := h_gens.ch hst101.ch
    replace hi61 := hi61.ch hst101.ch
    replace hi93 := hi93.ch hst101.ch
    replace hB := hB.trans hst101.fr
    refine GoR.op ((op_nilCheck rfl) _) rfl rfl ?_
    refine GoR.op ((op_fieldAddr Try.underlying67 rfl ti23 rfl (by decide)) _) rfl rfl ?_
    have hobt := oblkSt (v := .slice p98 (n37 + 1) c99) (i := 3) 2 hO rfl rfl rfl
    obtain ⟨w105, hst106, hop107⟩ := hobt
    refine GoR.op (hop107 Try.underlying23 rfl ti23 rfl rfl) rfl rfl ?_
    replace hE102 := hE102.ch hst106.ch
    replace hE70 := hE70.ch hst106.ch
    replace hE84 := hE84.ch hst106.ch
    replace hO := hst106.own
    replace h_t := h_t.ch hst106.ch
    replace h_gens := h_gens.ch hst106.ch
    replace hi61 := hi61.ch hst106.ch
    replace hi93 := hi93.ch hst106.ch
    replace hB := hB.trans hst106.fr
    refine GoR.nil ?_
    refine Go1.fin0V Try.func91 rfl ?_
    refine hR76 _ _ ?_
    refine GoR.nil ?_
    refine Go1.seq ?_
    refine Go1.region ?_
    refine GoR.op ((op_assign rfl) _) rfl rfl ?_
    refine GoR.nil ?_
    refine Go1.block ?_
    refine Go1.loopW (S := Nat × List Int × List Bool) (fun s σ w => ∃ (n115 : Nat), ∃ (p113 : Option Addr), ∃ (c114 : Nat), ∃ (vs111 : List Value), ∃ (vs117 : List Value), agrees σ [(0, .pointer (some ⟨B19, 0, none⟩)), (1, .int .i64 (ix gens (k1_31 : Int))), (4, .int .i64 (d_32.length : Int)), (5, .int .i64 ((s.1) : Int))] ∧ Owns w0.heap.size w [.row 3 1 p113 n115 c114 vs111, .row 3 1 p66 (n43 + 1) c67 vs68, .blk B19 (.cells #[.slice p_t t.length c_t, .slice p66 (n43 + 1) c67, .slice p9 t.length t.length, .slice p113 n115 c114] 67 (0, 0)), .row 4 1 p9 t.length t.length vs117] A ∧ Els (Rp.int .i64) (bl [.row 3 1 p113 n115 c114 vs111, .row 3 1 p66 (n43 + 1) c67 vs68, .blk B19 (.cells #[.slice p_t t.length c_t, .slice p66 (n43 + 1) c67, .slice p9 t.length t.length, .slice p113 n115 c114] 67 (0, 0)), .row 4 1 p9 t.length t.length vs117] ++ A) w vs111 (s.2.1) ∧ Els (Rp.int .i64) (bl [.row 3 1 p113 n115 c114 vs111, .row 3 1 p66 (n43 + 1) c67 vs68, .blk B19 (.cells #[.slice p_t t.length c_t, .slice p66 (n43 + 1) c67, .slice p9 t.length t.length, .slice p113 n115 c114] 67 (0, 0)), .row 4 1 p9 t.length t.length vs117] ++ A) w vs68 (d_38 ++ ([(ix gens (k1_31 : Int))])) ∧ Els (Rp.bool) (bl [.row 3 1 p113 n115 c114 vs111, .row 3 1 p66 (n43 + 1) c67 vs68, .blk B19 (.cells #[.slice p_t t.length c_t, .slice p66 (n43 + 1) c67, .slice p9 t.length t.length, .slice p113 n115 c114] 67 (0, 0)), .row 4 1 p9 t.length t.length vs117] ++ A) w vs117 (s.2.2) ∧ ISl (Rp.sl (Rp.int .i64)) (bl [.row 3 1 p113 n115 c114 vs111, .row 3 1 p66 (n43 + 1) c67 vs68, .blk B19 (.cells #[.slice p_t t.length c_t, .slice p66 (n43 + 1) c67, .slice p9 t.length t.length, .slice p113 n115 c114] 67 (0, 0)), .row 4 1 p9 t.length t.length vs117] ++ A) w p_t c_t t ∧ ISl (Rp.int .i64) (bl [.row 3 1 p113 n115 c114 vs111, .row 3 1 p66 (n43 + 1) c67 vs68, .blk B19 (.cells #[.slice p_t t.length c_t, .slice p66 (n43 + 1) c67, .slice p9 t.length t.length, .slice p113 n115 c114] 67 (0, 0)), .row 4 1 p9 t.length t.length vs117] ++ A) w p_gens c_gens gens ∧ Fr (bl []) w0 (bl [.row 3 1 p113 n115 c114 vs111, .row 3 1 p66 (n43 + 1) c67 vs68, .blk B19 (.cells #[.slice p_t t.length c_t, .slice p66 (n43 + 1) c67, .slice p9 t.length t.length, .slice p113 n115 c114] 67 (0, 0)), .row 4 1 p9 t.length t.length vs117]) w) H ⟨n37 + 1, p98, c99, vs100, vs82, ⟨rfl, rfl, rfl, rfl, trivial⟩, hO, hE102, hE70, hE84, h_t, h_gens, hB⟩ ?_
    rintro X2 ⟨k2_109, d_110, d_116⟩ H hX2 σ w108 ⟨n115, p113, c114, vs111, vs117, hag, hO, hE112, hE70, hE118, h_t, h_gens, hB⟩
    dsimp only at H
    refine Go1.keep [(0, .pointer (some ⟨B19, 0, none⟩)), (1, .int .i64 (ix gens (k1_31 : Int))), (4, .int .i64 (d_32.length : Int)), (5, .int .i64 (k2_109 : Int))] hag ?_
    refine Go1.seq ?_
    refine Go1.seq ?_
    refine Go1.region ?_
    refine GoR.op ((op_move rfl) _) rfl rfl ?_
    refine GoR.op ((op_move rfl) _) rfl rfl ?_
    refine GoR.op ((op_nilCheck rfl) _) rfl rfl ?_
    refine GoR.op ((op_fieldAddr Try.underlying67 rfl ti23 rfl (by decide)) _) rfl rfl ?_
    refine GoR.op ((oblk 2 hO rfl rfl Try.underlying23 rfl rfl) _ (Same.refl _)) rfl rfl ?_
    refine GoR.op ((op_lenN Try.underlying23 rfl (hE112.neq hO 0 rfl)) _) rfl rfl ?_
    by_cases h119 : (k2_109 : Int) < (d_110.length : Int)
    ·replace H := ifp h119 H
     refine GoR.op ((fun w => opB (op_lss rfl rfl w) (decide_eq_true h119)) _) rfl rfl ?_
     refine GoR.nil ?_
     refine Go1.condT rfl rfl ?_
     refine Go1.skip ?_
     refine Go1.seq ?_
     refine Go1.block ?_
     refine Go1.seq ?_
     refine Go1.seq ?_
     refine Go1.region ?_
     refine GoR.op ((op_move rfl) _) rfl rfl ?_
     refine GoR.op ((op_move rfl) _) rfl rfl ?_
     by_cases h120 : (k2_109 : Int) < (d_32.length : Int)
     ·replace H := ifp h120 H
      refine GoR.op ((fun w => opB (op_lss rfl rfl w) (decide_eq_true h120)) _) rfl rfl ?_
      refine GoR.nil ?_
      refine Go1.condT rfl rfl ?_
      refine Go1.seq ?_
      refine Go1.drawS 7 [(0, .pure), (1, .pure), (2, .pure), (3, .pure), (4, .stable), (5, .pure), (6, .pure), (7, .pure), (8, .stable), (9, .pure), (10, .pure), (11, .stable), (12, .pure), (13, .stable), (14, .pure), (15, .pure), (16, .stable), (17, .last)] mixed (by kernel_rfl) ?_
      intro w121 hs122
      have hst123 := Stp.same hO hs122
      replace hE112 := hE112.ch hst123.ch
      replace hE70 := hE70.ch hst123.ch
      replace hE118 := hE118.ch hst123.ch
      replace hO := hst123.own
      replace h_t := h_t.ch hst123.ch
      replace h_gens := h_gens.ch hst123.ch
      replace hB := hB.trans hst123.fr
      refine GoQ.pure rfl (op_move rfl) rfl rfl ?_
      refine GoQ.pure rfl (op_move rfl) rfl rfl ?_
      refine GoQ.pure rfl (op_nilCheck rfl) rfl rfl ?_
      refine GoQ.pure rfl (op_fieldAddr Try.underlying67 rfl ti22 rfl (by decide)) rfl rfl ?_
      refine GoQ.stable rfl (oblk 2 hO rfl rfl Try.underlying22 rfl rfl) rfl rfl ?_
      refine GoQ.pure rfl (op_move rfl) rfl rfl ?_
      refine GoQ.pure rfl (op_nilCheck rfl) rfl rfl ?_
      refine GoQ.pure rfl (op_fieldAddr Try.underlying67 rfl ti23 rfl (by decide)) rfl rfl ?_
      refine GoQ.stable rfl (oblk 2 hO rfl rfl Try.underlying23 rfl rfl) rfl rfl ?_
      refine GoQ.pure rfl (op_move rfl) rfl rfl ?_
      obtain ⟨h124, H⟩ := H
      obtain ⟨h125, H⟩ := H
      refine GoQ.pure rfl (op_index Try.underlying23 ti3 rfl rfl h124 (ltn (hE112.neq hO 0 rfl) h125) (hE112.psome hO 0 rfl h124 h125)) rfl rfl ?_
      refine GoQ.stable rfl (oldInt 0 hO rfl hE112 h124 h125 Try.underlying3 rfl rfl) rfl rfl ?_
      obtain ⟨h126, H⟩ := H
      obtain ⟨h127, H⟩ := H
      refine GoQ.pure rfl (op_index Try.underlying22 ti23 rfl rfl h126 h127 (h_t.some_ h126 h127)) rfl rfl ?_
      have hobt := ldSl h_t h126 h127
      obtain ⟨p128, c129, hi130, hl131⟩ := hobt
      refine GoQ.stable rfl (hl131 Try.underlying23 rfl rfl) rfl rfl ?_
      refine GoQ.pure rfl (op_move rfl) rfl rfl ?_
      obtain ⟨h132, H⟩ := H
      obtain ⟨h133, H⟩ := H
      refine GoQ.pure rfl (op_index Try.underlying23 ti3 rfl rfl h132 h133 (hi130.some_ h132 h133)) rfl rfl ?_
      refine GoQ.stable rfl (ldInt hi130 h132 h133 Try.underlying3 rfl rfl) rfl rfl ?_
      refine GoQ.inl (vs := [.pointer (some ⟨B19, 0, none⟩), .int .i64 (ix (ix t (ix d_110 (k2_109 : Int))) (ix gens (k1_31 : Int)))]) (caps := []) rfl rfl rfl body91 Try.func91 rfl Try.ntmps91 rfl rfl rfl ?_
      intro RhR134 hR134
      refine Go1.seq ?_
      refine Go1.region ?_
      refine GoR.op ((op_move rfl) _) rfl rfl ?_
      refine GoR.op ((op_nilCheck rfl) _) rfl rfl ?_
      refine GoR.op ((op_fieldAddr Try.underlying67 rfl ti54 rfl (by decide)) _) rfl rfl ?_
      refine GoR.op ((oblk 2 hO rfl rfl Try.underlying54 rfl rfl) _ (Same.refl _)) rfl rfl ?_
      refine GoR.op ((op_move rfl) _) rfl rfl ?_
      obtain ⟨h135, H⟩ := H
      obtain ⟨h136, H⟩ := H
      refine GoR.op ((op_index Try.underlying54 ti4 rfl rfl h135 (ltn (hE118.neq hO 3 rfl) h136) (hE118.psome hO 3 rfl h135 h136)) _) rfl rfl ?_
      by_cases h137 : ix d_116 (ix (ix t (ix d_110 (k2_109 : Int))) (ix gens (k1_31 : Int))) = true
      ·replace H := ifp h137 H
       refine GoR.op (opB ((oldBool 3 hO rfl hE118 h135 h136 Try.underlying4 rfl rfl) _ (Same.refl _)) (h137)) rfl rfl ?_
       refine GoR.op ((op_not rfl) _) rfl rfl ?_
       refine GoR.nil ?_
       refine Go1.condF rfl rfl ?_
       refine Go1.skip ?_
       refine Go1.fin0V Try.func91 rfl ?_
       refine hR134 _ _ ?_
       refine GoQ.nil ?_
       refine Go1.exit rfl ?_
       refine Go1.region ?_
       refine GoR.op ((op_move rfl) _) rfl rfl ?_
       refine GoR.op ((op_add rfl rfl (wrap_i64 (natbd h119 hE112.bd))) _) rfl rfl ?_
       refine GoR.op ((op_assign rfl) _) rfl rfl ?_
       refine GoR.nil ?_
       exact hX2 _ H _ _ ⟨n115, p113, c114, vs111, vs117, ⟨rfl, rfl, rfl, rfl, trivial⟩, hO, hE112, hE70, hE118, h_t, h_gens, hB⟩
      ·replace H := ifn h137 H
       refine GoR.op (opB ((oldBool 3 hO rfl hE118 h135 h136 Try.underlying4 rfl rfl) _ (Same.refl _)) (Bool.eq_false_iff.2 h137)) rfl rfl ?_
       refine GoR.op ((op_not rfl) _) rfl rfl ?_
       refine GoR.nil ?_
       refine Go1.condT rfl rfl ?_
       refine Go1.seq ?_
       refine Go1.region ?_
       refine GoR.op ((op_move rfl) _) rfl rfl ?_
       refine GoR.op ((op_nilCheck rfl) _) rfl rfl ?_
       refine GoR.op ((op_fieldAddr Try.underlying67 rfl ti54 rfl (by decide)) _) rfl rfl ?_
       refine GoR.op ((oblk 2 hO rfl rfl Try.underlying54 rfl rfl) _ (Same.refl _)) rfl rfl ?_
       refine GoR.op ((op_move rfl) _) rfl rfl ?_
       obtain ⟨h138, H⟩ := H
       obtain ⟨h139, H⟩ := H
       refine GoR.op ((op_index Try.underlying54 ti4 rfl rfl h138 (ltn (hE118.neq hO 3 rfl) h139) (hE118.psome hO 3 rfl h138 h139)) _) rfl rfl ?_
       have hobt := ost (r := Rp.bool) rfl 3 hO rfl hE118 h138 h139 (v := .bool true) (u := true) rfl rfl
       obtain ⟨w140, vs141, hst142, hE143, hop144⟩ := hobt
       refine GoR.op (hop144 Try.underlying4 rfl ti4 rfl rfl) rfl rfl ?_
       replace hE112 := hE112.ch hst142.ch
       replace hE70 := hE70.ch hst142.ch
       replace hO := hst142.own
       replace h_t := h_t.ch hst142.ch
       replace h_gens := h_gens.ch hst142.ch
       replace hi130 := hi130.ch hst142.ch
       replace hB := hB.trans hst142.fr
       refine GoR.nil ?_
       refine Go1.region ?_
       refine GoR.op ((op_move rfl) _) rfl rfl ?_
       refine GoR.op ((op_move rfl) _) rfl rfl ?_
       refine GoR.op ((op_nilCheck rfl) _) rfl rfl ?_
       refine GoR.op ((op_fieldAddr Try.underlying67 rfl ti23 rfl (by decide)) _) rfl rfl ?_
       refine GoR.op ((oblk 2 hO rfl rfl Try.underlying23 rfl rfl) _ (Same.refl _)) rfl rfl ?_
       refine GoR.op ((op_move rfl) _) rfl rfl ?_
       have hobt := obuild (r := Rp.int .i64) (n := 1) (parts := [(0, .int .i64 (ix (ix t (ix d_110 (k2_109 : Int))) (ix gens (k1_31 : Int))))]) (vs := [.int .i64 (ix (ix t (ix d_110 (k2_109 : Int))) (ix gens (k1_31 : Int)))]) (xs := [(ix (ix t (ix d_110 (k2_109 : Int))) (ix gens (k1_31 : Int)))]) rfl Try.underlying23 ti3 hO (by decide) (by kernel_rfl) (Els.cons rfl rfl (Els.nil _ _ _) (by simp [mx])) rfl
       obtain ⟨w145, p146, hst147, hE148, hs149, hop150⟩ := hobt
       refine GoR.op (hop150 rfl) rfl rfl ?_
       replace hE112 := hE112.ch hst147.ch
       replace hE70 := hE70.ch hst147.ch
       replace hE143 := hE143.ch hst147.ch
       replace hO := hst147.own
       replace h_t := h_t.ch hst147.ch
       replace h_gens := h_gens.ch hst147.ch
       replace hi130 := hi130.ch hst147.ch
       replace hB := hB.trans hst147.fr
       have hobt := freeze 0 hO rfl hE148
       obtain ⟨hO1, hc154, hi152, hn153⟩ := hobt
       replace h_t := h_t.ch hc154
       replace h_gens := h_gens.ch hc154
       replace hi130 := hi130.ch hc154
       replace hE112 := hE112.ch hc154
       replace hE70 := hE70.ch hc154
       replace hE143 := hE143.ch hc154
       replace hB := hB.trans (Owns.dropFr _ _ 0)
       replace hO := hO1; clear hO1
       obtain ⟨h155, H⟩ := H
       have hobt := oapp Try.underlying23 ti3 rfl 0 hO rfl hE112 hi152 hn153 h155 (by decide)
       obtain ⟨w156, p157, c158, vs159, hst160, hE161, hop162⟩ := hobt
       refine GoR.op (hop162 rfl rfl) rfl rfl ?_
       replace hE70 := hE70.ch hst160.ch
       replace hE143 := hE143.ch hst160.ch
       replace hO := hst160.own
       replace h_t := h_t.ch hst160.ch
       replace h_gens := h_gens.ch hst160.ch
       replace hi130 := hi130.ch hst160.ch
       replace hi152 := hi152.ch hst160.ch
       replace hB := hB.trans hst160.fr
       refine GoR.op ((op_nilCheck rfl) _) rfl rfl ?_
       refine GoR.op ((op_fieldAddr Try.underlying67 rfl ti23 rfl (by decide)) _) rfl rfl ?_
       have hobt := oblkSt (v := .slice p157 (n115 + 1) c158) (i := 3) 2 hO rfl rfl rfl
       obtain ⟨w164, hst165, hop166⟩ := hobt
       refine GoR.op (hop166 Try.underlying23 rfl ti23 rfl rfl) rfl rfl ?_
       replace hE161 := hE161.ch hst165.ch
       replace hE70 := hE70.ch hst165.ch
       replace hE143 := hE143.ch hst165.ch
       replace hO := hst165.own
       replace h_t := h_t.ch hst165.ch
       replace h_gens := h_gens.ch hst165.ch
       replace hi130 := hi130.ch hst165.ch
       replace hi152 := hi152.ch hst165.ch
       replace hB := hB.trans hst165.fr
       refine GoR.nil ?_
       refine Go1.fin0V Try.func91 rfl ?_
       refine hR134 _ _ ?_
       refine GoQ.nil ?_
       refine Go1.exit rfl ?_
       refine Go1.region ?_
       refine GoR.op ((op_move rfl) _) rfl rfl ?_
       obtain ⟨h167, H⟩ := H
       refine GoR.op ((op_add rfl rfl (wrap_i64 h167)) _) rfl rfl ?_
       refine GoR.op ((op_assign rfl) _) rfl rfl ?_
       refine GoR.nil ?_
       exact hX2 _ H _ _ ⟨n115 + 1, p157, c158, vs159, vs141, ⟨rfl, rfl, rfl, rfl, trivial⟩, hO, hE161, hE70, hE143, h_t, h_gens, hB⟩
     ·replace H := ifn h120 H
      refine GoR.op ((fun w => opB (op_lss rfl rfl w) (decide_eq_false h120)) _) rfl rfl ?_
      refine GoR.nil ?_
      refine Go1.condF rfl rfl ?_
      refine Go1.skip ?_
      refine Go1.seq ?_
      refine Go1.region ?_
      refine GoR.op ((op_move rfl) _) rfl rfl ?_
      refine GoR.op ((op_nilCheck rfl) _) rfl rfl ?_
      refine GoR.op ((op_fieldAddr Try.underlying67 rfl ti23 rfl (by decide)) _) rfl rfl ?_
      refine GoR.op ((oblk 2 hO rfl rfl Try.underlying23 rfl rfl) _ (Same.refl _)) rfl rfl ?_
      refine GoR.op ((op_lenN Try.underlying23 rfl (hE70.neq hO 1 rfl)) _) rfl rfl ?_
      refine GoR.op ((op_move rfl) _) rfl rfl ?_
      refine GoR.nil ?_
      refine Go1.block ?_
      refine Go1.loopW (S := Nat × List Int × List Bool) (fun s σ w => ∃ (n175 : Nat), ∃ (p173 : Option Addr), ∃ (c174 : Nat), ∃ (vs171 : List Value), ∃ (vs177 : List Value), agrees σ [(0, .pointer (some ⟨B19, 0, none⟩)), (1, .int .i64 (ix gens (k1_31 : Int))), (4, .int .i64 (d_32.length : Int)), (5, .int .i64 (k2_109 : Int)), (66, .slice p66 (n43 + 1) c67), (67, .int .i64 ((d_38 ++ ([(ix gens (k1_31 : Int))])).length : Int)), (68, .int .i64 ((s.1) : Int))] ∧ Owns w0.heap.size w [.row 3 1 p173 n175 c174 vs171, .row 3 1 p66 (n43 + 1) c67 vs68, .blk B19 (.cells #[.slice p_t t.length c_t, .slice p66 (n43 + 1) c67, .slice p9 t.length t.length, .slice p173 n175 c174] 67 (0, 0)), .row 4 1 p9 t.length t.length vs177] A ∧ Els (Rp.int .i64) (bl [.row 3 1 p173 n175 c174 vs171, .row 3 1 p66 (n43 + 1) c67 vs68, .blk B19 (.cells #[.slice p_t t.length c_t, .slice p66 (n43 + 1) c67, .slice p9 t.length t.length, .slice p173 n175 c174] 67 (0, 0)), .row 4 1 p9 t.length t.length vs177] ++ A) w vs171 (s.2.1) ∧ Els (Rp.int .i64) (bl [.row 3 1 p173 n175 c174 vs171, .row 3 1 p66 (n43 + 1) c67 vs68, .blk B19 (.cells #[.slice p_t t.length c_t, .slice p66 (n43 + 1) c67, .slice p9 t.length t.length, .slice p173 n175 c174] 67 (0, 0)), .row 4 1 p9 t.length t.length vs177] ++ A) w vs68 (d_38 ++ ([(ix gens (k1_31 : Int))])) ∧ Els (Rp.bool) (bl [.row 3 1 p173 n175 c174 vs171, .row 3 1 p66 (n43 + 1) c67 vs68, .blk B19 (.cells #[.slice p_t t.length c_t, .slice p66 (n43 + 1) c67, .slice p9 t.length t.length, .slice p173 n175 c174] 67 (0, 0)), .row 4 1 p9 t.length t.length vs177] ++ A) w vs177 (s.2.2) ∧ ISl (Rp.sl (Rp.int .i64)) (bl [.row 3 1 p173 n175 c174 vs171, .row 3 1 p66 (n43 + 1) c67 vs68, .blk B19 (.cells #[.slice p_t t.length c_t, .slice p66 (n43 + 1) c67, .slice p9 t.length t.length, .slice p173 n175 c174] 67 (0, 0)), .row 4 1 p9 t.length t.length vs177] ++ A) w p_t c_t t ∧ ISl (Rp.int .i64) (bl [.row 3 1 p173 n175 c174 vs171, .row 3 1 p66 (n43 + 1) c67 vs68, .blk B19 (.cells #[.slice p_t t.length c_t, .slice p66 (n43 + 1) c67, .slice p9 t.length t.length, .slice p173 n175 c174] 67 (0, 0)), .row 4 1 p9 t.length t.length vs177] ++ A) w p_gens c_gens gens ∧ Fr (bl []) w0 (bl [.row 3 1 p173 n175 c174 vs171, .row 3 1 p66 (n43 + 1) c67 vs68, .blk B19 (.cells #[.slice p_t t.length c_t, .slice p66 (n43 + 1) c67, .slice p9 t.length t.length, .slice p173 n175 c174] 67 (0, 0)), .row 4 1 p9 t.length t.length vs177]) w) H ⟨n115, p113, c114, vs111, vs117, ⟨rfl, rfl, rfl, rfl, rfl, rfl, rfl, trivial⟩, hO, hE112, hE70, hE118, h_t, h_gens, hB⟩ ?_
      rintro X3 ⟨k3_169, d_170, d_176⟩ H hX3 σ w168 ⟨n175, p173, c174, vs171, vs177, hag, hO, hE172, hE70, hE178, h_t, h_gens, hB⟩
      dsimp only at H
      refine Go1.keep [(0, .pointer (some ⟨B19, 0, none⟩)), (1, .int .i64 (ix gens (k1_31 : Int))), (4, .int .i64 (d_32.length : Int)), (5, .int .i64 (k2_109 : Int)), (66, .slice p66 (n43 + 1) c67), (67, .int .i64 ((d_38 ++ ([(ix gens (k1_31 : Int))])).length : Int)), (68, .int .i64 (k3_169 : Int))] hag ?_
      refine Go1.seq ?_
      refine Go1.region ?_
      by_cases h179 : (k3_169 : Int) < ((d_38 ++ ([(ix gens (k1_31 : Int))])).length : Int)
      ·replace H := ifp h179 H
       refine GoR.op ((fun w => opB (op_lss rfl rfl w) (decide_eq_true h179)) _) rfl rfl ?_
       refine GoR.nil ?_
       refine Go1.seq ?_
       refine Go1.condT rfl rfl ?_
       refine Go1.skip ?_
       refine Go1.seq ?_
       refine Go1.block ?_
       refine Go1.seq ?_
       refine Go1.region ?_
       obtain ⟨h180, H⟩ := H
       obtain ⟨h181, H⟩ := H
       refine GoR.op ((op_index Try.underlying23 ti3 rfl rfl h180 (ltn (hE70.neq hO 1 rfl) h181) (hE70.psome hO 1 rfl h180 h181)) _) rfl rfl ?_
       refine GoR.op ((oldInt 1 hO rfl hE70 h180 h181 Try.underlying3 rfl rfl) _ (Same.refl _)) rfl rfl ?_
       refine GoR.op ((op_assign rfl) _) rfl rfl ?_
       refine GoR.nil ?_
       refine Go1.drawS 7 [(0, .pure), (1, .pure), (2, .pure), (3, .pure), (4, .stable), (5, .pure), (6, .pure), (7, .pure), (8, .stable), (9, .pure), (10, .pure), (11, .stable), (12, .pure), (13, .stable), (14, .pure), (15, .pure), (16, .stable), (17, .last)] mixed (by kernel_rfl) ?_
       intro w182 hs183
       have hst184 := Stp.same hO hs183
       replace hE172 := hE172.ch hst184.ch
       replace hE70 := hE70.ch hst184.ch
       replace hE178 := hE178.ch hst184.ch
       replace hO := hst184.own
       replace h_t := h_t.ch hst184.ch
       replace h_gens := h_gens.ch hst184.ch
       replace hB := hB.trans hst184.fr
       refine GoQ.pure rfl (op_move rfl) rfl rfl ?_
       refine GoQ.pure rfl (op_move rfl) rfl rfl ?_
       refine GoQ.pure rfl (op_nilCheck rfl) rfl rfl ?_
       refine GoQ.pure rfl (op_fieldAddr Try.underlying67 rfl ti22 rfl (by decide)) rfl rfl ?_
       refine GoQ.stable rfl (oblk 2 hO rfl rfl Try.underlying22 rfl rfl) rfl rfl ?_
       refine GoQ.pure rfl (op_move rfl) rfl rfl ?_
       refine GoQ.pure rfl (op_nilCheck rfl) rfl rfl ?_
       refine GoQ.pure rfl (op_fieldAddr Try.underlying67 rfl ti23 rfl (by decide)) rfl rfl ?_
       refine GoQ.stable rfl (oblk 2 hO rfl rfl Try.underlying23 rfl rfl) rfl rfl ?_
       refine GoQ.pure rfl (op_move rfl) rfl rfl ?_
       obtain ⟨h185, H⟩ := H
       obtain ⟨h186, H⟩ := H
       refine GoQ.pure rfl (op_index Try.underlying23 ti3 rfl rfl h185 (ltn (hE172.neq hO 0 rfl) h186) (hE172.psome hO 0 rfl h185 h186)) rfl rfl ?_
       refine GoQ.stable rfl (oldInt 0 hO rfl hE172 h185 h186 Try.underlying3 rfl rfl) rfl rfl ?_
       obtain ⟨h187, H⟩ := H
       obtain ⟨h188, H⟩ := H
       refine GoQ.pure rfl (op_index Try.underlying22 ti23 rfl rfl h187 h188 (h_t.some_ h187 h188)) rfl rfl ?_
       have hobt := ldSl h_t h187 h188
       obtain ⟨p189, c190, hi191, hl192⟩ := hobt
       refine GoQ.stable rfl (hl192 Try.underlying23 rfl rfl) rfl rfl ?_
       refine GoQ.pure rfl (op_move rfl) rfl rfl ?_
       obtain ⟨h193, H⟩ := H
       obtain ⟨h194, H⟩ := H
       refine GoQ.pure rfl (op_index Try.underlying23 ti3 rfl rfl h193 h194 (hi191.some_ h193 h194)) rfl rfl ?_
       refine GoQ.stable rfl (ldInt hi191 h193 h194 Try.underlying3 rfl rfl) rfl rfl ?_
       refine GoQ.inl (vs := [.pointer (some ⟨B19, 0, none⟩), .int .i64 (ix (ix t (ix d_170 (k2_109 : Int))) (ix (d_38 ++ ([(ix gens (k1_31 : Int))])) (k3_169 : Int)))]) (caps := []) rfl rfl rfl body91 Try.func91 rfl Try.ntmps91 rfl rfl rfl ?_
       intro RhR195 hR195
       refine Go1.seq ?_
       refine Go1.region ?_
       refine GoR.op ((op_move rfl) _) rfl rfl ?_
       refine GoR.op ((op_nilCheck rfl) _) rfl rfl ?_
       refine GoR.op ((op_fieldAddr Try.underlying67 rfl ti54 rfl (by decide)) _) rfl rfl ?_
       refine GoR.op ((oblk 2 hO rfl rfl Try.underlying54 rfl rfl) _ (Same.refl _)) rfl rfl ?_
       refine GoR.op ((op_move rfl) _) rfl rfl ?_
       obtain ⟨h196, H⟩ := H
       obtain ⟨h197, H⟩ := H
       refine GoR.op ((op_index Try.underlying54 ti4 rfl rfl h196 (ltn (hE178.neq hO 3 rfl) h197) (hE178.psome hO 3 rfl h196 h197)) _) rfl rfl ?_
       by_cases h198 : ix d_176 (ix (ix t (ix d_170 (k2_109 : Int))) (ix (d_38 ++ ([(ix gens (k1_31 : Int))])) (k3_169 : Int))) = true
       ·replace H := ifp h198 H
        refine GoR.op (opB ((oldBool 3 hO rfl hE178 h196 h197 Try.underlying4 rfl rfl) _ (Same.refl _)) (h198)) rfl rfl ?_
        refine GoR.op ((op_not rfl) _) rfl rfl ?_
        refine GoR.nil ?_
        refine Go1.condF rfl rfl ?_
        refine Go1.skip ?_
        refine Go1.fin0V Try.func91 rfl ?_
        refine hR195 _ _ ?_
        refine GoQ.nil ?_
        refine Go1.inBlock ?_
        refine Go1.region ?_
        refine GoR.op ((op_add rfl rfl (wrap_i64 (natbd h179 hE70.bd))) _) rfl rfl ?_
        refine GoR.op ((op_move rfl) _) rfl rfl ?_
        refine GoR.nil ?_
        exact hX3 _ H _ _ ⟨n175, p173, c174, vs171, vs177, ⟨rfl, rfl, rfl, rfl, rfl, rfl, rfl, trivial⟩, hO, hE172, hE70, hE178, h_t, h_gens, hB⟩
       ·replace H := ifn h198 H
        refine GoR.op (opB ((oldBool 3 hO rfl hE178 h196 h197 Try.underlying4 rfl rfl) _ (Same.refl _)) (Bool.eq_false_iff.2 h198)) rfl rfl ?_
        refine GoR.op ((op_not rfl) _) rfl rfl ?_
        refine GoR.nil ?_
        refine Go1.condT rfl rfl ?_
        refine Go1.seq ?_
        refine Go1.region ?_
        refine GoR.op ((op_move rfl) _) rfl rfl ?_
        refine GoR.op ((op_nilCheck rfl) _) rfl rfl ?_
        refine GoR.op ((op_fieldAddr Try.underlying67 rfl ti54 rfl (by decide)) _) rfl rfl ?_
        refine GoR.op ((oblk 2 hO rfl rfl Try.underlying54 rfl rfl) _ (Same.refl _)) rfl rfl ?_
        refine GoR.op ((op_move rfl) _) rfl rfl ?_
        obtain ⟨h199, H⟩ := H
        obtain ⟨h200, H⟩ := H
        refine GoR.op ((op_index Try.underlying54 ti4 rfl rfl h199 (ltn (hE178.neq hO 3 rfl) h200) (hE178.psome hO 3 rfl h199 h200)) _) rfl rfl ?_
        have hobt := ost (r := Rp.bool) rfl 3 hO rfl hE178 h199 h200 (v := .bool true) (u := true) rfl rfl
        obtain ⟨w201, vs202, hst203, hE204, hop205⟩ := hobt
        refine GoR.op (hop205 Try.underlying4 rfl ti4 rfl rfl) rfl rfl ?_
        replace hE172 := hE172.ch hst203.ch
        replace hE70 := hE70.ch hst203.ch
        replace hO := hst203.own
        replace h_t := h_t.ch hst203.ch
        replace h_gens := h_gens.ch hst203.ch
        replace hi191 := hi191.ch hst203.ch
        replace hB := hB.trans hst203.fr
        refine GoR.nil ?_
        refine Go1.region ?_
        refine GoR.op ((op_move rfl) _) rfl rfl ?_
        refine GoR.op ((op_move rfl) _) rfl rfl ?_
        refine GoR.op ((op_nilCheck rfl) _) rfl rfl ?_
        refine GoR.op ((op_fieldAddr Try.underlying67 rfl ti23 rfl (by decide)) _) rfl rfl ?_
        refine GoR.op ((oblk 2 hO rfl rfl Try.underlying23 rfl rfl) _ (Same.refl _)) rfl rfl ?_
        refine GoR.op ((op_move rfl) _) rfl rfl ?_
        have hobt := obuild (r := Rp.int .i64) (n := 1) (parts := [(0, .int .i64 (ix (ix t (ix d_170 (k2_109 : Int))) (ix (d_38 ++ ([(ix gens (k1_31 : Int))])) (k3_169 : Int))))]) (vs := [.int .i64 (ix (ix t (ix d_170 (k2_109 : Int))) (ix (d_38 ++ ([(ix gens (k1_31 : Int))])) (k3_169 : Int)))]) (xs := [(ix (ix t (ix d_170 (k2_109 : Int))) (ix (d_38 ++ ([(ix gens (k1_31 : Int))])) (k3_169 : Int)))]) rfl Try.underlying23 ti3 hO (by decide) (by kernel_rfl) (Els.cons rfl rfl (Els.nil _ _ _) (by simp [mx])) rfl
        obtain ⟨w206, p207, hst208, hE209, hs210, hop211⟩ := hobt
        refine GoR.op (hop211 rfl) rfl rfl ?_
        replace hE172 := hE172.ch hst208.ch
        replace hE70 := hE70.ch hst208.ch
        replace hE204 := hE204.ch hst208.ch
        replace hO := hst208.own
        replace h_t := h_t.ch hst208.ch
        replace h_gens := h_gens.ch hst208.ch
        replace hi191 := hi191.ch hst208.ch
        replace hB := hB.trans hst208.fr
        have hobt := freeze 0 hO rfl hE209
        obtain ⟨hO1, hc215, hi213, hn214⟩ := hobt
        replace h_t := h_t.ch hc215
        replace h_gens := h_gens.ch hc215
        replace hi191 := hi191.ch hc215
        replace hE172 := hE172.ch hc215
        replace hE70 := hE70.ch hc215
        replace hE204 := hE204.ch hc215
        replace hB := hB.trans (Owns.dropFr _ _ 0)
        replace hO := hO1; clear hO1
        obtain ⟨h216, H⟩ := H
        have hobt := oapp Try.underlying23 ti3 rfl 0 hO rfl hE172 hi213 hn214 h216 (by decide)
        obtain ⟨w217, p218, c219, vs220, hst221, hE222, hop223⟩ := hobt
        refine GoR.op (hop223 rfl rfl) rfl rfl ?_
        replace hE70 := hE70.ch hst221.ch
        replace hE204 := hE204.ch hst221.ch
        replace hO := hst221.own
        replace h_t := h_t.ch hst221.ch
        replace h_gens := h_gens.ch hst221.ch
        replace hi191 := hi191.ch hst221.ch
        replace hi213 := hi213.ch hst221.ch
        replace hB := hB.trans hst221.fr
        refine GoR.op ((op_nilCheck rfl) _) rfl rfl ?_
        refine GoR.op ((op_fieldAddr Try.underlying67 rfl ti23 rfl (by decide)) _) rfl rfl ?_
        have hobt := oblkSt (v := .slice p218 (n175 + 1) c219) (i := 3) 2 hO rfl rfl rfl
        obtain ⟨w225, hst226, hop227⟩ := hobt
        refine GoR.op (hop227 Try.underlying23 rfl ti23 rfl rfl) rfl rfl ?_
        replace hE222 := hE222.ch hst226.ch
        replace hE70 := hE70.ch hst226.ch
        replace hE204 := hE204.ch hst226.ch
        replace hO := hst226.own
        replace h_t := h_t.ch hst226.ch
        replace h_gens := h_gens.ch hst226.ch
        replace hi191 := hi191.ch hst226.ch
        replace hi213 := hi213.ch hst226.ch
        replace hB := hB.trans hst226.fr
        refine GoR.nil ?_
        refine Go1.fin0V Try.func91 rfl ?_
        refine hR195 _ _ ?_
        refine GoQ.nil ?_
        refine Go1.inBlock ?_
        refine Go1.region ?_
        refine GoR.op ((op_add rfl rfl (wrap_i64 (natbd h179 hE70.bd))) _) rfl rfl ?_
        refine GoR.op ((op_move rfl) _) rfl rfl ?_
        refine GoR.nil ?_
        exact hX3 _ H _ _ ⟨n175 + 1, p218, c219, vs220, vs202, ⟨rfl, rfl, rfl, rfl, rfl, rfl, rfl, trivial⟩, hO, hE222, hE70, hE204, h_t, h_gens, hB⟩
      ·replace H := ifn h179 H
       refine GoR.op ((fun w => opB (op_lss rfl rfl w) (decide_eq_false h179)) _) rfl rfl ?_
       refine GoR.nil ?_
       refine Go1.seq ?_
       refine Go1.condF rfl rfl ?_
       refine Go1.exit rfl ?_
       refine Go1.inBlock ?_
       refine Go1.region ?_
       refine GoR.op ((op_move rfl) _) rfl rfl ?_
       obtain ⟨h228, H⟩ := H
       refine GoR.op ((op_add rfl rfl (wrap_i64 h228)) _) rfl rfl ?_
       refine GoR.op ((op_assign rfl) _) rfl rfl ?_
       refine GoR.nil ?_
       exact hX2 _ H _ _ ⟨n175, p173, c174, vs171, vs177, ⟨rfl, rfl, rfl, rfl, trivial⟩, hO, hE172, hE70, hE178, h_t, h_gens, hB⟩
    ·replace H := ifn h119 H
     refine GoR.op ((fun w => opB (op_lss rfl rfl w) (decide_eq_false h119)) _) rfl rfl ?_
     refine GoR.nil ?_
     refine Go1.condF rfl rfl ?_
     refine Go1.exit rfl ?_
     refine Go1.fin0V Try.func83 rfl ?_
     refine hR50 _ _ ?_
     refine GoR.nil ?_
     refine Go1.inBlock ?_
     refine Go1.region ?_
     refine GoR.op ((op_add rfl rfl (wrap_i64 (natbd h47 h_gens.bd))) _) rfl rfl ?_
     refine GoR.op ((op_move rfl) _) rfl rfl ?_
     refine GoR.nil ?_
     exact hX1 _ H _ _ ⟨n115, p113, c114, vs111, n43 + 1, p66, c67, vs68, vs117, ⟨rfl, rfl, rfl, rfl, trivial⟩, hO, hE112, hE70, hE118, h_t, h_gens, hB⟩
  ·replace H := ifn h47 H
   refine GoR.op ((fun w => opB (op_lss rfl rfl w) (decide_eq_false h47)) _) rfl rfl ?_
   refine GoR.nil ?_
   refine Go1.seq ?_
   refine Go1.condF rfl rfl ?_
   refine Go1.exit rfl ?_
   refine Go1.seq ?_
   refine Go1.region ?_
   refine GoR.op ((op_move rfl) _) rfl rfl ?_
   refine GoR.op ((op_nilCheck rfl) _) rfl rfl ?_
   refine GoR.op ((op_fieldAddr Try.underlying67 rfl ti23 rfl (by decide)) _) rfl rfl ?_
   refine GoR.op ((oblk 2 hO rfl rfl Try.underlying23 rfl rfl) _ (Same.refl _)) rfl rfl ?_
   obtain ⟨h234, H⟩ := H
   refine GoR.call (osort body86 0 hO rfl hE34 h234 rfl) rfl rfl ?_
   rintro v233 w229 ⟨rfl, vs230, hst231, hE232⟩
   replace hE40 := hE40.ch hst231.ch
   replace hE46 := hE46.ch hst231.ch
   replace hO := hst231.own
   replace h_t := h_t.ch hst231.ch
   replace h_gens := h_gens.ch hst231.ch
   replace hB := hB.trans hst231.fr
   refine GoR.nil ?_
   refine Go1.seq ?_
   refine Go1.region ?_
   refine GoR.op ((op_move rfl) _) rfl rfl ?_
   refine GoR.op ((op_nilCheck rfl) _) rfl rfl ?_
   refine GoR.op ((op_fieldAddr Try.underlying67 rfl ti23 rfl (by decide)) _) rfl rfl ?_
   refine GoR.op ((oblk 2 hO rfl rfl Try.underlying23 rfl rfl) _ (Same.refl _)) rfl rfl ?_
   refine GoR.op ((op_assign rfl) _) rfl rfl ?_
   refine GoR.nil ?_
   have hobt := freeze 0 hO rfl hE232
   obtain ⟨hO1, hc237, hi235, hn236⟩ := hobt
   replace h_t := h_t.ch hc237
   replace h_gens := h_gens.ch hc237
   replace hE40 := hE40.ch hc237
   replace hE46 := hE46.ch hc237
   replace hB := hB.trans (Owns.dropFr _ _ 0)
   replace hO := hO1; clear hO1
   refine Go1.ret1 Try.func58 rfl ?_
   exact ⟨msort d_32, p35, c36, ((congrArg (fun nn => Value.slice p35 nn c36) hn236)), hB.same, (hi235.ch (Ch.weak _ _ _)), H⟩
theorem body59 : Body Try.prog 59 := ⟨Try.f59, Try.func59, rfl, by kernel_rfl⟩
theorem walk_mult_Sub {A : List Nat} {w0 : World} {p_a0 : Option Addr} {c_a0 : Nat} {p_a1 : Option Addr} {c_a1 : Nat} {a0 : List (List Int)} {a1 : List Int} (hA : ∀ b ∈ A, b < w0.heap.size) (h_a0 : ISl (Rp.sl (Rp.int .i64)) A w0 p_a0 c_a0 a0) (h_a1 : ISl (Rp.int .i64) A w0 p_a1 c_a1 a1) {K : List (List Int) → Int → Prop} (H : mult_Sub a0 a1 K) :
    CallsV Try.prog 59 #[.slice p_a0 a0.length c_a0, .slice p_a1 a1.length c_a1] w0 (fun v w' => ∃ (r0 : List (List Int)), ∃ (r1 : Int), ∃ (p_r0 : Option Addr), ∃ (c_r0 : Nat), v = .tuple #[.slice p_r0 r0.length c_r0, .int .i64 r1] ∧ Same w0 w' ∧ ISl (Rp.sl (Rp.int .i64)) A w' p_r0 c_r0 r0 ∧ K r0 r1) := by
 refine CallsV.of (l := [.slice p_a0 a0.length c_a0, .slice p_a1 a1.length c_a1]) Try.func59 rfl Try.ntmps59 rfl ?_
 have hO := Owns.start hA
 have hB := Fr.refl (bl []) w0
 unfold mult_Sub at H
 replace h_a0 := h_a0.ch (Ch.start A w0)
 replace h_a1 := h_a1.ch (Ch.start A w0)
 refine Go1.seq ?_
 refine Go1.region ?_
 refine GoR.op ((op_assign rfl) _) rfl rfl ?_
 refine GoR.op ((op_assign rfl) _) rfl rfl ?_
 refine GoR.nil ?_
 refine Go1.seq ?_
 refine Go1.seq ?_
 refine Go1.region ?_
 refine GoR.op ((op_move rfl) _) rfl rfl ?_
 refine GoR.call (op_call body22 rfl (walk_mult_Validate hO.lt h_a0 H)) rfl rfl ?_
 rintro v5 w2 ⟨r1, rfl, hs3, H⟩
 have hst6 := Stp.same hO hs3
 replace hO := hst6.own
 replace h_a0 := h_a0.ch hst6.ch
 replace h_a1 := h_a1.ch hst6.ch
 replace hB := hB.trans hst6.fr
 refine GoR.op ((op_assign rfl) _) rfl rfl ?_
 refine GoR.nil ?_
 refine Go1.seq ?_
 refine Go1.region ?_
 refine GoR.op ((op_move rfl) _) rfl rfl ?_
 by_cases h7 : r1 = (0 : Int)
 ·replace H := ifp h7 H
  refine GoR.op ((fun w => opB (op_neq rfl rfl w) (ndT h7)) _) rfl rfl ?_
  refine GoR.nil ?_
  refine Go1.condF rfl rfl ?_
  refine Go1.skip ?_
  refine Go1.seq ?_
  refine Go1.seq ?_
  refine Go1.region ?_
  refine GoR.op ((op_move rfl) _) rfl rfl ?_
  refine GoR.op ((op_len Try.underlying23 rfl) _) rfl rfl ?_
  replace H := H h_a1.bd
  by_cases h8 : (a1.length : Int) = (0 : Int)
  ·replace H := ifp h8 H
   refine GoR.op ((fun w => opB (op_eql rfl rfl w) (decide_eq_true h8)) _) rfl rfl ?_
   refine GoR.op ((op_move rfl) _) rfl rfl ?_
   refine GoR.pass rfl rfl ?_
   refine GoR.pass rfl rfl ?_
   refine GoR.pass rfl rfl ?_
   refine GoR.pass rfl rfl ?_
   refine GoR.op ((op_pickT rfl rfl rfl) _) rfl rfl ?_
   refine GoR.nil ?_
   refine Go1.condT rfl rfl ?_
   refine Go1.seq ?_
   refine Go1.region ?_
   refine GoR.op ((op_assign rfl) _) rfl rfl ?_
   refine GoR.op ((op_assign rfl) _) rfl rfl ?_
   refine GoR.nil ?_
   refine Go1.ret2 Try.func59 rfl ?_
   exact ⟨([] : List (List Int)), (1 : Int), none, 0, rfl, hB.same, (ISl.null _ _ _), H⟩
  ·replace H := ifn h8 H
   refine GoR.op ((fun w => opB (op_eql rfl rfl w) (decide_eq_false h8)) _) rfl rfl ?_
   refine GoR.op ((op_move rfl) _) rfl rfl ?_
   refine GoR.op ((op_move rfl) _) rfl rfl ?_
   refine GoR.op ((op_move rfl) _) rfl rfl ?_
   refine GoR.call (op_call body63 rfl (walk_mult_areElements hO.lt h_a0 h_a1 H)) rfl rfl ?_
   rintro v13 w10 ⟨r9, rfl, hs11, H⟩
   have hst14 := Stp.same hO hs11
   replace hO := hst14.own
   replace h_a0 := h_a0.ch hst14.ch
   replace h_a1 := h_a1.ch hst14.ch
   replace hB := hB.trans hst14.fr
   cases r9
   ·replace H := ifn Bool.false_ne_true H
    refine GoR.op ((op_not rfl) _) rfl rfl ?_
    refine GoR.op ((op_pickF rfl rfl rfl) _) rfl rfl ?_
    refine GoR.nil ?_
    refine Go1.condT rfl rfl ?_
    refine Go1.seq ?_
    refine Go1.region ?_
    refine GoR.op ((op_assign rfl) _) rfl rfl ?_
    refine GoR.op ((op_assign rfl) _) rfl rfl ?_
    refine GoR.nil ?_
    refine Go1.ret2 Try.func59 rfl ?_
    exact ⟨([] : List (List Int)), (1 : Int), none, 0, rfl, hB.same, (ISl.null _ _ _), H⟩
   ·replace H := ifp rfl H
    refine GoR.op ((op_not rfl) _) rfl rfl ?_
    refine GoR.op ((op_pickF rfl rfl rfl) _) rfl rfl ?_
    refine GoR.nil ?_
    refine Go1.condF rfl rfl ?_
    refine Go1.skip ?_
    refine Go1.seq ?_
    refine Go1.region ?_
    refine GoR.op ((op_move rfl) _) rfl rfl ?_
    refine GoR.op ((op_len Try.underlying22 rfl) _) rfl rfl ?_
    replace H := H h_a0.bd
    obtain ⟨h22, H⟩ := H
    obtain ⟨h23, H⟩ := H
    have hobt := omake (n := (a0.length : Int)) (r := Rp.int .i64) (d := (0 : Int)) Try.underlying23 ti3 (fun _ _ => rfl) rfl hO h22 h23 (by decide)
    obtain ⟨w15, p16, vs17, hst18, hE19, hs20, hop21⟩ := hobt
    refine GoR.op (hop21 rfl rfl) rfl rfl ?_
    replace hO := hst18.own
    replace h_a0 := h_a0.ch hst18.ch
    replace h_a1 := h_a1.ch hst18.ch
    replace hB := hB.trans hst18.fr
    refine GoR.op ((op_assign rfl) _) rfl rfl ?_
    refine GoR.nil ?_
    refine Go1.seq ?_
    refine Go1.seq ?_
    refine Go1.region ?_
    refine GoR.op ((op_move rfl) _) rfl rfl ?_
    refine GoR.op ((op_lenN Try.underlying23 rfl (hE19.neq hO 0 rfl)) _) rfl rfl ?_
    refine GoR.op ((op_move rfl) _) rfl rfl ?_
    refine GoR.nil ?_
    refine Go1.block ?_
    refine Go1.loopW (S := Nat × List Int) (fun s σ w => ∃ (vs28 : List Value), agrees σ [(0, .slice p_a0 a0.length c_a0), (1, .slice p_a1 a1.length c_a1), (7, .slice p16 a0.length a0.length), (34, .int .i64 ((List.replicate a0.length ((0 : Int))).length : Int)), (35, .int .i64 ((s.1) : Int))] ∧ Owns w0.heap.size w [.row 3 1 p16 a0.length a0.length vs28] A ∧ Els (Rp.int .i64) (bl [.row 3 1 p16 a0.length a0.length vs28] ++ A) w vs28 (s.2) ∧ ISl (Rp.sl (Rp.int .i64)) (bl [.row 3 1 p16 a0.length a0.length vs28] ++ A) w p_a0 c_a0 a0 ∧ ISl (Rp.int .i64) (bl [.row 3 1 p16 a0.length a0.length vs28] ++ A) w p_a1 c_a1 a1 ∧ Fr (bl []) w0 (bl [.row 3 1 p16 a0.length a0.length vs28]) w) H ⟨vs17, ⟨rfl, rfl, rfl, rfl, rfl, trivial⟩, hO, hE19, h_a0, h_a1, hB⟩ ?_
    rintro X1 ⟨k1_26, d_27⟩ H hX1 σ w25 ⟨vs28, hag, hO, hE29, h_a0, h_a1, hB⟩
    dsimp only at H
    refine Go1.keep [(0, .slice p_a0 a0.length c_a0), (1, .slice p_a1 a1.length c_a1), (7, .slice p16 a0.length a0.length), (34, .int .i64 ((List.replicate a0.length ((0 : Int))).length : Int)), (35, .int .i64 (k1_26 : Int))] hag ?_
    refine Go1.seq ?_
    refine Go1.region ?_
    by_cases h30 : (k1_26 : Int) < ((List.replicate a0.length ((0 : Int))).length : Int)
    ·replace H := ifp h30 H
     refine GoR.op ((fun w => opB (op_lss rfl rfl w) (decide_eq_true h30)) _) rfl rfl ?_
     refine GoR.nil ?_
     refine Go1.seq ?_
     refine Go1.condT rfl rfl ?_
     refine Go1.skip ?_
     refine Go1.seq ?_
     refine Go1.block ?_
     refine Go1.seq ?_
     refine Go1.region ?_
     refine GoR.op ((op_move rfl) _) rfl rfl ?_
     refine GoR.op ((op_assign rfl) _) rfl rfl ?_
     refine GoR.nil ?_
     refine Go1.region ?_
     refine GoR.op ((op_move rfl) _) rfl rfl ?_
     refine GoR.op ((op_move rfl) _) rfl rfl ?_
     obtain ⟨h31, H⟩ := H
     obtain ⟨h32, H⟩ := H
     refine GoR.op ((op_index Try.underlying23 ti3 rfl rfl h31 (ltn (hE29.neq hO 0 rfl) h32) (hE29.psome hO 0 rfl h31 h32)) _) rfl rfl ?_
     have hobt := ost (r := Rp.int .i64) rfl 0 hO rfl hE29 h31 h32 (v := .int .i64 (-1 : Int)) (u := (-1 : Int)) rfl rfl
     obtain ⟨w33, vs34, hst35, hE36, hop37⟩ := hobt
     refine GoR.op (hop37 Try.underlying3 rfl ti3 rfl rfl) rfl rfl ?_
     replace hO := hst35.own
     replace h_a0 := h_a0.ch hst35.ch
     replace h_a1 := h_a1.ch hst35.ch
     replace hB := hB.trans hst35.fr
     refine GoR.nil ?_
     refine Go1.inBlock ?_
     refine Go1.region ?_
     obtain ⟨h38, H⟩ := H
     refine GoR.op ((op_add rfl rfl (wrap_i64 h38)) _) rfl rfl ?_
     refine GoR.op ((op_move rfl) _) rfl rfl ?_
     refine GoR.nil ?_
     exact hX1 _ H _ _ ⟨vs34, ⟨rfl, rfl, rfl, rfl, rfl, trivial⟩, hO, hE36, h_a0, h_a1, hB⟩
    ·replace H := ifn h30 H
     refine GoR.op ((fun w => opB (op_lss rfl rfl w) (decide_eq_false h30)) _) rfl rfl ?_
     refine GoR.nil ?_
     refine Go1.seq ?_
     refine Go1.condF rfl rfl ?_
     refine Go1.exit rfl ?_
     refine Go1.seq ?_
     refine Go1.seq ?_
     refine Go1.region ?_
     refine GoR.op ((op_move rfl) _) rfl rfl ?_
     refine GoR.op ((op_len Try.underlying23 rfl) _) rfl rfl ?_
     refine GoR.op ((op_move rfl) _) rfl rfl ?_
     refine GoR.nil ?_
     refine Go1.block ?_
     refine Go1.loopW (S := Nat × List Int) (fun s σ w => ∃ (vs42 : List Value), agrees σ [(0, .slice p_a0 a0.length c_a0), (1, .slice p_a1 a1.length c_a1), (7, .slice p16 a0.length a0.length), (42, .slice p_a1 a1.length c_a1), (43, .int .i64 (a1.length : Int)), (44, .int .i64 ((s.1) : Int))] ∧ Owns w0.heap.size w [.row 3 1 p16 a0.length a0.length vs42] A ∧ Els (Rp.int .i64) (bl [.row 3 1 p16 a0.length a0.length vs42] ++ A) w vs42 (s.2) ∧ ISl (Rp.sl (Rp.int .i64)) (bl [.row 3 1 p16 a0.length a0.length vs42] ++ A) w p_a0 c_a0 a0 ∧ ISl (Rp.int .i64) (bl [.row 3 1 p16 a0.length a0.length vs42] ++ A) w p_a1 c_a1 a1 ∧ Fr (bl []) w0 (bl [.row 3 1 p16 a0.length a0.length vs42]) w) H ⟨vs28, ⟨rfl, rfl, rfl, rfl, rfl, rfl, trivial⟩, hO, hE29, h_a0, h_a1, hB⟩ ?_
     rintro X2 ⟨k2_40, d_41⟩ H hX2 σ w39 ⟨vs42, hag, hO, hE43, h_a0, h_a1, hB⟩
     dsimp only at H
     refine Go1.keep [(0, .slice p_a0 a0.length c_a0), (1, .slice p_a1 a1.length c_a1), (7, .slice p16 a0.length a0.length), (42, .slice p_a1 a1.length c_a1), (43, .int .i64 (a1.length : Int)), (44, .int .i64 (k2_40 : Int))] hag ?_
     refine Go1.seq ?_
     refine Go1.region ?_
     by_cases h44 : (k2_40 : Int) < (a1.length : Int)
     ·replace H := ifp h44 H
      refine GoR.op ((fun w => opB (op_lss rfl rfl w) (decide_eq_true h44)) _) rfl rfl ?_
      refine GoR.nil ?_
      refine Go1.seq ?_
      refine Go1.condT rfl rfl ?_
      refine Go1.skip ?_
      refine Go1.seq ?_
      refine Go1.block ?_
      refine Go1.seq ?_
      refine Go1.region ?_
      refine GoR.op ((op_move rfl) _) rfl rfl ?_
      obtain ⟨h45, H⟩ := H
      obtain ⟨h46, H⟩ := H
      refine GoR.op ((op_index Try.underlying23 ti3 rfl rfl h45 h46 (h_a1.some_ h45 h46)) _) rfl rfl ?_
      refine GoR.op ((ldInt h_a1 h45 h46 Try.underlying3 rfl rfl) _ (Same.refl _)) rfl rfl ?_
      refine GoR.op ((op_assign rfl) _) rfl rfl ?_
      refine GoR.op ((op_assign rfl) _) rfl rfl ?_
      refine GoR.nil ?_
      refine Go1.seq ?_
      refine Go1.seq ?_
      refine Go1.region ?_
      refine GoR.op ((op_move rfl) _) rfl rfl ?_
      by_cases h47 : (0 : Int) < (k2_40 : Int)
      ·replace H := ifp h47 H
       refine GoR.op ((fun w => opB (op_gtr rfl rfl w) (decide_eq_true h47)) _) rfl rfl ?_
       refine GoR.op ((op_move rfl) _) rfl rfl ?_
       refine GoR.op ((op_move rfl) _) rfl rfl ?_
       refine GoR.op ((op_move rfl) _) rfl rfl ?_
       obtain ⟨h48, H⟩ := H
       refine GoR.op ((op_sub rfl rfl (wrap_i64 h48)) _) rfl rfl ?_
       obtain ⟨h49, H⟩ := H
       obtain ⟨h50, H⟩ := H
       refine GoR.op ((op_index Try.underlying23 ti3 rfl rfl h49 h50 (h_a1.some_ h49 h50)) _) rfl rfl ?_
       refine GoR.op ((ldInt h_a1 h49 h50 Try.underlying3 rfl rfl) _ (Same.refl _)) rfl rfl ?_
       refine GoR.op ((op_move rfl) _) rfl rfl ?_
       by_cases h51 : (ix a1 (k2_40 : Int)) ≤ (ix a1 ((k2_40 : Int) - (1 : Int)))
       ·replace H := ifp h51 H
        refine GoR.op ((fun w => opB (op_geq rfl rfl w) (decide_eq_true h51)) _) rfl rfl ?_
        refine GoR.op ((op_pickT rfl rfl rfl) _) rfl rfl ?_
        refine GoR.nil ?_
        refine Go1.condT rfl rfl ?_
        refine Go1.seq ?_
        refine Go1.region ?_
        refine GoR.op ((op_assign rfl) _) rfl rfl ?_
        refine GoR.op ((op_assign rfl) _) rfl rfl ?_
        refine GoR.nil ?_
        refine Go1.ret2 Try.func59 rfl ?_
        exact ⟨([] : List (List Int)), (1 : Int), none, 0, rfl, hB.same, (ISl.null _ _ _), H⟩
       ·replace H := ifn h51 H
        refine GoR.op ((fun w => opB (op_geq rfl rfl w) (decide_eq_false h51)) _) rfl rfl ?_
        refine GoR.op ((op_pickT rfl rfl rfl) _) rfl rfl ?_
        refine GoR.nil ?_
        refine Go1.condF rfl rfl ?_
        refine Go1.skip ?_
        refine Go1.region ?_
        refine GoR.op ((op_move rfl) _) rfl rfl ?_
        refine GoR.op ((op_move rfl) _) rfl rfl ?_
        refine GoR.op ((op_move rfl) _) rfl rfl ?_
        obtain ⟨h52, H⟩ := H
        obtain ⟨h53, H⟩ := H
        refine GoR.op ((op_index Try.underlying23 ti3 rfl rfl h52 (ltn (hE43.neq hO 0 rfl) h53) (hE43.psome hO 0 rfl h52 h53)) _) rfl rfl ?_
        have hobt := ost (r := Rp.int .i64) rfl 0 hO rfl hE43 h52 h53 (v := .int .i64 (k2_40 : Int)) (u := (k2_40 : Int)) rfl rfl
        obtain ⟨w54, vs55, hst56, hE57, hop58⟩ := hobt
        refine GoR.op (hop58 Try.underlying3 rfl ti3 rfl rfl) rfl rfl ?_
        replace hO := hst56.own
        replace h_a0 := h_a0.ch hst56.ch
        replace h_a1 := h_a1.ch hst56.ch
        replace hB := hB.trans hst56.fr
        refine GoR.nil ?_
        refine Go1.inBlock ?_
        refine Go1.region ?_
        refine GoR.op ((op_add rfl rfl (wrap_i64 (natbd h44 h_a1.bd))) _) rfl rfl ?_
        refine GoR.op ((op_move rfl) _) rfl rfl ?_
        refine GoR.nil ?_
        exact hX2 _ H _ _ ⟨vs55, ⟨rfl, rfl, rfl, rfl, rfl, rfl, trivial⟩, hO, hE57, h_a0, h_a1, hB⟩
      ·replace H := ifn h47 H
       refine GoR.op ((fun w => opB (op_gtr rfl rfl w) (decide_eq_false h47)) _) rfl rfl ?_
       refine GoR.op ((op_move rfl) _) rfl rfl ?_
       refine GoR.pass rfl rfl ?_
       refine GoR.pass rfl rfl ?_
       refine GoR.pass rfl rfl ?_
       refine GoR.pass rfl rfl ?_
       refine GoR.pass rfl rfl ?_
       refine GoR.pass rfl rfl ?_
       refine GoR.pass rfl rfl ?_
       refine GoR.op ((op_pickF rfl rfl rfl) _) rfl rfl ?_
       refine GoR.nil ?_
       refine Go1.condF rfl rfl ?_
       refine Go1.skip ?_
       refine Go1.region ?_
       refine GoR.op ((op_move rfl) _) rfl rfl ?_
       refine GoR.op ((op_move rfl) _) rfl rfl ?_
       refine GoR.op ((op_move rfl) _) rfl rfl ?_
       obtain ⟨h59, H⟩ := H
       obtain ⟨h60, H⟩ := H
       refine GoR.op ((op_index Try.underlying23 ti3 rfl rfl h59 (ltn (hE43.neq hO 0 rfl) h60) (hE43.psome hO 0 rfl h59 h60)) _) rfl rfl ?_
       have hobt := ost (r := Rp.int .i64) rfl 0 hO rfl hE43 h59 h60 (v := .int .i64 (k2_40 : Int)) (u := (k2_40 : Int)) rfl rfl
       obtain ⟨w61, vs62, hst63, hE64, hop65⟩ := hobt
       refine GoR.op (hop65 Try.underlying3 rfl ti3 rfl rfl) rfl rfl ?_
       replace hO := hst63.own
       replace h_a0 := h_a0.ch hst63.ch
       replace h_a1 := h_a1.ch hst63.ch
       replace hB := hB.trans hst63.fr
       refine GoR.nil ?_
       refine Go1.inBlock ?_
       refine Go1.region ?_
       refine GoR.op ((op_add rfl rfl (wrap_i64 (natbd h44 h_a1.bd))) _) rfl rfl ?_
       refine GoR.op ((op_move rfl) _) rfl rfl ?_
       refine GoR.nil ?_
       exact hX2 _ H _ _ ⟨vs62, ⟨rfl, rfl, rfl, rfl, rfl, rfl, trivial⟩, hO, hE64, h_a0, h_a1, hB⟩
     ·replace H := ifn h44 H
      refine GoR.op ((fun w => opB (op_lss rfl rfl w) (decide_eq_false h44)) _) rfl rfl ?_
      refine GoR.nil ?_
      refine Go1.seq ?_
      refine Go1.condF rfl rfl ?_
      refine Go1.exit rfl ?_
      refine Go1.seq ?_
      refine Go1.region ?_
      refine GoR.op ((op_move rfl) _) rfl rfl ?_
      refine GoR.op ((op_len Try.underlying23 rfl) _) rfl rfl ?_
      obtain ⟨h73, H⟩ := H
      obtain ⟨h74, H⟩ := H
      have hobt := t2make (m := (a1.length : Int)) (e' := 3) (Fl.int .i64) Try.underlying22 ti23 hO h73 h74 (by decide)
      obtain ⟨w66, p67, hst69, hs71, hop72⟩ := hobt
      refine GoR.op (hop72 rfl rfl) rfl rfl ?_
      replace hE43 := hE43.ch hst69.ch
      replace hO := hst69.own
      replace h_a0 := h_a0.ch hst69.ch
      replace h_a1 := h_a1.ch hst69.ch
      replace hB := hB.trans hst69.fr
      refine GoR.op ((op_assign rfl) _) rfl rfl ?_
      refine GoR.nil ?_
      refine Go1.seq ?_
      refine Go1.seq ?_
      refine Go1.region ?_
      refine GoR.op ((op_move rfl) _) rfl rfl ?_
      refine GoR.op ((op_len Try.underlying23 rfl) _) rfl rfl ?_
      refine GoR.op ((op_move rfl) _) rfl rfl ?_
      refine GoR.nil ?_
      refine Go1.block ?_
      refine Go1.loopW (S := Nat × List (List Int)) (fun s σ w => ∃ (n81 : Nat), ∃ (p79 : Option Addr), ∃ (c80 : Nat), ∃ (hs82 : Hd), agrees σ [(0, .slice p_a0 a0.length c_a0), (1, .slice p_a1 a1.length c_a1), (7, .slice p16 a0.length a0.length), (11, .slice p79 n81 c80), (68, .slice p_a1 a1.length c_a1), (69, .int .i64 (a1.length : Int)), (70, .int .i64 ((s.1) : Int))] ∧ Owns w0.heap.size w [t2 (Fl.int .i64) 23 3 p79 n81 c80 hs82 (s.2), .row 3 1 p16 a0.length a0.length vs42] A ∧ Els (Rp.int .i64) (bl [t2 (Fl.int .i64) 23 3 p79 n81 c80 hs82 (s.2), .row 3 1 p16 a0.length a0.length vs42] ++ A) w vs42 d_41 ∧ ISl (Rp.sl (Rp.int .i64)) (bl [t2 (Fl.int .i64) 23 3 p79 n81 c80 hs82 (s.2), .row 3 1 p16 a0.length a0.length vs42] ++ A) w p_a0 c_a0 a0 ∧ ISl (Rp.int .i64) (bl [t2 (Fl.int .i64) 23 3 p79 n81 c80 hs82 (s.2), .row 3 1 p16 a0.length a0.length vs42] ++ A) w p_a1 c_a1 a1 ∧ Fr (bl []) w0 (bl [t2 (Fl.int .i64) 23 3 p79 n81 c80 hs82 (s.2), .row 3 1 p16 a0.length a0.length vs42]) w) H ⟨a1.length, p67, a1.length, (fun _ => (none, 0)), ⟨rfl, rfl, rfl, rfl, rfl, rfl, rfl, trivial⟩, hO, hE43, h_a0, h_a1, hB⟩ ?_
      rintro X3 ⟨k3_77, d_78⟩ H hX3 σ w76 ⟨n81, p79, c80, hs82, hag, hO, hE43, h_a0, h_a1, hB⟩
      dsimp only at H
      refine Go1.keep [(0, .slice p_a0 a0.length c_a0), (1, .slice p_a1 a1.length c_a1), (7, .slice p16 a0.length a0.length), (11, .slice p79 n81 c80), (68, .slice p_a1 a1.length c_a1), (69, .int .i64 (a1.length : Int)), (70, .int .i64 (k3_77 : Int))] hag ?_
      refine Go1.seq ?_
      refine Go1.region ?_
      by_cases h83 : (k3_77 : Int) < (a1.length : Int)
      ·replace H := ifp h83 H
       refine GoR.op ((fun w => opB (op_lss rfl rfl w) (decide_eq_true h83)) _) rfl rfl ?_
       refine GoR.nil ?_
       refine Go1.seq ?_
       refine Go1.condT rfl rfl ?_
       refine Go1.skip ?_
       refine Go1.seq ?_
       refine Go1.block ?_
       refine Go1.seq ?_
       refine Go1.region ?_
       refine GoR.op ((op_move rfl) _) rfl rfl ?_
       obtain ⟨h84, H⟩ := H
       obtain ⟨h85, H⟩ := H
       refine GoR.op ((op_index Try.underlying23 ti3 rfl rfl h84 h85 (h_a1.some_ h84 h85)) _) rfl rfl ?_
       refine GoR.op ((ldInt h_a1 h84 h85 Try.underlying3 rfl rfl) _ (Same.refl _)) rfl rfl ?_
       refine GoR.op ((op_assign rfl) _) rfl rfl ?_
       refine GoR.op ((op_assign rfl) _) rfl rfl ?_
       refine GoR.nil ?_
       refine Go1.seq ?_
       refine Go1.region ?_
       refine GoR.op ((op_move rfl) _) rfl rfl ?_
       refine GoR.op ((op_move rfl) _) rfl rfl ?_
       refine GoR.op ((op_move rfl) _) rfl rfl ?_
       refine GoR.op ((op_len Try.underlying23 rfl) _) rfl rfl ?_
       obtain ⟨h93, H⟩ := H
       obtain ⟨h94, H⟩ := H
       have hobt := omake (n := (a1.length : Int)) (r := Rp.int .i64) (d := (0 : Int)) Try.underlying23 ti3 (fun _ _ => rfl) rfl hO h93 h94 (by decide)
       obtain ⟨w86, p87, vs88, hst89, hE90, hs91, hop92⟩ := hobt
       refine GoR.op (hop92 rfl rfl) rfl rfl ?_
       replace hE43 := hE43.ch hst89.ch
       replace hO := hst89.own
       replace h_a0 := h_a0.ch hst89.ch
       replace h_a1 := h_a1.ch hst89.ch
       replace hB := hB.trans hst89.fr
       obtain ⟨h96, H⟩ := H
       obtain ⟨h97, H⟩ := H
       refine GoR.op ((op_index Try.underlying22 ti23 rfl rfl h96 (ltn (t2neq 1 hO rfl) h97) (t2some 1 hO rfl h96 h97)) _) rfl rfl ?_
       have hst98 := Stp.front 1 hO rfl
       replace hE90 := hE90.ch hst98.ch
       replace hE43 := hE43.ch hst98.ch
       replace hO := hst98.own
       replace h_a0 := h_a0.ch hst98.ch
       replace h_a1 := h_a1.ch hst98.ch
       replace hB := hB.trans hst98.fr
       have hst99 := Stp.front 1 hO rfl
       replace hE90 := hE90.ch hst99.ch
       replace hE43 := hE43.ch hst99.ch
       replace hO := hst99.own
       replace h_a0 := h_a0.ch hst99.ch
       replace h_a1 := h_a1.ch hst99.ch
       replace hB := hB.trans hst99.fr
       have hobt := t2put (hf := (Fl.int .i64)) hO hE90 h96 h97
       obtain ⟨w100, hst101, hop102⟩ := hobt
       refine GoR.op (hop102 Try.underlying23 rfl ti23 rfl rfl) rfl rfl ?_
       replace hE43 := hE43.ch hst101.ch
       replace hO := hst101.own
       replace h_a0 := h_a0.ch hst101.ch
       replace h_a1 := h_a1.ch hst101.ch
       replace hB := hB.trans hst101.fr
       refine GoR.nil ?_
       refine Go1.seq ?_
       refine Go1.region ?_
       refine GoR.op ((op_move rfl) _) rfl rfl ?_
       refine GoR.op ((op_len Try.underlying23 rfl) _) rfl rfl ?_
       refine GoR.op ((op_move rfl) _) rfl rfl ?_
       refine GoR.nil ?_
       refine Go1.block ?_
       refine Go1.loopW (S := Nat × List (List Int)) (fun s σ w => agrees σ [(0, .slice p_a0 a0.length c_a0), (1, .slice p_a1 a1.length c_a1), (7, .slice p16 a0.length a0.length), (11, .slice p79 n81 c80), (12, .int .i64 (k3_77 : Int)), (13, .int .i64 (ix a1 (k3_77 : Int))), (68, .slice p_a1 a1.length c_a1), (69, .int .i64 (a1.length : Int)), (70, .int .i64 (k3_77 : Int)), (81, .slice p_a1 a1.length c_a1), (82, .int .i64 (a1.length : Int)), (83, .int .i64 ((s.1) : Int))] ∧ Owns w0.heap.size w [t2 (Fl.int .i64) 23 3 p79 n81 c80 (hup hs82 (k3_77 : Int).toNat (p87, a1.length)) (s.2), .row 3 1 p16 a0.length a0.length vs42] A ∧ Els (Rp.int .i64) (bl [t2 (Fl.int .i64) 23 3 p79 n81 c80 (hup hs82 (k3_77 : Int).toNat (p87, a1.length)) (s.2), .row 3 1 p16 a0.length a0.length vs42] ++ A) w vs42 d_41 ∧ ISl (Rp.sl (Rp.int .i64)) (bl [t2 (Fl.int .i64) 23 3 p79 n81 c80 (hup hs82 (k3_77 : Int).toNat (p87, a1.length)) (s.2), .row 3 1 p16 a0.length a0.length vs42] ++ A) w p_a0 c_a0 a0 ∧ ISl (Rp.int .i64) (bl [t2 (Fl.int .i64) 23 3 p79 n81 c80 (hup hs82 (k3_77 : Int).toNat (p87, a1.length)) (s.2), .row 3 1 p16 a0.length a0.length vs42] ++ A) w p_a1 c_a1 a1 ∧ Fr (bl []) w0 (bl [t2 (Fl.int .i64) 23 3 p79 n81 c80 (hup hs82 (k3_77 : Int).toNat (p87, a1.length)) (s.2), .row 3 1 p16 a0.length a0.length vs42]) w) H ⟨⟨rfl, rfl, rfl, rfl, rfl, rfl, rfl, rfl, rfl, rfl, rfl, rfl, trivial⟩, hO, hE43, h_a0, h_a1, hB⟩ ?_
       rintro X4 ⟨k4_104, d_105⟩ H hX4 σ w103 ⟨hag, hO, hE43, h_a0, h_a1, hB⟩
       dsimp only at H
       refine Go1.keep [(0, .slice p_a0 a0.length c_a0), (1, .slice p_a1 a1.length c_a1), (7, .slice p16 a0.length a0.length), (11, .slice p79 n81 c80), (12, .int .i64 (k3_77 : Int)), (13, .int .i64 (ix a1 (k3_77 : Int))), (68, .slice p_a1 a1.length c_a1), (69, .int .i64 (a1.length : Int)), (70, .int .i64 (k3_77 : Int)), (81, .slice p_a1 a1.length c_a1), (82, .int .i64 (a1.length : Int)), (83, .int .i64 (k4_104 : Int))] hag ?_
       refine Go1.seq ?_
       refine Go1.region ?_
       by_cases h106 : (k4_104 : Int) < (a1.length : Int)
       ·replace H := ifp h106 H
        refine GoR.op ((fun w => opB (op_lss rfl rfl w) (decide_eq_true h106)) _) rfl rfl ?_
        refine GoR.nil ?_
        refine Go1.seq ?_
        refine Go1.condT rfl rfl ?_
        refine Go1.skip ?_
        refine Go1.seq ?_
        refine Go1.block ?_
        refine Go1.seq ?_
        refine Go1.region ?_
        refine GoR.op ((op_move rfl) _) rfl rfl ?_
        obtain ⟨h107, H⟩ := H
        obtain ⟨h108, H⟩ := H
        refine GoR.op ((op_index Try.underlying23 ti3 rfl rfl h107 h108 (h_a1.some_ h107 h108)) _) rfl rfl ?_
        refine GoR.op ((ldInt h_a1 h107 h108 Try.underlying3 rfl rfl) _ (Same.refl _)) rfl rfl ?_
        refine GoR.op ((op_assign rfl) _) rfl rfl ?_
        refine GoR.op ((op_assign rfl) _) rfl rfl ?_
        refine GoR.nil ?_
        refine Go1.seq ?_
        refine Go1.drawS 1 [(0, .pure), (1, .pure), (2, .pure), (3, .stable), (4, .pure), (5, .pure), (6, .pure), (7, .pure), (8, .pure), (9, .stable), (10, .pure), (11, .pure), (12, .stable), (13, .pure), (14, .stable), (15, .pure), (16, .last)] mixed (by kernel_rfl) ?_
        intro w109 hs110
        have hst111 := Stp.same hO hs110
        replace hE43 := hE43.ch hst111.ch
        replace hO := hst111.own
        replace h_a0 := h_a0.ch hst111.ch
        replace h_a1 := h_a1.ch hst111.ch
        replace hB := hB.trans hst111.fr
        refine GoQ.pure rfl (op_move rfl) rfl rfl ?_
        refine GoQ.pure rfl (op_move rfl) rfl rfl ?_
        obtain ⟨h112, H⟩ := H
        obtain ⟨h113, H⟩ := H
        refine GoQ.pure rfl (op_index Try.underlying22 ti23 rfl rfl h112 (ltn (t2neq 0 hO rfl) h113) (t2some 0 hO rfl h112 h113)) rfl rfl ?_
        refine GoQ.stable rfl (t2head 0 hO rfl h112 h113 Try.underlying23 rfl rfl) rfl rfl ?_
        refine GoQ.pure rfl (op_move rfl) rfl rfl ?_
        refine GoQ.pure rfl (op_move rfl) rfl rfl ?_
        refine GoQ.pure rfl (op_move rfl) rfl rfl ?_
        refine GoQ.pure rfl (op_move rfl) rfl rfl ?_
        obtain ⟨h114, H⟩ := H
        obtain ⟨h115, H⟩ := H
        refine GoQ.pure rfl (op_index Try.underlying22 ti23 rfl rfl h114 h115 (h_a0.some_ h114 h115)) rfl rfl ?_
        have hobt := ldSl h_a0 h114 h115
        obtain ⟨p116, c117, hi118, hl119⟩ := hobt
        refine GoQ.stable rfl (hl119 Try.underlying23 rfl rfl) rfl rfl ?_
        refine GoQ.pure rfl (op_move rfl) rfl rfl ?_
        obtain ⟨h120, H⟩ := H
        obtain ⟨h121, H⟩ := H
        refine GoQ.pure rfl (op_index Try.underlying23 ti3 rfl rfl h120 h121 (hi118.some_ h120 h121)) rfl rfl ?_
        refine GoQ.stable rfl (ldInt hi118 h120 h121 Try.underlying3 rfl rfl) rfl rfl ?_
        obtain ⟨h122, H⟩ := H
        obtain ⟨h123, H⟩ := H
        refine GoQ.pure rfl (op_index Try.underlying23 ti3 rfl rfl h122 (ltn (hE43.neq hO 1 rfl) h123) (hE43.psome hO 1 rfl h122 h123)) rfl rfl ?_
        refine GoQ.stable rfl (oldInt 1 hO rfl hE43 h122 h123 Try.underlying3 rfl rfl) rfl rfl ?_
        obtain ⟨h124, H⟩ := H
        obtain ⟨h125, H⟩ := H
        refine GoQ.pure rfl (op_index Try.underlying23 ti3 rfl rfl h124 h125 (t2isome 0 hO rfl h112 h113 h124 h125)) rfl rfl ?_
        have hobt := t2st (r := Rp.int .i64) (hf := (Fl.int .i64)) rfl 0 hO rfl h112 h113 h124 h125 (v := .int .i64 (ix d_41 (ix (ix a0 (ix a1 (k3_77 : Int))) (ix a1 (k4_104 : Int))))) (u := (ix d_41 (ix (ix a0 (ix a1 (k3_77 : Int))) (ix a1 (k4_104 : Int))))) rfl rfl
        obtain ⟨w126, hst127, hop128⟩ := hobt
        refine GoQ.last rfl (hop128 Try.underlying3 rfl ti3 rfl rfl) rfl rfl ?_
        replace hE43 := hE43.ch hst127.ch
        replace hO := hst127.own
        replace h_a0 := h_a0.ch hst127.ch
        replace h_a1 := h_a1.ch hst127.ch
        replace hi118 := hi118.ch hst127.ch
        replace hB := hB.trans hst127.fr
        refine GoQ.nil ?_
        refine Go1.seq ?_
        refine Go1.region ?_
        refine GoR.op ((op_move rfl) _) rfl rfl ?_
        refine GoR.op ((op_move rfl) _) rfl rfl ?_
        obtain ⟨h129, H⟩ := H
        obtain ⟨h130, H⟩ := H
        refine GoR.op ((op_index Try.underlying22 ti23 rfl rfl h129 (ltn (t2neq 0 hO rfl) h130) (t2some 0 hO rfl h129 h130)) _) rfl rfl ?_
        refine GoR.op ((t2head 0 hO rfl h129 h130 Try.underlying23 rfl rfl) _ (Same.refl _)) rfl rfl ?_
        refine GoR.op ((op_move rfl) _) rfl rfl ?_
        obtain ⟨h131, H⟩ := H
        obtain ⟨h132, H⟩ := H
        refine GoR.op ((op_index Try.underlying23 ti3 rfl rfl h131 h132 (t2isome 0 hO rfl h129 h130 h131 h132)) _) rfl rfl ?_
        refine GoR.op ((t2Int 0 hO rfl h129 h130 h131 h132 Try.underlying3 rfl rfl) _ (Same.refl _)) rfl rfl ?_
        by_cases h133 : (ix (ix (st d_105 (k3_77 : Int) (st (ix d_105 (k3_77 : Int)) (k4_104 : Int) (ix d_41 (ix (ix a0 (ix a1 (k3_77 : Int))) (ix a1 (k4_104 : Int)))))) (k3_77 : Int)) (k4_104 : Int)) < (0 : Int)
        ·replace H := ifp h133 H
         refine GoR.op ((fun w => opB (op_lss rfl rfl w) (decide_eq_true h133)) _) rfl rfl ?_
         refine GoR.nil ?_
         refine Go1.condT rfl rfl ?_
         refine Go1.seq ?_
         refine Go1.region ?_
         refine GoR.op ((op_assign rfl) _) rfl rfl ?_
         refine GoR.op ((op_assign rfl) _) rfl rfl ?_
         refine GoR.nil ?_
         refine Go1.ret2 Try.func59 rfl ?_
         exact ⟨([] : List (List Int)), (9 : Int), none, 0, rfl, hB.same, (ISl.null _ _ _), H⟩
        ·replace H := ifn h133 H
         refine GoR.op ((fun w => opB (op_lss rfl rfl w) (decide_eq_false h133)) _) rfl rfl ?_
         refine GoR.nil ?_
         refine Go1.condF rfl rfl ?_
         refine Go1.skip ?_
         refine Go1.inBlock ?_
         refine Go1.region ?_
         refine GoR.op ((op_add rfl rfl (wrap_i64 (natbd h106 h_a1.bd))) _) rfl rfl ?_
         refine GoR.op ((op_move rfl) _) rfl rfl ?_
         refine GoR.nil ?_
         exact hX4 _ H _ _ ⟨⟨rfl, rfl, rfl, rfl, rfl, rfl, rfl, rfl, rfl, rfl, rfl, rfl, trivial⟩, hO, hE43, h_a0, h_a1, hB⟩
       ·replace H := ifn h106 H
        refine GoR.op ((fun w => opB (op_lss rfl rfl w) (decide_eq_false h106)) _) rfl rfl ?_
        refine GoR.nil ?_
        refine Go1.seq ?_
        refine Go1.condF rfl rfl ?_
        refine Go1.exit rfl ?_
        refine Go1.inBlock ?_
        refine Go1.region ?_
        refine GoR.op ((op_add rfl rfl (wrap_i64 (natbd h83 h_a1.bd))) _) rfl rfl ?_
        refine GoR.op ((op_move rfl) _) rfl rfl ?_
        refine GoR.nil ?_
        exact hX3 _ H _ _ ⟨n81, p79, c80, hup hs82 (k3_77 : Int).toNat (p87, a1.length), ⟨rfl, rfl, rfl, rfl, rfl, rfl, rfl, trivial⟩, hO, hE43, h_a0, h_a1, hB⟩
      ·replace H := ifn h83 H
       refine GoR.op ((fun w => opB (op_lss rfl rfl w) (decide_eq_false h83)) _) rfl rfl ?_
       refine GoR.nil ?_
       refine Go1.seq ?_
       refine Go1.condF rfl rfl ?_
       refine Go1.exit rfl ?_
       refine Go1.seq ?_
       refine Go1.region ?_
       refine GoR.op ((op_move rfl) _) rfl rfl ?_
       refine GoR.op ((op_assign rfl) _) rfl rfl ?_
       refine GoR.op ((op_assign rfl) _) rfl rfl ?_
       refine GoR.nil ?_
       have hobt := t2freezeA 0 hO rfl
       obtain ⟨hO1, hc136, hi134, hn135⟩ := hobt
       replace h_a0 := h_a0.ch hc136
       replace h_a1 := h_a1.ch hc136
       replace hE43 := hE43.ch hc136
       replace hB := hB.trans (Owns.dropFr _ _ 0)
       replace hO := hO1; clear hO1
       refine Go1.ret2 Try.func59 rfl ?_
       exact ⟨d_78, (0 : Int), p79, c80, (by show Value.tuple #[.slice p79 n81 c80, .int .i64 (0 : Int)] = _; rw [hn135]), hB.same, (hi134.ch (Ch.weak _ _ _)), H⟩
 ·replace H := ifn h7 H
  refine GoR.op ((fun w => opB (op_neq rfl rfl w) (ndF h7)) _) rfl rfl ?_
  refine GoR.nil ?_
  refine Go1.condT rfl rfl ?_
  refine Go1.seq ?_
  refine Go1.region ?_
  refine GoR.op ((op_move rfl) _) rfl rfl ?_
  refine GoR.op ((op_assign rfl) _) rfl rfl ?_
  refine GoR.op ((op_assign rfl) _) rfl rfl ?_
  refine GoR.nil ?_
  refine Go1.ret2 Try.func59 rfl ?_
  exact ⟨([] : List (List Int)), r1, none, 0, rfl, hB.same, (ISl.null _ _ _), H⟩
theorem body32 : Body Try.prog 32 := ⟨Try.f32, Try.func32, rfl, by kernel_rfl⟩
theorem walk_ref14_Associative {A : List Nat} {w0 : World} {p_t : Option Addr} {c_t : Nat} {t : List (List Int)} (hA : ∀ b ∈ A, b < w0.heap.size) (h_t : ISl (Rp.sl (Rp.int .i64)) A w0 p_t c_t t) {K : Int → Int → Int → Int → Prop} (H : ref14_Associative t K) :
    CallsV Try.prog 32 #[.slice p_t t.length c_t] w0 (fun v w' => ∃ (r0 : Int), ∃ (r1 : Int), ∃ (r2 : Int), ∃ (r3 : Int), v = .tuple #[.int .i64 r0, .int .i64 r1, .int .i64 r2, .int .i64 r3] ∧ Same w0 w' ∧ K r0 r1 r2 r3) := by
 refine CallsV.of (l := [.slice p_t t.length c_t]) Try.func32 rfl Try.ntmps32 rfl ?_
 have hO := Owns.start hA
 have hB := Fr.refl (bl []) w0
 unfold ref14_Associative at H
 replace h_t := h_t.ch (Ch.start A w0)
 refine Go1.seq ?_
 refine Go1.region ?_
 refine GoR.op ((op_assign rfl) _) rfl rfl ?_
 refine GoR.op ((op_assign rfl) _) rfl rfl ?_
 refine GoR.op ((op_assign rfl) _) rfl rfl ?_
 refine GoR.op ((op_assign rfl) _) rfl rfl ?_
 refine GoR.nil ?_
 refine Go1.seq ?_
 refine Go1.seq ?_
 refine Go1.region ?_
 refine GoR.op ((op_move rfl) _) rfl rfl ?_
 refine GoR.call (op_call body19 rfl (walk_ref14_Shape hO.lt h_t H)) rfl rfl ?_
 rintro v5 w2 ⟨r1, rfl, hs3, H⟩
 have hst6 := Stp.same hO hs3
 replace hO := hst6.own
 replace h_t := h_t.ch hst6.ch
 replace hB := hB.trans hst6.fr
 refine GoR.op ((op_assign rfl) _) rfl rfl ?_
 refine GoR.nil ?_
 refine Go1.seq ?_
 refine Go1.region ?_
 refine GoR.op ((op_move rfl) _) rfl rfl ?_
 by_cases h7 : r1 = (0 : Int)
 ·replace H := ifp h7 H
  refine GoR.op ((fun w => opB (op_neq rfl rfl w) (ndT h7)) _) rfl rfl ?_
  refine GoR.nil ?_
  refine Go1.condF rfl rfl ?_
  refine Go1.skip ?_
  refine Go1.seq ?_
  refine Go1.seq ?_
  refine Go1.region ?_
  refine GoR.op ((op_move rfl) _) rfl rfl ?_
  refine GoR.op ((op_len Try.underlying22 rfl) _) rfl rfl ?_
  replace H := H h_t.bd
  refine GoR.op ((op_move rfl) _) rfl rfl ?_
  refine GoR.nil ?_
  refine Go1.block ?_
  refine Go1.loopW (S := Nat) (fun s σ w => agrees σ [(0, .slice p_t t.length c_t), (16, .int .i64 (t.length : Int)), (17, .int .i64 (s : Int))] ∧ Owns w0.heap.size w [] A ∧ ISl (Rp.sl (Rp.int .i64)) (bl [] ++ A) w p_t c_t t ∧ Fr (bl []) w0 (bl []) w) H ⟨⟨rfl, rfl, rfl, trivial⟩, hO, h_t, hB⟩ ?_
  rintro X1 k1_9 H hX1 σ w8 ⟨hag, hO, h_t, hB⟩
  refine Go1.keep [(0, .slice p_t t.length c_t), (16, .int .i64 (t.length : Int)), (17, .int .i64 (k1_9 : Int))] hag ?_
  refine Go1.seq ?_
  refine Go1.region ?_
  by_cases h10 : (k1_9 : Int) < (t.length : Int)
  ·replace H := ifp h10 H
   refine GoR.op ((fun w => opB (op_lss rfl rfl w) (decide_eq_true h10)) _) rfl rfl ?_
   refine GoR.nil ?_
   refine Go1.seq ?_
   refine Go1.condT rfl rfl ?_
   refine Go1.skip ?_
   refine Go1.seq ?_
   refine Go1.block ?_
   refine Go1.seq ?_
   refine Go1.region ?_
   refine GoR.op ((op_move rfl) _) rfl rfl ?_
   refine GoR.op ((op_assign rfl) _) rfl rfl ?_
   refine GoR.nil ?_
   refine Go1.seq ?_
   refine Go1.region ?_
   refine GoR.op ((op_move rfl) _) rfl rfl ?_
   refine GoR.op ((op_len Try.underlying22 rfl) _) rfl rfl ?_
   refine GoR.op ((op_move rfl) _) rfl rfl ?_
   refine GoR.nil ?_
   refine Go1.block ?_
   refine Go1.loopW (S := Nat) (fun s σ w => agrees σ [(0, .slice p_t t.length c_t), (7, .int .i64 (k1_9 : Int)), (16, .int .i64 (t.length : Int)), (17, .int .i64 (k1_9 : Int)), (21, .int .i64 (t.length : Int)), (22, .int .i64 (s : Int))] ∧ Owns w0.heap.size w [] A ∧ ISl (Rp.sl (Rp.int .i64)) (bl [] ++ A) w p_t c_t t ∧ Fr (bl []) w0 (bl []) w) H ⟨⟨rfl, rfl, rfl, rfl, rfl, rfl, trivial⟩, hO, h_t, hB⟩ ?_
   rintro X2 k2_12 H hX2 σ w11 ⟨hag, hO, h_t, hB⟩
   refine Go1.keep [(0, .slice p_t t.length c_t), (7, .int .i64 (k1_9 : Int)), (16, .int .i64 (t.length : Int)), (17, .int .i64 (k1_9 : Int)), (21, .int .i64 (t.length : Int)), (22, .int .i64 (k2_12 : Int))] hag ?_
   refine Go1.seq ?_
   refine Go1.region ?_
   by_cases h13 : (k2_12 : Int) < (t.length : Int)
   ·replace H := ifp h13 H
    refine GoR.op ((fun w => opB (op_lss rfl rfl w) (decide_eq_true h13)) _) rfl rfl ?_
    refine GoR.nil ?_
    refine Go1.seq ?_
    refine Go1.condT rfl rfl ?_
    refine Go1.skip ?_
    refine Go1.seq ?_
    refine Go1.block ?_
    refine Go1.seq ?_
    refine Go1.region ?_
    refine GoR.op ((op_move rfl) _) rfl rfl ?_
    refine GoR.op ((op_assign rfl) _) rfl rfl ?_
    refine GoR.nil ?_
    refine Go1.seq ?_
    refine Go1.region ?_
    refine GoR.op ((op_move rfl) _) rfl rfl ?_
    refine GoR.op ((op_len Try.underlying22 rfl) _) rfl rfl ?_
    refine GoR.op ((op_move rfl) _) rfl rfl ?_
    refine GoR.nil ?_
    refine Go1.block ?_
    refine Go1.loopW (S := Nat) (fun s σ w => agrees σ [(0, .slice p_t t.length c_t), (7, .int .i64 (k1_9 : Int)), (8, .int .i64 (k2_12 : Int)), (16, .int .i64 (t.length : Int)), (17, .int .i64 (k1_9 : Int)), (21, .int .i64 (t.length : Int)), (22, .int .i64 (k2_12 : Int)), (26, .int .i64 (t.length : Int)), (27, .int .i64 (s : Int))] ∧ Owns w0.heap.size w [] A ∧ ISl (Rp.sl (Rp.int .i64)) (bl [] ++ A) w p_t c_t t ∧ Fr (bl []) w0 (bl []) w) H ⟨⟨rfl, rfl, rfl, rfl, rfl, rfl, rfl, rfl, rfl, trivial⟩, hO, h_t, hB⟩ ?_
    rintro X3 k3_15 H hX3 σ w14 ⟨hag, hO, h_t, hB⟩
    refine Go1.keep [(0, .slice p_t t.length c_t), (7, .int .i64 (k1_9 : Int)), (8, .int .i64 (k2_12 : Int)), (16, .int .i64 (t.length : Int)), (17, .int .i64 (k1_9 : Int)), (21, .int .i64 (t.length : Int)), (22, .int .i64 (k2_12 : Int)), (26, .int .i64 (t.length : Int)), (27, .int .i64 (k3_15 : Int))] hag ?_
    refine Go1.seq ?_
    refine Go1.region ?_
    by_cases h16 : (k3_15 : Int) < (t.length : Int)
    ·replace H := ifp h16 H
     refine GoR.op ((fun w => opB (op_lss rfl rfl w) (decide_eq_true h16)) _) rfl rfl ?_
     refine GoR.nil ?_
     refine Go1.seq ?_
     refine Go1.condT rfl rfl ?_
     refine Go1.skip ?_
     refine Go1.seq ?_
     refine Go1.block ?_
     refine Go1.seq ?_
     refine Go1.region ?_
     refine GoR.op ((op_move rfl) _) rfl rfl ?_
     refine GoR.op ((op_assign rfl) _) rfl rfl ?_
     refine GoR.nil ?_
     refine Go1.seq ?_
     refine Go1.drawS 0 [(0, .pure), (1, .pure), (2, .pure), (3, .pure), (4, .stable), (5, .pure), (6, .pure), (7, .stable), (8, .pure), (9, .stable), (10, .pure), (11, .pure), (12, .stable), (13, .pure), (14, .pure), (15, .pure), (16, .stable), (17, .pure), (18, .pure), (19, .pure), (20, .stable), (21, .pure), (22, .pure), (23, .stable), (24, .pure), (25, .stable), (26, .pure)] mixed (by kernel_rfl) ?_
     intro w17 hs18
     have hst19 := Stp.same hO hs18
     replace hO := hst19.own
     replace h_t := h_t.ch hst19.ch
     replace hB := hB.trans hst19.fr
     refine GoQ.pure rfl (op_move rfl) rfl rfl ?_
     refine GoQ.pure rfl (op_move rfl) rfl rfl ?_
     refine GoQ.pure rfl (op_move rfl) rfl rfl ?_
     obtain ⟨h20, H⟩ := H
     obtain ⟨h21, H⟩ := H
     refine GoQ.pure rfl (op_index Try.underlying22 ti23 rfl rfl h20 h21 (h_t.some_ h20 h21)) rfl rfl ?_
     have hobt := ldSl h_t h20 h21
     obtain ⟨p22, c23, hi24, hl25⟩ := hobt
     refine GoQ.stable rfl (hl25 Try.underlying23 rfl rfl) rfl rfl ?_
     refine GoQ.pure rfl (op_move rfl) rfl rfl ?_
     obtain ⟨h26, H⟩ := H
     obtain ⟨h27, H⟩ := H
     refine GoQ.pure rfl (op_index Try.underlying23 ti3 rfl rfl h26 h27 (hi24.some_ h26 h27)) rfl rfl ?_
     refine GoQ.stable rfl (ldInt hi24 h26 h27 Try.underlying3 rfl rfl) rfl rfl ?_
     obtain ⟨h28, H⟩ := H
     obtain ⟨h29, H⟩ := H
     refine GoQ.pure rfl (op_index Try.underlying22 ti23 rfl rfl h28 h29 (h_t.some_ h28 h29)) rfl rfl ?_
     have hobt := ldSl h_t h28 h29
     obtain ⟨p30, c31, hi32, hl33⟩ := hobt
     refine GoQ.stable rfl (hl33 Try.underlying23 rfl rfl) rfl rfl ?_
     refine GoQ.pure rfl (op_move rfl) rfl rfl ?_
     obtain ⟨h34, H⟩ := H
     obtain ⟨h35, H⟩ := H
     refine GoQ.pure rfl (op_index Try.underlying23 ti3 rfl rfl h34 h35 (hi32.some_ h34 h35)) rfl rfl ?_
     refine GoQ.stable rfl (ldInt hi32 h34 h35 Try.underlying3 rfl rfl) rfl rfl ?_
     refine GoQ.pure rfl (op_move rfl) rfl rfl ?_
     refine GoQ.pure rfl (op_move rfl) rfl rfl ?_
     obtain ⟨h36, H⟩ := H
     obtain ⟨h37, H⟩ := H
     refine GoQ.pure rfl (op_index Try.underlying22 ti23 rfl rfl h36 h37 (h_t.some_ h36 h37)) rfl rfl ?_
     have hobt := ldSl h_t h36 h37
     obtain ⟨p38, c39, hi40, hl41⟩ := hobt
     refine GoQ.stable rfl (hl41 Try.underlying23 rfl rfl) rfl rfl ?_
     refine GoQ.pure rfl (op_move rfl) rfl rfl ?_
     refine GoQ.pure rfl (op_move rfl) rfl rfl ?_
     obtain ⟨h42, H⟩ := H
     obtain ⟨h43, H⟩ := H
     refine GoQ.pure rfl (op_index Try.underlying22 ti23 rfl rfl h42 h43 (h_t.some_ h42 h43)) rfl rfl ?_
     have hobt := ldSl h_t h42 h43
     obtain ⟨p44, c45, hi46, hl47⟩ := hobt
     refine GoQ.stable rfl (hl47 Try.underlying23 rfl rfl) rfl rfl ?_
     refine GoQ.pure rfl (op_move rfl) rfl rfl ?_
     obtain ⟨h48, H⟩ := H
     obtain ⟨h49, H⟩ := H
     refine GoQ.pure rfl (op_index Try.underlying23 ti3 rfl rfl h48 h49 (hi46.some_ h48 h49)) rfl rfl ?_
     refine GoQ.stable rfl (ldInt hi46 h48 h49 Try.underlying3 rfl rfl) rfl rfl ?_
     obtain ⟨h50, H⟩ := H
     obtain ⟨h51, H⟩ := H
     refine GoQ.pure rfl (op_index Try.underlying23 ti3 rfl rfl h50 h51 (hi40.some_ h50 h51)) rfl rfl ?_
     refine GoQ.stable rfl (ldInt hi40 h50 h51 Try.underlying3 rfl rfl) rfl rfl ?_
     by_cases h52 : (ix (ix t (ix (ix t (k1_9 : Int)) (k2_12 : Int))) (k3_15 : Int)) = (ix (ix t (k1_9 : Int)) (ix (ix t (k2_12 : Int)) (k3_15 : Int)))
     ·replace H := ifp h52 H
      refine GoQ.pure rfl (fun w => opB (op_neq rfl rfl w) (ndT h52)) rfl rfl ?_
      refine GoQ.nil ?_
      refine Go1.condF rfl rfl ?_
      refine Go1.skip ?_
      refine Go1.inBlock ?_
      refine Go1.region ?_
      refine GoR.op ((op_add rfl rfl (wrap_i64 (natbd h16 h_t.bd))) _) rfl rfl ?_
      refine GoR.op ((op_move rfl) _) rfl rfl ?_
      refine GoR.nil ?_
      exact hX3 _ H _ _ ⟨⟨rfl, rfl, rfl, rfl, rfl, rfl, rfl, rfl, rfl, trivial⟩, hO, h_t, hB⟩
     ·replace H := ifn h52 H
      refine GoQ.pure rfl (fun w => opB (op_neq rfl rfl w) (ndF h52)) rfl rfl ?_
      refine GoQ.nil ?_
      refine Go1.condT rfl rfl ?_
      refine Go1.seq ?_
      refine Go1.region ?_
      refine GoR.op ((op_move rfl) _) rfl rfl ?_
      refine GoR.op ((op_move rfl) _) rfl rfl ?_
      refine GoR.op ((op_move rfl) _) rfl rfl ?_
      refine GoR.op ((op_assign rfl) _) rfl rfl ?_
      refine GoR.op ((op_assign rfl) _) rfl rfl ?_
      refine GoR.op ((op_assign rfl) _) rfl rfl ?_
      refine GoR.op ((op_assign rfl) _) rfl rfl ?_
      refine GoR.nil ?_
      refine Go1.ret4 Try.func32 rfl ?_
      exact ⟨(k1_9 : Int), (k2_12 : Int), (k3_15 : Int), (5 : Int), rfl, hB.same, H⟩
    ·replace H := ifn h16 H
     refine GoR.op ((fun w => opB (op_lss rfl rfl w) (decide_eq_false h16)) _) rfl rfl ?_
     refine GoR.nil ?_
     refine Go1.seq ?_
     refine Go1.condF rfl rfl ?_
     refine Go1.exit rfl ?_
     refine Go1.inBlock ?_
     refine Go1.region ?_
     refine GoR.op ((op_add rfl rfl (wrap_i64 (natbd h13 h_t.bd))) _) rfl rfl ?_
     refine GoR.op ((op_move rfl) _) rfl rfl ?_
     refine GoR.nil ?_
     exact hX2 _ H _ _ ⟨⟨rfl, rfl, rfl, rfl, rfl, rfl, trivial⟩, hO, h_t, hB⟩
   ·replace H := ifn h13 H
    refine GoR.op ((fun w => opB (op_lss rfl rfl w) (decide_eq_false h13)) _) rfl rfl ?_
    refine GoR.nil ?_
    refine Go1.seq ?_
    refine Go1.condF rfl rfl ?_
    refine Go1.exit rfl ?_
    refine Go1.inBlock ?_
    refine Go1.region ?_
    refine GoR.op ((op_add rfl rfl (wrap_i64 (natbd h10 h_t.bd))) _) rfl rfl ?_
    refine GoR.op ((op_move rfl) _) rfl rfl ?_
    refine GoR.nil ?_
    exact hX1 _ H _ _ ⟨⟨rfl, rfl, rfl, trivial⟩, hO, h_t, hB⟩
  ·replace H := ifn h10 H
   refine GoR.op ((fun w => opB (op_lss rfl rfl w) (decide_eq_false h10)) _) rfl rfl ?_
   refine GoR.nil ?_
   refine Go1.seq ?_
   refine Go1.condF rfl rfl ?_
   refine Go1.exit rfl ?_
   refine Go1.seq ?_
   refine Go1.region ?_
   refine GoR.op ((op_assign rfl) _) rfl rfl ?_
   refine GoR.op ((op_assign rfl) _) rfl rfl ?_
   refine GoR.op ((op_assign rfl) _) rfl rfl ?_
   refine GoR.op ((op_assign rfl) _) rfl rfl ?_
   refine GoR.nil ?_
   refine Go1.ret4 Try.func32 rfl ?_
   exact ⟨(0 : Int), (0 : Int), (0 : Int), (0 : Int), rfl, hB.same, H⟩
 ·replace H := ifn h7 H
  refine GoR.op ((fun w => opB (op_neq rfl rfl w) (ndF h7)) _) rfl rfl ?_
  refine GoR.nil ?_
  refine Go1.condT rfl rfl ?_
  refine Go1.seq ?_
  refine Go1.region ?_
  refine GoR.op ((op_move rfl) _) rfl rfl ?_
  refine GoR.op ((op_assign rfl) _) rfl rfl ?_
  refine GoR.op ((op_assign rfl) _) rfl rfl ?_
  refine GoR.op ((op_assign rfl) _) rfl rfl ?_
  refine GoR.op ((op_assign rfl) _) rfl rfl ?_
  refine GoR.nil ?_
  refine Go1.ret4 Try.func32 rfl ?_
  exact ⟨(0 : Int), (0 : Int), (0 : Int), r1, rfl, hB.same, H⟩
theorem body69 : Body Try.prog 69 := ⟨Try.f69, Try.func69, rfl, by kernel_rfl⟩
theorem walk_ref14_Validate {A : List Nat} {w0 : World} {p_t : Option Addr} {c_t : Nat} {t : List (List Int)} (hA : ∀ b ∈ A, b < w0.heap.size) (h_t : ISl (Rp.sl (Rp.int .i64)) A w0 p_t c_t t) {K : Int → Prop} (H : ref14_Validate t K) :
    CallsV Try.prog 69 #[.slice p_t t.length c_t] w0 (fun v w' => ∃ (r0 : Int), v = .int .i64 r0 ∧ Same w0 w' ∧ K r0) := by
 refine CallsV.of (l := [.slice p_t t.length c_t]) Try.func69 rfl Try.ntmps69 rfl ?_
 have hO := Owns.start hA
 have hB := Fr.refl (bl []) w0
 unfold ref14_Validate at H
 replace h_t := h_t.ch (Ch.start A w0)
 refine Go1.seq ?_
 refine Go1.region ?_
 refine GoR.op ((op_assign rfl) _) rfl rfl ?_
 refine GoR.nil ?_
 refine Go1.seq ?_
 refine Go1.region ?_
 refine GoR.op ((op_move rfl) _) rfl rfl ?_
 refine GoR.call (op_call body32 rfl (walk_ref14_Associative hO.lt h_t H)) rfl rfl ?_
 rintro v8 w5 ⟨r1, r2, r3, r4, rfl, hs6, H⟩
 have hst9 := Stp.same hO hs6
 replace hO := hst9.own
 replace h_t := h_t.ch hst9.ch
 replace hB := hB.trans hst9.fr
 refine GoR.op ((op_move rfl) _) rfl rfl ?_
 refine GoR.op ((op_extract rfl rfl) _) rfl rfl ?_
 refine GoR.op ((op_extract rfl rfl) _) rfl rfl ?_
 refine GoR.op ((op_extract rfl rfl) _) rfl rfl ?_
 refine GoR.op ((op_extract rfl rfl) _) rfl rfl ?_
 refine GoR.op ((op_assign rfl) _) rfl rfl ?_
 refine GoR.op ((op_assign rfl) _) rfl rfl ?_
 refine GoR.op ((op_assign rfl) _) rfl rfl ?_
 refine GoR.op ((op_assign rfl) _) rfl rfl ?_
 refine GoR.nil ?_
 refine Go1.seq ?_
 refine Go1.region ?_
 refine GoR.op ((op_move rfl) _) rfl rfl ?_
 refine GoR.op ((op_assign rfl) _) rfl rfl ?_
 refine GoR.nil ?_
 refine Go1.ret1 Try.func69 rfl ?_
 exact ⟨r4, rfl, hB.same, H⟩
theorem body87 : Body Try.prog 87 := ⟨Try.f87, Try.func87, rfl, by kernel_rfl⟩
theorem walk_ref14_Ascending {A : List Nat} {w0 : World} {p_t : Option Addr} {c_t : Nat} {p_set_ : Option Addr} {c_set_ : Nat} {t : List (List Int)} {set_ : List Int} (hA : ∀ b ∈ A, b < w0.heap.size) (h_t : ISl (Rp.sl (Rp.int .i64)) A w0 p_t c_t t) (h_set_ : ISl (Rp.int .i64) A w0 p_set_ c_set_ set_) {K : Bool → Prop} (H : ref14_Ascending t set_ K) :
    CallsV Try.prog 87 #[.slice p_t t.length c_t, .slice p_set_ set_.length c_set_] w0 (fun v w' => ∃ (r0 : Bool), v = .bool r0 ∧ Same w0 w' ∧ K r0) := by
 refine CallsV.of (l := [.slice p_t t.length c_t, .slice p_set_ set_.length c_set_]) Try.func87 rfl Try.ntmps87 rfl ?_
 have hO := Owns.start hA
 have hB := Fr.refl (bl []) w0
 unfold ref14_Ascending at H
 replace h_t := h_t.ch (Ch.start A w0)
 replace h_set_ := h_set_.ch (Ch.start A w0)
 refine Go1.seq ?_
 refine Go1.region ?_
 refine GoR.op ((op_assign rfl) _) rfl rfl ?_
 refine GoR.nil ?_
 refine Go1.seq ?_
 refine Go1.seq ?_
 refine Go1.region ?_
 refine GoR.op ((op_move rfl) _) rfl rfl ?_
 refine GoR.op ((op_len Try.underlying23 rfl) _) rfl rfl ?_
 replace H := H h_set_.bd
 refine GoR.op ((op_move rfl) _) rfl rfl ?_
 refine GoR.nil ?_
 refine Go1.block ?_
 refine Go1.loopW (S := Nat) (fun s σ w => agrees σ [(0, .slice p_t t.length c_t), (1, .slice p_set_ set_.length c_set_), (7, .slice p_set_ set_.length c_set_), (8, .int .i64 (set_.length : Int)), (9, .int .i64 (s : Int))] ∧ Owns w0.heap.size w [] A ∧ ISl (Rp.sl (Rp.int .i64)) (bl [] ++ A) w p_t c_t t ∧ ISl (Rp.int .i64) (bl [] ++ A) w p_set_ c_set_ set_ ∧ Fr (bl []) w0 (bl []) w) H ⟨⟨rfl, rfl, rfl, rfl, rfl, trivial⟩, hO, h_t, h_set_, hB⟩ ?_
 rintro X1 k1_2 H hX1 σ w1 ⟨hag, hO, h_t, h_set_, hB⟩
 refine Go1.keep [(0, .slice p_t t.length c_t), (1, .slice p_set_ set_.length c_set_), (7, .slice p_set_ set_.length c_set_), (8, .int .i64 (set_.length : Int)), (9, .int .i64 (k1_2 : Int))] hag ?_
 refine Go1.seq ?_
 refine Go1.region ?_
 by_cases h3 : (k1_2 : Int) < (set_.length : Int)
 ·replace H := ifp h3 H
  refine GoR.op ((fun w => opB (op_lss rfl rfl w) (decide_eq_true h3)) _) rfl rfl ?_
  refine GoR.nil ?_
  refine Go1.seq ?_
  refine Go1.condT rfl rfl ?_
  refine Go1.skip ?_
  refine Go1.seq ?_
  refine Go1.block ?_
  refine Go1.seq ?_
  refine Go1.region ?_
  refine GoR.op ((op_move rfl) _) rfl rfl ?_
  obtain ⟨h4, H⟩ := H
  obtain ⟨h5, H⟩ := H
  refine GoR.op ((op_index Try.underlying23 ti3 rfl rfl h4 h5 (h_set_.some_ h4 h5)) _) rfl rfl ?_
  refine GoR.op ((ldInt h_set_ h4 h5 Try.underlying3 rfl rfl) _ (Same.refl _)) rfl rfl ?_
  refine GoR.op ((op_assign rfl) _) rfl rfl ?_
  refine GoR.op ((op_assign rfl) _) rfl rfl ?_
  refine GoR.nil ?_
  refine Go1.seq ?_
  refine Go1.region ?_
  refine GoR.op ((op_move rfl) _) rfl rfl ?_
  by_cases h6 : (ix set_ (k1_2 : Int)) < (0 : Int)
  ·replace H := ifp h6 H
   refine GoR.op ((fun w => opB (op_lss rfl rfl w) (decide_eq_true h6)) _) rfl rfl ?_
   refine GoR.op ((op_move rfl) _) rfl rfl ?_
   refine GoR.pass rfl rfl ?_
   refine GoR.pass rfl rfl ?_
   refine GoR.pass rfl rfl ?_
   refine GoR.pass rfl rfl ?_
   refine GoR.op ((op_pickT rfl rfl rfl) _) rfl rfl ?_
   refine GoR.op ((op_move rfl) _) rfl rfl ?_
   refine GoR.pass rfl rfl ?_
   refine GoR.pass rfl rfl ?_
   refine GoR.pass rfl rfl ?_
   refine GoR.pass rfl rfl ?_
   refine GoR.pass rfl rfl ?_
   refine GoR.pass rfl rfl ?_
   refine GoR.pass rfl rfl ?_
   refine GoR.pass rfl rfl ?_
   refine GoR.pass rfl rfl ?_
   refine GoR.pass rfl rfl ?_
   refine GoR.pass rfl rfl ?_
   refine GoR.op ((op_pickT rfl rfl rfl) _) rfl rfl ?_
   refine GoR.nil ?_
   refine Go1.condT rfl rfl ?_
   refine Go1.seq ?_
   refine Go1.region ?_
   refine GoR.op ((op_assign rfl) _) rfl rfl ?_
   refine GoR.nil ?_
   refine Go1.ret1 Try.func87 rfl ?_
   exact ⟨false, rfl, hB.same, H⟩
  ·replace H := ifn h6 H
   refine GoR.op ((fun w => opB (op_lss rfl rfl w) (decide_eq_false h6)) _) rfl rfl ?_
   refine GoR.op ((op_move rfl) _) rfl rfl ?_
   refine GoR.op ((op_move rfl) _) rfl rfl ?_
   refine GoR.op ((op_move rfl) _) rfl rfl ?_
   refine GoR.op ((op_len Try.underlying22 rfl) _) rfl rfl ?_
   replace H := H h_t.bd
   by_cases h7 : (t.length : Int) ≤ (ix set_ (k1_2 : Int))
   ·replace H := ifp h7 H
    refine GoR.op ((fun w => opB (op_geq rfl rfl w) (decide_eq_true h7)) _) rfl rfl ?_
    refine GoR.op ((op_pickF rfl rfl rfl) _) rfl rfl ?_
    refine GoR.op ((op_move rfl) _) rfl rfl ?_
    refine GoR.pass rfl rfl ?_
    refine GoR.pass rfl rfl ?_
    refine GoR.pass rfl rfl ?_
    refine GoR.pass rfl rfl ?_
    refine GoR.pass rfl rfl ?_
    refine GoR.pass rfl rfl ?_
    refine GoR.pass rfl rfl ?_
    refine GoR.pass rfl rfl ?_
    refine GoR.pass rfl rfl ?_
    refine GoR.pass rfl rfl ?_
    refine GoR.pass rfl rfl ?_
    refine GoR.op ((op_pickT rfl rfl rfl) _) rfl rfl ?_
    refine GoR.nil ?_
    refine Go1.condT rfl rfl ?_
    refine Go1.seq ?_
    refine Go1.region ?_
    refine GoR.op ((op_assign rfl) _) rfl rfl ?_
    refine GoR.nil ?_
    refine Go1.ret1 Try.func87 rfl ?_
    exact ⟨false, rfl, hB.same, H⟩
   ·replace H := ifn h7 H
    refine GoR.op ((fun w => opB (op_geq rfl rfl w) (decide_eq_false h7)) _) rfl rfl ?_
    refine GoR.op ((op_pickF rfl rfl rfl) _) rfl rfl ?_
    refine GoR.op ((op_move rfl) _) rfl rfl ?_
    refine GoR.op ((op_move rfl) _) rfl rfl ?_
    by_cases h8 : (0 : Int) < (k1_2 : Int)
    ·replace H := ifp h8 H
     refine GoR.op ((fun w => opB (op_gtr rfl rfl w) (decide_eq_true h8)) _) rfl rfl ?_
     refine GoR.op ((op_move rfl) _) rfl rfl ?_
     refine GoR.op ((op_move rfl) _) rfl rfl ?_
     refine GoR.op ((op_move rfl) _) rfl rfl ?_
     obtain ⟨h9, H⟩ := H
     refine GoR.op ((op_sub rfl rfl (wrap_i64 h9)) _) rfl rfl ?_
     obtain ⟨h10, H⟩ := H
     obtain ⟨h11, H⟩ := H
     refine GoR.op ((op_index Try.underlying23 ti3 rfl rfl h10 h11 (h_set_.some_ h10 h11)) _) rfl rfl ?_
     refine GoR.op ((ldInt h_set_ h10 h11 Try.underlying3 rfl rfl) _ (Same.refl _)) rfl rfl ?_
     refine GoR.op ((op_move rfl) _) rfl rfl ?_
     by_cases h12 : (ix set_ (k1_2 : Int)) ≤ (ix set_ ((k1_2 : Int) - (1 : Int)))
     ·replace H := ifp h12 H
      refine GoR.op ((fun w => opB (op_geq rfl rfl w) (decide_eq_true h12)) _) rfl rfl ?_
      refine GoR.op ((op_pickT rfl rfl rfl) _) rfl rfl ?_
      refine GoR.op ((op_pickF rfl rfl rfl) _) rfl rfl ?_
      refine GoR.nil ?_
      refine Go1.condT rfl rfl ?_
      refine Go1.seq ?_
      refine Go1.region ?_
      refine GoR.op ((op_assign rfl) _) rfl rfl ?_
      refine GoR.nil ?_
      refine Go1.ret1 Try.func87 rfl ?_
      exact ⟨false, rfl, hB.same, H⟩
     ·replace H := ifn h12 H
      refine GoR.op ((fun w => opB (op_geq rfl rfl w) (decide_eq_false h12)) _) rfl rfl ?_
      refine GoR.op ((op_pickT rfl rfl rfl) _) rfl rfl ?_
      refine GoR.op ((op_pickF rfl rfl rfl) _) rfl rfl ?_
      refine GoR.nil ?_
      refine Go1.condF rfl rfl ?_
      refine Go1.skip ?_
      refine Go1.inBlock ?_
      refine Go1.region ?_
      refine GoR.op ((op_add rfl rfl (wrap_i64 (natbd h3 h_set_.bd))) _) rfl rfl ?_
      refine GoR.op ((op_move rfl) _) rfl rfl ?_
      refine GoR.nil ?_
      exact hX1 _ H _ _ ⟨⟨rfl, rfl, rfl, rfl, rfl, trivial⟩, hO, h_t, h_set_, hB⟩
    ·replace H := ifn h8 H
     refine GoR.op ((fun w => opB (op_gtr rfl rfl w) (decide_eq_false h8)) _) rfl rfl ?_
     refine GoR.op ((op_move rfl) _) rfl rfl ?_
     refine GoR.pass rfl rfl ?_
     refine GoR.pass rfl rfl ?_
     refine GoR.pass rfl rfl ?_
     refine GoR.pass rfl rfl ?_
     refine GoR.pass rfl rfl ?_
     refine GoR.pass rfl rfl ?_
     refine GoR.pass rfl rfl ?_
     refine GoR.op ((op_pickF rfl rfl rfl) _) rfl rfl ?_
     refine GoR.op ((op_pickF rfl rfl rfl) _) rfl rfl ?_
     refine GoR.nil ?_
     refine Go1.condF rfl rfl ?_
     refine Go1.skip ?_
     refine Go1.inBlock ?_
     refine Go1.region ?_
     refine GoR.op ((op_add rfl rfl (wrap_i64 (natbd h3 h_set_.bd))) _) rfl rfl ?_
     refine GoR.op ((op_move rfl) _) rfl rfl ?_
     refine GoR.nil ?_
     exact hX1 _ H _ _ ⟨⟨rfl, rfl, rfl, rfl, rfl, trivial⟩, hO, h_t, h_set_, hB⟩
 ·replace H := ifn h3 H
  refine GoR.op ((fun w => opB (op_lss rfl rfl w) (decide_eq_false h3)) _) rfl rfl ?_
  refine GoR.nil ?_
  refine Go1.seq ?_
  refine Go1.condF rfl rfl ?_
  refine Go1.exit rfl ?_
  refine Go1.seq ?_
  refine Go1.region ?_
  refine GoR.op ((op_move rfl) _) rfl rfl ?_
  refine GoR.op ((op_len Try.underlying23 rfl) _) rfl rfl ?_
  by_cases h13 : (0 : Int) < (set_.length : Int)
  ·replace H := ifp h13 H
   refine GoR.op ((fun w => opB (op_gtr rfl rfl w) (decide_eq_true h13)) _) rfl rfl ?_
   refine GoR.op ((op_assign rfl) _) rfl rfl ?_
   refine GoR.nil ?_
   refine Go1.ret1 Try.func87 rfl ?_
   exact ⟨true, rfl, hB.same, H⟩
  ·replace H := ifn h13 H
   refine GoR.op ((fun w => opB (op_gtr rfl rfl w) (decide_eq_false h13)) _) rfl rfl ?_
   refine GoR.op ((op_assign rfl) _) rfl rfl ?_
   refine GoR.nil ?_
   refine Go1.ret1 Try.func87 rfl ?_
   exact ⟨false, rfl, hB.same, H⟩
end Sg
