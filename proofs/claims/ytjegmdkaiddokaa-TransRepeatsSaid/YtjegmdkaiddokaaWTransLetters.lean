/- The walks: each call keeps to its plain transformer. Printed by walkgen.py. -/
import Derived.Test.YtjegmdkaiddokaaWTransWords
namespace Sg
open Go Go.RowKit Go.Proofs
set_option linter.unusedVariables false
set_option maxRecDepth 100000
theorem body56 : Body Try.prog 56 := ⟨Try.f56, Try.func56, rfl, by kernel_rfl⟩
theorem walk_dfa_Validate {A : List Nat} {w0 : World} {p_d_Final : Option Addr} {c_d_Final : Nat} {p_d_Next : Option Addr} {c_d_Next : Nat} {d : DFA} (hA : ∀ b ∈ A, b < w0.heap.size) (h_d_Final : ISl (Rp.bool) A w0 p_d_Final c_d_Final d.Final) (h_d_Next : ISl (Rp.sl (Rp.int .i64)) A w0 p_d_Next c_d_Next d.Next) {K : Int → Prop} (H : dfa_Validate d K) :
    CallsV Try.prog 56 #[.agg #[.int .i64 d.Letters, .int .i64 d.Start, .slice p_d_Final d.Final.length c_d_Final, .slice p_d_Next d.Next.length c_d_Next]] w0 (fun v w' => ∃ (r0 : Int), v = .int .i64 r0 ∧ Same w0 w' ∧ K r0) := by
 refine CallsV.of (l := [.agg #[.int .i64 d.Letters, .int .i64 d.Start, .slice p_d_Final d.Final.length c_d_Final, .slice p_d_Next d.Next.length c_d_Next]]) Try.func56 rfl Try.ntmps56 rfl ?_
 have hO := Owns.start hA
 have hB := Below.refl w0.heap.size w0
 unfold dfa_Validate at H
 replace h_d_Final := h_d_Final.ch (Ch.start A w0)
 replace h_d_Next := h_d_Next.ch (Ch.start A w0)
 refine Go1.seq ?_
 refine Go1.region ?_
 obtain ⟨w1, B2, hst3, hs4, hop5⟩ := obox (t := 42) (v := .agg #[.int .i64 d.Letters, .int .i64 d.Start, .slice p_d_Final d.Final.length c_d_Final, .slice p_d_Next d.Next.length c_d_Next]) (cs := #[.int .i64 d.Letters, .int .i64 d.Start, .slice p_d_Final d.Final.length c_d_Final, .slice p_d_Next d.Next.length c_d_Next]) hO rfl
 refine GoR.op (hop5 rfl) rfl rfl ?_
 replace hO := hst3.own
 replace h_d_Final := h_d_Final.ch hst3.ch
 replace h_d_Next := h_d_Next.ch hst3.ch
 replace hB := hB.trans hst3.bel
 refine GoR.op ((op_assign rfl) _) rfl rfl ?_
 refine GoR.nil ?_
 refine Go1.seq ?_
 refine Go1.seq ?_
 refine Go1.region ?_
 refine GoR.op ((op_fieldAddr Try.underlying42 rfl ti3 rfl (by decide)) _) rfl rfl ?_
 refine GoR.op ((oblk 0 hO rfl rfl Try.underlying3 rfl rfl) _ (Same.refl _)) rfl rfl ?_
 by_cases h7 : d.Letters < (1 : Int)
 ·replace H := ifp h7 H
  refine GoR.op ((fun w => opB (op_lss rfl rfl w) (decide_eq_true h7)) _) rfl rfl ?_
  refine GoR.op ((op_move rfl) _) rfl rfl ?_
  refine GoR.pass rfl rfl ?_
  refine GoR.pass rfl rfl ?_
  refine GoR.pass rfl rfl ?_
  refine GoR.op ((op_pickT rfl rfl rfl) _) rfl rfl ?_
  refine GoR.nil ?_
  refine Go1.condT rfl rfl ?_
  refine Go1.seq ?_
  refine Go1.region ?_
  refine GoR.op ((op_assign rfl) _) rfl rfl ?_
  refine GoR.nil ?_
  refine Go1.ret1 Try.func56 rfl ?_
  exact ⟨(1 : Int), rfl, (Below.same' hB), H⟩
 ·replace H := ifn h7 H
  refine GoR.op ((fun w => opB (op_lss rfl rfl w) (decide_eq_false h7)) _) rfl rfl ?_
  refine GoR.op ((op_move rfl) _) rfl rfl ?_
  refine GoR.op ((op_fieldAddr Try.underlying42 rfl ti3 rfl (by decide)) _) rfl rfl ?_
  refine GoR.op ((oblk 0 hO rfl rfl Try.underlying3 rfl rfl) _ (Same.refl _)) rfl rfl ?_
  by_cases h8 : (6 : Int) < d.Letters
  ·replace H := ifp h8 H
   refine GoR.op ((fun w => opB (op_gtr rfl rfl w) (decide_eq_true h8)) _) rfl rfl ?_
   refine GoR.op ((op_pickF rfl rfl rfl) _) rfl rfl ?_
   refine GoR.nil ?_
   refine Go1.condT rfl rfl ?_
   refine Go1.seq ?_
   refine Go1.region ?_
   refine GoR.op ((op_assign rfl) _) rfl rfl ?_
   refine GoR.nil ?_
   refine Go1.ret1 Try.func56 rfl ?_
   exact ⟨(1 : Int), rfl, (Below.same' hB), H⟩
  ·replace H := ifn h8 H
   refine GoR.op ((fun w => opB (op_gtr rfl rfl w) (decide_eq_false h8)) _) rfl rfl ?_
   refine GoR.op ((op_pickF rfl rfl rfl) _) rfl rfl ?_
   refine GoR.nil ?_
   refine Go1.condF rfl rfl ?_
   refine Go1.skip ?_
   refine Go1.seq ?_
   refine Go1.region ?_
   refine GoR.op ((op_fieldAddr Try.underlying42 rfl ti40 rfl (by decide)) _) rfl rfl ?_
   refine GoR.op ((oblk 0 hO rfl rfl Try.underlying40 rfl rfl) _ (Same.refl _)) rfl rfl ?_
   refine GoR.op ((op_len Try.underlying40 rfl) _) rfl rfl ?_
   replace H := H h_d_Final.bd
   refine GoR.op ((op_assign rfl) _) rfl rfl ?_
   refine GoR.nil ?_
   refine Go1.seq ?_
   refine Go1.seq ?_
   refine Go1.region ?_
   refine GoR.op ((op_move rfl) _) rfl rfl ?_
   by_cases h9 : (512 : Int) < (d.Final.length : Int)
   ·replace H := ifp h9 H
    refine GoR.op ((fun w => opB (op_gtr rfl rfl w) (decide_eq_true h9)) _) rfl rfl ?_
    refine GoR.nil ?_
    refine Go1.condT rfl rfl ?_
    refine Go1.seq ?_
    refine Go1.region ?_
    refine GoR.op ((op_assign rfl) _) rfl rfl ?_
    refine GoR.nil ?_
    refine Go1.ret1 Try.func56 rfl ?_
    exact ⟨(3 : Int), rfl, (Below.same' hB), H⟩
   ·replace H := ifn h9 H
    refine GoR.op ((fun w => opB (op_gtr rfl rfl w) (decide_eq_false h9)) _) rfl rfl ?_
    refine GoR.nil ?_
    refine Go1.condF rfl rfl ?_
    refine Go1.skip ?_
    refine Go1.seq ?_
    refine Go1.seq ?_
    refine Go1.region ?_
    refine GoR.op ((op_fieldAddr Try.underlying42 rfl ti35 rfl (by decide)) _) rfl rfl ?_
    refine GoR.op ((oblk 0 hO rfl rfl Try.underlying35 rfl rfl) _ (Same.refl _)) rfl rfl ?_
    refine GoR.op ((op_len Try.underlying35 rfl) _) rfl rfl ?_
    replace H := H h_d_Next.bd
    refine GoR.op ((op_move rfl) _) rfl rfl ?_
    by_cases h10 : (d.Next.length : Int) = (d.Final.length : Int)
    ·replace H := ifp h10 H
     refine GoR.op ((fun w => opB (op_neq rfl rfl w) (ndT h10)) _) rfl rfl ?_
     refine GoR.op ((op_move rfl) _) rfl rfl ?_
     refine GoR.op ((op_fieldAddr Try.underlying42 rfl ti3 rfl (by decide)) _) rfl rfl ?_
     refine GoR.op ((oblk 0 hO rfl rfl Try.underlying3 rfl rfl) _ (Same.refl _)) rfl rfl ?_
     by_cases h11 : d.Start < (0 : Int)
     ·replace H := ifp h11 H
      refine GoR.op ((fun w => opB (op_lss rfl rfl w) (decide_eq_true h11)) _) rfl rfl ?_
      refine GoR.op ((op_pickF rfl rfl rfl) _) rfl rfl ?_
      refine GoR.op ((op_move rfl) _) rfl rfl ?_
      refine GoR.pass rfl rfl ?_
      refine GoR.pass rfl rfl ?_
      refine GoR.pass rfl rfl ?_
      refine GoR.pass rfl rfl ?_
      refine GoR.op ((op_pickT rfl rfl rfl) _) rfl rfl ?_
      refine GoR.nil ?_
      refine Go1.condT rfl rfl ?_
      refine Go1.seq ?_
      refine Go1.region ?_
      refine GoR.op ((op_assign rfl) _) rfl rfl ?_
      refine GoR.nil ?_
      refine Go1.ret1 Try.func56 rfl ?_
      exact ⟨(4 : Int), rfl, (Below.same' hB), H⟩
     ·replace H := ifn h11 H
      refine GoR.op ((fun w => opB (op_lss rfl rfl w) (decide_eq_false h11)) _) rfl rfl ?_
      refine GoR.op ((op_pickF rfl rfl rfl) _) rfl rfl ?_
      refine GoR.op ((op_move rfl) _) rfl rfl ?_
      refine GoR.op ((op_fieldAddr Try.underlying42 rfl ti3 rfl (by decide)) _) rfl rfl ?_
      refine GoR.op ((oblk 0 hO rfl rfl Try.underlying3 rfl rfl) _ (Same.refl _)) rfl rfl ?_
      refine GoR.op ((op_move rfl) _) rfl rfl ?_
      by_cases h12 : (d.Final.length : Int) ≤ d.Start
      ·replace H := ifp h12 H
       refine GoR.op ((fun w => opB (op_geq rfl rfl w) (decide_eq_true h12)) _) rfl rfl ?_
       refine GoR.op ((op_pickF rfl rfl rfl) _) rfl rfl ?_
       refine GoR.nil ?_
       refine Go1.condT rfl rfl ?_
       refine Go1.seq ?_
       refine Go1.region ?_
       refine GoR.op ((op_assign rfl) _) rfl rfl ?_
       refine GoR.nil ?_
       refine Go1.ret1 Try.func56 rfl ?_
       exact ⟨(4 : Int), rfl, (Below.same' hB), H⟩
      ·replace H := ifn h12 H
       refine GoR.op ((fun w => opB (op_geq rfl rfl w) (decide_eq_false h12)) _) rfl rfl ?_
       refine GoR.op ((op_pickF rfl rfl rfl) _) rfl rfl ?_
       refine GoR.nil ?_
       refine Go1.condF rfl rfl ?_
       refine Go1.skip ?_
       refine Go1.seq ?_
       refine Go1.seq ?_
       refine Go1.region ?_
       refine GoR.op ((op_fieldAddr Try.underlying42 rfl ti35 rfl (by decide)) _) rfl rfl ?_
       refine GoR.op ((oblk 0 hO rfl rfl Try.underlying35 rfl rfl) _ (Same.refl _)) rfl rfl ?_
       refine GoR.op ((op_len Try.underlying35 rfl) _) rfl rfl ?_
       refine GoR.op ((op_move rfl) _) rfl rfl ?_
       refine GoR.nil ?_
       refine Go1.block ?_
       refine Go1.loopW (S := Nat) (fun s σ w => agrees σ [(1, .pointer (some ⟨B2, 0, none⟩)), (3, .int .i64 (d.Final.length : Int)), (38, .slice p_d_Next d.Next.length c_d_Next), (39, .int .i64 (d.Next.length : Int)), (40, .int .i64 (s : Int))] ∧ Owns w0.heap.size w [.blk B2 (.cells #[.int .i64 d.Letters, .int .i64 d.Start, .slice p_d_Final d.Final.length c_d_Final, .slice p_d_Next d.Next.length c_d_Next] 42 (0, 0))] A ∧ ISl (Rp.bool) (bl [.blk B2 (.cells #[.int .i64 d.Letters, .int .i64 d.Start, .slice p_d_Final d.Final.length c_d_Final, .slice p_d_Next d.Next.length c_d_Next] 42 (0, 0))] ++ A) w p_d_Final c_d_Final d.Final ∧ ISl (Rp.sl (Rp.int .i64)) (bl [.blk B2 (.cells #[.int .i64 d.Letters, .int .i64 d.Start, .slice p_d_Final d.Final.length c_d_Final, .slice p_d_Next d.Next.length c_d_Next] 42 (0, 0))] ++ A) w p_d_Next c_d_Next d.Next ∧ Below w0.heap.size w0 w) H ⟨⟨rfl, rfl, rfl, rfl, rfl, trivial⟩, hO, h_d_Final, h_d_Next, hB⟩ ?_
       rintro X1 k1_14 H hX1 σ w13 ⟨hag, hO, h_d_Final, h_d_Next, hB⟩
       refine Go1.keep [(1, .pointer (some ⟨B2, 0, none⟩)), (3, .int .i64 (d.Final.length : Int)), (38, .slice p_d_Next d.Next.length c_d_Next), (39, .int .i64 (d.Next.length : Int)), (40, .int .i64 (k1_14 : Int))] hag ?_
       refine Go1.seq ?_
       refine Go1.region ?_
       by_cases h15 : (k1_14 : Int) < (d.Next.length : Int)
       ·replace H := ifp h15 H
        refine GoR.op ((fun w => opB (op_lss rfl rfl w) (decide_eq_true h15)) _) rfl rfl ?_
        refine GoR.nil ?_
        refine Go1.seq ?_
        refine Go1.condT rfl rfl ?_
        refine Go1.skip ?_
        refine Go1.seq ?_
        refine Go1.block ?_
        refine Go1.seq ?_
        refine Go1.region ?_
        obtain ⟨h16, H⟩ := H
        obtain ⟨h17, H⟩ := H
        refine GoR.op ((op_index Try.underlying35 ti22 rfl rfl h16 h17 (h_d_Next.some_ h16 h17)) _) rfl rfl ?_
        obtain ⟨p18, c19, hi20, hl21⟩ := ldSl h_d_Next h16 h17
        refine GoR.op ((hl21 Try.underlying22 rfl rfl) _ (Same.refl _)) rfl rfl ?_
        refine GoR.op ((op_assign rfl) _) rfl rfl ?_
        refine GoR.nil ?_
        refine Go1.seq ?_
        refine Go1.seq ?_
        refine Go1.region ?_
        refine GoR.op ((op_move rfl) _) rfl rfl ?_
        refine GoR.op ((op_len Try.underlying22 rfl) _) rfl rfl ?_
        replace H := H hi20.bd
        refine GoR.op ((op_fieldAddr Try.underlying42 rfl ti3 rfl (by decide)) _) rfl rfl ?_
        refine GoR.op ((oblk 0 hO rfl rfl Try.underlying3 rfl rfl) _ (Same.refl _)) rfl rfl ?_
        by_cases h22 : ((ix d.Next (k1_14 : Int)).length : Int) = d.Letters
        ·replace H := ifp h22 H
         refine GoR.op ((fun w => opB (op_neq rfl rfl w) (ndT h22)) _) rfl rfl ?_
         refine GoR.nil ?_
         refine Go1.condF rfl rfl ?_
         refine Go1.skip ?_
         refine Go1.seq ?_
         refine Go1.region ?_
         refine GoR.op ((op_move rfl) _) rfl rfl ?_
         refine GoR.op ((op_len Try.underlying22 rfl) _) rfl rfl ?_
         refine GoR.op ((op_move rfl) _) rfl rfl ?_
         refine GoR.nil ?_
         refine Go1.block ?_
         refine Go1.loopW (S := Nat) (fun s σ w => agrees σ [(1, .pointer (some ⟨B2, 0, none⟩)), (3, .int .i64 (d.Final.length : Int)), (38, .slice p_d_Next d.Next.length c_d_Next), (39, .int .i64 (d.Next.length : Int)), (40, .int .i64 (k1_14 : Int)), (49, .slice p18 ((ix d.Next (k1_14 : Int)).length) c19), (50, .int .i64 ((ix d.Next (k1_14 : Int)).length : Int)), (51, .int .i64 (s : Int))] ∧ Owns w0.heap.size w [.blk B2 (.cells #[.int .i64 d.Letters, .int .i64 d.Start, .slice p_d_Final d.Final.length c_d_Final, .slice p_d_Next d.Next.length c_d_Next] 42 (0, 0))] A ∧ ISl (Rp.bool) (bl [.blk B2 (.cells #[.int .i64 d.Letters, .int .i64 d.Start, .slice p_d_Final d.Final.length c_d_Final, .slice p_d_Next d.Next.length c_d_Next] 42 (0, 0))] ++ A) w p_d_Final c_d_Final d.Final ∧ ISl (Rp.sl (Rp.int .i64)) (bl [.blk B2 (.cells #[.int .i64 d.Letters, .int .i64 d.Start, .slice p_d_Final d.Final.length c_d_Final, .slice p_d_Next d.Next.length c_d_Next] 42 (0, 0))] ++ A) w p_d_Next c_d_Next d.Next ∧ ISl (Rp.int .i64) (bl [.blk B2 (.cells #[.int .i64 d.Letters, .int .i64 d.Start, .slice p_d_Final d.Final.length c_d_Final, .slice p_d_Next d.Next.length c_d_Next] 42 (0, 0))] ++ A) w p18 c19 (ix d.Next (k1_14 : Int)) ∧ Below w0.heap.size w0 w) H ⟨⟨rfl, rfl, rfl, rfl, rfl, rfl, rfl, rfl, trivial⟩, hO, h_d_Final, h_d_Next, hi20, hB⟩ ?_
         rintro X2 k2_24 H hX2 σ w23 ⟨hag, hO, h_d_Final, h_d_Next, hi20, hB⟩
         refine Go1.keep [(1, .pointer (some ⟨B2, 0, none⟩)), (3, .int .i64 (d.Final.length : Int)), (38, .slice p_d_Next d.Next.length c_d_Next), (39, .int .i64 (d.Next.length : Int)), (40, .int .i64 (k1_14 : Int)), (49, .slice p18 ((ix d.Next (k1_14 : Int)).length) c19), (50, .int .i64 ((ix d.Next (k1_14 : Int)).length : Int)), (51, .int .i64 (k2_24 : Int))] hag ?_
         refine Go1.seq ?_
         refine Go1.region ?_
         by_cases h25 : (k2_24 : Int) < ((ix d.Next (k1_14 : Int)).length : Int)
         ·replace H := ifp h25 H
          refine GoR.op ((fun w => opB (op_lss rfl rfl w) (decide_eq_true h25)) _) rfl rfl ?_
          refine GoR.nil ?_
          refine Go1.seq ?_
          refine Go1.condT rfl rfl ?_
          refine Go1.skip ?_
          refine Go1.seq ?_
          refine Go1.block ?_
          refine Go1.seq ?_
          refine Go1.region ?_
          obtain ⟨h26, H⟩ := H
          obtain ⟨h27, H⟩ := H
          refine GoR.op ((op_index Try.underlying22 ti3 rfl rfl h26 h27 (hi20.some_ h26 h27)) _) rfl rfl ?_
          refine GoR.op ((ldInt hi20 h26 h27 Try.underlying3 rfl rfl) _ (Same.refl _)) rfl rfl ?_
          refine GoR.op ((op_assign rfl) _) rfl rfl ?_
          refine GoR.nil ?_
          refine Go1.seq ?_
          refine Go1.region ?_
          refine GoR.op ((op_move rfl) _) rfl rfl ?_
          by_cases h28 : (ix (ix d.Next (k1_14 : Int)) (k2_24 : Int)) < (0 : Int)
          ·replace H := ifp h28 H
           refine GoR.op ((fun w => opB (op_lss rfl rfl w) (decide_eq_true h28)) _) rfl rfl ?_
           refine GoR.op ((op_move rfl) _) rfl rfl ?_
           refine GoR.pass rfl rfl ?_
           refine GoR.pass rfl rfl ?_
           refine GoR.pass rfl rfl ?_
           refine GoR.op ((op_pickT rfl rfl rfl) _) rfl rfl ?_
           refine GoR.nil ?_
           refine Go1.condT rfl rfl ?_
           refine Go1.seq ?_
           refine Go1.region ?_
           refine GoR.op ((op_assign rfl) _) rfl rfl ?_
           refine GoR.nil ?_
           refine Go1.ret1 Try.func56 rfl ?_
           exact ⟨(4 : Int), rfl, (Below.same' hB), H⟩
          ·replace H := ifn h28 H
           refine GoR.op ((fun w => opB (op_lss rfl rfl w) (decide_eq_false h28)) _) rfl rfl ?_
           refine GoR.op ((op_move rfl) _) rfl rfl ?_
           refine GoR.op ((op_move rfl) _) rfl rfl ?_
           refine GoR.op ((op_move rfl) _) rfl rfl ?_
           by_cases h29 : (d.Final.length : Int) ≤ (ix (ix d.Next (k1_14 : Int)) (k2_24 : Int))
           ·replace H := ifp h29 H
            refine GoR.op ((fun w => opB (op_geq rfl rfl w) (decide_eq_true h29)) _) rfl rfl ?_
            refine GoR.op ((op_pickF rfl rfl rfl) _) rfl rfl ?_
            refine GoR.nil ?_
            refine Go1.condT rfl rfl ?_
            refine Go1.seq ?_
            refine Go1.region ?_
            refine GoR.op ((op_assign rfl) _) rfl rfl ?_
            refine GoR.nil ?_
            refine Go1.ret1 Try.func56 rfl ?_
            exact ⟨(4 : Int), rfl, (Below.same' hB), H⟩
           ·replace H := ifn h29 H
            refine GoR.op ((fun w => opB (op_geq rfl rfl w) (decide_eq_false h29)) _) rfl rfl ?_
            refine GoR.op ((op_pickF rfl rfl rfl) _) rfl rfl ?_
            refine GoR.nil ?_
            refine Go1.condF rfl rfl ?_
            refine Go1.skip ?_
            refine Go1.inBlock ?_
            refine Go1.region ?_
            refine GoR.op ((op_add rfl rfl (wrap_i64 (by have := h25; have := hi20.bd; unfold mx at this; exact ⟨by omega, by omega⟩))) _) rfl rfl ?_
            refine GoR.op ((op_move rfl) _) rfl rfl ?_
            refine GoR.nil ?_
            exact hX2 _ H _ _ ⟨⟨rfl, rfl, rfl, rfl, rfl, rfl, rfl, rfl, trivial⟩, hO, h_d_Final, h_d_Next, hi20, hB⟩
         ·replace H := ifn h25 H
          refine GoR.op ((fun w => opB (op_lss rfl rfl w) (decide_eq_false h25)) _) rfl rfl ?_
          refine GoR.nil ?_
          refine Go1.seq ?_
          refine Go1.condF rfl rfl ?_
          refine Go1.exit rfl ?_
          refine Go1.inBlock ?_
          refine Go1.region ?_
          refine GoR.op ((op_add rfl rfl (wrap_i64 (by have := h15; have := h_d_Next.bd; unfold mx at this; exact ⟨by omega, by omega⟩))) _) rfl rfl ?_
          refine GoR.op ((op_move rfl) _) rfl rfl ?_
          refine GoR.nil ?_
          exact hX1 _ H _ _ ⟨⟨rfl, rfl, rfl, rfl, rfl, trivial⟩, hO, h_d_Final, h_d_Next, hB⟩
        ·replace H := ifn h22 H
         refine GoR.op ((fun w => opB (op_neq rfl rfl w) (ndF h22)) _) rfl rfl ?_
         refine GoR.nil ?_
         refine Go1.condT rfl rfl ?_
         refine Go1.seq ?_
         refine Go1.region ?_
         refine GoR.op ((op_assign rfl) _) rfl rfl ?_
         refine GoR.nil ?_
         refine Go1.ret1 Try.func56 rfl ?_
         exact ⟨(4 : Int), rfl, (Below.same' hB), H⟩
       ·replace H := ifn h15 H
        refine GoR.op ((fun w => opB (op_lss rfl rfl w) (decide_eq_false h15)) _) rfl rfl ?_
        refine GoR.nil ?_
        refine Go1.seq ?_
        refine Go1.condF rfl rfl ?_
        refine Go1.exit rfl ?_
        refine Go1.seq ?_
        refine Go1.region ?_
        refine GoR.op ((op_assign rfl) _) rfl rfl ?_
        refine GoR.nil ?_
        refine Go1.ret1 Try.func56 rfl ?_
        exact ⟨(0 : Int), rfl, (Below.same' hB), H⟩
    ·replace H := ifn h10 H
     refine GoR.op ((fun w => opB (op_neq rfl rfl w) (ndF h10)) _) rfl rfl ?_
     refine GoR.op ((op_move rfl) _) rfl rfl ?_
     refine GoR.pass rfl rfl ?_
     refine GoR.pass rfl rfl ?_
     refine GoR.pass rfl rfl ?_
     refine GoR.op ((op_pickT rfl rfl rfl) _) rfl rfl ?_
     refine GoR.op ((op_move rfl) _) rfl rfl ?_
     refine GoR.pass rfl rfl ?_
     refine GoR.pass rfl rfl ?_
     refine GoR.pass rfl rfl ?_
     refine GoR.pass rfl rfl ?_
     refine GoR.op ((op_pickT rfl rfl rfl) _) rfl rfl ?_
     refine GoR.nil ?_
     refine Go1.condT rfl rfl ?_
     refine Go1.seq ?_
     refine Go1.region ?_
     refine GoR.op ((op_assign rfl) _) rfl rfl ?_
     refine GoR.nil ?_
     refine Go1.ret1 Try.func56 rfl ?_
     exact ⟨(4 : Int), rfl, (Below.same' hB), H⟩
theorem body34 : Body Try.prog 34 := ⟨Try.f34, Try.func34, rfl, by kernel_rfl⟩
theorem walk_ref07_Validate {A : List Nat} {w0 : World} {p_d_Final : Option Addr} {c_d_Final : Nat} {p_d_Next : Option Addr} {c_d_Next : Nat} {d : DFA} (hA : ∀ b ∈ A, b < w0.heap.size) (h_d_Final : ISl (Rp.bool) A w0 p_d_Final c_d_Final d.Final) (h_d_Next : ISl (Rp.sl (Rp.int .i64)) A w0 p_d_Next c_d_Next d.Next) {K : Int → Prop} (H : ref07_Validate d K) :
    CallsV Try.prog 34 #[.agg #[.int .i64 d.Letters, .int .i64 d.Start, .slice p_d_Final d.Final.length c_d_Final, .slice p_d_Next d.Next.length c_d_Next]] w0 (fun v w' => ∃ (r0 : Int), v = .int .i64 r0 ∧ Same w0 w' ∧ K r0) := by
 refine CallsV.of (l := [.agg #[.int .i64 d.Letters, .int .i64 d.Start, .slice p_d_Final d.Final.length c_d_Final, .slice p_d_Next d.Next.length c_d_Next]]) Try.func34 rfl Try.ntmps34 rfl ?_
 have hO := Owns.start hA
 have hB := Below.refl w0.heap.size w0
 unfold ref07_Validate at H
 replace h_d_Final := h_d_Final.ch (Ch.start A w0)
 replace h_d_Next := h_d_Next.ch (Ch.start A w0)
 refine Go1.seq ?_
 refine Go1.region ?_
 obtain ⟨w1, B2, hst3, hs4, hop5⟩ := obox (t := 42) (v := .agg #[.int .i64 d.Letters, .int .i64 d.Start, .slice p_d_Final d.Final.length c_d_Final, .slice p_d_Next d.Next.length c_d_Next]) (cs := #[.int .i64 d.Letters, .int .i64 d.Start, .slice p_d_Final d.Final.length c_d_Final, .slice p_d_Next d.Next.length c_d_Next]) hO rfl
 refine GoR.op (hop5 rfl) rfl rfl ?_
 replace hO := hst3.own
 replace h_d_Final := h_d_Final.ch hst3.ch
 replace h_d_Next := h_d_Next.ch hst3.ch
 replace hB := hB.trans hst3.bel
 refine GoR.op ((op_assign rfl) _) rfl rfl ?_
 refine GoR.nil ?_
 refine Go1.seq ?_
 refine Go1.region ?_
 refine GoR.op ((op_fieldAddr Try.underlying42 rfl ti40 rfl (by decide)) _) rfl rfl ?_
 refine GoR.op ((oblk 0 hO rfl rfl Try.underlying40 rfl rfl) _ (Same.refl _)) rfl rfl ?_
 refine GoR.op ((op_len Try.underlying40 rfl) _) rfl rfl ?_
 replace H := H h_d_Final.bd
 refine GoR.op ((op_assign rfl) _) rfl rfl ?_
 refine GoR.nil ?_
 refine Go1.seq ?_
 refine Go1.seq ?_
 refine Go1.region ?_
 refine GoR.op ((op_fieldAddr Try.underlying42 rfl ti3 rfl (by decide)) _) rfl rfl ?_
 refine GoR.op ((oblk 0 hO rfl rfl Try.underlying3 rfl rfl) _ (Same.refl _)) rfl rfl ?_
 refine GoR.call (op_call body55 rfl (walk_ref01_MayLetters hO.lt H)) rfl rfl ?_
 rintro v10 w8 ⟨r7, rfl, hs9, H⟩
 have hst11 := Stp.same hO hs9
 replace hO := hst11.own
 replace h_d_Final := h_d_Final.ch hst11.ch
 replace h_d_Next := h_d_Next.ch hst11.ch
 replace hB := hB.trans hst11.bel
 cases r7
 ·replace H := ifn Bool.false_ne_true H
  refine GoR.op ((op_not rfl) _) rfl rfl ?_
  refine GoR.nil ?_
  refine Go1.condT rfl rfl ?_
  refine Go1.seq ?_
  refine Go1.region ?_
  refine GoR.op ((op_assign rfl) _) rfl rfl ?_
  refine GoR.nil ?_
  refine Go1.ret1 Try.func34 rfl ?_
  exact ⟨(1 : Int), rfl, (Below.same' hB), H⟩
 ·replace H := ifp rfl H
  refine GoR.op ((op_not rfl) _) rfl rfl ?_
  refine GoR.nil ?_
  refine Go1.condF rfl rfl ?_
  refine Go1.skip ?_
  refine Go1.seq ?_
  refine Go1.seq ?_
  refine Go1.region ?_
  refine GoR.op ((op_move rfl) _) rfl rfl ?_
  by_cases h12 : (512 : Int) < (d.Final.length : Int)
  ·replace H := ifp h12 H
   refine GoR.op ((fun w => opB (op_gtr rfl rfl w) (decide_eq_true h12)) _) rfl rfl ?_
   refine GoR.nil ?_
   refine Go1.condT rfl rfl ?_
   refine Go1.seq ?_
   refine Go1.region ?_
   refine GoR.op ((op_assign rfl) _) rfl rfl ?_
   refine GoR.nil ?_
   refine Go1.ret1 Try.func34 rfl ?_
   exact ⟨(3 : Int), rfl, (Below.same' hB), H⟩
  ·replace H := ifn h12 H
   refine GoR.op ((fun w => opB (op_gtr rfl rfl w) (decide_eq_false h12)) _) rfl rfl ?_
   refine GoR.nil ?_
   refine Go1.condF rfl rfl ?_
   refine Go1.skip ?_
   refine Go1.seq ?_
   refine Go1.seq ?_
   refine Go1.region ?_
   refine GoR.op ((op_move rfl) _) rfl rfl ?_
   by_cases h13 : (d.Final.length : Int) = (0 : Int)
   ·replace H := ifp h13 H
    refine GoR.op ((fun w => opB (op_eql rfl rfl w) (decide_eq_true h13)) _) rfl rfl ?_
    refine GoR.op ((op_move rfl) _) rfl rfl ?_
    refine GoR.pass rfl rfl ?_
    refine GoR.pass rfl rfl ?_
    refine GoR.pass rfl rfl ?_
    refine GoR.pass rfl rfl ?_
    refine GoR.pass rfl rfl ?_
    refine GoR.op ((op_pickT rfl rfl rfl) _) rfl rfl ?_
    refine GoR.op ((op_move rfl) _) rfl rfl ?_
    refine GoR.pass rfl rfl ?_
    refine GoR.pass rfl rfl ?_
    refine GoR.pass rfl rfl ?_
    refine GoR.op ((op_pickT rfl rfl rfl) _) rfl rfl ?_
    refine GoR.op ((op_move rfl) _) rfl rfl ?_
    refine GoR.pass rfl rfl ?_
    refine GoR.pass rfl rfl ?_
    refine GoR.pass rfl rfl ?_
    refine GoR.pass rfl rfl ?_
    refine GoR.op ((op_pickT rfl rfl rfl) _) rfl rfl ?_
    refine GoR.nil ?_
    refine Go1.condT rfl rfl ?_
    refine Go1.seq ?_
    refine Go1.region ?_
    refine GoR.op ((op_assign rfl) _) rfl rfl ?_
    refine GoR.nil ?_
    refine Go1.ret1 Try.func34 rfl ?_
    exact ⟨(4 : Int), rfl, (Below.same' hB), H⟩
   ·replace H := ifn h13 H
    refine GoR.op ((fun w => opB (op_eql rfl rfl w) (decide_eq_false h13)) _) rfl rfl ?_
    refine GoR.op ((op_move rfl) _) rfl rfl ?_
    refine GoR.op ((op_fieldAddr Try.underlying42 rfl ti35 rfl (by decide)) _) rfl rfl ?_
    refine GoR.op ((oblk 0 hO rfl rfl Try.underlying35 rfl rfl) _ (Same.refl _)) rfl rfl ?_
    refine GoR.op ((op_len Try.underlying35 rfl) _) rfl rfl ?_
    replace H := H h_d_Next.bd
    refine GoR.op ((op_move rfl) _) rfl rfl ?_
    by_cases h14 : (d.Next.length : Int) = (d.Final.length : Int)
    ·replace H := ifp h14 H
     refine GoR.op ((fun w => opB (op_neq rfl rfl w) (ndT h14)) _) rfl rfl ?_
     refine GoR.op ((op_pickF rfl rfl rfl) _) rfl rfl ?_
     refine GoR.op ((op_move rfl) _) rfl rfl ?_
     refine GoR.op ((op_fieldAddr Try.underlying42 rfl ti3 rfl (by decide)) _) rfl rfl ?_
     refine GoR.op ((oblk 0 hO rfl rfl Try.underlying3 rfl rfl) _ (Same.refl _)) rfl rfl ?_
     by_cases h15 : d.Start < (0 : Int)
     ·replace H := ifp h15 H
      refine GoR.op ((fun w => opB (op_lss rfl rfl w) (decide_eq_true h15)) _) rfl rfl ?_
      refine GoR.op ((op_pickF rfl rfl rfl) _) rfl rfl ?_
      refine GoR.op ((op_move rfl) _) rfl rfl ?_
      refine GoR.pass rfl rfl ?_
      refine GoR.pass rfl rfl ?_
      refine GoR.pass rfl rfl ?_
      refine GoR.pass rfl rfl ?_
      refine GoR.op ((op_pickT rfl rfl rfl) _) rfl rfl ?_
      refine GoR.nil ?_
      refine Go1.condT rfl rfl ?_
      refine Go1.seq ?_
      refine Go1.region ?_
      refine GoR.op ((op_assign rfl) _) rfl rfl ?_
      refine GoR.nil ?_
      refine Go1.ret1 Try.func34 rfl ?_
      exact ⟨(4 : Int), rfl, (Below.same' hB), H⟩
     ·replace H := ifn h15 H
      refine GoR.op ((fun w => opB (op_lss rfl rfl w) (decide_eq_false h15)) _) rfl rfl ?_
      refine GoR.op ((op_pickF rfl rfl rfl) _) rfl rfl ?_
      refine GoR.op ((op_move rfl) _) rfl rfl ?_
      refine GoR.op ((op_fieldAddr Try.underlying42 rfl ti3 rfl (by decide)) _) rfl rfl ?_
      refine GoR.op ((oblk 0 hO rfl rfl Try.underlying3 rfl rfl) _ (Same.refl _)) rfl rfl ?_
      refine GoR.op ((op_move rfl) _) rfl rfl ?_
      by_cases h16 : (d.Final.length : Int) ≤ d.Start
      ·replace H := ifp h16 H
       refine GoR.op ((fun w => opB (op_geq rfl rfl w) (decide_eq_true h16)) _) rfl rfl ?_
       refine GoR.op ((op_pickF rfl rfl rfl) _) rfl rfl ?_
       refine GoR.nil ?_
       refine Go1.condT rfl rfl ?_
       refine Go1.seq ?_
       refine Go1.region ?_
       refine GoR.op ((op_assign rfl) _) rfl rfl ?_
       refine GoR.nil ?_
       refine Go1.ret1 Try.func34 rfl ?_
       exact ⟨(4 : Int), rfl, (Below.same' hB), H⟩
      ·replace H := ifn h16 H
       refine GoR.op ((fun w => opB (op_geq rfl rfl w) (decide_eq_false h16)) _) rfl rfl ?_
       refine GoR.op ((op_pickF rfl rfl rfl) _) rfl rfl ?_
       refine GoR.nil ?_
       refine Go1.condF rfl rfl ?_
       refine Go1.skip ?_
       refine Go1.seq ?_
       refine Go1.seq ?_
       refine Go1.region ?_
       refine GoR.op ((op_fieldAddr Try.underlying42 rfl ti35 rfl (by decide)) _) rfl rfl ?_
       refine GoR.op ((oblk 0 hO rfl rfl Try.underlying35 rfl rfl) _ (Same.refl _)) rfl rfl ?_
       refine GoR.op ((op_len Try.underlying35 rfl) _) rfl rfl ?_
       refine GoR.op ((op_move rfl) _) rfl rfl ?_
       refine GoR.nil ?_
       refine Go1.block ?_
       refine Go1.loopW (S := Nat) (fun s σ w => agrees σ [(1, .pointer (some ⟨B2, 0, none⟩)), (3, .int .i64 (d.Final.length : Int)), (38, .slice p_d_Next d.Next.length c_d_Next), (39, .int .i64 (d.Next.length : Int)), (40, .int .i64 (s : Int))] ∧ Owns w0.heap.size w [.blk B2 (.cells #[.int .i64 d.Letters, .int .i64 d.Start, .slice p_d_Final d.Final.length c_d_Final, .slice p_d_Next d.Next.length c_d_Next] 42 (0, 0))] A ∧ ISl (Rp.bool) (bl [.blk B2 (.cells #[.int .i64 d.Letters, .int .i64 d.Start, .slice p_d_Final d.Final.length c_d_Final, .slice p_d_Next d.Next.length c_d_Next] 42 (0, 0))] ++ A) w p_d_Final c_d_Final d.Final ∧ ISl (Rp.sl (Rp.int .i64)) (bl [.blk B2 (.cells #[.int .i64 d.Letters, .int .i64 d.Start, .slice p_d_Final d.Final.length c_d_Final, .slice p_d_Next d.Next.length c_d_Next] 42 (0, 0))] ++ A) w p_d_Next c_d_Next d.Next ∧ Below w0.heap.size w0 w) H ⟨⟨rfl, rfl, rfl, rfl, rfl, trivial⟩, hO, h_d_Final, h_d_Next, hB⟩ ?_
       rintro X1 k1_18 H hX1 σ w17 ⟨hag, hO, h_d_Final, h_d_Next, hB⟩
       refine Go1.keep [(1, .pointer (some ⟨B2, 0, none⟩)), (3, .int .i64 (d.Final.length : Int)), (38, .slice p_d_Next d.Next.length c_d_Next), (39, .int .i64 (d.Next.length : Int)), (40, .int .i64 (k1_18 : Int))] hag ?_
       refine Go1.seq ?_
       refine Go1.region ?_
       by_cases h19 : (k1_18 : Int) < (d.Next.length : Int)
       ·replace H := ifp h19 H
        refine GoR.op ((fun w => opB (op_lss rfl rfl w) (decide_eq_true h19)) _) rfl rfl ?_
        refine GoR.nil ?_
        refine Go1.seq ?_
        refine Go1.condT rfl rfl ?_
        refine Go1.skip ?_
        refine Go1.seq ?_
        refine Go1.block ?_
        refine Go1.seq ?_
        refine Go1.region ?_
        obtain ⟨h20, H⟩ := H
        obtain ⟨h21, H⟩ := H
        refine GoR.op ((op_index Try.underlying35 ti22 rfl rfl h20 h21 (h_d_Next.some_ h20 h21)) _) rfl rfl ?_
        obtain ⟨p22, c23, hi24, hl25⟩ := ldSl h_d_Next h20 h21
        refine GoR.op ((hl25 Try.underlying22 rfl rfl) _ (Same.refl _)) rfl rfl ?_
        refine GoR.op ((op_assign rfl) _) rfl rfl ?_
        refine GoR.nil ?_
        refine Go1.seq ?_
        refine Go1.seq ?_
        refine Go1.region ?_
        refine GoR.op ((op_move rfl) _) rfl rfl ?_
        refine GoR.op ((op_len Try.underlying22 rfl) _) rfl rfl ?_
        replace H := H hi24.bd
        refine GoR.op ((op_fieldAddr Try.underlying42 rfl ti3 rfl (by decide)) _) rfl rfl ?_
        refine GoR.op ((oblk 0 hO rfl rfl Try.underlying3 rfl rfl) _ (Same.refl _)) rfl rfl ?_
        by_cases h26 : ((ix d.Next (k1_18 : Int)).length : Int) = d.Letters
        ·replace H := ifp h26 H
         refine GoR.op ((fun w => opB (op_neq rfl rfl w) (ndT h26)) _) rfl rfl ?_
         refine GoR.nil ?_
         refine Go1.condF rfl rfl ?_
         refine Go1.skip ?_
         refine Go1.seq ?_
         refine Go1.region ?_
         refine GoR.op ((op_move rfl) _) rfl rfl ?_
         refine GoR.op ((op_len Try.underlying22 rfl) _) rfl rfl ?_
         refine GoR.op ((op_move rfl) _) rfl rfl ?_
         refine GoR.nil ?_
         refine Go1.block ?_
         refine Go1.loopW (S := Nat) (fun s σ w => agrees σ [(1, .pointer (some ⟨B2, 0, none⟩)), (3, .int .i64 (d.Final.length : Int)), (38, .slice p_d_Next d.Next.length c_d_Next), (39, .int .i64 (d.Next.length : Int)), (40, .int .i64 (k1_18 : Int)), (49, .slice p22 ((ix d.Next (k1_18 : Int)).length) c23), (50, .int .i64 ((ix d.Next (k1_18 : Int)).length : Int)), (51, .int .i64 (s : Int))] ∧ Owns w0.heap.size w [.blk B2 (.cells #[.int .i64 d.Letters, .int .i64 d.Start, .slice p_d_Final d.Final.length c_d_Final, .slice p_d_Next d.Next.length c_d_Next] 42 (0, 0))] A ∧ ISl (Rp.bool) (bl [.blk B2 (.cells #[.int .i64 d.Letters, .int .i64 d.Start, .slice p_d_Final d.Final.length c_d_Final, .slice p_d_Next d.Next.length c_d_Next] 42 (0, 0))] ++ A) w p_d_Final c_d_Final d.Final ∧ ISl (Rp.sl (Rp.int .i64)) (bl [.blk B2 (.cells #[.int .i64 d.Letters, .int .i64 d.Start, .slice p_d_Final d.Final.length c_d_Final, .slice p_d_Next d.Next.length c_d_Next] 42 (0, 0))] ++ A) w p_d_Next c_d_Next d.Next ∧ ISl (Rp.int .i64) (bl [.blk B2 (.cells #[.int .i64 d.Letters, .int .i64 d.Start, .slice p_d_Final d.Final.length c_d_Final, .slice p_d_Next d.Next.length c_d_Next] 42 (0, 0))] ++ A) w p22 c23 (ix d.Next (k1_18 : Int)) ∧ Below w0.heap.size w0 w) H ⟨⟨rfl, rfl, rfl, rfl, rfl, rfl, rfl, rfl, trivial⟩, hO, h_d_Final, h_d_Next, hi24, hB⟩ ?_
         rintro X2 k2_28 H hX2 σ w27 ⟨hag, hO, h_d_Final, h_d_Next, hi24, hB⟩
         refine Go1.keep [(1, .pointer (some ⟨B2, 0, none⟩)), (3, .int .i64 (d.Final.length : Int)), (38, .slice p_d_Next d.Next.length c_d_Next), (39, .int .i64 (d.Next.length : Int)), (40, .int .i64 (k1_18 : Int)), (49, .slice p22 ((ix d.Next (k1_18 : Int)).length) c23), (50, .int .i64 ((ix d.Next (k1_18 : Int)).length : Int)), (51, .int .i64 (k2_28 : Int))] hag ?_
         refine Go1.seq ?_
         refine Go1.region ?_
         by_cases h29 : (k2_28 : Int) < ((ix d.Next (k1_18 : Int)).length : Int)
         ·replace H := ifp h29 H
          refine GoR.op ((fun w => opB (op_lss rfl rfl w) (decide_eq_true h29)) _) rfl rfl ?_
          refine GoR.nil ?_
          refine Go1.seq ?_
          refine Go1.condT rfl rfl ?_
          refine Go1.skip ?_
          refine Go1.seq ?_
          refine Go1.block ?_
          refine Go1.seq ?_
          refine Go1.region ?_
          obtain ⟨h30, H⟩ := H
          obtain ⟨h31, H⟩ := H
          refine GoR.op ((op_index Try.underlying22 ti3 rfl rfl h30 h31 (hi24.some_ h30 h31)) _) rfl rfl ?_
          refine GoR.op ((ldInt hi24 h30 h31 Try.underlying3 rfl rfl) _ (Same.refl _)) rfl rfl ?_
          refine GoR.op ((op_assign rfl) _) rfl rfl ?_
          refine GoR.nil ?_
          refine Go1.seq ?_
          refine Go1.region ?_
          refine GoR.op ((op_move rfl) _) rfl rfl ?_
          by_cases h32 : (ix (ix d.Next (k1_18 : Int)) (k2_28 : Int)) < (0 : Int)
          ·replace H := ifp h32 H
           refine GoR.op ((fun w => opB (op_lss rfl rfl w) (decide_eq_true h32)) _) rfl rfl ?_
           refine GoR.op ((op_move rfl) _) rfl rfl ?_
           refine GoR.pass rfl rfl ?_
           refine GoR.pass rfl rfl ?_
           refine GoR.pass rfl rfl ?_
           refine GoR.op ((op_pickT rfl rfl rfl) _) rfl rfl ?_
           refine GoR.nil ?_
           refine Go1.condT rfl rfl ?_
           refine Go1.seq ?_
           refine Go1.region ?_
           refine GoR.op ((op_assign rfl) _) rfl rfl ?_
           refine GoR.nil ?_
           refine Go1.ret1 Try.func34 rfl ?_
           exact ⟨(4 : Int), rfl, (Below.same' hB), H⟩
          ·replace H := ifn h32 H
           refine GoR.op ((fun w => opB (op_lss rfl rfl w) (decide_eq_false h32)) _) rfl rfl ?_
           refine GoR.op ((op_move rfl) _) rfl rfl ?_
           refine GoR.op ((op_move rfl) _) rfl rfl ?_
           refine GoR.op ((op_move rfl) _) rfl rfl ?_
           by_cases h33 : (d.Final.length : Int) ≤ (ix (ix d.Next (k1_18 : Int)) (k2_28 : Int))
           ·replace H := ifp h33 H
            refine GoR.op ((fun w => opB (op_geq rfl rfl w) (decide_eq_true h33)) _) rfl rfl ?_
            refine GoR.op ((op_pickF rfl rfl rfl) _) rfl rfl ?_
            refine GoR.nil ?_
            refine Go1.condT rfl rfl ?_
            refine Go1.seq ?_
            refine Go1.region ?_
            refine GoR.op ((op_assign rfl) _) rfl rfl ?_
            refine GoR.nil ?_
            refine Go1.ret1 Try.func34 rfl ?_
            exact ⟨(4 : Int), rfl, (Below.same' hB), H⟩
           ·replace H := ifn h33 H
            refine GoR.op ((fun w => opB (op_geq rfl rfl w) (decide_eq_false h33)) _) rfl rfl ?_
            refine GoR.op ((op_pickF rfl rfl rfl) _) rfl rfl ?_
            refine GoR.nil ?_
            refine Go1.condF rfl rfl ?_
            refine Go1.skip ?_
            refine Go1.inBlock ?_
            refine Go1.region ?_
            refine GoR.op ((op_add rfl rfl (wrap_i64 (by have := h29; have := hi24.bd; unfold mx at this; exact ⟨by omega, by omega⟩))) _) rfl rfl ?_
            refine GoR.op ((op_move rfl) _) rfl rfl ?_
            refine GoR.nil ?_
            exact hX2 _ H _ _ ⟨⟨rfl, rfl, rfl, rfl, rfl, rfl, rfl, rfl, trivial⟩, hO, h_d_Final, h_d_Next, hi24, hB⟩
         ·replace H := ifn h29 H
          refine GoR.op ((fun w => opB (op_lss rfl rfl w) (decide_eq_false h29)) _) rfl rfl ?_
          refine GoR.nil ?_
          refine Go1.seq ?_
          refine Go1.condF rfl rfl ?_
          refine Go1.exit rfl ?_
          refine Go1.inBlock ?_
          refine Go1.region ?_
          refine GoR.op ((op_add rfl rfl (wrap_i64 (by have := h19; have := h_d_Next.bd; unfold mx at this; exact ⟨by omega, by omega⟩))) _) rfl rfl ?_
          refine GoR.op ((op_move rfl) _) rfl rfl ?_
          refine GoR.nil ?_
          exact hX1 _ H _ _ ⟨⟨rfl, rfl, rfl, rfl, rfl, trivial⟩, hO, h_d_Final, h_d_Next, hB⟩
        ·replace H := ifn h26 H
         refine GoR.op ((fun w => opB (op_neq rfl rfl w) (ndF h26)) _) rfl rfl ?_
         refine GoR.nil ?_
         refine Go1.condT rfl rfl ?_
         refine Go1.seq ?_
         refine Go1.region ?_
         refine GoR.op ((op_assign rfl) _) rfl rfl ?_
         refine GoR.nil ?_
         refine Go1.ret1 Try.func34 rfl ?_
         exact ⟨(4 : Int), rfl, (Below.same' hB), H⟩
       ·replace H := ifn h19 H
        refine GoR.op ((fun w => opB (op_lss rfl rfl w) (decide_eq_false h19)) _) rfl rfl ?_
        refine GoR.nil ?_
        refine Go1.seq ?_
        refine Go1.condF rfl rfl ?_
        refine Go1.exit rfl ?_
        refine Go1.seq ?_
        refine Go1.region ?_
        refine GoR.op ((op_assign rfl) _) rfl rfl ?_
        refine GoR.nil ?_
        refine Go1.ret1 Try.func34 rfl ?_
        exact ⟨(0 : Int), rfl, (Below.same' hB), H⟩
    ·replace H := ifn h14 H
     refine GoR.op ((fun w => opB (op_neq rfl rfl w) (ndF h14)) _) rfl rfl ?_
     refine GoR.op ((op_pickF rfl rfl rfl) _) rfl rfl ?_
     refine GoR.op ((op_move rfl) _) rfl rfl ?_
     refine GoR.pass rfl rfl ?_
     refine GoR.pass rfl rfl ?_
     refine GoR.pass rfl rfl ?_
     refine GoR.op ((op_pickT rfl rfl rfl) _) rfl rfl ?_
     refine GoR.op ((op_move rfl) _) rfl rfl ?_
     refine GoR.pass rfl rfl ?_
     refine GoR.pass rfl rfl ?_
     refine GoR.pass rfl rfl ?_
     refine GoR.pass rfl rfl ?_
     refine GoR.op ((op_pickT rfl rfl rfl) _) rfl rfl ?_
     refine GoR.nil ?_
     refine Go1.condT rfl rfl ?_
     refine Go1.seq ?_
     refine Go1.region ?_
     refine GoR.op ((op_assign rfl) _) rfl rfl ?_
     refine GoR.nil ?_
     refine Go1.ret1 Try.func34 rfl ?_
     exact ⟨(4 : Int), rfl, (Below.same' hB), H⟩
theorem body36 : Body Try.prog 36 := ⟨Try.f36, Try.func36, rfl, by kernel_rfl⟩
theorem walk_ref11_OfDFA {A : List Nat} {w0 : World} {p_d_Final : Option Addr} {c_d_Final : Nat} {p_d_Next : Option Addr} {c_d_Next : Nat} {d : DFA} (hA : ∀ b ∈ A, b < w0.heap.size) (h_d_Final : ISl (Rp.bool) A w0 p_d_Final c_d_Final d.Final) (h_d_Next : ISl (Rp.sl (Rp.int .i64)) A w0 p_d_Next c_d_Next d.Next) {K : List (List Int) → Prop} (H : ref11_OfDFA d K) :
    CallsV Try.prog 36 #[.agg #[.int .i64 d.Letters, .int .i64 d.Start, .slice p_d_Final d.Final.length c_d_Final, .slice p_d_Next d.Next.length c_d_Next]] w0 (fun v w' => ∃ (r0 : List (List Int)), ∃ (p_r0 : Option Addr), ∃ (c_r0 : Nat), v = .slice p_r0 r0.length c_r0 ∧ Same w0 w' ∧ ISl (Rp.sl (Rp.int .i64)) A w' p_r0 c_r0 r0 ∧ K r0) := by
 refine CallsV.of (l := [.agg #[.int .i64 d.Letters, .int .i64 d.Start, .slice p_d_Final d.Final.length c_d_Final, .slice p_d_Next d.Next.length c_d_Next]]) Try.func36 rfl Try.ntmps36 rfl ?_
 have hO := Owns.start hA
 have hB := Below.refl w0.heap.size w0
 unfold ref11_OfDFA at H
 replace h_d_Final := h_d_Final.ch (Ch.start A w0)
 replace h_d_Next := h_d_Next.ch (Ch.start A w0)
 refine Go1.seq ?_
 refine Go1.region ?_
 obtain ⟨w1, B2, hst3, hs4, hop5⟩ := obox (t := 42) (v := .agg #[.int .i64 d.Letters, .int .i64 d.Start, .slice p_d_Final d.Final.length c_d_Final, .slice p_d_Next d.Next.length c_d_Next]) (cs := #[.int .i64 d.Letters, .int .i64 d.Start, .slice p_d_Final d.Final.length c_d_Final, .slice p_d_Next d.Next.length c_d_Next]) hO rfl
 refine GoR.op (hop5 rfl) rfl rfl ?_
 replace hO := hst3.own
 replace h_d_Final := h_d_Final.ch hst3.ch
 replace h_d_Next := h_d_Next.ch hst3.ch
 replace hB := hB.trans hst3.bel
 refine GoR.op ((op_assign rfl) _) rfl rfl ?_
 refine GoR.nil ?_
 refine Go1.seq ?_
 refine Go1.region ?_
 refine GoR.op ((op_assign rfl) _) rfl rfl ?_
 refine GoR.nil ?_
 refine Go1.seq ?_
 refine Go1.seq ?_
 refine Go1.region ?_
 refine GoR.op ((op_assign rfl) _) rfl rfl ?_
 refine GoR.nil ?_
 refine Go1.block ?_
 have hst8 := Stp.nil (e := 22) (r := 1) hO
 replace hO := hst8.own
 replace h_d_Final := h_d_Final.ch hst8.ch
 replace h_d_Next := h_d_Next.ch hst8.ch
 replace hB := hB.trans hst8.bel
 have hE9 := Els.nil (Rp.sl (Rp.int .i64)) (bl (.row 22 1 none 0 0 [] :: [.blk B2 (.cells #[.int .i64 d.Letters, .int .i64 d.Start, .slice p_d_Final d.Final.length c_d_Final, .slice p_d_Next d.Next.length c_d_Next] 42 (0, 0))]) ++ A) w1
 refine Go1.loopW (S := Nat × List (List Int)) (fun s σ w => ∃ (n17 : Nat), ∃ (p13 : Option Addr), ∃ (c14 : Nat), ∃ (vs15 : List Value), agrees σ [(1, .pointer (some ⟨B2, 0, none⟩)), (3, .slice p13 n17 c14), (4, .int .i64 ((s.1) : Int))] ∧ Owns w0.heap.size w [.row 22 1 p13 n17 c14 vs15, .blk B2 (.cells #[.int .i64 d.Letters, .int .i64 d.Start, .slice p_d_Final d.Final.length c_d_Final, .slice p_d_Next d.Next.length c_d_Next] 42 (0, 0))] A ∧ Els (Rp.sl (Rp.int .i64)) (bl [.row 22 1 p13 n17 c14 vs15, .blk B2 (.cells #[.int .i64 d.Letters, .int .i64 d.Start, .slice p_d_Final d.Final.length c_d_Final, .slice p_d_Next d.Next.length c_d_Next] 42 (0, 0))] ++ A) w vs15 (s.2) ∧ ISl (Rp.bool) (bl [.row 22 1 p13 n17 c14 vs15, .blk B2 (.cells #[.int .i64 d.Letters, .int .i64 d.Start, .slice p_d_Final d.Final.length c_d_Final, .slice p_d_Next d.Next.length c_d_Next] 42 (0, 0))] ++ A) w p_d_Final c_d_Final d.Final ∧ ISl (Rp.sl (Rp.int .i64)) (bl [.row 22 1 p13 n17 c14 vs15, .blk B2 (.cells #[.int .i64 d.Letters, .int .i64 d.Start, .slice p_d_Final d.Final.length c_d_Final, .slice p_d_Next d.Next.length c_d_Next] 42 (0, 0))] ++ A) w p_d_Next c_d_Next d.Next ∧ Below w0.heap.size w0 w) H ⟨0, none, 0, [], ⟨rfl, rfl, rfl, trivial⟩, hO, hE9, h_d_Final, h_d_Next, hB⟩ ?_
 rintro X1 ⟨x1_11, out1_12⟩ H hX1 σ w10 ⟨n17, p13, c14, vs15, hag, hO, hE16, h_d_Final, h_d_Next, hB⟩
 dsimp only at H
 refine Go1.keep [(1, .pointer (some ⟨B2, 0, none⟩)), (3, .slice p13 n17 c14), (4, .int .i64 (x1_11 : Int))] hag ?_
 refine Go1.seq ?_
 refine Go1.seq ?_
 refine Go1.region ?_
 refine GoR.op ((op_move rfl) _) rfl rfl ?_
 refine GoR.op ((op_fieldAddr Try.underlying42 rfl ti3 rfl (by decide)) _) rfl rfl ?_
 refine GoR.op ((oblk 1 hO rfl rfl Try.underlying3 rfl rfl) _ (Same.refl _)) rfl rfl ?_
 by_cases h18 : (x1_11 : Int) < d.Letters
 ·replace H := ifp h18 H
  refine GoR.op ((fun w => opB (op_lss rfl rfl w) (decide_eq_true h18)) _) rfl rfl ?_
  refine GoR.nil ?_
  refine Go1.condT rfl rfl ?_
  refine Go1.skip ?_
  refine Go1.seq ?_
  refine Go1.block ?_
  refine Go1.seq ?_
  refine Go1.region ?_
  refine GoR.op ((op_assign rfl) _) rfl rfl ?_
  refine GoR.nil ?_
  refine Go1.seq ?_
  refine Go1.seq ?_
  refine Go1.region ?_
  refine GoR.op ((op_fieldAddr Try.underlying42 rfl ti35 rfl (by decide)) _) rfl rfl ?_
  refine GoR.op ((oblk 1 hO rfl rfl Try.underlying35 rfl rfl) _ (Same.refl _)) rfl rfl ?_
  refine GoR.op ((op_len Try.underlying35 rfl) _) rfl rfl ?_
  replace H := H h_d_Next.bd
  refine GoR.op ((op_move rfl) _) rfl rfl ?_
  refine GoR.nil ?_
  refine Go1.block ?_
  have hst20 := Stp.nil (e := 3) (r := 1) hO
  replace hE16 := hE16.ch hst20.ch
  replace hO := hst20.own
  replace h_d_Final := h_d_Final.ch hst20.ch
  replace h_d_Next := h_d_Next.ch hst20.ch
  replace hB := hB.trans hst20.bel
  have hE21 := Els.nil (Rp.int .i64) (bl (.row 3 1 none 0 0 [] :: [.row 22 1 p13 n17 c14 vs15, .blk B2 (.cells #[.int .i64 d.Letters, .int .i64 d.Start, .slice p_d_Final d.Final.length c_d_Final, .slice p_d_Next d.Next.length c_d_Next] 42 (0, 0))]) ++ A) w10
  refine Go1.loopW (S := Nat × List Int) (fun s σ w => ∃ (n29 : Nat), ∃ (p25 : Option Addr), ∃ (c26 : Nat), ∃ (vs27 : List Value), agrees σ [(1, .pointer (some ⟨B2, 0, none⟩)), (3, .slice p13 n17 c14), (4, .int .i64 (x1_11 : Int)), (5, .slice p25 n29 c26), (15, .int .i64 (d.Next.length : Int)), (16, .int .i64 ((s.1) : Int))] ∧ Owns w0.heap.size w [.row 3 1 p25 n29 c26 vs27, .row 22 1 p13 n17 c14 vs15, .blk B2 (.cells #[.int .i64 d.Letters, .int .i64 d.Start, .slice p_d_Final d.Final.length c_d_Final, .slice p_d_Next d.Next.length c_d_Next] 42 (0, 0))] A ∧ Els (Rp.int .i64) (bl [.row 3 1 p25 n29 c26 vs27, .row 22 1 p13 n17 c14 vs15, .blk B2 (.cells #[.int .i64 d.Letters, .int .i64 d.Start, .slice p_d_Final d.Final.length c_d_Final, .slice p_d_Next d.Next.length c_d_Next] 42 (0, 0))] ++ A) w vs27 (s.2) ∧ Els (Rp.sl (Rp.int .i64)) (bl [.row 3 1 p25 n29 c26 vs27, .row 22 1 p13 n17 c14 vs15, .blk B2 (.cells #[.int .i64 d.Letters, .int .i64 d.Start, .slice p_d_Final d.Final.length c_d_Final, .slice p_d_Next d.Next.length c_d_Next] 42 (0, 0))] ++ A) w vs15 out1_12 ∧ ISl (Rp.bool) (bl [.row 3 1 p25 n29 c26 vs27, .row 22 1 p13 n17 c14 vs15, .blk B2 (.cells #[.int .i64 d.Letters, .int .i64 d.Start, .slice p_d_Final d.Final.length c_d_Final, .slice p_d_Next d.Next.length c_d_Next] 42 (0, 0))] ++ A) w p_d_Final c_d_Final d.Final ∧ ISl (Rp.sl (Rp.int .i64)) (bl [.row 3 1 p25 n29 c26 vs27, .row 22 1 p13 n17 c14 vs15, .blk B2 (.cells #[.int .i64 d.Letters, .int .i64 d.Start, .slice p_d_Final d.Final.length c_d_Final, .slice p_d_Next d.Next.length c_d_Next] 42 (0, 0))] ++ A) w p_d_Next c_d_Next d.Next ∧ Below w0.heap.size w0 w) H ⟨0, none, 0, [], ⟨rfl, rfl, rfl, rfl, rfl, rfl, trivial⟩, hO, hE21, hE16, h_d_Final, h_d_Next, hB⟩ ?_
  rintro X2 ⟨k2_23, f2_24⟩ H hX2 σ w22 ⟨n29, p25, c26, vs27, hag, hO, hE28, hE16, h_d_Final, h_d_Next, hB⟩
  dsimp only at H
  refine Go1.keep [(1, .pointer (some ⟨B2, 0, none⟩)), (3, .slice p13 n17 c14), (4, .int .i64 (x1_11 : Int)), (5, .slice p25 n29 c26), (15, .int .i64 (d.Next.length : Int)), (16, .int .i64 (k2_23 : Int))] hag ?_
  refine Go1.seq ?_
  refine Go1.region ?_
  by_cases h30 : (k2_23 : Int) < (d.Next.length : Int)
  ·replace H := ifp h30 H
   refine GoR.op ((fun w => opB (op_lss rfl rfl w) (decide_eq_true h30)) _) rfl rfl ?_
   refine GoR.nil ?_
   refine Go1.seq ?_
   refine Go1.condT rfl rfl ?_
   refine Go1.skip ?_
   refine Go1.seq ?_
   refine Go1.block ?_
   refine Go1.seq ?_
   refine Go1.region ?_
   refine GoR.op ((op_move rfl) _) rfl rfl ?_
   refine GoR.op ((op_assign rfl) _) rfl rfl ?_
   refine GoR.nil ?_
   refine Go1.region ?_
   refine GoR.op ((op_move rfl) _) rfl rfl ?_
   refine GoR.op ((op_fieldAddr Try.underlying42 rfl ti35 rfl (by decide)) _) rfl rfl ?_
   refine GoR.op ((oblk 2 hO rfl rfl Try.underlying35 rfl rfl) _ (Same.refl _)) rfl rfl ?_
   refine GoR.op ((op_move rfl) _) rfl rfl ?_
   obtain ⟨h31, H⟩ := H
   obtain ⟨h32, H⟩ := H
   refine GoR.op ((op_index Try.underlying35 ti22 rfl rfl h31 h32 (h_d_Next.some_ h31 h32)) _) rfl rfl ?_
   obtain ⟨p33, c34, hi35, hl36⟩ := ldSl h_d_Next h31 h32
   refine GoR.op ((hl36 Try.underlying22 rfl rfl) _ (Same.refl _)) rfl rfl ?_
   refine GoR.op ((op_move rfl) _) rfl rfl ?_
   obtain ⟨h37, H⟩ := H
   obtain ⟨h38, H⟩ := H
   refine GoR.op ((op_index Try.underlying22 ti3 rfl rfl h37 h38 (hi35.some_ h37 h38)) _) rfl rfl ?_
   refine GoR.op ((ldInt hi35 h37 h38 Try.underlying3 rfl rfl) _ (Same.refl _)) rfl rfl ?_
   obtain ⟨w39, p40, hst41, hE42, hs43, hop44⟩ := obuild (r := Rp.int .i64) (n := 1) (parts := [(0, .int .i64 (ix (ix d.Next (k2_23 : Int)) (x1_11 : Int)))]) (vs := [.int .i64 (ix (ix d.Next (k2_23 : Int)) (x1_11 : Int))]) (xs := [(ix (ix d.Next (k2_23 : Int)) (x1_11 : Int))]) rfl Try.underlying22 ti3 hO (by decide) (by kernel_rfl) (Els.cons rfl rfl (Els.nil _ _ _) (by decide)) rfl
   refine GoR.op (hop44 rfl) rfl rfl ?_
   replace hE28 := hE28.ch hst41.ch
   replace hE16 := hE16.ch hst41.ch
   replace hO := hst41.own
   replace h_d_Final := h_d_Final.ch hst41.ch
   replace h_d_Next := h_d_Next.ch hst41.ch
   replace hi35 := hi35.ch hst41.ch
   replace hB := hB.trans hst41.bel
   obtain ⟨hO1, hc48, hi46, hn47⟩ := freeze 0 hO rfl hE42
   replace h_d_Final := h_d_Final.ch hc48
   replace h_d_Next := h_d_Next.ch hc48
   replace hi35 := hi35.ch hc48
   replace hE28 := hE28.ch hc48
   replace hE16 := hE16.ch hc48
   replace hO := hO1; clear hO1
   obtain ⟨h49, H⟩ := H
   obtain ⟨w50, p51, c52, vs53, hst54, hE55, hop56⟩ := oapp Try.underlying22 ti3 rfl 0 hO rfl hE28 hi46 hn47 h49 (by decide)
   refine GoR.op (hop56 rfl rfl) rfl rfl ?_
   replace hE16 := hE16.ch hst54.ch
   replace hO := hst54.own
   replace h_d_Final := h_d_Final.ch hst54.ch
   replace h_d_Next := h_d_Next.ch hst54.ch
   replace hi35 := hi35.ch hst54.ch
   replace hi46 := hi46.ch hst54.ch
   replace hB := hB.trans hst54.bel
   refine GoR.op ((op_assign rfl) _) rfl rfl ?_
   refine GoR.nil ?_
   refine Go1.inBlock ?_
   refine Go1.region ?_
   refine GoR.op ((op_add rfl rfl (wrap_i64 (by have := h30; have := h_d_Next.bd; unfold mx at this; exact ⟨by omega, by omega⟩))) _) rfl rfl ?_
   refine GoR.op ((op_move rfl) _) rfl rfl ?_
   refine GoR.nil ?_
   exact hX2 _ H _ _ ⟨n29 + 1, p51, c52, vs53, ⟨rfl, rfl, rfl, rfl, rfl, rfl, trivial⟩, hO, hE55, hE16, h_d_Final, h_d_Next, hB⟩
  ·replace H := ifn h30 H
   refine GoR.op ((fun w => opB (op_lss rfl rfl w) (decide_eq_false h30)) _) rfl rfl ?_
   refine GoR.nil ?_
   refine Go1.seq ?_
   refine Go1.condF rfl rfl ?_
   refine Go1.exit rfl ?_
   refine Go1.region ?_
   refine GoR.op ((op_move rfl) _) rfl rfl ?_
   refine GoR.op ((op_move rfl) _) rfl rfl ?_
   obtain ⟨hO1, hc59, hi57, hn58⟩ := freeze 0 hO rfl hE28
   replace h_d_Final := h_d_Final.ch hc59
   replace h_d_Next := h_d_Next.ch hc59
   replace hE16 := hE16.ch hc59
   replace hO := hO1; clear hO1
   obtain ⟨w60, p61, hst62, hE63, hs64, hop65⟩ := obuild (r := Rp.sl (Rp.int .i64)) (n := 1) (parts := [(0, .slice p25 n29 c26)]) (vs := [.slice p25 n29 c26]) (xs := [f2_24]) rfl Try.underlying35 ti22 hO (by decide) (by kernel_rfl) (Els.cons rfl ⟨p25, c26, congrArg some (congrArg (fun nn => Value.slice p25 nn c26) hn58), hi57⟩ (Els.nil _ _ _) (by decide)) rfl
   refine GoR.op (hop65 rfl) rfl rfl ?_
   replace hE16 := hE16.ch hst62.ch
   replace hO := hst62.own
   replace h_d_Final := h_d_Final.ch hst62.ch
   replace h_d_Next := h_d_Next.ch hst62.ch
   replace hi57 := hi57.ch hst62.ch
   replace hB := hB.trans hst62.bel
   obtain ⟨hO1, hc69, hi67, hn68⟩ := freeze 0 hO rfl hE63
   replace h_d_Final := h_d_Final.ch hc69
   replace h_d_Next := h_d_Next.ch hc69
   replace hi57 := hi57.ch hc69
   replace hE16 := hE16.ch hc69
   replace hO := hO1; clear hO1
   obtain ⟨h70, H⟩ := H
   obtain ⟨w71, p72, c73, vs74, hst75, hE76, hop77⟩ := oapp Try.underlying35 ti22 rfl 0 hO rfl hE16 hi67 hn68 h70 (by decide)
   refine GoR.op (hop77 rfl rfl) rfl rfl ?_
   replace hO := hst75.own
   replace h_d_Final := h_d_Final.ch hst75.ch
   replace h_d_Next := h_d_Next.ch hst75.ch
   replace hi57 := hi57.ch hst75.ch
   replace hi67 := hi67.ch hst75.ch
   replace hB := hB.trans hst75.bel
   refine GoR.op ((op_assign rfl) _) rfl rfl ?_
   refine GoR.nil ?_
   refine Go1.inBlock ?_
   refine Go1.region ?_
   refine GoR.op ((op_move rfl) _) rfl rfl ?_
   obtain ⟨h78, H⟩ := H
   refine GoR.op ((op_add rfl rfl (wrap_i64 h78)) _) rfl rfl ?_
   refine GoR.op ((op_assign rfl) _) rfl rfl ?_
   refine GoR.nil ?_
   exact hX1 _ H _ _ ⟨n17 + 1, p72, c73, vs74, ⟨rfl, rfl, rfl, trivial⟩, hO, hE76, h_d_Final, h_d_Next, hB⟩
 ·replace H := ifn h18 H
  refine GoR.op ((fun w => opB (op_lss rfl rfl w) (decide_eq_false h18)) _) rfl rfl ?_
  refine GoR.nil ?_
  refine Go1.condF rfl rfl ?_
  refine Go1.exit rfl ?_
  refine Go1.seq ?_
  refine Go1.region ?_
  refine GoR.op ((op_move rfl) _) rfl rfl ?_
  refine GoR.op ((op_assign rfl) _) rfl rfl ?_
  refine GoR.nil ?_
  obtain ⟨hO1, hc81, hi79, hn80⟩ := freeze 0 hO rfl hE16
  replace h_d_Final := h_d_Final.ch hc81
  replace h_d_Next := h_d_Next.ch hc81
  replace hO := hO1; clear hO1
  refine Go1.ret1 Try.func36 rfl ?_
  exact ⟨out1_12, p13, c14, ((congrArg (fun nn => Value.slice p13 nn c14) hn80)), (Below.same' hB), (hi79.ch (Ch.weak _ _ _)), H⟩
theorem body35 : Body Try.prog 35 := ⟨Try.f35, Try.func35, rfl, by kernel_rfl⟩
theorem walk_ref03_SameRows {A : List Nat} {w0 : World} {p_a : Option Addr} {c_a : Nat} {p_b : Option Addr} {c_b : Nat} {a : List (List Int)} {b : List (List Int)} (hA : ∀ b ∈ A, b < w0.heap.size) (h_a : ISl (Rp.sl (Rp.int .i64)) A w0 p_a c_a a) (h_b : ISl (Rp.sl (Rp.int .i64)) A w0 p_b c_b b) {K : Bool → Prop} (H : ref03_SameRows a b K) :
    CallsV Try.prog 35 #[.slice p_a a.length c_a, .slice p_b b.length c_b] w0 (fun v w' => ∃ (r0 : Bool), v = .bool r0 ∧ Same w0 w' ∧ K r0) := by
 refine CallsV.of (l := [.slice p_a a.length c_a, .slice p_b b.length c_b]) Try.func35 rfl Try.ntmps35 rfl ?_
 have hO := Owns.start hA
 have hB := Below.refl w0.heap.size w0
 unfold ref03_SameRows at H
 replace h_a := h_a.ch (Ch.start A w0)
 replace h_b := h_b.ch (Ch.start A w0)
 refine Go1.seq ?_
 refine Go1.region ?_
 refine GoR.op ((op_assign rfl) _) rfl rfl ?_
 refine GoR.nil ?_
 refine Go1.seq ?_
 refine Go1.seq ?_
 refine Go1.region ?_
 refine GoR.op ((op_move rfl) _) rfl rfl ?_
 refine GoR.op ((op_len Try.underlying35 rfl) _) rfl rfl ?_
 replace H := H h_a.bd
 refine GoR.op ((op_move rfl) _) rfl rfl ?_
 refine GoR.op ((op_len Try.underlying35 rfl) _) rfl rfl ?_
 replace H := H h_b.bd
 by_cases h1 : (a.length : Int) = (b.length : Int)
 ·replace H := ifp h1 H
  refine GoR.op ((fun w => opB (op_neq rfl rfl w) (ndT h1)) _) rfl rfl ?_
  refine GoR.nil ?_
  refine Go1.condF rfl rfl ?_
  refine Go1.skip ?_
  refine Go1.seq ?_
  refine Go1.seq ?_
  refine Go1.region ?_
  refine GoR.op ((op_move rfl) _) rfl rfl ?_
  refine GoR.op ((op_len Try.underlying35 rfl) _) rfl rfl ?_
  refine GoR.op ((op_move rfl) _) rfl rfl ?_
  refine GoR.nil ?_
  refine Go1.block ?_
  refine Go1.loopW (S := Nat) (fun s σ w => agrees σ [(0, .slice p_a a.length c_a), (1, .slice p_b b.length c_b), (12, .int .i64 (a.length : Int)), (13, .int .i64 (s : Int))] ∧ Owns w0.heap.size w [] A ∧ ISl (Rp.sl (Rp.int .i64)) (bl [] ++ A) w p_a c_a a ∧ ISl (Rp.sl (Rp.int .i64)) (bl [] ++ A) w p_b c_b b ∧ Below w0.heap.size w0 w) H ⟨⟨rfl, rfl, rfl, rfl, trivial⟩, hO, h_a, h_b, hB⟩ ?_
  rintro X1 k1_3 H hX1 σ w2 ⟨hag, hO, h_a, h_b, hB⟩
  refine Go1.keep [(0, .slice p_a a.length c_a), (1, .slice p_b b.length c_b), (12, .int .i64 (a.length : Int)), (13, .int .i64 (k1_3 : Int))] hag ?_
  refine Go1.seq ?_
  refine Go1.region ?_
  by_cases h4 : (k1_3 : Int) < (a.length : Int)
  ·replace H := ifp h4 H
   refine GoR.op ((fun w => opB (op_lss rfl rfl w) (decide_eq_true h4)) _) rfl rfl ?_
   refine GoR.nil ?_
   refine Go1.seq ?_
   refine Go1.condT rfl rfl ?_
   refine Go1.skip ?_
   refine Go1.seq ?_
   refine Go1.block ?_
   refine Go1.seq ?_
   refine Go1.region ?_
   refine GoR.op ((op_move rfl) _) rfl rfl ?_
   refine GoR.op ((op_assign rfl) _) rfl rfl ?_
   refine GoR.nil ?_
   refine Go1.seq ?_
   refine Go1.drawS 0 [(0, .pure), (1, .pure), (2, .pure), (3, .stable), (4, .pure), (5, .pure), (6, .pure), (7, .stable), (8, .loud), (9, .pure)] mixed (by kernel_rfl) ?_
   intro w5 hs6
   have hst7 := Stp.same hO hs6
   replace hO := hst7.own
   replace h_a := h_a.ch hst7.ch
   replace h_b := h_b.ch hst7.ch
   replace hB := hB.trans hst7.bel
   refine GoQ.pure rfl (op_move rfl) rfl rfl ?_
   refine GoQ.pure rfl (op_move rfl) rfl rfl ?_
   obtain ⟨h8, H⟩ := H
   obtain ⟨h9, H⟩ := H
   refine GoQ.pure rfl (op_index Try.underlying35 ti22 rfl rfl h8 h9 (h_a.some_ h8 h9)) rfl rfl ?_
   obtain ⟨p10, c11, hi12, hl13⟩ := ldSl h_a h8 h9
   refine GoQ.stable rfl (hl13 Try.underlying22 rfl rfl) rfl rfl ?_
   refine GoQ.pure rfl (op_move rfl) rfl rfl ?_
   refine GoQ.pure rfl (op_move rfl) rfl rfl ?_
   obtain ⟨h14, H⟩ := H
   obtain ⟨h15, H⟩ := H
   refine GoQ.pure rfl (op_index Try.underlying35 ti22 rfl rfl h14 h15 (h_b.some_ h14 h15)) rfl rfl ?_
   obtain ⟨p16, c17, hi18, hl19⟩ := ldSl h_b h14 h15
   refine GoQ.stable rfl (hl19 Try.underlying22 rfl rfl) rfl rfl ?_
   refine GoQ.call rfl (op_call body18 rfl (walk_ref03_Same hO.lt hi12 hi18 H)) (fun v w hr => by obtain ⟨_, _, hs, _⟩ := hr; assumption) rfl rfl ?_
   rintro v23 w21 ⟨r20, rfl, hs22, H⟩
   have hst24 := Stp.same hO hs22
   replace hO := hst24.own
   replace h_a := h_a.ch hst24.ch
   replace h_b := h_b.ch hst24.ch
   replace hi12 := hi12.ch hst24.ch
   replace hi18 := hi18.ch hst24.ch
   replace hB := hB.trans hst24.bel
   cases r20
   ·replace H := ifn Bool.false_ne_true H
    refine GoQ.pure rfl (op_not rfl) rfl rfl ?_
    refine GoQ.nil ?_
    refine Go1.condT rfl rfl ?_
    refine Go1.seq ?_
    refine Go1.region ?_
    refine GoR.op ((op_assign rfl) _) rfl rfl ?_
    refine GoR.nil ?_
    refine Go1.ret1 Try.func35 rfl ?_
    exact ⟨false, rfl, (Below.same' hB), H⟩
   ·replace H := ifp rfl H
    refine GoQ.pure rfl (op_not rfl) rfl rfl ?_
    refine GoQ.nil ?_
    refine Go1.condF rfl rfl ?_
    refine Go1.skip ?_
    refine Go1.inBlock ?_
    refine Go1.region ?_
    refine GoR.op ((op_add rfl rfl (wrap_i64 (by have := h4; have := h_a.bd; unfold mx at this; exact ⟨by omega, by omega⟩))) _) rfl rfl ?_
    refine GoR.op ((op_move rfl) _) rfl rfl ?_
    refine GoR.nil ?_
    exact hX1 _ H _ _ ⟨⟨rfl, rfl, rfl, rfl, trivial⟩, hO, h_a, h_b, hB⟩
  ·replace H := ifn h4 H
   refine GoR.op ((fun w => opB (op_lss rfl rfl w) (decide_eq_false h4)) _) rfl rfl ?_
   refine GoR.nil ?_
   refine Go1.seq ?_
   refine Go1.condF rfl rfl ?_
   refine Go1.exit rfl ?_
   refine Go1.seq ?_
   refine Go1.region ?_
   refine GoR.op ((op_assign rfl) _) rfl rfl ?_
   refine GoR.nil ?_
   refine Go1.ret1 Try.func35 rfl ?_
   exact ⟨true, rfl, (Below.same' hB), H⟩
 ·replace H := ifn h1 H
  refine GoR.op ((fun w => opB (op_neq rfl rfl w) (ndF h1)) _) rfl rfl ?_
  refine GoR.nil ?_
  refine Go1.condT rfl rfl ?_
  refine Go1.seq ?_
  refine Go1.region ?_
  refine GoR.op ((op_assign rfl) _) rfl rfl ?_
  refine GoR.nil ?_
  refine Go1.ret1 Try.func35 rfl ?_
  exact ⟨false, rfl, (Below.same' hB), H⟩
end Sg
