/- The walks: each call keeps to its plain transformer. Printed by walkgen.py. -/
import Derived.Test.YtjegmdkaiddokaaWTransWords
namespace Sg
open Go Go.RowKit Go.Proofs
set_option linter.unusedVariables false
set_option maxRecDepth 100000
set_option maxHeartbeats 4000000
theorem body56 : Body Try.prog 56 := ⟨Try.f56, Try.func56, rfl, by kernel_rfl⟩
theorem walk_dfa_Validate {A : List Nat} {w0 : World} {p_d_Final : Option Addr} {c_d_Final : Nat} {p_d_Next : Option Addr} {c_d_Next : Nat} {d : DFA} (hA : ∀ b ∈ A, b < w0.heap.size) (h_d_Final : ISl (Rp.bool) A w0 p_d_Final c_d_Final d.Final) (h_d_Next : ISl (Rp.sl (Rp.int .i64)) A w0 p_d_Next c_d_Next d.Next) {K : Int → Prop} (H : dfa_Validate d K) :
    CallsV Try.prog 56 #[.agg #[.int .i64 d.Letters, .int .i64 d.Start, .slice p_d_Final d.Final.length c_d_Final, .slice p_d_Next d.Next.length c_d_Next]] w0 (fun v w' => ∃ (r0 : Int), v = .int .i64 r0 ∧ Same w0 w' ∧ K r0) := by
 refine CallsV.of (l := [.agg #[.int .i64 d.Letters, .int .i64 d.Start, .slice p_d_Final d.Final.length c_d_Final, .slice p_d_Next d.Next.length c_d_Next]]) Try.func56 rfl Try.ntmps56 rfl ?_
 have hO := Owns.start hA
 have hB := Fr.refl (bl []) w0
 unfold dfa_Validate at H
 replace h_d_Final := h_d_Final.ch (Ch.start A w0)
 replace h_d_Next := h_d_Next.ch (Ch.start A w0)
 refine Go1.seq ?_
 refine Go1.region ?_
 have hobt := obox (t := 42) (v := .agg #[.int .i64 d.Letters, .int .i64 d.Start, .slice p_d_Final d.Final.length c_d_Final, .slice p_d_Next d.Next.length c_d_Next]) (cs := #[.int .i64 d.Letters, .int .i64 d.Start, .slice p_d_Final d.Final.length c_d_Final, .slice p_d_Next d.Next.length c_d_Next]) hO rfl
 obtain ⟨w1, B2, hst3, hs4, hop5⟩ := hobt
 refine GoR.op (hop5 rfl) rfl rfl ?_
 replace hO := hst3.own
 replace h_d_Final := h_d_Final.ch hst3.ch
 replace h_d_Next := h_d_Next.ch hst3.ch
 replace hB := hB.trans hst3.fr
 refine GoR.op ((op_assign rfl) _) rfl rfl ?_
 refine GoR.nil ?_
 refine Go1.seq ?_
 refine Go1.seq ?_
 refine Go1.region ?_
 refine GoR.op ((op_fieldAddr Try.underlying42 rfl ti3 rfl (by decide)) _) rfl rfl ?_
 refine GoR.op ((oblk 0 hO rfl rfl Try.underlying3 rfl rfl) _ (Same.refl _)) rfl rfl ?_
 by_cases h7 : d.Letters < (1 : Int)
 ·replace H := ifp h7 H
  refine GoR.op ((fun w => opB (op_lss rfl rfl w) (decide_eq_true h7)) _) rfl rfl ?_
  refine GoR.op ((op_move rfl) _) rfl rfl ?_
  refine GoR.pass rfl rfl ?_
  refine GoR.pass rfl rfl ?_
  refine GoR.pass rfl rfl ?_
  refine GoR.op ((op_pickT rfl rfl rfl) _) rfl rfl ?_
  refine GoR.nil ?_
  refine Go1.condT rfl rfl ?_
  refine Go1.seq ?_
  refine Go1.region ?_
  refine GoR.op ((op_assign rfl) _) rfl rfl ?_
  refine GoR.nil ?_
  refine Go1.ret1 Try.func56 rfl ?_
  exact ⟨(1 : Int), rfl, hB.same, H⟩
 ·replace H := ifn h7 H
  refine GoR.op ((fun w => opB (op_lss rfl rfl w) (decide_eq_false h7)) _) rfl rfl ?_
  refine GoR.op ((op_move rfl) _) rfl rfl ?_
  refine GoR.op ((op_fieldAddr Try.underlying42 rfl ti3 rfl (by decide)) _) rfl rfl ?_
  refine GoR.op ((oblk 0 hO rfl rfl Try.underlying3 rfl rfl) _ (Same.refl _)) rfl rfl ?_
  by_cases h8 : (6 : Int) < d.Letters
  ·replace H := ifp h8 H
   refine GoR.op ((fun w => opB (op_gtr rfl rfl w) (decide_eq_true h8)) _) rfl rfl ?_
   refine GoR.op ((op_pickF rfl rfl rfl) _) rfl rfl ?_
   refine GoR.nil ?_
   refine Go1.condT rfl rfl ?_
   refine Go1.seq ?_
   refine Go1.region ?_
   refine GoR.op ((op_assign rfl) _) rfl rfl ?_
   refine GoR.nil ?_
   refine Go1.ret1 Try.func56 rfl ?_
   exact ⟨(1 : Int), rfl, hB.same, H⟩
  ·replace H := ifn h8 H
   refine GoR.op ((fun w => opB (op_gtr rfl rfl w) (decide_eq_false h8)) _) rfl rfl ?_
   refine GoR.op ((op_pickF rfl rfl rfl) _) rfl rfl ?_
   refine GoR.nil ?_
   refine Go1.condF rfl rfl ?_
   refine Go1.skip ?_
   refine Go1.seq ?_
   refine Go1.region ?_
   refine GoR.op ((op_fieldAddr Try.underlying42 rfl ti40 rfl (by decide)) _) rfl rfl ?_
   refine GoR.op ((oblk 0 hO rfl rfl Try.underlying40 rfl rfl) _ (Same.refl _)) rfl rfl ?_
   refine GoR.op ((op_len Try.underlying40 rfl) _) rfl rfl ?_
   replace H := H h_d_Final.bd
   refine GoR.op ((op_assign rfl) _) rfl rfl ?_
   refine GoR.nil ?_
   refine Go1.seq ?_
   refine Go1.seq ?_
   refine Go1.region ?_
   refine GoR.op ((op_move rfl) _) rfl rfl ?_
   by_cases h9 : (512 : Int) < (d.Final.length : Int)
   ·replace H := ifp h9 H
    refine GoR.op ((fun w => opB (op_gtr rfl rfl w) (decide_eq_true h9)) _) rfl rfl ?_
    refine GoR.nil ?_
    refine Go1.condT rfl rfl ?_
    refine Go1.seq ?_
    refine Go1.region ?_
    refine GoR.op ((op_assign rfl) _) rfl rfl ?_
    refine GoR.nil ?_
    refine Go1.ret1 Try.func56 rfl ?_
    exact ⟨(3 : Int), rfl, hB.same, H⟩
   ·replace H := ifn h9 H
    refine GoR.op ((fun w => opB (op_gtr rfl rfl w) (decide_eq_false h9)) _) rfl rfl ?_
    refine GoR.nil ?_
    refine Go1.condF rfl rfl ?_
    refine Go1.skip ?_
    refine Go1.seq ?_
    refine Go1.seq ?_
    refine Go1.region ?_
    refine GoR.op ((op_fieldAddr Try.underlying42 rfl ti35 rfl (by decide)) _) rfl rfl ?_
    refine GoR.op ((oblk 0 hO rfl rfl Try.underlying35 rfl rfl) _ (Same.refl _)) rfl rfl ?_
    refine GoR.op ((op_len Try.underlying35 rfl) _) rfl rfl ?_
    replace H := H h_d_Next.bd
    refine GoR.op ((op_move rfl) _) rfl rfl ?_
    by_cases h10 : (d.Next.length : Int) = (d.Final.length : Int)
    ·replace H := ifp h10 H
     refine GoR.op ((fun w => opB (op_neq rfl rfl w) (ndT h10)) _) rfl rfl ?_
     refine GoR.op ((op_move rfl) _) rfl rfl ?_
     refine GoR.op ((op_fieldAddr Try.underlying42 rfl ti3 rfl (by decide)) _) rfl rfl ?_
     refine GoR.op ((oblk 0 hO rfl rfl Try.underlying3 rfl rfl) _ (Same.refl _)) rfl rfl ?_
     by_cases h11 : d.Start < (0 : Int)
     ·replace H := ifp h11 H
      refine GoR.op ((fun w => opB (op_lss rfl rfl w) (decide_eq_true h11)) _) rfl rfl ?_
      refine GoR.op ((op_pickF rfl rfl rfl) _) rfl rfl ?_
      refine GoR.op ((op_move rfl) _) rfl rfl ?_
      refine GoR.pass rfl rfl ?_
      refine GoR.pass rfl rfl ?_
      refine GoR.pass rfl rfl ?_
      refine GoR.pass rfl rfl ?_
      refine GoR.op ((op_pickT rfl rfl rfl) _) rfl rfl ?_
      refine GoR.nil ?_
      refine Go1.condT rfl rfl ?_
      refine Go1.seq ?_
      refine Go1.region ?_
      refine GoR.op ((op_assign rfl) _) rfl rfl ?_
      refine GoR.nil ?_
      refine Go1.ret1 Try.func56 rfl ?_
      exact ⟨(4 : Int), rfl, hB.same, H⟩
     ·replace H := ifn h11 H
      refine GoR.op ((fun w => opB (op_lss rfl rfl w) (decide_eq_false h11)) _) rfl rfl ?_
      refine GoR.op ((op_pickF rfl rfl rfl) _) rfl rfl ?_
      refine GoR.op ((op_move rfl) _) rfl rfl ?_
      refine GoR.op ((op_fieldAddr Try.underlying42 rfl ti3 rfl (by decide)) _) rfl rfl ?_
      refine GoR.op ((oblk 0 hO rfl rfl Try.underlying3 rfl rfl) _ (Same.refl _)) rfl rfl ?_
      refine GoR.op ((op_move rfl) _) rfl rfl ?_
      by_cases h12 : (d.Final.length : Int) ≤ d.Start
      ·replace H := ifp h12 H
       refine GoR.op ((fun w => opB (op_geq rfl rfl w) (decide_eq_true h12)) _) rfl rfl ?_
       refine GoR.op ((op_pickF rfl rfl rfl) _) rfl rfl ?_
       refine GoR.nil ?_
       refine Go1.condT rfl rfl ?_
       refine Go1.seq ?_
       refine Go1.region ?_
       refine GoR.op ((op_assign rfl) _) rfl rfl ?_
       refine GoR.nil ?_
       refine Go1.ret1 Try.func56 rfl ?_
       exact ⟨(4 : Int), rfl, hB.same, H⟩
      ·replace H := ifn h12 H
       refine GoR.op ((fun w => opB (op_geq rfl rfl w) (decide_eq_false h12)) _) rfl rfl ?_
       refine GoR.op ((op_pickF rfl rfl rfl) _) rfl rfl ?_
       refine GoR.nil ?_
       refine Go1.condF rfl rfl ?_
       refine Go1.skip ?_
       refine Go1.seq ?_
       refine Go1.seq ?_
       refine Go1.region ?_
       refine GoR.op ((op_fieldAddr Try.underlying42 rfl ti35 rfl (by decide)) _) rfl rfl ?_
       refine GoR.op ((oblk 0 hO rfl rfl Try.underlying35 rfl rfl) _ (Same.refl _)) rfl rfl ?_
       refine GoR.op ((op_len Try.underlying35 rfl) _) rfl rfl ?_
       refine GoR.op ((op_move rfl) _) rfl rfl ?_
       refine GoR.nil ?_
       refine Go1.block ?_
       refine Go1.loopW (S := Nat) (fun s σ w => agrees σ [(1, .pointer (some ⟨B2, 0, none⟩)), (3, .int .i64 (d.Final.length : Int)), (38, .slice p_d_Next d.Next.length c_d_Next), (39, .int .i64 (d.Next.length : Int)), (40, .int .i64 (s : Int))] ∧ Owns w0.heap.size w [.blk B2 (.cells #[.int .i64 d.Letters, .int .i64 d.Start, .slice p_d_Final d.Final.length c_d_Final, .slice p_d_Next d.Next.length c_d_Next] 42 (0, 0))] A ∧ ISl (Rp.bool) (bl [.blk B2 (.cells #[.int .i64 d.Letters, .int .i64 d.Start, .slice p_d_Final d.Final.length c_d_Final, .slice p_d_Next d.Next.length c_d_Next] 42 (0, 0))] ++ A) w p_d_Final c_d_Final d.Final ∧ ISl (Rp.sl (Rp.int .i64)) (bl [.blk B2 (.cells #[.int .i64 d.Letters, .int .i64 d.Start, .slice p_d_Final d.Final.length c_d_Final, .slice p_d_Next d.Next.length c_d_Next] 42 (0, 0))] ++ A) w p_d_Next c_d_Next d.Next ∧ Fr (bl []) w0 (bl [.blk B2 (.cells #[.int .i64 d.Letters, .int .i64 d.Start, .slice p_d_Final d.Final.length c_d_Final, .slice p_d_Next d.Next.length c_d_Next] 42 (0, 0))]) w) H ⟨⟨rfl, rfl, rfl, rfl, rfl, trivial⟩, hO, h_d_Final, h_d_Next, hB⟩ ?_
       rintro X1 k1_14 H hX1 σ w13 ⟨hag, hO, h_d_Final, h_d_Next, hB⟩
       refine Go1.keep [(1, .pointer (some ⟨B2, 0, none⟩)), (3, .int .i64 (d.Final.length : Int)), (38, .slice p_d_Next d.Next.length c_d_Next), (39, .int .i64 (d.Next.length : Int)), (40, .int .i64 (k1_14 : Int))] hag ?_
       refine Go1.seq ?_
       refine Go1.region ?_
       by_cases h15 : (k1_14 : Int) < (d.Next.length : Int)
       ·replace H := ifp h15 H
        refine GoR.op ((fun w => opB (op_lss rfl rfl w) (decide_eq_true h15)) _) rfl rfl ?_
        refine GoR.nil ?_
        refine Go1.seq ?_
        refine Go1.condT rfl rfl ?_
        refine Go1.skip ?_
        refine Go1.seq ?_
        refine Go1.block ?_
        refine Go1.seq ?_
        refine Go1.region ?_
        obtain ⟨h16, H⟩ := H
        obtain ⟨h17, H⟩ := H
        refine GoR.op ((op_index Try.underlying35 ti22 rfl rfl h16 h17 (h_d_Next.some_ h16 h17)) _) rfl rfl ?_
        have hobt := ldSl h_d_Next h16 h17
        obtain ⟨p18, c19, hi20, hl21⟩ := hobt
        refine GoR.op ((hl21 Try.underlying22 rfl rfl) _ (Same.refl _)) rfl rfl ?_
        refine GoR.op ((op_assign rfl) _) rfl rfl ?_
        refine GoR.nil ?_
        refine Go1.seq ?_
        refine Go1.seq ?_
        refine Go1.region ?_
        refine GoR.op ((op_move rfl) _) rfl rfl ?_
        refine GoR.op ((op_len Try.underlying22 rfl) _) rfl rfl ?_
        replace H := H hi20.bd
        refine GoR.op ((op_fieldAddr Try.underlying42 rfl ti3 rfl (by decide)) _) rfl rfl ?_
        refine GoR.op ((oblk 0 hO rfl rfl Try.underlying3 rfl rfl) _ (Same.refl _)) rfl rfl ?_
        by_cases h22 : ((ix d.Next (k1_14 : Int)).length : Int) = d.Letters
        ·replace H := ifp h22 H
         refine GoR.op ((fun w => opB (op_neq rfl rfl w) (ndT h22)) _) rfl rfl ?_
         refine GoR.nil ?_
         refine Go1.condF rfl rfl ?_
         refine Go1.skip ?_
         refine Go1.seq ?_
         refine Go1.region ?_
         refine GoR.op ((op_move rfl) _) rfl rfl ?_
         refine GoR.op ((op_len Try.underlying22 rfl) _) rfl rfl ?_
         refine GoR.op ((op_move rfl) _) rfl rfl ?_
         refine GoR.nil ?_
         refine Go1.block ?_
         refine Go1.loopW (S := Nat) (fun s σ w => agrees σ [(1, .pointer (some ⟨B2, 0, none⟩)), (3, .int .i64 (d.Final.length : Int)), (38, .slice p_d_Next d.Next.length c_d_Next), (39, .int .i64 (d.Next.length : Int)), (40, .int .i64 (k1_14 : Int)), (49, .slice p18 ((ix d.Next (k1_14 : Int)).length) c19), (50, .int .i64 ((ix d.Next (k1_14 : Int)).length : Int)), (51, .int .i64 (s : Int))] ∧ Owns w0.heap.size w [.blk B2 (.cells #[.int .i64 d.Letters, .int .i64 d.Start, .slice p_d_Final d.Final.length c_d_Final, .slice p_d_Next d.Next.length c_d_Next] 42 (0, 0))] A ∧ ISl (Rp.bool) (bl [.blk B2 (.cells #[.int .i64 d.Letters, .int .i64 d.Start, .slice p_d_Final d.Final.length c_d_Final, .slice p_d_Next d.Next.length c_d_Next] 42 (0, 0))] ++ A) w p_d_Final c_d_Final d.Final ∧ ISl (Rp.sl (Rp.int .i64)) (bl [.blk B2 (.cells #[.int .i64 d.Letters, .int .i64 d.Start, .slice p_d_Final d.Final.length c_d_Final, .slice p_d_Next d.Next.length c_d_Next] 42 (0, 0))] ++ A) w p_d_Next c_d_Next d.Next ∧ ISl (Rp.int .i64) (bl [.blk B2 (.cells #[.int .i64 d.Letters, .int .i64 d.Start, .slice p_d_Final d.Final.length c_d_Final, .slice p_d_Next d.Next.length c_d_Next] 42 (0, 0))] ++ A) w p18 c19 (ix d.Next (k1_14 : Int)) ∧ Fr (bl []) w0 (bl [.blk B2 (.cells #[.int .i64 d.Letters, .int .i64 d.Start, .slice p_d_Final d.Final.length c_d_Final, .slice p_d_Next d.Next.length c_d_Next] 42 (0, 0))]) w) H ⟨⟨rfl, rfl, rfl, rfl, rfl, rfl, rfl, rfl, trivial⟩, hO, h_d_Final, h_d_Next, hi20, hB⟩ ?_
         rintro X2 k2_24 H hX2 σ w23 ⟨hag, hO, h_d_Final, h_d_Next, hi20, hB⟩
         refine Go1.keep [(1, .pointer (some ⟨B2, 0, none⟩)), (3, .int .i64 (d.Final.length : Int)), (38, .slice p_d_Next d.Next.length c_d_Next), (39, .int .i64 (d.Next.length : Int)), (40, .int .i64 (k1_14 : Int)), (49, .slice p18 ((ix d.Next (k1_14 : Int)).length) c19), (50, .int .i64 ((ix d.Next (k1_14 : Int)).length : Int)), (51, .int .i64 (k2_24 : Int))] hag ?_
         refine Go1.seq ?_
         refine Go1.region ?_
         by_cases h25 : (k2_24 : Int) < ((ix d.Next (k1_14 : Int)).length : Int)
         ·replace H := ifp h25 H
          refine GoR.op ((fun w => opB (op_lss rfl rfl w) (decide_eq_true h25)) _) rfl rfl ?_
          refine GoR.nil ?_
          refine Go1.seq ?_
          refine Go1.condT rfl rfl ?_
          refine Go1.skip ?_
          refine Go1.seq ?_
          refine Go1.block ?_
          refine Go1.seq ?_
          refine Go1.region ?_
          obtain ⟨h26, H⟩ := H
          obtain ⟨h27, H⟩ := H
          refine GoR.op ((op_index Try.underlying22 ti3 rfl rfl h26 h27 (hi20.some_ h26 h27)) _) rfl rfl ?_
          refine GoR.op ((ldInt hi20 h26 h27 Try.underlying3 rfl rfl) _ (Same.refl _)) rfl rfl ?_
          refine GoR.op ((op_assign rfl) _) rfl rfl ?_
          refine GoR.nil ?_
          refine Go1.seq ?_
          refine Go1.region ?_
          refine GoR.op ((op_move rfl) _) rfl rfl ?_
          by_cases h28 : (ix (ix d.Next (k1_14 : Int)) (k2_24 : Int)) < (0 : Int)
          ·replace H := ifp h28 H
           refine GoR.op ((fun w => opB (op_lss rfl rfl w) (decide_eq_true h28)) _) rfl rfl ?_
           refine GoR.op ((op_move rfl) _) rfl rfl ?_
           refine GoR.pass rfl rfl ?_
           refine GoR.pass rfl rfl ?_
           refine GoR.pass rfl rfl ?_
           refine GoR.op ((op_pickT rfl rfl rfl) _) rfl rfl ?_
           refine GoR.nil ?_
           refine Go1.condT rfl rfl ?_
           refine Go1.seq ?_
           refine Go1.region ?_
           refine GoR.op ((op_assign rfl) _) rfl rfl ?_
           refine GoR.nil ?_
           refine Go1.ret1 Try.func56 rfl ?_
           exact ⟨(4 : Int), rfl, hB.same, H⟩
          ·replace H := ifn h28 H
           refine GoR.op ((fun w => opB (op_lss rfl rfl w) (decide_eq_false h28)) _) rfl rfl ?_
           refine GoR.op ((op_move rfl) _) rfl rfl ?_
           refine GoR.op ((op_move rfl) _) rfl rfl ?_
           refine GoR.op ((op_move rfl) _) rfl rfl ?_
           by_cases h29 : (d.Final.length : Int) ≤ (ix (ix d.Next (k1_14 : Int)) (k2_24 : Int))
           ·replace H := ifp h29 H
            refine GoR.op ((fun w => opB (op_geq rfl rfl w) (decide_eq_true h29)) _) rfl rfl ?_
            refine GoR.op ((op_pickF rfl rfl rfl) _) rfl rfl ?_
            refine GoR.nil ?_
            refine Go1.condT rfl rfl ?_
            refine Go1.seq ?_
            refine Go1.region ?_
            refine GoR.op ((op_assign rfl) _) rfl rfl ?_
            refine GoR.nil ?_
            refine Go1.ret1 Try.func56 rfl ?_
            exact ⟨(4 : Int), rfl, hB.same, H⟩
           ·replace H := ifn h29 H
            refine GoR.op ((fun w => opB (op_geq rfl rfl w) (decide_eq_false h29)) _) rfl rfl ?_
            refine GoR.op ((op_pickF rfl rfl rfl) _) rfl rfl ?_
            refine GoR.nil ?_
            refine Go1.condF rfl rfl ?_
            refine Go1.skip ?_
            refine Go1.inBlock ?_
            refine Go1.region ?_
            refine GoR.op ((op_add rfl rfl (wrap_i64 (natbd h25 hi20.bd))) _) rfl rfl ?_
            refine GoR.op ((op_move rfl) _) rfl rfl ?_
            refine GoR.nil ?_
            exact hX2 _ H _ _ ⟨⟨rfl, rfl, rfl, rfl, rfl, rfl, rfl, rfl, trivial⟩, hO, h_d_Final, h_d_Next, hi20, hB⟩
         ·replace H := ifn h25 H
          refine GoR.op ((fun w => opB (op_lss rfl rfl w) (decide_eq_false h25)) _) rfl rfl ?_
          refine GoR.nil ?_
          refine Go1.seq ?_
          refine Go1.condF rfl rfl ?_
          refine Go1.exit rfl ?_
          refine Go1.inBlock ?_
          refine Go1.region ?_
          refine GoR.op ((op_add rfl rfl (wrap_i64 (natbd h15 h_d_Next.bd))) _) rfl rfl ?_
          refine GoR.op ((op_move rfl) _) rfl rfl ?_
          refine GoR.nil ?_
          exact hX1 _ H _ _ ⟨⟨rfl, rfl, rfl, rfl, rfl, trivial⟩, hO, h_d_Final, h_d_Next, hB⟩
        ·replace H := ifn h22 H
         refine GoR.op ((fun w => opB (op_neq rfl rfl w) (ndF h22)) _) rfl rfl ?_
         refine GoR.nil ?_
         refine Go1.condT rfl rfl ?_
         refine Go1.seq ?_
         refine Go1.region ?_
         refine GoR.op ((op_assign rfl) _) rfl rfl ?_
         refine GoR.nil ?_
         refine Go1.ret1 Try.func56 rfl ?_
         exact ⟨(4 : Int), rfl, hB.same, H⟩
       ·replace H := ifn h15 H
        refine GoR.op ((fun w => opB (op_lss rfl rfl w) (decide_eq_false h15)) _) rfl rfl ?_
        refine GoR.nil ?_
        refine Go1.seq ?_
        refine Go1.condF rfl rfl ?_
        refine Go1.exit rfl ?_
        refine Go1.seq ?_
        refine Go1.region ?_
        refine GoR.op ((op_assign rfl) _) rfl rfl ?_
        refine GoR.nil ?_
        refine Go1.ret1 Try.func56 rfl ?_
        exact ⟨(0 : Int), rfl, hB.same, H⟩
    ·replace H := ifn h10 H
     refine GoR.op ((fun w => opB (op_neq rfl rfl w) (ndF h10)) _) rfl rfl ?_
     refine GoR.op ((op_move rfl) _) rfl rfl ?_
     refine GoR.pass rfl rfl ?_
     refine GoR.pass rfl rfl ?_
     refine GoR.pass rfl rfl ?_
     refine GoR.op ((op_pickT rfl rfl rfl) _) rfl rfl ?_
     refine GoR.op ((op_move rfl) _) rfl rfl ?_
     refine GoR.pass rfl rfl ?_
     refine GoR.pass rfl rfl ?_
     refine GoR.pass rfl rfl ?_
     refine GoR.pass rfl rfl ?_
     refine GoR.op ((op_pickT rfl rfl rfl) _) rfl rfl ?_
     refine GoR.nil ?_
     refine Go1.condT rfl rfl ?_
     refine Go1.seq ?_
     refine Go1.region ?_
     refine GoR.op ((op_assign rfl) _) rfl rfl ?_
     refine GoR.nil ?_
     refine Go1.ret1 Try.func56 rfl ?_
     exact ⟨(4 : Int), rfl, hB.same, H⟩
theorem body33 : Body Try.prog 33 := ⟨Try.f33, Try.func33, rfl, by kernel_rfl⟩
theorem walk_trans_OfDFA {A : List Nat} {w0 : World} {p_d_Final : Option Addr} {c_d_Final : Nat} {p_d_Next : Option Addr} {c_d_Next : Nat} {d : DFA} (hA : ∀ b ∈ A, b < w0.heap.size) (h_d_Final : ISl (Rp.bool) A w0 p_d_Final c_d_Final d.Final) (h_d_Next : ISl (Rp.sl (Rp.int .i64)) A w0 p_d_Next c_d_Next d.Next) {K : List (List Int) → Int → Prop} (H : trans_OfDFA d K) :
    CallsV Try.prog 33 #[.agg #[.int .i64 d.Letters, .int .i64 d.Start, .slice p_d_Final d.Final.length c_d_Final, .slice p_d_Next d.Next.length c_d_Next]] w0 (fun v w' => ∃ (r0 : List (List Int)), ∃ (r1 : Int), ∃ (p_r0 : Option Addr), ∃ (c_r0 : Nat), v = .tuple #[.slice p_r0 r0.length c_r0, .int .i64 r1] ∧ Same w0 w' ∧ ISl (Rp.sl (Rp.int .i64)) A w' p_r0 c_r0 r0 ∧ K r0 r1) := by
 refine CallsV.of (l := [.agg #[.int .i64 d.Letters, .int .i64 d.Start, .slice p_d_Final d.Final.length c_d_Final, .slice p_d_Next d.Next.length c_d_Next]]) Try.func33 rfl Try.ntmps33 rfl ?_
 have hO := Owns.start hA
 have hB := Fr.refl (bl []) w0
 unfold trans_OfDFA at H
 replace h_d_Final := h_d_Final.ch (Ch.start A w0)
 replace h_d_Next := h_d_Next.ch (Ch.start A w0)
 refine Go1.seq ?_
 refine Go1.region ?_
 have hobt := obox (t := 42) (v := .agg #[.int .i64 d.Letters, .int .i64 d.Start, .slice p_d_Final d.Final.length c_d_Final, .slice p_d_Next d.Next.length c_d_Next]) (cs := #[.int .i64 d.Letters, .int .i64 d.Start, .slice p_d_Final d.Final.length c_d_Final, .slice p_d_Next d.Next.length c_d_Next]) hO rfl
 obtain ⟨w1, B2, hst3, hs4, hop5⟩ := hobt
 refine GoR.op (hop5 rfl) rfl rfl ?_
 replace hO := hst3.own
 replace h_d_Final := h_d_Final.ch hst3.ch
 replace h_d_Next := h_d_Next.ch hst3.ch
 replace hB := hB.trans hst3.fr
 refine GoR.op ((op_assign rfl) _) rfl rfl ?_
 refine GoR.op ((op_assign rfl) _) rfl rfl ?_
 refine GoR.nil ?_
 refine Go1.seq ?_
 refine Go1.seq ?_
 refine Go1.region ?_
 refine GoR.op ((oblkAgg (vs := [.int .i64 d.Letters, .int .i64 d.Start, .slice p_d_Final d.Final.length c_d_Final, .slice p_d_Next d.Next.length c_d_Next]) 0 hO rfl rfl Try.underlying42 rfl ti42 rfl) _ (Same.refl _)) rfl rfl ?_
 refine GoR.call (op_call body56 rfl (walk_dfa_Validate hO.lt h_d_Final h_d_Next H)) rfl rfl ?_
 rintro v11 w8 ⟨r7, rfl, hs9, H⟩
 have hst12 := Stp.same hO hs9
 replace hO := hst12.own
 replace h_d_Final := h_d_Final.ch hst12.ch
 replace h_d_Next := h_d_Next.ch hst12.ch
 replace hB := hB.trans hst12.fr
 refine GoR.op ((op_assign rfl) _) rfl rfl ?_
 refine GoR.nil ?_
 refine Go1.seq ?_
 refine Go1.region ?_
 refine GoR.op ((op_move rfl) _) rfl rfl ?_
 by_cases h13 : r7 = (0 : Int)
 ·replace H := ifp h13 H
  refine GoR.op ((fun w => opB (op_neq rfl rfl w) (ndT h13)) _) rfl rfl ?_
  refine GoR.nil ?_
  refine Go1.condF rfl rfl ?_
  refine Go1.skip ?_
  refine Go1.seq ?_
  refine Go1.seq ?_
  refine Go1.region ?_
  refine GoR.op ((op_fieldAddr Try.underlying42 rfl ti40 rfl (by decide)) _) rfl rfl ?_
  refine GoR.op ((oblk 0 hO rfl rfl Try.underlying40 rfl rfl) _ (Same.refl _)) rfl rfl ?_
  refine GoR.op ((op_len Try.underlying40 rfl) _) rfl rfl ?_
  replace H := H h_d_Final.bd
  by_cases h14 : (32 : Int) < (d.Final.length : Int)
  ·replace H := ifp h14 H
   refine GoR.op ((fun w => opB (op_gtr rfl rfl w) (decide_eq_true h14)) _) rfl rfl ?_
   refine GoR.nil ?_
   refine Go1.condT rfl rfl ?_
   refine Go1.seq ?_
   refine Go1.region ?_
   refine GoR.op ((op_assign rfl) _) rfl rfl ?_
   refine GoR.op ((op_assign rfl) _) rfl rfl ?_
   refine GoR.nil ?_
   refine Go1.ret2 Try.func33 rfl ?_
   exact ⟨([] : List (List Int)), (3 : Int), none, 0, rfl, hB.same, (ISl.null _ _ _), H⟩
  ·replace H := ifn h14 H
   refine GoR.op ((fun w => opB (op_gtr rfl rfl w) (decide_eq_false h14)) _) rfl rfl ?_
   refine GoR.nil ?_
   refine Go1.condF rfl rfl ?_
   refine Go1.skip ?_
   refine Go1.seq ?_
   refine Go1.region ?_
   refine GoR.op ((op_fieldAddr Try.underlying42 rfl ti3 rfl (by decide)) _) rfl rfl ?_
   refine GoR.op ((oblk 0 hO rfl rfl Try.underlying3 rfl rfl) _ (Same.refl _)) rfl rfl ?_
   obtain ⟨h22, H⟩ := H
   obtain ⟨h23, H⟩ := H
   have hobt := t2make (m := d.Letters) (e' := 3) (Fl.int .i64) Try.underlying35 ti22 hO h22 h23 (by decide)
   obtain ⟨w15, p16, hst18, hs20, hop21⟩ := hobt
   refine GoR.op (hop21 rfl rfl) rfl rfl ?_
   replace hO := hst18.own
   replace h_d_Final := h_d_Final.ch hst18.ch
   replace h_d_Next := h_d_Next.ch hst18.ch
   replace hB := hB.trans hst18.fr
   refine GoR.op ((op_assign rfl) _) rfl rfl ?_
   refine GoR.nil ?_
   refine Go1.seq ?_
   refine Go1.seq ?_
   refine Go1.region ?_
   refine GoR.op ((op_move rfl) _) rfl rfl ?_
   refine GoR.op ((op_lenN Try.underlying35 rfl (t2neq 0 hO rfl)) _) rfl rfl ?_
   refine GoR.op ((op_move rfl) _) rfl rfl ?_
   refine GoR.nil ?_
   refine Go1.block ?_
   refine Go1.loopW (S := Nat × List (List Int)) (fun s σ w => ∃ (n30 : Nat), ∃ (p28 : Option Addr), ∃ (c29 : Nat), ∃ (hs31 : Hd), agrees σ [(1, .pointer (some ⟨B2, 0, none⟩)), (5, .slice p28 n30 c29), (22, .int .i64 ((List.replicate d.Letters.toNat ([] : List Int)).length : Int)), (23, .int .i64 ((s.1) : Int))] ∧ Owns w0.heap.size w [t2 (Fl.int .i64) 22 3 p28 n30 c29 hs31 (s.2), .blk B2 (.cells #[.int .i64 d.Letters, .int .i64 d.Start, .slice p_d_Final d.Final.length c_d_Final, .slice p_d_Next d.Next.length c_d_Next] 42 (0, 0))] A ∧ ISl (Rp.bool) (bl [t2 (Fl.int .i64) 22 3 p28 n30 c29 hs31 (s.2), .blk B2 (.cells #[.int .i64 d.Letters, .int .i64 d.Start, .slice p_d_Final d.Final.length c_d_Final, .slice p_d_Next d.Next.length c_d_Next] 42 (0, 0))] ++ A) w p_d_Final c_d_Final d.Final ∧ ISl (Rp.sl (Rp.int .i64)) (bl [t2 (Fl.int .i64) 22 3 p28 n30 c29 hs31 (s.2), .blk B2 (.cells #[.int .i64 d.Letters, .int .i64 d.Start, .slice p_d_Final d.Final.length c_d_Final, .slice p_d_Next d.Next.length c_d_Next] 42 (0, 0))] ++ A) w p_d_Next c_d_Next d.Next ∧ Fr (bl []) w0 (bl [t2 (Fl.int .i64) 22 3 p28 n30 c29 hs31 (s.2), .blk B2 (.cells #[.int .i64 d.Letters, .int .i64 d.Start, .slice p_d_Final d.Final.length c_d_Final, .slice p_d_Next d.Next.length c_d_Next] 42 (0, 0))]) w) H ⟨d.Letters.toNat, p16, d.Letters.toNat, (fun _ => (none, 0)), ⟨rfl, rfl, rfl, rfl, trivial⟩, hO, h_d_Final, h_d_Next, hB⟩ ?_
   rintro X1 ⟨k1_26, gens1_27⟩ H hX1 σ w25 ⟨n30, p28, c29, hs31, hag, hO, h_d_Final, h_d_Next, hB⟩
   dsimp only at H
   refine Go1.keep [(1, .pointer (some ⟨B2, 0, none⟩)), (5, .slice p28 n30 c29), (22, .int .i64 ((List.replicate d.Letters.toNat ([] : List Int)).length : Int)), (23, .int .i64 (k1_26 : Int))] hag ?_
   refine Go1.seq ?_
   refine Go1.region ?_
   by_cases h32 : (k1_26 : Int) < ((List.replicate d.Letters.toNat ([] : List Int)).length : Int)
   ·replace H := ifp h32 H
    refine GoR.op ((fun w => opB (op_lss rfl rfl w) (decide_eq_true h32)) _) rfl rfl ?_
    refine GoR.nil ?_
    refine Go1.seq ?_
    refine Go1.condT rfl rfl ?_
    refine Go1.skip ?_
    refine Go1.seq ?_
    refine Go1.block ?_
    refine Go1.seq ?_
    refine Go1.region ?_
    refine GoR.op ((op_move rfl) _) rfl rfl ?_
    refine GoR.op ((op_assign rfl) _) rfl rfl ?_
    refine GoR.nil ?_
    refine Go1.seq ?_
    refine Go1.region ?_
    refine GoR.op ((op_move rfl) _) rfl rfl ?_
    refine GoR.op ((op_move rfl) _) rfl rfl ?_
    refine GoR.op ((op_fieldAddr Try.underlying42 rfl ti35 rfl (by decide)) _) rfl rfl ?_
    refine GoR.op ((oblk 1 hO rfl rfl Try.underlying35 rfl rfl) _ (Same.refl _)) rfl rfl ?_
    refine GoR.op ((op_len Try.underlying35 rfl) _) rfl rfl ?_
    replace H := H h_d_Next.bd
    obtain ⟨h40, H⟩ := H
    obtain ⟨h41, H⟩ := H
    have hobt := omake (n := (d.Next.length : Int)) (r := Rp.int .i64) (d := (0 : Int)) Try.underlying22 ti3 (fun _ _ => rfl) rfl hO h40 h41 (by decide)
    obtain ⟨w33, p34, vs35, hst36, hE37, hs38, hop39⟩ := hobt
    refine GoR.op (hop39 rfl rfl) rfl rfl ?_
    replace hO := hst36.own
    replace h_d_Final := h_d_Final.ch hst36.ch
    replace h_d_Next := h_d_Next.ch hst36.ch
    replace hB := hB.trans hst36.fr
    obtain ⟨h43, H⟩ := H
    obtain ⟨h44, H⟩ := H
    refine GoR.op ((op_index Try.underlying35 ti22 rfl rfl h43 (ltn (t2neq 1 hO rfl) h44) (t2some 1 hO rfl h43 h44)) _) rfl rfl ?_
    have hst45 := Stp.front 1 hO rfl
    replace hE37 := hE37.ch hst45.ch
    replace hO := hst45.own
    replace h_d_Final := h_d_Final.ch hst45.ch
    replace h_d_Next := h_d_Next.ch hst45.ch
    replace hB := hB.trans hst45.fr
    have hst46 := Stp.front 1 hO rfl
    replace hE37 := hE37.ch hst46.ch
    replace hO := hst46.own
    replace h_d_Final := h_d_Final.ch hst46.ch
    replace h_d_Next := h_d_Next.ch hst46.ch
    replace hB := hB.trans hst46.fr
    have hobt := t2put (hf := (Fl.int .i64)) hO hE37 h43 h44
    obtain ⟨w47, hst48, hop49⟩ := hobt
    refine GoR.op (hop49 Try.underlying22 rfl ti22 rfl rfl) rfl rfl ?_
    replace hO := hst48.own
    replace h_d_Final := h_d_Final.ch hst48.ch
    replace h_d_Next := h_d_Next.ch hst48.ch
    replace hB := hB.trans hst48.fr
    refine GoR.nil ?_
    refine Go1.seq ?_
    refine Go1.region ?_
    refine GoR.op ((op_fieldAddr Try.underlying42 rfl ti35 rfl (by decide)) _) rfl rfl ?_
    refine GoR.op ((oblk 1 hO rfl rfl Try.underlying35 rfl rfl) _ (Same.refl _)) rfl rfl ?_
    refine GoR.op ((op_len Try.underlying35 rfl) _) rfl rfl ?_
    refine GoR.op ((op_move rfl) _) rfl rfl ?_
    refine GoR.nil ?_
    refine Go1.block ?_
    refine Go1.loopW (S := Nat × List (List Int)) (fun s σ w => agrees σ [(1, .pointer (some ⟨B2, 0, none⟩)), (5, .slice p28 n30 c29), (6, .int .i64 (k1_26 : Int)), (22, .int .i64 ((List.replicate d.Letters.toNat ([] : List Int)).length : Int)), (23, .int .i64 (k1_26 : Int)), (34, .slice p_d_Next d.Next.length c_d_Next), (35, .int .i64 (d.Next.length : Int)), (36, .int .i64 ((s.1) : Int))] ∧ Owns w0.heap.size w [t2 (Fl.int .i64) 22 3 p28 n30 c29 (hup hs31 (k1_26 : Int).toNat (p34, d.Next.length)) (s.2), .blk B2 (.cells #[.int .i64 d.Letters, .int .i64 d.Start, .slice p_d_Final d.Final.length c_d_Final, .slice p_d_Next d.Next.length c_d_Next] 42 (0, 0))] A ∧ ISl (Rp.bool) (bl [t2 (Fl.int .i64) 22 3 p28 n30 c29 (hup hs31 (k1_26 : Int).toNat (p34, d.Next.length)) (s.2), .blk B2 (.cells #[.int .i64 d.Letters, .int .i64 d.Start, .slice p_d_Final d.Final.length c_d_Final, .slice p_d_Next d.Next.length c_d_Next] 42 (0, 0))] ++ A) w p_d_Final c_d_Final d.Final ∧ ISl (Rp.sl (Rp.int .i64)) (bl [t2 (Fl.int .i64) 22 3 p28 n30 c29 (hup hs31 (k1_26 : Int).toNat (p34, d.Next.length)) (s.2), .blk B2 (.cells #[.int .i64 d.Letters, .int .i64 d.Start, .slice p_d_Final d.Final.length c_d_Final, .slice p_d_Next d.Next.length c_d_Next] 42 (0, 0))] ++ A) w p_d_Next c_d_Next d.Next ∧ Fr (bl []) w0 (bl [t2 (Fl.int .i64) 22 3 p28 n30 c29 (hup hs31 (k1_26 : Int).toNat (p34, d.Next.length)) (s.2), .blk B2 (.cells #[.int .i64 d.Letters, .int .i64 d.Start, .slice p_d_Final d.Final.length c_d_Final, .slice p_d_Next d.Next.length c_d_Next] 42 (0, 0))]) w) H ⟨⟨rfl, rfl, rfl, rfl, rfl, rfl, rfl, rfl, trivial⟩, hO, h_d_Final, h_d_Next, hB⟩ ?_
    rintro X2 ⟨k2_51, gens2_52⟩ H hX2 σ w50 ⟨hag, hO, h_d_Final, h_d_Next, hB⟩
    dsimp only at H
    refine Go1.keep [(1, .pointer (some ⟨B2, 0, none⟩)), (5, .slice p28 n30 c29), (6, .int .i64 (k1_26 : Int)), (22, .int .i64 ((List.replicate d.Letters.toNat ([] : List Int)).length : Int)), (23, .int .i64 (k1_26 : Int)), (34, .slice p_d_Next d.Next.length c_d_Next), (35, .int .i64 (d.Next.length : Int)), (36, .int .i64 (k2_51 : Int))] hag ?_
    refine Go1.seq ?_
    refine Go1.region ?_
    by_cases h53 : (k2_51 : Int) < (d.Next.length : Int)
    ·replace H := ifp h53 H
     refine GoR.op ((fun w => opB (op_lss rfl rfl w) (decide_eq_true h53)) _) rfl rfl ?_
     refine GoR.nil ?_
     refine Go1.seq ?_
     refine Go1.condT rfl rfl ?_
     refine Go1.skip ?_
     refine Go1.seq ?_
     refine Go1.block ?_
     refine Go1.seq ?_
     refine Go1.region ?_
     refine GoR.op ((op_move rfl) _) rfl rfl ?_
     obtain ⟨h54, H⟩ := H
     obtain ⟨h55, H⟩ := H
     refine GoR.op ((op_index Try.underlying35 ti22 rfl rfl h54 h55 (h_d_Next.some_ h54 h55)) _) rfl rfl ?_
     have hobt := ldSl h_d_Next h54 h55
     obtain ⟨p56, c57, hi58, hl59⟩ := hobt
     refine GoR.op ((hl59 Try.underlying22 rfl rfl) _ (Same.refl _)) rfl rfl ?_
     refine GoR.op ((op_assign rfl) _) rfl rfl ?_
     refine GoR.op ((op_assign rfl) _) rfl rfl ?_
     refine GoR.nil ?_
     refine Go1.drawS 1 [(0, .pure), (1, .pure), (2, .pure), (3, .stable), (4, .pure), (5, .pure), (6, .pure), (7, .pure), (8, .stable), (9, .pure), (10, .last)] mixed (by kernel_rfl) ?_
     intro w60 hs61
     have hst62 := Stp.same hO hs61
     replace hO := hst62.own
     replace h_d_Final := h_d_Final.ch hst62.ch
     replace h_d_Next := h_d_Next.ch hst62.ch
     replace hi58 := hi58.ch hst62.ch
     replace hB := hB.trans hst62.fr
     refine GoQ.pure rfl (op_move rfl) rfl rfl ?_
     refine GoQ.pure rfl (op_move rfl) rfl rfl ?_
     obtain ⟨h63, H⟩ := H
     obtain ⟨h64, H⟩ := H
     refine GoQ.pure rfl (op_index Try.underlying35 ti22 rfl rfl h63 (ltn (t2neq 0 hO rfl) h64) (t2some 0 hO rfl h63 h64)) rfl rfl ?_
     refine GoQ.stable rfl (t2head 0 hO rfl h63 h64 Try.underlying22 rfl rfl) rfl rfl ?_
     refine GoQ.pure rfl (op_move rfl) rfl rfl ?_
     refine GoQ.pure rfl (op_move rfl) rfl rfl ?_
     refine GoQ.pure rfl (op_move rfl) rfl rfl ?_
     obtain ⟨h65, H⟩ := H
     obtain ⟨h66, H⟩ := H
     refine GoQ.pure rfl (op_index Try.underlying22 ti3 rfl rfl h65 h66 (hi58.some_ h65 h66)) rfl rfl ?_
     refine GoQ.stable rfl (ldInt hi58 h65 h66 Try.underlying3 rfl rfl) rfl rfl ?_
     obtain ⟨h67, H⟩ := H
     obtain ⟨h68, H⟩ := H
     refine GoQ.pure rfl (op_index Try.underlying22 ti3 rfl rfl h67 h68 (t2isome 0 hO rfl h63 h64 h67 h68)) rfl rfl ?_
     have hobt := t2st (r := Rp.int .i64) (hf := (Fl.int .i64)) rfl 0 hO rfl h63 h64 h67 h68 (v := .int .i64 (ix (ix d.Next (k2_51 : Int)) (k1_26 : Int))) (u := (ix (ix d.Next (k2_51 : Int)) (k1_26 : Int))) rfl rfl
     obtain ⟨w69, hst70, hop71⟩ := hobt
     refine GoQ.last rfl (hop71 Try.underlying3 rfl ti3 rfl rfl) rfl rfl ?_
     replace hO := hst70.own
     replace h_d_Final := h_d_Final.ch hst70.ch
     replace h_d_Next := h_d_Next.ch hst70.ch
     replace hi58 := hi58.ch hst70.ch
     replace hB := hB.trans hst70.fr
     refine GoQ.nil ?_
     refine Go1.inBlock ?_
     refine Go1.region ?_
     refine GoR.op ((op_add rfl rfl (wrap_i64 (natbd h53 h_d_Next.bd))) _) rfl rfl ?_
     refine GoR.op ((op_move rfl) _) rfl rfl ?_
     refine GoR.nil ?_
     exact hX2 _ H _ _ ⟨⟨rfl, rfl, rfl, rfl, rfl, rfl, rfl, rfl, trivial⟩, hO, h_d_Final, h_d_Next, hB⟩
    ·replace H := ifn h53 H
     refine GoR.op ((fun w => opB (op_lss rfl rfl w) (decide_eq_false h53)) _) rfl rfl ?_
     refine GoR.nil ?_
     refine Go1.seq ?_
     refine Go1.condF rfl rfl ?_
     refine Go1.exit rfl ?_
     refine Go1.inBlock ?_
     refine Go1.region ?_
     obtain ⟨h72, H⟩ := H
     refine GoR.op ((op_add rfl rfl (wrap_i64 h72)) _) rfl rfl ?_
     refine GoR.op ((op_move rfl) _) rfl rfl ?_
     refine GoR.nil ?_
     exact hX1 _ H _ _ ⟨n30, p28, c29, hup hs31 (k1_26 : Int).toNat (p34, d.Next.length), ⟨rfl, rfl, rfl, rfl, trivial⟩, hO, h_d_Final, h_d_Next, hB⟩
   ·replace H := ifn h32 H
    refine GoR.op ((fun w => opB (op_lss rfl rfl w) (decide_eq_false h32)) _) rfl rfl ?_
    refine GoR.nil ?_
    refine Go1.seq ?_
    refine Go1.condF rfl rfl ?_
    refine Go1.exit rfl ?_
    refine Go1.seq ?_
    refine Go1.region ?_
    refine GoR.op ((op_move rfl) _) rfl rfl ?_
    refine GoR.op ((op_assign rfl) _) rfl rfl ?_
    refine GoR.op ((op_assign rfl) _) rfl rfl ?_
    refine GoR.nil ?_
    have hobt := t2freezeA 0 hO rfl
    obtain ⟨hO1, hc75, hi73, hn74⟩ := hobt
    replace h_d_Final := h_d_Final.ch hc75
    replace h_d_Next := h_d_Next.ch hc75
    replace hB := hB.trans (Owns.dropFr _ _ 0)
    replace hO := hO1; clear hO1
    refine Go1.ret2 Try.func33 rfl ?_
    exact ⟨gens1_27, (0 : Int), p28, c29, (by show Value.tuple #[.slice p28 n30 c29, .int .i64 (0 : Int)] = _; rw [hn74]), hB.same, (hi73.ch (Ch.weak _ _ _)), H⟩
 ·replace H := ifn h13 H
  refine GoR.op ((fun w => opB (op_neq rfl rfl w) (ndF h13)) _) rfl rfl ?_
  refine GoR.nil ?_
  refine Go1.condT rfl rfl ?_
  refine Go1.seq ?_
  refine Go1.region ?_
  refine GoR.op ((op_move rfl) _) rfl rfl ?_
  refine GoR.op ((op_assign rfl) _) rfl rfl ?_
  refine GoR.op ((op_assign rfl) _) rfl rfl ?_
  refine GoR.nil ?_
  refine Go1.ret2 Try.func33 rfl ?_
  exact ⟨([] : List (List Int)), r7, none, 0, rfl, hB.same, (ISl.null _ _ _), H⟩
theorem body34 : Body Try.prog 34 := ⟨Try.f34, Try.func34, rfl, by kernel_rfl⟩
theorem walk_ref07_Validate {A : List Nat} {w0 : World} {p_d_Final : Option Addr} {c_d_Final : Nat} {p_d_Next : Option Addr} {c_d_Next : Nat} {d : DFA} (hA : ∀ b ∈ A, b < w0.heap.size) (h_d_Final : ISl (Rp.bool) A w0 p_d_Final c_d_Final d.Final) (h_d_Next : ISl (Rp.sl (Rp.int .i64)) A w0 p_d_Next c_d_Next d.Next) {K : Int → Prop} (H : ref07_Validate d K) :
    CallsV Try.prog 34 #[.agg #[.int .i64 d.Letters, .int .i64 d.Start, .slice p_d_Final d.Final.length c_d_Final, .slice p_d_Next d.Next.length c_d_Next]] w0 (fun v w' => ∃ (r0 : Int), v = .int .i64 r0 ∧ Same w0 w' ∧ K r0) := by
 refine CallsV.of (l := [.agg #[.int .i64 d.Letters, .int .i64 d.Start, .slice p_d_Final d.Final.length c_d_Final, .slice p_d_Next d.Next.length c_d_Next]]) Try.func34 rfl Try.ntmps34 rfl ?_
 have hO := Owns.start hA
 have hB := Fr.refl (bl []) w0
 unfold ref07_Validate at H
 replace h_d_Final := h_d_Final.ch (Ch.start A w0)
 replace h_d_Next := h_d_Next.ch (Ch.start A w0)
 refine Go1.seq ?_
 refine Go1.region ?_
 have hobt := obox (t := 42) (v := .agg #[.int .i64 d.Letters, .int .i64 d.Start, .slice p_d_Final d.Final.length c_d_Final, .slice p_d_Next d.Next.length c_d_Next]) (cs := #[.int .i64 d.Letters, .int .i64 d.Start, .slice p_d_Final d.Final.length c_d_Final, .slice p_d_Next d.Next.length c_d_Next]) hO rfl
 obtain ⟨w1, B2, hst3, hs4, hop5⟩ := hobt
 refine GoR.op (hop5 rfl) rfl rfl ?_
 replace hO := hst3.own
 replace h_d_Final := h_d_Final.ch hst3.ch
 replace h_d_Next := h_d_Next.ch hst3.ch
 replace hB := hB.trans hst3.fr
 refine GoR.op ((op_assign rfl) _) rfl rfl ?_
 refine GoR.nil ?_
 refine Go1.seq ?_
 refine Go1.region ?_
 refine GoR.op ((op_fieldAddr Try.underlying42 rfl ti40 rfl (by decide)) _) rfl rfl ?_
 refine GoR.op ((oblk 0 hO rfl rfl Try.underlying40 rfl rfl) _ (Same.refl _)) rfl rfl ?_
 refine GoR.op ((op_len Try.underlying40 rfl) _) rfl rfl ?_
 replace H := H h_d_Final.bd
 refine GoR.op ((op_assign rfl) _) rfl rfl ?_
 refine GoR.nil ?_
 refine Go1.seq ?_
 refine Go1.seq ?_
 refine Go1.region ?_
 refine GoR.op ((op_fieldAddr Try.underlying42 rfl ti3 rfl (by decide)) _) rfl rfl ?_
 refine GoR.op ((oblk 0 hO rfl rfl Try.underlying3 rfl rfl) _ (Same.refl _)) rfl rfl ?_
 refine GoR.call (op_call body55 rfl (walk_ref01_MayLetters hO.lt H)) rfl rfl ?_
 rintro v11 w8 ⟨r7, rfl, hs9, H⟩
 have hst12 := Stp.same hO hs9
 replace hO := hst12.own
 replace h_d_Final := h_d_Final.ch hst12.ch
 replace h_d_Next := h_d_Next.ch hst12.ch
 replace hB := hB.trans hst12.fr
 cases r7
 ·replace H := ifn Bool.false_ne_true H
  refine GoR.op ((op_not rfl) _) rfl rfl ?_
  refine GoR.nil ?_
  refine Go1.condT rfl rfl ?_
  refine Go1.seq ?_
  refine Go1.region ?_
  refine GoR.op ((op_assign rfl) _) rfl rfl ?_
  refine GoR.nil ?_
  refine Go1.ret1 Try.func34 rfl ?_
  exact ⟨(1 : Int), rfl, hB.same, H⟩
 ·replace H := ifp rfl H
  refine GoR.op ((op_not rfl) _) rfl rfl ?_
  refine GoR.nil ?_
  refine Go1.condF rfl rfl ?_
  refine Go1.skip ?_
  refine Go1.seq ?_
  refine Go1.seq ?_
  refine Go1.region ?_
  refine GoR.op ((op_move rfl) _) rfl rfl ?_
  by_cases h13 : (512 : Int) < (d.Final.length : Int)
  ·replace H := ifp h13 H
   refine GoR.op ((fun w => opB (op_gtr rfl rfl w) (decide_eq_true h13)) _) rfl rfl ?_
   refine GoR.nil ?_
   refine Go1.condT rfl rfl ?_
   refine Go1.seq ?_
   refine Go1.region ?_
   refine GoR.op ((op_assign rfl) _) rfl rfl ?_
   refine GoR.nil ?_
   refine Go1.ret1 Try.func34 rfl ?_
   exact ⟨(3 : Int), rfl, hB.same, H⟩
  ·replace H := ifn h13 H
   refine GoR.op ((fun w => opB (op_gtr rfl rfl w) (decide_eq_false h13)) _) rfl rfl ?_
   refine GoR.nil ?_
   refine Go1.condF rfl rfl ?_
   refine Go1.skip ?_
   refine Go1.seq ?_
   refine Go1.seq ?_
   refine Go1.region ?_
   refine GoR.op ((op_move rfl) _) rfl rfl ?_
   by_cases h14 : (d.Final.length : Int) = (0 : Int)
   ·replace H := ifp h14 H
    refine GoR.op ((fun w => opB (op_eql rfl rfl w) (decide_eq_true h14)) _) rfl rfl ?_
    refine GoR.op ((op_move rfl) _) rfl rfl ?_
    refine GoR.pass rfl rfl ?_
    refine GoR.pass rfl rfl ?_
    refine GoR.pass rfl rfl ?_
    refine GoR.pass rfl rfl ?_
    refine GoR.pass rfl rfl ?_
    refine GoR.op ((op_pickT rfl rfl rfl) _) rfl rfl ?_
    refine GoR.op ((op_move rfl) _) rfl rfl ?_
    refine GoR.pass rfl rfl ?_
    refine GoR.pass rfl rfl ?_
    refine GoR.pass rfl rfl ?_
    refine GoR.op ((op_pickT rfl rfl rfl) _) rfl rfl ?_
    refine GoR.op ((op_move rfl) _) rfl rfl ?_
    refine GoR.pass rfl rfl ?_
    refine GoR.pass rfl rfl ?_
    refine GoR.pass rfl rfl ?_
    refine GoR.pass rfl rfl ?_
    refine GoR.op ((op_pickT rfl rfl rfl) _) rfl rfl ?_
    refine GoR.nil ?_
    refine Go1.condT rfl rfl ?_
    refine Go1.seq ?_
    refine Go1.region ?_
    refine GoR.op ((op_assign rfl) _) rfl rfl ?_
    refine GoR.nil ?_
    refine Go1.ret1 Try.func34 rfl ?_
    exact ⟨(4 : Int), rfl, hB.same, H⟩
   ·replace H := ifn h14 H
    refine GoR.op ((fun w => opB (op_eql rfl rfl w) (decide_eq_false h14)) _) rfl rfl ?_
    refine GoR.op ((op_move rfl) _) rfl rfl ?_
    refine GoR.op ((op_fieldAddr Try.underlying42 rfl ti35 rfl (by decide)) _) rfl rfl ?_
    refine GoR.op ((oblk 0 hO rfl rfl Try.underlying35 rfl rfl) _ (Same.refl _)) rfl rfl ?_
    refine GoR.op ((op_len Try.underlying35 rfl) _) rfl rfl ?_
    replace H := H h_d_Next.bd
    refine GoR.op ((op_move rfl) _) rfl rfl ?_
    by_cases h15 : (d.Next.length : Int) = (d.Final.length : Int)
    ·replace H := ifp h15 H
     refine GoR.op ((fun w => opB (op_neq rfl rfl w) (ndT h15)) _) rfl rfl ?_
     refine GoR.op ((op_pickF rfl rfl rfl) _) rfl rfl ?_
     refine GoR.op ((op_move rfl) _) rfl rfl ?_
     refine GoR.op ((op_fieldAddr Try.underlying42 rfl ti3 rfl (by decide)) _) rfl rfl ?_
     refine GoR.op ((oblk 0 hO rfl rfl Try.underlying3 rfl rfl) _ (Same.refl _)) rfl rfl ?_
     by_cases h16 : d.Start < (0 : Int)
     ·replace H := ifp h16 H
      refine GoR.op ((fun w => opB (op_lss rfl rfl w) (decide_eq_true h16)) _) rfl rfl ?_
      refine GoR.op ((op_pickF rfl rfl rfl) _) rfl rfl ?_
      refine GoR.op ((op_move rfl) _) rfl rfl ?_
      refine GoR.pass rfl rfl ?_
      refine GoR.pass rfl rfl ?_
      refine GoR.pass rfl rfl ?_
      refine GoR.pass rfl rfl ?_
      refine GoR.op ((op_pickT rfl rfl rfl) _) rfl rfl ?_
      refine GoR.nil ?_
      refine Go1.condT rfl rfl ?_
      refine Go1.seq ?_
      refine Go1.region ?_
      refine GoR.op ((op_assign rfl) _) rfl rfl ?_
      refine GoR.nil ?_
      refine Go1.ret1 Try.func34 rfl ?_
      exact ⟨(4 : Int), rfl, hB.same, H⟩
     ·replace H := ifn h16 H
      refine GoR.op ((fun w => opB (op_lss rfl rfl w) (decide_eq_false h16)) _) rfl rfl ?_
      refine GoR.op ((op_pickF rfl rfl rfl) _) rfl rfl ?_
      refine GoR.op ((op_move rfl) _) rfl rfl ?_
      refine GoR.op ((op_fieldAddr Try.underlying42 rfl ti3 rfl (by decide)) _) rfl rfl ?_
      refine GoR.op ((oblk 0 hO rfl rfl Try.underlying3 rfl rfl) _ (Same.refl _)) rfl rfl ?_
      refine GoR.op ((op_move rfl) _) rfl rfl ?_
      by_cases h17 : (d.Final.length : Int) ≤ d.Start
      ·replace H := ifp h17 H
       refine GoR.op ((fun w => opB (op_geq rfl rfl w) (decide_eq_true h17)) _) rfl rfl ?_
       refine GoR.op ((op_pickF rfl rfl rfl) _) rfl rfl ?_
       refine GoR.nil ?_
       refine Go1.condT rfl rfl ?_
       refine Go1.seq ?_
       refine Go1.region ?_
       refine GoR.op ((op_assign rfl) _) rfl rfl ?_
       refine GoR.nil ?_
       refine Go1.ret1 Try.func34 rfl ?_
       exact ⟨(4 : Int), rfl, hB.same, H⟩
      ·replace H := ifn h17 H
       refine GoR.op ((fun w => opB (op_geq rfl rfl w) (decide_eq_false h17)) _) rfl rfl ?_
       refine GoR.op ((op_pickF rfl rfl rfl) _) rfl rfl ?_
       refine GoR.nil ?_
       refine Go1.condF rfl rfl ?_
       refine Go1.skip ?_
       refine Go1.seq ?_
       refine Go1.seq ?_
       refine Go1.region ?_
       refine GoR.op ((op_fieldAddr Try.underlying42 rfl ti35 rfl (by decide)) _) rfl rfl ?_
       refine GoR.op ((oblk 0 hO rfl rfl Try.underlying35 rfl rfl) _ (Same.refl _)) rfl rfl ?_
       refine GoR.op ((op_len Try.underlying35 rfl) _) rfl rfl ?_
       refine GoR.op ((op_move rfl) _) rfl rfl ?_
       refine GoR.nil ?_
       refine Go1.block ?_
       refine Go1.loopW (S := Nat) (fun s σ w => agrees σ [(1, .pointer (some ⟨B2, 0, none⟩)), (3, .int .i64 (d.Final.length : Int)), (38, .slice p_d_Next d.Next.length c_d_Next), (39, .int .i64 (d.Next.length : Int)), (40, .int .i64 (s : Int))] ∧ Owns w0.heap.size w [.blk B2 (.cells #[.int .i64 d.Letters, .int .i64 d.Start, .slice p_d_Final d.Final.length c_d_Final, .slice p_d_Next d.Next.length c_d_Next] 42 (0, 0))] A ∧ ISl (Rp.bool) (bl [.blk B2 (.cells #[.int .i64 d.Letters, .int .i64 d.Start, .slice p_d_Final d.Final.length c_d_Final, .slice p_d_Next d.Next.length c_d_Next] 42 (0, 0))] ++ A) w p_d_Final c_d_Final d.Final ∧ ISl (Rp.sl (Rp.int .i64)) (bl [.blk B2 (.cells #[.int .i64 d.Letters, .int .i64 d.Start, .slice p_d_Final d.Final.length c_d_Final, .slice p_d_Next d.Next.length c_d_Next] 42 (0, 0))] ++ A) w p_d_Next c_d_Next d.Next ∧ Fr (bl []) w0 (bl [.blk B2 (.cells #[.int .i64 d.Letters, .int .i64 d.Start, .slice p_d_Final d.Final.length c_d_Final, .slice p_d_Next d.Next.length c_d_Next] 42 (0, 0))]) w) H ⟨⟨rfl, rfl, rfl, rfl, rfl, trivial⟩, hO, h_d_Final, h_d_Next, hB⟩ ?_
       rintro X1 k1_19 H hX1 σ w18 ⟨hag, hO, h_d_Final, h_d_Next, hB⟩
       refine Go1.keep [(1, .pointer (some ⟨B2, 0, none⟩)), (3, .int .i64 (d.Final.length : Int)), (38, .slice p_d_Next d.Next.length c_d_Next), (39, .int .i64 (d.Next.length : Int)), (40, .int .i64 (k1_19 : Int))] hag ?_
       refine Go1.seq ?_
       refine Go1.region ?_
       by_cases h20 : (k1_19 : Int) < (d.Next.length : Int)
       ·replace H := ifp h20 H
        refine GoR.op ((fun w => opB (op_lss rfl rfl w) (decide_eq_true h20)) _) rfl rfl ?_
        refine GoR.nil ?_
        refine Go1.seq ?_
        refine Go1.condT rfl rfl ?_
        refine Go1.skip ?_
        refine Go1.seq ?_
        refine Go1.block ?_
        refine Go1.seq ?_
        refine Go1.region ?_
        obtain ⟨h21, H⟩ := H
        obtain ⟨h22, H⟩ := H
        refine GoR.op ((op_index Try.underlying35 ti22 rfl rfl h21 h22 (h_d_Next.some_ h21 h22)) _) rfl rfl ?_
        have hobt := ldSl h_d_Next h21 h22
        obtain ⟨p23, c24, hi25, hl26⟩ := hobt
        refine GoR.op ((hl26 Try.underlying22 rfl rfl) _ (Same.refl _)) rfl rfl ?_
        refine GoR.op ((op_assign rfl) _) rfl rfl ?_
        refine GoR.nil ?_
        refine Go1.seq ?_
        refine Go1.seq ?_
        refine Go1.region ?_
        refine GoR.op ((op_move rfl) _) rfl rfl ?_
        refine GoR.op ((op_len Try.underlying22 rfl) _) rfl rfl ?_
        replace H := H hi25.bd
        refine GoR.op ((op_fieldAddr Try.underlying42 rfl ti3 rfl (by decide)) _) rfl rfl ?_
        refine GoR.op ((oblk 0 hO rfl rfl Try.underlying3 rfl rfl) _ (Same.refl _)) rfl rfl ?_
        by_cases h27 : ((ix d.Next (k1_19 : Int)).length : Int) = d.Letters
        ·replace H := ifp h27 H
         refine GoR.op ((fun w => opB (op_neq rfl rfl w) (ndT h27)) _) rfl rfl ?_
         refine GoR.nil ?_
         refine Go1.condF rfl rfl ?_
         refine Go1.skip ?_
         refine Go1.seq ?_
         refine Go1.region ?_
         refine GoR.op ((op_move rfl) _) rfl rfl ?_
         refine GoR.op ((op_len Try.underlying22 rfl) _) rfl rfl ?_
         refine GoR.op ((op_move rfl) _) rfl rfl ?_
         refine GoR.nil ?_
         refine Go1.block ?_
         refine Go1.loopW (S := Nat) (fun s σ w => agrees σ [(1, .pointer (some ⟨B2, 0, none⟩)), (3, .int .i64 (d.Final.length : Int)), (38, .slice p_d_Next d.Next.length c_d_Next), (39, .int .i64 (d.Next.length : Int)), (40, .int .i64 (k1_19 : Int)), (49, .slice p23 ((ix d.Next (k1_19 : Int)).length) c24), (50, .int .i64 ((ix d.Next (k1_19 : Int)).length : Int)), (51, .int .i64 (s : Int))] ∧ Owns w0.heap.size w [.blk B2 (.cells #[.int .i64 d.Letters, .int .i64 d.Start, .slice p_d_Final d.Final.length c_d_Final, .slice p_d_Next d.Next.length c_d_Next] 42 (0, 0))] A ∧ ISl (Rp.bool) (bl [.blk B2 (.cells #[.int .i64 d.Letters, .int .i64 d.Start, .slice p_d_Final d.Final.length c_d_Final, .slice p_d_Next d.Next.length c_d_Next] 42 (0, 0))] ++ A) w p_d_Final c_d_Final d.Final ∧ ISl (Rp.sl (Rp.int .i64)) (bl [.blk B2 (.cells #[.int .i64 d.Letters, .int .i64 d.Start, .slice p_d_Final d.Final.length c_d_Final, .slice p_d_Next d.Next.length c_d_Next] 42 (0, 0))] ++ A) w p_d_Next c_d_Next d.Next ∧ ISl (Rp.int .i64) (bl [.blk B2 (.cells #[.int .i64 d.Letters, .int .i64 d.Start, .slice p_d_Final d.Final.length c_d_Final, .slice p_d_Next d.Next.length c_d_Next] 42 (0, 0))] ++ A) w p23 c24 (ix d.Next (k1_19 : Int)) ∧ Fr (bl []) w0 (bl [.blk B2 (.cells #[.int .i64 d.Letters, .int .i64 d.Start, .slice p_d_Final d.Final.length c_d_Final, .slice p_d_Next d.Next.length c_d_Next] 42 (0, 0))]) w) H ⟨⟨rfl, rfl, rfl, rfl, rfl, rfl, rfl, rfl, trivial⟩, hO, h_d_Final, h_d_Next, hi25, hB⟩ ?_
         rintro X2 k2_29 H hX2 σ w28 ⟨hag, hO, h_d_Final, h_d_Next, hi25, hB⟩
         refine Go1.keep [(1, .pointer (some ⟨B2, 0, none⟩)), (3, .int .i64 (d.Final.length : Int)), (38, .slice p_d_Next d.Next.length c_d_Next), (39, .int .i64 (d.Next.length : Int)), (40, .int .i64 (k1_19 : Int)), (49, .slice p23 ((ix d.Next (k1_19 : Int)).length) c24), (50, .int .i64 ((ix d.Next (k1_19 : Int)).length : Int)), (51, .int .i64 (k2_29 : Int))] hag ?_
         refine Go1.seq ?_
         refine Go1.region ?_
         by_cases h30 : (k2_29 : Int) < ((ix d.Next (k1_19 : Int)).length : Int)
         ·replace H := ifp h30 H
          refine GoR.op ((fun w => opB (op_lss rfl rfl w) (decide_eq_true h30)) _) rfl rfl ?_
          refine GoR.nil ?_
          refine Go1.seq ?_
          refine Go1.condT rfl rfl ?_
          refine Go1.skip ?_
          refine Go1.seq ?_
          refine Go1.block ?_
          refine Go1.seq ?_
          refine Go1.region ?_
          obtain ⟨h31, H⟩ := H
          obtain ⟨h32, H⟩ := H
          refine GoR.op ((op_index Try.underlying22 ti3 rfl rfl h31 h32 (hi25.some_ h31 h32)) _) rfl rfl ?_
          refine GoR.op ((ldInt hi25 h31 h32 Try.underlying3 rfl rfl) _ (Same.refl _)) rfl rfl ?_
          refine GoR.op ((op_assign rfl) _) rfl rfl ?_
          refine GoR.nil ?_
          refine Go1.seq ?_
          refine Go1.region ?_
          refine GoR.op ((op_move rfl) _) rfl rfl ?_
          by_cases h33 : (ix (ix d.Next (k1_19 : Int)) (k2_29 : Int)) < (0 : Int)
          ·replace H := ifp h33 H
           refine GoR.op ((fun w => opB (op_lss rfl rfl w) (decide_eq_true h33)) _) rfl rfl ?_
           refine GoR.op ((op_move rfl) _) rfl rfl ?_
           refine GoR.pass rfl rfl ?_
           refine GoR.pass rfl rfl ?_
           refine GoR.pass rfl rfl ?_
           refine GoR.op ((op_pickT rfl rfl rfl) _) rfl rfl ?_
           refine GoR.nil ?_
           refine Go1.condT rfl rfl ?_
           refine Go1.seq ?_
           refine Go1.region ?_
           refine GoR.op ((op_assign rfl) _) rfl rfl ?_
           refine GoR.nil ?_
           refine Go1.ret1 Try.func34 rfl ?_
           exact ⟨(4 : Int), rfl, hB.same, H⟩
          ·replace H := ifn h33 H
           refine GoR.op ((fun w => opB (op_lss rfl rfl w) (decide_eq_false h33)) _) rfl rfl ?_
           refine GoR.op ((op_move rfl) _) rfl rfl ?_
           refine GoR.op ((op_move rfl) _) rfl rfl ?_
           refine GoR.op ((op_move rfl) _) rfl rfl ?_
           by_cases h34 : (d.Final.length : Int) ≤ (ix (ix d.Next (k1_19 : Int)) (k2_29 : Int))
           ·replace H := ifp h34 H
            refine GoR.op ((fun w => opB (op_geq rfl rfl w) (decide_eq_true h34)) _) rfl rfl ?_
            refine GoR.op ((op_pickF rfl rfl rfl) _) rfl rfl ?_
            refine GoR.nil ?_
            refine Go1.condT rfl rfl ?_
            refine Go1.seq ?_
            refine Go1.region ?_
            refine GoR.op ((op_assign rfl) _) rfl rfl ?_
            refine GoR.nil ?_
            refine Go1.ret1 Try.func34 rfl ?_
            exact ⟨(4 : Int), rfl, hB.same, H⟩
           ·replace H := ifn h34 H
            refine GoR.op ((fun w => opB (op_geq rfl rfl w) (decide_eq_false h34)) _) rfl rfl ?_
            refine GoR.op ((op_pickF rfl rfl rfl) _) rfl rfl ?_
            refine GoR.nil ?_
            refine Go1.condF rfl rfl ?_
            refine Go1.skip ?_
            refine Go1.inBlock ?_
            refine Go1.region ?_
            refine GoR.op ((op_add rfl rfl (wrap_i64 (natbd h30 hi25.bd))) _) rfl rfl ?_
            refine GoR.op ((op_move rfl) _) rfl rfl ?_
            refine GoR.nil ?_
            exact hX2 _ H _ _ ⟨⟨rfl, rfl, rfl, rfl, rfl, rfl, rfl, rfl, trivial⟩, hO, h_d_Final, h_d_Next, hi25, hB⟩
         ·replace H := ifn h30 H
          refine GoR.op ((fun w => opB (op_lss rfl rfl w) (decide_eq_false h30)) _) rfl rfl ?_
          refine GoR.nil ?_
          refine Go1.seq ?_
          refine Go1.condF rfl rfl ?_
          refine Go1.exit rfl ?_
          refine Go1.inBlock ?_
          refine Go1.region ?_
          refine GoR.op ((op_add rfl rfl (wrap_i64 (natbd h20 h_d_Next.bd))) _) rfl rfl ?_
          refine GoR.op ((op_move rfl) _) rfl rfl ?_
          refine GoR.nil ?_
          exact hX1 _ H _ _ ⟨⟨rfl, rfl, rfl, rfl, rfl, trivial⟩, hO, h_d_Final, h_d_Next, hB⟩
        ·replace H := ifn h27 H
         refine GoR.op ((fun w => opB (op_neq rfl rfl w) (ndF h27)) _) rfl rfl ?_
         refine GoR.nil ?_
         refine Go1.condT rfl rfl ?_
         refine Go1.seq ?_
         refine Go1.region ?_
         refine GoR.op ((op_assign rfl) _) rfl rfl ?_
         refine GoR.nil ?_
         refine Go1.ret1 Try.func34 rfl ?_
         exact ⟨(4 : Int), rfl, hB.same, H⟩
       ·replace H := ifn h20 H
        refine GoR.op ((fun w => opB (op_lss rfl rfl w) (decide_eq_false h20)) _) rfl rfl ?_
        refine GoR.nil ?_
        refine Go1.seq ?_
        refine Go1.condF rfl rfl ?_
        refine Go1.exit rfl ?_
        refine Go1.seq ?_
        refine Go1.region ?_
        refine GoR.op ((op_assign rfl) _) rfl rfl ?_
        refine GoR.nil ?_
        refine Go1.ret1 Try.func34 rfl ?_
        exact ⟨(0 : Int), rfl, hB.same, H⟩
    ·replace H := ifn h15 H
     refine GoR.op ((fun w => opB (op_neq rfl rfl w) (ndF h15)) _) rfl rfl ?_
     refine GoR.op ((op_pickF rfl rfl rfl) _) rfl rfl ?_
     refine GoR.op ((op_move rfl) _) rfl rfl ?_
     refine GoR.pass rfl rfl ?_
     refine GoR.pass rfl rfl ?_
     refine GoR.pass rfl rfl ?_
     refine GoR.op ((op_pickT rfl rfl rfl) _) rfl rfl ?_
     refine GoR.op ((op_move rfl) _) rfl rfl ?_
     refine GoR.pass rfl rfl ?_
     refine GoR.pass rfl rfl ?_
     refine GoR.pass rfl rfl ?_
     refine GoR.pass rfl rfl ?_
     refine GoR.op ((op_pickT rfl rfl rfl) _) rfl rfl ?_
     refine GoR.nil ?_
     refine Go1.condT rfl rfl ?_
     refine Go1.seq ?_
     refine Go1.region ?_
     refine GoR.op ((op_assign rfl) _) rfl rfl ?_
     refine GoR.nil ?_
     refine Go1.ret1 Try.func34 rfl ?_
     exact ⟨(4 : Int), rfl, hB.same, H⟩
theorem body36 : Body Try.prog 36 := ⟨Try.f36, Try.func36, rfl, by kernel_rfl⟩
theorem walk_ref11_OfDFA {A : List Nat} {w0 : World} {p_d_Final : Option Addr} {c_d_Final : Nat} {p_d_Next : Option Addr} {c_d_Next : Nat} {d : DFA} (hA : ∀ b ∈ A, b < w0.heap.size) (h_d_Final : ISl (Rp.bool) A w0 p_d_Final c_d_Final d.Final) (h_d_Next : ISl (Rp.sl (Rp.int .i64)) A w0 p_d_Next c_d_Next d.Next) {K : List (List Int) → Prop} (H : ref11_OfDFA d K) :
    CallsV Try.prog 36 #[.agg #[.int .i64 d.Letters, .int .i64 d.Start, .slice p_d_Final d.Final.length c_d_Final, .slice p_d_Next d.Next.length c_d_Next]] w0 (fun v w' => ∃ (r0 : List (List Int)), ∃ (p_r0 : Option Addr), ∃ (c_r0 : Nat), v = .slice p_r0 r0.length c_r0 ∧ Same w0 w' ∧ ISl (Rp.sl (Rp.int .i64)) A w' p_r0 c_r0 r0 ∧ K r0) := by
 refine CallsV.of (l := [.agg #[.int .i64 d.Letters, .int .i64 d.Start, .slice p_d_Final d.Final.length c_d_Final, .slice p_d_Next d.Next.length c_d_Next]]) Try.func36 rfl Try.ntmps36 rfl ?_
 have hO := Owns.start hA
 have hB := Fr.refl (bl []) w0
 unfold ref11_OfDFA at H
 replace h_d_Final := h_d_Final.ch (Ch.start A w0)
 replace h_d_Next := h_d_Next.ch (Ch.start A w0)
 refine Go1.seq ?_
 refine Go1.region ?_
 have hobt := obox (t := 42) (v := .agg #[.int .i64 d.Letters, .int .i64 d.Start, .slice p_d_Final d.Final.length c_d_Final, .slice p_d_Next d.Next.length c_d_Next]) (cs := #[.int .i64 d.Letters, .int .i64 d.Start, .slice p_d_Final d.Final.length c_d_Final, .slice p_d_Next d.Next.length c_d_Next]) hO rfl
 obtain ⟨w1, B2, hst3, hs4, hop5⟩ := hobt
 refine GoR.op (hop5 rfl) rfl rfl ?_
 replace hO := hst3.own
 replace h_d_Final := h_d_Final.ch hst3.ch
 replace h_d_Next := h_d_Next.ch hst3.ch
 replace hB := hB.trans hst3.fr
 refine GoR.op ((op_assign rfl) _) rfl rfl ?_
 refine GoR.nil ?_
 refine Go1.seq ?_
 refine Go1.region ?_
 refine GoR.op ((op_assign rfl) _) rfl rfl ?_
 refine GoR.nil ?_
 refine Go1.seq ?_
 refine Go1.seq ?_
 refine Go1.region ?_
 refine GoR.op ((op_assign rfl) _) rfl rfl ?_
 refine GoR.nil ?_
 refine Go1.block ?_
 have hst8 := Stp.nil (e := 22) (r := 1) hO
 replace hO := hst8.own
 replace h_d_Final := h_d_Final.ch hst8.ch
 replace h_d_Next := h_d_Next.ch hst8.ch
 replace hB := hB.trans hst8.fr
 have hE9 := Els.nil (Rp.sl (Rp.int .i64)) (bl (.row 22 1 none 0 0 [] :: [.blk B2 (.cells #[.int .i64 d.Letters, .int .i64 d.Start, .slice p_d_Final d.Final.length c_d_Final, .slice p_d_Next d.Next.length c_d_Next] 42 (0, 0))]) ++ A) w1
 refine Go1.loopW (S := Nat × List (List Int)) (fun s σ w => ∃ (n17 : Nat), ∃ (p15 : Option Addr), ∃ (c16 : Nat), ∃ (vs13 : List Value), agrees σ [(1, .pointer (some ⟨B2, 0, none⟩)), (3, .slice p15 n17 c16), (4, .int .i64 ((s.1) : Int))] ∧ Owns w0.heap.size w [.row 22 1 p15 n17 c16 vs13, .blk B2 (.cells #[.int .i64 d.Letters, .int .i64 d.Start, .slice p_d_Final d.Final.length c_d_Final, .slice p_d_Next d.Next.length c_d_Next] 42 (0, 0))] A ∧ Els (Rp.sl (Rp.int .i64)) (bl [.row 22 1 p15 n17 c16 vs13, .blk B2 (.cells #[.int .i64 d.Letters, .int .i64 d.Start, .slice p_d_Final d.Final.length c_d_Final, .slice p_d_Next d.Next.length c_d_Next] 42 (0, 0))] ++ A) w vs13 (s.2) ∧ ISl (Rp.bool) (bl [.row 22 1 p15 n17 c16 vs13, .blk B2 (.cells #[.int .i64 d.Letters, .int .i64 d.Start, .slice p_d_Final d.Final.length c_d_Final, .slice p_d_Next d.Next.length c_d_Next] 42 (0, 0))] ++ A) w p_d_Final c_d_Final d.Final ∧ ISl (Rp.sl (Rp.int .i64)) (bl [.row 22 1 p15 n17 c16 vs13, .blk B2 (.cells #[.int .i64 d.Letters, .int .i64 d.Start, .slice p_d_Final d.Final.length c_d_Final, .slice p_d_Next d.Next.length c_d_Next] 42 (0, 0))] ++ A) w p_d_Next c_d_Next d.Next ∧ Fr (bl []) w0 (bl [.row 22 1 p15 n17 c16 vs13, .blk B2 (.cells #[.int .i64 d.Letters, .int .i64 d.Start, .slice p_d_Final d.Final.length c_d_Final, .slice p_d_Next d.Next.length c_d_Next] 42 (0, 0))]) w) H ⟨0, none, 0, [], ⟨rfl, rfl, rfl, trivial⟩, hO, hE9, h_d_Final, h_d_Next, hB⟩ ?_
 rintro X1 ⟨x1_11, out1_12⟩ H hX1 σ w10 ⟨n17, p15, c16, vs13, hag, hO, hE14, h_d_Final, h_d_Next, hB⟩
 dsimp only at H
 refine Go1.keep [(1, .pointer (some ⟨B2, 0, none⟩)), (3, .slice p15 n17 c16), (4, .int .i64 (x1_11 : Int))] hag ?_
 refine Go1.seq ?_
 refine Go1.seq ?_
 refine Go1.region ?_
 refine GoR.op ((op_move rfl) _) rfl rfl ?_
 refine GoR.op ((op_fieldAddr Try.underlying42 rfl ti3 rfl (by decide)) _) rfl rfl ?_
 refine GoR.op ((oblk 1 hO rfl rfl Try.underlying3 rfl rfl) _ (Same.refl _)) rfl rfl ?_
 by_cases h18 : (x1_11 : Int) < d.Letters
 ·replace H := ifp h18 H
  refine GoR.op ((fun w => opB (op_lss rfl rfl w) (decide_eq_true h18)) _) rfl rfl ?_
  refine GoR.nil ?_
  refine Go1.condT rfl rfl ?_
  refine Go1.skip ?_
  refine Go1.seq ?_
  refine Go1.block ?_
  refine Go1.seq ?_
  refine Go1.region ?_
  refine GoR.op ((op_assign rfl) _) rfl rfl ?_
  refine GoR.nil ?_
  refine Go1.seq ?_
  refine Go1.seq ?_
  refine Go1.region ?_
  refine GoR.op ((op_fieldAddr Try.underlying42 rfl ti35 rfl (by decide)) _) rfl rfl ?_
  refine GoR.op ((oblk 1 hO rfl rfl Try.underlying35 rfl rfl) _ (Same.refl _)) rfl rfl ?_
  refine GoR.op ((op_len Try.underlying35 rfl) _) rfl rfl ?_
  replace H := H h_d_Next.bd
  refine GoR.op ((op_move rfl) _) rfl rfl ?_
  refine GoR.nil ?_
  refine Go1.block ?_
  have hst20 := Stp.nil (e := 3) (r := 1) hO
  replace hE14 := hE14.ch hst20.ch
  replace hO := hst20.own
  replace h_d_Final := h_d_Final.ch hst20.ch
  replace h_d_Next := h_d_Next.ch hst20.ch
  replace hB := hB.trans hst20.fr
  have hE21 := Els.nil (Rp.int .i64) (bl (.row 3 1 none 0 0 [] :: [.row 22 1 p15 n17 c16 vs13, .blk B2 (.cells #[.int .i64 d.Letters, .int .i64 d.Start, .slice p_d_Final d.Final.length c_d_Final, .slice p_d_Next d.Next.length c_d_Next] 42 (0, 0))]) ++ A) w10
  refine Go1.loopW (S := Nat × List Int) (fun s σ w => ∃ (n29 : Nat), ∃ (p27 : Option Addr), ∃ (c28 : Nat), ∃ (vs25 : List Value), agrees σ [(1, .pointer (some ⟨B2, 0, none⟩)), (3, .slice p15 n17 c16), (4, .int .i64 (x1_11 : Int)), (5, .slice p27 n29 c28), (15, .int .i64 (d.Next.length : Int)), (16, .int .i64 ((s.1) : Int))] ∧ Owns w0.heap.size w [.row 3 1 p27 n29 c28 vs25, .row 22 1 p15 n17 c16 vs13, .blk B2 (.cells #[.int .i64 d.Letters, .int .i64 d.Start, .slice p_d_Final d.Final.length c_d_Final, .slice p_d_Next d.Next.length c_d_Next] 42 (0, 0))] A ∧ Els (Rp.int .i64) (bl [.row 3 1 p27 n29 c28 vs25, .row 22 1 p15 n17 c16 vs13, .blk B2 (.cells #[.int .i64 d.Letters, .int .i64 d.Start, .slice p_d_Final d.Final.length c_d_Final, .slice p_d_Next d.Next.length c_d_Next] 42 (0, 0))] ++ A) w vs25 (s.2) ∧ Els (Rp.sl (Rp.int .i64)) (bl [.row 3 1 p27 n29 c28 vs25, .row 22 1 p15 n17 c16 vs13, .blk B2 (.cells #[.int .i64 d.Letters, .int .i64 d.Start, .slice p_d_Final d.Final.length c_d_Final, .slice p_d_Next d.Next.length c_d_Next] 42 (0, 0))] ++ A) w vs13 out1_12 ∧ ISl (Rp.bool) (bl [.row 3 1 p27 n29 c28 vs25, .row 22 1 p15 n17 c16 vs13, .blk B2 (.cells #[.int .i64 d.Letters, .int .i64 d.Start, .slice p_d_Final d.Final.length c_d_Final, .slice p_d_Next d.Next.length c_d_Next] 42 (0, 0))] ++ A) w p_d_Final c_d_Final d.Final ∧ ISl (Rp.sl (Rp.int .i64)) (bl [.row 3 1 p27 n29 c28 vs25, .row 22 1 p15 n17 c16 vs13, .blk B2 (.cells #[.int .i64 d.Letters, .int .i64 d.Start, .slice p_d_Final d.Final.length c_d_Final, .slice p_d_Next d.Next.length c_d_Next] 42 (0, 0))] ++ A) w p_d_Next c_d_Next d.Next ∧ Fr (bl []) w0 (bl [.row 3 1 p27 n29 c28 vs25, .row 22 1 p15 n17 c16 vs13, .blk B2 (.cells #[.int .i64 d.Letters, .int .i64 d.Start, .slice p_d_Final d.Final.length c_d_Final, .slice p_d_Next d.Next.length c_d_Next] 42 (0, 0))]) w) H ⟨0, none, 0, [], ⟨rfl, rfl, rfl, rfl, rfl, rfl, trivial⟩, hO, hE21, hE14, h_d_Final, h_d_Next, hB⟩ ?_
  rintro X2 ⟨k2_23, f2_24⟩ H hX2 σ w22 ⟨n29, p27, c28, vs25, hag, hO, hE26, hE14, h_d_Final, h_d_Next, hB⟩
  dsimp only at H
  refine Go1.keep [(1, .pointer (some ⟨B2, 0, none⟩)), (3, .slice p15 n17 c16), (4, .int .i64 (x1_11 : Int)), (5, .slice p27 n29 c28), (15, .int .i64 (d.Next.length : Int)), (16, .int .i64 (k2_23 : Int))] hag ?_
  refine Go1.seq ?_
  refine Go1.region ?_
  by_cases h30 : (k2_23 : Int) < (d.Next.length : Int)
  ·replace H := ifp h30 H
   refine GoR.op ((fun w => opB (op_lss rfl rfl w) (decide_eq_true h30)) _) rfl rfl ?_
   refine GoR.nil ?_
   refine Go1.seq ?_
   refine Go1.condT rfl rfl ?_
   refine Go1.skip ?_
   refine Go1.seq ?_
   refine Go1.block ?_
   refine Go1.seq ?_
   refine Go1.region ?_
   refine GoR.op ((op_move rfl) _) rfl rfl ?_
   refine GoR.op ((op_assign rfl) _) rfl rfl ?_
   refine GoR.nil ?_
   refine Go1.region ?_
   refine GoR.op ((op_move rfl) _) rfl rfl ?_
   refine GoR.op ((op_fieldAddr Try.underlying42 rfl ti35 rfl (by decide)) _) rfl rfl ?_
   refine GoR.op ((oblk 2 hO rfl rfl Try.underlying35 rfl rfl) _ (Same.refl _)) rfl rfl ?_
   refine GoR.op ((op_move rfl) _) rfl rfl ?_
   obtain ⟨h31, H⟩ := H
   obtain ⟨h32, H⟩ := H
   refine GoR.op ((op_index Try.underlying35 ti22 rfl rfl h31 h32 (h_d_Next.some_ h31 h32)) _) rfl rfl ?_
   have hobt := ldSl h_d_Next h31 h32
   obtain ⟨p33, c34, hi35, hl36⟩ := hobt
   refine GoR.op ((hl36 Try.underlying22 rfl rfl) _ (Same.refl _)) rfl rfl ?_
   refine GoR.op ((op_move rfl) _) rfl rfl ?_
   obtain ⟨h37, H⟩ := H
   obtain ⟨h38, H⟩ := H
   refine GoR.op ((op_index Try.underlying22 ti3 rfl rfl h37 h38 (hi35.some_ h37 h38)) _) rfl rfl ?_
   refine GoR.op ((ldInt hi35 h37 h38 Try.underlying3 rfl rfl) _ (Same.refl _)) rfl rfl ?_
   have hobt := obuild (r := Rp.int .i64) (n := 1) (parts := [(0, .int .i64 (ix (ix d.Next (k2_23 : Int)) (x1_11 : Int)))]) (vs := [.int .i64 (ix (ix d.Next (k2_23 : Int)) (x1_11 : Int))]) (xs := [(ix (ix d.Next (k2_23 : Int)) (x1_11 : Int))]) rfl Try.underlying22 ti3 hO (by decide) (by kernel_rfl) (Els.cons rfl rfl (Els.nil _ _ _) (by decide)) rfl
   obtain ⟨w39, p40, hst41, hE42, hs43, hop44⟩ := hobt
   refine GoR.op (hop44 rfl) rfl rfl ?_
   replace hE26 := hE26.ch hst41.ch
   replace hE14 := hE14.ch hst41.ch
   replace hO := hst41.own
   replace h_d_Final := h_d_Final.ch hst41.ch
   replace h_d_Next := h_d_Next.ch hst41.ch
   replace hi35 := hi35.ch hst41.ch
   replace hB := hB.trans hst41.fr
   have hobt := freeze 0 hO rfl hE42
   obtain ⟨hO1, hc48, hi46, hn47⟩ := hobt
   replace h_d_Final := h_d_Final.ch hc48
   replace h_d_Next := h_d_Next.ch hc48
   replace hi35 := hi35.ch hc48
   replace hE26 := hE26.ch hc48
   replace hE14 := hE14.ch hc48
   replace hB := hB.trans (Owns.dropFr _ _ 0)
   replace hO := hO1; clear hO1
   obtain ⟨h49, H⟩ := H
   have hobt := oapp Try.underlying22 ti3 rfl 0 hO rfl hE26 hi46 hn47 h49 (by decide)
   obtain ⟨w50, p51, c52, vs53, hst54, hE55, hop56⟩ := hobt
   refine GoR.op (hop56 rfl rfl) rfl rfl ?_
   replace hE14 := hE14.ch hst54.ch
   replace hO := hst54.own
   replace h_d_Final := h_d_Final.ch hst54.ch
   replace h_d_Next := h_d_Next.ch hst54.ch
   replace hi35 := hi35.ch hst54.ch
   replace hi46 := hi46.ch hst54.ch
   replace hB := hB.trans hst54.fr
   refine GoR.op ((op_assign rfl) _) rfl rfl ?_
   refine GoR.nil ?_
   refine Go1.inBlock ?_
   refine Go1.region ?_
   refine GoR.op ((op_add rfl rfl (wrap_i64 (natbd h30 h_d_Next.bd))) _) rfl rfl ?_
   refine GoR.op ((op_move rfl) _) rfl rfl ?_
   refine GoR.nil ?_
   exact hX2 _ H _ _ ⟨n29 + 1, p51, c52, vs53, ⟨rfl, rfl, rfl, rfl, rfl, rfl, trivial⟩, hO, hE55, hE14, h_d_Final, h_d_Next, hB⟩
  ·replace H := ifn h30 H
   refine GoR.op ((fun w => opB (op_lss rfl rfl w) (decide_eq_false h30)) _) rfl rfl ?_
   refine GoR.nil ?_
   refine Go1.seq ?_
   refine Go1.condF rfl rfl ?_
   refine Go1.exit rfl ?_
   refine Go1.region ?_
   refine GoR.op ((op_move rfl) _) rfl rfl ?_
   refine GoR.op ((op_move rfl) _) rfl rfl ?_
   have hobt := freeze 0 hO rfl hE26
   obtain ⟨hO1, hc60, hi58, hn59⟩ := hobt
   replace h_d_Final := h_d_Final.ch hc60
   replace h_d_Next := h_d_Next.ch hc60
   replace hE14 := hE14.ch hc60
   replace hB := hB.trans (Owns.dropFr _ _ 0)
   replace hO := hO1; clear hO1
   have hobt := obuild (r := Rp.sl (Rp.int .i64)) (n := 1) (parts := [(0, .slice p27 n29 c28)]) (vs := [.slice p27 n29 c28]) (xs := [f2_24]) rfl Try.underlying35 ti22 hO (by decide) (by kernel_rfl) (Els.cons rfl ⟨p27, c28, congrArg some (congrArg (fun nn => Value.slice p27 nn c28) hn59), hi58⟩ (Els.nil _ _ _) (by decide)) rfl
   obtain ⟨w61, p62, hst63, hE64, hs65, hop66⟩ := hobt
   refine GoR.op (hop66 rfl) rfl rfl ?_
   replace hE14 := hE14.ch hst63.ch
   replace hO := hst63.own
   replace h_d_Final := h_d_Final.ch hst63.ch
   replace h_d_Next := h_d_Next.ch hst63.ch
   replace hi58 := hi58.ch hst63.ch
   replace hB := hB.trans hst63.fr
   have hobt := freeze 0 hO rfl hE64
   obtain ⟨hO1, hc70, hi68, hn69⟩ := hobt
   replace h_d_Final := h_d_Final.ch hc70
   replace h_d_Next := h_d_Next.ch hc70
   replace hi58 := hi58.ch hc70
   replace hE14 := hE14.ch hc70
   replace hB := hB.trans (Owns.dropFr _ _ 0)
   replace hO := hO1; clear hO1
   obtain ⟨h71, H⟩ := H
   have hobt := oapp Try.underlying35 ti22 rfl 0 hO rfl hE14 hi68 hn69 h71 (by decide)
   obtain ⟨w72, p73, c74, vs75, hst76, hE77, hop78⟩ := hobt
   refine GoR.op (hop78 rfl rfl) rfl rfl ?_
   replace hO := hst76.own
   replace h_d_Final := h_d_Final.ch hst76.ch
   replace h_d_Next := h_d_Next.ch hst76.ch
   replace hi58 := hi58.ch hst76.ch
   replace hi68 := hi68.ch hst76.ch
   replace hB := hB.trans hst76.fr
   refine GoR.op ((op_assign rfl) _) rfl rfl ?_
   refine GoR.nil ?_
   refine Go1.inBlock ?_
   refine Go1.region ?_
   refine GoR.op ((op_move rfl) _) rfl rfl ?_
   obtain ⟨h80, H⟩ := H
   refine GoR.op ((op_add rfl rfl (wrap_i64 h80)) _) rfl rfl ?_
   refine GoR.op ((op_assign rfl) _) rfl rfl ?_
   refine GoR.nil ?_
   exact hX1 _ H _ _ ⟨n17 + 1, p73, c74, vs75, ⟨rfl, rfl, rfl, trivial⟩, hO, hE77, h_d_Final, h_d_Next, hB⟩
 ·replace H := ifn h18 H
  refine GoR.op ((fun w => opB (op_lss rfl rfl w) (decide_eq_false h18)) _) rfl rfl ?_
  refine GoR.nil ?_
  refine Go1.condF rfl rfl ?_
  refine Go1.exit rfl ?_
  refine Go1.seq ?_
  refine Go1.region ?_
  refine GoR.op ((op_move rfl) _) rfl rfl ?_
  refine GoR.op ((op_assign rfl) _) rfl rfl ?_
  refine GoR.nil ?_
  have hobt := freeze 0 hO rfl hE14
  obtain ⟨hO1, hc83, hi81, hn82⟩ := hobt
  replace h_d_Final := h_d_Final.ch hc83
  replace h_d_Next := h_d_Next.ch hc83
  replace hB := hB.trans (Owns.dropFr _ _ 0)
  replace hO := hO1; clear hO1
  refine Go1.ret1 Try.func36 rfl ?_
  exact ⟨out1_12, p15, c16, ((congrArg (fun nn => Value.slice p15 nn c16) hn82)), hB.same, (hi81.ch (Ch.weak _ _ _)), H⟩
theorem body35 : Body Try.prog 35 := ⟨Try.f35, Try.func35, rfl, by kernel_rfl⟩
theorem walk_ref03_SameRows {A : List Nat} {w0 : World} {p_a : Option Addr} {c_a : Nat} {p_b : Option Addr} {c_b : Nat} {a : List (List Int)} {b : List (List Int)} (hA : ∀ b ∈ A, b < w0.heap.size) (h_a : ISl (Rp.sl (Rp.int .i64)) A w0 p_a c_a a) (h_b : ISl (Rp.sl (Rp.int .i64)) A w0 p_b c_b b) {K : Bool → Prop} (H : ref03_SameRows a b K) :
    CallsV Try.prog 35 #[.slice p_a a.length c_a, .slice p_b b.length c_b] w0 (fun v w' => ∃ (r0 : Bool), v = .bool r0 ∧ Same w0 w' ∧ K r0) := by
 refine CallsV.of (l := [.slice p_a a.length c_a, .slice p_b b.length c_b]) Try.func35 rfl Try.ntmps35 rfl ?_
 have hO := Owns.start hA
 have hB := Fr.refl (bl []) w0
 unfold ref03_SameRows at H
 replace h_a := h_a.ch (Ch.start A w0)
 replace h_b := h_b.ch (Ch.start A w0)
 refine Go1.seq ?_
 refine Go1.region ?_
 refine GoR.op ((op_assign rfl) _) rfl rfl ?_
 refine GoR.nil ?_
 refine Go1.seq ?_
 refine Go1.seq ?_
 refine Go1.region ?_
 refine GoR.op ((op_move rfl) _) rfl rfl ?_
 refine GoR.op ((op_len Try.underlying35 rfl) _) rfl rfl ?_
 replace H := H h_a.bd
 refine GoR.op ((op_move rfl) _) rfl rfl ?_
 refine GoR.op ((op_len Try.underlying35 rfl) _) rfl rfl ?_
 replace H := H h_b.bd
 by_cases h1 : (a.length : Int) = (b.length : Int)
 ·replace H := ifp h1 H
  refine GoR.op ((fun w => opB (op_neq rfl rfl w) (ndT h1)) _) rfl rfl ?_
  refine GoR.nil ?_
  refine Go1.condF rfl rfl ?_
  refine Go1.skip ?_
  refine Go1.seq ?_
  refine Go1.seq ?_
  refine Go1.region ?_
  refine GoR.op ((op_move rfl) _) rfl rfl ?_
  refine GoR.op ((op_len Try.underlying35 rfl) _) rfl rfl ?_
  refine GoR.op ((op_move rfl) _) rfl rfl ?_
  refine GoR.nil ?_
  refine Go1.block ?_
  refine Go1.loopW (S := Nat) (fun s σ w => agrees σ [(0, .slice p_a a.length c_a), (1, .slice p_b b.length c_b), (12, .int .i64 (a.length : Int)), (13, .int .i64 (s : Int))] ∧ Owns w0.heap.size w [] A ∧ ISl (Rp.sl (Rp.int .i64)) (bl [] ++ A) w p_a c_a a ∧ ISl (Rp.sl (Rp.int .i64)) (bl [] ++ A) w p_b c_b b ∧ Fr (bl []) w0 (bl []) w) H ⟨⟨rfl, rfl, rfl, rfl, trivial⟩, hO, h_a, h_b, hB⟩ ?_
  rintro X1 k1_3 H hX1 σ w2 ⟨hag, hO, h_a, h_b, hB⟩
  refine Go1.keep [(0, .slice p_a a.length c_a), (1, .slice p_b b.length c_b), (12, .int .i64 (a.length : Int)), (13, .int .i64 (k1_3 : Int))] hag ?_
  refine Go1.seq ?_
  refine Go1.region ?_
  by_cases h4 : (k1_3 : Int) < (a.length : Int)
  ·replace H := ifp h4 H
   refine GoR.op ((fun w => opB (op_lss rfl rfl w) (decide_eq_true h4)) _) rfl rfl ?_
   refine GoR.nil ?_
   refine Go1.seq ?_
   refine Go1.condT rfl rfl ?_
   refine Go1.skip ?_
   refine Go1.seq ?_
   refine Go1.block ?_
   refine Go1.seq ?_
   refine Go1.region ?_
   refine GoR.op ((op_move rfl) _) rfl rfl ?_
   refine GoR.op ((op_assign rfl) _) rfl rfl ?_
   refine GoR.nil ?_
   refine Go1.seq ?_
   refine Go1.drawS 0 [(0, .pure), (1, .pure), (2, .pure), (3, .stable), (4, .pure), (5, .pure), (6, .pure), (7, .stable), (8, .loud), (9, .pure)] mixed (by kernel_rfl) ?_
   intro w5 hs6
   have hst7 := Stp.same hO hs6
   replace hO := hst7.own
   replace h_a := h_a.ch hst7.ch
   replace h_b := h_b.ch hst7.ch
   replace hB := hB.trans hst7.fr
   refine GoQ.pure rfl (op_move rfl) rfl rfl ?_
   refine GoQ.pure rfl (op_move rfl) rfl rfl ?_
   obtain ⟨h8, H⟩ := H
   obtain ⟨h9, H⟩ := H
   refine GoQ.pure rfl (op_index Try.underlying35 ti22 rfl rfl h8 h9 (h_a.some_ h8 h9)) rfl rfl ?_
   have hobt := ldSl h_a h8 h9
   obtain ⟨p10, c11, hi12, hl13⟩ := hobt
   refine GoQ.stable rfl (hl13 Try.underlying22 rfl rfl) rfl rfl ?_
   refine GoQ.pure rfl (op_move rfl) rfl rfl ?_
   refine GoQ.pure rfl (op_move rfl) rfl rfl ?_
   obtain ⟨h14, H⟩ := H
   obtain ⟨h15, H⟩ := H
   refine GoQ.pure rfl (op_index Try.underlying35 ti22 rfl rfl h14 h15 (h_b.some_ h14 h15)) rfl rfl ?_
   have hobt := ldSl h_b h14 h15
   obtain ⟨p16, c17, hi18, hl19⟩ := hobt
   refine GoQ.stable rfl (hl19 Try.underlying22 rfl rfl) rfl rfl ?_
   refine GoQ.call rfl (op_call body18 rfl (walk_ref03_Same hO.lt hi12 hi18 H)) (fun v w hr => by obtain ⟨_, _, hs, _⟩ := hr; assumption) rfl rfl ?_
   rintro v24 w21 ⟨r20, rfl, hs22, H⟩
   have hst25 := Stp.same hO hs22
   replace hO := hst25.own
   replace h_a := h_a.ch hst25.ch
   replace h_b := h_b.ch hst25.ch
   replace hi12 := hi12.ch hst25.ch
   replace hi18 := hi18.ch hst25.ch
   replace hB := hB.trans hst25.fr
   cases r20
   ·replace H := ifn Bool.false_ne_true H
    refine GoQ.pure rfl (op_not rfl) rfl rfl ?_
    refine GoQ.nil ?_
    refine Go1.condT rfl rfl ?_
    refine Go1.seq ?_
    refine Go1.region ?_
    refine GoR.op ((op_assign rfl) _) rfl rfl ?_
    refine GoR.nil ?_
    refine Go1.ret1 Try.func35 rfl ?_
    exact ⟨false, rfl, hB.same, H⟩
   ·replace H := ifp rfl H
    refine GoQ.pure rfl (op_not rfl) rfl rfl ?_
    refine GoQ.nil ?_
    refine Go1.condF rfl rfl ?_
    refine Go1.skip ?_
    refine Go1.inBlock ?_
    refine Go1.region ?_
    refine GoR.op ((op_add rfl rfl (wrap_i64 (natbd h4 h_a.bd))) _) rfl rfl ?_
    refine GoR.op ((op_move rfl) _) rfl rfl ?_
    refine GoR.nil ?_
    exact hX1 _ H _ _ ⟨⟨rfl, rfl, rfl, rfl, trivial⟩, hO, h_a, h_b, hB⟩
  ·replace H := ifn h4 H
   refine GoR.op ((fun w => opB (op_lss rfl rfl w) (decide_eq_false h4)) _) rfl rfl ?_
   refine GoR.nil ?_
   refine Go1.seq ?_
   refine Go1.condF rfl rfl ?_
   refine Go1.exit rfl ?_
   refine Go1.seq ?_
   refine Go1.region ?_
   refine GoR.op ((op_assign rfl) _) rfl rfl ?_
   refine GoR.nil ?_
   refine Go1.ret1 Try.func35 rfl ?_
   exact ⟨true, rfl, hB.same, H⟩
 ·replace H := ifn h1 H
  refine GoR.op ((fun w => opB (op_neq rfl rfl w) (ndF h1)) _) rfl rfl ?_
  refine GoR.nil ?_
  refine Go1.condT rfl rfl ?_
  refine Go1.seq ?_
  refine Go1.region ?_
  refine GoR.op ((op_assign rfl) _) rfl rfl ?_
  refine GoR.nil ?_
  refine Go1.ret1 Try.func35 rfl ?_
  exact ⟨false, rfl, hB.same, H⟩
theorem body8 : Body Try.prog 8 := ⟨Try.f8, Try.func8, rfl, by kernel_rfl⟩
theorem walk_law11_TransLetters {A : List Nat} {w0 : World} {p_d_Final : Option Addr} {c_d_Final : Nat} {p_d_Next : Option Addr} {c_d_Next : Nat} {d : DFA} (hA : ∀ b ∈ A, b < w0.heap.size) (h_d_Final : ISl (Rp.bool) A w0 p_d_Final c_d_Final d.Final) (h_d_Next : ISl (Rp.sl (Rp.int .i64)) A w0 p_d_Next c_d_Next d.Next) {K : Bool → Prop} (H : law11_TransLetters d K) :
    CallsV Try.prog 8 #[.agg #[.int .i64 d.Letters, .int .i64 d.Start, .slice p_d_Final d.Final.length c_d_Final, .slice p_d_Next d.Next.length c_d_Next]] w0 (fun v w' => ∃ (r0 : Bool), v = .bool r0 ∧ Same w0 w' ∧ K r0) := by
 refine CallsV.of (l := [.agg #[.int .i64 d.Letters, .int .i64 d.Start, .slice p_d_Final d.Final.length c_d_Final, .slice p_d_Next d.Next.length c_d_Next]]) Try.func8 rfl Try.ntmps8 rfl ?_
 have hO := Owns.start hA
 have hB := Fr.refl (bl []) w0
 unfold law11_TransLetters at H
 replace h_d_Final := h_d_Final.ch (Ch.start A w0)
 replace h_d_Next := h_d_Next.ch (Ch.start A w0)
 refine Go1.seq ?_
 refine Go1.region ?_
 have hobt := obox (t := 42) (v := .agg #[.int .i64 d.Letters, .int .i64 d.Start, .slice p_d_Final d.Final.length c_d_Final, .slice p_d_Next d.Next.length c_d_Next]) (cs := #[.int .i64 d.Letters, .int .i64 d.Start, .slice p_d_Final d.Final.length c_d_Final, .slice p_d_Next d.Next.length c_d_Next]) hO rfl
 obtain ⟨w1, B2, hst3, hs4, hop5⟩ := hobt
 refine GoR.op (hop5 rfl) rfl rfl ?_
 replace hO := hst3.own
 replace h_d_Final := h_d_Final.ch hst3.ch
 replace h_d_Next := h_d_Next.ch hst3.ch
 replace hB := hB.trans hst3.fr
 refine GoR.op ((op_assign rfl) _) rfl rfl ?_
 refine GoR.nil ?_
 refine Go1.seq ?_
 refine Go1.region ?_
 refine GoR.op ((oblkAgg (vs := [.int .i64 d.Letters, .int .i64 d.Start, .slice p_d_Final d.Final.length c_d_Final, .slice p_d_Next d.Next.length c_d_Next]) 0 hO rfl rfl Try.underlying42 rfl ti42 rfl) _ (Same.refl _)) rfl rfl ?_
 refine GoR.call (op_call body33 rfl (walk_trans_OfDFA hO.lt h_d_Final h_d_Next H)) rfl rfl ?_
 rintro v12 w9 ⟨r7, r8, p_r7, c_r7, rfl, hs10, h_r7, H⟩
 have hst13 := Stp.same hO hs10
 replace hO := hst13.own
 replace h_d_Final := h_d_Final.ch hst13.ch
 replace h_d_Next := h_d_Next.ch hst13.ch
 replace hB := hB.trans hst13.fr
 refine GoR.op ((op_move rfl) _) rfl rfl ?_
 refine GoR.op ((op_extract rfl rfl) _) rfl rfl ?_
 refine GoR.op ((op_extract rfl rfl) _) rfl rfl ?_
 refine GoR.op ((op_assign rfl) _) rfl rfl ?_
 refine GoR.op ((op_assign rfl) _) rfl rfl ?_
 refine GoR.nil ?_
 refine Go1.seq ?_
 refine Go1.region ?_
 refine GoR.op ((oblkAgg (vs := [.int .i64 d.Letters, .int .i64 d.Start, .slice p_d_Final d.Final.length c_d_Final, .slice p_d_Next d.Next.length c_d_Next]) 0 hO rfl rfl Try.underlying42 rfl ti42 rfl) _ (Same.refl _)) rfl rfl ?_
 refine GoR.call (op_call body34 rfl (walk_ref07_Validate hO.lt h_d_Final h_d_Next H)) rfl rfl ?_
 rintro v18 w15 ⟨r14, rfl, hs16, H⟩
 have hst19 := Stp.same hO hs16
 replace hO := hst19.own
 replace h_d_Final := h_d_Final.ch hst19.ch
 replace h_d_Next := h_d_Next.ch hst19.ch
 replace h_r7 := h_r7.ch hst19.ch
 replace hB := hB.trans hst19.fr
 refine GoR.op ((op_assign rfl) _) rfl rfl ?_
 refine GoR.nil ?_
 refine Go1.seq ?_
 refine Go1.seq ?_
 refine Go1.region ?_
 refine GoR.op ((op_move rfl) _) rfl rfl ?_
 by_cases h20 : r14 = (0 : Int)
 ·replace H := ifp h20 H
  refine GoR.op ((fun w => opB (op_eql rfl rfl w) (decide_eq_true h20)) _) rfl rfl ?_
  refine GoR.op ((op_move rfl) _) rfl rfl ?_
  refine GoR.op ((op_fieldAddr Try.underlying42 rfl ti40 rfl (by decide)) _) rfl rfl ?_
  refine GoR.op ((oblk 0 hO rfl rfl Try.underlying40 rfl rfl) _ (Same.refl _)) rfl rfl ?_
  refine GoR.op ((op_len Try.underlying40 rfl) _) rfl rfl ?_
  replace H := H h_d_Final.bd
  by_cases h21 : (32 : Int) < (d.Final.length : Int)
  ·replace H := ifp h21 H
   refine GoR.op ((fun w => opB (op_gtr rfl rfl w) (decide_eq_true h21)) _) rfl rfl ?_
   refine GoR.op ((op_pickT rfl rfl rfl) _) rfl rfl ?_
   refine GoR.nil ?_
   refine Go1.condT rfl rfl ?_
   refine Go1.region ?_
   refine GoR.op ((op_assign rfl) _) rfl rfl ?_
   refine GoR.nil ?_
   refine Go1.seq ?_
   refine Go1.seq ?_
   refine Go1.region ?_
   refine GoR.op ((op_move rfl) _) rfl rfl ?_
   by_cases h22 : (3 : Int) = (0 : Int)
   ·replace H := ifp h22 H
    refine GoR.op ((fun w => opB (op_neq rfl rfl w) (ndT h22)) _) rfl rfl ?_
    refine GoR.nil ?_
    refine Go1.condF rfl rfl ?_
    refine Go1.skip ?_
    refine Go1.seq ?_
    refine Go1.region ?_
    refine GoR.op ((op_move rfl) _) rfl rfl ?_
    by_cases h23 : r8 = (0 : Int)
    ·replace H := ifp h23 H
     refine GoR.op ((fun w => opB (op_eql rfl rfl w) (decide_eq_true h23)) _) rfl rfl ?_
     refine GoR.op ((op_move rfl) _) rfl rfl ?_
     refine GoR.op ((op_move rfl) _) rfl rfl ?_
     refine GoR.op ((oblkAgg (vs := [.int .i64 d.Letters, .int .i64 d.Start, .slice p_d_Final d.Final.length c_d_Final, .slice p_d_Next d.Next.length c_d_Next]) 0 hO rfl rfl Try.underlying42 rfl ti42 rfl) _ (Same.refl _)) rfl rfl ?_
     refine GoR.call (op_call body36 rfl (walk_ref11_OfDFA hO.lt h_d_Final h_d_Next H)) rfl rfl ?_
     rintro v28 w25 ⟨r24, p_r24, c_r24, rfl, hs26, h_r24, H⟩
     have hst29 := Stp.same hO hs26
     replace hO := hst29.own
     replace h_d_Final := h_d_Final.ch hst29.ch
     replace h_d_Next := h_d_Next.ch hst29.ch
     replace h_r7 := h_r7.ch hst29.ch
     replace hB := hB.trans hst29.fr
     refine GoR.call (op_call body35 rfl (walk_ref03_SameRows hO.lt h_r7 h_r24 H)) rfl rfl ?_
     rintro v34 w31 ⟨r30, rfl, hs32, H⟩
     have hst35 := Stp.same hO hs32
     replace hO := hst35.own
     replace h_d_Final := h_d_Final.ch hst35.ch
     replace h_d_Next := h_d_Next.ch hst35.ch
     replace h_r7 := h_r7.ch hst35.ch
     replace h_r24 := h_r24.ch hst35.ch
     replace hB := hB.trans hst35.fr
     refine GoR.op ((op_pickT rfl rfl rfl) _) rfl rfl ?_
     refine GoR.op ((op_move rfl) _) rfl rfl ?_
     cases r30
     ·replace H := ifn Bool.false_ne_true H
      refine GoR.pass rfl rfl ?_
      refine GoR.op ((op_pickF rfl rfl rfl) _) rfl rfl ?_
      refine GoR.op ((op_assign rfl) _) rfl rfl ?_
      refine GoR.nil ?_
      refine Go1.ret1 Try.func8 rfl ?_
      exact ⟨false, rfl, hB.same, H⟩
     ·replace H := ifp rfl H
      refine GoR.call (op_call body17 rfl (walk_law11_awake hO.lt H)) rfl rfl ?_
      rintro v40 w37 ⟨r36, rfl, hs38, H⟩
      have hst41 := Stp.same hO hs38
      replace hO := hst41.own
      replace h_d_Final := h_d_Final.ch hst41.ch
      replace h_d_Next := h_d_Next.ch hst41.ch
      replace h_r7 := h_r7.ch hst41.ch
      replace h_r24 := h_r24.ch hst41.ch
      replace hB := hB.trans hst41.fr
      refine GoR.op ((op_pickT rfl rfl rfl) _) rfl rfl ?_
      refine GoR.op ((op_assign rfl) _) rfl rfl ?_
      refine GoR.nil ?_
      refine Go1.ret1 Try.func8 rfl ?_
      exact ⟨r36, rfl, hB.same, H⟩
    ·replace H := ifn h23 H
     refine GoR.op ((fun w => opB (op_eql rfl rfl w) (decide_eq_false h23)) _) rfl rfl ?_
     refine GoR.op ((op_move rfl) _) rfl rfl ?_
     refine GoR.pass rfl rfl ?_
     refine GoR.pass rfl rfl ?_
     refine GoR.pass rfl rfl ?_
     refine GoR.pass rfl rfl ?_
     refine GoR.op ((op_pickF rfl rfl rfl) _) rfl rfl ?_
     refine GoR.op ((op_move rfl) _) rfl rfl ?_
     refine GoR.pass rfl rfl ?_
     refine GoR.op ((op_pickF rfl rfl rfl) _) rfl rfl ?_
     refine GoR.op ((op_assign rfl) _) rfl rfl ?_
     refine GoR.nil ?_
     refine Go1.ret1 Try.func8 rfl ?_
     exact ⟨false, rfl, hB.same, H⟩
   ·replace H := ifn h22 H
    refine GoR.op ((fun w => opB (op_neq rfl rfl w) (ndF h22)) _) rfl rfl ?_
    refine GoR.nil ?_
    refine Go1.condT rfl rfl ?_
    refine Go1.seq ?_
    refine Go1.region ?_
    refine GoR.op ((op_move rfl) _) rfl rfl ?_
    refine GoR.op ((op_move rfl) _) rfl rfl ?_
    by_cases h42 : r8 = (3 : Int)
    ·replace H := ifp h42 H
     refine GoR.op ((fun w => opB (op_eql rfl rfl w) (decide_eq_true h42)) _) rfl rfl ?_
     refine GoR.op ((op_move rfl) _) rfl rfl ?_
     refine GoR.op ((op_move rfl) _) rfl rfl ?_
     refine GoR.op ((op_len Try.underlying35 rfl) _) rfl rfl ?_
     replace H := H h_r7.bd
     by_cases h43 : (r7.length : Int) = (0 : Int)
     ·replace H := ifp h43 H
      refine GoR.op ((fun w => opB (op_eql rfl rfl w) (decide_eq_true h43)) _) rfl rfl ?_
      refine GoR.op ((op_pickT rfl rfl rfl) _) rfl rfl ?_
      refine GoR.op ((op_move rfl) _) rfl rfl ?_
      refine GoR.call (op_call body17 rfl (walk_law11_awake hO.lt H)) rfl rfl ?_
      rintro v48 w45 ⟨r44, rfl, hs46, H⟩
      have hst49 := Stp.same hO hs46
      replace hO := hst49.own
      replace h_d_Final := h_d_Final.ch hst49.ch
      replace h_d_Next := h_d_Next.ch hst49.ch
      replace h_r7 := h_r7.ch hst49.ch
      replace hB := hB.trans hst49.fr
      refine GoR.op ((op_pickT rfl rfl rfl) _) rfl rfl ?_
      refine GoR.op ((op_assign rfl) _) rfl rfl ?_
      refine GoR.nil ?_
      refine Go1.ret1 Try.func8 rfl ?_
      exact ⟨r44, rfl, hB.same, H⟩
     ·replace H := ifn h43 H
      refine GoR.op ((fun w => opB (op_eql rfl rfl w) (decide_eq_false h43)) _) rfl rfl ?_
      refine GoR.op ((op_pickT rfl rfl rfl) _) rfl rfl ?_
      refine GoR.op ((op_move rfl) _) rfl rfl ?_
      refine GoR.pass rfl rfl ?_
      refine GoR.op ((op_pickF rfl rfl rfl) _) rfl rfl ?_
      refine GoR.op ((op_assign rfl) _) rfl rfl ?_
      refine GoR.nil ?_
      refine Go1.ret1 Try.func8 rfl ?_
      exact ⟨false, rfl, hB.same, H⟩
    ·replace H := ifn h42 H
     refine GoR.op ((fun w => opB (op_eql rfl rfl w) (decide_eq_false h42)) _) rfl rfl ?_
     refine GoR.op ((op_move rfl) _) rfl rfl ?_
     refine GoR.pass rfl rfl ?_
     refine GoR.pass rfl rfl ?_
     refine GoR.pass rfl rfl ?_
     refine GoR.op ((op_pickF rfl rfl rfl) _) rfl rfl ?_
     refine GoR.op ((op_move rfl) _) rfl rfl ?_
     refine GoR.pass rfl rfl ?_
     refine GoR.op ((op_pickF rfl rfl rfl) _) rfl rfl ?_
     refine GoR.op ((op_assign rfl) _) rfl rfl ?_
     refine GoR.nil ?_
     refine Go1.ret1 Try.func8 rfl ?_
     exact ⟨false, rfl, hB.same, H⟩
  ·replace H := ifn h21 H
   refine GoR.op ((fun w => opB (op_gtr rfl rfl w) (decide_eq_false h21)) _) rfl rfl ?_
   refine GoR.op ((op_pickT rfl rfl rfl) _) rfl rfl ?_
   refine GoR.nil ?_
   refine Go1.condF rfl rfl ?_
   refine Go1.skip ?_
   refine Go1.seq ?_
   refine Go1.seq ?_
   refine Go1.region ?_
   refine GoR.op ((op_move rfl) _) rfl rfl ?_
   refine GoR.op ((fun w => opB (op_neq rfl rfl w) (ndT h20)) _) rfl rfl ?_
   refine GoR.nil ?_
   refine Go1.condF rfl rfl ?_
   refine Go1.skip ?_
   refine Go1.seq ?_
   refine Go1.region ?_
   refine GoR.op ((op_move rfl) _) rfl rfl ?_
   by_cases h50 : r8 = (0 : Int)
   ·replace H := ifp h50 H
    refine GoR.op ((fun w => opB (op_eql rfl rfl w) (decide_eq_true h50)) _) rfl rfl ?_
    refine GoR.op ((op_move rfl) _) rfl rfl ?_
    refine GoR.op ((op_move rfl) _) rfl rfl ?_
    refine GoR.op ((oblkAgg (vs := [.int .i64 d.Letters, .int .i64 d.Start, .slice p_d_Final d.Final.length c_d_Final, .slice p_d_Next d.Next.length c_d_Next]) 0 hO rfl rfl Try.underlying42 rfl ti42 rfl) _ (Same.refl _)) rfl rfl ?_
    refine GoR.call (op_call body36 rfl (walk_ref11_OfDFA hO.lt h_d_Final h_d_Next H)) rfl rfl ?_
    rintro v55 w52 ⟨r51, p_r51, c_r51, rfl, hs53, h_r51, H⟩
    have hst56 := Stp.same hO hs53
    replace hO := hst56.own
    replace h_d_Final := h_d_Final.ch hst56.ch
    replace h_d_Next := h_d_Next.ch hst56.ch
    replace h_r7 := h_r7.ch hst56.ch
    replace hB := hB.trans hst56.fr
    refine GoR.call (op_call body35 rfl (walk_ref03_SameRows hO.lt h_r7 h_r51 H)) rfl rfl ?_
    rintro v61 w58 ⟨r57, rfl, hs59, H⟩
    have hst62 := Stp.same hO hs59
    replace hO := hst62.own
    replace h_d_Final := h_d_Final.ch hst62.ch
    replace h_d_Next := h_d_Next.ch hst62.ch
    replace h_r7 := h_r7.ch hst62.ch
    replace h_r51 := h_r51.ch hst62.ch
    replace hB := hB.trans hst62.fr
    refine GoR.op ((op_pickT rfl rfl rfl) _) rfl rfl ?_
    refine GoR.op ((op_move rfl) _) rfl rfl ?_
    cases r57
    ·replace H := ifn Bool.false_ne_true H
     refine GoR.pass rfl rfl ?_
     refine GoR.op ((op_pickF rfl rfl rfl) _) rfl rfl ?_
     refine GoR.op ((op_assign rfl) _) rfl rfl ?_
     refine GoR.nil ?_
     refine Go1.ret1 Try.func8 rfl ?_
     exact ⟨false, rfl, hB.same, H⟩
    ·replace H := ifp rfl H
     refine GoR.call (op_call body17 rfl (walk_law11_awake hO.lt H)) rfl rfl ?_
     rintro v67 w64 ⟨r63, rfl, hs65, H⟩
     have hst68 := Stp.same hO hs65
     replace hO := hst68.own
     replace h_d_Final := h_d_Final.ch hst68.ch
     replace h_d_Next := h_d_Next.ch hst68.ch
     replace h_r7 := h_r7.ch hst68.ch
     replace h_r51 := h_r51.ch hst68.ch
     replace hB := hB.trans hst68.fr
     refine GoR.op ((op_pickT rfl rfl rfl) _) rfl rfl ?_
     refine GoR.op ((op_assign rfl) _) rfl rfl ?_
     refine GoR.nil ?_
     refine Go1.ret1 Try.func8 rfl ?_
     exact ⟨r63, rfl, hB.same, H⟩
   ·replace H := ifn h50 H
    refine GoR.op ((fun w => opB (op_eql rfl rfl w) (decide_eq_false h50)) _) rfl rfl ?_
    refine GoR.op ((op_move rfl) _) rfl rfl ?_
    refine GoR.pass rfl rfl ?_
    refine GoR.pass rfl rfl ?_
    refine GoR.pass rfl rfl ?_
    refine GoR.pass rfl rfl ?_
    refine GoR.op ((op_pickF rfl rfl rfl) _) rfl rfl ?_
    refine GoR.op ((op_move rfl) _) rfl rfl ?_
    refine GoR.pass rfl rfl ?_
    refine GoR.op ((op_pickF rfl rfl rfl) _) rfl rfl ?_
    refine GoR.op ((op_assign rfl) _) rfl rfl ?_
    refine GoR.nil ?_
    refine Go1.ret1 Try.func8 rfl ?_
    exact ⟨false, rfl, hB.same, H⟩
 ·replace H := ifn h20 H
  refine GoR.op ((fun w => opB (op_eql rfl rfl w) (decide_eq_false h20)) _) rfl rfl ?_
  refine GoR.op ((op_move rfl) _) rfl rfl ?_
  refine GoR.pass rfl rfl ?_
  refine GoR.pass rfl rfl ?_
  refine GoR.pass rfl rfl ?_
  refine GoR.pass rfl rfl ?_
  refine GoR.op ((op_pickF rfl rfl rfl) _) rfl rfl ?_
  refine GoR.nil ?_
  refine Go1.condF rfl rfl ?_
  refine Go1.skip ?_
  refine Go1.seq ?_
  refine Go1.seq ?_
  refine Go1.region ?_
  refine GoR.op ((op_move rfl) _) rfl rfl ?_
  refine GoR.op ((fun w => opB (op_neq rfl rfl w) (ndF h20)) _) rfl rfl ?_
  refine GoR.nil ?_
  refine Go1.condT rfl rfl ?_
  refine Go1.seq ?_
  refine Go1.region ?_
  refine GoR.op ((op_move rfl) _) rfl rfl ?_
  refine GoR.op ((op_move rfl) _) rfl rfl ?_
  by_cases h69 : r8 = r14
  ·replace H := ifp h69 H
   refine GoR.op ((fun w => opB (op_eql rfl rfl w) (decide_eq_true h69)) _) rfl rfl ?_
   refine GoR.op ((op_move rfl) _) rfl rfl ?_
   refine GoR.op ((op_move rfl) _) rfl rfl ?_
   refine GoR.op ((op_len Try.underlying35 rfl) _) rfl rfl ?_
   replace H := H h_r7.bd
   by_cases h70 : (r7.length : Int) = (0 : Int)
   ·replace H := ifp h70 H
    refine GoR.op ((fun w => opB (op_eql rfl rfl w) (decide_eq_true h70)) _) rfl rfl ?_
    refine GoR.op ((op_pickT rfl rfl rfl) _) rfl rfl ?_
    refine GoR.op ((op_move rfl) _) rfl rfl ?_
    refine GoR.call (op_call body17 rfl (walk_law11_awake hO.lt H)) rfl rfl ?_
    rintro v75 w72 ⟨r71, rfl, hs73, H⟩
    have hst76 := Stp.same hO hs73
    replace hO := hst76.own
    replace h_d_Final := h_d_Final.ch hst76.ch
    replace h_d_Next := h_d_Next.ch hst76.ch
    replace h_r7 := h_r7.ch hst76.ch
    replace hB := hB.trans hst76.fr
    refine GoR.op ((op_pickT rfl rfl rfl) _) rfl rfl ?_
    refine GoR.op ((op_assign rfl) _) rfl rfl ?_
    refine GoR.nil ?_
    refine Go1.ret1 Try.func8 rfl ?_
    exact ⟨r71, rfl, hB.same, H⟩
   ·replace H := ifn h70 H
    refine GoR.op ((fun w => opB (op_eql rfl rfl w) (decide_eq_false h70)) _) rfl rfl ?_
    refine GoR.op ((op_pickT rfl rfl rfl) _) rfl rfl ?_
    refine GoR.op ((op_move rfl) _) rfl rfl ?_
    refine GoR.pass rfl rfl ?_
    refine GoR.op ((op_pickF rfl rfl rfl) _) rfl rfl ?_
    refine GoR.op ((op_assign rfl) _) rfl rfl ?_
    refine GoR.nil ?_
    refine Go1.ret1 Try.func8 rfl ?_
    exact ⟨false, rfl, hB.same, H⟩
  ·replace H := ifn h69 H
   refine GoR.op ((fun w => opB (op_eql rfl rfl w) (decide_eq_false h69)) _) rfl rfl ?_
   refine GoR.op ((op_move rfl) _) rfl rfl ?_
   refine GoR.pass rfl rfl ?_
   refine GoR.pass rfl rfl ?_
   refine GoR.pass rfl rfl ?_
   refine GoR.op ((op_pickF rfl rfl rfl) _) rfl rfl ?_
   refine GoR.op ((op_move rfl) _) rfl rfl ?_
   refine GoR.pass rfl rfl ?_
   refine GoR.op ((op_pickF rfl rfl rfl) _) rfl rfl ?_
   refine GoR.op ((op_assign rfl) _) rfl rfl ?_
   refine GoR.nil ?_
   refine Go1.ret1 Try.func8 rfl ?_
   exact ⟨false, rfl, hB.same, H⟩
end Sg
