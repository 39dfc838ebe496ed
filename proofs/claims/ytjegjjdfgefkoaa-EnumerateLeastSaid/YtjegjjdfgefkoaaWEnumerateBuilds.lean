/- The walks: each call keeps to its plain transformer. Printed by walkgen.py. -/
import Derived.Test.YtjegjjdfgefkoaaTi
namespace Sg
open Go Go.RowKit Go.Proofs
set_option linter.unusedVariables false
set_option linter.unusedSimpArgs false
set_option maxRecDepth 100000
set_option maxHeartbeats 4000000
theorem body48 : Body Try.prog 48 := ⟨Try.f48, Try.func48, rfl, by kernel_rfl⟩
theorem walk_ref11_Valid {A : List Nat} {w0 : World} {p_f : Option Addr} {c_f : Nat} {f : List Int} (hA : ∀ b ∈ A, b < w0.heap.size) (h_f : ISl (Rp.int .i64) A w0 p_f c_f f) {K : Bool → Prop} (H : ref11_Valid f K) :
    CallsV Try.prog 48 #[.slice p_f f.length c_f] w0 (fun v w' => ∃ (r0 : Bool), v = .bool r0 ∧ Same w0 w' ∧ K r0) := by
 refine CallsV.of (l := [.slice p_f f.length c_f]) Try.func48 rfl Try.ntmps48 rfl ?_
 have hO := Owns.start hA
 have hB := Fr.refl (bl []) w0
 unfold ref11_Valid at H
 replace h_f := h_f.ch (Ch.start A w0)
 refine Go1.seq ?_
 refine Go1.region ?_
 refine GoR.op ((op_assign rfl) _) rfl rfl ?_
 refine GoR.nil ?_
 refine Go1.seq ?_
 refine Go1.seq ?_
 refine Go1.region ?_
 refine GoR.op ((op_move rfl) _) rfl rfl ?_
 refine GoR.op ((op_len Try.underlying26 rfl) _) rfl rfl ?_
 replace H := H h_f.bd
 by_cases h1 : (f.length : Int) < (1 : Int)
 ·replace H := ifp h1 H
  refine GoR.op ((fun w => opB (op_lss rfl rfl w) (decide_eq_true h1)) _) rfl rfl ?_
  refine GoR.op ((op_move rfl) _) rfl rfl ?_
  refine GoR.pass rfl rfl ?_
  refine GoR.pass rfl rfl ?_
  refine GoR.pass rfl rfl ?_
  refine GoR.op ((op_pickT rfl rfl rfl) _) rfl rfl ?_
  refine GoR.nil ?_
  refine Go1.condT rfl rfl ?_
  refine Go1.seq ?_
  refine Go1.region ?_
  refine GoR.op ((op_assign rfl) _) rfl rfl ?_
  refine GoR.nil ?_
  refine Go1.ret1 Try.func48 rfl ?_
  exact ⟨false, rfl, hB.same, H⟩
 replace H := ifn h1 H
 refine GoR.op ((fun w => opB (op_lss rfl rfl w) (decide_eq_false h1)) _) rfl rfl ?_
 refine GoR.op ((op_move rfl) _) rfl rfl ?_
 refine GoR.op ((op_move rfl) _) rfl rfl ?_
 refine GoR.op ((op_len Try.underlying26 rfl) _) rfl rfl ?_
 by_cases h2 : (32 : Int) < (f.length : Int)
 ·replace H := ifp h2 H
  refine GoR.op ((fun w => opB (op_gtr rfl rfl w) (decide_eq_true h2)) _) rfl rfl ?_
  refine GoR.op ((op_pickF rfl rfl rfl) _) rfl rfl ?_
  refine GoR.nil ?_
  refine Go1.condT rfl rfl ?_
  refine Go1.seq ?_
  refine Go1.region ?_
  refine GoR.op ((op_assign rfl) _) rfl rfl ?_
  refine GoR.nil ?_
  refine Go1.ret1 Try.func48 rfl ?_
  exact ⟨false, rfl, hB.same, H⟩
 replace H := ifn h2 H
 refine GoR.op ((fun w => opB (op_gtr rfl rfl w) (decide_eq_false h2)) _) rfl rfl ?_
 refine GoR.op ((op_pickF rfl rfl rfl) _) rfl rfl ?_
 refine GoR.nil ?_
 refine Go1.condF rfl rfl ?_
 refine Go1.skip ?_
 refine Go1.seq ?_
 refine Go1.seq ?_
 refine Go1.region ?_
 refine GoR.op ((op_move rfl) _) rfl rfl ?_
 refine GoR.op ((op_len Try.underlying26 rfl) _) rfl rfl ?_
 refine GoR.op ((op_move rfl) _) rfl rfl ?_
 refine GoR.nil ?_
 refine Go1.block ?_
 refine Go1.loopW (S := Nat) (fun s σ w => agrees σ [(0, .slice p_f f.length c_f), (13, .slice p_f f.length c_f), (14, .int .i64 (f.length : Int)), (15, .int .i64 (s : Int))] ∧ Owns w0.heap.size w [] A ∧ ISl (Rp.int .i64) (bl [] ++ A) w p_f c_f f ∧ Fr (bl []) w0 (bl []) w) H ⟨⟨rfl, rfl, rfl, rfl, trivial⟩, hO, h_f, hB⟩ ?_
 intro X1 k1_4
 intro H hX1 σ w3
 refine andE fun hag => andE fun hO => andE fun h_f => fun hB => ?_
 refine Go1.keep [(0, .slice p_f f.length c_f), (13, .slice p_f f.length c_f), (14, .int .i64 (f.length : Int)), (15, .int .i64 (k1_4 : Int))] hag ?_
 refine Go1.seq ?_
 refine Go1.region ?_
 by_cases h5 : (k1_4 : Int) < (f.length : Int)
 ·replace H := ifp h5 H
  refine GoR.op ((fun w => opB (op_lss rfl rfl w) (decide_eq_true h5)) _) rfl rfl ?_
  refine GoR.nil ?_
  refine Go1.seq ?_
  refine Go1.condT rfl rfl ?_
  refine Go1.skip ?_
  refine Go1.seq ?_
  refine Go1.block ?_
  refine Go1.seq ?_
  refine Go1.region ?_
  obtain ⟨h6, H⟩ := H
  obtain ⟨h7, H⟩ := H
  refine GoR.op ((op_index Try.underlying26 ti3 rfl rfl h6 h7 (h_f.some_ h6 h7)) _) rfl rfl ?_
  refine GoR.op ((ldInt h_f h6 h7 Try.underlying3 rfl rfl) _ (Same.refl _)) rfl rfl ?_
  refine GoR.op ((op_assign rfl) _) rfl rfl ?_
  refine GoR.nil ?_
  refine Go1.seq ?_
  refine Go1.region ?_
  refine GoR.op ((op_move rfl) _) rfl rfl ?_
  by_cases h8 : (ix f (k1_4 : Int)) < (0 : Int)
  ·replace H := ifp h8 H
   refine GoR.op ((fun w => opB (op_lss rfl rfl w) (decide_eq_true h8)) _) rfl rfl ?_
   refine GoR.op ((op_move rfl) _) rfl rfl ?_
   refine GoR.pass rfl rfl ?_
   refine GoR.pass rfl rfl ?_
   refine GoR.pass rfl rfl ?_
   refine GoR.pass rfl rfl ?_
   refine GoR.op ((op_pickT rfl rfl rfl) _) rfl rfl ?_
   refine GoR.nil ?_
   refine Go1.condT rfl rfl ?_
   refine Go1.seq ?_
   refine Go1.region ?_
   refine GoR.op ((op_assign rfl) _) rfl rfl ?_
   refine GoR.nil ?_
   refine Go1.ret1 Try.func48 rfl ?_
   exact ⟨false, rfl, hB.same, H⟩
  replace H := ifn h8 H
  refine GoR.op ((fun w => opB (op_lss rfl rfl w) (decide_eq_false h8)) _) rfl rfl ?_
  refine GoR.op ((op_move rfl) _) rfl rfl ?_
  refine GoR.op ((op_move rfl) _) rfl rfl ?_
  refine GoR.op ((op_move rfl) _) rfl rfl ?_
  refine GoR.op ((op_len Try.underlying26 rfl) _) rfl rfl ?_
  by_cases h9 : (f.length : Int) ≤ (ix f (k1_4 : Int))
  ·replace H := ifp h9 H
   refine GoR.op ((fun w => opB (op_geq rfl rfl w) (decide_eq_true h9)) _) rfl rfl ?_
   refine GoR.op ((op_pickF rfl rfl rfl) _) rfl rfl ?_
   refine GoR.nil ?_
   refine Go1.condT rfl rfl ?_
   refine Go1.seq ?_
   refine Go1.cut [] trivial ?_
   intro σ _
   refine Go1.region ?_
   refine GoR.op ((op_assign rfl) _) rfl rfl ?_
   refine GoR.nil ?_
   refine Go1.ret1 Try.func48 rfl ?_
   exact ⟨false, rfl, hB.same, H⟩
  replace H := ifn h9 H
  refine GoR.op ((fun w => opB (op_geq rfl rfl w) (decide_eq_false h9)) _) rfl rfl ?_
  refine GoR.op ((op_pickF rfl rfl rfl) _) rfl rfl ?_
  refine GoR.nil ?_
  refine Go1.condF rfl rfl ?_
  refine Go1.skip ?_
  refine Go1.inBlock ?_
  refine Go1.region ?_
  refine GoR.op ((op_add rfl rfl (wrap_i64 (natbd h5 h_f.bd))) _) rfl rfl ?_
  refine GoR.op ((op_move rfl) _) rfl rfl ?_
  refine GoR.nil ?_
  exact hX1 _ H _ _ ⟨⟨rfl, rfl, rfl, rfl, trivial⟩, hO, h_f, hB⟩
 replace H := ifn h5 H
 refine GoR.op ((fun w => opB (op_lss rfl rfl w) (decide_eq_false h5)) _) rfl rfl ?_
 refine GoR.nil ?_
 refine Go1.seq ?_
 refine Go1.condF rfl rfl ?_
 refine Go1.exit rfl ?_
 refine Go1.seq ?_
 refine Go1.region ?_
 refine GoR.op ((op_assign rfl) _) rfl rfl ?_
 refine GoR.nil ?_
 refine Go1.ret1 Try.func48 rfl ?_
 exact ⟨true, rfl, hB.same, H⟩
theorem body14 : Body Try.prog 14 := ⟨Try.f14, Try.func14, rfl, by kernel_rfl⟩
theorem walk_ref11_MayGens {A : List Nat} {w0 : World} {fR : Option Addr} {fS : Nat} {gens : List (List Int)} (hA : ∀ b ∈ A, b < w0.heap.size) (da : ISl (Rp.sl (Rp.int .i64)) A w0 fR fS gens) {K : Bool → Prop} (H : ref11_MayGens gens K) :
    CallsV Try.prog 14 #[.slice fR gens.length fS] w0 (fun v w' => ∃ (r0 : Bool), v = .bool r0 ∧ Same w0 w' ∧ K r0) := by
 refine CallsV.of (l := [.slice fR gens.length fS]) Try.func14 rfl Try.ntmps14 rfl ?_
 have hO := Owns.start hA
 have hB := Fr.refl (bl []) w0
 unfold ref11_MayGens at H
 replace da := da.ch (Ch.start A w0)
 refine Go1.seq ?_
 refine Go1.region ?_
 refine GoR.op ((op_assign rfl) _) rfl rfl ?_
 refine GoR.nil ?_
 refine Go1.seq ?_
 refine Go1.seq ?_
 refine Go1.region ?_
 refine GoR.op ((op_move rfl) _) rfl rfl ?_
 refine GoR.op ((op_len Try.underlying22 rfl) _) rfl rfl ?_
 replace H := H da.bd
 by_cases h1 : (gens.length : Int) < (1 : Int)
 ·replace H := ifp h1 H
  refine GoR.op ((fun w => opB (op_lss rfl rfl w) (decide_eq_true h1)) _) rfl rfl ?_
  refine GoR.op ((op_move rfl) _) rfl rfl ?_
  refine GoR.pass rfl rfl ?_
  refine GoR.pass rfl rfl ?_
  refine GoR.pass rfl rfl ?_
  refine GoR.op ((op_pickT rfl rfl rfl) _) rfl rfl ?_
  refine GoR.nil ?_
  refine Go1.condT rfl rfl ?_
  refine Go1.seq ?_
  refine Go1.region ?_
  refine GoR.op ((op_assign rfl) _) rfl rfl ?_
  refine GoR.nil ?_
  refine Go1.ret1 Try.func14 rfl ?_
  exact ⟨false, rfl, hB.same, H⟩
 replace H := ifn h1 H
 refine GoR.op ((fun w => opB (op_lss rfl rfl w) (decide_eq_false h1)) _) rfl rfl ?_
 refine GoR.op ((op_move rfl) _) rfl rfl ?_
 refine GoR.op ((op_move rfl) _) rfl rfl ?_
 refine GoR.op ((op_len Try.underlying22 rfl) _) rfl rfl ?_
 by_cases h2 : (6 : Int) < (gens.length : Int)
 ·replace H := ifp h2 H
  refine GoR.op ((fun w => opB (op_gtr rfl rfl w) (decide_eq_true h2)) _) rfl rfl ?_
  refine GoR.op ((op_pickF rfl rfl rfl) _) rfl rfl ?_
  refine GoR.nil ?_
  refine Go1.condT rfl rfl ?_
  refine Go1.seq ?_
  refine Go1.region ?_
  refine GoR.op ((op_assign rfl) _) rfl rfl ?_
  refine GoR.nil ?_
  refine Go1.ret1 Try.func14 rfl ?_
  exact ⟨false, rfl, hB.same, H⟩
 replace H := ifn h2 H
 refine GoR.op ((fun w => opB (op_gtr rfl rfl w) (decide_eq_false h2)) _) rfl rfl ?_
 refine GoR.op ((op_pickF rfl rfl rfl) _) rfl rfl ?_
 refine GoR.nil ?_
 refine Go1.condF rfl rfl ?_
 refine Go1.skip ?_
 refine Go1.seq ?_
 refine Go1.seq ?_
 refine Go1.region ?_
 refine GoR.op ((op_move rfl) _) rfl rfl ?_
 refine GoR.op ((op_len Try.underlying22 rfl) _) rfl rfl ?_
 refine GoR.op ((op_move rfl) _) rfl rfl ?_
 refine GoR.nil ?_
 refine Go1.block ?_
 refine Go1.loopW (S := Nat) (fun s σ w => agrees σ [(0, .slice fR gens.length fS), (13, .slice fR gens.length fS), (14, .int .i64 (gens.length : Int)), (15, .int .i64 (s : Int))] ∧ Owns w0.heap.size w [] A ∧ ISl (Rp.sl (Rp.int .i64)) (bl [] ++ A) w fR fS gens ∧ Fr (bl []) w0 (bl []) w) H ⟨⟨rfl, rfl, rfl, rfl, trivial⟩, hO, da, hB⟩ ?_
 intro X1 k1_4
 intro H hX1 σ w3
 refine andE fun hag => andE fun hO => andE fun da => fun hB => ?_
 refine Go1.keep [(0, .slice fR gens.length fS), (13, .slice fR gens.length fS), (14, .int .i64 (gens.length : Int)), (15, .int .i64 (k1_4 : Int))] hag ?_
 refine Go1.seq ?_
 refine Go1.region ?_
 by_cases h5 : (k1_4 : Int) < (gens.length : Int)
 ·replace H := ifp h5 H
  refine GoR.op ((fun w => opB (op_lss rfl rfl w) (decide_eq_true h5)) _) rfl rfl ?_
  refine GoR.nil ?_
  refine Go1.seq ?_
  refine Go1.condT rfl rfl ?_
  refine Go1.skip ?_
  refine Go1.seq ?_
  refine Go1.block ?_
  refine Go1.seq ?_
  refine Go1.region ?_
  obtain ⟨h6, H⟩ := H
  obtain ⟨h7, H⟩ := H
  refine GoR.op ((op_index Try.underlying22 ti26 rfl rfl h6 h7 (da.some_ h6 h7)) _) rfl rfl ?_
  have hobt := ldSl da h6 h7
  obtain ⟨p8, c9, yo, Hi⟩ := hobt
  refine GoR.op ((Hi Try.underlying26 rfl rfl) _ (Same.refl _)) rfl rfl ?_
  refine GoR.op ((op_assign rfl) _) rfl rfl ?_
  refine GoR.nil ?_
  refine Go1.seq ?_
  refine Go1.region ?_
  refine GoR.op ((op_move rfl) _) rfl rfl ?_
  refine GoR.call (op_call body48 rfl (walk_ref11_Valid hO.lt yo H)) rfl rfl ?_
  rintro v16 w13 ⟨r12, rfl, Hj, H⟩
  have tL := Stp.same hO Hj
  replace hO := tL.own
  replace da := da.ch tL.ch
  replace yo := yo.ch tL.ch
  replace hB := hB.trans tL.fr
  cases r12
  ·replace H := ifn Bool.false_ne_true H
   refine GoR.op ((op_not rfl) _) rfl rfl ?_
   refine GoR.op ((op_move rfl) _) rfl rfl ?_
   refine GoR.pass rfl rfl ?_
   refine GoR.pass rfl rfl ?_
   refine GoR.pass rfl rfl ?_
   refine GoR.pass rfl rfl ?_
   refine GoR.pass rfl rfl ?_
   refine GoR.pass rfl rfl ?_
   refine GoR.pass rfl rfl ?_
   refine GoR.op ((op_pickT rfl rfl rfl) _) rfl rfl ?_
   refine GoR.nil ?_
   refine Go1.condT rfl rfl ?_
   refine Go1.seq ?_
   refine Go1.region ?_
   refine GoR.op ((op_assign rfl) _) rfl rfl ?_
   refine GoR.nil ?_
   refine Go1.ret1 Try.func14 rfl ?_
   exact ⟨false, rfl, hB.same, H⟩
  replace H := ifp rfl H
  refine GoR.op ((op_not rfl) _) rfl rfl ?_
  refine GoR.op ((op_move rfl) _) rfl rfl ?_
  refine GoR.op ((op_move rfl) _) rfl rfl ?_
  refine GoR.op ((op_len Try.underlying26 rfl) _) rfl rfl ?_
  replace H := H yo.bd
  refine GoR.op ((op_move rfl) _) rfl rfl ?_
  obtain ⟨h18, H⟩ := H
  obtain ⟨h19, H⟩ := H
  refine GoR.op ((op_index Try.underlying22 ti26 rfl rfl h18 h19 (da.some_ h18 h19)) _) rfl rfl ?_
  have hobt := ldSl da h18 h19
  obtain ⟨p20, c21, Hk, Hl⟩ := hobt
  refine GoR.op ((Hl Try.underlying26 rfl rfl) _ (Same.refl _)) rfl rfl ?_
  refine GoR.op ((op_len Try.underlying26 rfl) _) rfl rfl ?_
  replace H := H Hk.bd
  by_cases h24 : ((ix gens (k1_4 : Int)).length : Int) = ((ix gens (0 : Int)).length : Int)
  ·replace H := ifp h24 H
   refine GoR.op ((fun w => opB (op_neq rfl rfl w) (ndT h24)) _) rfl rfl ?_
   refine GoR.op ((op_pickF rfl rfl rfl) _) rfl rfl ?_
   refine GoR.nil ?_
   refine Go1.condF rfl rfl ?_
   refine Go1.skip ?_
   refine Go1.inBlock ?_
   refine Go1.cut [(0, .slice fR gens.length fS), (13, .slice fR gens.length fS), (14, .int .i64 (gens.length : Int)), (15, .int .i64 (k1_4 : Int))] ⟨rfl, rfl, rfl, rfl, trivial⟩ ?_
   intro σ _
   refine Go1.region ?_
   refine GoR.op ((op_add rfl rfl (wrap_i64 (natbd h5 da.bd))) _) rfl rfl ?_
   refine GoR.op ((op_move rfl) _) rfl rfl ?_
   refine GoR.nil ?_
   exact hX1 _ H _ _ ⟨⟨rfl, rfl, rfl, rfl, trivial⟩, hO, da, hB⟩
  replace H := ifn h24 H
  refine GoR.op ((fun w => opB (op_neq rfl rfl w) (ndF h24)) _) rfl rfl ?_
  refine GoR.op ((op_pickF rfl rfl rfl) _) rfl rfl ?_
  refine GoR.nil ?_
  refine Go1.condT rfl rfl ?_
  refine Go1.seq ?_
  refine Go1.region ?_
  refine GoR.op ((op_assign rfl) _) rfl rfl ?_
  refine GoR.nil ?_
  refine Go1.ret1 Try.func14 rfl ?_
  exact ⟨false, rfl, hB.same, H⟩
 replace H := ifn h5 H
 refine GoR.op ((fun w => opB (op_lss rfl rfl w) (decide_eq_false h5)) _) rfl rfl ?_
 refine GoR.nil ?_
 refine Go1.seq ?_
 refine Go1.condF rfl rfl ?_
 refine Go1.exit rfl ?_
 refine Go1.seq ?_
 refine Go1.region ?_
 refine GoR.op ((op_assign rfl) _) rfl rfl ?_
 refine GoR.nil ?_
 refine Go1.ret1 Try.func14 rfl ?_
 exact ⟨true, rfl, hB.same, H⟩
theorem body15 : Body Try.prog 15 := ⟨Try.f15, Try.func15, rfl, by kernel_rfl⟩
theorem walk_law12_little {A : List Nat} {w0 : World} {fR : Option Addr} {fS : Nat} {gens : List (List Int)} {points : Int} {letters : Int} (hA : ∀ b ∈ A, b < w0.heap.size) (da : ISl (Rp.sl (Rp.int .i64)) A w0 fR fS gens) {K : Bool → Prop} (H : law12_little gens points letters K) :
    CallsV Try.prog 15 #[.slice fR gens.length fS, .int .i64 points, .int .i64 letters] w0 (fun v w' => ∃ (r0 : Bool), v = .bool r0 ∧ Same w0 w' ∧ K r0) := by
 refine CallsV.of (l := [.slice fR gens.length fS, .int .i64 points, .int .i64 letters]) Try.func15 rfl Try.ntmps15 rfl ?_
 have hO := Owns.start hA
 have hB := Fr.refl (bl []) w0
 unfold law12_little at H
 replace da := da.ch (Ch.start A w0)
 refine Go1.seq ?_
 refine Go1.region ?_
 refine GoR.op ((op_assign rfl) _) rfl rfl ?_
 refine GoR.nil ?_
 refine Go1.seq ?_
 refine Go1.region ?_
 refine GoR.op ((op_move rfl) _) rfl rfl ?_
 refine GoR.call (op_call body14 rfl (walk_ref11_MayGens hO.lt da H)) rfl rfl ?_
 rintro v5 w2 ⟨r1, rfl, hs3, H⟩
 have sM := Stp.same hO hs3
 replace hO := sM.own
 replace da := da.ch sM.ch
 replace hB := hB.trans sM.fr
 refine GoR.op ((op_move rfl) _) rfl rfl ?_
 cases r1
 ·replace H := ifn Bool.false_ne_true H
  refine GoR.pass rfl rfl ?_
  refine GoR.pass rfl rfl ?_
  refine GoR.pass rfl rfl ?_
  refine GoR.pass rfl rfl ?_
  refine GoR.op ((op_pickF rfl rfl rfl) _) rfl rfl ?_
  refine GoR.op ((op_move rfl) _) rfl rfl ?_
  refine GoR.pass rfl rfl ?_
  refine GoR.pass rfl rfl ?_
  refine GoR.pass rfl rfl ?_
  refine GoR.pass rfl rfl ?_
  refine GoR.pass rfl rfl ?_
  refine GoR.pass rfl rfl ?_
  refine GoR.op ((op_pickF rfl rfl rfl) _) rfl rfl ?_
  refine GoR.op ((op_assign rfl) _) rfl rfl ?_
  refine GoR.nil ?_
  refine Go1.ret1 Try.func15 rfl ?_
  exact ⟨false, rfl, hB.same, H⟩
 replace H := ifp rfl H
 refine GoR.op ((op_move rfl) _) rfl rfl ?_
 refine GoR.op ((op_len Try.underlying22 rfl) _) rfl rfl ?_
 replace H := H da.bd
 refine GoR.op ((op_move rfl) _) rfl rfl ?_
 by_cases h7 : (gens.length : Int) ≤ letters
 ·replace H := ifp h7 H
  refine GoR.op ((fun w => opB (op_leq rfl rfl w) (decide_eq_true h7)) _) rfl rfl ?_
  refine GoR.op ((op_pickT rfl rfl rfl) _) rfl rfl ?_
  refine GoR.op ((op_move rfl) _) rfl rfl ?_
  refine GoR.op ((op_move rfl) _) rfl rfl ?_
  obtain ⟨h8, H⟩ := H
  obtain ⟨h9, H⟩ := H
  refine GoR.op ((op_index Try.underlying22 ti26 rfl rfl h8 h9 (da.some_ h8 h9)) _) rfl rfl ?_
  have hobt := ldSl da h8 h9
  obtain ⟨p10, c11, Hm, Hn⟩ := hobt
  refine GoR.op ((Hn Try.underlying26 rfl rfl) _ (Same.refl _)) rfl rfl ?_
  refine GoR.op ((op_len Try.underlying26 rfl) _) rfl rfl ?_
  replace H := H Hm.bd
  refine GoR.op ((op_move rfl) _) rfl rfl ?_
  by_cases h14 : ((ix gens (0 : Int)).length : Int) ≤ points
  ·replace H := ifp h14 H
   refine GoR.op ((fun w => opB (op_leq rfl rfl w) (decide_eq_true h14)) _) rfl rfl ?_
   refine GoR.op ((op_pickT rfl rfl rfl) _) rfl rfl ?_
   refine GoR.op ((op_assign rfl) _) rfl rfl ?_
   refine GoR.nil ?_
   refine Go1.ret1 Try.func15 rfl ?_
   exact ⟨true, rfl, hB.same, H⟩
  replace H := ifn h14 H
  refine GoR.op ((fun w => opB (op_leq rfl rfl w) (decide_eq_false h14)) _) rfl rfl ?_
  refine GoR.op ((op_pickT rfl rfl rfl) _) rfl rfl ?_
  refine GoR.op ((op_assign rfl) _) rfl rfl ?_
  refine GoR.nil ?_
  refine Go1.ret1 Try.func15 rfl ?_
  exact ⟨false, rfl, hB.same, H⟩
 replace H := ifn h7 H
 refine GoR.op ((fun w => opB (op_leq rfl rfl w) (decide_eq_false h7)) _) rfl rfl ?_
 refine GoR.op ((op_pickT rfl rfl rfl) _) rfl rfl ?_
 refine GoR.op ((op_move rfl) _) rfl rfl ?_
 refine GoR.pass rfl rfl ?_
 refine GoR.pass rfl rfl ?_
 refine GoR.pass rfl rfl ?_
 refine GoR.pass rfl rfl ?_
 refine GoR.pass rfl rfl ?_
 refine GoR.pass rfl rfl ?_
 refine GoR.op ((op_pickF rfl rfl rfl) _) rfl rfl ?_
 refine GoR.op ((op_assign rfl) _) rfl rfl ?_
 refine GoR.nil ?_
 refine Go1.ret1 Try.func15 rfl ?_
 exact ⟨false, rfl, hB.same, H⟩
theorem body60 : Body Try.prog 60 := ⟨Try.f60, Try.func60, rfl, by kernel_rfl⟩
theorem walk_trans_Valid {A : List Nat} {w0 : World} {p_f : Option Addr} {c_f : Nat} {f : List Int} (hA : ∀ b ∈ A, b < w0.heap.size) (h_f : ISl (Rp.int .i64) A w0 p_f c_f f) {K : Bool → Prop} (H : trans_Valid f K) :
    CallsV Try.prog 60 #[.slice p_f f.length c_f] w0 (fun v w' => ∃ (r0 : Bool), v = .bool r0 ∧ Same w0 w' ∧ K r0) := by
 refine CallsV.of (l := [.slice p_f f.length c_f]) Try.func60 rfl Try.ntmps60 rfl ?_
 have hO := Owns.start hA
 have hB := Fr.refl (bl []) w0
 unfold trans_Valid at H
 replace h_f := h_f.ch (Ch.start A w0)
 refine Go1.seq ?_
 refine Go1.region ?_
 refine GoR.op ((op_assign rfl) _) rfl rfl ?_
 refine GoR.nil ?_
 refine Go1.seq ?_
 refine Go1.seq ?_
 refine Go1.region ?_
 refine GoR.op ((op_move rfl) _) rfl rfl ?_
 refine GoR.op ((op_len Try.underlying26 rfl) _) rfl rfl ?_
 replace H := H h_f.bd
 by_cases h1 : (f.length : Int) < (1 : Int)
 ·replace H := ifp h1 H
  refine GoR.op ((fun w => opB (op_lss rfl rfl w) (decide_eq_true h1)) _) rfl rfl ?_
  refine GoR.op ((op_move rfl) _) rfl rfl ?_
  refine GoR.pass rfl rfl ?_
  refine GoR.pass rfl rfl ?_
  refine GoR.pass rfl rfl ?_
  refine GoR.op ((op_pickT rfl rfl rfl) _) rfl rfl ?_
  refine GoR.nil ?_
  refine Go1.condT rfl rfl ?_
  refine Go1.seq ?_
  refine Go1.region ?_
  refine GoR.op ((op_assign rfl) _) rfl rfl ?_
  refine GoR.nil ?_
  refine Go1.ret1 Try.func60 rfl ?_
  exact ⟨false, rfl, hB.same, H⟩
 replace H := ifn h1 H
 refine GoR.op ((fun w => opB (op_lss rfl rfl w) (decide_eq_false h1)) _) rfl rfl ?_
 refine GoR.op ((op_move rfl) _) rfl rfl ?_
 refine GoR.op ((op_move rfl) _) rfl rfl ?_
 refine GoR.op ((op_len Try.underlying26 rfl) _) rfl rfl ?_
 by_cases h2 : (32 : Int) < (f.length : Int)
 ·replace H := ifp h2 H
  refine GoR.op ((fun w => opB (op_gtr rfl rfl w) (decide_eq_true h2)) _) rfl rfl ?_
  refine GoR.op ((op_pickF rfl rfl rfl) _) rfl rfl ?_
  refine GoR.nil ?_
  refine Go1.condT rfl rfl ?_
  refine Go1.seq ?_
  refine Go1.region ?_
  refine GoR.op ((op_assign rfl) _) rfl rfl ?_
  refine GoR.nil ?_
  refine Go1.ret1 Try.func60 rfl ?_
  exact ⟨false, rfl, hB.same, H⟩
 replace H := ifn h2 H
 refine GoR.op ((fun w => opB (op_gtr rfl rfl w) (decide_eq_false h2)) _) rfl rfl ?_
 refine GoR.op ((op_pickF rfl rfl rfl) _) rfl rfl ?_
 refine GoR.nil ?_
 refine Go1.condF rfl rfl ?_
 refine Go1.skip ?_
 refine Go1.seq ?_
 refine Go1.seq ?_
 refine Go1.region ?_
 refine GoR.op ((op_move rfl) _) rfl rfl ?_
 refine GoR.op ((op_len Try.underlying26 rfl) _) rfl rfl ?_
 refine GoR.op ((op_move rfl) _) rfl rfl ?_
 refine GoR.nil ?_
 refine Go1.block ?_
 refine Go1.loopW (S := Nat) (fun s σ w => agrees σ [(0, .slice p_f f.length c_f), (13, .slice p_f f.length c_f), (14, .int .i64 (f.length : Int)), (15, .int .i64 (s : Int))] ∧ Owns w0.heap.size w [] A ∧ ISl (Rp.int .i64) (bl [] ++ A) w p_f c_f f ∧ Fr (bl []) w0 (bl []) w) H ⟨⟨rfl, rfl, rfl, rfl, trivial⟩, hO, h_f, hB⟩ ?_
 intro X1 k1_4
 intro H hX1 σ w3
 refine andE fun hag => andE fun hO => andE fun h_f => fun hB => ?_
 refine Go1.keep [(0, .slice p_f f.length c_f), (13, .slice p_f f.length c_f), (14, .int .i64 (f.length : Int)), (15, .int .i64 (k1_4 : Int))] hag ?_
 refine Go1.seq ?_
 refine Go1.region ?_
 by_cases h5 : (k1_4 : Int) < (f.length : Int)
 ·replace H := ifp h5 H
  refine GoR.op ((fun w => opB (op_lss rfl rfl w) (decide_eq_true h5)) _) rfl rfl ?_
  refine GoR.nil ?_
  refine Go1.seq ?_
  refine Go1.condT rfl rfl ?_
  refine Go1.skip ?_
  refine Go1.seq ?_
  refine Go1.block ?_
  refine Go1.seq ?_
  refine Go1.region ?_
  obtain ⟨h6, H⟩ := H
  obtain ⟨h7, H⟩ := H
  refine GoR.op ((op_index Try.underlying26 ti3 rfl rfl h6 h7 (h_f.some_ h6 h7)) _) rfl rfl ?_
  refine GoR.op ((ldInt h_f h6 h7 Try.underlying3 rfl rfl) _ (Same.refl _)) rfl rfl ?_
  refine GoR.op ((op_assign rfl) _) rfl rfl ?_
  refine GoR.nil ?_
  refine Go1.seq ?_
  refine Go1.region ?_
  refine GoR.op ((op_move rfl) _) rfl rfl ?_
  by_cases h8 : (ix f (k1_4 : Int)) < (0 : Int)
  ·replace H := ifp h8 H
   refine GoR.op ((fun w => opB (op_lss rfl rfl w) (decide_eq_true h8)) _) rfl rfl ?_
   refine GoR.op ((op_move rfl) _) rfl rfl ?_
   refine GoR.pass rfl rfl ?_
   refine GoR.pass rfl rfl ?_
   refine GoR.pass rfl rfl ?_
   refine GoR.pass rfl rfl ?_
   refine GoR.op ((op_pickT rfl rfl rfl) _) rfl rfl ?_
   refine GoR.nil ?_
   refine Go1.condT rfl rfl ?_
   refine Go1.seq ?_
   refine Go1.region ?_
   refine GoR.op ((op_assign rfl) _) rfl rfl ?_
   refine GoR.nil ?_
   refine Go1.ret1 Try.func60 rfl ?_
   exact ⟨false, rfl, hB.same, H⟩
  replace H := ifn h8 H
  refine GoR.op ((fun w => opB (op_lss rfl rfl w) (decide_eq_false h8)) _) rfl rfl ?_
  refine GoR.op ((op_move rfl) _) rfl rfl ?_
  refine GoR.op ((op_move rfl) _) rfl rfl ?_
  refine GoR.op ((op_move rfl) _) rfl rfl ?_
  refine GoR.op ((op_len Try.underlying26 rfl) _) rfl rfl ?_
  by_cases h9 : (f.length : Int) ≤ (ix f (k1_4 : Int))
  ·replace H := ifp h9 H
   refine GoR.op ((fun w => opB (op_geq rfl rfl w) (decide_eq_true h9)) _) rfl rfl ?_
   refine GoR.op ((op_pickF rfl rfl rfl) _) rfl rfl ?_
   refine GoR.nil ?_
   refine Go1.condT rfl rfl ?_
   refine Go1.seq ?_
   refine Go1.cut [] trivial ?_
   intro σ _
   refine Go1.region ?_
   refine GoR.op ((op_assign rfl) _) rfl rfl ?_
   refine GoR.nil ?_
   refine Go1.ret1 Try.func60 rfl ?_
   exact ⟨false, rfl, hB.same, H⟩
  replace H := ifn h9 H
  refine GoR.op ((fun w => opB (op_geq rfl rfl w) (decide_eq_false h9)) _) rfl rfl ?_
  refine GoR.op ((op_pickF rfl rfl rfl) _) rfl rfl ?_
  refine GoR.nil ?_
  refine Go1.condF rfl rfl ?_
  refine Go1.skip ?_
  refine Go1.inBlock ?_
  refine Go1.region ?_
  refine GoR.op ((op_add rfl rfl (wrap_i64 (natbd h5 h_f.bd))) _) rfl rfl ?_
  refine GoR.op ((op_move rfl) _) rfl rfl ?_
  refine GoR.nil ?_
  exact hX1 _ H _ _ ⟨⟨rfl, rfl, rfl, rfl, trivial⟩, hO, h_f, hB⟩
 replace H := ifn h5 H
 refine GoR.op ((fun w => opB (op_lss rfl rfl w) (decide_eq_false h5)) _) rfl rfl ?_
 refine GoR.nil ?_
 refine Go1.seq ?_
 refine Go1.condF rfl rfl ?_
 refine Go1.exit rfl ?_
 refine Go1.seq ?_
 refine Go1.region ?_
 refine GoR.op ((op_assign rfl) _) rfl rfl ?_
 refine GoR.nil ?_
 refine Go1.ret1 Try.func60 rfl ?_
 exact ⟨true, rfl, hB.same, H⟩
theorem body64 : Body Try.prog 64 := ⟨Try.f64, Try.func64, rfl, by kernel_rfl⟩
theorem walk_slices_Clone_int {A : List Nat} {w0 : World} {p_s : Option Addr} {c_s : Nat} {s : List Int} (hA : ∀ b ∈ A, b < w0.heap.size) (h_s : ISl (Rp.int .i64) A w0 p_s c_s s) {K : List Int → Prop} (H : slices_Clone_int s K) :
    CallsV Try.prog 64 #[.slice p_s s.length c_s] w0 (fun v w' => ∃ (r0 : List Int), ∃ (zN : Nat), ∃ (tE : Option Addr), ∃ (tF : Nat), ∃ (yp : List Value), v = .slice tE zN tF ∧ Same w0 w' ∧ Owns w0.heap.size w' [.row 3 1 tE zN tF yp] A ∧ Els (Rp.int .i64) (bl [.row 3 1 tE zN tF yp] ++ A) w' yp r0 ∧ K r0) := by
 refine CallsV.of (l := [.slice p_s s.length c_s]) Try.func64 rfl Try.ntmps64 rfl ?_
 have hO := Owns.start hA
 have hB := Fr.refl (bl []) w0
 unfold slices_Clone_int at H
 replace h_s := h_s.ch (Ch.start A w0)
 refine Go1.seq ?_
 refine Go1.region ?_
 refine GoR.op ((op_assign rfl) _) rfl rfl ?_
 refine GoR.nil ?_
 refine Go1.seq ?_
 refine Go1.seq ?_
 refine Go1.region ?_
 refine GoR.op ((op_move rfl) _) rfl rfl ?_
 replace H := H p_s.isNone (fun h => h_s.nilD h)
 by_cases hz2 : p_s.isNone = true
 ·replace H := ifp hz2 H
  refine GoR.op ((fun w => opB (op_nilSlice Try.underlying26 rfl rfl w) (hz2)) _) rfl rfl ?_
  refine GoR.nil ?_
  refine Go1.condT rfl rfl ?_
  refine Go1.seq ?_
  refine Go1.region ?_
  refine GoR.op ((op_assign rfl) _) rfl rfl ?_
  refine GoR.nil ?_
  have oN := Stp.nil (e := 3) (r := 1) hO
  replace hO := oN.own
  replace h_s := h_s.ch oN.ch
  replace hB := hB.trans oN.fr
  have hE5 := Els.nil (Rp.int .i64) (bl (.row 3 1 none 0 0 [] :: []) ++ A) w0
  refine Go1.ret1 Try.func64 rfl ?_
  exact ⟨(([] : List Int)), 0, none, 0, ([]), rfl, hB.same, hO, hE5, H⟩
 ·replace H := ifn hz2 H
  refine GoR.op ((fun w => opB (op_nilSlice Try.underlying26 rfl rfl w) (Bool.eq_false_iff.2 hz2)) _) rfl rfl ?_
  refine GoR.nil ?_
  refine Go1.condF rfl rfl ?_
  refine Go1.skip ?_
  refine Go1.seq ?_
  refine Go1.region ?_
  have hobt := obuild (r := Rp.int .i64) (n := 0) (parts := []) (vs := []) (xs := ([] : List Int)) rfl Try.underlying26 ti3 hO (by decide) (by kernel_rfl) (Els.nil _ _ _) rfl
  obtain ⟨w6, p7, zO, hE9, Bh, DA⟩ := hobt
  refine GoR.op (DA rfl) rfl rfl ?_
  replace hO := zO.own
  replace h_s := h_s.ch zO.ch
  replace hB := hB.trans zO.fr
  refine GoR.op ((op_move rfl) _) rfl rfl ?_
  obtain ⟨h13, H⟩ := H
  have hobt := oapp Try.underlying26 ti3 rfl 0 hO rfl hE9 h_s rfl h13 (by decide)
  obtain ⟨w14, p15, c16, mt, qX, Ho, yq⟩ := hobt
  refine GoR.op (yq (by exact rfl) (by exact rfl)) rfl rfl ?_
  replace hO := qX.own
  replace h_s := h_s.ch qX.ch
  replace hB := hB.trans qX.fr
  refine GoR.op ((op_assign rfl) _) rfl rfl ?_
  refine GoR.nil ?_
  refine Go1.ret1 Try.func64 rfl ?_
  exact ⟨((([] : List Int)) ++ s), (0 + s.length), p15, c16, mt, rfl, hB.same, hO, Ho, H⟩
theorem body62 : Body Try.prog 62 := ⟨Try.f62, Try.func62, rfl, by kernel_rfl⟩
theorem walk_trans_Identity {A : List Nat} {w0 : World} {n : Int} (hA : ∀ b ∈ A, b < w0.heap.size) {K : List Int → Prop} (H : trans_Identity n K) :
    CallsV Try.prog 62 #[.int .i64 n] w0 (fun v w' => ∃ (r0 : List Int), ∃ (tE : Option Addr), ∃ (tF : Nat), v = .slice tE r0.length tF ∧ Same w0 w' ∧ ISl (Rp.int .i64) A w' tE tF r0 ∧ K r0) := by
 refine CallsV.of (l := [.int .i64 n]) Try.func62 rfl Try.ntmps62 rfl ?_
 have hO := Owns.start hA
 have hB := Fr.refl (bl []) w0
 unfold trans_Identity at H
 refine Go1.seq ?_
 refine Go1.region ?_
 refine GoR.op ((op_assign rfl) _) rfl rfl ?_
 refine GoR.nil ?_
 refine Go1.seq ?_
 refine Go1.seq ?_
 refine Go1.region ?_
 refine GoR.op ((op_move rfl) _) rfl rfl ?_
 by_cases h1 : n < (1 : Int)
 ·replace H := ifp h1 H
  refine GoR.op ((fun w => opB (op_lss rfl rfl w) (decide_eq_true h1)) _) rfl rfl ?_
  refine GoR.op ((op_move rfl) _) rfl rfl ?_
  refine GoR.pass rfl rfl ?_
  refine GoR.pass rfl rfl ?_
  refine GoR.op ((op_pickT rfl rfl rfl) _) rfl rfl ?_
  refine GoR.nil ?_
  refine Go1.condT rfl rfl ?_
  refine Go1.seq ?_
  refine Go1.region ?_
  refine GoR.op ((op_assign rfl) _) rfl rfl ?_
  refine GoR.nil ?_
  refine Go1.ret1 Try.func62 rfl ?_
  exact ⟨([] : List Int), none, 0, rfl, hB.same, (ISl.null _ _ _), H⟩
 replace H := ifn h1 H
 refine GoR.op ((fun w => opB (op_lss rfl rfl w) (decide_eq_false h1)) _) rfl rfl ?_
 refine GoR.op ((op_move rfl) _) rfl rfl ?_
 refine GoR.op ((op_move rfl) _) rfl rfl ?_
 by_cases h2 : (32 : Int) < n
 ·replace H := ifp h2 H
  refine GoR.op ((fun w => opB (op_gtr rfl rfl w) (decide_eq_true h2)) _) rfl rfl ?_
  refine GoR.op ((op_pickF rfl rfl rfl) _) rfl rfl ?_
  refine GoR.nil ?_
  refine Go1.condT rfl rfl ?_
  refine Go1.seq ?_
  refine Go1.region ?_
  refine GoR.op ((op_assign rfl) _) rfl rfl ?_
  refine GoR.nil ?_
  refine Go1.ret1 Try.func62 rfl ?_
  exact ⟨([] : List Int), none, 0, rfl, hB.same, (ISl.null _ _ _), H⟩
 replace H := ifn h2 H
 refine GoR.op ((fun w => opB (op_gtr rfl rfl w) (decide_eq_false h2)) _) rfl rfl ?_
 refine GoR.op ((op_pickF rfl rfl rfl) _) rfl rfl ?_
 refine GoR.nil ?_
 refine Go1.condF rfl rfl ?_
 refine Go1.skip ?_
 refine Go1.seq ?_
 refine Go1.region ?_
 refine GoR.op ((op_move rfl) _) rfl rfl ?_
 obtain ⟨h10, H⟩ := H
 obtain ⟨h11, H⟩ := H
 have hobt := omake (n := n) (r := Rp.int .i64) (d := (0 : Int)) Try.underlying26 ti3 (fun _ _ => rfl) rfl hO h10 h11 (by decide)
 obtain ⟨w3, p4, vs5, sM, hE7, hs8, Hp⟩ := hobt
 refine GoR.op (Hp rfl rfl) rfl rfl ?_
 replace hO := sM.own
 replace hB := hB.trans sM.fr
 refine GoR.op ((op_assign rfl) _) rfl rfl ?_
 refine GoR.nil ?_
 refine Go1.seq ?_
 refine Go1.seq ?_
 refine Go1.region ?_
 refine GoR.op ((op_move rfl) _) rfl rfl ?_
 refine GoR.op ((op_lenN Try.underlying26 rfl (hE7.neq hO 0 rfl)) _) rfl rfl ?_
 refine GoR.op ((op_move rfl) _) rfl rfl ?_
 refine GoR.nil ?_
 refine Go1.block ?_
 refine Go1.loopW (S := Nat × List Int) (fun s σ w => match s with | (k1_14, f1_15) => ∃ (vQ : List Value), agrees σ [(3, .slice p4 n.toNat n.toNat), (14, .int .i64 ((List.replicate n.toNat ((0 : Int))).length : Int)), (15, .int .i64 (k1_14 : Int))] ∧ Owns w0.heap.size w [.row 3 1 p4 n.toNat n.toNat vQ] A ∧ Els (Rp.int .i64) (bl [.row 3 1 p4 n.toNat n.toNat vQ] ++ A) w vQ f1_15 ∧ Fr (bl []) w0 (bl [.row 3 1 p4 n.toNat n.toNat vQ]) w) H ⟨vs5, ⟨rfl, rfl, rfl, trivial⟩, hO, hE7, hB⟩ ?_
 intro X1
 refine prE fun k1_14 => fun f1_15 => ?_
 intro H hX1 σ w13
 refine exE fun vQ => andE fun hag => andE fun hO => andE fun yr => fun hB => ?_
 dsimp only at H
 refine Go1.keep [(3, .slice p4 n.toNat n.toNat), (14, .int .i64 ((List.replicate n.toNat ((0 : Int))).length : Int)), (15, .int .i64 (k1_14 : Int))] hag ?_
 refine Go1.seq ?_
 refine Go1.region ?_
 by_cases h18 : (k1_14 : Int) < ((List.replicate n.toNat ((0 : Int))).length : Int)
 ·replace H := ifp h18 H
  refine GoR.op ((fun w => opB (op_lss rfl rfl w) (decide_eq_true h18)) _) rfl rfl ?_
  refine GoR.nil ?_
  refine Go1.seq ?_
  refine Go1.condT rfl rfl ?_
  refine Go1.skip ?_
  refine Go1.seq ?_
  refine Go1.block ?_
  refine Go1.seq ?_
  refine Go1.region ?_
  refine GoR.op ((op_move rfl) _) rfl rfl ?_
  refine GoR.op ((op_assign rfl) _) rfl rfl ?_
  refine GoR.nil ?_
  refine Go1.region ?_
  refine GoR.op ((op_move rfl) _) rfl rfl ?_
  refine GoR.op ((op_move rfl) _) rfl rfl ?_
  refine GoR.op ((op_move rfl) _) rfl rfl ?_
  obtain ⟨h19, H⟩ := H
  obtain ⟨h20, H⟩ := H
  refine GoR.op ((op_index Try.underlying26 ti3 rfl rfl h19 (ltn (yr.neq hO 0 rfl) h20) (yr.psome hO 0 rfl h19 h20)) _) rfl rfl ?_
  have hobt := ost (r := Rp.int .i64) rfl 0 hO rfl yr h19 h20 (v := .int .i64 (k1_14 : Int)) (u := (k1_14 : Int)) rfl rfl
  obtain ⟨w21, zP, jl, cL, yt⟩ := hobt
  refine GoR.op (yt Try.underlying3 rfl ti3 (by exact rfl) (by exact rfl)) rfl rfl ?_
  replace hO := jl.own
  replace hB := hB.trans jl.fr
  refine GoR.nil ?_
  refine Go1.inBlock ?_
  refine Go1.region ?_
  obtain ⟨h26, H⟩ := H
  refine GoR.op ((op_add rfl rfl (wrap_i64 h26)) _) rfl rfl ?_
  refine GoR.op ((op_move rfl) _) rfl rfl ?_
  refine GoR.nil ?_
  exact hX1 _ H _ _ ⟨zP, ⟨rfl, rfl, rfl, trivial⟩, hO, cL, hB⟩
 replace H := ifn h18 H
 refine GoR.op ((fun w => opB (op_lss rfl rfl w) (decide_eq_false h18)) _) rfl rfl ?_
 refine GoR.nil ?_
 refine Go1.seq ?_
 refine Go1.condF rfl rfl ?_
 refine Go1.exit rfl ?_
 refine Go1.seq ?_
 refine Go1.region ?_
 refine GoR.op ((op_move rfl) _) rfl rfl ?_
 refine GoR.op ((op_assign rfl) _) rfl rfl ?_
 refine GoR.nil ?_
 have hobt := freeze 0 hO rfl yr
 obtain ⟨hO1, J3, Hq, Hr⟩ := hobt
 replace hB := hB.trans (Owns.dropFr _ _ 0)
 replace hO := hO1; clear hO1
 refine Go1.ret1 Try.func62 rfl ?_
 exact ⟨f1_15, p4, n.toNat, (congrArg (fun nn => Value.slice p4 nn n.toNat) Hr), hB.same, (Hq.ch (Ch.weak _ _ _)), H⟩
theorem body61 : Body Try.prog 61 := ⟨Try.f61, Try.func61, rfl, by kernel_rfl⟩
theorem walk_enumerate_text {A : List Nat} {w0 : World} {p_f : Option Addr} {c_f : Nat} {f : List Int} (hA : ∀ b ∈ A, b < w0.heap.size) (h_f : ISl (Rp.int .i64) A w0 p_f c_f f) {K : Str → Prop} (H : enumerate_text f K) :
    CallsV Try.prog 61 #[.slice p_f f.length c_f] w0 (fun v w' => ∃ (r0 : Str), v = .string (gstr r0) ∧ Same w0 w' ∧ r0.length ≤ mx ∧ K r0) := by
 refine CallsV.of (l := [.slice p_f f.length c_f]) Try.func61 rfl Try.ntmps61 rfl ?_
 have hO := Owns.start hA
 have hB := Fr.refl (bl []) w0
 unfold enumerate_text at H
 replace h_f := h_f.ch (Ch.start A w0)
 refine Go1.seq ?_
 refine Go1.region ?_
 refine GoR.op ((op_assign rfl) _) rfl rfl ?_
 refine GoR.nil ?_
 refine Go1.seq ?_
 refine Go1.region ?_
 refine GoR.op ((op_move rfl) _) rfl rfl ?_
 refine GoR.op ((op_len Try.underlying26 rfl) _) rfl rfl ?_
 replace H := H h_f.bd
 obtain ⟨h8, H⟩ := H
 obtain ⟨h9, H⟩ := H
 have hobt := omake (n := (f.length : Int)) (r := Rp.int .u8) (d := (0 : Int)) Try.underlying84 ti5 (fun _ _ => rfl) rfl hO h8 h9 (by decide)
 obtain ⟨w1, p2, vs3, oN, hE5, hs6, xQ⟩ := hobt
 refine GoR.op (xQ rfl rfl) rfl rfl ?_
 replace hO := oN.own
 replace h_f := h_f.ch oN.ch
 replace hB := hB.trans oN.fr
 refine GoR.op ((op_assign rfl) _) rfl rfl ?_
 refine GoR.nil ?_
 refine Go1.seq ?_
 refine Go1.seq ?_
 refine Go1.region ?_
 refine GoR.op ((op_move rfl) _) rfl rfl ?_
 refine GoR.op ((op_len Try.underlying26 rfl) _) rfl rfl ?_
 refine GoR.op ((op_move rfl) _) rfl rfl ?_
 refine GoR.nil ?_
 refine Go1.block ?_
 refine Go1.loopW (S := Nat × List Int) (fun s σ w => match s with | (k1_12, b1_13) => ∃ (nS : List Value), agrees σ [(3, .slice p2 f.length f.length), (9, .slice p_f f.length c_f), (10, .int .i64 (f.length : Int)), (11, .int .i64 (k1_12 : Int))] ∧ Owns w0.heap.size w [.row 5 1 p2 f.length f.length nS] A ∧ Els (Rp.int .u8) (bl [.row 5 1 p2 f.length f.length nS] ++ A) w nS b1_13 ∧ ISl (Rp.int .i64) (bl [.row 5 1 p2 f.length f.length nS] ++ A) w p_f c_f f ∧ Fr (bl []) w0 (bl [.row 5 1 p2 f.length f.length nS]) w) H ⟨vs3, ⟨rfl, rfl, rfl, rfl, trivial⟩, hO, hE5, h_f, hB⟩ ?_
 intro X1
 refine prE fun k1_12 => fun b1_13 => ?_
 intro H hX1 σ w11
 refine exE fun nS => andE fun hag => andE fun hO => andE fun ce => andE fun h_f => fun hB => ?_
 dsimp only at H
 refine Go1.keep [(3, .slice p2 f.length f.length), (9, .slice p_f f.length c_f), (10, .int .i64 (f.length : Int)), (11, .int .i64 (k1_12 : Int))] hag ?_
 refine Go1.seq ?_
 refine Go1.region ?_
 by_cases h16 : (k1_12 : Int) < (f.length : Int)
 ·replace H := ifp h16 H
  refine GoR.op ((fun w => opB (op_lss rfl rfl w) (decide_eq_true h16)) _) rfl rfl ?_
  refine GoR.nil ?_
  refine Go1.seq ?_
  refine Go1.condT rfl rfl ?_
  refine Go1.skip ?_
  refine Go1.seq ?_
  refine Go1.block ?_
  refine Go1.seq ?_
  refine Go1.region ?_
  refine GoR.op ((op_move rfl) _) rfl rfl ?_
  obtain ⟨h17, H⟩ := H
  obtain ⟨h18, H⟩ := H
  refine GoR.op ((op_index Try.underlying26 ti3 rfl rfl h17 h18 (h_f.some_ h17 h18)) _) rfl rfl ?_
  refine GoR.op ((ldInt h_f h17 h18 Try.underlying3 rfl rfl) _ (Same.refl _)) rfl rfl ?_
  refine GoR.op ((op_assign rfl) _) rfl rfl ?_
  refine GoR.op ((op_assign rfl) _) rfl rfl ?_
  refine GoR.nil ?_
  refine Go1.region ?_
  refine GoR.op ((op_move rfl) _) rfl rfl ?_
  refine GoR.op ((op_move rfl) _) rfl rfl ?_
  refine GoR.op ((op_move rfl) _) rfl rfl ?_
  refine GoR.op ((op_conv Try.underlying3 Try.underlying5 rfl rfl) _) rfl rfl ?_
  obtain ⟨h19, H⟩ := H
  obtain ⟨h20, H⟩ := H
  refine GoR.op ((op_index Try.underlying84 ti5 rfl rfl h19 (ltn (ce.neq hO 0 rfl) h20) (ce.psome hO 0 rfl h19 h20)) _) rfl rfl ?_
  have hobt := ost (r := Rp.int .u8) rfl 0 hO rfl ce h19 h20 (v := .int .u8 (IntKind.u8.wrap (ix f (k1_12 : Int)))) (u := (IntKind.u8.wrap (ix f (k1_12 : Int)))) rfl rfl
  obtain ⟨w21, zP, jl, cL, yt⟩ := hobt
  refine GoR.op (yt Try.underlying5 rfl ti5 (by exact rfl) (by exact rfl)) rfl rfl ?_
  replace hO := jl.own
  replace h_f := h_f.ch jl.ch
  replace hB := hB.trans jl.fr
  refine GoR.nil ?_
  refine Go1.inBlock ?_
  refine Go1.region ?_
  refine GoR.op ((op_add rfl rfl (wrap_i64 (natbd h16 h_f.bd))) _) rfl rfl ?_
  refine GoR.op ((op_move rfl) _) rfl rfl ?_
  refine GoR.nil ?_
  exact hX1 _ H _ _ ⟨zP, ⟨rfl, rfl, rfl, rfl, trivial⟩, hO, cL, h_f, hB⟩
 replace H := ifn h16 H
 refine GoR.op ((fun w => opB (op_lss rfl rfl w) (decide_eq_false h16)) _) rfl rfl ?_
 refine GoR.nil ?_
 refine Go1.seq ?_
 refine Go1.condF rfl rfl ?_
 refine Go1.exit rfl ?_
 refine Go1.seq ?_
 refine Go1.region ?_
 refine GoR.op ((op_move rfl) _) rfl rfl ?_
 have hle26 := byt_le ce.bd
 refine GoR.op ((oldBytes 0 hO rfl ce Try.underlying84 Try.underlying5 Try.underlying9 rfl) _ (Same.refl _)) rfl rfl ?_
 refine GoR.op ((op_assign rfl) _) rfl rfl ?_
 refine GoR.nil ?_
 refine Go1.ret1 Try.func61 rfl ?_
 exact ⟨byt b1_13, rfl, hB.same, hle26, H⟩
theorem body65 : Body Try.prog 65 := ⟨Try.f65, Try.func65, rfl, by kernel_rfl⟩
theorem body49 : Body Try.prog 49 := ⟨Try.f49, Try.func49, rfl, by kernel_rfl⟩
theorem walk_enumerate_begin {A : List Nat} {w0 : World} {oe : Option Addr} {og : Nat} {a0 : List (List Int)} {a1 : Bool} (hA : ∀ b ∈ A, b < w0.heap.size) (bH : ISl (Rp.sl (Rp.int .i64)) A w0 oe og a0) {K : Option run → Int → Prop} (H : enumerate_begin a0 a1 K) :
    CallsV Try.prog 49 #[.slice oe a0.length og, .bool a1] w0 (fun v w' => (∃ (r1 : Int), v = .tuple #[.pointer none, .int .i64 r1] ∧ Same w0 w' ∧ K none r1) ∨ (∃ (q : run), ∃ (r1 : Int), ∃ (b_q : Nat), ∃ (bk : Nat), ∃ (bm : Option Addr), ∃ (bn : Nat), ∃ (cx : List Value), ∃ (a5 : Nat), ∃ (a6 : Option Addr), ∃ (a7 : Nat), ∃ (cu : List Value), ∃ (aR : Nat), ∃ (aS : Option Addr), ∃ (aT : Nat), ∃ (cj : List Value), ∃ (bo : Nat), ∃ (bp : Option Addr), ∃ (bq : Nat), ∃ (cy : List Value), ∃ (a8 : Nat), ∃ (a9 : Option Addr), ∃ (ba : Nat), ∃ (cv : List Value), ∃ (bc : Nat), ∃ (bf : Option Addr), ∃ (bg : Nat), ∃ (cw : List Value), ∃ (cU : Nat), ∃ (co : Nat), ∃ (cp : Option Addr), ∃ (cq : Nat), ∃ (dn : List Value), ∃ (bY : Nat), ∃ (bZ : Option Addr), ∃ (b4 : Nat), ∃ (db : List Value), ∃ (b5 : Nat), ∃ (b6 : Option Addr), ∃ (b7 : Nat), ∃ (de : List Value), v = .tuple #[.pointer (some ⟨b_q, 0, none⟩), .int .i64 r1] ∧ Same w0 w' ∧ Owns w0.heap.size w' [.blk b_q (.cells #[.int .i64 q.Enum.Points, .bool q.Enum.Monoid, .slice bm bk bn, .slice a6 a5 a7, .slice aS aR aT, .slice bp bo bq, .slice a9 a8 ba, .slice bf bc bg, .int .i64 q.Enum.Done, .map (some cU), .slice cp co cq, .slice bZ bY b4, .slice b6 b5 b7] 72 (0, 0)), .row 26 1 bm bk bn cx, .row 26 1 a6 a5 a7 cu, .row 3 1 aS aR aT cj, .row 3 1 bp bo bq cy, .row 26 1 a9 a8 ba cv, .row 39 2 bf bc bg cw, .row 9 1 cp co cq dn, .row 3 1 bZ bY b4 db, .row 3 1 b6 b5 b7 de, .any (mapE (fun a : List UInt8 => Value.string (gstr a)) (fun a : Int => Value.int .i64 a) cU q.number)] A ∧ Els (Rp.sl (Rp.int .i64)) (bl [.blk b_q (.cells #[.int .i64 q.Enum.Points, .bool q.Enum.Monoid, .slice bm bk bn, .slice a6 a5 a7, .slice aS aR aT, .slice bp bo bq, .slice a9 a8 ba, .slice bf bc bg, .int .i64 q.Enum.Done, .map (some cU), .slice cp co cq, .slice bZ bY b4, .slice b6 b5 b7] 72 (0, 0)), .row 26 1 bm bk bn cx, .row 26 1 a6 a5 a7 cu, .row 3 1 aS aR aT cj, .row 3 1 bp bo bq cy, .row 26 1 a9 a8 ba cv, .row 39 2 bf bc bg cw, .row 9 1 cp co cq dn, .row 3 1 bZ bY b4 db, .row 3 1 b6 b5 b7 de, .any (mapE (fun a : List UInt8 => Value.string (gstr a)) (fun a : Int => Value.int .i64 a) cU q.number)] ++ A) w' cx q.Enum.Gens ∧ Els (Rp.sl (Rp.int .i64)) (bl [.blk b_q (.cells #[.int .i64 q.Enum.Points, .bool q.Enum.Monoid, .slice bm bk bn, .slice a6 a5 a7, .slice aS aR aT, .slice bp bo bq, .slice a9 a8 ba, .slice bf bc bg, .int .i64 q.Enum.Done, .map (some cU), .slice cp co cq, .slice bZ bY b4, .slice b6 b5 b7] 72 (0, 0)), .row 26 1 bm bk bn cx, .row 26 1 a6 a5 a7 cu, .row 3 1 aS aR aT cj, .row 3 1 bp bo bq cy, .row 26 1 a9 a8 ba cv, .row 39 2 bf bc bg cw, .row 9 1 cp co cq dn, .row 3 1 bZ bY b4 db, .row 3 1 b6 b5 b7 de, .any (mapE (fun a : List UInt8 => Value.string (gstr a)) (fun a : Int => Value.int .i64 a) cU q.number)] ++ A) w' cu q.Enum.Elems ∧ Els (Rp.int .i64) (bl [.blk b_q (.cells #[.int .i64 q.Enum.Points, .bool q.Enum.Monoid, .slice bm bk bn, .slice a6 a5 a7, .slice aS aR aT, .slice bp bo bq, .slice a9 a8 ba, .slice bf bc bg, .int .i64 q.Enum.Done, .map (some cU), .slice cp co cq, .slice bZ bY b4, .slice b6 b5 b7] 72 (0, 0)), .row 26 1 bm bk bn cx, .row 26 1 a6 a5 a7 cu, .row 3 1 aS aR aT cj, .row 3 1 bp bo bq cy, .row 26 1 a9 a8 ba cv, .row 39 2 bf bc bg cw, .row 9 1 cp co cq dn, .row 3 1 bZ bY b4 db, .row 3 1 b6 b5 b7 de, .any (mapE (fun a : List UInt8 => Value.string (gstr a)) (fun a : Int => Value.int .i64 a) cU q.number)] ++ A) w' cj q.Enum.Prefix ∧ Els (Rp.int .i64) (bl [.blk b_q (.cells #[.int .i64 q.Enum.Points, .bool q.Enum.Monoid, .slice bm bk bn, .slice a6 a5 a7, .slice aS aR aT, .slice bp bo bq, .slice a9 a8 ba, .slice bf bc bg, .int .i64 q.Enum.Done, .map (some cU), .slice cp co cq, .slice bZ bY b4, .slice b6 b5 b7] 72 (0, 0)), .row 26 1 bm bk bn cx, .row 26 1 a6 a5 a7 cu, .row 3 1 aS aR aT cj, .row 3 1 bp bo bq cy, .row 26 1 a9 a8 ba cv, .row 39 2 bf bc bg cw, .row 9 1 cp co cq dn, .row 3 1 bZ bY b4 db, .row 3 1 b6 b5 b7 de, .any (mapE (fun a : List UInt8 => Value.string (gstr a)) (fun a : Int => Value.int .i64 a) cU q.number)] ++ A) w' cy q.Enum.Last ∧ Els (Rp.sl (Rp.int .i64)) (bl [.blk b_q (.cells #[.int .i64 q.Enum.Points, .bool q.Enum.Monoid, .slice bm bk bn, .slice a6 a5 a7, .slice aS aR aT, .slice bp bo bq, .slice a9 a8 ba, .slice bf bc bg, .int .i64 q.Enum.Done, .map (some cU), .slice cp co cq, .slice bZ bY b4, .slice b6 b5 b7] 72 (0, 0)), .row 26 1 bm bk bn cx, .row 26 1 a6 a5 a7 cu, .row 3 1 aS aR aT cj, .row 3 1 bp bo bq cy, .row 26 1 a9 a8 ba cv, .row 39 2 bf bc bg cw, .row 9 1 cp co cq dn, .row 3 1 bZ bY b4 db, .row 3 1 b6 b5 b7 de, .any (mapE (fun a : List UInt8 => Value.string (gstr a)) (fun a : Int => Value.int .i64 a) cU q.number)] ++ A) w' cv q.Enum.Right ∧ Els (rpRule) (bl [.blk b_q (.cells #[.int .i64 q.Enum.Points, .bool q.Enum.Monoid, .slice bm bk bn, .slice a6 a5 a7, .slice aS aR aT, .slice bp bo bq, .slice a9 a8 ba, .slice bf bc bg, .int .i64 q.Enum.Done, .map (some cU), .slice cp co cq, .slice bZ bY b4, .slice b6 b5 b7] 72 (0, 0)), .row 26 1 bm bk bn cx, .row 26 1 a6 a5 a7 cu, .row 3 1 aS aR aT cj, .row 3 1 bp bo bq cy, .row 26 1 a9 a8 ba cv, .row 39 2 bf bc bg cw, .row 9 1 cp co cq dn, .row 3 1 bZ bY b4 db, .row 3 1 b6 b5 b7 de, .any (mapE (fun a : List UInt8 => Value.string (gstr a)) (fun a : Int => Value.int .i64 a) cU q.number)] ++ A) w' cw q.Enum.Rules ∧ Els (Rp.str) (bl [.blk b_q (.cells #[.int .i64 q.Enum.Points, .bool q.Enum.Monoid, .slice bm bk bn, .slice a6 a5 a7, .slice aS aR aT, .slice bp bo bq, .slice a9 a8 ba, .slice bf bc bg, .int .i64 q.Enum.Done, .map (some cU), .slice cp co cq, .slice bZ bY b4, .slice b6 b5 b7] 72 (0, 0)), .row 26 1 bm bk bn cx, .row 26 1 a6 a5 a7 cu, .row 3 1 aS aR aT cj, .row 3 1 bp bo bq cy, .row 26 1 a9 a8 ba cv, .row 39 2 bf bc bg cw, .row 9 1 cp co cq dn, .row 3 1 bZ bY b4 db, .row 3 1 b6 b5 b7 de, .any (mapE (fun a : List UInt8 => Value.string (gstr a)) (fun a : Int => Value.int .i64 a) cU q.number)] ++ A) w' dn q.words ∧ Els (Rp.int .i64) (bl [.blk b_q (.cells #[.int .i64 q.Enum.Points, .bool q.Enum.Monoid, .slice bm bk bn, .slice a6 a5 a7, .slice aS aR aT, .slice bp bo bq, .slice a9 a8 ba, .slice bf bc bg, .int .i64 q.Enum.Done, .map (some cU), .slice cp co cq, .slice bZ bY b4, .slice b6 b5 b7] 72 (0, 0)), .row 26 1 bm bk bn cx, .row 26 1 a6 a5 a7 cu, .row 3 1 aS aR aT cj, .row 3 1 bp bo bq cy, .row 26 1 a9 a8 ba cv, .row 39 2 bf bc bg cw, .row 9 1 cp co cq dn, .row 3 1 bZ bY b4 db, .row 3 1 b6 b5 b7 de, .any (mapE (fun a : List UInt8 => Value.string (gstr a)) (fun a : Int => Value.int .i64 a) cU q.number)] ++ A) w' db q.behind ∧ Els (Rp.int .i64) (bl [.blk b_q (.cells #[.int .i64 q.Enum.Points, .bool q.Enum.Monoid, .slice bm bk bn, .slice a6 a5 a7, .slice aS aR aT, .slice bp bo bq, .slice a9 a8 ba, .slice bf bc bg, .int .i64 q.Enum.Done, .map (some cU), .slice cp co cq, .slice bZ bY b4, .slice b6 b5 b7] 72 (0, 0)), .row 26 1 bm bk bn cx, .row 26 1 a6 a5 a7 cu, .row 3 1 aS aR aT cj, .row 3 1 bp bo bq cy, .row 26 1 a9 a8 ba cv, .row 39 2 bf bc bg cw, .row 9 1 cp co cq dn, .row 3 1 bZ bY b4 db, .row 3 1 b6 b5 b7 de, .any (mapE (fun a : List UInt8 => Value.string (gstr a)) (fun a : Int => Value.int .i64 a) cU q.number)] ++ A) w' de q.single ∧ K (some q) r1)) := by
 refine CallsV.of (l := [.slice oe a0.length og, .bool a1]) Try.func49 rfl Try.ntmps49 rfl ?_
 have hO := Owns.start hA
 have hB := Fr.refl (bl []) w0
 unfold enumerate_begin at H
 replace bH := bH.ch (Ch.start A w0)
 refine Go1.seq ?_
 refine Go1.region ?_
 refine GoR.op ((op_assign rfl) _) rfl rfl ?_
 refine GoR.op ((op_assign rfl) _) rfl rfl ?_
 refine GoR.nil ?_
 refine Go1.seq ?_
 refine Go1.seq ?_
 refine Go1.region ?_
 refine GoR.op ((op_move rfl) _) rfl rfl ?_
 refine GoR.op ((op_len Try.underlying22 rfl) _) rfl rfl ?_
 replace H := H bH.bd
 by_cases h1 : (a0.length : Int) = (0 : Int)
 ·replace H := ifp h1 H
  refine GoR.op ((fun w => opB (op_eql rfl rfl w) (decide_eq_true h1)) _) rfl rfl ?_
  refine GoR.op ((op_move rfl) _) rfl rfl ?_
  refine GoR.pass rfl rfl ?_
  refine GoR.pass rfl rfl ?_
  refine GoR.pass rfl rfl ?_
  refine GoR.op ((op_pickT rfl rfl rfl) _) rfl rfl ?_
  refine GoR.nil ?_
  refine Go1.condT rfl rfl ?_
  refine Go1.seq ?_
  refine Go1.region ?_
  refine GoR.op ((op_assign rfl) _) rfl rfl ?_
  refine GoR.op ((op_assign rfl) _) rfl rfl ?_
  refine GoR.nil ?_
  refine Go1.ret2 Try.func49 rfl ?_
  exact Or.inl ⟨((1 : Int)), rfl, hB.same, H⟩
 replace H := ifn h1 H
 refine GoR.op ((fun w => opB (op_eql rfl rfl w) (decide_eq_false h1)) _) rfl rfl ?_
 refine GoR.op ((op_move rfl) _) rfl rfl ?_
 refine GoR.op ((op_move rfl) _) rfl rfl ?_
 refine GoR.op ((op_len Try.underlying22 rfl) _) rfl rfl ?_
 by_cases h2 : (6 : Int) < (a0.length : Int)
 ·replace H := ifp h2 H
  refine GoR.op ((fun w => opB (op_gtr rfl rfl w) (decide_eq_true h2)) _) rfl rfl ?_
  refine GoR.op ((op_pickF rfl rfl rfl) _) rfl rfl ?_
  refine GoR.nil ?_
  refine Go1.condT rfl rfl ?_
  refine Go1.seq ?_
  refine Go1.region ?_
  refine GoR.op ((op_assign rfl) _) rfl rfl ?_
  refine GoR.op ((op_assign rfl) _) rfl rfl ?_
  refine GoR.nil ?_
  refine Go1.ret2 Try.func49 rfl ?_
  exact Or.inl ⟨((1 : Int)), rfl, hB.same, H⟩
 replace H := ifn h2 H
 refine GoR.op ((fun w => opB (op_gtr rfl rfl w) (decide_eq_false h2)) _) rfl rfl ?_
 refine GoR.op ((op_pickF rfl rfl rfl) _) rfl rfl ?_
 refine GoR.nil ?_
 refine Go1.condF rfl rfl ?_
 refine Go1.skip ?_
 refine Go1.seq ?_
 refine Go1.cut [(0, .slice oe a0.length og), (1, .bool a1)] ⟨rfl, rfl, trivial⟩ ?_
 intro σ _
 refine Go1.region ?_
 have hobt := omakeMap (fun a : List UInt8 => Value.string (gstr a)) (fun a : Int => Value.int .i64 a) hO
 obtain ⟨w3, B4, zQ, hs6, xQ⟩ := hobt
 refine GoR.op xQ rfl rfl ?_
 replace hO := zQ.own
 replace bH := bH.ch zQ.ch
 replace hB := hB.trans zQ.fr
 refine GoR.op ((op_build Try.underlying72 ti72 (pl := [(0, 9), (9, 1), (10, 1), (11, 1), (12, 1)]) (vs := [(1, .map (some B4))]) (cs := #[.int .i64 (0 : Int), .bool false, .slice none 0 0, .slice none 0 0, .slice none 0 0, .slice none 0 0, .slice none 0 0, .slice none 0 0, .int .i64 (0 : Int), .map (some B4), .slice none 0 0, .slice none 0 0, .slice none 0 0]) (by kernel_rfl) rfl (by kernel_rfl)) _) rfl rfl ?_
 have hobt := obox (t := 72) (v := .agg #[.int .i64 (0 : Int), .bool false, .slice none 0 0, .slice none 0 0, .slice none 0 0, .slice none 0 0, .slice none 0 0, .slice none 0 0, .int .i64 (0 : Int), .map (some B4), .slice none 0 0, .slice none 0 0, .slice none 0 0]) (cs := #[.int .i64 (0 : Int), .bool false, .slice none 0 0, .slice none 0 0, .slice none 0 0, .slice none 0 0, .slice none 0 0, .slice none 0 0, .int .i64 (0 : Int), .map (some B4), .slice none 0 0, .slice none 0 0, .slice none 0 0]) hO rfl
 obtain ⟨w9, B10, yu, xR, yv⟩ := hobt
 refine GoR.op (yv rfl) rfl rfl ?_
 replace hO := yu.own
 replace bH := bH.ch yu.ch
 replace hB := hB.trans yu.fr
 refine GoR.op ((op_assign rfl) _) rfl rfl ?_
 refine GoR.nil ?_
 refine Go1.seq ?_
 refine Go1.region ?_
 refine GoR.op ((op_move rfl) _) rfl rfl ?_
 refine GoR.op ((op_move rfl) _) rfl rfl ?_
 refine GoR.op ((op_move rfl) _) rfl rfl ?_
 obtain ⟨h15, H⟩ := H
 obtain ⟨h16, H⟩ := H
 refine GoR.op ((op_index Try.underlying22 ti26 rfl rfl h15 h16 (bH.some_ h15 h16)) _) rfl rfl ?_
 have hobt := ldSl bH h15 h16
 obtain ⟨p17, c18, vR, Hs⟩ := hobt
 refine GoR.op ((Hs Try.underlying26 rfl rfl) _ (Same.refl _)) rfl rfl ?_
 refine GoR.op ((op_len Try.underlying26 rfl) _) rfl rfl ?_
 replace H := H vR.bd
 refine GoR.op ((op_move rfl) _) rfl rfl ?_
 refine GoR.op ((op_nilCheck rfl) _) rfl rfl ?_
 refine GoR.op ((op_fieldAddr Try.underlying72 rfl ti29 rfl (by decide)) _) rfl rfl ?_
 refine GoR.op ((op_fieldAddr Try.underlying29 rfl ti3 rfl (by decide)) _) rfl rfl ?_
 have hobt := oblkSt2 (v := .int .i64 ((ix a0 (0 : Int)).length : Int)) (i := 0) (cs' := #[.int .i64 ((ix a0 (0 : Int)).length : Int), .bool false, .slice none 0 0, .slice none 0 0, .slice none 0 0, .slice none 0 0, .slice none 0 0, .slice none 0 0, .int .i64 (0 : Int), .map (some B4), .slice none 0 0, .slice none 0 0, .slice none 0 0]) 0 hO rfl rfl rfl rfl
 obtain ⟨w21, mq, DB⟩ := hobt
 refine GoR.op (DB Try.underlying3 rfl ti3 (by exact rfl) (by exact rfl)) rfl rfl ?_
 replace hO := mq.own
 replace bH := bH.ch mq.ch
 replace vR := vR.ch mq.ch
 replace hB := hB.trans mq.fr
 refine GoR.op ((op_nilCheck rfl) _) rfl rfl ?_
 refine GoR.op ((op_fieldAddr Try.underlying72 rfl ti29 rfl (by decide)) _) rfl rfl ?_
 refine GoR.op ((op_fieldAddr Try.underlying29 rfl ti4 rfl (by decide)) _) rfl rfl ?_
 have hobt := oblkSt2 (v := .bool a1) (i := 1) (cs' := #[.int .i64 ((ix a0 (0 : Int)).length : Int), .bool a1, .slice none 0 0, .slice none 0 0, .slice none 0 0, .slice none 0 0, .slice none 0 0, .slice none 0 0, .int .i64 (0 : Int), .map (some B4), .slice none 0 0, .slice none 0 0, .slice none 0 0]) 0 hO rfl rfl rfl rfl
 obtain ⟨w24, xE, yw⟩ := hobt
 refine GoR.op (yw Try.underlying4 rfl ti4 (by exact rfl) (by exact rfl)) rfl rfl ?_
 replace hO := xE.own
 replace bH := bH.ch xE.ch
 replace vR := vR.ch xE.ch
 replace hB := hB.trans xE.fr
 refine GoR.nil ?_
 refine Go1.seq ?_
 refine Go1.seq ?_
 refine Go1.cut [(0, .slice oe a0.length og), (1, .bool a1), (6, .pointer (some ⟨B10, 0, none⟩))] ⟨rfl, rfl, rfl, trivial⟩ ?_
 intro σ _
 refine Go1.region ?_
 refine GoR.op ((op_move rfl) _) rfl rfl ?_
 refine GoR.op ((op_len Try.underlying22 rfl) _) rfl rfl ?_
 refine GoR.op ((op_move rfl) _) rfl rfl ?_
 refine GoR.nil ?_
 refine Go1.block ?_
 have qs := Stp.nil (e := 26) (r := 1) hO
 replace hO := qs.own
 replace bH := bH.ch qs.ch
 replace vR := vR.ch qs.ch
 replace hB := hB.trans qs.fr
 have Ht := Els.nil (Rp.sl (Rp.int .i64)) (bl (.row 26 1 none 0 0 [] :: [.blk B10 (.cells #[.int .i64 ((ix a0 (0 : Int)).length : Int), .bool a1, .slice none 0 0, .slice none 0 0, .slice none 0 0, .slice none 0 0, .slice none 0 0, .slice none 0 0, .int .i64 (0 : Int), .map (some B4), .slice none 0 0, .slice none 0 0, .slice none 0 0] 72 (0, 0)), .any (mapE (fun a : List UInt8 => Value.string (gstr a)) (fun a : Int => Value.int .i64 a) B4 (([] : List (Str × Int))))]) ++ A) w24
 refine Go1.loopW (S := Nat × List (List Int)) (fun s σ w => match s with | (k1_31, d_32) => ∃ (n37 : Nat), ∃ (p35 : Option Addr), ∃ (c36 : Nat), ∃ (f0 : List Value), agrees σ [(1, .bool a1), (6, .pointer (some ⟨B10, 0, none⟩)), (39, .slice oe a0.length og), (40, .int .i64 (a0.length : Int)), (41, .int .i64 (k1_31 : Int))] ∧ Owns w0.heap.size w [.row 26 1 p35 n37 c36 f0, .blk B10 (.cells #[.int .i64 ((ix a0 (0 : Int)).length : Int), .bool a1, .slice p35 n37 c36, .slice none 0 0, .slice none 0 0, .slice none 0 0, .slice none 0 0, .slice none 0 0, .int .i64 (0 : Int), .map (some B4), .slice none 0 0, .slice none 0 0, .slice none 0 0] 72 (0, 0)), .any (mapE (fun a : List UInt8 => Value.string (gstr a)) (fun a : Int => Value.int .i64 a) B4 (([] : List (Str × Int))))] A ∧ Els (Rp.sl (Rp.int .i64)) (bl [.row 26 1 p35 n37 c36 f0, .blk B10 (.cells #[.int .i64 ((ix a0 (0 : Int)).length : Int), .bool a1, .slice p35 n37 c36, .slice none 0 0, .slice none 0 0, .slice none 0 0, .slice none 0 0, .slice none 0 0, .int .i64 (0 : Int), .map (some B4), .slice none 0 0, .slice none 0 0, .slice none 0 0] 72 (0, 0)), .any (mapE (fun a : List UInt8 => Value.string (gstr a)) (fun a : Int => Value.int .i64 a) B4 (([] : List (Str × Int))))] ++ A) w f0 d_32 ∧ ISl (Rp.sl (Rp.int .i64)) (bl [.row 26 1 p35 n37 c36 f0, .blk B10 (.cells #[.int .i64 ((ix a0 (0 : Int)).length : Int), .bool a1, .slice p35 n37 c36, .slice none 0 0, .slice none 0 0, .slice none 0 0, .slice none 0 0, .slice none 0 0, .int .i64 (0 : Int), .map (some B4), .slice none 0 0, .slice none 0 0, .slice none 0 0] 72 (0, 0)), .any (mapE (fun a : List UInt8 => Value.string (gstr a)) (fun a : Int => Value.int .i64 a) B4 (([] : List (Str × Int))))] ++ A) w oe og a0 ∧ Fr (bl []) w0 (bl [.row 26 1 p35 n37 c36 f0, .blk B10 (.cells #[.int .i64 ((ix a0 (0 : Int)).length : Int), .bool a1, .slice p35 n37 c36, .slice none 0 0, .slice none 0 0, .slice none 0 0, .slice none 0 0, .slice none 0 0, .int .i64 (0 : Int), .map (some B4), .slice none 0 0, .slice none 0 0, .slice none 0 0] 72 (0, 0)), .any (mapE (fun a : List UInt8 => Value.string (gstr a)) (fun a : Int => Value.int .i64 a) B4 (([] : List (Str × Int))))]) w) H ⟨0, none, 0, [], ⟨rfl, rfl, rfl, rfl, rfl, trivial⟩, hO, Ht, bH, hB⟩ ?_
 intro X1
 refine prE fun k1_31 => fun d_32 => ?_
 intro H hX1 σ w30
 refine exE fun n37 => exE fun p35 => exE fun c36 => exE fun f0 => andE fun hag => andE fun hO => andE fun aj => andE fun bH => fun hB => ?_
 dsimp only at H
 refine Go1.keep [(1, .bool a1), (6, .pointer (some ⟨B10, 0, none⟩)), (39, .slice oe a0.length og), (40, .int .i64 (a0.length : Int)), (41, .int .i64 (k1_31 : Int))] hag ?_
 refine Go1.seq ?_
 refine Go1.region ?_
 by_cases h38 : (k1_31 : Int) < (a0.length : Int)
 ·replace H := ifp h38 H
  refine GoR.op ((fun w => opB (op_lss rfl rfl w) (decide_eq_true h38)) _) rfl rfl ?_
  refine GoR.nil ?_
  refine Go1.seq ?_
  refine Go1.condT rfl rfl ?_
  refine Go1.skip ?_
  refine Go1.seq ?_
  refine Go1.block ?_
  refine Go1.seq ?_
  refine Go1.region ?_
  obtain ⟨h39, H⟩ := H
  obtain ⟨h40, H⟩ := H
  refine GoR.op ((op_index Try.underlying22 ti26 rfl rfl h39 h40 (bH.some_ h39 h40)) _) rfl rfl ?_
  have hobt := ldSl bH h39 h40
  obtain ⟨p41, c42, oO, Hu⟩ := hobt
  refine GoR.op ((Hu Try.underlying26 rfl rfl) _ (Same.refl _)) rfl rfl ?_
  refine GoR.op ((op_assign rfl) _) rfl rfl ?_
  refine GoR.nil ?_
  refine Go1.seq ?_
  refine Go1.seq ?_
  refine Go1.region ?_
  refine GoR.op ((op_move rfl) _) rfl rfl ?_
  refine GoR.op ((op_len Try.underlying26 rfl) _) rfl rfl ?_
  replace H := H oO.bd
  refine GoR.op ((op_move rfl) _) rfl rfl ?_
  refine GoR.op ((op_nilCheck rfl) _) rfl rfl ?_
  refine GoR.op ((op_fieldAddr Try.underlying72 rfl ti29 rfl (by decide)) _) rfl rfl ?_
  refine GoR.op ((op_fieldAddr Try.underlying29 rfl ti3 rfl (by decide)) _) rfl rfl ?_
  refine GoR.op ((oblk (i := 0) 1 hO rfl rfl Try.underlying3 rfl rfl) _ (Same.refl _)) rfl rfl ?_
  by_cases h45 : ((ix a0 (k1_31 : Int)).length : Int) = ((ix a0 (0 : Int)).length : Int)
  ·replace H := ifp h45 H
   refine GoR.op ((fun w => opB (op_neq rfl rfl w) (ndT h45)) _) rfl rfl ?_
   refine GoR.op ((op_move rfl) _) rfl rfl ?_
   refine GoR.op ((op_move rfl) _) rfl rfl ?_
   refine GoR.call (op_call body60 rfl (walk_trans_Valid hO.lt oO H)) rfl rfl ?_
   rintro v50 w47 ⟨r46, rfl, Hv, H⟩
   have ws := Stp.same hO Hv
   replace aj := aj.ch ws.ch
   replace hO := ws.own
   replace bH := bH.ch ws.ch
   replace oO := oO.ch ws.ch
   replace hB := hB.trans ws.fr
   cases r46
   ·replace H := ifn Bool.false_ne_true H
    refine GoR.op ((op_not rfl) _) rfl rfl ?_
    refine GoR.op ((op_pickF rfl rfl rfl) _) rfl rfl ?_
    refine GoR.nil ?_
    refine Go1.condT rfl rfl ?_
    refine Go1.seq ?_
    refine Go1.region ?_
    refine GoR.op ((op_assign rfl) _) rfl rfl ?_
    refine GoR.op ((op_assign rfl) _) rfl rfl ?_
    refine GoR.nil ?_
    refine Go1.ret2 Try.func49 rfl ?_
    exact Or.inl ⟨((4 : Int)), rfl, hB.same, H⟩
   replace H := ifp rfl H
   refine GoR.op ((op_not rfl) _) rfl rfl ?_
   refine GoR.op ((op_pickF rfl rfl rfl) _) rfl rfl ?_
   refine GoR.nil ?_
   refine Go1.condF rfl rfl ?_
   refine Go1.skip ?_
   refine Go1.cut [(1, .bool a1), (6, .pointer (some ⟨B10, 0, none⟩)), (8, .slice p41 ((ix a0 (k1_31 : Int)).length) c42), (39, .slice oe a0.length og), (40, .int .i64 (a0.length : Int)), (41, .int .i64 (k1_31 : Int))] ⟨rfl, rfl, rfl, rfl, rfl, rfl, trivial⟩ ?_
   intro σ _
   refine Go1.drawS 1 [(0, .pure), (1, .pure), (2, .pure), (3, .pure), (4, .pure), (5, .stable), (6, .pure), (7, .loud), (8, .loud), (9, .last), (10, .pure), (11, .pure), (12, .pure), (13, .last)] mixed (by kernel_rfl) ?_
   intro w52 Hw
   have wt := Stp.same hO Hw
   replace aj := aj.ch wt.ch
   replace hO := wt.own
   replace bH := bH.ch wt.ch
   replace oO := oO.ch wt.ch
   replace hB := hB.trans wt.fr
   refine GoQ.pure rfl (op_move rfl) rfl rfl ?_
   refine GoQ.pure rfl (op_move rfl) rfl rfl ?_
   refine GoQ.pure rfl (op_nilCheck rfl) rfl rfl ?_
   refine GoQ.pure rfl (op_fieldAddr Try.underlying72 rfl ti29 rfl (by decide)) rfl rfl ?_
   refine GoQ.pure rfl (op_fieldAddr Try.underlying29 rfl ti22 rfl (by decide)) rfl rfl ?_
   refine GoQ.stable rfl (oblk (i := 2) 1 hO rfl rfl Try.underlying22 rfl rfl) rfl rfl ?_
   refine GoQ.pure rfl (op_move rfl) rfl rfl ?_
   refine GoQ.call rfl (op_call body64 rfl (walk_slices_Clone_int hO.lt oO H)) (fun v w hr => by obtain ⟨_, _, _, _, _, _, hs, _, _, _⟩ := hr; assumption) rfl rfl ?_
   rintro v60 w57 ⟨r55, AW, wu, wv, Jq, rfl, Hx, hN59, zR, H⟩
   have ww := Stp.more hO Hx hN59
   replace aj := aj.ch ww.ch
   replace hO := ww.own
   replace bH := bH.ch ww.ch
   replace oO := oO.ch ww.ch
   replace hB := hB.trans ww.fr
   replace zR := zR.ch (Ch.assoc _ _ _ _)
   have hobt := freeze 0 hO rfl zR
   obtain ⟨hO1, zS, sN, Hy⟩ := hobt
   replace bH := bH.ch zS
   replace oO := oO.ch zS
   replace aj := aj.ch zS
   replace hB := hB.trans (Owns.dropFr _ _ 0)
   replace hO := hO1; clear hO1
   have hobt := obuild (r := Rp.sl (Rp.int .i64)) (n := 1) (parts := [(0, .slice wu AW wv)]) (vs := [.slice wu AW wv]) (xs := [r55]) rfl Try.underlying22 ti26 hO (by decide) (by kernel_rfl) (Els.cons rfl ⟨wu, wv, congrArg some (congrArg (fun nn => Value.slice wu nn wv) Hy), sN⟩ (Els.nil _ _ _) (by simp [mx])) rfl
   obtain ⟨w66, p67, vl, rc, Hz, DD⟩ := hobt
   refine GoQ.loud rfl (DD rfl) Hz rfl rfl ?_
   replace aj := aj.ch vl.ch
   replace hO := vl.own
   replace bH := bH.ch vl.ch
   replace oO := oO.ch vl.ch
   replace sN := sN.ch vl.ch
   replace hB := hB.trans vl.fr
   have hobt := freeze 0 hO rfl rc
   obtain ⟨hO1, yy, xS, HA⟩ := hobt
   replace bH := bH.ch yy
   replace oO := oO.ch yy
   replace sN := sN.ch yy
   replace aj := aj.ch yy
   replace hB := hB.trans (Owns.dropFr _ _ 0)
   replace hO := hO1; clear hO1
   obtain ⟨h76, H⟩ := H
   have hobt := oapp Try.underlying22 ti26 rfl 0 hO rfl aj xS HA h76 (by decide)
   obtain ⟨w77, p78, c79, oh, vm, zT, DE⟩ := hobt
   refine GoQ.last rfl (DE (by exact rfl) (by exact rfl)) rfl rfl ?_
   replace hO := vm.own
   replace bH := bH.ch vm.ch
   replace oO := oO.ch vm.ch
   replace sN := sN.ch vm.ch
   replace xS := xS.ch vm.ch
   replace hB := hB.trans vm.fr
   refine GoQ.pure rfl (op_nilCheck rfl) rfl rfl ?_
   refine GoQ.pure rfl (op_fieldAddr Try.underlying72 rfl ti29 rfl (by decide)) rfl rfl ?_
   refine GoQ.pure rfl (op_fieldAddr Try.underlying29 rfl ti22 rfl (by decide)) rfl rfl ?_
   have hobt := oblkSt2 (v := .slice p78 (n37 + 1) c79) (i := 2) (cs' := #[.int .i64 ((ix a0 (0 : Int)).length : Int), .bool a1, .slice p78 (n37 + 1) c79, .slice none 0 0, .slice none 0 0, .slice none 0 0, .slice none 0 0, .slice none 0 0, .int .i64 (0 : Int), .map (some B4), .slice none 0 0, .slice none 0 0, .slice none 0 0]) 1 hO rfl rfl rfl rfl
   obtain ⟨w85, uA, DF⟩ := hobt
   refine GoQ.last rfl (DF Try.underlying22 rfl ti22 (by exact rfl) (by exact rfl)) rfl rfl ?_
   replace zT := zT.ch uA.ch
   replace hO := uA.own
   replace bH := bH.ch uA.ch
   replace oO := oO.ch uA.ch
   replace sN := sN.ch uA.ch
   replace xS := xS.ch uA.ch
   replace hB := hB.trans uA.fr
   refine GoQ.nil ?_
   refine Go1.inBlock ?_
   refine Go1.region ?_
   refine GoR.op ((op_add rfl rfl (wrap_i64 (natbd h38 bH.bd))) _) rfl rfl ?_
   refine GoR.op ((op_move rfl) _) rfl rfl ?_
   refine GoR.nil ?_
   exact hX1 _ H _ _ ⟨n37 + 1, p78, c79, oh, ⟨rfl, rfl, rfl, rfl, rfl, trivial⟩, hO, zT, bH, hB⟩
  replace H := ifn h45 H
  refine GoR.op ((fun w => opB (op_neq rfl rfl w) (ndF h45)) _) rfl rfl ?_
  refine GoR.op ((op_move rfl) _) rfl rfl ?_
  refine GoR.pass rfl rfl ?_
  refine GoR.pass rfl rfl ?_
  refine GoR.pass rfl rfl ?_
  refine GoR.op ((op_pickT rfl rfl rfl) _) rfl rfl ?_
  refine GoR.nil ?_
  refine Go1.condT rfl rfl ?_
  refine Go1.seq ?_
  refine Go1.cut [] trivial ?_
  intro σ _
  refine Go1.region ?_
  refine GoR.op ((op_assign rfl) _) rfl rfl ?_
  refine GoR.op ((op_assign rfl) _) rfl rfl ?_
  refine GoR.nil ?_
  refine Go1.ret2 Try.func49 rfl ?_
  exact Or.inl ⟨((4 : Int)), rfl, hB.same, H⟩
 replace H := ifn h38 H
 refine GoR.op ((fun w => opB (op_lss rfl rfl w) (decide_eq_false h38)) _) rfl rfl ?_
 refine GoR.nil ?_
 refine Go1.seq ?_
 refine Go1.condF rfl rfl ?_
 refine Go1.exit rfl ?_
 refine Go1.seq ?_
 refine Go1.region ?_
 refine GoR.op ((op_assign rfl) _) rfl rfl ?_
 refine GoR.nil ?_
 refine Go1.seq ?_
 refine Go1.seq ?_
 refine Go1.region ?_
 refine GoR.op ((op_move rfl) _) rfl rfl ?_
 refine GoR.nil ?_
 cases a1
 ·replace H := ifn Bool.false_ne_true H
  refine Go1.condF rfl rfl ?_
  refine Go1.skip ?_
  refine Go1.seq ?_
  refine Go1.seq ?_
  refine Go1.region ?_
  refine GoR.op ((op_move rfl) _) rfl rfl ?_
  refine GoR.op ((op_nilCheck rfl) _) rfl rfl ?_
  refine GoR.op ((op_fieldAddr Try.underlying72 rfl ti29 rfl (by decide)) _) rfl rfl ?_
  refine GoR.op ((op_fieldAddr Try.underlying29 rfl ti22 rfl (by decide)) _) rfl rfl ?_
  refine GoR.op ((oblk (i := 2) 1 hO rfl rfl Try.underlying22 rfl rfl) _ (Same.refl _)) rfl rfl ?_
  refine GoR.op ((op_lenN Try.underlying22 rfl (aj.neq hO 0 rfl)) _) rfl rfl ?_
  refine GoR.op ((op_move rfl) _) rfl rfl ?_
  refine GoR.nil ?_
  refine Go1.block ?_
  have xF := Stp.nil (e := 26) (r := 1) hO
  replace aj := aj.ch xF.ch
  replace hO := xF.own
  replace bH := bH.ch xF.ch
  replace hB := hB.trans xF.fr
  have dH := Els.nil (Rp.sl (Rp.int .i64)) (bl (.row 26 1 none 0 0 [] :: [.row 26 1 p35 n37 c36 f0, .blk B10 (.cells #[.int .i64 ((ix a0 (0 : Int)).length : Int), .bool false, .slice p35 n37 c36, .slice none 0 0, .slice none 0 0, .slice none 0 0, .slice none 0 0, .slice none 0 0, .int .i64 (0 : Int), .map (some B4), .slice none 0 0, .slice none 0 0, .slice none 0 0] 72 (0, 0)), .any (mapE (fun a : List UInt8 => Value.string (gstr a)) (fun a : Int => Value.int .i64 a) B4 (([] : List (Str × Int))))]) ++ A) w30
  have wx := Stp.nil (e := 3) (r := 1) hO
  replace dH := dH.ch wx.ch
  replace aj := aj.ch wx.ch
  replace hO := wx.own
  replace bH := bH.ch wx.ch
  replace hB := hB.trans wx.fr
  have ki := Els.nil (Rp.int .i64) (bl (.row 3 1 none 0 0 [] :: [.row 26 1 none 0 0 [], .row 26 1 p35 n37 c36 f0, .blk B10 (.cells #[.int .i64 ((ix a0 (0 : Int)).length : Int), .bool false, .slice p35 n37 c36, .slice none 0 0, .slice none 0 0, .slice none 0 0, .slice none 0 0, .slice none 0 0, .int .i64 (0 : Int), .map (some B4), .slice none 0 0, .slice none 0 0, .slice none 0 0] 72 (0, 0)), .any (mapE (fun a : List UInt8 => Value.string (gstr a)) (fun a : Int => Value.int .i64 a) B4 (([] : List (Str × Int))))]) ++ A) w30
  have vn := Stp.nil (e := 3) (r := 1) hO
  replace ki := ki.ch vn.ch
  replace dH := dH.ch vn.ch
  replace aj := aj.ch vn.ch
  replace hO := vn.own
  replace bH := bH.ch vn.ch
  replace hB := hB.trans vn.fr
  have uB := Els.nil (Rp.int .i64) (bl (.row 3 1 none 0 0 [] :: [.row 3 1 none 0 0 [], .row 26 1 none 0 0 [], .row 26 1 p35 n37 c36 f0, .blk B10 (.cells #[.int .i64 ((ix a0 (0 : Int)).length : Int), .bool false, .slice p35 n37 c36, .slice none 0 0, .slice none 0 0, .slice none 0 0, .slice none 0 0, .slice none 0 0, .int .i64 (0 : Int), .map (some B4), .slice none 0 0, .slice none 0 0, .slice none 0 0] 72 (0, 0)), .any (mapE (fun a : List UInt8 => Value.string (gstr a)) (fun a : Int => Value.int .i64 a) B4 (([] : List (Str × Int))))]) ++ A) w30
  have uC := Stp.nil (e := 39) (r := 2) hO
  replace uB := uB.ch uC.ch
  replace ki := ki.ch uC.ch
  replace dH := dH.ch uC.ch
  replace aj := aj.ch uC.ch
  replace hO := uC.own
  replace bH := bH.ch uC.ch
  replace hB := hB.trans uC.fr
  have vS := Els.nil (rpRule) (bl (.row 39 2 none 0 0 [] :: [.row 3 1 none 0 0 [], .row 3 1 none 0 0 [], .row 26 1 none 0 0 [], .row 26 1 p35 n37 c36 f0, .blk B10 (.cells #[.int .i64 ((ix a0 (0 : Int)).length : Int), .bool false, .slice p35 n37 c36, .slice none 0 0, .slice none 0 0, .slice none 0 0, .slice none 0 0, .slice none 0 0, .int .i64 (0 : Int), .map (some B4), .slice none 0 0, .slice none 0 0, .slice none 0 0] 72 (0, 0)), .any (mapE (fun a : List UInt8 => Value.string (gstr a)) (fun a : Int => Value.int .i64 a) B4 (([] : List (Str × Int))))]) ++ A) w30
  have jU := Stp.nil (e := 9) (r := 1) hO
  replace vS := vS.ch jU.ch
  replace uB := uB.ch jU.ch
  replace ki := ki.ch jU.ch
  replace dH := dH.ch jU.ch
  replace aj := aj.ch jU.ch
  replace hO := jU.own
  replace bH := bH.ch jU.ch
  replace hB := hB.trans jU.fr
  have wy := Els.nil (Rp.str) (bl (.row 9 1 none 0 0 [] :: [.row 39 2 none 0 0 [], .row 3 1 none 0 0 [], .row 3 1 none 0 0 [], .row 26 1 none 0 0 [], .row 26 1 p35 n37 c36 f0, .blk B10 (.cells #[.int .i64 ((ix a0 (0 : Int)).length : Int), .bool false, .slice p35 n37 c36, .slice none 0 0, .slice none 0 0, .slice none 0 0, .slice none 0 0, .slice none 0 0, .int .i64 (0 : Int), .map (some B4), .slice none 0 0, .slice none 0 0, .slice none 0 0] 72 (0, 0)), .any (mapE (fun a : List UInt8 => Value.string (gstr a)) (fun a : Int => Value.int .i64 a) B4 (([] : List (Str × Int))))]) ++ A) w30
  have jd := Stp.nil (e := 3) (r := 1) hO
  replace wy := wy.ch jd.ch
  replace vS := vS.ch jd.ch
  replace uB := uB.ch jd.ch
  replace ki := ki.ch jd.ch
  replace dH := dH.ch jd.ch
  replace aj := aj.ch jd.ch
  replace hO := jd.own
  replace bH := bH.ch jd.ch
  replace hB := hB.trans jd.fr
  have yz := Els.nil (Rp.int .i64) (bl (.row 3 1 none 0 0 [] :: [.row 9 1 none 0 0 [], .row 39 2 none 0 0 [], .row 3 1 none 0 0 [], .row 3 1 none 0 0 [], .row 26 1 none 0 0 [], .row 26 1 p35 n37 c36 f0, .blk B10 (.cells #[.int .i64 ((ix a0 (0 : Int)).length : Int), .bool false, .slice p35 n37 c36, .slice none 0 0, .slice none 0 0, .slice none 0 0, .slice none 0 0, .slice none 0 0, .int .i64 (0 : Int), .map (some B4), .slice none 0 0, .slice none 0 0, .slice none 0 0] 72 (0, 0)), .any (mapE (fun a : List UInt8 => Value.string (gstr a)) (fun a : Int => Value.int .i64 a) B4 (([] : List (Str × Int))))]) ++ A) w30
  have jV := Stp.nil (e := 3) (r := 1) hO
  replace yz := yz.ch jV.ch
  replace wy := wy.ch jV.ch
  replace vS := vS.ch jV.ch
  replace uB := uB.ch jV.ch
  replace ki := ki.ch jV.ch
  replace dH := dH.ch jV.ch
  replace aj := aj.ch jV.ch
  replace hO := jV.own
  replace bH := bH.ch jV.ch
  replace hB := hB.trans jV.fr
  have DG := Els.nil (Rp.int .i64) (bl (.row 3 1 none 0 0 [] :: [.row 3 1 none 0 0 [], .row 9 1 none 0 0 [], .row 39 2 none 0 0 [], .row 3 1 none 0 0 [], .row 3 1 none 0 0 [], .row 26 1 none 0 0 [], .row 26 1 p35 n37 c36 f0, .blk B10 (.cells #[.int .i64 ((ix a0 (0 : Int)).length : Int), .bool false, .slice p35 n37 c36, .slice none 0 0, .slice none 0 0, .slice none 0 0, .slice none 0 0, .slice none 0 0, .int .i64 (0 : Int), .map (some B4), .slice none 0 0, .slice none 0 0, .slice none 0 0] 72 (0, 0)), .any (mapE (fun a : List UInt8 => Value.string (gstr a)) (fun a : Int => Value.int .i64 a) B4 (([] : List (Str × Int))))]) ++ A) w30
  refine Go1.loopW (S := Nat × List Int × List Int × List Str × List Rule × List Int × List Int × List (List Int) × (List (Str × Int))) (fun s σ w => match s with | (k2_110, d_111, d_117, d_123, d_129, d_135, d_141, d_147, m2_153) => ∃ (iM : Nat), ∃ (j8 : Option Addr), ∃ (j9 : Nat), ∃ (qt : List Value), ∃ (iU : Nat), ∃ (jg : Option Addr), ∃ (jG : Nat), ∃ (oP : List Value), ∃ (iV : Nat), ∃ (ka : Option Addr), ∃ (kc : Nat), ∃ (oQ : List Value), ∃ (iW : Nat), ∃ (jH : Option Addr), ∃ (jI : Nat), ∃ (oR : List Value), ∃ (iX : Nat), ∃ (kj : Option Addr), ∃ (kl : Nat), ∃ (oS : List Value), ∃ (iY : Nat), ∃ (kO : Option Addr), ∃ (kP : Nat), ∃ (oT : List Value), ∃ (iZ : Nat), ∃ (lr : Option Addr), ∃ (lv : Nat), ∃ (oU : List Value), agrees σ [(6, .pointer (some ⟨B10, 0, none⟩)), (9, .int .i64 (-1 : Int)), (85, .slice p35 n37 c36), (86, .int .i64 (d_32.length : Int)), (87, .int .i64 (k2_110 : Int))] ∧ Owns w0.heap.size w [.row 3 1 j8 iM j9 qt, .row 3 1 jg iU jG oP, .row 9 1 ka iV kc oQ, .row 39 2 jH iW jI oR, .row 3 1 kj iX kl oS, .row 3 1 kO iY kP oT, .row 26 1 lr iZ lv oU, .row 26 1 p35 n37 c36 f0, .blk B10 (.cells #[.int .i64 ((ix a0 (0 : Int)).length : Int), .bool false, .slice p35 n37 c36, .slice lr iZ lv, .slice kO iY kP, .slice kj iX kl, .slice none 0 0, .slice jH iW jI, .int .i64 (0 : Int), .map (some B4), .slice ka iV kc, .slice jg iU jG, .slice j8 iM j9] 72 (0, 0)), .any (mapE (fun a : List UInt8 => Value.string (gstr a)) (fun a : Int => Value.int .i64 a) B4 m2_153)] A ∧ Els (Rp.int .i64) (bl [.row 3 1 j8 iM j9 qt, .row 3 1 jg iU jG oP, .row 9 1 ka iV kc oQ, .row 39 2 jH iW jI oR, .row 3 1 kj iX kl oS, .row 3 1 kO iY kP oT, .row 26 1 lr iZ lv oU, .row 26 1 p35 n37 c36 f0, .blk B10 (.cells #[.int .i64 ((ix a0 (0 : Int)).length : Int), .bool false, .slice p35 n37 c36, .slice lr iZ lv, .slice kO iY kP, .slice kj iX kl, .slice none 0 0, .slice jH iW jI, .int .i64 (0 : Int), .map (some B4), .slice ka iV kc, .slice jg iU jG, .slice j8 iM j9] 72 (0, 0)), .any (mapE (fun a : List UInt8 => Value.string (gstr a)) (fun a : Int => Value.int .i64 a) B4 m2_153)] ++ A) w qt d_111 ∧ Els (Rp.int .i64) (bl [.row 3 1 j8 iM j9 qt, .row 3 1 jg iU jG oP, .row 9 1 ka iV kc oQ, .row 39 2 jH iW jI oR, .row 3 1 kj iX kl oS, .row 3 1 kO iY kP oT, .row 26 1 lr iZ lv oU, .row 26 1 p35 n37 c36 f0, .blk B10 (.cells #[.int .i64 ((ix a0 (0 : Int)).length : Int), .bool false, .slice p35 n37 c36, .slice lr iZ lv, .slice kO iY kP, .slice kj iX kl, .slice none 0 0, .slice jH iW jI, .int .i64 (0 : Int), .map (some B4), .slice ka iV kc, .slice jg iU jG, .slice j8 iM j9] 72 (0, 0)), .any (mapE (fun a : List UInt8 => Value.string (gstr a)) (fun a : Int => Value.int .i64 a) B4 m2_153)] ++ A) w oP d_117 ∧ Els (Rp.str) (bl [.row 3 1 j8 iM j9 qt, .row 3 1 jg iU jG oP, .row 9 1 ka iV kc oQ, .row 39 2 jH iW jI oR, .row 3 1 kj iX kl oS, .row 3 1 kO iY kP oT, .row 26 1 lr iZ lv oU, .row 26 1 p35 n37 c36 f0, .blk B10 (.cells #[.int .i64 ((ix a0 (0 : Int)).length : Int), .bool false, .slice p35 n37 c36, .slice lr iZ lv, .slice kO iY kP, .slice kj iX kl, .slice none 0 0, .slice jH iW jI, .int .i64 (0 : Int), .map (some B4), .slice ka iV kc, .slice jg iU jG, .slice j8 iM j9] 72 (0, 0)), .any (mapE (fun a : List UInt8 => Value.string (gstr a)) (fun a : Int => Value.int .i64 a) B4 m2_153)] ++ A) w oQ d_123 ∧ Els (rpRule) (bl [.row 3 1 j8 iM j9 qt, .row 3 1 jg iU jG oP, .row 9 1 ka iV kc oQ, .row 39 2 jH iW jI oR, .row 3 1 kj iX kl oS, .row 3 1 kO iY kP oT, .row 26 1 lr iZ lv oU, .row 26 1 p35 n37 c36 f0, .blk B10 (.cells #[.int .i64 ((ix a0 (0 : Int)).length : Int), .bool false, .slice p35 n37 c36, .slice lr iZ lv, .slice kO iY kP, .slice kj iX kl, .slice none 0 0, .slice jH iW jI, .int .i64 (0 : Int), .map (some B4), .slice ka iV kc, .slice jg iU jG, .slice j8 iM j9] 72 (0, 0)), .any (mapE (fun a : List UInt8 => Value.string (gstr a)) (fun a : Int => Value.int .i64 a) B4 m2_153)] ++ A) w oR d_129 ∧ Els (Rp.int .i64) (bl [.row 3 1 j8 iM j9 qt, .row 3 1 jg iU jG oP, .row 9 1 ka iV kc oQ, .row 39 2 jH iW jI oR, .row 3 1 kj iX kl oS, .row 3 1 kO iY kP oT, .row 26 1 lr iZ lv oU, .row 26 1 p35 n37 c36 f0, .blk B10 (.cells #[.int .i64 ((ix a0 (0 : Int)).length : Int), .bool false, .slice p35 n37 c36, .slice lr iZ lv, .slice kO iY kP, .slice kj iX kl, .slice none 0 0, .slice jH iW jI, .int .i64 (0 : Int), .map (some B4), .slice ka iV kc, .slice jg iU jG, .slice j8 iM j9] 72 (0, 0)), .any (mapE (fun a : List UInt8 => Value.string (gstr a)) (fun a : Int => Value.int .i64 a) B4 m2_153)] ++ A) w oS d_135 ∧ Els (Rp.int .i64) (bl [.row 3 1 j8 iM j9 qt, .row 3 1 jg iU jG oP, .row 9 1 ka iV kc oQ, .row 39 2 jH iW jI oR, .row 3 1 kj iX kl oS, .row 3 1 kO iY kP oT, .row 26 1 lr iZ lv oU, .row 26 1 p35 n37 c36 f0, .blk B10 (.cells #[.int .i64 ((ix a0 (0 : Int)).length : Int), .bool false, .slice p35 n37 c36, .slice lr iZ lv, .slice kO iY kP, .slice kj iX kl, .slice none 0 0, .slice jH iW jI, .int .i64 (0 : Int), .map (some B4), .slice ka iV kc, .slice jg iU jG, .slice j8 iM j9] 72 (0, 0)), .any (mapE (fun a : List UInt8 => Value.string (gstr a)) (fun a : Int => Value.int .i64 a) B4 m2_153)] ++ A) w oT d_141 ∧ Els (Rp.sl (Rp.int .i64)) (bl [.row 3 1 j8 iM j9 qt, .row 3 1 jg iU jG oP, .row 9 1 ka iV kc oQ, .row 39 2 jH iW jI oR, .row 3 1 kj iX kl oS, .row 3 1 kO iY kP oT, .row 26 1 lr iZ lv oU, .row 26 1 p35 n37 c36 f0, .blk B10 (.cells #[.int .i64 ((ix a0 (0 : Int)).length : Int), .bool false, .slice p35 n37 c36, .slice lr iZ lv, .slice kO iY kP, .slice kj iX kl, .slice none 0 0, .slice jH iW jI, .int .i64 (0 : Int), .map (some B4), .slice ka iV kc, .slice jg iU jG, .slice j8 iM j9] 72 (0, 0)), .any (mapE (fun a : List UInt8 => Value.string (gstr a)) (fun a : Int => Value.int .i64 a) B4 m2_153)] ++ A) w oU d_147 ∧ Els (Rp.sl (Rp.int .i64)) (bl [.row 3 1 j8 iM j9 qt, .row 3 1 jg iU jG oP, .row 9 1 ka iV kc oQ, .row 39 2 jH iW jI oR, .row 3 1 kj iX kl oS, .row 3 1 kO iY kP oT, .row 26 1 lr iZ lv oU, .row 26 1 p35 n37 c36 f0, .blk B10 (.cells #[.int .i64 ((ix a0 (0 : Int)).length : Int), .bool false, .slice p35 n37 c36, .slice lr iZ lv, .slice kO iY kP, .slice kj iX kl, .slice none 0 0, .slice jH iW jI, .int .i64 (0 : Int), .map (some B4), .slice ka iV kc, .slice jg iU jG, .slice j8 iM j9] 72 (0, 0)), .any (mapE (fun a : List UInt8 => Value.string (gstr a)) (fun a : Int => Value.int .i64 a) B4 m2_153)] ++ A) w f0 d_32 ∧ Fr (bl []) w0 (bl [.row 3 1 j8 iM j9 qt, .row 3 1 jg iU jG oP, .row 9 1 ka iV kc oQ, .row 39 2 jH iW jI oR, .row 3 1 kj iX kl oS, .row 3 1 kO iY kP oT, .row 26 1 lr iZ lv oU, .row 26 1 p35 n37 c36 f0, .blk B10 (.cells #[.int .i64 ((ix a0 (0 : Int)).length : Int), .bool false, .slice p35 n37 c36, .slice lr iZ lv, .slice kO iY kP, .slice kj iX kl, .slice none 0 0, .slice jH iW jI, .int .i64 (0 : Int), .map (some B4), .slice ka iV kc, .slice jg iU jG, .slice j8 iM j9] 72 (0, 0)), .any (mapE (fun a : List UInt8 => Value.string (gstr a)) (fun a : Int => Value.int .i64 a) B4 m2_153)]) w) H ⟨0, none, 0, [], 0, none, 0, [], 0, none, 0, [], 0, none, 0, [], 0, none, 0, [], 0, none, 0, [], 0, none, 0, [], ⟨rfl, rfl, rfl, rfl, rfl, trivial⟩, hO, DG, yz, wy, vS, uB, ki, dH, aj, hB⟩ ?_
  intro X2
  refine prE fun k2_110 => prE fun d_111 => prE fun d_117 => prE fun d_123 => prE fun d_129 => prE fun d_135 => prE fun d_141 => prE fun d_147 => fun m2_153 => ?_
  intro H hX2 σ wV
  refine exE fun iM => exE fun j8 => exE fun j9 => exE fun qt => exE fun iU => exE fun jg => exE fun jG => exE fun oP => exE fun iV => exE fun ka => exE fun kc => exE fun oQ => exE fun iW => exE fun jH => exE fun jI => exE fun oR => exE fun iX => exE fun kj => exE fun kl => exE fun oS => exE fun iY => exE fun kO => exE fun kP => exE fun oT => exE fun iZ => exE fun lr => exE fun lv => exE fun oU => andE fun hag => andE fun hO => andE fun cz => andE fun cF => andE fun cM => andE fun cG => andE fun dg => andE fun dp => andE fun dI => andE fun aj => fun hB => ?_
  dsimp only at H
  refine Go1.keep [(6, .pointer (some ⟨B10, 0, none⟩)), (9, .int .i64 (-1 : Int)), (85, .slice p35 n37 c36), (86, .int .i64 (d_32.length : Int)), (87, .int .i64 (k2_110 : Int))] hag ?_
  refine Go1.seq ?_
  refine Go1.region ?_
  by_cases wW : (k2_110 : Int) < (d_32.length : Int)
  ·replace H := ifp wW H
   refine GoR.op ((fun w => opB (op_lss rfl rfl w) (decide_eq_true wW)) _) rfl rfl ?_
   refine GoR.nil ?_
   refine Go1.seq ?_
   refine Go1.condT rfl rfl ?_
   refine Go1.skip ?_
   refine Go1.seq ?_
   refine Go1.block ?_
   refine Go1.seq ?_
   refine Go1.region ?_
   refine GoR.op ((op_move rfl) _) rfl rfl ?_
   obtain ⟨vT, H⟩ := H
   obtain ⟨vU, H⟩ := H
   refine GoR.op ((op_index Try.underlying22 ti26 rfl rfl vT (ltn (aj.neq hO 7 rfl) vU) (aj.psome hO 7 rfl vT vU)) _) rfl rfl ?_
   have hobt := oldSl 7 hO rfl aj vT vU
   obtain ⟨Bi, Bj, c6, DH⟩ := hobt
   refine GoR.op ((DH Try.underlying26 rfl rfl) _ (Same.refl _)) rfl rfl ?_
   refine GoR.op ((op_assign rfl) _) rfl rfl ?_
   refine GoR.op ((op_assign rfl) _) rfl rfl ?_
   refine GoR.nil ?_
   refine Go1.seq ?_
   refine Go1.region ?_
   refine GoR.op ((op_move rfl) _) rfl rfl ?_
   obtain ⟨HB, H⟩ := H
   refine GoR.op ((op_add rfl rfl (wrap_i64 HB)) _) rfl rfl ?_
   refine GoR.op ((op_conv Try.underlying3 Try.underlying21 rfl rfl) _) rfl rfl ?_
   obtain ⟨xT, H⟩ := H
   obtain ⟨xU, H⟩ := H
   refine GoR.op ((op_convRS Try.underlying21 Try.underlying9 rfl xT xU) _) rfl rfl ?_
   refine GoR.op ((op_assign rfl) _) rfl rfl ?_
   refine GoR.nil ?_
   refine Go1.seq ?_
   refine Go1.drawS 0 [(0, .pure), (1, .pure), (2, .pure), (3, .stable), (4, .pure), (5, .loud), (6, .stable), (7, .pure), (8, .pure), (9, .pure), (10, .pure), (11, .pure)] mixed (by kernel_rfl) ?_
   intro HC yA
   have jh := Stp.same hO yA
   replace cz := cz.ch jh.ch
   replace cF := cF.ch jh.ch
   replace cM := cM.ch jh.ch
   replace cG := cG.ch jh.ch
   replace dg := dg.ch jh.ch
   replace dp := dp.ch jh.ch
   replace dI := dI.ch jh.ch
   replace aj := aj.ch jh.ch
   replace hO := jh.own
   replace c6 := c6.ch jh.ch
   replace hB := hB.trans jh.fr
   refine GoQ.pure rfl (op_move rfl) rfl rfl ?_
   refine GoQ.pure rfl (op_nilCheck rfl) rfl rfl ?_
   refine GoQ.pure rfl (op_fieldAddr Try.underlying72 rfl ti69 rfl (by decide)) rfl rfl ?_
   refine GoQ.stable rfl (oblk (i := 9) 8 hO rfl rfl Try.underlying69 rfl rfl) rfl rfl ?_
   refine GoQ.pure rfl (op_move rfl) rfl rfl ?_
   refine GoQ.call rfl (op_call body61 rfl (walk_enumerate_text hO.lt c6 H)) (fun v w hr => by obtain ⟨_, _, hs, _, _⟩ := hr; assumption) rfl rfl ?_
   rintro J4 J5 ⟨r167, rfl, DJ, Jg, H⟩
   have qI := Stp.same hO DJ
   replace cz := cz.ch qI.ch
   replace cF := cF.ch qI.ch
   replace cM := cM.ch qI.ch
   replace cG := cG.ch qI.ch
   replace dg := dg.ch qI.ch
   replace dp := dp.ch qI.ch
   replace dI := dI.ch qI.ch
   replace aj := aj.ch qI.ch
   replace hO := qI.own
   replace c6 := c6.ch qI.ch
   replace hB := hB.trans qI.fr
   by_cases uS : mhas m2_153 r167 = true
   ·replace H := ifp uS H
    refine GoQ.stable rfl (olookT (a := r167) (MK.str Try.underlying9) 9 hO rfl Try.underlying69 rfl rfl uS) rfl rfl ?_
    refine GoQ.pure rfl (op_move rfl) rfl rfl ?_
    refine GoQ.pure rfl (op_extract rfl rfl) rfl rfl ?_
    refine GoQ.pure rfl (op_extract rfl rfl) rfl rfl ?_
    refine GoQ.pure rfl (op_assign rfl) rfl rfl ?_
    refine GoQ.pure rfl (op_assign rfl) rfl rfl ?_
    refine GoQ.nil ?_
    refine Go1.seq ?_
    refine Go1.seq ?_
    refine Go1.cut [(6, .pointer (some ⟨B10, 0, none⟩)), (9, .int .i64 (-1 : Int)), (10, .int .i64 (k2_110 : Int)), (11, .slice Bi ((ix d_32 (k2_110 : Int)).length) Bj), (12, .string (gstr (chr (IntKind.i32.wrap ((97 : Int) + (k2_110 : Int)))))), (13, .int .i64 (mgt m2_153 r167)), (14, .bool true), (85, .slice p35 n37 c36), (86, .int .i64 (d_32.length : Int)), (87, .int .i64 (k2_110 : Int))] ⟨rfl, rfl, rfl, rfl, rfl, rfl, rfl, rfl, rfl, rfl, trivial⟩ ?_
    intro σ _
    refine Go1.region ?_
    refine GoR.op ((op_move rfl) _) rfl rfl ?_
    refine GoR.nil ?_
    refine Go1.condT rfl rfl ?_
    refine Go1.drawS 5 [(0, .pure), (1, .pure), (2, .pure), (3, .pure), (4, .pure), (5, .stable), (6, .pure), (7, .pure), (8, .pure), (9, .pure), (10, .stable), (11, .pure), (12, .pure), (13, .stable), (14, .pure), (15, .loud), (16, .last), (17, .pure), (18, .pure), (19, .pure), (20, .last)] mixed (by kernel_rfl) ?_
    intro J6 DK
    have qJ := Stp.same hO DK
    replace cz := cz.ch qJ.ch
    replace cF := cF.ch qJ.ch
    replace cM := cM.ch qJ.ch
    replace cG := cG.ch qJ.ch
    replace dg := dg.ch qJ.ch
    replace dp := dp.ch qJ.ch
    replace dI := dI.ch qJ.ch
    replace aj := aj.ch qJ.ch
    replace hO := qJ.own
    replace c6 := c6.ch qJ.ch
    replace hB := hB.trans qJ.fr
    refine GoQ.pure rfl (op_move rfl) rfl rfl ?_
    refine GoQ.pure rfl (op_move rfl) rfl rfl ?_
    refine GoQ.pure rfl (op_nilCheck rfl) rfl rfl ?_
    refine GoQ.pure rfl (op_fieldAddr Try.underlying72 rfl ti29 rfl (by decide)) rfl rfl ?_
    refine GoQ.pure rfl (op_fieldAddr Try.underlying29 rfl ti27 rfl (by decide)) rfl rfl ?_
    refine GoQ.stable rfl (oblk (i := 7) 8 hO rfl rfl Try.underlying27 rfl rfl) rfl rfl ?_
    refine GoQ.pure rfl (op_move rfl) rfl rfl ?_
    refine GoQ.pure rfl (op_move rfl) rfl rfl ?_
    refine GoQ.pure rfl (op_nilCheck rfl) rfl rfl ?_
    refine GoQ.pure rfl (op_fieldAddr Try.underlying72 rfl ti70 rfl (by decide)) rfl rfl ?_
    refine GoQ.stable rfl (oblk (i := 10) 8 hO rfl rfl Try.underlying70 rfl rfl) rfl rfl ?_
    refine GoQ.pure rfl (op_move rfl) rfl rfl ?_
    obtain ⟨yB, H⟩ := H
    obtain ⟨yC, H⟩ := H
    refine GoQ.pure rfl (op_index Try.underlying70 ti9 rfl rfl yB (ltn (cM.neq hO 2 rfl) yC) (cM.psome hO 2 rfl yB yC)) rfl rfl ?_
    refine GoQ.stable rfl (oldStr 2 hO rfl cM yB yC Try.underlying9 rfl rfl) rfl rfl ?_
    have hle179 := Els.str_le cM yB yC
    refine GoQ.pure rfl (op_build Try.underlying39 ti39 (pl := [(0, 1), (1, 1)]) (vs := [(0, .string (gstr (chr (IntKind.i32.wrap ((97 : Int) + (k2_110 : Int)))))), (1, .string (gstr (ix d_123 (mgt m2_153 r167))))]) (cs := #[.string (gstr (chr (IntKind.i32.wrap ((97 : Int) + (k2_110 : Int))))), .string (gstr (ix d_123 (mgt m2_153 r167)))]) (by kernel_rfl) rfl (by kernel_rfl)) rfl rfl ?_
    have hobt := obuildN (r := rpRule) (n := 1) (parts := [(0, .agg #[.string (gstr (chr (IntKind.i32.wrap ((97 : Int) + (k2_110 : Int))))), .string (gstr (ix d_123 (mgt m2_153 r167)))])]) (vs := [.string (gstr (chr (IntKind.i32.wrap ((97 : Int) + (k2_110 : Int))))), .string (gstr (ix d_123 (mgt m2_153 r167)))]) (xs := [(⟨chr (IntKind.i32.wrap ((97 : Int) + (k2_110 : Int))), ix d_123 (mgt m2_153 r167)⟩ : Rule)]) Try.underlying27 ti39 hO (by decide) (by decide) (by kernel_rfl) (Els.flat1 (⟨chr (IntKind.i32.wrap ((97 : Int) + (k2_110 : Int))), ix d_123 (mgt m2_153 r167)⟩ : Rule) ⟨(chr_le _), hle179⟩) rfl
    obtain ⟨J7, J8, jW, DL, yD, Bk⟩ := hobt
    refine GoQ.loud rfl (Bk rfl) yD rfl rfl ?_
    replace cz := cz.ch jW.ch
    replace cF := cF.ch jW.ch
    replace cM := cM.ch jW.ch
    replace cG := cG.ch jW.ch
    replace dg := dg.ch jW.ch
    replace dp := dp.ch jW.ch
    replace dI := dI.ch jW.ch
    replace aj := aj.ch jW.ch
    replace hO := jW.own
    replace c6 := c6.ch jW.ch
    replace hB := hB.trans jW.fr
    have hobt := freeze 0 hO rfl DL
    obtain ⟨hO1, tf, qu, DM⟩ := hobt
    dsimp only [eS, eZ] at hO1 tf qu
    replace c6 := c6.ch tf
    replace cz := cz.ch tf
    replace cF := cF.ch tf
    replace cM := cM.ch tf
    replace cG := cG.ch tf
    replace dg := dg.ch tf
    replace dp := dp.ch tf
    replace dI := dI.ch tf
    replace aj := aj.ch tf
    replace hB := hB.trans (Owns.dropFr _ _ 0)
    dsimp only [eS, eZ] at hB
    replace hO := hO1; clear hO1
    obtain ⟨HD, H⟩ := H
    have hobt := oapp Try.underlying27 ti39 rfl 3 hO rfl cG qu DM HD (by decide)
    obtain ⟨J9, yE, yF, DN, pm, rF, Bl⟩ := hobt
    dsimp only [sS, sZ] at pm rF
    refine GoQ.last rfl (Bl (by exact rfl) (by exact rfl)) rfl rfl ?_
    replace cz := cz.ch pm.ch
    replace cF := cF.ch pm.ch
    replace cM := cM.ch pm.ch
    replace dg := dg.ch pm.ch
    replace dp := dp.ch pm.ch
    replace dI := dI.ch pm.ch
    replace aj := aj.ch pm.ch
    replace hO := pm.own
    replace c6 := c6.ch pm.ch
    replace qu := qu.ch pm.ch
    replace hB := hB.trans pm.fr
    refine GoQ.pure rfl (op_nilCheck rfl) rfl rfl ?_
    refine GoQ.pure rfl (op_fieldAddr Try.underlying72 rfl ti29 rfl (by decide)) rfl rfl ?_
    refine GoQ.pure rfl (op_fieldAddr Try.underlying29 rfl ti27 rfl (by decide)) rfl rfl ?_
    have hobt := oblkSt2 (v := .slice yE (iW + 1) yF) (i := 7) (cs' := #[.int .i64 ((ix a0 (0 : Int)).length : Int), .bool false, .slice p35 n37 c36, .slice lr iZ lv, .slice kO iY kP, .slice kj iX kl, .slice none 0 0, .slice yE (iW + 1) yF, .int .i64 (0 : Int), .map (some B4), .slice ka iV kc, .slice jg iU jG, .slice j8 iM j9]) 8 hO rfl rfl rfl rfl
    obtain ⟨Ka, iL, Bm⟩ := hobt
    dsimp only [sS, sZ] at iL
    refine GoQ.last rfl (Bm Try.underlying27 rfl ti27 (by exact rfl) (by exact rfl)) rfl rfl ?_
    replace cz := cz.ch iL.ch
    replace cF := cF.ch iL.ch
    replace cM := cM.ch iL.ch
    replace rF := rF.ch iL.ch
    replace dg := dg.ch iL.ch
    replace dp := dp.ch iL.ch
    replace dI := dI.ch iL.ch
    replace aj := aj.ch iL.ch
    replace hO := iL.own
    replace c6 := c6.ch iL.ch
    replace qu := qu.ch iL.ch
    replace hB := hB.trans iL.fr
    refine GoQ.nil ?_
    refine Go1.cut [(6, .pointer (some ⟨B10, 0, none⟩)), (9, .int .i64 (-1 : Int)), (13, .int .i64 (mgt m2_153 r167)), (85, .slice p35 n37 c36), (86, .int .i64 (d_32.length : Int)), (87, .int .i64 (k2_110 : Int))] ⟨rfl, rfl, rfl, rfl, rfl, rfl, trivial⟩ ?_
    intro σ _
    refine Go1.region ?_
    refine GoR.op ((op_move rfl) _) rfl rfl ?_
    refine GoR.op ((op_move rfl) _) rfl rfl ?_
    refine GoR.op ((op_nilCheck rfl) _) rfl rfl ?_
    refine GoR.op ((op_fieldAddr Try.underlying72 rfl ti26 rfl (by decide)) _) rfl rfl ?_
    refine GoR.op ((oblk (i := 12) 8 hO rfl rfl Try.underlying26 rfl rfl) _ (Same.refl _)) rfl rfl ?_
    refine GoR.op ((op_move rfl) _) rfl rfl ?_
    have hobt := obuild (r := Rp.int .i64) (n := 1) (parts := [(0, .int .i64 (mgt m2_153 r167))]) (vs := [.int .i64 (mgt m2_153 r167)]) (xs := [(mgt m2_153 r167)]) rfl Try.underlying26 ti3 hO (by decide) (by kernel_rfl) (Els.cons rfl rfl (Els.nil _ _ _) (by simp [mx])) rfl
    obtain ⟨HE, Kb, po, DO, Jy, Bn⟩ := hobt
    refine GoR.op (Bn rfl) rfl rfl ?_
    replace cz := cz.ch po.ch
    replace cF := cF.ch po.ch
    replace cM := cM.ch po.ch
    replace rF := rF.ch po.ch
    replace dg := dg.ch po.ch
    replace dp := dp.ch po.ch
    replace dI := dI.ch po.ch
    replace aj := aj.ch po.ch
    replace hO := po.own
    replace c6 := c6.ch po.ch
    replace qu := qu.ch po.ch
    replace hB := hB.trans po.fr
    have hobt := freeze 0 hO rfl DO
    obtain ⟨hO1, rZ, vo, DP⟩ := hobt
    dsimp only [eS, eZ] at hO1 rZ vo
    replace c6 := c6.ch rZ
    replace qu := qu.ch rZ
    replace cz := cz.ch rZ
    replace cF := cF.ch rZ
    replace cM := cM.ch rZ
    replace rF := rF.ch rZ
    replace dg := dg.ch rZ
    replace dp := dp.ch rZ
    replace dI := dI.ch rZ
    replace aj := aj.ch rZ
    replace hB := hB.trans (Owns.dropFr _ _ 0)
    dsimp only [eS, eZ] at hB
    replace hO := hO1; clear hO1
    obtain ⟨xV, H⟩ := H
    have hobt := oapp Try.underlying26 ti3 rfl 0 hO rfl cz vo DP xV (by decide)
    obtain ⟨HF, zU, zV, DQ, ol, xG, Bo⟩ := hobt
    dsimp only [sS, sZ] at ol xG
    refine GoR.op (Bo (by exact rfl) (by exact rfl)) rfl rfl ?_
    replace cF := cF.ch ol.ch
    replace cM := cM.ch ol.ch
    replace rF := rF.ch ol.ch
    replace dg := dg.ch ol.ch
    replace dp := dp.ch ol.ch
    replace dI := dI.ch ol.ch
    replace aj := aj.ch ol.ch
    replace hO := ol.own
    replace c6 := c6.ch ol.ch
    replace qu := qu.ch ol.ch
    replace vo := vo.ch ol.ch
    replace hB := hB.trans ol.fr
    refine GoR.op ((op_nilCheck rfl) _) rfl rfl ?_
    refine GoR.op ((op_fieldAddr Try.underlying72 rfl ti26 rfl (by decide)) _) rfl rfl ?_
    have hobt := oblkSt2 (v := .slice zU (iM + 1) zV) (i := 12) (cs' := #[.int .i64 ((ix a0 (0 : Int)).length : Int), .bool false, .slice p35 n37 c36, .slice lr iZ lv, .slice kO iY kP, .slice kj iX kl, .slice none 0 0, .slice yE (iW + 1) yF, .int .i64 (0 : Int), .map (some B4), .slice ka iV kc, .slice jg iU jG, .slice zU (iM + 1) zV]) 8 hO rfl rfl rfl rfl
    obtain ⟨Kc, fY, Bp⟩ := hobt
    dsimp only [sS, sZ] at fY
    refine GoR.op (Bp Try.underlying26 rfl ti26 (by exact rfl) (by exact rfl)) rfl rfl ?_
    replace xG := xG.ch fY.ch
    replace cF := cF.ch fY.ch
    replace cM := cM.ch fY.ch
    replace rF := rF.ch fY.ch
    replace dg := dg.ch fY.ch
    replace dp := dp.ch fY.ch
    replace dI := dI.ch fY.ch
    replace aj := aj.ch fY.ch
    replace hO := fY.own
    replace c6 := c6.ch fY.ch
    replace qu := qu.ch fY.ch
    replace vo := vo.ch fY.ch
    replace hB := hB.trans fY.fr
    refine GoR.nil ?_
    refine Go1.inBlock ?_
    refine Go1.region ?_
    refine GoR.op ((op_add rfl rfl (wrap_i64 (natbd wW aj.bd))) _) rfl rfl ?_
    refine GoR.op ((op_move rfl) _) rfl rfl ?_
    refine GoR.nil ?_
    exact hX2 _ H _ _ ⟨iM + 1, zU, zV, DQ, iU, jg, jG, oP, iV, ka, kc, oQ, iW + 1, yE, yF, DN, iX, kj, kl, oS, iY, kO, kP, oT, iZ, lr, lv, oU, ⟨rfl, rfl, rfl, rfl, rfl, trivial⟩, hO, xG, cF, cM, rF, dg, dp, dI, aj, hB⟩
   replace H := ifn uS H
   refine GoQ.stable rfl (olookF (a := r167) (MK.str Try.underlying9) 9 hO rfl Try.underlying69 ti3 rfl rfl uS) rfl rfl ?_
   refine GoQ.pure rfl (op_move rfl) rfl rfl ?_
   refine GoQ.pure rfl (op_extract rfl rfl) rfl rfl ?_
   refine GoQ.pure rfl (op_extract rfl rfl) rfl rfl ?_
   refine GoQ.pure rfl (op_assign rfl) rfl rfl ?_
   refine GoQ.pure rfl (op_assign rfl) rfl rfl ?_
   refine GoQ.nil ?_
   refine Go1.seq ?_
   refine Go1.seq ?_
   refine Go1.region ?_
   refine GoR.op ((op_move rfl) _) rfl rfl ?_
   refine GoR.nil ?_
   refine Go1.condF rfl rfl ?_
   refine Go1.cut [(6, .pointer (some ⟨B10, 0, none⟩)), (9, .int .i64 (-1 : Int)), (10, .int .i64 (k2_110 : Int)), (11, .slice Bi ((ix d_32 (k2_110 : Int)).length) Bj), (12, .string (gstr (chr (IntKind.i32.wrap ((97 : Int) + (k2_110 : Int)))))), (85, .slice p35 n37 c36), (86, .int .i64 (d_32.length : Int)), (87, .int .i64 (k2_110 : Int))] ⟨rfl, rfl, rfl, rfl, rfl, rfl, rfl, rfl, trivial⟩ ?_
   intro σ _
   refine Go1.region ?_
   refine GoR.op ((op_move rfl) _) rfl rfl ?_
   refine GoR.op ((op_move rfl) _) rfl rfl ?_
   refine GoR.call (op_call body64 rfl (walk_slices_Clone_int hO.lt c6 H)) rfl rfl ?_
   rintro Kd Ke ⟨r224, uT, tw, tx, Jh, rfl, DR, hN228, tg, H⟩
   have pp := Stp.more hO DR hN228
   dsimp only [List.cons_append, List.nil_append] at pp
   replace cz := cz.ch pp.ch
   replace cF := cF.ch pp.ch
   replace cM := cM.ch pp.ch
   replace cG := cG.ch pp.ch
   replace dg := dg.ch pp.ch
   replace dp := dp.ch pp.ch
   replace dI := dI.ch pp.ch
   replace aj := aj.ch pp.ch
   replace hO := pp.own
   replace c6 := c6.ch pp.ch
   replace hB := hB.trans pp.fr
   replace tg := tg.ch (Ch.assoc _ _ _ _)
   refine GoR.op ((op_move rfl) _) rfl rfl ?_
   refine GoR.op ((op_move rfl) _) rfl rfl ?_
   refine GoR.op ((op_move rfl) _) rfl rfl ?_
   refine GoR.op ((op_move rfl) _) rfl rfl ?_
   refine GoR.inl (vs := [.pointer (some ⟨B10, 0, none⟩), .slice tw uT tx, .int .i64 (-1 : Int), .int .i64 (k2_110 : Int), .string (gstr (chr (IntKind.i32.wrap ((97 : Int) + (k2_110 : Int))))), .int .i64 (-1 : Int)]) (caps := []) rfl rfl body65 Try.func65 rfl Try.ntmps65 rfl rfl rfl ?_
   intro RhR232 hR232
   refine Go1.seq ?_
   refine Go1.region ?_
   refine GoR.op ((op_assign rfl) _) rfl rfl ?_
   refine GoR.nil ?_
   refine Go1.seq ?_
   refine Go1.region ?_
   refine GoR.op ((op_move rfl) _) rfl rfl ?_
   refine GoR.op ((op_nilCheck rfl) _) rfl rfl ?_
   refine GoR.op ((op_fieldAddr Try.underlying72 rfl ti29 rfl (by decide)) _) rfl rfl ?_
   refine GoR.op ((op_fieldAddr Try.underlying29 rfl ti22 rfl (by decide)) _) rfl rfl ?_
   refine GoR.op ((oblk (i := 3) 9 hO rfl rfl Try.underlying22 rfl rfl) _ (Same.refl _)) rfl rfl ?_
   refine GoR.op ((op_lenN Try.underlying22 rfl (dI.neq hO 7 rfl)) _) rfl rfl ?_
   refine GoR.op ((op_assign rfl) _) rfl rfl ?_
   refine GoR.nil ?_
   refine Go1.seq ?_
   refine Go1.drawS 1 [(0, .pure), (1, .pure), (2, .pure), (3, .stable), (4, .pure), (6, .pure), (5, .loud), (7, .last)] mixed (by kernel_rfl) ?_
   intro Kf DS
   have pq := Stp.same hO DS
   replace tg := tg.ch pq.ch
   replace cz := cz.ch pq.ch
   replace cF := cF.ch pq.ch
   replace cM := cM.ch pq.ch
   replace cG := cG.ch pq.ch
   replace dg := dg.ch pq.ch
   replace dp := dp.ch pq.ch
   replace dI := dI.ch pq.ch
   replace aj := aj.ch pq.ch
   replace hO := pq.own
   replace c6 := c6.ch pq.ch
   replace hB := hB.trans pq.fr
   refine GoQ.pure rfl (op_move rfl) rfl rfl ?_
   refine GoQ.pure rfl (op_nilCheck rfl) rfl rfl ?_
   refine GoQ.pure rfl (op_fieldAddr Try.underlying72 rfl ti69 rfl (by decide)) rfl rfl ?_
   refine GoQ.stable rfl (oblk (i := 9) 9 hO rfl rfl Try.underlying69 rfl rfl) rfl rfl ?_
   refine GoQ.pure rfl (op_move rfl) rfl rfl ?_
   refine GoQ.pure rfl (op_move rfl) rfl rfl ?_
   have hobt := rowlend 0 hO rfl tg
   obtain ⟨DT, DU⟩ := hobt
   have hOc238 := hO.drop 0
   refine GoQ.call rfl (op_call body61 (show ([.slice tw uT tx] : List Value) = [.slice tw r224.length tx] from by rw [← DU]) (walk_enumerate_text hOc238.lt DT H)) (fun v w hr => by obtain ⟨_, _, hs, _, _⟩ := hr; assumption) rfl rfl ?_
   rintro Kg HG ⟨r239, rfl, yG, Ji, H⟩
   have pr := Stp.same hO yG
   replace tg := tg.ch pr.ch
   replace cz := cz.ch pr.ch
   replace cF := cF.ch pr.ch
   replace cM := cM.ch pr.ch
   replace cG := cG.ch pr.ch
   replace dg := dg.ch pr.ch
   replace dp := dp.ch pr.ch
   replace dI := dI.ch pr.ch
   replace aj := aj.ch pr.ch
   replace hO := pr.own
   replace c6 := c6.ch pr.ch
   replace hB := hB.trans pr.fr
   have hobt := omapUpd (MK.str Try.underlying9) 10 hO rfl Try.underlying69 r239 (d_147.length : Int)
   obtain ⟨Kh, om, Bq⟩ := hobt
   dsimp only [sS, sZ] at om
   refine GoQ.last rfl (Bq (by exact rfl) (by exact rfl) (by exact rfl)) rfl rfl ?_
   replace tg := tg.ch om.ch
   replace cz := cz.ch om.ch
   replace cF := cF.ch om.ch
   replace cM := cM.ch om.ch
   replace cG := cG.ch om.ch
   replace dg := dg.ch om.ch
   replace dp := dp.ch om.ch
   replace dI := dI.ch om.ch
   replace aj := aj.ch om.ch
   replace hO := om.own
   replace c6 := c6.ch om.ch
   replace hB := hB.trans om.fr
   refine GoQ.nil ?_
   refine Go1.seq ?_
   refine Go1.cut [(0, .pointer (some ⟨B10, 0, none⟩)), (1, .slice tw uT tx), (2, .int .i64 (-1 : Int)), (3, .int .i64 (k2_110 : Int)), (4, .string (gstr (chr (IntKind.i32.wrap ((97 : Int) + (k2_110 : Int)))))), (5, .int .i64 (-1 : Int)), (13, .int .i64 (d_147.length : Int))] ⟨rfl, rfl, rfl, rfl, rfl, rfl, rfl, trivial⟩ ?_
   intro σ _
   refine Go1.region ?_
   refine GoR.op ((op_move rfl) _) rfl rfl ?_
   refine GoR.op ((op_move rfl) _) rfl rfl ?_
   refine GoR.op ((op_nilCheck rfl) _) rfl rfl ?_
   refine GoR.op ((op_fieldAddr Try.underlying72 rfl ti29 rfl (by decide)) _) rfl rfl ?_
   refine GoR.op ((op_fieldAddr Try.underlying29 rfl ti22 rfl (by decide)) _) rfl rfl ?_
   refine GoR.op ((oblk (i := 3) 9 hO rfl rfl Try.underlying22 rfl rfl) _ (Same.refl _)) rfl rfl ?_
   refine GoR.op ((op_move rfl) _) rfl rfl ?_
   have hobt := freeze 0 hO rfl tg
   obtain ⟨hO1, th, en, DW⟩ := hobt
   dsimp only [eS, eZ] at hO1 th en
   replace c6 := c6.ch th
   replace cz := cz.ch th
   replace cF := cF.ch th
   replace cM := cM.ch th
   replace cG := cG.ch th
   replace dg := dg.ch th
   replace dp := dp.ch th
   replace dI := dI.ch th
   replace aj := aj.ch th
   replace hB := hB.trans (Owns.dropFr _ _ 0)
   dsimp only [eS, eZ] at hB
   replace hO := hO1; clear hO1
   have hobt := obuild (r := Rp.sl (Rp.int .i64)) (n := 1) (parts := [(0, .slice tw uT tx)]) (vs := [.slice tw uT tx]) (xs := [r224]) rfl Try.underlying22 ti26 hO (by decide) (by kernel_rfl) (Els.cons rfl ⟨tw, tx, congrArg some (congrArg (fun nn => Value.slice tw nn tx) DW), en⟩ (Els.nil _ _ _) (by simp [mx])) rfl
   obtain ⟨Ki, Kj, pt, DX, Jz, Br⟩ := hobt
   refine GoR.op (Br rfl) rfl rfl ?_
   replace cz := cz.ch pt.ch
   replace cF := cF.ch pt.ch
   replace cM := cM.ch pt.ch
   replace cG := cG.ch pt.ch
   replace dg := dg.ch pt.ch
   replace dp := dp.ch pt.ch
   replace dI := dI.ch pt.ch
   replace aj := aj.ch pt.ch
   replace hO := pt.own
   replace c6 := c6.ch pt.ch
   replace en := en.ch pt.ch
   replace hB := hB.trans pt.fr
   have hobt := freeze 0 hO rfl DX
   obtain ⟨hO1, sa, eN, DY⟩ := hobt
   dsimp only [eS, eZ] at hO1 sa eN
   replace c6 := c6.ch sa
   replace en := en.ch sa
   replace cz := cz.ch sa
   replace cF := cF.ch sa
   replace cM := cM.ch sa
   replace cG := cG.ch sa
   replace dg := dg.ch sa
   replace dp := dp.ch sa
   replace dI := dI.ch sa
   replace aj := aj.ch sa
   replace hB := hB.trans (Owns.dropFr _ _ 0)
   dsimp only [eS, eZ] at hB
   replace hO := hO1; clear hO1
   obtain ⟨HH, H⟩ := H
   have hobt := oapp Try.underlying22 ti26 rfl 6 hO rfl dI eN DY HH (by decide)
   obtain ⟨Kk, uU, uV, DZ, oo, eX, Bs⟩ := hobt
   dsimp only [sS, sZ] at oo eX
   refine GoR.op (Bs (by exact rfl) (by exact rfl)) rfl rfl ?_
   replace cz := cz.ch oo.ch
   replace cF := cF.ch oo.ch
   replace cM := cM.ch oo.ch
   replace cG := cG.ch oo.ch
   replace dg := dg.ch oo.ch
   replace dp := dp.ch oo.ch
   replace aj := aj.ch oo.ch
   replace hO := oo.own
   replace c6 := c6.ch oo.ch
   replace en := en.ch oo.ch
   replace eN := eN.ch oo.ch
   replace hB := hB.trans oo.fr
   refine GoR.op ((op_nilCheck rfl) _) rfl rfl ?_
   refine GoR.op ((op_fieldAddr Try.underlying72 rfl ti29 rfl (by decide)) _) rfl rfl ?_
   refine GoR.op ((op_fieldAddr Try.underlying29 rfl ti22 rfl (by decide)) _) rfl rfl ?_
   have hobt := oblkSt2 (v := .slice uU (iZ + 1) uV) (i := 3) (cs' := #[.int .i64 ((ix a0 (0 : Int)).length : Int), .bool false, .slice p35 n37 c36, .slice uU (iZ + 1) uV, .slice kO iY kP, .slice kj iX kl, .slice none 0 0, .slice jH iW jI, .int .i64 (0 : Int), .map (some B4), .slice ka iV kc, .slice jg iU jG, .slice j8 iM j9]) 8 hO rfl rfl rfl rfl
   obtain ⟨Kl, nA, Bt⟩ := hobt
   dsimp only [sS, sZ] at nA
   refine GoR.op (Bt Try.underlying22 rfl ti22 (by exact rfl) (by exact rfl)) rfl rfl ?_
   replace cz := cz.ch nA.ch
   replace cF := cF.ch nA.ch
   replace cM := cM.ch nA.ch
   replace cG := cG.ch nA.ch
   replace dg := dg.ch nA.ch
   replace dp := dp.ch nA.ch
   replace eX := eX.ch nA.ch
   replace aj := aj.ch nA.ch
   replace hO := nA.own
   replace c6 := c6.ch nA.ch
   replace en := en.ch nA.ch
   replace eN := eN.ch nA.ch
   replace hB := hB.trans nA.fr
   refine GoR.nil ?_
   refine Go1.seq ?_
   refine Go1.region ?_
   refine GoR.op ((op_move rfl) _) rfl rfl ?_
   refine GoR.op ((op_move rfl) _) rfl rfl ?_
   refine GoR.op ((op_nilCheck rfl) _) rfl rfl ?_
   refine GoR.op ((op_fieldAddr Try.underlying72 rfl ti29 rfl (by decide)) _) rfl rfl ?_
   refine GoR.op ((op_fieldAddr Try.underlying29 rfl ti26 rfl (by decide)) _) rfl rfl ?_
   refine GoR.op ((oblk (i := 4) 8 hO rfl rfl Try.underlying26 rfl rfl) _ (Same.refl _)) rfl rfl ?_
   refine GoR.op ((op_move rfl) _) rfl rfl ?_
   have hobt := obuild (r := Rp.int .i64) (n := 1) (parts := [(0, .int .i64 (-1 : Int))]) (vs := [.int .i64 (-1 : Int)]) (xs := [(-1 : Int)]) rfl Try.underlying26 ti3 hO (by decide) (by kernel_rfl) (Els.cons rfl rfl (Els.nil _ _ _) (by simp [mx])) rfl
   obtain ⟨Km, Kn, oq, D0, JA, Bu⟩ := hobt
   refine GoR.op (Bu rfl) rfl rfl ?_
   replace cz := cz.ch oq.ch
   replace cF := cF.ch oq.ch
   replace cM := cM.ch oq.ch
   replace cG := cG.ch oq.ch
   replace dg := dg.ch oq.ch
   replace dp := dp.ch oq.ch
   replace eX := eX.ch oq.ch
   replace aj := aj.ch oq.ch
   replace hO := oq.own
   replace c6 := c6.ch oq.ch
   replace en := en.ch oq.ch
   replace eN := eN.ch oq.ch
   replace hB := hB.trans oq.fr
   have hobt := freeze 0 hO rfl D0
   obtain ⟨hO1, rG, fT, D1⟩ := hobt
   dsimp only [eS, eZ] at hO1 rG fT
   replace c6 := c6.ch rG
   replace en := en.ch rG
   replace eN := eN.ch rG
   replace cz := cz.ch rG
   replace cF := cF.ch rG
   replace cM := cM.ch rG
   replace cG := cG.ch rG
   replace dg := dg.ch rG
   replace dp := dp.ch rG
   replace eX := eX.ch rG
   replace aj := aj.ch rG
   replace hB := hB.trans (Owns.dropFr _ _ 0)
   dsimp only [eS, eZ] at hB
   replace hO := hO1; clear hO1
   obtain ⟨HI, H⟩ := H
   have hobt := oapp Try.underlying26 ti3 rfl 5 hO rfl dp fT D1 HI (by decide)
   obtain ⟨HJ, vV, vW, D2, nB, f7, Bv⟩ := hobt
   dsimp only [sS, sZ] at nB f7
   refine GoR.op (Bv (by exact rfl) (by exact rfl)) rfl rfl ?_
   replace cz := cz.ch nB.ch
   replace cF := cF.ch nB.ch
   replace cM := cM.ch nB.ch
   replace cG := cG.ch nB.ch
   replace dg := dg.ch nB.ch
   replace eX := eX.ch nB.ch
   replace aj := aj.ch nB.ch
   replace hO := nB.own
   replace c6 := c6.ch nB.ch
   replace en := en.ch nB.ch
   replace eN := eN.ch nB.ch
   replace fT := fT.ch nB.ch
   replace hB := hB.trans nB.fr
   refine GoR.op ((op_nilCheck rfl) _) rfl rfl ?_
   refine GoR.op ((op_fieldAddr Try.underlying72 rfl ti29 rfl (by decide)) _) rfl rfl ?_
   refine GoR.op ((op_fieldAddr Try.underlying29 rfl ti26 rfl (by decide)) _) rfl rfl ?_
   have hobt := oblkSt2 (v := .slice vV (iY + 1) vW) (i := 4) (cs' := #[.int .i64 ((ix a0 (0 : Int)).length : Int), .bool false, .slice p35 n37 c36, .slice uU (iZ + 1) uV, .slice vV (iY + 1) vW, .slice kj iX kl, .slice none 0 0, .slice jH iW jI, .int .i64 (0 : Int), .map (some B4), .slice ka iV kc, .slice jg iU jG, .slice j8 iM j9]) 8 hO rfl rfl rfl rfl
   obtain ⟨Ko, m5, Bw⟩ := hobt
   dsimp only [sS, sZ] at m5
   refine GoR.op (Bw Try.underlying26 rfl ti26 (by exact rfl) (by exact rfl)) rfl rfl ?_
   replace cz := cz.ch m5.ch
   replace cF := cF.ch m5.ch
   replace cM := cM.ch m5.ch
   replace cG := cG.ch m5.ch
   replace dg := dg.ch m5.ch
   replace f7 := f7.ch m5.ch
   replace eX := eX.ch m5.ch
   replace aj := aj.ch m5.ch
   replace hO := m5.own
   replace c6 := c6.ch m5.ch
   replace en := en.ch m5.ch
   replace eN := eN.ch m5.ch
   replace fT := fT.ch m5.ch
   replace hB := hB.trans m5.fr
   refine GoR.nil ?_
   refine Go1.seq ?_
   refine Go1.cut [(0, .pointer (some ⟨B10, 0, none⟩)), (3, .int .i64 (k2_110 : Int)), (4, .string (gstr (chr (IntKind.i32.wrap ((97 : Int) + (k2_110 : Int)))))), (5, .int .i64 (-1 : Int)), (13, .int .i64 (d_147.length : Int))] ⟨rfl, rfl, rfl, rfl, rfl, trivial⟩ ?_
   intro σ _
   refine Go1.region ?_
   refine GoR.op ((op_move rfl) _) rfl rfl ?_
   refine GoR.op ((op_move rfl) _) rfl rfl ?_
   refine GoR.op ((op_nilCheck rfl) _) rfl rfl ?_
   refine GoR.op ((op_fieldAddr Try.underlying72 rfl ti29 rfl (by decide)) _) rfl rfl ?_
   refine GoR.op ((op_fieldAddr Try.underlying29 rfl ti26 rfl (by decide)) _) rfl rfl ?_
   refine GoR.op ((oblk (i := 5) 8 hO rfl rfl Try.underlying26 rfl rfl) _ (Same.refl _)) rfl rfl ?_
   refine GoR.op ((op_move rfl) _) rfl rfl ?_
   have hobt := obuild (r := Rp.int .i64) (n := 1) (parts := [(0, .int .i64 (k2_110 : Int))]) (vs := [.int .i64 (k2_110 : Int)]) (xs := [(k2_110 : Int)]) rfl Try.underlying26 ti3 hO (by decide) (by kernel_rfl) (Els.cons rfl rfl (Els.nil _ _ _) (by simp [mx])) rfl
   obtain ⟨Kq, Kr, nC, D3, JB, Bx⟩ := hobt
   refine GoR.op (Bx rfl) rfl rfl ?_
   replace cz := cz.ch nC.ch
   replace cF := cF.ch nC.ch
   replace cM := cM.ch nC.ch
   replace cG := cG.ch nC.ch
   replace dg := dg.ch nC.ch
   replace f7 := f7.ch nC.ch
   replace eX := eX.ch nC.ch
   replace aj := aj.ch nC.ch
   replace hO := nC.own
   replace c6 := c6.ch nC.ch
   replace en := en.ch nC.ch
   replace eN := eN.ch nC.ch
   replace fT := fT.ch nC.ch
   replace hB := hB.trans nC.fr
   have hobt := freeze 0 hO rfl D3
   obtain ⟨hO1, qY, iH, D4⟩ := hobt
   dsimp only [eS, eZ] at hO1 qY iH
   replace c6 := c6.ch qY
   replace en := en.ch qY
   replace eN := eN.ch qY
   replace fT := fT.ch qY
   replace cz := cz.ch qY
   replace cF := cF.ch qY
   replace cM := cM.ch qY
   replace cG := cG.ch qY
   replace dg := dg.ch qY
   replace f7 := f7.ch qY
   replace eX := eX.ch qY
   replace aj := aj.ch qY
   replace hB := hB.trans (Owns.dropFr _ _ 0)
   dsimp only [eS, eZ] at hB
   replace hO := hO1; clear hO1
   obtain ⟨HK, H⟩ := H
   have hobt := oapp Try.underlying26 ti3 rfl 4 hO rfl dg iH D4 HK (by decide)
   obtain ⟨Ks, wX, wY, D5, m6, iP, By⟩ := hobt
   dsimp only [sS, sZ] at m6 iP
   refine GoR.op (By (by exact rfl) (by exact rfl)) rfl rfl ?_
   replace cz := cz.ch m6.ch
   replace cF := cF.ch m6.ch
   replace cM := cM.ch m6.ch
   replace cG := cG.ch m6.ch
   replace f7 := f7.ch m6.ch
   replace eX := eX.ch m6.ch
   replace aj := aj.ch m6.ch
   replace hO := m6.own
   replace c6 := c6.ch m6.ch
   replace en := en.ch m6.ch
   replace eN := eN.ch m6.ch
   replace fT := fT.ch m6.ch
   replace iH := iH.ch m6.ch
   replace hB := hB.trans m6.fr
   refine GoR.op ((op_nilCheck rfl) _) rfl rfl ?_
   refine GoR.op ((op_fieldAddr Try.underlying72 rfl ti29 rfl (by decide)) _) rfl rfl ?_
   refine GoR.op ((op_fieldAddr Try.underlying29 rfl ti26 rfl (by decide)) _) rfl rfl ?_
   have hobt := oblkSt2 (v := .slice wX (iX + 1) wY) (i := 5) (cs' := #[.int .i64 ((ix a0 (0 : Int)).length : Int), .bool false, .slice p35 n37 c36, .slice uU (iZ + 1) uV, .slice vV (iY + 1) vW, .slice wX (iX + 1) wY, .slice none 0 0, .slice jH iW jI, .int .i64 (0 : Int), .map (some B4), .slice ka iV kc, .slice jg iU jG, .slice j8 iM j9]) 8 hO rfl rfl rfl rfl
   obtain ⟨Kt, mv, Bz⟩ := hobt
   dsimp only [sS, sZ] at mv
   refine GoR.op (Bz Try.underlying26 rfl ti26 (by exact rfl) (by exact rfl)) rfl rfl ?_
   replace cz := cz.ch mv.ch
   replace cF := cF.ch mv.ch
   replace cM := cM.ch mv.ch
   replace cG := cG.ch mv.ch
   replace iP := iP.ch mv.ch
   replace f7 := f7.ch mv.ch
   replace eX := eX.ch mv.ch
   replace aj := aj.ch mv.ch
   replace hO := mv.own
   replace c6 := c6.ch mv.ch
   replace en := en.ch mv.ch
   replace eN := eN.ch mv.ch
   replace fT := fT.ch mv.ch
   replace iH := iH.ch mv.ch
   replace hB := hB.trans mv.fr
   refine GoR.nil ?_
   refine Go1.seq ?_
   refine Go1.region ?_
   refine GoR.op ((op_move rfl) _) rfl rfl ?_
   refine GoR.op ((op_move rfl) _) rfl rfl ?_
   refine GoR.op ((op_nilCheck rfl) _) rfl rfl ?_
   refine GoR.op ((op_fieldAddr Try.underlying72 rfl ti70 rfl (by decide)) _) rfl rfl ?_
   refine GoR.op ((oblk (i := 10) 8 hO rfl rfl Try.underlying70 rfl rfl) _ (Same.refl _)) rfl rfl ?_
   refine GoR.op ((op_move rfl) _) rfl rfl ?_
   have hobt := obuild (r := Rp.str) (n := 1) (parts := [(0, .string (gstr (chr (IntKind.i32.wrap ((97 : Int) + (k2_110 : Int))))))]) (vs := [.string (gstr (chr (IntKind.i32.wrap ((97 : Int) + (k2_110 : Int)))))]) (xs := [chr (IntKind.i32.wrap ((97 : Int) + (k2_110 : Int)))]) rfl Try.underlying70 ti9 hO (by decide) (by kernel_rfl) (Els.cons rfl ⟨rfl, (chr_le _)⟩ (Els.nil _ _ _) (by simp [mx])) rfl
   obtain ⟨HL, Ku, m7, D6, JC, BA⟩ := hobt
   refine GoR.op (BA rfl) rfl rfl ?_
   replace cz := cz.ch m7.ch
   replace cF := cF.ch m7.ch
   replace cM := cM.ch m7.ch
   replace cG := cG.ch m7.ch
   replace iP := iP.ch m7.ch
   replace f7 := f7.ch m7.ch
   replace eX := eX.ch m7.ch
   replace aj := aj.ch m7.ch
   replace hO := m7.own
   replace c6 := c6.ch m7.ch
   replace en := en.ch m7.ch
   replace eN := eN.ch m7.ch
   replace fT := fT.ch m7.ch
   replace iH := iH.ch m7.ch
   replace hB := hB.trans m7.fr
   have hobt := freeze 0 hO rfl D6
   obtain ⟨hO1, qv, kT, D7⟩ := hobt
   dsimp only [eS, eZ] at hO1 qv kT
   replace c6 := c6.ch qv
   replace en := en.ch qv
   replace eN := eN.ch qv
   replace fT := fT.ch qv
   replace iH := iH.ch qv
   replace cz := cz.ch qv
   replace cF := cF.ch qv
   replace cM := cM.ch qv
   replace cG := cG.ch qv
   replace iP := iP.ch qv
   replace f7 := f7.ch qv
   replace eX := eX.ch qv
   replace aj := aj.ch qv
   replace hB := hB.trans (Owns.dropFr _ _ 0)
   dsimp only [eS, eZ] at hB
   replace hO := hO1; clear hO1
   obtain ⟨HM, H⟩ := H
   have hobt := oapp Try.underlying70 ti9 rfl 2 hO rfl cM kT D7 HM (by decide)
   obtain ⟨Kv, xW, xX, D8, mw, mr, BB⟩ := hobt
   dsimp only [sS, sZ] at mw mr
   refine GoR.op (BB (by exact rfl) (by exact rfl)) rfl rfl ?_
   replace cz := cz.ch mw.ch
   replace cF := cF.ch mw.ch
   replace cG := cG.ch mw.ch
   replace iP := iP.ch mw.ch
   replace f7 := f7.ch mw.ch
   replace eX := eX.ch mw.ch
   replace aj := aj.ch mw.ch
   replace hO := mw.own
   replace c6 := c6.ch mw.ch
   replace en := en.ch mw.ch
   replace eN := eN.ch mw.ch
   replace fT := fT.ch mw.ch
   replace iH := iH.ch mw.ch
   replace kT := kT.ch mw.ch
   replace hB := hB.trans mw.fr
   refine GoR.op ((op_nilCheck rfl) _) rfl rfl ?_
   refine GoR.op ((op_fieldAddr Try.underlying72 rfl ti70 rfl (by decide)) _) rfl rfl ?_
   have hobt := oblkSt2 (v := .slice xW (iV + 1) xX) (i := 10) (cs' := #[.int .i64 ((ix a0 (0 : Int)).length : Int), .bool false, .slice p35 n37 c36, .slice uU (iZ + 1) uV, .slice vV (iY + 1) vW, .slice wX (iX + 1) wY, .slice none 0 0, .slice jH iW jI, .int .i64 (0 : Int), .map (some B4), .slice xW (iV + 1) xX, .slice jg iU jG, .slice j8 iM j9]) 8 hO rfl rfl rfl rfl
   obtain ⟨Kw, lB, BC⟩ := hobt
   dsimp only [sS, sZ] at lB
   refine GoR.op (BC Try.underlying70 rfl ti70 (by exact rfl) (by exact rfl)) rfl rfl ?_
   replace cz := cz.ch lB.ch
   replace cF := cF.ch lB.ch
   replace mr := mr.ch lB.ch
   replace cG := cG.ch lB.ch
   replace iP := iP.ch lB.ch
   replace f7 := f7.ch lB.ch
   replace eX := eX.ch lB.ch
   replace aj := aj.ch lB.ch
   replace hO := lB.own
   replace c6 := c6.ch lB.ch
   replace en := en.ch lB.ch
   replace eN := eN.ch lB.ch
   replace fT := fT.ch lB.ch
   replace iH := iH.ch lB.ch
   replace kT := kT.ch lB.ch
   replace hB := hB.trans lB.fr
   refine GoR.nil ?_
   refine Go1.seq ?_
   refine Go1.cut [(0, .pointer (some ⟨B10, 0, none⟩)), (5, .int .i64 (-1 : Int)), (13, .int .i64 (d_147.length : Int))] ⟨rfl, rfl, rfl, trivial⟩ ?_
   intro σ _
   refine Go1.region ?_
   refine GoR.op ((op_move rfl) _) rfl rfl ?_
   refine GoR.op ((op_move rfl) _) rfl rfl ?_
   refine GoR.op ((op_nilCheck rfl) _) rfl rfl ?_
   refine GoR.op ((op_fieldAddr Try.underlying72 rfl ti26 rfl (by decide)) _) rfl rfl ?_
   refine GoR.op ((oblk (i := 11) 8 hO rfl rfl Try.underlying26 rfl rfl) _ (Same.refl _)) rfl rfl ?_
   refine GoR.op ((op_move rfl) _) rfl rfl ?_
   have hobt := obuild (r := Rp.int .i64) (n := 1) (parts := [(0, .int .i64 (-1 : Int))]) (vs := [.int .i64 (-1 : Int)]) (xs := [(-1 : Int)]) rfl Try.underlying26 ti3 hO (by decide) (by kernel_rfl) (Els.cons rfl rfl (Els.nil _ _ _) (by simp [mx])) rfl
   obtain ⟨Kx, Ky, my, D9, JD, BD⟩ := hobt
   refine GoR.op (BD rfl) rfl rfl ?_
   replace cz := cz.ch my.ch
   replace cF := cF.ch my.ch
   replace mr := mr.ch my.ch
   replace cG := cG.ch my.ch
   replace iP := iP.ch my.ch
   replace f7 := f7.ch my.ch
   replace eX := eX.ch my.ch
   replace aj := aj.ch my.ch
   replace hO := my.own
   replace c6 := c6.ch my.ch
   replace en := en.ch my.ch
   replace eN := eN.ch my.ch
   replace fT := fT.ch my.ch
   replace iH := iH.ch my.ch
   replace kT := kT.ch my.ch
   replace hB := hB.trans my.fr
   have hobt := freeze 0 hO rfl D9
   obtain ⟨hO1, oV, qw, Ea⟩ := hobt
   dsimp only [eS, eZ] at hO1 oV qw
   replace c6 := c6.ch oV
   replace en := en.ch oV
   replace eN := eN.ch oV
   replace fT := fT.ch oV
   replace iH := iH.ch oV
   replace kT := kT.ch oV
   replace cz := cz.ch oV
   replace cF := cF.ch oV
   replace mr := mr.ch oV
   replace cG := cG.ch oV
   replace iP := iP.ch oV
   replace f7 := f7.ch oV
   replace eX := eX.ch oV
   replace aj := aj.ch oV
   replace hB := hB.trans (Owns.dropFr _ _ 0)
   dsimp only [eS, eZ] at hB
   replace hO := hO1; clear hO1
   obtain ⟨HN, H⟩ := H
   have hobt := oapp Try.underlying26 ti3 rfl 1 hO rfl cF qw Ea HN (by decide)
   obtain ⟨Kz, yH, yI, Eb, lC, rH, BE⟩ := hobt
   dsimp only [sS, sZ] at lC rH
   refine GoR.op (BE (by exact rfl) (by exact rfl)) rfl rfl ?_
   replace cz := cz.ch lC.ch
   replace mr := mr.ch lC.ch
   replace cG := cG.ch lC.ch
   replace iP := iP.ch lC.ch
   replace f7 := f7.ch lC.ch
   replace eX := eX.ch lC.ch
   replace aj := aj.ch lC.ch
   replace hO := lC.own
   replace c6 := c6.ch lC.ch
   replace en := en.ch lC.ch
   replace eN := eN.ch lC.ch
   replace fT := fT.ch lC.ch
   replace iH := iH.ch lC.ch
   replace kT := kT.ch lC.ch
   replace qw := qw.ch lC.ch
   replace hB := hB.trans lC.fr
   refine GoR.op ((op_nilCheck rfl) _) rfl rfl ?_
   refine GoR.op ((op_fieldAddr Try.underlying72 rfl ti26 rfl (by decide)) _) rfl rfl ?_
   have hobt := oblkSt2 (v := .slice yH (iU + 1) yI) (i := 11) (cs' := #[.int .i64 ((ix a0 (0 : Int)).length : Int), .bool false, .slice p35 n37 c36, .slice uU (iZ + 1) uV, .slice vV (iY + 1) vW, .slice wX (iX + 1) wY, .slice none 0 0, .slice jH iW jI, .int .i64 (0 : Int), .map (some B4), .slice xW (iV + 1) xX, .slice yH (iU + 1) yI, .slice j8 iM j9]) 8 hO rfl rfl rfl rfl
   obtain ⟨KA, kZ, BG⟩ := hobt
   dsimp only [sS, sZ] at kZ
   refine GoR.op (BG Try.underlying26 rfl ti26 (by exact rfl) (by exact rfl)) rfl rfl ?_
   replace cz := cz.ch kZ.ch
   replace rH := rH.ch kZ.ch
   replace mr := mr.ch kZ.ch
   replace cG := cG.ch kZ.ch
   replace iP := iP.ch kZ.ch
   replace f7 := f7.ch kZ.ch
   replace eX := eX.ch kZ.ch
   replace aj := aj.ch kZ.ch
   replace hO := kZ.own
   replace c6 := c6.ch kZ.ch
   replace en := en.ch kZ.ch
   replace eN := eN.ch kZ.ch
   replace fT := fT.ch kZ.ch
   replace iH := iH.ch kZ.ch
   replace kT := kT.ch kZ.ch
   replace qw := qw.ch kZ.ch
   replace hB := hB.trans kZ.fr
   refine GoR.nil ?_
   refine Go1.seq ?_
   refine Go1.region ?_
   refine GoR.op ((op_move rfl) _) rfl rfl ?_
   refine GoR.op ((op_assign rfl) _) rfl rfl ?_
   refine GoR.nil ?_
   refine Go1.ret1V Try.func65 rfl (show _ = .int .i64 (d_147.length : Int) from rfl) ?_
   refine hR232 _ _ ?_
   refine GoR.op ((op_assign rfl) _) rfl rfl ?_
   refine GoR.nil ?_
   refine Go1.region ?_
   refine GoR.op ((op_move rfl) _) rfl rfl ?_
   refine GoR.op ((op_move rfl) _) rfl rfl ?_
   refine GoR.op ((op_nilCheck rfl) _) rfl rfl ?_
   refine GoR.op ((op_fieldAddr Try.underlying72 rfl ti26 rfl (by decide)) _) rfl rfl ?_
   refine GoR.op ((oblk (i := 12) 8 hO rfl rfl Try.underlying26 rfl rfl) _ (Same.refl _)) rfl rfl ?_
   refine GoR.op ((op_move rfl) _) rfl rfl ?_
   have hobt := obuild (r := Rp.int .i64) (n := 1) (parts := [(0, .int .i64 (d_147.length : Int))]) (vs := [.int .i64 (d_147.length : Int)]) (xs := [(d_147.length : Int)]) rfl Try.underlying26 ti3 hO (by decide) (by kernel_rfl) (Els.cons rfl rfl (Els.nil _ _ _) (by simp [mx])) rfl
   obtain ⟨KB, KC, lD, Ec, JE, BH⟩ := hobt
   refine GoR.op (BH rfl) rfl rfl ?_
   replace cz := cz.ch lD.ch
   replace rH := rH.ch lD.ch
   replace mr := mr.ch lD.ch
   replace cG := cG.ch lD.ch
   replace iP := iP.ch lD.ch
   replace f7 := f7.ch lD.ch
   replace eX := eX.ch lD.ch
   replace aj := aj.ch lD.ch
   replace hO := lD.own
   replace c6 := c6.ch lD.ch
   replace en := en.ch lD.ch
   replace eN := eN.ch lD.ch
   replace fT := fT.ch lD.ch
   replace iH := iH.ch lD.ch
   replace kT := kT.ch lD.ch
   replace qw := qw.ch lD.ch
   replace hB := hB.trans lD.fr
   have hobt := freeze 0 hO rfl Ec
   obtain ⟨hO1, nY, vp, Ed⟩ := hobt
   dsimp only [eS, eZ] at hO1 nY vp
   replace c6 := c6.ch nY
   replace en := en.ch nY
   replace eN := eN.ch nY
   replace fT := fT.ch nY
   replace iH := iH.ch nY
   replace kT := kT.ch nY
   replace qw := qw.ch nY
   replace cz := cz.ch nY
   replace rH := rH.ch nY
   replace mr := mr.ch nY
   replace cG := cG.ch nY
   replace iP := iP.ch nY
   replace f7 := f7.ch nY
   replace eX := eX.ch nY
   replace aj := aj.ch nY
   replace hB := hB.trans (Owns.dropFr _ _ 0)
   dsimp only [eS, eZ] at hB
   replace hO := hO1; clear hO1
   obtain ⟨HO, H⟩ := H
   have hobt := oapp Try.underlying26 ti3 rfl 0 hO rfl cz vp Ed HO (by decide)
   obtain ⟨KD, zW, zX, Ee, k8, xH, BI⟩ := hobt
   dsimp only [sS, sZ] at k8 xH
   refine GoR.op (BI (by exact rfl) (by exact rfl)) rfl rfl ?_
   replace rH := rH.ch k8.ch
   replace mr := mr.ch k8.ch
   replace cG := cG.ch k8.ch
   replace iP := iP.ch k8.ch
   replace f7 := f7.ch k8.ch
   replace eX := eX.ch k8.ch
   replace aj := aj.ch k8.ch
   replace hO := k8.own
   replace c6 := c6.ch k8.ch
   replace en := en.ch k8.ch
   replace eN := eN.ch k8.ch
   replace fT := fT.ch k8.ch
   replace iH := iH.ch k8.ch
   replace kT := kT.ch k8.ch
   replace qw := qw.ch k8.ch
   replace vp := vp.ch k8.ch
   replace hB := hB.trans k8.fr
   refine GoR.op ((op_nilCheck rfl) _) rfl rfl ?_
   refine GoR.op ((op_fieldAddr Try.underlying72 rfl ti26 rfl (by decide)) _) rfl rfl ?_
   have hobt := oblkSt2 (v := .slice zW (iM + 1) zX) (i := 12) (cs' := #[.int .i64 ((ix a0 (0 : Int)).length : Int), .bool false, .slice p35 n37 c36, .slice uU (iZ + 1) uV, .slice vV (iY + 1) vW, .slice wX (iX + 1) wY, .slice none 0 0, .slice jH iW jI, .int .i64 (0 : Int), .map (some B4), .slice xW (iV + 1) xX, .slice yH (iU + 1) yI, .slice zW (iM + 1) zX]) 8 hO rfl rfl rfl rfl
   obtain ⟨KE, km, BJ⟩ := hobt
   dsimp only [sS, sZ] at km
   refine GoR.op (BJ Try.underlying26 rfl ti26 (by exact rfl) (by exact rfl)) rfl rfl ?_
   replace xH := xH.ch km.ch
   replace rH := rH.ch km.ch
   replace mr := mr.ch km.ch
   replace cG := cG.ch km.ch
   replace iP := iP.ch km.ch
   replace f7 := f7.ch km.ch
   replace eX := eX.ch km.ch
   replace aj := aj.ch km.ch
   replace hO := km.own
   replace c6 := c6.ch km.ch
   replace en := en.ch km.ch
   replace eN := eN.ch km.ch
   replace fT := fT.ch km.ch
   replace iH := iH.ch km.ch
   replace kT := kT.ch km.ch
   replace qw := qw.ch km.ch
   replace vp := vp.ch km.ch
   replace hB := hB.trans km.fr
   refine GoR.nil ?_
   refine Go1.inBlock ?_
   refine Go1.cut [(6, .pointer (some ⟨B10, 0, none⟩)), (9, .int .i64 (-1 : Int)), (85, .slice p35 n37 c36), (86, .int .i64 (d_32.length : Int)), (87, .int .i64 (k2_110 : Int))] ⟨rfl, rfl, rfl, rfl, rfl, trivial⟩ ?_
   intro σ _
   refine Go1.region ?_
   refine GoR.op ((op_add rfl rfl (wrap_i64 (natbd wW aj.bd))) _) rfl rfl ?_
   refine GoR.op ((op_move rfl) _) rfl rfl ?_
   refine GoR.nil ?_
   exact hX2 _ H _ _ ⟨iM + 1, zW, zX, Ee, iU + 1, yH, yI, Eb, iV + 1, xW, xX, D8, iW, jH, jI, oR, iX + 1, wX, wY, D5, iY + 1, vV, vW, D2, iZ + 1, uU, uV, DZ, ⟨rfl, rfl, rfl, rfl, rfl, trivial⟩, hO, xH, rH, mr, cG, iP, f7, eX, aj, hB⟩
  replace H := ifn wW H
  refine GoR.op ((fun w => opB (op_lss rfl rfl w) (decide_eq_false wW)) _) rfl rfl ?_
  refine GoR.nil ?_
  refine Go1.seq ?_
  refine Go1.condF rfl rfl ?_
  refine Go1.exit rfl ?_
  refine Go1.seq ?_
  refine Go1.region ?_
  refine GoR.op ((op_move rfl) _) rfl rfl ?_
  refine GoR.op ((op_assign rfl) _) rfl rfl ?_
  refine GoR.op ((op_assign rfl) _) rfl rfl ?_
  refine GoR.nil ?_
  have rs := Stp.nil (e := 26) (r := 1) hO
  replace cz := cz.ch rs.ch
  replace cF := cF.ch rs.ch
  replace cM := cM.ch rs.ch
  replace cG := cG.ch rs.ch
  replace dg := dg.ch rs.ch
  replace dp := dp.ch rs.ch
  replace dI := dI.ch rs.ch
  replace aj := aj.ch rs.ch
  replace hO := rs.own
  replace hB := hB.trans rs.fr
  have kn := Els.nil (Rp.sl (Rp.int .i64)) (bl (.row 26 1 none 0 0 [] :: [.row 3 1 j8 iM j9 qt, .row 3 1 jg iU jG oP, .row 9 1 ka iV kc oQ, .row 39 2 jH iW jI oR, .row 3 1 kj iX kl oS, .row 3 1 kO iY kP oT, .row 26 1 lr iZ lv oU, .row 26 1 p35 n37 c36 f0, .blk B10 (.cells #[.int .i64 ((ix a0 (0 : Int)).length : Int), .bool false, .slice p35 n37 c36, .slice lr iZ lv, .slice kO iY kP, .slice kj iX kl, .slice none 0 0, .slice jH iW jI, .int .i64 (0 : Int), .map (some B4), .slice ka iV kc, .slice jg iU jG, .slice j8 iM j9] 72 (0, 0)), .any (mapE (fun a : List UInt8 => Value.string (gstr a)) (fun a : Int => Value.int .i64 a) B4 m2_153)]) ++ A) wV
  have gc := Stp.front 10 hO rfl
  dsimp only [eS, eZ] at gc
  replace kn := kn.ch gc.ch
  replace cz := cz.ch gc.ch
  replace cF := cF.ch gc.ch
  replace cM := cM.ch gc.ch
  replace cG := cG.ch gc.ch
  replace dg := dg.ch gc.ch
  replace dp := dp.ch gc.ch
  replace dI := dI.ch gc.ch
  replace aj := aj.ch gc.ch
  replace hO := gc.own
  replace hB := hB.trans gc.fr
  have pv := Stp.front 2 hO rfl
  dsimp only [eS, eZ] at pv
  replace kn := kn.ch pv.ch
  replace cz := cz.ch pv.ch
  replace cF := cF.ch pv.ch
  replace cM := cM.ch pv.ch
  replace cG := cG.ch pv.ch
  replace dg := dg.ch pv.ch
  replace dp := dp.ch pv.ch
  replace dI := dI.ch pv.ch
  replace aj := aj.ch pv.ch
  replace hO := pv.own
  replace hB := hB.trans pv.fr
  have f5 := Stp.front 3 hO rfl
  dsimp only [eS, eZ] at f5
  replace cz := cz.ch f5.ch
  replace kn := kn.ch f5.ch
  replace cF := cF.ch f5.ch
  replace cM := cM.ch f5.ch
  replace cG := cG.ch f5.ch
  replace dg := dg.ch f5.ch
  replace dp := dp.ch f5.ch
  replace dI := dI.ch f5.ch
  replace aj := aj.ch f5.ch
  replace hO := f5.own
  replace hB := hB.trans f5.fr
  have px := Stp.front 4 hO rfl
  dsimp only [eS, eZ] at px
  replace cF := cF.ch px.ch
  replace cz := cz.ch px.ch
  replace kn := kn.ch px.ch
  replace cM := cM.ch px.ch
  replace cG := cG.ch px.ch
  replace dg := dg.ch px.ch
  replace dp := dp.ch px.ch
  replace dI := dI.ch px.ch
  replace aj := aj.ch px.ch
  replace hO := px.own
  replace hB := hB.trans px.fr
  have pz := Stp.front 5 hO rfl
  dsimp only [eS, eZ] at pz
  replace cM := cM.ch pz.ch
  replace cF := cF.ch pz.ch
  replace cz := cz.ch pz.ch
  replace kn := kn.ch pz.ch
  replace cG := cG.ch pz.ch
  replace dg := dg.ch pz.ch
  replace dp := dp.ch pz.ch
  replace dI := dI.ch pz.ch
  replace aj := aj.ch pz.ch
  replace hO := pz.own
  replace hB := hB.trans pz.fr
  have pC := Stp.front 5 hO rfl
  dsimp only [eS, eZ] at pC
  replace cG := cG.ch pC.ch
  replace cM := cM.ch pC.ch
  replace cF := cF.ch pC.ch
  replace cz := cz.ch pC.ch
  replace kn := kn.ch pC.ch
  replace dg := dg.ch pC.ch
  replace dp := dp.ch pC.ch
  replace dI := dI.ch pC.ch
  replace aj := aj.ch pC.ch
  replace hO := pC.own
  replace hB := hB.trans pC.fr
  have gf := Stp.front 6 hO rfl
  dsimp only [eS, eZ] at gf
  replace kn := kn.ch gf.ch
  replace cG := cG.ch gf.ch
  replace cM := cM.ch gf.ch
  replace cF := cF.ch gf.ch
  replace cz := cz.ch gf.ch
  replace dg := dg.ch gf.ch
  replace dp := dp.ch gf.ch
  replace dI := dI.ch gf.ch
  replace aj := aj.ch gf.ch
  replace hO := gf.own
  replace hB := hB.trans gf.fr
  have pD := Stp.front 7 hO rfl
  dsimp only [eS, eZ] at pD
  replace dg := dg.ch pD.ch
  replace kn := kn.ch pD.ch
  replace cG := cG.ch pD.ch
  replace cM := cM.ch pD.ch
  replace cF := cF.ch pD.ch
  replace cz := cz.ch pD.ch
  replace dp := dp.ch pD.ch
  replace dI := dI.ch pD.ch
  replace aj := aj.ch pD.ch
  replace hO := pD.own
  replace hB := hB.trans pD.fr
  have pE := Stp.front 8 hO rfl
  dsimp only [eS, eZ] at pE
  replace dp := dp.ch pE.ch
  replace dg := dg.ch pE.ch
  replace kn := kn.ch pE.ch
  replace cG := cG.ch pE.ch
  replace cM := cM.ch pE.ch
  replace cF := cF.ch pE.ch
  replace cz := cz.ch pE.ch
  replace dI := dI.ch pE.ch
  replace aj := aj.ch pE.ch
  replace hO := pE.own
  replace hB := hB.trans pE.fr
  have pF := Stp.front 9 hO rfl
  dsimp only [eS, eZ] at pF
  replace dI := dI.ch pF.ch
  replace dp := dp.ch pF.ch
  replace dg := dg.ch pF.ch
  replace kn := kn.ch pF.ch
  replace cG := cG.ch pF.ch
  replace cM := cM.ch pF.ch
  replace cF := cF.ch pF.ch
  replace cz := cz.ch pF.ch
  replace aj := aj.ch pF.ch
  replace hO := pF.own
  replace hB := hB.trans pF.fr
  have pG := Stp.front 10 hO rfl
  dsimp only [eS, eZ] at pG
  replace aj := aj.ch pG.ch
  replace dI := dI.ch pG.ch
  replace dp := dp.ch pG.ch
  replace dg := dg.ch pG.ch
  replace kn := kn.ch pG.ch
  replace cG := cG.ch pG.ch
  replace cM := cM.ch pG.ch
  replace cF := cF.ch pG.ch
  replace cz := cz.ch pG.ch
  replace hO := pG.own
  replace hB := hB.trans pG.fr
  refine Go1.ret2 Try.func49 rfl ?_
  exact Or.inr ⟨(⟨(⟨((ix a0 (0 : Int)).length : Int), false, d_32, d_147, d_141, d_135, ([] : List (List Int)), d_129, (0 : Int)⟩ : Enum), m2_153, d_123, d_117, d_111⟩ : run), ((0 : Int)), B10, n37, p35, c36, f0, iZ, lr, lv, oU, iY, kO, kP, oT, iX, kj, kl, oS, 0, none, 0, ([]), iW, jH, jI, oR, B4, iV, ka, kc, oQ, iU, jg, jG, oP, iM, j8, j9, qt, rfl, hB.same, hO, aj, dI, dp, dg, kn, cG, cM, cF, cz, H⟩
 replace H := ifp rfl H
 refine Go1.condT rfl rfl ?_
 refine Go1.region ?_
 refine GoR.op ((op_move rfl) _) rfl rfl ?_
 refine GoR.op ((op_move rfl) _) rfl rfl ?_
 refine GoR.op ((op_nilCheck rfl) _) rfl rfl ?_
 refine GoR.op ((op_fieldAddr Try.underlying72 rfl ti29 rfl (by decide)) _) rfl rfl ?_
 refine GoR.op ((op_fieldAddr Try.underlying29 rfl ti3 rfl (by decide)) _) rfl rfl ?_
 refine GoR.op ((oblk (i := 0) 1 hO rfl rfl Try.underlying3 rfl rfl) _ (Same.refl _)) rfl rfl ?_
 refine GoR.call (op_call body62 rfl (walk_trans_Identity hO.lt H)) rfl rfl ?_
 rintro KF KG ⟨r397, uW, uX, rfl, Ef, dm, H⟩
 have wz := Stp.same hO Ef
 replace aj := aj.ch wz.ch
 replace hO := wz.own
 replace bH := bH.ch wz.ch
 replace hB := hB.trans wz.fr
 refine GoR.inl (vs := [.pointer (some ⟨B10, 0, none⟩), .slice uW r397.length uX, .int .i64 (-1 : Int), .int .i64 (-1 : Int), .string (gstr (([] : Str))), .int .i64 (-1 : Int)]) (caps := []) rfl rfl body65 Try.func65 rfl Try.ntmps65 rfl rfl rfl ?_
 intro RhR403 hR403
 refine Go1.seq ?_
 refine Go1.region ?_
 refine GoR.op ((op_assign rfl) _) rfl rfl ?_
 refine GoR.nil ?_
 refine Go1.seq ?_
 refine Go1.region ?_
 refine GoR.op ((op_move rfl) _) rfl rfl ?_
 refine GoR.op ((op_nilCheck rfl) _) rfl rfl ?_
 refine GoR.op ((op_fieldAddr Try.underlying72 rfl ti29 rfl (by decide)) _) rfl rfl ?_
 refine GoR.op ((op_fieldAddr Try.underlying29 rfl ti22 rfl (by decide)) _) rfl rfl ?_
 refine GoR.op ((oblk (i := 3) 1 hO rfl rfl Try.underlying22 rfl rfl) _ (Same.refl _)) rfl rfl ?_
 refine GoR.op ((op_len Try.underlying22 rfl) _) rfl rfl ?_
 refine GoR.op ((op_assign rfl) _) rfl rfl ?_
 refine GoR.nil ?_
 refine Go1.seq ?_
 refine Go1.cut [(0, .pointer (some ⟨B10, 0, none⟩)), (1, .slice uW r397.length uX), (2, .int .i64 (-1 : Int)), (3, .int .i64 (-1 : Int)), (4, .string (gstr (([] : Str)))), (5, .int .i64 (-1 : Int)), (13, .int .i64 (0 : Int))] ⟨rfl, rfl, rfl, rfl, rfl, rfl, rfl, trivial⟩ ?_
 intro σ _
 refine Go1.drawS 1 [(0, .pure), (1, .pure), (2, .pure), (3, .stable), (4, .pure), (6, .pure), (5, .loud), (7, .last)] mixed (by kernel_rfl) ?_
 intro KH Eg
 have uY := Stp.same hO Eg
 replace aj := aj.ch uY.ch
 replace hO := uY.own
 replace bH := bH.ch uY.ch
 replace dm := dm.ch uY.ch
 replace hB := hB.trans uY.fr
 refine GoQ.pure rfl (op_move rfl) rfl rfl ?_
 refine GoQ.pure rfl (op_nilCheck rfl) rfl rfl ?_
 refine GoQ.pure rfl (op_fieldAddr Try.underlying72 rfl ti69 rfl (by decide)) rfl rfl ?_
 refine GoQ.stable rfl (oblk (i := 9) 1 hO rfl rfl Try.underlying69 rfl rfl) rfl rfl ?_
 refine GoQ.pure rfl (op_move rfl) rfl rfl ?_
 refine GoQ.pure rfl (op_move rfl) rfl rfl ?_
 refine GoQ.call rfl (op_call body61 rfl (walk_enumerate_text hO.lt dm H)) (fun v w hr => by obtain ⟨_, _, hs, _, _⟩ := hr; assumption) rfl rfl ?_
 rintro KI KJ ⟨r407, rfl, Eh, Jj, H⟩
 have uZ := Stp.same hO Eh
 replace aj := aj.ch uZ.ch
 replace hO := uZ.own
 replace bH := bH.ch uZ.ch
 replace dm := dm.ch uZ.ch
 replace hB := hB.trans uZ.fr
 have hobt := omapUpd (MK.str Try.underlying9) 2 hO rfl Try.underlying69 r407 (0 : Int)
 obtain ⟨KK, i4, BK⟩ := hobt
 refine GoQ.last rfl (BK (by exact rfl) (by exact rfl) (by exact rfl)) rfl rfl ?_
 replace aj := aj.ch i4.ch
 replace hO := i4.own
 replace bH := bH.ch i4.ch
 replace dm := dm.ch i4.ch
 replace hB := hB.trans i4.fr
 refine GoQ.nil ?_
 refine Go1.seq ?_
 refine Go1.region ?_
 refine GoR.op ((op_move rfl) _) rfl rfl ?_
 refine GoR.op ((op_move rfl) _) rfl rfl ?_
 refine GoR.op ((op_nilCheck rfl) _) rfl rfl ?_
 refine GoR.op ((op_fieldAddr Try.underlying72 rfl ti29 rfl (by decide)) _) rfl rfl ?_
 refine GoR.op ((op_fieldAddr Try.underlying29 rfl ti22 rfl (by decide)) _) rfl rfl ?_
 refine GoR.op ((oblk (i := 3) 1 hO rfl rfl Try.underlying22 rfl rfl) _ (Same.refl _)) rfl rfl ?_
 refine GoR.op ((op_move rfl) _) rfl rfl ?_
 have hobt := obuild (r := Rp.sl (Rp.int .i64)) (n := 1) (parts := [(0, .slice uW r397.length uX)]) (vs := [.slice uW r397.length uX]) (xs := [r397]) rfl Try.underlying22 ti26 hO (by decide) (by kernel_rfl) (Els.cons rfl ⟨uW, uX, rfl, dm⟩ (Els.nil _ _ _) (by simp [mx])) rfl
 obtain ⟨HP, KL, u0, Ei, JF, BL⟩ := hobt
 refine GoR.op (BL rfl) rfl rfl ?_
 replace aj := aj.ch u0.ch
 replace hO := u0.own
 replace bH := bH.ch u0.ch
 replace dm := dm.ch u0.ch
 replace hB := hB.trans u0.fr
 have hobt := freeze 0 hO rfl Ei
 obtain ⟨hO1, yJ, d9, Ej⟩ := hobt
 replace bH := bH.ch yJ
 replace dm := dm.ch yJ
 replace aj := aj.ch yJ
 replace hB := hB.trans (Owns.dropFr _ _ 0)
 replace hO := hO1; clear hO1
 have iG := Stp.nil (e := 26) (r := 1) hO
 replace aj := aj.ch iG.ch
 replace hO := iG.own
 replace bH := bH.ch iG.ch
 replace dm := dm.ch iG.ch
 replace d9 := d9.ch iG.ch
 replace hB := hB.trans iG.fr
 have gY := Els.nil (Rp.sl (Rp.int .i64)) (bl (.row 26 1 none 0 0 [] :: [.row 26 1 p35 n37 c36 f0, .blk B10 (.cells #[.int .i64 ((ix a0 (0 : Int)).length : Int), .bool true, .slice p35 n37 c36, .slice none 0 0, .slice none 0 0, .slice none 0 0, .slice none 0 0, .slice none 0 0, .int .i64 (0 : Int), .map (some B4), .slice none 0 0, .slice none 0 0, .slice none 0 0] 72 (0, 0)), .any (mapE (fun a : List UInt8 => Value.string (gstr a)) (fun a : Int => Value.int .i64 a) B4 (mput (([] : List (Str × Int))) r407 ((0 : Int))))]) ++ A) HP
 obtain ⟨HQ, H⟩ := H
 have hobt := oapp Try.underlying22 ti26 rfl 0 hO rfl gY d9 Ej HQ (by decide)
 obtain ⟨KM, oW, oX, uD, uz, eK, BM⟩ := hobt
 refine GoR.op (BM (by exact rfl) (by exact rfl)) rfl rfl ?_
 replace aj := aj.ch uz.ch
 replace hO := uz.own
 replace bH := bH.ch uz.ch
 replace dm := dm.ch uz.ch
 replace d9 := d9.ch uz.ch
 replace hB := hB.trans uz.fr
 refine GoR.op ((op_nilCheck rfl) _) rfl rfl ?_
 refine GoR.op ((op_fieldAddr Try.underlying72 rfl ti29 rfl (by decide)) _) rfl rfl ?_
 refine GoR.op ((op_fieldAddr Try.underlying29 rfl ti22 rfl (by decide)) _) rfl rfl ?_
 have hobt := oblkSt2 (v := .slice oW (0 + 1) oX) (i := 3) (cs' := #[.int .i64 ((ix a0 (0 : Int)).length : Int), .bool true, .slice p35 n37 c36, .slice oW (0 + 1) oX, .slice none 0 0, .slice none 0 0, .slice none 0 0, .slice none 0 0, .int .i64 (0 : Int), .map (some B4), .slice none 0 0, .slice none 0 0, .slice none 0 0]) 2 hO rfl rfl rfl rfl
 obtain ⟨KN, tX, BN⟩ := hobt
 refine GoR.op (BN Try.underlying22 rfl ti22 (by exact rfl) (by exact rfl)) rfl rfl ?_
 replace eK := eK.ch tX.ch
 replace aj := aj.ch tX.ch
 replace hO := tX.own
 replace bH := bH.ch tX.ch
 replace dm := dm.ch tX.ch
 replace d9 := d9.ch tX.ch
 replace hB := hB.trans tX.fr
 refine GoR.nil ?_
 refine Go1.seq ?_
 refine Go1.cut [(0, .pointer (some ⟨B10, 0, none⟩)), (2, .int .i64 (-1 : Int)), (3, .int .i64 (-1 : Int)), (4, .string (gstr (([] : Str)))), (5, .int .i64 (-1 : Int)), (13, .int .i64 (0 : Int))] ⟨rfl, rfl, rfl, rfl, rfl, rfl, trivial⟩ ?_
 intro σ _
 refine Go1.region ?_
 refine GoR.op ((op_move rfl) _) rfl rfl ?_
 refine GoR.op ((op_move rfl) _) rfl rfl ?_
 refine GoR.op ((op_nilCheck rfl) _) rfl rfl ?_
 refine GoR.op ((op_fieldAddr Try.underlying72 rfl ti29 rfl (by decide)) _) rfl rfl ?_
 refine GoR.op ((op_fieldAddr Try.underlying29 rfl ti26 rfl (by decide)) _) rfl rfl ?_
 refine GoR.op ((oblk (i := 4) 2 hO rfl rfl Try.underlying26 rfl rfl) _ (Same.refl _)) rfl rfl ?_
 refine GoR.op ((op_move rfl) _) rfl rfl ?_
 have hobt := obuild (r := Rp.int .i64) (n := 1) (parts := [(0, .int .i64 (-1 : Int))]) (vs := [.int .i64 (-1 : Int)]) (xs := [(-1 : Int)]) rfl Try.underlying26 ti3 hO (by decide) (by kernel_rfl) (Els.cons rfl rfl (Els.nil _ _ _) (by simp [mx])) rfl
 obtain ⟨HR, KO, tY, Ek, JG, BO⟩ := hobt
 refine GoR.op (BO rfl) rfl rfl ?_
 replace eK := eK.ch tY.ch
 replace aj := aj.ch tY.ch
 replace hO := tY.own
 replace bH := bH.ch tY.ch
 replace dm := dm.ch tY.ch
 replace d9 := d9.ch tY.ch
 replace hB := hB.trans tY.fr
 have hobt := freeze 0 hO rfl Ek
 obtain ⟨hO1, vq, fB, El⟩ := hobt
 dsimp only [eS, eZ] at hO1 vq fB
 replace bH := bH.ch vq
 replace dm := dm.ch vq
 replace d9 := d9.ch vq
 replace eK := eK.ch vq
 replace aj := aj.ch vq
 replace hB := hB.trans (Owns.dropFr _ _ 0)
 dsimp only [eS, eZ] at hB
 replace hO := hO1; clear hO1
 have tz := Stp.nil (e := 3) (r := 1) hO
 replace eK := eK.ch tz.ch
 replace aj := aj.ch tz.ch
 replace hO := tz.own
 replace bH := bH.ch tz.ch
 replace dm := dm.ch tz.ch
 replace d9 := d9.ch tz.ch
 replace fB := fB.ch tz.ch
 replace hB := hB.trans tz.fr
 have Em := Els.nil (Rp.int .i64) (bl (.row 3 1 none 0 0 [] :: [.row 26 1 oW (0 + 1) oX uD, .row 26 1 p35 n37 c36 f0, .blk B10 (.cells #[.int .i64 ((ix a0 (0 : Int)).length : Int), .bool true, .slice p35 n37 c36, .slice oW (0 + 1) oX, .slice none 0 0, .slice none 0 0, .slice none 0 0, .slice none 0 0, .int .i64 (0 : Int), .map (some B4), .slice none 0 0, .slice none 0 0, .slice none 0 0] 72 (0, 0)), .any (mapE (fun a : List UInt8 => Value.string (gstr a)) (fun a : Int => Value.int .i64 a) B4 (mput (([] : List (Str × Int))) r407 ((0 : Int))))]) ++ A) HR
 obtain ⟨HS, H⟩ := H
 have hobt := oapp Try.underlying26 ti3 rfl 0 hO rfl Em fB El HS (by decide)
 obtain ⟨KP, rf, rg, vr, sb, fU, xY⟩ := hobt
 dsimp only [sS, sZ] at sb fU
 refine GoR.op (xY (by exact rfl) (by exact rfl)) rfl rfl ?_
 replace eK := eK.ch sb.ch
 replace aj := aj.ch sb.ch
 replace hO := sb.own
 replace bH := bH.ch sb.ch
 replace dm := dm.ch sb.ch
 replace d9 := d9.ch sb.ch
 replace fB := fB.ch sb.ch
 replace hB := hB.trans sb.fr
 refine GoR.op ((op_nilCheck rfl) _) rfl rfl ?_
 refine GoR.op ((op_fieldAddr Try.underlying72 rfl ti29 rfl (by decide)) _) rfl rfl ?_
 refine GoR.op ((op_fieldAddr Try.underlying29 rfl ti26 rfl (by decide)) _) rfl rfl ?_
 have hobt := oblkSt2 (v := .slice rf (0 + 1) rg) (i := 4) (cs' := #[.int .i64 ((ix a0 (0 : Int)).length : Int), .bool true, .slice p35 n37 c36, .slice oW (0 + 1) oX, .slice rf (0 + 1) rg, .slice none 0 0, .slice none 0 0, .slice none 0 0, .int .i64 (0 : Int), .map (some B4), .slice none 0 0, .slice none 0 0, .slice none 0 0]) 3 hO rfl rfl rfl rfl
 obtain ⟨KQ, ru, BP⟩ := hobt
 dsimp only [sS, sZ] at ru
 refine GoR.op (BP Try.underlying26 rfl ti26 (by exact rfl) (by exact rfl)) rfl rfl ?_
 replace fU := fU.ch ru.ch
 replace eK := eK.ch ru.ch
 replace aj := aj.ch ru.ch
 replace hO := ru.own
 replace bH := bH.ch ru.ch
 replace dm := dm.ch ru.ch
 replace d9 := d9.ch ru.ch
 replace fB := fB.ch ru.ch
 replace hB := hB.trans ru.fr
 refine GoR.nil ?_
 refine Go1.seq ?_
 refine Go1.region ?_
 refine GoR.op ((op_move rfl) _) rfl rfl ?_
 refine GoR.op ((op_move rfl) _) rfl rfl ?_
 refine GoR.op ((op_nilCheck rfl) _) rfl rfl ?_
 refine GoR.op ((op_fieldAddr Try.underlying72 rfl ti29 rfl (by decide)) _) rfl rfl ?_
 refine GoR.op ((op_fieldAddr Try.underlying29 rfl ti26 rfl (by decide)) _) rfl rfl ?_
 refine GoR.op ((oblk (i := 5) 3 hO rfl rfl Try.underlying26 rfl rfl) _ (Same.refl _)) rfl rfl ?_
 refine GoR.op ((op_move rfl) _) rfl rfl ?_
 have hobt := obuild (r := Rp.int .i64) (n := 1) (parts := [(0, .int .i64 (-1 : Int))]) (vs := [.int .i64 (-1 : Int)]) (xs := [(-1 : Int)]) rfl Try.underlying26 ti3 hO (by decide) (by kernel_rfl) (Els.cons rfl rfl (Els.nil _ _ _) (by simp [mx])) rfl
 obtain ⟨HT, KR, sc, En, JH, BQ⟩ := hobt
 refine GoR.op (BQ rfl) rfl rfl ?_
 replace fU := fU.ch sc.ch
 replace eK := eK.ch sc.ch
 replace aj := aj.ch sc.ch
 replace hO := sc.own
 replace bH := bH.ch sc.ch
 replace dm := dm.ch sc.ch
 replace d9 := d9.ch sc.ch
 replace fB := fB.ch sc.ch
 replace hB := hB.trans sc.fr
 have hobt := freeze 0 hO rfl En
 obtain ⟨hO1, t6, gZ, Eo⟩ := hobt
 dsimp only [eS, eZ] at hO1 t6 gZ
 replace bH := bH.ch t6
 replace dm := dm.ch t6
 replace d9 := d9.ch t6
 replace fB := fB.ch t6
 replace fU := fU.ch t6
 replace eK := eK.ch t6
 replace aj := aj.ch t6
 replace hB := hB.trans (Owns.dropFr _ _ 0)
 dsimp only [eS, eZ] at hB
 replace hO := hO1; clear hO1
 have rv := Stp.nil (e := 3) (r := 1) hO
 replace fU := fU.ch rv.ch
 replace eK := eK.ch rv.ch
 replace aj := aj.ch rv.ch
 replace hO := rv.own
 replace bH := bH.ch rv.ch
 replace dm := dm.ch rv.ch
 replace d9 := d9.ch rv.ch
 replace fB := fB.ch rv.ch
 replace gZ := gZ.ch rv.ch
 replace hB := hB.trans rv.fr
 have Ep := Els.nil (Rp.int .i64) (bl (.row 3 1 none 0 0 [] :: [.row 3 1 rf (0 + 1) rg vr, .row 26 1 oW (0 + 1) oX uD, .row 26 1 p35 n37 c36 f0, .blk B10 (.cells #[.int .i64 ((ix a0 (0 : Int)).length : Int), .bool true, .slice p35 n37 c36, .slice oW (0 + 1) oX, .slice rf (0 + 1) rg, .slice none 0 0, .slice none 0 0, .slice none 0 0, .int .i64 (0 : Int), .map (some B4), .slice none 0 0, .slice none 0 0, .slice none 0 0] 72 (0, 0)), .any (mapE (fun a : List UInt8 => Value.string (gstr a)) (fun a : Int => Value.int .i64 a) B4 (mput (([] : List (Str × Int))) r407 ((0 : Int))))]) ++ A) HT
 obtain ⟨HU, H⟩ := H
 have hobt := oapp Try.underlying26 ti3 rfl 0 hO rfl Ep gZ Eo HU (by decide)
 obtain ⟨KS, sO, sP, wA, qK, iQ, BR⟩ := hobt
 dsimp only [sS, sZ] at qK iQ
 refine GoR.op (BR (by exact rfl) (by exact rfl)) rfl rfl ?_
 replace fU := fU.ch qK.ch
 replace eK := eK.ch qK.ch
 replace aj := aj.ch qK.ch
 replace hO := qK.own
 replace bH := bH.ch qK.ch
 replace dm := dm.ch qK.ch
 replace d9 := d9.ch qK.ch
 replace fB := fB.ch qK.ch
 replace gZ := gZ.ch qK.ch
 replace hB := hB.trans qK.fr
 refine GoR.op ((op_nilCheck rfl) _) rfl rfl ?_
 refine GoR.op ((op_fieldAddr Try.underlying72 rfl ti29 rfl (by decide)) _) rfl rfl ?_
 refine GoR.op ((op_fieldAddr Try.underlying29 rfl ti26 rfl (by decide)) _) rfl rfl ?_
 have hobt := oblkSt2 (v := .slice sO (0 + 1) sP) (i := 5) (cs' := #[.int .i64 ((ix a0 (0 : Int)).length : Int), .bool true, .slice p35 n37 c36, .slice oW (0 + 1) oX, .slice rf (0 + 1) rg, .slice sO (0 + 1) sP, .slice none 0 0, .slice none 0 0, .int .i64 (0 : Int), .map (some B4), .slice none 0 0, .slice none 0 0, .slice none 0 0]) 4 hO rfl rfl rfl rfl
 obtain ⟨KT, pI, BS⟩ := hobt
 dsimp only [sS, sZ] at pI
 refine GoR.op (BS Try.underlying26 rfl ti26 (by exact rfl) (by exact rfl)) rfl rfl ?_
 replace iQ := iQ.ch pI.ch
 replace fU := fU.ch pI.ch
 replace eK := eK.ch pI.ch
 replace aj := aj.ch pI.ch
 replace hO := pI.own
 replace bH := bH.ch pI.ch
 replace dm := dm.ch pI.ch
 replace d9 := d9.ch pI.ch
 replace fB := fB.ch pI.ch
 replace gZ := gZ.ch pI.ch
 replace hB := hB.trans pI.fr
 refine GoR.nil ?_
 refine Go1.seq ?_
 refine Go1.cut [(0, .pointer (some ⟨B10, 0, none⟩)), (4, .string (gstr (([] : Str)))), (5, .int .i64 (-1 : Int)), (13, .int .i64 (0 : Int))] ⟨rfl, rfl, rfl, rfl, trivial⟩ ?_
 intro σ _
 refine Go1.region ?_
 refine GoR.op ((op_move rfl) _) rfl rfl ?_
 refine GoR.op ((op_move rfl) _) rfl rfl ?_
 refine GoR.op ((op_nilCheck rfl) _) rfl rfl ?_
 refine GoR.op ((op_fieldAddr Try.underlying72 rfl ti70 rfl (by decide)) _) rfl rfl ?_
 refine GoR.op ((oblk (i := 10) 4 hO rfl rfl Try.underlying70 rfl rfl) _ (Same.refl _)) rfl rfl ?_
 refine GoR.op ((op_move rfl) _) rfl rfl ?_
 have hobt := obuild (r := Rp.str) (n := 1) (parts := [(0, .string (gstr (([] : Str))))]) (vs := [.string (gstr (([] : Str)))]) (xs := [([] : Str)]) rfl Try.underlying70 ti9 hO (by decide) (by kernel_rfl) (Els.cons rfl ⟨rfl, (by decide)⟩ (Els.nil _ _ _) (by simp [mx])) rfl
 obtain ⟨HV, KU, fQ, t7, JI, BT⟩ := hobt
 refine GoR.op (BT rfl) rfl rfl ?_
 replace iQ := iQ.ch fQ.ch
 replace fU := fU.ch fQ.ch
 replace eK := eK.ch fQ.ch
 replace aj := aj.ch fQ.ch
 replace hO := fQ.own
 replace bH := bH.ch fQ.ch
 replace dm := dm.ch fQ.ch
 replace d9 := d9.ch fQ.ch
 replace fB := fB.ch fQ.ch
 replace gZ := gZ.ch fQ.ch
 replace hB := hB.trans fQ.fr
 have hobt := freeze 0 hO rfl t7
 obtain ⟨hO1, tj, kU, Er⟩ := hobt
 dsimp only [eS, eZ] at hO1 tj kU
 replace bH := bH.ch tj
 replace dm := dm.ch tj
 replace d9 := d9.ch tj
 replace fB := fB.ch tj
 replace gZ := gZ.ch tj
 replace iQ := iQ.ch tj
 replace fU := fU.ch tj
 replace eK := eK.ch tj
 replace aj := aj.ch tj
 replace hB := hB.trans (Owns.dropFr _ _ 0)
 dsimp only [eS, eZ] at hB
 replace hO := hO1; clear hO1
 have pK := Stp.nil (e := 9) (r := 1) hO
 replace iQ := iQ.ch pK.ch
 replace fU := fU.ch pK.ch
 replace eK := eK.ch pK.ch
 replace aj := aj.ch pK.ch
 replace hO := pK.own
 replace bH := bH.ch pK.ch
 replace dm := dm.ch pK.ch
 replace d9 := d9.ch pK.ch
 replace fB := fB.ch pK.ch
 replace gZ := gZ.ch pK.ch
 replace kU := kU.ch pK.ch
 replace hB := hB.trans pK.fr
 have Et := Els.nil (Rp.str) (bl (.row 9 1 none 0 0 [] :: [.row 3 1 sO (0 + 1) sP wA, .row 3 1 rf (0 + 1) rg vr, .row 26 1 oW (0 + 1) oX uD, .row 26 1 p35 n37 c36 f0, .blk B10 (.cells #[.int .i64 ((ix a0 (0 : Int)).length : Int), .bool true, .slice p35 n37 c36, .slice oW (0 + 1) oX, .slice rf (0 + 1) rg, .slice sO (0 + 1) sP, .slice none 0 0, .slice none 0 0, .int .i64 (0 : Int), .map (some B4), .slice none 0 0, .slice none 0 0, .slice none 0 0] 72 (0, 0)), .any (mapE (fun a : List UInt8 => Value.string (gstr a)) (fun a : Int => Value.int .i64 a) B4 (mput (([] : List (Str × Int))) r407 ((0 : Int))))]) ++ A) HV
 obtain ⟨HW, H⟩ := H
 have hobt := oapp Try.underlying70 ti9 rfl 0 hO rfl Et kU Er HW (by decide)
 obtain ⟨KV, ug, uh, xI, ot, nr, BU⟩ := hobt
 dsimp only [sS, sZ] at ot nr
 refine GoR.op (BU (by exact rfl) (by exact rfl)) rfl rfl ?_
 replace iQ := iQ.ch ot.ch
 replace fU := fU.ch ot.ch
 replace eK := eK.ch ot.ch
 replace aj := aj.ch ot.ch
 replace hO := ot.own
 replace bH := bH.ch ot.ch
 replace dm := dm.ch ot.ch
 replace d9 := d9.ch ot.ch
 replace fB := fB.ch ot.ch
 replace gZ := gZ.ch ot.ch
 replace kU := kU.ch ot.ch
 replace hB := hB.trans ot.fr
 refine GoR.op ((op_nilCheck rfl) _) rfl rfl ?_
 refine GoR.op ((op_fieldAddr Try.underlying72 rfl ti70 rfl (by decide)) _) rfl rfl ?_
 have hobt := oblkSt2 (v := .slice ug (0 + 1) uh) (i := 10) (cs' := #[.int .i64 ((ix a0 (0 : Int)).length : Int), .bool true, .slice p35 n37 c36, .slice oW (0 + 1) oX, .slice rf (0 + 1) rg, .slice sO (0 + 1) sP, .slice none 0 0, .slice none 0 0, .int .i64 (0 : Int), .map (some B4), .slice ug (0 + 1) uh, .slice none 0 0, .slice none 0 0]) 5 hO rfl rfl rfl rfl
 obtain ⟨KW, nD, xZ⟩ := hobt
 dsimp only [sS, sZ] at nD
 refine GoR.op (xZ Try.underlying70 rfl ti70 (by exact rfl) (by exact rfl)) rfl rfl ?_
 replace nr := nr.ch nD.ch
 replace iQ := iQ.ch nD.ch
 replace fU := fU.ch nD.ch
 replace eK := eK.ch nD.ch
 replace aj := aj.ch nD.ch
 replace hO := nD.own
 replace bH := bH.ch nD.ch
 replace dm := dm.ch nD.ch
 replace d9 := d9.ch nD.ch
 replace fB := fB.ch nD.ch
 replace gZ := gZ.ch nD.ch
 replace kU := kU.ch nD.ch
 replace hB := hB.trans nD.fr
 refine GoR.nil ?_
 refine Go1.seq ?_
 refine Go1.region ?_
 refine GoR.op ((op_move rfl) _) rfl rfl ?_
 refine GoR.op ((op_move rfl) _) rfl rfl ?_
 refine GoR.op ((op_nilCheck rfl) _) rfl rfl ?_
 refine GoR.op ((op_fieldAddr Try.underlying72 rfl ti26 rfl (by decide)) _) rfl rfl ?_
 refine GoR.op ((oblk (i := 11) 5 hO rfl rfl Try.underlying26 rfl rfl) _ (Same.refl _)) rfl rfl ?_
 refine GoR.op ((op_move rfl) _) rfl rfl ?_
 have hobt := obuild (r := Rp.int .i64) (n := 1) (parts := [(0, .int .i64 (-1 : Int))]) (vs := [.int .i64 (-1 : Int)]) (xs := [(-1 : Int)]) rfl Try.underlying26 ti3 hO (by decide) (by kernel_rfl) (Els.cons rfl rfl (Els.nil _ _ _) (by simp [mx])) rfl
 obtain ⟨HX, KX, ou, Eu, JJ, BV⟩ := hobt
 refine GoR.op (BV rfl) rfl rfl ?_
 replace nr := nr.ch ou.ch
 replace iQ := iQ.ch ou.ch
 replace fU := fU.ch ou.ch
 replace eK := eK.ch ou.ch
 replace aj := aj.ch ou.ch
 replace hO := ou.own
 replace bH := bH.ch ou.ch
 replace dm := dm.ch ou.ch
 replace d9 := d9.ch ou.ch
 replace fB := fB.ch ou.ch
 replace gZ := gZ.ch ou.ch
 replace kU := kU.ch ou.ch
 replace hB := hB.trans ou.fr
 have hobt := freeze 0 hO rfl Eu
 obtain ⟨hO1, rI, rJ, Ev⟩ := hobt
 dsimp only [eS, eZ] at hO1 rI rJ
 replace bH := bH.ch rI
 replace dm := dm.ch rI
 replace d9 := d9.ch rI
 replace fB := fB.ch rI
 replace gZ := gZ.ch rI
 replace kU := kU.ch rI
 replace nr := nr.ch rI
 replace iQ := iQ.ch rI
 replace fU := fU.ch rI
 replace eK := eK.ch rI
 replace aj := aj.ch rI
 replace hB := hB.trans (Owns.dropFr _ _ 0)
 dsimp only [eS, eZ] at hB
 replace hO := hO1; clear hO1
 have nE := Stp.nil (e := 3) (r := 1) hO
 replace nr := nr.ch nE.ch
 replace iQ := iQ.ch nE.ch
 replace fU := fU.ch nE.ch
 replace eK := eK.ch nE.ch
 replace aj := aj.ch nE.ch
 replace hO := nE.own
 replace bH := bH.ch nE.ch
 replace dm := dm.ch nE.ch
 replace d9 := d9.ch nE.ch
 replace fB := fB.ch nE.ch
 replace gZ := gZ.ch nE.ch
 replace kU := kU.ch nE.ch
 replace rJ := rJ.ch nE.ch
 replace hB := hB.trans nE.fr
 have Ew := Els.nil (Rp.int .i64) (bl (.row 3 1 none 0 0 [] :: [.row 9 1 ug (0 + 1) uh xI, .row 3 1 sO (0 + 1) sP wA, .row 3 1 rf (0 + 1) rg vr, .row 26 1 oW (0 + 1) oX uD, .row 26 1 p35 n37 c36 f0, .blk B10 (.cells #[.int .i64 ((ix a0 (0 : Int)).length : Int), .bool true, .slice p35 n37 c36, .slice oW (0 + 1) oX, .slice rf (0 + 1) rg, .slice sO (0 + 1) sP, .slice none 0 0, .slice none 0 0, .int .i64 (0 : Int), .map (some B4), .slice ug (0 + 1) uh, .slice none 0 0, .slice none 0 0] 72 (0, 0)), .any (mapE (fun a : List UInt8 => Value.string (gstr a)) (fun a : Int => Value.int .i64 a) B4 (mput (([] : List (Str × Int))) r407 ((0 : Int))))]) ++ A) HX
 obtain ⟨HY, H⟩ := H
 have hobt := oapp Try.underlying26 ti3 rfl 0 hO rfl Ew rJ Ev HY (by decide)
 obtain ⟨KY, vX, vY, yK, f6, t8, BW⟩ := hobt
 dsimp only [sS, sZ] at f6 t8
 refine GoR.op (BW (by exact rfl) (by exact rfl)) rfl rfl ?_
 replace nr := nr.ch f6.ch
 replace iQ := iQ.ch f6.ch
 replace fU := fU.ch f6.ch
 replace eK := eK.ch f6.ch
 replace aj := aj.ch f6.ch
 replace hO := f6.own
 replace bH := bH.ch f6.ch
 replace dm := dm.ch f6.ch
 replace d9 := d9.ch f6.ch
 replace fB := fB.ch f6.ch
 replace gZ := gZ.ch f6.ch
 replace kU := kU.ch f6.ch
 replace rJ := rJ.ch f6.ch
 replace hB := hB.trans f6.fr
 refine GoR.op ((op_nilCheck rfl) _) rfl rfl ?_
 refine GoR.op ((op_fieldAddr Try.underlying72 rfl ti26 rfl (by decide)) _) rfl rfl ?_
 have hobt := oblkSt2 (v := .slice vX (0 + 1) vY) (i := 11) (cs' := #[.int .i64 ((ix a0 (0 : Int)).length : Int), .bool true, .slice p35 n37 c36, .slice oW (0 + 1) oX, .slice rf (0 + 1) rg, .slice sO (0 + 1) sP, .slice none 0 0, .slice none 0 0, .int .i64 (0 : Int), .map (some B4), .slice ug (0 + 1) uh, .slice vX (0 + 1) vY, .slice none 0 0]) 6 hO rfl rfl rfl rfl
 obtain ⟨BX, mz, BY⟩ := hobt
 dsimp only [sS, sZ] at mz
 refine GoR.op (BY Try.underlying26 rfl ti26 (by exact rfl) (by exact rfl)) rfl rfl ?_
 replace t8 := t8.ch mz.ch
 replace nr := nr.ch mz.ch
 replace iQ := iQ.ch mz.ch
 replace fU := fU.ch mz.ch
 replace eK := eK.ch mz.ch
 replace aj := aj.ch mz.ch
 replace hO := mz.own
 replace bH := bH.ch mz.ch
 replace dm := dm.ch mz.ch
 replace d9 := d9.ch mz.ch
 replace fB := fB.ch mz.ch
 replace gZ := gZ.ch mz.ch
 replace kU := kU.ch mz.ch
 replace rJ := rJ.ch mz.ch
 replace hB := hB.trans mz.fr
 refine GoR.nil ?_
 refine Go1.seq ?_
 refine Go1.cut [(13, .int .i64 (0 : Int))] ⟨rfl, trivial⟩ ?_
 intro σ _
 refine Go1.region ?_
 refine GoR.op ((op_move rfl) _) rfl rfl ?_
 refine GoR.op ((op_assign rfl) _) rfl rfl ?_
 refine GoR.nil ?_
 refine Go1.ret1V Try.func65 rfl (show _ = .int .i64 (0 : Int) from rfl) ?_
 refine hR403 _ _ ?_
 refine GoR.op ((op_assign rfl) _) rfl rfl ?_
 refine GoR.nil ?_
 refine Go1.seq ?_
 refine Go1.seq ?_
 refine Go1.region ?_
 refine GoR.op ((op_move rfl) _) rfl rfl ?_
 refine GoR.op ((op_nilCheck rfl) _) rfl rfl ?_
 refine GoR.op ((op_fieldAddr Try.underlying72 rfl ti29 rfl (by decide)) _) rfl rfl ?_
 refine GoR.op ((op_fieldAddr Try.underlying29 rfl ti22 rfl (by decide)) _) rfl rfl ?_
 refine GoR.op ((oblk (i := 2) 6 hO rfl rfl Try.underlying22 rfl rfl) _ (Same.refl _)) rfl rfl ?_
 refine GoR.op ((op_lenN Try.underlying22 rfl (aj.neq hO 5 rfl)) _) rfl rfl ?_
 refine GoR.op ((op_move rfl) _) rfl rfl ?_
 refine GoR.nil ?_
 refine Go1.block ?_
 have m8 := Stp.nil (e := 39) (r := 2) hO
 replace t8 := t8.ch m8.ch
 replace nr := nr.ch m8.ch
 replace iQ := iQ.ch m8.ch
 replace fU := fU.ch m8.ch
 replace eK := eK.ch m8.ch
 replace aj := aj.ch m8.ch
 replace hO := m8.own
 replace bH := bH.ch m8.ch
 replace dm := dm.ch m8.ch
 replace d9 := d9.ch m8.ch
 replace fB := fB.ch m8.ch
 replace gZ := gZ.ch m8.ch
 replace kU := kU.ch m8.ch
 replace rJ := rJ.ch m8.ch
 replace hB := hB.trans m8.fr
 have yL := Els.nil (rpRule) (bl (.row 39 2 none 0 0 [] :: [.row 3 1 vX (0 + 1) vY yK, .row 9 1 ug (0 + 1) uh xI, .row 3 1 sO (0 + 1) sP wA, .row 3 1 rf (0 + 1) rg vr, .row 26 1 oW (0 + 1) oX uD, .row 26 1 p35 n37 c36 f0, .blk B10 (.cells #[.int .i64 ((ix a0 (0 : Int)).length : Int), .bool true, .slice p35 n37 c36, .slice oW (0 + 1) oX, .slice rf (0 + 1) rg, .slice sO (0 + 1) sP, .slice none 0 0, .slice none 0 0, .int .i64 (0 : Int), .map (some B4), .slice ug (0 + 1) uh, .slice vX (0 + 1) vY, .slice none 0 0] 72 (0, 0)), .any (mapE (fun a : List UInt8 => Value.string (gstr a)) (fun a : Int => Value.int .i64 a) B4 (mput (([] : List (Str × Int))) r407 ((0 : Int))))]) ++ A) BX
 have mA := Stp.nil (e := 3) (r := 1) hO
 replace yL := yL.ch mA.ch
 replace t8 := t8.ch mA.ch
 replace nr := nr.ch mA.ch
 replace iQ := iQ.ch mA.ch
 replace fU := fU.ch mA.ch
 replace eK := eK.ch mA.ch
 replace aj := aj.ch mA.ch
 replace hO := mA.own
 replace bH := bH.ch mA.ch
 replace dm := dm.ch mA.ch
 replace d9 := d9.ch mA.ch
 replace fB := fB.ch mA.ch
 replace gZ := gZ.ch mA.ch
 replace kU := kU.ch mA.ch
 replace rJ := rJ.ch mA.ch
 replace hB := hB.trans mA.fr
 have Ex := Els.nil (Rp.int .i64) (bl (.row 3 1 none 0 0 [] :: [.row 39 2 none 0 0 [], .row 3 1 vX (0 + 1) vY yK, .row 9 1 ug (0 + 1) uh xI, .row 3 1 sO (0 + 1) sP wA, .row 3 1 rf (0 + 1) rg vr, .row 26 1 oW (0 + 1) oX uD, .row 26 1 p35 n37 c36 f0, .blk B10 (.cells #[.int .i64 ((ix a0 (0 : Int)).length : Int), .bool true, .slice p35 n37 c36, .slice oW (0 + 1) oX, .slice rf (0 + 1) rg, .slice sO (0 + 1) sP, .slice none 0 0, .slice none 0 0, .int .i64 (0 : Int), .map (some B4), .slice ug (0 + 1) uh, .slice vX (0 + 1) vY, .slice none 0 0] 72 (0, 0)), .any (mapE (fun a : List UInt8 => Value.string (gstr a)) (fun a : Int => Value.int .i64 a) B4 (mput (([] : List (Str × Int))) r407 ((0 : Int))))]) ++ A) BX
 refine Go1.loopW (S := Nat × List Int × List Rule × List Int × List Str × List Int × List Int × List (List Int) × (List (Str × Int))) (fun s σ w => match s with | (k3_548, d_549, d_555, d_561, d_567, d_573, d_579, d_585, m3_591) => ∃ (iN : Nat), ∃ (kd : Option Addr), ∃ (ke : Nat), ∃ (qx : List Value), ∃ (i5 : Nat), ∃ (jJ : Option Addr), ∃ (jK : Nat), ∃ (oY : List Value), ∃ (i6 : Nat), ∃ (jL : Option Addr), ∃ (jM : Nat), ∃ (oZ : List Value), ∃ (i7 : Nat), ∃ (kg : Option Addr), ∃ (kh : Nat), ∃ (o0 : List Value), ∃ (i8 : Nat), ∃ (ko : Option Addr), ∃ (kq : Nat), ∃ (o3 : List Value), ∃ (i9 : Nat), ∃ (kQ : Option Addr), ∃ (kS : Nat), ∃ (o4 : List Value), ∃ (ja : Nat), ∃ (lw : Option Addr), ∃ (lx : Nat), ∃ (o5 : List Value), agrees σ [(6, .pointer (some ⟨B10, 0, none⟩)), (9, .int .i64 (0 : Int)), (85, .slice p35 n37 c36), (86, .int .i64 (d_32.length : Int)), (87, .int .i64 (k3_548 : Int))] ∧ Owns w0.heap.size w [.row 3 1 kd iN ke qx, .row 39 2 jJ i5 jK oY, .row 3 1 jL i6 jM oZ, .row 9 1 kg i7 kh o0, .row 3 1 ko i8 kq o3, .row 3 1 kQ i9 kS o4, .row 26 1 lw ja lx o5, .row 26 1 p35 n37 c36 f0, .blk B10 (.cells #[.int .i64 ((ix a0 (0 : Int)).length : Int), .bool true, .slice p35 n37 c36, .slice lw ja lx, .slice kQ i9 kS, .slice ko i8 kq, .slice none 0 0, .slice jJ i5 jK, .int .i64 (0 : Int), .map (some B4), .slice kg i7 kh, .slice jL i6 jM, .slice kd iN ke] 72 (0, 0)), .any (mapE (fun a : List UInt8 => Value.string (gstr a)) (fun a : Int => Value.int .i64 a) B4 m3_591)] A ∧ Els (Rp.int .i64) (bl [.row 3 1 kd iN ke qx, .row 39 2 jJ i5 jK oY, .row 3 1 jL i6 jM oZ, .row 9 1 kg i7 kh o0, .row 3 1 ko i8 kq o3, .row 3 1 kQ i9 kS o4, .row 26 1 lw ja lx o5, .row 26 1 p35 n37 c36 f0, .blk B10 (.cells #[.int .i64 ((ix a0 (0 : Int)).length : Int), .bool true, .slice p35 n37 c36, .slice lw ja lx, .slice kQ i9 kS, .slice ko i8 kq, .slice none 0 0, .slice jJ i5 jK, .int .i64 (0 : Int), .map (some B4), .slice kg i7 kh, .slice jL i6 jM, .slice kd iN ke] 72 (0, 0)), .any (mapE (fun a : List UInt8 => Value.string (gstr a)) (fun a : Int => Value.int .i64 a) B4 m3_591)] ++ A) w qx d_549 ∧ Els (rpRule) (bl [.row 3 1 kd iN ke qx, .row 39 2 jJ i5 jK oY, .row 3 1 jL i6 jM oZ, .row 9 1 kg i7 kh o0, .row 3 1 ko i8 kq o3, .row 3 1 kQ i9 kS o4, .row 26 1 lw ja lx o5, .row 26 1 p35 n37 c36 f0, .blk B10 (.cells #[.int .i64 ((ix a0 (0 : Int)).length : Int), .bool true, .slice p35 n37 c36, .slice lw ja lx, .slice kQ i9 kS, .slice ko i8 kq, .slice none 0 0, .slice jJ i5 jK, .int .i64 (0 : Int), .map (some B4), .slice kg i7 kh, .slice jL i6 jM, .slice kd iN ke] 72 (0, 0)), .any (mapE (fun a : List UInt8 => Value.string (gstr a)) (fun a : Int => Value.int .i64 a) B4 m3_591)] ++ A) w oY d_555 ∧ Els (Rp.int .i64) (bl [.row 3 1 kd iN ke qx, .row 39 2 jJ i5 jK oY, .row 3 1 jL i6 jM oZ, .row 9 1 kg i7 kh o0, .row 3 1 ko i8 kq o3, .row 3 1 kQ i9 kS o4, .row 26 1 lw ja lx o5, .row 26 1 p35 n37 c36 f0, .blk B10 (.cells #[.int .i64 ((ix a0 (0 : Int)).length : Int), .bool true, .slice p35 n37 c36, .slice lw ja lx, .slice kQ i9 kS, .slice ko i8 kq, .slice none 0 0, .slice jJ i5 jK, .int .i64 (0 : Int), .map (some B4), .slice kg i7 kh, .slice jL i6 jM, .slice kd iN ke] 72 (0, 0)), .any (mapE (fun a : List UInt8 => Value.string (gstr a)) (fun a : Int => Value.int .i64 a) B4 m3_591)] ++ A) w oZ d_561 ∧ Els (Rp.str) (bl [.row 3 1 kd iN ke qx, .row 39 2 jJ i5 jK oY, .row 3 1 jL i6 jM oZ, .row 9 1 kg i7 kh o0, .row 3 1 ko i8 kq o3, .row 3 1 kQ i9 kS o4, .row 26 1 lw ja lx o5, .row 26 1 p35 n37 c36 f0, .blk B10 (.cells #[.int .i64 ((ix a0 (0 : Int)).length : Int), .bool true, .slice p35 n37 c36, .slice lw ja lx, .slice kQ i9 kS, .slice ko i8 kq, .slice none 0 0, .slice jJ i5 jK, .int .i64 (0 : Int), .map (some B4), .slice kg i7 kh, .slice jL i6 jM, .slice kd iN ke] 72 (0, 0)), .any (mapE (fun a : List UInt8 => Value.string (gstr a)) (fun a : Int => Value.int .i64 a) B4 m3_591)] ++ A) w o0 d_567 ∧ Els (Rp.int .i64) (bl [.row 3 1 kd iN ke qx, .row 39 2 jJ i5 jK oY, .row 3 1 jL i6 jM oZ, .row 9 1 kg i7 kh o0, .row 3 1 ko i8 kq o3, .row 3 1 kQ i9 kS o4, .row 26 1 lw ja lx o5, .row 26 1 p35 n37 c36 f0, .blk B10 (.cells #[.int .i64 ((ix a0 (0 : Int)).length : Int), .bool true, .slice p35 n37 c36, .slice lw ja lx, .slice kQ i9 kS, .slice ko i8 kq, .slice none 0 0, .slice jJ i5 jK, .int .i64 (0 : Int), .map (some B4), .slice kg i7 kh, .slice jL i6 jM, .slice kd iN ke] 72 (0, 0)), .any (mapE (fun a : List UInt8 => Value.string (gstr a)) (fun a : Int => Value.int .i64 a) B4 m3_591)] ++ A) w o3 d_573 ∧ Els (Rp.int .i64) (bl [.row 3 1 kd iN ke qx, .row 39 2 jJ i5 jK oY, .row 3 1 jL i6 jM oZ, .row 9 1 kg i7 kh o0, .row 3 1 ko i8 kq o3, .row 3 1 kQ i9 kS o4, .row 26 1 lw ja lx o5, .row 26 1 p35 n37 c36 f0, .blk B10 (.cells #[.int .i64 ((ix a0 (0 : Int)).length : Int), .bool true, .slice p35 n37 c36, .slice lw ja lx, .slice kQ i9 kS, .slice ko i8 kq, .slice none 0 0, .slice jJ i5 jK, .int .i64 (0 : Int), .map (some B4), .slice kg i7 kh, .slice jL i6 jM, .slice kd iN ke] 72 (0, 0)), .any (mapE (fun a : List UInt8 => Value.string (gstr a)) (fun a : Int => Value.int .i64 a) B4 m3_591)] ++ A) w o4 d_579 ∧ Els (Rp.sl (Rp.int .i64)) (bl [.row 3 1 kd iN ke qx, .row 39 2 jJ i5 jK oY, .row 3 1 jL i6 jM oZ, .row 9 1 kg i7 kh o0, .row 3 1 ko i8 kq o3, .row 3 1 kQ i9 kS o4, .row 26 1 lw ja lx o5, .row 26 1 p35 n37 c36 f0, .blk B10 (.cells #[.int .i64 ((ix a0 (0 : Int)).length : Int), .bool true, .slice p35 n37 c36, .slice lw ja lx, .slice kQ i9 kS, .slice ko i8 kq, .slice none 0 0, .slice jJ i5 jK, .int .i64 (0 : Int), .map (some B4), .slice kg i7 kh, .slice jL i6 jM, .slice kd iN ke] 72 (0, 0)), .any (mapE (fun a : List UInt8 => Value.string (gstr a)) (fun a : Int => Value.int .i64 a) B4 m3_591)] ++ A) w o5 d_585 ∧ Els (Rp.sl (Rp.int .i64)) (bl [.row 3 1 kd iN ke qx, .row 39 2 jJ i5 jK oY, .row 3 1 jL i6 jM oZ, .row 9 1 kg i7 kh o0, .row 3 1 ko i8 kq o3, .row 3 1 kQ i9 kS o4, .row 26 1 lw ja lx o5, .row 26 1 p35 n37 c36 f0, .blk B10 (.cells #[.int .i64 ((ix a0 (0 : Int)).length : Int), .bool true, .slice p35 n37 c36, .slice lw ja lx, .slice kQ i9 kS, .slice ko i8 kq, .slice none 0 0, .slice jJ i5 jK, .int .i64 (0 : Int), .map (some B4), .slice kg i7 kh, .slice jL i6 jM, .slice kd iN ke] 72 (0, 0)), .any (mapE (fun a : List UInt8 => Value.string (gstr a)) (fun a : Int => Value.int .i64 a) B4 m3_591)] ++ A) w f0 d_32 ∧ Fr (bl []) w0 (bl [.row 3 1 kd iN ke qx, .row 39 2 jJ i5 jK oY, .row 3 1 jL i6 jM oZ, .row 9 1 kg i7 kh o0, .row 3 1 ko i8 kq o3, .row 3 1 kQ i9 kS o4, .row 26 1 lw ja lx o5, .row 26 1 p35 n37 c36 f0, .blk B10 (.cells #[.int .i64 ((ix a0 (0 : Int)).length : Int), .bool true, .slice p35 n37 c36, .slice lw ja lx, .slice kQ i9 kS, .slice ko i8 kq, .slice none 0 0, .slice jJ i5 jK, .int .i64 (0 : Int), .map (some B4), .slice kg i7 kh, .slice jL i6 jM, .slice kd iN ke] 72 (0, 0)), .any (mapE (fun a : List UInt8 => Value.string (gstr a)) (fun a : Int => Value.int .i64 a) B4 m3_591)]) w) H ⟨0, none, 0, [], 0, none, 0, [], 0 + 1, vX, vY, yK, 0 + 1, ug, uh, xI, 0 + 1, sO, sP, wA, 0 + 1, rf, rg, vr, 0 + 1, oW, oX, uD, ⟨rfl, rfl, rfl, rfl, rfl, trivial⟩, hO, Ex, yL, t8, nr, iQ, fU, eK, aj, hB⟩ ?_
 intro X3
 refine prE fun k3_548 => prE fun d_549 => prE fun d_555 => prE fun d_561 => prE fun d_567 => prE fun d_573 => prE fun d_579 => prE fun d_585 => fun m3_591 => ?_
 intro H hX3 σ HZ
 refine exE fun iN => exE fun kd => exE fun ke => exE fun qx => exE fun i5 => exE fun jJ => exE fun jK => exE fun oY => exE fun i6 => exE fun jL => exE fun jM => exE fun oZ => exE fun i7 => exE fun kg => exE fun kh => exE fun o0 => exE fun i8 => exE fun ko => exE fun kq => exE fun o3 => exE fun i9 => exE fun kQ => exE fun kS => exE fun o4 => exE fun ja => exE fun lw => exE fun lx => exE fun o5 => andE fun hag => andE fun hO => andE fun cA => andE fun cH => andE fun cI => andE fun cN => andE fun dh => andE fun dq => andE fun dJ => andE fun aj => fun hB => ?_
 dsimp only at H
 refine Go1.keep [(6, .pointer (some ⟨B10, 0, none⟩)), (9, .int .i64 (0 : Int)), (85, .slice p35 n37 c36), (86, .int .i64 (d_32.length : Int)), (87, .int .i64 (k3_548 : Int))] hag ?_
 refine Go1.seq ?_
 refine Go1.region ?_
 by_cases wZ : (k3_548 : Int) < (d_32.length : Int)
 ·replace H := ifp wZ H
  refine GoR.op ((fun w => opB (op_lss rfl rfl w) (decide_eq_true wZ)) _) rfl rfl ?_
  refine GoR.nil ?_
  refine Go1.seq ?_
  refine Go1.condT rfl rfl ?_
  refine Go1.skip ?_
  refine Go1.seq ?_
  refine Go1.block ?_
  refine Go1.seq ?_
  refine Go1.region ?_
  refine GoR.op ((op_move rfl) _) rfl rfl ?_
  obtain ⟨zY, H⟩ := H
  obtain ⟨zZ, H⟩ := H
  refine GoR.op ((op_index Try.underlying22 ti26 rfl rfl zY (ltn (aj.neq hO 7 rfl) zZ) (aj.psome hO 7 rfl zY zZ)) _) rfl rfl ?_
  have hobt := oldSl 7 hO rfl aj zY zZ
  obtain ⟨BZ, B0, c7, Ey⟩ := hobt
  refine GoR.op ((Ey Try.underlying26 rfl rfl) _ (Same.refl _)) rfl rfl ?_
  refine GoR.op ((op_assign rfl) _) rfl rfl ?_
  refine GoR.op ((op_assign rfl) _) rfl rfl ?_
  refine GoR.nil ?_
  refine Go1.seq ?_
  refine Go1.region ?_
  refine GoR.op ((op_move rfl) _) rfl rfl ?_
  obtain ⟨H0, H⟩ := H
  refine GoR.op ((op_add rfl rfl (wrap_i64 H0)) _) rfl rfl ?_
  refine GoR.op ((op_conv Try.underlying3 Try.underlying21 rfl rfl) _) rfl rfl ?_
  obtain ⟨H1, H⟩ := H
  obtain ⟨H2, H⟩ := H
  refine GoR.op ((op_convRS Try.underlying21 Try.underlying9 rfl H1 H2) _) rfl rfl ?_
  refine GoR.op ((op_assign rfl) _) rfl rfl ?_
  refine GoR.nil ?_
  refine Go1.seq ?_
  refine Go1.drawS 0 [(0, .pure), (1, .pure), (2, .pure), (3, .stable), (4, .pure), (5, .loud), (6, .stable), (7, .pure), (8, .pure), (9, .pure), (10, .pure), (11, .pure)] mixed (by kernel_rfl) ?_
  intro KZ Ez
  have qL := Stp.same hO Ez
  replace cA := cA.ch qL.ch
  replace cH := cH.ch qL.ch
  replace cI := cI.ch qL.ch
  replace cN := cN.ch qL.ch
  replace dh := dh.ch qL.ch
  replace dq := dq.ch qL.ch
  replace dJ := dJ.ch qL.ch
  replace aj := aj.ch qL.ch
  replace hO := qL.own
  replace c7 := c7.ch qL.ch
  replace hB := hB.trans qL.fr
  refine GoQ.pure rfl (op_move rfl) rfl rfl ?_
  refine GoQ.pure rfl (op_nilCheck rfl) rfl rfl ?_
  refine GoQ.pure rfl (op_fieldAddr Try.underlying72 rfl ti69 rfl (by decide)) rfl rfl ?_
  refine GoQ.stable rfl (oblk (i := 9) 8 hO rfl rfl Try.underlying69 rfl rfl) rfl rfl ?_
  refine GoQ.pure rfl (op_move rfl) rfl rfl ?_
  refine GoQ.call rfl (op_call body61 rfl (walk_enumerate_text hO.lt c7 H)) (fun v w hr => by obtain ⟨_, _, hs, _, _⟩ := hr; assumption) rfl rfl ?_
  rintro K1 K2 ⟨r605, rfl, EA, Jk, H⟩
  have qM := Stp.same hO EA
  replace cA := cA.ch qM.ch
  replace cH := cH.ch qM.ch
  replace cI := cI.ch qM.ch
  replace cN := cN.ch qM.ch
  replace dh := dh.ch qM.ch
  replace dq := dq.ch qM.ch
  replace dJ := dJ.ch qM.ch
  replace aj := aj.ch qM.ch
  replace hO := qM.own
  replace c7 := c7.ch qM.ch
  replace hB := hB.trans qM.fr
  by_cases yM : mhas m3_591 r605 = true
  ·replace H := ifp yM H
   refine GoQ.stable rfl (olookT (a := r605) (MK.str Try.underlying9) 9 hO rfl Try.underlying69 rfl rfl yM) rfl rfl ?_
   refine GoQ.pure rfl (op_move rfl) rfl rfl ?_
   refine GoQ.pure rfl (op_extract rfl rfl) rfl rfl ?_
   refine GoQ.pure rfl (op_extract rfl rfl) rfl rfl ?_
   refine GoQ.pure rfl (op_assign rfl) rfl rfl ?_
   refine GoQ.pure rfl (op_assign rfl) rfl rfl ?_
   refine GoQ.nil ?_
   refine Go1.seq ?_
   refine Go1.seq ?_
   refine Go1.cut [(6, .pointer (some ⟨B10, 0, none⟩)), (9, .int .i64 (0 : Int)), (10, .int .i64 (k3_548 : Int)), (11, .slice BZ ((ix d_32 (k3_548 : Int)).length) B0), (12, .string (gstr (chr (IntKind.i32.wrap ((97 : Int) + (k3_548 : Int)))))), (13, .int .i64 (mgt m3_591 r605)), (14, .bool true), (85, .slice p35 n37 c36), (86, .int .i64 (d_32.length : Int)), (87, .int .i64 (k3_548 : Int))] ⟨rfl, rfl, rfl, rfl, rfl, rfl, rfl, rfl, rfl, rfl, trivial⟩ ?_
   intro σ _
   refine Go1.region ?_
   refine GoR.op ((op_move rfl) _) rfl rfl ?_
   refine GoR.nil ?_
   refine Go1.condT rfl rfl ?_
   refine Go1.drawS 5 [(0, .pure), (1, .pure), (2, .pure), (3, .pure), (4, .pure), (5, .stable), (6, .pure), (7, .pure), (8, .pure), (9, .pure), (10, .stable), (11, .pure), (12, .pure), (13, .stable), (14, .pure), (15, .loud), (16, .last), (17, .pure), (18, .pure), (19, .pure), (20, .last)] mixed (by kernel_rfl) ?_
   intro K3 EB
   have qN := Stp.same hO EB
   replace cA := cA.ch qN.ch
   replace cH := cH.ch qN.ch
   replace cI := cI.ch qN.ch
   replace cN := cN.ch qN.ch
   replace dh := dh.ch qN.ch
   replace dq := dq.ch qN.ch
   replace dJ := dJ.ch qN.ch
   replace aj := aj.ch qN.ch
   replace hO := qN.own
   replace c7 := c7.ch qN.ch
   replace hB := hB.trans qN.fr
   refine GoQ.pure rfl (op_move rfl) rfl rfl ?_
   refine GoQ.pure rfl (op_move rfl) rfl rfl ?_
   refine GoQ.pure rfl (op_nilCheck rfl) rfl rfl ?_
   refine GoQ.pure rfl (op_fieldAddr Try.underlying72 rfl ti29 rfl (by decide)) rfl rfl ?_
   refine GoQ.pure rfl (op_fieldAddr Try.underlying29 rfl ti27 rfl (by decide)) rfl rfl ?_
   refine GoQ.stable rfl (oblk (i := 7) 8 hO rfl rfl Try.underlying27 rfl rfl) rfl rfl ?_
   refine GoQ.pure rfl (op_move rfl) rfl rfl ?_
   refine GoQ.pure rfl (op_move rfl) rfl rfl ?_
   refine GoQ.pure rfl (op_nilCheck rfl) rfl rfl ?_
   refine GoQ.pure rfl (op_fieldAddr Try.underlying72 rfl ti70 rfl (by decide)) rfl rfl ?_
   refine GoQ.stable rfl (oblk (i := 10) 8 hO rfl rfl Try.underlying70 rfl rfl) rfl rfl ?_
   refine GoQ.pure rfl (op_move rfl) rfl rfl ?_
   obtain ⟨yN, H⟩ := H
   obtain ⟨yO, H⟩ := H
   refine GoQ.pure rfl (op_index Try.underlying70 ti9 rfl rfl yN (ltn (cN.neq hO 3 rfl) yO) (cN.psome hO 3 rfl yN yO)) rfl rfl ?_
   refine GoQ.stable rfl (oldStr 3 hO rfl cN yN yO Try.underlying9 rfl rfl) rfl rfl ?_
   have hle617 := Els.str_le cN yN yO
   refine GoQ.pure rfl (op_build Try.underlying39 ti39 (pl := [(0, 1), (1, 1)]) (vs := [(0, .string (gstr (chr (IntKind.i32.wrap ((97 : Int) + (k3_548 : Int)))))), (1, .string (gstr (ix d_567 (mgt m3_591 r605))))]) (cs := #[.string (gstr (chr (IntKind.i32.wrap ((97 : Int) + (k3_548 : Int))))), .string (gstr (ix d_567 (mgt m3_591 r605)))]) (by kernel_rfl) rfl (by kernel_rfl)) rfl rfl ?_
   have hobt := obuildN (r := rpRule) (n := 1) (parts := [(0, .agg #[.string (gstr (chr (IntKind.i32.wrap ((97 : Int) + (k3_548 : Int))))), .string (gstr (ix d_567 (mgt m3_591 r605)))])]) (vs := [.string (gstr (chr (IntKind.i32.wrap ((97 : Int) + (k3_548 : Int))))), .string (gstr (ix d_567 (mgt m3_591 r605)))]) (xs := [(⟨chr (IntKind.i32.wrap ((97 : Int) + (k3_548 : Int))), ix d_567 (mgt m3_591 r605)⟩ : Rule)]) Try.underlying27 ti39 hO (by decide) (by decide) (by kernel_rfl) (Els.flat1 (⟨chr (IntKind.i32.wrap ((97 : Int) + (k3_548 : Int))), ix d_567 (mgt m3_591 r605)⟩ : Rule) ⟨(chr_le _), hle617⟩) rfl
   obtain ⟨K4, K5, qO, EC, ED, B1⟩ := hobt
   refine GoQ.loud rfl (B1 rfl) ED rfl rfl ?_
   replace cA := cA.ch qO.ch
   replace cH := cH.ch qO.ch
   replace cI := cI.ch qO.ch
   replace cN := cN.ch qO.ch
   replace dh := dh.ch qO.ch
   replace dq := dq.ch qO.ch
   replace dJ := dJ.ch qO.ch
   replace aj := aj.ch qO.ch
   replace hO := qO.own
   replace c7 := c7.ch qO.ch
   replace hB := hB.trans qO.fr
   have hobt := freeze 0 hO rfl EC
   obtain ⟨hO1, tk, qy, EE⟩ := hobt
   dsimp only [eS, eZ] at hO1 tk qy
   replace c7 := c7.ch tk
   replace cA := cA.ch tk
   replace cH := cH.ch tk
   replace cI := cI.ch tk
   replace cN := cN.ch tk
   replace dh := dh.ch tk
   replace dq := dq.ch tk
   replace dJ := dJ.ch tk
   replace aj := aj.ch tk
   replace hB := hB.trans (Owns.dropFr _ _ 0)
   dsimp only [eS, eZ] at hB
   replace hO := hO1; clear hO1
   obtain ⟨H3, H⟩ := H
   have hobt := oapp Try.underlying27 ti39 rfl 1 hO rfl cH qy EE H3 (by decide)
   obtain ⟨K6, yP, yQ, EF, pM, rK, B3⟩ := hobt
   dsimp only [sS, sZ] at pM rK
   refine GoQ.last rfl (B3 (by exact rfl) (by exact rfl)) rfl rfl ?_
   replace cA := cA.ch pM.ch
   replace cI := cI.ch pM.ch
   replace cN := cN.ch pM.ch
   replace dh := dh.ch pM.ch
   replace dq := dq.ch pM.ch
   replace dJ := dJ.ch pM.ch
   replace aj := aj.ch pM.ch
   replace hO := pM.own
   replace c7 := c7.ch pM.ch
   replace qy := qy.ch pM.ch
   replace hB := hB.trans pM.fr
   refine GoQ.pure rfl (op_nilCheck rfl) rfl rfl ?_
   refine GoQ.pure rfl (op_fieldAddr Try.underlying72 rfl ti29 rfl (by decide)) rfl rfl ?_
   refine GoQ.pure rfl (op_fieldAddr Try.underlying29 rfl ti27 rfl (by decide)) rfl rfl ?_
   have hobt := oblkSt2 (v := .slice yP (i5 + 1) yQ) (i := 7) (cs' := #[.int .i64 ((ix a0 (0 : Int)).length : Int), .bool true, .slice p35 n37 c36, .slice lw ja lx, .slice kQ i9 kS, .slice ko i8 kq, .slice none 0 0, .slice yP (i5 + 1) yQ, .int .i64 (0 : Int), .map (some B4), .slice kg i7 kh, .slice jL i6 jM, .slice kd iN ke]) 8 hO rfl rfl rfl rfl
   obtain ⟨K7, ov, B5⟩ := hobt
   dsimp only [sS, sZ] at ov
   refine GoQ.last rfl (B5 Try.underlying27 rfl ti27 (by exact rfl) (by exact rfl)) rfl rfl ?_
   replace cA := cA.ch ov.ch
   replace rK := rK.ch ov.ch
   replace cI := cI.ch ov.ch
   replace cN := cN.ch ov.ch
   replace dh := dh.ch ov.ch
   replace dq := dq.ch ov.ch
   replace dJ := dJ.ch ov.ch
   replace aj := aj.ch ov.ch
   replace hO := ov.own
   replace c7 := c7.ch ov.ch
   replace qy := qy.ch ov.ch
   replace hB := hB.trans ov.fr
   refine GoQ.nil ?_
   refine Go1.cut [(6, .pointer (some ⟨B10, 0, none⟩)), (9, .int .i64 (0 : Int)), (13, .int .i64 (mgt m3_591 r605)), (85, .slice p35 n37 c36), (86, .int .i64 (d_32.length : Int)), (87, .int .i64 (k3_548 : Int))] ⟨rfl, rfl, rfl, rfl, rfl, rfl, trivial⟩ ?_
   intro σ _
   refine Go1.region ?_
   refine GoR.op ((op_move rfl) _) rfl rfl ?_
   refine GoR.op ((op_move rfl) _) rfl rfl ?_
   refine GoR.op ((op_nilCheck rfl) _) rfl rfl ?_
   refine GoR.op ((op_fieldAddr Try.underlying72 rfl ti26 rfl (by decide)) _) rfl rfl ?_
   refine GoR.op ((oblk (i := 12) 8 hO rfl rfl Try.underlying26 rfl rfl) _ (Same.refl _)) rfl rfl ?_
   refine GoR.op ((op_move rfl) _) rfl rfl ?_
   have hobt := obuild (r := Rp.int .i64) (n := 1) (parts := [(0, .int .i64 (mgt m3_591 r605))]) (vs := [.int .i64 (mgt m3_591 r605)]) (xs := [(mgt m3_591 r605)]) rfl Try.underlying26 ti3 hO (by decide) (by kernel_rfl) (Els.cons rfl rfl (Els.nil _ _ _) (by simp [mx])) rfl
   obtain ⟨K8, K9, pN, EG, JK, B6⟩ := hobt
   refine GoR.op (B6 rfl) rfl rfl ?_
   replace cA := cA.ch pN.ch
   replace rK := rK.ch pN.ch
   replace cI := cI.ch pN.ch
   replace cN := cN.ch pN.ch
   replace dh := dh.ch pN.ch
   replace dq := dq.ch pN.ch
   replace dJ := dJ.ch pN.ch
   replace aj := aj.ch pN.ch
   replace hO := pN.own
   replace c7 := c7.ch pN.ch
   replace qy := qy.ch pN.ch
   replace hB := hB.trans pN.fr
   have hobt := freeze 0 hO rfl EG
   obtain ⟨hO1, sd, vt, EH⟩ := hobt
   dsimp only [eS, eZ] at hO1 sd vt
   replace c7 := c7.ch sd
   replace qy := qy.ch sd
   replace cA := cA.ch sd
   replace rK := rK.ch sd
   replace cI := cI.ch sd
   replace cN := cN.ch sd
   replace dh := dh.ch sd
   replace dq := dq.ch sd
   replace dJ := dJ.ch sd
   replace aj := aj.ch sd
   replace hB := hB.trans (Owns.dropFr _ _ 0)
   dsimp only [eS, eZ] at hB
   replace hO := hO1; clear hO1
   obtain ⟨H4, H⟩ := H
   have hobt := oapp Try.underlying26 ti3 rfl 0 hO rfl cA vt EH H4 (by decide)
   obtain ⟨La, z3, z4, EI, ow, xJ, B7⟩ := hobt
   dsimp only [sS, sZ] at ow xJ
   refine GoR.op (B7 (by exact rfl) (by exact rfl)) rfl rfl ?_
   replace rK := rK.ch ow.ch
   replace cI := cI.ch ow.ch
   replace cN := cN.ch ow.ch
   replace dh := dh.ch ow.ch
   replace dq := dq.ch ow.ch
   replace dJ := dJ.ch ow.ch
   replace aj := aj.ch ow.ch
   replace hO := ow.own
   replace c7 := c7.ch ow.ch
   replace qy := qy.ch ow.ch
   replace vt := vt.ch ow.ch
   replace hB := hB.trans ow.fr
   refine GoR.op ((op_nilCheck rfl) _) rfl rfl ?_
   refine GoR.op ((op_fieldAddr Try.underlying72 rfl ti26 rfl (by decide)) _) rfl rfl ?_
   have hobt := oblkSt2 (v := .slice z3 (iN + 1) z4) (i := 12) (cs' := #[.int .i64 ((ix a0 (0 : Int)).length : Int), .bool true, .slice p35 n37 c36, .slice lw ja lx, .slice kQ i9 kS, .slice ko i8 kq, .slice none 0 0, .slice yP (i5 + 1) yQ, .int .i64 (0 : Int), .map (some B4), .slice kg i7 kh, .slice jL i6 jM, .slice z3 (iN + 1) z4]) 8 hO rfl rfl rfl rfl
   obtain ⟨Lb, nF, B8⟩ := hobt
   dsimp only [sS, sZ] at nF
   refine GoR.op (B8 Try.underlying26 rfl ti26 (by exact rfl) (by exact rfl)) rfl rfl ?_
   replace xJ := xJ.ch nF.ch
   replace rK := rK.ch nF.ch
   replace cI := cI.ch nF.ch
   replace cN := cN.ch nF.ch
   replace dh := dh.ch nF.ch
   replace dq := dq.ch nF.ch
   replace dJ := dJ.ch nF.ch
   replace aj := aj.ch nF.ch
   replace hO := nF.own
   replace c7 := c7.ch nF.ch
   replace qy := qy.ch nF.ch
   replace vt := vt.ch nF.ch
   replace hB := hB.trans nF.fr
   refine GoR.nil ?_
   refine Go1.inBlock ?_
   refine Go1.region ?_
   refine GoR.op ((op_add rfl rfl (wrap_i64 (natbd wZ aj.bd))) _) rfl rfl ?_
   refine GoR.op ((op_move rfl) _) rfl rfl ?_
   refine GoR.nil ?_
   exact hX3 _ H _ _ ⟨iN + 1, z3, z4, EI, i5 + 1, yP, yQ, EF, i6, jL, jM, oZ, i7, kg, kh, o0, i8, ko, kq, o3, i9, kQ, kS, o4, ja, lw, lx, o5, ⟨rfl, rfl, rfl, rfl, rfl, trivial⟩, hO, xJ, rK, cI, cN, dh, dq, dJ, aj, hB⟩
  replace H := ifn yM H
  refine GoQ.stable rfl (olookF (a := r605) (MK.str Try.underlying9) 9 hO rfl Try.underlying69 ti3 rfl rfl yM) rfl rfl ?_
  refine GoQ.pure rfl (op_move rfl) rfl rfl ?_
  refine GoQ.pure rfl (op_extract rfl rfl) rfl rfl ?_
  refine GoQ.pure rfl (op_extract rfl rfl) rfl rfl ?_
  refine GoQ.pure rfl (op_assign rfl) rfl rfl ?_
  refine GoQ.pure rfl (op_assign rfl) rfl rfl ?_
  refine GoQ.nil ?_
  refine Go1.seq ?_
  refine Go1.seq ?_
  refine Go1.region ?_
  refine GoR.op ((op_move rfl) _) rfl rfl ?_
  refine GoR.nil ?_
  refine Go1.condF rfl rfl ?_
  refine Go1.cut [(6, .pointer (some ⟨B10, 0, none⟩)), (9, .int .i64 (0 : Int)), (10, .int .i64 (k3_548 : Int)), (11, .slice BZ ((ix d_32 (k3_548 : Int)).length) B0), (12, .string (gstr (chr (IntKind.i32.wrap ((97 : Int) + (k3_548 : Int)))))), (85, .slice p35 n37 c36), (86, .int .i64 (d_32.length : Int)), (87, .int .i64 (k3_548 : Int))] ⟨rfl, rfl, rfl, rfl, rfl, rfl, rfl, rfl, trivial⟩ ?_
  intro σ _
  refine Go1.region ?_
  refine GoR.op ((op_move rfl) _) rfl rfl ?_
  refine GoR.op ((op_move rfl) _) rfl rfl ?_
  refine GoR.call (op_call body64 rfl (walk_slices_Clone_int hO.lt c7 H)) rfl rfl ?_
  rintro Lc Ld ⟨r662, u3, tA, tB, Jl, rfl, EJ, hN666, tm, H⟩
  have pO := Stp.more hO EJ hN666
  dsimp only [List.cons_append, List.nil_append] at pO
  replace cA := cA.ch pO.ch
  replace cH := cH.ch pO.ch
  replace cI := cI.ch pO.ch
  replace cN := cN.ch pO.ch
  replace dh := dh.ch pO.ch
  replace dq := dq.ch pO.ch
  replace dJ := dJ.ch pO.ch
  replace aj := aj.ch pO.ch
  replace hO := pO.own
  replace c7 := c7.ch pO.ch
  replace hB := hB.trans pO.fr
  replace tm := tm.ch (Ch.assoc _ _ _ _)
  refine GoR.op ((op_move rfl) _) rfl rfl ?_
  refine GoR.op ((op_move rfl) _) rfl rfl ?_
  refine GoR.op ((op_move rfl) _) rfl rfl ?_
  refine GoR.op ((op_move rfl) _) rfl rfl ?_
  refine GoR.inl (vs := [.pointer (some ⟨B10, 0, none⟩), .slice tA u3 tB, .int .i64 (0 : Int), .int .i64 (k3_548 : Int), .string (gstr (chr (IntKind.i32.wrap ((97 : Int) + (k3_548 : Int))))), .int .i64 (0 : Int)]) (caps := []) rfl rfl body65 Try.func65 rfl Try.ntmps65 rfl rfl rfl ?_
  intro RhR670 hR670
  refine Go1.seq ?_
  refine Go1.region ?_
  refine GoR.op ((op_assign rfl) _) rfl rfl ?_
  refine GoR.nil ?_
  refine Go1.seq ?_
  refine Go1.region ?_
  refine GoR.op ((op_move rfl) _) rfl rfl ?_
  refine GoR.op ((op_nilCheck rfl) _) rfl rfl ?_
  refine GoR.op ((op_fieldAddr Try.underlying72 rfl ti29 rfl (by decide)) _) rfl rfl ?_
  refine GoR.op ((op_fieldAddr Try.underlying29 rfl ti22 rfl (by decide)) _) rfl rfl ?_
  refine GoR.op ((oblk (i := 3) 9 hO rfl rfl Try.underlying22 rfl rfl) _ (Same.refl _)) rfl rfl ?_
  refine GoR.op ((op_lenN Try.underlying22 rfl (dJ.neq hO 7 rfl)) _) rfl rfl ?_
  refine GoR.op ((op_assign rfl) _) rfl rfl ?_
  refine GoR.nil ?_
  refine Go1.seq ?_
  refine Go1.drawS 1 [(0, .pure), (1, .pure), (2, .pure), (3, .stable), (4, .pure), (6, .pure), (5, .loud), (7, .last)] mixed (by kernel_rfl) ?_
  intro Le EK
  have pP := Stp.same hO EK
  replace tm := tm.ch pP.ch
  replace cA := cA.ch pP.ch
  replace cH := cH.ch pP.ch
  replace cI := cI.ch pP.ch
  replace cN := cN.ch pP.ch
  replace dh := dh.ch pP.ch
  replace dq := dq.ch pP.ch
  replace dJ := dJ.ch pP.ch
  replace aj := aj.ch pP.ch
  replace hO := pP.own
  replace c7 := c7.ch pP.ch
  replace hB := hB.trans pP.fr
  refine GoQ.pure rfl (op_move rfl) rfl rfl ?_
  refine GoQ.pure rfl (op_nilCheck rfl) rfl rfl ?_
  refine GoQ.pure rfl (op_fieldAddr Try.underlying72 rfl ti69 rfl (by decide)) rfl rfl ?_
  refine GoQ.stable rfl (oblk (i := 9) 9 hO rfl rfl Try.underlying69 rfl rfl) rfl rfl ?_
  refine GoQ.pure rfl (op_move rfl) rfl rfl ?_
  refine GoQ.pure rfl (op_move rfl) rfl rfl ?_
  have hobt := rowlend 0 hO rfl tm
  obtain ⟨EL, EM⟩ := hobt
  have hOc676 := hO.drop 0
  refine GoQ.call rfl (op_call body61 (show ([.slice tA u3 tB] : List Value) = [.slice tA r662.length tB] from by rw [← EM]) (walk_enumerate_text hOc676.lt EL H)) (fun v w hr => by obtain ⟨_, _, hs, _, _⟩ := hr; assumption) rfl rfl ?_
  rintro Lf Lg ⟨r677, rfl, EO, Jm, H⟩
  have pQ := Stp.same hO EO
  replace tm := tm.ch pQ.ch
  replace cA := cA.ch pQ.ch
  replace cH := cH.ch pQ.ch
  replace cI := cI.ch pQ.ch
  replace cN := cN.ch pQ.ch
  replace dh := dh.ch pQ.ch
  replace dq := dq.ch pQ.ch
  replace dJ := dJ.ch pQ.ch
  replace aj := aj.ch pQ.ch
  replace hO := pQ.own
  replace c7 := c7.ch pQ.ch
  replace hB := hB.trans pQ.fr
  have hobt := omapUpd (MK.str Try.underlying9) 10 hO rfl Try.underlying69 r677 (d_585.length : Int)
  obtain ⟨Lh, oA, Ca⟩ := hobt
  dsimp only [sS, sZ] at oA
  refine GoQ.last rfl (Ca (by exact rfl) (by exact rfl) (by exact rfl)) rfl rfl ?_
  replace tm := tm.ch oA.ch
  replace cA := cA.ch oA.ch
  replace cH := cH.ch oA.ch
  replace cI := cI.ch oA.ch
  replace cN := cN.ch oA.ch
  replace dh := dh.ch oA.ch
  replace dq := dq.ch oA.ch
  replace dJ := dJ.ch oA.ch
  replace aj := aj.ch oA.ch
  replace hO := oA.own
  replace c7 := c7.ch oA.ch
  replace hB := hB.trans oA.fr
  refine GoQ.nil ?_
  refine Go1.seq ?_
  refine Go1.cut [(0, .pointer (some ⟨B10, 0, none⟩)), (1, .slice tA u3 tB), (2, .int .i64 (0 : Int)), (3, .int .i64 (k3_548 : Int)), (4, .string (gstr (chr (IntKind.i32.wrap ((97 : Int) + (k3_548 : Int)))))), (5, .int .i64 (0 : Int)), (13, .int .i64 (d_585.length : Int))] ⟨rfl, rfl, rfl, rfl, rfl, rfl, rfl, trivial⟩ ?_
  intro σ _
  refine Go1.region ?_
  refine GoR.op ((op_move rfl) _) rfl rfl ?_
  refine GoR.op ((op_move rfl) _) rfl rfl ?_
  refine GoR.op ((op_nilCheck rfl) _) rfl rfl ?_
  refine GoR.op ((op_fieldAddr Try.underlying72 rfl ti29 rfl (by decide)) _) rfl rfl ?_
  refine GoR.op ((op_fieldAddr Try.underlying29 rfl ti22 rfl (by decide)) _) rfl rfl ?_
  refine GoR.op ((oblk (i := 3) 9 hO rfl rfl Try.underlying22 rfl rfl) _ (Same.refl _)) rfl rfl ?_
  refine GoR.op ((op_move rfl) _) rfl rfl ?_
  have hobt := freeze 0 hO rfl tm
  obtain ⟨hO1, tn, eo, EP⟩ := hobt
  dsimp only [eS, eZ] at hO1 tn eo
  replace c7 := c7.ch tn
  replace cA := cA.ch tn
  replace cH := cH.ch tn
  replace cI := cI.ch tn
  replace cN := cN.ch tn
  replace dh := dh.ch tn
  replace dq := dq.ch tn
  replace dJ := dJ.ch tn
  replace aj := aj.ch tn
  replace hB := hB.trans (Owns.dropFr _ _ 0)
  dsimp only [eS, eZ] at hB
  replace hO := hO1; clear hO1
  have hobt := obuild (r := Rp.sl (Rp.int .i64)) (n := 1) (parts := [(0, .slice tA u3 tB)]) (vs := [.slice tA u3 tB]) (xs := [r662]) rfl Try.underlying22 ti26 hO (by decide) (by kernel_rfl) (Els.cons rfl ⟨tA, tB, congrArg some (congrArg (fun nn => Value.slice tA nn tB) EP), eo⟩ (Els.nil _ _ _) (by simp [mx])) rfl
  obtain ⟨Li, Lj, pS, EQ, JL, Cb⟩ := hobt
  refine GoR.op (Cb rfl) rfl rfl ?_
  replace cA := cA.ch pS.ch
  replace cH := cH.ch pS.ch
  replace cI := cI.ch pS.ch
  replace cN := cN.ch pS.ch
  replace dh := dh.ch pS.ch
  replace dq := dq.ch pS.ch
  replace dJ := dJ.ch pS.ch
  replace aj := aj.ch pS.ch
  replace hO := pS.own
  replace c7 := c7.ch pS.ch
  replace eo := eo.ch pS.ch
  replace hB := hB.trans pS.fr
  have hobt := freeze 0 hO rfl EQ
  obtain ⟨hO1, se, eO, ER⟩ := hobt
  dsimp only [eS, eZ] at hO1 se eO
  replace c7 := c7.ch se
  replace eo := eo.ch se
  replace cA := cA.ch se
  replace cH := cH.ch se
  replace cI := cI.ch se
  replace cN := cN.ch se
  replace dh := dh.ch se
  replace dq := dq.ch se
  replace dJ := dJ.ch se
  replace aj := aj.ch se
  replace hB := hB.trans (Owns.dropFr _ _ 0)
  dsimp only [eS, eZ] at hB
  replace hO := hO1; clear hO1
  obtain ⟨H5, H⟩ := H
  have hobt := oapp Try.underlying22 ti26 rfl 6 hO rfl dJ eO ER H5 (by decide)
  obtain ⟨Lk, u4, u5, ES, oB, eY, Cc⟩ := hobt
  dsimp only [sS, sZ] at oB eY
  refine GoR.op (Cc (by exact rfl) (by exact rfl)) rfl rfl ?_
  replace cA := cA.ch oB.ch
  replace cH := cH.ch oB.ch
  replace cI := cI.ch oB.ch
  replace cN := cN.ch oB.ch
  replace dh := dh.ch oB.ch
  replace dq := dq.ch oB.ch
  replace aj := aj.ch oB.ch
  replace hO := oB.own
  replace c7 := c7.ch oB.ch
  replace eo := eo.ch oB.ch
  replace eO := eO.ch oB.ch
  replace hB := hB.trans oB.fr
  refine GoR.op ((op_nilCheck rfl) _) rfl rfl ?_
  refine GoR.op ((op_fieldAddr Try.underlying72 rfl ti29 rfl (by decide)) _) rfl rfl ?_
  refine GoR.op ((op_fieldAddr Try.underlying29 rfl ti22 rfl (by decide)) _) rfl rfl ?_
  have hobt := oblkSt2 (v := .slice u4 (ja + 1) u5) (i := 3) (cs' := #[.int .i64 ((ix a0 (0 : Int)).length : Int), .bool true, .slice p35 n37 c36, .slice u4 (ja + 1) u5, .slice kQ i9 kS, .slice ko i8 kq, .slice none 0 0, .slice jJ i5 jK, .int .i64 (0 : Int), .map (some B4), .slice kg i7 kh, .slice jL i6 jM, .slice kd iN ke]) 8 hO rfl rfl rfl rfl
  obtain ⟨Ll, nG, Cd⟩ := hobt
  dsimp only [sS, sZ] at nG
  refine GoR.op (Cd Try.underlying22 rfl ti22 (by exact rfl) (by exact rfl)) rfl rfl ?_
  replace cA := cA.ch nG.ch
  replace cH := cH.ch nG.ch
  replace cI := cI.ch nG.ch
  replace cN := cN.ch nG.ch
  replace dh := dh.ch nG.ch
  replace dq := dq.ch nG.ch
  replace eY := eY.ch nG.ch
  replace aj := aj.ch nG.ch
  replace hO := nG.own
  replace c7 := c7.ch nG.ch
  replace eo := eo.ch nG.ch
  replace eO := eO.ch nG.ch
  replace hB := hB.trans nG.fr
  refine GoR.nil ?_
  refine Go1.seq ?_
  refine Go1.region ?_
  refine GoR.op ((op_move rfl) _) rfl rfl ?_
  refine GoR.op ((op_move rfl) _) rfl rfl ?_
  refine GoR.op ((op_nilCheck rfl) _) rfl rfl ?_
  refine GoR.op ((op_fieldAddr Try.underlying72 rfl ti29 rfl (by decide)) _) rfl rfl ?_
  refine GoR.op ((op_fieldAddr Try.underlying29 rfl ti26 rfl (by decide)) _) rfl rfl ?_
  refine GoR.op ((oblk (i := 4) 8 hO rfl rfl Try.underlying26 rfl rfl) _ (Same.refl _)) rfl rfl ?_
  refine GoR.op ((op_move rfl) _) rfl rfl ?_
  have hobt := obuild (r := Rp.int .i64) (n := 1) (parts := [(0, .int .i64 (0 : Int))]) (vs := [.int .i64 (0 : Int)]) (xs := [(0 : Int)]) rfl Try.underlying26 ti3 hO (by decide) (by kernel_rfl) (Els.cons rfl rfl (Els.nil _ _ _) (by simp [mx])) rfl
  obtain ⟨Lm, Ln, oC, ET, JM, Ce⟩ := hobt
  refine GoR.op (Ce rfl) rfl rfl ?_
  replace cA := cA.ch oC.ch
  replace cH := cH.ch oC.ch
  replace cI := cI.ch oC.ch
  replace cN := cN.ch oC.ch
  replace dh := dh.ch oC.ch
  replace dq := dq.ch oC.ch
  replace eY := eY.ch oC.ch
  replace aj := aj.ch oC.ch
  replace hO := oC.own
  replace c7 := c7.ch oC.ch
  replace eo := eo.ch oC.ch
  replace eO := eO.ch oC.ch
  replace hB := hB.trans oC.fr
  have hobt := freeze 0 hO rfl ET
  obtain ⟨hO1, rL, fV, EU⟩ := hobt
  dsimp only [eS, eZ] at hO1 rL fV
  replace c7 := c7.ch rL
  replace eo := eo.ch rL
  replace eO := eO.ch rL
  replace cA := cA.ch rL
  replace cH := cH.ch rL
  replace cI := cI.ch rL
  replace cN := cN.ch rL
  replace dh := dh.ch rL
  replace dq := dq.ch rL
  replace eY := eY.ch rL
  replace aj := aj.ch rL
  replace hB := hB.trans (Owns.dropFr _ _ 0)
  dsimp only [eS, eZ] at hB
  replace hO := hO1; clear hO1
  obtain ⟨H6, H⟩ := H
  have hobt := oapp Try.underlying26 ti3 rfl 5 hO rfl dq fV EU H6 (by decide)
  obtain ⟨Lo, vZ, v3, EV, nH, f8, Cf⟩ := hobt
  dsimp only [sS, sZ] at nH f8
  refine GoR.op (Cf (by exact rfl) (by exact rfl)) rfl rfl ?_
  replace cA := cA.ch nH.ch
  replace cH := cH.ch nH.ch
  replace cI := cI.ch nH.ch
  replace cN := cN.ch nH.ch
  replace dh := dh.ch nH.ch
  replace eY := eY.ch nH.ch
  replace aj := aj.ch nH.ch
  replace hO := nH.own
  replace c7 := c7.ch nH.ch
  replace eo := eo.ch nH.ch
  replace eO := eO.ch nH.ch
  replace fV := fV.ch nH.ch
  replace hB := hB.trans nH.fr
  refine GoR.op ((op_nilCheck rfl) _) rfl rfl ?_
  refine GoR.op ((op_fieldAddr Try.underlying72 rfl ti29 rfl (by decide)) _) rfl rfl ?_
  refine GoR.op ((op_fieldAddr Try.underlying29 rfl ti26 rfl (by decide)) _) rfl rfl ?_
  have hobt := oblkSt2 (v := .slice vZ (i9 + 1) v3) (i := 4) (cs' := #[.int .i64 ((ix a0 (0 : Int)).length : Int), .bool true, .slice p35 n37 c36, .slice u4 (ja + 1) u5, .slice vZ (i9 + 1) v3, .slice ko i8 kq, .slice none 0 0, .slice jJ i5 jK, .int .i64 (0 : Int), .map (some B4), .slice kg i7 kh, .slice jL i6 jM, .slice kd iN ke]) 8 hO rfl rfl rfl rfl
  obtain ⟨Lp, m9, Cg⟩ := hobt
  dsimp only [sS, sZ] at m9
  refine GoR.op (Cg Try.underlying26 rfl ti26 (by exact rfl) (by exact rfl)) rfl rfl ?_
  replace cA := cA.ch m9.ch
  replace cH := cH.ch m9.ch
  replace cI := cI.ch m9.ch
  replace cN := cN.ch m9.ch
  replace dh := dh.ch m9.ch
  replace f8 := f8.ch m9.ch
  replace eY := eY.ch m9.ch
  replace aj := aj.ch m9.ch
  replace hO := m9.own
  replace c7 := c7.ch m9.ch
  replace eo := eo.ch m9.ch
  replace eO := eO.ch m9.ch
  replace fV := fV.ch m9.ch
  replace hB := hB.trans m9.fr
  refine GoR.nil ?_
  refine Go1.seq ?_
  refine Go1.cut [(0, .pointer (some ⟨B10, 0, none⟩)), (3, .int .i64 (k3_548 : Int)), (4, .string (gstr (chr (IntKind.i32.wrap ((97 : Int) + (k3_548 : Int)))))), (5, .int .i64 (0 : Int)), (13, .int .i64 (d_585.length : Int))] ⟨rfl, rfl, rfl, rfl, rfl, trivial⟩ ?_
  intro σ _
  refine Go1.region ?_
  refine GoR.op ((op_move rfl) _) rfl rfl ?_
  refine GoR.op ((op_move rfl) _) rfl rfl ?_
  refine GoR.op ((op_nilCheck rfl) _) rfl rfl ?_
  refine GoR.op ((op_fieldAddr Try.underlying72 rfl ti29 rfl (by decide)) _) rfl rfl ?_
  refine GoR.op ((op_fieldAddr Try.underlying29 rfl ti26 rfl (by decide)) _) rfl rfl ?_
  refine GoR.op ((oblk (i := 5) 8 hO rfl rfl Try.underlying26 rfl rfl) _ (Same.refl _)) rfl rfl ?_
  refine GoR.op ((op_move rfl) _) rfl rfl ?_
  have hobt := obuild (r := Rp.int .i64) (n := 1) (parts := [(0, .int .i64 (k3_548 : Int))]) (vs := [.int .i64 (k3_548 : Int)]) (xs := [(k3_548 : Int)]) rfl Try.underlying26 ti3 hO (by decide) (by kernel_rfl) (Els.cons rfl rfl (Els.nil _ _ _) (by simp [mx])) rfl
  obtain ⟨Lr, Ls, nI, EW, JN, Ci⟩ := hobt
  refine GoR.op (Ci rfl) rfl rfl ?_
  replace cA := cA.ch nI.ch
  replace cH := cH.ch nI.ch
  replace cI := cI.ch nI.ch
  replace cN := cN.ch nI.ch
  replace dh := dh.ch nI.ch
  replace f8 := f8.ch nI.ch
  replace eY := eY.ch nI.ch
  replace aj := aj.ch nI.ch
  replace hO := nI.own
  replace c7 := c7.ch nI.ch
  replace eo := eo.ch nI.ch
  replace eO := eO.ch nI.ch
  replace fV := fV.ch nI.ch
  replace hB := hB.trans nI.fr
  have hobt := freeze 0 hO rfl EW
  obtain ⟨hO1, qZ, iI, EX⟩ := hobt
  dsimp only [eS, eZ] at hO1 qZ iI
  replace c7 := c7.ch qZ
  replace eo := eo.ch qZ
  replace eO := eO.ch qZ
  replace fV := fV.ch qZ
  replace cA := cA.ch qZ
  replace cH := cH.ch qZ
  replace cI := cI.ch qZ
  replace cN := cN.ch qZ
  replace dh := dh.ch qZ
  replace f8 := f8.ch qZ
  replace eY := eY.ch qZ
  replace aj := aj.ch qZ
  replace hB := hB.trans (Owns.dropFr _ _ 0)
  dsimp only [eS, eZ] at hB
  replace hO := hO1; clear hO1
  obtain ⟨H7, H⟩ := H
  have hobt := oapp Try.underlying26 ti3 rfl 4 hO rfl dh iI EX H7 (by decide)
  obtain ⟨Lt, w7, xa, EY, na, iR, Cj⟩ := hobt
  dsimp only [sS, sZ] at na iR
  refine GoR.op (Cj (by exact rfl) (by exact rfl)) rfl rfl ?_
  replace cA := cA.ch na.ch
  replace cH := cH.ch na.ch
  replace cI := cI.ch na.ch
  replace cN := cN.ch na.ch
  replace f8 := f8.ch na.ch
  replace eY := eY.ch na.ch
  replace aj := aj.ch na.ch
  replace hO := na.own
  replace c7 := c7.ch na.ch
  replace eo := eo.ch na.ch
  replace eO := eO.ch na.ch
  replace fV := fV.ch na.ch
  replace iI := iI.ch na.ch
  replace hB := hB.trans na.fr
  refine GoR.op ((op_nilCheck rfl) _) rfl rfl ?_
  refine GoR.op ((op_fieldAddr Try.underlying72 rfl ti29 rfl (by decide)) _) rfl rfl ?_
  refine GoR.op ((op_fieldAddr Try.underlying29 rfl ti26 rfl (by decide)) _) rfl rfl ?_
  have hobt := oblkSt2 (v := .slice w7 (i8 + 1) xa) (i := 5) (cs' := #[.int .i64 ((ix a0 (0 : Int)).length : Int), .bool true, .slice p35 n37 c36, .slice u4 (ja + 1) u5, .slice vZ (i9 + 1) v3, .slice w7 (i8 + 1) xa, .slice none 0 0, .slice jJ i5 jK, .int .i64 (0 : Int), .map (some B4), .slice kg i7 kh, .slice jL i6 jM, .slice kd iN ke]) 8 hO rfl rfl rfl rfl
  obtain ⟨Lu, mB, Ck⟩ := hobt
  dsimp only [sS, sZ] at mB
  refine GoR.op (Ck Try.underlying26 rfl ti26 (by exact rfl) (by exact rfl)) rfl rfl ?_
  replace cA := cA.ch mB.ch
  replace cH := cH.ch mB.ch
  replace cI := cI.ch mB.ch
  replace cN := cN.ch mB.ch
  replace iR := iR.ch mB.ch
  replace f8 := f8.ch mB.ch
  replace eY := eY.ch mB.ch
  replace aj := aj.ch mB.ch
  replace hO := mB.own
  replace c7 := c7.ch mB.ch
  replace eo := eo.ch mB.ch
  replace eO := eO.ch mB.ch
  replace fV := fV.ch mB.ch
  replace iI := iI.ch mB.ch
  replace hB := hB.trans mB.fr
  refine GoR.nil ?_
  refine Go1.seq ?_
  refine Go1.region ?_
  refine GoR.op ((op_move rfl) _) rfl rfl ?_
  refine GoR.op ((op_move rfl) _) rfl rfl ?_
  refine GoR.op ((op_nilCheck rfl) _) rfl rfl ?_
  refine GoR.op ((op_fieldAddr Try.underlying72 rfl ti70 rfl (by decide)) _) rfl rfl ?_
  refine GoR.op ((oblk (i := 10) 8 hO rfl rfl Try.underlying70 rfl rfl) _ (Same.refl _)) rfl rfl ?_
  refine GoR.op ((op_move rfl) _) rfl rfl ?_
  have hobt := obuild (r := Rp.str) (n := 1) (parts := [(0, .string (gstr (chr (IntKind.i32.wrap ((97 : Int) + (k3_548 : Int))))))]) (vs := [.string (gstr (chr (IntKind.i32.wrap ((97 : Int) + (k3_548 : Int)))))]) (xs := [chr (IntKind.i32.wrap ((97 : Int) + (k3_548 : Int)))]) rfl Try.underlying70 ti9 hO (by decide) (by kernel_rfl) (Els.cons rfl ⟨rfl, (chr_le _)⟩ (Els.nil _ _ _) (by simp [mx])) rfl
  obtain ⟨Lv, Lw, nb, EZ, JO, Cl⟩ := hobt
  refine GoR.op (Cl rfl) rfl rfl ?_
  replace cA := cA.ch nb.ch
  replace cH := cH.ch nb.ch
  replace cI := cI.ch nb.ch
  replace cN := cN.ch nb.ch
  replace iR := iR.ch nb.ch
  replace f8 := f8.ch nb.ch
  replace eY := eY.ch nb.ch
  replace aj := aj.ch nb.ch
  replace hO := nb.own
  replace c7 := c7.ch nb.ch
  replace eo := eo.ch nb.ch
  replace eO := eO.ch nb.ch
  replace fV := fV.ch nb.ch
  replace iI := iI.ch nb.ch
  replace hB := hB.trans nb.fr
  have hobt := freeze 0 hO rfl EZ
  obtain ⟨hO1, qz, kV, E0⟩ := hobt
  dsimp only [eS, eZ] at hO1 qz kV
  replace c7 := c7.ch qz
  replace eo := eo.ch qz
  replace eO := eO.ch qz
  replace fV := fV.ch qz
  replace iI := iI.ch qz
  replace cA := cA.ch qz
  replace cH := cH.ch qz
  replace cI := cI.ch qz
  replace cN := cN.ch qz
  replace iR := iR.ch qz
  replace f8 := f8.ch qz
  replace eY := eY.ch qz
  replace aj := aj.ch qz
  replace hB := hB.trans (Owns.dropFr _ _ 0)
  dsimp only [eS, eZ] at hB
  replace hO := hO1; clear hO1
  obtain ⟨H8, H⟩ := H
  have hobt := oapp Try.underlying70 ti9 rfl 3 hO rfl cN kV E0 H8 (by decide)
  obtain ⟨Lx, x2, x3, E3, mC, ms, Cm⟩ := hobt
  dsimp only [sS, sZ] at mC ms
  refine GoR.op (Cm (by exact rfl) (by exact rfl)) rfl rfl ?_
  replace cA := cA.ch mC.ch
  replace cH := cH.ch mC.ch
  replace cI := cI.ch mC.ch
  replace iR := iR.ch mC.ch
  replace f8 := f8.ch mC.ch
  replace eY := eY.ch mC.ch
  replace aj := aj.ch mC.ch
  replace hO := mC.own
  replace c7 := c7.ch mC.ch
  replace eo := eo.ch mC.ch
  replace eO := eO.ch mC.ch
  replace fV := fV.ch mC.ch
  replace iI := iI.ch mC.ch
  replace kV := kV.ch mC.ch
  replace hB := hB.trans mC.fr
  refine GoR.op ((op_nilCheck rfl) _) rfl rfl ?_
  refine GoR.op ((op_fieldAddr Try.underlying72 rfl ti70 rfl (by decide)) _) rfl rfl ?_
  have hobt := oblkSt2 (v := .slice x2 (i7 + 1) x3) (i := 10) (cs' := #[.int .i64 ((ix a0 (0 : Int)).length : Int), .bool true, .slice p35 n37 c36, .slice u4 (ja + 1) u5, .slice vZ (i9 + 1) v3, .slice w7 (i8 + 1) xa, .slice none 0 0, .slice jJ i5 jK, .int .i64 (0 : Int), .map (some B4), .slice x2 (i7 + 1) x3, .slice jL i6 jM, .slice kd iN ke]) 8 hO rfl rfl rfl rfl
  obtain ⟨Ly, lE, Cn⟩ := hobt
  dsimp only [sS, sZ] at lE
  refine GoR.op (Cn Try.underlying70 rfl ti70 (by exact rfl) (by exact rfl)) rfl rfl ?_
  replace cA := cA.ch lE.ch
  replace cH := cH.ch lE.ch
  replace cI := cI.ch lE.ch
  replace ms := ms.ch lE.ch
  replace iR := iR.ch lE.ch
  replace f8 := f8.ch lE.ch
  replace eY := eY.ch lE.ch
  replace aj := aj.ch lE.ch
  replace hO := lE.own
  replace c7 := c7.ch lE.ch
  replace eo := eo.ch lE.ch
  replace eO := eO.ch lE.ch
  replace fV := fV.ch lE.ch
  replace iI := iI.ch lE.ch
  replace kV := kV.ch lE.ch
  replace hB := hB.trans lE.fr
  refine GoR.nil ?_
  refine Go1.seq ?_
  refine Go1.cut [(0, .pointer (some ⟨B10, 0, none⟩)), (5, .int .i64 (0 : Int)), (13, .int .i64 (d_585.length : Int))] ⟨rfl, rfl, rfl, trivial⟩ ?_
  intro σ _
  refine Go1.region ?_
  refine GoR.op ((op_move rfl) _) rfl rfl ?_
  refine GoR.op ((op_move rfl) _) rfl rfl ?_
  refine GoR.op ((op_nilCheck rfl) _) rfl rfl ?_
  refine GoR.op ((op_fieldAddr Try.underlying72 rfl ti26 rfl (by decide)) _) rfl rfl ?_
  refine GoR.op ((oblk (i := 11) 8 hO rfl rfl Try.underlying26 rfl rfl) _ (Same.refl _)) rfl rfl ?_
  refine GoR.op ((op_move rfl) _) rfl rfl ?_
  have hobt := obuild (r := Rp.int .i64) (n := 1) (parts := [(0, .int .i64 (0 : Int))]) (vs := [.int .i64 (0 : Int)]) (xs := [(0 : Int)]) rfl Try.underlying26 ti3 hO (by decide) (by kernel_rfl) (Els.cons rfl rfl (Els.nil _ _ _) (by simp [mx])) rfl
  obtain ⟨Lz, LA, mD, E4, JP, Co⟩ := hobt
  refine GoR.op (Co rfl) rfl rfl ?_
  replace cA := cA.ch mD.ch
  replace cH := cH.ch mD.ch
  replace cI := cI.ch mD.ch
  replace ms := ms.ch mD.ch
  replace iR := iR.ch mD.ch
  replace f8 := f8.ch mD.ch
  replace eY := eY.ch mD.ch
  replace aj := aj.ch mD.ch
  replace hO := mD.own
  replace c7 := c7.ch mD.ch
  replace eo := eo.ch mD.ch
  replace eO := eO.ch mD.ch
  replace fV := fV.ch mD.ch
  replace iI := iI.ch mD.ch
  replace kV := kV.ch mD.ch
  replace hB := hB.trans mD.fr
  have hobt := freeze 0 hO rfl E4
  obtain ⟨hO1, o6, qA, E5⟩ := hobt
  dsimp only [eS, eZ] at hO1 o6 qA
  replace c7 := c7.ch o6
  replace eo := eo.ch o6
  replace eO := eO.ch o6
  replace fV := fV.ch o6
  replace iI := iI.ch o6
  replace kV := kV.ch o6
  replace cA := cA.ch o6
  replace cH := cH.ch o6
  replace cI := cI.ch o6
  replace ms := ms.ch o6
  replace iR := iR.ch o6
  replace f8 := f8.ch o6
  replace eY := eY.ch o6
  replace aj := aj.ch o6
  replace hB := hB.trans (Owns.dropFr _ _ 0)
  dsimp only [eS, eZ] at hB
  replace hO := hO1; clear hO1
  obtain ⟨H9, H⟩ := H
  have hobt := oapp Try.underlying26 ti3 rfl 2 hO rfl cI qA E5 H9 (by decide)
  obtain ⟨LB, yR, yS, E6, lF, rM, Cp⟩ := hobt
  dsimp only [sS, sZ] at lF rM
  refine GoR.op (Cp (by exact rfl) (by exact rfl)) rfl rfl ?_
  replace cA := cA.ch lF.ch
  replace cH := cH.ch lF.ch
  replace ms := ms.ch lF.ch
  replace iR := iR.ch lF.ch
  replace f8 := f8.ch lF.ch
  replace eY := eY.ch lF.ch
  replace aj := aj.ch lF.ch
  replace hO := lF.own
  replace c7 := c7.ch lF.ch
  replace eo := eo.ch lF.ch
  replace eO := eO.ch lF.ch
  replace fV := fV.ch lF.ch
  replace iI := iI.ch lF.ch
  replace kV := kV.ch lF.ch
  replace qA := qA.ch lF.ch
  replace hB := hB.trans lF.fr
  refine GoR.op ((op_nilCheck rfl) _) rfl rfl ?_
  refine GoR.op ((op_fieldAddr Try.underlying72 rfl ti26 rfl (by decide)) _) rfl rfl ?_
  have hobt := oblkSt2 (v := .slice yR (i6 + 1) yS) (i := 11) (cs' := #[.int .i64 ((ix a0 (0 : Int)).length : Int), .bool true, .slice p35 n37 c36, .slice u4 (ja + 1) u5, .slice vZ (i9 + 1) v3, .slice w7 (i8 + 1) xa, .slice none 0 0, .slice jJ i5 jK, .int .i64 (0 : Int), .map (some B4), .slice x2 (i7 + 1) x3, .slice yR (i6 + 1) yS, .slice kd iN ke]) 8 hO rfl rfl rfl rfl
  obtain ⟨LD, k9, Cq⟩ := hobt
  dsimp only [sS, sZ] at k9
  refine GoR.op (Cq Try.underlying26 rfl ti26 (by exact rfl) (by exact rfl)) rfl rfl ?_
  replace cA := cA.ch k9.ch
  replace cH := cH.ch k9.ch
  replace rM := rM.ch k9.ch
  replace ms := ms.ch k9.ch
  replace iR := iR.ch k9.ch
  replace f8 := f8.ch k9.ch
  replace eY := eY.ch k9.ch
  replace aj := aj.ch k9.ch
  replace hO := k9.own
  replace c7 := c7.ch k9.ch
  replace eo := eo.ch k9.ch
  replace eO := eO.ch k9.ch
  replace fV := fV.ch k9.ch
  replace iI := iI.ch k9.ch
  replace kV := kV.ch k9.ch
  replace qA := qA.ch k9.ch
  replace hB := hB.trans k9.fr
  refine GoR.nil ?_
  refine Go1.seq ?_
  refine Go1.region ?_
  refine GoR.op ((op_move rfl) _) rfl rfl ?_
  refine GoR.op ((op_assign rfl) _) rfl rfl ?_
  refine GoR.nil ?_
  refine Go1.ret1V Try.func65 rfl (show _ = .int .i64 (d_585.length : Int) from rfl) ?_
  refine hR670 _ _ ?_
  refine GoR.op ((op_assign rfl) _) rfl rfl ?_
  refine GoR.nil ?_
  refine Go1.region ?_
  refine GoR.op ((op_move rfl) _) rfl rfl ?_
  refine GoR.op ((op_move rfl) _) rfl rfl ?_
  refine GoR.op ((op_nilCheck rfl) _) rfl rfl ?_
  refine GoR.op ((op_fieldAddr Try.underlying72 rfl ti26 rfl (by decide)) _) rfl rfl ?_
  refine GoR.op ((oblk (i := 12) 8 hO rfl rfl Try.underlying26 rfl rfl) _ (Same.refl _)) rfl rfl ?_
  refine GoR.op ((op_move rfl) _) rfl rfl ?_
  have hobt := obuild (r := Rp.int .i64) (n := 1) (parts := [(0, .int .i64 (d_585.length : Int))]) (vs := [.int .i64 (d_585.length : Int)]) (xs := [(d_585.length : Int)]) rfl Try.underlying26 ti3 hO (by decide) (by kernel_rfl) (Els.cons rfl rfl (Els.nil _ _ _) (by simp [mx])) rfl
  obtain ⟨LE, LF, lG, E7, JQ, Cr⟩ := hobt
  refine GoR.op (Cr rfl) rfl rfl ?_
  replace cA := cA.ch lG.ch
  replace cH := cH.ch lG.ch
  replace rM := rM.ch lG.ch
  replace ms := ms.ch lG.ch
  replace iR := iR.ch lG.ch
  replace f8 := f8.ch lG.ch
  replace eY := eY.ch lG.ch
  replace aj := aj.ch lG.ch
  replace hO := lG.own
  replace c7 := c7.ch lG.ch
  replace eo := eo.ch lG.ch
  replace eO := eO.ch lG.ch
  replace fV := fV.ch lG.ch
  replace iI := iI.ch lG.ch
  replace kV := kV.ch lG.ch
  replace qA := qA.ch lG.ch
  replace hB := hB.trans lG.fr
  have hobt := freeze 0 hO rfl E7
  obtain ⟨hO1, nZ, vu, E8⟩ := hobt
  dsimp only [eS, eZ] at hO1 nZ vu
  replace c7 := c7.ch nZ
  replace eo := eo.ch nZ
  replace eO := eO.ch nZ
  replace fV := fV.ch nZ
  replace iI := iI.ch nZ
  replace kV := kV.ch nZ
  replace qA := qA.ch nZ
  replace cA := cA.ch nZ
  replace cH := cH.ch nZ
  replace rM := rM.ch nZ
  replace ms := ms.ch nZ
  replace iR := iR.ch nZ
  replace f8 := f8.ch nZ
  replace eY := eY.ch nZ
  replace aj := aj.ch nZ
  replace hB := hB.trans (Owns.dropFr _ _ 0)
  dsimp only [eS, eZ] at hB
  replace hO := hO1; clear hO1
  obtain ⟨Ia, H⟩ := H
  have hobt := oapp Try.underlying26 ti3 rfl 0 hO rfl cA vu E8 Ia (by decide)
  obtain ⟨LG, z5, z6, E9, la, xK, Cs⟩ := hobt
  dsimp only [sS, sZ] at la xK
  refine GoR.op (Cs (by exact rfl) (by exact rfl)) rfl rfl ?_
  replace cH := cH.ch la.ch
  replace rM := rM.ch la.ch
  replace ms := ms.ch la.ch
  replace iR := iR.ch la.ch
  replace f8 := f8.ch la.ch
  replace eY := eY.ch la.ch
  replace aj := aj.ch la.ch
  replace hO := la.own
  replace c7 := c7.ch la.ch
  replace eo := eo.ch la.ch
  replace eO := eO.ch la.ch
  replace fV := fV.ch la.ch
  replace iI := iI.ch la.ch
  replace kV := kV.ch la.ch
  replace qA := qA.ch la.ch
  replace vu := vu.ch la.ch
  replace hB := hB.trans la.fr
  refine GoR.op ((op_nilCheck rfl) _) rfl rfl ?_
  refine GoR.op ((op_fieldAddr Try.underlying72 rfl ti26 rfl (by decide)) _) rfl rfl ?_
  have hobt := oblkSt2 (v := .slice z5 (iN + 1) z6) (i := 12) (cs' := #[.int .i64 ((ix a0 (0 : Int)).length : Int), .bool true, .slice p35 n37 c36, .slice u4 (ja + 1) u5, .slice vZ (i9 + 1) v3, .slice w7 (i8 + 1) xa, .slice none 0 0, .slice jJ i5 jK, .int .i64 (0 : Int), .map (some B4), .slice x2 (i7 + 1) x3, .slice yR (i6 + 1) yS, .slice z5 (iN + 1) z6]) 8 hO rfl rfl rfl rfl
  obtain ⟨LH, kr, Ct⟩ := hobt
  dsimp only [sS, sZ] at kr
  refine GoR.op (Ct Try.underlying26 rfl ti26 (by exact rfl) (by exact rfl)) rfl rfl ?_
  replace xK := xK.ch kr.ch
  replace cH := cH.ch kr.ch
  replace rM := rM.ch kr.ch
  replace ms := ms.ch kr.ch
  replace iR := iR.ch kr.ch
  replace f8 := f8.ch kr.ch
  replace eY := eY.ch kr.ch
  replace aj := aj.ch kr.ch
  replace hO := kr.own
  replace c7 := c7.ch kr.ch
  replace eo := eo.ch kr.ch
  replace eO := eO.ch kr.ch
  replace fV := fV.ch kr.ch
  replace iI := iI.ch kr.ch
  replace kV := kV.ch kr.ch
  replace qA := qA.ch kr.ch
  replace vu := vu.ch kr.ch
  replace hB := hB.trans kr.fr
  refine GoR.nil ?_
  refine Go1.inBlock ?_
  refine Go1.cut [(6, .pointer (some ⟨B10, 0, none⟩)), (9, .int .i64 (0 : Int)), (85, .slice p35 n37 c36), (86, .int .i64 (d_32.length : Int)), (87, .int .i64 (k3_548 : Int))] ⟨rfl, rfl, rfl, rfl, rfl, trivial⟩ ?_
  intro σ _
  refine Go1.region ?_
  refine GoR.op ((op_add rfl rfl (wrap_i64 (natbd wZ aj.bd))) _) rfl rfl ?_
  refine GoR.op ((op_move rfl) _) rfl rfl ?_
  refine GoR.nil ?_
  exact hX3 _ H _ _ ⟨iN + 1, z5, z6, E9, i5, jJ, jK, oY, i6 + 1, yR, yS, E6, i7 + 1, x2, x3, E3, i8 + 1, w7, xa, EY, i9 + 1, vZ, v3, EV, ja + 1, u4, u5, ES, ⟨rfl, rfl, rfl, rfl, rfl, trivial⟩, hO, xK, cH, rM, ms, iR, f8, eY, aj, hB⟩
 replace H := ifn wZ H
 refine GoR.op ((fun w => opB (op_lss rfl rfl w) (decide_eq_false wZ)) _) rfl rfl ?_
 refine GoR.nil ?_
 refine Go1.seq ?_
 refine Go1.condF rfl rfl ?_
 refine Go1.exit rfl ?_
 refine Go1.seq ?_
 refine Go1.region ?_
 refine GoR.op ((op_move rfl) _) rfl rfl ?_
 refine GoR.op ((op_assign rfl) _) rfl rfl ?_
 refine GoR.op ((op_assign rfl) _) rfl rfl ?_
 refine GoR.nil ?_
 have ry := Stp.nil (e := 26) (r := 1) hO
 replace cA := cA.ch ry.ch
 replace cH := cH.ch ry.ch
 replace cI := cI.ch ry.ch
 replace cN := cN.ch ry.ch
 replace dh := dh.ch ry.ch
 replace dq := dq.ch ry.ch
 replace dJ := dJ.ch ry.ch
 replace aj := aj.ch ry.ch
 replace hO := ry.own
 replace hB := hB.trans ry.fr
 have ks := Els.nil (Rp.sl (Rp.int .i64)) (bl (.row 26 1 none 0 0 [] :: [.row 3 1 kd iN ke qx, .row 39 2 jJ i5 jK oY, .row 3 1 jL i6 jM oZ, .row 9 1 kg i7 kh o0, .row 3 1 ko i8 kq o3, .row 3 1 kQ i9 kS o4, .row 26 1 lw ja lx o5, .row 26 1 p35 n37 c36 f0, .blk B10 (.cells #[.int .i64 ((ix a0 (0 : Int)).length : Int), .bool true, .slice p35 n37 c36, .slice lw ja lx, .slice kQ i9 kS, .slice ko i8 kq, .slice none 0 0, .slice jJ i5 jK, .int .i64 (0 : Int), .map (some B4), .slice kg i7 kh, .slice jL i6 jM, .slice kd iN ke] 72 (0, 0)), .any (mapE (fun a : List UInt8 => Value.string (gstr a)) (fun a : Int => Value.int .i64 a) B4 m3_591)]) ++ A) HZ
 have pT := Stp.front 10 hO rfl
 dsimp only [eS, eZ] at pT
 replace ks := ks.ch pT.ch
 replace cA := cA.ch pT.ch
 replace cH := cH.ch pT.ch
 replace cI := cI.ch pT.ch
 replace cN := cN.ch pT.ch
 replace dh := dh.ch pT.ch
 replace dq := dq.ch pT.ch
 replace dJ := dJ.ch pT.ch
 replace aj := aj.ch pT.ch
 replace hO := pT.own
 replace hB := hB.trans pT.fr
 have pU := Stp.front 2 hO rfl
 dsimp only [eS, eZ] at pU
 replace ks := ks.ch pU.ch
 replace cA := cA.ch pU.ch
 replace cH := cH.ch pU.ch
 replace cI := cI.ch pU.ch
 replace cN := cN.ch pU.ch
 replace dh := dh.ch pU.ch
 replace dq := dq.ch pU.ch
 replace dJ := dJ.ch pU.ch
 replace aj := aj.ch pU.ch
 replace hO := pU.own
 replace hB := hB.trans pU.fr
 have pV := Stp.front 4 hO rfl
 dsimp only [eS, eZ] at pV
 replace cA := cA.ch pV.ch
 replace ks := ks.ch pV.ch
 replace cH := cH.ch pV.ch
 replace cI := cI.ch pV.ch
 replace cN := cN.ch pV.ch
 replace dh := dh.ch pV.ch
 replace dq := dq.ch pV.ch
 replace dJ := dJ.ch pV.ch
 replace aj := aj.ch pV.ch
 replace hO := pV.own
 replace hB := hB.trans pV.fr
 have pW := Stp.front 5 hO rfl
 dsimp only [eS, eZ] at pW
 replace cI := cI.ch pW.ch
 replace cA := cA.ch pW.ch
 replace ks := ks.ch pW.ch
 replace cH := cH.ch pW.ch
 replace cN := cN.ch pW.ch
 replace dh := dh.ch pW.ch
 replace dq := dq.ch pW.ch
 replace dJ := dJ.ch pW.ch
 replace aj := aj.ch pW.ch
 replace hO := pW.own
 replace hB := hB.trans pW.fr
 have pX := Stp.front 5 hO rfl
 dsimp only [eS, eZ] at pX
 replace cN := cN.ch pX.ch
 replace cI := cI.ch pX.ch
 replace cA := cA.ch pX.ch
 replace ks := ks.ch pX.ch
 replace cH := cH.ch pX.ch
 replace dh := dh.ch pX.ch
 replace dq := dq.ch pX.ch
 replace dJ := dJ.ch pX.ch
 replace aj := aj.ch pX.ch
 replace hO := pX.own
 replace hB := hB.trans pX.fr
 have pY := Stp.front 5 hO rfl
 dsimp only [eS, eZ] at pY
 replace cH := cH.ch pY.ch
 replace cN := cN.ch pY.ch
 replace cI := cI.ch pY.ch
 replace cA := cA.ch pY.ch
 replace ks := ks.ch pY.ch
 replace dh := dh.ch pY.ch
 replace dq := dq.ch pY.ch
 replace dJ := dJ.ch pY.ch
 replace aj := aj.ch pY.ch
 replace hO := pY.own
 replace hB := hB.trans pY.fr
 have pZ := Stp.front 6 hO rfl
 dsimp only [eS, eZ] at pZ
 replace ks := ks.ch pZ.ch
 replace cH := cH.ch pZ.ch
 replace cN := cN.ch pZ.ch
 replace cI := cI.ch pZ.ch
 replace cA := cA.ch pZ.ch
 replace dh := dh.ch pZ.ch
 replace dq := dq.ch pZ.ch
 replace dJ := dJ.ch pZ.ch
 replace aj := aj.ch pZ.ch
 replace hO := pZ.own
 replace hB := hB.trans pZ.fr
 have p5 := Stp.front 7 hO rfl
 dsimp only [eS, eZ] at p5
 replace dh := dh.ch p5.ch
 replace ks := ks.ch p5.ch
 replace cH := cH.ch p5.ch
 replace cN := cN.ch p5.ch
 replace cI := cI.ch p5.ch
 replace cA := cA.ch p5.ch
 replace dq := dq.ch p5.ch
 replace dJ := dJ.ch p5.ch
 replace aj := aj.ch p5.ch
 replace hO := p5.own
 replace hB := hB.trans p5.fr
 have p6 := Stp.front 8 hO rfl
 dsimp only [eS, eZ] at p6
 replace dq := dq.ch p6.ch
 replace dh := dh.ch p6.ch
 replace ks := ks.ch p6.ch
 replace cH := cH.ch p6.ch
 replace cN := cN.ch p6.ch
 replace cI := cI.ch p6.ch
 replace cA := cA.ch p6.ch
 replace dJ := dJ.ch p6.ch
 replace aj := aj.ch p6.ch
 replace hO := p6.own
 replace hB := hB.trans p6.fr
 have qa := Stp.front 9 hO rfl
 dsimp only [eS, eZ] at qa
 replace dJ := dJ.ch qa.ch
 replace dq := dq.ch qa.ch
 replace dh := dh.ch qa.ch
 replace ks := ks.ch qa.ch
 replace cH := cH.ch qa.ch
 replace cN := cN.ch qa.ch
 replace cI := cI.ch qa.ch
 replace cA := cA.ch qa.ch
 replace aj := aj.ch qa.ch
 replace hO := qa.own
 replace hB := hB.trans qa.fr
 have qb := Stp.front 10 hO rfl
 dsimp only [eS, eZ] at qb
 replace aj := aj.ch qb.ch
 replace dJ := dJ.ch qb.ch
 replace dq := dq.ch qb.ch
 replace dh := dh.ch qb.ch
 replace ks := ks.ch qb.ch
 replace cH := cH.ch qb.ch
 replace cN := cN.ch qb.ch
 replace cI := cI.ch qb.ch
 replace cA := cA.ch qb.ch
 replace hO := qb.own
 replace hB := hB.trans qb.fr
 refine Go1.ret2 Try.func49 rfl ?_
 exact Or.inr ⟨(⟨(⟨((ix a0 (0 : Int)).length : Int), true, d_32, d_585, d_579, d_573, ([] : List (List Int)), d_555, (0 : Int)⟩ : Enum), m3_591, d_567, d_561, d_549⟩ : run), ((0 : Int)), B10, n37, p35, c36, f0, ja, lw, lx, o5, i9, kQ, kS, o4, i8, ko, kq, o3, 0, none, 0, ([]), i5, jJ, jK, oY, B4, i7, kg, kh, o0, i6, jL, jM, oZ, iN, kd, ke, qx, rfl, hB.same, hO, aj, dJ, dq, dh, ks, cH, cN, cI, cA, H⟩
theorem body37 : Body Try.prog 37 := ⟨Try.f37, Try.func37, rfl, by kernel_rfl⟩
theorem walk_trans_Compose {A : List Nat} {w0 : World} {p_f : Option Addr} {c_f : Nat} {p_g : Option Addr} {c_g : Nat} {f : List Int} {g : List Int} (hA : ∀ b ∈ A, b < w0.heap.size) (h_f : ISl (Rp.int .i64) A w0 p_f c_f f) (h_g : ISl (Rp.int .i64) A w0 p_g c_g g) {K : List Int → Prop} (H : trans_Compose f g K) :
    CallsV Try.prog 37 #[.slice p_f f.length c_f, .slice p_g g.length c_g] w0 (fun v w' => ∃ (r0 : List Int), ∃ (tE : Option Addr), ∃ (tF : Nat), v = .slice tE r0.length tF ∧ Same w0 w' ∧ ISl (Rp.int .i64) A w' tE tF r0 ∧ K r0) := by
 refine CallsV.of (l := [.slice p_f f.length c_f, .slice p_g g.length c_g]) Try.func37 rfl Try.ntmps37 rfl ?_
 have hO := Owns.start hA
 have hB := Fr.refl (bl []) w0
 unfold trans_Compose at H
 replace h_f := h_f.ch (Ch.start A w0)
 replace h_g := h_g.ch (Ch.start A w0)
 refine Go1.seq ?_
 refine Go1.region ?_
 refine GoR.op ((op_assign rfl) _) rfl rfl ?_
 refine GoR.nil ?_
 refine Go1.seq ?_
 refine Go1.seq ?_
 refine Go1.region ?_
 refine GoR.op ((op_move rfl) _) rfl rfl ?_
 refine GoR.op ((op_len Try.underlying26 rfl) _) rfl rfl ?_
 replace H := H h_f.bd
 refine GoR.op ((op_move rfl) _) rfl rfl ?_
 refine GoR.op ((op_len Try.underlying26 rfl) _) rfl rfl ?_
 replace H := H h_g.bd
 by_cases h1 : (f.length : Int) = (g.length : Int)
 ·replace H := ifp h1 H
  refine GoR.op ((fun w => opB (op_neq rfl rfl w) (ndT h1)) _) rfl rfl ?_
  refine GoR.op ((op_move rfl) _) rfl rfl ?_
  refine GoR.op ((op_move rfl) _) rfl rfl ?_
  refine GoR.call (op_call body60 rfl (walk_trans_Valid hO.lt h_f H)) rfl rfl ?_
  rintro v6 w3 ⟨r2, rfl, hs4, H⟩
  have nc := Stp.same hO hs4
  replace hO := nc.own
  replace h_f := h_f.ch nc.ch
  replace h_g := h_g.ch nc.ch
  replace hB := hB.trans nc.fr
  cases r2
  ·replace H := ifn Bool.false_ne_true H
   refine GoR.op ((op_not rfl) _) rfl rfl ?_
   refine GoR.op ((op_pickF rfl rfl rfl) _) rfl rfl ?_
   refine GoR.op ((op_move rfl) _) rfl rfl ?_
   refine GoR.pass rfl rfl ?_
   refine GoR.pass rfl rfl ?_
   refine GoR.pass rfl rfl ?_
   refine GoR.op ((op_pickT rfl rfl rfl) _) rfl rfl ?_
   refine GoR.nil ?_
   refine Go1.condT rfl rfl ?_
   refine Go1.seq ?_
   refine Go1.region ?_
   refine GoR.op ((op_assign rfl) _) rfl rfl ?_
   refine GoR.nil ?_
   refine Go1.ret1 Try.func37 rfl ?_
   exact ⟨([] : List Int), none, 0, rfl, hB.same, (ISl.null _ _ _), H⟩
  replace H := ifp rfl H
  refine GoR.op ((op_not rfl) _) rfl rfl ?_
  refine GoR.op ((op_pickF rfl rfl rfl) _) rfl rfl ?_
  refine GoR.op ((op_move rfl) _) rfl rfl ?_
  refine GoR.op ((op_move rfl) _) rfl rfl ?_
  refine GoR.call (op_call body60 rfl (walk_trans_Valid hO.lt h_g H)) rfl rfl ?_
  rintro v12 w9 ⟨r8, rfl, Bh, H⟩
  have xL := Stp.same hO Bh
  replace hO := xL.own
  replace h_f := h_f.ch xL.ch
  replace h_g := h_g.ch xL.ch
  replace hB := hB.trans xL.fr
  cases r8
  ·replace H := ifn Bool.false_ne_true H
   refine GoR.op ((op_not rfl) _) rfl rfl ?_
   refine GoR.op ((op_pickF rfl rfl rfl) _) rfl rfl ?_
   refine GoR.nil ?_
   refine Go1.condT rfl rfl ?_
   refine Go1.seq ?_
   refine Go1.cut [] trivial ?_
   intro σ _
   refine Go1.region ?_
   refine GoR.op ((op_assign rfl) _) rfl rfl ?_
   refine GoR.nil ?_
   refine Go1.ret1 Try.func37 rfl ?_
   exact ⟨([] : List Int), none, 0, rfl, hB.same, (ISl.null _ _ _), H⟩
  replace H := ifp rfl H
  refine GoR.op ((op_not rfl) _) rfl rfl ?_
  refine GoR.op ((op_pickF rfl rfl rfl) _) rfl rfl ?_
  refine GoR.nil ?_
  refine Go1.condF rfl rfl ?_
  refine Go1.skip ?_
  refine Go1.seq ?_
  refine Go1.region ?_
  refine GoR.op ((op_move rfl) _) rfl rfl ?_
  refine GoR.op ((op_len Try.underlying26 rfl) _) rfl rfl ?_
  obtain ⟨h21, H⟩ := H
  obtain ⟨h22, H⟩ := H
  have hobt := omake (n := (f.length : Int)) (r := Rp.int .i64) (d := (0 : Int)) Try.underlying26 ti3 (fun _ _ => rfl) rfl hO h21 h22 (by decide)
  obtain ⟨w14, p15, vQ, tL, dl, Cu, yq⟩ := hobt
  refine GoR.op (yq rfl rfl) rfl rfl ?_
  replace hO := tL.own
  replace h_f := h_f.ch tL.ch
  replace h_g := h_g.ch tL.ch
  replace hB := hB.trans tL.fr
  refine GoR.op ((op_assign rfl) _) rfl rfl ?_
  refine GoR.nil ?_
  refine Go1.seq ?_
  refine Go1.seq ?_
  refine Go1.region ?_
  refine GoR.op ((op_move rfl) _) rfl rfl ?_
  refine GoR.op ((op_len Try.underlying26 rfl) _) rfl rfl ?_
  refine GoR.op ((op_move rfl) _) rfl rfl ?_
  refine GoR.nil ?_
  refine Go1.block ?_
  refine Go1.loopW (S := Nat × List Int) (fun s σ w => match s with | (k1_25, h1_26) => ∃ (v4 : List Value), agrees σ [(1, .slice p_g g.length c_g), (5, .slice p15 f.length f.length), (26, .slice p_f f.length c_f), (27, .int .i64 (f.length : Int)), (28, .int .i64 (k1_25 : Int))] ∧ Owns w0.heap.size w [.row 3 1 p15 f.length f.length v4] A ∧ Els (Rp.int .i64) (bl [.row 3 1 p15 f.length f.length v4] ++ A) w v4 h1_26 ∧ ISl (Rp.int .i64) (bl [.row 3 1 p15 f.length f.length v4] ++ A) w p_f c_f f ∧ ISl (Rp.int .i64) (bl [.row 3 1 p15 f.length f.length v4] ++ A) w p_g c_g g ∧ Fr (bl []) w0 (bl [.row 3 1 p15 f.length f.length v4]) w) H ⟨vQ, ⟨rfl, rfl, rfl, rfl, rfl, trivial⟩, hO, dl, h_f, h_g, hB⟩ ?_
  intro X1
  refine prE fun k1_25 => fun h1_26 => ?_
  intro H hX1 σ w24
  refine exE fun v4 => andE fun hag => andE fun hO => andE fun yT => andE fun h_f => andE fun h_g => fun hB => ?_
  dsimp only at H
  refine Go1.keep [(1, .slice p_g g.length c_g), (5, .slice p15 f.length f.length), (26, .slice p_f f.length c_f), (27, .int .i64 (f.length : Int)), (28, .int .i64 (k1_25 : Int))] hag ?_
  refine Go1.seq ?_
  refine Go1.region ?_
  by_cases h29 : (k1_25 : Int) < (f.length : Int)
  ·replace H := ifp h29 H
   refine GoR.op ((fun w => opB (op_lss rfl rfl w) (decide_eq_true h29)) _) rfl rfl ?_
   refine GoR.nil ?_
   refine Go1.seq ?_
   refine Go1.condT rfl rfl ?_
   refine Go1.skip ?_
   refine Go1.seq ?_
   refine Go1.block ?_
   refine Go1.seq ?_
   refine Go1.region ?_
   refine GoR.op ((op_move rfl) _) rfl rfl ?_
   obtain ⟨h30, H⟩ := H
   obtain ⟨h31, H⟩ := H
   refine GoR.op ((op_index Try.underlying26 ti3 rfl rfl h30 h31 (h_f.some_ h30 h31)) _) rfl rfl ?_
   refine GoR.op ((ldInt h_f h30 h31 Try.underlying3 rfl rfl) _ (Same.refl _)) rfl rfl ?_
   refine GoR.op ((op_assign rfl) _) rfl rfl ?_
   refine GoR.op ((op_assign rfl) _) rfl rfl ?_
   refine GoR.nil ?_
   refine Go1.region ?_
   refine GoR.op ((op_move rfl) _) rfl rfl ?_
   refine GoR.op ((op_move rfl) _) rfl rfl ?_
   refine GoR.op ((op_move rfl) _) rfl rfl ?_
   refine GoR.op ((op_move rfl) _) rfl rfl ?_
   obtain ⟨h32, H⟩ := H
   obtain ⟨h33, H⟩ := H
   refine GoR.op ((op_index Try.underlying26 ti3 rfl rfl h32 h33 (h_g.some_ h32 h33)) _) rfl rfl ?_
   refine GoR.op ((ldInt h_g h32 h33 Try.underlying3 rfl rfl) _ (Same.refl _)) rfl rfl ?_
   obtain ⟨h34, H⟩ := H
   obtain ⟨h35, H⟩ := H
   refine GoR.op ((op_index Try.underlying26 ti3 rfl rfl h34 (ltn (yT.neq hO 0 rfl) h35) (yT.psome hO 0 rfl h34 h35)) _) rfl rfl ?_
   have hobt := ost (r := Rp.int .i64) rfl 0 hO rfl yT h34 h35 (v := .int .i64 (ix g (ix f (k1_25 : Int)))) (u := (ix g (ix f (k1_25 : Int)))) rfl rfl
   obtain ⟨w36, Ib, xM, Ic, Fa⟩ := hobt
   refine GoR.op (Fa Try.underlying3 rfl ti3 (by exact rfl) (by exact rfl)) rfl rfl ?_
   replace hO := xM.own
   replace h_f := h_f.ch xM.ch
   replace h_g := h_g.ch xM.ch
   replace hB := hB.trans xM.fr
   refine GoR.nil ?_
   refine Go1.inBlock ?_
   refine Go1.region ?_
   refine GoR.op ((op_add rfl rfl (wrap_i64 (natbd h29 h_f.bd))) _) rfl rfl ?_
   refine GoR.op ((op_move rfl) _) rfl rfl ?_
   refine GoR.nil ?_
   exact hX1 _ H _ _ ⟨Ib, ⟨rfl, rfl, rfl, rfl, rfl, trivial⟩, hO, Ic, h_f, h_g, hB⟩
  replace H := ifn h29 H
  refine GoR.op ((fun w => opB (op_lss rfl rfl w) (decide_eq_false h29)) _) rfl rfl ?_
  refine GoR.nil ?_
  refine Go1.seq ?_
  refine Go1.condF rfl rfl ?_
  refine Go1.exit rfl ?_
  refine Go1.seq ?_
  refine Go1.region ?_
  refine GoR.op ((op_move rfl) _) rfl rfl ?_
  refine GoR.op ((op_assign rfl) _) rfl rfl ?_
  refine GoR.nil ?_
  have hobt := freeze 0 hO rfl yT
  obtain ⟨hO1, Cv, Id, Ie⟩ := hobt
  replace h_f := h_f.ch Cv
  replace h_g := h_g.ch Cv
  replace hB := hB.trans (Owns.dropFr _ _ 0)
  replace hO := hO1; clear hO1
  refine Go1.ret1 Try.func37 rfl ?_
  exact ⟨h1_26, p15, f.length, (congrArg (fun nn => Value.slice p15 nn f.length) Ie), hB.same, (Id.ch (Ch.weak _ _ _)), H⟩
 replace H := ifn h1 H
 refine GoR.op ((fun w => opB (op_neq rfl rfl w) (ndF h1)) _) rfl rfl ?_
 refine GoR.op ((op_move rfl) _) rfl rfl ?_
 refine GoR.pass rfl rfl ?_
 refine GoR.pass rfl rfl ?_
 refine GoR.pass rfl rfl ?_
 refine GoR.op ((op_pickT rfl rfl rfl) _) rfl rfl ?_
 refine GoR.op ((op_move rfl) _) rfl rfl ?_
 refine GoR.pass rfl rfl ?_
 refine GoR.pass rfl rfl ?_
 refine GoR.pass rfl rfl ?_
 refine GoR.op ((op_pickT rfl rfl rfl) _) rfl rfl ?_
 refine GoR.nil ?_
 refine Go1.condT rfl rfl ?_
 refine Go1.seq ?_
 refine Go1.cut [] trivial ?_
 intro σ _
 refine Go1.region ?_
 refine GoR.op ((op_assign rfl) _) rfl rfl ?_
 refine GoR.nil ?_
 refine Go1.ret1 Try.func37 rfl ?_
 exact ⟨([] : List Int), none, 0, rfl, hB.same, (ISl.null _ _ _), H⟩
end Sg
