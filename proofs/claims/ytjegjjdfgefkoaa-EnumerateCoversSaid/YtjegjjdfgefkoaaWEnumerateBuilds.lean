/- The walks: each call keeps to its plain transformer. Printed by walkgen.py. -/
import Derived.Test.YtjegjjdfgefkoaaTi
namespace Sg
open Go Go.RowKit Go.Proofs
set_option linter.unusedVariables false
set_option linter.unusedSimpArgs false
set_option maxRecDepth 100000
set_option maxHeartbeats 4000000
theorem body48 : Body Try.prog 48 := ⟨Try.f48, Try.func48, rfl, by kernel_rfl⟩
theorem walk_ref11_Valid {A : List Nat} {w0 : World} {p_f : Option Addr} {c_f : Nat} {f : List Int} (hA : ∀ b ∈ A, b < w0.heap.size) (h_f : ISl (Rp.int .i64) A w0 p_f c_f f) {K : Bool → Prop} (H : ref11_Valid f K) :
    CallsV Try.prog 48 #[.slice p_f f.length c_f] w0 (fun v w' => ∃ (r0 : Bool), v = .bool r0 ∧ Same w0 w' ∧ K r0) := by
 refine CallsV.of (l := [.slice p_f f.length c_f]) Try.func48 rfl Try.ntmps48 rfl ?_
 have hO := Owns.start hA
 have hB := Fr.refl (bl []) w0
 unfold ref11_Valid at H
 replace h_f := h_f.ch (Ch.start A w0)
 refine Go1.seq ?_
 refine Go1.region ?_
 refine GoR.op ((op_assign rfl) _) rfl rfl ?_
 refine GoR.nil ?_
 refine Go1.seq ?_
 refine Go1.seq ?_
 refine Go1.region ?_
 refine GoR.op ((op_move rfl) _) rfl rfl ?_
 refine GoR.op ((op_len Try.underlying26 rfl) _) rfl rfl ?_
 replace H := H h_f.bd
 by_cases h1 : (f.length : Int) < (1 : Int)
 ·replace H := ifp h1 H
  refine GoR.op ((fun w => opB (op_lss rfl rfl w) (decide_eq_true h1)) _) rfl rfl ?_
  refine GoR.op ((op_move rfl) _) rfl rfl ?_
  refine GoR.pass rfl rfl ?_
  refine GoR.pass rfl rfl ?_
  refine GoR.pass rfl rfl ?_
  refine GoR.op ((op_pickT rfl rfl rfl) _) rfl rfl ?_
  refine GoR.nil ?_
  refine Go1.condT rfl rfl ?_
  refine Go1.seq ?_
  refine Go1.region ?_
  refine GoR.op ((op_assign rfl) _) rfl rfl ?_
  refine GoR.nil ?_
  refine Go1.ret1 Try.func48 rfl ?_
  exact ⟨false, rfl, hB.same, H⟩
 replace H := ifn h1 H
 refine GoR.op ((fun w => opB (op_lss rfl rfl w) (decide_eq_false h1)) _) rfl rfl ?_
 refine GoR.op ((op_move rfl) _) rfl rfl ?_
 refine GoR.op ((op_move rfl) _) rfl rfl ?_
 refine GoR.op ((op_len Try.underlying26 rfl) _) rfl rfl ?_
 by_cases h2 : (32 : Int) < (f.length : Int)
 ·replace H := ifp h2 H
  refine GoR.op ((fun w => opB (op_gtr rfl rfl w) (decide_eq_true h2)) _) rfl rfl ?_
  refine GoR.op ((op_pickF rfl rfl rfl) _) rfl rfl ?_
  refine GoR.nil ?_
  refine Go1.condT rfl rfl ?_
  refine Go1.seq ?_
  refine Go1.region ?_
  refine GoR.op ((op_assign rfl) _) rfl rfl ?_
  refine GoR.nil ?_
  refine Go1.ret1 Try.func48 rfl ?_
  exact ⟨false, rfl, hB.same, H⟩
 replace H := ifn h2 H
 refine GoR.op ((fun w => opB (op_gtr rfl rfl w) (decide_eq_false h2)) _) rfl rfl ?_
 refine GoR.op ((op_pickF rfl rfl rfl) _) rfl rfl ?_
 refine GoR.nil ?_
 refine Go1.condF rfl rfl ?_
 refine Go1.skip ?_
 refine Go1.seq ?_
 refine Go1.seq ?_
 refine Go1.region ?_
 refine GoR.op ((op_move rfl) _) rfl rfl ?_
 refine GoR.op ((op_len Try.underlying26 rfl) _) rfl rfl ?_
 refine GoR.op ((op_move rfl) _) rfl rfl ?_
 refine GoR.nil ?_
 refine Go1.block ?_
 refine Go1.loopW (S := Nat) (fun s σ w => agrees σ [(0, .slice p_f f.length c_f), (13, .slice p_f f.length c_f), (14, .int .i64 (f.length : Int)), (15, .int .i64 (s : Int))] ∧ Owns w0.heap.size w [] A ∧ ISl (Rp.int .i64) (bl [] ++ A) w p_f c_f f ∧ Fr (bl []) w0 (bl []) w) H ⟨⟨rfl, rfl, rfl, rfl, trivial⟩, hO, h_f, hB⟩ ?_
 intro X1 k1_4
 intro H hX1 σ w3
 refine andE fun hag => andE fun hO => andE fun h_f => fun hB => ?_
 refine Go1.keep [(0, .slice p_f f.length c_f), (13, .slice p_f f.length c_f), (14, .int .i64 (f.length : Int)), (15, .int .i64 (k1_4 : Int))] hag ?_
 refine Go1.seq ?_
 refine Go1.region ?_
 by_cases h5 : (k1_4 : Int) < (f.length : Int)
 ·replace H := ifp h5 H
  refine GoR.op ((fun w => opB (op_lss rfl rfl w) (decide_eq_true h5)) _) rfl rfl ?_
  refine GoR.nil ?_
  refine Go1.seq ?_
  refine Go1.condT rfl rfl ?_
  refine Go1.skip ?_
  refine Go1.seq ?_
  refine Go1.block ?_
  refine Go1.seq ?_
  refine Go1.region ?_
  obtain ⟨h6, H⟩ := H
  obtain ⟨h7, H⟩ := H
  refine GoR.op ((op_index Try.underlying26 ti3 rfl rfl h6 h7 (h_f.some_ h6 h7)) _) rfl rfl ?_
  refine GoR.op ((ldInt h_f h6 h7 Try.underlying3 rfl rfl) _ (Same.refl _)) rfl rfl ?_
  refine GoR.op ((op_assign rfl) _) rfl rfl ?_
  refine GoR.nil ?_
  refine Go1.seq ?_
  refine Go1.region ?_
  refine GoR.op ((op_move rfl) _) rfl rfl ?_
  by_cases h8 : (ix f (k1_4 : Int)) < (0 : Int)
  ·replace H := ifp h8 H
   refine GoR.op ((fun w => opB (op_lss rfl rfl w) (decide_eq_true h8)) _) rfl rfl ?_
   refine GoR.op ((op_move rfl) _) rfl rfl ?_
   refine GoR.pass rfl rfl ?_
   refine GoR.pass rfl rfl ?_
   refine GoR.pass rfl rfl ?_
   refine GoR.pass rfl rfl ?_
   refine GoR.op ((op_pickT rfl rfl rfl) _) rfl rfl ?_
   refine GoR.nil ?_
   refine Go1.condT rfl rfl ?_
   refine Go1.seq ?_
   refine Go1.region ?_
   refine GoR.op ((op_assign rfl) _) rfl rfl ?_
   refine GoR.nil ?_
   refine Go1.ret1 Try.func48 rfl ?_
   exact ⟨false, rfl, hB.same, H⟩
  replace H := ifn h8 H
  refine GoR.op ((fun w => opB (op_lss rfl rfl w) (decide_eq_false h8)) _) rfl rfl ?_
  refine GoR.op ((op_move rfl) _) rfl rfl ?_
  refine GoR.op ((op_move rfl) _) rfl rfl ?_
  refine GoR.op ((op_move rfl) _) rfl rfl ?_
  refine GoR.op ((op_len Try.underlying26 rfl) _) rfl rfl ?_
  by_cases h9 : (f.length : Int) ≤ (ix f (k1_4 : Int))
  ·replace H := ifp h9 H
   refine GoR.op ((fun w => opB (op_geq rfl rfl w) (decide_eq_true h9)) _) rfl rfl ?_
   refine GoR.op ((op_pickF rfl rfl rfl) _) rfl rfl ?_
   refine GoR.nil ?_
   refine Go1.condT rfl rfl ?_
   refine Go1.seq ?_
   refine Go1.cut [] trivial ?_
   intro σ _
   refine Go1.region ?_
   refine GoR.op ((op_assign rfl) _) rfl rfl ?_
   refine GoR.nil ?_
   refine Go1.ret1 Try.func48 rfl ?_
   exact ⟨false, rfl, hB.same, H⟩
  replace H := ifn h9 H
  refine GoR.op ((fun w => opB (op_geq rfl rfl w) (decide_eq_false h9)) _) rfl rfl ?_
  refine GoR.op ((op_pickF rfl rfl rfl) _) rfl rfl ?_
  refine GoR.nil ?_
  refine Go1.condF rfl rfl ?_
  refine Go1.skip ?_
  refine Go1.inBlock ?_
  refine Go1.region ?_
  refine GoR.op ((op_add rfl rfl (wrap_i64 (natbd h5 h_f.bd))) _) rfl rfl ?_
  refine GoR.op ((op_move rfl) _) rfl rfl ?_
  refine GoR.nil ?_
  exact hX1 _ H _ _ ⟨⟨rfl, rfl, rfl, rfl, trivial⟩, hO, h_f, hB⟩
 replace H := ifn h5 H
 refine GoR.op ((fun w => opB (op_lss rfl rfl w) (decide_eq_false h5)) _) rfl rfl ?_
 refine GoR.nil ?_
 refine Go1.seq ?_
 refine Go1.condF rfl rfl ?_
 refine Go1.exit rfl ?_
 refine Go1.seq ?_
 refine Go1.region ?_
 refine GoR.op ((op_assign rfl) _) rfl rfl ?_
 refine GoR.nil ?_
 refine Go1.ret1 Try.func48 rfl ?_
 exact ⟨true, rfl, hB.same, H⟩
theorem body14 : Body Try.prog 14 := ⟨Try.f14, Try.func14, rfl, by kernel_rfl⟩
theorem walk_ref11_MayGens {A : List Nat} {w0 : World} {k9 : Option Addr} {la : Nat} {gens : List (List Int)} (hA : ∀ b ∈ A, b < w0.heap.size) (eF : ISl (Rp.sl (Rp.int .i64)) A w0 k9 la gens) {K : Bool → Prop} (H : ref11_MayGens gens K) :
    CallsV Try.prog 14 #[.slice k9 gens.length la] w0 (fun v w' => ∃ (r0 : Bool), v = .bool r0 ∧ Same w0 w' ∧ K r0) := by
 refine CallsV.of (l := [.slice k9 gens.length la]) Try.func14 rfl Try.ntmps14 rfl ?_
 have hO := Owns.start hA
 have hB := Fr.refl (bl []) w0
 unfold ref11_MayGens at H
 replace eF := eF.ch (Ch.start A w0)
 refine Go1.seq ?_
 refine Go1.region ?_
 refine GoR.op ((op_assign rfl) _) rfl rfl ?_
 refine GoR.nil ?_
 refine Go1.seq ?_
 refine Go1.seq ?_
 refine Go1.region ?_
 refine GoR.op ((op_move rfl) _) rfl rfl ?_
 refine GoR.op ((op_len Try.underlying22 rfl) _) rfl rfl ?_
 replace H := H eF.bd
 by_cases h1 : (gens.length : Int) < (1 : Int)
 ·replace H := ifp h1 H
  refine GoR.op ((fun w => opB (op_lss rfl rfl w) (decide_eq_true h1)) _) rfl rfl ?_
  refine GoR.op ((op_move rfl) _) rfl rfl ?_
  refine GoR.pass rfl rfl ?_
  refine GoR.pass rfl rfl ?_
  refine GoR.pass rfl rfl ?_
  refine GoR.op ((op_pickT rfl rfl rfl) _) rfl rfl ?_
  refine GoR.nil ?_
  refine Go1.condT rfl rfl ?_
  refine Go1.seq ?_
  refine Go1.region ?_
  refine GoR.op ((op_assign rfl) _) rfl rfl ?_
  refine GoR.nil ?_
  refine Go1.ret1 Try.func14 rfl ?_
  exact ⟨false, rfl, hB.same, H⟩
 replace H := ifn h1 H
 refine GoR.op ((fun w => opB (op_lss rfl rfl w) (decide_eq_false h1)) _) rfl rfl ?_
 refine GoR.op ((op_move rfl) _) rfl rfl ?_
 refine GoR.op ((op_move rfl) _) rfl rfl ?_
 refine GoR.op ((op_len Try.underlying22 rfl) _) rfl rfl ?_
 by_cases h2 : (6 : Int) < (gens.length : Int)
 ·replace H := ifp h2 H
  refine GoR.op ((fun w => opB (op_gtr rfl rfl w) (decide_eq_true h2)) _) rfl rfl ?_
  refine GoR.op ((op_pickF rfl rfl rfl) _) rfl rfl ?_
  refine GoR.nil ?_
  refine Go1.condT rfl rfl ?_
  refine Go1.seq ?_
  refine Go1.region ?_
  refine GoR.op ((op_assign rfl) _) rfl rfl ?_
  refine GoR.nil ?_
  refine Go1.ret1 Try.func14 rfl ?_
  exact ⟨false, rfl, hB.same, H⟩
 replace H := ifn h2 H
 refine GoR.op ((fun w => opB (op_gtr rfl rfl w) (decide_eq_false h2)) _) rfl rfl ?_
 refine GoR.op ((op_pickF rfl rfl rfl) _) rfl rfl ?_
 refine GoR.nil ?_
 refine Go1.condF rfl rfl ?_
 refine Go1.skip ?_
 refine Go1.seq ?_
 refine Go1.seq ?_
 refine Go1.region ?_
 refine GoR.op ((op_move rfl) _) rfl rfl ?_
 refine GoR.op ((op_len Try.underlying22 rfl) _) rfl rfl ?_
 refine GoR.op ((op_move rfl) _) rfl rfl ?_
 refine GoR.nil ?_
 refine Go1.block ?_
 refine Go1.loopW (S := Nat) (fun s σ w => agrees σ [(0, .slice k9 gens.length la), (13, .slice k9 gens.length la), (14, .int .i64 (gens.length : Int)), (15, .int .i64 (s : Int))] ∧ Owns w0.heap.size w [] A ∧ ISl (Rp.sl (Rp.int .i64)) (bl [] ++ A) w k9 la gens ∧ Fr (bl []) w0 (bl []) w) H ⟨⟨rfl, rfl, rfl, rfl, trivial⟩, hO, eF, hB⟩ ?_
 intro X1 k1_4
 intro H hX1 σ w3
 refine andE fun hag => andE fun hO => andE fun eF => fun hB => ?_
 refine Go1.keep [(0, .slice k9 gens.length la), (13, .slice k9 gens.length la), (14, .int .i64 (gens.length : Int)), (15, .int .i64 (k1_4 : Int))] hag ?_
 refine Go1.seq ?_
 refine Go1.region ?_
 by_cases h5 : (k1_4 : Int) < (gens.length : Int)
 ·replace H := ifp h5 H
  refine GoR.op ((fun w => opB (op_lss rfl rfl w) (decide_eq_true h5)) _) rfl rfl ?_
  refine GoR.nil ?_
  refine Go1.seq ?_
  refine Go1.condT rfl rfl ?_
  refine Go1.skip ?_
  refine Go1.seq ?_
  refine Go1.block ?_
  refine Go1.seq ?_
  refine Go1.region ?_
  obtain ⟨h6, H⟩ := H
  obtain ⟨h7, H⟩ := H
  refine GoR.op ((op_index Try.underlying22 ti26 rfl rfl h6 h7 (eF.some_ h6 h7)) _) rfl rfl ?_
  have hobt := ldSl eF h6 h7
  obtain ⟨p8, c9, yg, GP⟩ := hobt
  refine GoR.op ((GP Try.underlying26 rfl rfl) _ (Same.refl _)) rfl rfl ?_
  refine GoR.op ((op_assign rfl) _) rfl rfl ?_
  refine GoR.nil ?_
  refine Go1.seq ?_
  refine Go1.region ?_
  refine GoR.op ((op_move rfl) _) rfl rfl ?_
  refine GoR.call (op_call body48 rfl (walk_ref11_Valid hO.lt yg H)) rfl rfl ?_
  rintro v16 w13 ⟨r12, rfl, GQ, H⟩
  have ta := Stp.same hO GQ
  replace hO := ta.own
  replace eF := eF.ch ta.ch
  replace yg := yg.ch ta.ch
  replace hB := hB.trans ta.fr
  cases r12
  ·replace H := ifn Bool.false_ne_true H
   refine GoR.op ((op_not rfl) _) rfl rfl ?_
   refine GoR.op ((op_move rfl) _) rfl rfl ?_
   refine GoR.pass rfl rfl ?_
   refine GoR.pass rfl rfl ?_
   refine GoR.pass rfl rfl ?_
   refine GoR.pass rfl rfl ?_
   refine GoR.pass rfl rfl ?_
   refine GoR.pass rfl rfl ?_
   refine GoR.pass rfl rfl ?_
   refine GoR.op ((op_pickT rfl rfl rfl) _) rfl rfl ?_
   refine GoR.nil ?_
   refine Go1.condT rfl rfl ?_
   refine Go1.seq ?_
   refine Go1.region ?_
   refine GoR.op ((op_assign rfl) _) rfl rfl ?_
   refine GoR.nil ?_
   refine Go1.ret1 Try.func14 rfl ?_
   exact ⟨false, rfl, hB.same, H⟩
  replace H := ifp rfl H
  refine GoR.op ((op_not rfl) _) rfl rfl ?_
  refine GoR.op ((op_move rfl) _) rfl rfl ?_
  refine GoR.op ((op_move rfl) _) rfl rfl ?_
  refine GoR.op ((op_len Try.underlying26 rfl) _) rfl rfl ?_
  replace H := H yg.bd
  refine GoR.op ((op_move rfl) _) rfl rfl ?_
  obtain ⟨h18, H⟩ := H
  obtain ⟨h19, H⟩ := H
  refine GoR.op ((op_index Try.underlying22 ti26 rfl rfl h18 h19 (eF.some_ h18 h19)) _) rfl rfl ?_
  have hobt := ldSl eF h18 h19
  obtain ⟨p20, c21, GR, GT⟩ := hobt
  refine GoR.op ((GT Try.underlying26 rfl rfl) _ (Same.refl _)) rfl rfl ?_
  refine GoR.op ((op_len Try.underlying26 rfl) _) rfl rfl ?_
  replace H := H GR.bd
  by_cases h24 : ((ix gens (k1_4 : Int)).length : Int) = ((ix gens (0 : Int)).length : Int)
  ·replace H := ifp h24 H
   refine GoR.op ((fun w => opB (op_neq rfl rfl w) (ndT h24)) _) rfl rfl ?_
   refine GoR.op ((op_pickF rfl rfl rfl) _) rfl rfl ?_
   refine GoR.nil ?_
   refine Go1.condF rfl rfl ?_
   refine Go1.skip ?_
   refine Go1.inBlock ?_
   refine Go1.cut [(0, .slice k9 gens.length la), (13, .slice k9 gens.length la), (14, .int .i64 (gens.length : Int)), (15, .int .i64 (k1_4 : Int))] ⟨rfl, rfl, rfl, rfl, trivial⟩ ?_
   intro σ _
   refine Go1.region ?_
   refine GoR.op ((op_add rfl rfl (wrap_i64 (natbd h5 eF.bd))) _) rfl rfl ?_
   refine GoR.op ((op_move rfl) _) rfl rfl ?_
   refine GoR.nil ?_
   exact hX1 _ H _ _ ⟨⟨rfl, rfl, rfl, rfl, trivial⟩, hO, eF, hB⟩
  replace H := ifn h24 H
  refine GoR.op ((fun w => opB (op_neq rfl rfl w) (ndF h24)) _) rfl rfl ?_
  refine GoR.op ((op_pickF rfl rfl rfl) _) rfl rfl ?_
  refine GoR.nil ?_
  refine Go1.condT rfl rfl ?_
  refine Go1.seq ?_
  refine Go1.region ?_
  refine GoR.op ((op_assign rfl) _) rfl rfl ?_
  refine GoR.nil ?_
  refine Go1.ret1 Try.func14 rfl ?_
  exact ⟨false, rfl, hB.same, H⟩
 replace H := ifn h5 H
 refine GoR.op ((fun w => opB (op_lss rfl rfl w) (decide_eq_false h5)) _) rfl rfl ?_
 refine GoR.nil ?_
 refine Go1.seq ?_
 refine Go1.condF rfl rfl ?_
 refine Go1.exit rfl ?_
 refine Go1.seq ?_
 refine Go1.region ?_
 refine GoR.op ((op_assign rfl) _) rfl rfl ?_
 refine GoR.nil ?_
 refine Go1.ret1 Try.func14 rfl ?_
 exact ⟨true, rfl, hB.same, H⟩
theorem body15 : Body Try.prog 15 := ⟨Try.f15, Try.func15, rfl, by kernel_rfl⟩
theorem walk_law12_little {A : List Nat} {w0 : World} {k9 : Option Addr} {la : Nat} {gens : List (List Int)} {points : Int} {letters : Int} (hA : ∀ b ∈ A, b < w0.heap.size) (eF : ISl (Rp.sl (Rp.int .i64)) A w0 k9 la gens) {K : Bool → Prop} (H : law12_little gens points letters K) :
    CallsV Try.prog 15 #[.slice k9 gens.length la, .int .i64 points, .int .i64 letters] w0 (fun v w' => ∃ (r0 : Bool), v = .bool r0 ∧ Same w0 w' ∧ K r0) := by
 refine CallsV.of (l := [.slice k9 gens.length la, .int .i64 points, .int .i64 letters]) Try.func15 rfl Try.ntmps15 rfl ?_
 have hO := Owns.start hA
 have hB := Fr.refl (bl []) w0
 unfold law12_little at H
 replace eF := eF.ch (Ch.start A w0)
 refine Go1.seq ?_
 refine Go1.region ?_
 refine GoR.op ((op_assign rfl) _) rfl rfl ?_
 refine GoR.nil ?_
 refine Go1.seq ?_
 refine Go1.region ?_
 refine GoR.op ((op_move rfl) _) rfl rfl ?_
 refine GoR.call (op_call body14 rfl (walk_ref11_MayGens hO.lt eF H)) rfl rfl ?_
 rintro v5 w2 ⟨r1, rfl, hs3, H⟩
 have sd := Stp.same hO hs3
 replace hO := sd.own
 replace eF := eF.ch sd.ch
 replace hB := hB.trans sd.fr
 refine GoR.op ((op_move rfl) _) rfl rfl ?_
 cases r1
 ·replace H := ifn Bool.false_ne_true H
  refine GoR.pass rfl rfl ?_
  refine GoR.pass rfl rfl ?_
  refine GoR.pass rfl rfl ?_
  refine GoR.pass rfl rfl ?_
  refine GoR.op ((op_pickF rfl rfl rfl) _) rfl rfl ?_
  refine GoR.op ((op_move rfl) _) rfl rfl ?_
  refine GoR.pass rfl rfl ?_
  refine GoR.pass rfl rfl ?_
  refine GoR.pass rfl rfl ?_
  refine GoR.pass rfl rfl ?_
  refine GoR.pass rfl rfl ?_
  refine GoR.pass rfl rfl ?_
  refine GoR.op ((op_pickF rfl rfl rfl) _) rfl rfl ?_
  refine GoR.op ((op_assign rfl) _) rfl rfl ?_
  refine GoR.nil ?_
  refine Go1.ret1 Try.func15 rfl ?_
  exact ⟨false, rfl, hB.same, H⟩
 replace H := ifp rfl H
 refine GoR.op ((op_move rfl) _) rfl rfl ?_
 refine GoR.op ((op_len Try.underlying22 rfl) _) rfl rfl ?_
 replace H := H eF.bd
 refine GoR.op ((op_move rfl) _) rfl rfl ?_
 by_cases h7 : (gens.length : Int) ≤ letters
 ·replace H := ifp h7 H
  refine GoR.op ((fun w => opB (op_leq rfl rfl w) (decide_eq_true h7)) _) rfl rfl ?_
  refine GoR.op ((op_pickT rfl rfl rfl) _) rfl rfl ?_
  refine GoR.op ((op_move rfl) _) rfl rfl ?_
  refine GoR.op ((op_move rfl) _) rfl rfl ?_
  obtain ⟨h8, H⟩ := H
  obtain ⟨h9, H⟩ := H
  refine GoR.op ((op_index Try.underlying22 ti26 rfl rfl h8 h9 (eF.some_ h8 h9)) _) rfl rfl ?_
  have hobt := ldSl eF h8 h9
  obtain ⟨p10, c11, GU, GW⟩ := hobt
  refine GoR.op ((GW Try.underlying26 rfl rfl) _ (Same.refl _)) rfl rfl ?_
  refine GoR.op ((op_len Try.underlying26 rfl) _) rfl rfl ?_
  replace H := H GU.bd
  refine GoR.op ((op_move rfl) _) rfl rfl ?_
  by_cases h14 : ((ix gens (0 : Int)).length : Int) ≤ points
  ·replace H := ifp h14 H
   refine GoR.op ((fun w => opB (op_leq rfl rfl w) (decide_eq_true h14)) _) rfl rfl ?_
   refine GoR.op ((op_pickT rfl rfl rfl) _) rfl rfl ?_
   refine GoR.op ((op_assign rfl) _) rfl rfl ?_
   refine GoR.nil ?_
   refine Go1.ret1 Try.func15 rfl ?_
   exact ⟨true, rfl, hB.same, H⟩
  replace H := ifn h14 H
  refine GoR.op ((fun w => opB (op_leq rfl rfl w) (decide_eq_false h14)) _) rfl rfl ?_
  refine GoR.op ((op_pickT rfl rfl rfl) _) rfl rfl ?_
  refine GoR.op ((op_assign rfl) _) rfl rfl ?_
  refine GoR.nil ?_
  refine Go1.ret1 Try.func15 rfl ?_
  exact ⟨false, rfl, hB.same, H⟩
 replace H := ifn h7 H
 refine GoR.op ((fun w => opB (op_leq rfl rfl w) (decide_eq_false h7)) _) rfl rfl ?_
 refine GoR.op ((op_pickT rfl rfl rfl) _) rfl rfl ?_
 refine GoR.op ((op_move rfl) _) rfl rfl ?_
 refine GoR.pass rfl rfl ?_
 refine GoR.pass rfl rfl ?_
 refine GoR.pass rfl rfl ?_
 refine GoR.pass rfl rfl ?_
 refine GoR.pass rfl rfl ?_
 refine GoR.pass rfl rfl ?_
 refine GoR.op ((op_pickF rfl rfl rfl) _) rfl rfl ?_
 refine GoR.op ((op_assign rfl) _) rfl rfl ?_
 refine GoR.nil ?_
 refine Go1.ret1 Try.func15 rfl ?_
 exact ⟨false, rfl, hB.same, H⟩
theorem body60 : Body Try.prog 60 := ⟨Try.f60, Try.func60, rfl, by kernel_rfl⟩
theorem walk_trans_Valid {A : List Nat} {w0 : World} {p_f : Option Addr} {c_f : Nat} {f : List Int} (hA : ∀ b ∈ A, b < w0.heap.size) (h_f : ISl (Rp.int .i64) A w0 p_f c_f f) {K : Bool → Prop} (H : trans_Valid f K) :
    CallsV Try.prog 60 #[.slice p_f f.length c_f] w0 (fun v w' => ∃ (r0 : Bool), v = .bool r0 ∧ Same w0 w' ∧ K r0) := by
 refine CallsV.of (l := [.slice p_f f.length c_f]) Try.func60 rfl Try.ntmps60 rfl ?_
 have hO := Owns.start hA
 have hB := Fr.refl (bl []) w0
 unfold trans_Valid at H
 replace h_f := h_f.ch (Ch.start A w0)
 refine Go1.seq ?_
 refine Go1.region ?_
 refine GoR.op ((op_assign rfl) _) rfl rfl ?_
 refine GoR.nil ?_
 refine Go1.seq ?_
 refine Go1.seq ?_
 refine Go1.region ?_
 refine GoR.op ((op_move rfl) _) rfl rfl ?_
 refine GoR.op ((op_len Try.underlying26 rfl) _) rfl rfl ?_
 replace H := H h_f.bd
 by_cases h1 : (f.length : Int) < (1 : Int)
 ·replace H := ifp h1 H
  refine GoR.op ((fun w => opB (op_lss rfl rfl w) (decide_eq_true h1)) _) rfl rfl ?_
  refine GoR.op ((op_move rfl) _) rfl rfl ?_
  refine GoR.pass rfl rfl ?_
  refine GoR.pass rfl rfl ?_
  refine GoR.pass rfl rfl ?_
  refine GoR.op ((op_pickT rfl rfl rfl) _) rfl rfl ?_
  refine GoR.nil ?_
  refine Go1.condT rfl rfl ?_
  refine Go1.seq ?_
  refine Go1.region ?_
  refine GoR.op ((op_assign rfl) _) rfl rfl ?_
  refine GoR.nil ?_
  refine Go1.ret1 Try.func60 rfl ?_
  exact ⟨false, rfl, hB.same, H⟩
 replace H := ifn h1 H
 refine GoR.op ((fun w => opB (op_lss rfl rfl w) (decide_eq_false h1)) _) rfl rfl ?_
 refine GoR.op ((op_move rfl) _) rfl rfl ?_
 refine GoR.op ((op_move rfl) _) rfl rfl ?_
 refine GoR.op ((op_len Try.underlying26 rfl) _) rfl rfl ?_
 by_cases h2 : (32 : Int) < (f.length : Int)
 ·replace H := ifp h2 H
  refine GoR.op ((fun w => opB (op_gtr rfl rfl w) (decide_eq_true h2)) _) rfl rfl ?_
  refine GoR.op ((op_pickF rfl rfl rfl) _) rfl rfl ?_
  refine GoR.nil ?_
  refine Go1.condT rfl rfl ?_
  refine Go1.seq ?_
  refine Go1.region ?_
  refine GoR.op ((op_assign rfl) _) rfl rfl ?_
  refine GoR.nil ?_
  refine Go1.ret1 Try.func60 rfl ?_
  exact ⟨false, rfl, hB.same, H⟩
 replace H := ifn h2 H
 refine GoR.op ((fun w => opB (op_gtr rfl rfl w) (decide_eq_false h2)) _) rfl rfl ?_
 refine GoR.op ((op_pickF rfl rfl rfl) _) rfl rfl ?_
 refine GoR.nil ?_
 refine Go1.condF rfl rfl ?_
 refine Go1.skip ?_
 refine Go1.seq ?_
 refine Go1.seq ?_
 refine Go1.region ?_
 refine GoR.op ((op_move rfl) _) rfl rfl ?_
 refine GoR.op ((op_len Try.underlying26 rfl) _) rfl rfl ?_
 refine GoR.op ((op_move rfl) _) rfl rfl ?_
 refine GoR.nil ?_
 refine Go1.block ?_
 refine Go1.loopW (S := Nat) (fun s σ w => agrees σ [(0, .slice p_f f.length c_f), (13, .slice p_f f.length c_f), (14, .int .i64 (f.length : Int)), (15, .int .i64 (s : Int))] ∧ Owns w0.heap.size w [] A ∧ ISl (Rp.int .i64) (bl [] ++ A) w p_f c_f f ∧ Fr (bl []) w0 (bl []) w) H ⟨⟨rfl, rfl, rfl, rfl, trivial⟩, hO, h_f, hB⟩ ?_
 intro X1 k1_4
 intro H hX1 σ w3
 refine andE fun hag => andE fun hO => andE fun h_f => fun hB => ?_
 refine Go1.keep [(0, .slice p_f f.length c_f), (13, .slice p_f f.length c_f), (14, .int .i64 (f.length : Int)), (15, .int .i64 (k1_4 : Int))] hag ?_
 refine Go1.seq ?_
 refine Go1.region ?_
 by_cases h5 : (k1_4 : Int) < (f.length : Int)
 ·replace H := ifp h5 H
  refine GoR.op ((fun w => opB (op_lss rfl rfl w) (decide_eq_true h5)) _) rfl rfl ?_
  refine GoR.nil ?_
  refine Go1.seq ?_
  refine Go1.condT rfl rfl ?_
  refine Go1.skip ?_
  refine Go1.seq ?_
  refine Go1.block ?_
  refine Go1.seq ?_
  refine Go1.region ?_
  obtain ⟨h6, H⟩ := H
  obtain ⟨h7, H⟩ := H
  refine GoR.op ((op_index Try.underlying26 ti3 rfl rfl h6 h7 (h_f.some_ h6 h7)) _) rfl rfl ?_
  refine GoR.op ((ldInt h_f h6 h7 Try.underlying3 rfl rfl) _ (Same.refl _)) rfl rfl ?_
  refine GoR.op ((op_assign rfl) _) rfl rfl ?_
  refine GoR.nil ?_
  refine Go1.seq ?_
  refine Go1.region ?_
  refine GoR.op ((op_move rfl) _) rfl rfl ?_
  by_cases h8 : (ix f (k1_4 : Int)) < (0 : Int)
  ·replace H := ifp h8 H
   refine GoR.op ((fun w => opB (op_lss rfl rfl w) (decide_eq_true h8)) _) rfl rfl ?_
   refine GoR.op ((op_move rfl) _) rfl rfl ?_
   refine GoR.pass rfl rfl ?_
   refine GoR.pass rfl rfl ?_
   refine GoR.pass rfl rfl ?_
   refine GoR.pass rfl rfl ?_
   refine GoR.op ((op_pickT rfl rfl rfl) _) rfl rfl ?_
   refine GoR.nil ?_
   refine Go1.condT rfl rfl ?_
   refine Go1.seq ?_
   refine Go1.region ?_
   refine GoR.op ((op_assign rfl) _) rfl rfl ?_
   refine GoR.nil ?_
   refine Go1.ret1 Try.func60 rfl ?_
   exact ⟨false, rfl, hB.same, H⟩
  replace H := ifn h8 H
  refine GoR.op ((fun w => opB (op_lss rfl rfl w) (decide_eq_false h8)) _) rfl rfl ?_
  refine GoR.op ((op_move rfl) _) rfl rfl ?_
  refine GoR.op ((op_move rfl) _) rfl rfl ?_
  refine GoR.op ((op_move rfl) _) rfl rfl ?_
  refine GoR.op ((op_len Try.underlying26 rfl) _) rfl rfl ?_
  by_cases h9 : (f.length : Int) ≤ (ix f (k1_4 : Int))
  ·replace H := ifp h9 H
   refine GoR.op ((fun w => opB (op_geq rfl rfl w) (decide_eq_true h9)) _) rfl rfl ?_
   refine GoR.op ((op_pickF rfl rfl rfl) _) rfl rfl ?_
   refine GoR.nil ?_
   refine Go1.condT rfl rfl ?_
   refine Go1.seq ?_
   refine Go1.cut [] trivial ?_
   intro σ _
   refine Go1.region ?_
   refine GoR.op ((op_assign rfl) _) rfl rfl ?_
   refine GoR.nil ?_
   refine Go1.ret1 Try.func60 rfl ?_
   exact ⟨false, rfl, hB.same, H⟩
  replace H := ifn h9 H
  refine GoR.op ((fun w => opB (op_geq rfl rfl w) (decide_eq_false h9)) _) rfl rfl ?_
  refine GoR.op ((op_pickF rfl rfl rfl) _) rfl rfl ?_
  refine GoR.nil ?_
  refine Go1.condF rfl rfl ?_
  refine Go1.skip ?_
  refine Go1.inBlock ?_
  refine Go1.region ?_
  refine GoR.op ((op_add rfl rfl (wrap_i64 (natbd h5 h_f.bd))) _) rfl rfl ?_
  refine GoR.op ((op_move rfl) _) rfl rfl ?_
  refine GoR.nil ?_
  exact hX1 _ H _ _ ⟨⟨rfl, rfl, rfl, rfl, trivial⟩, hO, h_f, hB⟩
 replace H := ifn h5 H
 refine GoR.op ((fun w => opB (op_lss rfl rfl w) (decide_eq_false h5)) _) rfl rfl ?_
 refine GoR.nil ?_
 refine Go1.seq ?_
 refine Go1.condF rfl rfl ?_
 refine Go1.exit rfl ?_
 refine Go1.seq ?_
 refine Go1.region ?_
 refine GoR.op ((op_assign rfl) _) rfl rfl ?_
 refine GoR.nil ?_
 refine Go1.ret1 Try.func60 rfl ?_
 exact ⟨true, rfl, hB.same, H⟩
theorem body64 : Body Try.prog 64 := ⟨Try.f64, Try.func64, rfl, by kernel_rfl⟩
theorem walk_slices_Clone_int {A : List Nat} {w0 : World} {p_s : Option Addr} {c_s : Nat} {s : List Int} (hA : ∀ b ∈ A, b < w0.heap.size) (h_s : ISl (Rp.int .i64) A w0 p_s c_s s) {K : List Int → Prop} (H : slices_Clone_int s K) :
    CallsV Try.prog 64 #[.slice p_s s.length c_s] w0 (fun v w' => ∃ (r0 : List Int), ∃ (zx : Nat), ∃ (um : Option Addr), ∃ (un : Nat), ∃ (yh : List Value), v = .slice um zx un ∧ Same w0 w' ∧ Owns w0.heap.size w' [.row 3 1 um zx un yh] A ∧ Els (Rp.int .i64) (bl [.row 3 1 um zx un yh] ++ A) w' yh r0 ∧ K r0) := by
 refine CallsV.of (l := [.slice p_s s.length c_s]) Try.func64 rfl Try.ntmps64 rfl ?_
 have hO := Owns.start hA
 have hB := Fr.refl (bl []) w0
 unfold slices_Clone_int at H
 replace h_s := h_s.ch (Ch.start A w0)
 refine Go1.seq ?_
 refine Go1.region ?_
 refine GoR.op ((op_assign rfl) _) rfl rfl ?_
 refine GoR.nil ?_
 refine Go1.seq ?_
 refine Go1.seq ?_
 refine Go1.region ?_
 refine GoR.op ((op_move rfl) _) rfl rfl ?_
 replace H := H p_s.isNone (fun h => h_s.nilD h)
 by_cases hz2 : p_s.isNone = true
 ·replace H := ifp hz2 H
  refine GoR.op ((fun w => opB (op_nilSlice Try.underlying26 rfl rfl w) (hz2)) _) rfl rfl ?_
  refine GoR.nil ?_
  refine Go1.condT rfl rfl ?_
  refine Go1.seq ?_
  refine Go1.region ?_
  refine GoR.op ((op_assign rfl) _) rfl rfl ?_
  refine GoR.nil ?_
  have oF := Stp.nil (e := 3) (r := 1) hO
  replace hO := oF.own
  replace h_s := h_s.ch oF.ch
  replace hB := hB.trans oF.fr
  have hE5 := Els.nil (Rp.int .i64) (bl (.row 3 1 none 0 0 [] :: []) ++ A) w0
  refine Go1.ret1 Try.func64 rfl ?_
  exact ⟨(([] : List Int)), 0, none, 0, ([]), rfl, hB.same, hO, hE5, H⟩
 ·replace H := ifn hz2 H
  refine GoR.op ((fun w => opB (op_nilSlice Try.underlying26 rfl rfl w) (Bool.eq_false_iff.2 hz2)) _) rfl rfl ?_
  refine GoR.nil ?_
  refine Go1.condF rfl rfl ?_
  refine Go1.skip ?_
  refine Go1.seq ?_
  refine Go1.region ?_
  have hobt := obuild (r := Rp.int .i64) (n := 0) (parts := []) (vs := []) (xs := ([] : List Int)) rfl Try.underlying26 ti3 hO (by decide) (by kernel_rfl) (Els.nil _ _ _) rfl
  obtain ⟨w6, p7, zy, hE9, AT, Dd⟩ := hobt
  refine GoR.op (Dd rfl) rfl rfl ?_
  replace hO := zy.own
  replace h_s := h_s.ch zy.ch
  replace hB := hB.trans zy.fr
  refine GoR.op ((op_move rfl) _) rfl rfl ?_
  obtain ⟨h13, H⟩ := H
  have hobt := oapp Try.underlying26 ti3 rfl 0 hO rfl hE9 h_s rfl h13 (by decide)
  obtain ⟨w14, p15, c16, mt, qT, GX, yi⟩ := hobt
  refine GoR.op (yi (by exact rfl) (by exact rfl)) rfl rfl ?_
  replace hO := qT.own
  replace h_s := h_s.ch qT.ch
  replace hB := hB.trans qT.fr
  refine GoR.op ((op_assign rfl) _) rfl rfl ?_
  refine GoR.nil ?_
  refine Go1.ret1 Try.func64 rfl ?_
  exact ⟨((([] : List Int)) ++ s), (0 + s.length), p15, c16, mt, rfl, hB.same, hO, GX, H⟩
theorem body62 : Body Try.prog 62 := ⟨Try.f62, Try.func62, rfl, by kernel_rfl⟩
theorem walk_trans_Identity {A : List Nat} {w0 : World} {n : Int} (hA : ∀ b ∈ A, b < w0.heap.size) {K : List Int → Prop} (H : trans_Identity n K) :
    CallsV Try.prog 62 #[.int .i64 n] w0 (fun v w' => ∃ (r0 : List Int), ∃ (um : Option Addr), ∃ (un : Nat), v = .slice um r0.length un ∧ Same w0 w' ∧ ISl (Rp.int .i64) A w' um un r0 ∧ K r0) := by
 refine CallsV.of (l := [.int .i64 n]) Try.func62 rfl Try.ntmps62 rfl ?_
 have hO := Owns.start hA
 have hB := Fr.refl (bl []) w0
 unfold trans_Identity at H
 refine Go1.seq ?_
 refine Go1.region ?_
 refine GoR.op ((op_assign rfl) _) rfl rfl ?_
 refine GoR.nil ?_
 refine Go1.seq ?_
 refine Go1.seq ?_
 refine Go1.region ?_
 refine GoR.op ((op_move rfl) _) rfl rfl ?_
 by_cases h1 : n < (1 : Int)
 ·replace H := ifp h1 H
  refine GoR.op ((fun w => opB (op_lss rfl rfl w) (decide_eq_true h1)) _) rfl rfl ?_
  refine GoR.op ((op_move rfl) _) rfl rfl ?_
  refine GoR.pass rfl rfl ?_
  refine GoR.pass rfl rfl ?_
  refine GoR.op ((op_pickT rfl rfl rfl) _) rfl rfl ?_
  refine GoR.nil ?_
  refine Go1.condT rfl rfl ?_
  refine Go1.seq ?_
  refine Go1.region ?_
  refine GoR.op ((op_assign rfl) _) rfl rfl ?_
  refine GoR.nil ?_
  refine Go1.ret1 Try.func62 rfl ?_
  exact ⟨([] : List Int), none, 0, rfl, hB.same, (ISl.null _ _ _), H⟩
 replace H := ifn h1 H
 refine GoR.op ((fun w => opB (op_lss rfl rfl w) (decide_eq_false h1)) _) rfl rfl ?_
 refine GoR.op ((op_move rfl) _) rfl rfl ?_
 refine GoR.op ((op_move rfl) _) rfl rfl ?_
 by_cases h2 : (32 : Int) < n
 ·replace H := ifp h2 H
  refine GoR.op ((fun w => opB (op_gtr rfl rfl w) (decide_eq_true h2)) _) rfl rfl ?_
  refine GoR.op ((op_pickF rfl rfl rfl) _) rfl rfl ?_
  refine GoR.nil ?_
  refine Go1.condT rfl rfl ?_
  refine Go1.seq ?_
  refine Go1.region ?_
  refine GoR.op ((op_assign rfl) _) rfl rfl ?_
  refine GoR.nil ?_
  refine Go1.ret1 Try.func62 rfl ?_
  exact ⟨([] : List Int), none, 0, rfl, hB.same, (ISl.null _ _ _), H⟩
 replace H := ifn h2 H
 refine GoR.op ((fun w => opB (op_gtr rfl rfl w) (decide_eq_false h2)) _) rfl rfl ?_
 refine GoR.op ((op_pickF rfl rfl rfl) _) rfl rfl ?_
 refine GoR.nil ?_
 refine Go1.condF rfl rfl ?_
 refine Go1.skip ?_
 refine Go1.seq ?_
 refine Go1.region ?_
 refine GoR.op ((op_move rfl) _) rfl rfl ?_
 obtain ⟨h10, H⟩ := H
 obtain ⟨h11, H⟩ := H
 have hobt := omake (n := n) (r := Rp.int .i64) (d := (0 : Int)) Try.underlying26 ti3 (fun _ _ => rfl) rfl hO h10 h11 (by decide)
 obtain ⟨w3, p4, vs5, sd, hE7, hs8, GY⟩ := hobt
 refine GoR.op (GY rfl rfl) rfl rfl ?_
 replace hO := sd.own
 replace hB := hB.trans sd.fr
 refine GoR.op ((op_assign rfl) _) rfl rfl ?_
 refine GoR.nil ?_
 refine Go1.seq ?_
 refine Go1.seq ?_
 refine Go1.region ?_
 refine GoR.op ((op_move rfl) _) rfl rfl ?_
 refine GoR.op ((op_lenN Try.underlying26 rfl (hE7.neq hO 0 rfl)) _) rfl rfl ?_
 refine GoR.op ((op_move rfl) _) rfl rfl ?_
 refine GoR.nil ?_
 refine Go1.block ?_
 refine Go1.loopW (S := Nat × List Int) (fun s σ w => match s with | (k1_14, f1_15) => ∃ (vI : List Value), agrees σ [(3, .slice p4 n.toNat n.toNat), (14, .int .i64 ((List.replicate n.toNat ((0 : Int))).length : Int)), (15, .int .i64 (k1_14 : Int))] ∧ Owns w0.heap.size w [.row 3 1 p4 n.toNat n.toNat vI] A ∧ Els (Rp.int .i64) (bl [.row 3 1 p4 n.toNat n.toNat vI] ++ A) w vI f1_15 ∧ Fr (bl []) w0 (bl [.row 3 1 p4 n.toNat n.toNat vI]) w) H ⟨vs5, ⟨rfl, rfl, rfl, trivial⟩, hO, hE7, hB⟩ ?_
 intro X1
 refine prE fun k1_14 => fun f1_15 => ?_
 intro H hX1 σ w13
 refine exE fun vI => andE fun hag => andE fun hO => andE fun yj => fun hB => ?_
 dsimp only at H
 refine Go1.keep [(3, .slice p4 n.toNat n.toNat), (14, .int .i64 ((List.replicate n.toNat ((0 : Int))).length : Int)), (15, .int .i64 (k1_14 : Int))] hag ?_
 refine Go1.seq ?_
 refine Go1.region ?_
 by_cases h18 : (k1_14 : Int) < ((List.replicate n.toNat ((0 : Int))).length : Int)
 ·replace H := ifp h18 H
  refine GoR.op ((fun w => opB (op_lss rfl rfl w) (decide_eq_true h18)) _) rfl rfl ?_
  refine GoR.nil ?_
  refine Go1.seq ?_
  refine Go1.condT rfl rfl ?_
  refine Go1.skip ?_
  refine Go1.seq ?_
  refine Go1.block ?_
  refine Go1.seq ?_
  refine Go1.region ?_
  refine GoR.op ((op_move rfl) _) rfl rfl ?_
  refine GoR.op ((op_assign rfl) _) rfl rfl ?_
  refine GoR.nil ?_
  refine Go1.region ?_
  refine GoR.op ((op_move rfl) _) rfl rfl ?_
  refine GoR.op ((op_move rfl) _) rfl rfl ?_
  refine GoR.op ((op_move rfl) _) rfl rfl ?_
  obtain ⟨h19, H⟩ := H
  obtain ⟨h20, H⟩ := H
  refine GoR.op ((op_index Try.underlying26 ti3 rfl rfl h19 (ltn (yj.neq hO 0 rfl) h20) (yj.psome hO 0 rfl h19 h20)) _) rfl rfl ?_
  have hobt := ost (r := Rp.int .i64) rfl 0 hO rfl yj h19 h20 (v := .int .i64 (k1_14 : Int)) (u := (k1_14 : Int)) rfl rfl
  obtain ⟨w21, zA, jt, cG, yk⟩ := hobt
  refine GoR.op (yk Try.underlying3 rfl ti3 (by exact rfl) (by exact rfl)) rfl rfl ?_
  replace hO := jt.own
  replace hB := hB.trans jt.fr
  refine GoR.nil ?_
  refine Go1.inBlock ?_
  refine Go1.region ?_
  obtain ⟨h26, H⟩ := H
  refine GoR.op ((op_add rfl rfl (wrap_i64 h26)) _) rfl rfl ?_
  refine GoR.op ((op_move rfl) _) rfl rfl ?_
  refine GoR.nil ?_
  exact hX1 _ H _ _ ⟨zA, ⟨rfl, rfl, rfl, trivial⟩, hO, cG, hB⟩
 replace H := ifn h18 H
 refine GoR.op ((fun w => opB (op_lss rfl rfl w) (decide_eq_false h18)) _) rfl rfl ?_
 refine GoR.nil ?_
 refine Go1.seq ?_
 refine Go1.condF rfl rfl ?_
 refine Go1.exit rfl ?_
 refine Go1.seq ?_
 refine Go1.region ?_
 refine GoR.op ((op_move rfl) _) rfl rfl ?_
 refine GoR.op ((op_assign rfl) _) rfl rfl ?_
 refine GoR.nil ?_
 have hobt := freeze 0 hO rfl yj
 obtain ⟨hO1, Jx, GZ, G0⟩ := hobt
 replace hB := hB.trans (Owns.dropFr _ _ 0)
 replace hO := hO1; clear hO1
 refine Go1.ret1 Try.func62 rfl ?_
 exact ⟨f1_15, p4, n.toNat, (congrArg (fun nn => Value.slice p4 nn n.toNat) G0), hB.same, (GZ.ch (Ch.weak _ _ _)), H⟩
theorem body61 : Body Try.prog 61 := ⟨Try.f61, Try.func61, rfl, by kernel_rfl⟩
theorem walk_enumerate_text {A : List Nat} {w0 : World} {p_f : Option Addr} {c_f : Nat} {f : List Int} (hA : ∀ b ∈ A, b < w0.heap.size) (h_f : ISl (Rp.int .i64) A w0 p_f c_f f) {K : Str → Prop} (H : enumerate_text f K) :
    CallsV Try.prog 61 #[.slice p_f f.length c_f] w0 (fun v w' => ∃ (r0 : Str), v = .string (gstr r0) ∧ Same w0 w' ∧ r0.length ≤ mx ∧ K r0) := by
 refine CallsV.of (l := [.slice p_f f.length c_f]) Try.func61 rfl Try.ntmps61 rfl ?_
 have hO := Owns.start hA
 have hB := Fr.refl (bl []) w0
 unfold enumerate_text at H
 replace h_f := h_f.ch (Ch.start A w0)
 refine Go1.seq ?_
 refine Go1.region ?_
 refine GoR.op ((op_assign rfl) _) rfl rfl ?_
 refine GoR.nil ?_
 refine Go1.seq ?_
 refine Go1.region ?_
 refine GoR.op ((op_move rfl) _) rfl rfl ?_
 refine GoR.op ((op_len Try.underlying26 rfl) _) rfl rfl ?_
 replace H := H h_f.bd
 obtain ⟨h8, H⟩ := H
 obtain ⟨h9, H⟩ := H
 have hobt := omake (n := (f.length : Int)) (r := Rp.int .u8) (d := (0 : Int)) Try.underlying84 ti5 (fun _ _ => rfl) rfl hO h8 h9 (by decide)
 obtain ⟨w1, p2, vs3, oF, hE5, hs6, xF⟩ := hobt
 refine GoR.op (xF rfl rfl) rfl rfl ?_
 replace hO := oF.own
 replace h_f := h_f.ch oF.ch
 replace hB := hB.trans oF.fr
 refine GoR.op ((op_assign rfl) _) rfl rfl ?_
 refine GoR.nil ?_
 refine Go1.seq ?_
 refine Go1.seq ?_
 refine Go1.region ?_
 refine GoR.op ((op_move rfl) _) rfl rfl ?_
 refine GoR.op ((op_len Try.underlying26 rfl) _) rfl rfl ?_
 refine GoR.op ((op_move rfl) _) rfl rfl ?_
 refine GoR.nil ?_
 refine Go1.block ?_
 refine Go1.loopW (S := Nat × List Int) (fun s σ w => match s with | (k1_12, b1_13) => ∃ (nN : List Value), agrees σ [(3, .slice p2 f.length f.length), (9, .slice p_f f.length c_f), (10, .int .i64 (f.length : Int)), (11, .int .i64 (k1_12 : Int))] ∧ Owns w0.heap.size w [.row 5 1 p2 f.length f.length nN] A ∧ Els (Rp.int .u8) (bl [.row 5 1 p2 f.length f.length nN] ++ A) w nN b1_13 ∧ ISl (Rp.int .i64) (bl [.row 5 1 p2 f.length f.length nN] ++ A) w p_f c_f f ∧ Fr (bl []) w0 (bl [.row 5 1 p2 f.length f.length nN]) w) H ⟨vs3, ⟨rfl, rfl, rfl, rfl, trivial⟩, hO, hE5, h_f, hB⟩ ?_
 intro X1
 refine prE fun k1_12 => fun b1_13 => ?_
 intro H hX1 σ w11
 refine exE fun nN => andE fun hag => andE fun hO => andE fun b6 => andE fun h_f => fun hB => ?_
 dsimp only at H
 refine Go1.keep [(3, .slice p2 f.length f.length), (9, .slice p_f f.length c_f), (10, .int .i64 (f.length : Int)), (11, .int .i64 (k1_12 : Int))] hag ?_
 refine Go1.seq ?_
 refine Go1.region ?_
 by_cases h16 : (k1_12 : Int) < (f.length : Int)
 ·replace H := ifp h16 H
  refine GoR.op ((fun w => opB (op_lss rfl rfl w) (decide_eq_true h16)) _) rfl rfl ?_
  refine GoR.nil ?_
  refine Go1.seq ?_
  refine Go1.condT rfl rfl ?_
  refine Go1.skip ?_
  refine Go1.seq ?_
  refine Go1.block ?_
  refine Go1.seq ?_
  refine Go1.region ?_
  refine GoR.op ((op_move rfl) _) rfl rfl ?_
  obtain ⟨h17, H⟩ := H
  obtain ⟨h18, H⟩ := H
  refine GoR.op ((op_index Try.underlying26 ti3 rfl rfl h17 h18 (h_f.some_ h17 h18)) _) rfl rfl ?_
  refine GoR.op ((ldInt h_f h17 h18 Try.underlying3 rfl rfl) _ (Same.refl _)) rfl rfl ?_
  refine GoR.op ((op_assign rfl) _) rfl rfl ?_
  refine GoR.op ((op_assign rfl) _) rfl rfl ?_
  refine GoR.nil ?_
  refine Go1.region ?_
  refine GoR.op ((op_move rfl) _) rfl rfl ?_
  refine GoR.op ((op_move rfl) _) rfl rfl ?_
  refine GoR.op ((op_move rfl) _) rfl rfl ?_
  refine GoR.op ((op_conv Try.underlying3 Try.underlying5 rfl rfl) _) rfl rfl ?_
  obtain ⟨h19, H⟩ := H
  obtain ⟨h20, H⟩ := H
  refine GoR.op ((op_index Try.underlying84 ti5 rfl rfl h19 (ltn (b6.neq hO 0 rfl) h20) (b6.psome hO 0 rfl h19 h20)) _) rfl rfl ?_
  have hobt := ost (r := Rp.int .u8) rfl 0 hO rfl b6 h19 h20 (v := .int .u8 (IntKind.u8.wrap (ix f (k1_12 : Int)))) (u := (IntKind.u8.wrap (ix f (k1_12 : Int)))) rfl rfl
  obtain ⟨w21, zA, jt, cG, yk⟩ := hobt
  refine GoR.op (yk Try.underlying5 rfl ti5 (by exact rfl) (by exact rfl)) rfl rfl ?_
  replace hO := jt.own
  replace h_f := h_f.ch jt.ch
  replace hB := hB.trans jt.fr
  refine GoR.nil ?_
  refine Go1.inBlock ?_
  refine Go1.region ?_
  refine GoR.op ((op_add rfl rfl (wrap_i64 (natbd h16 h_f.bd))) _) rfl rfl ?_
  refine GoR.op ((op_move rfl) _) rfl rfl ?_
  refine GoR.nil ?_
  exact hX1 _ H _ _ ⟨zA, ⟨rfl, rfl, rfl, rfl, trivial⟩, hO, cG, h_f, hB⟩
 replace H := ifn h16 H
 refine GoR.op ((fun w => opB (op_lss rfl rfl w) (decide_eq_false h16)) _) rfl rfl ?_
 refine GoR.nil ?_
 refine Go1.seq ?_
 refine Go1.condF rfl rfl ?_
 refine Go1.exit rfl ?_
 refine Go1.seq ?_
 refine Go1.region ?_
 refine GoR.op ((op_move rfl) _) rfl rfl ?_
 have hle26 := byt_le b6.bd
 refine GoR.op ((oldBytes 0 hO rfl b6 Try.underlying84 Try.underlying5 Try.underlying9 rfl) _ (Same.refl _)) rfl rfl ?_
 refine GoR.op ((op_assign rfl) _) rfl rfl ?_
 refine GoR.nil ?_
 refine Go1.ret1 Try.func61 rfl ?_
 exact ⟨byt b1_13, rfl, hB.same, hle26, H⟩
theorem body65 : Body Try.prog 65 := ⟨Try.f65, Try.func65, rfl, by kernel_rfl⟩
theorem body49 : Body Try.prog 49 := ⟨Try.f49, Try.func49, rfl, by kernel_rfl⟩
theorem walk_enumerate_begin {A : List Nat} {w0 : World} {se : Option Addr} {sf : Nat} {a0 : List (List Int)} {a1 : Bool} (hA : ∀ b ∈ A, b < w0.heap.size) (b7 : ISl (Rp.sl (Rp.int .i64)) A w0 se sf a0) {K : Option run → Int → Prop} (H : enumerate_begin a0 a1 K) :
    CallsV Try.prog 49 #[.slice se a0.length sf, .bool a1] w0 (fun v w' => (∃ (r1 : Int), v = .tuple #[.pointer none, .int .i64 r1] ∧ Same w0 w' ∧ K none r1) ∨ (∃ (q : run), ∃ (r1 : Int), ∃ (b_q : Nat), ∃ (bi : Nat), ∃ (bj : Option Addr), ∃ (bk : Nat), ∃ (cq : List Value), ∃ (aY : Nat), ∃ (aZ : Option Addr), ∃ (a5 : Nat), ∃ (cl : List Value), ∃ (aL : Nat), ∃ (aM : Option Addr), ∃ (aN : Nat), ∃ (cb : List Value), ∃ (bm : Nat), ∃ (bn : Option Addr), ∃ (bo : Nat), ∃ (cr : List Value), ∃ (a6 : Nat), ∃ (a7 : Option Addr), ∃ (a8 : Nat), ∃ (co : List Value), ∃ (a9 : Nat), ∃ (ba : Option Addr), ∃ (bc : Nat), ∃ (cp : List Value), ∃ (cR : Nat), ∃ (cf : Nat), ∃ (cg : Option Addr), ∃ (ci : Nat), ∃ (dq : List Value), ∃ (bQ : Nat), ∃ (bS : Option Addr), ∃ (bT : Nat), ∃ (da : List Value), ∃ (bU : Nat), ∃ (bV : Option Addr), ∃ (bW : Nat), ∃ (db : List Value), v = .tuple #[.pointer (some ⟨b_q, 0, none⟩), .int .i64 r1] ∧ Same w0 w' ∧ Owns w0.heap.size w' [.blk b_q (.cells #[.int .i64 q.Enum.Points, .bool q.Enum.Monoid, .slice bj bi bk, .slice aZ aY a5, .slice aM aL aN, .slice bn bm bo, .slice a7 a6 a8, .slice ba a9 bc, .int .i64 q.Enum.Done, .map (some cR), .slice cg cf ci, .slice bS bQ bT, .slice bV bU bW] 72 (0, 0)), .row 26 1 bj bi bk cq, .row 26 1 aZ aY a5 cl, .row 3 1 aM aL aN cb, .row 3 1 bn bm bo cr, .row 26 1 a7 a6 a8 co, .row 39 2 ba a9 bc cp, .row 9 1 cg cf ci dq, .row 3 1 bS bQ bT da, .row 3 1 bV bU bW db, .any (mapE (fun a : List UInt8 => Value.string (gstr a)) (fun a : Int => Value.int .i64 a) cR q.number)] A ∧ Els (Rp.sl (Rp.int .i64)) (bl [.blk b_q (.cells #[.int .i64 q.Enum.Points, .bool q.Enum.Monoid, .slice bj bi bk, .slice aZ aY a5, .slice aM aL aN, .slice bn bm bo, .slice a7 a6 a8, .slice ba a9 bc, .int .i64 q.Enum.Done, .map (some cR), .slice cg cf ci, .slice bS bQ bT, .slice bV bU bW] 72 (0, 0)), .row 26 1 bj bi bk cq, .row 26 1 aZ aY a5 cl, .row 3 1 aM aL aN cb, .row 3 1 bn bm bo cr, .row 26 1 a7 a6 a8 co, .row 39 2 ba a9 bc cp, .row 9 1 cg cf ci dq, .row 3 1 bS bQ bT da, .row 3 1 bV bU bW db, .any (mapE (fun a : List UInt8 => Value.string (gstr a)) (fun a : Int => Value.int .i64 a) cR q.number)] ++ A) w' cq q.Enum.Gens ∧ Els (Rp.sl (Rp.int .i64)) (bl [.blk b_q (.cells #[.int .i64 q.Enum.Points, .bool q.Enum.Monoid, .slice bj bi bk, .slice aZ aY a5, .slice aM aL aN, .slice bn bm bo, .slice a7 a6 a8, .slice ba a9 bc, .int .i64 q.Enum.Done, .map (some cR), .slice cg cf ci, .slice bS bQ bT, .slice bV bU bW] 72 (0, 0)), .row 26 1 bj bi bk cq, .row 26 1 aZ aY a5 cl, .row 3 1 aM aL aN cb, .row 3 1 bn bm bo cr, .row 26 1 a7 a6 a8 co, .row 39 2 ba a9 bc cp, .row 9 1 cg cf ci dq, .row 3 1 bS bQ bT da, .row 3 1 bV bU bW db, .any (mapE (fun a : List UInt8 => Value.string (gstr a)) (fun a : Int => Value.int .i64 a) cR q.number)] ++ A) w' cl q.Enum.Elems ∧ Els (Rp.int .i64) (bl [.blk b_q (.cells #[.int .i64 q.Enum.Points, .bool q.Enum.Monoid, .slice bj bi bk, .slice aZ aY a5, .slice aM aL aN, .slice bn bm bo, .slice a7 a6 a8, .slice ba a9 bc, .int .i64 q.Enum.Done, .map (some cR), .slice cg cf ci, .slice bS bQ bT, .slice bV bU bW] 72 (0, 0)), .row 26 1 bj bi bk cq, .row 26 1 aZ aY a5 cl, .row 3 1 aM aL aN cb, .row 3 1 bn bm bo cr, .row 26 1 a7 a6 a8 co, .row 39 2 ba a9 bc cp, .row 9 1 cg cf ci dq, .row 3 1 bS bQ bT da, .row 3 1 bV bU bW db, .any (mapE (fun a : List UInt8 => Value.string (gstr a)) (fun a : Int => Value.int .i64 a) cR q.number)] ++ A) w' cb q.Enum.Prefix ∧ Els (Rp.int .i64) (bl [.blk b_q (.cells #[.int .i64 q.Enum.Points, .bool q.Enum.Monoid, .slice bj bi bk, .slice aZ aY a5, .slice aM aL aN, .slice bn bm bo, .slice a7 a6 a8, .slice ba a9 bc, .int .i64 q.Enum.Done, .map (some cR), .slice cg cf ci, .slice bS bQ bT, .slice bV bU bW] 72 (0, 0)), .row 26 1 bj bi bk cq, .row 26 1 aZ aY a5 cl, .row 3 1 aM aL aN cb, .row 3 1 bn bm bo cr, .row 26 1 a7 a6 a8 co, .row 39 2 ba a9 bc cp, .row 9 1 cg cf ci dq, .row 3 1 bS bQ bT da, .row 3 1 bV bU bW db, .any (mapE (fun a : List UInt8 => Value.string (gstr a)) (fun a : Int => Value.int .i64 a) cR q.number)] ++ A) w' cr q.Enum.Last ∧ Els (Rp.sl (Rp.int .i64)) (bl [.blk b_q (.cells #[.int .i64 q.Enum.Points, .bool q.Enum.Monoid, .slice bj bi bk, .slice aZ aY a5, .slice aM aL aN, .slice bn bm bo, .slice a7 a6 a8, .slice ba a9 bc, .int .i64 q.Enum.Done, .map (some cR), .slice cg cf ci, .slice bS bQ bT, .slice bV bU bW] 72 (0, 0)), .row 26 1 bj bi bk cq, .row 26 1 aZ aY a5 cl, .row 3 1 aM aL aN cb, .row 3 1 bn bm bo cr, .row 26 1 a7 a6 a8 co, .row 39 2 ba a9 bc cp, .row 9 1 cg cf ci dq, .row 3 1 bS bQ bT da, .row 3 1 bV bU bW db, .any (mapE (fun a : List UInt8 => Value.string (gstr a)) (fun a : Int => Value.int .i64 a) cR q.number)] ++ A) w' co q.Enum.Right ∧ Els (rpRule) (bl [.blk b_q (.cells #[.int .i64 q.Enum.Points, .bool q.Enum.Monoid, .slice bj bi bk, .slice aZ aY a5, .slice aM aL aN, .slice bn bm bo, .slice a7 a6 a8, .slice ba a9 bc, .int .i64 q.Enum.Done, .map (some cR), .slice cg cf ci, .slice bS bQ bT, .slice bV bU bW] 72 (0, 0)), .row 26 1 bj bi bk cq, .row 26 1 aZ aY a5 cl, .row 3 1 aM aL aN cb, .row 3 1 bn bm bo cr, .row 26 1 a7 a6 a8 co, .row 39 2 ba a9 bc cp, .row 9 1 cg cf ci dq, .row 3 1 bS bQ bT da, .row 3 1 bV bU bW db, .any (mapE (fun a : List UInt8 => Value.string (gstr a)) (fun a : Int => Value.int .i64 a) cR q.number)] ++ A) w' cp q.Enum.Rules ∧ Els (Rp.str) (bl [.blk b_q (.cells #[.int .i64 q.Enum.Points, .bool q.Enum.Monoid, .slice bj bi bk, .slice aZ aY a5, .slice aM aL aN, .slice bn bm bo, .slice a7 a6 a8, .slice ba a9 bc, .int .i64 q.Enum.Done, .map (some cR), .slice cg cf ci, .slice bS bQ bT, .slice bV bU bW] 72 (0, 0)), .row 26 1 bj bi bk cq, .row 26 1 aZ aY a5 cl, .row 3 1 aM aL aN cb, .row 3 1 bn bm bo cr, .row 26 1 a7 a6 a8 co, .row 39 2 ba a9 bc cp, .row 9 1 cg cf ci dq, .row 3 1 bS bQ bT da, .row 3 1 bV bU bW db, .any (mapE (fun a : List UInt8 => Value.string (gstr a)) (fun a : Int => Value.int .i64 a) cR q.number)] ++ A) w' dq q.words ∧ Els (Rp.int .i64) (bl [.blk b_q (.cells #[.int .i64 q.Enum.Points, .bool q.Enum.Monoid, .slice bj bi bk, .slice aZ aY a5, .slice aM aL aN, .slice bn bm bo, .slice a7 a6 a8, .slice ba a9 bc, .int .i64 q.Enum.Done, .map (some cR), .slice cg cf ci, .slice bS bQ bT, .slice bV bU bW] 72 (0, 0)), .row 26 1 bj bi bk cq, .row 26 1 aZ aY a5 cl, .row 3 1 aM aL aN cb, .row 3 1 bn bm bo cr, .row 26 1 a7 a6 a8 co, .row 39 2 ba a9 bc cp, .row 9 1 cg cf ci dq, .row 3 1 bS bQ bT da, .row 3 1 bV bU bW db, .any (mapE (fun a : List UInt8 => Value.string (gstr a)) (fun a : Int => Value.int .i64 a) cR q.number)] ++ A) w' da q.behind ∧ Els (Rp.int .i64) (bl [.blk b_q (.cells #[.int .i64 q.Enum.Points, .bool q.Enum.Monoid, .slice bj bi bk, .slice aZ aY a5, .slice aM aL aN, .slice bn bm bo, .slice a7 a6 a8, .slice ba a9 bc, .int .i64 q.Enum.Done, .map (some cR), .slice cg cf ci, .slice bS bQ bT, .slice bV bU bW] 72 (0, 0)), .row 26 1 bj bi bk cq, .row 26 1 aZ aY a5 cl, .row 3 1 aM aL aN cb, .row 3 1 bn bm bo cr, .row 26 1 a7 a6 a8 co, .row 39 2 ba a9 bc cp, .row 9 1 cg cf ci dq, .row 3 1 bS bQ bT da, .row 3 1 bV bU bW db, .any (mapE (fun a : List UInt8 => Value.string (gstr a)) (fun a : Int => Value.int .i64 a) cR q.number)] ++ A) w' db q.single ∧ K (some q) r1)) := by
 refine CallsV.of (l := [.slice se a0.length sf, .bool a1]) Try.func49 rfl Try.ntmps49 rfl ?_
 have hO := Owns.start hA
 have hB := Fr.refl (bl []) w0
 unfold enumerate_begin at H
 replace b7 := b7.ch (Ch.start A w0)
 refine Go1.seq ?_
 refine Go1.region ?_
 refine GoR.op ((op_assign rfl) _) rfl rfl ?_
 refine GoR.op ((op_assign rfl) _) rfl rfl ?_
 refine GoR.nil ?_
 refine Go1.seq ?_
 refine Go1.seq ?_
 refine Go1.region ?_
 refine GoR.op ((op_move rfl) _) rfl rfl ?_
 refine GoR.op ((op_len Try.underlying22 rfl) _) rfl rfl ?_
 replace H := H b7.bd
 by_cases h1 : (a0.length : Int) = (0 : Int)
 ·replace H := ifp h1 H
  refine GoR.op ((fun w => opB (op_eql rfl rfl w) (decide_eq_true h1)) _) rfl rfl ?_
  refine GoR.op ((op_move rfl) _) rfl rfl ?_
  refine GoR.pass rfl rfl ?_
  refine GoR.pass rfl rfl ?_
  refine GoR.pass rfl rfl ?_
  refine GoR.op ((op_pickT rfl rfl rfl) _) rfl rfl ?_
  refine GoR.nil ?_
  refine Go1.condT rfl rfl ?_
  refine Go1.seq ?_
  refine Go1.region ?_
  refine GoR.op ((op_assign rfl) _) rfl rfl ?_
  refine GoR.op ((op_assign rfl) _) rfl rfl ?_
  refine GoR.nil ?_
  refine Go1.ret2 Try.func49 rfl ?_
  exact Or.inl ⟨((1 : Int)), rfl, hB.same, H⟩
 replace H := ifn h1 H
 refine GoR.op ((fun w => opB (op_eql rfl rfl w) (decide_eq_false h1)) _) rfl rfl ?_
 refine GoR.op ((op_move rfl) _) rfl rfl ?_
 refine GoR.op ((op_move rfl) _) rfl rfl ?_
 refine GoR.op ((op_len Try.underlying22 rfl) _) rfl rfl ?_
 by_cases h2 : (6 : Int) < (a0.length : Int)
 ·replace H := ifp h2 H
  refine GoR.op ((fun w => opB (op_gtr rfl rfl w) (decide_eq_true h2)) _) rfl rfl ?_
  refine GoR.op ((op_pickF rfl rfl rfl) _) rfl rfl ?_
  refine GoR.nil ?_
  refine Go1.condT rfl rfl ?_
  refine Go1.seq ?_
  refine Go1.region ?_
  refine GoR.op ((op_assign rfl) _) rfl rfl ?_
  refine GoR.op ((op_assign rfl) _) rfl rfl ?_
  refine GoR.nil ?_
  refine Go1.ret2 Try.func49 rfl ?_
  exact Or.inl ⟨((1 : Int)), rfl, hB.same, H⟩
 replace H := ifn h2 H
 refine GoR.op ((fun w => opB (op_gtr rfl rfl w) (decide_eq_false h2)) _) rfl rfl ?_
 refine GoR.op ((op_pickF rfl rfl rfl) _) rfl rfl ?_
 refine GoR.nil ?_
 refine Go1.condF rfl rfl ?_
 refine Go1.skip ?_
 refine Go1.seq ?_
 refine Go1.cut [(0, .slice se a0.length sf), (1, .bool a1)] ⟨rfl, rfl, trivial⟩ ?_
 intro σ _
 refine Go1.region ?_
 have hobt := omakeMap (fun a : List UInt8 => Value.string (gstr a)) (fun a : Int => Value.int .i64 a) hO
 obtain ⟨w3, B4, zB, hs6, xF⟩ := hobt
 refine GoR.op xF rfl rfl ?_
 replace hO := zB.own
 replace b7 := b7.ch zB.ch
 replace hB := hB.trans zB.fr
 refine GoR.op ((op_build Try.underlying72 ti72 (pl := [(0, 9), (9, 1), (10, 1), (11, 1), (12, 1)]) (vs := [(1, .map (some B4))]) (cs := #[.int .i64 (0 : Int), .bool false, .slice none 0 0, .slice none 0 0, .slice none 0 0, .slice none 0 0, .slice none 0 0, .slice none 0 0, .int .i64 (0 : Int), .map (some B4), .slice none 0 0, .slice none 0 0, .slice none 0 0]) (by kernel_rfl) rfl (by kernel_rfl)) _) rfl rfl ?_
 have hobt := obox (t := 72) (v := .agg #[.int .i64 (0 : Int), .bool false, .slice none 0 0, .slice none 0 0, .slice none 0 0, .slice none 0 0, .slice none 0 0, .slice none 0 0, .int .i64 (0 : Int), .map (some B4), .slice none 0 0, .slice none 0 0, .slice none 0 0]) (cs := #[.int .i64 (0 : Int), .bool false, .slice none 0 0, .slice none 0 0, .slice none 0 0, .slice none 0 0, .slice none 0 0, .slice none 0 0, .int .i64 (0 : Int), .map (some B4), .slice none 0 0, .slice none 0 0, .slice none 0 0]) hO rfl
 obtain ⟨w9, B10, yl, xG, ym⟩ := hobt
 refine GoR.op (ym rfl) rfl rfl ?_
 replace hO := yl.own
 replace b7 := b7.ch yl.ch
 replace hB := hB.trans yl.fr
 refine GoR.op ((op_assign rfl) _) rfl rfl ?_
 refine GoR.nil ?_
 refine Go1.seq ?_
 refine Go1.region ?_
 refine GoR.op ((op_move rfl) _) rfl rfl ?_
 refine GoR.op ((op_move rfl) _) rfl rfl ?_
 refine GoR.op ((op_move rfl) _) rfl rfl ?_
 obtain ⟨h15, H⟩ := H
 obtain ⟨h16, H⟩ := H
 refine GoR.op ((op_index Try.underlying22 ti26 rfl rfl h15 h16 (b7.some_ h15 h16)) _) rfl rfl ?_
 have hobt := ldSl b7 h15 h16
 obtain ⟨p17, c18, vJ, G1⟩ := hobt
 refine GoR.op ((G1 Try.underlying26 rfl rfl) _ (Same.refl _)) rfl rfl ?_
 refine GoR.op ((op_len Try.underlying26 rfl) _) rfl rfl ?_
 replace H := H vJ.bd
 refine GoR.op ((op_move rfl) _) rfl rfl ?_
 refine GoR.op ((op_nilCheck rfl) _) rfl rfl ?_
 refine GoR.op ((op_fieldAddr Try.underlying72 rfl ti29 rfl (by decide)) _) rfl rfl ?_
 refine GoR.op ((op_fieldAddr Try.underlying29 rfl ti3 rfl (by decide)) _) rfl rfl ?_
 have hobt := oblkSt2 (v := .int .i64 ((ix a0 (0 : Int)).length : Int)) (i := 0) (cs' := #[.int .i64 ((ix a0 (0 : Int)).length : Int), .bool false, .slice none 0 0, .slice none 0 0, .slice none 0 0, .slice none 0 0, .slice none 0 0, .slice none 0 0, .int .i64 (0 : Int), .map (some B4), .slice none 0 0, .slice none 0 0, .slice none 0 0]) 0 hO rfl rfl rfl rfl
 obtain ⟨w21, mq, De⟩ := hobt
 refine GoR.op (De Try.underlying3 rfl ti3 (by exact rfl) (by exact rfl)) rfl rfl ?_
 replace hO := mq.own
 replace b7 := b7.ch mq.ch
 replace vJ := vJ.ch mq.ch
 replace hB := hB.trans mq.fr
 refine GoR.op ((op_nilCheck rfl) _) rfl rfl ?_
 refine GoR.op ((op_fieldAddr Try.underlying72 rfl ti29 rfl (by decide)) _) rfl rfl ?_
 refine GoR.op ((op_fieldAddr Try.underlying29 rfl ti4 rfl (by decide)) _) rfl rfl ?_
 have hobt := oblkSt2 (v := .bool a1) (i := 1) (cs' := #[.int .i64 ((ix a0 (0 : Int)).length : Int), .bool a1, .slice none 0 0, .slice none 0 0, .slice none 0 0, .slice none 0 0, .slice none 0 0, .slice none 0 0, .int .i64 (0 : Int), .map (some B4), .slice none 0 0, .slice none 0 0, .slice none 0 0]) 0 hO rfl rfl rfl rfl
 obtain ⟨w24, tC, yn⟩ := hobt
 refine GoR.op (yn Try.underlying4 rfl ti4 (by exact rfl) (by exact rfl)) rfl rfl ?_
 replace hO := tC.own
 replace b7 := b7.ch tC.ch
 replace vJ := vJ.ch tC.ch
 replace hB := hB.trans tC.fr
 refine GoR.nil ?_
 refine Go1.seq ?_
 refine Go1.seq ?_
 refine Go1.cut [(0, .slice se a0.length sf), (1, .bool a1), (6, .pointer (some ⟨B10, 0, none⟩))] ⟨rfl, rfl, rfl, trivial⟩ ?_
 intro σ _
 refine Go1.region ?_
 refine GoR.op ((op_move rfl) _) rfl rfl ?_
 refine GoR.op ((op_len Try.underlying22 rfl) _) rfl rfl ?_
 refine GoR.op ((op_move rfl) _) rfl rfl ?_
 refine GoR.nil ?_
 refine Go1.block ?_
 have qo := Stp.nil (e := 26) (r := 1) hO
 replace hO := qo.own
 replace b7 := b7.ch qo.ch
 replace vJ := vJ.ch qo.ch
 replace hB := hB.trans qo.fr
 have G3 := Els.nil (Rp.sl (Rp.int .i64)) (bl (.row 26 1 none 0 0 [] :: [.blk B10 (.cells #[.int .i64 ((ix a0 (0 : Int)).length : Int), .bool a1, .slice none 0 0, .slice none 0 0, .slice none 0 0, .slice none 0 0, .slice none 0 0, .slice none 0 0, .int .i64 (0 : Int), .map (some B4), .slice none 0 0, .slice none 0 0, .slice none 0 0] 72 (0, 0)), .any (mapE (fun a : List UInt8 => Value.string (gstr a)) (fun a : Int => Value.int .i64 a) B4 (([] : List (Str × Int))))]) ++ A) w24
 refine Go1.loopW (S := Nat × List (List Int)) (fun s σ w => match s with | (k1_31, d_32) => ∃ (n37 : Nat), ∃ (p35 : Option Addr), ∃ (c36 : Nat), ∃ (fK : List Value), agrees σ [(1, .bool a1), (6, .pointer (some ⟨B10, 0, none⟩)), (39, .slice se a0.length sf), (40, .int .i64 (a0.length : Int)), (41, .int .i64 (k1_31 : Int))] ∧ Owns w0.heap.size w [.row 26 1 p35 n37 c36 fK, .blk B10 (.cells #[.int .i64 ((ix a0 (0 : Int)).length : Int), .bool a1, .slice p35 n37 c36, .slice none 0 0, .slice none 0 0, .slice none 0 0, .slice none 0 0, .slice none 0 0, .int .i64 (0 : Int), .map (some B4), .slice none 0 0, .slice none 0 0, .slice none 0 0] 72 (0, 0)), .any (mapE (fun a : List UInt8 => Value.string (gstr a)) (fun a : Int => Value.int .i64 a) B4 (([] : List (Str × Int))))] A ∧ Els (Rp.sl (Rp.int .i64)) (bl [.row 26 1 p35 n37 c36 fK, .blk B10 (.cells #[.int .i64 ((ix a0 (0 : Int)).length : Int), .bool a1, .slice p35 n37 c36, .slice none 0 0, .slice none 0 0, .slice none 0 0, .slice none 0 0, .slice none 0 0, .int .i64 (0 : Int), .map (some B4), .slice none 0 0, .slice none 0 0, .slice none 0 0] 72 (0, 0)), .any (mapE (fun a : List UInt8 => Value.string (gstr a)) (fun a : Int => Value.int .i64 a) B4 (([] : List (Str × Int))))] ++ A) w fK d_32 ∧ ISl (Rp.sl (Rp.int .i64)) (bl [.row 26 1 p35 n37 c36 fK, .blk B10 (.cells #[.int .i64 ((ix a0 (0 : Int)).length : Int), .bool a1, .slice p35 n37 c36, .slice none 0 0, .slice none 0 0, .slice none 0 0, .slice none 0 0, .slice none 0 0, .int .i64 (0 : Int), .map (some B4), .slice none 0 0, .slice none 0 0, .slice none 0 0] 72 (0, 0)), .any (mapE (fun a : List UInt8 => Value.string (gstr a)) (fun a : Int => Value.int .i64 a) B4 (([] : List (Str × Int))))] ++ A) w se sf a0 ∧ Fr (bl []) w0 (bl [.row 26 1 p35 n37 c36 fK, .blk B10 (.cells #[.int .i64 ((ix a0 (0 : Int)).length : Int), .bool a1, .slice p35 n37 c36, .slice none 0 0, .slice none 0 0, .slice none 0 0, .slice none 0 0, .slice none 0 0, .int .i64 (0 : Int), .map (some B4), .slice none 0 0, .slice none 0 0, .slice none 0 0] 72 (0, 0)), .any (mapE (fun a : List UInt8 => Value.string (gstr a)) (fun a : Int => Value.int .i64 a) B4 (([] : List (Str × Int))))]) w) H ⟨0, none, 0, [], ⟨rfl, rfl, rfl, rfl, rfl, trivial⟩, hO, G3, b7, hB⟩ ?_
 intro X1
 refine prE fun k1_31 => fun d_32 => ?_
 intro H hX1 σ w30
 refine exE fun n37 => exE fun p35 => exE fun c36 => exE fun fK => andE fun hag => andE fun hO => andE fun aj => andE fun b7 => fun hB => ?_
 dsimp only at H
 refine Go1.keep [(1, .bool a1), (6, .pointer (some ⟨B10, 0, none⟩)), (39, .slice se a0.length sf), (40, .int .i64 (a0.length : Int)), (41, .int .i64 (k1_31 : Int))] hag ?_
 refine Go1.seq ?_
 refine Go1.region ?_
 by_cases h38 : (k1_31 : Int) < (a0.length : Int)
 ·replace H := ifp h38 H
  refine GoR.op ((fun w => opB (op_lss rfl rfl w) (decide_eq_true h38)) _) rfl rfl ?_
  refine GoR.nil ?_
  refine Go1.seq ?_
  refine Go1.condT rfl rfl ?_
  refine Go1.skip ?_
  refine Go1.seq ?_
  refine Go1.block ?_
  refine Go1.seq ?_
  refine Go1.region ?_
  obtain ⟨h39, H⟩ := H
  obtain ⟨h40, H⟩ := H
  refine GoR.op ((op_index Try.underlying22 ti26 rfl rfl h39 h40 (b7.some_ h39 h40)) _) rfl rfl ?_
  have hobt := ldSl b7 h39 h40
  obtain ⟨p41, c42, oG, G4⟩ := hobt
  refine GoR.op ((G4 Try.underlying26 rfl rfl) _ (Same.refl _)) rfl rfl ?_
  refine GoR.op ((op_assign rfl) _) rfl rfl ?_
  refine GoR.nil ?_
  refine Go1.seq ?_
  refine Go1.seq ?_
  refine Go1.region ?_
  refine GoR.op ((op_move rfl) _) rfl rfl ?_
  refine GoR.op ((op_len Try.underlying26 rfl) _) rfl rfl ?_
  replace H := H oG.bd
  refine GoR.op ((op_move rfl) _) rfl rfl ?_
  refine GoR.op ((op_nilCheck rfl) _) rfl rfl ?_
  refine GoR.op ((op_fieldAddr Try.underlying72 rfl ti29 rfl (by decide)) _) rfl rfl ?_
  refine GoR.op ((op_fieldAddr Try.underlying29 rfl ti3 rfl (by decide)) _) rfl rfl ?_
  refine GoR.op ((oblk (i := 0) 1 hO rfl rfl Try.underlying3 rfl rfl) _ (Same.refl _)) rfl rfl ?_
  by_cases h45 : ((ix a0 (k1_31 : Int)).length : Int) = ((ix a0 (0 : Int)).length : Int)
  ·replace H := ifp h45 H
   refine GoR.op ((fun w => opB (op_neq rfl rfl w) (ndT h45)) _) rfl rfl ?_
   refine GoR.op ((op_move rfl) _) rfl rfl ?_
   refine GoR.op ((op_move rfl) _) rfl rfl ?_
   refine GoR.call (op_call body60 rfl (walk_trans_Valid hO.lt oG H)) rfl rfl ?_
   rintro v50 w47 ⟨r46, rfl, G5, H⟩
   have wl := Stp.same hO G5
   replace aj := aj.ch wl.ch
   replace hO := wl.own
   replace b7 := b7.ch wl.ch
   replace oG := oG.ch wl.ch
   replace hB := hB.trans wl.fr
   cases r46
   ·replace H := ifn Bool.false_ne_true H
    refine GoR.op ((op_not rfl) _) rfl rfl ?_
    refine GoR.op ((op_pickF rfl rfl rfl) _) rfl rfl ?_
    refine GoR.nil ?_
    refine Go1.condT rfl rfl ?_
    refine Go1.seq ?_
    refine Go1.region ?_
    refine GoR.op ((op_assign rfl) _) rfl rfl ?_
    refine GoR.op ((op_assign rfl) _) rfl rfl ?_
    refine GoR.nil ?_
    refine Go1.ret2 Try.func49 rfl ?_
    exact Or.inl ⟨((4 : Int)), rfl, hB.same, H⟩
   replace H := ifp rfl H
   refine GoR.op ((op_not rfl) _) rfl rfl ?_
   refine GoR.op ((op_pickF rfl rfl rfl) _) rfl rfl ?_
   refine GoR.nil ?_
   refine Go1.condF rfl rfl ?_
   refine Go1.skip ?_
   refine Go1.cut [(1, .bool a1), (6, .pointer (some ⟨B10, 0, none⟩)), (8, .slice p41 ((ix a0 (k1_31 : Int)).length) c42), (39, .slice se a0.length sf), (40, .int .i64 (a0.length : Int)), (41, .int .i64 (k1_31 : Int))] ⟨rfl, rfl, rfl, rfl, rfl, rfl, trivial⟩ ?_
   intro σ _
   refine Go1.drawS 1 [(0, .pure), (1, .pure), (2, .pure), (3, .pure), (4, .pure), (5, .stable), (6, .pure), (7, .loud), (8, .loud), (9, .last), (10, .pure), (11, .pure), (12, .pure), (13, .last)] mixed (by kernel_rfl) ?_
   intro w52 G6
   have oH := Stp.same hO G6
   replace aj := aj.ch oH.ch
   replace hO := oH.own
   replace b7 := b7.ch oH.ch
   replace oG := oG.ch oH.ch
   replace hB := hB.trans oH.fr
   refine GoQ.pure rfl (op_move rfl) rfl rfl ?_
   refine GoQ.pure rfl (op_move rfl) rfl rfl ?_
   refine GoQ.pure rfl (op_nilCheck rfl) rfl rfl ?_
   refine GoQ.pure rfl (op_fieldAddr Try.underlying72 rfl ti29 rfl (by decide)) rfl rfl ?_
   refine GoQ.pure rfl (op_fieldAddr Try.underlying29 rfl ti22 rfl (by decide)) rfl rfl ?_
   refine GoQ.stable rfl (oblk (i := 2) 1 hO rfl rfl Try.underlying22 rfl rfl) rfl rfl ?_
   refine GoQ.pure rfl (op_move rfl) rfl rfl ?_
   refine GoQ.call rfl (op_call body64 rfl (walk_slices_Clone_int hO.lt oG H)) (fun v w hr => by obtain ⟨_, _, _, _, _, _, hs, _, _, _⟩ := hr; assumption) rfl rfl ?_
   rintro v60 w57 ⟨r55, AB, xr, xt, IW, rfl, G7, hN59, zC, H⟩
   have wm := Stp.more hO G7 hN59
   replace aj := aj.ch wm.ch
   replace hO := wm.own
   replace b7 := b7.ch wm.ch
   replace oG := oG.ch wm.ch
   replace hB := hB.trans wm.fr
   replace zC := zC.ch (Ch.assoc _ _ _ _)
   have hobt := freeze 0 hO rfl zC
   obtain ⟨hO1, zD, uo, G8⟩ := hobt
   replace b7 := b7.ch zD
   replace oG := oG.ch zD
   replace aj := aj.ch zD
   replace hB := hB.trans (Owns.dropFr _ _ 0)
   replace hO := hO1; clear hO1
   have hobt := obuild (r := Rp.sl (Rp.int .i64)) (n := 1) (parts := [(0, .slice xr AB xt)]) (vs := [.slice xr AB xt]) (xs := [r55]) rfl Try.underlying22 ti26 hO (by decide) (by kernel_rfl) (Els.cons rfl ⟨xr, xt, congrArg some (congrArg (fun nn => Value.slice xr nn xt) G8), uo⟩ (Els.nil _ _ _) (by simp [mx])) rfl
   obtain ⟨w66, p67, u6, q8, G9, Df⟩ := hobt
   refine GoQ.loud rfl (Df rfl) G9 rfl rfl ?_
   replace aj := aj.ch u6.ch
   replace hO := u6.own
   replace b7 := b7.ch u6.ch
   replace oG := oG.ch u6.ch
   replace uo := uo.ch u6.ch
   replace hB := hB.trans u6.fr
   have hobt := freeze 0 hO rfl q8
   obtain ⟨hO1, yo, xH, Ha⟩ := hobt
   replace b7 := b7.ch yo
   replace oG := oG.ch yo
   replace uo := uo.ch yo
   replace aj := aj.ch yo
   replace hB := hB.trans (Owns.dropFr _ _ 0)
   replace hO := hO1; clear hO1
   obtain ⟨h76, H⟩ := H
   have hobt := oapp Try.underlying22 ti26 rfl 0 hO rfl aj xH Ha h76 (by decide)
   obtain ⟨w77, p78, c79, oa, oI, zE, Dg⟩ := hobt
   refine GoQ.last rfl (Dg (by exact rfl) (by exact rfl)) rfl rfl ?_
   replace hO := oI.own
   replace b7 := b7.ch oI.ch
   replace oG := oG.ch oI.ch
   replace uo := uo.ch oI.ch
   replace xH := xH.ch oI.ch
   replace hB := hB.trans oI.fr
   refine GoQ.pure rfl (op_nilCheck rfl) rfl rfl ?_
   refine GoQ.pure rfl (op_fieldAddr Try.underlying72 rfl ti29 rfl (by decide)) rfl rfl ?_
   refine GoQ.pure rfl (op_fieldAddr Try.underlying29 rfl ti22 rfl (by decide)) rfl rfl ?_
   have hobt := oblkSt2 (v := .slice p78 (n37 + 1) c79) (i := 2) (cs' := #[.int .i64 ((ix a0 (0 : Int)).length : Int), .bool a1, .slice p78 (n37 + 1) c79, .slice none 0 0, .slice none 0 0, .slice none 0 0, .slice none 0 0, .slice none 0 0, .int .i64 (0 : Int), .map (some B4), .slice none 0 0, .slice none 0 0, .slice none 0 0]) 1 hO rfl rfl rfl rfl
   obtain ⟨w85, uq, Dh⟩ := hobt
   refine GoQ.last rfl (Dh Try.underlying22 rfl ti22 (by exact rfl) (by exact rfl)) rfl rfl ?_
   replace zE := zE.ch uq.ch
   replace hO := uq.own
   replace b7 := b7.ch uq.ch
   replace oG := oG.ch uq.ch
   replace uo := uo.ch uq.ch
   replace xH := xH.ch uq.ch
   replace hB := hB.trans uq.fr
   refine GoQ.nil ?_
   refine Go1.inBlock ?_
   refine Go1.region ?_
   refine GoR.op ((op_add rfl rfl (wrap_i64 (natbd h38 b7.bd))) _) rfl rfl ?_
   refine GoR.op ((op_move rfl) _) rfl rfl ?_
   refine GoR.nil ?_
   exact hX1 _ H _ _ ⟨n37 + 1, p78, c79, oa, ⟨rfl, rfl, rfl, rfl, rfl, trivial⟩, hO, zE, b7, hB⟩
  replace H := ifn h45 H
  refine GoR.op ((fun w => opB (op_neq rfl rfl w) (ndF h45)) _) rfl rfl ?_
  refine GoR.op ((op_move rfl) _) rfl rfl ?_
  refine GoR.pass rfl rfl ?_
  refine GoR.pass rfl rfl ?_
  refine GoR.pass rfl rfl ?_
  refine GoR.op ((op_pickT rfl rfl rfl) _) rfl rfl ?_
  refine GoR.nil ?_
  refine Go1.condT rfl rfl ?_
  refine Go1.seq ?_
  refine Go1.cut [] trivial ?_
  intro σ _
  refine Go1.region ?_
  refine GoR.op ((op_assign rfl) _) rfl rfl ?_
  refine GoR.op ((op_assign rfl) _) rfl rfl ?_
  refine GoR.nil ?_
  refine Go1.ret2 Try.func49 rfl ?_
  exact Or.inl ⟨((4 : Int)), rfl, hB.same, H⟩
 replace H := ifn h38 H
 refine GoR.op ((fun w => opB (op_lss rfl rfl w) (decide_eq_false h38)) _) rfl rfl ?_
 refine GoR.nil ?_
 refine Go1.seq ?_
 refine Go1.condF rfl rfl ?_
 refine Go1.exit rfl ?_
 refine Go1.seq ?_
 refine Go1.region ?_
 refine GoR.op ((op_assign rfl) _) rfl rfl ?_
 refine GoR.nil ?_
 refine Go1.seq ?_
 refine Go1.seq ?_
 refine Go1.region ?_
 refine GoR.op ((op_move rfl) _) rfl rfl ?_
 refine GoR.nil ?_
 cases a1
 ·replace H := ifn Bool.false_ne_true H
  refine Go1.condF rfl rfl ?_
  refine Go1.skip ?_
  refine Go1.seq ?_
  refine Go1.seq ?_
  refine Go1.region ?_
  refine GoR.op ((op_move rfl) _) rfl rfl ?_
  refine GoR.op ((op_nilCheck rfl) _) rfl rfl ?_
  refine GoR.op ((op_fieldAddr Try.underlying72 rfl ti29 rfl (by decide)) _) rfl rfl ?_
  refine GoR.op ((op_fieldAddr Try.underlying29 rfl ti22 rfl (by decide)) _) rfl rfl ?_
  refine GoR.op ((oblk (i := 2) 1 hO rfl rfl Try.underlying22 rfl rfl) _ (Same.refl _)) rfl rfl ?_
  refine GoR.op ((op_lenN Try.underlying22 rfl (aj.neq hO 0 rfl)) _) rfl rfl ?_
  refine GoR.op ((op_move rfl) _) rfl rfl ?_
  refine GoR.nil ?_
  refine Go1.block ?_
  have xv := Stp.nil (e := 26) (r := 1) hO
  replace aj := aj.ch xv.ch
  replace hO := xv.own
  replace b7 := b7.ch xv.ch
  replace hB := hB.trans xv.fr
  have dH := Els.nil (Rp.sl (Rp.int .i64)) (bl (.row 26 1 none 0 0 [] :: [.row 26 1 p35 n37 c36 fK, .blk B10 (.cells #[.int .i64 ((ix a0 (0 : Int)).length : Int), .bool false, .slice p35 n37 c36, .slice none 0 0, .slice none 0 0, .slice none 0 0, .slice none 0 0, .slice none 0 0, .int .i64 (0 : Int), .map (some B4), .slice none 0 0, .slice none 0 0, .slice none 0 0] 72 (0, 0)), .any (mapE (fun a : List UInt8 => Value.string (gstr a)) (fun a : Int => Value.int .i64 a) B4 (([] : List (Str × Int))))]) ++ A) w30
  have wn := Stp.nil (e := 3) (r := 1) hO
  replace dH := dH.ch wn.ch
  replace aj := aj.ch wn.ch
  replace hO := wn.own
  replace b7 := b7.ch wn.ch
  replace hB := hB.trans wn.fr
  have kn := Els.nil (Rp.int .i64) (bl (.row 3 1 none 0 0 [] :: [.row 26 1 none 0 0 [], .row 26 1 p35 n37 c36 fK, .blk B10 (.cells #[.int .i64 ((ix a0 (0 : Int)).length : Int), .bool false, .slice p35 n37 c36, .slice none 0 0, .slice none 0 0, .slice none 0 0, .slice none 0 0, .slice none 0 0, .int .i64 (0 : Int), .map (some B4), .slice none 0 0, .slice none 0 0, .slice none 0 0] 72 (0, 0)), .any (mapE (fun a : List UInt8 => Value.string (gstr a)) (fun a : Int => Value.int .i64 a) B4 (([] : List (Str × Int))))]) ++ A) w30
  have u7 := Stp.nil (e := 3) (r := 1) hO
  replace kn := kn.ch u7.ch
  replace dH := dH.ch u7.ch
  replace aj := aj.ch u7.ch
  replace hO := u7.own
  replace b7 := b7.ch u7.ch
  replace hB := hB.trans u7.fr
  have ur := Els.nil (Rp.int .i64) (bl (.row 3 1 none 0 0 [] :: [.row 3 1 none 0 0 [], .row 26 1 none 0 0 [], .row 26 1 p35 n37 c36 fK, .blk B10 (.cells #[.int .i64 ((ix a0 (0 : Int)).length : Int), .bool false, .slice p35 n37 c36, .slice none 0 0, .slice none 0 0, .slice none 0 0, .slice none 0 0, .slice none 0 0, .int .i64 (0 : Int), .map (some B4), .slice none 0 0, .slice none 0 0, .slice none 0 0] 72 (0, 0)), .any (mapE (fun a : List UInt8 => Value.string (gstr a)) (fun a : Int => Value.int .i64 a) B4 (([] : List (Str × Int))))]) ++ A) w30
  have ut := Stp.nil (e := 39) (r := 2) hO
  replace ur := ur.ch ut.ch
  replace kn := kn.ch ut.ch
  replace dH := dH.ch ut.ch
  replace aj := aj.ch ut.ch
  replace hO := ut.own
  replace b7 := b7.ch ut.ch
  replace hB := hB.trans ut.fr
  have vK := Els.nil (rpRule) (bl (.row 39 2 none 0 0 [] :: [.row 3 1 none 0 0 [], .row 3 1 none 0 0 [], .row 26 1 none 0 0 [], .row 26 1 p35 n37 c36 fK, .blk B10 (.cells #[.int .i64 ((ix a0 (0 : Int)).length : Int), .bool false, .slice p35 n37 c36, .slice none 0 0, .slice none 0 0, .slice none 0 0, .slice none 0 0, .slice none 0 0, .int .i64 (0 : Int), .map (some B4), .slice none 0 0, .slice none 0 0, .slice none 0 0] 72 (0, 0)), .any (mapE (fun a : List UInt8 => Value.string (gstr a)) (fun a : Int => Value.int .i64 a) B4 (([] : List (Str × Int))))]) ++ A) w30
  have j3 := Stp.nil (e := 9) (r := 1) hO
  replace vK := vK.ch j3.ch
  replace ur := ur.ch j3.ch
  replace kn := kn.ch j3.ch
  replace dH := dH.ch j3.ch
  replace aj := aj.ch j3.ch
  replace hO := j3.own
  replace b7 := b7.ch j3.ch
  replace hB := hB.trans j3.fr
  have wo := Els.nil (Rp.str) (bl (.row 9 1 none 0 0 [] :: [.row 39 2 none 0 0 [], .row 3 1 none 0 0 [], .row 3 1 none 0 0 [], .row 26 1 none 0 0 [], .row 26 1 p35 n37 c36 fK, .blk B10 (.cells #[.int .i64 ((ix a0 (0 : Int)).length : Int), .bool false, .slice p35 n37 c36, .slice none 0 0, .slice none 0 0, .slice none 0 0, .slice none 0 0, .slice none 0 0, .int .i64 (0 : Int), .map (some B4), .slice none 0 0, .slice none 0 0, .slice none 0 0] 72 (0, 0)), .any (mapE (fun a : List UInt8 => Value.string (gstr a)) (fun a : Int => Value.int .i64 a) B4 (([] : List (Str × Int))))]) ++ A) w30
  have jh := Stp.nil (e := 3) (r := 1) hO
  replace wo := wo.ch jh.ch
  replace vK := vK.ch jh.ch
  replace ur := ur.ch jh.ch
  replace kn := kn.ch jh.ch
  replace dH := dH.ch jh.ch
  replace aj := aj.ch jh.ch
  replace hO := jh.own
  replace b7 := b7.ch jh.ch
  replace hB := hB.trans jh.fr
  have yp := Els.nil (Rp.int .i64) (bl (.row 3 1 none 0 0 [] :: [.row 9 1 none 0 0 [], .row 39 2 none 0 0 [], .row 3 1 none 0 0 [], .row 3 1 none 0 0 [], .row 26 1 none 0 0 [], .row 26 1 p35 n37 c36 fK, .blk B10 (.cells #[.int .i64 ((ix a0 (0 : Int)).length : Int), .bool false, .slice p35 n37 c36, .slice none 0 0, .slice none 0 0, .slice none 0 0, .slice none 0 0, .slice none 0 0, .int .i64 (0 : Int), .map (some B4), .slice none 0 0, .slice none 0 0, .slice none 0 0] 72 (0, 0)), .any (mapE (fun a : List UInt8 => Value.string (gstr a)) (fun a : Int => Value.int .i64 a) B4 (([] : List (Str × Int))))]) ++ A) w30
  have rk := Stp.nil (e := 3) (r := 1) hO
  replace yp := yp.ch rk.ch
  replace wo := wo.ch rk.ch
  replace vK := vK.ch rk.ch
  replace ur := ur.ch rk.ch
  replace kn := kn.ch rk.ch
  replace dH := dH.ch rk.ch
  replace aj := aj.ch rk.ch
  replace hO := rk.own
  replace b7 := b7.ch rk.ch
  replace hB := hB.trans rk.fr
  have Di := Els.nil (Rp.int .i64) (bl (.row 3 1 none 0 0 [] :: [.row 3 1 none 0 0 [], .row 9 1 none 0 0 [], .row 39 2 none 0 0 [], .row 3 1 none 0 0 [], .row 3 1 none 0 0 [], .row 26 1 none 0 0 [], .row 26 1 p35 n37 c36 fK, .blk B10 (.cells #[.int .i64 ((ix a0 (0 : Int)).length : Int), .bool false, .slice p35 n37 c36, .slice none 0 0, .slice none 0 0, .slice none 0 0, .slice none 0 0, .slice none 0 0, .int .i64 (0 : Int), .map (some B4), .slice none 0 0, .slice none 0 0, .slice none 0 0] 72 (0, 0)), .any (mapE (fun a : List UInt8 => Value.string (gstr a)) (fun a : Int => Value.int .i64 a) B4 (([] : List (Str × Int))))]) ++ A) w30
  refine Go1.loopW (S := Nat × List Int × List Int × List Str × List Rule × List Int × List Int × List (List Int) × (List (Str × Int))) (fun s σ w => match s with | (k2_110, d_111, d_117, d_123, d_129, d_135, d_141, d_147, m2_153) => ∃ (iQ : Nat), ∃ (kd : Option Addr), ∃ (ke : Nat), ∃ (qp : List Value), ∃ (iW : Nat), ∃ (jl : Option Addr), ∃ (jM : Nat), ∃ (oJ : List Value), ∃ (iX : Nat), ∃ (kg : Option Addr), ∃ (kh : Nat), ∃ (oK : List Value), ∃ (iY : Nat), ∃ (jN : Option Addr), ∃ (jO : Nat), ∃ (oL : List Value), ∃ (iZ : Nat), ∃ (ko : Option Addr), ∃ (kp : Nat), ∃ (oM : List Value), ∃ (i4 : Nat), ∃ (kS : Option Addr), ∃ (kT : Nat), ∃ (oN : List Value), ∃ (i5 : Nat), ∃ (lx : Option Addr), ∃ (ly : Nat), ∃ (oO : List Value), agrees σ [(6, .pointer (some ⟨B10, 0, none⟩)), (9, .int .i64 (-1 : Int)), (85, .slice p35 n37 c36), (86, .int .i64 (d_32.length : Int)), (87, .int .i64 (k2_110 : Int))] ∧ Owns w0.heap.size w [.row 3 1 kd iQ ke qp, .row 3 1 jl iW jM oJ, .row 9 1 kg iX kh oK, .row 39 2 jN iY jO oL, .row 3 1 ko iZ kp oM, .row 3 1 kS i4 kT oN, .row 26 1 lx i5 ly oO, .row 26 1 p35 n37 c36 fK, .blk B10 (.cells #[.int .i64 ((ix a0 (0 : Int)).length : Int), .bool false, .slice p35 n37 c36, .slice lx i5 ly, .slice kS i4 kT, .slice ko iZ kp, .slice none 0 0, .slice jN iY jO, .int .i64 (0 : Int), .map (some B4), .slice kg iX kh, .slice jl iW jM, .slice kd iQ ke] 72 (0, 0)), .any (mapE (fun a : List UInt8 => Value.string (gstr a)) (fun a : Int => Value.int .i64 a) B4 m2_153)] A ∧ Els (Rp.int .i64) (bl [.row 3 1 kd iQ ke qp, .row 3 1 jl iW jM oJ, .row 9 1 kg iX kh oK, .row 39 2 jN iY jO oL, .row 3 1 ko iZ kp oM, .row 3 1 kS i4 kT oN, .row 26 1 lx i5 ly oO, .row 26 1 p35 n37 c36 fK, .blk B10 (.cells #[.int .i64 ((ix a0 (0 : Int)).length : Int), .bool false, .slice p35 n37 c36, .slice lx i5 ly, .slice kS i4 kT, .slice ko iZ kp, .slice none 0 0, .slice jN iY jO, .int .i64 (0 : Int), .map (some B4), .slice kg iX kh, .slice jl iW jM, .slice kd iQ ke] 72 (0, 0)), .any (mapE (fun a : List UInt8 => Value.string (gstr a)) (fun a : Int => Value.int .i64 a) B4 m2_153)] ++ A) w qp d_111 ∧ Els (Rp.int .i64) (bl [.row 3 1 kd iQ ke qp, .row 3 1 jl iW jM oJ, .row 9 1 kg iX kh oK, .row 39 2 jN iY jO oL, .row 3 1 ko iZ kp oM, .row 3 1 kS i4 kT oN, .row 26 1 lx i5 ly oO, .row 26 1 p35 n37 c36 fK, .blk B10 (.cells #[.int .i64 ((ix a0 (0 : Int)).length : Int), .bool false, .slice p35 n37 c36, .slice lx i5 ly, .slice kS i4 kT, .slice ko iZ kp, .slice none 0 0, .slice jN iY jO, .int .i64 (0 : Int), .map (some B4), .slice kg iX kh, .slice jl iW jM, .slice kd iQ ke] 72 (0, 0)), .any (mapE (fun a : List UInt8 => Value.string (gstr a)) (fun a : Int => Value.int .i64 a) B4 m2_153)] ++ A) w oJ d_117 ∧ Els (Rp.str) (bl [.row 3 1 kd iQ ke qp, .row 3 1 jl iW jM oJ, .row 9 1 kg iX kh oK, .row 39 2 jN iY jO oL, .row 3 1 ko iZ kp oM, .row 3 1 kS i4 kT oN, .row 26 1 lx i5 ly oO, .row 26 1 p35 n37 c36 fK, .blk B10 (.cells #[.int .i64 ((ix a0 (0 : Int)).length : Int), .bool false, .slice p35 n37 c36, .slice lx i5 ly, .slice kS i4 kT, .slice ko iZ kp, .slice none 0 0, .slice jN iY jO, .int .i64 (0 : Int), .map (some B4), .slice kg iX kh, .slice jl iW jM, .slice kd iQ ke] 72 (0, 0)), .any (mapE (fun a : List UInt8 => Value.string (gstr a)) (fun a : Int => Value.int .i64 a) B4 m2_153)] ++ A) w oK d_123 ∧ Els (rpRule) (bl [.row 3 1 kd iQ ke qp, .row 3 1 jl iW jM oJ, .row 9 1 kg iX kh oK, .row 39 2 jN iY jO oL, .row 3 1 ko iZ kp oM, .row 3 1 kS i4 kT oN, .row 26 1 lx i5 ly oO, .row 26 1 p35 n37 c36 fK, .blk B10 (.cells #[.int .i64 ((ix a0 (0 : Int)).length : Int), .bool false, .slice p35 n37 c36, .slice lx i5 ly, .slice kS i4 kT, .slice ko iZ kp, .slice none 0 0, .slice jN iY jO, .int .i64 (0 : Int), .map (some B4), .slice kg iX kh, .slice jl iW jM, .slice kd iQ ke] 72 (0, 0)), .any (mapE (fun a : List UInt8 => Value.string (gstr a)) (fun a : Int => Value.int .i64 a) B4 m2_153)] ++ A) w oL d_129 ∧ Els (Rp.int .i64) (bl [.row 3 1 kd iQ ke qp, .row 3 1 jl iW jM oJ, .row 9 1 kg iX kh oK, .row 39 2 jN iY jO oL, .row 3 1 ko iZ kp oM, .row 3 1 kS i4 kT oN, .row 26 1 lx i5 ly oO, .row 26 1 p35 n37 c36 fK, .blk B10 (.cells #[.int .i64 ((ix a0 (0 : Int)).length : Int), .bool false, .slice p35 n37 c36, .slice lx i5 ly, .slice kS i4 kT, .slice ko iZ kp, .slice none 0 0, .slice jN iY jO, .int .i64 (0 : Int), .map (some B4), .slice kg iX kh, .slice jl iW jM, .slice kd iQ ke] 72 (0, 0)), .any (mapE (fun a : List UInt8 => Value.string (gstr a)) (fun a : Int => Value.int .i64 a) B4 m2_153)] ++ A) w oM d_135 ∧ Els (Rp.int .i64) (bl [.row 3 1 kd iQ ke qp, .row 3 1 jl iW jM oJ, .row 9 1 kg iX kh oK, .row 39 2 jN iY jO oL, .row 3 1 ko iZ kp oM, .row 3 1 kS i4 kT oN, .row 26 1 lx i5 ly oO, .row 26 1 p35 n37 c36 fK, .blk B10 (.cells #[.int .i64 ((ix a0 (0 : Int)).length : Int), .bool false, .slice p35 n37 c36, .slice lx i5 ly, .slice kS i4 kT, .slice ko iZ kp, .slice none 0 0, .slice jN iY jO, .int .i64 (0 : Int), .map (some B4), .slice kg iX kh, .slice jl iW jM, .slice kd iQ ke] 72 (0, 0)), .any (mapE (fun a : List UInt8 => Value.string (gstr a)) (fun a : Int => Value.int .i64 a) B4 m2_153)] ++ A) w oN d_141 ∧ Els (Rp.sl (Rp.int .i64)) (bl [.row 3 1 kd iQ ke qp, .row 3 1 jl iW jM oJ, .row 9 1 kg iX kh oK, .row 39 2 jN iY jO oL, .row 3 1 ko iZ kp oM, .row 3 1 kS i4 kT oN, .row 26 1 lx i5 ly oO, .row 26 1 p35 n37 c36 fK, .blk B10 (.cells #[.int .i64 ((ix a0 (0 : Int)).length : Int), .bool false, .slice p35 n37 c36, .slice lx i5 ly, .slice kS i4 kT, .slice ko iZ kp, .slice none 0 0, .slice jN iY jO, .int .i64 (0 : Int), .map (some B4), .slice kg iX kh, .slice jl iW jM, .slice kd iQ ke] 72 (0, 0)), .any (mapE (fun a : List UInt8 => Value.string (gstr a)) (fun a : Int => Value.int .i64 a) B4 m2_153)] ++ A) w oO d_147 ∧ Els (Rp.sl (Rp.int .i64)) (bl [.row 3 1 kd iQ ke qp, .row 3 1 jl iW jM oJ, .row 9 1 kg iX kh oK, .row 39 2 jN iY jO oL, .row 3 1 ko iZ kp oM, .row 3 1 kS i4 kT oN, .row 26 1 lx i5 ly oO, .row 26 1 p35 n37 c36 fK, .blk B10 (.cells #[.int .i64 ((ix a0 (0 : Int)).length : Int), .bool false, .slice p35 n37 c36, .slice lx i5 ly, .slice kS i4 kT, .slice ko iZ kp, .slice none 0 0, .slice jN iY jO, .int .i64 (0 : Int), .map (some B4), .slice kg iX kh, .slice jl iW jM, .slice kd iQ ke] 72 (0, 0)), .any (mapE (fun a : List UInt8 => Value.string (gstr a)) (fun a : Int => Value.int .i64 a) B4 m2_153)] ++ A) w fK d_32 ∧ Fr (bl []) w0 (bl [.row 3 1 kd iQ ke qp, .row 3 1 jl iW jM oJ, .row 9 1 kg iX kh oK, .row 39 2 jN iY jO oL, .row 3 1 ko iZ kp oM, .row 3 1 kS i4 kT oN, .row 26 1 lx i5 ly oO, .row 26 1 p35 n37 c36 fK, .blk B10 (.cells #[.int .i64 ((ix a0 (0 : Int)).length : Int), .bool false, .slice p35 n37 c36, .slice lx i5 ly, .slice kS i4 kT, .slice ko iZ kp, .slice none 0 0, .slice jN iY jO, .int .i64 (0 : Int), .map (some B4), .slice kg iX kh, .slice jl iW jM, .slice kd iQ ke] 72 (0, 0)), .any (mapE (fun a : List UInt8 => Value.string (gstr a)) (fun a : Int => Value.int .i64 a) B4 m2_153)]) w) H ⟨0, none, 0, [], 0, none, 0, [], 0, none, 0, [], 0, none, 0, [], 0, none, 0, [], 0, none, 0, [], 0, none, 0, [], ⟨rfl, rfl, rfl, rfl, rfl, trivial⟩, hO, Di, yp, wo, vK, ur, kn, dH, aj, hB⟩ ?_
  intro X2
  refine prE fun k2_110 => prE fun d_111 => prE fun d_117 => prE fun d_123 => prE fun d_129 => prE fun d_135 => prE fun d_141 => prE fun d_147 => fun m2_153 => ?_
  intro H hX2 σ wN
  refine exE fun iQ => exE fun kd => exE fun ke => exE fun qp => exE fun iW => exE fun jl => exE fun jM => exE fun oJ => exE fun iX => exE fun kg => exE fun kh => exE fun oK => exE fun iY => exE fun jN => exE fun jO => exE fun oL => exE fun iZ => exE fun ko => exE fun kp => exE fun oM => exE fun i4 => exE fun kS => exE fun kT => exE fun oN => exE fun i5 => exE fun lx => exE fun ly => exE fun oO => andE fun hag => andE fun hO => andE fun ct => andE fun cA => andE fun cH => andE fun cB => andE fun dc => andE fun dr => andE fun dI => andE fun aj => fun hB => ?_
  dsimp only at H
  refine Go1.keep [(6, .pointer (some ⟨B10, 0, none⟩)), (9, .int .i64 (-1 : Int)), (85, .slice p35 n37 c36), (86, .int .i64 (d_32.length : Int)), (87, .int .i64 (k2_110 : Int))] hag ?_
  refine Go1.seq ?_
  refine Go1.region ?_
  by_cases tm : (k2_110 : Int) < (d_32.length : Int)
  ·replace H := ifp tm H
   refine GoR.op ((fun w => opB (op_lss rfl rfl w) (decide_eq_true tm)) _) rfl rfl ?_
   refine GoR.nil ?_
   refine Go1.seq ?_
   refine Go1.condT rfl rfl ?_
   refine Go1.skip ?_
   refine Go1.seq ?_
   refine Go1.block ?_
   refine Go1.seq ?_
   refine Go1.region ?_
   refine GoR.op ((op_move rfl) _) rfl rfl ?_
   obtain ⟨sU, H⟩ := H
   obtain ⟨vL, H⟩ := H
   refine GoR.op ((op_index Try.underlying22 ti26 rfl rfl sU (ltn (aj.neq hO 7 rfl) vL) (aj.psome hO 7 rfl sU vL)) _) rfl rfl ?_
   have hobt := oldSl 7 hO rfl aj sU vL
   obtain ⟨AU, AV, cY, Dj⟩ := hobt
   refine GoR.op ((Dj Try.underlying26 rfl rfl) _ (Same.refl _)) rfl rfl ?_
   refine GoR.op ((op_assign rfl) _) rfl rfl ?_
   refine GoR.op ((op_assign rfl) _) rfl rfl ?_
   refine GoR.nil ?_
   refine Go1.seq ?_
   refine Go1.region ?_
   refine GoR.op ((op_move rfl) _) rfl rfl ?_
   obtain ⟨Hb, H⟩ := H
   refine GoR.op ((op_add rfl rfl (wrap_i64 Hb)) _) rfl rfl ?_
   refine GoR.op ((op_conv Try.underlying3 Try.underlying21 rfl rfl) _) rfl rfl ?_
   obtain ⟨xI, H⟩ := H
   obtain ⟨xJ, H⟩ := H
   refine GoR.op ((op_convRS Try.underlying21 Try.underlying9 rfl xI xJ) _) rfl rfl ?_
   refine GoR.op ((op_assign rfl) _) rfl rfl ?_
   refine GoR.nil ?_
   refine Go1.seq ?_
   refine Go1.drawS 0 [(0, .pure), (1, .pure), (2, .pure), (3, .stable), (4, .pure), (5, .loud), (6, .stable), (7, .pure), (8, .pure), (9, .pure), (10, .pure), (11, .pure)] mixed (by kernel_rfl) ?_
   intro Jy Dk
   have qD := Stp.same hO Dk
   replace ct := ct.ch qD.ch
   replace cA := cA.ch qD.ch
   replace cH := cH.ch qD.ch
   replace cB := cB.ch qD.ch
   replace dc := dc.ch qD.ch
   replace dr := dr.ch qD.ch
   replace dI := dI.ch qD.ch
   replace aj := aj.ch qD.ch
   replace hO := qD.own
   replace cY := cY.ch qD.ch
   replace hB := hB.trans qD.fr
   refine GoQ.pure rfl (op_move rfl) rfl rfl ?_
   refine GoQ.pure rfl (op_nilCheck rfl) rfl rfl ?_
   refine GoQ.pure rfl (op_fieldAddr Try.underlying72 rfl ti69 rfl (by decide)) rfl rfl ?_
   refine GoQ.stable rfl (oblk (i := 9) 8 hO rfl rfl Try.underlying69 rfl rfl) rfl rfl ?_
   refine GoQ.pure rfl (op_move rfl) rfl rfl ?_
   refine GoQ.call rfl (op_call body61 rfl (walk_enumerate_text hO.lt cY H)) (fun v w hr => by obtain ⟨_, _, hs, _, _⟩ := hr; assumption) rfl rfl ?_
   rintro Jz JA ⟨r167, rfl, Dl, IK, H⟩
   have qE := Stp.same hO Dl
   replace ct := ct.ch qE.ch
   replace cA := cA.ch qE.ch
   replace cH := cH.ch qE.ch
   replace cB := cB.ch qE.ch
   replace dc := dc.ch qE.ch
   replace dr := dr.ch qE.ch
   replace dI := dI.ch qE.ch
   replace aj := aj.ch qE.ch
   replace hO := qE.own
   replace cY := cY.ch qE.ch
   replace hB := hB.trans qE.fr
   by_cases uD : mhas m2_153 r167 = true
   ·replace H := ifp uD H
    refine GoQ.stable rfl (olookT (a := r167) (MK.str Try.underlying9) 9 hO rfl Try.underlying69 rfl rfl uD) rfl rfl ?_
    refine GoQ.pure rfl (op_move rfl) rfl rfl ?_
    refine GoQ.pure rfl (op_extract rfl rfl) rfl rfl ?_
    refine GoQ.pure rfl (op_extract rfl rfl) rfl rfl ?_
    refine GoQ.pure rfl (op_assign rfl) rfl rfl ?_
    refine GoQ.pure rfl (op_assign rfl) rfl rfl ?_
    refine GoQ.nil ?_
    refine Go1.seq ?_
    refine Go1.seq ?_
    refine Go1.cut [(6, .pointer (some ⟨B10, 0, none⟩)), (9, .int .i64 (-1 : Int)), (10, .int .i64 (k2_110 : Int)), (11, .slice AU ((ix d_32 (k2_110 : Int)).length) AV), (12, .string (gstr (chr (IntKind.i32.wrap ((97 : Int) + (k2_110 : Int)))))), (13, .int .i64 (mgt m2_153 r167)), (14, .bool true), (85, .slice p35 n37 c36), (86, .int .i64 (d_32.length : Int)), (87, .int .i64 (k2_110 : Int))] ⟨rfl, rfl, rfl, rfl, rfl, rfl, rfl, rfl, rfl, rfl, trivial⟩ ?_
    intro σ _
    refine Go1.region ?_
    refine GoR.op ((op_move rfl) _) rfl rfl ?_
    refine GoR.nil ?_
    refine Go1.condT rfl rfl ?_
    refine Go1.drawS 5 [(0, .pure), (1, .pure), (2, .pure), (3, .pure), (4, .pure), (5, .stable), (6, .pure), (7, .pure), (8, .pure), (9, .pure), (10, .stable), (11, .pure), (12, .pure), (13, .stable), (14, .pure), (15, .loud), (16, .last), (17, .pure), (18, .pure), (19, .pure), (20, .last)] mixed (by kernel_rfl) ?_
    intro JB Dm
    have qF := Stp.same hO Dm
    replace ct := ct.ch qF.ch
    replace cA := cA.ch qF.ch
    replace cH := cH.ch qF.ch
    replace cB := cB.ch qF.ch
    replace dc := dc.ch qF.ch
    replace dr := dr.ch qF.ch
    replace dI := dI.ch qF.ch
    replace aj := aj.ch qF.ch
    replace hO := qF.own
    replace cY := cY.ch qF.ch
    replace hB := hB.trans qF.fr
    refine GoQ.pure rfl (op_move rfl) rfl rfl ?_
    refine GoQ.pure rfl (op_move rfl) rfl rfl ?_
    refine GoQ.pure rfl (op_nilCheck rfl) rfl rfl ?_
    refine GoQ.pure rfl (op_fieldAddr Try.underlying72 rfl ti29 rfl (by decide)) rfl rfl ?_
    refine GoQ.pure rfl (op_fieldAddr Try.underlying29 rfl ti27 rfl (by decide)) rfl rfl ?_
    refine GoQ.stable rfl (oblk (i := 7) 8 hO rfl rfl Try.underlying27 rfl rfl) rfl rfl ?_
    refine GoQ.pure rfl (op_move rfl) rfl rfl ?_
    refine GoQ.pure rfl (op_move rfl) rfl rfl ?_
    refine GoQ.pure rfl (op_nilCheck rfl) rfl rfl ?_
    refine GoQ.pure rfl (op_fieldAddr Try.underlying72 rfl ti70 rfl (by decide)) rfl rfl ?_
    refine GoQ.stable rfl (oblk (i := 10) 8 hO rfl rfl Try.underlying70 rfl rfl) rfl rfl ?_
    refine GoQ.pure rfl (op_move rfl) rfl rfl ?_
    obtain ⟨yq, H⟩ := H
    obtain ⟨yr, H⟩ := H
    refine GoQ.pure rfl (op_index Try.underlying70 ti9 rfl rfl yq (ltn (cH.neq hO 2 rfl) yr) (cH.psome hO 2 rfl yq yr)) rfl rfl ?_
    refine GoQ.stable rfl (oldStr 2 hO rfl cH yq yr Try.underlying9 rfl rfl) rfl rfl ?_
    have hle179 := Els.str_le cH yq yr
    refine GoQ.pure rfl (op_build Try.underlying39 ti39 (pl := [(0, 1), (1, 1)]) (vs := [(0, .string (gstr (chr (IntKind.i32.wrap ((97 : Int) + (k2_110 : Int)))))), (1, .string (gstr (ix d_123 (mgt m2_153 r167))))]) (cs := #[.string (gstr (chr (IntKind.i32.wrap ((97 : Int) + (k2_110 : Int))))), .string (gstr (ix d_123 (mgt m2_153 r167)))]) (by kernel_rfl) rfl (by kernel_rfl)) rfl rfl ?_
    have hobt := obuildN (r := rpRule) (n := 1) (parts := [(0, .agg #[.string (gstr (chr (IntKind.i32.wrap ((97 : Int) + (k2_110 : Int))))), .string (gstr (ix d_123 (mgt m2_153 r167)))])]) (vs := [.string (gstr (chr (IntKind.i32.wrap ((97 : Int) + (k2_110 : Int))))), .string (gstr (ix d_123 (mgt m2_153 r167)))]) (xs := [(⟨chr (IntKind.i32.wrap ((97 : Int) + (k2_110 : Int))), ix d_123 (mgt m2_153 r167)⟩ : Rule)]) Try.underlying27 ti39 hO (by decide) (by decide) (by kernel_rfl) (Els.flat1 (⟨chr (IntKind.i32.wrap ((97 : Int) + (k2_110 : Int))), ix d_123 (mgt m2_153 r167)⟩ : Rule) ⟨(chr_le _), hle179⟩) rfl
    obtain ⟨JC, JD, j4, Dn, Do, AW⟩ := hobt
    refine GoQ.loud rfl (AW rfl) Do rfl rfl ?_
    replace ct := ct.ch j4.ch
    replace cA := cA.ch j4.ch
    replace cH := cH.ch j4.ch
    replace cB := cB.ch j4.ch
    replace dc := dc.ch j4.ch
    replace dr := dr.ch j4.ch
    replace dI := dI.ch j4.ch
    replace aj := aj.ch j4.ch
    replace hO := j4.own
    replace cY := cY.ch j4.ch
    replace hB := hB.trans j4.fr
    have hobt := freeze 0 hO rfl Dn
    obtain ⟨hO1, sr, qq, Dp⟩ := hobt
    dsimp only [eS, eZ] at hO1 sr qq
    replace cY := cY.ch sr
    replace ct := ct.ch sr
    replace cA := cA.ch sr
    replace cH := cH.ch sr
    replace cB := cB.ch sr
    replace dc := dc.ch sr
    replace dr := dr.ch sr
    replace dI := dI.ch sr
    replace aj := aj.ch sr
    replace hB := hB.trans (Owns.dropFr _ _ 0)
    dsimp only [eS, eZ] at hB
    replace hO := hO1; clear hO1
    obtain ⟨Hc, H⟩ := H
    have hobt := oapp Try.underlying27 ti39 rfl 3 hO rfl cB qq Dp Hc (by decide)
    obtain ⟨JE, yt, yu, Dq, pg, rs, AX⟩ := hobt
    dsimp only [sS, sZ] at pg rs
    refine GoQ.last rfl (AX (by exact rfl) (by exact rfl)) rfl rfl ?_
    replace ct := ct.ch pg.ch
    replace cA := cA.ch pg.ch
    replace cH := cH.ch pg.ch
    replace dc := dc.ch pg.ch
    replace dr := dr.ch pg.ch
    replace dI := dI.ch pg.ch
    replace aj := aj.ch pg.ch
    replace hO := pg.own
    replace cY := cY.ch pg.ch
    replace qq := qq.ch pg.ch
    replace hB := hB.trans pg.fr
    refine GoQ.pure rfl (op_nilCheck rfl) rfl rfl ?_
    refine GoQ.pure rfl (op_fieldAddr Try.underlying72 rfl ti29 rfl (by decide)) rfl rfl ?_
    refine GoQ.pure rfl (op_fieldAddr Try.underlying29 rfl ti27 rfl (by decide)) rfl rfl ?_
    have hobt := oblkSt2 (v := .slice yt (iY + 1) yu) (i := 7) (cs' := #[.int .i64 ((ix a0 (0 : Int)).length : Int), .bool false, .slice p35 n37 c36, .slice lx i5 ly, .slice kS i4 kT, .slice ko iZ kp, .slice none 0 0, .slice yt (iY + 1) yu, .int .i64 (0 : Int), .map (some B4), .slice kg iX kh, .slice jl iW jM, .slice kd iQ ke]) 8 hO rfl rfl rfl rfl
    obtain ⟨JF, ob, AY⟩ := hobt
    dsimp only [sS, sZ] at ob
    refine GoQ.last rfl (AY Try.underlying27 rfl ti27 (by exact rfl) (by exact rfl)) rfl rfl ?_
    replace ct := ct.ch ob.ch
    replace cA := cA.ch ob.ch
    replace cH := cH.ch ob.ch
    replace rs := rs.ch ob.ch
    replace dc := dc.ch ob.ch
    replace dr := dr.ch ob.ch
    replace dI := dI.ch ob.ch
    replace aj := aj.ch ob.ch
    replace hO := ob.own
    replace cY := cY.ch ob.ch
    replace qq := qq.ch ob.ch
    replace hB := hB.trans ob.fr
    refine GoQ.nil ?_
    refine Go1.cut [(6, .pointer (some ⟨B10, 0, none⟩)), (9, .int .i64 (-1 : Int)), (13, .int .i64 (mgt m2_153 r167)), (85, .slice p35 n37 c36), (86, .int .i64 (d_32.length : Int)), (87, .int .i64 (k2_110 : Int))] ⟨rfl, rfl, rfl, rfl, rfl, rfl, trivial⟩ ?_
    intro σ _
    refine Go1.region ?_
    refine GoR.op ((op_move rfl) _) rfl rfl ?_
    refine GoR.op ((op_move rfl) _) rfl rfl ?_
    refine GoR.op ((op_nilCheck rfl) _) rfl rfl ?_
    refine GoR.op ((op_fieldAddr Try.underlying72 rfl ti26 rfl (by decide)) _) rfl rfl ?_
    refine GoR.op ((oblk (i := 12) 8 hO rfl rfl Try.underlying26 rfl rfl) _ (Same.refl _)) rfl rfl ?_
    refine GoR.op ((op_move rfl) _) rfl rfl ?_
    have hobt := obuild (r := Rp.int .i64) (n := 1) (parts := [(0, .int .i64 (mgt m2_153 r167))]) (vs := [.int .i64 (mgt m2_153 r167)]) (xs := [(mgt m2_153 r167)]) rfl Try.underlying26 ti3 hO (by decide) (by kernel_rfl) (Els.cons rfl rfl (Els.nil _ _ _) (by simp [mx])) rfl
    obtain ⟨He, JG, ph, Dr, I0, AZ⟩ := hobt
    refine GoR.op (AZ rfl) rfl rfl ?_
    replace ct := ct.ch ph.ch
    replace cA := cA.ch ph.ch
    replace cH := cH.ch ph.ch
    replace rs := rs.ch ph.ch
    replace dc := dc.ch ph.ch
    replace dr := dr.ch ph.ch
    replace dI := dI.ch ph.ch
    replace aj := aj.ch ph.ch
    replace hO := ph.own
    replace cY := cY.ch ph.ch
    replace qq := qq.ch ph.ch
    replace hB := hB.trans ph.fr
    have hobt := freeze 0 hO rfl Dr
    obtain ⟨hO1, rL, u9, Ds⟩ := hobt
    dsimp only [eS, eZ] at hO1 rL u9
    replace cY := cY.ch rL
    replace qq := qq.ch rL
    replace ct := ct.ch rL
    replace cA := cA.ch rL
    replace cH := cH.ch rL
    replace rs := rs.ch rL
    replace dc := dc.ch rL
    replace dr := dr.ch rL
    replace dI := dI.ch rL
    replace aj := aj.ch rL
    replace hB := hB.trans (Owns.dropFr _ _ 0)
    dsimp only [eS, eZ] at hB
    replace hO := hO1; clear hO1
    obtain ⟨xK, H⟩ := H
    have hobt := oapp Try.underlying26 ti3 rfl 0 hO rfl ct u9 Ds xK (by decide)
    obtain ⟨Hf, zF, zG, Dt, oc, xw, A0⟩ := hobt
    dsimp only [sS, sZ] at oc xw
    refine GoR.op (A0 (by exact rfl) (by exact rfl)) rfl rfl ?_
    replace cA := cA.ch oc.ch
    replace cH := cH.ch oc.ch
    replace rs := rs.ch oc.ch
    replace dc := dc.ch oc.ch
    replace dr := dr.ch oc.ch
    replace dI := dI.ch oc.ch
    replace aj := aj.ch oc.ch
    replace hO := oc.own
    replace cY := cY.ch oc.ch
    replace qq := qq.ch oc.ch
    replace u9 := u9.ch oc.ch
    replace hB := hB.trans oc.fr
    refine GoR.op ((op_nilCheck rfl) _) rfl rfl ?_
    refine GoR.op ((op_fieldAddr Try.underlying72 rfl ti26 rfl (by decide)) _) rfl rfl ?_
    have hobt := oblkSt2 (v := .slice zF (iQ + 1) zG) (i := 12) (cs' := #[.int .i64 ((ix a0 (0 : Int)).length : Int), .bool false, .slice p35 n37 c36, .slice lx i5 ly, .slice kS i4 kT, .slice ko iZ kp, .slice none 0 0, .slice yt (iY + 1) yu, .int .i64 (0 : Int), .map (some B4), .slice kg iX kh, .slice jl iW jM, .slice zF (iQ + 1) zG]) 8 hO rfl rfl rfl rfl
    obtain ⟨JH, fH, A2⟩ := hobt
    dsimp only [sS, sZ] at fH
    refine GoR.op (A2 Try.underlying26 rfl ti26 (by exact rfl) (by exact rfl)) rfl rfl ?_
    replace xw := xw.ch fH.ch
    replace cA := cA.ch fH.ch
    replace cH := cH.ch fH.ch
    replace rs := rs.ch fH.ch
    replace dc := dc.ch fH.ch
    replace dr := dr.ch fH.ch
    replace dI := dI.ch fH.ch
    replace aj := aj.ch fH.ch
    replace hO := fH.own
    replace cY := cY.ch fH.ch
    replace qq := qq.ch fH.ch
    replace u9 := u9.ch fH.ch
    replace hB := hB.trans fH.fr
    refine GoR.nil ?_
    refine Go1.inBlock ?_
    refine Go1.region ?_
    refine GoR.op ((op_add rfl rfl (wrap_i64 (natbd tm aj.bd))) _) rfl rfl ?_
    refine GoR.op ((op_move rfl) _) rfl rfl ?_
    refine GoR.nil ?_
    exact hX2 _ H _ _ ⟨iQ + 1, zF, zG, Dt, iW, jl, jM, oJ, iX, kg, kh, oK, iY + 1, yt, yu, Dq, iZ, ko, kp, oM, i4, kS, kT, oN, i5, lx, ly, oO, ⟨rfl, rfl, rfl, rfl, rfl, trivial⟩, hO, xw, cA, cH, rs, dc, dr, dI, aj, hB⟩
   replace H := ifn uD H
   refine GoQ.stable rfl (olookF (a := r167) (MK.str Try.underlying9) 9 hO rfl Try.underlying69 ti3 rfl rfl uD) rfl rfl ?_
   refine GoQ.pure rfl (op_move rfl) rfl rfl ?_
   refine GoQ.pure rfl (op_extract rfl rfl) rfl rfl ?_
   refine GoQ.pure rfl (op_extract rfl rfl) rfl rfl ?_
   refine GoQ.pure rfl (op_assign rfl) rfl rfl ?_
   refine GoQ.pure rfl (op_assign rfl) rfl rfl ?_
   refine GoQ.nil ?_
   refine Go1.seq ?_
   refine Go1.seq ?_
   refine Go1.region ?_
   refine GoR.op ((op_move rfl) _) rfl rfl ?_
   refine GoR.nil ?_
   refine Go1.condF rfl rfl ?_
   refine Go1.cut [(6, .pointer (some ⟨B10, 0, none⟩)), (9, .int .i64 (-1 : Int)), (10, .int .i64 (k2_110 : Int)), (11, .slice AU ((ix d_32 (k2_110 : Int)).length) AV), (12, .string (gstr (chr (IntKind.i32.wrap ((97 : Int) + (k2_110 : Int)))))), (85, .slice p35 n37 c36), (86, .int .i64 (d_32.length : Int)), (87, .int .i64 (k2_110 : Int))] ⟨rfl, rfl, rfl, rfl, rfl, rfl, rfl, rfl, trivial⟩ ?_
   intro σ _
   refine Go1.region ?_
   refine GoR.op ((op_move rfl) _) rfl rfl ?_
   refine GoR.op ((op_move rfl) _) rfl rfl ?_
   refine GoR.call (op_call body64 rfl (walk_slices_Clone_int hO.lt cY H)) rfl rfl ?_
   rintro JI JJ ⟨r224, uE, sD, sE, IL, rfl, Du, hN228, ss, H⟩
   have pi := Stp.more hO Du hN228
   dsimp only [List.cons_append, List.nil_append] at pi
   replace ct := ct.ch pi.ch
   replace cA := cA.ch pi.ch
   replace cH := cH.ch pi.ch
   replace cB := cB.ch pi.ch
   replace dc := dc.ch pi.ch
   replace dr := dr.ch pi.ch
   replace dI := dI.ch pi.ch
   replace aj := aj.ch pi.ch
   replace hO := pi.own
   replace cY := cY.ch pi.ch
   replace hB := hB.trans pi.fr
   replace ss := ss.ch (Ch.assoc _ _ _ _)
   refine GoR.op ((op_move rfl) _) rfl rfl ?_
   refine GoR.op ((op_move rfl) _) rfl rfl ?_
   refine GoR.op ((op_move rfl) _) rfl rfl ?_
   refine GoR.op ((op_move rfl) _) rfl rfl ?_
   refine GoR.inl (vs := [.pointer (some ⟨B10, 0, none⟩), .slice sD uE sE, .int .i64 (-1 : Int), .int .i64 (k2_110 : Int), .string (gstr (chr (IntKind.i32.wrap ((97 : Int) + (k2_110 : Int))))), .int .i64 (-1 : Int)]) (caps := []) rfl rfl body65 Try.func65 rfl Try.ntmps65 rfl rfl rfl ?_
   intro RhR232 hR232
   refine Go1.seq ?_
   refine Go1.region ?_
   refine GoR.op ((op_assign rfl) _) rfl rfl ?_
   refine GoR.nil ?_
   refine Go1.seq ?_
   refine Go1.region ?_
   refine GoR.op ((op_move rfl) _) rfl rfl ?_
   refine GoR.op ((op_nilCheck rfl) _) rfl rfl ?_
   refine GoR.op ((op_fieldAddr Try.underlying72 rfl ti29 rfl (by decide)) _) rfl rfl ?_
   refine GoR.op ((op_fieldAddr Try.underlying29 rfl ti22 rfl (by decide)) _) rfl rfl ?_
   refine GoR.op ((oblk (i := 3) 9 hO rfl rfl Try.underlying22 rfl rfl) _ (Same.refl _)) rfl rfl ?_
   refine GoR.op ((op_lenN Try.underlying22 rfl (dI.neq hO 7 rfl)) _) rfl rfl ?_
   refine GoR.op ((op_assign rfl) _) rfl rfl ?_
   refine GoR.nil ?_
   refine Go1.seq ?_
   refine Go1.drawS 1 [(0, .pure), (1, .pure), (2, .pure), (3, .stable), (4, .pure), (6, .pure), (5, .loud), (7, .last)] mixed (by kernel_rfl) ?_
   intro JK Dv
   have pk := Stp.same hO Dv
   replace ss := ss.ch pk.ch
   replace ct := ct.ch pk.ch
   replace cA := cA.ch pk.ch
   replace cH := cH.ch pk.ch
   replace cB := cB.ch pk.ch
   replace dc := dc.ch pk.ch
   replace dr := dr.ch pk.ch
   replace dI := dI.ch pk.ch
   replace aj := aj.ch pk.ch
   replace hO := pk.own
   replace cY := cY.ch pk.ch
   replace hB := hB.trans pk.fr
   refine GoQ.pure rfl (op_move rfl) rfl rfl ?_
   refine GoQ.pure rfl (op_nilCheck rfl) rfl rfl ?_
   refine GoQ.pure rfl (op_fieldAddr Try.underlying72 rfl ti69 rfl (by decide)) rfl rfl ?_
   refine GoQ.stable rfl (oblk (i := 9) 9 hO rfl rfl Try.underlying69 rfl rfl) rfl rfl ?_
   refine GoQ.pure rfl (op_move rfl) rfl rfl ?_
   refine GoQ.pure rfl (op_move rfl) rfl rfl ?_
   have hobt := rowlend 0 hO rfl ss
   obtain ⟨Dw, Dx⟩ := hobt
   have hOc238 := hO.drop 0
   refine GoQ.call rfl (op_call body61 (show ([.slice sD uE sE] : List Value) = [.slice sD r224.length sE] from by rw [← Dx]) (walk_enumerate_text hOc238.lt Dw H)) (fun v w hr => by obtain ⟨_, _, hs, _, _⟩ := hr; assumption) rfl rfl ?_
   rintro JL Hg ⟨r239, rfl, yv, IM, H⟩
   have pm := Stp.same hO yv
   replace ss := ss.ch pm.ch
   replace ct := ct.ch pm.ch
   replace cA := cA.ch pm.ch
   replace cH := cH.ch pm.ch
   replace cB := cB.ch pm.ch
   replace dc := dc.ch pm.ch
   replace dr := dr.ch pm.ch
   replace dI := dI.ch pm.ch
   replace aj := aj.ch pm.ch
   replace hO := pm.own
   replace cY := cY.ch pm.ch
   replace hB := hB.trans pm.fr
   have hobt := omapUpd (MK.str Try.underlying9) 10 hO rfl Try.underlying69 r239 (d_147.length : Int)
   obtain ⟨JM, od, A3⟩ := hobt
   dsimp only [sS, sZ] at od
   refine GoQ.last rfl (A3 (by exact rfl) (by exact rfl) (by exact rfl)) rfl rfl ?_
   replace ss := ss.ch od.ch
   replace ct := ct.ch od.ch
   replace cA := cA.ch od.ch
   replace cH := cH.ch od.ch
   replace cB := cB.ch od.ch
   replace dc := dc.ch od.ch
   replace dr := dr.ch od.ch
   replace dI := dI.ch od.ch
   replace aj := aj.ch od.ch
   replace hO := od.own
   replace cY := cY.ch od.ch
   replace hB := hB.trans od.fr
   refine GoQ.nil ?_
   refine Go1.seq ?_
   refine Go1.cut [(0, .pointer (some ⟨B10, 0, none⟩)), (1, .slice sD uE sE), (2, .int .i64 (-1 : Int)), (3, .int .i64 (k2_110 : Int)), (4, .string (gstr (chr (IntKind.i32.wrap ((97 : Int) + (k2_110 : Int)))))), (5, .int .i64 (-1 : Int)), (13, .int .i64 (d_147.length : Int))] ⟨rfl, rfl, rfl, rfl, rfl, rfl, rfl, trivial⟩ ?_
   intro σ _
   refine Go1.region ?_
   refine GoR.op ((op_move rfl) _) rfl rfl ?_
   refine GoR.op ((op_move rfl) _) rfl rfl ?_
   refine GoR.op ((op_nilCheck rfl) _) rfl rfl ?_
   refine GoR.op ((op_fieldAddr Try.underlying72 rfl ti29 rfl (by decide)) _) rfl rfl ?_
   refine GoR.op ((op_fieldAddr Try.underlying29 rfl ti22 rfl (by decide)) _) rfl rfl ?_
   refine GoR.op ((oblk (i := 3) 9 hO rfl rfl Try.underlying22 rfl rfl) _ (Same.refl _)) rfl rfl ?_
   refine GoR.op ((op_move rfl) _) rfl rfl ?_
   have hobt := freeze 0 hO rfl ss
   obtain ⟨hO1, su, d7, Dy⟩ := hobt
   dsimp only [eS, eZ] at hO1 su d7
   replace cY := cY.ch su
   replace ct := ct.ch su
   replace cA := cA.ch su
   replace cH := cH.ch su
   replace cB := cB.ch su
   replace dc := dc.ch su
   replace dr := dr.ch su
   replace dI := dI.ch su
   replace aj := aj.ch su
   replace hB := hB.trans (Owns.dropFr _ _ 0)
   dsimp only [eS, eZ] at hB
   replace hO := hO1; clear hO1
   have hobt := obuild (r := Rp.sl (Rp.int .i64)) (n := 1) (parts := [(0, .slice sD uE sE)]) (vs := [.slice sD uE sE]) (xs := [r224]) rfl Try.underlying22 ti26 hO (by decide) (by kernel_rfl) (Els.cons rfl ⟨sD, sE, congrArg some (congrArg (fun nn => Value.slice sD nn sE) Dy), d7⟩ (Els.nil _ _ _) (by simp [mx])) rfl
   obtain ⟨JN, JO, po, Dz, I1, A4⟩ := hobt
   refine GoR.op (A4 rfl) rfl rfl ?_
   replace ct := ct.ch po.ch
   replace cA := cA.ch po.ch
   replace cH := cH.ch po.ch
   replace cB := cB.ch po.ch
   replace dc := dc.ch po.ch
   replace dr := dr.ch po.ch
   replace dI := dI.ch po.ch
   replace aj := aj.ch po.ch
   replace hO := po.own
   replace cY := cY.ch po.ch
   replace d7 := d7.ch po.ch
   replace hB := hB.trans po.fr
   have hobt := freeze 0 hO rfl Dz
   obtain ⟨hO1, rM, en, DA⟩ := hobt
   dsimp only [eS, eZ] at hO1 rM en
   replace cY := cY.ch rM
   replace d7 := d7.ch rM
   replace ct := ct.ch rM
   replace cA := cA.ch rM
   replace cH := cH.ch rM
   replace cB := cB.ch rM
   replace dc := dc.ch rM
   replace dr := dr.ch rM
   replace dI := dI.ch rM
   replace aj := aj.ch rM
   replace hB := hB.trans (Owns.dropFr _ _ 0)
   dsimp only [eS, eZ] at hB
   replace hO := hO1; clear hO1
   obtain ⟨Hh, H⟩ := H
   have hobt := oapp Try.underlying22 ti26 rfl 6 hO rfl dI en DA Hh (by decide)
   obtain ⟨JP, uF, uG, DB, oe, et, A5⟩ := hobt
   dsimp only [sS, sZ] at oe et
   refine GoR.op (A5 (by exact rfl) (by exact rfl)) rfl rfl ?_
   replace ct := ct.ch oe.ch
   replace cA := cA.ch oe.ch
   replace cH := cH.ch oe.ch
   replace cB := cB.ch oe.ch
   replace dc := dc.ch oe.ch
   replace dr := dr.ch oe.ch
   replace aj := aj.ch oe.ch
   replace hO := oe.own
   replace cY := cY.ch oe.ch
   replace d7 := d7.ch oe.ch
   replace en := en.ch oe.ch
   replace hB := hB.trans oe.fr
   refine GoR.op ((op_nilCheck rfl) _) rfl rfl ?_
   refine GoR.op ((op_fieldAddr Try.underlying72 rfl ti29 rfl (by decide)) _) rfl rfl ?_
   refine GoR.op ((op_fieldAddr Try.underlying29 rfl ti22 rfl (by decide)) _) rfl rfl ?_
   have hobt := oblkSt2 (v := .slice uF (i5 + 1) uG) (i := 3) (cs' := #[.int .i64 ((ix a0 (0 : Int)).length : Int), .bool false, .slice p35 n37 c36, .slice uF (i5 + 1) uG, .slice kS i4 kT, .slice ko iZ kp, .slice none 0 0, .slice jN iY jO, .int .i64 (0 : Int), .map (some B4), .slice kg iX kh, .slice jl iW jM, .slice kd iQ ke]) 8 hO rfl rfl rfl rfl
   obtain ⟨JQ, nu, A6⟩ := hobt
   dsimp only [sS, sZ] at nu
   refine GoR.op (A6 Try.underlying22 rfl ti22 (by exact rfl) (by exact rfl)) rfl rfl ?_
   replace ct := ct.ch nu.ch
   replace cA := cA.ch nu.ch
   replace cH := cH.ch nu.ch
   replace cB := cB.ch nu.ch
   replace dc := dc.ch nu.ch
   replace dr := dr.ch nu.ch
   replace et := et.ch nu.ch
   replace aj := aj.ch nu.ch
   replace hO := nu.own
   replace cY := cY.ch nu.ch
   replace d7 := d7.ch nu.ch
   replace en := en.ch nu.ch
   replace hB := hB.trans nu.fr
   refine GoR.nil ?_
   refine Go1.seq ?_
   refine Go1.region ?_
   refine GoR.op ((op_move rfl) _) rfl rfl ?_
   refine GoR.op ((op_move rfl) _) rfl rfl ?_
   refine GoR.op ((op_nilCheck rfl) _) rfl rfl ?_
   refine GoR.op ((op_fieldAddr Try.underlying72 rfl ti29 rfl (by decide)) _) rfl rfl ?_
   refine GoR.op ((op_fieldAddr Try.underlying29 rfl ti26 rfl (by decide)) _) rfl rfl ?_
   refine GoR.op ((oblk (i := 4) 8 hO rfl rfl Try.underlying26 rfl rfl) _ (Same.refl _)) rfl rfl ?_
   refine GoR.op ((op_move rfl) _) rfl rfl ?_
   have hobt := obuild (r := Rp.int .i64) (n := 1) (parts := [(0, .int .i64 (-1 : Int))]) (vs := [.int .i64 (-1 : Int)]) (xs := [(-1 : Int)]) rfl Try.underlying26 ti3 hO (by decide) (by kernel_rfl) (Els.cons rfl rfl (Els.nil _ _ _) (by simp [mx])) rfl
   obtain ⟨JR, JS, og, DD, I2, A7⟩ := hobt
   refine GoR.op (A7 rfl) rfl rfl ?_
   replace ct := ct.ch og.ch
   replace cA := cA.ch og.ch
   replace cH := cH.ch og.ch
   replace cB := cB.ch og.ch
   replace dc := dc.ch og.ch
   replace dr := dr.ch og.ch
   replace et := et.ch og.ch
   replace aj := aj.ch og.ch
   replace hO := og.own
   replace cY := cY.ch og.ch
   replace d7 := d7.ch og.ch
   replace en := en.ch og.ch
   replace hB := hB.trans og.fr
   have hobt := freeze 0 hO rfl DD
   obtain ⟨hO1, ru, fC, DE⟩ := hobt
   dsimp only [eS, eZ] at hO1 ru fC
   replace cY := cY.ch ru
   replace d7 := d7.ch ru
   replace en := en.ch ru
   replace ct := ct.ch ru
   replace cA := cA.ch ru
   replace cH := cH.ch ru
   replace cB := cB.ch ru
   replace dc := dc.ch ru
   replace dr := dr.ch ru
   replace et := et.ch ru
   replace aj := aj.ch ru
   replace hB := hB.trans (Owns.dropFr _ _ 0)
   dsimp only [eS, eZ] at hB
   replace hO := hO1; clear hO1
   obtain ⟨Hi, H⟩ := H
   have hobt := oapp Try.underlying26 ti3 rfl 5 hO rfl dr fC DE Hi (by decide)
   obtain ⟨Hj, vM, vN, DF, nv, fQ, A8⟩ := hobt
   dsimp only [sS, sZ] at nv fQ
   refine GoR.op (A8 (by exact rfl) (by exact rfl)) rfl rfl ?_
   replace ct := ct.ch nv.ch
   replace cA := cA.ch nv.ch
   replace cH := cH.ch nv.ch
   replace cB := cB.ch nv.ch
   replace dc := dc.ch nv.ch
   replace et := et.ch nv.ch
   replace aj := aj.ch nv.ch
   replace hO := nv.own
   replace cY := cY.ch nv.ch
   replace d7 := d7.ch nv.ch
   replace en := en.ch nv.ch
   replace fC := fC.ch nv.ch
   replace hB := hB.trans nv.fr
   refine GoR.op ((op_nilCheck rfl) _) rfl rfl ?_
   refine GoR.op ((op_fieldAddr Try.underlying72 rfl ti29 rfl (by decide)) _) rfl rfl ?_
   refine GoR.op ((op_fieldAddr Try.underlying29 rfl ti26 rfl (by decide)) _) rfl rfl ?_
   have hobt := oblkSt2 (v := .slice vM (i4 + 1) vN) (i := 4) (cs' := #[.int .i64 ((ix a0 (0 : Int)).length : Int), .bool false, .slice p35 n37 c36, .slice uF (i5 + 1) uG, .slice vM (i4 + 1) vN, .slice ko iZ kp, .slice none 0 0, .slice jN iY jO, .int .i64 (0 : Int), .map (some B4), .slice kg iX kh, .slice jl iW jM, .slice kd iQ ke]) 8 hO rfl rfl rfl rfl
   obtain ⟨JT, m3, A9⟩ := hobt
   dsimp only [sS, sZ] at m3
   refine GoR.op (A9 Try.underlying26 rfl ti26 (by exact rfl) (by exact rfl)) rfl rfl ?_
   replace ct := ct.ch m3.ch
   replace cA := cA.ch m3.ch
   replace cH := cH.ch m3.ch
   replace cB := cB.ch m3.ch
   replace dc := dc.ch m3.ch
   replace fQ := fQ.ch m3.ch
   replace et := et.ch m3.ch
   replace aj := aj.ch m3.ch
   replace hO := m3.own
   replace cY := cY.ch m3.ch
   replace d7 := d7.ch m3.ch
   replace en := en.ch m3.ch
   replace fC := fC.ch m3.ch
   replace hB := hB.trans m3.fr
   refine GoR.nil ?_
   refine Go1.seq ?_
   refine Go1.cut [(0, .pointer (some ⟨B10, 0, none⟩)), (3, .int .i64 (k2_110 : Int)), (4, .string (gstr (chr (IntKind.i32.wrap ((97 : Int) + (k2_110 : Int)))))), (5, .int .i64 (-1 : Int)), (13, .int .i64 (d_147.length : Int))] ⟨rfl, rfl, rfl, rfl, rfl, trivial⟩ ?_
   intro σ _
   refine Go1.region ?_
   refine GoR.op ((op_move rfl) _) rfl rfl ?_
   refine GoR.op ((op_move rfl) _) rfl rfl ?_
   refine GoR.op ((op_nilCheck rfl) _) rfl rfl ?_
   refine GoR.op ((op_fieldAddr Try.underlying72 rfl ti29 rfl (by decide)) _) rfl rfl ?_
   refine GoR.op ((op_fieldAddr Try.underlying29 rfl ti26 rfl (by decide)) _) rfl rfl ?_
   refine GoR.op ((oblk (i := 5) 8 hO rfl rfl Try.underlying26 rfl rfl) _ (Same.refl _)) rfl rfl ?_
   refine GoR.op ((op_move rfl) _) rfl rfl ?_
   have hobt := obuild (r := Rp.int .i64) (n := 1) (parts := [(0, .int .i64 (k2_110 : Int))]) (vs := [.int .i64 (k2_110 : Int)]) (xs := [(k2_110 : Int)]) rfl Try.underlying26 ti3 hO (by decide) (by kernel_rfl) (Els.cons rfl rfl (Els.nil _ _ _) (by simp [mx])) rfl
   obtain ⟨JU, JV, nw, DG, I3, Ba⟩ := hobt
   refine GoR.op (Ba rfl) rfl rfl ?_
   replace ct := ct.ch nw.ch
   replace cA := cA.ch nw.ch
   replace cH := cH.ch nw.ch
   replace cB := cB.ch nw.ch
   replace dc := dc.ch nw.ch
   replace fQ := fQ.ch nw.ch
   replace et := et.ch nw.ch
   replace aj := aj.ch nw.ch
   replace hO := nw.own
   replace cY := cY.ch nw.ch
   replace d7 := d7.ch nw.ch
   replace en := en.ch nw.ch
   replace fC := fC.ch nw.ch
   replace hB := hB.trans nw.fr
   have hobt := freeze 0 hO rfl DG
   obtain ⟨hO1, qU, iD, DH⟩ := hobt
   dsimp only [eS, eZ] at hO1 qU iD
   replace cY := cY.ch qU
   replace d7 := d7.ch qU
   replace en := en.ch qU
   replace fC := fC.ch qU
   replace ct := ct.ch qU
   replace cA := cA.ch qU
   replace cH := cH.ch qU
   replace cB := cB.ch qU
   replace dc := dc.ch qU
   replace fQ := fQ.ch qU
   replace et := et.ch qU
   replace aj := aj.ch qU
   replace hB := hB.trans (Owns.dropFr _ _ 0)
   dsimp only [eS, eZ] at hB
   replace hO := hO1; clear hO1
   obtain ⟨Hk, H⟩ := H
   have hobt := oapp Try.underlying26 ti3 rfl 4 hO rfl dc iD DH Hk (by decide)
   obtain ⟨JW, wO, wP, DJ, m5, iT, Bb⟩ := hobt
   dsimp only [sS, sZ] at m5 iT
   refine GoR.op (Bb (by exact rfl) (by exact rfl)) rfl rfl ?_
   replace ct := ct.ch m5.ch
   replace cA := cA.ch m5.ch
   replace cH := cH.ch m5.ch
   replace cB := cB.ch m5.ch
   replace fQ := fQ.ch m5.ch
   replace et := et.ch m5.ch
   replace aj := aj.ch m5.ch
   replace hO := m5.own
   replace cY := cY.ch m5.ch
   replace d7 := d7.ch m5.ch
   replace en := en.ch m5.ch
   replace fC := fC.ch m5.ch
   replace iD := iD.ch m5.ch
   replace hB := hB.trans m5.fr
   refine GoR.op ((op_nilCheck rfl) _) rfl rfl ?_
   refine GoR.op ((op_fieldAddr Try.underlying72 rfl ti29 rfl (by decide)) _) rfl rfl ?_
   refine GoR.op ((op_fieldAddr Try.underlying29 rfl ti26 rfl (by decide)) _) rfl rfl ?_
   have hobt := oblkSt2 (v := .slice wO (iZ + 1) wP) (i := 5) (cs' := #[.int .i64 ((ix a0 (0 : Int)).length : Int), .bool false, .slice p35 n37 c36, .slice uF (i5 + 1) uG, .slice vM (i4 + 1) vN, .slice wO (iZ + 1) wP, .slice none 0 0, .slice jN iY jO, .int .i64 (0 : Int), .map (some B4), .slice kg iX kh, .slice jl iW jM, .slice kd iQ ke]) 8 hO rfl rfl rfl rfl
   obtain ⟨JX, mv, Bc⟩ := hobt
   dsimp only [sS, sZ] at mv
   refine GoR.op (Bc Try.underlying26 rfl ti26 (by exact rfl) (by exact rfl)) rfl rfl ?_
   replace ct := ct.ch mv.ch
   replace cA := cA.ch mv.ch
   replace cH := cH.ch mv.ch
   replace cB := cB.ch mv.ch
   replace iT := iT.ch mv.ch
   replace fQ := fQ.ch mv.ch
   replace et := et.ch mv.ch
   replace aj := aj.ch mv.ch
   replace hO := mv.own
   replace cY := cY.ch mv.ch
   replace d7 := d7.ch mv.ch
   replace en := en.ch mv.ch
   replace fC := fC.ch mv.ch
   replace iD := iD.ch mv.ch
   replace hB := hB.trans mv.fr
   refine GoR.nil ?_
   refine Go1.seq ?_
   refine Go1.region ?_
   refine GoR.op ((op_move rfl) _) rfl rfl ?_
   refine GoR.op ((op_move rfl) _) rfl rfl ?_
   refine GoR.op ((op_nilCheck rfl) _) rfl rfl ?_
   refine GoR.op ((op_fieldAddr Try.underlying72 rfl ti70 rfl (by decide)) _) rfl rfl ?_
   refine GoR.op ((oblk (i := 10) 8 hO rfl rfl Try.underlying70 rfl rfl) _ (Same.refl _)) rfl rfl ?_
   refine GoR.op ((op_move rfl) _) rfl rfl ?_
   have hobt := obuild (r := Rp.str) (n := 1) (parts := [(0, .string (gstr (chr (IntKind.i32.wrap ((97 : Int) + (k2_110 : Int))))))]) (vs := [.string (gstr (chr (IntKind.i32.wrap ((97 : Int) + (k2_110 : Int)))))]) (xs := [chr (IntKind.i32.wrap ((97 : Int) + (k2_110 : Int)))]) rfl Try.underlying70 ti9 hO (by decide) (by kernel_rfl) (Els.cons rfl ⟨rfl, (chr_le _)⟩ (Els.nil _ _ _) (by simp [mx])) rfl
   obtain ⟨Hl, JY, m6, DK, I4, Bd⟩ := hobt
   refine GoR.op (Bd rfl) rfl rfl ?_
   replace ct := ct.ch m6.ch
   replace cA := cA.ch m6.ch
   replace cH := cH.ch m6.ch
   replace cB := cB.ch m6.ch
   replace iT := iT.ch m6.ch
   replace fQ := fQ.ch m6.ch
   replace et := et.ch m6.ch
   replace aj := aj.ch m6.ch
   replace hO := m6.own
   replace cY := cY.ch m6.ch
   replace d7 := d7.ch m6.ch
   replace en := en.ch m6.ch
   replace fC := fC.ch m6.ch
   replace iD := iD.ch m6.ch
   replace hB := hB.trans m6.fr
   have hobt := freeze 0 hO rfl DK
   obtain ⟨hO1, qr, kW, DL⟩ := hobt
   dsimp only [eS, eZ] at hO1 qr kW
   replace cY := cY.ch qr
   replace d7 := d7.ch qr
   replace en := en.ch qr
   replace fC := fC.ch qr
   replace iD := iD.ch qr
   replace ct := ct.ch qr
   replace cA := cA.ch qr
   replace cH := cH.ch qr
   replace cB := cB.ch qr
   replace iT := iT.ch qr
   replace fQ := fQ.ch qr
   replace et := et.ch qr
   replace aj := aj.ch qr
   replace hB := hB.trans (Owns.dropFr _ _ 0)
   dsimp only [eS, eZ] at hB
   replace hO := hO1; clear hO1
   obtain ⟨Hm, H⟩ := H
   have hobt := oapp Try.underlying70 ti9 rfl 2 hO rfl cH kW DL Hm (by decide)
   obtain ⟨JZ, xL, xM, DM, mw, mr, Be⟩ := hobt
   dsimp only [sS, sZ] at mw mr
   refine GoR.op (Be (by exact rfl) (by exact rfl)) rfl rfl ?_
   replace ct := ct.ch mw.ch
   replace cA := cA.ch mw.ch
   replace cB := cB.ch mw.ch
   replace iT := iT.ch mw.ch
   replace fQ := fQ.ch mw.ch
   replace et := et.ch mw.ch
   replace aj := aj.ch mw.ch
   replace hO := mw.own
   replace cY := cY.ch mw.ch
   replace d7 := d7.ch mw.ch
   replace en := en.ch mw.ch
   replace fC := fC.ch mw.ch
   replace iD := iD.ch mw.ch
   replace kW := kW.ch mw.ch
   replace hB := hB.trans mw.fr
   refine GoR.op ((op_nilCheck rfl) _) rfl rfl ?_
   refine GoR.op ((op_fieldAddr Try.underlying72 rfl ti70 rfl (by decide)) _) rfl rfl ?_
   have hobt := oblkSt2 (v := .slice xL (iX + 1) xM) (i := 10) (cs' := #[.int .i64 ((ix a0 (0 : Int)).length : Int), .bool false, .slice p35 n37 c36, .slice uF (i5 + 1) uG, .slice vM (i4 + 1) vN, .slice wO (iZ + 1) wP, .slice none 0 0, .slice jN iY jO, .int .i64 (0 : Int), .map (some B4), .slice xL (iX + 1) xM, .slice jl iW jM, .slice kd iQ ke]) 8 hO rfl rfl rfl rfl
   obtain ⟨J0, lB, Bf⟩ := hobt
   dsimp only [sS, sZ] at lB
   refine GoR.op (Bf Try.underlying70 rfl ti70 (by exact rfl) (by exact rfl)) rfl rfl ?_
   replace ct := ct.ch lB.ch
   replace cA := cA.ch lB.ch
   replace mr := mr.ch lB.ch
   replace cB := cB.ch lB.ch
   replace iT := iT.ch lB.ch
   replace fQ := fQ.ch lB.ch
   replace et := et.ch lB.ch
   replace aj := aj.ch lB.ch
   replace hO := lB.own
   replace cY := cY.ch lB.ch
   replace d7 := d7.ch lB.ch
   replace en := en.ch lB.ch
   replace fC := fC.ch lB.ch
   replace iD := iD.ch lB.ch
   replace kW := kW.ch lB.ch
   replace hB := hB.trans lB.fr
   refine GoR.nil ?_
   refine Go1.seq ?_
   refine Go1.cut [(0, .pointer (some ⟨B10, 0, none⟩)), (5, .int .i64 (-1 : Int)), (13, .int .i64 (d_147.length : Int))] ⟨rfl, rfl, rfl, trivial⟩ ?_
   intro σ _
   refine Go1.region ?_
   refine GoR.op ((op_move rfl) _) rfl rfl ?_
   refine GoR.op ((op_move rfl) _) rfl rfl ?_
   refine GoR.op ((op_nilCheck rfl) _) rfl rfl ?_
   refine GoR.op ((op_fieldAddr Try.underlying72 rfl ti26 rfl (by decide)) _) rfl rfl ?_
   refine GoR.op ((oblk (i := 11) 8 hO rfl rfl Try.underlying26 rfl rfl) _ (Same.refl _)) rfl rfl ?_
   refine GoR.op ((op_move rfl) _) rfl rfl ?_
   have hobt := obuild (r := Rp.int .i64) (n := 1) (parts := [(0, .int .i64 (-1 : Int))]) (vs := [.int .i64 (-1 : Int)]) (xs := [(-1 : Int)]) rfl Try.underlying26 ti3 hO (by decide) (by kernel_rfl) (Els.cons rfl rfl (Els.nil _ _ _) (by simp [mx])) rfl
   obtain ⟨J1, J2, my, DN, I5, Bg⟩ := hobt
   refine GoR.op (Bg rfl) rfl rfl ?_
   replace ct := ct.ch my.ch
   replace cA := cA.ch my.ch
   replace mr := mr.ch my.ch
   replace cB := cB.ch my.ch
   replace iT := iT.ch my.ch
   replace fQ := fQ.ch my.ch
   replace et := et.ch my.ch
   replace aj := aj.ch my.ch
   replace hO := my.own
   replace cY := cY.ch my.ch
   replace d7 := d7.ch my.ch
   replace en := en.ch my.ch
   replace fC := fC.ch my.ch
   replace iD := iD.ch my.ch
   replace kW := kW.ch my.ch
   replace hB := hB.trans my.fr
   have hobt := freeze 0 hO rfl DN
   obtain ⟨hO1, oP, qs, DO⟩ := hobt
   dsimp only [eS, eZ] at hO1 oP qs
   replace cY := cY.ch oP
   replace d7 := d7.ch oP
   replace en := en.ch oP
   replace fC := fC.ch oP
   replace iD := iD.ch oP
   replace kW := kW.ch oP
   replace ct := ct.ch oP
   replace cA := cA.ch oP
   replace mr := mr.ch oP
   replace cB := cB.ch oP
   replace iT := iT.ch oP
   replace fQ := fQ.ch oP
   replace et := et.ch oP
   replace aj := aj.ch oP
   replace hB := hB.trans (Owns.dropFr _ _ 0)
   dsimp only [eS, eZ] at hB
   replace hO := hO1; clear hO1
   obtain ⟨Hn, H⟩ := H
   have hobt := oapp Try.underlying26 ti3 rfl 1 hO rfl cA qs DO Hn (by decide)
   obtain ⟨J3, yw, yy, DP, lC, rv, Bh⟩ := hobt
   dsimp only [sS, sZ] at lC rv
   refine GoR.op (Bh (by exact rfl) (by exact rfl)) rfl rfl ?_
   replace ct := ct.ch lC.ch
   replace mr := mr.ch lC.ch
   replace cB := cB.ch lC.ch
   replace iT := iT.ch lC.ch
   replace fQ := fQ.ch lC.ch
   replace et := et.ch lC.ch
   replace aj := aj.ch lC.ch
   replace hO := lC.own
   replace cY := cY.ch lC.ch
   replace d7 := d7.ch lC.ch
   replace en := en.ch lC.ch
   replace fC := fC.ch lC.ch
   replace iD := iD.ch lC.ch
   replace kW := kW.ch lC.ch
   replace qs := qs.ch lC.ch
   replace hB := hB.trans lC.fr
   refine GoR.op ((op_nilCheck rfl) _) rfl rfl ?_
   refine GoR.op ((op_fieldAddr Try.underlying72 rfl ti26 rfl (by decide)) _) rfl rfl ?_
   have hobt := oblkSt2 (v := .slice yw (iW + 1) yy) (i := 11) (cs' := #[.int .i64 ((ix a0 (0 : Int)).length : Int), .bool false, .slice p35 n37 c36, .slice uF (i5 + 1) uG, .slice vM (i4 + 1) vN, .slice wO (iZ + 1) wP, .slice none 0 0, .slice jN iY jO, .int .i64 (0 : Int), .map (some B4), .slice xL (iX + 1) xM, .slice yw (iW + 1) yy, .slice kd iQ ke]) 8 hO rfl rfl rfl rfl
   obtain ⟨J4, lb, Bi⟩ := hobt
   dsimp only [sS, sZ] at lb
   refine GoR.op (Bi Try.underlying26 rfl ti26 (by exact rfl) (by exact rfl)) rfl rfl ?_
   replace ct := ct.ch lb.ch
   replace rv := rv.ch lb.ch
   replace mr := mr.ch lb.ch
   replace cB := cB.ch lb.ch
   replace iT := iT.ch lb.ch
   replace fQ := fQ.ch lb.ch
   replace et := et.ch lb.ch
   replace aj := aj.ch lb.ch
   replace hO := lb.own
   replace cY := cY.ch lb.ch
   replace d7 := d7.ch lb.ch
   replace en := en.ch lb.ch
   replace fC := fC.ch lb.ch
   replace iD := iD.ch lb.ch
   replace kW := kW.ch lb.ch
   replace qs := qs.ch lb.ch
   replace hB := hB.trans lb.fr
   refine GoR.nil ?_
   refine Go1.seq ?_
   refine Go1.region ?_
   refine GoR.op ((op_move rfl) _) rfl rfl ?_
   refine GoR.op ((op_assign rfl) _) rfl rfl ?_
   refine GoR.nil ?_
   refine Go1.ret1V Try.func65 rfl (show _ = .int .i64 (d_147.length : Int) from rfl) ?_
   refine hR232 _ _ ?_
   refine GoR.op ((op_assign rfl) _) rfl rfl ?_
   refine GoR.nil ?_
   refine Go1.region ?_
   refine GoR.op ((op_move rfl) _) rfl rfl ?_
   refine GoR.op ((op_move rfl) _) rfl rfl ?_
   refine GoR.op ((op_nilCheck rfl) _) rfl rfl ?_
   refine GoR.op ((op_fieldAddr Try.underlying72 rfl ti26 rfl (by decide)) _) rfl rfl ?_
   refine GoR.op ((oblk (i := 12) 8 hO rfl rfl Try.underlying26 rfl rfl) _ (Same.refl _)) rfl rfl ?_
   refine GoR.op ((op_move rfl) _) rfl rfl ?_
   have hobt := obuild (r := Rp.int .i64) (n := 1) (parts := [(0, .int .i64 (d_147.length : Int))]) (vs := [.int .i64 (d_147.length : Int)]) (xs := [(d_147.length : Int)]) rfl Try.underlying26 ti3 hO (by decide) (by kernel_rfl) (Els.cons rfl rfl (Els.nil _ _ _) (by simp [mx])) rfl
   obtain ⟨J5, J6, lD, DQ, I6, Bj⟩ := hobt
   refine GoR.op (Bj rfl) rfl rfl ?_
   replace ct := ct.ch lD.ch
   replace rv := rv.ch lD.ch
   replace mr := mr.ch lD.ch
   replace cB := cB.ch lD.ch
   replace iT := iT.ch lD.ch
   replace fQ := fQ.ch lD.ch
   replace et := et.ch lD.ch
   replace aj := aj.ch lD.ch
   replace hO := lD.own
   replace cY := cY.ch lD.ch
   replace d7 := d7.ch lD.ch
   replace en := en.ch lD.ch
   replace fC := fC.ch lD.ch
   replace iD := iD.ch lD.ch
   replace kW := kW.ch lD.ch
   replace qs := qs.ch lD.ch
   replace hB := hB.trans lD.fr
   have hobt := freeze 0 hO rfl DQ
   obtain ⟨hO1, nU, va, DR⟩ := hobt
   dsimp only [eS, eZ] at hO1 nU va
   replace cY := cY.ch nU
   replace d7 := d7.ch nU
   replace en := en.ch nU
   replace fC := fC.ch nU
   replace iD := iD.ch nU
   replace kW := kW.ch nU
   replace qs := qs.ch nU
   replace ct := ct.ch nU
   replace rv := rv.ch nU
   replace mr := mr.ch nU
   replace cB := cB.ch nU
   replace iT := iT.ch nU
   replace fQ := fQ.ch nU
   replace et := et.ch nU
   replace aj := aj.ch nU
   replace hB := hB.trans (Owns.dropFr _ _ 0)
   dsimp only [eS, eZ] at hB
   replace hO := hO1; clear hO1
   obtain ⟨Ho, H⟩ := H
   have hobt := oapp Try.underlying26 ti3 rfl 0 hO rfl ct va DR Ho (by decide)
   obtain ⟨J7, zH, zI, DS, ld, xx, Bk⟩ := hobt
   dsimp only [sS, sZ] at ld xx
   refine GoR.op (Bk (by exact rfl) (by exact rfl)) rfl rfl ?_
   replace rv := rv.ch ld.ch
   replace mr := mr.ch ld.ch
   replace cB := cB.ch ld.ch
   replace iT := iT.ch ld.ch
   replace fQ := fQ.ch ld.ch
   replace et := et.ch ld.ch
   replace aj := aj.ch ld.ch
   replace hO := ld.own
   replace cY := cY.ch ld.ch
   replace d7 := d7.ch ld.ch
   replace en := en.ch ld.ch
   replace fC := fC.ch ld.ch
   replace iD := iD.ch ld.ch
   replace kW := kW.ch ld.ch
   replace qs := qs.ch ld.ch
   replace va := va.ch ld.ch
   replace hB := hB.trans ld.fr
   refine GoR.op ((op_nilCheck rfl) _) rfl rfl ?_
   refine GoR.op ((op_fieldAddr Try.underlying72 rfl ti26 rfl (by decide)) _) rfl rfl ?_
   have hobt := oblkSt2 (v := .slice zH (iQ + 1) zI) (i := 12) (cs' := #[.int .i64 ((ix a0 (0 : Int)).length : Int), .bool false, .slice p35 n37 c36, .slice uF (i5 + 1) uG, .slice vM (i4 + 1) vN, .slice wO (iZ + 1) wP, .slice none 0 0, .slice jN iY jO, .int .i64 (0 : Int), .map (some B4), .slice xL (iX + 1) xM, .slice yw (iW + 1) yy, .slice zH (iQ + 1) zI]) 8 hO rfl rfl rfl rfl
   obtain ⟨J8, kq, Bl⟩ := hobt
   dsimp only [sS, sZ] at kq
   refine GoR.op (Bl Try.underlying26 rfl ti26 (by exact rfl) (by exact rfl)) rfl rfl ?_
   replace xx := xx.ch kq.ch
   replace rv := rv.ch kq.ch
   replace mr := mr.ch kq.ch
   replace cB := cB.ch kq.ch
   replace iT := iT.ch kq.ch
   replace fQ := fQ.ch kq.ch
   replace et := et.ch kq.ch
   replace aj := aj.ch kq.ch
   replace hO := kq.own
   replace cY := cY.ch kq.ch
   replace d7 := d7.ch kq.ch
   replace en := en.ch kq.ch
   replace fC := fC.ch kq.ch
   replace iD := iD.ch kq.ch
   replace kW := kW.ch kq.ch
   replace qs := qs.ch kq.ch
   replace va := va.ch kq.ch
   replace hB := hB.trans kq.fr
   refine GoR.nil ?_
   refine Go1.inBlock ?_
   refine Go1.cut [(6, .pointer (some ⟨B10, 0, none⟩)), (9, .int .i64 (-1 : Int)), (85, .slice p35 n37 c36), (86, .int .i64 (d_32.length : Int)), (87, .int .i64 (k2_110 : Int))] ⟨rfl, rfl, rfl, rfl, rfl, trivial⟩ ?_
   intro σ _
   refine Go1.region ?_
   refine GoR.op ((op_add rfl rfl (wrap_i64 (natbd tm aj.bd))) _) rfl rfl ?_
   refine GoR.op ((op_move rfl) _) rfl rfl ?_
   refine GoR.nil ?_
   exact hX2 _ H _ _ ⟨iQ + 1, zH, zI, DS, iW + 1, yw, yy, DP, iX + 1, xL, xM, DM, iY, jN, jO, oL, iZ + 1, wO, wP, DJ, i4 + 1, vM, vN, DF, i5 + 1, uF, uG, DB, ⟨rfl, rfl, rfl, rfl, rfl, trivial⟩, hO, xx, rv, mr, cB, iT, fQ, et, aj, hB⟩
  replace H := ifn tm H
  refine GoR.op ((fun w => opB (op_lss rfl rfl w) (decide_eq_false tm)) _) rfl rfl ?_
  refine GoR.nil ?_
  refine Go1.seq ?_
  refine Go1.condF rfl rfl ?_
  refine Go1.exit rfl ?_
  refine Go1.seq ?_
  refine Go1.region ?_
  refine GoR.op ((op_move rfl) _) rfl rfl ?_
  refine GoR.op ((op_assign rfl) _) rfl rfl ?_
  refine GoR.op ((op_assign rfl) _) rfl rfl ?_
  refine GoR.nil ?_
  have rm := Stp.nil (e := 26) (r := 1) hO
  replace ct := ct.ch rm.ch
  replace cA := cA.ch rm.ch
  replace cH := cH.ch rm.ch
  replace cB := cB.ch rm.ch
  replace dc := dc.ch rm.ch
  replace dr := dr.ch rm.ch
  replace dI := dI.ch rm.ch
  replace aj := aj.ch rm.ch
  replace hO := rm.own
  replace hB := hB.trans rm.fr
  have kr := Els.nil (Rp.sl (Rp.int .i64)) (bl (.row 26 1 none 0 0 [] :: [.row 3 1 kd iQ ke qp, .row 3 1 jl iW jM oJ, .row 9 1 kg iX kh oK, .row 39 2 jN iY jO oL, .row 3 1 ko iZ kp oM, .row 3 1 kS i4 kT oN, .row 26 1 lx i5 ly oO, .row 26 1 p35 n37 c36 fK, .blk B10 (.cells #[.int .i64 ((ix a0 (0 : Int)).length : Int), .bool false, .slice p35 n37 c36, .slice lx i5 ly, .slice kS i4 kT, .slice ko iZ kp, .slice none 0 0, .slice jN iY jO, .int .i64 (0 : Int), .map (some B4), .slice kg iX kh, .slice jl iW jM, .slice kd iQ ke] 72 (0, 0)), .any (mapE (fun a : List UInt8 => Value.string (gstr a)) (fun a : Int => Value.int .i64 a) B4 m2_153)]) ++ A) wN
  have fU := Stp.front 10 hO rfl
  dsimp only [eS, eZ] at fU
  replace kr := kr.ch fU.ch
  replace ct := ct.ch fU.ch
  replace cA := cA.ch fU.ch
  replace cH := cH.ch fU.ch
  replace cB := cB.ch fU.ch
  replace dc := dc.ch fU.ch
  replace dr := dr.ch fU.ch
  replace dI := dI.ch fU.ch
  replace aj := aj.ch fU.ch
  replace hO := fU.own
  replace hB := hB.trans fU.fr
  have pp := Stp.front 2 hO rfl
  dsimp only [eS, eZ] at pp
  replace kr := kr.ch pp.ch
  replace ct := ct.ch pp.ch
  replace cA := cA.ch pp.ch
  replace cH := cH.ch pp.ch
  replace cB := cB.ch pp.ch
  replace dc := dc.ch pp.ch
  replace dr := dr.ch pp.ch
  replace dI := dI.ch pp.ch
  replace aj := aj.ch pp.ch
  replace hO := pp.own
  replace hB := hB.trans pp.fr
  have fO := Stp.front 3 hO rfl
  dsimp only [eS, eZ] at fO
  replace ct := ct.ch fO.ch
  replace kr := kr.ch fO.ch
  replace cA := cA.ch fO.ch
  replace cH := cH.ch fO.ch
  replace cB := cB.ch fO.ch
  replace dc := dc.ch fO.ch
  replace dr := dr.ch fO.ch
  replace dI := dI.ch fO.ch
  replace aj := aj.ch fO.ch
  replace hO := fO.own
  replace hB := hB.trans fO.fr
  have pq := Stp.front 4 hO rfl
  dsimp only [eS, eZ] at pq
  replace cA := cA.ch pq.ch
  replace ct := ct.ch pq.ch
  replace kr := kr.ch pq.ch
  replace cH := cH.ch pq.ch
  replace cB := cB.ch pq.ch
  replace dc := dc.ch pq.ch
  replace dr := dr.ch pq.ch
  replace dI := dI.ch pq.ch
  replace aj := aj.ch pq.ch
  replace hO := pq.own
  replace hB := hB.trans pq.fr
  have pr := Stp.front 5 hO rfl
  dsimp only [eS, eZ] at pr
  replace cH := cH.ch pr.ch
  replace cA := cA.ch pr.ch
  replace ct := ct.ch pr.ch
  replace kr := kr.ch pr.ch
  replace cB := cB.ch pr.ch
  replace dc := dc.ch pr.ch
  replace dr := dr.ch pr.ch
  replace dI := dI.ch pr.ch
  replace aj := aj.ch pr.ch
  replace hO := pr.own
  replace hB := hB.trans pr.fr
  have pt := Stp.front 5 hO rfl
  dsimp only [eS, eZ] at pt
  replace cB := cB.ch pt.ch
  replace cH := cH.ch pt.ch
  replace cA := cA.ch pt.ch
  replace ct := ct.ch pt.ch
  replace kr := kr.ch pt.ch
  replace dc := dc.ch pt.ch
  replace dr := dr.ch pt.ch
  replace dI := dI.ch pt.ch
  replace aj := aj.ch pt.ch
  replace hO := pt.own
  replace hB := hB.trans pt.fr
  have fV := Stp.front 6 hO rfl
  dsimp only [eS, eZ] at fV
  replace kr := kr.ch fV.ch
  replace cB := cB.ch fV.ch
  replace cH := cH.ch fV.ch
  replace cA := cA.ch fV.ch
  replace ct := ct.ch fV.ch
  replace dc := dc.ch fV.ch
  replace dr := dr.ch fV.ch
  replace dI := dI.ch fV.ch
  replace aj := aj.ch fV.ch
  replace hO := fV.own
  replace hB := hB.trans fV.fr
  have pv := Stp.front 7 hO rfl
  dsimp only [eS, eZ] at pv
  replace dc := dc.ch pv.ch
  replace kr := kr.ch pv.ch
  replace cB := cB.ch pv.ch
  replace cH := cH.ch pv.ch
  replace cA := cA.ch pv.ch
  replace ct := ct.ch pv.ch
  replace dr := dr.ch pv.ch
  replace dI := dI.ch pv.ch
  replace aj := aj.ch pv.ch
  replace hO := pv.own
  replace hB := hB.trans pv.fr
  have px := Stp.front 8 hO rfl
  dsimp only [eS, eZ] at px
  replace dr := dr.ch px.ch
  replace dc := dc.ch px.ch
  replace kr := kr.ch px.ch
  replace cB := cB.ch px.ch
  replace cH := cH.ch px.ch
  replace cA := cA.ch px.ch
  replace ct := ct.ch px.ch
  replace dI := dI.ch px.ch
  replace aj := aj.ch px.ch
  replace hO := px.own
  replace hB := hB.trans px.fr
  have pz := Stp.front 9 hO rfl
  dsimp only [eS, eZ] at pz
  replace dI := dI.ch pz.ch
  replace dr := dr.ch pz.ch
  replace dc := dc.ch pz.ch
  replace kr := kr.ch pz.ch
  replace cB := cB.ch pz.ch
  replace cH := cH.ch pz.ch
  replace cA := cA.ch pz.ch
  replace ct := ct.ch pz.ch
  replace aj := aj.ch pz.ch
  replace hO := pz.own
  replace hB := hB.trans pz.fr
  have pC := Stp.front 10 hO rfl
  dsimp only [eS, eZ] at pC
  replace aj := aj.ch pC.ch
  replace dI := dI.ch pC.ch
  replace dr := dr.ch pC.ch
  replace dc := dc.ch pC.ch
  replace kr := kr.ch pC.ch
  replace cB := cB.ch pC.ch
  replace cH := cH.ch pC.ch
  replace cA := cA.ch pC.ch
  replace ct := ct.ch pC.ch
  replace hO := pC.own
  replace hB := hB.trans pC.fr
  refine Go1.ret2 Try.func49 rfl ?_
  exact Or.inr ⟨(⟨(⟨((ix a0 (0 : Int)).length : Int), false, d_32, d_147, d_141, d_135, ([] : List (List Int)), d_129, (0 : Int)⟩ : Enum), m2_153, d_123, d_117, d_111⟩ : run), ((0 : Int)), B10, n37, p35, c36, fK, i5, lx, ly, oO, i4, kS, kT, oN, iZ, ko, kp, oM, 0, none, 0, ([]), iY, jN, jO, oL, B4, iX, kg, kh, oK, iW, jl, jM, oJ, iQ, kd, ke, qp, rfl, hB.same, hO, aj, dI, dr, dc, kr, cB, cH, cA, ct, H⟩
 replace H := ifp rfl H
 refine Go1.condT rfl rfl ?_
 refine Go1.region ?_
 refine GoR.op ((op_move rfl) _) rfl rfl ?_
 refine GoR.op ((op_move rfl) _) rfl rfl ?_
 refine GoR.op ((op_nilCheck rfl) _) rfl rfl ?_
 refine GoR.op ((op_fieldAddr Try.underlying72 rfl ti29 rfl (by decide)) _) rfl rfl ?_
 refine GoR.op ((op_fieldAddr Try.underlying29 rfl ti3 rfl (by decide)) _) rfl rfl ?_
 refine GoR.op ((oblk (i := 0) 1 hO rfl rfl Try.underlying3 rfl rfl) _ (Same.refl _)) rfl rfl ?_
 refine GoR.call (op_call body62 rfl (walk_trans_Identity hO.lt H)) rfl rfl ?_
 rintro J9 Ka ⟨r397, uH, uI, rfl, DT, dk, H⟩
 have wq := Stp.same hO DT
 replace aj := aj.ch wq.ch
 replace hO := wq.own
 replace b7 := b7.ch wq.ch
 replace hB := hB.trans wq.fr
 refine GoR.inl (vs := [.pointer (some ⟨B10, 0, none⟩), .slice uH r397.length uI, .int .i64 (-1 : Int), .int .i64 (-1 : Int), .string (gstr (([] : Str))), .int .i64 (-1 : Int)]) (caps := []) rfl rfl body65 Try.func65 rfl Try.ntmps65 rfl rfl rfl ?_
 intro RhR403 hR403
 refine Go1.seq ?_
 refine Go1.region ?_
 refine GoR.op ((op_assign rfl) _) rfl rfl ?_
 refine GoR.nil ?_
 refine Go1.seq ?_
 refine Go1.region ?_
 refine GoR.op ((op_move rfl) _) rfl rfl ?_
 refine GoR.op ((op_nilCheck rfl) _) rfl rfl ?_
 refine GoR.op ((op_fieldAddr Try.underlying72 rfl ti29 rfl (by decide)) _) rfl rfl ?_
 refine GoR.op ((op_fieldAddr Try.underlying29 rfl ti22 rfl (by decide)) _) rfl rfl ?_
 refine GoR.op ((oblk (i := 3) 1 hO rfl rfl Try.underlying22 rfl rfl) _ (Same.refl _)) rfl rfl ?_
 refine GoR.op ((op_len Try.underlying22 rfl) _) rfl rfl ?_
 refine GoR.op ((op_assign rfl) _) rfl rfl ?_
 refine GoR.nil ?_
 refine Go1.seq ?_
 refine Go1.cut [(0, .pointer (some ⟨B10, 0, none⟩)), (1, .slice uH r397.length uI), (2, .int .i64 (-1 : Int)), (3, .int .i64 (-1 : Int)), (4, .string (gstr (([] : Str)))), (5, .int .i64 (-1 : Int)), (13, .int .i64 (0 : Int))] ⟨rfl, rfl, rfl, rfl, rfl, rfl, rfl, trivial⟩ ?_
 intro σ _
 refine Go1.drawS 1 [(0, .pure), (1, .pure), (2, .pure), (3, .stable), (4, .pure), (6, .pure), (5, .loud), (7, .last)] mixed (by kernel_rfl) ?_
 intro Kb DU
 have uJ := Stp.same hO DU
 replace aj := aj.ch uJ.ch
 replace hO := uJ.own
 replace b7 := b7.ch uJ.ch
 replace dk := dk.ch uJ.ch
 replace hB := hB.trans uJ.fr
 refine GoQ.pure rfl (op_move rfl) rfl rfl ?_
 refine GoQ.pure rfl (op_nilCheck rfl) rfl rfl ?_
 refine GoQ.pure rfl (op_fieldAddr Try.underlying72 rfl ti69 rfl (by decide)) rfl rfl ?_
 refine GoQ.stable rfl (oblk (i := 9) 1 hO rfl rfl Try.underlying69 rfl rfl) rfl rfl ?_
 refine GoQ.pure rfl (op_move rfl) rfl rfl ?_
 refine GoQ.pure rfl (op_move rfl) rfl rfl ?_
 refine GoQ.call rfl (op_call body61 rfl (walk_enumerate_text hO.lt dk H)) (fun v w hr => by obtain ⟨_, _, hs, _, _⟩ := hr; assumption) rfl rfl ?_
 rintro Kc Kd ⟨r407, rfl, DW, IN, H⟩
 have uK := Stp.same hO DW
 replace aj := aj.ch uK.ch
 replace hO := uK.own
 replace b7 := b7.ch uK.ch
 replace dk := dk.ch uK.ch
 replace hB := hB.trans uK.fr
 have hobt := omapUpd (MK.str Try.underlying9) 2 hO rfl Try.underlying69 r407 (0 : Int)
 obtain ⟨Ke, i6, Bm⟩ := hobt
 refine GoQ.last rfl (Bm (by exact rfl) (by exact rfl) (by exact rfl)) rfl rfl ?_
 replace aj := aj.ch i6.ch
 replace hO := i6.own
 replace b7 := b7.ch i6.ch
 replace dk := dk.ch i6.ch
 replace hB := hB.trans i6.fr
 refine GoQ.nil ?_
 refine Go1.seq ?_
 refine Go1.region ?_
 refine GoR.op ((op_move rfl) _) rfl rfl ?_
 refine GoR.op ((op_move rfl) _) rfl rfl ?_
 refine GoR.op ((op_nilCheck rfl) _) rfl rfl ?_
 refine GoR.op ((op_fieldAddr Try.underlying72 rfl ti29 rfl (by decide)) _) rfl rfl ?_
 refine GoR.op ((op_fieldAddr Try.underlying29 rfl ti22 rfl (by decide)) _) rfl rfl ?_
 refine GoR.op ((oblk (i := 3) 1 hO rfl rfl Try.underlying22 rfl rfl) _ (Same.refl _)) rfl rfl ?_
 refine GoR.op ((op_move rfl) _) rfl rfl ?_
 have hobt := obuild (r := Rp.sl (Rp.int .i64)) (n := 1) (parts := [(0, .slice uH r397.length uI)]) (vs := [.slice uH r397.length uI]) (xs := [r397]) rfl Try.underlying22 ti26 hO (by decide) (by kernel_rfl) (Els.cons rfl ⟨uH, uI, rfl, dk⟩ (Els.nil _ _ _) (by simp [mx])) rfl
 obtain ⟨Hp, Kf, uL, DX, I7, Bn⟩ := hobt
 refine GoR.op (Bn rfl) rfl rfl ?_
 replace aj := aj.ch uL.ch
 replace hO := uL.own
 replace b7 := b7.ch uL.ch
 replace dk := dk.ch uL.ch
 replace hB := hB.trans uL.fr
 have hobt := freeze 0 hO rfl DX
 obtain ⟨hO1, yz, d4, DY⟩ := hobt
 replace b7 := b7.ch yz
 replace dk := dk.ch yz
 replace aj := aj.ch yz
 replace hB := hB.trans (Owns.dropFr _ _ 0)
 replace hO := hO1; clear hO1
 have iC := Stp.nil (e := 26) (r := 1) hO
 replace aj := aj.ch iC.ch
 replace hO := iC.own
 replace b7 := b7.ch iC.ch
 replace dk := dk.ch iC.ch
 replace d4 := d4.ch iC.ch
 replace hB := hB.trans iC.fr
 have gR := Els.nil (Rp.sl (Rp.int .i64)) (bl (.row 26 1 none 0 0 [] :: [.row 26 1 p35 n37 c36 fK, .blk B10 (.cells #[.int .i64 ((ix a0 (0 : Int)).length : Int), .bool true, .slice p35 n37 c36, .slice none 0 0, .slice none 0 0, .slice none 0 0, .slice none 0 0, .slice none 0 0, .int .i64 (0 : Int), .map (some B4), .slice none 0 0, .slice none 0 0, .slice none 0 0] 72 (0, 0)), .any (mapE (fun a : List UInt8 => Value.string (gstr a)) (fun a : Int => Value.int .i64 a) B4 (mput (([] : List (Str × Int))) r407 ((0 : Int))))]) ++ A) Hp
 obtain ⟨Hq, H⟩ := H
 have hobt := oapp Try.underlying22 ti26 rfl 0 hO rfl gR d4 DY Hq (by decide)
 obtain ⟨Kg, oQ, oR, uu, uf, eg, Bo⟩ := hobt
 refine GoR.op (Bo (by exact rfl) (by exact rfl)) rfl rfl ?_
 replace aj := aj.ch uf.ch
 replace hO := uf.own
 replace b7 := b7.ch uf.ch
 replace dk := dk.ch uf.ch
 replace d4 := d4.ch uf.ch
 replace hB := hB.trans uf.fr
 refine GoR.op ((op_nilCheck rfl) _) rfl rfl ?_
 refine GoR.op ((op_fieldAddr Try.underlying72 rfl ti29 rfl (by decide)) _) rfl rfl ?_
 refine GoR.op ((op_fieldAddr Try.underlying29 rfl ti22 rfl (by decide)) _) rfl rfl ?_
 have hobt := oblkSt2 (v := .slice oQ (0 + 1) oR) (i := 3) (cs' := #[.int .i64 ((ix a0 (0 : Int)).length : Int), .bool true, .slice p35 n37 c36, .slice oQ (0 + 1) oR, .slice none 0 0, .slice none 0 0, .slice none 0 0, .slice none 0 0, .int .i64 (0 : Int), .map (some B4), .slice none 0 0, .slice none 0 0, .slice none 0 0]) 2 hO rfl rfl rfl rfl
 obtain ⟨Kh, tn, Bp⟩ := hobt
 refine GoR.op (Bp Try.underlying22 rfl ti22 (by exact rfl) (by exact rfl)) rfl rfl ?_
 replace eg := eg.ch tn.ch
 replace aj := aj.ch tn.ch
 replace hO := tn.own
 replace b7 := b7.ch tn.ch
 replace dk := dk.ch tn.ch
 replace d4 := d4.ch tn.ch
 replace hB := hB.trans tn.fr
 refine GoR.nil ?_
 refine Go1.seq ?_
 refine Go1.cut [(0, .pointer (some ⟨B10, 0, none⟩)), (2, .int .i64 (-1 : Int)), (3, .int .i64 (-1 : Int)), (4, .string (gstr (([] : Str)))), (5, .int .i64 (-1 : Int)), (13, .int .i64 (0 : Int))] ⟨rfl, rfl, rfl, rfl, rfl, rfl, trivial⟩ ?_
 intro σ _
 refine Go1.region ?_
 refine GoR.op ((op_move rfl) _) rfl rfl ?_
 refine GoR.op ((op_move rfl) _) rfl rfl ?_
 refine GoR.op ((op_nilCheck rfl) _) rfl rfl ?_
 refine GoR.op ((op_fieldAddr Try.underlying72 rfl ti29 rfl (by decide)) _) rfl rfl ?_
 refine GoR.op ((op_fieldAddr Try.underlying29 rfl ti26 rfl (by decide)) _) rfl rfl ?_
 refine GoR.op ((oblk (i := 4) 2 hO rfl rfl Try.underlying26 rfl rfl) _ (Same.refl _)) rfl rfl ?_
 refine GoR.op ((op_move rfl) _) rfl rfl ?_
 have hobt := obuild (r := Rp.int .i64) (n := 1) (parts := [(0, .int .i64 (-1 : Int))]) (vs := [.int .i64 (-1 : Int)]) (xs := [(-1 : Int)]) rfl Try.underlying26 ti3 hO (by decide) (by kernel_rfl) (Els.cons rfl rfl (Els.nil _ _ _) (by simp [mx])) rfl
 obtain ⟨Hr, Ki, tp, DZ, I8, Bq⟩ := hobt
 refine GoR.op (Bq rfl) rfl rfl ?_
 replace eg := eg.ch tp.ch
 replace aj := aj.ch tp.ch
 replace hO := tp.own
 replace b7 := b7.ch tp.ch
 replace dk := dk.ch tp.ch
 replace d4 := d4.ch tp.ch
 replace hB := hB.trans tp.fr
 have hobt := freeze 0 hO rfl DZ
 obtain ⟨hO1, vb, e9, D0⟩ := hobt
 dsimp only [eS, eZ] at hO1 vb e9
 replace b7 := b7.ch vb
 replace dk := dk.ch vb
 replace d4 := d4.ch vb
 replace eg := eg.ch vb
 replace aj := aj.ch vb
 replace hB := hB.trans (Owns.dropFr _ _ 0)
 dsimp only [eS, eZ] at hB
 replace hO := hO1; clear hO1
 have sF := Stp.nil (e := 3) (r := 1) hO
 replace eg := eg.ch sF.ch
 replace aj := aj.ch sF.ch
 replace hO := sF.own
 replace b7 := b7.ch sF.ch
 replace dk := dk.ch sF.ch
 replace d4 := d4.ch sF.ch
 replace e9 := e9.ch sF.ch
 replace hB := hB.trans sF.fr
 have D1 := Els.nil (Rp.int .i64) (bl (.row 3 1 none 0 0 [] :: [.row 26 1 oQ (0 + 1) oR uu, .row 26 1 p35 n37 c36 fK, .blk B10 (.cells #[.int .i64 ((ix a0 (0 : Int)).length : Int), .bool true, .slice p35 n37 c36, .slice oQ (0 + 1) oR, .slice none 0 0, .slice none 0 0, .slice none 0 0, .slice none 0 0, .int .i64 (0 : Int), .map (some B4), .slice none 0 0, .slice none 0 0, .slice none 0 0] 72 (0, 0)), .any (mapE (fun a : List UInt8 => Value.string (gstr a)) (fun a : Int => Value.int .i64 a) B4 (mput (([] : List (Str × Int))) r407 ((0 : Int))))]) ++ A) Hr
 obtain ⟨Hs, H⟩ := H
 have hobt := oapp Try.underlying26 ti3 rfl 0 hO rfl D1 e9 D0 Hs (by decide)
 obtain ⟨Kj, q9, ra, vc, rN, fD, xN⟩ := hobt
 dsimp only [sS, sZ] at rN fD
 refine GoR.op (xN (by exact rfl) (by exact rfl)) rfl rfl ?_
 replace eg := eg.ch rN.ch
 replace aj := aj.ch rN.ch
 replace hO := rN.own
 replace b7 := b7.ch rN.ch
 replace dk := dk.ch rN.ch
 replace d4 := d4.ch rN.ch
 replace e9 := e9.ch rN.ch
 replace hB := hB.trans rN.fr
 refine GoR.op ((op_nilCheck rfl) _) rfl rfl ?_
 refine GoR.op ((op_fieldAddr Try.underlying72 rfl ti29 rfl (by decide)) _) rfl rfl ?_
 refine GoR.op ((op_fieldAddr Try.underlying29 rfl ti26 rfl (by decide)) _) rfl rfl ?_
 have hobt := oblkSt2 (v := .slice q9 (0 + 1) ra) (i := 4) (cs' := #[.int .i64 ((ix a0 (0 : Int)).length : Int), .bool true, .slice p35 n37 c36, .slice oQ (0 + 1) oR, .slice q9 (0 + 1) ra, .slice none 0 0, .slice none 0 0, .slice none 0 0, .int .i64 (0 : Int), .map (some B4), .slice none 0 0, .slice none 0 0, .slice none 0 0]) 3 hO rfl rfl rfl rfl
 obtain ⟨Kk, ro, Br⟩ := hobt
 dsimp only [sS, sZ] at ro
 refine GoR.op (Br Try.underlying26 rfl ti26 (by exact rfl) (by exact rfl)) rfl rfl ?_
 replace fD := fD.ch ro.ch
 replace eg := eg.ch ro.ch
 replace aj := aj.ch ro.ch
 replace hO := ro.own
 replace b7 := b7.ch ro.ch
 replace dk := dk.ch ro.ch
 replace d4 := d4.ch ro.ch
 replace e9 := e9.ch ro.ch
 replace hB := hB.trans ro.fr
 refine GoR.nil ?_
 refine Go1.seq ?_
 refine Go1.region ?_
 refine GoR.op ((op_move rfl) _) rfl rfl ?_
 refine GoR.op ((op_move rfl) _) rfl rfl ?_
 refine GoR.op ((op_nilCheck rfl) _) rfl rfl ?_
 refine GoR.op ((op_fieldAddr Try.underlying72 rfl ti29 rfl (by decide)) _) rfl rfl ?_
 refine GoR.op ((op_fieldAddr Try.underlying29 rfl ti26 rfl (by decide)) _) rfl rfl ?_
 refine GoR.op ((oblk (i := 5) 3 hO rfl rfl Try.underlying26 rfl rfl) _ (Same.refl _)) rfl rfl ?_
 refine GoR.op ((op_move rfl) _) rfl rfl ?_
 have hobt := obuild (r := Rp.int .i64) (n := 1) (parts := [(0, .int .i64 (-1 : Int))]) (vs := [.int .i64 (-1 : Int)]) (xs := [(-1 : Int)]) rfl Try.underlying26 ti3 hO (by decide) (by kernel_rfl) (Els.cons rfl rfl (Els.nil _ _ _) (by simp [mx])) rfl
 obtain ⟨Ht, Kl, rO, D2, I9, Bs⟩ := hobt
 refine GoR.op (Bs rfl) rfl rfl ?_
 replace fD := fD.ch rO.ch
 replace eg := eg.ch rO.ch
 replace aj := aj.ch rO.ch
 replace hO := rO.own
 replace b7 := b7.ch rO.ch
 replace dk := dk.ch rO.ch
 replace d4 := d4.ch rO.ch
 replace e9 := e9.ch rO.ch
 replace hB := hB.trans rO.fr
 have hobt := freeze 0 hO rfl D2
 obtain ⟨hO1, tD, gS, D3⟩ := hobt
 dsimp only [eS, eZ] at hO1 tD gS
 replace b7 := b7.ch tD
 replace dk := dk.ch tD
 replace d4 := d4.ch tD
 replace e9 := e9.ch tD
 replace fD := fD.ch tD
 replace eg := eg.ch tD
 replace aj := aj.ch tD
 replace hB := hB.trans (Owns.dropFr _ _ 0)
 dsimp only [eS, eZ] at hB
 replace hO := hO1; clear hO1
 have rp := Stp.nil (e := 3) (r := 1) hO
 replace fD := fD.ch rp.ch
 replace eg := eg.ch rp.ch
 replace aj := aj.ch rp.ch
 replace hO := rp.own
 replace b7 := b7.ch rp.ch
 replace dk := dk.ch rp.ch
 replace d4 := d4.ch rp.ch
 replace e9 := e9.ch rp.ch
 replace gS := gS.ch rp.ch
 replace hB := hB.trans rp.fr
 have D4 := Els.nil (Rp.int .i64) (bl (.row 3 1 none 0 0 [] :: [.row 3 1 q9 (0 + 1) ra vc, .row 26 1 oQ (0 + 1) oR uu, .row 26 1 p35 n37 c36 fK, .blk B10 (.cells #[.int .i64 ((ix a0 (0 : Int)).length : Int), .bool true, .slice p35 n37 c36, .slice oQ (0 + 1) oR, .slice q9 (0 + 1) ra, .slice none 0 0, .slice none 0 0, .slice none 0 0, .int .i64 (0 : Int), .map (some B4), .slice none 0 0, .slice none 0 0, .slice none 0 0] 72 (0, 0)), .any (mapE (fun a : List UInt8 => Value.string (gstr a)) (fun a : Int => Value.int .i64 a) B4 (mput (([] : List (Str × Int))) r407 ((0 : Int))))]) ++ A) Ht
 obtain ⟨Hu, H⟩ := H
 have hobt := oapp Try.underlying26 ti3 rfl 0 hO rfl D4 gS D3 Hu (by decide)
 obtain ⟨Km, sg, si, wr, qG, iU, Bt⟩ := hobt
 dsimp only [sS, sZ] at qG iU
 refine GoR.op (Bt (by exact rfl) (by exact rfl)) rfl rfl ?_
 replace fD := fD.ch qG.ch
 replace eg := eg.ch qG.ch
 replace aj := aj.ch qG.ch
 replace hO := qG.own
 replace b7 := b7.ch qG.ch
 replace dk := dk.ch qG.ch
 replace d4 := d4.ch qG.ch
 replace e9 := e9.ch qG.ch
 replace gS := gS.ch qG.ch
 replace hB := hB.trans qG.fr
 refine GoR.op ((op_nilCheck rfl) _) rfl rfl ?_
 refine GoR.op ((op_fieldAddr Try.underlying72 rfl ti29 rfl (by decide)) _) rfl rfl ?_
 refine GoR.op ((op_fieldAddr Try.underlying29 rfl ti26 rfl (by decide)) _) rfl rfl ?_
 have hobt := oblkSt2 (v := .slice sg (0 + 1) si) (i := 5) (cs' := #[.int .i64 ((ix a0 (0 : Int)).length : Int), .bool true, .slice p35 n37 c36, .slice oQ (0 + 1) oR, .slice q9 (0 + 1) ra, .slice sg (0 + 1) si, .slice none 0 0, .slice none 0 0, .int .i64 (0 : Int), .map (some B4), .slice none 0 0, .slice none 0 0, .slice none 0 0]) 4 hO rfl rfl rfl rfl
 obtain ⟨Kn, pD, Bu⟩ := hobt
 dsimp only [sS, sZ] at pD
 refine GoR.op (Bu Try.underlying26 rfl ti26 (by exact rfl) (by exact rfl)) rfl rfl ?_
 replace iU := iU.ch pD.ch
 replace fD := fD.ch pD.ch
 replace eg := eg.ch pD.ch
 replace aj := aj.ch pD.ch
 replace hO := pD.own
 replace b7 := b7.ch pD.ch
 replace dk := dk.ch pD.ch
 replace d4 := d4.ch pD.ch
 replace e9 := e9.ch pD.ch
 replace gS := gS.ch pD.ch
 replace hB := hB.trans pD.fr
 refine GoR.nil ?_
 refine Go1.seq ?_
 refine Go1.cut [(0, .pointer (some ⟨B10, 0, none⟩)), (4, .string (gstr (([] : Str)))), (5, .int .i64 (-1 : Int)), (13, .int .i64 (0 : Int))] ⟨rfl, rfl, rfl, rfl, trivial⟩ ?_
 intro σ _
 refine Go1.region ?_
 refine GoR.op ((op_move rfl) _) rfl rfl ?_
 refine GoR.op ((op_move rfl) _) rfl rfl ?_
 refine GoR.op ((op_nilCheck rfl) _) rfl rfl ?_
 refine GoR.op ((op_fieldAddr Try.underlying72 rfl ti70 rfl (by decide)) _) rfl rfl ?_
 refine GoR.op ((oblk (i := 10) 4 hO rfl rfl Try.underlying70 rfl rfl) _ (Same.refl _)) rfl rfl ?_
 refine GoR.op ((op_move rfl) _) rfl rfl ?_
 have hobt := obuild (r := Rp.str) (n := 1) (parts := [(0, .string (gstr (([] : Str))))]) (vs := [.string (gstr (([] : Str)))]) (xs := [([] : Str)]) rfl Try.underlying70 ti9 hO (by decide) (by kernel_rfl) (Els.cons rfl ⟨rfl, (by decide)⟩ (Els.nil _ _ _) (by simp [mx])) rfl
 obtain ⟨Hv, Ko, fy, tE, Ja, Bv⟩ := hobt
 refine GoR.op (Bv rfl) rfl rfl ?_
 replace iU := iU.ch fy.ch
 replace fD := fD.ch fy.ch
 replace eg := eg.ch fy.ch
 replace aj := aj.ch fy.ch
 replace hO := fy.own
 replace b7 := b7.ch fy.ch
 replace dk := dk.ch fy.ch
 replace d4 := d4.ch fy.ch
 replace e9 := e9.ch fy.ch
 replace gS := gS.ch fy.ch
 replace hB := hB.trans fy.fr
 have hobt := freeze 0 hO rfl tE
 obtain ⟨hO1, sv, kX, D5⟩ := hobt
 dsimp only [eS, eZ] at hO1 sv kX
 replace b7 := b7.ch sv
 replace dk := dk.ch sv
 replace d4 := d4.ch sv
 replace e9 := e9.ch sv
 replace gS := gS.ch sv
 replace iU := iU.ch sv
 replace fD := fD.ch sv
 replace eg := eg.ch sv
 replace aj := aj.ch sv
 replace hB := hB.trans (Owns.dropFr _ _ 0)
 dsimp only [eS, eZ] at hB
 replace hO := hO1; clear hO1
 have pE := Stp.nil (e := 9) (r := 1) hO
 replace iU := iU.ch pE.ch
 replace fD := fD.ch pE.ch
 replace eg := eg.ch pE.ch
 replace aj := aj.ch pE.ch
 replace hO := pE.own
 replace b7 := b7.ch pE.ch
 replace dk := dk.ch pE.ch
 replace d4 := d4.ch pE.ch
 replace e9 := e9.ch pE.ch
 replace gS := gS.ch pE.ch
 replace kX := kX.ch pE.ch
 replace hB := hB.trans pE.fr
 have D6 := Els.nil (Rp.str) (bl (.row 9 1 none 0 0 [] :: [.row 3 1 sg (0 + 1) si wr, .row 3 1 q9 (0 + 1) ra vc, .row 26 1 oQ (0 + 1) oR uu, .row 26 1 p35 n37 c36 fK, .blk B10 (.cells #[.int .i64 ((ix a0 (0 : Int)).length : Int), .bool true, .slice p35 n37 c36, .slice oQ (0 + 1) oR, .slice q9 (0 + 1) ra, .slice sg (0 + 1) si, .slice none 0 0, .slice none 0 0, .int .i64 (0 : Int), .map (some B4), .slice none 0 0, .slice none 0 0, .slice none 0 0] 72 (0, 0)), .any (mapE (fun a : List UInt8 => Value.string (gstr a)) (fun a : Int => Value.int .i64 a) B4 (mput (([] : List (Str × Int))) r407 ((0 : Int))))]) ++ A) Hv
 obtain ⟨Hw, H⟩ := H
 have hobt := oapp Try.underlying70 ti9 rfl 0 hO rfl D6 kX D5 Hw (by decide)
 obtain ⟨Kp, t5, t6, xz, oh, nm, Bw⟩ := hobt
 dsimp only [sS, sZ] at oh nm
 refine GoR.op (Bw (by exact rfl) (by exact rfl)) rfl rfl ?_
 replace iU := iU.ch oh.ch
 replace fD := fD.ch oh.ch
 replace eg := eg.ch oh.ch
 replace aj := aj.ch oh.ch
 replace hO := oh.own
 replace b7 := b7.ch oh.ch
 replace dk := dk.ch oh.ch
 replace d4 := d4.ch oh.ch
 replace e9 := e9.ch oh.ch
 replace gS := gS.ch oh.ch
 replace kX := kX.ch oh.ch
 replace hB := hB.trans oh.fr
 refine GoR.op ((op_nilCheck rfl) _) rfl rfl ?_
 refine GoR.op ((op_fieldAddr Try.underlying72 rfl ti70 rfl (by decide)) _) rfl rfl ?_
 have hobt := oblkSt2 (v := .slice t5 (0 + 1) t6) (i := 10) (cs' := #[.int .i64 ((ix a0 (0 : Int)).length : Int), .bool true, .slice p35 n37 c36, .slice oQ (0 + 1) oR, .slice q9 (0 + 1) ra, .slice sg (0 + 1) si, .slice none 0 0, .slice none 0 0, .int .i64 (0 : Int), .map (some B4), .slice t5 (0 + 1) t6, .slice none 0 0, .slice none 0 0]) 5 hO rfl rfl rfl rfl
 obtain ⟨Kq, ny, xO⟩ := hobt
 dsimp only [sS, sZ] at ny
 refine GoR.op (xO Try.underlying70 rfl ti70 (by exact rfl) (by exact rfl)) rfl rfl ?_
 replace nm := nm.ch ny.ch
 replace iU := iU.ch ny.ch
 replace fD := fD.ch ny.ch
 replace eg := eg.ch ny.ch
 replace aj := aj.ch ny.ch
 replace hO := ny.own
 replace b7 := b7.ch ny.ch
 replace dk := dk.ch ny.ch
 replace d4 := d4.ch ny.ch
 replace e9 := e9.ch ny.ch
 replace gS := gS.ch ny.ch
 replace kX := kX.ch ny.ch
 replace hB := hB.trans ny.fr
 refine GoR.nil ?_
 refine Go1.seq ?_
 refine Go1.region ?_
 refine GoR.op ((op_move rfl) _) rfl rfl ?_
 refine GoR.op ((op_move rfl) _) rfl rfl ?_
 refine GoR.op ((op_nilCheck rfl) _) rfl rfl ?_
 refine GoR.op ((op_fieldAddr Try.underlying72 rfl ti26 rfl (by decide)) _) rfl rfl ?_
 refine GoR.op ((oblk (i := 11) 5 hO rfl rfl Try.underlying26 rfl rfl) _ (Same.refl _)) rfl rfl ?_
 refine GoR.op ((op_move rfl) _) rfl rfl ?_
 have hobt := obuild (r := Rp.int .i64) (n := 1) (parts := [(0, .int .i64 (-1 : Int))]) (vs := [.int .i64 (-1 : Int)]) (xs := [(-1 : Int)]) rfl Try.underlying26 ti3 hO (by decide) (by kernel_rfl) (Els.cons rfl rfl (Els.nil _ _ _) (by simp [mx])) rfl
 obtain ⟨Hx, Kr, ol, D7, Jb, Bx⟩ := hobt
 refine GoR.op (Bx rfl) rfl rfl ?_
 replace nm := nm.ch ol.ch
 replace iU := iU.ch ol.ch
 replace fD := fD.ch ol.ch
 replace eg := eg.ch ol.ch
 replace aj := aj.ch ol.ch
 replace hO := ol.own
 replace b7 := b7.ch ol.ch
 replace dk := dk.ch ol.ch
 replace d4 := d4.ch ol.ch
 replace e9 := e9.ch ol.ch
 replace gS := gS.ch ol.ch
 replace kX := kX.ch ol.ch
 replace hB := hB.trans ol.fr
 have hobt := freeze 0 hO rfl D7
 obtain ⟨hO1, ry, rz, D8⟩ := hobt
 dsimp only [eS, eZ] at hO1 ry rz
 replace b7 := b7.ch ry
 replace dk := dk.ch ry
 replace d4 := d4.ch ry
 replace e9 := e9.ch ry
 replace gS := gS.ch ry
 replace kX := kX.ch ry
 replace nm := nm.ch ry
 replace iU := iU.ch ry
 replace fD := fD.ch ry
 replace eg := eg.ch ry
 replace aj := aj.ch ry
 replace hB := hB.trans (Owns.dropFr _ _ 0)
 dsimp only [eS, eZ] at hB
 replace hO := hO1; clear hO1
 have nz := Stp.nil (e := 3) (r := 1) hO
 replace nm := nm.ch nz.ch
 replace iU := iU.ch nz.ch
 replace fD := fD.ch nz.ch
 replace eg := eg.ch nz.ch
 replace aj := aj.ch nz.ch
 replace hO := nz.own
 replace b7 := b7.ch nz.ch
 replace dk := dk.ch nz.ch
 replace d4 := d4.ch nz.ch
 replace e9 := e9.ch nz.ch
 replace gS := gS.ch nz.ch
 replace kX := kX.ch nz.ch
 replace rz := rz.ch nz.ch
 replace hB := hB.trans nz.fr
 have D9 := Els.nil (Rp.int .i64) (bl (.row 3 1 none 0 0 [] :: [.row 9 1 t5 (0 + 1) t6 xz, .row 3 1 sg (0 + 1) si wr, .row 3 1 q9 (0 + 1) ra vc, .row 26 1 oQ (0 + 1) oR uu, .row 26 1 p35 n37 c36 fK, .blk B10 (.cells #[.int .i64 ((ix a0 (0 : Int)).length : Int), .bool true, .slice p35 n37 c36, .slice oQ (0 + 1) oR, .slice q9 (0 + 1) ra, .slice sg (0 + 1) si, .slice none 0 0, .slice none 0 0, .int .i64 (0 : Int), .map (some B4), .slice t5 (0 + 1) t6, .slice none 0 0, .slice none 0 0] 72 (0, 0)), .any (mapE (fun a : List UInt8 => Value.string (gstr a)) (fun a : Int => Value.int .i64 a) B4 (mput (([] : List (Str × Int))) r407 ((0 : Int))))]) ++ A) Hx
 obtain ⟨Hy, H⟩ := H
 have hobt := oapp Try.underlying26 ti3 rfl 0 hO rfl D9 rz D8 Hy (by decide)
 obtain ⟨Ks, vO, vP, yA, fP, tF, By⟩ := hobt
 dsimp only [sS, sZ] at fP tF
 refine GoR.op (By (by exact rfl) (by exact rfl)) rfl rfl ?_
 replace nm := nm.ch fP.ch
 replace iU := iU.ch fP.ch
 replace fD := fD.ch fP.ch
 replace eg := eg.ch fP.ch
 replace aj := aj.ch fP.ch
 replace hO := fP.own
 replace b7 := b7.ch fP.ch
 replace dk := dk.ch fP.ch
 replace d4 := d4.ch fP.ch
 replace e9 := e9.ch fP.ch
 replace gS := gS.ch fP.ch
 replace kX := kX.ch fP.ch
 replace rz := rz.ch fP.ch
 replace hB := hB.trans fP.fr
 refine GoR.op ((op_nilCheck rfl) _) rfl rfl ?_
 refine GoR.op ((op_fieldAddr Try.underlying72 rfl ti26 rfl (by decide)) _) rfl rfl ?_
 have hobt := oblkSt2 (v := .slice vO (0 + 1) vP) (i := 11) (cs' := #[.int .i64 ((ix a0 (0 : Int)).length : Int), .bool true, .slice p35 n37 c36, .slice oQ (0 + 1) oR, .slice q9 (0 + 1) ra, .slice sg (0 + 1) si, .slice none 0 0, .slice none 0 0, .int .i64 (0 : Int), .map (some B4), .slice t5 (0 + 1) t6, .slice vO (0 + 1) vP, .slice none 0 0]) 6 hO rfl rfl rfl rfl
 obtain ⟨Bz, mz, BA⟩ := hobt
 dsimp only [sS, sZ] at mz
 refine GoR.op (BA Try.underlying26 rfl ti26 (by exact rfl) (by exact rfl)) rfl rfl ?_
 replace tF := tF.ch mz.ch
 replace nm := nm.ch mz.ch
 replace iU := iU.ch mz.ch
 replace fD := fD.ch mz.ch
 replace eg := eg.ch mz.ch
 replace aj := aj.ch mz.ch
 replace hO := mz.own
 replace b7 := b7.ch mz.ch
 replace dk := dk.ch mz.ch
 replace d4 := d4.ch mz.ch
 replace e9 := e9.ch mz.ch
 replace gS := gS.ch mz.ch
 replace kX := kX.ch mz.ch
 replace rz := rz.ch mz.ch
 replace hB := hB.trans mz.fr
 refine GoR.nil ?_
 refine Go1.seq ?_
 refine Go1.cut [(13, .int .i64 (0 : Int))] ⟨rfl, trivial⟩ ?_
 intro σ _
 refine Go1.region ?_
 refine GoR.op ((op_move rfl) _) rfl rfl ?_
 refine GoR.op ((op_assign rfl) _) rfl rfl ?_
 refine GoR.nil ?_
 refine Go1.ret1V Try.func65 rfl (show _ = .int .i64 (0 : Int) from rfl) ?_
 refine hR403 _ _ ?_
 refine GoR.op ((op_assign rfl) _) rfl rfl ?_
 refine GoR.nil ?_
 refine Go1.seq ?_
 refine Go1.seq ?_
 refine Go1.region ?_
 refine GoR.op ((op_move rfl) _) rfl rfl ?_
 refine GoR.op ((op_nilCheck rfl) _) rfl rfl ?_
 refine GoR.op ((op_fieldAddr Try.underlying72 rfl ti29 rfl (by decide)) _) rfl rfl ?_
 refine GoR.op ((op_fieldAddr Try.underlying29 rfl ti22 rfl (by decide)) _) rfl rfl ?_
 refine GoR.op ((oblk (i := 2) 6 hO rfl rfl Try.underlying22 rfl rfl) _ (Same.refl _)) rfl rfl ?_
 refine GoR.op ((op_lenN Try.underlying22 rfl (aj.neq hO 5 rfl)) _) rfl rfl ?_
 refine GoR.op ((op_move rfl) _) rfl rfl ?_
 refine GoR.nil ?_
 refine Go1.block ?_
 have m7 := Stp.nil (e := 39) (r := 2) hO
 replace tF := tF.ch m7.ch
 replace nm := nm.ch m7.ch
 replace iU := iU.ch m7.ch
 replace fD := fD.ch m7.ch
 replace eg := eg.ch m7.ch
 replace aj := aj.ch m7.ch
 replace hO := m7.own
 replace b7 := b7.ch m7.ch
 replace dk := dk.ch m7.ch
 replace d4 := d4.ch m7.ch
 replace e9 := e9.ch m7.ch
 replace gS := gS.ch m7.ch
 replace kX := kX.ch m7.ch
 replace rz := rz.ch m7.ch
 replace hB := hB.trans m7.fr
 have yB := Els.nil (rpRule) (bl (.row 39 2 none 0 0 [] :: [.row 3 1 vO (0 + 1) vP yA, .row 9 1 t5 (0 + 1) t6 xz, .row 3 1 sg (0 + 1) si wr, .row 3 1 q9 (0 + 1) ra vc, .row 26 1 oQ (0 + 1) oR uu, .row 26 1 p35 n37 c36 fK, .blk B10 (.cells #[.int .i64 ((ix a0 (0 : Int)).length : Int), .bool true, .slice p35 n37 c36, .slice oQ (0 + 1) oR, .slice q9 (0 + 1) ra, .slice sg (0 + 1) si, .slice none 0 0, .slice none 0 0, .int .i64 (0 : Int), .map (some B4), .slice t5 (0 + 1) t6, .slice vO (0 + 1) vP, .slice none 0 0] 72 (0, 0)), .any (mapE (fun a : List UInt8 => Value.string (gstr a)) (fun a : Int => Value.int .i64 a) B4 (mput (([] : List (Str × Int))) r407 ((0 : Int))))]) ++ A) Bz
 have mA := Stp.nil (e := 3) (r := 1) hO
 replace yB := yB.ch mA.ch
 replace tF := tF.ch mA.ch
 replace nm := nm.ch mA.ch
 replace iU := iU.ch mA.ch
 replace fD := fD.ch mA.ch
 replace eg := eg.ch mA.ch
 replace aj := aj.ch mA.ch
 replace hO := mA.own
 replace b7 := b7.ch mA.ch
 replace dk := dk.ch mA.ch
 replace d4 := d4.ch mA.ch
 replace e9 := e9.ch mA.ch
 replace gS := gS.ch mA.ch
 replace kX := kX.ch mA.ch
 replace rz := rz.ch mA.ch
 replace hB := hB.trans mA.fr
 have Ea := Els.nil (Rp.int .i64) (bl (.row 3 1 none 0 0 [] :: [.row 39 2 none 0 0 [], .row 3 1 vO (0 + 1) vP yA, .row 9 1 t5 (0 + 1) t6 xz, .row 3 1 sg (0 + 1) si wr, .row 3 1 q9 (0 + 1) ra vc, .row 26 1 oQ (0 + 1) oR uu, .row 26 1 p35 n37 c36 fK, .blk B10 (.cells #[.int .i64 ((ix a0 (0 : Int)).length : Int), .bool true, .slice p35 n37 c36, .slice oQ (0 + 1) oR, .slice q9 (0 + 1) ra, .slice sg (0 + 1) si, .slice none 0 0, .slice none 0 0, .int .i64 (0 : Int), .map (some B4), .slice t5 (0 + 1) t6, .slice vO (0 + 1) vP, .slice none 0 0] 72 (0, 0)), .any (mapE (fun a : List UInt8 => Value.string (gstr a)) (fun a : Int => Value.int .i64 a) B4 (mput (([] : List (Str × Int))) r407 ((0 : Int))))]) ++ A) Bz
 refine Go1.loopW (S := Nat × List Int × List Rule × List Int × List Str × List Int × List Int × List (List Int) × (List (Str × Int))) (fun s σ w => match s with | (k3_548, d_549, d_555, d_561, d_567, d_573, d_579, d_585, m3_591) => ∃ (iR : Nat), ∃ (ki : Option Addr), ∃ (kj : Nat), ∃ (qt : List Value), ∃ (i7 : Nat), ∃ (jP : Option Addr), ∃ (jQ : Nat), ∃ (oS : List Value), ∃ (i8 : Nat), ∃ (jR : Option Addr), ∃ (jS : Nat), ∃ (oT : List Value), ∃ (i9 : Nat), ∃ (kl : Option Addr), ∃ (km : Nat), ∃ (oU : List Value), ∃ (ja : Nat), ∃ (ks : Option Addr), ∃ (kt : Nat), ∃ (oV : List Value), ∃ (jb : Nat), ∃ (kU : Option Addr), ∃ (kV : Nat), ∃ (oW : List Value), ∃ (jc : Nat), ∃ (lz : Option Addr), ∃ (lA : Nat), ∃ (oX : List Value), agrees σ [(6, .pointer (some ⟨B10, 0, none⟩)), (9, .int .i64 (0 : Int)), (85, .slice p35 n37 c36), (86, .int .i64 (d_32.length : Int)), (87, .int .i64 (k3_548 : Int))] ∧ Owns w0.heap.size w [.row 3 1 ki iR kj qt, .row 39 2 jP i7 jQ oS, .row 3 1 jR i8 jS oT, .row 9 1 kl i9 km oU, .row 3 1 ks ja kt oV, .row 3 1 kU jb kV oW, .row 26 1 lz jc lA oX, .row 26 1 p35 n37 c36 fK, .blk B10 (.cells #[.int .i64 ((ix a0 (0 : Int)).length : Int), .bool true, .slice p35 n37 c36, .slice lz jc lA, .slice kU jb kV, .slice ks ja kt, .slice none 0 0, .slice jP i7 jQ, .int .i64 (0 : Int), .map (some B4), .slice kl i9 km, .slice jR i8 jS, .slice ki iR kj] 72 (0, 0)), .any (mapE (fun a : List UInt8 => Value.string (gstr a)) (fun a : Int => Value.int .i64 a) B4 m3_591)] A ∧ Els (Rp.int .i64) (bl [.row 3 1 ki iR kj qt, .row 39 2 jP i7 jQ oS, .row 3 1 jR i8 jS oT, .row 9 1 kl i9 km oU, .row 3 1 ks ja kt oV, .row 3 1 kU jb kV oW, .row 26 1 lz jc lA oX, .row 26 1 p35 n37 c36 fK, .blk B10 (.cells #[.int .i64 ((ix a0 (0 : Int)).length : Int), .bool true, .slice p35 n37 c36, .slice lz jc lA, .slice kU jb kV, .slice ks ja kt, .slice none 0 0, .slice jP i7 jQ, .int .i64 (0 : Int), .map (some B4), .slice kl i9 km, .slice jR i8 jS, .slice ki iR kj] 72 (0, 0)), .any (mapE (fun a : List UInt8 => Value.string (gstr a)) (fun a : Int => Value.int .i64 a) B4 m3_591)] ++ A) w qt d_549 ∧ Els (rpRule) (bl [.row 3 1 ki iR kj qt, .row 39 2 jP i7 jQ oS, .row 3 1 jR i8 jS oT, .row 9 1 kl i9 km oU, .row 3 1 ks ja kt oV, .row 3 1 kU jb kV oW, .row 26 1 lz jc lA oX, .row 26 1 p35 n37 c36 fK, .blk B10 (.cells #[.int .i64 ((ix a0 (0 : Int)).length : Int), .bool true, .slice p35 n37 c36, .slice lz jc lA, .slice kU jb kV, .slice ks ja kt, .slice none 0 0, .slice jP i7 jQ, .int .i64 (0 : Int), .map (some B4), .slice kl i9 km, .slice jR i8 jS, .slice ki iR kj] 72 (0, 0)), .any (mapE (fun a : List UInt8 => Value.string (gstr a)) (fun a : Int => Value.int .i64 a) B4 m3_591)] ++ A) w oS d_555 ∧ Els (Rp.int .i64) (bl [.row 3 1 ki iR kj qt, .row 39 2 jP i7 jQ oS, .row 3 1 jR i8 jS oT, .row 9 1 kl i9 km oU, .row 3 1 ks ja kt oV, .row 3 1 kU jb kV oW, .row 26 1 lz jc lA oX, .row 26 1 p35 n37 c36 fK, .blk B10 (.cells #[.int .i64 ((ix a0 (0 : Int)).length : Int), .bool true, .slice p35 n37 c36, .slice lz jc lA, .slice kU jb kV, .slice ks ja kt, .slice none 0 0, .slice jP i7 jQ, .int .i64 (0 : Int), .map (some B4), .slice kl i9 km, .slice jR i8 jS, .slice ki iR kj] 72 (0, 0)), .any (mapE (fun a : List UInt8 => Value.string (gstr a)) (fun a : Int => Value.int .i64 a) B4 m3_591)] ++ A) w oT d_561 ∧ Els (Rp.str) (bl [.row 3 1 ki iR kj qt, .row 39 2 jP i7 jQ oS, .row 3 1 jR i8 jS oT, .row 9 1 kl i9 km oU, .row 3 1 ks ja kt oV, .row 3 1 kU jb kV oW, .row 26 1 lz jc lA oX, .row 26 1 p35 n37 c36 fK, .blk B10 (.cells #[.int .i64 ((ix a0 (0 : Int)).length : Int), .bool true, .slice p35 n37 c36, .slice lz jc lA, .slice kU jb kV, .slice ks ja kt, .slice none 0 0, .slice jP i7 jQ, .int .i64 (0 : Int), .map (some B4), .slice kl i9 km, .slice jR i8 jS, .slice ki iR kj] 72 (0, 0)), .any (mapE (fun a : List UInt8 => Value.string (gstr a)) (fun a : Int => Value.int .i64 a) B4 m3_591)] ++ A) w oU d_567 ∧ Els (Rp.int .i64) (bl [.row 3 1 ki iR kj qt, .row 39 2 jP i7 jQ oS, .row 3 1 jR i8 jS oT, .row 9 1 kl i9 km oU, .row 3 1 ks ja kt oV, .row 3 1 kU jb kV oW, .row 26 1 lz jc lA oX, .row 26 1 p35 n37 c36 fK, .blk B10 (.cells #[.int .i64 ((ix a0 (0 : Int)).length : Int), .bool true, .slice p35 n37 c36, .slice lz jc lA, .slice kU jb kV, .slice ks ja kt, .slice none 0 0, .slice jP i7 jQ, .int .i64 (0 : Int), .map (some B4), .slice kl i9 km, .slice jR i8 jS, .slice ki iR kj] 72 (0, 0)), .any (mapE (fun a : List UInt8 => Value.string (gstr a)) (fun a : Int => Value.int .i64 a) B4 m3_591)] ++ A) w oV d_573 ∧ Els (Rp.int .i64) (bl [.row 3 1 ki iR kj qt, .row 39 2 jP i7 jQ oS, .row 3 1 jR i8 jS oT, .row 9 1 kl i9 km oU, .row 3 1 ks ja kt oV, .row 3 1 kU jb kV oW, .row 26 1 lz jc lA oX, .row 26 1 p35 n37 c36 fK, .blk B10 (.cells #[.int .i64 ((ix a0 (0 : Int)).length : Int), .bool true, .slice p35 n37 c36, .slice lz jc lA, .slice kU jb kV, .slice ks ja kt, .slice none 0 0, .slice jP i7 jQ, .int .i64 (0 : Int), .map (some B4), .slice kl i9 km, .slice jR i8 jS, .slice ki iR kj] 72 (0, 0)), .any (mapE (fun a : List UInt8 => Value.string (gstr a)) (fun a : Int => Value.int .i64 a) B4 m3_591)] ++ A) w oW d_579 ∧ Els (Rp.sl (Rp.int .i64)) (bl [.row 3 1 ki iR kj qt, .row 39 2 jP i7 jQ oS, .row 3 1 jR i8 jS oT, .row 9 1 kl i9 km oU, .row 3 1 ks ja kt oV, .row 3 1 kU jb kV oW, .row 26 1 lz jc lA oX, .row 26 1 p35 n37 c36 fK, .blk B10 (.cells #[.int .i64 ((ix a0 (0 : Int)).length : Int), .bool true, .slice p35 n37 c36, .slice lz jc lA, .slice kU jb kV, .slice ks ja kt, .slice none 0 0, .slice jP i7 jQ, .int .i64 (0 : Int), .map (some B4), .slice kl i9 km, .slice jR i8 jS, .slice ki iR kj] 72 (0, 0)), .any (mapE (fun a : List UInt8 => Value.string (gstr a)) (fun a : Int => Value.int .i64 a) B4 m3_591)] ++ A) w oX d_585 ∧ Els (Rp.sl (Rp.int .i64)) (bl [.row 3 1 ki iR kj qt, .row 39 2 jP i7 jQ oS, .row 3 1 jR i8 jS oT, .row 9 1 kl i9 km oU, .row 3 1 ks ja kt oV, .row 3 1 kU jb kV oW, .row 26 1 lz jc lA oX, .row 26 1 p35 n37 c36 fK, .blk B10 (.cells #[.int .i64 ((ix a0 (0 : Int)).length : Int), .bool true, .slice p35 n37 c36, .slice lz jc lA, .slice kU jb kV, .slice ks ja kt, .slice none 0 0, .slice jP i7 jQ, .int .i64 (0 : Int), .map (some B4), .slice kl i9 km, .slice jR i8 jS, .slice ki iR kj] 72 (0, 0)), .any (mapE (fun a : List UInt8 => Value.string (gstr a)) (fun a : Int => Value.int .i64 a) B4 m3_591)] ++ A) w fK d_32 ∧ Fr (bl []) w0 (bl [.row 3 1 ki iR kj qt, .row 39 2 jP i7 jQ oS, .row 3 1 jR i8 jS oT, .row 9 1 kl i9 km oU, .row 3 1 ks ja kt oV, .row 3 1 kU jb kV oW, .row 26 1 lz jc lA oX, .row 26 1 p35 n37 c36 fK, .blk B10 (.cells #[.int .i64 ((ix a0 (0 : Int)).length : Int), .bool true, .slice p35 n37 c36, .slice lz jc lA, .slice kU jb kV, .slice ks ja kt, .slice none 0 0, .slice jP i7 jQ, .int .i64 (0 : Int), .map (some B4), .slice kl i9 km, .slice jR i8 jS, .slice ki iR kj] 72 (0, 0)), .any (mapE (fun a : List UInt8 => Value.string (gstr a)) (fun a : Int => Value.int .i64 a) B4 m3_591)]) w) H ⟨0, none, 0, [], 0, none, 0, [], 0 + 1, vO, vP, yA, 0 + 1, t5, t6, xz, 0 + 1, sg, si, wr, 0 + 1, q9, ra, vc, 0 + 1, oQ, oR, uu, ⟨rfl, rfl, rfl, rfl, rfl, trivial⟩, hO, Ea, yB, tF, nm, iU, fD, eg, aj, hB⟩ ?_
 intro X3
 refine prE fun k3_548 => prE fun d_549 => prE fun d_555 => prE fun d_561 => prE fun d_567 => prE fun d_573 => prE fun d_579 => prE fun d_585 => fun m3_591 => ?_
 intro H hX3 σ Hz
 refine exE fun iR => exE fun ki => exE fun kj => exE fun qt => exE fun i7 => exE fun jP => exE fun jQ => exE fun oS => exE fun i8 => exE fun jR => exE fun jS => exE fun oT => exE fun i9 => exE fun kl => exE fun km => exE fun oU => exE fun ja => exE fun ks => exE fun kt => exE fun oV => exE fun jb => exE fun kU => exE fun kV => exE fun oW => exE fun jc => exE fun lz => exE fun lA => exE fun oX => andE fun hag => andE fun hO => andE fun cu => andE fun cC => andE fun cD => andE fun cI => andE fun de => andE fun dt => andE fun dJ => andE fun aj => fun hB => ?_
 dsimp only at H
 refine Go1.keep [(6, .pointer (some ⟨B10, 0, none⟩)), (9, .int .i64 (0 : Int)), (85, .slice p35 n37 c36), (86, .int .i64 (d_32.length : Int)), (87, .int .i64 (k3_548 : Int))] hag ?_
 refine Go1.seq ?_
 refine Go1.region ?_
 by_cases wQ : (k3_548 : Int) < (d_32.length : Int)
 ·replace H := ifp wQ H
  refine GoR.op ((fun w => opB (op_lss rfl rfl w) (decide_eq_true wQ)) _) rfl rfl ?_
  refine GoR.nil ?_
  refine Go1.seq ?_
  refine Go1.condT rfl rfl ?_
  refine Go1.skip ?_
  refine Go1.seq ?_
  refine Go1.block ?_
  refine Go1.seq ?_
  refine Go1.region ?_
  refine GoR.op ((op_move rfl) _) rfl rfl ?_
  obtain ⟨zJ, H⟩ := H
  obtain ⟨zK, H⟩ := H
  refine GoR.op ((op_index Try.underlying22 ti26 rfl rfl zJ (ltn (aj.neq hO 7 rfl) zK) (aj.psome hO 7 rfl zJ zK)) _) rfl rfl ?_
  have hobt := oldSl 7 hO rfl aj zJ zK
  obtain ⟨BB, BC, cZ, Eb⟩ := hobt
  refine GoR.op ((Eb Try.underlying26 rfl rfl) _ (Same.refl _)) rfl rfl ?_
  refine GoR.op ((op_assign rfl) _) rfl rfl ?_
  refine GoR.op ((op_assign rfl) _) rfl rfl ?_
  refine GoR.nil ?_
  refine Go1.seq ?_
  refine Go1.region ?_
  refine GoR.op ((op_move rfl) _) rfl rfl ?_
  obtain ⟨HA, H⟩ := H
  refine GoR.op ((op_add rfl rfl (wrap_i64 HA)) _) rfl rfl ?_
  refine GoR.op ((op_conv Try.underlying3 Try.underlying21 rfl rfl) _) rfl rfl ?_
  obtain ⟨HB, H⟩ := H
  obtain ⟨HC, H⟩ := H
  refine GoR.op ((op_convRS Try.underlying21 Try.underlying9 rfl HB HC) _) rfl rfl ?_
  refine GoR.op ((op_assign rfl) _) rfl rfl ?_
  refine GoR.nil ?_
  refine Go1.seq ?_
  refine Go1.drawS 0 [(0, .pure), (1, .pure), (2, .pure), (3, .stable), (4, .pure), (5, .loud), (6, .stable), (7, .pure), (8, .pure), (9, .pure), (10, .pure), (11, .pure)] mixed (by kernel_rfl) ?_
  intro Kt Ec
  have qH := Stp.same hO Ec
  replace cu := cu.ch qH.ch
  replace cC := cC.ch qH.ch
  replace cD := cD.ch qH.ch
  replace cI := cI.ch qH.ch
  replace de := de.ch qH.ch
  replace dt := dt.ch qH.ch
  replace dJ := dJ.ch qH.ch
  replace aj := aj.ch qH.ch
  replace hO := qH.own
  replace cZ := cZ.ch qH.ch
  replace hB := hB.trans qH.fr
  refine GoQ.pure rfl (op_move rfl) rfl rfl ?_
  refine GoQ.pure rfl (op_nilCheck rfl) rfl rfl ?_
  refine GoQ.pure rfl (op_fieldAddr Try.underlying72 rfl ti69 rfl (by decide)) rfl rfl ?_
  refine GoQ.stable rfl (oblk (i := 9) 8 hO rfl rfl Try.underlying69 rfl rfl) rfl rfl ?_
  refine GoQ.pure rfl (op_move rfl) rfl rfl ?_
  refine GoQ.call rfl (op_call body61 rfl (walk_enumerate_text hO.lt cZ H)) (fun v w hr => by obtain ⟨_, _, hs, _, _⟩ := hr; assumption) rfl rfl ?_
  rintro Ku Kv ⟨r605, rfl, Ed, IQ, H⟩
  have qI := Stp.same hO Ed
  replace cu := cu.ch qI.ch
  replace cC := cC.ch qI.ch
  replace cD := cD.ch qI.ch
  replace cI := cI.ch qI.ch
  replace de := de.ch qI.ch
  replace dt := dt.ch qI.ch
  replace dJ := dJ.ch qI.ch
  replace aj := aj.ch qI.ch
  replace hO := qI.own
  replace cZ := cZ.ch qI.ch
  replace hB := hB.trans qI.fr
  by_cases yC : mhas m3_591 r605 = true
  ·replace H := ifp yC H
   refine GoQ.stable rfl (olookT (a := r605) (MK.str Try.underlying9) 9 hO rfl Try.underlying69 rfl rfl yC) rfl rfl ?_
   refine GoQ.pure rfl (op_move rfl) rfl rfl ?_
   refine GoQ.pure rfl (op_extract rfl rfl) rfl rfl ?_
   refine GoQ.pure rfl (op_extract rfl rfl) rfl rfl ?_
   refine GoQ.pure rfl (op_assign rfl) rfl rfl ?_
   refine GoQ.pure rfl (op_assign rfl) rfl rfl ?_
   refine GoQ.nil ?_
   refine Go1.seq ?_
   refine Go1.seq ?_
   refine Go1.cut [(6, .pointer (some ⟨B10, 0, none⟩)), (9, .int .i64 (0 : Int)), (10, .int .i64 (k3_548 : Int)), (11, .slice BB ((ix d_32 (k3_548 : Int)).length) BC), (12, .string (gstr (chr (IntKind.i32.wrap ((97 : Int) + (k3_548 : Int)))))), (13, .int .i64 (mgt m3_591 r605)), (14, .bool true), (85, .slice p35 n37 c36), (86, .int .i64 (d_32.length : Int)), (87, .int .i64 (k3_548 : Int))] ⟨rfl, rfl, rfl, rfl, rfl, rfl, rfl, rfl, rfl, rfl, trivial⟩ ?_
   intro σ _
   refine Go1.region ?_
   refine GoR.op ((op_move rfl) _) rfl rfl ?_
   refine GoR.nil ?_
   refine Go1.condT rfl rfl ?_
   refine Go1.drawS 5 [(0, .pure), (1, .pure), (2, .pure), (3, .pure), (4, .pure), (5, .stable), (6, .pure), (7, .pure), (8, .pure), (9, .pure), (10, .stable), (11, .pure), (12, .pure), (13, .stable), (14, .pure), (15, .loud), (16, .last), (17, .pure), (18, .pure), (19, .pure), (20, .last)] mixed (by kernel_rfl) ?_
   intro Kw Ee
   have qJ := Stp.same hO Ee
   replace cu := cu.ch qJ.ch
   replace cC := cC.ch qJ.ch
   replace cD := cD.ch qJ.ch
   replace cI := cI.ch qJ.ch
   replace de := de.ch qJ.ch
   replace dt := dt.ch qJ.ch
   replace dJ := dJ.ch qJ.ch
   replace aj := aj.ch qJ.ch
   replace hO := qJ.own
   replace cZ := cZ.ch qJ.ch
   replace hB := hB.trans qJ.fr
   refine GoQ.pure rfl (op_move rfl) rfl rfl ?_
   refine GoQ.pure rfl (op_move rfl) rfl rfl ?_
   refine GoQ.pure rfl (op_nilCheck rfl) rfl rfl ?_
   refine GoQ.pure rfl (op_fieldAddr Try.underlying72 rfl ti29 rfl (by decide)) rfl rfl ?_
   refine GoQ.pure rfl (op_fieldAddr Try.underlying29 rfl ti27 rfl (by decide)) rfl rfl ?_
   refine GoQ.stable rfl (oblk (i := 7) 8 hO rfl rfl Try.underlying27 rfl rfl) rfl rfl ?_
   refine GoQ.pure rfl (op_move rfl) rfl rfl ?_
   refine GoQ.pure rfl (op_move rfl) rfl rfl ?_
   refine GoQ.pure rfl (op_nilCheck rfl) rfl rfl ?_
   refine GoQ.pure rfl (op_fieldAddr Try.underlying72 rfl ti70 rfl (by decide)) rfl rfl ?_
   refine GoQ.stable rfl (oblk (i := 10) 8 hO rfl rfl Try.underlying70 rfl rfl) rfl rfl ?_
   refine GoQ.pure rfl (op_move rfl) rfl rfl ?_
   obtain ⟨yD, H⟩ := H
   obtain ⟨yE, H⟩ := H
   refine GoQ.pure rfl (op_index Try.underlying70 ti9 rfl rfl yD (ltn (cI.neq hO 3 rfl) yE) (cI.psome hO 3 rfl yD yE)) rfl rfl ?_
   refine GoQ.stable rfl (oldStr 3 hO rfl cI yD yE Try.underlying9 rfl rfl) rfl rfl ?_
   have hle617 := Els.str_le cI yD yE
   refine GoQ.pure rfl (op_build Try.underlying39 ti39 (pl := [(0, 1), (1, 1)]) (vs := [(0, .string (gstr (chr (IntKind.i32.wrap ((97 : Int) + (k3_548 : Int)))))), (1, .string (gstr (ix d_567 (mgt m3_591 r605))))]) (cs := #[.string (gstr (chr (IntKind.i32.wrap ((97 : Int) + (k3_548 : Int))))), .string (gstr (ix d_567 (mgt m3_591 r605)))]) (by kernel_rfl) rfl (by kernel_rfl)) rfl rfl ?_
   have hobt := obuildN (r := rpRule) (n := 1) (parts := [(0, .agg #[.string (gstr (chr (IntKind.i32.wrap ((97 : Int) + (k3_548 : Int))))), .string (gstr (ix d_567 (mgt m3_591 r605)))])]) (vs := [.string (gstr (chr (IntKind.i32.wrap ((97 : Int) + (k3_548 : Int))))), .string (gstr (ix d_567 (mgt m3_591 r605)))]) (xs := [(⟨chr (IntKind.i32.wrap ((97 : Int) + (k3_548 : Int))), ix d_567 (mgt m3_591 r605)⟩ : Rule)]) Try.underlying27 ti39 hO (by decide) (by decide) (by kernel_rfl) (Els.flat1 (⟨chr (IntKind.i32.wrap ((97 : Int) + (k3_548 : Int))), ix d_567 (mgt m3_591 r605)⟩ : Rule) ⟨(chr_le _), hle617⟩) rfl
   obtain ⟨Kx, Ky, qK, Ef, Eg, BD⟩ := hobt
   refine GoQ.loud rfl (BD rfl) Eg rfl rfl ?_
   replace cu := cu.ch qK.ch
   replace cC := cC.ch qK.ch
   replace cD := cD.ch qK.ch
   replace cI := cI.ch qK.ch
   replace de := de.ch qK.ch
   replace dt := dt.ch qK.ch
   replace dJ := dJ.ch qK.ch
   replace aj := aj.ch qK.ch
   replace hO := qK.own
   replace cZ := cZ.ch qK.ch
   replace hB := hB.trans qK.fr
   have hobt := freeze 0 hO rfl Ef
   obtain ⟨hO1, sw, qu, Eh⟩ := hobt
   dsimp only [eS, eZ] at hO1 sw qu
   replace cZ := cZ.ch sw
   replace cu := cu.ch sw
   replace cC := cC.ch sw
   replace cD := cD.ch sw
   replace cI := cI.ch sw
   replace de := de.ch sw
   replace dt := dt.ch sw
   replace dJ := dJ.ch sw
   replace aj := aj.ch sw
   replace hB := hB.trans (Owns.dropFr _ _ 0)
   dsimp only [eS, eZ] at hB
   replace hO := hO1; clear hO1
   obtain ⟨HD, H⟩ := H
   have hobt := oapp Try.underlying27 ti39 rfl 1 hO rfl cC qu Eh HD (by decide)
   obtain ⟨Kz, yF, yG, Ei, pF, rB, BE⟩ := hobt
   dsimp only [sS, sZ] at pF rB
   refine GoQ.last rfl (BE (by exact rfl) (by exact rfl)) rfl rfl ?_
   replace cu := cu.ch pF.ch
   replace cD := cD.ch pF.ch
   replace cI := cI.ch pF.ch
   replace de := de.ch pF.ch
   replace dt := dt.ch pF.ch
   replace dJ := dJ.ch pF.ch
   replace aj := aj.ch pF.ch
   replace hO := pF.own
   replace cZ := cZ.ch pF.ch
   replace qu := qu.ch pF.ch
   replace hB := hB.trans pF.fr
   refine GoQ.pure rfl (op_nilCheck rfl) rfl rfl ?_
   refine GoQ.pure rfl (op_fieldAddr Try.underlying72 rfl ti29 rfl (by decide)) rfl rfl ?_
   refine GoQ.pure rfl (op_fieldAddr Try.underlying29 rfl ti27 rfl (by decide)) rfl rfl ?_
   have hobt := oblkSt2 (v := .slice yF (i7 + 1) yG) (i := 7) (cs' := #[.int .i64 ((ix a0 (0 : Int)).length : Int), .bool true, .slice p35 n37 c36, .slice lz jc lA, .slice kU jb kV, .slice ks ja kt, .slice none 0 0, .slice yF (i7 + 1) yG, .int .i64 (0 : Int), .map (some B4), .slice kl i9 km, .slice jR i8 jS, .slice ki iR kj]) 8 hO rfl rfl rfl rfl
   obtain ⟨KA, om, BG⟩ := hobt
   dsimp only [sS, sZ] at om
   refine GoQ.last rfl (BG Try.underlying27 rfl ti27 (by exact rfl) (by exact rfl)) rfl rfl ?_
   replace cu := cu.ch om.ch
   replace rB := rB.ch om.ch
   replace cD := cD.ch om.ch
   replace cI := cI.ch om.ch
   replace de := de.ch om.ch
   replace dt := dt.ch om.ch
   replace dJ := dJ.ch om.ch
   replace aj := aj.ch om.ch
   replace hO := om.own
   replace cZ := cZ.ch om.ch
   replace qu := qu.ch om.ch
   replace hB := hB.trans om.fr
   refine GoQ.nil ?_
   refine Go1.cut [(6, .pointer (some ⟨B10, 0, none⟩)), (9, .int .i64 (0 : Int)), (13, .int .i64 (mgt m3_591 r605)), (85, .slice p35 n37 c36), (86, .int .i64 (d_32.length : Int)), (87, .int .i64 (k3_548 : Int))] ⟨rfl, rfl, rfl, rfl, rfl, rfl, trivial⟩ ?_
   intro σ _
   refine Go1.region ?_
   refine GoR.op ((op_move rfl) _) rfl rfl ?_
   refine GoR.op ((op_move rfl) _) rfl rfl ?_
   refine GoR.op ((op_nilCheck rfl) _) rfl rfl ?_
   refine GoR.op ((op_fieldAddr Try.underlying72 rfl ti26 rfl (by decide)) _) rfl rfl ?_
   refine GoR.op ((oblk (i := 12) 8 hO rfl rfl Try.underlying26 rfl rfl) _ (Same.refl _)) rfl rfl ?_
   refine GoR.op ((op_move rfl) _) rfl rfl ?_
   have hobt := obuild (r := Rp.int .i64) (n := 1) (parts := [(0, .int .i64 (mgt m3_591 r605))]) (vs := [.int .i64 (mgt m3_591 r605)]) (xs := [(mgt m3_591 r605)]) rfl Try.underlying26 ti3 hO (by decide) (by kernel_rfl) (Els.cons rfl rfl (Els.nil _ _ _) (by simp [mx])) rfl
   obtain ⟨KB, KC, pG, Ej, Jc, BH⟩ := hobt
   refine GoR.op (BH rfl) rfl rfl ?_
   replace cu := cu.ch pG.ch
   replace rB := rB.ch pG.ch
   replace cD := cD.ch pG.ch
   replace cI := cI.ch pG.ch
   replace de := de.ch pG.ch
   replace dt := dt.ch pG.ch
   replace dJ := dJ.ch pG.ch
   replace aj := aj.ch pG.ch
   replace hO := pG.own
   replace cZ := cZ.ch pG.ch
   replace qu := qu.ch pG.ch
   replace hB := hB.trans pG.fr
   have hobt := freeze 0 hO rfl Ej
   obtain ⟨hO1, rP, vd, Ek⟩ := hobt
   dsimp only [eS, eZ] at hO1 rP vd
   replace cZ := cZ.ch rP
   replace qu := qu.ch rP
   replace cu := cu.ch rP
   replace rB := rB.ch rP
   replace cD := cD.ch rP
   replace cI := cI.ch rP
   replace de := de.ch rP
   replace dt := dt.ch rP
   replace dJ := dJ.ch rP
   replace aj := aj.ch rP
   replace hB := hB.trans (Owns.dropFr _ _ 0)
   dsimp only [eS, eZ] at hB
   replace hO := hO1; clear hO1
   obtain ⟨HE, H⟩ := H
   have hobt := oapp Try.underlying26 ti3 rfl 0 hO rfl cu vd Ek HE (by decide)
   obtain ⟨KD, zL, zM, El, oo, xA, BI⟩ := hobt
   dsimp only [sS, sZ] at oo xA
   refine GoR.op (BI (by exact rfl) (by exact rfl)) rfl rfl ?_
   replace rB := rB.ch oo.ch
   replace cD := cD.ch oo.ch
   replace cI := cI.ch oo.ch
   replace de := de.ch oo.ch
   replace dt := dt.ch oo.ch
   replace dJ := dJ.ch oo.ch
   replace aj := aj.ch oo.ch
   replace hO := oo.own
   replace cZ := cZ.ch oo.ch
   replace qu := qu.ch oo.ch
   replace vd := vd.ch oo.ch
   replace hB := hB.trans oo.fr
   refine GoR.op ((op_nilCheck rfl) _) rfl rfl ?_
   refine GoR.op ((op_fieldAddr Try.underlying72 rfl ti26 rfl (by decide)) _) rfl rfl ?_
   have hobt := oblkSt2 (v := .slice zL (iR + 1) zM) (i := 12) (cs' := #[.int .i64 ((ix a0 (0 : Int)).length : Int), .bool true, .slice p35 n37 c36, .slice lz jc lA, .slice kU jb kV, .slice ks ja kt, .slice none 0 0, .slice yF (i7 + 1) yG, .int .i64 (0 : Int), .map (some B4), .slice kl i9 km, .slice jR i8 jS, .slice zL (iR + 1) zM]) 8 hO rfl rfl rfl rfl
   obtain ⟨KE, nA, BJ⟩ := hobt
   dsimp only [sS, sZ] at nA
   refine GoR.op (BJ Try.underlying26 rfl ti26 (by exact rfl) (by exact rfl)) rfl rfl ?_
   replace xA := xA.ch nA.ch
   replace rB := rB.ch nA.ch
   replace cD := cD.ch nA.ch
   replace cI := cI.ch nA.ch
   replace de := de.ch nA.ch
   replace dt := dt.ch nA.ch
   replace dJ := dJ.ch nA.ch
   replace aj := aj.ch nA.ch
   replace hO := nA.own
   replace cZ := cZ.ch nA.ch
   replace qu := qu.ch nA.ch
   replace vd := vd.ch nA.ch
   replace hB := hB.trans nA.fr
   refine GoR.nil ?_
   refine Go1.inBlock ?_
   refine Go1.region ?_
   refine GoR.op ((op_add rfl rfl (wrap_i64 (natbd wQ aj.bd))) _) rfl rfl ?_
   refine GoR.op ((op_move rfl) _) rfl rfl ?_
   refine GoR.nil ?_
   exact hX3 _ H _ _ ⟨iR + 1, zL, zM, El, i7 + 1, yF, yG, Ei, i8, jR, jS, oT, i9, kl, km, oU, ja, ks, kt, oV, jb, kU, kV, oW, jc, lz, lA, oX, ⟨rfl, rfl, rfl, rfl, rfl, trivial⟩, hO, xA, rB, cD, cI, de, dt, dJ, aj, hB⟩
  replace H := ifn yC H
  refine GoQ.stable rfl (olookF (a := r605) (MK.str Try.underlying9) 9 hO rfl Try.underlying69 ti3 rfl rfl yC) rfl rfl ?_
  refine GoQ.pure rfl (op_move rfl) rfl rfl ?_
  refine GoQ.pure rfl (op_extract rfl rfl) rfl rfl ?_
  refine GoQ.pure rfl (op_extract rfl rfl) rfl rfl ?_
  refine GoQ.pure rfl (op_assign rfl) rfl rfl ?_
  refine GoQ.pure rfl (op_assign rfl) rfl rfl ?_
  refine GoQ.nil ?_
  refine Go1.seq ?_
  refine Go1.seq ?_
  refine Go1.region ?_
  refine GoR.op ((op_move rfl) _) rfl rfl ?_
  refine GoR.nil ?_
  refine Go1.condF rfl rfl ?_
  refine Go1.cut [(6, .pointer (some ⟨B10, 0, none⟩)), (9, .int .i64 (0 : Int)), (10, .int .i64 (k3_548 : Int)), (11, .slice BB ((ix d_32 (k3_548 : Int)).length) BC), (12, .string (gstr (chr (IntKind.i32.wrap ((97 : Int) + (k3_548 : Int)))))), (85, .slice p35 n37 c36), (86, .int .i64 (d_32.length : Int)), (87, .int .i64 (k3_548 : Int))] ⟨rfl, rfl, rfl, rfl, rfl, rfl, rfl, rfl, trivial⟩ ?_
  intro σ _
  refine Go1.region ?_
  refine GoR.op ((op_move rfl) _) rfl rfl ?_
  refine GoR.op ((op_move rfl) _) rfl rfl ?_
  refine GoR.call (op_call body64 rfl (walk_slices_Clone_int hO.lt cZ H)) rfl rfl ?_
  rintro KF KG ⟨r662, uM, sG, sH, IR, rfl, Em, hN666, sx, H⟩
  have pI := Stp.more hO Em hN666
  dsimp only [List.cons_append, List.nil_append] at pI
  replace cu := cu.ch pI.ch
  replace cC := cC.ch pI.ch
  replace cD := cD.ch pI.ch
  replace cI := cI.ch pI.ch
  replace de := de.ch pI.ch
  replace dt := dt.ch pI.ch
  replace dJ := dJ.ch pI.ch
  replace aj := aj.ch pI.ch
  replace hO := pI.own
  replace cZ := cZ.ch pI.ch
  replace hB := hB.trans pI.fr
  replace sx := sx.ch (Ch.assoc _ _ _ _)
  refine GoR.op ((op_move rfl) _) rfl rfl ?_
  refine GoR.op ((op_move rfl) _) rfl rfl ?_
  refine GoR.op ((op_move rfl) _) rfl rfl ?_
  refine GoR.op ((op_move rfl) _) rfl rfl ?_
  refine GoR.inl (vs := [.pointer (some ⟨B10, 0, none⟩), .slice sG uM sH, .int .i64 (0 : Int), .int .i64 (k3_548 : Int), .string (gstr (chr (IntKind.i32.wrap ((97 : Int) + (k3_548 : Int))))), .int .i64 (0 : Int)]) (caps := []) rfl rfl body65 Try.func65 rfl Try.ntmps65 rfl rfl rfl ?_
  intro RhR670 hR670
  refine Go1.seq ?_
  refine Go1.region ?_
  refine GoR.op ((op_assign rfl) _) rfl rfl ?_
  refine GoR.nil ?_
  refine Go1.seq ?_
  refine Go1.region ?_
  refine GoR.op ((op_move rfl) _) rfl rfl ?_
  refine GoR.op ((op_nilCheck rfl) _) rfl rfl ?_
  refine GoR.op ((op_fieldAddr Try.underlying72 rfl ti29 rfl (by decide)) _) rfl rfl ?_
  refine GoR.op ((op_fieldAddr Try.underlying29 rfl ti22 rfl (by decide)) _) rfl rfl ?_
  refine GoR.op ((oblk (i := 3) 9 hO rfl rfl Try.underlying22 rfl rfl) _ (Same.refl _)) rfl rfl ?_
  refine GoR.op ((op_lenN Try.underlying22 rfl (dJ.neq hO 7 rfl)) _) rfl rfl ?_
  refine GoR.op ((op_assign rfl) _) rfl rfl ?_
  refine GoR.nil ?_
  refine Go1.seq ?_
  refine Go1.drawS 1 [(0, .pure), (1, .pure), (2, .pure), (3, .stable), (4, .pure), (6, .pure), (5, .loud), (7, .last)] mixed (by kernel_rfl) ?_
  intro KH En
  have pK := Stp.same hO En
  replace sx := sx.ch pK.ch
  replace cu := cu.ch pK.ch
  replace cC := cC.ch pK.ch
  replace cD := cD.ch pK.ch
  replace cI := cI.ch pK.ch
  replace de := de.ch pK.ch
  replace dt := dt.ch pK.ch
  replace dJ := dJ.ch pK.ch
  replace aj := aj.ch pK.ch
  replace hO := pK.own
  replace cZ := cZ.ch pK.ch
  replace hB := hB.trans pK.fr
  refine GoQ.pure rfl (op_move rfl) rfl rfl ?_
  refine GoQ.pure rfl (op_nilCheck rfl) rfl rfl ?_
  refine GoQ.pure rfl (op_fieldAddr Try.underlying72 rfl ti69 rfl (by decide)) rfl rfl ?_
  refine GoQ.stable rfl (oblk (i := 9) 9 hO rfl rfl Try.underlying69 rfl rfl) rfl rfl ?_
  refine GoQ.pure rfl (op_move rfl) rfl rfl ?_
  refine GoQ.pure rfl (op_move rfl) rfl rfl ?_
  have hobt := rowlend 0 hO rfl sx
  obtain ⟨Eo, Ep⟩ := hobt
  have hOc676 := hO.drop 0
  refine GoQ.call rfl (op_call body61 (show ([.slice sG uM sH] : List Value) = [.slice sG r662.length sH] from by rw [← Ep]) (walk_enumerate_text hOc676.lt Eo H)) (fun v w hr => by obtain ⟨_, _, hs, _, _⟩ := hr; assumption) rfl rfl ?_
  rintro KI KJ ⟨r677, rfl, Er, IS, H⟩
  have pM := Stp.same hO Er
  replace sx := sx.ch pM.ch
  replace cu := cu.ch pM.ch
  replace cC := cC.ch pM.ch
  replace cD := cD.ch pM.ch
  replace cI := cI.ch pM.ch
  replace de := de.ch pM.ch
  replace dt := dt.ch pM.ch
  replace dJ := dJ.ch pM.ch
  replace aj := aj.ch pM.ch
  replace hO := pM.own
  replace cZ := cZ.ch pM.ch
  replace hB := hB.trans pM.fr
  have hobt := omapUpd (MK.str Try.underlying9) 10 hO rfl Try.underlying69 r677 (d_585.length : Int)
  obtain ⟨KK, oq, BK⟩ := hobt
  dsimp only [sS, sZ] at oq
  refine GoQ.last rfl (BK (by exact rfl) (by exact rfl) (by exact rfl)) rfl rfl ?_
  replace sx := sx.ch oq.ch
  replace cu := cu.ch oq.ch
  replace cC := cC.ch oq.ch
  replace cD := cD.ch oq.ch
  replace cI := cI.ch oq.ch
  replace de := de.ch oq.ch
  replace dt := dt.ch oq.ch
  replace dJ := dJ.ch oq.ch
  replace aj := aj.ch oq.ch
  replace hO := oq.own
  replace cZ := cZ.ch oq.ch
  replace hB := hB.trans oq.fr
  refine GoQ.nil ?_
  refine Go1.seq ?_
  refine Go1.cut [(0, .pointer (some ⟨B10, 0, none⟩)), (1, .slice sG uM sH), (2, .int .i64 (0 : Int)), (3, .int .i64 (k3_548 : Int)), (4, .string (gstr (chr (IntKind.i32.wrap ((97 : Int) + (k3_548 : Int)))))), (5, .int .i64 (0 : Int)), (13, .int .i64 (d_585.length : Int))] ⟨rfl, rfl, rfl, rfl, rfl, rfl, rfl, trivial⟩ ?_
  intro σ _
  refine Go1.region ?_
  refine GoR.op ((op_move rfl) _) rfl rfl ?_
  refine GoR.op ((op_move rfl) _) rfl rfl ?_
  refine GoR.op ((op_nilCheck rfl) _) rfl rfl ?_
  refine GoR.op ((op_fieldAddr Try.underlying72 rfl ti29 rfl (by decide)) _) rfl rfl ?_
  refine GoR.op ((op_fieldAddr Try.underlying29 rfl ti22 rfl (by decide)) _) rfl rfl ?_
  refine GoR.op ((oblk (i := 3) 9 hO rfl rfl Try.underlying22 rfl rfl) _ (Same.refl _)) rfl rfl ?_
  refine GoR.op ((op_move rfl) _) rfl rfl ?_
  have hobt := freeze 0 hO rfl sx
  obtain ⟨hO1, sy, d8, Et⟩ := hobt
  dsimp only [eS, eZ] at hO1 sy d8
  replace cZ := cZ.ch sy
  replace cu := cu.ch sy
  replace cC := cC.ch sy
  replace cD := cD.ch sy
  replace cI := cI.ch sy
  replace de := de.ch sy
  replace dt := dt.ch sy
  replace dJ := dJ.ch sy
  replace aj := aj.ch sy
  replace hB := hB.trans (Owns.dropFr _ _ 0)
  dsimp only [eS, eZ] at hB
  replace hO := hO1; clear hO1
  have hobt := obuild (r := Rp.sl (Rp.int .i64)) (n := 1) (parts := [(0, .slice sG uM sH)]) (vs := [.slice sG uM sH]) (xs := [r662]) rfl Try.underlying22 ti26 hO (by decide) (by kernel_rfl) (Els.cons rfl ⟨sG, sH, congrArg some (congrArg (fun nn => Value.slice sG nn sH) Et), d8⟩ (Els.nil _ _ _) (by simp [mx])) rfl
  obtain ⟨KL, KM, pN, Eu, Jd, BL⟩ := hobt
  refine GoR.op (BL rfl) rfl rfl ?_
  replace cu := cu.ch pN.ch
  replace cC := cC.ch pN.ch
  replace cD := cD.ch pN.ch
  replace cI := cI.ch pN.ch
  replace de := de.ch pN.ch
  replace dt := dt.ch pN.ch
  replace dJ := dJ.ch pN.ch
  replace aj := aj.ch pN.ch
  replace hO := pN.own
  replace cZ := cZ.ch pN.ch
  replace d8 := d8.ch pN.ch
  replace hB := hB.trans pN.fr
  have hobt := freeze 0 hO rfl Eu
  obtain ⟨hO1, rQ, eo, Ev⟩ := hobt
  dsimp only [eS, eZ] at hO1 rQ eo
  replace cZ := cZ.ch rQ
  replace d8 := d8.ch rQ
  replace cu := cu.ch rQ
  replace cC := cC.ch rQ
  replace cD := cD.ch rQ
  replace cI := cI.ch rQ
  replace de := de.ch rQ
  replace dt := dt.ch rQ
  replace dJ := dJ.ch rQ
  replace aj := aj.ch rQ
  replace hB := hB.trans (Owns.dropFr _ _ 0)
  dsimp only [eS, eZ] at hB
  replace hO := hO1; clear hO1
  obtain ⟨HF, H⟩ := H
  have hobt := oapp Try.underlying22 ti26 rfl 6 hO rfl dJ eo Ev HF (by decide)
  obtain ⟨KN, uN, uO, Ew, ot, eA, BM⟩ := hobt
  dsimp only [sS, sZ] at ot eA
  refine GoR.op (BM (by exact rfl) (by exact rfl)) rfl rfl ?_
  replace cu := cu.ch ot.ch
  replace cC := cC.ch ot.ch
  replace cD := cD.ch ot.ch
  replace cI := cI.ch ot.ch
  replace de := de.ch ot.ch
  replace dt := dt.ch ot.ch
  replace aj := aj.ch ot.ch
  replace hO := ot.own
  replace cZ := cZ.ch ot.ch
  replace d8 := d8.ch ot.ch
  replace eo := eo.ch ot.ch
  replace hB := hB.trans ot.fr
  refine GoR.op ((op_nilCheck rfl) _) rfl rfl ?_
  refine GoR.op ((op_fieldAddr Try.underlying72 rfl ti29 rfl (by decide)) _) rfl rfl ?_
  refine GoR.op ((op_fieldAddr Try.underlying29 rfl ti22 rfl (by decide)) _) rfl rfl ?_
  have hobt := oblkSt2 (v := .slice uN (jc + 1) uO) (i := 3) (cs' := #[.int .i64 ((ix a0 (0 : Int)).length : Int), .bool true, .slice p35 n37 c36, .slice uN (jc + 1) uO, .slice kU jb kV, .slice ks ja kt, .slice none 0 0, .slice jP i7 jQ, .int .i64 (0 : Int), .map (some B4), .slice kl i9 km, .slice jR i8 jS, .slice ki iR kj]) 8 hO rfl rfl rfl rfl
  obtain ⟨KO, nB, BN⟩ := hobt
  dsimp only [sS, sZ] at nB
  refine GoR.op (BN Try.underlying22 rfl ti22 (by exact rfl) (by exact rfl)) rfl rfl ?_
  replace cu := cu.ch nB.ch
  replace cC := cC.ch nB.ch
  replace cD := cD.ch nB.ch
  replace cI := cI.ch nB.ch
  replace de := de.ch nB.ch
  replace dt := dt.ch nB.ch
  replace eA := eA.ch nB.ch
  replace aj := aj.ch nB.ch
  replace hO := nB.own
  replace cZ := cZ.ch nB.ch
  replace d8 := d8.ch nB.ch
  replace eo := eo.ch nB.ch
  replace hB := hB.trans nB.fr
  refine GoR.nil ?_
  refine Go1.seq ?_
  refine Go1.region ?_
  refine GoR.op ((op_move rfl) _) rfl rfl ?_
  refine GoR.op ((op_move rfl) _) rfl rfl ?_
  refine GoR.op ((op_nilCheck rfl) _) rfl rfl ?_
  refine GoR.op ((op_fieldAddr Try.underlying72 rfl ti29 rfl (by decide)) _) rfl rfl ?_
  refine GoR.op ((op_fieldAddr Try.underlying29 rfl ti26 rfl (by decide)) _) rfl rfl ?_
  refine GoR.op ((oblk (i := 4) 8 hO rfl rfl Try.underlying26 rfl rfl) _ (Same.refl _)) rfl rfl ?_
  refine GoR.op ((op_move rfl) _) rfl rfl ?_
  have hobt := obuild (r := Rp.int .i64) (n := 1) (parts := [(0, .int .i64 (0 : Int))]) (vs := [.int .i64 (0 : Int)]) (xs := [(0 : Int)]) rfl Try.underlying26 ti3 hO (by decide) (by kernel_rfl) (Els.cons rfl rfl (Els.nil _ _ _) (by simp [mx])) rfl
  obtain ⟨KP, KQ, ou, Ex, Je, BO⟩ := hobt
  refine GoR.op (BO rfl) rfl rfl ?_
  replace cu := cu.ch ou.ch
  replace cC := cC.ch ou.ch
  replace cD := cD.ch ou.ch
  replace cI := cI.ch ou.ch
  replace de := de.ch ou.ch
  replace dt := dt.ch ou.ch
  replace eA := eA.ch ou.ch
  replace aj := aj.ch ou.ch
  replace hO := ou.own
  replace cZ := cZ.ch ou.ch
  replace d8 := d8.ch ou.ch
  replace eo := eo.ch ou.ch
  replace hB := hB.trans ou.fr
  have hobt := freeze 0 hO rfl Ex
  obtain ⟨hO1, rC, fE, Ey⟩ := hobt
  dsimp only [eS, eZ] at hO1 rC fE
  replace cZ := cZ.ch rC
  replace d8 := d8.ch rC
  replace eo := eo.ch rC
  replace cu := cu.ch rC
  replace cC := cC.ch rC
  replace cD := cD.ch rC
  replace cI := cI.ch rC
  replace de := de.ch rC
  replace dt := dt.ch rC
  replace eA := eA.ch rC
  replace aj := aj.ch rC
  replace hB := hB.trans (Owns.dropFr _ _ 0)
  dsimp only [eS, eZ] at hB
  replace hO := hO1; clear hO1
  obtain ⟨HG, H⟩ := H
  have hobt := oapp Try.underlying26 ti3 rfl 5 hO rfl dt fE Ey HG (by decide)
  obtain ⟨KR, vQ, vR, Ez, nC, fR, BP⟩ := hobt
  dsimp only [sS, sZ] at nC fR
  refine GoR.op (BP (by exact rfl) (by exact rfl)) rfl rfl ?_
  replace cu := cu.ch nC.ch
  replace cC := cC.ch nC.ch
  replace cD := cD.ch nC.ch
  replace cI := cI.ch nC.ch
  replace de := de.ch nC.ch
  replace eA := eA.ch nC.ch
  replace aj := aj.ch nC.ch
  replace hO := nC.own
  replace cZ := cZ.ch nC.ch
  replace d8 := d8.ch nC.ch
  replace eo := eo.ch nC.ch
  replace fE := fE.ch nC.ch
  replace hB := hB.trans nC.fr
  refine GoR.op ((op_nilCheck rfl) _) rfl rfl ?_
  refine GoR.op ((op_fieldAddr Try.underlying72 rfl ti29 rfl (by decide)) _) rfl rfl ?_
  refine GoR.op ((op_fieldAddr Try.underlying29 rfl ti26 rfl (by decide)) _) rfl rfl ?_
  have hobt := oblkSt2 (v := .slice vQ (jb + 1) vR) (i := 4) (cs' := #[.int .i64 ((ix a0 (0 : Int)).length : Int), .bool true, .slice p35 n37 c36, .slice uN (jc + 1) uO, .slice vQ (jb + 1) vR, .slice ks ja kt, .slice none 0 0, .slice jP i7 jQ, .int .i64 (0 : Int), .map (some B4), .slice kl i9 km, .slice jR i8 jS, .slice ki iR kj]) 8 hO rfl rfl rfl rfl
  obtain ⟨KS, m8, BQ⟩ := hobt
  dsimp only [sS, sZ] at m8
  refine GoR.op (BQ Try.underlying26 rfl ti26 (by exact rfl) (by exact rfl)) rfl rfl ?_
  replace cu := cu.ch m8.ch
  replace cC := cC.ch m8.ch
  replace cD := cD.ch m8.ch
  replace cI := cI.ch m8.ch
  replace de := de.ch m8.ch
  replace fR := fR.ch m8.ch
  replace eA := eA.ch m8.ch
  replace aj := aj.ch m8.ch
  replace hO := m8.own
  replace cZ := cZ.ch m8.ch
  replace d8 := d8.ch m8.ch
  replace eo := eo.ch m8.ch
  replace fE := fE.ch m8.ch
  replace hB := hB.trans m8.fr
  refine GoR.nil ?_
  refine Go1.seq ?_
  refine Go1.cut [(0, .pointer (some ⟨B10, 0, none⟩)), (3, .int .i64 (k3_548 : Int)), (4, .string (gstr (chr (IntKind.i32.wrap ((97 : Int) + (k3_548 : Int)))))), (5, .int .i64 (0 : Int)), (13, .int .i64 (d_585.length : Int))] ⟨rfl, rfl, rfl, rfl, rfl, trivial⟩ ?_
  intro σ _
  refine Go1.region ?_
  refine GoR.op ((op_move rfl) _) rfl rfl ?_
  refine GoR.op ((op_move rfl) _) rfl rfl ?_
  refine GoR.op ((op_nilCheck rfl) _) rfl rfl ?_
  refine GoR.op ((op_fieldAddr Try.underlying72 rfl ti29 rfl (by decide)) _) rfl rfl ?_
  refine GoR.op ((op_fieldAddr Try.underlying29 rfl ti26 rfl (by decide)) _) rfl rfl ?_
  refine GoR.op ((oblk (i := 5) 8 hO rfl rfl Try.underlying26 rfl rfl) _ (Same.refl _)) rfl rfl ?_
  refine GoR.op ((op_move rfl) _) rfl rfl ?_
  have hobt := obuild (r := Rp.int .i64) (n := 1) (parts := [(0, .int .i64 (k3_548 : Int))]) (vs := [.int .i64 (k3_548 : Int)]) (xs := [(k3_548 : Int)]) rfl Try.underlying26 ti3 hO (by decide) (by kernel_rfl) (Els.cons rfl rfl (Els.nil _ _ _) (by simp [mx])) rfl
  obtain ⟨KT, KU, nD, EA, Jf, BR⟩ := hobt
  refine GoR.op (BR rfl) rfl rfl ?_
  replace cu := cu.ch nD.ch
  replace cC := cC.ch nD.ch
  replace cD := cD.ch nD.ch
  replace cI := cI.ch nD.ch
  replace de := de.ch nD.ch
  replace fR := fR.ch nD.ch
  replace eA := eA.ch nD.ch
  replace aj := aj.ch nD.ch
  replace hO := nD.own
  replace cZ := cZ.ch nD.ch
  replace d8 := d8.ch nD.ch
  replace eo := eo.ch nD.ch
  replace fE := fE.ch nD.ch
  replace hB := hB.trans nD.fr
  have hobt := freeze 0 hO rfl EA
  obtain ⟨hO1, qV, iE, EB⟩ := hobt
  dsimp only [eS, eZ] at hO1 qV iE
  replace cZ := cZ.ch qV
  replace d8 := d8.ch qV
  replace eo := eo.ch qV
  replace fE := fE.ch qV
  replace cu := cu.ch qV
  replace cC := cC.ch qV
  replace cD := cD.ch qV
  replace cI := cI.ch qV
  replace de := de.ch qV
  replace fR := fR.ch qV
  replace eA := eA.ch qV
  replace aj := aj.ch qV
  replace hB := hB.trans (Owns.dropFr _ _ 0)
  dsimp only [eS, eZ] at hB
  replace hO := hO1; clear hO1
  obtain ⟨HH, H⟩ := H
  have hobt := oapp Try.underlying26 ti3 rfl 4 hO rfl de iE EB HH (by decide)
  obtain ⟨KV, wR, wS, EC, m9, iV, BS⟩ := hobt
  dsimp only [sS, sZ] at m9 iV
  refine GoR.op (BS (by exact rfl) (by exact rfl)) rfl rfl ?_
  replace cu := cu.ch m9.ch
  replace cC := cC.ch m9.ch
  replace cD := cD.ch m9.ch
  replace cI := cI.ch m9.ch
  replace fR := fR.ch m9.ch
  replace eA := eA.ch m9.ch
  replace aj := aj.ch m9.ch
  replace hO := m9.own
  replace cZ := cZ.ch m9.ch
  replace d8 := d8.ch m9.ch
  replace eo := eo.ch m9.ch
  replace fE := fE.ch m9.ch
  replace iE := iE.ch m9.ch
  replace hB := hB.trans m9.fr
  refine GoR.op ((op_nilCheck rfl) _) rfl rfl ?_
  refine GoR.op ((op_fieldAddr Try.underlying72 rfl ti29 rfl (by decide)) _) rfl rfl ?_
  refine GoR.op ((op_fieldAddr Try.underlying29 rfl ti26 rfl (by decide)) _) rfl rfl ?_
  have hobt := oblkSt2 (v := .slice wR (ja + 1) wS) (i := 5) (cs' := #[.int .i64 ((ix a0 (0 : Int)).length : Int), .bool true, .slice p35 n37 c36, .slice uN (jc + 1) uO, .slice vQ (jb + 1) vR, .slice wR (ja + 1) wS, .slice none 0 0, .slice jP i7 jQ, .int .i64 (0 : Int), .map (some B4), .slice kl i9 km, .slice jR i8 jS, .slice ki iR kj]) 8 hO rfl rfl rfl rfl
  obtain ⟨KW, mB, BT⟩ := hobt
  dsimp only [sS, sZ] at mB
  refine GoR.op (BT Try.underlying26 rfl ti26 (by exact rfl) (by exact rfl)) rfl rfl ?_
  replace cu := cu.ch mB.ch
  replace cC := cC.ch mB.ch
  replace cD := cD.ch mB.ch
  replace cI := cI.ch mB.ch
  replace iV := iV.ch mB.ch
  replace fR := fR.ch mB.ch
  replace eA := eA.ch mB.ch
  replace aj := aj.ch mB.ch
  replace hO := mB.own
  replace cZ := cZ.ch mB.ch
  replace d8 := d8.ch mB.ch
  replace eo := eo.ch mB.ch
  replace fE := fE.ch mB.ch
  replace iE := iE.ch mB.ch
  replace hB := hB.trans mB.fr
  refine GoR.nil ?_
  refine Go1.seq ?_
  refine Go1.region ?_
  refine GoR.op ((op_move rfl) _) rfl rfl ?_
  refine GoR.op ((op_move rfl) _) rfl rfl ?_
  refine GoR.op ((op_nilCheck rfl) _) rfl rfl ?_
  refine GoR.op ((op_fieldAddr Try.underlying72 rfl ti70 rfl (by decide)) _) rfl rfl ?_
  refine GoR.op ((oblk (i := 10) 8 hO rfl rfl Try.underlying70 rfl rfl) _ (Same.refl _)) rfl rfl ?_
  refine GoR.op ((op_move rfl) _) rfl rfl ?_
  have hobt := obuild (r := Rp.str) (n := 1) (parts := [(0, .string (gstr (chr (IntKind.i32.wrap ((97 : Int) + (k3_548 : Int))))))]) (vs := [.string (gstr (chr (IntKind.i32.wrap ((97 : Int) + (k3_548 : Int)))))]) (xs := [chr (IntKind.i32.wrap ((97 : Int) + (k3_548 : Int)))]) rfl Try.underlying70 ti9 hO (by decide) (by kernel_rfl) (Els.cons rfl ⟨rfl, (chr_le _)⟩ (Els.nil _ _ _) (by simp [mx])) rfl
  obtain ⟨KX, KY, na, ED, Jg, BU⟩ := hobt
  refine GoR.op (BU rfl) rfl rfl ?_
  replace cu := cu.ch na.ch
  replace cC := cC.ch na.ch
  replace cD := cD.ch na.ch
  replace cI := cI.ch na.ch
  replace iV := iV.ch na.ch
  replace fR := fR.ch na.ch
  replace eA := eA.ch na.ch
  replace aj := aj.ch na.ch
  replace hO := na.own
  replace cZ := cZ.ch na.ch
  replace d8 := d8.ch na.ch
  replace eo := eo.ch na.ch
  replace fE := fE.ch na.ch
  replace iE := iE.ch na.ch
  replace hB := hB.trans na.fr
  have hobt := freeze 0 hO rfl ED
  obtain ⟨hO1, qv, kY, EE⟩ := hobt
  dsimp only [eS, eZ] at hO1 qv kY
  replace cZ := cZ.ch qv
  replace d8 := d8.ch qv
  replace eo := eo.ch qv
  replace fE := fE.ch qv
  replace iE := iE.ch qv
  replace cu := cu.ch qv
  replace cC := cC.ch qv
  replace cD := cD.ch qv
  replace cI := cI.ch qv
  replace iV := iV.ch qv
  replace fR := fR.ch qv
  replace eA := eA.ch qv
  replace aj := aj.ch qv
  replace hB := hB.trans (Owns.dropFr _ _ 0)
  dsimp only [eS, eZ] at hB
  replace hO := hO1; clear hO1
  obtain ⟨HI, H⟩ := H
  have hobt := oapp Try.underlying70 ti9 rfl 3 hO rfl cI kY EE HI (by decide)
  obtain ⟨KZ, xP, xQ, EF, mC, ms, BV⟩ := hobt
  dsimp only [sS, sZ] at mC ms
  refine GoR.op (BV (by exact rfl) (by exact rfl)) rfl rfl ?_
  replace cu := cu.ch mC.ch
  replace cC := cC.ch mC.ch
  replace cD := cD.ch mC.ch
  replace iV := iV.ch mC.ch
  replace fR := fR.ch mC.ch
  replace eA := eA.ch mC.ch
  replace aj := aj.ch mC.ch
  replace hO := mC.own
  replace cZ := cZ.ch mC.ch
  replace d8 := d8.ch mC.ch
  replace eo := eo.ch mC.ch
  replace fE := fE.ch mC.ch
  replace iE := iE.ch mC.ch
  replace kY := kY.ch mC.ch
  replace hB := hB.trans mC.fr
  refine GoR.op ((op_nilCheck rfl) _) rfl rfl ?_
  refine GoR.op ((op_fieldAddr Try.underlying72 rfl ti70 rfl (by decide)) _) rfl rfl ?_
  have hobt := oblkSt2 (v := .slice xP (i9 + 1) xQ) (i := 10) (cs' := #[.int .i64 ((ix a0 (0 : Int)).length : Int), .bool true, .slice p35 n37 c36, .slice uN (jc + 1) uO, .slice vQ (jb + 1) vR, .slice wR (ja + 1) wS, .slice none 0 0, .slice jP i7 jQ, .int .i64 (0 : Int), .map (some B4), .slice xP (i9 + 1) xQ, .slice jR i8 jS, .slice ki iR kj]) 8 hO rfl rfl rfl rfl
  obtain ⟨K1, lE, BW⟩ := hobt
  dsimp only [sS, sZ] at lE
  refine GoR.op (BW Try.underlying70 rfl ti70 (by exact rfl) (by exact rfl)) rfl rfl ?_
  replace cu := cu.ch lE.ch
  replace cC := cC.ch lE.ch
  replace cD := cD.ch lE.ch
  replace ms := ms.ch lE.ch
  replace iV := iV.ch lE.ch
  replace fR := fR.ch lE.ch
  replace eA := eA.ch lE.ch
  replace aj := aj.ch lE.ch
  replace hO := lE.own
  replace cZ := cZ.ch lE.ch
  replace d8 := d8.ch lE.ch
  replace eo := eo.ch lE.ch
  replace fE := fE.ch lE.ch
  replace iE := iE.ch lE.ch
  replace kY := kY.ch lE.ch
  replace hB := hB.trans lE.fr
  refine GoR.nil ?_
  refine Go1.seq ?_
  refine Go1.cut [(0, .pointer (some ⟨B10, 0, none⟩)), (5, .int .i64 (0 : Int)), (13, .int .i64 (d_585.length : Int))] ⟨rfl, rfl, rfl, trivial⟩ ?_
  intro σ _
  refine Go1.region ?_
  refine GoR.op ((op_move rfl) _) rfl rfl ?_
  refine GoR.op ((op_move rfl) _) rfl rfl ?_
  refine GoR.op ((op_nilCheck rfl) _) rfl rfl ?_
  refine GoR.op ((op_fieldAddr Try.underlying72 rfl ti26 rfl (by decide)) _) rfl rfl ?_
  refine GoR.op ((oblk (i := 11) 8 hO rfl rfl Try.underlying26 rfl rfl) _ (Same.refl _)) rfl rfl ?_
  refine GoR.op ((op_move rfl) _) rfl rfl ?_
  have hobt := obuild (r := Rp.int .i64) (n := 1) (parts := [(0, .int .i64 (0 : Int))]) (vs := [.int .i64 (0 : Int)]) (xs := [(0 : Int)]) rfl Try.underlying26 ti3 hO (by decide) (by kernel_rfl) (Els.cons rfl rfl (Els.nil _ _ _) (by simp [mx])) rfl
  obtain ⟨K2, K3, mD, EG, Jh, BX⟩ := hobt
  refine GoR.op (BX rfl) rfl rfl ?_
  replace cu := cu.ch mD.ch
  replace cC := cC.ch mD.ch
  replace cD := cD.ch mD.ch
  replace ms := ms.ch mD.ch
  replace iV := iV.ch mD.ch
  replace fR := fR.ch mD.ch
  replace eA := eA.ch mD.ch
  replace aj := aj.ch mD.ch
  replace hO := mD.own
  replace cZ := cZ.ch mD.ch
  replace d8 := d8.ch mD.ch
  replace eo := eo.ch mD.ch
  replace fE := fE.ch mD.ch
  replace iE := iE.ch mD.ch
  replace kY := kY.ch mD.ch
  replace hB := hB.trans mD.fr
  have hobt := freeze 0 hO rfl EG
  obtain ⟨hO1, oY, qw, EH⟩ := hobt
  dsimp only [eS, eZ] at hO1 oY qw
  replace cZ := cZ.ch oY
  replace d8 := d8.ch oY
  replace eo := eo.ch oY
  replace fE := fE.ch oY
  replace iE := iE.ch oY
  replace kY := kY.ch oY
  replace cu := cu.ch oY
  replace cC := cC.ch oY
  replace cD := cD.ch oY
  replace ms := ms.ch oY
  replace iV := iV.ch oY
  replace fR := fR.ch oY
  replace eA := eA.ch oY
  replace aj := aj.ch oY
  replace hB := hB.trans (Owns.dropFr _ _ 0)
  dsimp only [eS, eZ] at hB
  replace hO := hO1; clear hO1
  obtain ⟨HJ, H⟩ := H
  have hobt := oapp Try.underlying26 ti3 rfl 2 hO rfl cD qw EH HJ (by decide)
  obtain ⟨K4, yH, yI, EI, lF, rD, BY⟩ := hobt
  dsimp only [sS, sZ] at lF rD
  refine GoR.op (BY (by exact rfl) (by exact rfl)) rfl rfl ?_
  replace cu := cu.ch lF.ch
  replace cC := cC.ch lF.ch
  replace ms := ms.ch lF.ch
  replace iV := iV.ch lF.ch
  replace fR := fR.ch lF.ch
  replace eA := eA.ch lF.ch
  replace aj := aj.ch lF.ch
  replace hO := lF.own
  replace cZ := cZ.ch lF.ch
  replace d8 := d8.ch lF.ch
  replace eo := eo.ch lF.ch
  replace fE := fE.ch lF.ch
  replace iE := iE.ch lF.ch
  replace kY := kY.ch lF.ch
  replace qw := qw.ch lF.ch
  replace hB := hB.trans lF.fr
  refine GoR.op ((op_nilCheck rfl) _) rfl rfl ?_
  refine GoR.op ((op_fieldAddr Try.underlying72 rfl ti26 rfl (by decide)) _) rfl rfl ?_
  have hobt := oblkSt2 (v := .slice yH (i8 + 1) yI) (i := 11) (cs' := #[.int .i64 ((ix a0 (0 : Int)).length : Int), .bool true, .slice p35 n37 c36, .slice uN (jc + 1) uO, .slice vQ (jb + 1) vR, .slice wR (ja + 1) wS, .slice none 0 0, .slice jP i7 jQ, .int .i64 (0 : Int), .map (some B4), .slice xP (i9 + 1) xQ, .slice yH (i8 + 1) yI, .slice ki iR kj]) 8 hO rfl rfl rfl rfl
  obtain ⟨K5, lg, BZ⟩ := hobt
  dsimp only [sS, sZ] at lg
  refine GoR.op (BZ Try.underlying26 rfl ti26 (by exact rfl) (by exact rfl)) rfl rfl ?_
  replace cu := cu.ch lg.ch
  replace cC := cC.ch lg.ch
  replace rD := rD.ch lg.ch
  replace ms := ms.ch lg.ch
  replace iV := iV.ch lg.ch
  replace fR := fR.ch lg.ch
  replace eA := eA.ch lg.ch
  replace aj := aj.ch lg.ch
  replace hO := lg.own
  replace cZ := cZ.ch lg.ch
  replace d8 := d8.ch lg.ch
  replace eo := eo.ch lg.ch
  replace fE := fE.ch lg.ch
  replace iE := iE.ch lg.ch
  replace kY := kY.ch lg.ch
  replace qw := qw.ch lg.ch
  replace hB := hB.trans lg.fr
  refine GoR.nil ?_
  refine Go1.seq ?_
  refine Go1.region ?_
  refine GoR.op ((op_move rfl) _) rfl rfl ?_
  refine GoR.op ((op_assign rfl) _) rfl rfl ?_
  refine GoR.nil ?_
  refine Go1.ret1V Try.func65 rfl (show _ = .int .i64 (d_585.length : Int) from rfl) ?_
  refine hR670 _ _ ?_
  refine GoR.op ((op_assign rfl) _) rfl rfl ?_
  refine GoR.nil ?_
  refine Go1.region ?_
  refine GoR.op ((op_move rfl) _) rfl rfl ?_
  refine GoR.op ((op_move rfl) _) rfl rfl ?_
  refine GoR.op ((op_nilCheck rfl) _) rfl rfl ?_
  refine GoR.op ((op_fieldAddr Try.underlying72 rfl ti26 rfl (by decide)) _) rfl rfl ?_
  refine GoR.op ((oblk (i := 12) 8 hO rfl rfl Try.underlying26 rfl rfl) _ (Same.refl _)) rfl rfl ?_
  refine GoR.op ((op_move rfl) _) rfl rfl ?_
  have hobt := obuild (r := Rp.int .i64) (n := 1) (parts := [(0, .int .i64 (d_585.length : Int))]) (vs := [.int .i64 (d_585.length : Int)]) (xs := [(d_585.length : Int)]) rfl Try.underlying26 ti3 hO (by decide) (by kernel_rfl) (Els.cons rfl rfl (Els.nil _ _ _) (by simp [mx])) rfl
  obtain ⟨K6, K7, lG, EJ, Ji, B0⟩ := hobt
  refine GoR.op (B0 rfl) rfl rfl ?_
  replace cu := cu.ch lG.ch
  replace cC := cC.ch lG.ch
  replace rD := rD.ch lG.ch
  replace ms := ms.ch lG.ch
  replace iV := iV.ch lG.ch
  replace fR := fR.ch lG.ch
  replace eA := eA.ch lG.ch
  replace aj := aj.ch lG.ch
  replace hO := lG.own
  replace cZ := cZ.ch lG.ch
  replace d8 := d8.ch lG.ch
  replace eo := eo.ch lG.ch
  replace fE := fE.ch lG.ch
  replace iE := iE.ch lG.ch
  replace kY := kY.ch lG.ch
  replace qw := qw.ch lG.ch
  replace hB := hB.trans lG.fr
  have hobt := freeze 0 hO rfl EJ
  obtain ⟨hO1, nV, ve, EK⟩ := hobt
  dsimp only [eS, eZ] at hO1 nV ve
  replace cZ := cZ.ch nV
  replace d8 := d8.ch nV
  replace eo := eo.ch nV
  replace fE := fE.ch nV
  replace iE := iE.ch nV
  replace kY := kY.ch nV
  replace qw := qw.ch nV
  replace cu := cu.ch nV
  replace cC := cC.ch nV
  replace rD := rD.ch nV
  replace ms := ms.ch nV
  replace iV := iV.ch nV
  replace fR := fR.ch nV
  replace eA := eA.ch nV
  replace aj := aj.ch nV
  replace hB := hB.trans (Owns.dropFr _ _ 0)
  dsimp only [eS, eZ] at hB
  replace hO := hO1; clear hO1
  obtain ⟨HK, H⟩ := H
  have hobt := oapp Try.underlying26 ti3 rfl 0 hO rfl cu ve EK HK (by decide)
  obtain ⟨K8, zN, zO, EL, lh, xB, B1⟩ := hobt
  dsimp only [sS, sZ] at lh xB
  refine GoR.op (B1 (by exact rfl) (by exact rfl)) rfl rfl ?_
  replace cC := cC.ch lh.ch
  replace rD := rD.ch lh.ch
  replace ms := ms.ch lh.ch
  replace iV := iV.ch lh.ch
  replace fR := fR.ch lh.ch
  replace eA := eA.ch lh.ch
  replace aj := aj.ch lh.ch
  replace hO := lh.own
  replace cZ := cZ.ch lh.ch
  replace d8 := d8.ch lh.ch
  replace eo := eo.ch lh.ch
  replace fE := fE.ch lh.ch
  replace iE := iE.ch lh.ch
  replace kY := kY.ch lh.ch
  replace qw := qw.ch lh.ch
  replace ve := ve.ch lh.ch
  replace hB := hB.trans lh.fr
  refine GoR.op ((op_nilCheck rfl) _) rfl rfl ?_
  refine GoR.op ((op_fieldAddr Try.underlying72 rfl ti26 rfl (by decide)) _) rfl rfl ?_
  have hobt := oblkSt2 (v := .slice zN (iR + 1) zO) (i := 12) (cs' := #[.int .i64 ((ix a0 (0 : Int)).length : Int), .bool true, .slice p35 n37 c36, .slice uN (jc + 1) uO, .slice vQ (jb + 1) vR, .slice wR (ja + 1) wS, .slice none 0 0, .slice jP i7 jQ, .int .i64 (0 : Int), .map (some B4), .slice xP (i9 + 1) xQ, .slice yH (i8 + 1) yI, .slice zN (iR + 1) zO]) 8 hO rfl rfl rfl rfl
  obtain ⟨K9, ku, B3⟩ := hobt
  dsimp only [sS, sZ] at ku
  refine GoR.op (B3 Try.underlying26 rfl ti26 (by exact rfl) (by exact rfl)) rfl rfl ?_
  replace xB := xB.ch ku.ch
  replace cC := cC.ch ku.ch
  replace rD := rD.ch ku.ch
  replace ms := ms.ch ku.ch
  replace iV := iV.ch ku.ch
  replace fR := fR.ch ku.ch
  replace eA := eA.ch ku.ch
  replace aj := aj.ch ku.ch
  replace hO := ku.own
  replace cZ := cZ.ch ku.ch
  replace d8 := d8.ch ku.ch
  replace eo := eo.ch ku.ch
  replace fE := fE.ch ku.ch
  replace iE := iE.ch ku.ch
  replace kY := kY.ch ku.ch
  replace qw := qw.ch ku.ch
  replace ve := ve.ch ku.ch
  replace hB := hB.trans ku.fr
  refine GoR.nil ?_
  refine Go1.inBlock ?_
  refine Go1.cut [(6, .pointer (some ⟨B10, 0, none⟩)), (9, .int .i64 (0 : Int)), (85, .slice p35 n37 c36), (86, .int .i64 (d_32.length : Int)), (87, .int .i64 (k3_548 : Int))] ⟨rfl, rfl, rfl, rfl, rfl, trivial⟩ ?_
  intro σ _
  refine Go1.region ?_
  refine GoR.op ((op_add rfl rfl (wrap_i64 (natbd wQ aj.bd))) _) rfl rfl ?_
  refine GoR.op ((op_move rfl) _) rfl rfl ?_
  refine GoR.nil ?_
  exact hX3 _ H _ _ ⟨iR + 1, zN, zO, EL, i7, jP, jQ, oS, i8 + 1, yH, yI, EI, i9 + 1, xP, xQ, EF, ja + 1, wR, wS, EC, jb + 1, vQ, vR, Ez, jc + 1, uN, uO, Ew, ⟨rfl, rfl, rfl, rfl, rfl, trivial⟩, hO, xB, cC, rD, ms, iV, fR, eA, aj, hB⟩
 replace H := ifn wQ H
 refine GoR.op ((fun w => opB (op_lss rfl rfl w) (decide_eq_false wQ)) _) rfl rfl ?_
 refine GoR.nil ?_
 refine Go1.seq ?_
 refine Go1.condF rfl rfl ?_
 refine Go1.exit rfl ?_
 refine Go1.seq ?_
 refine Go1.region ?_
 refine GoR.op ((op_move rfl) _) rfl rfl ?_
 refine GoR.op ((op_assign rfl) _) rfl rfl ?_
 refine GoR.op ((op_assign rfl) _) rfl rfl ?_
 refine GoR.nil ?_
 have rq := Stp.nil (e := 26) (r := 1) hO
 replace cu := cu.ch rq.ch
 replace cC := cC.ch rq.ch
 replace cD := cD.ch rq.ch
 replace cI := cI.ch rq.ch
 replace de := de.ch rq.ch
 replace dt := dt.ch rq.ch
 replace dJ := dJ.ch rq.ch
 replace aj := aj.ch rq.ch
 replace hO := rq.own
 replace hB := hB.trans rq.fr
 have kw := Els.nil (Rp.sl (Rp.int .i64)) (bl (.row 26 1 none 0 0 [] :: [.row 3 1 ki iR kj qt, .row 39 2 jP i7 jQ oS, .row 3 1 jR i8 jS oT, .row 9 1 kl i9 km oU, .row 3 1 ks ja kt oV, .row 3 1 kU jb kV oW, .row 26 1 lz jc lA oX, .row 26 1 p35 n37 c36 fK, .blk B10 (.cells #[.int .i64 ((ix a0 (0 : Int)).length : Int), .bool true, .slice p35 n37 c36, .slice lz jc lA, .slice kU jb kV, .slice ks ja kt, .slice none 0 0, .slice jP i7 jQ, .int .i64 (0 : Int), .map (some B4), .slice kl i9 km, .slice jR i8 jS, .slice ki iR kj] 72 (0, 0)), .any (mapE (fun a : List UInt8 => Value.string (gstr a)) (fun a : Int => Value.int .i64 a) B4 m3_591)]) ++ A) Hz
 have pO := Stp.front 10 hO rfl
 dsimp only [eS, eZ] at pO
 replace kw := kw.ch pO.ch
 replace cu := cu.ch pO.ch
 replace cC := cC.ch pO.ch
 replace cD := cD.ch pO.ch
 replace cI := cI.ch pO.ch
 replace de := de.ch pO.ch
 replace dt := dt.ch pO.ch
 replace dJ := dJ.ch pO.ch
 replace aj := aj.ch pO.ch
 replace hO := pO.own
 replace hB := hB.trans pO.fr
 have pP := Stp.front 2 hO rfl
 dsimp only [eS, eZ] at pP
 replace kw := kw.ch pP.ch
 replace cu := cu.ch pP.ch
 replace cC := cC.ch pP.ch
 replace cD := cD.ch pP.ch
 replace cI := cI.ch pP.ch
 replace de := de.ch pP.ch
 replace dt := dt.ch pP.ch
 replace dJ := dJ.ch pP.ch
 replace aj := aj.ch pP.ch
 replace hO := pP.own
 replace hB := hB.trans pP.fr
 have pQ := Stp.front 4 hO rfl
 dsimp only [eS, eZ] at pQ
 replace cu := cu.ch pQ.ch
 replace kw := kw.ch pQ.ch
 replace cC := cC.ch pQ.ch
 replace cD := cD.ch pQ.ch
 replace cI := cI.ch pQ.ch
 replace de := de.ch pQ.ch
 replace dt := dt.ch pQ.ch
 replace dJ := dJ.ch pQ.ch
 replace aj := aj.ch pQ.ch
 replace hO := pQ.own
 replace hB := hB.trans pQ.fr
 have pS := Stp.front 5 hO rfl
 dsimp only [eS, eZ] at pS
 replace cD := cD.ch pS.ch
 replace cu := cu.ch pS.ch
 replace kw := kw.ch pS.ch
 replace cC := cC.ch pS.ch
 replace cI := cI.ch pS.ch
 replace de := de.ch pS.ch
 replace dt := dt.ch pS.ch
 replace dJ := dJ.ch pS.ch
 replace aj := aj.ch pS.ch
 replace hO := pS.own
 replace hB := hB.trans pS.fr
 have pT := Stp.front 5 hO rfl
 dsimp only [eS, eZ] at pT
 replace cI := cI.ch pT.ch
 replace cD := cD.ch pT.ch
 replace cu := cu.ch pT.ch
 replace kw := kw.ch pT.ch
 replace cC := cC.ch pT.ch
 replace de := de.ch pT.ch
 replace dt := dt.ch pT.ch
 replace dJ := dJ.ch pT.ch
 replace aj := aj.ch pT.ch
 replace hO := pT.own
 replace hB := hB.trans pT.fr
 have pU := Stp.front 5 hO rfl
 dsimp only [eS, eZ] at pU
 replace cC := cC.ch pU.ch
 replace cI := cI.ch pU.ch
 replace cD := cD.ch pU.ch
 replace cu := cu.ch pU.ch
 replace kw := kw.ch pU.ch
 replace de := de.ch pU.ch
 replace dt := dt.ch pU.ch
 replace dJ := dJ.ch pU.ch
 replace aj := aj.ch pU.ch
 replace hO := pU.own
 replace hB := hB.trans pU.fr
 have pV := Stp.front 6 hO rfl
 dsimp only [eS, eZ] at pV
 replace kw := kw.ch pV.ch
 replace cC := cC.ch pV.ch
 replace cI := cI.ch pV.ch
 replace cD := cD.ch pV.ch
 replace cu := cu.ch pV.ch
 replace de := de.ch pV.ch
 replace dt := dt.ch pV.ch
 replace dJ := dJ.ch pV.ch
 replace aj := aj.ch pV.ch
 replace hO := pV.own
 replace hB := hB.trans pV.fr
 have pW := Stp.front 7 hO rfl
 dsimp only [eS, eZ] at pW
 replace de := de.ch pW.ch
 replace kw := kw.ch pW.ch
 replace cC := cC.ch pW.ch
 replace cI := cI.ch pW.ch
 replace cD := cD.ch pW.ch
 replace cu := cu.ch pW.ch
 replace dt := dt.ch pW.ch
 replace dJ := dJ.ch pW.ch
 replace aj := aj.ch pW.ch
 replace hO := pW.own
 replace hB := hB.trans pW.fr
 have pX := Stp.front 8 hO rfl
 dsimp only [eS, eZ] at pX
 replace dt := dt.ch pX.ch
 replace de := de.ch pX.ch
 replace kw := kw.ch pX.ch
 replace cC := cC.ch pX.ch
 replace cI := cI.ch pX.ch
 replace cD := cD.ch pX.ch
 replace cu := cu.ch pX.ch
 replace dJ := dJ.ch pX.ch
 replace aj := aj.ch pX.ch
 replace hO := pX.own
 replace hB := hB.trans pX.fr
 have pY := Stp.front 9 hO rfl
 dsimp only [eS, eZ] at pY
 replace dJ := dJ.ch pY.ch
 replace dt := dt.ch pY.ch
 replace de := de.ch pY.ch
 replace kw := kw.ch pY.ch
 replace cC := cC.ch pY.ch
 replace cI := cI.ch pY.ch
 replace cD := cD.ch pY.ch
 replace cu := cu.ch pY.ch
 replace aj := aj.ch pY.ch
 replace hO := pY.own
 replace hB := hB.trans pY.fr
 have pZ := Stp.front 10 hO rfl
 dsimp only [eS, eZ] at pZ
 replace aj := aj.ch pZ.ch
 replace dJ := dJ.ch pZ.ch
 replace dt := dt.ch pZ.ch
 replace de := de.ch pZ.ch
 replace kw := kw.ch pZ.ch
 replace cC := cC.ch pZ.ch
 replace cI := cI.ch pZ.ch
 replace cD := cD.ch pZ.ch
 replace cu := cu.ch pZ.ch
 replace hO := pZ.own
 replace hB := hB.trans pZ.fr
 refine Go1.ret2 Try.func49 rfl ?_
 exact Or.inr ⟨(⟨(⟨((ix a0 (0 : Int)).length : Int), true, d_32, d_585, d_579, d_573, ([] : List (List Int)), d_555, (0 : Int)⟩ : Enum), m3_591, d_567, d_561, d_549⟩ : run), ((0 : Int)), B10, n37, p35, c36, fK, jc, lz, lA, oX, jb, kU, kV, oW, ja, ks, kt, oV, 0, none, 0, ([]), i7, jP, jQ, oS, B4, i9, kl, km, oU, i8, jR, jS, oT, iR, ki, kj, qt, rfl, hB.same, hO, aj, dJ, dt, de, kw, cC, cI, cD, cu, H⟩
theorem body37 : Body Try.prog 37 := ⟨Try.f37, Try.func37, rfl, by kernel_rfl⟩
theorem walk_trans_Compose {A : List Nat} {w0 : World} {p_f : Option Addr} {c_f : Nat} {p_g : Option Addr} {c_g : Nat} {f : List Int} {g : List Int} (hA : ∀ b ∈ A, b < w0.heap.size) (h_f : ISl (Rp.int .i64) A w0 p_f c_f f) (h_g : ISl (Rp.int .i64) A w0 p_g c_g g) {K : List Int → Prop} (H : trans_Compose f g K) :
    CallsV Try.prog 37 #[.slice p_f f.length c_f, .slice p_g g.length c_g] w0 (fun v w' => ∃ (r0 : List Int), ∃ (um : Option Addr), ∃ (un : Nat), v = .slice um r0.length un ∧ Same w0 w' ∧ ISl (Rp.int .i64) A w' um un r0 ∧ K r0) := by
 refine CallsV.of (l := [.slice p_f f.length c_f, .slice p_g g.length c_g]) Try.func37 rfl Try.ntmps37 rfl ?_
 have hO := Owns.start hA
 have hB := Fr.refl (bl []) w0
 unfold trans_Compose at H
 replace h_f := h_f.ch (Ch.start A w0)
 replace h_g := h_g.ch (Ch.start A w0)
 refine Go1.seq ?_
 refine Go1.region ?_
 refine GoR.op ((op_assign rfl) _) rfl rfl ?_
 refine GoR.nil ?_
 refine Go1.seq ?_
 refine Go1.seq ?_
 refine Go1.region ?_
 refine GoR.op ((op_move rfl) _) rfl rfl ?_
 refine GoR.op ((op_len Try.underlying26 rfl) _) rfl rfl ?_
 replace H := H h_f.bd
 refine GoR.op ((op_move rfl) _) rfl rfl ?_
 refine GoR.op ((op_len Try.underlying26 rfl) _) rfl rfl ?_
 replace H := H h_g.bd
 by_cases h1 : (f.length : Int) = (g.length : Int)
 ·replace H := ifp h1 H
  refine GoR.op ((fun w => opB (op_neq rfl rfl w) (ndT h1)) _) rfl rfl ?_
  refine GoR.op ((op_move rfl) _) rfl rfl ?_
  refine GoR.op ((op_move rfl) _) rfl rfl ?_
  refine GoR.call (op_call body60 rfl (walk_trans_Valid hO.lt h_f H)) rfl rfl ?_
  rintro v6 w3 ⟨r2, rfl, hs4, H⟩
  have rR := Stp.same hO hs4
  replace hO := rR.own
  replace h_f := h_f.ch rR.ch
  replace h_g := h_g.ch rR.ch
  replace hB := hB.trans rR.fr
  cases r2
  ·replace H := ifn Bool.false_ne_true H
   refine GoR.op ((op_not rfl) _) rfl rfl ?_
   refine GoR.op ((op_pickF rfl rfl rfl) _) rfl rfl ?_
   refine GoR.op ((op_move rfl) _) rfl rfl ?_
   refine GoR.pass rfl rfl ?_
   refine GoR.pass rfl rfl ?_
   refine GoR.pass rfl rfl ?_
   refine GoR.op ((op_pickT rfl rfl rfl) _) rfl rfl ?_
   refine GoR.nil ?_
   refine Go1.condT rfl rfl ?_
   refine Go1.seq ?_
   refine Go1.region ?_
   refine GoR.op ((op_assign rfl) _) rfl rfl ?_
   refine GoR.nil ?_
   refine Go1.ret1 Try.func37 rfl ?_
   exact ⟨([] : List Int), none, 0, rfl, hB.same, (ISl.null _ _ _), H⟩
  replace H := ifp rfl H
  refine GoR.op ((op_not rfl) _) rfl rfl ?_
  refine GoR.op ((op_pickF rfl rfl rfl) _) rfl rfl ?_
  refine GoR.op ((op_move rfl) _) rfl rfl ?_
  refine GoR.op ((op_move rfl) _) rfl rfl ?_
  refine GoR.call (op_call body60 rfl (walk_trans_Valid hO.lt h_g H)) rfl rfl ?_
  rintro v12 w9 ⟨r8, rfl, AT, H⟩
  have xC := Stp.same hO AT
  replace hO := xC.own
  replace h_f := h_f.ch xC.ch
  replace h_g := h_g.ch xC.ch
  replace hB := hB.trans xC.fr
  cases r8
  ·replace H := ifn Bool.false_ne_true H
   refine GoR.op ((op_not rfl) _) rfl rfl ?_
   refine GoR.op ((op_pickF rfl rfl rfl) _) rfl rfl ?_
   refine GoR.nil ?_
   refine Go1.condT rfl rfl ?_
   refine Go1.seq ?_
   refine Go1.cut [] trivial ?_
   intro σ _
   refine Go1.region ?_
   refine GoR.op ((op_assign rfl) _) rfl rfl ?_
   refine GoR.nil ?_
   refine Go1.ret1 Try.func37 rfl ?_
   exact ⟨([] : List Int), none, 0, rfl, hB.same, (ISl.null _ _ _), H⟩
  replace H := ifp rfl H
  refine GoR.op ((op_not rfl) _) rfl rfl ?_
  refine GoR.op ((op_pickF rfl rfl rfl) _) rfl rfl ?_
  refine GoR.nil ?_
  refine Go1.condF rfl rfl ?_
  refine Go1.skip ?_
  refine Go1.seq ?_
  refine Go1.region ?_
  refine GoR.op ((op_move rfl) _) rfl rfl ?_
  refine GoR.op ((op_len Try.underlying26 rfl) _) rfl rfl ?_
  obtain ⟨h21, H⟩ := H
  obtain ⟨h22, H⟩ := H
  have hobt := omake (n := (f.length : Int)) (r := Rp.int .i64) (d := (0 : Int)) Try.underlying26 ti3 (fun _ _ => rfl) rfl hO h21 h22 (by decide)
  obtain ⟨w14, p15, vI, ta, dj, B5, yi⟩ := hobt
  refine GoR.op (yi rfl rfl) rfl rfl ?_
  replace hO := ta.own
  replace h_f := h_f.ch ta.ch
  replace h_g := h_g.ch ta.ch
  replace hB := hB.trans ta.fr
  refine GoR.op ((op_assign rfl) _) rfl rfl ?_
  refine GoR.nil ?_
  refine Go1.seq ?_
  refine Go1.seq ?_
  refine Go1.region ?_
  refine GoR.op ((op_move rfl) _) rfl rfl ?_
  refine GoR.op ((op_len Try.underlying26 rfl) _) rfl rfl ?_
  refine GoR.op ((op_move rfl) _) rfl rfl ?_
  refine GoR.nil ?_
  refine Go1.block ?_
  refine Go1.loopW (S := Nat × List Int) (fun s σ w => match s with | (k1_25, h1_26) => ∃ (vS : List Value), agrees σ [(1, .slice p_g g.length c_g), (5, .slice p15 f.length f.length), (26, .slice p_f f.length c_f), (27, .int .i64 (f.length : Int)), (28, .int .i64 (k1_25 : Int))] ∧ Owns w0.heap.size w [.row 3 1 p15 f.length f.length vS] A ∧ Els (Rp.int .i64) (bl [.row 3 1 p15 f.length f.length vS] ++ A) w vS h1_26 ∧ ISl (Rp.int .i64) (bl [.row 3 1 p15 f.length f.length vS] ++ A) w p_f c_f f ∧ ISl (Rp.int .i64) (bl [.row 3 1 p15 f.length f.length vS] ++ A) w p_g c_g g ∧ Fr (bl []) w0 (bl [.row 3 1 p15 f.length f.length vS]) w) H ⟨vI, ⟨rfl, rfl, rfl, rfl, rfl, trivial⟩, hO, dj, h_f, h_g, hB⟩ ?_
  intro X1
  refine prE fun k1_25 => fun h1_26 => ?_
  intro H hX1 σ w24
  refine exE fun vS => andE fun hag => andE fun hO => andE fun yJ => andE fun h_f => andE fun h_g => fun hB => ?_
  dsimp only at H
  refine Go1.keep [(1, .slice p_g g.length c_g), (5, .slice p15 f.length f.length), (26, .slice p_f f.length c_f), (27, .int .i64 (f.length : Int)), (28, .int .i64 (k1_25 : Int))] hag ?_
  refine Go1.seq ?_
  refine Go1.region ?_
  by_cases h29 : (k1_25 : Int) < (f.length : Int)
  ·replace H := ifp h29 H
   refine GoR.op ((fun w => opB (op_lss rfl rfl w) (decide_eq_true h29)) _) rfl rfl ?_
   refine GoR.nil ?_
   refine Go1.seq ?_
   refine Go1.condT rfl rfl ?_
   refine Go1.skip ?_
   refine Go1.seq ?_
   refine Go1.block ?_
   refine Go1.seq ?_
   refine Go1.region ?_
   refine GoR.op ((op_move rfl) _) rfl rfl ?_
   obtain ⟨h30, H⟩ := H
   obtain ⟨h31, H⟩ := H
   refine GoR.op ((op_index Try.underlying26 ti3 rfl rfl h30 h31 (h_f.some_ h30 h31)) _) rfl rfl ?_
   refine GoR.op ((ldInt h_f h30 h31 Try.underlying3 rfl rfl) _ (Same.refl _)) rfl rfl ?_
   refine GoR.op ((op_assign rfl) _) rfl rfl ?_
   refine GoR.op ((op_assign rfl) _) rfl rfl ?_
   refine GoR.nil ?_
   refine Go1.region ?_
   refine GoR.op ((op_move rfl) _) rfl rfl ?_
   refine GoR.op ((op_move rfl) _) rfl rfl ?_
   refine GoR.op ((op_move rfl) _) rfl rfl ?_
   refine GoR.op ((op_move rfl) _) rfl rfl ?_
   obtain ⟨h32, H⟩ := H
   obtain ⟨h33, H⟩ := H
   refine GoR.op ((op_index Try.underlying26 ti3 rfl rfl h32 h33 (h_g.some_ h32 h33)) _) rfl rfl ?_
   refine GoR.op ((ldInt h_g h32 h33 Try.underlying3 rfl rfl) _ (Same.refl _)) rfl rfl ?_
   obtain ⟨h34, H⟩ := H
   obtain ⟨h35, H⟩ := H
   refine GoR.op ((op_index Try.underlying26 ti3 rfl rfl h34 (ltn (yJ.neq hO 0 rfl) h35) (yJ.psome hO 0 rfl h34 h35)) _) rfl rfl ?_
   have hobt := ost (r := Rp.int .i64) rfl 0 hO rfl yJ h34 h35 (v := .int .i64 (ix g (ix f (k1_25 : Int)))) (u := (ix g (ix f (k1_25 : Int)))) rfl rfl
   obtain ⟨w36, HL, xD, HM, EM⟩ := hobt
   refine GoR.op (EM Try.underlying3 rfl ti3 (by exact rfl) (by exact rfl)) rfl rfl ?_
   replace hO := xD.own
   replace h_f := h_f.ch xD.ch
   replace h_g := h_g.ch xD.ch
   replace hB := hB.trans xD.fr
   refine GoR.nil ?_
   refine Go1.inBlock ?_
   refine Go1.region ?_
   refine GoR.op ((op_add rfl rfl (wrap_i64 (natbd h29 h_f.bd))) _) rfl rfl ?_
   refine GoR.op ((op_move rfl) _) rfl rfl ?_
   refine GoR.nil ?_
   exact hX1 _ H _ _ ⟨HL, ⟨rfl, rfl, rfl, rfl, rfl, trivial⟩, hO, HM, h_f, h_g, hB⟩
  replace H := ifn h29 H
  refine GoR.op ((fun w => opB (op_lss rfl rfl w) (decide_eq_false h29)) _) rfl rfl ?_
  refine GoR.nil ?_
  refine Go1.seq ?_
  refine Go1.condF rfl rfl ?_
  refine Go1.exit rfl ?_
  refine Go1.seq ?_
  refine Go1.region ?_
  refine GoR.op ((op_move rfl) _) rfl rfl ?_
  refine GoR.op ((op_assign rfl) _) rfl rfl ?_
  refine GoR.nil ?_
  have hobt := freeze 0 hO rfl yJ
  obtain ⟨hO1, B6, HN, HO⟩ := hobt
  replace h_f := h_f.ch B6
  replace h_g := h_g.ch B6
  replace hB := hB.trans (Owns.dropFr _ _ 0)
  replace hO := hO1; clear hO1
  refine Go1.ret1 Try.func37 rfl ?_
  exact ⟨h1_26, p15, f.length, (congrArg (fun nn => Value.slice p15 nn f.length) HO), hB.same, (HN.ch (Ch.weak _ _ _)), H⟩
 replace H := ifn h1 H
 refine GoR.op ((fun w => opB (op_neq rfl rfl w) (ndF h1)) _) rfl rfl ?_
 refine GoR.op ((op_move rfl) _) rfl rfl ?_
 refine GoR.pass rfl rfl ?_
 refine GoR.pass rfl rfl ?_
 refine GoR.pass rfl rfl ?_
 refine GoR.op ((op_pickT rfl rfl rfl) _) rfl rfl ?_
 refine GoR.op ((op_move rfl) _) rfl rfl ?_
 refine GoR.pass rfl rfl ?_
 refine GoR.pass rfl rfl ?_
 refine GoR.pass rfl rfl ?_
 refine GoR.op ((op_pickT rfl rfl rfl) _) rfl rfl ?_
 refine GoR.nil ?_
 refine Go1.condT rfl rfl ?_
 refine Go1.seq ?_
 refine Go1.cut [] trivial ?_
 intro σ _
 refine Go1.region ?_
 refine GoR.op ((op_assign rfl) _) rfl rfl ?_
 refine GoR.nil ?_
 refine Go1.ret1 Try.func37 rfl ?_
 exact ⟨([] : List Int), none, 0, rfl, hB.same, (ISl.null _ _ _), H⟩
end Sg
