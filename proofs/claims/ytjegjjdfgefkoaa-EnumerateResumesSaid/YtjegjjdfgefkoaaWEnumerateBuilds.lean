/- The walks: each call keeps to its plain transformer. Printed by walkgen.py. -/
import Derived.Test.YtjegjjdfgefkoaaTi
namespace Sg
open Go Go.RowKit Go.Proofs
set_option linter.unusedVariables false
set_option linter.unusedSimpArgs false
set_option maxRecDepth 100000
set_option maxHeartbeats 4000000
theorem body48 : Body Try.prog 48 := ⟨Try.f48, Try.func48, rfl, by kernel_rfl⟩
theorem walk_ref11_Valid {A : List Nat} {w0 : World} {p_f : Option Addr} {c_f : Nat} {f : List Int} (hA : ∀ b ∈ A, b < w0.heap.size) (h_f : ISl (Rp.int .i64) A w0 p_f c_f f) {K : Bool → Prop} (H : ref11_Valid f K) :
    CallsV Try.prog 48 #[.slice p_f f.length c_f] w0 (fun v w' => ∃ (r0 : Bool), v = .bool r0 ∧ Same w0 w' ∧ K r0) := by
 refine CallsV.of (l := [.slice p_f f.length c_f]) Try.func48 rfl Try.ntmps48 rfl ?_
 have hO := Owns.start hA
 have hB := Fr.refl (bl []) w0
 unfold ref11_Valid at H
 replace h_f := h_f.ch (Ch.start A w0)
 refine Go1.seq ?_
 refine Go1.region ?_
 refine GoR.op ((op_assign rfl) _) rfl rfl ?_
 refine GoR.nil ?_
 refine Go1.seq ?_
 refine Go1.seq ?_
 refine Go1.region ?_
 refine GoR.op ((op_move rfl) _) rfl rfl ?_
 refine GoR.op ((op_len Try.underlying26 rfl) _) rfl rfl ?_
 replace H := H h_f.bd
 by_cases h1 : (f.length : Int) < (1 : Int)
 ·replace H := ifp h1 H
  refine GoR.op ((fun w => opB (op_lss rfl rfl w) (decide_eq_true h1)) _) rfl rfl ?_
  refine GoR.op ((op_move rfl) _) rfl rfl ?_
  refine GoR.pass rfl rfl ?_
  refine GoR.pass rfl rfl ?_
  refine GoR.pass rfl rfl ?_
  refine GoR.op ((op_pickT rfl rfl rfl) _) rfl rfl ?_
  refine GoR.nil ?_
  refine Go1.condT rfl rfl ?_
  refine Go1.seq ?_
  refine Go1.region ?_
  refine GoR.op ((op_assign rfl) _) rfl rfl ?_
  refine GoR.nil ?_
  refine Go1.ret1 Try.func48 rfl ?_
  exact ⟨false, rfl, hB.same, H⟩
 replace H := ifn h1 H
 refine GoR.op ((fun w => opB (op_lss rfl rfl w) (decide_eq_false h1)) _) rfl rfl ?_
 refine GoR.op ((op_move rfl) _) rfl rfl ?_
 refine GoR.op ((op_move rfl) _) rfl rfl ?_
 refine GoR.op ((op_len Try.underlying26 rfl) _) rfl rfl ?_
 by_cases h2 : (32 : Int) < (f.length : Int)
 ·replace H := ifp h2 H
  refine GoR.op ((fun w => opB (op_gtr rfl rfl w) (decide_eq_true h2)) _) rfl rfl ?_
  refine GoR.op ((op_pickF rfl rfl rfl) _) rfl rfl ?_
  refine GoR.nil ?_
  refine Go1.condT rfl rfl ?_
  refine Go1.seq ?_
  refine Go1.region ?_
  refine GoR.op ((op_assign rfl) _) rfl rfl ?_
  refine GoR.nil ?_
  refine Go1.ret1 Try.func48 rfl ?_
  exact ⟨false, rfl, hB.same, H⟩
 replace H := ifn h2 H
 refine GoR.op ((fun w => opB (op_gtr rfl rfl w) (decide_eq_false h2)) _) rfl rfl ?_
 refine GoR.op ((op_pickF rfl rfl rfl) _) rfl rfl ?_
 refine GoR.nil ?_
 refine Go1.condF rfl rfl ?_
 refine Go1.skip ?_
 refine Go1.seq ?_
 refine Go1.seq ?_
 refine Go1.region ?_
 refine GoR.op ((op_move rfl) _) rfl rfl ?_
 refine GoR.op ((op_len Try.underlying26 rfl) _) rfl rfl ?_
 refine GoR.op ((op_move rfl) _) rfl rfl ?_
 refine GoR.nil ?_
 refine Go1.block ?_
 refine Go1.loopW (S := Nat) (fun s σ w => agrees σ [(0, .slice p_f f.length c_f), (13, .slice p_f f.length c_f), (14, .int .i64 (f.length : Int)), (15, .int .i64 (s : Int))] ∧ Owns w0.heap.size w [] A ∧ ISl (Rp.int .i64) (bl [] ++ A) w p_f c_f f ∧ Fr (bl []) w0 (bl []) w) H ⟨⟨rfl, rfl, rfl, rfl, trivial⟩, hO, h_f, hB⟩ ?_
 intro X1 k1_4
 intro H hX1 σ w3
 refine andE fun hag => andE fun hO => andE fun h_f => fun hB => ?_
 refine Go1.keep [(0, .slice p_f f.length c_f), (13, .slice p_f f.length c_f), (14, .int .i64 (f.length : Int)), (15, .int .i64 (k1_4 : Int))] hag ?_
 refine Go1.seq ?_
 refine Go1.region ?_
 by_cases h5 : (k1_4 : Int) < (f.length : Int)
 ·replace H := ifp h5 H
  refine GoR.op ((fun w => opB (op_lss rfl rfl w) (decide_eq_true h5)) _) rfl rfl ?_
  refine GoR.nil ?_
  refine Go1.seq ?_
  refine Go1.condT rfl rfl ?_
  refine Go1.skip ?_
  refine Go1.seq ?_
  refine Go1.block ?_
  refine Go1.seq ?_
  refine Go1.region ?_
  obtain ⟨h6, H⟩ := H
  obtain ⟨h7, H⟩ := H
  refine GoR.op ((op_index Try.underlying26 ti3 rfl rfl h6 h7 (h_f.some_ h6 h7)) _) rfl rfl ?_
  refine GoR.op ((ldInt h_f h6 h7 Try.underlying3 rfl rfl) _ (Same.refl _)) rfl rfl ?_
  refine GoR.op ((op_assign rfl) _) rfl rfl ?_
  refine GoR.nil ?_
  refine Go1.seq ?_
  refine Go1.region ?_
  refine GoR.op ((op_move rfl) _) rfl rfl ?_
  by_cases h8 : (ix f (k1_4 : Int)) < (0 : Int)
  ·replace H := ifp h8 H
   refine GoR.op ((fun w => opB (op_lss rfl rfl w) (decide_eq_true h8)) _) rfl rfl ?_
   refine GoR.op ((op_move rfl) _) rfl rfl ?_
   refine GoR.pass rfl rfl ?_
   refine GoR.pass rfl rfl ?_
   refine GoR.pass rfl rfl ?_
   refine GoR.pass rfl rfl ?_
   refine GoR.op ((op_pickT rfl rfl rfl) _) rfl rfl ?_
   refine GoR.nil ?_
   refine Go1.condT rfl rfl ?_
   refine Go1.seq ?_
   refine Go1.region ?_
   refine GoR.op ((op_assign rfl) _) rfl rfl ?_
   refine GoR.nil ?_
   refine Go1.ret1 Try.func48 rfl ?_
   exact ⟨false, rfl, hB.same, H⟩
  replace H := ifn h8 H
  refine GoR.op ((fun w => opB (op_lss rfl rfl w) (decide_eq_false h8)) _) rfl rfl ?_
  refine GoR.op ((op_move rfl) _) rfl rfl ?_
  refine GoR.op ((op_move rfl) _) rfl rfl ?_
  refine GoR.op ((op_move rfl) _) rfl rfl ?_
  refine GoR.op ((op_len Try.underlying26 rfl) _) rfl rfl ?_
  by_cases h9 : (f.length : Int) ≤ (ix f (k1_4 : Int))
  ·replace H := ifp h9 H
   refine GoR.op ((fun w => opB (op_geq rfl rfl w) (decide_eq_true h9)) _) rfl rfl ?_
   refine GoR.op ((op_pickF rfl rfl rfl) _) rfl rfl ?_
   refine GoR.nil ?_
   refine Go1.condT rfl rfl ?_
   refine Go1.seq ?_
   refine Go1.cut [] trivial ?_
   intro σ _
   refine Go1.region ?_
   refine GoR.op ((op_assign rfl) _) rfl rfl ?_
   refine GoR.nil ?_
   refine Go1.ret1 Try.func48 rfl ?_
   exact ⟨false, rfl, hB.same, H⟩
  replace H := ifn h9 H
  refine GoR.op ((fun w => opB (op_geq rfl rfl w) (decide_eq_false h9)) _) rfl rfl ?_
  refine GoR.op ((op_pickF rfl rfl rfl) _) rfl rfl ?_
  refine GoR.nil ?_
  refine Go1.condF rfl rfl ?_
  refine Go1.skip ?_
  refine Go1.inBlock ?_
  refine Go1.region ?_
  refine GoR.op ((op_add rfl rfl (wrap_i64 (natbd h5 h_f.bd))) _) rfl rfl ?_
  refine GoR.op ((op_move rfl) _) rfl rfl ?_
  refine GoR.nil ?_
  exact hX1 _ H _ _ ⟨⟨rfl, rfl, rfl, rfl, trivial⟩, hO, h_f, hB⟩
 replace H := ifn h5 H
 refine GoR.op ((fun w => opB (op_lss rfl rfl w) (decide_eq_false h5)) _) rfl rfl ?_
 refine GoR.nil ?_
 refine Go1.seq ?_
 refine Go1.condF rfl rfl ?_
 refine Go1.exit rfl ?_
 refine Go1.seq ?_
 refine Go1.region ?_
 refine GoR.op ((op_assign rfl) _) rfl rfl ?_
 refine GoR.nil ?_
 refine Go1.ret1 Try.func48 rfl ?_
 exact ⟨true, rfl, hB.same, H⟩
theorem body14 : Body Try.prog 14 := ⟨Try.f14, Try.func14, rfl, by kernel_rfl⟩
theorem walk_ref11_MayGens {A : List Nat} {w0 : World} {kl : Option Addr} {km : Nat} {gens : List (List Int)} (hA : ∀ b ∈ A, b < w0.heap.size) (cG : ISl (Rp.sl (Rp.int .i64)) A w0 kl km gens) {K : Bool → Prop} (H : ref11_MayGens gens K) :
    CallsV Try.prog 14 #[.slice kl gens.length km] w0 (fun v w' => ∃ (r0 : Bool), v = .bool r0 ∧ Same w0 w' ∧ K r0) := by
 refine CallsV.of (l := [.slice kl gens.length km]) Try.func14 rfl Try.ntmps14 rfl ?_
 have hO := Owns.start hA
 have hB := Fr.refl (bl []) w0
 unfold ref11_MayGens at H
 replace cG := cG.ch (Ch.start A w0)
 refine Go1.seq ?_
 refine Go1.region ?_
 refine GoR.op ((op_assign rfl) _) rfl rfl ?_
 refine GoR.nil ?_
 refine Go1.seq ?_
 refine Go1.seq ?_
 refine Go1.region ?_
 refine GoR.op ((op_move rfl) _) rfl rfl ?_
 refine GoR.op ((op_len Try.underlying22 rfl) _) rfl rfl ?_
 replace H := H cG.bd
 by_cases h1 : (gens.length : Int) < (1 : Int)
 ·replace H := ifp h1 H
  refine GoR.op ((fun w => opB (op_lss rfl rfl w) (decide_eq_true h1)) _) rfl rfl ?_
  refine GoR.op ((op_move rfl) _) rfl rfl ?_
  refine GoR.pass rfl rfl ?_
  refine GoR.pass rfl rfl ?_
  refine GoR.pass rfl rfl ?_
  refine GoR.op ((op_pickT rfl rfl rfl) _) rfl rfl ?_
  refine GoR.nil ?_
  refine Go1.condT rfl rfl ?_
  refine Go1.seq ?_
  refine Go1.region ?_
  refine GoR.op ((op_assign rfl) _) rfl rfl ?_
  refine GoR.nil ?_
  refine Go1.ret1 Try.func14 rfl ?_
  exact ⟨false, rfl, hB.same, H⟩
 replace H := ifn h1 H
 refine GoR.op ((fun w => opB (op_lss rfl rfl w) (decide_eq_false h1)) _) rfl rfl ?_
 refine GoR.op ((op_move rfl) _) rfl rfl ?_
 refine GoR.op ((op_move rfl) _) rfl rfl ?_
 refine GoR.op ((op_len Try.underlying22 rfl) _) rfl rfl ?_
 by_cases h2 : (6 : Int) < (gens.length : Int)
 ·replace H := ifp h2 H
  refine GoR.op ((fun w => opB (op_gtr rfl rfl w) (decide_eq_true h2)) _) rfl rfl ?_
  refine GoR.op ((op_pickF rfl rfl rfl) _) rfl rfl ?_
  refine GoR.nil ?_
  refine Go1.condT rfl rfl ?_
  refine Go1.seq ?_
  refine Go1.region ?_
  refine GoR.op ((op_assign rfl) _) rfl rfl ?_
  refine GoR.nil ?_
  refine Go1.ret1 Try.func14 rfl ?_
  exact ⟨false, rfl, hB.same, H⟩
 replace H := ifn h2 H
 refine GoR.op ((fun w => opB (op_gtr rfl rfl w) (decide_eq_false h2)) _) rfl rfl ?_
 refine GoR.op ((op_pickF rfl rfl rfl) _) rfl rfl ?_
 refine GoR.nil ?_
 refine Go1.condF rfl rfl ?_
 refine Go1.skip ?_
 refine Go1.seq ?_
 refine Go1.seq ?_
 refine Go1.region ?_
 refine GoR.op ((op_move rfl) _) rfl rfl ?_
 refine GoR.op ((op_len Try.underlying22 rfl) _) rfl rfl ?_
 refine GoR.op ((op_move rfl) _) rfl rfl ?_
 refine GoR.nil ?_
 refine Go1.block ?_
 refine Go1.loopW (S := Nat) (fun s σ w => agrees σ [(0, .slice kl gens.length km), (13, .slice kl gens.length km), (14, .int .i64 (gens.length : Int)), (15, .int .i64 (s : Int))] ∧ Owns w0.heap.size w [] A ∧ ISl (Rp.sl (Rp.int .i64)) (bl [] ++ A) w kl km gens ∧ Fr (bl []) w0 (bl []) w) H ⟨⟨rfl, rfl, rfl, rfl, trivial⟩, hO, cG, hB⟩ ?_
 intro X1 k1_4
 intro H hX1 σ w3
 refine andE fun hag => andE fun hO => andE fun cG => fun hB => ?_
 refine Go1.keep [(0, .slice kl gens.length km), (13, .slice kl gens.length km), (14, .int .i64 (gens.length : Int)), (15, .int .i64 (k1_4 : Int))] hag ?_
 refine Go1.seq ?_
 refine Go1.region ?_
 by_cases h5 : (k1_4 : Int) < (gens.length : Int)
 ·replace H := ifp h5 H
  refine GoR.op ((fun w => opB (op_lss rfl rfl w) (decide_eq_true h5)) _) rfl rfl ?_
  refine GoR.nil ?_
  refine Go1.seq ?_
  refine Go1.condT rfl rfl ?_
  refine Go1.skip ?_
  refine Go1.seq ?_
  refine Go1.block ?_
  refine Go1.seq ?_
  refine Go1.region ?_
  obtain ⟨h6, H⟩ := H
  obtain ⟨h7, H⟩ := H
  refine GoR.op ((op_index Try.underlying22 ti26 rfl rfl h6 h7 (cG.some_ h6 h7)) _) rfl rfl ?_
  have hobt := ldSl cG h6 h7
  obtain ⟨p8, c9, BD, Kk⟩ := hobt
  refine GoR.op ((Kk Try.underlying26 rfl rfl) _ (Same.refl _)) rfl rfl ?_
  refine GoR.op ((op_assign rfl) _) rfl rfl ?_
  refine GoR.nil ?_
  refine Go1.seq ?_
  refine Go1.region ?_
  refine GoR.op ((op_move rfl) _) rfl rfl ?_
  refine GoR.call (op_call body48 rfl (walk_ref11_Valid hO.lt BD H)) rfl rfl ?_
  rintro v16 w13 ⟨r12, rfl, Kl, H⟩
  have vJ := Stp.same hO Kl
  replace hO := vJ.own
  replace cG := cG.ch vJ.ch
  replace BD := BD.ch vJ.ch
  replace hB := hB.trans vJ.fr
  cases r12
  ·replace H := ifn Bool.false_ne_true H
   refine GoR.op ((op_not rfl) _) rfl rfl ?_
   refine GoR.op ((op_move rfl) _) rfl rfl ?_
   refine GoR.pass rfl rfl ?_
   refine GoR.pass rfl rfl ?_
   refine GoR.pass rfl rfl ?_
   refine GoR.pass rfl rfl ?_
   refine GoR.pass rfl rfl ?_
   refine GoR.pass rfl rfl ?_
   refine GoR.pass rfl rfl ?_
   refine GoR.op ((op_pickT rfl rfl rfl) _) rfl rfl ?_
   refine GoR.nil ?_
   refine Go1.condT rfl rfl ?_
   refine Go1.seq ?_
   refine Go1.region ?_
   refine GoR.op ((op_assign rfl) _) rfl rfl ?_
   refine GoR.nil ?_
   refine Go1.ret1 Try.func14 rfl ?_
   exact ⟨false, rfl, hB.same, H⟩
  replace H := ifp rfl H
  refine GoR.op ((op_not rfl) _) rfl rfl ?_
  refine GoR.op ((op_move rfl) _) rfl rfl ?_
  refine GoR.op ((op_move rfl) _) rfl rfl ?_
  refine GoR.op ((op_len Try.underlying26 rfl) _) rfl rfl ?_
  replace H := H BD.bd
  refine GoR.op ((op_move rfl) _) rfl rfl ?_
  obtain ⟨h18, H⟩ := H
  obtain ⟨h19, H⟩ := H
  refine GoR.op ((op_index Try.underlying22 ti26 rfl rfl h18 h19 (cG.some_ h18 h19)) _) rfl rfl ?_
  have hobt := ldSl cG h18 h19
  obtain ⟨p20, c21, Km, Kn⟩ := hobt
  refine GoR.op ((Kn Try.underlying26 rfl rfl) _ (Same.refl _)) rfl rfl ?_
  refine GoR.op ((op_len Try.underlying26 rfl) _) rfl rfl ?_
  replace H := H Km.bd
  by_cases h24 : ((ix gens (k1_4 : Int)).length : Int) = ((ix gens (0 : Int)).length : Int)
  ·replace H := ifp h24 H
   refine GoR.op ((fun w => opB (op_neq rfl rfl w) (ndT h24)) _) rfl rfl ?_
   refine GoR.op ((op_pickF rfl rfl rfl) _) rfl rfl ?_
   refine GoR.nil ?_
   refine Go1.condF rfl rfl ?_
   refine Go1.skip ?_
   refine Go1.inBlock ?_
   refine Go1.cut [(0, .slice kl gens.length km), (13, .slice kl gens.length km), (14, .int .i64 (gens.length : Int)), (15, .int .i64 (k1_4 : Int))] ⟨rfl, rfl, rfl, rfl, trivial⟩ ?_
   intro σ _
   refine Go1.region ?_
   refine GoR.op ((op_add rfl rfl (wrap_i64 (natbd h5 cG.bd))) _) rfl rfl ?_
   refine GoR.op ((op_move rfl) _) rfl rfl ?_
   refine GoR.nil ?_
   exact hX1 _ H _ _ ⟨⟨rfl, rfl, rfl, rfl, trivial⟩, hO, cG, hB⟩
  replace H := ifn h24 H
  refine GoR.op ((fun w => opB (op_neq rfl rfl w) (ndF h24)) _) rfl rfl ?_
  refine GoR.op ((op_pickF rfl rfl rfl) _) rfl rfl ?_
  refine GoR.nil ?_
  refine Go1.condT rfl rfl ?_
  refine Go1.seq ?_
  refine Go1.region ?_
  refine GoR.op ((op_assign rfl) _) rfl rfl ?_
  refine GoR.nil ?_
  refine Go1.ret1 Try.func14 rfl ?_
  exact ⟨false, rfl, hB.same, H⟩
 replace H := ifn h5 H
 refine GoR.op ((fun w => opB (op_lss rfl rfl w) (decide_eq_false h5)) _) rfl rfl ?_
 refine GoR.nil ?_
 refine Go1.seq ?_
 refine Go1.condF rfl rfl ?_
 refine Go1.exit rfl ?_
 refine Go1.seq ?_
 refine Go1.region ?_
 refine GoR.op ((op_assign rfl) _) rfl rfl ?_
 refine GoR.nil ?_
 refine Go1.ret1 Try.func14 rfl ?_
 exact ⟨true, rfl, hB.same, H⟩
theorem body15 : Body Try.prog 15 := ⟨Try.f15, Try.func15, rfl, by kernel_rfl⟩
theorem walk_law12_little {A : List Nat} {w0 : World} {kl : Option Addr} {km : Nat} {gens : List (List Int)} {points : Int} {letters : Int} (hA : ∀ b ∈ A, b < w0.heap.size) (cG : ISl (Rp.sl (Rp.int .i64)) A w0 kl km gens) {K : Bool → Prop} (H : law12_little gens points letters K) :
    CallsV Try.prog 15 #[.slice kl gens.length km, .int .i64 points, .int .i64 letters] w0 (fun v w' => ∃ (r0 : Bool), v = .bool r0 ∧ Same w0 w' ∧ K r0) := by
 refine CallsV.of (l := [.slice kl gens.length km, .int .i64 points, .int .i64 letters]) Try.func15 rfl Try.ntmps15 rfl ?_
 have hO := Owns.start hA
 have hB := Fr.refl (bl []) w0
 unfold law12_little at H
 replace cG := cG.ch (Ch.start A w0)
 refine Go1.seq ?_
 refine Go1.region ?_
 refine GoR.op ((op_assign rfl) _) rfl rfl ?_
 refine GoR.nil ?_
 refine Go1.seq ?_
 refine Go1.region ?_
 refine GoR.op ((op_move rfl) _) rfl rfl ?_
 refine GoR.call (op_call body14 rfl (walk_ref11_MayGens hO.lt cG H)) rfl rfl ?_
 rintro v5 w2 ⟨r1, rfl, hs3, H⟩
 have wI := Stp.same hO hs3
 replace hO := wI.own
 replace cG := cG.ch wI.ch
 replace hB := hB.trans wI.fr
 refine GoR.op ((op_move rfl) _) rfl rfl ?_
 cases r1
 ·replace H := ifn Bool.false_ne_true H
  refine GoR.pass rfl rfl ?_
  refine GoR.pass rfl rfl ?_
  refine GoR.pass rfl rfl ?_
  refine GoR.pass rfl rfl ?_
  refine GoR.op ((op_pickF rfl rfl rfl) _) rfl rfl ?_
  refine GoR.op ((op_move rfl) _) rfl rfl ?_
  refine GoR.pass rfl rfl ?_
  refine GoR.pass rfl rfl ?_
  refine GoR.pass rfl rfl ?_
  refine GoR.pass rfl rfl ?_
  refine GoR.pass rfl rfl ?_
  refine GoR.pass rfl rfl ?_
  refine GoR.op ((op_pickF rfl rfl rfl) _) rfl rfl ?_
  refine GoR.op ((op_assign rfl) _) rfl rfl ?_
  refine GoR.nil ?_
  refine Go1.ret1 Try.func15 rfl ?_
  exact ⟨false, rfl, hB.same, H⟩
 replace H := ifp rfl H
 refine GoR.op ((op_move rfl) _) rfl rfl ?_
 refine GoR.op ((op_len Try.underlying22 rfl) _) rfl rfl ?_
 replace H := H cG.bd
 refine GoR.op ((op_move rfl) _) rfl rfl ?_
 by_cases h7 : (gens.length : Int) ≤ letters
 ·replace H := ifp h7 H
  refine GoR.op ((fun w => opB (op_leq rfl rfl w) (decide_eq_true h7)) _) rfl rfl ?_
  refine GoR.op ((op_pickT rfl rfl rfl) _) rfl rfl ?_
  refine GoR.op ((op_move rfl) _) rfl rfl ?_
  refine GoR.op ((op_move rfl) _) rfl rfl ?_
  obtain ⟨h8, H⟩ := H
  obtain ⟨h9, H⟩ := H
  refine GoR.op ((op_index Try.underlying22 ti26 rfl rfl h8 h9 (cG.some_ h8 h9)) _) rfl rfl ?_
  have hobt := ldSl cG h8 h9
  obtain ⟨p10, c11, AU, CX⟩ := hobt
  refine GoR.op ((CX Try.underlying26 rfl rfl) _ (Same.refl _)) rfl rfl ?_
  refine GoR.op ((op_len Try.underlying26 rfl) _) rfl rfl ?_
  replace H := H AU.bd
  refine GoR.op ((op_move rfl) _) rfl rfl ?_
  by_cases h14 : ((ix gens (0 : Int)).length : Int) ≤ points
  ·replace H := ifp h14 H
   refine GoR.op ((fun w => opB (op_leq rfl rfl w) (decide_eq_true h14)) _) rfl rfl ?_
   refine GoR.op ((op_pickT rfl rfl rfl) _) rfl rfl ?_
   refine GoR.op ((op_assign rfl) _) rfl rfl ?_
   refine GoR.nil ?_
   refine Go1.ret1 Try.func15 rfl ?_
   exact ⟨true, rfl, hB.same, H⟩
  replace H := ifn h14 H
  refine GoR.op ((fun w => opB (op_leq rfl rfl w) (decide_eq_false h14)) _) rfl rfl ?_
  refine GoR.op ((op_pickT rfl rfl rfl) _) rfl rfl ?_
  refine GoR.op ((op_assign rfl) _) rfl rfl ?_
  refine GoR.nil ?_
  refine Go1.ret1 Try.func15 rfl ?_
  exact ⟨false, rfl, hB.same, H⟩
 replace H := ifn h7 H
 refine GoR.op ((fun w => opB (op_leq rfl rfl w) (decide_eq_false h7)) _) rfl rfl ?_
 refine GoR.op ((op_pickT rfl rfl rfl) _) rfl rfl ?_
 refine GoR.op ((op_move rfl) _) rfl rfl ?_
 refine GoR.pass rfl rfl ?_
 refine GoR.pass rfl rfl ?_
 refine GoR.pass rfl rfl ?_
 refine GoR.pass rfl rfl ?_
 refine GoR.pass rfl rfl ?_
 refine GoR.pass rfl rfl ?_
 refine GoR.op ((op_pickF rfl rfl rfl) _) rfl rfl ?_
 refine GoR.op ((op_assign rfl) _) rfl rfl ?_
 refine GoR.nil ?_
 refine Go1.ret1 Try.func15 rfl ?_
 exact ⟨false, rfl, hB.same, H⟩
theorem body60 : Body Try.prog 60 := ⟨Try.f60, Try.func60, rfl, by kernel_rfl⟩
theorem walk_trans_Valid {A : List Nat} {w0 : World} {p_f : Option Addr} {c_f : Nat} {f : List Int} (hA : ∀ b ∈ A, b < w0.heap.size) (h_f : ISl (Rp.int .i64) A w0 p_f c_f f) {K : Bool → Prop} (H : trans_Valid f K) :
    CallsV Try.prog 60 #[.slice p_f f.length c_f] w0 (fun v w' => ∃ (r0 : Bool), v = .bool r0 ∧ Same w0 w' ∧ K r0) := by
 refine CallsV.of (l := [.slice p_f f.length c_f]) Try.func60 rfl Try.ntmps60 rfl ?_
 have hO := Owns.start hA
 have hB := Fr.refl (bl []) w0
 unfold trans_Valid at H
 replace h_f := h_f.ch (Ch.start A w0)
 refine Go1.seq ?_
 refine Go1.region ?_
 refine GoR.op ((op_assign rfl) _) rfl rfl ?_
 refine GoR.nil ?_
 refine Go1.seq ?_
 refine Go1.seq ?_
 refine Go1.region ?_
 refine GoR.op ((op_move rfl) _) rfl rfl ?_
 refine GoR.op ((op_len Try.underlying26 rfl) _) rfl rfl ?_
 replace H := H h_f.bd
 by_cases h1 : (f.length : Int) < (1 : Int)
 ·replace H := ifp h1 H
  refine GoR.op ((fun w => opB (op_lss rfl rfl w) (decide_eq_true h1)) _) rfl rfl ?_
  refine GoR.op ((op_move rfl) _) rfl rfl ?_
  refine GoR.pass rfl rfl ?_
  refine GoR.pass rfl rfl ?_
  refine GoR.pass rfl rfl ?_
  refine GoR.op ((op_pickT rfl rfl rfl) _) rfl rfl ?_
  refine GoR.nil ?_
  refine Go1.condT rfl rfl ?_
  refine Go1.seq ?_
  refine Go1.region ?_
  refine GoR.op ((op_assign rfl) _) rfl rfl ?_
  refine GoR.nil ?_
  refine Go1.ret1 Try.func60 rfl ?_
  exact ⟨false, rfl, hB.same, H⟩
 replace H := ifn h1 H
 refine GoR.op ((fun w => opB (op_lss rfl rfl w) (decide_eq_false h1)) _) rfl rfl ?_
 refine GoR.op ((op_move rfl) _) rfl rfl ?_
 refine GoR.op ((op_move rfl) _) rfl rfl ?_
 refine GoR.op ((op_len Try.underlying26 rfl) _) rfl rfl ?_
 by_cases h2 : (32 : Int) < (f.length : Int)
 ·replace H := ifp h2 H
  refine GoR.op ((fun w => opB (op_gtr rfl rfl w) (decide_eq_true h2)) _) rfl rfl ?_
  refine GoR.op ((op_pickF rfl rfl rfl) _) rfl rfl ?_
  refine GoR.nil ?_
  refine Go1.condT rfl rfl ?_
  refine Go1.seq ?_
  refine Go1.region ?_
  refine GoR.op ((op_assign rfl) _) rfl rfl ?_
  refine GoR.nil ?_
  refine Go1.ret1 Try.func60 rfl ?_
  exact ⟨false, rfl, hB.same, H⟩
 replace H := ifn h2 H
 refine GoR.op ((fun w => opB (op_gtr rfl rfl w) (decide_eq_false h2)) _) rfl rfl ?_
 refine GoR.op ((op_pickF rfl rfl rfl) _) rfl rfl ?_
 refine GoR.nil ?_
 refine Go1.condF rfl rfl ?_
 refine Go1.skip ?_
 refine Go1.seq ?_
 refine Go1.seq ?_
 refine Go1.region ?_
 refine GoR.op ((op_move rfl) _) rfl rfl ?_
 refine GoR.op ((op_len Try.underlying26 rfl) _) rfl rfl ?_
 refine GoR.op ((op_move rfl) _) rfl rfl ?_
 refine GoR.nil ?_
 refine Go1.block ?_
 refine Go1.loopW (S := Nat) (fun s σ w => agrees σ [(0, .slice p_f f.length c_f), (13, .slice p_f f.length c_f), (14, .int .i64 (f.length : Int)), (15, .int .i64 (s : Int))] ∧ Owns w0.heap.size w [] A ∧ ISl (Rp.int .i64) (bl [] ++ A) w p_f c_f f ∧ Fr (bl []) w0 (bl []) w) H ⟨⟨rfl, rfl, rfl, rfl, trivial⟩, hO, h_f, hB⟩ ?_
 intro X1 k1_4
 intro H hX1 σ w3
 refine andE fun hag => andE fun hO => andE fun h_f => fun hB => ?_
 refine Go1.keep [(0, .slice p_f f.length c_f), (13, .slice p_f f.length c_f), (14, .int .i64 (f.length : Int)), (15, .int .i64 (k1_4 : Int))] hag ?_
 refine Go1.seq ?_
 refine Go1.region ?_
 by_cases h5 : (k1_4 : Int) < (f.length : Int)
 ·replace H := ifp h5 H
  refine GoR.op ((fun w => opB (op_lss rfl rfl w) (decide_eq_true h5)) _) rfl rfl ?_
  refine GoR.nil ?_
  refine Go1.seq ?_
  refine Go1.condT rfl rfl ?_
  refine Go1.skip ?_
  refine Go1.seq ?_
  refine Go1.block ?_
  refine Go1.seq ?_
  refine Go1.region ?_
  obtain ⟨h6, H⟩ := H
  obtain ⟨h7, H⟩ := H
  refine GoR.op ((op_index Try.underlying26 ti3 rfl rfl h6 h7 (h_f.some_ h6 h7)) _) rfl rfl ?_
  refine GoR.op ((ldInt h_f h6 h7 Try.underlying3 rfl rfl) _ (Same.refl _)) rfl rfl ?_
  refine GoR.op ((op_assign rfl) _) rfl rfl ?_
  refine GoR.nil ?_
  refine Go1.seq ?_
  refine Go1.region ?_
  refine GoR.op ((op_move rfl) _) rfl rfl ?_
  by_cases h8 : (ix f (k1_4 : Int)) < (0 : Int)
  ·replace H := ifp h8 H
   refine GoR.op ((fun w => opB (op_lss rfl rfl w) (decide_eq_true h8)) _) rfl rfl ?_
   refine GoR.op ((op_move rfl) _) rfl rfl ?_
   refine GoR.pass rfl rfl ?_
   refine GoR.pass rfl rfl ?_
   refine GoR.pass rfl rfl ?_
   refine GoR.pass rfl rfl ?_
   refine GoR.op ((op_pickT rfl rfl rfl) _) rfl rfl ?_
   refine GoR.nil ?_
   refine Go1.condT rfl rfl ?_
   refine Go1.seq ?_
   refine Go1.region ?_
   refine GoR.op ((op_assign rfl) _) rfl rfl ?_
   refine GoR.nil ?_
   refine Go1.ret1 Try.func60 rfl ?_
   exact ⟨false, rfl, hB.same, H⟩
  replace H := ifn h8 H
  refine GoR.op ((fun w => opB (op_lss rfl rfl w) (decide_eq_false h8)) _) rfl rfl ?_
  refine GoR.op ((op_move rfl) _) rfl rfl ?_
  refine GoR.op ((op_move rfl) _) rfl rfl ?_
  refine GoR.op ((op_move rfl) _) rfl rfl ?_
  refine GoR.op ((op_len Try.underlying26 rfl) _) rfl rfl ?_
  by_cases h9 : (f.length : Int) ≤ (ix f (k1_4 : Int))
  ·replace H := ifp h9 H
   refine GoR.op ((fun w => opB (op_geq rfl rfl w) (decide_eq_true h9)) _) rfl rfl ?_
   refine GoR.op ((op_pickF rfl rfl rfl) _) rfl rfl ?_
   refine GoR.nil ?_
   refine Go1.condT rfl rfl ?_
   refine Go1.seq ?_
   refine Go1.cut [] trivial ?_
   intro σ _
   refine Go1.region ?_
   refine GoR.op ((op_assign rfl) _) rfl rfl ?_
   refine GoR.nil ?_
   refine Go1.ret1 Try.func60 rfl ?_
   exact ⟨false, rfl, hB.same, H⟩
  replace H := ifn h9 H
  refine GoR.op ((fun w => opB (op_geq rfl rfl w) (decide_eq_false h9)) _) rfl rfl ?_
  refine GoR.op ((op_pickF rfl rfl rfl) _) rfl rfl ?_
  refine GoR.nil ?_
  refine Go1.condF rfl rfl ?_
  refine Go1.skip ?_
  refine Go1.inBlock ?_
  refine Go1.region ?_
  refine GoR.op ((op_add rfl rfl (wrap_i64 (natbd h5 h_f.bd))) _) rfl rfl ?_
  refine GoR.op ((op_move rfl) _) rfl rfl ?_
  refine GoR.nil ?_
  exact hX1 _ H _ _ ⟨⟨rfl, rfl, rfl, rfl, trivial⟩, hO, h_f, hB⟩
 replace H := ifn h5 H
 refine GoR.op ((fun w => opB (op_lss rfl rfl w) (decide_eq_false h5)) _) rfl rfl ?_
 refine GoR.nil ?_
 refine Go1.seq ?_
 refine Go1.condF rfl rfl ?_
 refine Go1.exit rfl ?_
 refine Go1.seq ?_
 refine Go1.region ?_
 refine GoR.op ((op_assign rfl) _) rfl rfl ?_
 refine GoR.nil ?_
 refine Go1.ret1 Try.func60 rfl ?_
 exact ⟨true, rfl, hB.same, H⟩
theorem body64 : Body Try.prog 64 := ⟨Try.f64, Try.func64, rfl, by kernel_rfl⟩
theorem walk_slices_Clone_int {A : List Nat} {w0 : World} {p_s : Option Addr} {c_s : Nat} {s : List Int} (hA : ∀ b ∈ A, b < w0.heap.size) (h_s : ISl (Rp.int .i64) A w0 p_s c_s s) {K : List Int → Prop} (H : slices_Clone_int s K) :
    CallsV Try.prog 64 #[.slice p_s s.length c_s] w0 (fun v w' => ∃ (r0 : List Int), ∃ (CZ : Nat), ∃ (xD : Option Addr), ∃ (xE : Nat), ∃ (BE : List Value), v = .slice xD CZ xE ∧ Same w0 w' ∧ Owns w0.heap.size w' [.row 3 1 xD CZ xE BE] A ∧ Els (Rp.int .i64) (bl [.row 3 1 xD CZ xE BE] ++ A) w' BE r0 ∧ K r0) := by
 refine CallsV.of (l := [.slice p_s s.length c_s]) Try.func64 rfl Try.ntmps64 rfl ?_
 have hO := Owns.start hA
 have hB := Fr.refl (bl []) w0
 unfold slices_Clone_int at H
 replace h_s := h_s.ch (Ch.start A w0)
 refine Go1.seq ?_
 refine Go1.region ?_
 refine GoR.op ((op_assign rfl) _) rfl rfl ?_
 refine GoR.nil ?_
 refine Go1.seq ?_
 refine Go1.seq ?_
 refine Go1.region ?_
 refine GoR.op ((op_move rfl) _) rfl rfl ?_
 replace H := H p_s.isNone (fun h => h_s.nilD h)
 by_cases hz2 : p_s.isNone = true
 ·replace H := ifp hz2 H
  refine GoR.op ((fun w => opB (op_nilSlice Try.underlying26 rfl rfl w) (hz2)) _) rfl rfl ?_
  refine GoR.nil ?_
  refine Go1.condT rfl rfl ?_
  refine Go1.seq ?_
  refine Go1.region ?_
  refine GoR.op ((op_assign rfl) _) rfl rfl ?_
  refine GoR.nil ?_
  have rv := Stp.nil (e := 3) (r := 1) hO
  replace hO := rv.own
  replace h_s := h_s.ch rv.ch
  replace hB := hB.trans rv.fr
  have hE5 := Els.nil (Rp.int .i64) (bl (.row 3 1 none 0 0 [] :: []) ++ A) w0
  refine Go1.ret1 Try.func64 rfl ?_
  exact ⟨(([] : List Int)), 0, none, 0, ([]), rfl, hB.same, hO, hE5, H⟩
 ·replace H := ifn hz2 H
  refine GoR.op ((fun w => opB (op_nilSlice Try.underlying26 rfl rfl w) (Bool.eq_false_iff.2 hz2)) _) rfl rfl ?_
  refine GoR.nil ?_
  refine Go1.condF rfl rfl ?_
  refine Go1.skip ?_
  refine Go1.seq ?_
  refine Go1.region ?_
  have hobt := obuild (r := Rp.int .i64) (n := 0) (parts := []) (vs := []) (xs := ([] : List Int)) rfl Try.underlying26 ti3 hO (by decide) (by kernel_rfl) (Els.nil _ _ _) rfl
  obtain ⟨w6, p7, C0, hE9, BG, zH⟩ := hobt
  refine GoR.op (zH rfl) rfl rfl ?_
  replace hO := C0.own
  replace h_s := h_s.ch C0.ch
  replace hB := hB.trans C0.fr
  refine GoR.op ((op_move rfl) _) rfl rfl ?_
  obtain ⟨h13, H⟩ := H
  have hobt := oapp Try.underlying26 ti3 rfl 0 hO rfl hE9 h_s rfl h13 (by decide)
  obtain ⟨w14, p15, c16, ov, pX, Ko, BH⟩ := hobt
  refine GoR.op (BH (by exact rfl) (by exact rfl)) rfl rfl ?_
  replace hO := pX.own
  replace h_s := h_s.ch pX.ch
  replace hB := hB.trans pX.fr
  refine GoR.op ((op_assign rfl) _) rfl rfl ?_
  refine GoR.nil ?_
  refine Go1.ret1 Try.func64 rfl ?_
  exact ⟨((([] : List Int)) ++ s), (0 + s.length), p15, c16, ov, rfl, hB.same, hO, Ko, H⟩
theorem body62 : Body Try.prog 62 := ⟨Try.f62, Try.func62, rfl, by kernel_rfl⟩
theorem walk_trans_Identity {A : List Nat} {w0 : World} {n : Int} (hA : ∀ b ∈ A, b < w0.heap.size) {K : List Int → Prop} (H : trans_Identity n K) :
    CallsV Try.prog 62 #[.int .i64 n] w0 (fun v w' => ∃ (r0 : List Int), ∃ (xD : Option Addr), ∃ (xE : Nat), v = .slice xD r0.length xE ∧ Same w0 w' ∧ ISl (Rp.int .i64) A w' xD xE r0 ∧ K r0) := by
 refine CallsV.of (l := [.int .i64 n]) Try.func62 rfl Try.ntmps62 rfl ?_
 have hO := Owns.start hA
 have hB := Fr.refl (bl []) w0
 unfold trans_Identity at H
 refine Go1.seq ?_
 refine Go1.region ?_
 refine GoR.op ((op_assign rfl) _) rfl rfl ?_
 refine GoR.nil ?_
 refine Go1.seq ?_
 refine Go1.seq ?_
 refine Go1.region ?_
 refine GoR.op ((op_move rfl) _) rfl rfl ?_
 by_cases h1 : n < (1 : Int)
 ·replace H := ifp h1 H
  refine GoR.op ((fun w => opB (op_lss rfl rfl w) (decide_eq_true h1)) _) rfl rfl ?_
  refine GoR.op ((op_move rfl) _) rfl rfl ?_
  refine GoR.pass rfl rfl ?_
  refine GoR.pass rfl rfl ?_
  refine GoR.op ((op_pickT rfl rfl rfl) _) rfl rfl ?_
  refine GoR.nil ?_
  refine Go1.condT rfl rfl ?_
  refine Go1.seq ?_
  refine Go1.region ?_
  refine GoR.op ((op_assign rfl) _) rfl rfl ?_
  refine GoR.nil ?_
  refine Go1.ret1 Try.func62 rfl ?_
  exact ⟨([] : List Int), none, 0, rfl, hB.same, (ISl.null _ _ _), H⟩
 replace H := ifn h1 H
 refine GoR.op ((fun w => opB (op_lss rfl rfl w) (decide_eq_false h1)) _) rfl rfl ?_
 refine GoR.op ((op_move rfl) _) rfl rfl ?_
 refine GoR.op ((op_move rfl) _) rfl rfl ?_
 by_cases h2 : (32 : Int) < n
 ·replace H := ifp h2 H
  refine GoR.op ((fun w => opB (op_gtr rfl rfl w) (decide_eq_true h2)) _) rfl rfl ?_
  refine GoR.op ((op_pickF rfl rfl rfl) _) rfl rfl ?_
  refine GoR.nil ?_
  refine Go1.condT rfl rfl ?_
  refine Go1.seq ?_
  refine Go1.region ?_
  refine GoR.op ((op_assign rfl) _) rfl rfl ?_
  refine GoR.nil ?_
  refine Go1.ret1 Try.func62 rfl ?_
  exact ⟨([] : List Int), none, 0, rfl, hB.same, (ISl.null _ _ _), H⟩
 replace H := ifn h2 H
 refine GoR.op ((fun w => opB (op_gtr rfl rfl w) (decide_eq_false h2)) _) rfl rfl ?_
 refine GoR.op ((op_pickF rfl rfl rfl) _) rfl rfl ?_
 refine GoR.nil ?_
 refine Go1.condF rfl rfl ?_
 refine Go1.skip ?_
 refine Go1.seq ?_
 refine Go1.region ?_
 refine GoR.op ((op_move rfl) _) rfl rfl ?_
 obtain ⟨h10, H⟩ := H
 obtain ⟨h11, H⟩ := H
 have hobt := omake (n := n) (r := Rp.int .i64) (d := (0 : Int)) Try.underlying26 ti3 (fun _ _ => rfl) rfl hO h10 h11 (by decide)
 obtain ⟨w3, p4, vs5, wI, hE7, hs8, Kp⟩ := hobt
 refine GoR.op (Kp rfl rfl) rfl rfl ?_
 replace hO := wI.own
 replace hB := hB.trans wI.fr
 refine GoR.op ((op_assign rfl) _) rfl rfl ?_
 refine GoR.nil ?_
 refine Go1.seq ?_
 refine Go1.seq ?_
 refine Go1.region ?_
 refine GoR.op ((op_move rfl) _) rfl rfl ?_
 refine GoR.op ((op_lenN Try.underlying26 rfl (hE7.neq hO 0 rfl)) _) rfl rfl ?_
 refine GoR.op ((op_move rfl) _) rfl rfl ?_
 refine GoR.nil ?_
 refine Go1.block ?_
 refine Go1.loopW (S := Nat × List Int) (fun s σ w => match s with | (k1_14, f1_15) => ∃ (y3 : List Value), agrees σ [(3, .slice p4 n.toNat n.toNat), (14, .int .i64 ((List.replicate n.toNat ((0 : Int))).length : Int)), (15, .int .i64 (k1_14 : Int))] ∧ Owns w0.heap.size w [.row 3 1 p4 n.toNat n.toNat y3] A ∧ Els (Rp.int .i64) (bl [.row 3 1 p4 n.toNat n.toNat y3] ++ A) w y3 f1_15 ∧ Fr (bl []) w0 (bl [.row 3 1 p4 n.toNat n.toNat y3]) w) H ⟨vs5, ⟨rfl, rfl, rfl, trivial⟩, hO, hE7, hB⟩ ?_
 intro X1
 refine prE fun k1_14 => fun f1_15 => ?_
 intro H hX1 σ w13
 refine exE fun y3 => andE fun hag => andE fun hO => andE fun BI => fun hB => ?_
 dsimp only at H
 refine Go1.keep [(3, .slice p4 n.toNat n.toNat), (14, .int .i64 ((List.replicate n.toNat ((0 : Int))).length : Int)), (15, .int .i64 (k1_14 : Int))] hag ?_
 refine Go1.seq ?_
 refine Go1.region ?_
 by_cases h18 : (k1_14 : Int) < ((List.replicate n.toNat ((0 : Int))).length : Int)
 ·replace H := ifp h18 H
  refine GoR.op ((fun w => opB (op_lss rfl rfl w) (decide_eq_true h18)) _) rfl rfl ?_
  refine GoR.nil ?_
  refine Go1.seq ?_
  refine Go1.condT rfl rfl ?_
  refine Go1.skip ?_
  refine Go1.seq ?_
  refine Go1.block ?_
  refine Go1.seq ?_
  refine Go1.region ?_
  refine GoR.op ((op_move rfl) _) rfl rfl ?_
  refine GoR.op ((op_assign rfl) _) rfl rfl ?_
  refine GoR.nil ?_
  refine Go1.region ?_
  refine GoR.op ((op_move rfl) _) rfl rfl ?_
  refine GoR.op ((op_move rfl) _) rfl rfl ?_
  refine GoR.op ((op_move rfl) _) rfl rfl ?_
  obtain ⟨h19, H⟩ := H
  obtain ⟨h20, H⟩ := H
  refine GoR.op ((op_index Try.underlying26 ti3 rfl rfl h19 (ltn (BI.neq hO 0 rfl) h20) (BI.psome hO 0 rfl h19 h20)) _) rfl rfl ?_
  have hobt := ost (r := Rp.int .i64) rfl 0 hO rfl BI h19 h20 (v := .int .i64 (k1_14 : Int)) (u := (k1_14 : Int)) rfl rfl
  obtain ⟨w21, C1, gS, bW, BJ⟩ := hobt
  refine GoR.op (BJ Try.underlying3 rfl ti3 (by exact rfl) (by exact rfl)) rfl rfl ?_
  replace hO := gS.own
  replace hB := hB.trans gS.fr
  refine GoR.nil ?_
  refine Go1.inBlock ?_
  refine Go1.region ?_
  obtain ⟨h26, H⟩ := H
  refine GoR.op ((op_add rfl rfl (wrap_i64 h26)) _) rfl rfl ?_
  refine GoR.op ((op_move rfl) _) rfl rfl ?_
  refine GoR.nil ?_
  exact hX1 _ H _ _ ⟨C1, ⟨rfl, rfl, rfl, trivial⟩, hO, bW, hB⟩
 replace H := ifn h18 H
 refine GoR.op ((fun w => opB (op_lss rfl rfl w) (decide_eq_false h18)) _) rfl rfl ?_
 refine GoR.nil ?_
 refine Go1.seq ?_
 refine Go1.condF rfl rfl ?_
 refine Go1.exit rfl ?_
 refine Go1.seq ?_
 refine Go1.region ?_
 refine GoR.op ((op_move rfl) _) rfl rfl ?_
 refine GoR.op ((op_assign rfl) _) rfl rfl ?_
 refine GoR.nil ?_
 have hobt := freeze 0 hO rfl BI
 obtain ⟨hO1, MY, Kq, Kr⟩ := hobt
 replace hB := hB.trans (Owns.dropFr _ _ 0)
 replace hO := hO1; clear hO1
 refine Go1.ret1 Try.func62 rfl ?_
 exact ⟨f1_15, p4, n.toNat, (congrArg (fun nn => Value.slice p4 nn n.toNat) Kr), hB.same, (Kq.ch (Ch.weak _ _ _)), H⟩
theorem body61 : Body Try.prog 61 := ⟨Try.f61, Try.func61, rfl, by kernel_rfl⟩
theorem walk_enumerate_text {A : List Nat} {w0 : World} {p_f : Option Addr} {c_f : Nat} {f : List Int} (hA : ∀ b ∈ A, b < w0.heap.size) (h_f : ISl (Rp.int .i64) A w0 p_f c_f f) {K : Str → Prop} (H : enumerate_text f K) :
    CallsV Try.prog 61 #[.slice p_f f.length c_f] w0 (fun v w' => ∃ (r0 : Str), v = .string (gstr r0) ∧ Same w0 w' ∧ r0.length ≤ mx ∧ K r0) := by
 refine CallsV.of (l := [.slice p_f f.length c_f]) Try.func61 rfl Try.ntmps61 rfl ?_
 have hO := Owns.start hA
 have hB := Fr.refl (bl []) w0
 unfold enumerate_text at H
 replace h_f := h_f.ch (Ch.start A w0)
 refine Go1.seq ?_
 refine Go1.region ?_
 refine GoR.op ((op_assign rfl) _) rfl rfl ?_
 refine GoR.nil ?_
 refine Go1.seq ?_
 refine Go1.region ?_
 refine GoR.op ((op_move rfl) _) rfl rfl ?_
 refine GoR.op ((op_len Try.underlying26 rfl) _) rfl rfl ?_
 replace H := H h_f.bd
 obtain ⟨h8, H⟩ := H
 obtain ⟨h9, H⟩ := H
 have hobt := omake (n := (f.length : Int)) (r := Rp.int .u8) (d := (0 : Int)) Try.underlying84 ti5 (fun _ _ => rfl) rfl hO h8 h9 (by decide)
 obtain ⟨w1, p2, vs3, rv, hE5, hs6, AV⟩ := hobt
 refine GoR.op (AV rfl rfl) rfl rfl ?_
 replace hO := rv.own
 replace h_f := h_f.ch rv.ch
 replace hB := hB.trans rv.fr
 refine GoR.op ((op_assign rfl) _) rfl rfl ?_
 refine GoR.nil ?_
 refine Go1.seq ?_
 refine Go1.seq ?_
 refine Go1.region ?_
 refine GoR.op ((op_move rfl) _) rfl rfl ?_
 refine GoR.op ((op_len Try.underlying26 rfl) _) rfl rfl ?_
 refine GoR.op ((op_move rfl) _) rfl rfl ?_
 refine GoR.nil ?_
 refine Go1.block ?_
 refine Go1.loopW (S := Nat × List Int) (fun s σ w => match s with | (k1_12, b1_13) => ∃ (qx : List Value), agrees σ [(3, .slice p2 f.length f.length), (9, .slice p_f f.length c_f), (10, .int .i64 (f.length : Int)), (11, .int .i64 (k1_12 : Int))] ∧ Owns w0.heap.size w [.row 5 1 p2 f.length f.length qx] A ∧ Els (Rp.int .u8) (bl [.row 5 1 p2 f.length f.length qx] ++ A) w qx b1_13 ∧ ISl (Rp.int .i64) (bl [.row 5 1 p2 f.length f.length qx] ++ A) w p_f c_f f ∧ Fr (bl []) w0 (bl [.row 5 1 p2 f.length f.length qx]) w) H ⟨vs3, ⟨rfl, rfl, rfl, rfl, trivial⟩, hO, hE5, h_f, hB⟩ ?_
 intro X1
 refine prE fun k1_12 => fun b1_13 => ?_
 intro H hX1 σ w11
 refine exE fun qx => andE fun hag => andE fun hO => andE fun bm => andE fun h_f => fun hB => ?_
 dsimp only at H
 refine Go1.keep [(3, .slice p2 f.length f.length), (9, .slice p_f f.length c_f), (10, .int .i64 (f.length : Int)), (11, .int .i64 (k1_12 : Int))] hag ?_
 refine Go1.seq ?_
 refine Go1.region ?_
 by_cases h16 : (k1_12 : Int) < (f.length : Int)
 ·replace H := ifp h16 H
  refine GoR.op ((fun w => opB (op_lss rfl rfl w) (decide_eq_true h16)) _) rfl rfl ?_
  refine GoR.nil ?_
  refine Go1.seq ?_
  refine Go1.condT rfl rfl ?_
  refine Go1.skip ?_
  refine Go1.seq ?_
  refine Go1.block ?_
  refine Go1.seq ?_
  refine Go1.region ?_
  refine GoR.op ((op_move rfl) _) rfl rfl ?_
  obtain ⟨h17, H⟩ := H
  obtain ⟨h18, H⟩ := H
  refine GoR.op ((op_index Try.underlying26 ti3 rfl rfl h17 h18 (h_f.some_ h17 h18)) _) rfl rfl ?_
  refine GoR.op ((ldInt h_f h17 h18 Try.underlying3 rfl rfl) _ (Same.refl _)) rfl rfl ?_
  refine GoR.op ((op_assign rfl) _) rfl rfl ?_
  refine GoR.op ((op_assign rfl) _) rfl rfl ?_
  refine GoR.nil ?_
  refine Go1.region ?_
  refine GoR.op ((op_move rfl) _) rfl rfl ?_
  refine GoR.op ((op_move rfl) _) rfl rfl ?_
  refine GoR.op ((op_move rfl) _) rfl rfl ?_
  refine GoR.op ((op_conv Try.underlying3 Try.underlying5 rfl rfl) _) rfl rfl ?_
  obtain ⟨h19, H⟩ := H
  obtain ⟨h20, H⟩ := H
  refine GoR.op ((op_index Try.underlying84 ti5 rfl rfl h19 (ltn (bm.neq hO 0 rfl) h20) (bm.psome hO 0 rfl h19 h20)) _) rfl rfl ?_
  have hobt := ost (r := Rp.int .u8) rfl 0 hO rfl bm h19 h20 (v := .int .u8 (IntKind.u8.wrap (ix f (k1_12 : Int)))) (u := (IntKind.u8.wrap (ix f (k1_12 : Int)))) rfl rfl
  obtain ⟨w21, C1, gS, bW, BJ⟩ := hobt
  refine GoR.op (BJ Try.underlying5 rfl ti5 (by exact rfl) (by exact rfl)) rfl rfl ?_
  replace hO := gS.own
  replace h_f := h_f.ch gS.ch
  replace hB := hB.trans gS.fr
  refine GoR.nil ?_
  refine Go1.inBlock ?_
  refine Go1.region ?_
  refine GoR.op ((op_add rfl rfl (wrap_i64 (natbd h16 h_f.bd))) _) rfl rfl ?_
  refine GoR.op ((op_move rfl) _) rfl rfl ?_
  refine GoR.nil ?_
  exact hX1 _ H _ _ ⟨C1, ⟨rfl, rfl, rfl, rfl, trivial⟩, hO, bW, h_f, hB⟩
 replace H := ifn h16 H
 refine GoR.op ((fun w => opB (op_lss rfl rfl w) (decide_eq_false h16)) _) rfl rfl ?_
 refine GoR.nil ?_
 refine Go1.seq ?_
 refine Go1.condF rfl rfl ?_
 refine Go1.exit rfl ?_
 refine Go1.seq ?_
 refine Go1.region ?_
 refine GoR.op ((op_move rfl) _) rfl rfl ?_
 have hle26 := byt_le bm.bd
 refine GoR.op ((oldBytes 0 hO rfl bm Try.underlying84 Try.underlying5 Try.underlying9 rfl) _ (Same.refl _)) rfl rfl ?_
 refine GoR.op ((op_assign rfl) _) rfl rfl ?_
 refine GoR.nil ?_
 refine Go1.ret1 Try.func61 rfl ?_
 exact ⟨byt b1_13, rfl, hB.same, hle26, H⟩
theorem body65 : Body Try.prog 65 := ⟨Try.f65, Try.func65, rfl, by kernel_rfl⟩
theorem body49 : Body Try.prog 49 := ⟨Try.f49, Try.func49, rfl, by kernel_rfl⟩
theorem walk_enumerate_begin {A : List Nat} {w0 : World} {u0 : Option Addr} {u3 : Nat} {a0 : List (List Int)} {a1 : Bool} (hA : ∀ b ∈ A, b < w0.heap.size) (bk : ISl (Rp.sl (Rp.int .i64)) A w0 u0 u3 a0) {K : Option run → Int → Prop} (H : enumerate_begin a0 a1 K) :
    CallsV Try.prog 49 #[.slice u0 a0.length u3, .bool a1] w0 (fun v w' => (∃ (r1 : Int), v = .tuple #[.pointer none, .int .i64 r1] ∧ Same w0 w' ∧ K none r1) ∨ (∃ (q : run), ∃ (r1 : Int), ∃ (b_q : Nat), ∃ (aQ : Nat), ∃ (aR : Option Addr), ∃ (aS : Nat), ∃ (bA : List Value), ∃ (aG : Nat), ∃ (aH : Option Addr), ∃ (aI : Nat), ∃ (bw : List Value), ∃ (ar : Nat), ∃ (au : Option Addr), ∃ (av : Nat), ∃ (bo : List Value), ∃ (aT : Nat), ∃ (aU : Option Addr), ∃ (aV : Nat), ∃ (bB : List Value), ∃ (aJ : Nat), ∃ (aK : Option Addr), ∃ (aL : Nat), ∃ (bx : List Value), ∃ (aM : Nat), ∃ (aN : Option Addr), ∃ (aO : Nat), ∃ (bz : List Value), ∃ (ci : Nat), ∃ (bp : Nat), ∃ (bq : Option Addr), ∃ (bt : Nat), ∃ (cT : List Value), ∃ (bc : Nat), ∃ (bf : Option Addr), ∃ (bg : Nat), ∃ (cv : List Value), ∃ (bh : Nat), ∃ (bi : Option Addr), ∃ (bj : Nat), ∃ (cw : List Value), v = .tuple #[.pointer (some ⟨b_q, 0, none⟩), .int .i64 r1] ∧ Same w0 w' ∧ Owns w0.heap.size w' [.blk b_q (.cells #[.int .i64 q.Enum.Points, .bool q.Enum.Monoid, .slice aR aQ aS, .slice aH aG aI, .slice au ar av, .slice aU aT aV, .slice aK aJ aL, .slice aN aM aO, .int .i64 q.Enum.Done, .map (some ci), .slice bq bp bt, .slice bf bc bg, .slice bi bh bj] 72 (0, 0)), .row 26 1 aR aQ aS bA, .row 26 1 aH aG aI bw, .row 3 1 au ar av bo, .row 3 1 aU aT aV bB, .row 26 1 aK aJ aL bx, .row 39 2 aN aM aO bz, .row 9 1 bq bp bt cT, .row 3 1 bf bc bg cv, .row 3 1 bi bh bj cw, .any (mapE (fun a : List UInt8 => Value.string (gstr a)) (fun a : Int => Value.int .i64 a) ci q.number)] A ∧ Els (Rp.sl (Rp.int .i64)) (bl [.blk b_q (.cells #[.int .i64 q.Enum.Points, .bool q.Enum.Monoid, .slice aR aQ aS, .slice aH aG aI, .slice au ar av, .slice aU aT aV, .slice aK aJ aL, .slice aN aM aO, .int .i64 q.Enum.Done, .map (some ci), .slice bq bp bt, .slice bf bc bg, .slice bi bh bj] 72 (0, 0)), .row 26 1 aR aQ aS bA, .row 26 1 aH aG aI bw, .row 3 1 au ar av bo, .row 3 1 aU aT aV bB, .row 26 1 aK aJ aL bx, .row 39 2 aN aM aO bz, .row 9 1 bq bp bt cT, .row 3 1 bf bc bg cv, .row 3 1 bi bh bj cw, .any (mapE (fun a : List UInt8 => Value.string (gstr a)) (fun a : Int => Value.int .i64 a) ci q.number)] ++ A) w' bA q.Enum.Gens ∧ Els (Rp.sl (Rp.int .i64)) (bl [.blk b_q (.cells #[.int .i64 q.Enum.Points, .bool q.Enum.Monoid, .slice aR aQ aS, .slice aH aG aI, .slice au ar av, .slice aU aT aV, .slice aK aJ aL, .slice aN aM aO, .int .i64 q.Enum.Done, .map (some ci), .slice bq bp bt, .slice bf bc bg, .slice bi bh bj] 72 (0, 0)), .row 26 1 aR aQ aS bA, .row 26 1 aH aG aI bw, .row 3 1 au ar av bo, .row 3 1 aU aT aV bB, .row 26 1 aK aJ aL bx, .row 39 2 aN aM aO bz, .row 9 1 bq bp bt cT, .row 3 1 bf bc bg cv, .row 3 1 bi bh bj cw, .any (mapE (fun a : List UInt8 => Value.string (gstr a)) (fun a : Int => Value.int .i64 a) ci q.number)] ++ A) w' bw q.Enum.Elems ∧ Els (Rp.int .i64) (bl [.blk b_q (.cells #[.int .i64 q.Enum.Points, .bool q.Enum.Monoid, .slice aR aQ aS, .slice aH aG aI, .slice au ar av, .slice aU aT aV, .slice aK aJ aL, .slice aN aM aO, .int .i64 q.Enum.Done, .map (some ci), .slice bq bp bt, .slice bf bc bg, .slice bi bh bj] 72 (0, 0)), .row 26 1 aR aQ aS bA, .row 26 1 aH aG aI bw, .row 3 1 au ar av bo, .row 3 1 aU aT aV bB, .row 26 1 aK aJ aL bx, .row 39 2 aN aM aO bz, .row 9 1 bq bp bt cT, .row 3 1 bf bc bg cv, .row 3 1 bi bh bj cw, .any (mapE (fun a : List UInt8 => Value.string (gstr a)) (fun a : Int => Value.int .i64 a) ci q.number)] ++ A) w' bo q.Enum.Prefix ∧ Els (Rp.int .i64) (bl [.blk b_q (.cells #[.int .i64 q.Enum.Points, .bool q.Enum.Monoid, .slice aR aQ aS, .slice aH aG aI, .slice au ar av, .slice aU aT aV, .slice aK aJ aL, .slice aN aM aO, .int .i64 q.Enum.Done, .map (some ci), .slice bq bp bt, .slice bf bc bg, .slice bi bh bj] 72 (0, 0)), .row 26 1 aR aQ aS bA, .row 26 1 aH aG aI bw, .row 3 1 au ar av bo, .row 3 1 aU aT aV bB, .row 26 1 aK aJ aL bx, .row 39 2 aN aM aO bz, .row 9 1 bq bp bt cT, .row 3 1 bf bc bg cv, .row 3 1 bi bh bj cw, .any (mapE (fun a : List UInt8 => Value.string (gstr a)) (fun a : Int => Value.int .i64 a) ci q.number)] ++ A) w' bB q.Enum.Last ∧ Els (Rp.sl (Rp.int .i64)) (bl [.blk b_q (.cells #[.int .i64 q.Enum.Points, .bool q.Enum.Monoid, .slice aR aQ aS, .slice aH aG aI, .slice au ar av, .slice aU aT aV, .slice aK aJ aL, .slice aN aM aO, .int .i64 q.Enum.Done, .map (some ci), .slice bq bp bt, .slice bf bc bg, .slice bi bh bj] 72 (0, 0)), .row 26 1 aR aQ aS bA, .row 26 1 aH aG aI bw, .row 3 1 au ar av bo, .row 3 1 aU aT aV bB, .row 26 1 aK aJ aL bx, .row 39 2 aN aM aO bz, .row 9 1 bq bp bt cT, .row 3 1 bf bc bg cv, .row 3 1 bi bh bj cw, .any (mapE (fun a : List UInt8 => Value.string (gstr a)) (fun a : Int => Value.int .i64 a) ci q.number)] ++ A) w' bx q.Enum.Right ∧ Els (rpRule) (bl [.blk b_q (.cells #[.int .i64 q.Enum.Points, .bool q.Enum.Monoid, .slice aR aQ aS, .slice aH aG aI, .slice au ar av, .slice aU aT aV, .slice aK aJ aL, .slice aN aM aO, .int .i64 q.Enum.Done, .map (some ci), .slice bq bp bt, .slice bf bc bg, .slice bi bh bj] 72 (0, 0)), .row 26 1 aR aQ aS bA, .row 26 1 aH aG aI bw, .row 3 1 au ar av bo, .row 3 1 aU aT aV bB, .row 26 1 aK aJ aL bx, .row 39 2 aN aM aO bz, .row 9 1 bq bp bt cT, .row 3 1 bf bc bg cv, .row 3 1 bi bh bj cw, .any (mapE (fun a : List UInt8 => Value.string (gstr a)) (fun a : Int => Value.int .i64 a) ci q.number)] ++ A) w' bz q.Enum.Rules ∧ Els (Rp.str) (bl [.blk b_q (.cells #[.int .i64 q.Enum.Points, .bool q.Enum.Monoid, .slice aR aQ aS, .slice aH aG aI, .slice au ar av, .slice aU aT aV, .slice aK aJ aL, .slice aN aM aO, .int .i64 q.Enum.Done, .map (some ci), .slice bq bp bt, .slice bf bc bg, .slice bi bh bj] 72 (0, 0)), .row 26 1 aR aQ aS bA, .row 26 1 aH aG aI bw, .row 3 1 au ar av bo, .row 3 1 aU aT aV bB, .row 26 1 aK aJ aL bx, .row 39 2 aN aM aO bz, .row 9 1 bq bp bt cT, .row 3 1 bf bc bg cv, .row 3 1 bi bh bj cw, .any (mapE (fun a : List UInt8 => Value.string (gstr a)) (fun a : Int => Value.int .i64 a) ci q.number)] ++ A) w' cT q.words ∧ Els (Rp.int .i64) (bl [.blk b_q (.cells #[.int .i64 q.Enum.Points, .bool q.Enum.Monoid, .slice aR aQ aS, .slice aH aG aI, .slice au ar av, .slice aU aT aV, .slice aK aJ aL, .slice aN aM aO, .int .i64 q.Enum.Done, .map (some ci), .slice bq bp bt, .slice bf bc bg, .slice bi bh bj] 72 (0, 0)), .row 26 1 aR aQ aS bA, .row 26 1 aH aG aI bw, .row 3 1 au ar av bo, .row 3 1 aU aT aV bB, .row 26 1 aK aJ aL bx, .row 39 2 aN aM aO bz, .row 9 1 bq bp bt cT, .row 3 1 bf bc bg cv, .row 3 1 bi bh bj cw, .any (mapE (fun a : List UInt8 => Value.string (gstr a)) (fun a : Int => Value.int .i64 a) ci q.number)] ++ A) w' cv q.behind ∧ Els (Rp.int .i64) (bl [.blk b_q (.cells #[.int .i64 q.Enum.Points, .bool q.Enum.Monoid, .slice aR aQ aS, .slice aH aG aI, .slice au ar av, .slice aU aT aV, .slice aK aJ aL, .slice aN aM aO, .int .i64 q.Enum.Done, .map (some ci), .slice bq bp bt, .slice bf bc bg, .slice bi bh bj] 72 (0, 0)), .row 26 1 aR aQ aS bA, .row 26 1 aH aG aI bw, .row 3 1 au ar av bo, .row 3 1 aU aT aV bB, .row 26 1 aK aJ aL bx, .row 39 2 aN aM aO bz, .row 9 1 bq bp bt cT, .row 3 1 bf bc bg cv, .row 3 1 bi bh bj cw, .any (mapE (fun a : List UInt8 => Value.string (gstr a)) (fun a : Int => Value.int .i64 a) ci q.number)] ++ A) w' cw q.single ∧ K (some q) r1)) := by
 refine CallsV.of (l := [.slice u0 a0.length u3, .bool a1]) Try.func49 rfl Try.ntmps49 rfl ?_
 have hO := Owns.start hA
 have hB := Fr.refl (bl []) w0
 unfold enumerate_begin at H
 replace bk := bk.ch (Ch.start A w0)
 refine Go1.seq ?_
 refine Go1.region ?_
 refine GoR.op ((op_assign rfl) _) rfl rfl ?_
 refine GoR.op ((op_assign rfl) _) rfl rfl ?_
 refine GoR.nil ?_
 refine Go1.seq ?_
 refine Go1.seq ?_
 refine Go1.region ?_
 refine GoR.op ((op_move rfl) _) rfl rfl ?_
 refine GoR.op ((op_len Try.underlying22 rfl) _) rfl rfl ?_
 replace H := H bk.bd
 by_cases h1 : (a0.length : Int) = (0 : Int)
 ·replace H := ifp h1 H
  refine GoR.op ((fun w => opB (op_eql rfl rfl w) (decide_eq_true h1)) _) rfl rfl ?_
  refine GoR.op ((op_move rfl) _) rfl rfl ?_
  refine GoR.pass rfl rfl ?_
  refine GoR.pass rfl rfl ?_
  refine GoR.pass rfl rfl ?_
  refine GoR.op ((op_pickT rfl rfl rfl) _) rfl rfl ?_
  refine GoR.nil ?_
  refine Go1.condT rfl rfl ?_
  refine Go1.seq ?_
  refine Go1.region ?_
  refine GoR.op ((op_assign rfl) _) rfl rfl ?_
  refine GoR.op ((op_assign rfl) _) rfl rfl ?_
  refine GoR.nil ?_
  refine Go1.ret2 Try.func49 rfl ?_
  exact Or.inl ⟨((1 : Int)), rfl, hB.same, H⟩
 replace H := ifn h1 H
 refine GoR.op ((fun w => opB (op_eql rfl rfl w) (decide_eq_false h1)) _) rfl rfl ?_
 refine GoR.op ((op_move rfl) _) rfl rfl ?_
 refine GoR.op ((op_move rfl) _) rfl rfl ?_
 refine GoR.op ((op_len Try.underlying22 rfl) _) rfl rfl ?_
 by_cases h2 : (6 : Int) < (a0.length : Int)
 ·replace H := ifp h2 H
  refine GoR.op ((fun w => opB (op_gtr rfl rfl w) (decide_eq_true h2)) _) rfl rfl ?_
  refine GoR.op ((op_pickF rfl rfl rfl) _) rfl rfl ?_
  refine GoR.nil ?_
  refine Go1.condT rfl rfl ?_
  refine Go1.seq ?_
  refine Go1.region ?_
  refine GoR.op ((op_assign rfl) _) rfl rfl ?_
  refine GoR.op ((op_assign rfl) _) rfl rfl ?_
  refine GoR.nil ?_
  refine Go1.ret2 Try.func49 rfl ?_
  exact Or.inl ⟨((1 : Int)), rfl, hB.same, H⟩
 replace H := ifn h2 H
 refine GoR.op ((fun w => opB (op_gtr rfl rfl w) (decide_eq_false h2)) _) rfl rfl ?_
 refine GoR.op ((op_pickF rfl rfl rfl) _) rfl rfl ?_
 refine GoR.nil ?_
 refine Go1.condF rfl rfl ?_
 refine Go1.skip ?_
 refine Go1.seq ?_
 refine Go1.cut [(0, .slice u0 a0.length u3), (1, .bool a1)] ⟨rfl, rfl, trivial⟩ ?_
 intro σ _
 refine Go1.region ?_
 have hobt := omakeMap (fun a : List UInt8 => Value.string (gstr a)) (fun a : Int => Value.int .i64 a) hO
 obtain ⟨w3, B4, C2, hs6, AV⟩ := hobt
 refine GoR.op AV rfl rfl ?_
 replace hO := C2.own
 replace bk := bk.ch C2.ch
 replace hB := hB.trans C2.fr
 refine GoR.op ((op_build Try.underlying72 ti72 (pl := [(0, 9), (9, 1), (10, 1), (11, 1), (12, 1)]) (vs := [(1, .map (some B4))]) (cs := #[.int .i64 (0 : Int), .bool false, .slice none 0 0, .slice none 0 0, .slice none 0 0, .slice none 0 0, .slice none 0 0, .slice none 0 0, .int .i64 (0 : Int), .map (some B4), .slice none 0 0, .slice none 0 0, .slice none 0 0]) (by kernel_rfl) rfl (by kernel_rfl)) _) rfl rfl ?_
 have hobt := obox (t := 72) (v := .agg #[.int .i64 (0 : Int), .bool false, .slice none 0 0, .slice none 0 0, .slice none 0 0, .slice none 0 0, .slice none 0 0, .slice none 0 0, .int .i64 (0 : Int), .map (some B4), .slice none 0 0, .slice none 0 0, .slice none 0 0]) (cs := #[.int .i64 (0 : Int), .bool false, .slice none 0 0, .slice none 0 0, .slice none 0 0, .slice none 0 0, .slice none 0 0, .slice none 0 0, .int .i64 (0 : Int), .map (some B4), .slice none 0 0, .slice none 0 0, .slice none 0 0]) hO rfl
 obtain ⟨w9, B10, BK, AW, BL⟩ := hobt
 refine GoR.op (BL rfl) rfl rfl ?_
 replace hO := BK.own
 replace bk := bk.ch BK.ch
 replace hB := hB.trans BK.fr
 refine GoR.op ((op_assign rfl) _) rfl rfl ?_
 refine GoR.nil ?_
 refine Go1.seq ?_
 refine Go1.region ?_
 refine GoR.op ((op_move rfl) _) rfl rfl ?_
 refine GoR.op ((op_move rfl) _) rfl rfl ?_
 refine GoR.op ((op_move rfl) _) rfl rfl ?_
 obtain ⟨h15, H⟩ := H
 obtain ⟨h16, H⟩ := H
 refine GoR.op ((op_index Try.underlying22 ti26 rfl rfl h15 h16 (bk.some_ h15 h16)) _) rfl rfl ?_
 have hobt := ldSl bk h15 h16
 obtain ⟨p17, c18, y4, Ks⟩ := hobt
 refine GoR.op ((Ks Try.underlying26 rfl rfl) _ (Same.refl _)) rfl rfl ?_
 refine GoR.op ((op_len Try.underlying26 rfl) _) rfl rfl ?_
 replace H := H y4.bd
 refine GoR.op ((op_move rfl) _) rfl rfl ?_
 refine GoR.op ((op_nilCheck rfl) _) rfl rfl ?_
 refine GoR.op ((op_fieldAddr Try.underlying72 rfl ti29 rfl (by decide)) _) rfl rfl ?_
 refine GoR.op ((op_fieldAddr Try.underlying29 rfl ti3 rfl (by decide)) _) rfl rfl ?_
 have hobt := oblkSt2 (v := .int .i64 ((ix a0 (0 : Int)).length : Int)) (i := 0) (cs' := #[.int .i64 ((ix a0 (0 : Int)).length : Int), .bool false, .slice none 0 0, .slice none 0 0, .slice none 0 0, .slice none 0 0, .slice none 0 0, .slice none 0 0, .int .i64 (0 : Int), .map (some B4), .slice none 0 0, .slice none 0 0, .slice none 0 0]) 0 hO rfl rfl rfl rfl
 obtain ⟨w21, gw, Gz⟩ := hobt
 refine GoR.op (Gz Try.underlying3 rfl ti3 (by exact rfl) (by exact rfl)) rfl rfl ?_
 replace hO := gw.own
 replace bk := bk.ch gw.ch
 replace y4 := y4.ch gw.ch
 replace hB := hB.trans gw.fr
 refine GoR.op ((op_nilCheck rfl) _) rfl rfl ?_
 refine GoR.op ((op_fieldAddr Try.underlying72 rfl ti29 rfl (by decide)) _) rfl rfl ?_
 refine GoR.op ((op_fieldAddr Try.underlying29 rfl ti4 rfl (by decide)) _) rfl rfl ?_
 have hobt := oblkSt2 (v := .bool a1) (i := 1) (cs' := #[.int .i64 ((ix a0 (0 : Int)).length : Int), .bool a1, .slice none 0 0, .slice none 0 0, .slice none 0 0, .slice none 0 0, .slice none 0 0, .slice none 0 0, .int .i64 (0 : Int), .map (some B4), .slice none 0 0, .slice none 0 0, .slice none 0 0]) 0 hO rfl rfl rfl rfl
 obtain ⟨w24, uJ, BM⟩ := hobt
 refine GoR.op (BM Try.underlying4 rfl ti4 (by exact rfl) (by exact rfl)) rfl rfl ?_
 replace hO := uJ.own
 replace bk := bk.ch uJ.ch
 replace y4 := y4.ch uJ.ch
 replace hB := hB.trans uJ.fr
 refine GoR.nil ?_
 refine Go1.seq ?_
 refine Go1.seq ?_
 refine Go1.cut [(0, .slice u0 a0.length u3), (1, .bool a1), (6, .pointer (some ⟨B10, 0, none⟩))] ⟨rfl, rfl, rfl, trivial⟩ ?_
 intro σ _
 refine Go1.region ?_
 refine GoR.op ((op_move rfl) _) rfl rfl ?_
 refine GoR.op ((op_len Try.underlying22 rfl) _) rfl rfl ?_
 refine GoR.op ((op_move rfl) _) rfl rfl ?_
 refine GoR.nil ?_
 refine Go1.block ?_
 have oZ := Stp.nil (e := 26) (r := 1) hO
 replace hO := oZ.own
 replace bk := bk.ch oZ.ch
 replace y4 := y4.ch oZ.ch
 replace hB := hB.trans oZ.fr
 have Kt := Els.nil (Rp.sl (Rp.int .i64)) (bl (.row 26 1 none 0 0 [] :: [.blk B10 (.cells #[.int .i64 ((ix a0 (0 : Int)).length : Int), .bool a1, .slice none 0 0, .slice none 0 0, .slice none 0 0, .slice none 0 0, .slice none 0 0, .slice none 0 0, .int .i64 (0 : Int), .map (some B4), .slice none 0 0, .slice none 0 0, .slice none 0 0] 72 (0, 0)), .any (mapE (fun a : List UInt8 => Value.string (gstr a)) (fun a : Int => Value.int .i64 a) B4 (([] : List (Str × Int))))]) ++ A) w24
 refine Go1.loopW (S := Nat × List (List Int)) (fun s σ w => match s with | (k1_31, d_32) => ∃ (n37 : Nat), ∃ (p35 : Option Addr), ∃ (c36 : Nat), ∃ (gt : List Value), agrees σ [(1, .bool a1), (6, .pointer (some ⟨B10, 0, none⟩)), (39, .slice u0 a0.length u3), (40, .int .i64 (a0.length : Int)), (41, .int .i64 (k1_31 : Int))] ∧ Owns w0.heap.size w [.row 26 1 p35 n37 c36 gt, .blk B10 (.cells #[.int .i64 ((ix a0 (0 : Int)).length : Int), .bool a1, .slice p35 n37 c36, .slice none 0 0, .slice none 0 0, .slice none 0 0, .slice none 0 0, .slice none 0 0, .int .i64 (0 : Int), .map (some B4), .slice none 0 0, .slice none 0 0, .slice none 0 0] 72 (0, 0)), .any (mapE (fun a : List UInt8 => Value.string (gstr a)) (fun a : Int => Value.int .i64 a) B4 (([] : List (Str × Int))))] A ∧ Els (Rp.sl (Rp.int .i64)) (bl [.row 26 1 p35 n37 c36 gt, .blk B10 (.cells #[.int .i64 ((ix a0 (0 : Int)).length : Int), .bool a1, .slice p35 n37 c36, .slice none 0 0, .slice none 0 0, .slice none 0 0, .slice none 0 0, .slice none 0 0, .int .i64 (0 : Int), .map (some B4), .slice none 0 0, .slice none 0 0, .slice none 0 0] 72 (0, 0)), .any (mapE (fun a : List UInt8 => Value.string (gstr a)) (fun a : Int => Value.int .i64 a) B4 (([] : List (Str × Int))))] ++ A) w gt d_32 ∧ ISl (Rp.sl (Rp.int .i64)) (bl [.row 26 1 p35 n37 c36 gt, .blk B10 (.cells #[.int .i64 ((ix a0 (0 : Int)).length : Int), .bool a1, .slice p35 n37 c36, .slice none 0 0, .slice none 0 0, .slice none 0 0, .slice none 0 0, .slice none 0 0, .int .i64 (0 : Int), .map (some B4), .slice none 0 0, .slice none 0 0, .slice none 0 0] 72 (0, 0)), .any (mapE (fun a : List UInt8 => Value.string (gstr a)) (fun a : Int => Value.int .i64 a) B4 (([] : List (Str × Int))))] ++ A) w u0 u3 a0 ∧ Fr (bl []) w0 (bl [.row 26 1 p35 n37 c36 gt, .blk B10 (.cells #[.int .i64 ((ix a0 (0 : Int)).length : Int), .bool a1, .slice p35 n37 c36, .slice none 0 0, .slice none 0 0, .slice none 0 0, .slice none 0 0, .slice none 0 0, .int .i64 (0 : Int), .map (some B4), .slice none 0 0, .slice none 0 0, .slice none 0 0] 72 (0, 0)), .any (mapE (fun a : List UInt8 => Value.string (gstr a)) (fun a : Int => Value.int .i64 a) B4 (([] : List (Str × Int))))]) w) H ⟨0, none, 0, [], ⟨rfl, rfl, rfl, rfl, rfl, trivial⟩, hO, Kt, bk, hB⟩ ?_
 intro X1
 refine prE fun k1_31 => fun d_32 => ?_
 intro H hX1 σ w30
 refine exE fun n37 => exE fun p35 => exE fun c36 => exE fun gt => andE fun hag => andE fun hO => andE fun aj => andE fun bk => fun hB => ?_
 dsimp only at H
 refine Go1.keep [(1, .bool a1), (6, .pointer (some ⟨B10, 0, none⟩)), (39, .slice u0 a0.length u3), (40, .int .i64 (a0.length : Int)), (41, .int .i64 (k1_31 : Int))] hag ?_
 refine Go1.seq ?_
 refine Go1.region ?_
 by_cases h38 : (k1_31 : Int) < (a0.length : Int)
 ·replace H := ifp h38 H
  refine GoR.op ((fun w => opB (op_lss rfl rfl w) (decide_eq_true h38)) _) rfl rfl ?_
  refine GoR.nil ?_
  refine Go1.seq ?_
  refine Go1.condT rfl rfl ?_
  refine Go1.skip ?_
  refine Go1.seq ?_
  refine Go1.block ?_
  refine Go1.seq ?_
  refine Go1.region ?_
  obtain ⟨h39, H⟩ := H
  obtain ⟨h40, H⟩ := H
  refine GoR.op ((op_index Try.underlying22 ti26 rfl rfl h39 h40 (bk.some_ h39 h40)) _) rfl rfl ?_
  have hobt := ldSl bk h39 h40
  obtain ⟨p41, c42, mB, Ku⟩ := hobt
  refine GoR.op ((Ku Try.underlying26 rfl rfl) _ (Same.refl _)) rfl rfl ?_
  refine GoR.op ((op_assign rfl) _) rfl rfl ?_
  refine GoR.nil ?_
  refine Go1.seq ?_
  refine Go1.seq ?_
  refine Go1.region ?_
  refine GoR.op ((op_move rfl) _) rfl rfl ?_
  refine GoR.op ((op_len Try.underlying26 rfl) _) rfl rfl ?_
  replace H := H mB.bd
  refine GoR.op ((op_move rfl) _) rfl rfl ?_
  refine GoR.op ((op_nilCheck rfl) _) rfl rfl ?_
  refine GoR.op ((op_fieldAddr Try.underlying72 rfl ti29 rfl (by decide)) _) rfl rfl ?_
  refine GoR.op ((op_fieldAddr Try.underlying29 rfl ti3 rfl (by decide)) _) rfl rfl ?_
  refine GoR.op ((oblk (i := 0) 1 hO rfl rfl Try.underlying3 rfl rfl) _ (Same.refl _)) rfl rfl ?_
  by_cases h45 : ((ix a0 (k1_31 : Int)).length : Int) = ((ix a0 (0 : Int)).length : Int)
  ·replace H := ifp h45 H
   refine GoR.op ((fun w => opB (op_neq rfl rfl w) (ndT h45)) _) rfl rfl ?_
   refine GoR.op ((op_move rfl) _) rfl rfl ?_
   refine GoR.op ((op_move rfl) _) rfl rfl ?_
   refine GoR.call (op_call body60 rfl (walk_trans_Valid hO.lt mB H)) rfl rfl ?_
   rintro v50 w47 ⟨r46, rfl, C3, H⟩
   have nh := Stp.same hO C3
   replace aj := aj.ch nh.ch
   replace hO := nh.own
   replace bk := bk.ch nh.ch
   replace mB := mB.ch nh.ch
   replace hB := hB.trans nh.fr
   cases r46
   ·replace H := ifn Bool.false_ne_true H
    refine GoR.op ((op_not rfl) _) rfl rfl ?_
    refine GoR.op ((op_pickF rfl rfl rfl) _) rfl rfl ?_
    refine GoR.nil ?_
    refine Go1.condT rfl rfl ?_
    refine Go1.seq ?_
    refine Go1.region ?_
    refine GoR.op ((op_assign rfl) _) rfl rfl ?_
    refine GoR.op ((op_assign rfl) _) rfl rfl ?_
    refine GoR.nil ?_
    refine Go1.ret2 Try.func49 rfl ?_
    exact Or.inl ⟨((4 : Int)), rfl, hB.same, H⟩
   replace H := ifp rfl H
   refine GoR.op ((op_not rfl) _) rfl rfl ?_
   refine GoR.op ((op_pickF rfl rfl rfl) _) rfl rfl ?_
   refine GoR.nil ?_
   refine Go1.condF rfl rfl ?_
   refine Go1.skip ?_
   refine Go1.cut [(1, .bool a1), (6, .pointer (some ⟨B10, 0, none⟩)), (8, .slice p41 ((ix a0 (k1_31 : Int)).length) c42), (39, .slice u0 a0.length u3), (40, .int .i64 (a0.length : Int)), (41, .int .i64 (k1_31 : Int))] ⟨rfl, rfl, rfl, rfl, rfl, rfl, trivial⟩ ?_
   intro σ _
   refine Go1.drawS 1 [(0, .pure), (1, .pure), (2, .pure), (3, .pure), (4, .pure), (5, .stable), (6, .pure), (7, .loud), (8, .loud), (9, .last), (10, .pure), (11, .pure), (12, .pure), (13, .last)] mixed (by kernel_rfl) ?_
   intro w52 Kv
   have eH := Stp.same hO Kv
   replace aj := aj.ch eH.ch
   replace hO := eH.own
   replace bk := bk.ch eH.ch
   replace mB := mB.ch eH.ch
   replace hB := hB.trans eH.fr
   refine GoQ.pure rfl (op_move rfl) rfl rfl ?_
   refine GoQ.pure rfl (op_move rfl) rfl rfl ?_
   refine GoQ.pure rfl (op_nilCheck rfl) rfl rfl ?_
   refine GoQ.pure rfl (op_fieldAddr Try.underlying72 rfl ti29 rfl (by decide)) rfl rfl ?_
   refine GoQ.pure rfl (op_fieldAddr Try.underlying29 rfl ti22 rfl (by decide)) rfl rfl ?_
   refine GoQ.stable rfl (oblk (i := 2) 1 hO rfl rfl Try.underlying22 rfl rfl) rfl rfl ?_
   refine GoQ.pure rfl (op_move rfl) rfl rfl ?_
   refine GoQ.call rfl (op_call body64 rfl (walk_slices_Clone_int hO.lt mB H)) (fun v w hr => by obtain ⟨_, _, _, _, _, _, hs, _, _, _⟩ := hr; assumption) rfl rfl ?_
   rintro v60 w57 ⟨r55, D6, AF, AG, Mo, rfl, Kw, hN59, C4, H⟩
   have zI := Stp.more hO Kw hN59
   replace aj := aj.ch zI.ch
   replace hO := zI.own
   replace bk := bk.ch zI.ch
   replace mB := mB.ch zI.ch
   replace hB := hB.trans zI.fr
   replace C4 := C4.ch (Ch.assoc _ _ _ _)
   have hobt := freeze 0 hO rfl C4
   obtain ⟨hO1, C5, xF, Kx⟩ := hobt
   replace bk := bk.ch C5
   replace mB := mB.ch C5
   replace aj := aj.ch C5
   replace hB := hB.trans (Owns.dropFr _ _ 0)
   replace hO := hO1; clear hO1
   have hobt := obuild (r := Rp.sl (Rp.int .i64)) (n := 1) (parts := [(0, .slice AF D6 AG)]) (vs := [.slice AF D6 AG]) (xs := [r55]) rfl Try.underlying22 ti26 hO (by decide) (by kernel_rfl) (Els.cons rfl ⟨AF, AG, congrArg some (congrArg (fun nn => Value.slice AF nn AG) Kx), xF⟩ (Els.nil _ _ _) (by simp [mx])) rfl
   obtain ⟨w66, p67, eV, lk, Ky, GA⟩ := hobt
   refine GoQ.loud rfl (GA rfl) Ky rfl rfl ?_
   replace aj := aj.ch eV.ch
   replace hO := eV.own
   replace bk := bk.ch eV.ch
   replace mB := mB.ch eV.ch
   replace xF := xF.ch eV.ch
   replace hB := hB.trans eV.fr
   have hobt := freeze 0 hO rfl lk
   obtain ⟨hO1, BN, AX, Kz⟩ := hobt
   replace bk := bk.ch BN
   replace mB := mB.ch BN
   replace xF := xF.ch BN
   replace aj := aj.ch BN
   replace hB := hB.trans (Owns.dropFr _ _ 0)
   replace hO := hO1; clear hO1
   obtain ⟨h76, H⟩ := H
   have hobt := oapp Try.underlying22 ti26 rfl 0 hO rfl aj AX Kz h76 (by decide)
   obtain ⟨w77, p78, c79, iM, yt, C6, GB⟩ := hobt
   refine GoQ.last rfl (GB (by exact rfl) (by exact rfl)) rfl rfl ?_
   replace hO := yt.own
   replace bk := bk.ch yt.ch
   replace mB := mB.ch yt.ch
   replace xF := xF.ch yt.ch
   replace AX := AX.ch yt.ch
   replace hB := hB.trans yt.fr
   refine GoQ.pure rfl (op_nilCheck rfl) rfl rfl ?_
   refine GoQ.pure rfl (op_fieldAddr Try.underlying72 rfl ti29 rfl (by decide)) rfl rfl ?_
   refine GoQ.pure rfl (op_fieldAddr Try.underlying29 rfl ti22 rfl (by decide)) rfl rfl ?_
   have hobt := oblkSt2 (v := .slice p78 (n37 + 1) c79) (i := 2) (cs' := #[.int .i64 ((ix a0 (0 : Int)).length : Int), .bool a1, .slice p78 (n37 + 1) c79, .slice none 0 0, .slice none 0 0, .slice none 0 0, .slice none 0 0, .slice none 0 0, .int .i64 (0 : Int), .map (some B4), .slice none 0 0, .slice none 0 0, .slice none 0 0]) 1 hO rfl rfl rfl rfl
   obtain ⟨w85, mH, GC⟩ := hobt
   refine GoQ.last rfl (GC Try.underlying22 rfl ti22 (by exact rfl) (by exact rfl)) rfl rfl ?_
   replace C6 := C6.ch mH.ch
   replace hO := mH.own
   replace bk := bk.ch mH.ch
   replace mB := mB.ch mH.ch
   replace xF := xF.ch mH.ch
   replace AX := AX.ch mH.ch
   replace hB := hB.trans mH.fr
   refine GoQ.nil ?_
   refine Go1.inBlock ?_
   refine Go1.region ?_
   refine GoR.op ((op_add rfl rfl (wrap_i64 (natbd h38 bk.bd))) _) rfl rfl ?_
   refine GoR.op ((op_move rfl) _) rfl rfl ?_
   refine GoR.nil ?_
   exact hX1 _ H _ _ ⟨n37 + 1, p78, c79, iM, ⟨rfl, rfl, rfl, rfl, rfl, trivial⟩, hO, C6, bk, hB⟩
  replace H := ifn h45 H
  refine GoR.op ((fun w => opB (op_neq rfl rfl w) (ndF h45)) _) rfl rfl ?_
  refine GoR.op ((op_move rfl) _) rfl rfl ?_
  refine GoR.pass rfl rfl ?_
  refine GoR.pass rfl rfl ?_
  refine GoR.pass rfl rfl ?_
  refine GoR.op ((op_pickT rfl rfl rfl) _) rfl rfl ?_
  refine GoR.nil ?_
  refine Go1.condT rfl rfl ?_
  refine Go1.seq ?_
  refine Go1.cut [] trivial ?_
  intro σ _
  refine Go1.region ?_
  refine GoR.op ((op_assign rfl) _) rfl rfl ?_
  refine GoR.op ((op_assign rfl) _) rfl rfl ?_
  refine GoR.nil ?_
  refine Go1.ret2 Try.func49 rfl ?_
  exact Or.inl ⟨((4 : Int)), rfl, hB.same, H⟩
 replace H := ifn h38 H
 refine GoR.op ((fun w => opB (op_lss rfl rfl w) (decide_eq_false h38)) _) rfl rfl ?_
 refine GoR.nil ?_
 refine Go1.seq ?_
 refine Go1.condF rfl rfl ?_
 refine Go1.exit rfl ?_
 refine Go1.seq ?_
 refine Go1.region ?_
 refine GoR.op ((op_assign rfl) _) rfl rfl ?_
 refine GoR.nil ?_
 refine Go1.seq ?_
 refine Go1.seq ?_
 refine Go1.region ?_
 refine GoR.op ((op_move rfl) _) rfl rfl ?_
 refine GoR.nil ?_
 cases a1
 ·replace H := ifn Bool.false_ne_true H
  refine Go1.condF rfl rfl ?_
  refine Go1.skip ?_
  refine Go1.seq ?_
  refine Go1.seq ?_
  refine Go1.region ?_
  refine GoR.op ((op_move rfl) _) rfl rfl ?_
  refine GoR.op ((op_nilCheck rfl) _) rfl rfl ?_
  refine GoR.op ((op_fieldAddr Try.underlying72 rfl ti29 rfl (by decide)) _) rfl rfl ?_
  refine GoR.op ((op_fieldAddr Try.underlying29 rfl ti22 rfl (by decide)) _) rfl rfl ?_
  refine GoR.op ((oblk (i := 2) 1 hO rfl rfl Try.underlying22 rfl rfl) _ (Same.refl _)) rfl rfl ?_
  refine GoR.op ((op_lenN Try.underlying22 rfl (aj.neq hO 0 rfl)) _) rfl rfl ?_
  refine GoR.op ((op_move rfl) _) rfl rfl ?_
  refine GoR.nil ?_
  refine Go1.block ?_
  have AH := Stp.nil (e := 26) (r := 1) hO
  replace aj := aj.ch AH.ch
  replace hO := AH.own
  replace bk := bk.ch AH.ch
  replace hB := hB.trans AH.fr
  have dz := Els.nil (Rp.sl (Rp.int .i64)) (bl (.row 26 1 none 0 0 [] :: [.row 26 1 p35 n37 c36 gt, .blk B10 (.cells #[.int .i64 ((ix a0 (0 : Int)).length : Int), .bool false, .slice p35 n37 c36, .slice none 0 0, .slice none 0 0, .slice none 0 0, .slice none 0 0, .slice none 0 0, .int .i64 (0 : Int), .map (some B4), .slice none 0 0, .slice none 0 0, .slice none 0 0] 72 (0, 0)), .any (mapE (fun a : List UInt8 => Value.string (gstr a)) (fun a : Int => Value.int .i64 a) B4 (([] : List (Str × Int))))]) ++ A) w30
  have oo := Stp.nil (e := 3) (r := 1) hO
  replace dz := dz.ch oo.ch
  replace aj := aj.ch oo.ch
  replace hO := oo.own
  replace bk := bk.ch oo.ch
  replace hB := hB.trans oo.fr
  have eA := Els.nil (Rp.int .i64) (bl (.row 3 1 none 0 0 [] :: [.row 26 1 none 0 0 [], .row 26 1 p35 n37 c36 gt, .blk B10 (.cells #[.int .i64 ((ix a0 (0 : Int)).length : Int), .bool false, .slice p35 n37 c36, .slice none 0 0, .slice none 0 0, .slice none 0 0, .slice none 0 0, .slice none 0 0, .int .i64 (0 : Int), .map (some B4), .slice none 0 0, .slice none 0 0, .slice none 0 0] 72 (0, 0)), .any (mapE (fun a : List UInt8 => Value.string (gstr a)) (fun a : Int => Value.int .i64 a) B4 (([] : List (Str × Int))))]) ++ A) w30
  have gz := Stp.nil (e := 3) (r := 1) hO
  replace eA := eA.ch gz.ch
  replace dz := dz.ch gz.ch
  replace aj := aj.ch gz.ch
  replace hO := gz.own
  replace bk := bk.ch gz.ch
  replace hB := hB.trans gz.fr
  have xG := Els.nil (Rp.int .i64) (bl (.row 3 1 none 0 0 [] :: [.row 3 1 none 0 0 [], .row 26 1 none 0 0 [], .row 26 1 p35 n37 c36 gt, .blk B10 (.cells #[.int .i64 ((ix a0 (0 : Int)).length : Int), .bool false, .slice p35 n37 c36, .slice none 0 0, .slice none 0 0, .slice none 0 0, .slice none 0 0, .slice none 0 0, .int .i64 (0 : Int), .map (some B4), .slice none 0 0, .slice none 0 0, .slice none 0 0] 72 (0, 0)), .any (mapE (fun a : List UInt8 => Value.string (gstr a)) (fun a : Int => Value.int .i64 a) B4 (([] : List (Str × Int))))]) ++ A) w30
  have xH := Stp.nil (e := 39) (r := 2) hO
  replace xG := xG.ch xH.ch
  replace eA := eA.ch xH.ch
  replace dz := dz.ch xH.ch
  replace aj := aj.ch xH.ch
  replace hO := xH.own
  replace bk := bk.ch xH.ch
  replace hB := hB.trans xH.fr
  have iN := Els.nil (rpRule) (bl (.row 39 2 none 0 0 [] :: [.row 3 1 none 0 0 [], .row 3 1 none 0 0 [], .row 26 1 none 0 0 [], .row 26 1 p35 n37 c36 gt, .blk B10 (.cells #[.int .i64 ((ix a0 (0 : Int)).length : Int), .bool false, .slice p35 n37 c36, .slice none 0 0, .slice none 0 0, .slice none 0 0, .slice none 0 0, .slice none 0 0, .int .i64 (0 : Int), .map (some B4), .slice none 0 0, .slice none 0 0, .slice none 0 0] 72 (0, 0)), .any (mapE (fun a : List UInt8 => Value.string (gstr a)) (fun a : Int => Value.int .i64 a) B4 (([] : List (Str × Int))))]) ++ A) w30
  have lF := Stp.nil (e := 9) (r := 1) hO
  replace iN := iN.ch lF.ch
  replace xG := xG.ch lF.ch
  replace eA := eA.ch lF.ch
  replace dz := dz.ch lF.ch
  replace aj := aj.ch lF.ch
  replace hO := lF.own
  replace bk := bk.ch lF.ch
  replace hB := hB.trans lF.fr
  have zJ := Els.nil (Rp.str) (bl (.row 9 1 none 0 0 [] :: [.row 39 2 none 0 0 [], .row 3 1 none 0 0 [], .row 3 1 none 0 0 [], .row 26 1 none 0 0 [], .row 26 1 p35 n37 c36 gt, .blk B10 (.cells #[.int .i64 ((ix a0 (0 : Int)).length : Int), .bool false, .slice p35 n37 c36, .slice none 0 0, .slice none 0 0, .slice none 0 0, .slice none 0 0, .slice none 0 0, .int .i64 (0 : Int), .map (some B4), .slice none 0 0, .slice none 0 0, .slice none 0 0] 72 (0, 0)), .any (mapE (fun a : List UInt8 => Value.string (gstr a)) (fun a : Int => Value.int .i64 a) B4 (([] : List (Str × Int))))]) ++ A) w30
  have kn := Stp.nil (e := 3) (r := 1) hO
  replace zJ := zJ.ch kn.ch
  replace iN := iN.ch kn.ch
  replace xG := xG.ch kn.ch
  replace eA := eA.ch kn.ch
  replace dz := dz.ch kn.ch
  replace aj := aj.ch kn.ch
  replace hO := kn.own
  replace bk := bk.ch kn.ch
  replace hB := hB.trans kn.fr
  have gA := Els.nil (Rp.int .i64) (bl (.row 3 1 none 0 0 [] :: [.row 9 1 none 0 0 [], .row 39 2 none 0 0 [], .row 3 1 none 0 0 [], .row 3 1 none 0 0 [], .row 26 1 none 0 0 [], .row 26 1 p35 n37 c36 gt, .blk B10 (.cells #[.int .i64 ((ix a0 (0 : Int)).length : Int), .bool false, .slice p35 n37 c36, .slice none 0 0, .slice none 0 0, .slice none 0 0, .slice none 0 0, .slice none 0 0, .int .i64 (0 : Int), .map (some B4), .slice none 0 0, .slice none 0 0, .slice none 0 0] 72 (0, 0)), .any (mapE (fun a : List UInt8 => Value.string (gstr a)) (fun a : Int => Value.int .i64 a) B4 (([] : List (Str × Int))))]) ++ A) w30
  have uk := Stp.nil (e := 3) (r := 1) hO
  replace gA := gA.ch uk.ch
  replace zJ := zJ.ch uk.ch
  replace iN := iN.ch uk.ch
  replace xG := xG.ch uk.ch
  replace eA := eA.ch uk.ch
  replace dz := dz.ch uk.ch
  replace aj := aj.ch uk.ch
  replace hO := uk.own
  replace bk := bk.ch uk.ch
  replace hB := hB.trans uk.fr
  have GD := Els.nil (Rp.int .i64) (bl (.row 3 1 none 0 0 [] :: [.row 3 1 none 0 0 [], .row 9 1 none 0 0 [], .row 39 2 none 0 0 [], .row 3 1 none 0 0 [], .row 3 1 none 0 0 [], .row 26 1 none 0 0 [], .row 26 1 p35 n37 c36 gt, .blk B10 (.cells #[.int .i64 ((ix a0 (0 : Int)).length : Int), .bool false, .slice p35 n37 c36, .slice none 0 0, .slice none 0 0, .slice none 0 0, .slice none 0 0, .slice none 0 0, .int .i64 (0 : Int), .map (some B4), .slice none 0 0, .slice none 0 0, .slice none 0 0] 72 (0, 0)), .any (mapE (fun a : List UInt8 => Value.string (gstr a)) (fun a : Int => Value.int .i64 a) B4 (([] : List (Str × Int))))]) ++ A) w30
  refine Go1.loopW (S := Nat × List Int × List Int × List Str × List Rule × List Int × List Int × List (List Int) × (List (Str × Int))) (fun s σ w => match s with | (k2_110, d_111, d_117, d_123, d_129, d_135, d_141, d_147, m2_153) => ∃ (jO : Nat), ∃ (f6 : Option Addr), ∃ (f7 : Nat), ∃ (tv : List Value), ∃ (jU : Nat), ∃ (kC : Option Addr), ∃ (ll : Nat), ∃ (ry : List Value), ∃ (jV : Nat), ∃ (lQ : Option Addr), ∃ (lR : Nat), ∃ (rz : List Value), ∃ (jW : Nat), ∃ (lm : Option Addr), ∃ (lp : Nat), ∃ (rB : List Value), ∃ (jX : Nat), ∃ (lW : Option Addr), ∃ (lX : Nat), ∃ (rC : List Value), ∃ (jY : Nat), ∃ (mC : Option Addr), ∃ (mD : Nat), ∃ (rD : List Value), ∃ (jZ : Nat), ∃ (na : Option Addr), ∃ (nb : Nat), ∃ (rE : List Value), agrees σ [(6, .pointer (some ⟨B10, 0, none⟩)), (9, .int .i64 (-1 : Int)), (85, .slice p35 n37 c36), (86, .int .i64 (d_32.length : Int)), (87, .int .i64 (k2_110 : Int))] ∧ Owns w0.heap.size w [.row 3 1 f6 jO f7 tv, .row 3 1 kC jU ll ry, .row 9 1 lQ jV lR rz, .row 39 2 lm jW lp rB, .row 3 1 lW jX lX rC, .row 3 1 mC jY mD rD, .row 26 1 na jZ nb rE, .row 26 1 p35 n37 c36 gt, .blk B10 (.cells #[.int .i64 ((ix a0 (0 : Int)).length : Int), .bool false, .slice p35 n37 c36, .slice na jZ nb, .slice mC jY mD, .slice lW jX lX, .slice none 0 0, .slice lm jW lp, .int .i64 (0 : Int), .map (some B4), .slice lQ jV lR, .slice kC jU ll, .slice f6 jO f7] 72 (0, 0)), .any (mapE (fun a : List UInt8 => Value.string (gstr a)) (fun a : Int => Value.int .i64 a) B4 m2_153)] A ∧ Els (Rp.int .i64) (bl [.row 3 1 f6 jO f7 tv, .row 3 1 kC jU ll ry, .row 9 1 lQ jV lR rz, .row 39 2 lm jW lp rB, .row 3 1 lW jX lX rC, .row 3 1 mC jY mD rD, .row 26 1 na jZ nb rE, .row 26 1 p35 n37 c36 gt, .blk B10 (.cells #[.int .i64 ((ix a0 (0 : Int)).length : Int), .bool false, .slice p35 n37 c36, .slice na jZ nb, .slice mC jY mD, .slice lW jX lX, .slice none 0 0, .slice lm jW lp, .int .i64 (0 : Int), .map (some B4), .slice lQ jV lR, .slice kC jU ll, .slice f6 jO f7] 72 (0, 0)), .any (mapE (fun a : List UInt8 => Value.string (gstr a)) (fun a : Int => Value.int .i64 a) B4 m2_153)] ++ A) w tv d_111 ∧ Els (Rp.int .i64) (bl [.row 3 1 f6 jO f7 tv, .row 3 1 kC jU ll ry, .row 9 1 lQ jV lR rz, .row 39 2 lm jW lp rB, .row 3 1 lW jX lX rC, .row 3 1 mC jY mD rD, .row 26 1 na jZ nb rE, .row 26 1 p35 n37 c36 gt, .blk B10 (.cells #[.int .i64 ((ix a0 (0 : Int)).length : Int), .bool false, .slice p35 n37 c36, .slice na jZ nb, .slice mC jY mD, .slice lW jX lX, .slice none 0 0, .slice lm jW lp, .int .i64 (0 : Int), .map (some B4), .slice lQ jV lR, .slice kC jU ll, .slice f6 jO f7] 72 (0, 0)), .any (mapE (fun a : List UInt8 => Value.string (gstr a)) (fun a : Int => Value.int .i64 a) B4 m2_153)] ++ A) w ry d_117 ∧ Els (Rp.str) (bl [.row 3 1 f6 jO f7 tv, .row 3 1 kC jU ll ry, .row 9 1 lQ jV lR rz, .row 39 2 lm jW lp rB, .row 3 1 lW jX lX rC, .row 3 1 mC jY mD rD, .row 26 1 na jZ nb rE, .row 26 1 p35 n37 c36 gt, .blk B10 (.cells #[.int .i64 ((ix a0 (0 : Int)).length : Int), .bool false, .slice p35 n37 c36, .slice na jZ nb, .slice mC jY mD, .slice lW jX lX, .slice none 0 0, .slice lm jW lp, .int .i64 (0 : Int), .map (some B4), .slice lQ jV lR, .slice kC jU ll, .slice f6 jO f7] 72 (0, 0)), .any (mapE (fun a : List UInt8 => Value.string (gstr a)) (fun a : Int => Value.int .i64 a) B4 m2_153)] ++ A) w rz d_123 ∧ Els (rpRule) (bl [.row 3 1 f6 jO f7 tv, .row 3 1 kC jU ll ry, .row 9 1 lQ jV lR rz, .row 39 2 lm jW lp rB, .row 3 1 lW jX lX rC, .row 3 1 mC jY mD rD, .row 26 1 na jZ nb rE, .row 26 1 p35 n37 c36 gt, .blk B10 (.cells #[.int .i64 ((ix a0 (0 : Int)).length : Int), .bool false, .slice p35 n37 c36, .slice na jZ nb, .slice mC jY mD, .slice lW jX lX, .slice none 0 0, .slice lm jW lp, .int .i64 (0 : Int), .map (some B4), .slice lQ jV lR, .slice kC jU ll, .slice f6 jO f7] 72 (0, 0)), .any (mapE (fun a : List UInt8 => Value.string (gstr a)) (fun a : Int => Value.int .i64 a) B4 m2_153)] ++ A) w rB d_129 ∧ Els (Rp.int .i64) (bl [.row 3 1 f6 jO f7 tv, .row 3 1 kC jU ll ry, .row 9 1 lQ jV lR rz, .row 39 2 lm jW lp rB, .row 3 1 lW jX lX rC, .row 3 1 mC jY mD rD, .row 26 1 na jZ nb rE, .row 26 1 p35 n37 c36 gt, .blk B10 (.cells #[.int .i64 ((ix a0 (0 : Int)).length : Int), .bool false, .slice p35 n37 c36, .slice na jZ nb, .slice mC jY mD, .slice lW jX lX, .slice none 0 0, .slice lm jW lp, .int .i64 (0 : Int), .map (some B4), .slice lQ jV lR, .slice kC jU ll, .slice f6 jO f7] 72 (0, 0)), .any (mapE (fun a : List UInt8 => Value.string (gstr a)) (fun a : Int => Value.int .i64 a) B4 m2_153)] ++ A) w rC d_135 ∧ Els (Rp.int .i64) (bl [.row 3 1 f6 jO f7 tv, .row 3 1 kC jU ll ry, .row 9 1 lQ jV lR rz, .row 39 2 lm jW lp rB, .row 3 1 lW jX lX rC, .row 3 1 mC jY mD rD, .row 26 1 na jZ nb rE, .row 26 1 p35 n37 c36 gt, .blk B10 (.cells #[.int .i64 ((ix a0 (0 : Int)).length : Int), .bool false, .slice p35 n37 c36, .slice na jZ nb, .slice mC jY mD, .slice lW jX lX, .slice none 0 0, .slice lm jW lp, .int .i64 (0 : Int), .map (some B4), .slice lQ jV lR, .slice kC jU ll, .slice f6 jO f7] 72 (0, 0)), .any (mapE (fun a : List UInt8 => Value.string (gstr a)) (fun a : Int => Value.int .i64 a) B4 m2_153)] ++ A) w rD d_141 ∧ Els (Rp.sl (Rp.int .i64)) (bl [.row 3 1 f6 jO f7 tv, .row 3 1 kC jU ll ry, .row 9 1 lQ jV lR rz, .row 39 2 lm jW lp rB, .row 3 1 lW jX lX rC, .row 3 1 mC jY mD rD, .row 26 1 na jZ nb rE, .row 26 1 p35 n37 c36 gt, .blk B10 (.cells #[.int .i64 ((ix a0 (0 : Int)).length : Int), .bool false, .slice p35 n37 c36, .slice na jZ nb, .slice mC jY mD, .slice lW jX lX, .slice none 0 0, .slice lm jW lp, .int .i64 (0 : Int), .map (some B4), .slice lQ jV lR, .slice kC jU ll, .slice f6 jO f7] 72 (0, 0)), .any (mapE (fun a : List UInt8 => Value.string (gstr a)) (fun a : Int => Value.int .i64 a) B4 m2_153)] ++ A) w rE d_147 ∧ Els (Rp.sl (Rp.int .i64)) (bl [.row 3 1 f6 jO f7 tv, .row 3 1 kC jU ll ry, .row 9 1 lQ jV lR rz, .row 39 2 lm jW lp rB, .row 3 1 lW jX lX rC, .row 3 1 mC jY mD rD, .row 26 1 na jZ nb rE, .row 26 1 p35 n37 c36 gt, .blk B10 (.cells #[.int .i64 ((ix a0 (0 : Int)).length : Int), .bool false, .slice p35 n37 c36, .slice na jZ nb, .slice mC jY mD, .slice lW jX lX, .slice none 0 0, .slice lm jW lp, .int .i64 (0 : Int), .map (some B4), .slice lQ jV lR, .slice kC jU ll, .slice f6 jO f7] 72 (0, 0)), .any (mapE (fun a : List UInt8 => Value.string (gstr a)) (fun a : Int => Value.int .i64 a) B4 m2_153)] ++ A) w gt d_32 ∧ Fr (bl []) w0 (bl [.row 3 1 f6 jO f7 tv, .row 3 1 kC jU ll ry, .row 9 1 lQ jV lR rz, .row 39 2 lm jW lp rB, .row 3 1 lW jX lX rC, .row 3 1 mC jY mD rD, .row 26 1 na jZ nb rE, .row 26 1 p35 n37 c36 gt, .blk B10 (.cells #[.int .i64 ((ix a0 (0 : Int)).length : Int), .bool false, .slice p35 n37 c36, .slice na jZ nb, .slice mC jY mD, .slice lW jX lX, .slice none 0 0, .slice lm jW lp, .int .i64 (0 : Int), .map (some B4), .slice lQ jV lR, .slice kC jU ll, .slice f6 jO f7] 72 (0, 0)), .any (mapE (fun a : List UInt8 => Value.string (gstr a)) (fun a : Int => Value.int .i64 a) B4 m2_153)]) w) H ⟨0, none, 0, [], 0, none, 0, [], 0, none, 0, [], 0, none, 0, [], 0, none, 0, [], 0, none, 0, [], 0, none, 0, [], ⟨rfl, rfl, rfl, rfl, rfl, trivial⟩, hO, GD, gA, zJ, iN, xG, eA, dz, aj, hB⟩ ?_
  intro X2
  refine prE fun k2_110 => prE fun d_111 => prE fun d_117 => prE fun d_123 => prE fun d_129 => prE fun d_135 => prE fun d_141 => prE fun d_147 => fun m2_153 => ?_
  intro H hX2 σ z7
  refine exE fun jO => exE fun f6 => exE fun f7 => exE fun tv => exE fun jU => exE fun kC => exE fun ll => exE fun ry => exE fun jV => exE fun lQ => exE fun lR => exE fun rz => exE fun jW => exE fun lm => exE fun lp => exE fun rB => exE fun jX => exE fun lW => exE fun lX => exE fun rC => exE fun jY => exE fun mC => exE fun mD => exE fun rD => exE fun jZ => exE fun na => exE fun nb => exE fun rE => andE fun hag => andE fun hO => andE fun bD => andE fun bH => andE fun bX => andE fun bI => andE fun cx => andE fun cV => andE fun dA => andE fun aj => fun hB => ?_
  dsimp only at H
  refine Go1.keep [(6, .pointer (some ⟨B10, 0, none⟩)), (9, .int .i64 (-1 : Int)), (85, .slice p35 n37 c36), (86, .int .i64 (d_32.length : Int)), (87, .int .i64 (k2_110 : Int))] hag ?_
  refine Go1.seq ?_
  refine Go1.region ?_
  by_cases z8 : (k2_110 : Int) < (d_32.length : Int)
  ·replace H := ifp z8 H
   refine GoR.op ((fun w => opB (op_lss rfl rfl w) (decide_eq_true z8)) _) rfl rfl ?_
   refine GoR.nil ?_
   refine Go1.seq ?_
   refine Go1.condT rfl rfl ?_
   refine Go1.skip ?_
   refine Go1.seq ?_
   refine Go1.block ?_
   refine Go1.seq ?_
   refine Go1.region ?_
   refine GoR.op ((op_move rfl) _) rfl rfl ?_
   obtain ⟨vC, H⟩ := H
   obtain ⟨xI, H⟩ := H
   refine GoR.op ((op_index Try.underlying22 ti26 rfl rfl vC (ltn (aj.neq hO 7 rfl) xI) (aj.psome hO 7 rfl vC xI)) _) rfl rfl ?_
   have hobt := oldSl 7 hO rfl aj vC xI
   obtain ⟨En, Eo, cr, GE⟩ := hobt
   refine GoR.op ((GE Try.underlying26 rfl rfl) _ (Same.refl _)) rfl rfl ?_
   refine GoR.op ((op_assign rfl) _) rfl rfl ?_
   refine GoR.op ((op_assign rfl) _) rfl rfl ?_
   refine GoR.nil ?_
   refine Go1.seq ?_
   refine Go1.region ?_
   refine GoR.op ((op_move rfl) _) rfl rfl ?_
   obtain ⟨KA, H⟩ := H
   refine GoR.op ((op_add rfl rfl (wrap_i64 KA)) _) rfl rfl ?_
   refine GoR.op ((op_conv Try.underlying3 Try.underlying21 rfl rfl) _) rfl rfl ?_
   obtain ⟨AY, H⟩ := H
   obtain ⟨AZ, H⟩ := H
   refine GoR.op ((op_convRS Try.underlying21 Try.underlying9 rfl AY AZ) _) rfl rfl ?_
   refine GoR.op ((op_assign rfl) _) rfl rfl ?_
   refine GoR.nil ?_
   refine Go1.seq ?_
   refine Go1.drawS 0 [(0, .pure), (1, .pure), (2, .pure), (3, .stable), (4, .pure), (5, .loud), (6, .stable), (7, .pure), (8, .pure), (9, .pure), (10, .pure), (11, .pure)] mixed (by kernel_rfl) ?_
   intro MZ GF
   have tO := Stp.same hO GF
   replace bD := bD.ch tO.ch
   replace bH := bH.ch tO.ch
   replace bX := bX.ch tO.ch
   replace bI := bI.ch tO.ch
   replace cx := cx.ch tO.ch
   replace cV := cV.ch tO.ch
   replace dA := dA.ch tO.ch
   replace aj := aj.ch tO.ch
   replace hO := tO.own
   replace cr := cr.ch tO.ch
   replace hB := hB.trans tO.fr
   refine GoQ.pure rfl (op_move rfl) rfl rfl ?_
   refine GoQ.pure rfl (op_nilCheck rfl) rfl rfl ?_
   refine GoQ.pure rfl (op_fieldAddr Try.underlying72 rfl ti69 rfl (by decide)) rfl rfl ?_
   refine GoQ.stable rfl (oblk (i := 9) 8 hO rfl rfl Try.underlying69 rfl rfl) rfl rfl ?_
   refine GoQ.pure rfl (op_move rfl) rfl rfl ?_
   refine GoQ.call rfl (op_call body61 rfl (walk_enumerate_text hO.lt cr H)) (fun v w hr => by obtain ⟨_, _, hs, _, _⟩ := hr; assumption) rfl rfl ?_
   rintro M0 M1 ⟨r167, rfl, GG, Mf, H⟩
   have tP := Stp.same hO GG
   replace bD := bD.ch tP.ch
   replace bH := bH.ch tP.ch
   replace bX := bX.ch tP.ch
   replace bI := bI.ch tP.ch
   replace cx := cx.ch tP.ch
   replace cV := cV.ch tP.ch
   replace dA := dA.ch tP.ch
   replace aj := aj.ch tP.ch
   replace hO := tP.own
   replace cr := cr.ch tP.ch
   replace hB := hB.trans tP.fr
   by_cases x6 : mhas m2_153 r167 = true
   ·replace H := ifp x6 H
    refine GoQ.stable rfl (olookT (a := r167) (MK.str Try.underlying9) 9 hO rfl Try.underlying69 rfl rfl x6) rfl rfl ?_
    refine GoQ.pure rfl (op_move rfl) rfl rfl ?_
    refine GoQ.pure rfl (op_extract rfl rfl) rfl rfl ?_
    refine GoQ.pure rfl (op_extract rfl rfl) rfl rfl ?_
    refine GoQ.pure rfl (op_assign rfl) rfl rfl ?_
    refine GoQ.pure rfl (op_assign rfl) rfl rfl ?_
    refine GoQ.nil ?_
    refine Go1.seq ?_
    refine Go1.seq ?_
    refine Go1.cut [(6, .pointer (some ⟨B10, 0, none⟩)), (9, .int .i64 (-1 : Int)), (10, .int .i64 (k2_110 : Int)), (11, .slice En ((ix d_32 (k2_110 : Int)).length) Eo), (12, .string (gstr (chr (IntKind.i32.wrap ((97 : Int) + (k2_110 : Int)))))), (13, .int .i64 (mgt m2_153 r167)), (14, .bool true), (85, .slice p35 n37 c36), (86, .int .i64 (d_32.length : Int)), (87, .int .i64 (k2_110 : Int))] ⟨rfl, rfl, rfl, rfl, rfl, rfl, rfl, rfl, rfl, rfl, trivial⟩ ?_
    intro σ _
    refine Go1.region ?_
    refine GoR.op ((op_move rfl) _) rfl rfl ?_
    refine GoR.nil ?_
    refine Go1.condT rfl rfl ?_
    refine Go1.drawS 5 [(0, .pure), (1, .pure), (2, .pure), (3, .pure), (4, .pure), (5, .stable), (6, .pure), (7, .pure), (8, .pure), (9, .pure), (10, .stable), (11, .pure), (12, .pure), (13, .stable), (14, .pure), (15, .loud), (16, .last), (17, .pure), (18, .pure), (19, .pure), (20, .last)] mixed (by kernel_rfl) ?_
    intro M2 GH
    have tQ := Stp.same hO GH
    replace bD := bD.ch tQ.ch
    replace bH := bH.ch tQ.ch
    replace bX := bX.ch tQ.ch
    replace bI := bI.ch tQ.ch
    replace cx := cx.ch tQ.ch
    replace cV := cV.ch tQ.ch
    replace dA := dA.ch tQ.ch
    replace aj := aj.ch tQ.ch
    replace hO := tQ.own
    replace cr := cr.ch tQ.ch
    replace hB := hB.trans tQ.fr
    refine GoQ.pure rfl (op_move rfl) rfl rfl ?_
    refine GoQ.pure rfl (op_move rfl) rfl rfl ?_
    refine GoQ.pure rfl (op_nilCheck rfl) rfl rfl ?_
    refine GoQ.pure rfl (op_fieldAddr Try.underlying72 rfl ti29 rfl (by decide)) rfl rfl ?_
    refine GoQ.pure rfl (op_fieldAddr Try.underlying29 rfl ti27 rfl (by decide)) rfl rfl ?_
    refine GoQ.stable rfl (oblk (i := 7) 8 hO rfl rfl Try.underlying27 rfl rfl) rfl rfl ?_
    refine GoQ.pure rfl (op_move rfl) rfl rfl ?_
    refine GoQ.pure rfl (op_move rfl) rfl rfl ?_
    refine GoQ.pure rfl (op_nilCheck rfl) rfl rfl ?_
    refine GoQ.pure rfl (op_fieldAddr Try.underlying72 rfl ti70 rfl (by decide)) rfl rfl ?_
    refine GoQ.stable rfl (oblk (i := 10) 8 hO rfl rfl Try.underlying70 rfl rfl) rfl rfl ?_
    refine GoQ.pure rfl (op_move rfl) rfl rfl ?_
    obtain ⟨BO, H⟩ := H
    obtain ⟨BP, H⟩ := H
    refine GoQ.pure rfl (op_index Try.underlying70 ti9 rfl rfl BO (ltn (bX.neq hO 2 rfl) BP) (bX.psome hO 2 rfl BO BP)) rfl rfl ?_
    refine GoQ.stable rfl (oldStr 2 hO rfl bX BO BP Try.underlying9 rfl rfl) rfl rfl ?_
    have hle179 := Els.str_le bX BO BP
    refine GoQ.pure rfl (op_build Try.underlying39 ti39 (pl := [(0, 1), (1, 1)]) (vs := [(0, .string (gstr (chr (IntKind.i32.wrap ((97 : Int) + (k2_110 : Int)))))), (1, .string (gstr (ix d_123 (mgt m2_153 r167))))]) (cs := #[.string (gstr (chr (IntKind.i32.wrap ((97 : Int) + (k2_110 : Int))))), .string (gstr (ix d_123 (mgt m2_153 r167)))]) (by kernel_rfl) rfl (by kernel_rfl)) rfl rfl ?_
    have hobt := obuildN (r := rpRule) (n := 1) (parts := [(0, .agg #[.string (gstr (chr (IntKind.i32.wrap ((97 : Int) + (k2_110 : Int))))), .string (gstr (ix d_123 (mgt m2_153 r167)))])]) (vs := [.string (gstr (chr (IntKind.i32.wrap ((97 : Int) + (k2_110 : Int))))), .string (gstr (ix d_123 (mgt m2_153 r167)))]) (xs := [(⟨chr (IntKind.i32.wrap ((97 : Int) + (k2_110 : Int))), ix d_123 (mgt m2_153 r167)⟩ : Rule)]) Try.underlying27 ti39 hO (by decide) (by decide) (by kernel_rfl) (Els.flat1 (⟨chr (IntKind.i32.wrap ((97 : Int) + (k2_110 : Int))), ix d_123 (mgt m2_153 r167)⟩ : Rule) ⟨(chr_le _), hle179⟩) rfl
    obtain ⟨M3, M4, lG, GJ, GK, Ep⟩ := hobt
    refine GoQ.loud rfl (Ep rfl) GK rfl rfl ?_
    replace bD := bD.ch lG.ch
    replace bH := bH.ch lG.ch
    replace bX := bX.ch lG.ch
    replace bI := bI.ch lG.ch
    replace cx := cx.ch lG.ch
    replace cV := cV.ch lG.ch
    replace dA := dA.ch lG.ch
    replace aj := aj.ch lG.ch
    replace hO := lG.own
    replace cr := cr.ch lG.ch
    replace hB := hB.trans lG.fr
    have hobt := freeze 0 hO rfl GJ
    obtain ⟨hO1, vb, tw, GL⟩ := hobt
    dsimp only [eS, eZ] at hO1 vb tw
    replace cr := cr.ch vb
    replace bD := bD.ch vb
    replace bH := bH.ch vb
    replace bX := bX.ch vb
    replace bI := bI.ch vb
    replace cx := cx.ch vb
    replace cV := cV.ch vb
    replace dA := dA.ch vb
    replace aj := aj.ch vb
    replace hB := hB.trans (Owns.dropFr _ _ 0)
    dsimp only [eS, eZ] at hB
    replace hO := hO1; clear hO1
    obtain ⟨KB, H⟩ := H
    have hobt := oapp Try.underlying27 ti39 rfl 3 hO rfl bI tw GL KB (by decide)
    obtain ⟨M5, BQ, BR, GM, sa, uq, Er⟩ := hobt
    dsimp only [sS, sZ] at sa uq
    refine GoQ.last rfl (Er (by exact rfl) (by exact rfl)) rfl rfl ?_
    replace bD := bD.ch sa.ch
    replace bH := bH.ch sa.ch
    replace bX := bX.ch sa.ch
    replace cx := cx.ch sa.ch
    replace cV := cV.ch sa.ch
    replace dA := dA.ch sa.ch
    replace aj := aj.ch sa.ch
    replace hO := sa.own
    replace cr := cr.ch sa.ch
    replace tw := tw.ch sa.ch
    replace hB := hB.trans sa.fr
    refine GoQ.pure rfl (op_nilCheck rfl) rfl rfl ?_
    refine GoQ.pure rfl (op_fieldAddr Try.underlying72 rfl ti29 rfl (by decide)) rfl rfl ?_
    refine GoQ.pure rfl (op_fieldAddr Try.underlying29 rfl ti27 rfl (by decide)) rfl rfl ?_
    have hobt := oblkSt2 (v := .slice BQ (jW + 1) BR) (i := 7) (cs' := #[.int .i64 ((ix a0 (0 : Int)).length : Int), .bool false, .slice p35 n37 c36, .slice na jZ nb, .slice mC jY mD, .slice lW jX lX, .slice none 0 0, .slice BQ (jW + 1) BR, .int .i64 (0 : Int), .map (some B4), .slice lQ jV lR, .slice kC jU ll, .slice f6 jO f7]) 8 hO rfl rfl rfl rfl
    obtain ⟨M6, qN, Et⟩ := hobt
    dsimp only [sS, sZ] at qN
    refine GoQ.last rfl (Et Try.underlying27 rfl ti27 (by exact rfl) (by exact rfl)) rfl rfl ?_
    replace bD := bD.ch qN.ch
    replace bH := bH.ch qN.ch
    replace bX := bX.ch qN.ch
    replace uq := uq.ch qN.ch
    replace cx := cx.ch qN.ch
    replace cV := cV.ch qN.ch
    replace dA := dA.ch qN.ch
    replace aj := aj.ch qN.ch
    replace hO := qN.own
    replace cr := cr.ch qN.ch
    replace tw := tw.ch qN.ch
    replace hB := hB.trans qN.fr
    refine GoQ.nil ?_
    refine Go1.cut [(6, .pointer (some ⟨B10, 0, none⟩)), (9, .int .i64 (-1 : Int)), (13, .int .i64 (mgt m2_153 r167)), (85, .slice p35 n37 c36), (86, .int .i64 (d_32.length : Int)), (87, .int .i64 (k2_110 : Int))] ⟨rfl, rfl, rfl, rfl, rfl, rfl, trivial⟩ ?_
    intro σ _
    refine Go1.region ?_
    refine GoR.op ((op_move rfl) _) rfl rfl ?_
    refine GoR.op ((op_move rfl) _) rfl rfl ?_
    refine GoR.op ((op_nilCheck rfl) _) rfl rfl ?_
    refine GoR.op ((op_fieldAddr Try.underlying72 rfl ti26 rfl (by decide)) _) rfl rfl ?_
    refine GoR.op ((oblk (i := 12) 8 hO rfl rfl Try.underlying26 rfl rfl) _ (Same.refl _)) rfl rfl ?_
    refine GoR.op ((op_move rfl) _) rfl rfl ?_
    have hobt := obuild (r := Rp.int .i64) (n := 1) (parts := [(0, .int .i64 (mgt m2_153 r167))]) (vs := [.int .i64 (mgt m2_153 r167)]) (xs := [(mgt m2_153 r167)]) rfl Try.underlying26 ti3 hO (by decide) (by kernel_rfl) (Els.cons rfl rfl (Els.nil _ _ _) (by simp [mx])) rfl
    obtain ⟨KC, M7, sb, GN, Mr, Eu⟩ := hobt
    refine GoR.op (Eu rfl) rfl rfl ?_
    replace bD := bD.ch sb.ch
    replace bH := bH.ch sb.ch
    replace bX := bX.ch sb.ch
    replace uq := uq.ch sb.ch
    replace cx := cx.ch sb.ch
    replace cV := cV.ch sb.ch
    replace dA := dA.ch sb.ch
    replace aj := aj.ch sb.ch
    replace hO := sb.own
    replace cr := cr.ch sb.ch
    replace tw := tw.ch sb.ch
    replace hB := hB.trans sb.fr
    have hobt := freeze 0 hO rfl GN
    obtain ⟨hO1, uK, yu, GO⟩ := hobt
    dsimp only [eS, eZ] at hO1 uK yu
    replace cr := cr.ch uK
    replace tw := tw.ch uK
    replace bD := bD.ch uK
    replace bH := bH.ch uK
    replace bX := bX.ch uK
    replace uq := uq.ch uK
    replace cx := cx.ch uK
    replace cV := cV.ch uK
    replace dA := dA.ch uK
    replace aj := aj.ch uK
    replace hB := hB.trans (Owns.dropFr _ _ 0)
    dsimp only [eS, eZ] at hB
    replace hO := hO1; clear hO1
    obtain ⟨A0, H⟩ := H
    have hobt := oapp Try.underlying26 ti3 rfl 0 hO rfl bD yu GO A0 (by decide)
    obtain ⟨KD, C7, C8, GP, qO, AI, Ev⟩ := hobt
    dsimp only [sS, sZ] at qO AI
    refine GoR.op (Ev (by exact rfl) (by exact rfl)) rfl rfl ?_
    replace bH := bH.ch qO.ch
    replace bX := bX.ch qO.ch
    replace uq := uq.ch qO.ch
    replace cx := cx.ch qO.ch
    replace cV := cV.ch qO.ch
    replace dA := dA.ch qO.ch
    replace aj := aj.ch qO.ch
    replace hO := qO.own
    replace cr := cr.ch qO.ch
    replace tw := tw.ch qO.ch
    replace yu := yu.ch qO.ch
    replace hB := hB.trans qO.fr
    refine GoR.op ((op_nilCheck rfl) _) rfl rfl ?_
    refine GoR.op ((op_fieldAddr Try.underlying72 rfl ti26 rfl (by decide)) _) rfl rfl ?_
    have hobt := oblkSt2 (v := .slice C7 (jO + 1) C8) (i := 12) (cs' := #[.int .i64 ((ix a0 (0 : Int)).length : Int), .bool false, .slice p35 n37 c36, .slice na jZ nb, .slice mC jY mD, .slice lW jX lX, .slice none 0 0, .slice BQ (jW + 1) BR, .int .i64 (0 : Int), .map (some B4), .slice lQ jV lR, .slice kC jU ll, .slice C7 (jO + 1) C8]) 8 hO rfl rfl rfl rfl
    obtain ⟨M8, gm, Ew⟩ := hobt
    dsimp only [sS, sZ] at gm
    refine GoR.op (Ew Try.underlying26 rfl ti26 (by exact rfl) (by exact rfl)) rfl rfl ?_
    replace AI := AI.ch gm.ch
    replace bH := bH.ch gm.ch
    replace bX := bX.ch gm.ch
    replace uq := uq.ch gm.ch
    replace cx := cx.ch gm.ch
    replace cV := cV.ch gm.ch
    replace dA := dA.ch gm.ch
    replace aj := aj.ch gm.ch
    replace hO := gm.own
    replace cr := cr.ch gm.ch
    replace tw := tw.ch gm.ch
    replace yu := yu.ch gm.ch
    replace hB := hB.trans gm.fr
    refine GoR.nil ?_
    refine Go1.inBlock ?_
    refine Go1.region ?_
    refine GoR.op ((op_add rfl rfl (wrap_i64 (natbd z8 aj.bd))) _) rfl rfl ?_
    refine GoR.op ((op_move rfl) _) rfl rfl ?_
    refine GoR.nil ?_
    exact hX2 _ H _ _ ⟨jO + 1, C7, C8, GP, jU, kC, ll, ry, jV, lQ, lR, rz, jW + 1, BQ, BR, GM, jX, lW, lX, rC, jY, mC, mD, rD, jZ, na, nb, rE, ⟨rfl, rfl, rfl, rfl, rfl, trivial⟩, hO, AI, bH, bX, uq, cx, cV, dA, aj, hB⟩
   replace H := ifn x6 H
   refine GoQ.stable rfl (olookF (a := r167) (MK.str Try.underlying9) 9 hO rfl Try.underlying69 ti3 rfl rfl x6) rfl rfl ?_
   refine GoQ.pure rfl (op_move rfl) rfl rfl ?_
   refine GoQ.pure rfl (op_extract rfl rfl) rfl rfl ?_
   refine GoQ.pure rfl (op_extract rfl rfl) rfl rfl ?_
   refine GoQ.pure rfl (op_assign rfl) rfl rfl ?_
   refine GoQ.pure rfl (op_assign rfl) rfl rfl ?_
   refine GoQ.nil ?_
   refine Go1.seq ?_
   refine Go1.seq ?_
   refine Go1.region ?_
   refine GoR.op ((op_move rfl) _) rfl rfl ?_
   refine GoR.nil ?_
   refine Go1.condF rfl rfl ?_
   refine Go1.cut [(6, .pointer (some ⟨B10, 0, none⟩)), (9, .int .i64 (-1 : Int)), (10, .int .i64 (k2_110 : Int)), (11, .slice En ((ix d_32 (k2_110 : Int)).length) Eo), (12, .string (gstr (chr (IntKind.i32.wrap ((97 : Int) + (k2_110 : Int)))))), (85, .slice p35 n37 c36), (86, .int .i64 (d_32.length : Int)), (87, .int .i64 (k2_110 : Int))] ⟨rfl, rfl, rfl, rfl, rfl, rfl, rfl, rfl, trivial⟩ ?_
   intro σ _
   refine Go1.region ?_
   refine GoR.op ((op_move rfl) _) rfl rfl ?_
   refine GoR.op ((op_move rfl) _) rfl rfl ?_
   refine GoR.call (op_call body64 rfl (walk_slices_Clone_int hO.lt cr H)) rfl rfl ?_
   rintro M9 Na ⟨r224, x7, vr, vt, Mg, rfl, GQ, hN228, vc, H⟩
   have sc := Stp.more hO GQ hN228
   dsimp only [List.cons_append, List.nil_append] at sc
   replace bD := bD.ch sc.ch
   replace bH := bH.ch sc.ch
   replace bX := bX.ch sc.ch
   replace bI := bI.ch sc.ch
   replace cx := cx.ch sc.ch
   replace cV := cV.ch sc.ch
   replace dA := dA.ch sc.ch
   replace aj := aj.ch sc.ch
   replace hO := sc.own
   replace cr := cr.ch sc.ch
   replace hB := hB.trans sc.fr
   replace vc := vc.ch (Ch.assoc _ _ _ _)
   refine GoR.op ((op_move rfl) _) rfl rfl ?_
   refine GoR.op ((op_move rfl) _) rfl rfl ?_
   refine GoR.op ((op_move rfl) _) rfl rfl ?_
   refine GoR.op ((op_move rfl) _) rfl rfl ?_
   refine GoR.inl (vs := [.pointer (some ⟨B10, 0, none⟩), .slice vr x7 vt, .int .i64 (-1 : Int), .int .i64 (k2_110 : Int), .string (gstr (chr (IntKind.i32.wrap ((97 : Int) + (k2_110 : Int))))), .int .i64 (-1 : Int)]) (caps := []) rfl rfl body65 Try.func65 rfl Try.ntmps65 rfl rfl rfl ?_
   intro RhR232 hR232
   refine Go1.seq ?_
   refine Go1.region ?_
   refine GoR.op ((op_assign rfl) _) rfl rfl ?_
   refine GoR.nil ?_
   refine Go1.seq ?_
   refine Go1.region ?_
   refine GoR.op ((op_move rfl) _) rfl rfl ?_
   refine GoR.op ((op_nilCheck rfl) _) rfl rfl ?_
   refine GoR.op ((op_fieldAddr Try.underlying72 rfl ti29 rfl (by decide)) _) rfl rfl ?_
   refine GoR.op ((op_fieldAddr Try.underlying29 rfl ti22 rfl (by decide)) _) rfl rfl ?_
   refine GoR.op ((oblk (i := 3) 9 hO rfl rfl Try.underlying22 rfl rfl) _ (Same.refl _)) rfl rfl ?_
   refine GoR.op ((op_lenN Try.underlying22 rfl (dA.neq hO 7 rfl)) _) rfl rfl ?_
   refine GoR.op ((op_assign rfl) _) rfl rfl ?_
   refine GoR.nil ?_
   refine Go1.seq ?_
   refine Go1.drawS 1 [(0, .pure), (1, .pure), (2, .pure), (3, .stable), (4, .pure), (6, .pure), (5, .loud), (7, .last)] mixed (by kernel_rfl) ?_
   intro Nb GR
   have sd := Stp.same hO GR
   replace vc := vc.ch sd.ch
   replace bD := bD.ch sd.ch
   replace bH := bH.ch sd.ch
   replace bX := bX.ch sd.ch
   replace bI := bI.ch sd.ch
   replace cx := cx.ch sd.ch
   replace cV := cV.ch sd.ch
   replace dA := dA.ch sd.ch
   replace aj := aj.ch sd.ch
   replace hO := sd.own
   replace cr := cr.ch sd.ch
   replace hB := hB.trans sd.fr
   refine GoQ.pure rfl (op_move rfl) rfl rfl ?_
   refine GoQ.pure rfl (op_nilCheck rfl) rfl rfl ?_
   refine GoQ.pure rfl (op_fieldAddr Try.underlying72 rfl ti69 rfl (by decide)) rfl rfl ?_
   refine GoQ.stable rfl (oblk (i := 9) 9 hO rfl rfl Try.underlying69 rfl rfl) rfl rfl ?_
   refine GoQ.pure rfl (op_move rfl) rfl rfl ?_
   refine GoQ.pure rfl (op_move rfl) rfl rfl ?_
   have hobt := rowlend 0 hO rfl vc
   obtain ⟨GT, GU⟩ := hobt
   have hOc238 := hO.drop 0
   refine GoQ.call rfl (op_call body61 (show ([.slice vr x7 vt] : List Value) = [.slice vr r224.length vt] from by rw [← GU]) (walk_enumerate_text hOc238.lt GT H)) (fun v w hr => by obtain ⟨_, _, hs, _, _⟩ := hr; assumption) rfl rfl ?_
   rintro Nc KE ⟨r239, rfl, BS, Mh, H⟩
   have se := Stp.same hO BS
   replace vc := vc.ch se.ch
   replace bD := bD.ch se.ch
   replace bH := bH.ch se.ch
   replace bX := bX.ch se.ch
   replace bI := bI.ch se.ch
   replace cx := cx.ch se.ch
   replace cV := cV.ch se.ch
   replace dA := dA.ch se.ch
   replace aj := aj.ch se.ch
   replace hO := se.own
   replace cr := cr.ch se.ch
   replace hB := hB.trans se.fr
   have hobt := omapUpd (MK.str Try.underlying9) 10 hO rfl Try.underlying69 r239 (d_147.length : Int)
   obtain ⟨Nd, qP, Ex⟩ := hobt
   dsimp only [sS, sZ] at qP
   refine GoQ.last rfl (Ex (by exact rfl) (by exact rfl) (by exact rfl)) rfl rfl ?_
   replace vc := vc.ch qP.ch
   replace bD := bD.ch qP.ch
   replace bH := bH.ch qP.ch
   replace bX := bX.ch qP.ch
   replace bI := bI.ch qP.ch
   replace cx := cx.ch qP.ch
   replace cV := cV.ch qP.ch
   replace dA := dA.ch qP.ch
   replace aj := aj.ch qP.ch
   replace hO := qP.own
   replace cr := cr.ch qP.ch
   replace hB := hB.trans qP.fr
   refine GoQ.nil ?_
   refine Go1.seq ?_
   refine Go1.cut [(0, .pointer (some ⟨B10, 0, none⟩)), (1, .slice vr x7 vt), (2, .int .i64 (-1 : Int)), (3, .int .i64 (k2_110 : Int)), (4, .string (gstr (chr (IntKind.i32.wrap ((97 : Int) + (k2_110 : Int)))))), (5, .int .i64 (-1 : Int)), (13, .int .i64 (d_147.length : Int))] ⟨rfl, rfl, rfl, rfl, rfl, rfl, rfl, trivial⟩ ?_
   intro σ _
   refine Go1.region ?_
   refine GoR.op ((op_move rfl) _) rfl rfl ?_
   refine GoR.op ((op_move rfl) _) rfl rfl ?_
   refine GoR.op ((op_nilCheck rfl) _) rfl rfl ?_
   refine GoR.op ((op_fieldAddr Try.underlying72 rfl ti29 rfl (by decide)) _) rfl rfl ?_
   refine GoR.op ((op_fieldAddr Try.underlying29 rfl ti22 rfl (by decide)) _) rfl rfl ?_
   refine GoR.op ((oblk (i := 3) 9 hO rfl rfl Try.underlying22 rfl rfl) _ (Same.refl _)) rfl rfl ?_
   refine GoR.op ((op_move rfl) _) rfl rfl ?_
   have hobt := freeze 0 hO rfl vc
   obtain ⟨hO1, vd, eh, GW⟩ := hobt
   dsimp only [eS, eZ] at hO1 vd eh
   replace cr := cr.ch vd
   replace bD := bD.ch vd
   replace bH := bH.ch vd
   replace bX := bX.ch vd
   replace bI := bI.ch vd
   replace cx := cx.ch vd
   replace cV := cV.ch vd
   replace dA := dA.ch vd
   replace aj := aj.ch vd
   replace hB := hB.trans (Owns.dropFr _ _ 0)
   dsimp only [eS, eZ] at hB
   replace hO := hO1; clear hO1
   have hobt := obuild (r := Rp.sl (Rp.int .i64)) (n := 1) (parts := [(0, .slice vr x7 vt)]) (vs := [.slice vr x7 vt]) (xs := [r224]) rfl Try.underlying22 ti26 hO (by decide) (by kernel_rfl) (Els.cons rfl ⟨vr, vt, congrArg some (congrArg (fun nn => Value.slice vr nn vt) GW), eh⟩ (Els.nil _ _ _) (by simp [mx])) rfl
   obtain ⟨Nf, Ng, sf, GX, Ms, Ey⟩ := hobt
   refine GoR.op (Ey rfl) rfl rfl ?_
   replace bD := bD.ch sf.ch
   replace bH := bH.ch sf.ch
   replace bX := bX.ch sf.ch
   replace bI := bI.ch sf.ch
   replace cx := cx.ch sf.ch
   replace cV := cV.ch sf.ch
   replace dA := dA.ch sf.ch
   replace aj := aj.ch sf.ch
   replace hO := sf.own
   replace cr := cr.ch sf.ch
   replace eh := eh.ch sf.ch
   replace hB := hB.trans sf.fr
   have hobt := freeze 0 hO rfl GX
   obtain ⟨hO1, uL, eI, GY⟩ := hobt
   dsimp only [eS, eZ] at hO1 uL eI
   replace cr := cr.ch uL
   replace eh := eh.ch uL
   replace bD := bD.ch uL
   replace bH := bH.ch uL
   replace bX := bX.ch uL
   replace bI := bI.ch uL
   replace cx := cx.ch uL
   replace cV := cV.ch uL
   replace dA := dA.ch uL
   replace aj := aj.ch uL
   replace hB := hB.trans (Owns.dropFr _ _ 0)
   dsimp only [eS, eZ] at hB
   replace hO := hO1; clear hO1
   obtain ⟨KF, H⟩ := H
   have hobt := oapp Try.underlying22 ti26 rfl 6 hO rfl dA eI GY KF (by decide)
   obtain ⟨Nh, x8, x9, GZ, qQ, eO, Ez⟩ := hobt
   dsimp only [sS, sZ] at qQ eO
   refine GoR.op (Ez (by exact rfl) (by exact rfl)) rfl rfl ?_
   replace bD := bD.ch qQ.ch
   replace bH := bH.ch qQ.ch
   replace bX := bX.ch qQ.ch
   replace bI := bI.ch qQ.ch
   replace cx := cx.ch qQ.ch
   replace cV := cV.ch qQ.ch
   replace aj := aj.ch qQ.ch
   replace hO := qQ.own
   replace cr := cr.ch qQ.ch
   replace eh := eh.ch qQ.ch
   replace eI := eI.ch qQ.ch
   replace hB := hB.trans qQ.fr
   refine GoR.op ((op_nilCheck rfl) _) rfl rfl ?_
   refine GoR.op ((op_fieldAddr Try.underlying72 rfl ti29 rfl (by decide)) _) rfl rfl ?_
   refine GoR.op ((op_fieldAddr Try.underlying29 rfl ti22 rfl (by decide)) _) rfl rfl ?_
   have hobt := oblkSt2 (v := .slice x8 (jZ + 1) x9) (i := 3) (cs' := #[.int .i64 ((ix a0 (0 : Int)).length : Int), .bool false, .slice p35 n37 c36, .slice x8 (jZ + 1) x9, .slice mC jY mD, .slice lW jX lX, .slice none 0 0, .slice lm jW lp, .int .i64 (0 : Int), .map (some B4), .slice lQ jV lR, .slice kC jU ll, .slice f6 jO f7]) 8 hO rfl rfl rfl rfl
   obtain ⟨Ni, pY, EA⟩ := hobt
   dsimp only [sS, sZ] at pY
   refine GoR.op (EA Try.underlying22 rfl ti22 (by exact rfl) (by exact rfl)) rfl rfl ?_
   replace bD := bD.ch pY.ch
   replace bH := bH.ch pY.ch
   replace bX := bX.ch pY.ch
   replace bI := bI.ch pY.ch
   replace cx := cx.ch pY.ch
   replace cV := cV.ch pY.ch
   replace eO := eO.ch pY.ch
   replace aj := aj.ch pY.ch
   replace hO := pY.own
   replace cr := cr.ch pY.ch
   replace eh := eh.ch pY.ch
   replace eI := eI.ch pY.ch
   replace hB := hB.trans pY.fr
   refine GoR.nil ?_
   refine Go1.seq ?_
   refine Go1.region ?_
   refine GoR.op ((op_move rfl) _) rfl rfl ?_
   refine GoR.op ((op_move rfl) _) rfl rfl ?_
   refine GoR.op ((op_nilCheck rfl) _) rfl rfl ?_
   refine GoR.op ((op_fieldAddr Try.underlying72 rfl ti29 rfl (by decide)) _) rfl rfl ?_
   refine GoR.op ((op_fieldAddr Try.underlying29 rfl ti26 rfl (by decide)) _) rfl rfl ?_
   refine GoR.op ((oblk (i := 4) 8 hO rfl rfl Try.underlying26 rfl rfl) _ (Same.refl _)) rfl rfl ?_
   refine GoR.op ((op_move rfl) _) rfl rfl ?_
   have hobt := obuild (r := Rp.int .i64) (n := 1) (parts := [(0, .int .i64 (-1 : Int))]) (vs := [.int .i64 (-1 : Int)]) (xs := [(-1 : Int)]) rfl Try.underlying26 ti3 hO (by decide) (by kernel_rfl) (Els.cons rfl rfl (Els.nil _ _ _) (by simp [mx])) rfl
   obtain ⟨Nj, Nk, qR, G0, Mt, EB⟩ := hobt
   refine GoR.op (EB rfl) rfl rfl ?_
   replace bD := bD.ch qR.ch
   replace bH := bH.ch qR.ch
   replace bX := bX.ch qR.ch
   replace bI := bI.ch qR.ch
   replace cx := cx.ch qR.ch
   replace cV := cV.ch qR.ch
   replace eO := eO.ch qR.ch
   replace aj := aj.ch qR.ch
   replace hO := qR.own
   replace cr := cr.ch qR.ch
   replace eh := eh.ch qR.ch
   replace eI := eI.ch qR.ch
   replace hB := hB.trans qR.fr
   have hobt := freeze 0 hO rfl G0
   obtain ⟨hO1, ur, gh, G1⟩ := hobt
   dsimp only [eS, eZ] at hO1 ur gh
   replace cr := cr.ch ur
   replace eh := eh.ch ur
   replace eI := eI.ch ur
   replace bD := bD.ch ur
   replace bH := bH.ch ur
   replace bX := bX.ch ur
   replace bI := bI.ch ur
   replace cx := cx.ch ur
   replace cV := cV.ch ur
   replace eO := eO.ch ur
   replace aj := aj.ch ur
   replace hB := hB.trans (Owns.dropFr _ _ 0)
   dsimp only [eS, eZ] at hB
   replace hO := hO1; clear hO1
   obtain ⟨KG, H⟩ := H
   have hobt := oapp Try.underlying26 ti3 rfl 5 hO rfl cV gh G1 KG (by decide)
   obtain ⟨KH, y5, y6, G3, pZ, gx, EC⟩ := hobt
   dsimp only [sS, sZ] at pZ gx
   refine GoR.op (EC (by exact rfl) (by exact rfl)) rfl rfl ?_
   replace bD := bD.ch pZ.ch
   replace bH := bH.ch pZ.ch
   replace bX := bX.ch pZ.ch
   replace bI := bI.ch pZ.ch
   replace cx := cx.ch pZ.ch
   replace eO := eO.ch pZ.ch
   replace aj := aj.ch pZ.ch
   replace hO := pZ.own
   replace cr := cr.ch pZ.ch
   replace eh := eh.ch pZ.ch
   replace eI := eI.ch pZ.ch
   replace gh := gh.ch pZ.ch
   replace hB := hB.trans pZ.fr
   refine GoR.op ((op_nilCheck rfl) _) rfl rfl ?_
   refine GoR.op ((op_fieldAddr Try.underlying72 rfl ti29 rfl (by decide)) _) rfl rfl ?_
   refine GoR.op ((op_fieldAddr Try.underlying29 rfl ti26 rfl (by decide)) _) rfl rfl ?_
   have hobt := oblkSt2 (v := .slice y5 (jY + 1) y6) (i := 4) (cs' := #[.int .i64 ((ix a0 (0 : Int)).length : Int), .bool false, .slice p35 n37 c36, .slice x8 (jZ + 1) x9, .slice y5 (jY + 1) y6, .slice lW jX lX, .slice none 0 0, .slice lm jW lp, .int .i64 (0 : Int), .map (some B4), .slice lQ jV lR, .slice kC jU ll, .slice f6 jO f7]) 8 hO rfl rfl rfl rfl
   obtain ⟨Nl, pk, ED⟩ := hobt
   dsimp only [sS, sZ] at pk
   refine GoR.op (ED Try.underlying26 rfl ti26 (by exact rfl) (by exact rfl)) rfl rfl ?_
   replace bD := bD.ch pk.ch
   replace bH := bH.ch pk.ch
   replace bX := bX.ch pk.ch
   replace bI := bI.ch pk.ch
   replace cx := cx.ch pk.ch
   replace gx := gx.ch pk.ch
   replace eO := eO.ch pk.ch
   replace aj := aj.ch pk.ch
   replace hO := pk.own
   replace cr := cr.ch pk.ch
   replace eh := eh.ch pk.ch
   replace eI := eI.ch pk.ch
   replace gh := gh.ch pk.ch
   replace hB := hB.trans pk.fr
   refine GoR.nil ?_
   refine Go1.seq ?_
   refine Go1.cut [(0, .pointer (some ⟨B10, 0, none⟩)), (3, .int .i64 (k2_110 : Int)), (4, .string (gstr (chr (IntKind.i32.wrap ((97 : Int) + (k2_110 : Int)))))), (5, .int .i64 (-1 : Int)), (13, .int .i64 (d_147.length : Int))] ⟨rfl, rfl, rfl, rfl, rfl, trivial⟩ ?_
   intro σ _
   refine Go1.region ?_
   refine GoR.op ((op_move rfl) _) rfl rfl ?_
   refine GoR.op ((op_move rfl) _) rfl rfl ?_
   refine GoR.op ((op_nilCheck rfl) _) rfl rfl ?_
   refine GoR.op ((op_fieldAddr Try.underlying72 rfl ti29 rfl (by decide)) _) rfl rfl ?_
   refine GoR.op ((op_fieldAddr Try.underlying29 rfl ti26 rfl (by decide)) _) rfl rfl ?_
   refine GoR.op ((oblk (i := 5) 8 hO rfl rfl Try.underlying26 rfl rfl) _ (Same.refl _)) rfl rfl ?_
   refine GoR.op ((op_move rfl) _) rfl rfl ?_
   have hobt := obuild (r := Rp.int .i64) (n := 1) (parts := [(0, .int .i64 (k2_110 : Int))]) (vs := [.int .i64 (k2_110 : Int)]) (xs := [(k2_110 : Int)]) rfl Try.underlying26 ti3 hO (by decide) (by kernel_rfl) (Els.cons rfl rfl (Els.nil _ _ _) (by simp [mx])) rfl
   obtain ⟨Nm, Nn, p5, G4, Mu, EE⟩ := hobt
   refine GoR.op (EE rfl) rfl rfl ?_
   replace bD := bD.ch p5.ch
   replace bH := bH.ch p5.ch
   replace bX := bX.ch p5.ch
   replace bI := bI.ch p5.ch
   replace cx := cx.ch p5.ch
   replace gx := gx.ch p5.ch
   replace eO := eO.ch p5.ch
   replace aj := aj.ch p5.ch
   replace hO := p5.own
   replace cr := cr.ch p5.ch
   replace eh := eh.ch p5.ch
   replace eI := eI.ch p5.ch
   replace gh := gh.ch p5.ch
   replace hB := hB.trans p5.fr
   have hobt := freeze 0 hO rfl G4
   obtain ⟨hO1, t5, jw, G5⟩ := hobt
   dsimp only [eS, eZ] at hO1 t5 jw
   replace cr := cr.ch t5
   replace eh := eh.ch t5
   replace eI := eI.ch t5
   replace gh := gh.ch t5
   replace bD := bD.ch t5
   replace bH := bH.ch t5
   replace bX := bX.ch t5
   replace bI := bI.ch t5
   replace cx := cx.ch t5
   replace gx := gx.ch t5
   replace eO := eO.ch t5
   replace aj := aj.ch t5
   replace hB := hB.trans (Owns.dropFr _ _ 0)
   dsimp only [eS, eZ] at hB
   replace hO := hO1; clear hO1
   obtain ⟨KI, H⟩ := H
   have hobt := oapp Try.underlying26 ti3 rfl 4 hO rfl cx jw G5 KI (by decide)
   obtain ⟨Np, z9, Aa, G6, pm, jR, EF⟩ := hobt
   dsimp only [sS, sZ] at pm jR
   refine GoR.op (EF (by exact rfl) (by exact rfl)) rfl rfl ?_
   replace bD := bD.ch pm.ch
   replace bH := bH.ch pm.ch
   replace bX := bX.ch pm.ch
   replace bI := bI.ch pm.ch
   replace gx := gx.ch pm.ch
   replace eO := eO.ch pm.ch
   replace aj := aj.ch pm.ch
   replace hO := pm.own
   replace cr := cr.ch pm.ch
   replace eh := eh.ch pm.ch
   replace eI := eI.ch pm.ch
   replace gh := gh.ch pm.ch
   replace jw := jw.ch pm.ch
   replace hB := hB.trans pm.fr
   refine GoR.op ((op_nilCheck rfl) _) rfl rfl ?_
   refine GoR.op ((op_fieldAddr Try.underlying72 rfl ti29 rfl (by decide)) _) rfl rfl ?_
   refine GoR.op ((op_fieldAddr Try.underlying29 rfl ti26 rfl (by decide)) _) rfl rfl ?_
   have hobt := oblkSt2 (v := .slice z9 (jX + 1) Aa) (i := 5) (cs' := #[.int .i64 ((ix a0 (0 : Int)).length : Int), .bool false, .slice p35 n37 c36, .slice x8 (jZ + 1) x9, .slice y5 (jY + 1) y6, .slice z9 (jX + 1) Aa, .slice none 0 0, .slice lm jW lp, .int .i64 (0 : Int), .map (some B4), .slice lQ jV lR, .slice kC jU ll, .slice f6 jO f7]) 8 hO rfl rfl rfl rfl
   obtain ⟨Nq, ow, EG⟩ := hobt
   dsimp only [sS, sZ] at ow
   refine GoR.op (EG Try.underlying26 rfl ti26 (by exact rfl) (by exact rfl)) rfl rfl ?_
   replace bD := bD.ch ow.ch
   replace bH := bH.ch ow.ch
   replace bX := bX.ch ow.ch
   replace bI := bI.ch ow.ch
   replace jR := jR.ch ow.ch
   replace gx := gx.ch ow.ch
   replace eO := eO.ch ow.ch
   replace aj := aj.ch ow.ch
   replace hO := ow.own
   replace cr := cr.ch ow.ch
   replace eh := eh.ch ow.ch
   replace eI := eI.ch ow.ch
   replace gh := gh.ch ow.ch
   replace jw := jw.ch ow.ch
   replace hB := hB.trans ow.fr
   refine GoR.nil ?_
   refine Go1.seq ?_
   refine Go1.region ?_
   refine GoR.op ((op_move rfl) _) rfl rfl ?_
   refine GoR.op ((op_move rfl) _) rfl rfl ?_
   refine GoR.op ((op_nilCheck rfl) _) rfl rfl ?_
   refine GoR.op ((op_fieldAddr Try.underlying72 rfl ti70 rfl (by decide)) _) rfl rfl ?_
   refine GoR.op ((oblk (i := 10) 8 hO rfl rfl Try.underlying70 rfl rfl) _ (Same.refl _)) rfl rfl ?_
   refine GoR.op ((op_move rfl) _) rfl rfl ?_
   have hobt := obuild (r := Rp.str) (n := 1) (parts := [(0, .string (gstr (chr (IntKind.i32.wrap ((97 : Int) + (k2_110 : Int))))))]) (vs := [.string (gstr (chr (IntKind.i32.wrap ((97 : Int) + (k2_110 : Int)))))]) (xs := [chr (IntKind.i32.wrap ((97 : Int) + (k2_110 : Int)))]) rfl Try.underlying70 ti9 hO (by decide) (by kernel_rfl) (Els.cons rfl ⟨rfl, (chr_le _)⟩ (Els.nil _ _ _) (by simp [mx])) rfl
   obtain ⟨KJ, Nr, po, G7, Mv, EH⟩ := hobt
   refine GoR.op (EH rfl) rfl rfl ?_
   replace bD := bD.ch po.ch
   replace bH := bH.ch po.ch
   replace bX := bX.ch po.ch
   replace bI := bI.ch po.ch
   replace jR := jR.ch po.ch
   replace gx := gx.ch po.ch
   replace eO := eO.ch po.ch
   replace aj := aj.ch po.ch
   replace hO := po.own
   replace cr := cr.ch po.ch
   replace eh := eh.ch po.ch
   replace eI := eI.ch po.ch
   replace gh := gh.ch po.ch
   replace jw := jw.ch po.ch
   replace hB := hB.trans po.fr
   have hobt := freeze 0 hO rfl G7
   obtain ⟨hO1, tx, mI, G8⟩ := hobt
   dsimp only [eS, eZ] at hO1 tx mI
   replace cr := cr.ch tx
   replace eh := eh.ch tx
   replace eI := eI.ch tx
   replace gh := gh.ch tx
   replace jw := jw.ch tx
   replace bD := bD.ch tx
   replace bH := bH.ch tx
   replace bX := bX.ch tx
   replace bI := bI.ch tx
   replace jR := jR.ch tx
   replace gx := gx.ch tx
   replace eO := eO.ch tx
   replace aj := aj.ch tx
   replace hB := hB.trans (Owns.dropFr _ _ 0)
   dsimp only [eS, eZ] at hB
   replace hO := hO1; clear hO1
   obtain ⟨KK, H⟩ := H
   have hobt := oapp Try.underlying70 ti9 rfl 2 hO rfl bX mI G8 KK (by decide)
   obtain ⟨Ns, A2, A3, G9, ox, oq, EI⟩ := hobt
   dsimp only [sS, sZ] at ox oq
   refine GoR.op (EI (by exact rfl) (by exact rfl)) rfl rfl ?_
   replace bD := bD.ch ox.ch
   replace bH := bH.ch ox.ch
   replace bI := bI.ch ox.ch
   replace jR := jR.ch ox.ch
   replace gx := gx.ch ox.ch
   replace eO := eO.ch ox.ch
   replace aj := aj.ch ox.ch
   replace hO := ox.own
   replace cr := cr.ch ox.ch
   replace eh := eh.ch ox.ch
   replace eI := eI.ch ox.ch
   replace gh := gh.ch ox.ch
   replace jw := jw.ch ox.ch
   replace mI := mI.ch ox.ch
   replace hB := hB.trans ox.fr
   refine GoR.op ((op_nilCheck rfl) _) rfl rfl ?_
   refine GoR.op ((op_fieldAddr Try.underlying72 rfl ti70 rfl (by decide)) _) rfl rfl ?_
   have hobt := oblkSt2 (v := .slice A2 (jV + 1) A3) (i := 10) (cs' := #[.int .i64 ((ix a0 (0 : Int)).length : Int), .bool false, .slice p35 n37 c36, .slice x8 (jZ + 1) x9, .slice y5 (jY + 1) y6, .slice z9 (jX + 1) Aa, .slice none 0 0, .slice lm jW lp, .int .i64 (0 : Int), .map (some B4), .slice A2 (jV + 1) A3, .slice kC jU ll, .slice f6 jO f7]) 8 hO rfl rfl rfl rfl
   obtain ⟨Nt, nj, EJ⟩ := hobt
   dsimp only [sS, sZ] at nj
   refine GoR.op (EJ Try.underlying70 rfl ti70 (by exact rfl) (by exact rfl)) rfl rfl ?_
   replace bD := bD.ch nj.ch
   replace bH := bH.ch nj.ch
   replace oq := oq.ch nj.ch
   replace bI := bI.ch nj.ch
   replace jR := jR.ch nj.ch
   replace gx := gx.ch nj.ch
   replace eO := eO.ch nj.ch
   replace aj := aj.ch nj.ch
   replace hO := nj.own
   replace cr := cr.ch nj.ch
   replace eh := eh.ch nj.ch
   replace eI := eI.ch nj.ch
   replace gh := gh.ch nj.ch
   replace jw := jw.ch nj.ch
   replace mI := mI.ch nj.ch
   replace hB := hB.trans nj.fr
   refine GoR.nil ?_
   refine Go1.seq ?_
   refine Go1.cut [(0, .pointer (some ⟨B10, 0, none⟩)), (5, .int .i64 (-1 : Int)), (13, .int .i64 (d_147.length : Int))] ⟨rfl, rfl, rfl, trivial⟩ ?_
   intro σ _
   refine Go1.region ?_
   refine GoR.op ((op_move rfl) _) rfl rfl ?_
   refine GoR.op ((op_move rfl) _) rfl rfl ?_
   refine GoR.op ((op_nilCheck rfl) _) rfl rfl ?_
   refine GoR.op ((op_fieldAddr Try.underlying72 rfl ti26 rfl (by decide)) _) rfl rfl ?_
   refine GoR.op ((oblk (i := 11) 8 hO rfl rfl Try.underlying26 rfl rfl) _ (Same.refl _)) rfl rfl ?_
   refine GoR.op ((op_move rfl) _) rfl rfl ?_
   have hobt := obuild (r := Rp.int .i64) (n := 1) (parts := [(0, .int .i64 (-1 : Int))]) (vs := [.int .i64 (-1 : Int)]) (xs := [(-1 : Int)]) rfl Try.underlying26 ti3 hO (by decide) (by kernel_rfl) (Els.cons rfl rfl (Els.nil _ _ _) (by simp [mx])) rfl
   obtain ⟨Nu, Nv, oy, Ha, Mw, EK⟩ := hobt
   refine GoR.op (EK rfl) rfl rfl ?_
   replace bD := bD.ch oy.ch
   replace bH := bH.ch oy.ch
   replace oq := oq.ch oy.ch
   replace bI := bI.ch oy.ch
   replace jR := jR.ch oy.ch
   replace gx := gx.ch oy.ch
   replace eO := eO.ch oy.ch
   replace aj := aj.ch oy.ch
   replace hO := oy.own
   replace cr := cr.ch oy.ch
   replace eh := eh.ch oy.ch
   replace eI := eI.ch oy.ch
   replace gh := gh.ch oy.ch
   replace jw := jw.ch oy.ch
   replace mI := mI.ch oy.ch
   replace hB := hB.trans oy.fr
   have hobt := freeze 0 hO rfl Ha
   obtain ⟨hO1, rF, tz, Hb⟩ := hobt
   dsimp only [eS, eZ] at hO1 rF tz
   replace cr := cr.ch rF
   replace eh := eh.ch rF
   replace eI := eI.ch rF
   replace gh := gh.ch rF
   replace jw := jw.ch rF
   replace mI := mI.ch rF
   replace bD := bD.ch rF
   replace bH := bH.ch rF
   replace oq := oq.ch rF
   replace bI := bI.ch rF
   replace jR := jR.ch rF
   replace gx := gx.ch rF
   replace eO := eO.ch rF
   replace aj := aj.ch rF
   replace hB := hB.trans (Owns.dropFr _ _ 0)
   dsimp only [eS, eZ] at hB
   replace hO := hO1; clear hO1
   obtain ⟨KL, H⟩ := H
   have hobt := oapp Try.underlying26 ti3 rfl 1 hO rfl bH tz Hb KL (by decide)
   obtain ⟨Nw, BT, BU, Hc, nk, ut, EL⟩ := hobt
   dsimp only [sS, sZ] at nk ut
   refine GoR.op (EL (by exact rfl) (by exact rfl)) rfl rfl ?_
   replace bD := bD.ch nk.ch
   replace oq := oq.ch nk.ch
   replace bI := bI.ch nk.ch
   replace jR := jR.ch nk.ch
   replace gx := gx.ch nk.ch
   replace eO := eO.ch nk.ch
   replace aj := aj.ch nk.ch
   replace hO := nk.own
   replace cr := cr.ch nk.ch
   replace eh := eh.ch nk.ch
   replace eI := eI.ch nk.ch
   replace gh := gh.ch nk.ch
   replace jw := jw.ch nk.ch
   replace mI := mI.ch nk.ch
   replace tz := tz.ch nk.ch
   replace hB := hB.trans nk.fr
   refine GoR.op ((op_nilCheck rfl) _) rfl rfl ?_
   refine GoR.op ((op_fieldAddr Try.underlying72 rfl ti26 rfl (by decide)) _) rfl rfl ?_
   have hobt := oblkSt2 (v := .slice BT (jU + 1) BU) (i := 11) (cs' := #[.int .i64 ((ix a0 (0 : Int)).length : Int), .bool false, .slice p35 n37 c36, .slice x8 (jZ + 1) x9, .slice y5 (jY + 1) y6, .slice z9 (jX + 1) Aa, .slice none 0 0, .slice lm jW lp, .int .i64 (0 : Int), .map (some B4), .slice A2 (jV + 1) A3, .slice BT (jU + 1) BU, .slice f6 jO f7]) 8 hO rfl rfl rfl rfl
   obtain ⟨Nx, mP, EM⟩ := hobt
   dsimp only [sS, sZ] at mP
   refine GoR.op (EM Try.underlying26 rfl ti26 (by exact rfl) (by exact rfl)) rfl rfl ?_
   replace bD := bD.ch mP.ch
   replace ut := ut.ch mP.ch
   replace oq := oq.ch mP.ch
   replace bI := bI.ch mP.ch
   replace jR := jR.ch mP.ch
   replace gx := gx.ch mP.ch
   replace eO := eO.ch mP.ch
   replace aj := aj.ch mP.ch
   replace hO := mP.own
   replace cr := cr.ch mP.ch
   replace eh := eh.ch mP.ch
   replace eI := eI.ch mP.ch
   replace gh := gh.ch mP.ch
   replace jw := jw.ch mP.ch
   replace mI := mI.ch mP.ch
   replace tz := tz.ch mP.ch
   replace hB := hB.trans mP.fr
   refine GoR.nil ?_
   refine Go1.seq ?_
   refine Go1.region ?_
   refine GoR.op ((op_move rfl) _) rfl rfl ?_
   refine GoR.op ((op_assign rfl) _) rfl rfl ?_
   refine GoR.nil ?_
   refine Go1.ret1V Try.func65 rfl (show _ = .int .i64 (d_147.length : Int) from rfl) ?_
   refine hR232 _ _ ?_
   refine GoR.op ((op_assign rfl) _) rfl rfl ?_
   refine GoR.nil ?_
   refine Go1.region ?_
   refine GoR.op ((op_move rfl) _) rfl rfl ?_
   refine GoR.op ((op_move rfl) _) rfl rfl ?_
   refine GoR.op ((op_nilCheck rfl) _) rfl rfl ?_
   refine GoR.op ((op_fieldAddr Try.underlying72 rfl ti26 rfl (by decide)) _) rfl rfl ?_
   refine GoR.op ((oblk (i := 12) 8 hO rfl rfl Try.underlying26 rfl rfl) _ (Same.refl _)) rfl rfl ?_
   refine GoR.op ((op_move rfl) _) rfl rfl ?_
   have hobt := obuild (r := Rp.int .i64) (n := 1) (parts := [(0, .int .i64 (d_147.length : Int))]) (vs := [.int .i64 (d_147.length : Int)]) (xs := [(d_147.length : Int)]) rfl Try.underlying26 ti3 hO (by decide) (by kernel_rfl) (Els.cons rfl rfl (Els.nil _ _ _) (by simp [mx])) rfl
   obtain ⟨Ny, Nz, nl, He, Mx, EO⟩ := hobt
   refine GoR.op (EO rfl) rfl rfl ?_
   replace bD := bD.ch nl.ch
   replace ut := ut.ch nl.ch
   replace oq := oq.ch nl.ch
   replace bI := bI.ch nl.ch
   replace jR := jR.ch nl.ch
   replace gx := gx.ch nl.ch
   replace eO := eO.ch nl.ch
   replace aj := aj.ch nl.ch
   replace hO := nl.own
   replace cr := cr.ch nl.ch
   replace eh := eh.ch nl.ch
   replace eI := eI.ch nl.ch
   replace gh := gh.ch nl.ch
   replace jw := jw.ch nl.ch
   replace mI := mI.ch nl.ch
   replace tz := tz.ch nl.ch
   replace hB := hB.trans nl.fr
   have hobt := freeze 0 hO rfl He
   obtain ⟨hO1, qD, yv, Hf⟩ := hobt
   dsimp only [eS, eZ] at hO1 qD yv
   replace cr := cr.ch qD
   replace eh := eh.ch qD
   replace eI := eI.ch qD
   replace gh := gh.ch qD
   replace jw := jw.ch qD
   replace mI := mI.ch qD
   replace tz := tz.ch qD
   replace bD := bD.ch qD
   replace ut := ut.ch qD
   replace oq := oq.ch qD
   replace bI := bI.ch qD
   replace jR := jR.ch qD
   replace gx := gx.ch qD
   replace eO := eO.ch qD
   replace aj := aj.ch qD
   replace hB := hB.trans (Owns.dropFr _ _ 0)
   dsimp only [eS, eZ] at hB
   replace hO := hO1; clear hO1
   obtain ⟨KM, H⟩ := H
   have hobt := oapp Try.underlying26 ti3 rfl 0 hO rfl bD yv Hf KM (by decide)
   obtain ⟨NA, C9, Db, Hg, mQ, AJ, EP⟩ := hobt
   dsimp only [sS, sZ] at mQ AJ
   refine GoR.op (EP (by exact rfl) (by exact rfl)) rfl rfl ?_
   replace ut := ut.ch mQ.ch
   replace oq := oq.ch mQ.ch
   replace bI := bI.ch mQ.ch
   replace jR := jR.ch mQ.ch
   replace gx := gx.ch mQ.ch
   replace eO := eO.ch mQ.ch
   replace aj := aj.ch mQ.ch
   replace hO := mQ.own
   replace cr := cr.ch mQ.ch
   replace eh := eh.ch mQ.ch
   replace eI := eI.ch mQ.ch
   replace gh := gh.ch mQ.ch
   replace jw := jw.ch mQ.ch
   replace mI := mI.ch mQ.ch
   replace tz := tz.ch mQ.ch
   replace yv := yv.ch mQ.ch
   replace hB := hB.trans mQ.fr
   refine GoR.op ((op_nilCheck rfl) _) rfl rfl ?_
   refine GoR.op ((op_fieldAddr Try.underlying72 rfl ti26 rfl (by decide)) _) rfl rfl ?_
   have hobt := oblkSt2 (v := .slice C9 (jO + 1) Db) (i := 12) (cs' := #[.int .i64 ((ix a0 (0 : Int)).length : Int), .bool false, .slice p35 n37 c36, .slice x8 (jZ + 1) x9, .slice y5 (jY + 1) y6, .slice z9 (jX + 1) Aa, .slice none 0 0, .slice lm jW lp, .int .i64 (0 : Int), .map (some B4), .slice A2 (jV + 1) A3, .slice BT (jU + 1) BU, .slice C9 (jO + 1) Db]) 8 hO rfl rfl rfl rfl
   obtain ⟨NB, lY, EQ⟩ := hobt
   dsimp only [sS, sZ] at lY
   refine GoR.op (EQ Try.underlying26 rfl ti26 (by exact rfl) (by exact rfl)) rfl rfl ?_
   replace AJ := AJ.ch lY.ch
   replace ut := ut.ch lY.ch
   replace oq := oq.ch lY.ch
   replace bI := bI.ch lY.ch
   replace jR := jR.ch lY.ch
   replace gx := gx.ch lY.ch
   replace eO := eO.ch lY.ch
   replace aj := aj.ch lY.ch
   replace hO := lY.own
   replace cr := cr.ch lY.ch
   replace eh := eh.ch lY.ch
   replace eI := eI.ch lY.ch
   replace gh := gh.ch lY.ch
   replace jw := jw.ch lY.ch
   replace mI := mI.ch lY.ch
   replace tz := tz.ch lY.ch
   replace yv := yv.ch lY.ch
   replace hB := hB.trans lY.fr
   refine GoR.nil ?_
   refine Go1.inBlock ?_
   refine Go1.cut [(6, .pointer (some ⟨B10, 0, none⟩)), (9, .int .i64 (-1 : Int)), (85, .slice p35 n37 c36), (86, .int .i64 (d_32.length : Int)), (87, .int .i64 (k2_110 : Int))] ⟨rfl, rfl, rfl, rfl, rfl, trivial⟩ ?_
   intro σ _
   refine Go1.region ?_
   refine GoR.op ((op_add rfl rfl (wrap_i64 (natbd z8 aj.bd))) _) rfl rfl ?_
   refine GoR.op ((op_move rfl) _) rfl rfl ?_
   refine GoR.nil ?_
   exact hX2 _ H _ _ ⟨jO + 1, C9, Db, Hg, jU + 1, BT, BU, Hc, jV + 1, A2, A3, G9, jW, lm, lp, rB, jX + 1, z9, Aa, G6, jY + 1, y5, y6, G3, jZ + 1, x8, x9, GZ, ⟨rfl, rfl, rfl, rfl, rfl, trivial⟩, hO, AJ, ut, oq, bI, jR, gx, eO, aj, hB⟩
  replace H := ifn z8 H
  refine GoR.op ((fun w => opB (op_lss rfl rfl w) (decide_eq_false z8)) _) rfl rfl ?_
  refine GoR.nil ?_
  refine Go1.seq ?_
  refine Go1.condF rfl rfl ?_
  refine Go1.exit rfl ?_
  refine Go1.seq ?_
  refine Go1.region ?_
  refine GoR.op ((op_move rfl) _) rfl rfl ?_
  refine GoR.op ((op_assign rfl) _) rfl rfl ?_
  refine GoR.op ((op_assign rfl) _) rfl rfl ?_
  refine GoR.nil ?_
  have ul := Stp.nil (e := 26) (r := 1) hO
  replace bD := bD.ch ul.ch
  replace bH := bH.ch ul.ch
  replace bX := bX.ch ul.ch
  replace bI := bI.ch ul.ch
  replace cx := cx.ch ul.ch
  replace cV := cV.ch ul.ch
  replace dA := dA.ch ul.ch
  replace aj := aj.ch ul.ch
  replace hO := ul.own
  replace hB := hB.trans ul.fr
  have lZ := Els.nil (Rp.sl (Rp.int .i64)) (bl (.row 26 1 none 0 0 [] :: [.row 3 1 f6 jO f7 tv, .row 3 1 kC jU ll ry, .row 9 1 lQ jV lR rz, .row 39 2 lm jW lp rB, .row 3 1 lW jX lX rC, .row 3 1 mC jY mD rD, .row 26 1 na jZ nb rE, .row 26 1 p35 n37 c36 gt, .blk B10 (.cells #[.int .i64 ((ix a0 (0 : Int)).length : Int), .bool false, .slice p35 n37 c36, .slice na jZ nb, .slice mC jY mD, .slice lW jX lX, .slice none 0 0, .slice lm jW lp, .int .i64 (0 : Int), .map (some B4), .slice lQ jV lR, .slice kC jU ll, .slice f6 jO f7] 72 (0, 0)), .any (mapE (fun a : List UInt8 => Value.string (gstr a)) (fun a : Int => Value.int .i64 a) B4 m2_153)]) ++ A) z7
  have gB := Stp.front 10 hO rfl
  dsimp only [eS, eZ] at gB
  replace lZ := lZ.ch gB.ch
  replace bD := bD.ch gB.ch
  replace bH := bH.ch gB.ch
  replace bX := bX.ch gB.ch
  replace bI := bI.ch gB.ch
  replace cx := cx.ch gB.ch
  replace cV := cV.ch gB.ch
  replace dA := dA.ch gB.ch
  replace aj := aj.ch gB.ch
  replace hO := gB.own
  replace hB := hB.trans gB.fr
  have sg := Stp.front 2 hO rfl
  dsimp only [eS, eZ] at sg
  replace lZ := lZ.ch sg.ch
  replace bD := bD.ch sg.ch
  replace bH := bH.ch sg.ch
  replace bX := bX.ch sg.ch
  replace bI := bI.ch sg.ch
  replace cx := cx.ch sg.ch
  replace cV := cV.ch sg.ch
  replace dA := dA.ch sg.ch
  replace aj := aj.ch sg.ch
  replace hO := sg.own
  replace hB := hB.trans sg.fr
  have gu := Stp.front 3 hO rfl
  dsimp only [eS, eZ] at gu
  replace bD := bD.ch gu.ch
  replace lZ := lZ.ch gu.ch
  replace bH := bH.ch gu.ch
  replace bX := bX.ch gu.ch
  replace bI := bI.ch gu.ch
  replace cx := cx.ch gu.ch
  replace cV := cV.ch gu.ch
  replace dA := dA.ch gu.ch
  replace aj := aj.ch gu.ch
  replace hO := gu.own
  replace hB := hB.trans gu.fr
  have si := Stp.front 4 hO rfl
  dsimp only [eS, eZ] at si
  replace bH := bH.ch si.ch
  replace bD := bD.ch si.ch
  replace lZ := lZ.ch si.ch
  replace bX := bX.ch si.ch
  replace bI := bI.ch si.ch
  replace cx := cx.ch si.ch
  replace cV := cV.ch si.ch
  replace dA := dA.ch si.ch
  replace aj := aj.ch si.ch
  replace hO := si.own
  replace hB := hB.trans si.fr
  have sj := Stp.front 5 hO rfl
  dsimp only [eS, eZ] at sj
  replace bX := bX.ch sj.ch
  replace bH := bH.ch sj.ch
  replace bD := bD.ch sj.ch
  replace lZ := lZ.ch sj.ch
  replace bI := bI.ch sj.ch
  replace cx := cx.ch sj.ch
  replace cV := cV.ch sj.ch
  replace dA := dA.ch sj.ch
  replace aj := aj.ch sj.ch
  replace hO := sj.own
  replace hB := hB.trans sj.fr
  have sk := Stp.front 5 hO rfl
  dsimp only [eS, eZ] at sk
  replace bI := bI.ch sk.ch
  replace bX := bX.ch sk.ch
  replace bH := bH.ch sk.ch
  replace bD := bD.ch sk.ch
  replace lZ := lZ.ch sk.ch
  replace cx := cx.ch sk.ch
  replace cV := cV.ch sk.ch
  replace dA := dA.ch sk.ch
  replace aj := aj.ch sk.ch
  replace hO := sk.own
  replace hB := hB.trans sk.fr
  have gC := Stp.front 6 hO rfl
  dsimp only [eS, eZ] at gC
  replace lZ := lZ.ch gC.ch
  replace bI := bI.ch gC.ch
  replace bX := bX.ch gC.ch
  replace bH := bH.ch gC.ch
  replace bD := bD.ch gC.ch
  replace cx := cx.ch gC.ch
  replace cV := cV.ch gC.ch
  replace dA := dA.ch gC.ch
  replace aj := aj.ch gC.ch
  replace hO := gC.own
  replace hB := hB.trans gC.fr
  have sm := Stp.front 7 hO rfl
  dsimp only [eS, eZ] at sm
  replace cx := cx.ch sm.ch
  replace lZ := lZ.ch sm.ch
  replace bI := bI.ch sm.ch
  replace bX := bX.ch sm.ch
  replace bH := bH.ch sm.ch
  replace bD := bD.ch sm.ch
  replace cV := cV.ch sm.ch
  replace dA := dA.ch sm.ch
  replace aj := aj.ch sm.ch
  replace hO := sm.own
  replace hB := hB.trans sm.fr
  have sn := Stp.front 8 hO rfl
  dsimp only [eS, eZ] at sn
  replace cV := cV.ch sn.ch
  replace cx := cx.ch sn.ch
  replace lZ := lZ.ch sn.ch
  replace bI := bI.ch sn.ch
  replace bX := bX.ch sn.ch
  replace bH := bH.ch sn.ch
  replace bD := bD.ch sn.ch
  replace dA := dA.ch sn.ch
  replace aj := aj.ch sn.ch
  replace hO := sn.own
  replace hB := hB.trans sn.fr
  have sq := Stp.front 9 hO rfl
  dsimp only [eS, eZ] at sq
  replace dA := dA.ch sq.ch
  replace cV := cV.ch sq.ch
  replace cx := cx.ch sq.ch
  replace lZ := lZ.ch sq.ch
  replace bI := bI.ch sq.ch
  replace bX := bX.ch sq.ch
  replace bH := bH.ch sq.ch
  replace bD := bD.ch sq.ch
  replace aj := aj.ch sq.ch
  replace hO := sq.own
  replace hB := hB.trans sq.fr
  have sr := Stp.front 10 hO rfl
  dsimp only [eS, eZ] at sr
  replace aj := aj.ch sr.ch
  replace dA := dA.ch sr.ch
  replace cV := cV.ch sr.ch
  replace cx := cx.ch sr.ch
  replace lZ := lZ.ch sr.ch
  replace bI := bI.ch sr.ch
  replace bX := bX.ch sr.ch
  replace bH := bH.ch sr.ch
  replace bD := bD.ch sr.ch
  replace hO := sr.own
  replace hB := hB.trans sr.fr
  refine Go1.ret2 Try.func49 rfl ?_
  exact Or.inr ⟨(⟨(⟨((ix a0 (0 : Int)).length : Int), false, d_32, d_147, d_141, d_135, ([] : List (List Int)), d_129, (0 : Int)⟩ : Enum), m2_153, d_123, d_117, d_111⟩ : run), ((0 : Int)), B10, n37, p35, c36, gt, jZ, na, nb, rE, jY, mC, mD, rD, jX, lW, lX, rC, 0, none, 0, ([]), jW, lm, lp, rB, B4, jV, lQ, lR, rz, jU, kC, ll, ry, jO, f6, f7, tv, rfl, hB.same, hO, aj, dA, cV, cx, lZ, bI, bX, bH, bD, H⟩
 replace H := ifp rfl H
 refine Go1.condT rfl rfl ?_
 refine Go1.region ?_
 refine GoR.op ((op_move rfl) _) rfl rfl ?_
 refine GoR.op ((op_move rfl) _) rfl rfl ?_
 refine GoR.op ((op_nilCheck rfl) _) rfl rfl ?_
 refine GoR.op ((op_fieldAddr Try.underlying72 rfl ti29 rfl (by decide)) _) rfl rfl ?_
 refine GoR.op ((op_fieldAddr Try.underlying29 rfl ti3 rfl (by decide)) _) rfl rfl ?_
 refine GoR.op ((oblk (i := 0) 1 hO rfl rfl Try.underlying3 rfl rfl) _ (Same.refl _)) rfl rfl ?_
 refine GoR.call (op_call body62 rfl (walk_trans_Identity hO.lt H)) rfl rfl ?_
 rintro NC ND ⟨r397, ya, yb, rfl, Hh, cQ, H⟩
 have zK := Stp.same hO Hh
 replace aj := aj.ch zK.ch
 replace hO := zK.own
 replace bk := bk.ch zK.ch
 replace hB := hB.trans zK.fr
 refine GoR.inl (vs := [.pointer (some ⟨B10, 0, none⟩), .slice ya r397.length yb, .int .i64 (-1 : Int), .int .i64 (-1 : Int), .string (gstr (([] : Str))), .int .i64 (-1 : Int)]) (caps := []) rfl rfl body65 Try.func65 rfl Try.ntmps65 rfl rfl rfl ?_
 intro RhR403 hR403
 refine Go1.seq ?_
 refine Go1.region ?_
 refine GoR.op ((op_assign rfl) _) rfl rfl ?_
 refine GoR.nil ?_
 refine Go1.seq ?_
 refine Go1.region ?_
 refine GoR.op ((op_move rfl) _) rfl rfl ?_
 refine GoR.op ((op_nilCheck rfl) _) rfl rfl ?_
 refine GoR.op ((op_fieldAddr Try.underlying72 rfl ti29 rfl (by decide)) _) rfl rfl ?_
 refine GoR.op ((op_fieldAddr Try.underlying29 rfl ti22 rfl (by decide)) _) rfl rfl ?_
 refine GoR.op ((oblk (i := 3) 1 hO rfl rfl Try.underlying22 rfl rfl) _ (Same.refl _)) rfl rfl ?_
 refine GoR.op ((op_len Try.underlying22 rfl) _) rfl rfl ?_
 refine GoR.op ((op_assign rfl) _) rfl rfl ?_
 refine GoR.nil ?_
 refine Go1.seq ?_
 refine Go1.cut [(0, .pointer (some ⟨B10, 0, none⟩)), (1, .slice ya r397.length yb), (2, .int .i64 (-1 : Int)), (3, .int .i64 (-1 : Int)), (4, .string (gstr (([] : Str)))), (5, .int .i64 (-1 : Int)), (13, .int .i64 (0 : Int))] ⟨rfl, rfl, rfl, rfl, rfl, rfl, rfl, trivial⟩ ?_
 intro σ _
 refine Go1.drawS 1 [(0, .pure), (1, .pure), (2, .pure), (3, .stable), (4, .pure), (6, .pure), (5, .loud), (7, .last)] mixed (by kernel_rfl) ?_
 intro NE Hi
 have yc := Stp.same hO Hi
 replace aj := aj.ch yc.ch
 replace hO := yc.own
 replace bk := bk.ch yc.ch
 replace cQ := cQ.ch yc.ch
 replace hB := hB.trans yc.fr
 refine GoQ.pure rfl (op_move rfl) rfl rfl ?_
 refine GoQ.pure rfl (op_nilCheck rfl) rfl rfl ?_
 refine GoQ.pure rfl (op_fieldAddr Try.underlying72 rfl ti69 rfl (by decide)) rfl rfl ?_
 refine GoQ.stable rfl (oblk (i := 9) 1 hO rfl rfl Try.underlying69 rfl rfl) rfl rfl ?_
 refine GoQ.pure rfl (op_move rfl) rfl rfl ?_
 refine GoQ.pure rfl (op_move rfl) rfl rfl ?_
 refine GoQ.call rfl (op_call body61 rfl (walk_enumerate_text hO.lt cQ H)) (fun v w hr => by obtain ⟨_, _, hs, _, _⟩ := hr; assumption) rfl rfl ?_
 rintro NF NG ⟨r407, rfl, Hj, Mi, H⟩
 have yd := Stp.same hO Hj
 replace aj := aj.ch yd.ch
 replace hO := yd.own
 replace bk := bk.ch yd.ch
 replace cQ := cQ.ch yd.ch
 replace hB := hB.trans yd.fr
 have hobt := omapUpd (MK.str Try.underlying9) 2 hO rfl Try.underlying69 r407 (0 : Int)
 obtain ⟨NH, j3, ER⟩ := hobt
 refine GoQ.last rfl (ER (by exact rfl) (by exact rfl) (by exact rfl)) rfl rfl ?_
 replace aj := aj.ch j3.ch
 replace hO := j3.own
 replace bk := bk.ch j3.ch
 replace cQ := cQ.ch j3.ch
 replace hB := hB.trans j3.fr
 refine GoQ.nil ?_
 refine Go1.seq ?_
 refine Go1.region ?_
 refine GoR.op ((op_move rfl) _) rfl rfl ?_
 refine GoR.op ((op_move rfl) _) rfl rfl ?_
 refine GoR.op ((op_nilCheck rfl) _) rfl rfl ?_
 refine GoR.op ((op_fieldAddr Try.underlying72 rfl ti29 rfl (by decide)) _) rfl rfl ?_
 refine GoR.op ((op_fieldAddr Try.underlying29 rfl ti22 rfl (by decide)) _) rfl rfl ?_
 refine GoR.op ((oblk (i := 3) 1 hO rfl rfl Try.underlying22 rfl rfl) _ (Same.refl _)) rfl rfl ?_
 refine GoR.op ((op_move rfl) _) rfl rfl ?_
 have hobt := obuild (r := Rp.sl (Rp.int .i64)) (n := 1) (parts := [(0, .slice ya r397.length yb)]) (vs := [.slice ya r397.length yb]) (xs := [r397]) rfl Try.underlying22 ti26 hO (by decide) (by kernel_rfl) (Els.cons rfl ⟨ya, yb, rfl, cQ⟩ (Els.nil _ _ _) (by simp [mx])) rfl
 obtain ⟨KN, NI, ye, Hk, My, ES⟩ := hobt
 refine GoR.op (ES rfl) rfl rfl ?_
 replace aj := aj.ch ye.ch
 replace hO := ye.own
 replace bk := bk.ch ye.ch
 replace cQ := cQ.ch ye.ch
 replace hB := hB.trans ye.fr
 have hobt := freeze 0 hO rfl Hk
 obtain ⟨hO1, BV, d8, Hl⟩ := hobt
 replace bk := bk.ch BV
 replace cQ := cQ.ch BV
 replace aj := aj.ch BV
 replace hB := hB.trans (Owns.dropFr _ _ 0)
 replace hO := hO1; clear hO1
 have jt := Stp.nil (e := 26) (r := 1) hO
 replace aj := aj.ch jt.ch
 replace hO := jt.own
 replace bk := bk.ch jt.ch
 replace cQ := cQ.ch jt.ch
 replace d8 := d8.ch jt.ch
 replace hB := hB.trans jt.fr
 have iI := Els.nil (Rp.sl (Rp.int .i64)) (bl (.row 26 1 none 0 0 [] :: [.row 26 1 p35 n37 c36 gt, .blk B10 (.cells #[.int .i64 ((ix a0 (0 : Int)).length : Int), .bool true, .slice p35 n37 c36, .slice none 0 0, .slice none 0 0, .slice none 0 0, .slice none 0 0, .slice none 0 0, .int .i64 (0 : Int), .map (some B4), .slice none 0 0, .slice none 0 0, .slice none 0 0] 72 (0, 0)), .any (mapE (fun a : List UInt8 => Value.string (gstr a)) (fun a : Int => Value.int .i64 a) B4 (mput (([] : List (Str × Int))) r407 ((0 : Int))))]) ++ A) KN
 obtain ⟨KO, H⟩ := H
 have hobt := oapp Try.underlying22 ti26 rfl 0 hO rfl iI d8 Hl KO (by decide)
 obtain ⟨NJ, rG, rH, xJ, xC, eB, ET⟩ := hobt
 refine GoR.op (ET (by exact rfl) (by exact rfl)) rfl rfl ?_
 replace aj := aj.ch xC.ch
 replace hO := xC.own
 replace bk := bk.ch xC.ch
 replace cQ := cQ.ch xC.ch
 replace d8 := d8.ch xC.ch
 replace hB := hB.trans xC.fr
 refine GoR.op ((op_nilCheck rfl) _) rfl rfl ?_
 refine GoR.op ((op_fieldAddr Try.underlying72 rfl ti29 rfl (by decide)) _) rfl rfl ?_
 refine GoR.op ((op_fieldAddr Try.underlying29 rfl ti22 rfl (by decide)) _) rfl rfl ?_
 have hobt := oblkSt2 (v := .slice rG (0 + 1) rH) (i := 3) (cs' := #[.int .i64 ((ix a0 (0 : Int)).length : Int), .bool true, .slice p35 n37 c36, .slice rG (0 + 1) rH, .slice none 0 0, .slice none 0 0, .slice none 0 0, .slice none 0 0, .int .i64 (0 : Int), .map (some B4), .slice none 0 0, .slice none 0 0, .slice none 0 0]) 2 hO rfl rfl rfl rfl
 obtain ⟨NK, v7, EU⟩ := hobt
 refine GoR.op (EU Try.underlying22 rfl ti22 (by exact rfl) (by exact rfl)) rfl rfl ?_
 replace eB := eB.ch v7.ch
 replace aj := aj.ch v7.ch
 replace hO := v7.own
 replace bk := bk.ch v7.ch
 replace cQ := cQ.ch v7.ch
 replace d8 := d8.ch v7.ch
 replace hB := hB.trans v7.fr
 refine GoR.nil ?_
 refine Go1.seq ?_
 refine Go1.cut [(0, .pointer (some ⟨B10, 0, none⟩)), (2, .int .i64 (-1 : Int)), (3, .int .i64 (-1 : Int)), (4, .string (gstr (([] : Str)))), (5, .int .i64 (-1 : Int)), (13, .int .i64 (0 : Int))] ⟨rfl, rfl, rfl, rfl, rfl, rfl, trivial⟩ ?_
 intro σ _
 refine Go1.region ?_
 refine GoR.op ((op_move rfl) _) rfl rfl ?_
 refine GoR.op ((op_move rfl) _) rfl rfl ?_
 refine GoR.op ((op_nilCheck rfl) _) rfl rfl ?_
 refine GoR.op ((op_fieldAddr Try.underlying72 rfl ti29 rfl (by decide)) _) rfl rfl ?_
 refine GoR.op ((op_fieldAddr Try.underlying29 rfl ti26 rfl (by decide)) _) rfl rfl ?_
 refine GoR.op ((oblk (i := 4) 2 hO rfl rfl Try.underlying26 rfl rfl) _ (Same.refl _)) rfl rfl ?_
 refine GoR.op ((op_move rfl) _) rfl rfl ?_
 have hobt := obuild (r := Rp.int .i64) (n := 1) (parts := [(0, .int .i64 (-1 : Int))]) (vs := [.int .i64 (-1 : Int)]) (xs := [(-1 : Int)]) rfl Try.underlying26 ti3 hO (by decide) (by kernel_rfl) (Els.cons rfl rfl (Els.nil _ _ _) (by simp [mx])) rfl
 obtain ⟨KP, NL, v8, Hm, Mz, EV⟩ := hobt
 refine GoR.op (EV rfl) rfl rfl ?_
 replace eB := eB.ch v8.ch
 replace aj := aj.ch v8.ch
 replace hO := v8.own
 replace bk := bk.ch v8.ch
 replace cQ := cQ.ch v8.ch
 replace d8 := d8.ch v8.ch
 replace hB := hB.trans v8.fr
 have hobt := freeze 0 hO rfl Hm
 obtain ⟨hO1, yw, fC, Hn⟩ := hobt
 dsimp only [eS, eZ] at hO1 yw fC
 replace bk := bk.ch yw
 replace cQ := cQ.ch yw
 replace d8 := d8.ch yw
 replace eB := eB.ch yw
 replace aj := aj.ch yw
 replace hB := hB.trans (Owns.dropFr _ _ 0)
 dsimp only [eS, eZ] at hB
 replace hO := hO1; clear hO1
 have vu := Stp.nil (e := 3) (r := 1) hO
 replace eB := eB.ch vu.ch
 replace aj := aj.ch vu.ch
 replace hO := vu.own
 replace bk := bk.ch vu.ch
 replace cQ := cQ.ch vu.ch
 replace d8 := d8.ch vu.ch
 replace fC := fC.ch vu.ch
 replace hB := hB.trans vu.fr
 have Ho := Els.nil (Rp.int .i64) (bl (.row 3 1 none 0 0 [] :: [.row 26 1 rG (0 + 1) rH xJ, .row 26 1 p35 n37 c36 gt, .blk B10 (.cells #[.int .i64 ((ix a0 (0 : Int)).length : Int), .bool true, .slice p35 n37 c36, .slice rG (0 + 1) rH, .slice none 0 0, .slice none 0 0, .slice none 0 0, .slice none 0 0, .int .i64 (0 : Int), .map (some B4), .slice none 0 0, .slice none 0 0, .slice none 0 0] 72 (0, 0)), .any (mapE (fun a : List UInt8 => Value.string (gstr a)) (fun a : Int => Value.int .i64 a) B4 (mput (([] : List (Str × Int))) r407 ((0 : Int))))]) ++ A) KP
 obtain ⟨KQ, H⟩ := H
 have hobt := oapp Try.underlying26 ti3 rfl 0 hO rfl Ho fC Hn KQ (by decide)
 obtain ⟨NM, uc, ud, yy, uM, gi, A4⟩ := hobt
 dsimp only [sS, sZ] at uM gi
 refine GoR.op (A4 (by exact rfl) (by exact rfl)) rfl rfl ?_
 replace eB := eB.ch uM.ch
 replace aj := aj.ch uM.ch
 replace hO := uM.own
 replace bk := bk.ch uM.ch
 replace cQ := cQ.ch uM.ch
 replace d8 := d8.ch uM.ch
 replace fC := fC.ch uM.ch
 replace hB := hB.trans uM.fr
 refine GoR.op ((op_nilCheck rfl) _) rfl rfl ?_
 refine GoR.op ((op_fieldAddr Try.underlying72 rfl ti29 rfl (by decide)) _) rfl rfl ?_
 refine GoR.op ((op_fieldAddr Try.underlying29 rfl ti26 rfl (by decide)) _) rfl rfl ?_
 have hobt := oblkSt2 (v := .slice uc (0 + 1) ud) (i := 4) (cs' := #[.int .i64 ((ix a0 (0 : Int)).length : Int), .bool true, .slice p35 n37 c36, .slice rG (0 + 1) rH, .slice uc (0 + 1) ud, .slice none 0 0, .slice none 0 0, .slice none 0 0, .int .i64 (0 : Int), .map (some B4), .slice none 0 0, .slice none 0 0, .slice none 0 0]) 3 hO rfl rfl rfl rfl
 obtain ⟨NN, um, EW⟩ := hobt
 dsimp only [sS, sZ] at um
 refine GoR.op (EW Try.underlying26 rfl ti26 (by exact rfl) (by exact rfl)) rfl rfl ?_
 replace gi := gi.ch um.ch
 replace eB := eB.ch um.ch
 replace aj := aj.ch um.ch
 replace hO := um.own
 replace bk := bk.ch um.ch
 replace cQ := cQ.ch um.ch
 replace d8 := d8.ch um.ch
 replace fC := fC.ch um.ch
 replace hB := hB.trans um.fr
 refine GoR.nil ?_
 refine Go1.seq ?_
 refine Go1.region ?_
 refine GoR.op ((op_move rfl) _) rfl rfl ?_
 refine GoR.op ((op_move rfl) _) rfl rfl ?_
 refine GoR.op ((op_nilCheck rfl) _) rfl rfl ?_
 refine GoR.op ((op_fieldAddr Try.underlying72 rfl ti29 rfl (by decide)) _) rfl rfl ?_
 refine GoR.op ((op_fieldAddr Try.underlying29 rfl ti26 rfl (by decide)) _) rfl rfl ?_
 refine GoR.op ((oblk (i := 5) 3 hO rfl rfl Try.underlying26 rfl rfl) _ (Same.refl _)) rfl rfl ?_
 refine GoR.op ((op_move rfl) _) rfl rfl ?_
 have hobt := obuild (r := Rp.int .i64) (n := 1) (parts := [(0, .int .i64 (-1 : Int))]) (vs := [.int .i64 (-1 : Int)]) (xs := [(-1 : Int)]) rfl Try.underlying26 ti3 hO (by decide) (by kernel_rfl) (Els.cons rfl rfl (Els.nil _ _ _) (by simp [mx])) rfl
 obtain ⟨KR, NO, uN, Hp, MA, EX⟩ := hobt
 refine GoR.op (EX rfl) rfl rfl ?_
 replace gi := gi.ch uN.ch
 replace eB := eB.ch uN.ch
 replace aj := aj.ch uN.ch
 replace hO := uN.own
 replace bk := bk.ch uN.ch
 replace cQ := cQ.ch uN.ch
 replace d8 := d8.ch uN.ch
 replace fC := fC.ch uN.ch
 replace hB := hB.trans uN.fr
 have hobt := freeze 0 hO rfl Hp
 obtain ⟨hO1, wx, iJ, Hq⟩ := hobt
 dsimp only [eS, eZ] at hO1 wx iJ
 replace bk := bk.ch wx
 replace cQ := cQ.ch wx
 replace d8 := d8.ch wx
 replace fC := fC.ch wx
 replace gi := gi.ch wx
 replace eB := eB.ch wx
 replace aj := aj.ch wx
 replace hB := hB.trans (Owns.dropFr _ _ 0)
 dsimp only [eS, eZ] at hB
 replace hO := hO1; clear hO1
 have un := Stp.nil (e := 3) (r := 1) hO
 replace gi := gi.ch un.ch
 replace eB := eB.ch un.ch
 replace aj := aj.ch un.ch
 replace hO := un.own
 replace bk := bk.ch un.ch
 replace cQ := cQ.ch un.ch
 replace d8 := d8.ch un.ch
 replace fC := fC.ch un.ch
 replace iJ := iJ.ch un.ch
 replace hB := hB.trans un.fr
 have Hr := Els.nil (Rp.int .i64) (bl (.row 3 1 none 0 0 [] :: [.row 3 1 uc (0 + 1) ud yy, .row 26 1 rG (0 + 1) rH xJ, .row 26 1 p35 n37 c36 gt, .blk B10 (.cells #[.int .i64 ((ix a0 (0 : Int)).length : Int), .bool true, .slice p35 n37 c36, .slice rG (0 + 1) rH, .slice uc (0 + 1) ud, .slice none 0 0, .slice none 0 0, .slice none 0 0, .int .i64 (0 : Int), .map (some B4), .slice none 0 0, .slice none 0 0, .slice none 0 0] 72 (0, 0)), .any (mapE (fun a : List UInt8 => Value.string (gstr a)) (fun a : Int => Value.int .i64 a) B4 (mput (([] : List (Str × Int))) r407 ((0 : Int))))]) ++ A) KR
 obtain ⟨KS, H⟩ := H
 have hobt := oapp Try.underlying26 ti3 rfl 0 hO rfl Hr iJ Hq KS (by decide)
 obtain ⟨NP, u4, u5, zL, tR, jS, EY⟩ := hobt
 dsimp only [sS, sZ] at tR jS
 refine GoR.op (EY (by exact rfl) (by exact rfl)) rfl rfl ?_
 replace gi := gi.ch tR.ch
 replace eB := eB.ch tR.ch
 replace aj := aj.ch tR.ch
 replace hO := tR.own
 replace bk := bk.ch tR.ch
 replace cQ := cQ.ch tR.ch
 replace d8 := d8.ch tR.ch
 replace fC := fC.ch tR.ch
 replace iJ := iJ.ch tR.ch
 replace hB := hB.trans tR.fr
 refine GoR.op ((op_nilCheck rfl) _) rfl rfl ?_
 refine GoR.op ((op_fieldAddr Try.underlying72 rfl ti29 rfl (by decide)) _) rfl rfl ?_
 refine GoR.op ((op_fieldAddr Try.underlying29 rfl ti26 rfl (by decide)) _) rfl rfl ?_
 have hobt := oblkSt2 (v := .slice u4 (0 + 1) u5) (i := 5) (cs' := #[.int .i64 ((ix a0 (0 : Int)).length : Int), .bool true, .slice p35 n37 c36, .slice rG (0 + 1) rH, .slice uc (0 + 1) ud, .slice u4 (0 + 1) u5, .slice none 0 0, .slice none 0 0, .int .i64 (0 : Int), .map (some B4), .slice none 0 0, .slice none 0 0, .slice none 0 0]) 4 hO rfl rfl rfl rfl
 obtain ⟨NQ, ss, EZ⟩ := hobt
 dsimp only [sS, sZ] at ss
 refine GoR.op (EZ Try.underlying26 rfl ti26 (by exact rfl) (by exact rfl)) rfl rfl ?_
 replace jS := jS.ch ss.ch
 replace gi := gi.ch ss.ch
 replace eB := eB.ch ss.ch
 replace aj := aj.ch ss.ch
 replace hO := ss.own
 replace bk := bk.ch ss.ch
 replace cQ := cQ.ch ss.ch
 replace d8 := d8.ch ss.ch
 replace fC := fC.ch ss.ch
 replace iJ := iJ.ch ss.ch
 replace hB := hB.trans ss.fr
 refine GoR.nil ?_
 refine Go1.seq ?_
 refine Go1.cut [(0, .pointer (some ⟨B10, 0, none⟩)), (4, .string (gstr (([] : Str)))), (5, .int .i64 (-1 : Int)), (13, .int .i64 (0 : Int))] ⟨rfl, rfl, rfl, rfl, trivial⟩ ?_
 intro σ _
 refine Go1.region ?_
 refine GoR.op ((op_move rfl) _) rfl rfl ?_
 refine GoR.op ((op_move rfl) _) rfl rfl ?_
 refine GoR.op ((op_nilCheck rfl) _) rfl rfl ?_
 refine GoR.op ((op_fieldAddr Try.underlying72 rfl ti70 rfl (by decide)) _) rfl rfl ?_
 refine GoR.op ((oblk (i := 10) 4 hO rfl rfl Try.underlying70 rfl rfl) _ (Same.refl _)) rfl rfl ?_
 refine GoR.op ((op_move rfl) _) rfl rfl ?_
 have hobt := obuild (r := Rp.str) (n := 1) (parts := [(0, .string (gstr (([] : Str))))]) (vs := [.string (gstr (([] : Str)))]) (xs := [([] : Str)]) rfl Try.underlying70 ti9 hO (by decide) (by kernel_rfl) (Els.cons rfl ⟨rfl, (by decide)⟩ (Els.nil _ _ _) (by simp [mx])) rfl
 obtain ⟨KT, NR, fY, wy, MB, E0⟩ := hobt
 refine GoR.op (E0 rfl) rfl rfl ?_
 replace jS := jS.ch fY.ch
 replace gi := gi.ch fY.ch
 replace eB := eB.ch fY.ch
 replace aj := aj.ch fY.ch
 replace hO := fY.own
 replace bk := bk.ch fY.ch
 replace cQ := cQ.ch fY.ch
 replace d8 := d8.ch fY.ch
 replace fC := fC.ch fY.ch
 replace iJ := iJ.ch fY.ch
 replace hB := hB.trans fY.fr
 have hobt := freeze 0 hO rfl wy
 obtain ⟨hO1, ve, mJ, Hs⟩ := hobt
 dsimp only [eS, eZ] at hO1 ve mJ
 replace bk := bk.ch ve
 replace cQ := cQ.ch ve
 replace d8 := d8.ch ve
 replace fC := fC.ch ve
 replace iJ := iJ.ch ve
 replace jS := jS.ch ve
 replace gi := gi.ch ve
 replace eB := eB.ch ve
 replace aj := aj.ch ve
 replace hB := hB.trans (Owns.dropFr _ _ 0)
 dsimp only [eS, eZ] at hB
 replace hO := hO1; clear hO1
 have su := Stp.nil (e := 9) (r := 1) hO
 replace jS := jS.ch su.ch
 replace gi := gi.ch su.ch
 replace eB := eB.ch su.ch
 replace aj := aj.ch su.ch
 replace hO := su.own
 replace bk := bk.ch su.ch
 replace cQ := cQ.ch su.ch
 replace d8 := d8.ch su.ch
 replace fC := fC.ch su.ch
 replace iJ := iJ.ch su.ch
 replace mJ := mJ.ch su.ch
 replace hB := hB.trans su.fr
 have Ht := Els.nil (Rp.str) (bl (.row 9 1 none 0 0 [] :: [.row 3 1 u4 (0 + 1) u5 zL, .row 3 1 uc (0 + 1) ud yy, .row 26 1 rG (0 + 1) rH xJ, .row 26 1 p35 n37 c36 gt, .blk B10 (.cells #[.int .i64 ((ix a0 (0 : Int)).length : Int), .bool true, .slice p35 n37 c36, .slice rG (0 + 1) rH, .slice uc (0 + 1) ud, .slice u4 (0 + 1) u5, .slice none 0 0, .slice none 0 0, .int .i64 (0 : Int), .map (some B4), .slice none 0 0, .slice none 0 0, .slice none 0 0] 72 (0, 0)), .any (mapE (fun a : List UInt8 => Value.string (gstr a)) (fun a : Int => Value.int .i64 a) B4 (mput (([] : List (Str × Int))) r407 ((0 : Int))))]) ++ A) KT
 obtain ⟨KU, H⟩ := H
 have hobt := oapp Try.underlying70 ti9 rfl 0 hO rfl Ht mJ Hs KU (by decide)
 obtain ⟨NS, wJ, wK, AK, qS, pN, E3⟩ := hobt
 dsimp only [sS, sZ] at qS pN
 refine GoR.op (E3 (by exact rfl) (by exact rfl)) rfl rfl ?_
 replace jS := jS.ch qS.ch
 replace gi := gi.ch qS.ch
 replace eB := eB.ch qS.ch
 replace aj := aj.ch qS.ch
 replace hO := qS.own
 replace bk := bk.ch qS.ch
 replace cQ := cQ.ch qS.ch
 replace d8 := d8.ch qS.ch
 replace fC := fC.ch qS.ch
 replace iJ := iJ.ch qS.ch
 replace mJ := mJ.ch qS.ch
 replace hB := hB.trans qS.fr
 refine GoR.op ((op_nilCheck rfl) _) rfl rfl ?_
 refine GoR.op ((op_fieldAddr Try.underlying72 rfl ti70 rfl (by decide)) _) rfl rfl ?_
 have hobt := oblkSt2 (v := .slice wJ (0 + 1) wK) (i := 10) (cs' := #[.int .i64 ((ix a0 (0 : Int)).length : Int), .bool true, .slice p35 n37 c36, .slice rG (0 + 1) rH, .slice uc (0 + 1) ud, .slice u4 (0 + 1) u5, .slice none 0 0, .slice none 0 0, .int .i64 (0 : Int), .map (some B4), .slice wJ (0 + 1) wK, .slice none 0 0, .slice none 0 0]) 5 hO rfl rfl rfl rfl
 obtain ⟨NT, p6, A5⟩ := hobt
 dsimp only [sS, sZ] at p6
 refine GoR.op (A5 Try.underlying70 rfl ti70 (by exact rfl) (by exact rfl)) rfl rfl ?_
 replace pN := pN.ch p6.ch
 replace jS := jS.ch p6.ch
 replace gi := gi.ch p6.ch
 replace eB := eB.ch p6.ch
 replace aj := aj.ch p6.ch
 replace hO := p6.own
 replace bk := bk.ch p6.ch
 replace cQ := cQ.ch p6.ch
 replace d8 := d8.ch p6.ch
 replace fC := fC.ch p6.ch
 replace iJ := iJ.ch p6.ch
 replace mJ := mJ.ch p6.ch
 replace hB := hB.trans p6.fr
 refine GoR.nil ?_
 refine Go1.seq ?_
 refine Go1.region ?_
 refine GoR.op ((op_move rfl) _) rfl rfl ?_
 refine GoR.op ((op_move rfl) _) rfl rfl ?_
 refine GoR.op ((op_nilCheck rfl) _) rfl rfl ?_
 refine GoR.op ((op_fieldAddr Try.underlying72 rfl ti26 rfl (by decide)) _) rfl rfl ?_
 refine GoR.op ((oblk (i := 11) 5 hO rfl rfl Try.underlying26 rfl rfl) _ (Same.refl _)) rfl rfl ?_
 refine GoR.op ((op_move rfl) _) rfl rfl ?_
 have hobt := obuild (r := Rp.int .i64) (n := 1) (parts := [(0, .int .i64 (-1 : Int))]) (vs := [.int .i64 (-1 : Int)]) (xs := [(-1 : Int)]) rfl Try.underlying26 ti3 hO (by decide) (by kernel_rfl) (Els.cons rfl rfl (Els.nil _ _ _) (by simp [mx])) rfl
 obtain ⟨KV, NU, qT, Hu, MC, E4⟩ := hobt
 refine GoR.op (E4 rfl) rfl rfl ?_
 replace pN := pN.ch qT.ch
 replace jS := jS.ch qT.ch
 replace gi := gi.ch qT.ch
 replace eB := eB.ch qT.ch
 replace aj := aj.ch qT.ch
 replace hO := qT.own
 replace bk := bk.ch qT.ch
 replace cQ := cQ.ch qT.ch
 replace d8 := d8.ch qT.ch
 replace fC := fC.ch qT.ch
 replace iJ := iJ.ch qT.ch
 replace mJ := mJ.ch qT.ch
 replace hB := hB.trans qT.fr
 have hobt := freeze 0 hO rfl Hu
 obtain ⟨hO1, uu, uv, Hv⟩ := hobt
 dsimp only [eS, eZ] at hO1 uu uv
 replace bk := bk.ch uu
 replace cQ := cQ.ch uu
 replace d8 := d8.ch uu
 replace fC := fC.ch uu
 replace iJ := iJ.ch uu
 replace mJ := mJ.ch uu
 replace pN := pN.ch uu
 replace jS := jS.ch uu
 replace gi := gi.ch uu
 replace eB := eB.ch uu
 replace aj := aj.ch uu
 replace hB := hB.trans (Owns.dropFr _ _ 0)
 dsimp only [eS, eZ] at hB
 replace hO := hO1; clear hO1
 have qa := Stp.nil (e := 3) (r := 1) hO
 replace pN := pN.ch qa.ch
 replace jS := jS.ch qa.ch
 replace gi := gi.ch qa.ch
 replace eB := eB.ch qa.ch
 replace aj := aj.ch qa.ch
 replace hO := qa.own
 replace bk := bk.ch qa.ch
 replace cQ := cQ.ch qa.ch
 replace d8 := d8.ch qa.ch
 replace fC := fC.ch qa.ch
 replace iJ := iJ.ch qa.ch
 replace mJ := mJ.ch qa.ch
 replace uv := uv.ch qa.ch
 replace hB := hB.trans qa.fr
 have Hw := Els.nil (Rp.int .i64) (bl (.row 3 1 none 0 0 [] :: [.row 9 1 wJ (0 + 1) wK AK, .row 3 1 u4 (0 + 1) u5 zL, .row 3 1 uc (0 + 1) ud yy, .row 26 1 rG (0 + 1) rH xJ, .row 26 1 p35 n37 c36 gt, .blk B10 (.cells #[.int .i64 ((ix a0 (0 : Int)).length : Int), .bool true, .slice p35 n37 c36, .slice rG (0 + 1) rH, .slice uc (0 + 1) ud, .slice u4 (0 + 1) u5, .slice none 0 0, .slice none 0 0, .int .i64 (0 : Int), .map (some B4), .slice wJ (0 + 1) wK, .slice none 0 0, .slice none 0 0] 72 (0, 0)), .any (mapE (fun a : List UInt8 => Value.string (gstr a)) (fun a : Int => Value.int .i64 a) B4 (mput (([] : List (Str × Int))) r407 ((0 : Int))))]) ++ A) KV
 obtain ⟨KW, H⟩ := H
 have hobt := oapp Try.underlying26 ti3 rfl 0 hO rfl Hw uv Hv KW (by decide)
 obtain ⟨NV, y7, y8, BW, gv, wz, E5⟩ := hobt
 dsimp only [sS, sZ] at gv wz
 refine GoR.op (E5 (by exact rfl) (by exact rfl)) rfl rfl ?_
 replace pN := pN.ch gv.ch
 replace jS := jS.ch gv.ch
 replace gi := gi.ch gv.ch
 replace eB := eB.ch gv.ch
 replace aj := aj.ch gv.ch
 replace hO := gv.own
 replace bk := bk.ch gv.ch
 replace cQ := cQ.ch gv.ch
 replace d8 := d8.ch gv.ch
 replace fC := fC.ch gv.ch
 replace iJ := iJ.ch gv.ch
 replace mJ := mJ.ch gv.ch
 replace uv := uv.ch gv.ch
 replace hB := hB.trans gv.fr
 refine GoR.op ((op_nilCheck rfl) _) rfl rfl ?_
 refine GoR.op ((op_fieldAddr Try.underlying72 rfl ti26 rfl (by decide)) _) rfl rfl ?_
 have hobt := oblkSt2 (v := .slice y7 (0 + 1) y8) (i := 11) (cs' := #[.int .i64 ((ix a0 (0 : Int)).length : Int), .bool true, .slice p35 n37 c36, .slice rG (0 + 1) rH, .slice uc (0 + 1) ud, .slice u4 (0 + 1) u5, .slice none 0 0, .slice none 0 0, .int .i64 (0 : Int), .map (some B4), .slice wJ (0 + 1) wK, .slice y7 (0 + 1) y8, .slice none 0 0]) 6 hO rfl rfl rfl rfl
 obtain ⟨E6, oz, E7⟩ := hobt
 dsimp only [sS, sZ] at oz
 refine GoR.op (E7 Try.underlying26 rfl ti26 (by exact rfl) (by exact rfl)) rfl rfl ?_
 replace wz := wz.ch oz.ch
 replace pN := pN.ch oz.ch
 replace jS := jS.ch oz.ch
 replace gi := gi.ch oz.ch
 replace eB := eB.ch oz.ch
 replace aj := aj.ch oz.ch
 replace hO := oz.own
 replace bk := bk.ch oz.ch
 replace cQ := cQ.ch oz.ch
 replace d8 := d8.ch oz.ch
 replace fC := fC.ch oz.ch
 replace iJ := iJ.ch oz.ch
 replace mJ := mJ.ch oz.ch
 replace uv := uv.ch oz.ch
 replace hB := hB.trans oz.fr
 refine GoR.nil ?_
 refine Go1.seq ?_
 refine Go1.cut [(13, .int .i64 (0 : Int))] ⟨rfl, trivial⟩ ?_
 intro σ _
 refine Go1.region ?_
 refine GoR.op ((op_move rfl) _) rfl rfl ?_
 refine GoR.op ((op_assign rfl) _) rfl rfl ?_
 refine GoR.nil ?_
 refine Go1.ret1V Try.func65 rfl (show _ = .int .i64 (0 : Int) from rfl) ?_
 refine hR403 _ _ ?_
 refine GoR.op ((op_assign rfl) _) rfl rfl ?_
 refine GoR.nil ?_
 refine Go1.seq ?_
 refine Go1.seq ?_
 refine Go1.region ?_
 refine GoR.op ((op_move rfl) _) rfl rfl ?_
 refine GoR.op ((op_nilCheck rfl) _) rfl rfl ?_
 refine GoR.op ((op_fieldAddr Try.underlying72 rfl ti29 rfl (by decide)) _) rfl rfl ?_
 refine GoR.op ((op_fieldAddr Try.underlying29 rfl ti22 rfl (by decide)) _) rfl rfl ?_
 refine GoR.op ((oblk (i := 2) 6 hO rfl rfl Try.underlying22 rfl rfl) _ (Same.refl _)) rfl rfl ?_
 refine GoR.op ((op_lenN Try.underlying22 rfl (aj.neq hO 5 rfl)) _) rfl rfl ?_
 refine GoR.op ((op_move rfl) _) rfl rfl ?_
 refine GoR.nil ?_
 refine Go1.block ?_
 have pp := Stp.nil (e := 39) (r := 2) hO
 replace wz := wz.ch pp.ch
 replace pN := pN.ch pp.ch
 replace jS := jS.ch pp.ch
 replace gi := gi.ch pp.ch
 replace eB := eB.ch pp.ch
 replace aj := aj.ch pp.ch
 replace hO := pp.own
 replace bk := bk.ch pp.ch
 replace cQ := cQ.ch pp.ch
 replace d8 := d8.ch pp.ch
 replace fC := fC.ch pp.ch
 replace iJ := iJ.ch pp.ch
 replace mJ := mJ.ch pp.ch
 replace uv := uv.ch pp.ch
 replace hB := hB.trans pp.fr
 have BX := Els.nil (rpRule) (bl (.row 39 2 none 0 0 [] :: [.row 3 1 y7 (0 + 1) y8 BW, .row 9 1 wJ (0 + 1) wK AK, .row 3 1 u4 (0 + 1) u5 zL, .row 3 1 uc (0 + 1) ud yy, .row 26 1 rG (0 + 1) rH xJ, .row 26 1 p35 n37 c36 gt, .blk B10 (.cells #[.int .i64 ((ix a0 (0 : Int)).length : Int), .bool true, .slice p35 n37 c36, .slice rG (0 + 1) rH, .slice uc (0 + 1) ud, .slice u4 (0 + 1) u5, .slice none 0 0, .slice none 0 0, .int .i64 (0 : Int), .map (some B4), .slice wJ (0 + 1) wK, .slice y7 (0 + 1) y8, .slice none 0 0] 72 (0, 0)), .any (mapE (fun a : List UInt8 => Value.string (gstr a)) (fun a : Int => Value.int .i64 a) B4 (mput (([] : List (Str × Int))) r407 ((0 : Int))))]) ++ A) E6
 have oA := Stp.nil (e := 3) (r := 1) hO
 replace BX := BX.ch oA.ch
 replace wz := wz.ch oA.ch
 replace pN := pN.ch oA.ch
 replace jS := jS.ch oA.ch
 replace gi := gi.ch oA.ch
 replace eB := eB.ch oA.ch
 replace aj := aj.ch oA.ch
 replace hO := oA.own
 replace bk := bk.ch oA.ch
 replace cQ := cQ.ch oA.ch
 replace d8 := d8.ch oA.ch
 replace fC := fC.ch oA.ch
 replace iJ := iJ.ch oA.ch
 replace mJ := mJ.ch oA.ch
 replace uv := uv.ch oA.ch
 replace hB := hB.trans oA.fr
 have Hx := Els.nil (Rp.int .i64) (bl (.row 3 1 none 0 0 [] :: [.row 39 2 none 0 0 [], .row 3 1 y7 (0 + 1) y8 BW, .row 9 1 wJ (0 + 1) wK AK, .row 3 1 u4 (0 + 1) u5 zL, .row 3 1 uc (0 + 1) ud yy, .row 26 1 rG (0 + 1) rH xJ, .row 26 1 p35 n37 c36 gt, .blk B10 (.cells #[.int .i64 ((ix a0 (0 : Int)).length : Int), .bool true, .slice p35 n37 c36, .slice rG (0 + 1) rH, .slice uc (0 + 1) ud, .slice u4 (0 + 1) u5, .slice none 0 0, .slice none 0 0, .int .i64 (0 : Int), .map (some B4), .slice wJ (0 + 1) wK, .slice y7 (0 + 1) y8, .slice none 0 0] 72 (0, 0)), .any (mapE (fun a : List UInt8 => Value.string (gstr a)) (fun a : Int => Value.int .i64 a) B4 (mput (([] : List (Str × Int))) r407 ((0 : Int))))]) ++ A) E6
 refine Go1.loopW (S := Nat × List Int × List Rule × List Int × List Str × List Int × List Int × List (List Int) × (List (Str × Int))) (fun s σ w => match s with | (k3_548, d_549, d_555, d_561, d_567, d_573, d_579, d_585, m3_591) => ∃ (jP : Nat), ∃ (lS : Option Addr), ∃ (lT : Nat), ∃ (tA : List Value), ∃ (j4 : Nat), ∃ (lq : Option Addr), ∃ (lr : Nat), ∃ (rI : List Value), ∃ (j5 : Nat), ∃ (lv : Option Addr), ∃ (lw : Nat), ∃ (rJ : List Value), ∃ (j6 : Nat), ∃ (lU : Option Addr), ∃ (lV : Nat), ∃ (rK : List Value), ∃ (j7 : Nat), ∃ (l5 : Option Addr), ∃ (l7 : Nat), ∃ (rL : List Value), ∃ (j8 : Nat), ∃ (mE : Option Addr), ∃ (mF : Nat), ∃ (rM : List Value), ∃ (j9 : Nat), ∃ (nc : Option Addr), ∃ (ne : Nat), ∃ (rN : List Value), agrees σ [(6, .pointer (some ⟨B10, 0, none⟩)), (9, .int .i64 (0 : Int)), (85, .slice p35 n37 c36), (86, .int .i64 (d_32.length : Int)), (87, .int .i64 (k3_548 : Int))] ∧ Owns w0.heap.size w [.row 3 1 lS jP lT tA, .row 39 2 lq j4 lr rI, .row 3 1 lv j5 lw rJ, .row 9 1 lU j6 lV rK, .row 3 1 l5 j7 l7 rL, .row 3 1 mE j8 mF rM, .row 26 1 nc j9 ne rN, .row 26 1 p35 n37 c36 gt, .blk B10 (.cells #[.int .i64 ((ix a0 (0 : Int)).length : Int), .bool true, .slice p35 n37 c36, .slice nc j9 ne, .slice mE j8 mF, .slice l5 j7 l7, .slice none 0 0, .slice lq j4 lr, .int .i64 (0 : Int), .map (some B4), .slice lU j6 lV, .slice lv j5 lw, .slice lS jP lT] 72 (0, 0)), .any (mapE (fun a : List UInt8 => Value.string (gstr a)) (fun a : Int => Value.int .i64 a) B4 m3_591)] A ∧ Els (Rp.int .i64) (bl [.row 3 1 lS jP lT tA, .row 39 2 lq j4 lr rI, .row 3 1 lv j5 lw rJ, .row 9 1 lU j6 lV rK, .row 3 1 l5 j7 l7 rL, .row 3 1 mE j8 mF rM, .row 26 1 nc j9 ne rN, .row 26 1 p35 n37 c36 gt, .blk B10 (.cells #[.int .i64 ((ix a0 (0 : Int)).length : Int), .bool true, .slice p35 n37 c36, .slice nc j9 ne, .slice mE j8 mF, .slice l5 j7 l7, .slice none 0 0, .slice lq j4 lr, .int .i64 (0 : Int), .map (some B4), .slice lU j6 lV, .slice lv j5 lw, .slice lS jP lT] 72 (0, 0)), .any (mapE (fun a : List UInt8 => Value.string (gstr a)) (fun a : Int => Value.int .i64 a) B4 m3_591)] ++ A) w tA d_549 ∧ Els (rpRule) (bl [.row 3 1 lS jP lT tA, .row 39 2 lq j4 lr rI, .row 3 1 lv j5 lw rJ, .row 9 1 lU j6 lV rK, .row 3 1 l5 j7 l7 rL, .row 3 1 mE j8 mF rM, .row 26 1 nc j9 ne rN, .row 26 1 p35 n37 c36 gt, .blk B10 (.cells #[.int .i64 ((ix a0 (0 : Int)).length : Int), .bool true, .slice p35 n37 c36, .slice nc j9 ne, .slice mE j8 mF, .slice l5 j7 l7, .slice none 0 0, .slice lq j4 lr, .int .i64 (0 : Int), .map (some B4), .slice lU j6 lV, .slice lv j5 lw, .slice lS jP lT] 72 (0, 0)), .any (mapE (fun a : List UInt8 => Value.string (gstr a)) (fun a : Int => Value.int .i64 a) B4 m3_591)] ++ A) w rI d_555 ∧ Els (Rp.int .i64) (bl [.row 3 1 lS jP lT tA, .row 39 2 lq j4 lr rI, .row 3 1 lv j5 lw rJ, .row 9 1 lU j6 lV rK, .row 3 1 l5 j7 l7 rL, .row 3 1 mE j8 mF rM, .row 26 1 nc j9 ne rN, .row 26 1 p35 n37 c36 gt, .blk B10 (.cells #[.int .i64 ((ix a0 (0 : Int)).length : Int), .bool true, .slice p35 n37 c36, .slice nc j9 ne, .slice mE j8 mF, .slice l5 j7 l7, .slice none 0 0, .slice lq j4 lr, .int .i64 (0 : Int), .map (some B4), .slice lU j6 lV, .slice lv j5 lw, .slice lS jP lT] 72 (0, 0)), .any (mapE (fun a : List UInt8 => Value.string (gstr a)) (fun a : Int => Value.int .i64 a) B4 m3_591)] ++ A) w rJ d_561 ∧ Els (Rp.str) (bl [.row 3 1 lS jP lT tA, .row 39 2 lq j4 lr rI, .row 3 1 lv j5 lw rJ, .row 9 1 lU j6 lV rK, .row 3 1 l5 j7 l7 rL, .row 3 1 mE j8 mF rM, .row 26 1 nc j9 ne rN, .row 26 1 p35 n37 c36 gt, .blk B10 (.cells #[.int .i64 ((ix a0 (0 : Int)).length : Int), .bool true, .slice p35 n37 c36, .slice nc j9 ne, .slice mE j8 mF, .slice l5 j7 l7, .slice none 0 0, .slice lq j4 lr, .int .i64 (0 : Int), .map (some B4), .slice lU j6 lV, .slice lv j5 lw, .slice lS jP lT] 72 (0, 0)), .any (mapE (fun a : List UInt8 => Value.string (gstr a)) (fun a : Int => Value.int .i64 a) B4 m3_591)] ++ A) w rK d_567 ∧ Els (Rp.int .i64) (bl [.row 3 1 lS jP lT tA, .row 39 2 lq j4 lr rI, .row 3 1 lv j5 lw rJ, .row 9 1 lU j6 lV rK, .row 3 1 l5 j7 l7 rL, .row 3 1 mE j8 mF rM, .row 26 1 nc j9 ne rN, .row 26 1 p35 n37 c36 gt, .blk B10 (.cells #[.int .i64 ((ix a0 (0 : Int)).length : Int), .bool true, .slice p35 n37 c36, .slice nc j9 ne, .slice mE j8 mF, .slice l5 j7 l7, .slice none 0 0, .slice lq j4 lr, .int .i64 (0 : Int), .map (some B4), .slice lU j6 lV, .slice lv j5 lw, .slice lS jP lT] 72 (0, 0)), .any (mapE (fun a : List UInt8 => Value.string (gstr a)) (fun a : Int => Value.int .i64 a) B4 m3_591)] ++ A) w rL d_573 ∧ Els (Rp.int .i64) (bl [.row 3 1 lS jP lT tA, .row 39 2 lq j4 lr rI, .row 3 1 lv j5 lw rJ, .row 9 1 lU j6 lV rK, .row 3 1 l5 j7 l7 rL, .row 3 1 mE j8 mF rM, .row 26 1 nc j9 ne rN, .row 26 1 p35 n37 c36 gt, .blk B10 (.cells #[.int .i64 ((ix a0 (0 : Int)).length : Int), .bool true, .slice p35 n37 c36, .slice nc j9 ne, .slice mE j8 mF, .slice l5 j7 l7, .slice none 0 0, .slice lq j4 lr, .int .i64 (0 : Int), .map (some B4), .slice lU j6 lV, .slice lv j5 lw, .slice lS jP lT] 72 (0, 0)), .any (mapE (fun a : List UInt8 => Value.string (gstr a)) (fun a : Int => Value.int .i64 a) B4 m3_591)] ++ A) w rM d_579 ∧ Els (Rp.sl (Rp.int .i64)) (bl [.row 3 1 lS jP lT tA, .row 39 2 lq j4 lr rI, .row 3 1 lv j5 lw rJ, .row 9 1 lU j6 lV rK, .row 3 1 l5 j7 l7 rL, .row 3 1 mE j8 mF rM, .row 26 1 nc j9 ne rN, .row 26 1 p35 n37 c36 gt, .blk B10 (.cells #[.int .i64 ((ix a0 (0 : Int)).length : Int), .bool true, .slice p35 n37 c36, .slice nc j9 ne, .slice mE j8 mF, .slice l5 j7 l7, .slice none 0 0, .slice lq j4 lr, .int .i64 (0 : Int), .map (some B4), .slice lU j6 lV, .slice lv j5 lw, .slice lS jP lT] 72 (0, 0)), .any (mapE (fun a : List UInt8 => Value.string (gstr a)) (fun a : Int => Value.int .i64 a) B4 m3_591)] ++ A) w rN d_585 ∧ Els (Rp.sl (Rp.int .i64)) (bl [.row 3 1 lS jP lT tA, .row 39 2 lq j4 lr rI, .row 3 1 lv j5 lw rJ, .row 9 1 lU j6 lV rK, .row 3 1 l5 j7 l7 rL, .row 3 1 mE j8 mF rM, .row 26 1 nc j9 ne rN, .row 26 1 p35 n37 c36 gt, .blk B10 (.cells #[.int .i64 ((ix a0 (0 : Int)).length : Int), .bool true, .slice p35 n37 c36, .slice nc j9 ne, .slice mE j8 mF, .slice l5 j7 l7, .slice none 0 0, .slice lq j4 lr, .int .i64 (0 : Int), .map (some B4), .slice lU j6 lV, .slice lv j5 lw, .slice lS jP lT] 72 (0, 0)), .any (mapE (fun a : List UInt8 => Value.string (gstr a)) (fun a : Int => Value.int .i64 a) B4 m3_591)] ++ A) w gt d_32 ∧ Fr (bl []) w0 (bl [.row 3 1 lS jP lT tA, .row 39 2 lq j4 lr rI, .row 3 1 lv j5 lw rJ, .row 9 1 lU j6 lV rK, .row 3 1 l5 j7 l7 rL, .row 3 1 mE j8 mF rM, .row 26 1 nc j9 ne rN, .row 26 1 p35 n37 c36 gt, .blk B10 (.cells #[.int .i64 ((ix a0 (0 : Int)).length : Int), .bool true, .slice p35 n37 c36, .slice nc j9 ne, .slice mE j8 mF, .slice l5 j7 l7, .slice none 0 0, .slice lq j4 lr, .int .i64 (0 : Int), .map (some B4), .slice lU j6 lV, .slice lv j5 lw, .slice lS jP lT] 72 (0, 0)), .any (mapE (fun a : List UInt8 => Value.string (gstr a)) (fun a : Int => Value.int .i64 a) B4 m3_591)]) w) H ⟨0, none, 0, [], 0, none, 0, [], 0 + 1, y7, y8, BW, 0 + 1, wJ, wK, AK, 0 + 1, u4, u5, zL, 0 + 1, uc, ud, yy, 0 + 1, rG, rH, xJ, ⟨rfl, rfl, rfl, rfl, rfl, trivial⟩, hO, Hx, BX, wz, pN, jS, gi, eB, aj, hB⟩ ?_
 intro X3
 refine prE fun k3_548 => prE fun d_549 => prE fun d_555 => prE fun d_561 => prE fun d_567 => prE fun d_573 => prE fun d_579 => prE fun d_585 => fun m3_591 => ?_
 intro H hX3 σ KX
 refine exE fun jP => exE fun lS => exE fun lT => exE fun tA => exE fun j4 => exE fun lq => exE fun lr => exE fun rI => exE fun j5 => exE fun lv => exE fun lw => exE fun rJ => exE fun j6 => exE fun lU => exE fun lV => exE fun rK => exE fun j7 => exE fun l5 => exE fun l7 => exE fun rL => exE fun j8 => exE fun mE => exE fun mF => exE fun rM => exE fun j9 => exE fun nc => exE fun ne => exE fun rN => andE fun hag => andE fun hO => andE fun bE => andE fun bK => andE fun bM => andE fun bY => andE fun cy => andE fun cW => andE fun dB => andE fun aj => fun hB => ?_
 dsimp only at H
 refine Go1.keep [(6, .pointer (some ⟨B10, 0, none⟩)), (9, .int .i64 (0 : Int)), (85, .slice p35 n37 c36), (86, .int .i64 (d_32.length : Int)), (87, .int .i64 (k3_548 : Int))] hag ?_
 refine Go1.seq ?_
 refine Go1.region ?_
 by_cases Ab : (k3_548 : Int) < (d_32.length : Int)
 ·replace H := ifp Ab H
  refine GoR.op ((fun w => opB (op_lss rfl rfl w) (decide_eq_true Ab)) _) rfl rfl ?_
  refine GoR.nil ?_
  refine Go1.seq ?_
  refine Go1.condT rfl rfl ?_
  refine Go1.skip ?_
  refine Go1.seq ?_
  refine Go1.block ?_
  refine Go1.seq ?_
  refine Go1.region ?_
  refine GoR.op ((op_move rfl) _) rfl rfl ?_
  obtain ⟨Dc, H⟩ := H
  obtain ⟨Dd, H⟩ := H
  refine GoR.op ((op_index Try.underlying22 ti26 rfl rfl Dc (ltn (aj.neq hO 7 rfl) Dd) (aj.psome hO 7 rfl Dc Dd)) _) rfl rfl ?_
  have hobt := oldSl 7 hO rfl aj Dc Dd
  obtain ⟨E8, E9, ct, Hy⟩ := hobt
  refine GoR.op ((Hy Try.underlying26 rfl rfl) _ (Same.refl _)) rfl rfl ?_
  refine GoR.op ((op_assign rfl) _) rfl rfl ?_
  refine GoR.op ((op_assign rfl) _) rfl rfl ?_
  refine GoR.nil ?_
  refine Go1.seq ?_
  refine Go1.region ?_
  refine GoR.op ((op_move rfl) _) rfl rfl ?_
  obtain ⟨KY, H⟩ := H
  refine GoR.op ((op_add rfl rfl (wrap_i64 KY)) _) rfl rfl ?_
  refine GoR.op ((op_conv Try.underlying3 Try.underlying21 rfl rfl) _) rfl rfl ?_
  obtain ⟨KZ, H⟩ := H
  obtain ⟨K1, H⟩ := H
  refine GoR.op ((op_convRS Try.underlying21 Try.underlying9 rfl KZ K1) _) rfl rfl ?_
  refine GoR.op ((op_assign rfl) _) rfl rfl ?_
  refine GoR.nil ?_
  refine Go1.seq ?_
  refine Go1.drawS 0 [(0, .pure), (1, .pure), (2, .pure), (3, .stable), (4, .pure), (5, .loud), (6, .stable), (7, .pure), (8, .pure), (9, .pure), (10, .pure), (11, .pure)] mixed (by kernel_rfl) ?_
  intro NW Hz
  have tS := Stp.same hO Hz
  replace bE := bE.ch tS.ch
  replace bK := bK.ch tS.ch
  replace bM := bM.ch tS.ch
  replace bY := bY.ch tS.ch
  replace cy := cy.ch tS.ch
  replace cW := cW.ch tS.ch
  replace dB := dB.ch tS.ch
  replace aj := aj.ch tS.ch
  replace hO := tS.own
  replace ct := ct.ch tS.ch
  replace hB := hB.trans tS.fr
  refine GoQ.pure rfl (op_move rfl) rfl rfl ?_
  refine GoQ.pure rfl (op_nilCheck rfl) rfl rfl ?_
  refine GoQ.pure rfl (op_fieldAddr Try.underlying72 rfl ti69 rfl (by decide)) rfl rfl ?_
  refine GoQ.stable rfl (oblk (i := 9) 8 hO rfl rfl Try.underlying69 rfl rfl) rfl rfl ?_
  refine GoQ.pure rfl (op_move rfl) rfl rfl ?_
  refine GoQ.call rfl (op_call body61 rfl (walk_enumerate_text hO.lt ct H)) (fun v w hr => by obtain ⟨_, _, hs, _, _⟩ := hr; assumption) rfl rfl ?_
  rintro NX NY ⟨r605, rfl, HA, Mj, H⟩
  have tT := Stp.same hO HA
  replace bE := bE.ch tT.ch
  replace bK := bK.ch tT.ch
  replace bM := bM.ch tT.ch
  replace bY := bY.ch tT.ch
  replace cy := cy.ch tT.ch
  replace cW := cW.ch tT.ch
  replace dB := dB.ch tT.ch
  replace aj := aj.ch tT.ch
  replace hO := tT.own
  replace ct := ct.ch tT.ch
  replace hB := hB.trans tT.fr
  by_cases BY : mhas m3_591 r605 = true
  ·replace H := ifp BY H
   refine GoQ.stable rfl (olookT (a := r605) (MK.str Try.underlying9) 9 hO rfl Try.underlying69 rfl rfl BY) rfl rfl ?_
   refine GoQ.pure rfl (op_move rfl) rfl rfl ?_
   refine GoQ.pure rfl (op_extract rfl rfl) rfl rfl ?_
   refine GoQ.pure rfl (op_extract rfl rfl) rfl rfl ?_
   refine GoQ.pure rfl (op_assign rfl) rfl rfl ?_
   refine GoQ.pure rfl (op_assign rfl) rfl rfl ?_
   refine GoQ.nil ?_
   refine Go1.seq ?_
   refine Go1.seq ?_
   refine Go1.cut [(6, .pointer (some ⟨B10, 0, none⟩)), (9, .int .i64 (0 : Int)), (10, .int .i64 (k3_548 : Int)), (11, .slice E8 ((ix d_32 (k3_548 : Int)).length) E9), (12, .string (gstr (chr (IntKind.i32.wrap ((97 : Int) + (k3_548 : Int)))))), (13, .int .i64 (mgt m3_591 r605)), (14, .bool true), (85, .slice p35 n37 c36), (86, .int .i64 (d_32.length : Int)), (87, .int .i64 (k3_548 : Int))] ⟨rfl, rfl, rfl, rfl, rfl, rfl, rfl, rfl, rfl, rfl, trivial⟩ ?_
   intro σ _
   refine Go1.region ?_
   refine GoR.op ((op_move rfl) _) rfl rfl ?_
   refine GoR.nil ?_
   refine Go1.condT rfl rfl ?_
   refine Go1.drawS 5 [(0, .pure), (1, .pure), (2, .pure), (3, .pure), (4, .pure), (5, .stable), (6, .pure), (7, .pure), (8, .pure), (9, .pure), (10, .stable), (11, .pure), (12, .pure), (13, .stable), (14, .pure), (15, .loud), (16, .last), (17, .pure), (18, .pure), (19, .pure), (20, .last)] mixed (by kernel_rfl) ?_
   intro NZ HB
   have tU := Stp.same hO HB
   replace bE := bE.ch tU.ch
   replace bK := bK.ch tU.ch
   replace bM := bM.ch tU.ch
   replace bY := bY.ch tU.ch
   replace cy := cy.ch tU.ch
   replace cW := cW.ch tU.ch
   replace dB := dB.ch tU.ch
   replace aj := aj.ch tU.ch
   replace hO := tU.own
   replace ct := ct.ch tU.ch
   replace hB := hB.trans tU.fr
   refine GoQ.pure rfl (op_move rfl) rfl rfl ?_
   refine GoQ.pure rfl (op_move rfl) rfl rfl ?_
   refine GoQ.pure rfl (op_nilCheck rfl) rfl rfl ?_
   refine GoQ.pure rfl (op_fieldAddr Try.underlying72 rfl ti29 rfl (by decide)) rfl rfl ?_
   refine GoQ.pure rfl (op_fieldAddr Try.underlying29 rfl ti27 rfl (by decide)) rfl rfl ?_
   refine GoQ.stable rfl (oblk (i := 7) 8 hO rfl rfl Try.underlying27 rfl rfl) rfl rfl ?_
   refine GoQ.pure rfl (op_move rfl) rfl rfl ?_
   refine GoQ.pure rfl (op_move rfl) rfl rfl ?_
   refine GoQ.pure rfl (op_nilCheck rfl) rfl rfl ?_
   refine GoQ.pure rfl (op_fieldAddr Try.underlying72 rfl ti70 rfl (by decide)) rfl rfl ?_
   refine GoQ.stable rfl (oblk (i := 10) 8 hO rfl rfl Try.underlying70 rfl rfl) rfl rfl ?_
   refine GoQ.pure rfl (op_move rfl) rfl rfl ?_
   obtain ⟨BZ, H⟩ := H
   obtain ⟨B0, H⟩ := H
   refine GoQ.pure rfl (op_index Try.underlying70 ti9 rfl rfl BZ (ltn (bY.neq hO 3 rfl) B0) (bY.psome hO 3 rfl BZ B0)) rfl rfl ?_
   refine GoQ.stable rfl (oldStr 3 hO rfl bY BZ B0 Try.underlying9 rfl rfl) rfl rfl ?_
   have hle617 := Els.str_le bY BZ B0
   refine GoQ.pure rfl (op_build Try.underlying39 ti39 (pl := [(0, 1), (1, 1)]) (vs := [(0, .string (gstr (chr (IntKind.i32.wrap ((97 : Int) + (k3_548 : Int)))))), (1, .string (gstr (ix d_567 (mgt m3_591 r605))))]) (cs := #[.string (gstr (chr (IntKind.i32.wrap ((97 : Int) + (k3_548 : Int))))), .string (gstr (ix d_567 (mgt m3_591 r605)))]) (by kernel_rfl) rfl (by kernel_rfl)) rfl rfl ?_
   have hobt := obuildN (r := rpRule) (n := 1) (parts := [(0, .agg #[.string (gstr (chr (IntKind.i32.wrap ((97 : Int) + (k3_548 : Int))))), .string (gstr (ix d_567 (mgt m3_591 r605)))])]) (vs := [.string (gstr (chr (IntKind.i32.wrap ((97 : Int) + (k3_548 : Int))))), .string (gstr (ix d_567 (mgt m3_591 r605)))]) (xs := [(⟨chr (IntKind.i32.wrap ((97 : Int) + (k3_548 : Int))), ix d_567 (mgt m3_591 r605)⟩ : Rule)]) Try.underlying27 ti39 hO (by decide) (by decide) (by kernel_rfl) (Els.flat1 (⟨chr (IntKind.i32.wrap ((97 : Int) + (k3_548 : Int))), ix d_567 (mgt m3_591 r605)⟩ : Rule) ⟨(chr_le _), hle617⟩) rfl
   obtain ⟨N0, N1, tV, HC, HD, Fa⟩ := hobt
   refine GoQ.loud rfl (Fa rfl) HD rfl rfl ?_
   replace bE := bE.ch tV.ch
   replace bK := bK.ch tV.ch
   replace bM := bM.ch tV.ch
   replace bY := bY.ch tV.ch
   replace cy := cy.ch tV.ch
   replace cW := cW.ch tV.ch
   replace dB := dB.ch tV.ch
   replace aj := aj.ch tV.ch
   replace hO := tV.own
   replace ct := ct.ch tV.ch
   replace hB := hB.trans tV.fr
   have hobt := freeze 0 hO rfl HC
   obtain ⟨hO1, vf, tB, HE⟩ := hobt
   dsimp only [eS, eZ] at hO1 vf tB
   replace ct := ct.ch vf
   replace bE := bE.ch vf
   replace bK := bK.ch vf
   replace bM := bM.ch vf
   replace bY := bY.ch vf
   replace cy := cy.ch vf
   replace cW := cW.ch vf
   replace dB := dB.ch vf
   replace aj := aj.ch vf
   replace hB := hB.trans (Owns.dropFr _ _ 0)
   dsimp only [eS, eZ] at hB
   replace hO := hO1; clear hO1
   obtain ⟨K2, H⟩ := H
   have hobt := oapp Try.underlying27 ti39 rfl 1 hO rfl bK tB HE K2 (by decide)
   obtain ⟨N2, B1, B3, HF, sv, uw, Fb⟩ := hobt
   dsimp only [sS, sZ] at sv uw
   refine GoQ.last rfl (Fb (by exact rfl) (by exact rfl)) rfl rfl ?_
   replace bE := bE.ch sv.ch
   replace bM := bM.ch sv.ch
   replace bY := bY.ch sv.ch
   replace cy := cy.ch sv.ch
   replace cW := cW.ch sv.ch
   replace dB := dB.ch sv.ch
   replace aj := aj.ch sv.ch
   replace hO := sv.own
   replace ct := ct.ch sv.ch
   replace tB := tB.ch sv.ch
   replace hB := hB.trans sv.fr
   refine GoQ.pure rfl (op_nilCheck rfl) rfl rfl ?_
   refine GoQ.pure rfl (op_fieldAddr Try.underlying72 rfl ti29 rfl (by decide)) rfl rfl ?_
   refine GoQ.pure rfl (op_fieldAddr Try.underlying29 rfl ti27 rfl (by decide)) rfl rfl ?_
   have hobt := oblkSt2 (v := .slice B1 (j4 + 1) B3) (i := 7) (cs' := #[.int .i64 ((ix a0 (0 : Int)).length : Int), .bool true, .slice p35 n37 c36, .slice nc j9 ne, .slice mE j8 mF, .slice l5 j7 l7, .slice none 0 0, .slice B1 (j4 + 1) B3, .int .i64 (0 : Int), .map (some B4), .slice lU j6 lV, .slice lv j5 lw, .slice lS jP lT]) 8 hO rfl rfl rfl rfl
   obtain ⟨N3, qU, Fc⟩ := hobt
   dsimp only [sS, sZ] at qU
   refine GoQ.last rfl (Fc Try.underlying27 rfl ti27 (by exact rfl) (by exact rfl)) rfl rfl ?_
   replace bE := bE.ch qU.ch
   replace uw := uw.ch qU.ch
   replace bM := bM.ch qU.ch
   replace bY := bY.ch qU.ch
   replace cy := cy.ch qU.ch
   replace cW := cW.ch qU.ch
   replace dB := dB.ch qU.ch
   replace aj := aj.ch qU.ch
   replace hO := qU.own
   replace ct := ct.ch qU.ch
   replace tB := tB.ch qU.ch
   replace hB := hB.trans qU.fr
   refine GoQ.nil ?_
   refine Go1.cut [(6, .pointer (some ⟨B10, 0, none⟩)), (9, .int .i64 (0 : Int)), (13, .int .i64 (mgt m3_591 r605)), (85, .slice p35 n37 c36), (86, .int .i64 (d_32.length : Int)), (87, .int .i64 (k3_548 : Int))] ⟨rfl, rfl, rfl, rfl, rfl, rfl, trivial⟩ ?_
   intro σ _
   refine Go1.region ?_
   refine GoR.op ((op_move rfl) _) rfl rfl ?_
   refine GoR.op ((op_move rfl) _) rfl rfl ?_
   refine GoR.op ((op_nilCheck rfl) _) rfl rfl ?_
   refine GoR.op ((op_fieldAddr Try.underlying72 rfl ti26 rfl (by decide)) _) rfl rfl ?_
   refine GoR.op ((oblk (i := 12) 8 hO rfl rfl Try.underlying26 rfl rfl) _ (Same.refl _)) rfl rfl ?_
   refine GoR.op ((op_move rfl) _) rfl rfl ?_
   have hobt := obuild (r := Rp.int .i64) (n := 1) (parts := [(0, .int .i64 (mgt m3_591 r605))]) (vs := [.int .i64 (mgt m3_591 r605)]) (xs := [(mgt m3_591 r605)]) rfl Try.underlying26 ti3 hO (by decide) (by kernel_rfl) (Els.cons rfl rfl (Els.nil _ _ _) (by simp [mx])) rfl
   obtain ⟨N4, N5, sw, HG, MD, Fd⟩ := hobt
   refine GoR.op (Fd rfl) rfl rfl ?_
   replace bE := bE.ch sw.ch
   replace uw := uw.ch sw.ch
   replace bM := bM.ch sw.ch
   replace bY := bY.ch sw.ch
   replace cy := cy.ch sw.ch
   replace cW := cW.ch sw.ch
   replace dB := dB.ch sw.ch
   replace aj := aj.ch sw.ch
   replace hO := sw.own
   replace ct := ct.ch sw.ch
   replace tB := tB.ch sw.ch
   replace hB := hB.trans sw.fr
   have hobt := freeze 0 hO rfl HG
   obtain ⟨hO1, uO, yz, HH⟩ := hobt
   dsimp only [eS, eZ] at hO1 uO yz
   replace ct := ct.ch uO
   replace tB := tB.ch uO
   replace bE := bE.ch uO
   replace uw := uw.ch uO
   replace bM := bM.ch uO
   replace bY := bY.ch uO
   replace cy := cy.ch uO
   replace cW := cW.ch uO
   replace dB := dB.ch uO
   replace aj := aj.ch uO
   replace hB := hB.trans (Owns.dropFr _ _ 0)
   dsimp only [eS, eZ] at hB
   replace hO := hO1; clear hO1
   obtain ⟨K3, H⟩ := H
   have hobt := oapp Try.underlying26 ti3 rfl 0 hO rfl bE yz HH K3 (by decide)
   obtain ⟨N6, De, Df, HI, qV, AM, Fe⟩ := hobt
   dsimp only [sS, sZ] at qV AM
   refine GoR.op (Fe (by exact rfl) (by exact rfl)) rfl rfl ?_
   replace uw := uw.ch qV.ch
   replace bM := bM.ch qV.ch
   replace bY := bY.ch qV.ch
   replace cy := cy.ch qV.ch
   replace cW := cW.ch qV.ch
   replace dB := dB.ch qV.ch
   replace aj := aj.ch qV.ch
   replace hO := qV.own
   replace ct := ct.ch qV.ch
   replace tB := tB.ch qV.ch
   replace yz := yz.ch qV.ch
   replace hB := hB.trans qV.fr
   refine GoR.op ((op_nilCheck rfl) _) rfl rfl ?_
   refine GoR.op ((op_fieldAddr Try.underlying72 rfl ti26 rfl (by decide)) _) rfl rfl ?_
   have hobt := oblkSt2 (v := .slice De (jP + 1) Df) (i := 12) (cs' := #[.int .i64 ((ix a0 (0 : Int)).length : Int), .bool true, .slice p35 n37 c36, .slice nc j9 ne, .slice mE j8 mF, .slice l5 j7 l7, .slice none 0 0, .slice B1 (j4 + 1) B3, .int .i64 (0 : Int), .map (some B4), .slice lU j6 lV, .slice lv j5 lw, .slice De (jP + 1) Df]) 8 hO rfl rfl rfl rfl
   obtain ⟨N7, qb, Ff⟩ := hobt
   dsimp only [sS, sZ] at qb
   refine GoR.op (Ff Try.underlying26 rfl ti26 (by exact rfl) (by exact rfl)) rfl rfl ?_
   replace AM := AM.ch qb.ch
   replace uw := uw.ch qb.ch
   replace bM := bM.ch qb.ch
   replace bY := bY.ch qb.ch
   replace cy := cy.ch qb.ch
   replace cW := cW.ch qb.ch
   replace dB := dB.ch qb.ch
   replace aj := aj.ch qb.ch
   replace hO := qb.own
   replace ct := ct.ch qb.ch
   replace tB := tB.ch qb.ch
   replace yz := yz.ch qb.ch
   replace hB := hB.trans qb.fr
   refine GoR.nil ?_
   refine Go1.inBlock ?_
   refine Go1.region ?_
   refine GoR.op ((op_add rfl rfl (wrap_i64 (natbd Ab aj.bd))) _) rfl rfl ?_
   refine GoR.op ((op_move rfl) _) rfl rfl ?_
   refine GoR.nil ?_
   exact hX3 _ H _ _ ⟨jP + 1, De, Df, HI, j4 + 1, B1, B3, HF, j5, lv, lw, rJ, j6, lU, lV, rK, j7, l5, l7, rL, j8, mE, mF, rM, j9, nc, ne, rN, ⟨rfl, rfl, rfl, rfl, rfl, trivial⟩, hO, AM, uw, bM, bY, cy, cW, dB, aj, hB⟩
  replace H := ifn BY H
  refine GoQ.stable rfl (olookF (a := r605) (MK.str Try.underlying9) 9 hO rfl Try.underlying69 ti3 rfl rfl BY) rfl rfl ?_
  refine GoQ.pure rfl (op_move rfl) rfl rfl ?_
  refine GoQ.pure rfl (op_extract rfl rfl) rfl rfl ?_
  refine GoQ.pure rfl (op_extract rfl rfl) rfl rfl ?_
  refine GoQ.pure rfl (op_assign rfl) rfl rfl ?_
  refine GoQ.pure rfl (op_assign rfl) rfl rfl ?_
  refine GoQ.nil ?_
  refine Go1.seq ?_
  refine Go1.seq ?_
  refine Go1.region ?_
  refine GoR.op ((op_move rfl) _) rfl rfl ?_
  refine GoR.nil ?_
  refine Go1.condF rfl rfl ?_
  refine Go1.cut [(6, .pointer (some ⟨B10, 0, none⟩)), (9, .int .i64 (0 : Int)), (10, .int .i64 (k3_548 : Int)), (11, .slice E8 ((ix d_32 (k3_548 : Int)).length) E9), (12, .string (gstr (chr (IntKind.i32.wrap ((97 : Int) + (k3_548 : Int)))))), (85, .slice p35 n37 c36), (86, .int .i64 (d_32.length : Int)), (87, .int .i64 (k3_548 : Int))] ⟨rfl, rfl, rfl, rfl, rfl, rfl, rfl, rfl, trivial⟩ ?_
  intro σ _
  refine Go1.region ?_
  refine GoR.op ((op_move rfl) _) rfl rfl ?_
  refine GoR.op ((op_move rfl) _) rfl rfl ?_
  refine GoR.call (op_call body64 rfl (walk_slices_Clone_int hO.lt ct H)) rfl rfl ?_
  rintro N8 N9 ⟨r662, yf, vw, vy, Mk, rfl, HJ, hN666, vg, H⟩
  have sx := Stp.more hO HJ hN666
  dsimp only [List.cons_append, List.nil_append] at sx
  replace bE := bE.ch sx.ch
  replace bK := bK.ch sx.ch
  replace bM := bM.ch sx.ch
  replace bY := bY.ch sx.ch
  replace cy := cy.ch sx.ch
  replace cW := cW.ch sx.ch
  replace dB := dB.ch sx.ch
  replace aj := aj.ch sx.ch
  replace hO := sx.own
  replace ct := ct.ch sx.ch
  replace hB := hB.trans sx.fr
  replace vg := vg.ch (Ch.assoc _ _ _ _)
  refine GoR.op ((op_move rfl) _) rfl rfl ?_
  refine GoR.op ((op_move rfl) _) rfl rfl ?_
  refine GoR.op ((op_move rfl) _) rfl rfl ?_
  refine GoR.op ((op_move rfl) _) rfl rfl ?_
  refine GoR.inl (vs := [.pointer (some ⟨B10, 0, none⟩), .slice vw yf vy, .int .i64 (0 : Int), .int .i64 (k3_548 : Int), .string (gstr (chr (IntKind.i32.wrap ((97 : Int) + (k3_548 : Int))))), .int .i64 (0 : Int)]) (caps := []) rfl rfl body65 Try.func65 rfl Try.ntmps65 rfl rfl rfl ?_
  intro RhR670 hR670
  refine Go1.seq ?_
  refine Go1.region ?_
  refine GoR.op ((op_assign rfl) _) rfl rfl ?_
  refine GoR.nil ?_
  refine Go1.seq ?_
  refine Go1.region ?_
  refine GoR.op ((op_move rfl) _) rfl rfl ?_
  refine GoR.op ((op_nilCheck rfl) _) rfl rfl ?_
  refine GoR.op ((op_fieldAddr Try.underlying72 rfl ti29 rfl (by decide)) _) rfl rfl ?_
  refine GoR.op ((op_fieldAddr Try.underlying29 rfl ti22 rfl (by decide)) _) rfl rfl ?_
  refine GoR.op ((oblk (i := 3) 9 hO rfl rfl Try.underlying22 rfl rfl) _ (Same.refl _)) rfl rfl ?_
  refine GoR.op ((op_lenN Try.underlying22 rfl (dB.neq hO 7 rfl)) _) rfl rfl ?_
  refine GoR.op ((op_assign rfl) _) rfl rfl ?_
  refine GoR.nil ?_
  refine Go1.seq ?_
  refine Go1.drawS 1 [(0, .pure), (1, .pure), (2, .pure), (3, .stable), (4, .pure), (6, .pure), (5, .loud), (7, .last)] mixed (by kernel_rfl) ?_
  intro Oa HK
  have sy := Stp.same hO HK
  replace vg := vg.ch sy.ch
  replace bE := bE.ch sy.ch
  replace bK := bK.ch sy.ch
  replace bM := bM.ch sy.ch
  replace bY := bY.ch sy.ch
  replace cy := cy.ch sy.ch
  replace cW := cW.ch sy.ch
  replace dB := dB.ch sy.ch
  replace aj := aj.ch sy.ch
  replace hO := sy.own
  replace ct := ct.ch sy.ch
  replace hB := hB.trans sy.fr
  refine GoQ.pure rfl (op_move rfl) rfl rfl ?_
  refine GoQ.pure rfl (op_nilCheck rfl) rfl rfl ?_
  refine GoQ.pure rfl (op_fieldAddr Try.underlying72 rfl ti69 rfl (by decide)) rfl rfl ?_
  refine GoQ.stable rfl (oblk (i := 9) 9 hO rfl rfl Try.underlying69 rfl rfl) rfl rfl ?_
  refine GoQ.pure rfl (op_move rfl) rfl rfl ?_
  refine GoQ.pure rfl (op_move rfl) rfl rfl ?_
  have hobt := rowlend 0 hO rfl vg
  obtain ⟨HL, HM⟩ := hobt
  have hOc676 := hO.drop 0
  refine GoQ.call rfl (op_call body61 (show ([.slice vw yf vy] : List Value) = [.slice vw r662.length vy] from by rw [← HM]) (walk_enumerate_text hOc676.lt HL H)) (fun v w hr => by obtain ⟨_, _, hs, _, _⟩ := hr; assumption) rfl rfl ?_
  rintro Ob Oc ⟨r677, rfl, HN, Ml, H⟩
  have sA := Stp.same hO HN
  replace vg := vg.ch sA.ch
  replace bE := bE.ch sA.ch
  replace bK := bK.ch sA.ch
  replace bM := bM.ch sA.ch
  replace bY := bY.ch sA.ch
  replace cy := cy.ch sA.ch
  replace cW := cW.ch sA.ch
  replace dB := dB.ch sA.ch
  replace aj := aj.ch sA.ch
  replace hO := sA.own
  replace ct := ct.ch sA.ch
  replace hB := hB.trans sA.fr
  have hobt := omapUpd (MK.str Try.underlying9) 10 hO rfl Try.underlying69 r677 (d_585.length : Int)
  obtain ⟨Od, qW, Fg⟩ := hobt
  dsimp only [sS, sZ] at qW
  refine GoQ.last rfl (Fg (by exact rfl) (by exact rfl) (by exact rfl)) rfl rfl ?_
  replace vg := vg.ch qW.ch
  replace bE := bE.ch qW.ch
  replace bK := bK.ch qW.ch
  replace bM := bM.ch qW.ch
  replace bY := bY.ch qW.ch
  replace cy := cy.ch qW.ch
  replace cW := cW.ch qW.ch
  replace dB := dB.ch qW.ch
  replace aj := aj.ch qW.ch
  replace hO := qW.own
  replace ct := ct.ch qW.ch
  replace hB := hB.trans qW.fr
  refine GoQ.nil ?_
  refine Go1.seq ?_
  refine Go1.cut [(0, .pointer (some ⟨B10, 0, none⟩)), (1, .slice vw yf vy), (2, .int .i64 (0 : Int)), (3, .int .i64 (k3_548 : Int)), (4, .string (gstr (chr (IntKind.i32.wrap ((97 : Int) + (k3_548 : Int)))))), (5, .int .i64 (0 : Int)), (13, .int .i64 (d_585.length : Int))] ⟨rfl, rfl, rfl, rfl, rfl, rfl, rfl, trivial⟩ ?_
  intro σ _
  refine Go1.region ?_
  refine GoR.op ((op_move rfl) _) rfl rfl ?_
  refine GoR.op ((op_move rfl) _) rfl rfl ?_
  refine GoR.op ((op_nilCheck rfl) _) rfl rfl ?_
  refine GoR.op ((op_fieldAddr Try.underlying72 rfl ti29 rfl (by decide)) _) rfl rfl ?_
  refine GoR.op ((op_fieldAddr Try.underlying29 rfl ti22 rfl (by decide)) _) rfl rfl ?_
  refine GoR.op ((oblk (i := 3) 9 hO rfl rfl Try.underlying22 rfl rfl) _ (Same.refl _)) rfl rfl ?_
  refine GoR.op ((op_move rfl) _) rfl rfl ?_
  have hobt := freeze 0 hO rfl vg
  obtain ⟨hO1, vh, en, HO⟩ := hobt
  dsimp only [eS, eZ] at hO1 vh en
  replace ct := ct.ch vh
  replace bE := bE.ch vh
  replace bK := bK.ch vh
  replace bM := bM.ch vh
  replace bY := bY.ch vh
  replace cy := cy.ch vh
  replace cW := cW.ch vh
  replace dB := dB.ch vh
  replace aj := aj.ch vh
  replace hB := hB.trans (Owns.dropFr _ _ 0)
  dsimp only [eS, eZ] at hB
  replace hO := hO1; clear hO1
  have hobt := obuild (r := Rp.sl (Rp.int .i64)) (n := 1) (parts := [(0, .slice vw yf vy)]) (vs := [.slice vw yf vy]) (xs := [r662]) rfl Try.underlying22 ti26 hO (by decide) (by kernel_rfl) (Els.cons rfl ⟨vw, vy, congrArg some (congrArg (fun nn => Value.slice vw nn vy) HO), en⟩ (Els.nil _ _ _) (by simp [mx])) rfl
  obtain ⟨Oe, Og, sB, HP, ME, Fh⟩ := hobt
  refine GoR.op (Fh rfl) rfl rfl ?_
  replace bE := bE.ch sB.ch
  replace bK := bK.ch sB.ch
  replace bM := bM.ch sB.ch
  replace bY := bY.ch sB.ch
  replace cy := cy.ch sB.ch
  replace cW := cW.ch sB.ch
  replace dB := dB.ch sB.ch
  replace aj := aj.ch sB.ch
  replace hO := sB.own
  replace ct := ct.ch sB.ch
  replace en := en.ch sB.ch
  replace hB := hB.trans sB.fr
  have hobt := freeze 0 hO rfl HP
  obtain ⟨hO1, uP, eK, HQ⟩ := hobt
  dsimp only [eS, eZ] at hO1 uP eK
  replace ct := ct.ch uP
  replace en := en.ch uP
  replace bE := bE.ch uP
  replace bK := bK.ch uP
  replace bM := bM.ch uP
  replace bY := bY.ch uP
  replace cy := cy.ch uP
  replace cW := cW.ch uP
  replace dB := dB.ch uP
  replace aj := aj.ch uP
  replace hB := hB.trans (Owns.dropFr _ _ 0)
  dsimp only [eS, eZ] at hB
  replace hO := hO1; clear hO1
  obtain ⟨K4, H⟩ := H
  have hobt := oapp Try.underlying22 ti26 rfl 6 hO rfl dB eK HQ K4 (by decide)
  obtain ⟨Oh, yg, yh, HR, qX, eP, Fi⟩ := hobt
  dsimp only [sS, sZ] at qX eP
  refine GoR.op (Fi (by exact rfl) (by exact rfl)) rfl rfl ?_
  replace bE := bE.ch qX.ch
  replace bK := bK.ch qX.ch
  replace bM := bM.ch qX.ch
  replace bY := bY.ch qX.ch
  replace cy := cy.ch qX.ch
  replace cW := cW.ch qX.ch
  replace aj := aj.ch qX.ch
  replace hO := qX.own
  replace ct := ct.ch qX.ch
  replace en := en.ch qX.ch
  replace eK := eK.ch qX.ch
  replace hB := hB.trans qX.fr
  refine GoR.op ((op_nilCheck rfl) _) rfl rfl ?_
  refine GoR.op ((op_fieldAddr Try.underlying72 rfl ti29 rfl (by decide)) _) rfl rfl ?_
  refine GoR.op ((op_fieldAddr Try.underlying29 rfl ti22 rfl (by decide)) _) rfl rfl ?_
  have hobt := oblkSt2 (v := .slice yg (j9 + 1) yh) (i := 3) (cs' := #[.int .i64 ((ix a0 (0 : Int)).length : Int), .bool true, .slice p35 n37 c36, .slice yg (j9 + 1) yh, .slice mE j8 mF, .slice l5 j7 l7, .slice none 0 0, .slice lq j4 lr, .int .i64 (0 : Int), .map (some B4), .slice lU j6 lV, .slice lv j5 lw, .slice lS jP lT]) 8 hO rfl rfl rfl rfl
  obtain ⟨Oi, qc, Fj⟩ := hobt
  dsimp only [sS, sZ] at qc
  refine GoR.op (Fj Try.underlying22 rfl ti22 (by exact rfl) (by exact rfl)) rfl rfl ?_
  replace bE := bE.ch qc.ch
  replace bK := bK.ch qc.ch
  replace bM := bM.ch qc.ch
  replace bY := bY.ch qc.ch
  replace cy := cy.ch qc.ch
  replace cW := cW.ch qc.ch
  replace eP := eP.ch qc.ch
  replace aj := aj.ch qc.ch
  replace hO := qc.own
  replace ct := ct.ch qc.ch
  replace en := en.ch qc.ch
  replace eK := eK.ch qc.ch
  replace hB := hB.trans qc.fr
  refine GoR.nil ?_
  refine Go1.seq ?_
  refine Go1.region ?_
  refine GoR.op ((op_move rfl) _) rfl rfl ?_
  refine GoR.op ((op_move rfl) _) rfl rfl ?_
  refine GoR.op ((op_nilCheck rfl) _) rfl rfl ?_
  refine GoR.op ((op_fieldAddr Try.underlying72 rfl ti29 rfl (by decide)) _) rfl rfl ?_
  refine GoR.op ((op_fieldAddr Try.underlying29 rfl ti26 rfl (by decide)) _) rfl rfl ?_
  refine GoR.op ((oblk (i := 4) 8 hO rfl rfl Try.underlying26 rfl rfl) _ (Same.refl _)) rfl rfl ?_
  refine GoR.op ((op_move rfl) _) rfl rfl ?_
  have hobt := obuild (r := Rp.int .i64) (n := 1) (parts := [(0, .int .i64 (0 : Int))]) (vs := [.int .i64 (0 : Int)]) (xs := [(0 : Int)]) rfl Try.underlying26 ti3 hO (by decide) (by kernel_rfl) (Els.cons rfl rfl (Els.nil _ _ _) (by simp [mx])) rfl
  obtain ⟨Oj, Ok, qY, HS, MF, Fk⟩ := hobt
  refine GoR.op (Fk rfl) rfl rfl ?_
  replace bE := bE.ch qY.ch
  replace bK := bK.ch qY.ch
  replace bM := bM.ch qY.ch
  replace bY := bY.ch qY.ch
  replace cy := cy.ch qY.ch
  replace cW := cW.ch qY.ch
  replace eP := eP.ch qY.ch
  replace aj := aj.ch qY.ch
  replace hO := qY.own
  replace ct := ct.ch qY.ch
  replace en := en.ch qY.ch
  replace eK := eK.ch qY.ch
  replace hB := hB.trans qY.fr
  have hobt := freeze 0 hO rfl HS
  obtain ⟨hO1, ux, gj, HT⟩ := hobt
  dsimp only [eS, eZ] at hO1 ux gj
  replace ct := ct.ch ux
  replace en := en.ch ux
  replace eK := eK.ch ux
  replace bE := bE.ch ux
  replace bK := bK.ch ux
  replace bM := bM.ch ux
  replace bY := bY.ch ux
  replace cy := cy.ch ux
  replace cW := cW.ch ux
  replace eP := eP.ch ux
  replace aj := aj.ch ux
  replace hB := hB.trans (Owns.dropFr _ _ 0)
  dsimp only [eS, eZ] at hB
  replace hO := hO1; clear hO1
  obtain ⟨K5, H⟩ := H
  have hobt := oapp Try.underlying26 ti3 rfl 5 hO rfl cW gj HT K5 (by decide)
  obtain ⟨Ol, y9, za, HU, qd, gy, Fm⟩ := hobt
  dsimp only [sS, sZ] at qd gy
  refine GoR.op (Fm (by exact rfl) (by exact rfl)) rfl rfl ?_
  replace bE := bE.ch qd.ch
  replace bK := bK.ch qd.ch
  replace bM := bM.ch qd.ch
  replace bY := bY.ch qd.ch
  replace cy := cy.ch qd.ch
  replace eP := eP.ch qd.ch
  replace aj := aj.ch qd.ch
  replace hO := qd.own
  replace ct := ct.ch qd.ch
  replace en := en.ch qd.ch
  replace eK := eK.ch qd.ch
  replace gj := gj.ch qd.ch
  replace hB := hB.trans qd.fr
  refine GoR.op ((op_nilCheck rfl) _) rfl rfl ?_
  refine GoR.op ((op_fieldAddr Try.underlying72 rfl ti29 rfl (by decide)) _) rfl rfl ?_
  refine GoR.op ((op_fieldAddr Try.underlying29 rfl ti26 rfl (by decide)) _) rfl rfl ?_
  have hobt := oblkSt2 (v := .slice y9 (j8 + 1) za) (i := 4) (cs' := #[.int .i64 ((ix a0 (0 : Int)).length : Int), .bool true, .slice p35 n37 c36, .slice yg (j9 + 1) yh, .slice y9 (j8 + 1) za, .slice l5 j7 l7, .slice none 0 0, .slice lq j4 lr, .int .i64 (0 : Int), .map (some B4), .slice lU j6 lV, .slice lv j5 lw, .slice lS jP lT]) 8 hO rfl rfl rfl rfl
  obtain ⟨Om, pq, Fn⟩ := hobt
  dsimp only [sS, sZ] at pq
  refine GoR.op (Fn Try.underlying26 rfl ti26 (by exact rfl) (by exact rfl)) rfl rfl ?_
  replace bE := bE.ch pq.ch
  replace bK := bK.ch pq.ch
  replace bM := bM.ch pq.ch
  replace bY := bY.ch pq.ch
  replace cy := cy.ch pq.ch
  replace gy := gy.ch pq.ch
  replace eP := eP.ch pq.ch
  replace aj := aj.ch pq.ch
  replace hO := pq.own
  replace ct := ct.ch pq.ch
  replace en := en.ch pq.ch
  replace eK := eK.ch pq.ch
  replace gj := gj.ch pq.ch
  replace hB := hB.trans pq.fr
  refine GoR.nil ?_
  refine Go1.seq ?_
  refine Go1.cut [(0, .pointer (some ⟨B10, 0, none⟩)), (3, .int .i64 (k3_548 : Int)), (4, .string (gstr (chr (IntKind.i32.wrap ((97 : Int) + (k3_548 : Int)))))), (5, .int .i64 (0 : Int)), (13, .int .i64 (d_585.length : Int))] ⟨rfl, rfl, rfl, rfl, rfl, trivial⟩ ?_
  intro σ _
  refine Go1.region ?_
  refine GoR.op ((op_move rfl) _) rfl rfl ?_
  refine GoR.op ((op_move rfl) _) rfl rfl ?_
  refine GoR.op ((op_nilCheck rfl) _) rfl rfl ?_
  refine GoR.op ((op_fieldAddr Try.underlying72 rfl ti29 rfl (by decide)) _) rfl rfl ?_
  refine GoR.op ((op_fieldAddr Try.underlying29 rfl ti26 rfl (by decide)) _) rfl rfl ?_
  refine GoR.op ((oblk (i := 5) 8 hO rfl rfl Try.underlying26 rfl rfl) _ (Same.refl _)) rfl rfl ?_
  refine GoR.op ((op_move rfl) _) rfl rfl ?_
  have hobt := obuild (r := Rp.int .i64) (n := 1) (parts := [(0, .int .i64 (k3_548 : Int))]) (vs := [.int .i64 (k3_548 : Int)]) (xs := [(k3_548 : Int)]) rfl Try.underlying26 ti3 hO (by decide) (by kernel_rfl) (Els.cons rfl rfl (Els.nil _ _ _) (by simp [mx])) rfl
  obtain ⟨On, Oo, qe, HV, MG, Fo⟩ := hobt
  refine GoR.op (Fo rfl) rfl rfl ?_
  replace bE := bE.ch qe.ch
  replace bK := bK.ch qe.ch
  replace bM := bM.ch qe.ch
  replace bY := bY.ch qe.ch
  replace cy := cy.ch qe.ch
  replace gy := gy.ch qe.ch
  replace eP := eP.ch qe.ch
  replace aj := aj.ch qe.ch
  replace hO := qe.own
  replace ct := ct.ch qe.ch
  replace en := en.ch qe.ch
  replace eK := eK.ch qe.ch
  replace gj := gj.ch qe.ch
  replace hB := hB.trans qe.fr
  have hobt := freeze 0 hO rfl HV
  obtain ⟨hO1, t6, jx, HW⟩ := hobt
  dsimp only [eS, eZ] at hO1 t6 jx
  replace ct := ct.ch t6
  replace en := en.ch t6
  replace eK := eK.ch t6
  replace gj := gj.ch t6
  replace bE := bE.ch t6
  replace bK := bK.ch t6
  replace bM := bM.ch t6
  replace bY := bY.ch t6
  replace cy := cy.ch t6
  replace gy := gy.ch t6
  replace eP := eP.ch t6
  replace aj := aj.ch t6
  replace hB := hB.trans (Owns.dropFr _ _ 0)
  dsimp only [eS, eZ] at hB
  replace hO := hO1; clear hO1
  obtain ⟨K6, H⟩ := H
  have hobt := oapp Try.underlying26 ti3 rfl 4 hO rfl cy jx HW K6 (by decide)
  obtain ⟨Oq, Ac, Ad, HX, pr, jT, Fp⟩ := hobt
  dsimp only [sS, sZ] at pr jT
  refine GoR.op (Fp (by exact rfl) (by exact rfl)) rfl rfl ?_
  replace bE := bE.ch pr.ch
  replace bK := bK.ch pr.ch
  replace bM := bM.ch pr.ch
  replace bY := bY.ch pr.ch
  replace gy := gy.ch pr.ch
  replace eP := eP.ch pr.ch
  replace aj := aj.ch pr.ch
  replace hO := pr.own
  replace ct := ct.ch pr.ch
  replace en := en.ch pr.ch
  replace eK := eK.ch pr.ch
  replace gj := gj.ch pr.ch
  replace jx := jx.ch pr.ch
  replace hB := hB.trans pr.fr
  refine GoR.op ((op_nilCheck rfl) _) rfl rfl ?_
  refine GoR.op ((op_fieldAddr Try.underlying72 rfl ti29 rfl (by decide)) _) rfl rfl ?_
  refine GoR.op ((op_fieldAddr Try.underlying29 rfl ti26 rfl (by decide)) _) rfl rfl ?_
  have hobt := oblkSt2 (v := .slice Ac (j7 + 1) Ad) (i := 5) (cs' := #[.int .i64 ((ix a0 (0 : Int)).length : Int), .bool true, .slice p35 n37 c36, .slice yg (j9 + 1) yh, .slice y9 (j8 + 1) za, .slice Ac (j7 + 1) Ad, .slice none 0 0, .slice lq j4 lr, .int .i64 (0 : Int), .map (some B4), .slice lU j6 lV, .slice lv j5 lw, .slice lS jP lT]) 8 hO rfl rfl rfl rfl
  obtain ⟨Os, oB, Fq⟩ := hobt
  dsimp only [sS, sZ] at oB
  refine GoR.op (Fq Try.underlying26 rfl ti26 (by exact rfl) (by exact rfl)) rfl rfl ?_
  replace bE := bE.ch oB.ch
  replace bK := bK.ch oB.ch
  replace bM := bM.ch oB.ch
  replace bY := bY.ch oB.ch
  replace jT := jT.ch oB.ch
  replace gy := gy.ch oB.ch
  replace eP := eP.ch oB.ch
  replace aj := aj.ch oB.ch
  replace hO := oB.own
  replace ct := ct.ch oB.ch
  replace en := en.ch oB.ch
  replace eK := eK.ch oB.ch
  replace gj := gj.ch oB.ch
  replace jx := jx.ch oB.ch
  replace hB := hB.trans oB.fr
  refine GoR.nil ?_
  refine Go1.seq ?_
  refine Go1.region ?_
  refine GoR.op ((op_move rfl) _) rfl rfl ?_
  refine GoR.op ((op_move rfl) _) rfl rfl ?_
  refine GoR.op ((op_nilCheck rfl) _) rfl rfl ?_
  refine GoR.op ((op_fieldAddr Try.underlying72 rfl ti70 rfl (by decide)) _) rfl rfl ?_
  refine GoR.op ((oblk (i := 10) 8 hO rfl rfl Try.underlying70 rfl rfl) _ (Same.refl _)) rfl rfl ?_
  refine GoR.op ((op_move rfl) _) rfl rfl ?_
  have hobt := obuild (r := Rp.str) (n := 1) (parts := [(0, .string (gstr (chr (IntKind.i32.wrap ((97 : Int) + (k3_548 : Int))))))]) (vs := [.string (gstr (chr (IntKind.i32.wrap ((97 : Int) + (k3_548 : Int)))))]) (xs := [chr (IntKind.i32.wrap ((97 : Int) + (k3_548 : Int)))]) rfl Try.underlying70 ti9 hO (by decide) (by kernel_rfl) (Els.cons rfl ⟨rfl, (chr_le _)⟩ (Els.nil _ _ _) (by simp [mx])) rfl
  obtain ⟨Ot, Ou, pt, HY, MH, Fs⟩ := hobt
  refine GoR.op (Fs rfl) rfl rfl ?_
  replace bE := bE.ch pt.ch
  replace bK := bK.ch pt.ch
  replace bM := bM.ch pt.ch
  replace bY := bY.ch pt.ch
  replace jT := jT.ch pt.ch
  replace gy := gy.ch pt.ch
  replace eP := eP.ch pt.ch
  replace aj := aj.ch pt.ch
  replace hO := pt.own
  replace ct := ct.ch pt.ch
  replace en := en.ch pt.ch
  replace eK := eK.ch pt.ch
  replace gj := gj.ch pt.ch
  replace jx := jx.ch pt.ch
  replace hB := hB.trans pt.fr
  have hobt := freeze 0 hO rfl HY
  obtain ⟨hO1, tC, mK, HZ⟩ := hobt
  dsimp only [eS, eZ] at hO1 tC mK
  replace ct := ct.ch tC
  replace en := en.ch tC
  replace eK := eK.ch tC
  replace gj := gj.ch tC
  replace jx := jx.ch tC
  replace bE := bE.ch tC
  replace bK := bK.ch tC
  replace bM := bM.ch tC
  replace bY := bY.ch tC
  replace jT := jT.ch tC
  replace gy := gy.ch tC
  replace eP := eP.ch tC
  replace aj := aj.ch tC
  replace hB := hB.trans (Owns.dropFr _ _ 0)
  dsimp only [eS, eZ] at hB
  replace hO := hO1; clear hO1
  obtain ⟨K7, H⟩ := H
  have hobt := oapp Try.underlying70 ti9 rfl 3 hO rfl bY mK HZ K7 (by decide)
  obtain ⟨Ov, A6, A7, H0, oC, ot, Ft⟩ := hobt
  dsimp only [sS, sZ] at oC ot
  refine GoR.op (Ft (by exact rfl) (by exact rfl)) rfl rfl ?_
  replace bE := bE.ch oC.ch
  replace bK := bK.ch oC.ch
  replace bM := bM.ch oC.ch
  replace jT := jT.ch oC.ch
  replace gy := gy.ch oC.ch
  replace eP := eP.ch oC.ch
  replace aj := aj.ch oC.ch
  replace hO := oC.own
  replace ct := ct.ch oC.ch
  replace en := en.ch oC.ch
  replace eK := eK.ch oC.ch
  replace gj := gj.ch oC.ch
  replace jx := jx.ch oC.ch
  replace mK := mK.ch oC.ch
  replace hB := hB.trans oC.fr
  refine GoR.op ((op_nilCheck rfl) _) rfl rfl ?_
  refine GoR.op ((op_fieldAddr Try.underlying72 rfl ti70 rfl (by decide)) _) rfl rfl ?_
  have hobt := oblkSt2 (v := .slice A6 (j6 + 1) A7) (i := 10) (cs' := #[.int .i64 ((ix a0 (0 : Int)).length : Int), .bool true, .slice p35 n37 c36, .slice yg (j9 + 1) yh, .slice y9 (j8 + 1) za, .slice Ac (j7 + 1) Ad, .slice none 0 0, .slice lq j4 lr, .int .i64 (0 : Int), .map (some B4), .slice A6 (j6 + 1) A7, .slice lv j5 lw, .slice lS jP lT]) 8 hO rfl rfl rfl rfl
  obtain ⟨Ow, nm, Fu⟩ := hobt
  dsimp only [sS, sZ] at nm
  refine GoR.op (Fu Try.underlying70 rfl ti70 (by exact rfl) (by exact rfl)) rfl rfl ?_
  replace bE := bE.ch nm.ch
  replace bK := bK.ch nm.ch
  replace bM := bM.ch nm.ch
  replace ot := ot.ch nm.ch
  replace jT := jT.ch nm.ch
  replace gy := gy.ch nm.ch
  replace eP := eP.ch nm.ch
  replace aj := aj.ch nm.ch
  replace hO := nm.own
  replace ct := ct.ch nm.ch
  replace en := en.ch nm.ch
  replace eK := eK.ch nm.ch
  replace gj := gj.ch nm.ch
  replace jx := jx.ch nm.ch
  replace mK := mK.ch nm.ch
  replace hB := hB.trans nm.fr
  refine GoR.nil ?_
  refine Go1.seq ?_
  refine Go1.cut [(0, .pointer (some ⟨B10, 0, none⟩)), (5, .int .i64 (0 : Int)), (13, .int .i64 (d_585.length : Int))] ⟨rfl, rfl, rfl, trivial⟩ ?_
  intro σ _
  refine Go1.region ?_
  refine GoR.op ((op_move rfl) _) rfl rfl ?_
  refine GoR.op ((op_move rfl) _) rfl rfl ?_
  refine GoR.op ((op_nilCheck rfl) _) rfl rfl ?_
  refine GoR.op ((op_fieldAddr Try.underlying72 rfl ti26 rfl (by decide)) _) rfl rfl ?_
  refine GoR.op ((oblk (i := 11) 8 hO rfl rfl Try.underlying26 rfl rfl) _ (Same.refl _)) rfl rfl ?_
  refine GoR.op ((op_move rfl) _) rfl rfl ?_
  have hobt := obuild (r := Rp.int .i64) (n := 1) (parts := [(0, .int .i64 (0 : Int))]) (vs := [.int .i64 (0 : Int)]) (xs := [(0 : Int)]) rfl Try.underlying26 ti3 hO (by decide) (by kernel_rfl) (Els.cons rfl rfl (Els.nil _ _ _) (by simp [mx])) rfl
  obtain ⟨Ox, Oy, oD, H1, MJ, Fv⟩ := hobt
  refine GoR.op (Fv rfl) rfl rfl ?_
  replace bE := bE.ch oD.ch
  replace bK := bK.ch oD.ch
  replace bM := bM.ch oD.ch
  replace ot := ot.ch oD.ch
  replace jT := jT.ch oD.ch
  replace gy := gy.ch oD.ch
  replace eP := eP.ch oD.ch
  replace aj := aj.ch oD.ch
  replace hO := oD.own
  replace ct := ct.ch oD.ch
  replace en := en.ch oD.ch
  replace eK := eK.ch oD.ch
  replace gj := gj.ch oD.ch
  replace jx := jx.ch oD.ch
  replace mK := mK.ch oD.ch
  replace hB := hB.trans oD.fr
  have hobt := freeze 0 hO rfl H1
  obtain ⟨hO1, rO, tD, H2⟩ := hobt
  dsimp only [eS, eZ] at hO1 rO tD
  replace ct := ct.ch rO
  replace en := en.ch rO
  replace eK := eK.ch rO
  replace gj := gj.ch rO
  replace jx := jx.ch rO
  replace mK := mK.ch rO
  replace bE := bE.ch rO
  replace bK := bK.ch rO
  replace bM := bM.ch rO
  replace ot := ot.ch rO
  replace jT := jT.ch rO
  replace gy := gy.ch rO
  replace eP := eP.ch rO
  replace aj := aj.ch rO
  replace hB := hB.trans (Owns.dropFr _ _ 0)
  dsimp only [eS, eZ] at hB
  replace hO := hO1; clear hO1
  obtain ⟨K8, H⟩ := H
  have hobt := oapp Try.underlying26 ti3 rfl 2 hO rfl bM tD H2 K8 (by decide)
  obtain ⟨Oz, B5, B6, H3, np, uy, Fw⟩ := hobt
  dsimp only [sS, sZ] at np uy
  refine GoR.op (Fw (by exact rfl) (by exact rfl)) rfl rfl ?_
  replace bE := bE.ch np.ch
  replace bK := bK.ch np.ch
  replace ot := ot.ch np.ch
  replace jT := jT.ch np.ch
  replace gy := gy.ch np.ch
  replace eP := eP.ch np.ch
  replace aj := aj.ch np.ch
  replace hO := np.own
  replace ct := ct.ch np.ch
  replace en := en.ch np.ch
  replace eK := eK.ch np.ch
  replace gj := gj.ch np.ch
  replace jx := jx.ch np.ch
  replace mK := mK.ch np.ch
  replace tD := tD.ch np.ch
  replace hB := hB.trans np.fr
  refine GoR.op ((op_nilCheck rfl) _) rfl rfl ?_
  refine GoR.op ((op_fieldAddr Try.underlying72 rfl ti26 rfl (by decide)) _) rfl rfl ?_
  have hobt := oblkSt2 (v := .slice B5 (j5 + 1) B6) (i := 11) (cs' := #[.int .i64 ((ix a0 (0 : Int)).length : Int), .bool true, .slice p35 n37 c36, .slice yg (j9 + 1) yh, .slice y9 (j8 + 1) za, .slice Ac (j7 + 1) Ad, .slice none 0 0, .slice lq j4 lr, .int .i64 (0 : Int), .map (some B4), .slice A6 (j6 + 1) A7, .slice B5 (j5 + 1) B6, .slice lS jP lT]) 8 hO rfl rfl rfl rfl
  obtain ⟨OA, mS, Fx⟩ := hobt
  dsimp only [sS, sZ] at mS
  refine GoR.op (Fx Try.underlying26 rfl ti26 (by exact rfl) (by exact rfl)) rfl rfl ?_
  replace bE := bE.ch mS.ch
  replace bK := bK.ch mS.ch
  replace uy := uy.ch mS.ch
  replace ot := ot.ch mS.ch
  replace jT := jT.ch mS.ch
  replace gy := gy.ch mS.ch
  replace eP := eP.ch mS.ch
  replace aj := aj.ch mS.ch
  replace hO := mS.own
  replace ct := ct.ch mS.ch
  replace en := en.ch mS.ch
  replace eK := eK.ch mS.ch
  replace gj := gj.ch mS.ch
  replace jx := jx.ch mS.ch
  replace mK := mK.ch mS.ch
  replace tD := tD.ch mS.ch
  replace hB := hB.trans mS.fr
  refine GoR.nil ?_
  refine Go1.seq ?_
  refine Go1.region ?_
  refine GoR.op ((op_move rfl) _) rfl rfl ?_
  refine GoR.op ((op_assign rfl) _) rfl rfl ?_
  refine GoR.nil ?_
  refine Go1.ret1V Try.func65 rfl (show _ = .int .i64 (d_585.length : Int) from rfl) ?_
  refine hR670 _ _ ?_
  refine GoR.op ((op_assign rfl) _) rfl rfl ?_
  refine GoR.nil ?_
  refine Go1.region ?_
  refine GoR.op ((op_move rfl) _) rfl rfl ?_
  refine GoR.op ((op_move rfl) _) rfl rfl ?_
  refine GoR.op ((op_nilCheck rfl) _) rfl rfl ?_
  refine GoR.op ((op_fieldAddr Try.underlying72 rfl ti26 rfl (by decide)) _) rfl rfl ?_
  refine GoR.op ((oblk (i := 12) 8 hO rfl rfl Try.underlying26 rfl rfl) _ (Same.refl _)) rfl rfl ?_
  refine GoR.op ((op_move rfl) _) rfl rfl ?_
  have hobt := obuild (r := Rp.int .i64) (n := 1) (parts := [(0, .int .i64 (d_585.length : Int))]) (vs := [.int .i64 (d_585.length : Int)]) (xs := [(d_585.length : Int)]) rfl Try.underlying26 ti3 hO (by decide) (by kernel_rfl) (Els.cons rfl rfl (Els.nil _ _ _) (by simp [mx])) rfl
  obtain ⟨OB, OC, nq, H4, ML, Fy⟩ := hobt
  refine GoR.op (Fy rfl) rfl rfl ?_
  replace bE := bE.ch nq.ch
  replace bK := bK.ch nq.ch
  replace uy := uy.ch nq.ch
  replace ot := ot.ch nq.ch
  replace jT := jT.ch nq.ch
  replace gy := gy.ch nq.ch
  replace eP := eP.ch nq.ch
  replace aj := aj.ch nq.ch
  replace hO := nq.own
  replace ct := ct.ch nq.ch
  replace en := en.ch nq.ch
  replace eK := eK.ch nq.ch
  replace gj := gj.ch nq.ch
  replace jx := jx.ch nq.ch
  replace mK := mK.ch nq.ch
  replace tD := tD.ch nq.ch
  replace hB := hB.trans nq.fr
  have hobt := freeze 0 hO rfl H4
  obtain ⟨hO1, qE, yA, H5⟩ := hobt
  dsimp only [eS, eZ] at hO1 qE yA
  replace ct := ct.ch qE
  replace en := en.ch qE
  replace eK := eK.ch qE
  replace gj := gj.ch qE
  replace jx := jx.ch qE
  replace mK := mK.ch qE
  replace tD := tD.ch qE
  replace bE := bE.ch qE
  replace bK := bK.ch qE
  replace uy := uy.ch qE
  replace ot := ot.ch qE
  replace jT := jT.ch qE
  replace gy := gy.ch qE
  replace eP := eP.ch qE
  replace aj := aj.ch qE
  replace hB := hB.trans (Owns.dropFr _ _ 0)
  dsimp only [eS, eZ] at hB
  replace hO := hO1; clear hO1
  obtain ⟨K9, H⟩ := H
  have hobt := oapp Try.underlying26 ti3 rfl 0 hO rfl bE yA H5 K9 (by decide)
  obtain ⟨OD, Dg, Dh, H6, mT, AN, Fz⟩ := hobt
  dsimp only [sS, sZ] at mT AN
  refine GoR.op (Fz (by exact rfl) (by exact rfl)) rfl rfl ?_
  replace bK := bK.ch mT.ch
  replace uy := uy.ch mT.ch
  replace ot := ot.ch mT.ch
  replace jT := jT.ch mT.ch
  replace gy := gy.ch mT.ch
  replace eP := eP.ch mT.ch
  replace aj := aj.ch mT.ch
  replace hO := mT.own
  replace ct := ct.ch mT.ch
  replace en := en.ch mT.ch
  replace eK := eK.ch mT.ch
  replace gj := gj.ch mT.ch
  replace jx := jx.ch mT.ch
  replace mK := mK.ch mT.ch
  replace tD := tD.ch mT.ch
  replace yA := yA.ch mT.ch
  replace hB := hB.trans mT.fr
  refine GoR.op ((op_nilCheck rfl) _) rfl rfl ?_
  refine GoR.op ((op_fieldAddr Try.underlying72 rfl ti26 rfl (by decide)) _) rfl rfl ?_
  have hobt := oblkSt2 (v := .slice Dg (jP + 1) Dh) (i := 12) (cs' := #[.int .i64 ((ix a0 (0 : Int)).length : Int), .bool true, .slice p35 n37 c36, .slice yg (j9 + 1) yh, .slice y9 (j8 + 1) za, .slice Ac (j7 + 1) Ad, .slice none 0 0, .slice lq j4 lr, .int .i64 (0 : Int), .map (some B4), .slice A6 (j6 + 1) A7, .slice B5 (j5 + 1) B6, .slice Dg (jP + 1) Dh]) 8 hO rfl rfl rfl rfl
  obtain ⟨OE, l8, FA⟩ := hobt
  dsimp only [sS, sZ] at l8
  refine GoR.op (FA Try.underlying26 rfl ti26 (by exact rfl) (by exact rfl)) rfl rfl ?_
  replace AN := AN.ch l8.ch
  replace bK := bK.ch l8.ch
  replace uy := uy.ch l8.ch
  replace ot := ot.ch l8.ch
  replace jT := jT.ch l8.ch
  replace gy := gy.ch l8.ch
  replace eP := eP.ch l8.ch
  replace aj := aj.ch l8.ch
  replace hO := l8.own
  replace ct := ct.ch l8.ch
  replace en := en.ch l8.ch
  replace eK := eK.ch l8.ch
  replace gj := gj.ch l8.ch
  replace jx := jx.ch l8.ch
  replace mK := mK.ch l8.ch
  replace tD := tD.ch l8.ch
  replace yA := yA.ch l8.ch
  replace hB := hB.trans l8.fr
  refine GoR.nil ?_
  refine Go1.inBlock ?_
  refine Go1.cut [(6, .pointer (some ⟨B10, 0, none⟩)), (9, .int .i64 (0 : Int)), (85, .slice p35 n37 c36), (86, .int .i64 (d_32.length : Int)), (87, .int .i64 (k3_548 : Int))] ⟨rfl, rfl, rfl, rfl, rfl, trivial⟩ ?_
  intro σ _
  refine Go1.region ?_
  refine GoR.op ((op_add rfl rfl (wrap_i64 (natbd Ab aj.bd))) _) rfl rfl ?_
  refine GoR.op ((op_move rfl) _) rfl rfl ?_
  refine GoR.nil ?_
  exact hX3 _ H _ _ ⟨jP + 1, Dg, Dh, H6, j4, lq, lr, rI, j5 + 1, B5, B6, H3, j6 + 1, A6, A7, H0, j7 + 1, Ac, Ad, HX, j8 + 1, y9, za, HU, j9 + 1, yg, yh, HR, ⟨rfl, rfl, rfl, rfl, rfl, trivial⟩, hO, AN, bK, uy, ot, jT, gy, eP, aj, hB⟩
 replace H := ifn Ab H
 refine GoR.op ((fun w => opB (op_lss rfl rfl w) (decide_eq_false Ab)) _) rfl rfl ?_
 refine GoR.nil ?_
 refine Go1.seq ?_
 refine Go1.condF rfl rfl ?_
 refine Go1.exit rfl ?_
 refine Go1.seq ?_
 refine Go1.region ?_
 refine GoR.op ((op_move rfl) _) rfl rfl ?_
 refine GoR.op ((op_assign rfl) _) rfl rfl ?_
 refine GoR.op ((op_assign rfl) _) rfl rfl ?_
 refine GoR.nil ?_
 have uo := Stp.nil (e := 26) (r := 1) hO
 replace bE := bE.ch uo.ch
 replace bK := bK.ch uo.ch
 replace bM := bM.ch uo.ch
 replace bY := bY.ch uo.ch
 replace cy := cy.ch uo.ch
 replace cW := cW.ch uo.ch
 replace dB := dB.ch uo.ch
 replace aj := aj.ch uo.ch
 replace hO := uo.own
 replace hB := hB.trans uo.fr
 have l9 := Els.nil (Rp.sl (Rp.int .i64)) (bl (.row 26 1 none 0 0 [] :: [.row 3 1 lS jP lT tA, .row 39 2 lq j4 lr rI, .row 3 1 lv j5 lw rJ, .row 9 1 lU j6 lV rK, .row 3 1 l5 j7 l7 rL, .row 3 1 mE j8 mF rM, .row 26 1 nc j9 ne rN, .row 26 1 p35 n37 c36 gt, .blk B10 (.cells #[.int .i64 ((ix a0 (0 : Int)).length : Int), .bool true, .slice p35 n37 c36, .slice nc j9 ne, .slice mE j8 mF, .slice l5 j7 l7, .slice none 0 0, .slice lq j4 lr, .int .i64 (0 : Int), .map (some B4), .slice lU j6 lV, .slice lv j5 lw, .slice lS jP lT] 72 (0, 0)), .any (mapE (fun a : List UInt8 => Value.string (gstr a)) (fun a : Int => Value.int .i64 a) B4 m3_591)]) ++ A) KX
 have sC := Stp.front 10 hO rfl
 dsimp only [eS, eZ] at sC
 replace l9 := l9.ch sC.ch
 replace bE := bE.ch sC.ch
 replace bK := bK.ch sC.ch
 replace bM := bM.ch sC.ch
 replace bY := bY.ch sC.ch
 replace cy := cy.ch sC.ch
 replace cW := cW.ch sC.ch
 replace dB := dB.ch sC.ch
 replace aj := aj.ch sC.ch
 replace hO := sC.own
 replace hB := hB.trans sC.fr
 have sD := Stp.front 2 hO rfl
 dsimp only [eS, eZ] at sD
 replace l9 := l9.ch sD.ch
 replace bE := bE.ch sD.ch
 replace bK := bK.ch sD.ch
 replace bM := bM.ch sD.ch
 replace bY := bY.ch sD.ch
 replace cy := cy.ch sD.ch
 replace cW := cW.ch sD.ch
 replace dB := dB.ch sD.ch
 replace aj := aj.ch sD.ch
 replace hO := sD.own
 replace hB := hB.trans sD.fr
 have sE := Stp.front 4 hO rfl
 dsimp only [eS, eZ] at sE
 replace bE := bE.ch sE.ch
 replace l9 := l9.ch sE.ch
 replace bK := bK.ch sE.ch
 replace bM := bM.ch sE.ch
 replace bY := bY.ch sE.ch
 replace cy := cy.ch sE.ch
 replace cW := cW.ch sE.ch
 replace dB := dB.ch sE.ch
 replace aj := aj.ch sE.ch
 replace hO := sE.own
 replace hB := hB.trans sE.fr
 have sF := Stp.front 5 hO rfl
 dsimp only [eS, eZ] at sF
 replace bM := bM.ch sF.ch
 replace bE := bE.ch sF.ch
 replace l9 := l9.ch sF.ch
 replace bK := bK.ch sF.ch
 replace bY := bY.ch sF.ch
 replace cy := cy.ch sF.ch
 replace cW := cW.ch sF.ch
 replace dB := dB.ch sF.ch
 replace aj := aj.ch sF.ch
 replace hO := sF.own
 replace hB := hB.trans sF.fr
 have sG := Stp.front 5 hO rfl
 dsimp only [eS, eZ] at sG
 replace bY := bY.ch sG.ch
 replace bM := bM.ch sG.ch
 replace bE := bE.ch sG.ch
 replace l9 := l9.ch sG.ch
 replace bK := bK.ch sG.ch
 replace cy := cy.ch sG.ch
 replace cW := cW.ch sG.ch
 replace dB := dB.ch sG.ch
 replace aj := aj.ch sG.ch
 replace hO := sG.own
 replace hB := hB.trans sG.fr
 have sH := Stp.front 5 hO rfl
 dsimp only [eS, eZ] at sH
 replace bK := bK.ch sH.ch
 replace bY := bY.ch sH.ch
 replace bM := bM.ch sH.ch
 replace bE := bE.ch sH.ch
 replace l9 := l9.ch sH.ch
 replace cy := cy.ch sH.ch
 replace cW := cW.ch sH.ch
 replace dB := dB.ch sH.ch
 replace aj := aj.ch sH.ch
 replace hO := sH.own
 replace hB := hB.trans sH.fr
 have sI := Stp.front 6 hO rfl
 dsimp only [eS, eZ] at sI
 replace l9 := l9.ch sI.ch
 replace bK := bK.ch sI.ch
 replace bY := bY.ch sI.ch
 replace bM := bM.ch sI.ch
 replace bE := bE.ch sI.ch
 replace cy := cy.ch sI.ch
 replace cW := cW.ch sI.ch
 replace dB := dB.ch sI.ch
 replace aj := aj.ch sI.ch
 replace hO := sI.own
 replace hB := hB.trans sI.fr
 have sJ := Stp.front 7 hO rfl
 dsimp only [eS, eZ] at sJ
 replace cy := cy.ch sJ.ch
 replace l9 := l9.ch sJ.ch
 replace bK := bK.ch sJ.ch
 replace bY := bY.ch sJ.ch
 replace bM := bM.ch sJ.ch
 replace bE := bE.ch sJ.ch
 replace cW := cW.ch sJ.ch
 replace dB := dB.ch sJ.ch
 replace aj := aj.ch sJ.ch
 replace hO := sJ.own
 replace hB := hB.trans sJ.fr
 have sK := Stp.front 8 hO rfl
 dsimp only [eS, eZ] at sK
 replace cW := cW.ch sK.ch
 replace cy := cy.ch sK.ch
 replace l9 := l9.ch sK.ch
 replace bK := bK.ch sK.ch
 replace bY := bY.ch sK.ch
 replace bM := bM.ch sK.ch
 replace bE := bE.ch sK.ch
 replace dB := dB.ch sK.ch
 replace aj := aj.ch sK.ch
 replace hO := sK.own
 replace hB := hB.trans sK.fr
 have sL := Stp.front 9 hO rfl
 dsimp only [eS, eZ] at sL
 replace dB := dB.ch sL.ch
 replace cW := cW.ch sL.ch
 replace cy := cy.ch sL.ch
 replace l9 := l9.ch sL.ch
 replace bK := bK.ch sL.ch
 replace bY := bY.ch sL.ch
 replace bM := bM.ch sL.ch
 replace bE := bE.ch sL.ch
 replace aj := aj.ch sL.ch
 replace hO := sL.own
 replace hB := hB.trans sL.fr
 have sM := Stp.front 10 hO rfl
 dsimp only [eS, eZ] at sM
 replace aj := aj.ch sM.ch
 replace dB := dB.ch sM.ch
 replace cW := cW.ch sM.ch
 replace cy := cy.ch sM.ch
 replace l9 := l9.ch sM.ch
 replace bK := bK.ch sM.ch
 replace bY := bY.ch sM.ch
 replace bM := bM.ch sM.ch
 replace bE := bE.ch sM.ch
 replace hO := sM.own
 replace hB := hB.trans sM.fr
 refine Go1.ret2 Try.func49 rfl ?_
 exact Or.inr ⟨(⟨(⟨((ix a0 (0 : Int)).length : Int), true, d_32, d_585, d_579, d_573, ([] : List (List Int)), d_555, (0 : Int)⟩ : Enum), m3_591, d_567, d_561, d_549⟩ : run), ((0 : Int)), B10, n37, p35, c36, gt, j9, nc, ne, rN, j8, mE, mF, rM, j7, l5, l7, rL, 0, none, 0, ([]), j4, lq, lr, rI, B4, j6, lU, lV, rK, j5, lv, lw, rJ, jP, lS, lT, tA, rfl, hB.same, hO, aj, dB, cW, cy, l9, bK, bY, bM, bE, H⟩
theorem body37 : Body Try.prog 37 := ⟨Try.f37, Try.func37, rfl, by kernel_rfl⟩
theorem walk_trans_Compose {A : List Nat} {w0 : World} {p_f : Option Addr} {c_f : Nat} {p_g : Option Addr} {c_g : Nat} {f : List Int} {g : List Int} (hA : ∀ b ∈ A, b < w0.heap.size) (h_f : ISl (Rp.int .i64) A w0 p_f c_f f) (h_g : ISl (Rp.int .i64) A w0 p_g c_g g) {K : List Int → Prop} (H : trans_Compose f g K) :
    CallsV Try.prog 37 #[.slice p_f f.length c_f, .slice p_g g.length c_g] w0 (fun v w' => ∃ (r0 : List Int), ∃ (xD : Option Addr), ∃ (xE : Nat), v = .slice xD r0.length xE ∧ Same w0 w' ∧ ISl (Rp.int .i64) A w' xD xE r0 ∧ K r0) := by
 refine CallsV.of (l := [.slice p_f f.length c_f, .slice p_g g.length c_g]) Try.func37 rfl Try.ntmps37 rfl ?_
 have hO := Owns.start hA
 have hB := Fr.refl (bl []) w0
 unfold trans_Compose at H
 replace h_f := h_f.ch (Ch.start A w0)
 replace h_g := h_g.ch (Ch.start A w0)
 refine Go1.seq ?_
 refine Go1.region ?_
 refine GoR.op ((op_assign rfl) _) rfl rfl ?_
 refine GoR.nil ?_
 refine Go1.seq ?_
 refine Go1.seq ?_
 refine Go1.region ?_
 refine GoR.op ((op_move rfl) _) rfl rfl ?_
 refine GoR.op ((op_len Try.underlying26 rfl) _) rfl rfl ?_
 replace H := H h_f.bd
 refine GoR.op ((op_move rfl) _) rfl rfl ?_
 refine GoR.op ((op_len Try.underlying26 rfl) _) rfl rfl ?_
 replace H := H h_g.bd
 by_cases h1 : (f.length : Int) = (g.length : Int)
 ·replace H := ifp h1 H
  refine GoR.op ((fun w => opB (op_neq rfl rfl w) (ndT h1)) _) rfl rfl ?_
  refine GoR.op ((op_move rfl) _) rfl rfl ?_
  refine GoR.op ((op_move rfl) _) rfl rfl ?_
  refine GoR.call (op_call body60 rfl (walk_trans_Valid hO.lt h_f H)) rfl rfl ?_
  rintro v6 w3 ⟨r2, rfl, hs4, H⟩
  have o0 := Stp.same hO hs4
  replace hO := o0.own
  replace h_f := h_f.ch o0.ch
  replace h_g := h_g.ch o0.ch
  replace hB := hB.trans o0.fr
  cases r2
  ·replace H := ifn Bool.false_ne_true H
   refine GoR.op ((op_not rfl) _) rfl rfl ?_
   refine GoR.op ((op_pickF rfl rfl rfl) _) rfl rfl ?_
   refine GoR.op ((op_move rfl) _) rfl rfl ?_
   refine GoR.pass rfl rfl ?_
   refine GoR.pass rfl rfl ?_
   refine GoR.pass rfl rfl ?_
   refine GoR.op ((op_pickT rfl rfl rfl) _) rfl rfl ?_
   refine GoR.nil ?_
   refine Go1.condT rfl rfl ?_
   refine Go1.seq ?_
   refine Go1.region ?_
   refine GoR.op ((op_assign rfl) _) rfl rfl ?_
   refine GoR.nil ?_
   refine Go1.ret1 Try.func37 rfl ?_
   exact ⟨([] : List Int), none, 0, rfl, hB.same, (ISl.null _ _ _), H⟩
  replace H := ifp rfl H
  refine GoR.op ((op_not rfl) _) rfl rfl ?_
  refine GoR.op ((op_pickF rfl rfl rfl) _) rfl rfl ?_
  refine GoR.op ((op_move rfl) _) rfl rfl ?_
  refine GoR.op ((op_move rfl) _) rfl rfl ?_
  refine GoR.call (op_call body60 rfl (walk_trans_Valid hO.lt h_g H)) rfl rfl ?_
  rintro v12 w9 ⟨r8, rfl, BG, H⟩
  have AO := Stp.same hO BG
  replace hO := AO.own
  replace h_f := h_f.ch AO.ch
  replace h_g := h_g.ch AO.ch
  replace hB := hB.trans AO.fr
  cases r8
  ·replace H := ifn Bool.false_ne_true H
   refine GoR.op ((op_not rfl) _) rfl rfl ?_
   refine GoR.op ((op_pickF rfl rfl rfl) _) rfl rfl ?_
   refine GoR.nil ?_
   refine Go1.condT rfl rfl ?_
   refine Go1.seq ?_
   refine Go1.cut [] trivial ?_
   intro σ _
   refine Go1.region ?_
   refine GoR.op ((op_assign rfl) _) rfl rfl ?_
   refine GoR.nil ?_
   refine Go1.ret1 Try.func37 rfl ?_
   exact ⟨([] : List Int), none, 0, rfl, hB.same, (ISl.null _ _ _), H⟩
  replace H := ifp rfl H
  refine GoR.op ((op_not rfl) _) rfl rfl ?_
  refine GoR.op ((op_pickF rfl rfl rfl) _) rfl rfl ?_
  refine GoR.nil ?_
  refine Go1.condF rfl rfl ?_
  refine Go1.skip ?_
  refine Go1.seq ?_
  refine Go1.region ?_
  refine GoR.op ((op_move rfl) _) rfl rfl ?_
  refine GoR.op ((op_len Try.underlying26 rfl) _) rfl rfl ?_
  obtain ⟨h21, H⟩ := H
  obtain ⟨h22, H⟩ := H
  have hobt := omake (n := (f.length : Int)) (r := Rp.int .i64) (d := (0 : Int)) Try.underlying26 ti3 (fun _ _ => rfl) rfl hO h21 h22 (by decide)
  obtain ⟨w14, p15, y3, vJ, cP, B7, BH⟩ := hobt
  refine GoR.op (BH rfl rfl) rfl rfl ?_
  replace hO := vJ.own
  replace h_f := h_f.ch vJ.ch
  replace h_g := h_g.ch vJ.ch
  replace hB := hB.trans vJ.fr
  refine GoR.op ((op_assign rfl) _) rfl rfl ?_
  refine GoR.nil ?_
  refine Go1.seq ?_
  refine Go1.seq ?_
  refine Go1.region ?_
  refine GoR.op ((op_move rfl) _) rfl rfl ?_
  refine GoR.op ((op_len Try.underlying26 rfl) _) rfl rfl ?_
  refine GoR.op ((op_move rfl) _) rfl rfl ?_
  refine GoR.nil ?_
  refine Go1.block ?_
  refine Go1.loopW (S := Nat × List Int) (fun s σ w => match s with | (k1_25, h1_26) => ∃ (zb : List Value), agrees σ [(1, .slice p_g g.length c_g), (5, .slice p15 f.length f.length), (26, .slice p_f f.length c_f), (27, .int .i64 (f.length : Int)), (28, .int .i64 (k1_25 : Int))] ∧ Owns w0.heap.size w [.row 3 1 p15 f.length f.length zb] A ∧ Els (Rp.int .i64) (bl [.row 3 1 p15 f.length f.length zb] ++ A) w zb h1_26 ∧ ISl (Rp.int .i64) (bl [.row 3 1 p15 f.length f.length zb] ++ A) w p_f c_f f ∧ ISl (Rp.int .i64) (bl [.row 3 1 p15 f.length f.length zb] ++ A) w p_g c_g g ∧ Fr (bl []) w0 (bl [.row 3 1 p15 f.length f.length zb]) w) H ⟨y3, ⟨rfl, rfl, rfl, rfl, rfl, trivial⟩, hO, cP, h_f, h_g, hB⟩ ?_
  intro X1
  refine prE fun k1_25 => fun h1_26 => ?_
  intro H hX1 σ w24
  refine exE fun zb => andE fun hag => andE fun hO => andE fun B9 => andE fun h_f => andE fun h_g => fun hB => ?_
  dsimp only at H
  refine Go1.keep [(1, .slice p_g g.length c_g), (5, .slice p15 f.length f.length), (26, .slice p_f f.length c_f), (27, .int .i64 (f.length : Int)), (28, .int .i64 (k1_25 : Int))] hag ?_
  refine Go1.seq ?_
  refine Go1.region ?_
  by_cases h29 : (k1_25 : Int) < (f.length : Int)
  ·replace H := ifp h29 H
   refine GoR.op ((fun w => opB (op_lss rfl rfl w) (decide_eq_true h29)) _) rfl rfl ?_
   refine GoR.nil ?_
   refine Go1.seq ?_
   refine Go1.condT rfl rfl ?_
   refine Go1.skip ?_
   refine Go1.seq ?_
   refine Go1.block ?_
   refine Go1.seq ?_
   refine Go1.region ?_
   refine GoR.op ((op_move rfl) _) rfl rfl ?_
   obtain ⟨h30, H⟩ := H
   obtain ⟨h31, H⟩ := H
   refine GoR.op ((op_index Try.underlying26 ti3 rfl rfl h30 h31 (h_f.some_ h30 h31)) _) rfl rfl ?_
   refine GoR.op ((ldInt h_f h30 h31 Try.underlying3 rfl rfl) _ (Same.refl _)) rfl rfl ?_
   refine GoR.op ((op_assign rfl) _) rfl rfl ?_
   refine GoR.op ((op_assign rfl) _) rfl rfl ?_
   refine GoR.nil ?_
   refine Go1.region ?_
   refine GoR.op ((op_move rfl) _) rfl rfl ?_
   refine GoR.op ((op_move rfl) _) rfl rfl ?_
   refine GoR.op ((op_move rfl) _) rfl rfl ?_
   refine GoR.op ((op_move rfl) _) rfl rfl ?_
   obtain ⟨h32, H⟩ := H
   obtain ⟨h33, H⟩ := H
   refine GoR.op ((op_index Try.underlying26 ti3 rfl rfl h32 h33 (h_g.some_ h32 h33)) _) rfl rfl ?_
   refine GoR.op ((ldInt h_g h32 h33 Try.underlying3 rfl rfl) _ (Same.refl _)) rfl rfl ?_
   obtain ⟨h34, H⟩ := H
   obtain ⟨h35, H⟩ := H
   refine GoR.op ((op_index Try.underlying26 ti3 rfl rfl h34 (ltn (B9.neq hO 0 rfl) h35) (B9.psome hO 0 rfl h34 h35)) _) rfl rfl ?_
   have hobt := ost (r := Rp.int .i64) rfl 0 hO rfl B9 h34 h35 (v := .int .i64 (ix g (ix f (k1_25 : Int)))) (u := (ix g (ix f (k1_25 : Int)))) rfl rfl
   obtain ⟨w36, La, ou, Lb, Ca⟩ := hobt
   refine GoR.op (Ca Try.underlying3 rfl ti3 (by exact rfl) (by exact rfl)) rfl rfl ?_
   replace hO := ou.own
   replace h_f := h_f.ch ou.ch
   replace h_g := h_g.ch ou.ch
   replace hB := hB.trans ou.fr
   refine GoR.nil ?_
   refine Go1.inBlock ?_
   refine Go1.region ?_
   refine GoR.op ((op_add rfl rfl (wrap_i64 (natbd h29 h_f.bd))) _) rfl rfl ?_
   refine GoR.op ((op_move rfl) _) rfl rfl ?_
   refine GoR.nil ?_
   exact hX1 _ H _ _ ⟨La, ⟨rfl, rfl, rfl, rfl, rfl, trivial⟩, hO, Lb, h_f, h_g, hB⟩
  replace H := ifn h29 H
  refine GoR.op ((fun w => opB (op_lss rfl rfl w) (decide_eq_false h29)) _) rfl rfl ?_
  refine GoR.nil ?_
  refine Go1.seq ?_
  refine Go1.condF rfl rfl ?_
  refine Go1.exit rfl ?_
  refine Go1.seq ?_
  refine Go1.region ?_
  refine GoR.op ((op_move rfl) _) rfl rfl ?_
  refine GoR.op ((op_assign rfl) _) rfl rfl ?_
  refine GoR.nil ?_
  have hobt := freeze 0 hO rfl B9
  obtain ⟨hO1, FB, Lc, Ld⟩ := hobt
  replace h_f := h_f.ch FB
  replace h_g := h_g.ch FB
  replace hB := hB.trans (Owns.dropFr _ _ 0)
  replace hO := hO1; clear hO1
  refine Go1.ret1 Try.func37 rfl ?_
  exact ⟨h1_26, p15, f.length, (congrArg (fun nn => Value.slice p15 nn f.length) Ld), hB.same, (Lc.ch (Ch.weak _ _ _)), H⟩
 replace H := ifn h1 H
 refine GoR.op ((fun w => opB (op_neq rfl rfl w) (ndF h1)) _) rfl rfl ?_
 refine GoR.op ((op_move rfl) _) rfl rfl ?_
 refine GoR.pass rfl rfl ?_
 refine GoR.pass rfl rfl ?_
 refine GoR.pass rfl rfl ?_
 refine GoR.op ((op_pickT rfl rfl rfl) _) rfl rfl ?_
 refine GoR.op ((op_move rfl) _) rfl rfl ?_
 refine GoR.pass rfl rfl ?_
 refine GoR.pass rfl rfl ?_
 refine GoR.pass rfl rfl ?_
 refine GoR.op ((op_pickT rfl rfl rfl) _) rfl rfl ?_
 refine GoR.nil ?_
 refine Go1.condT rfl rfl ?_
 refine Go1.seq ?_
 refine Go1.cut [] trivial ?_
 intro σ _
 refine Go1.region ?_
 refine GoR.op ((op_assign rfl) _) rfl rfl ?_
 refine GoR.nil ?_
 refine Go1.ret1 Try.func37 rfl ?_
 exact ⟨([] : List Int), none, 0, rfl, hB.same, (ISl.null _ _ _), H⟩
end Sg
