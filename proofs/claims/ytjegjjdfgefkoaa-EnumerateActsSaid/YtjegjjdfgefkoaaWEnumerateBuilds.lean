/- The walks: each call keeps to its plain transformer. Printed by walkgen.py. -/
import Derived.Test.YtjegjjdfgefkoaaTi
namespace Sg
open Go Go.RowKit Go.Proofs
set_option linter.unusedVariables false
set_option linter.unusedSimpArgs false
set_option maxRecDepth 100000
set_option maxHeartbeats 4000000
theorem body48 : Body Try.prog 48 := ⟨Try.f48, Try.func48, rfl, by kernel_rfl⟩
theorem walk_ref11_Valid {A : List Nat} {w0 : World} {p_f : Option Addr} {c_f : Nat} {f : List Int} (hA : ∀ b ∈ A, b < w0.heap.size) (h_f : ISl (Rp.int .i64) A w0 p_f c_f f) {K : Bool → Prop} (H : ref11_Valid f K) :
    CallsV Try.prog 48 #[.slice p_f f.length c_f] w0 (fun v w' => ∃ (r0 : Bool), v = .bool r0 ∧ Same w0 w' ∧ K r0) := by
 refine CallsV.of (l := [.slice p_f f.length c_f]) Try.func48 rfl Try.ntmps48 rfl ?_
 have hO := Owns.start hA
 have hB := Fr.refl (bl []) w0
 unfold ref11_Valid at H
 replace h_f := h_f.ch (Ch.start A w0)
 refine Go1.seq ?_
 refine Go1.region ?_
 refine GoR.op ((op_assign rfl) _) rfl rfl ?_
 refine GoR.nil ?_
 refine Go1.seq ?_
 refine Go1.seq ?_
 refine Go1.region ?_
 refine GoR.op ((op_move rfl) _) rfl rfl ?_
 refine GoR.op ((op_len Try.underlying26 rfl) _) rfl rfl ?_
 replace H := H h_f.bd
 by_cases h1 : (f.length : Int) < (1 : Int)
 ·replace H := ifp h1 H
  refine GoR.op ((fun w => opB (op_lss rfl rfl w) (decide_eq_true h1)) _) rfl rfl ?_
  refine GoR.op ((op_move rfl) _) rfl rfl ?_
  refine GoR.pass rfl rfl ?_
  refine GoR.pass rfl rfl ?_
  refine GoR.pass rfl rfl ?_
  refine GoR.op ((op_pickT rfl rfl rfl) _) rfl rfl ?_
  refine GoR.nil ?_
  refine Go1.condT rfl rfl ?_
  refine Go1.seq ?_
  refine Go1.region ?_
  refine GoR.op ((op_assign rfl) _) rfl rfl ?_
  refine GoR.nil ?_
  refine Go1.ret1 Try.func48 rfl ?_
  exact ⟨false, rfl, hB.same, H⟩
 replace H := ifn h1 H
 refine GoR.op ((fun w => opB (op_lss rfl rfl w) (decide_eq_false h1)) _) rfl rfl ?_
 refine GoR.op ((op_move rfl) _) rfl rfl ?_
 refine GoR.op ((op_move rfl) _) rfl rfl ?_
 refine GoR.op ((op_len Try.underlying26 rfl) _) rfl rfl ?_
 by_cases h2 : (32 : Int) < (f.length : Int)
 ·replace H := ifp h2 H
  refine GoR.op ((fun w => opB (op_gtr rfl rfl w) (decide_eq_true h2)) _) rfl rfl ?_
  refine GoR.op ((op_pickF rfl rfl rfl) _) rfl rfl ?_
  refine GoR.nil ?_
  refine Go1.condT rfl rfl ?_
  refine Go1.seq ?_
  refine Go1.region ?_
  refine GoR.op ((op_assign rfl) _) rfl rfl ?_
  refine GoR.nil ?_
  refine Go1.ret1 Try.func48 rfl ?_
  exact ⟨false, rfl, hB.same, H⟩
 replace H := ifn h2 H
 refine GoR.op ((fun w => opB (op_gtr rfl rfl w) (decide_eq_false h2)) _) rfl rfl ?_
 refine GoR.op ((op_pickF rfl rfl rfl) _) rfl rfl ?_
 refine GoR.nil ?_
 refine Go1.condF rfl rfl ?_
 refine Go1.skip ?_
 refine Go1.seq ?_
 refine Go1.seq ?_
 refine Go1.region ?_
 refine GoR.op ((op_move rfl) _) rfl rfl ?_
 refine GoR.op ((op_len Try.underlying26 rfl) _) rfl rfl ?_
 refine GoR.op ((op_move rfl) _) rfl rfl ?_
 refine GoR.nil ?_
 refine Go1.block ?_
 refine Go1.loopW (S := Nat) (fun s σ w => agrees σ [(0, .slice p_f f.length c_f), (13, .slice p_f f.length c_f), (14, .int .i64 (f.length : Int)), (15, .int .i64 (s : Int))] ∧ Owns w0.heap.size w [] A ∧ ISl (Rp.int .i64) (bl [] ++ A) w p_f c_f f ∧ Fr (bl []) w0 (bl []) w) H ⟨⟨rfl, rfl, rfl, rfl, trivial⟩, hO, h_f, hB⟩ ?_
 intro X1 k1_4
 intro H hX1 σ w3
 refine andE fun hag => andE fun hO => andE fun h_f => fun hB => ?_
 refine Go1.keep [(0, .slice p_f f.length c_f), (13, .slice p_f f.length c_f), (14, .int .i64 (f.length : Int)), (15, .int .i64 (k1_4 : Int))] hag ?_
 refine Go1.seq ?_
 refine Go1.region ?_
 by_cases h5 : (k1_4 : Int) < (f.length : Int)
 ·replace H := ifp h5 H
  refine GoR.op ((fun w => opB (op_lss rfl rfl w) (decide_eq_true h5)) _) rfl rfl ?_
  refine GoR.nil ?_
  refine Go1.seq ?_
  refine Go1.condT rfl rfl ?_
  refine Go1.skip ?_
  refine Go1.seq ?_
  refine Go1.block ?_
  refine Go1.seq ?_
  refine Go1.region ?_
  obtain ⟨h6, H⟩ := H
  obtain ⟨h7, H⟩ := H
  refine GoR.op ((op_index Try.underlying26 ti3 rfl rfl h6 h7 (h_f.some_ h6 h7)) _) rfl rfl ?_
  refine GoR.op ((ldInt h_f h6 h7 Try.underlying3 rfl rfl) _ (Same.refl _)) rfl rfl ?_
  refine GoR.op ((op_assign rfl) _) rfl rfl ?_
  refine GoR.nil ?_
  refine Go1.seq ?_
  refine Go1.region ?_
  refine GoR.op ((op_move rfl) _) rfl rfl ?_
  by_cases h8 : (ix f (k1_4 : Int)) < (0 : Int)
  ·replace H := ifp h8 H
   refine GoR.op ((fun w => opB (op_lss rfl rfl w) (decide_eq_true h8)) _) rfl rfl ?_
   refine GoR.op ((op_move rfl) _) rfl rfl ?_
   refine GoR.pass rfl rfl ?_
   refine GoR.pass rfl rfl ?_
   refine GoR.pass rfl rfl ?_
   refine GoR.pass rfl rfl ?_
   refine GoR.op ((op_pickT rfl rfl rfl) _) rfl rfl ?_
   refine GoR.nil ?_
   refine Go1.condT rfl rfl ?_
   refine Go1.seq ?_
   refine Go1.region ?_
   refine GoR.op ((op_assign rfl) _) rfl rfl ?_
   refine GoR.nil ?_
   refine Go1.ret1 Try.func48 rfl ?_
   exact ⟨false, rfl, hB.same, H⟩
  replace H := ifn h8 H
  refine GoR.op ((fun w => opB (op_lss rfl rfl w) (decide_eq_false h8)) _) rfl rfl ?_
  refine GoR.op ((op_move rfl) _) rfl rfl ?_
  refine GoR.op ((op_move rfl) _) rfl rfl ?_
  refine GoR.op ((op_move rfl) _) rfl rfl ?_
  refine GoR.op ((op_len Try.underlying26 rfl) _) rfl rfl ?_
  by_cases h9 : (f.length : Int) ≤ (ix f (k1_4 : Int))
  ·replace H := ifp h9 H
   refine GoR.op ((fun w => opB (op_geq rfl rfl w) (decide_eq_true h9)) _) rfl rfl ?_
   refine GoR.op ((op_pickF rfl rfl rfl) _) rfl rfl ?_
   refine GoR.nil ?_
   refine Go1.condT rfl rfl ?_
   refine Go1.seq ?_
   refine Go1.cut [] trivial ?_
   intro σ _
   refine Go1.region ?_
   refine GoR.op ((op_assign rfl) _) rfl rfl ?_
   refine GoR.nil ?_
   refine Go1.ret1 Try.func48 rfl ?_
   exact ⟨false, rfl, hB.same, H⟩
  replace H := ifn h9 H
  refine GoR.op ((fun w => opB (op_geq rfl rfl w) (decide_eq_false h9)) _) rfl rfl ?_
  refine GoR.op ((op_pickF rfl rfl rfl) _) rfl rfl ?_
  refine GoR.nil ?_
  refine Go1.condF rfl rfl ?_
  refine Go1.skip ?_
  refine Go1.inBlock ?_
  refine Go1.region ?_
  refine GoR.op ((op_add rfl rfl (wrap_i64 (natbd h5 h_f.bd))) _) rfl rfl ?_
  refine GoR.op ((op_move rfl) _) rfl rfl ?_
  refine GoR.nil ?_
  exact hX1 _ H _ _ ⟨⟨rfl, rfl, rfl, rfl, trivial⟩, hO, h_f, hB⟩
 replace H := ifn h5 H
 refine GoR.op ((fun w => opB (op_lss rfl rfl w) (decide_eq_false h5)) _) rfl rfl ?_
 refine GoR.nil ?_
 refine Go1.seq ?_
 refine Go1.condF rfl rfl ?_
 refine Go1.exit rfl ?_
 refine Go1.seq ?_
 refine Go1.region ?_
 refine GoR.op ((op_assign rfl) _) rfl rfl ?_
 refine GoR.nil ?_
 refine Go1.ret1 Try.func48 rfl ?_
 exact ⟨true, rfl, hB.same, H⟩
theorem body14 : Body Try.prog 14 := ⟨Try.f14, Try.func14, rfl, by kernel_rfl⟩
theorem walk_ref11_MayGens {A : List Nat} {w0 : World} {lb : Option Addr} {ld : Nat} {gens : List (List Int)} (hA : ∀ b ∈ A, b < w0.heap.size) (eF : ISl (Rp.sl (Rp.int .i64)) A w0 lb ld gens) {K : Bool → Prop} (H : ref11_MayGens gens K) :
    CallsV Try.prog 14 #[.slice lb gens.length ld] w0 (fun v w' => ∃ (r0 : Bool), v = .bool r0 ∧ Same w0 w' ∧ K r0) := by
 refine CallsV.of (l := [.slice lb gens.length ld]) Try.func14 rfl Try.ntmps14 rfl ?_
 have hO := Owns.start hA
 have hB := Fr.refl (bl []) w0
 unfold ref11_MayGens at H
 replace eF := eF.ch (Ch.start A w0)
 refine Go1.seq ?_
 refine Go1.region ?_
 refine GoR.op ((op_assign rfl) _) rfl rfl ?_
 refine GoR.nil ?_
 refine Go1.seq ?_
 refine Go1.seq ?_
 refine Go1.region ?_
 refine GoR.op ((op_move rfl) _) rfl rfl ?_
 refine GoR.op ((op_len Try.underlying22 rfl) _) rfl rfl ?_
 replace H := H eF.bd
 by_cases h1 : (gens.length : Int) < (1 : Int)
 ·replace H := ifp h1 H
  refine GoR.op ((fun w => opB (op_lss rfl rfl w) (decide_eq_true h1)) _) rfl rfl ?_
  refine GoR.op ((op_move rfl) _) rfl rfl ?_
  refine GoR.pass rfl rfl ?_
  refine GoR.pass rfl rfl ?_
  refine GoR.pass rfl rfl ?_
  refine GoR.op ((op_pickT rfl rfl rfl) _) rfl rfl ?_
  refine GoR.nil ?_
  refine Go1.condT rfl rfl ?_
  refine Go1.seq ?_
  refine Go1.region ?_
  refine GoR.op ((op_assign rfl) _) rfl rfl ?_
  refine GoR.nil ?_
  refine Go1.ret1 Try.func14 rfl ?_
  exact ⟨false, rfl, hB.same, H⟩
 replace H := ifn h1 H
 refine GoR.op ((fun w => opB (op_lss rfl rfl w) (decide_eq_false h1)) _) rfl rfl ?_
 refine GoR.op ((op_move rfl) _) rfl rfl ?_
 refine GoR.op ((op_move rfl) _) rfl rfl ?_
 refine GoR.op ((op_len Try.underlying22 rfl) _) rfl rfl ?_
 by_cases h2 : (6 : Int) < (gens.length : Int)
 ·replace H := ifp h2 H
  refine GoR.op ((fun w => opB (op_gtr rfl rfl w) (decide_eq_true h2)) _) rfl rfl ?_
  refine GoR.op ((op_pickF rfl rfl rfl) _) rfl rfl ?_
  refine GoR.nil ?_
  refine Go1.condT rfl rfl ?_
  refine Go1.seq ?_
  refine Go1.region ?_
  refine GoR.op ((op_assign rfl) _) rfl rfl ?_
  refine GoR.nil ?_
  refine Go1.ret1 Try.func14 rfl ?_
  exact ⟨false, rfl, hB.same, H⟩
 replace H := ifn h2 H
 refine GoR.op ((fun w => opB (op_gtr rfl rfl w) (decide_eq_false h2)) _) rfl rfl ?_
 refine GoR.op ((op_pickF rfl rfl rfl) _) rfl rfl ?_
 refine GoR.nil ?_
 refine Go1.condF rfl rfl ?_
 refine Go1.skip ?_
 refine Go1.seq ?_
 refine Go1.seq ?_
 refine Go1.region ?_
 refine GoR.op ((op_move rfl) _) rfl rfl ?_
 refine GoR.op ((op_len Try.underlying22 rfl) _) rfl rfl ?_
 refine GoR.op ((op_move rfl) _) rfl rfl ?_
 refine GoR.nil ?_
 refine Go1.block ?_
 refine Go1.loopW (S := Nat) (fun s σ w => agrees σ [(0, .slice lb gens.length ld), (13, .slice lb gens.length ld), (14, .int .i64 (gens.length : Int)), (15, .int .i64 (s : Int))] ∧ Owns w0.heap.size w [] A ∧ ISl (Rp.sl (Rp.int .i64)) (bl [] ++ A) w lb ld gens ∧ Fr (bl []) w0 (bl []) w) H ⟨⟨rfl, rfl, rfl, rfl, trivial⟩, hO, eF, hB⟩ ?_
 intro X1 k1_4
 intro H hX1 σ w3
 refine andE fun hag => andE fun hO => andE fun eF => fun hB => ?_
 refine Go1.keep [(0, .slice lb gens.length ld), (13, .slice lb gens.length ld), (14, .int .i64 (gens.length : Int)), (15, .int .i64 (k1_4 : Int))] hag ?_
 refine Go1.seq ?_
 refine Go1.region ?_
 by_cases h5 : (k1_4 : Int) < (gens.length : Int)
 ·replace H := ifp h5 H
  refine GoR.op ((fun w => opB (op_lss rfl rfl w) (decide_eq_true h5)) _) rfl rfl ?_
  refine GoR.nil ?_
  refine Go1.seq ?_
  refine Go1.condT rfl rfl ?_
  refine Go1.skip ?_
  refine Go1.seq ?_
  refine Go1.block ?_
  refine Go1.seq ?_
  refine Go1.region ?_
  obtain ⟨h6, H⟩ := H
  obtain ⟨h7, H⟩ := H
  refine GoR.op ((op_index Try.underlying22 ti26 rfl rfl h6 h7 (eF.some_ h6 h7)) _) rfl rfl ?_
  have hobt := ldSl eF h6 h7
  obtain ⟨p8, c9, zL, IL⟩ := hobt
  refine GoR.op ((IL Try.underlying26 rfl rfl) _ (Same.refl _)) rfl rfl ?_
  refine GoR.op ((op_assign rfl) _) rfl rfl ?_
  refine GoR.nil ?_
  refine Go1.seq ?_
  refine Go1.region ?_
  refine GoR.op ((op_move rfl) _) rfl rfl ?_
  refine GoR.call (op_call body48 rfl (walk_ref11_Valid hO.lt zL H)) rfl rfl ?_
  rintro v16 w13 ⟨r12, rfl, IM, H⟩
  have tT := Stp.same hO IM
  replace hO := tT.own
  replace eF := eF.ch tT.ch
  replace zL := zL.ch tT.ch
  replace hB := hB.trans tT.fr
  cases r12
  ·replace H := ifn Bool.false_ne_true H
   refine GoR.op ((op_not rfl) _) rfl rfl ?_
   refine GoR.op ((op_move rfl) _) rfl rfl ?_
   refine GoR.pass rfl rfl ?_
   refine GoR.pass rfl rfl ?_
   refine GoR.pass rfl rfl ?_
   refine GoR.pass rfl rfl ?_
   refine GoR.pass rfl rfl ?_
   refine GoR.pass rfl rfl ?_
   refine GoR.pass rfl rfl ?_
   refine GoR.op ((op_pickT rfl rfl rfl) _) rfl rfl ?_
   refine GoR.nil ?_
   refine Go1.condT rfl rfl ?_
   refine Go1.seq ?_
   refine Go1.region ?_
   refine GoR.op ((op_assign rfl) _) rfl rfl ?_
   refine GoR.nil ?_
   refine Go1.ret1 Try.func14 rfl ?_
   exact ⟨false, rfl, hB.same, H⟩
  replace H := ifp rfl H
  refine GoR.op ((op_not rfl) _) rfl rfl ?_
  refine GoR.op ((op_move rfl) _) rfl rfl ?_
  refine GoR.op ((op_move rfl) _) rfl rfl ?_
  refine GoR.op ((op_len Try.underlying26 rfl) _) rfl rfl ?_
  replace H := H zL.bd
  refine GoR.op ((op_move rfl) _) rfl rfl ?_
  obtain ⟨h18, H⟩ := H
  obtain ⟨h19, H⟩ := H
  refine GoR.op ((op_index Try.underlying22 ti26 rfl rfl h18 h19 (eF.some_ h18 h19)) _) rfl rfl ?_
  have hobt := ldSl eF h18 h19
  obtain ⟨p20, c21, IN, IQ⟩ := hobt
  refine GoR.op ((IQ Try.underlying26 rfl rfl) _ (Same.refl _)) rfl rfl ?_
  refine GoR.op ((op_len Try.underlying26 rfl) _) rfl rfl ?_
  replace H := H IN.bd
  by_cases h24 : ((ix gens (k1_4 : Int)).length : Int) = ((ix gens (0 : Int)).length : Int)
  ·replace H := ifp h24 H
   refine GoR.op ((fun w => opB (op_neq rfl rfl w) (ndT h24)) _) rfl rfl ?_
   refine GoR.op ((op_pickF rfl rfl rfl) _) rfl rfl ?_
   refine GoR.nil ?_
   refine Go1.condF rfl rfl ?_
   refine Go1.skip ?_
   refine Go1.inBlock ?_
   refine Go1.cut [(0, .slice lb gens.length ld), (13, .slice lb gens.length ld), (14, .int .i64 (gens.length : Int)), (15, .int .i64 (k1_4 : Int))] ⟨rfl, rfl, rfl, rfl, trivial⟩ ?_
   intro σ _
   refine Go1.region ?_
   refine GoR.op ((op_add rfl rfl (wrap_i64 (natbd h5 eF.bd))) _) rfl rfl ?_
   refine GoR.op ((op_move rfl) _) rfl rfl ?_
   refine GoR.nil ?_
   exact hX1 _ H _ _ ⟨⟨rfl, rfl, rfl, rfl, trivial⟩, hO, eF, hB⟩
  replace H := ifn h24 H
  refine GoR.op ((fun w => opB (op_neq rfl rfl w) (ndF h24)) _) rfl rfl ?_
  refine GoR.op ((op_pickF rfl rfl rfl) _) rfl rfl ?_
  refine GoR.nil ?_
  refine Go1.condT rfl rfl ?_
  refine Go1.seq ?_
  refine Go1.region ?_
  refine GoR.op ((op_assign rfl) _) rfl rfl ?_
  refine GoR.nil ?_
  refine Go1.ret1 Try.func14 rfl ?_
  exact ⟨false, rfl, hB.same, H⟩
 replace H := ifn h5 H
 refine GoR.op ((fun w => opB (op_lss rfl rfl w) (decide_eq_false h5)) _) rfl rfl ?_
 refine GoR.nil ?_
 refine Go1.seq ?_
 refine Go1.condF rfl rfl ?_
 refine Go1.exit rfl ?_
 refine Go1.seq ?_
 refine Go1.region ?_
 refine GoR.op ((op_assign rfl) _) rfl rfl ?_
 refine GoR.nil ?_
 refine Go1.ret1 Try.func14 rfl ?_
 exact ⟨true, rfl, hB.same, H⟩
theorem body15 : Body Try.prog 15 := ⟨Try.f15, Try.func15, rfl, by kernel_rfl⟩
theorem walk_law12_little {A : List Nat} {w0 : World} {lb : Option Addr} {ld : Nat} {gens : List (List Int)} {points : Int} {letters : Int} (hA : ∀ b ∈ A, b < w0.heap.size) (eF : ISl (Rp.sl (Rp.int .i64)) A w0 lb ld gens) {K : Bool → Prop} (H : law12_little gens points letters K) :
    CallsV Try.prog 15 #[.slice lb gens.length ld, .int .i64 points, .int .i64 letters] w0 (fun v w' => ∃ (r0 : Bool), v = .bool r0 ∧ Same w0 w' ∧ K r0) := by
 refine CallsV.of (l := [.slice lb gens.length ld, .int .i64 points, .int .i64 letters]) Try.func15 rfl Try.ntmps15 rfl ?_
 have hO := Owns.start hA
 have hB := Fr.refl (bl []) w0
 unfold law12_little at H
 replace eF := eF.ch (Ch.start A w0)
 refine Go1.seq ?_
 refine Go1.region ?_
 refine GoR.op ((op_assign rfl) _) rfl rfl ?_
 refine GoR.nil ?_
 refine Go1.seq ?_
 refine Go1.region ?_
 refine GoR.op ((op_move rfl) _) rfl rfl ?_
 refine GoR.call (op_call body14 rfl (walk_ref11_MayGens hO.lt eF H)) rfl rfl ?_
 rintro v5 w2 ⟨r1, rfl, hs3, H⟩
 have uL := Stp.same hO hs3
 replace hO := uL.own
 replace eF := eF.ch uL.ch
 replace hB := hB.trans uL.fr
 refine GoR.op ((op_move rfl) _) rfl rfl ?_
 cases r1
 ·replace H := ifn Bool.false_ne_true H
  refine GoR.pass rfl rfl ?_
  refine GoR.pass rfl rfl ?_
  refine GoR.pass rfl rfl ?_
  refine GoR.pass rfl rfl ?_
  refine GoR.op ((op_pickF rfl rfl rfl) _) rfl rfl ?_
  refine GoR.op ((op_move rfl) _) rfl rfl ?_
  refine GoR.pass rfl rfl ?_
  refine GoR.pass rfl rfl ?_
  refine GoR.pass rfl rfl ?_
  refine GoR.pass rfl rfl ?_
  refine GoR.pass rfl rfl ?_
  refine GoR.pass rfl rfl ?_
  refine GoR.op ((op_pickF rfl rfl rfl) _) rfl rfl ?_
  refine GoR.op ((op_assign rfl) _) rfl rfl ?_
  refine GoR.nil ?_
  refine Go1.ret1 Try.func15 rfl ?_
  exact ⟨false, rfl, hB.same, H⟩
 replace H := ifp rfl H
 refine GoR.op ((op_move rfl) _) rfl rfl ?_
 refine GoR.op ((op_len Try.underlying22 rfl) _) rfl rfl ?_
 replace H := H eF.bd
 refine GoR.op ((op_move rfl) _) rfl rfl ?_
 by_cases h7 : (gens.length : Int) ≤ letters
 ·replace H := ifp h7 H
  refine GoR.op ((fun w => opB (op_leq rfl rfl w) (decide_eq_true h7)) _) rfl rfl ?_
  refine GoR.op ((op_pickT rfl rfl rfl) _) rfl rfl ?_
  refine GoR.op ((op_move rfl) _) rfl rfl ?_
  refine GoR.op ((op_move rfl) _) rfl rfl ?_
  obtain ⟨h8, H⟩ := H
  obtain ⟨h9, H⟩ := H
  refine GoR.op ((op_index Try.underlying22 ti26 rfl rfl h8 h9 (eF.some_ h8 h9)) _) rfl rfl ?_
  have hobt := ldSl eF h8 h9
  obtain ⟨p10, c11, IR, IS⟩ := hobt
  refine GoR.op ((IS Try.underlying26 rfl rfl) _ (Same.refl _)) rfl rfl ?_
  refine GoR.op ((op_len Try.underlying26 rfl) _) rfl rfl ?_
  replace H := H IR.bd
  refine GoR.op ((op_move rfl) _) rfl rfl ?_
  by_cases h14 : ((ix gens (0 : Int)).length : Int) ≤ points
  ·replace H := ifp h14 H
   refine GoR.op ((fun w => opB (op_leq rfl rfl w) (decide_eq_true h14)) _) rfl rfl ?_
   refine GoR.op ((op_pickT rfl rfl rfl) _) rfl rfl ?_
   refine GoR.op ((op_assign rfl) _) rfl rfl ?_
   refine GoR.nil ?_
   refine Go1.ret1 Try.func15 rfl ?_
   exact ⟨true, rfl, hB.same, H⟩
  replace H := ifn h14 H
  refine GoR.op ((fun w => opB (op_leq rfl rfl w) (decide_eq_false h14)) _) rfl rfl ?_
  refine GoR.op ((op_pickT rfl rfl rfl) _) rfl rfl ?_
  refine GoR.op ((op_assign rfl) _) rfl rfl ?_
  refine GoR.nil ?_
  refine Go1.ret1 Try.func15 rfl ?_
  exact ⟨false, rfl, hB.same, H⟩
 replace H := ifn h7 H
 refine GoR.op ((fun w => opB (op_leq rfl rfl w) (decide_eq_false h7)) _) rfl rfl ?_
 refine GoR.op ((op_pickT rfl rfl rfl) _) rfl rfl ?_
 refine GoR.op ((op_move rfl) _) rfl rfl ?_
 refine GoR.pass rfl rfl ?_
 refine GoR.pass rfl rfl ?_
 refine GoR.pass rfl rfl ?_
 refine GoR.pass rfl rfl ?_
 refine GoR.pass rfl rfl ?_
 refine GoR.pass rfl rfl ?_
 refine GoR.op ((op_pickF rfl rfl rfl) _) rfl rfl ?_
 refine GoR.op ((op_assign rfl) _) rfl rfl ?_
 refine GoR.nil ?_
 refine Go1.ret1 Try.func15 rfl ?_
 exact ⟨false, rfl, hB.same, H⟩
theorem body60 : Body Try.prog 60 := ⟨Try.f60, Try.func60, rfl, by kernel_rfl⟩
theorem walk_trans_Valid {A : List Nat} {w0 : World} {p_f : Option Addr} {c_f : Nat} {f : List Int} (hA : ∀ b ∈ A, b < w0.heap.size) (h_f : ISl (Rp.int .i64) A w0 p_f c_f f) {K : Bool → Prop} (H : trans_Valid f K) :
    CallsV Try.prog 60 #[.slice p_f f.length c_f] w0 (fun v w' => ∃ (r0 : Bool), v = .bool r0 ∧ Same w0 w' ∧ K r0) := by
 refine CallsV.of (l := [.slice p_f f.length c_f]) Try.func60 rfl Try.ntmps60 rfl ?_
 have hO := Owns.start hA
 have hB := Fr.refl (bl []) w0
 unfold trans_Valid at H
 replace h_f := h_f.ch (Ch.start A w0)
 refine Go1.seq ?_
 refine Go1.region ?_
 refine GoR.op ((op_assign rfl) _) rfl rfl ?_
 refine GoR.nil ?_
 refine Go1.seq ?_
 refine Go1.seq ?_
 refine Go1.region ?_
 refine GoR.op ((op_move rfl) _) rfl rfl ?_
 refine GoR.op ((op_len Try.underlying26 rfl) _) rfl rfl ?_
 replace H := H h_f.bd
 by_cases h1 : (f.length : Int) < (1 : Int)
 ·replace H := ifp h1 H
  refine GoR.op ((fun w => opB (op_lss rfl rfl w) (decide_eq_true h1)) _) rfl rfl ?_
  refine GoR.op ((op_move rfl) _) rfl rfl ?_
  refine GoR.pass rfl rfl ?_
  refine GoR.pass rfl rfl ?_
  refine GoR.pass rfl rfl ?_
  refine GoR.op ((op_pickT rfl rfl rfl) _) rfl rfl ?_
  refine GoR.nil ?_
  refine Go1.condT rfl rfl ?_
  refine Go1.seq ?_
  refine Go1.region ?_
  refine GoR.op ((op_assign rfl) _) rfl rfl ?_
  refine GoR.nil ?_
  refine Go1.ret1 Try.func60 rfl ?_
  exact ⟨false, rfl, hB.same, H⟩
 replace H := ifn h1 H
 refine GoR.op ((fun w => opB (op_lss rfl rfl w) (decide_eq_false h1)) _) rfl rfl ?_
 refine GoR.op ((op_move rfl) _) rfl rfl ?_
 refine GoR.op ((op_move rfl) _) rfl rfl ?_
 refine GoR.op ((op_len Try.underlying26 rfl) _) rfl rfl ?_
 by_cases h2 : (32 : Int) < (f.length : Int)
 ·replace H := ifp h2 H
  refine GoR.op ((fun w => opB (op_gtr rfl rfl w) (decide_eq_true h2)) _) rfl rfl ?_
  refine GoR.op ((op_pickF rfl rfl rfl) _) rfl rfl ?_
  refine GoR.nil ?_
  refine Go1.condT rfl rfl ?_
  refine Go1.seq ?_
  refine Go1.region ?_
  refine GoR.op ((op_assign rfl) _) rfl rfl ?_
  refine GoR.nil ?_
  refine Go1.ret1 Try.func60 rfl ?_
  exact ⟨false, rfl, hB.same, H⟩
 replace H := ifn h2 H
 refine GoR.op ((fun w => opB (op_gtr rfl rfl w) (decide_eq_false h2)) _) rfl rfl ?_
 refine GoR.op ((op_pickF rfl rfl rfl) _) rfl rfl ?_
 refine GoR.nil ?_
 refine Go1.condF rfl rfl ?_
 refine Go1.skip ?_
 refine Go1.seq ?_
 refine Go1.seq ?_
 refine Go1.region ?_
 refine GoR.op ((op_move rfl) _) rfl rfl ?_
 refine GoR.op ((op_len Try.underlying26 rfl) _) rfl rfl ?_
 refine GoR.op ((op_move rfl) _) rfl rfl ?_
 refine GoR.nil ?_
 refine Go1.block ?_
 refine Go1.loopW (S := Nat) (fun s σ w => agrees σ [(0, .slice p_f f.length c_f), (13, .slice p_f f.length c_f), (14, .int .i64 (f.length : Int)), (15, .int .i64 (s : Int))] ∧ Owns w0.heap.size w [] A ∧ ISl (Rp.int .i64) (bl [] ++ A) w p_f c_f f ∧ Fr (bl []) w0 (bl []) w) H ⟨⟨rfl, rfl, rfl, rfl, trivial⟩, hO, h_f, hB⟩ ?_
 intro X1 k1_4
 intro H hX1 σ w3
 refine andE fun hag => andE fun hO => andE fun h_f => fun hB => ?_
 refine Go1.keep [(0, .slice p_f f.length c_f), (13, .slice p_f f.length c_f), (14, .int .i64 (f.length : Int)), (15, .int .i64 (k1_4 : Int))] hag ?_
 refine Go1.seq ?_
 refine Go1.region ?_
 by_cases h5 : (k1_4 : Int) < (f.length : Int)
 ·replace H := ifp h5 H
  refine GoR.op ((fun w => opB (op_lss rfl rfl w) (decide_eq_true h5)) _) rfl rfl ?_
  refine GoR.nil ?_
  refine Go1.seq ?_
  refine Go1.condT rfl rfl ?_
  refine Go1.skip ?_
  refine Go1.seq ?_
  refine Go1.block ?_
  refine Go1.seq ?_
  refine Go1.region ?_
  obtain ⟨h6, H⟩ := H
  obtain ⟨h7, H⟩ := H
  refine GoR.op ((op_index Try.underlying26 ti3 rfl rfl h6 h7 (h_f.some_ h6 h7)) _) rfl rfl ?_
  refine GoR.op ((ldInt h_f h6 h7 Try.underlying3 rfl rfl) _ (Same.refl _)) rfl rfl ?_
  refine GoR.op ((op_assign rfl) _) rfl rfl ?_
  refine GoR.nil ?_
  refine Go1.seq ?_
  refine Go1.region ?_
  refine GoR.op ((op_move rfl) _) rfl rfl ?_
  by_cases h8 : (ix f (k1_4 : Int)) < (0 : Int)
  ·replace H := ifp h8 H
   refine GoR.op ((fun w => opB (op_lss rfl rfl w) (decide_eq_true h8)) _) rfl rfl ?_
   refine GoR.op ((op_move rfl) _) rfl rfl ?_
   refine GoR.pass rfl rfl ?_
   refine GoR.pass rfl rfl ?_
   refine GoR.pass rfl rfl ?_
   refine GoR.pass rfl rfl ?_
   refine GoR.op ((op_pickT rfl rfl rfl) _) rfl rfl ?_
   refine GoR.nil ?_
   refine Go1.condT rfl rfl ?_
   refine Go1.seq ?_
   refine Go1.region ?_
   refine GoR.op ((op_assign rfl) _) rfl rfl ?_
   refine GoR.nil ?_
   refine Go1.ret1 Try.func60 rfl ?_
   exact ⟨false, rfl, hB.same, H⟩
  replace H := ifn h8 H
  refine GoR.op ((fun w => opB (op_lss rfl rfl w) (decide_eq_false h8)) _) rfl rfl ?_
  refine GoR.op ((op_move rfl) _) rfl rfl ?_
  refine GoR.op ((op_move rfl) _) rfl rfl ?_
  refine GoR.op ((op_move rfl) _) rfl rfl ?_
  refine GoR.op ((op_len Try.underlying26 rfl) _) rfl rfl ?_
  by_cases h9 : (f.length : Int) ≤ (ix f (k1_4 : Int))
  ·replace H := ifp h9 H
   refine GoR.op ((fun w => opB (op_geq rfl rfl w) (decide_eq_true h9)) _) rfl rfl ?_
   refine GoR.op ((op_pickF rfl rfl rfl) _) rfl rfl ?_
   refine GoR.nil ?_
   refine Go1.condT rfl rfl ?_
   refine Go1.seq ?_
   refine Go1.cut [] trivial ?_
   intro σ _
   refine Go1.region ?_
   refine GoR.op ((op_assign rfl) _) rfl rfl ?_
   refine GoR.nil ?_
   refine Go1.ret1 Try.func60 rfl ?_
   exact ⟨false, rfl, hB.same, H⟩
  replace H := ifn h9 H
  refine GoR.op ((fun w => opB (op_geq rfl rfl w) (decide_eq_false h9)) _) rfl rfl ?_
  refine GoR.op ((op_pickF rfl rfl rfl) _) rfl rfl ?_
  refine GoR.nil ?_
  refine Go1.condF rfl rfl ?_
  refine Go1.skip ?_
  refine Go1.inBlock ?_
  refine Go1.region ?_
  refine GoR.op ((op_add rfl rfl (wrap_i64 (natbd h5 h_f.bd))) _) rfl rfl ?_
  refine GoR.op ((op_move rfl) _) rfl rfl ?_
  refine GoR.nil ?_
  exact hX1 _ H _ _ ⟨⟨rfl, rfl, rfl, rfl, trivial⟩, hO, h_f, hB⟩
 replace H := ifn h5 H
 refine GoR.op ((fun w => opB (op_lss rfl rfl w) (decide_eq_false h5)) _) rfl rfl ?_
 refine GoR.nil ?_
 refine Go1.seq ?_
 refine Go1.condF rfl rfl ?_
 refine Go1.exit rfl ?_
 refine Go1.seq ?_
 refine Go1.region ?_
 refine GoR.op ((op_assign rfl) _) rfl rfl ?_
 refine GoR.nil ?_
 refine Go1.ret1 Try.func60 rfl ?_
 exact ⟨true, rfl, hB.same, H⟩
theorem body64 : Body Try.prog 64 := ⟨Try.f64, Try.func64, rfl, by kernel_rfl⟩
theorem walk_slices_Clone_int {A : List Nat} {w0 : World} {p_s : Option Addr} {c_s : Nat} {s : List Int} (hA : ∀ b ∈ A, b < w0.heap.size) (h_s : ISl (Rp.int .i64) A w0 p_s c_s s) {K : List Int → Prop} (H : slices_Clone_int s K) :
    CallsV Try.prog 64 #[.slice p_s s.length c_s] w0 (fun v w' => ∃ (r0 : List Int), ∃ (Bf : Nat), ∃ (tG : Option Addr), ∃ (tH : Nat), ∃ (zM : List Value), v = .slice tG Bf tH ∧ Same w0 w' ∧ Owns w0.heap.size w' [.row 3 1 tG Bf tH zM] A ∧ Els (Rp.int .i64) (bl [.row 3 1 tG Bf tH zM] ++ A) w' zM r0 ∧ K r0) := by
 refine CallsV.of (l := [.slice p_s s.length c_s]) Try.func64 rfl Try.ntmps64 rfl ?_
 have hO := Owns.start hA
 have hB := Fr.refl (bl []) w0
 unfold slices_Clone_int at H
 replace h_s := h_s.ch (Ch.start A w0)
 refine Go1.seq ?_
 refine Go1.region ?_
 refine GoR.op ((op_assign rfl) _) rfl rfl ?_
 refine GoR.nil ?_
 refine Go1.seq ?_
 refine Go1.seq ?_
 refine Go1.region ?_
 refine GoR.op ((op_move rfl) _) rfl rfl ?_
 replace H := H p_s.isNone (fun h => h_s.nilD h)
 by_cases hz2 : p_s.isNone = true
 ·replace H := ifp hz2 H
  refine GoR.op ((fun w => opB (op_nilSlice Try.underlying26 rfl rfl w) (hz2)) _) rfl rfl ?_
  refine GoR.nil ?_
  refine Go1.condT rfl rfl ?_
  refine Go1.seq ?_
  refine Go1.region ?_
  refine GoR.op ((op_assign rfl) _) rfl rfl ?_
  refine GoR.nil ?_
  have o6 := Stp.nil (e := 3) (r := 1) hO
  replace hO := o6.own
  replace h_s := h_s.ch o6.ch
  replace hB := hB.trans o6.fr
  have hE5 := Els.nil (Rp.int .i64) (bl (.row 3 1 none 0 0 [] :: []) ++ A) w0
  refine Go1.ret1 Try.func64 rfl ?_
  exact ⟨(([] : List Int)), 0, none, 0, ([]), rfl, hB.same, hO, hE5, H⟩
 ·replace H := ifn hz2 H
  refine GoR.op ((fun w => opB (op_nilSlice Try.underlying26 rfl rfl w) (Bool.eq_false_iff.2 hz2)) _) rfl rfl ?_
  refine GoR.nil ?_
  refine Go1.condF rfl rfl ?_
  refine Go1.skip ?_
  refine Go1.seq ?_
  refine Go1.region ?_
  have hobt := obuild (r := Rp.int .i64) (n := 0) (parts := []) (vs := []) (xs := ([] : List Int)) rfl Try.underlying26 ti3 hO (by decide) (by kernel_rfl) (Els.nil _ _ _) rfl
  obtain ⟨w6, p7, Bg, hE9, Cs, E6⟩ := hobt
  refine GoR.op (E6 rfl) rfl rfl ?_
  replace hO := Bg.own
  replace h_s := h_s.ch Bg.ch
  replace hB := hB.trans Bg.fr
  refine GoR.op ((op_move rfl) _) rfl rfl ?_
  obtain ⟨h13, H⟩ := H
  have hobt := oapp Try.underlying26 ti3 rfl 0 hO rfl hE9 h_s rfl h13 (by decide)
  obtain ⟨w14, p15, c16, mI, rF, IT, zN⟩ := hobt
  refine GoR.op (zN (by exact rfl) (by exact rfl)) rfl rfl ?_
  replace hO := rF.own
  replace h_s := h_s.ch rF.ch
  replace hB := hB.trans rF.fr
  refine GoR.op ((op_assign rfl) _) rfl rfl ?_
  refine GoR.nil ?_
  refine Go1.ret1 Try.func64 rfl ?_
  exact ⟨((([] : List Int)) ++ s), (0 + s.length), p15, c16, mI, rfl, hB.same, hO, IT, H⟩
theorem body62 : Body Try.prog 62 := ⟨Try.f62, Try.func62, rfl, by kernel_rfl⟩
theorem walk_trans_Identity {A : List Nat} {w0 : World} {n : Int} (hA : ∀ b ∈ A, b < w0.heap.size) {K : List Int → Prop} (H : trans_Identity n K) :
    CallsV Try.prog 62 #[.int .i64 n] w0 (fun v w' => ∃ (r0 : List Int), ∃ (tG : Option Addr), ∃ (tH : Nat), v = .slice tG r0.length tH ∧ Same w0 w' ∧ ISl (Rp.int .i64) A w' tG tH r0 ∧ K r0) := by
 refine CallsV.of (l := [.int .i64 n]) Try.func62 rfl Try.ntmps62 rfl ?_
 have hO := Owns.start hA
 have hB := Fr.refl (bl []) w0
 unfold trans_Identity at H
 refine Go1.seq ?_
 refine Go1.region ?_
 refine GoR.op ((op_assign rfl) _) rfl rfl ?_
 refine GoR.nil ?_
 refine Go1.seq ?_
 refine Go1.seq ?_
 refine Go1.region ?_
 refine GoR.op ((op_move rfl) _) rfl rfl ?_
 by_cases h1 : n < (1 : Int)
 ·replace H := ifp h1 H
  refine GoR.op ((fun w => opB (op_lss rfl rfl w) (decide_eq_true h1)) _) rfl rfl ?_
  refine GoR.op ((op_move rfl) _) rfl rfl ?_
  refine GoR.pass rfl rfl ?_
  refine GoR.pass rfl rfl ?_
  refine GoR.op ((op_pickT rfl rfl rfl) _) rfl rfl ?_
  refine GoR.nil ?_
  refine Go1.condT rfl rfl ?_
  refine Go1.seq ?_
  refine Go1.region ?_
  refine GoR.op ((op_assign rfl) _) rfl rfl ?_
  refine GoR.nil ?_
  refine Go1.ret1 Try.func62 rfl ?_
  exact ⟨([] : List Int), none, 0, rfl, hB.same, (ISl.null _ _ _), H⟩
 replace H := ifn h1 H
 refine GoR.op ((fun w => opB (op_lss rfl rfl w) (decide_eq_false h1)) _) rfl rfl ?_
 refine GoR.op ((op_move rfl) _) rfl rfl ?_
 refine GoR.op ((op_move rfl) _) rfl rfl ?_
 by_cases h2 : (32 : Int) < n
 ·replace H := ifp h2 H
  refine GoR.op ((fun w => opB (op_gtr rfl rfl w) (decide_eq_true h2)) _) rfl rfl ?_
  refine GoR.op ((op_pickF rfl rfl rfl) _) rfl rfl ?_
  refine GoR.nil ?_
  refine Go1.condT rfl rfl ?_
  refine Go1.seq ?_
  refine Go1.region ?_
  refine GoR.op ((op_assign rfl) _) rfl rfl ?_
  refine GoR.nil ?_
  refine Go1.ret1 Try.func62 rfl ?_
  exact ⟨([] : List Int), none, 0, rfl, hB.same, (ISl.null _ _ _), H⟩
 replace H := ifn h2 H
 refine GoR.op ((fun w => opB (op_gtr rfl rfl w) (decide_eq_false h2)) _) rfl rfl ?_
 refine GoR.op ((op_pickF rfl rfl rfl) _) rfl rfl ?_
 refine GoR.nil ?_
 refine Go1.condF rfl rfl ?_
 refine Go1.skip ?_
 refine Go1.seq ?_
 refine Go1.region ?_
 refine GoR.op ((op_move rfl) _) rfl rfl ?_
 obtain ⟨h10, H⟩ := H
 obtain ⟨h11, H⟩ := H
 have hobt := omake (n := n) (r := Rp.int .i64) (d := (0 : Int)) Try.underlying26 ti3 (fun _ _ => rfl) rfl hO h10 h11 (by decide)
 obtain ⟨w3, p4, vs5, uL, hE7, hs8, IU⟩ := hobt
 refine GoR.op (IU rfl rfl) rfl rfl ?_
 replace hO := uL.own
 replace hB := hB.trans uL.fr
 refine GoR.op ((op_assign rfl) _) rfl rfl ?_
 refine GoR.nil ?_
 refine Go1.seq ?_
 refine Go1.seq ?_
 refine Go1.region ?_
 refine GoR.op ((op_move rfl) _) rfl rfl ?_
 refine GoR.op ((op_lenN Try.underlying26 rfl (hE7.neq hO 0 rfl)) _) rfl rfl ?_
 refine GoR.op ((op_move rfl) _) rfl rfl ?_
 refine GoR.nil ?_
 refine Go1.block ?_
 refine Go1.loopW (S := Nat × List Int) (fun s σ w => match s with | (k1_14, f1_15) => ∃ (wR : List Value), agrees σ [(3, .slice p4 n.toNat n.toNat), (14, .int .i64 ((List.replicate n.toNat ((0 : Int))).length : Int)), (15, .int .i64 (k1_14 : Int))] ∧ Owns w0.heap.size w [.row 3 1 p4 n.toNat n.toNat wR] A ∧ Els (Rp.int .i64) (bl [.row 3 1 p4 n.toNat n.toNat wR] ++ A) w wR f1_15 ∧ Fr (bl []) w0 (bl [.row 3 1 p4 n.toNat n.toNat wR]) w) H ⟨vs5, ⟨rfl, rfl, rfl, trivial⟩, hO, hE7, hB⟩ ?_
 intro X1
 refine prE fun k1_14 => fun f1_15 => ?_
 intro H hX1 σ w13
 refine exE fun wR => andE fun hag => andE fun hO => andE fun zO => fun hB => ?_
 dsimp only at H
 refine Go1.keep [(3, .slice p4 n.toNat n.toNat), (14, .int .i64 ((List.replicate n.toNat ((0 : Int))).length : Int)), (15, .int .i64 (k1_14 : Int))] hag ?_
 refine Go1.seq ?_
 refine Go1.region ?_
 by_cases h18 : (k1_14 : Int) < ((List.replicate n.toNat ((0 : Int))).length : Int)
 ·replace H := ifp h18 H
  refine GoR.op ((fun w => opB (op_lss rfl rfl w) (decide_eq_true h18)) _) rfl rfl ?_
  refine GoR.nil ?_
  refine Go1.seq ?_
  refine Go1.condT rfl rfl ?_
  refine Go1.skip ?_
  refine Go1.seq ?_
  refine Go1.block ?_
  refine Go1.seq ?_
  refine Go1.region ?_
  refine GoR.op ((op_move rfl) _) rfl rfl ?_
  refine GoR.op ((op_assign rfl) _) rfl rfl ?_
  refine GoR.nil ?_
  refine Go1.region ?_
  refine GoR.op ((op_move rfl) _) rfl rfl ?_
  refine GoR.op ((op_move rfl) _) rfl rfl ?_
  refine GoR.op ((op_move rfl) _) rfl rfl ?_
  obtain ⟨h19, H⟩ := H
  obtain ⟨h20, H⟩ := H
  refine GoR.op ((op_index Try.underlying26 ti3 rfl rfl h19 (ltn (zO.neq hO 0 rfl) h20) (zO.psome hO 0 rfl h19 h20)) _) rfl rfl ?_
  have hobt := ost (r := Rp.int .i64) rfl 0 hO rfl zO h19 h20 (v := .int .i64 (k1_14 : Int)) (u := (k1_14 : Int)) rfl rfl
  obtain ⟨w21, Bh, jq, cJ, zP⟩ := hobt
  refine GoR.op (zP Try.underlying3 rfl ti3 (by exact rfl) (by exact rfl)) rfl rfl ?_
  replace hO := jq.own
  replace hB := hB.trans jq.fr
  refine GoR.nil ?_
  refine Go1.inBlock ?_
  refine Go1.region ?_
  obtain ⟨h26, H⟩ := H
  refine GoR.op ((op_add rfl rfl (wrap_i64 h26)) _) rfl rfl ?_
  refine GoR.op ((op_move rfl) _) rfl rfl ?_
  refine GoR.nil ?_
  exact hX1 _ H _ _ ⟨Bh, ⟨rfl, rfl, rfl, trivial⟩, hO, cJ, hB⟩
 replace H := ifn h18 H
 refine GoR.op ((fun w => opB (op_lss rfl rfl w) (decide_eq_false h18)) _) rfl rfl ?_
 refine GoR.nil ?_
 refine Go1.seq ?_
 refine Go1.condF rfl rfl ?_
 refine Go1.exit rfl ?_
 refine Go1.seq ?_
 refine Go1.region ?_
 refine GoR.op ((op_move rfl) _) rfl rfl ?_
 refine GoR.op ((op_assign rfl) _) rfl rfl ?_
 refine GoR.nil ?_
 have hobt := freeze 0 hO rfl zO
 obtain ⟨hO1, LI, IV, IW⟩ := hobt
 replace hB := hB.trans (Owns.dropFr _ _ 0)
 replace hO := hO1; clear hO1
 refine Go1.ret1 Try.func62 rfl ?_
 exact ⟨f1_15, p4, n.toNat, (congrArg (fun nn => Value.slice p4 nn n.toNat) IW), hB.same, (IV.ch (Ch.weak _ _ _)), H⟩
theorem body61 : Body Try.prog 61 := ⟨Try.f61, Try.func61, rfl, by kernel_rfl⟩
theorem walk_enumerate_text {A : List Nat} {w0 : World} {p_f : Option Addr} {c_f : Nat} {f : List Int} (hA : ∀ b ∈ A, b < w0.heap.size) (h_f : ISl (Rp.int .i64) A w0 p_f c_f f) {K : Str → Prop} (H : enumerate_text f K) :
    CallsV Try.prog 61 #[.slice p_f f.length c_f] w0 (fun v w' => ∃ (r0 : Str), v = .string (gstr r0) ∧ Same w0 w' ∧ r0.length ≤ mx ∧ K r0) := by
 refine CallsV.of (l := [.slice p_f f.length c_f]) Try.func61 rfl Try.ntmps61 rfl ?_
 have hO := Owns.start hA
 have hB := Fr.refl (bl []) w0
 unfold enumerate_text at H
 replace h_f := h_f.ch (Ch.start A w0)
 refine Go1.seq ?_
 refine Go1.region ?_
 refine GoR.op ((op_assign rfl) _) rfl rfl ?_
 refine GoR.nil ?_
 refine Go1.seq ?_
 refine Go1.region ?_
 refine GoR.op ((op_move rfl) _) rfl rfl ?_
 refine GoR.op ((op_len Try.underlying26 rfl) _) rfl rfl ?_
 replace H := H h_f.bd
 obtain ⟨h8, H⟩ := H
 obtain ⟨h9, H⟩ := H
 have hobt := omake (n := (f.length : Int)) (r := Rp.int .u8) (d := (0 : Int)) Try.underlying84 ti5 (fun _ _ => rfl) rfl hO h8 h9 (by decide)
 obtain ⟨w1, p2, vs3, o6, hE5, hs6, yW⟩ := hobt
 refine GoR.op (yW rfl rfl) rfl rfl ?_
 replace hO := o6.own
 replace h_f := h_f.ch o6.ch
 replace hB := hB.trans o6.fr
 refine GoR.op ((op_assign rfl) _) rfl rfl ?_
 refine GoR.nil ?_
 refine Go1.seq ?_
 refine Go1.seq ?_
 refine Go1.region ?_
 refine GoR.op ((op_move rfl) _) rfl rfl ?_
 refine GoR.op ((op_len Try.underlying26 rfl) _) rfl rfl ?_
 refine GoR.op ((op_move rfl) _) rfl rfl ?_
 refine GoR.nil ?_
 refine Go1.block ?_
 refine Go1.loopW (S := Nat × List Int) (fun s σ w => match s with | (k1_12, b1_13) => ∃ (od : List Value), agrees σ [(3, .slice p2 f.length f.length), (9, .slice p_f f.length c_f), (10, .int .i64 (f.length : Int)), (11, .int .i64 (k1_12 : Int))] ∧ Owns w0.heap.size w [.row 5 1 p2 f.length f.length od] A ∧ Els (Rp.int .u8) (bl [.row 5 1 p2 f.length f.length od] ++ A) w od b1_13 ∧ ISl (Rp.int .i64) (bl [.row 5 1 p2 f.length f.length od] ++ A) w p_f c_f f ∧ Fr (bl []) w0 (bl [.row 5 1 p2 f.length f.length od]) w) H ⟨vs3, ⟨rfl, rfl, rfl, rfl, trivial⟩, hO, hE5, h_f, hB⟩ ?_
 intro X1
 refine prE fun k1_12 => fun b1_13 => ?_
 intro H hX1 σ w11
 refine exE fun od => andE fun hag => andE fun hO => andE fun cj => andE fun h_f => fun hB => ?_
 dsimp only at H
 refine Go1.keep [(3, .slice p2 f.length f.length), (9, .slice p_f f.length c_f), (10, .int .i64 (f.length : Int)), (11, .int .i64 (k1_12 : Int))] hag ?_
 refine Go1.seq ?_
 refine Go1.region ?_
 by_cases h16 : (k1_12 : Int) < (f.length : Int)
 ·replace H := ifp h16 H
  refine GoR.op ((fun w => opB (op_lss rfl rfl w) (decide_eq_true h16)) _) rfl rfl ?_
  refine GoR.nil ?_
  refine Go1.seq ?_
  refine Go1.condT rfl rfl ?_
  refine Go1.skip ?_
  refine Go1.seq ?_
  refine Go1.block ?_
  refine Go1.seq ?_
  refine Go1.region ?_
  refine GoR.op ((op_move rfl) _) rfl rfl ?_
  obtain ⟨h17, H⟩ := H
  obtain ⟨h18, H⟩ := H
  refine GoR.op ((op_index Try.underlying26 ti3 rfl rfl h17 h18 (h_f.some_ h17 h18)) _) rfl rfl ?_
  refine GoR.op ((ldInt h_f h17 h18 Try.underlying3 rfl rfl) _ (Same.refl _)) rfl rfl ?_
  refine GoR.op ((op_assign rfl) _) rfl rfl ?_
  refine GoR.op ((op_assign rfl) _) rfl rfl ?_
  refine GoR.nil ?_
  refine Go1.region ?_
  refine GoR.op ((op_move rfl) _) rfl rfl ?_
  refine GoR.op ((op_move rfl) _) rfl rfl ?_
  refine GoR.op ((op_move rfl) _) rfl rfl ?_
  refine GoR.op ((op_conv Try.underlying3 Try.underlying5 rfl rfl) _) rfl rfl ?_
  obtain ⟨h19, H⟩ := H
  obtain ⟨h20, H⟩ := H
  refine GoR.op ((op_index Try.underlying84 ti5 rfl rfl h19 (ltn (cj.neq hO 0 rfl) h20) (cj.psome hO 0 rfl h19 h20)) _) rfl rfl ?_
  have hobt := ost (r := Rp.int .u8) rfl 0 hO rfl cj h19 h20 (v := .int .u8 (IntKind.u8.wrap (ix f (k1_12 : Int)))) (u := (IntKind.u8.wrap (ix f (k1_12 : Int)))) rfl rfl
  obtain ⟨w21, Bh, jq, cJ, zP⟩ := hobt
  refine GoR.op (zP Try.underlying5 rfl ti5 (by exact rfl) (by exact rfl)) rfl rfl ?_
  replace hO := jq.own
  replace h_f := h_f.ch jq.ch
  replace hB := hB.trans jq.fr
  refine GoR.nil ?_
  refine Go1.inBlock ?_
  refine Go1.region ?_
  refine GoR.op ((op_add rfl rfl (wrap_i64 (natbd h16 h_f.bd))) _) rfl rfl ?_
  refine GoR.op ((op_move rfl) _) rfl rfl ?_
  refine GoR.nil ?_
  exact hX1 _ H _ _ ⟨Bh, ⟨rfl, rfl, rfl, rfl, trivial⟩, hO, cJ, h_f, hB⟩
 replace H := ifn h16 H
 refine GoR.op ((fun w => opB (op_lss rfl rfl w) (decide_eq_false h16)) _) rfl rfl ?_
 refine GoR.nil ?_
 refine Go1.seq ?_
 refine Go1.condF rfl rfl ?_
 refine Go1.exit rfl ?_
 refine Go1.seq ?_
 refine Go1.region ?_
 refine GoR.op ((op_move rfl) _) rfl rfl ?_
 have hle26 := byt_le cj.bd
 refine GoR.op ((oldBytes 0 hO rfl cj Try.underlying84 Try.underlying5 Try.underlying9 rfl) _ (Same.refl _)) rfl rfl ?_
 refine GoR.op ((op_assign rfl) _) rfl rfl ?_
 refine GoR.nil ?_
 refine Go1.ret1 Try.func61 rfl ?_
 exact ⟨byt b1_13, rfl, hB.same, hle26, H⟩
theorem body65 : Body Try.prog 65 := ⟨Try.f65, Try.func65, rfl, by kernel_rfl⟩
theorem body49 : Body Try.prog 49 := ⟨Try.f49, Try.func49, rfl, by kernel_rfl⟩
theorem walk_enumerate_begin {A : List Nat} {w0 : World} {o4 : Option Addr} {o5 : Nat} {a0 : List (List Int)} {a1 : Bool} (hA : ∀ b ∈ A, b < w0.heap.size) (ca : ISl (Rp.sl (Rp.int .i64)) A w0 o4 o5 a0) {K : Option run → Int → Prop} (H : enumerate_begin a0 a1 K) :
    CallsV Try.prog 49 #[.slice o4 a0.length o5, .bool a1] w0 (fun v w' => (∃ (r1 : Int), v = .tuple #[.pointer none, .int .i64 r1] ∧ Same w0 w' ∧ K none r1) ∨ (∃ (q : run), ∃ (r1 : Int), ∃ (b_q : Nat), ∃ (bS : Nat), ∃ (bT : Option Addr), ∃ (bU : Nat), ∃ (cy : List Value), ∃ (bC : Nat), ∃ (bD : Option Addr), ∃ (bE : Nat), ∃ (cv : List Value), ∃ (bm : Nat), ∃ (bn : Option Addr), ∃ (bo : Nat), ∃ (cl : List Value), ∃ (bV : Nat), ∃ (bW : Option Addr), ∃ (bX : Nat), ∃ (cz : List Value), ∃ (bF : Nat), ∃ (bG : Option Addr), ∃ (bH : Nat), ∃ (cw : List Value), ∃ (bI : Nat), ∃ (bK : Option Addr), ∃ (bM : Nat), ∃ (cx : List Value), ∃ (cT : Nat), ∃ (co : Nat), ∃ (cp : Option Addr), ∃ (cq : Nat), ∃ (dl : List Value), ∃ (cb : Nat), ∃ (cd : Option Addr), ∃ (ce : Nat), ∃ (c6 : List Value), ∃ (cf : Nat), ∃ (cg : Option Addr), ∃ (ci : Nat), ∃ (c7 : List Value), v = .tuple #[.pointer (some ⟨b_q, 0, none⟩), .int .i64 r1] ∧ Same w0 w' ∧ Owns w0.heap.size w' [.blk b_q (.cells #[.int .i64 q.Enum.Points, .bool q.Enum.Monoid, .slice bT bS bU, .slice bD bC bE, .slice bn bm bo, .slice bW bV bX, .slice bG bF bH, .slice bK bI bM, .int .i64 q.Enum.Done, .map (some cT), .slice cp co cq, .slice cd cb ce, .slice cg cf ci] 72 (0, 0)), .row 26 1 bT bS bU cy, .row 26 1 bD bC bE cv, .row 3 1 bn bm bo cl, .row 3 1 bW bV bX cz, .row 26 1 bG bF bH cw, .row 39 2 bK bI bM cx, .row 9 1 cp co cq dl, .row 3 1 cd cb ce c6, .row 3 1 cg cf ci c7, .any (mapE (fun a : List UInt8 => Value.string (gstr a)) (fun a : Int => Value.int .i64 a) cT q.number)] A ∧ Els (Rp.sl (Rp.int .i64)) (bl [.blk b_q (.cells #[.int .i64 q.Enum.Points, .bool q.Enum.Monoid, .slice bT bS bU, .slice bD bC bE, .slice bn bm bo, .slice bW bV bX, .slice bG bF bH, .slice bK bI bM, .int .i64 q.Enum.Done, .map (some cT), .slice cp co cq, .slice cd cb ce, .slice cg cf ci] 72 (0, 0)), .row 26 1 bT bS bU cy, .row 26 1 bD bC bE cv, .row 3 1 bn bm bo cl, .row 3 1 bW bV bX cz, .row 26 1 bG bF bH cw, .row 39 2 bK bI bM cx, .row 9 1 cp co cq dl, .row 3 1 cd cb ce c6, .row 3 1 cg cf ci c7, .any (mapE (fun a : List UInt8 => Value.string (gstr a)) (fun a : Int => Value.int .i64 a) cT q.number)] ++ A) w' cy q.Enum.Gens ∧ Els (Rp.sl (Rp.int .i64)) (bl [.blk b_q (.cells #[.int .i64 q.Enum.Points, .bool q.Enum.Monoid, .slice bT bS bU, .slice bD bC bE, .slice bn bm bo, .slice bW bV bX, .slice bG bF bH, .slice bK bI bM, .int .i64 q.Enum.Done, .map (some cT), .slice cp co cq, .slice cd cb ce, .slice cg cf ci] 72 (0, 0)), .row 26 1 bT bS bU cy, .row 26 1 bD bC bE cv, .row 3 1 bn bm bo cl, .row 3 1 bW bV bX cz, .row 26 1 bG bF bH cw, .row 39 2 bK bI bM cx, .row 9 1 cp co cq dl, .row 3 1 cd cb ce c6, .row 3 1 cg cf ci c7, .any (mapE (fun a : List UInt8 => Value.string (gstr a)) (fun a : Int => Value.int .i64 a) cT q.number)] ++ A) w' cv q.Enum.Elems ∧ Els (Rp.int .i64) (bl [.blk b_q (.cells #[.int .i64 q.Enum.Points, .bool q.Enum.Monoid, .slice bT bS bU, .slice bD bC bE, .slice bn bm bo, .slice bW bV bX, .slice bG bF bH, .slice bK bI bM, .int .i64 q.Enum.Done, .map (some cT), .slice cp co cq, .slice cd cb ce, .slice cg cf ci] 72 (0, 0)), .row 26 1 bT bS bU cy, .row 26 1 bD bC bE cv, .row 3 1 bn bm bo cl, .row 3 1 bW bV bX cz, .row 26 1 bG bF bH cw, .row 39 2 bK bI bM cx, .row 9 1 cp co cq dl, .row 3 1 cd cb ce c6, .row 3 1 cg cf ci c7, .any (mapE (fun a : List UInt8 => Value.string (gstr a)) (fun a : Int => Value.int .i64 a) cT q.number)] ++ A) w' cl q.Enum.Prefix ∧ Els (Rp.int .i64) (bl [.blk b_q (.cells #[.int .i64 q.Enum.Points, .bool q.Enum.Monoid, .slice bT bS bU, .slice bD bC bE, .slice bn bm bo, .slice bW bV bX, .slice bG bF bH, .slice bK bI bM, .int .i64 q.Enum.Done, .map (some cT), .slice cp co cq, .slice cd cb ce, .slice cg cf ci] 72 (0, 0)), .row 26 1 bT bS bU cy, .row 26 1 bD bC bE cv, .row 3 1 bn bm bo cl, .row 3 1 bW bV bX cz, .row 26 1 bG bF bH cw, .row 39 2 bK bI bM cx, .row 9 1 cp co cq dl, .row 3 1 cd cb ce c6, .row 3 1 cg cf ci c7, .any (mapE (fun a : List UInt8 => Value.string (gstr a)) (fun a : Int => Value.int .i64 a) cT q.number)] ++ A) w' cz q.Enum.Last ∧ Els (Rp.sl (Rp.int .i64)) (bl [.blk b_q (.cells #[.int .i64 q.Enum.Points, .bool q.Enum.Monoid, .slice bT bS bU, .slice bD bC bE, .slice bn bm bo, .slice bW bV bX, .slice bG bF bH, .slice bK bI bM, .int .i64 q.Enum.Done, .map (some cT), .slice cp co cq, .slice cd cb ce, .slice cg cf ci] 72 (0, 0)), .row 26 1 bT bS bU cy, .row 26 1 bD bC bE cv, .row 3 1 bn bm bo cl, .row 3 1 bW bV bX cz, .row 26 1 bG bF bH cw, .row 39 2 bK bI bM cx, .row 9 1 cp co cq dl, .row 3 1 cd cb ce c6, .row 3 1 cg cf ci c7, .any (mapE (fun a : List UInt8 => Value.string (gstr a)) (fun a : Int => Value.int .i64 a) cT q.number)] ++ A) w' cw q.Enum.Right ∧ Els (rpRule) (bl [.blk b_q (.cells #[.int .i64 q.Enum.Points, .bool q.Enum.Monoid, .slice bT bS bU, .slice bD bC bE, .slice bn bm bo, .slice bW bV bX, .slice bG bF bH, .slice bK bI bM, .int .i64 q.Enum.Done, .map (some cT), .slice cp co cq, .slice cd cb ce, .slice cg cf ci] 72 (0, 0)), .row 26 1 bT bS bU cy, .row 26 1 bD bC bE cv, .row 3 1 bn bm bo cl, .row 3 1 bW bV bX cz, .row 26 1 bG bF bH cw, .row 39 2 bK bI bM cx, .row 9 1 cp co cq dl, .row 3 1 cd cb ce c6, .row 3 1 cg cf ci c7, .any (mapE (fun a : List UInt8 => Value.string (gstr a)) (fun a : Int => Value.int .i64 a) cT q.number)] ++ A) w' cx q.Enum.Rules ∧ Els (Rp.str) (bl [.blk b_q (.cells #[.int .i64 q.Enum.Points, .bool q.Enum.Monoid, .slice bT bS bU, .slice bD bC bE, .slice bn bm bo, .slice bW bV bX, .slice bG bF bH, .slice bK bI bM, .int .i64 q.Enum.Done, .map (some cT), .slice cp co cq, .slice cd cb ce, .slice cg cf ci] 72 (0, 0)), .row 26 1 bT bS bU cy, .row 26 1 bD bC bE cv, .row 3 1 bn bm bo cl, .row 3 1 bW bV bX cz, .row 26 1 bG bF bH cw, .row 39 2 bK bI bM cx, .row 9 1 cp co cq dl, .row 3 1 cd cb ce c6, .row 3 1 cg cf ci c7, .any (mapE (fun a : List UInt8 => Value.string (gstr a)) (fun a : Int => Value.int .i64 a) cT q.number)] ++ A) w' dl q.words ∧ Els (Rp.int .i64) (bl [.blk b_q (.cells #[.int .i64 q.Enum.Points, .bool q.Enum.Monoid, .slice bT bS bU, .slice bD bC bE, .slice bn bm bo, .slice bW bV bX, .slice bG bF bH, .slice bK bI bM, .int .i64 q.Enum.Done, .map (some cT), .slice cp co cq, .slice cd cb ce, .slice cg cf ci] 72 (0, 0)), .row 26 1 bT bS bU cy, .row 26 1 bD bC bE cv, .row 3 1 bn bm bo cl, .row 3 1 bW bV bX cz, .row 26 1 bG bF bH cw, .row 39 2 bK bI bM cx, .row 9 1 cp co cq dl, .row 3 1 cd cb ce c6, .row 3 1 cg cf ci c7, .any (mapE (fun a : List UInt8 => Value.string (gstr a)) (fun a : Int => Value.int .i64 a) cT q.number)] ++ A) w' c6 q.behind ∧ Els (Rp.int .i64) (bl [.blk b_q (.cells #[.int .i64 q.Enum.Points, .bool q.Enum.Monoid, .slice bT bS bU, .slice bD bC bE, .slice bn bm bo, .slice bW bV bX, .slice bG bF bH, .slice bK bI bM, .int .i64 q.Enum.Done, .map (some cT), .slice cp co cq, .slice cd cb ce, .slice cg cf ci] 72 (0, 0)), .row 26 1 bT bS bU cy, .row 26 1 bD bC bE cv, .row 3 1 bn bm bo cl, .row 3 1 bW bV bX cz, .row 26 1 bG bF bH cw, .row 39 2 bK bI bM cx, .row 9 1 cp co cq dl, .row 3 1 cd cb ce c6, .row 3 1 cg cf ci c7, .any (mapE (fun a : List UInt8 => Value.string (gstr a)) (fun a : Int => Value.int .i64 a) cT q.number)] ++ A) w' c7 q.single ∧ K (some q) r1)) := by
 refine CallsV.of (l := [.slice o4 a0.length o5, .bool a1]) Try.func49 rfl Try.ntmps49 rfl ?_
 have hO := Owns.start hA
 have hB := Fr.refl (bl []) w0
 unfold enumerate_begin at H
 replace ca := ca.ch (Ch.start A w0)
 refine Go1.seq ?_
 refine Go1.region ?_
 refine GoR.op ((op_assign rfl) _) rfl rfl ?_
 refine GoR.op ((op_assign rfl) _) rfl rfl ?_
 refine GoR.nil ?_
 refine Go1.seq ?_
 refine Go1.seq ?_
 refine Go1.region ?_
 refine GoR.op ((op_move rfl) _) rfl rfl ?_
 refine GoR.op ((op_len Try.underlying22 rfl) _) rfl rfl ?_
 replace H := H ca.bd
 by_cases h1 : (a0.length : Int) = (0 : Int)
 ·replace H := ifp h1 H
  refine GoR.op ((fun w => opB (op_eql rfl rfl w) (decide_eq_true h1)) _) rfl rfl ?_
  refine GoR.op ((op_move rfl) _) rfl rfl ?_
  refine GoR.pass rfl rfl ?_
  refine GoR.pass rfl rfl ?_
  refine GoR.pass rfl rfl ?_
  refine GoR.op ((op_pickT rfl rfl rfl) _) rfl rfl ?_
  refine GoR.nil ?_
  refine Go1.condT rfl rfl ?_
  refine Go1.seq ?_
  refine Go1.region ?_
  refine GoR.op ((op_assign rfl) _) rfl rfl ?_
  refine GoR.op ((op_assign rfl) _) rfl rfl ?_
  refine GoR.nil ?_
  refine Go1.ret2 Try.func49 rfl ?_
  exact Or.inl ⟨((1 : Int)), rfl, hB.same, H⟩
 replace H := ifn h1 H
 refine GoR.op ((fun w => opB (op_eql rfl rfl w) (decide_eq_false h1)) _) rfl rfl ?_
 refine GoR.op ((op_move rfl) _) rfl rfl ?_
 refine GoR.op ((op_move rfl) _) rfl rfl ?_
 refine GoR.op ((op_len Try.underlying22 rfl) _) rfl rfl ?_
 by_cases h2 : (6 : Int) < (a0.length : Int)
 ·replace H := ifp h2 H
  refine GoR.op ((fun w => opB (op_gtr rfl rfl w) (decide_eq_true h2)) _) rfl rfl ?_
  refine GoR.op ((op_pickF rfl rfl rfl) _) rfl rfl ?_
  refine GoR.nil ?_
  refine Go1.condT rfl rfl ?_
  refine Go1.seq ?_
  refine Go1.region ?_
  refine GoR.op ((op_assign rfl) _) rfl rfl ?_
  refine GoR.op ((op_assign rfl) _) rfl rfl ?_
  refine GoR.nil ?_
  refine Go1.ret2 Try.func49 rfl ?_
  exact Or.inl ⟨((1 : Int)), rfl, hB.same, H⟩
 replace H := ifn h2 H
 refine GoR.op ((fun w => opB (op_gtr rfl rfl w) (decide_eq_false h2)) _) rfl rfl ?_
 refine GoR.op ((op_pickF rfl rfl rfl) _) rfl rfl ?_
 refine GoR.nil ?_
 refine Go1.condF rfl rfl ?_
 refine Go1.skip ?_
 refine Go1.seq ?_
 refine Go1.cut [(0, .slice o4 a0.length o5), (1, .bool a1)] ⟨rfl, rfl, trivial⟩ ?_
 intro σ _
 refine Go1.region ?_
 have hobt := omakeMap (fun a : List UInt8 => Value.string (gstr a)) (fun a : Int => Value.int .i64 a) hO
 obtain ⟨w3, B4, Bi, hs6, yW⟩ := hobt
 refine GoR.op yW rfl rfl ?_
 replace hO := Bi.own
 replace ca := ca.ch Bi.ch
 replace hB := hB.trans Bi.fr
 refine GoR.op ((op_build Try.underlying72 ti72 (pl := [(0, 9), (9, 1), (10, 1), (11, 1), (12, 1)]) (vs := [(1, .map (some B4))]) (cs := #[.int .i64 (0 : Int), .bool false, .slice none 0 0, .slice none 0 0, .slice none 0 0, .slice none 0 0, .slice none 0 0, .slice none 0 0, .int .i64 (0 : Int), .map (some B4), .slice none 0 0, .slice none 0 0, .slice none 0 0]) (by kernel_rfl) rfl (by kernel_rfl)) _) rfl rfl ?_
 have hobt := obox (t := 72) (v := .agg #[.int .i64 (0 : Int), .bool false, .slice none 0 0, .slice none 0 0, .slice none 0 0, .slice none 0 0, .slice none 0 0, .slice none 0 0, .int .i64 (0 : Int), .map (some B4), .slice none 0 0, .slice none 0 0, .slice none 0 0]) (cs := #[.int .i64 (0 : Int), .bool false, .slice none 0 0, .slice none 0 0, .slice none 0 0, .slice none 0 0, .slice none 0 0, .slice none 0 0, .int .i64 (0 : Int), .map (some B4), .slice none 0 0, .slice none 0 0, .slice none 0 0]) hO rfl
 obtain ⟨w9, B10, zQ, yX, zR⟩ := hobt
 refine GoR.op (zR rfl) rfl rfl ?_
 replace hO := zQ.own
 replace ca := ca.ch zQ.ch
 replace hB := hB.trans zQ.fr
 refine GoR.op ((op_assign rfl) _) rfl rfl ?_
 refine GoR.nil ?_
 refine Go1.seq ?_
 refine Go1.region ?_
 refine GoR.op ((op_move rfl) _) rfl rfl ?_
 refine GoR.op ((op_move rfl) _) rfl rfl ?_
 refine GoR.op ((op_move rfl) _) rfl rfl ?_
 obtain ⟨h15, H⟩ := H
 obtain ⟨h16, H⟩ := H
 refine GoR.op ((op_index Try.underlying22 ti26 rfl rfl h15 h16 (ca.some_ h15 h16)) _) rfl rfl ?_
 have hobt := ldSl ca h15 h16
 obtain ⟨p17, c18, wS, IX⟩ := hobt
 refine GoR.op ((IX Try.underlying26 rfl rfl) _ (Same.refl _)) rfl rfl ?_
 refine GoR.op ((op_len Try.underlying26 rfl) _) rfl rfl ?_
 replace H := H wS.bd
 refine GoR.op ((op_move rfl) _) rfl rfl ?_
 refine GoR.op ((op_nilCheck rfl) _) rfl rfl ?_
 refine GoR.op ((op_fieldAddr Try.underlying72 rfl ti29 rfl (by decide)) _) rfl rfl ?_
 refine GoR.op ((op_fieldAddr Try.underlying29 rfl ti3 rfl (by decide)) _) rfl rfl ?_
 have hobt := oblkSt2 (v := .int .i64 ((ix a0 (0 : Int)).length : Int)) (i := 0) (cs' := #[.int .i64 ((ix a0 (0 : Int)).length : Int), .bool false, .slice none 0 0, .slice none 0 0, .slice none 0 0, .slice none 0 0, .slice none 0 0, .slice none 0 0, .int .i64 (0 : Int), .map (some B4), .slice none 0 0, .slice none 0 0, .slice none 0 0]) 0 hO rfl rfl rfl rfl
 obtain ⟨w21, fE, E7⟩ := hobt
 refine GoR.op (E7 Try.underlying3 rfl ti3 (by exact rfl) (by exact rfl)) rfl rfl ?_
 replace hO := fE.own
 replace ca := ca.ch fE.ch
 replace wS := wS.ch fE.ch
 replace hB := hB.trans fE.fr
 refine GoR.op ((op_nilCheck rfl) _) rfl rfl ?_
 refine GoR.op ((op_fieldAddr Try.underlying72 rfl ti29 rfl (by decide)) _) rfl rfl ?_
 refine GoR.op ((op_fieldAddr Try.underlying29 rfl ti4 rfl (by decide)) _) rfl rfl ?_
 have hobt := oblkSt2 (v := .bool a1) (i := 1) (cs' := #[.int .i64 ((ix a0 (0 : Int)).length : Int), .bool a1, .slice none 0 0, .slice none 0 0, .slice none 0 0, .slice none 0 0, .slice none 0 0, .slice none 0 0, .int .i64 (0 : Int), .map (some B4), .slice none 0 0, .slice none 0 0, .slice none 0 0]) 0 hO rfl rfl rfl rfl
 obtain ⟨w24, yE, zS⟩ := hobt
 refine GoR.op (zS Try.underlying4 rfl ti4 (by exact rfl) (by exact rfl)) rfl rfl ?_
 replace hO := yE.own
 replace ca := ca.ch yE.ch
 replace wS := wS.ch yE.ch
 replace hB := hB.trans yE.fr
 refine GoR.nil ?_
 refine Go1.seq ?_
 refine Go1.seq ?_
 refine Go1.cut [(0, .slice o4 a0.length o5), (1, .bool a1), (6, .pointer (some ⟨B10, 0, none⟩))] ⟨rfl, rfl, rfl, trivial⟩ ?_
 intro σ _
 refine Go1.region ?_
 refine GoR.op ((op_move rfl) _) rfl rfl ?_
 refine GoR.op ((op_len Try.underlying22 rfl) _) rfl rfl ?_
 refine GoR.op ((op_move rfl) _) rfl rfl ?_
 refine GoR.nil ?_
 refine Go1.block ?_
 have j8 := Stp.nil (e := 26) (r := 1) hO
 replace hO := j8.own
 replace ca := ca.ch j8.ch
 replace wS := wS.ch j8.ch
 replace hB := hB.trans j8.fr
 have IY := Els.nil (Rp.sl (Rp.int .i64)) (bl (.row 26 1 none 0 0 [] :: [.blk B10 (.cells #[.int .i64 ((ix a0 (0 : Int)).length : Int), .bool a1, .slice none 0 0, .slice none 0 0, .slice none 0 0, .slice none 0 0, .slice none 0 0, .slice none 0 0, .int .i64 (0 : Int), .map (some B4), .slice none 0 0, .slice none 0 0, .slice none 0 0] 72 (0, 0)), .any (mapE (fun a : List UInt8 => Value.string (gstr a)) (fun a : Int => Value.int .i64 a) B4 (([] : List (Str × Int))))]) ++ A) w24
 refine Go1.loopW (S := Nat × List (List Int)) (fun s σ w => match s with | (k1_31, d_32) => ∃ (n37 : Nat), ∃ (p35 : Option Addr), ∃ (c36 : Nat), ∃ (fQ : List Value), agrees σ [(1, .bool a1), (6, .pointer (some ⟨B10, 0, none⟩)), (39, .slice o4 a0.length o5), (40, .int .i64 (a0.length : Int)), (41, .int .i64 (k1_31 : Int))] ∧ Owns w0.heap.size w [.row 26 1 p35 n37 c36 fQ, .blk B10 (.cells #[.int .i64 ((ix a0 (0 : Int)).length : Int), .bool a1, .slice p35 n37 c36, .slice none 0 0, .slice none 0 0, .slice none 0 0, .slice none 0 0, .slice none 0 0, .int .i64 (0 : Int), .map (some B4), .slice none 0 0, .slice none 0 0, .slice none 0 0] 72 (0, 0)), .any (mapE (fun a : List UInt8 => Value.string (gstr a)) (fun a : Int => Value.int .i64 a) B4 (([] : List (Str × Int))))] A ∧ Els (Rp.sl (Rp.int .i64)) (bl [.row 26 1 p35 n37 c36 fQ, .blk B10 (.cells #[.int .i64 ((ix a0 (0 : Int)).length : Int), .bool a1, .slice p35 n37 c36, .slice none 0 0, .slice none 0 0, .slice none 0 0, .slice none 0 0, .slice none 0 0, .int .i64 (0 : Int), .map (some B4), .slice none 0 0, .slice none 0 0, .slice none 0 0] 72 (0, 0)), .any (mapE (fun a : List UInt8 => Value.string (gstr a)) (fun a : Int => Value.int .i64 a) B4 (([] : List (Str × Int))))] ++ A) w fQ d_32 ∧ ISl (Rp.sl (Rp.int .i64)) (bl [.row 26 1 p35 n37 c36 fQ, .blk B10 (.cells #[.int .i64 ((ix a0 (0 : Int)).length : Int), .bool a1, .slice p35 n37 c36, .slice none 0 0, .slice none 0 0, .slice none 0 0, .slice none 0 0, .slice none 0 0, .int .i64 (0 : Int), .map (some B4), .slice none 0 0, .slice none 0 0, .slice none 0 0] 72 (0, 0)), .any (mapE (fun a : List UInt8 => Value.string (gstr a)) (fun a : Int => Value.int .i64 a) B4 (([] : List (Str × Int))))] ++ A) w o4 o5 a0 ∧ Fr (bl []) w0 (bl [.row 26 1 p35 n37 c36 fQ, .blk B10 (.cells #[.int .i64 ((ix a0 (0 : Int)).length : Int), .bool a1, .slice p35 n37 c36, .slice none 0 0, .slice none 0 0, .slice none 0 0, .slice none 0 0, .slice none 0 0, .int .i64 (0 : Int), .map (some B4), .slice none 0 0, .slice none 0 0, .slice none 0 0] 72 (0, 0)), .any (mapE (fun a : List UInt8 => Value.string (gstr a)) (fun a : Int => Value.int .i64 a) B4 (([] : List (Str × Int))))]) w) H ⟨0, none, 0, [], ⟨rfl, rfl, rfl, rfl, rfl, trivial⟩, hO, IY, ca, hB⟩ ?_
 intro X1
 refine prE fun k1_31 => fun d_32 => ?_
 intro H hX1 σ w30
 refine exE fun n37 => exE fun p35 => exE fun c36 => exE fun fQ => andE fun hag => andE fun hO => andE fun bc => andE fun ca => fun hB => ?_
 dsimp only at H
 refine Go1.keep [(1, .bool a1), (6, .pointer (some ⟨B10, 0, none⟩)), (39, .slice o4 a0.length o5), (40, .int .i64 (a0.length : Int)), (41, .int .i64 (k1_31 : Int))] hag ?_
 refine Go1.seq ?_
 refine Go1.region ?_
 by_cases h38 : (k1_31 : Int) < (a0.length : Int)
 ·replace H := ifp h38 H
  refine GoR.op ((fun w => opB (op_lss rfl rfl w) (decide_eq_true h38)) _) rfl rfl ?_
  refine GoR.nil ?_
  refine Go1.seq ?_
  refine Go1.condT rfl rfl ?_
  refine Go1.skip ?_
  refine Go1.seq ?_
  refine Go1.block ?_
  refine Go1.seq ?_
  refine Go1.region ?_
  obtain ⟨h39, H⟩ := H
  obtain ⟨h40, H⟩ := H
  refine GoR.op ((op_index Try.underlying22 ti26 rfl rfl h39 h40 (ca.some_ h39 h40)) _) rfl rfl ?_
  have hobt := ldSl ca h39 h40
  obtain ⟨p41, c42, o7, IZ⟩ := hobt
  refine GoR.op ((IZ Try.underlying26 rfl rfl) _ (Same.refl _)) rfl rfl ?_
  refine GoR.op ((op_assign rfl) _) rfl rfl ?_
  refine GoR.nil ?_
  refine Go1.seq ?_
  refine Go1.seq ?_
  refine Go1.region ?_
  refine GoR.op ((op_move rfl) _) rfl rfl ?_
  refine GoR.op ((op_len Try.underlying26 rfl) _) rfl rfl ?_
  replace H := H o7.bd
  refine GoR.op ((op_move rfl) _) rfl rfl ?_
  refine GoR.op ((op_nilCheck rfl) _) rfl rfl ?_
  refine GoR.op ((op_fieldAddr Try.underlying72 rfl ti29 rfl (by decide)) _) rfl rfl ?_
  refine GoR.op ((op_fieldAddr Try.underlying29 rfl ti3 rfl (by decide)) _) rfl rfl ?_
  refine GoR.op ((oblk (i := 0) 1 hO rfl rfl Try.underlying3 rfl rfl) _ (Same.refl _)) rfl rfl ?_
  by_cases h45 : ((ix a0 (k1_31 : Int)).length : Int) = ((ix a0 (0 : Int)).length : Int)
  ·replace H := ifp h45 H
   refine GoR.op ((fun w => opB (op_neq rfl rfl w) (ndT h45)) _) rfl rfl ?_
   refine GoR.op ((op_move rfl) _) rfl rfl ?_
   refine GoR.op ((op_move rfl) _) rfl rfl ?_
   refine GoR.call (op_call body60 rfl (walk_trans_Valid hO.lt o7 H)) rfl rfl ?_
   rintro v50 w47 ⟨r46, rfl, I0, H⟩
   have xv := Stp.same hO I0
   replace bc := bc.ch xv.ch
   replace hO := xv.own
   replace ca := ca.ch xv.ch
   replace o7 := o7.ch xv.ch
   replace hB := hB.trans xv.fr
   cases r46
   ·replace H := ifn Bool.false_ne_true H
    refine GoR.op ((op_not rfl) _) rfl rfl ?_
    refine GoR.op ((op_pickF rfl rfl rfl) _) rfl rfl ?_
    refine GoR.nil ?_
    refine Go1.condT rfl rfl ?_
    refine Go1.seq ?_
    refine Go1.region ?_
    refine GoR.op ((op_assign rfl) _) rfl rfl ?_
    refine GoR.op ((op_assign rfl) _) rfl rfl ?_
    refine GoR.nil ?_
    refine Go1.ret2 Try.func49 rfl ?_
    exact Or.inl ⟨((4 : Int)), rfl, hB.same, H⟩
   replace H := ifp rfl H
   refine GoR.op ((op_not rfl) _) rfl rfl ?_
   refine GoR.op ((op_pickF rfl rfl rfl) _) rfl rfl ?_
   refine GoR.nil ?_
   refine Go1.condF rfl rfl ?_
   refine Go1.skip ?_
   refine Go1.cut [(1, .bool a1), (6, .pointer (some ⟨B10, 0, none⟩)), (8, .slice p41 ((ix a0 (k1_31 : Int)).length) c42), (39, .slice o4 a0.length o5), (40, .int .i64 (a0.length : Int)), (41, .int .i64 (k1_31 : Int))] ⟨rfl, rfl, rfl, rfl, rfl, rfl, trivial⟩ ?_
   intro σ _
   refine Go1.drawS 1 [(0, .pure), (1, .pure), (2, .pure), (3, .pure), (4, .pure), (5, .stable), (6, .pure), (7, .loud), (8, .loud), (9, .last), (10, .pure), (11, .pure), (12, .pure), (13, .last)] mixed (by kernel_rfl) ?_
   intro w52 I1
   have xw := Stp.same hO I1
   replace bc := bc.ch xw.ch
   replace hO := xw.own
   replace ca := ca.ch xw.ch
   replace o7 := o7.ch xw.ch
   replace hB := hB.trans xw.fr
   refine GoQ.pure rfl (op_move rfl) rfl rfl ?_
   refine GoQ.pure rfl (op_move rfl) rfl rfl ?_
   refine GoQ.pure rfl (op_nilCheck rfl) rfl rfl ?_
   refine GoQ.pure rfl (op_fieldAddr Try.underlying72 rfl ti29 rfl (by decide)) rfl rfl ?_
   refine GoQ.pure rfl (op_fieldAddr Try.underlying29 rfl ti22 rfl (by decide)) rfl rfl ?_
   refine GoQ.stable rfl (oblk (i := 2) 1 hO rfl rfl Try.underlying22 rfl rfl) rfl rfl ?_
   refine GoQ.pure rfl (op_move rfl) rfl rfl ?_
   refine GoQ.call rfl (op_call body64 rfl (walk_slices_Clone_int hO.lt o7 H)) (fun v w hr => by obtain ⟨_, _, _, _, _, _, hs, _, _, _⟩ := hr; assumption) rfl rfl ?_
   rintro v60 w57 ⟨r55, B7, yF, yG, Kq, rfl, I2, hN59, Bj, H⟩
   have xx := Stp.more hO I2 hN59
   replace bc := bc.ch xx.ch
   replace hO := xx.own
   replace ca := ca.ch xx.ch
   replace o7 := o7.ch xx.ch
   replace hB := hB.trans xx.fr
   replace Bj := Bj.ch (Ch.assoc _ _ _ _)
   have hobt := freeze 0 hO rfl Bj
   obtain ⟨hO1, Bk, rf, I3⟩ := hobt
   replace ca := ca.ch Bk
   replace o7 := o7.ch Bk
   replace bc := bc.ch Bk
   replace hB := hB.trans (Owns.dropFr _ _ 0)
   replace hO := hO1; clear hO1
   have hobt := obuild (r := Rp.sl (Rp.int .i64)) (n := 1) (parts := [(0, .slice yF B7 yG)]) (vs := [.slice yF B7 yG]) (xs := [r55]) rfl Try.underlying22 ti26 hO (by decide) (by kernel_rfl) (Els.cons rfl ⟨yF, yG, congrArg some (congrArg (fun nn => Value.slice yF nn yG) I3), rf⟩ (Els.nil _ _ _) (by simp [mx])) rfl
   obtain ⟨w66, p67, v3, rM, I4, E8⟩ := hobt
   refine GoQ.loud rfl (E8 rfl) I4 rfl rfl ?_
   replace bc := bc.ch v3.ch
   replace hO := v3.own
   replace ca := ca.ch v3.ch
   replace o7 := o7.ch v3.ch
   replace rf := rf.ch v3.ch
   replace hB := hB.trans v3.fr
   have hobt := freeze 0 hO rfl rM
   obtain ⟨hO1, zT, yY, I5⟩ := hobt
   replace ca := ca.ch zT
   replace o7 := o7.ch zT
   replace rf := rf.ch zT
   replace bc := bc.ch zT
   replace hB := hB.trans (Owns.dropFr _ _ 0)
   replace hO := hO1; clear hO1
   obtain ⟨h76, H⟩ := H
   have hobt := oapp Try.underlying22 ti26 rfl 0 hO rfl bc yY I5 h76 (by decide)
   obtain ⟨w77, p78, c79, oF, v4, Bl, E9⟩ := hobt
   refine GoQ.last rfl (E9 (by exact rfl) (by exact rfl)) rfl rfl ?_
   replace hO := v4.own
   replace ca := ca.ch v4.ch
   replace o7 := o7.ch v4.ch
   replace rf := rf.ch v4.ch
   replace yY := yY.ch v4.ch
   replace hB := hB.trans v4.fr
   refine GoQ.pure rfl (op_nilCheck rfl) rfl rfl ?_
   refine GoQ.pure rfl (op_fieldAddr Try.underlying72 rfl ti29 rfl (by decide)) rfl rfl ?_
   refine GoQ.pure rfl (op_fieldAddr Try.underlying29 rfl ti22 rfl (by decide)) rfl rfl ?_
   have hobt := oblkSt2 (v := .slice p78 (n37 + 1) c79) (i := 2) (cs' := #[.int .i64 ((ix a0 (0 : Int)).length : Int), .bool a1, .slice p78 (n37 + 1) c79, .slice none 0 0, .slice none 0 0, .slice none 0 0, .slice none 0 0, .slice none 0 0, .int .i64 (0 : Int), .map (some B4), .slice none 0 0, .slice none 0 0, .slice none 0 0]) 1 hO rfl rfl rfl rfl
   obtain ⟨w85, ve, Fa⟩ := hobt
   refine GoQ.last rfl (Fa Try.underlying22 rfl ti22 (by exact rfl) (by exact rfl)) rfl rfl ?_
   replace Bl := Bl.ch ve.ch
   replace hO := ve.own
   replace ca := ca.ch ve.ch
   replace o7 := o7.ch ve.ch
   replace rf := rf.ch ve.ch
   replace yY := yY.ch ve.ch
   replace hB := hB.trans ve.fr
   refine GoQ.nil ?_
   refine Go1.inBlock ?_
   refine Go1.region ?_
   refine GoR.op ((op_add rfl rfl (wrap_i64 (natbd h38 ca.bd))) _) rfl rfl ?_
   refine GoR.op ((op_move rfl) _) rfl rfl ?_
   refine GoR.nil ?_
   exact hX1 _ H _ _ ⟨n37 + 1, p78, c79, oF, ⟨rfl, rfl, rfl, rfl, rfl, trivial⟩, hO, Bl, ca, hB⟩
  replace H := ifn h45 H
  refine GoR.op ((fun w => opB (op_neq rfl rfl w) (ndF h45)) _) rfl rfl ?_
  refine GoR.op ((op_move rfl) _) rfl rfl ?_
  refine GoR.pass rfl rfl ?_
  refine GoR.pass rfl rfl ?_
  refine GoR.pass rfl rfl ?_
  refine GoR.op ((op_pickT rfl rfl rfl) _) rfl rfl ?_
  refine GoR.nil ?_
  refine Go1.condT rfl rfl ?_
  refine Go1.seq ?_
  refine Go1.cut [] trivial ?_
  intro σ _
  refine Go1.region ?_
  refine GoR.op ((op_assign rfl) _) rfl rfl ?_
  refine GoR.op ((op_assign rfl) _) rfl rfl ?_
  refine GoR.nil ?_
  refine Go1.ret2 Try.func49 rfl ?_
  exact Or.inl ⟨((4 : Int)), rfl, hB.same, H⟩
 replace H := ifn h38 H
 refine GoR.op ((fun w => opB (op_lss rfl rfl w) (decide_eq_false h38)) _) rfl rfl ?_
 refine GoR.nil ?_
 refine Go1.seq ?_
 refine Go1.condF rfl rfl ?_
 refine Go1.exit rfl ?_
 refine Go1.seq ?_
 refine Go1.region ?_
 refine GoR.op ((op_assign rfl) _) rfl rfl ?_
 refine GoR.nil ?_
 refine Go1.seq ?_
 refine Go1.seq ?_
 refine Go1.region ?_
 refine GoR.op ((op_move rfl) _) rfl rfl ?_
 refine GoR.nil ?_
 cases a1
 ·replace H := ifn Bool.false_ne_true H
  refine Go1.condF rfl rfl ?_
  refine Go1.skip ?_
  refine Go1.seq ?_
  refine Go1.seq ?_
  refine Go1.region ?_
  refine GoR.op ((op_move rfl) _) rfl rfl ?_
  refine GoR.op ((op_nilCheck rfl) _) rfl rfl ?_
  refine GoR.op ((op_fieldAddr Try.underlying72 rfl ti29 rfl (by decide)) _) rfl rfl ?_
  refine GoR.op ((op_fieldAddr Try.underlying29 rfl ti22 rfl (by decide)) _) rfl rfl ?_
  refine GoR.op ((oblk (i := 2) 1 hO rfl rfl Try.underlying22 rfl rfl) _ (Same.refl _)) rfl rfl ?_
  refine GoR.op ((op_lenN Try.underlying22 rfl (bc.neq hO 0 rfl)) _) rfl rfl ?_
  refine GoR.op ((op_move rfl) _) rfl rfl ?_
  refine GoR.nil ?_
  refine Go1.block ?_
  have yH := Stp.nil (e := 26) (r := 1) hO
  replace bc := bc.ch yH.ch
  replace hO := yH.own
  replace ca := ca.ch yH.ch
  replace hB := hB.trans yH.fr
  have dD := Els.nil (Rp.sl (Rp.int .i64)) (bl (.row 26 1 none 0 0 [] :: [.row 26 1 p35 n37 c36 fQ, .blk B10 (.cells #[.int .i64 ((ix a0 (0 : Int)).length : Int), .bool false, .slice p35 n37 c36, .slice none 0 0, .slice none 0 0, .slice none 0 0, .slice none 0 0, .slice none 0 0, .int .i64 (0 : Int), .map (some B4), .slice none 0 0, .slice none 0 0, .slice none 0 0] 72 (0, 0)), .any (mapE (fun a : List UInt8 => Value.string (gstr a)) (fun a : Int => Value.int .i64 a) B4 (([] : List (Str × Int))))]) ++ A) w30
  have xz := Stp.nil (e := 3) (r := 1) hO
  replace dD := dD.ch xz.ch
  replace bc := bc.ch xz.ch
  replace hO := xz.own
  replace ca := ca.ch xz.ch
  replace hB := hB.trans xz.fr
  have ko := Els.nil (Rp.int .i64) (bl (.row 3 1 none 0 0 [] :: [.row 26 1 none 0 0 [], .row 26 1 p35 n37 c36 fQ, .blk B10 (.cells #[.int .i64 ((ix a0 (0 : Int)).length : Int), .bool false, .slice p35 n37 c36, .slice none 0 0, .slice none 0 0, .slice none 0 0, .slice none 0 0, .slice none 0 0, .int .i64 (0 : Int), .map (some B4), .slice none 0 0, .slice none 0 0, .slice none 0 0] 72 (0, 0)), .any (mapE (fun a : List UInt8 => Value.string (gstr a)) (fun a : Int => Value.int .i64 a) B4 (([] : List (Str × Int))))]) ++ A) w30
  have nP := Stp.nil (e := 3) (r := 1) hO
  replace ko := ko.ch nP.ch
  replace dD := dD.ch nP.ch
  replace bc := bc.ch nP.ch
  replace hO := nP.own
  replace ca := ca.ch nP.ch
  replace hB := hB.trans nP.fr
  have vg := Els.nil (Rp.int .i64) (bl (.row 3 1 none 0 0 [] :: [.row 3 1 none 0 0 [], .row 26 1 none 0 0 [], .row 26 1 p35 n37 c36 fQ, .blk B10 (.cells #[.int .i64 ((ix a0 (0 : Int)).length : Int), .bool false, .slice p35 n37 c36, .slice none 0 0, .slice none 0 0, .slice none 0 0, .slice none 0 0, .slice none 0 0, .int .i64 (0 : Int), .map (some B4), .slice none 0 0, .slice none 0 0, .slice none 0 0] 72 (0, 0)), .any (mapE (fun a : List UInt8 => Value.string (gstr a)) (fun a : Int => Value.int .i64 a) B4 (([] : List (Str × Int))))]) ++ A) w30
  have vh := Stp.nil (e := 39) (r := 2) hO
  replace vg := vg.ch vh.ch
  replace ko := ko.ch vh.ch
  replace dD := dD.ch vh.ch
  replace bc := bc.ch vh.ch
  replace hO := vh.own
  replace ca := ca.ch vh.ch
  replace hB := hB.trans vh.fr
  have wT := Els.nil (rpRule) (bl (.row 39 2 none 0 0 [] :: [.row 3 1 none 0 0 [], .row 3 1 none 0 0 [], .row 26 1 none 0 0 [], .row 26 1 p35 n37 c36 fQ, .blk B10 (.cells #[.int .i64 ((ix a0 (0 : Int)).length : Int), .bool false, .slice p35 n37 c36, .slice none 0 0, .slice none 0 0, .slice none 0 0, .slice none 0 0, .slice none 0 0, .int .i64 (0 : Int), .map (some B4), .slice none 0 0, .slice none 0 0, .slice none 0 0] 72 (0, 0)), .any (mapE (fun a : List UInt8 => Value.string (gstr a)) (fun a : Int => Value.int .i64 a) B4 (([] : List (Str × Int))))]) ++ A) w30
  have jX := Stp.nil (e := 9) (r := 1) hO
  replace wT := wT.ch jX.ch
  replace vg := vg.ch jX.ch
  replace ko := ko.ch jX.ch
  replace dD := dD.ch jX.ch
  replace bc := bc.ch jX.ch
  replace hO := jX.own
  replace ca := ca.ch jX.ch
  replace hB := hB.trans jX.fr
  have xA := Els.nil (Rp.str) (bl (.row 9 1 none 0 0 [] :: [.row 39 2 none 0 0 [], .row 3 1 none 0 0 [], .row 3 1 none 0 0 [], .row 26 1 none 0 0 [], .row 26 1 p35 n37 c36 fQ, .blk B10 (.cells #[.int .i64 ((ix a0 (0 : Int)).length : Int), .bool false, .slice p35 n37 c36, .slice none 0 0, .slice none 0 0, .slice none 0 0, .slice none 0 0, .slice none 0 0, .int .i64 (0 : Int), .map (some B4), .slice none 0 0, .slice none 0 0, .slice none 0 0] 72 (0, 0)), .any (mapE (fun a : List UInt8 => Value.string (gstr a)) (fun a : Int => Value.int .i64 a) B4 (([] : List (Str × Int))))]) ++ A) w30
  have fA := Stp.nil (e := 3) (r := 1) hO
  replace xA := xA.ch fA.ch
  replace wT := wT.ch fA.ch
  replace vg := vg.ch fA.ch
  replace ko := ko.ch fA.ch
  replace dD := dD.ch fA.ch
  replace bc := bc.ch fA.ch
  replace hO := fA.own
  replace ca := ca.ch fA.ch
  replace hB := hB.trans fA.fr
  have zU := Els.nil (Rp.int .i64) (bl (.row 3 1 none 0 0 [] :: [.row 9 1 none 0 0 [], .row 39 2 none 0 0 [], .row 3 1 none 0 0 [], .row 3 1 none 0 0 [], .row 26 1 none 0 0 [], .row 26 1 p35 n37 c36 fQ, .blk B10 (.cells #[.int .i64 ((ix a0 (0 : Int)).length : Int), .bool false, .slice p35 n37 c36, .slice none 0 0, .slice none 0 0, .slice none 0 0, .slice none 0 0, .slice none 0 0, .int .i64 (0 : Int), .map (some B4), .slice none 0 0, .slice none 0 0, .slice none 0 0] 72 (0, 0)), .any (mapE (fun a : List UInt8 => Value.string (gstr a)) (fun a : Int => Value.int .i64 a) B4 (([] : List (Str × Int))))]) ++ A) w30
  have rV := Stp.nil (e := 3) (r := 1) hO
  replace zU := zU.ch rV.ch
  replace xA := xA.ch rV.ch
  replace wT := wT.ch rV.ch
  replace vg := vg.ch rV.ch
  replace ko := ko.ch rV.ch
  replace dD := dD.ch rV.ch
  replace bc := bc.ch rV.ch
  replace hO := rV.own
  replace ca := ca.ch rV.ch
  replace hB := hB.trans rV.fr
  have Fb := Els.nil (Rp.int .i64) (bl (.row 3 1 none 0 0 [] :: [.row 3 1 none 0 0 [], .row 9 1 none 0 0 [], .row 39 2 none 0 0 [], .row 3 1 none 0 0 [], .row 3 1 none 0 0 [], .row 26 1 none 0 0 [], .row 26 1 p35 n37 c36 fQ, .blk B10 (.cells #[.int .i64 ((ix a0 (0 : Int)).length : Int), .bool false, .slice p35 n37 c36, .slice none 0 0, .slice none 0 0, .slice none 0 0, .slice none 0 0, .slice none 0 0, .int .i64 (0 : Int), .map (some B4), .slice none 0 0, .slice none 0 0, .slice none 0 0] 72 (0, 0)), .any (mapE (fun a : List UInt8 => Value.string (gstr a)) (fun a : Int => Value.int .i64 a) B4 (([] : List (Str × Int))))]) ++ A) w30
  refine Go1.loopW (S := Nat × List Int × List Int × List Str × List Rule × List Int × List Int × List (List Int) × (List (Str × Int))) (fun s σ w => match s with | (k2_110, d_111, d_117, d_123, d_129, d_135, d_141, d_147, m2_153) => ∃ (iQ : Nat), ∃ (kc : Option Addr), ∃ (kd : Nat), ∃ (qP : List Value), ∃ (iX : Nat), ∃ (ji : Option Addr), ∃ (jK : Nat), ∃ (o8 : List Value), ∃ (iY : Nat), ∃ (ke : Option Addr), ∃ (kg : Nat), ∃ (o9 : List Value), ∃ (iZ : Nat), ∃ (jL : Option Addr), ∃ (jM : Nat), ∃ (pc : List Value), ∃ (i4 : Nat), ∃ (kq : Option Addr), ∃ (kr : Nat), ∃ (pe : List Value), ∃ (i5 : Nat), ∃ (kT : Option Addr), ∃ (kU : Nat), ∃ (pg : List Value), ∃ (i6 : Nat), ∃ (lA : Option Addr), ∃ (lB : Nat), ∃ (ph : List Value), agrees σ [(6, .pointer (some ⟨B10, 0, none⟩)), (9, .int .i64 (-1 : Int)), (85, .slice p35 n37 c36), (86, .int .i64 (d_32.length : Int)), (87, .int .i64 (k2_110 : Int))] ∧ Owns w0.heap.size w [.row 3 1 kc iQ kd qP, .row 3 1 ji iX jK o8, .row 9 1 ke iY kg o9, .row 39 2 jL iZ jM pc, .row 3 1 kq i4 kr pe, .row 3 1 kT i5 kU pg, .row 26 1 lA i6 lB ph, .row 26 1 p35 n37 c36 fQ, .blk B10 (.cells #[.int .i64 ((ix a0 (0 : Int)).length : Int), .bool false, .slice p35 n37 c36, .slice lA i6 lB, .slice kT i5 kU, .slice kq i4 kr, .slice none 0 0, .slice jL iZ jM, .int .i64 (0 : Int), .map (some B4), .slice ke iY kg, .slice ji iX jK, .slice kc iQ kd] 72 (0, 0)), .any (mapE (fun a : List UInt8 => Value.string (gstr a)) (fun a : Int => Value.int .i64 a) B4 m2_153)] A ∧ Els (Rp.int .i64) (bl [.row 3 1 kc iQ kd qP, .row 3 1 ji iX jK o8, .row 9 1 ke iY kg o9, .row 39 2 jL iZ jM pc, .row 3 1 kq i4 kr pe, .row 3 1 kT i5 kU pg, .row 26 1 lA i6 lB ph, .row 26 1 p35 n37 c36 fQ, .blk B10 (.cells #[.int .i64 ((ix a0 (0 : Int)).length : Int), .bool false, .slice p35 n37 c36, .slice lA i6 lB, .slice kT i5 kU, .slice kq i4 kr, .slice none 0 0, .slice jL iZ jM, .int .i64 (0 : Int), .map (some B4), .slice ke iY kg, .slice ji iX jK, .slice kc iQ kd] 72 (0, 0)), .any (mapE (fun a : List UInt8 => Value.string (gstr a)) (fun a : Int => Value.int .i64 a) B4 m2_153)] ++ A) w qP d_111 ∧ Els (Rp.int .i64) (bl [.row 3 1 kc iQ kd qP, .row 3 1 ji iX jK o8, .row 9 1 ke iY kg o9, .row 39 2 jL iZ jM pc, .row 3 1 kq i4 kr pe, .row 3 1 kT i5 kU pg, .row 26 1 lA i6 lB ph, .row 26 1 p35 n37 c36 fQ, .blk B10 (.cells #[.int .i64 ((ix a0 (0 : Int)).length : Int), .bool false, .slice p35 n37 c36, .slice lA i6 lB, .slice kT i5 kU, .slice kq i4 kr, .slice none 0 0, .slice jL iZ jM, .int .i64 (0 : Int), .map (some B4), .slice ke iY kg, .slice ji iX jK, .slice kc iQ kd] 72 (0, 0)), .any (mapE (fun a : List UInt8 => Value.string (gstr a)) (fun a : Int => Value.int .i64 a) B4 m2_153)] ++ A) w o8 d_117 ∧ Els (Rp.str) (bl [.row 3 1 kc iQ kd qP, .row 3 1 ji iX jK o8, .row 9 1 ke iY kg o9, .row 39 2 jL iZ jM pc, .row 3 1 kq i4 kr pe, .row 3 1 kT i5 kU pg, .row 26 1 lA i6 lB ph, .row 26 1 p35 n37 c36 fQ, .blk B10 (.cells #[.int .i64 ((ix a0 (0 : Int)).length : Int), .bool false, .slice p35 n37 c36, .slice lA i6 lB, .slice kT i5 kU, .slice kq i4 kr, .slice none 0 0, .slice jL iZ jM, .int .i64 (0 : Int), .map (some B4), .slice ke iY kg, .slice ji iX jK, .slice kc iQ kd] 72 (0, 0)), .any (mapE (fun a : List UInt8 => Value.string (gstr a)) (fun a : Int => Value.int .i64 a) B4 m2_153)] ++ A) w o9 d_123 ∧ Els (rpRule) (bl [.row 3 1 kc iQ kd qP, .row 3 1 ji iX jK o8, .row 9 1 ke iY kg o9, .row 39 2 jL iZ jM pc, .row 3 1 kq i4 kr pe, .row 3 1 kT i5 kU pg, .row 26 1 lA i6 lB ph, .row 26 1 p35 n37 c36 fQ, .blk B10 (.cells #[.int .i64 ((ix a0 (0 : Int)).length : Int), .bool false, .slice p35 n37 c36, .slice lA i6 lB, .slice kT i5 kU, .slice kq i4 kr, .slice none 0 0, .slice jL iZ jM, .int .i64 (0 : Int), .map (some B4), .slice ke iY kg, .slice ji iX jK, .slice kc iQ kd] 72 (0, 0)), .any (mapE (fun a : List UInt8 => Value.string (gstr a)) (fun a : Int => Value.int .i64 a) B4 m2_153)] ++ A) w pc d_129 ∧ Els (Rp.int .i64) (bl [.row 3 1 kc iQ kd qP, .row 3 1 ji iX jK o8, .row 9 1 ke iY kg o9, .row 39 2 jL iZ jM pc, .row 3 1 kq i4 kr pe, .row 3 1 kT i5 kU pg, .row 26 1 lA i6 lB ph, .row 26 1 p35 n37 c36 fQ, .blk B10 (.cells #[.int .i64 ((ix a0 (0 : Int)).length : Int), .bool false, .slice p35 n37 c36, .slice lA i6 lB, .slice kT i5 kU, .slice kq i4 kr, .slice none 0 0, .slice jL iZ jM, .int .i64 (0 : Int), .map (some B4), .slice ke iY kg, .slice ji iX jK, .slice kc iQ kd] 72 (0, 0)), .any (mapE (fun a : List UInt8 => Value.string (gstr a)) (fun a : Int => Value.int .i64 a) B4 m2_153)] ++ A) w pe d_135 ∧ Els (Rp.int .i64) (bl [.row 3 1 kc iQ kd qP, .row 3 1 ji iX jK o8, .row 9 1 ke iY kg o9, .row 39 2 jL iZ jM pc, .row 3 1 kq i4 kr pe, .row 3 1 kT i5 kU pg, .row 26 1 lA i6 lB ph, .row 26 1 p35 n37 c36 fQ, .blk B10 (.cells #[.int .i64 ((ix a0 (0 : Int)).length : Int), .bool false, .slice p35 n37 c36, .slice lA i6 lB, .slice kT i5 kU, .slice kq i4 kr, .slice none 0 0, .slice jL iZ jM, .int .i64 (0 : Int), .map (some B4), .slice ke iY kg, .slice ji iX jK, .slice kc iQ kd] 72 (0, 0)), .any (mapE (fun a : List UInt8 => Value.string (gstr a)) (fun a : Int => Value.int .i64 a) B4 m2_153)] ++ A) w pg d_141 ∧ Els (Rp.sl (Rp.int .i64)) (bl [.row 3 1 kc iQ kd qP, .row 3 1 ji iX jK o8, .row 9 1 ke iY kg o9, .row 39 2 jL iZ jM pc, .row 3 1 kq i4 kr pe, .row 3 1 kT i5 kU pg, .row 26 1 lA i6 lB ph, .row 26 1 p35 n37 c36 fQ, .blk B10 (.cells #[.int .i64 ((ix a0 (0 : Int)).length : Int), .bool false, .slice p35 n37 c36, .slice lA i6 lB, .slice kT i5 kU, .slice kq i4 kr, .slice none 0 0, .slice jL iZ jM, .int .i64 (0 : Int), .map (some B4), .slice ke iY kg, .slice ji iX jK, .slice kc iQ kd] 72 (0, 0)), .any (mapE (fun a : List UInt8 => Value.string (gstr a)) (fun a : Int => Value.int .i64 a) B4 m2_153)] ++ A) w ph d_147 ∧ Els (Rp.sl (Rp.int .i64)) (bl [.row 3 1 kc iQ kd qP, .row 3 1 ji iX jK o8, .row 9 1 ke iY kg o9, .row 39 2 jL iZ jM pc, .row 3 1 kq i4 kr pe, .row 3 1 kT i5 kU pg, .row 26 1 lA i6 lB ph, .row 26 1 p35 n37 c36 fQ, .blk B10 (.cells #[.int .i64 ((ix a0 (0 : Int)).length : Int), .bool false, .slice p35 n37 c36, .slice lA i6 lB, .slice kT i5 kU, .slice kq i4 kr, .slice none 0 0, .slice jL iZ jM, .int .i64 (0 : Int), .map (some B4), .slice ke iY kg, .slice ji iX jK, .slice kc iQ kd] 72 (0, 0)), .any (mapE (fun a : List UInt8 => Value.string (gstr a)) (fun a : Int => Value.int .i64 a) B4 m2_153)] ++ A) w fQ d_32 ∧ Fr (bl []) w0 (bl [.row 3 1 kc iQ kd qP, .row 3 1 ji iX jK o8, .row 9 1 ke iY kg o9, .row 39 2 jL iZ jM pc, .row 3 1 kq i4 kr pe, .row 3 1 kT i5 kU pg, .row 26 1 lA i6 lB ph, .row 26 1 p35 n37 c36 fQ, .blk B10 (.cells #[.int .i64 ((ix a0 (0 : Int)).length : Int), .bool false, .slice p35 n37 c36, .slice lA i6 lB, .slice kT i5 kU, .slice kq i4 kr, .slice none 0 0, .slice jL iZ jM, .int .i64 (0 : Int), .map (some B4), .slice ke iY kg, .slice ji iX jK, .slice kc iQ kd] 72 (0, 0)), .any (mapE (fun a : List UInt8 => Value.string (gstr a)) (fun a : Int => Value.int .i64 a) B4 m2_153)]) w) H ⟨0, none, 0, [], 0, none, 0, [], 0, none, 0, [], 0, none, 0, [], 0, none, 0, [], 0, none, 0, [], 0, none, 0, [], ⟨rfl, rfl, rfl, rfl, rfl, trivial⟩, hO, Fb, zU, xA, wT, vg, ko, dD, bc, hB⟩ ?_
  intro X2
  refine prE fun k2_110 => prE fun d_111 => prE fun d_117 => prE fun d_123 => prE fun d_129 => prE fun d_135 => prE fun d_141 => prE fun d_147 => fun m2_153 => ?_
  intro H hX2 σ x4
  refine exE fun iQ => exE fun kc => exE fun kd => exE fun qP => exE fun iX => exE fun ji => exE fun jK => exE fun o8 => exE fun iY => exE fun ke => exE fun kg => exE fun o9 => exE fun iZ => exE fun jL => exE fun jM => exE fun pc => exE fun i4 => exE fun kq => exE fun kr => exE fun pe => exE fun i5 => exE fun kT => exE fun kU => exE fun pg => exE fun i6 => exE fun lA => exE fun lB => exE fun ph => andE fun hag => andE fun hO => andE fun cA => andE fun cD => andE fun cK => andE fun cE => andE fun da => andE fun dp => andE fun dE => andE fun bc => fun hB => ?_
  dsimp only at H
  refine Go1.keep [(6, .pointer (some ⟨B10, 0, none⟩)), (9, .int .i64 (-1 : Int)), (85, .slice p35 n37 c36), (86, .int .i64 (d_32.length : Int)), (87, .int .i64 (k2_110 : Int))] hag ?_
  refine Go1.seq ?_
  refine Go1.region ?_
  by_cases uK : (k2_110 : Int) < (d_32.length : Int)
  ·replace H := ifp uK H
   refine GoR.op ((fun w => opB (op_lss rfl rfl w) (decide_eq_true uK)) _) rfl rfl ?_
   refine GoR.nil ?_
   refine Go1.seq ?_
   refine Go1.condT rfl rfl ?_
   refine Go1.skip ?_
   refine Go1.seq ?_
   refine Go1.block ?_
   refine Go1.seq ?_
   refine Go1.region ?_
   refine GoR.op ((op_move rfl) _) rfl rfl ?_
   obtain ⟨t5, H⟩ := H
   obtain ⟨t6, H⟩ := H
   refine GoR.op ((op_index Try.underlying22 ti26 rfl rfl t5 (ltn (bc.neq hO 7 rfl) t6) (bc.psome hO 7 rfl t5 t6)) _) rfl rfl ?_
   have hobt := oldSl 7 hO rfl bc t5 t6
   obtain ⟨Bd, Be, cQ, zI⟩ := hobt
   refine GoR.op ((zI Try.underlying26 rfl rfl) _ (Same.refl _)) rfl rfl ?_
   refine GoR.op ((op_assign rfl) _) rfl rfl ?_
   refine GoR.op ((op_assign rfl) _) rfl rfl ?_
   refine GoR.nil ?_
   refine Go1.seq ?_
   refine Go1.region ?_
   refine GoR.op ((op_move rfl) _) rfl rfl ?_
   obtain ⟨yU, H⟩ := H
   refine GoR.op ((op_add rfl rfl (wrap_i64 yU)) _) rfl rfl ?_
   refine GoR.op ((op_conv Try.underlying3 Try.underlying21 rfl rfl) _) rfl rfl ?_
   obtain ⟨vd, H⟩ := H
   obtain ⟨yZ, H⟩ := H
   refine GoR.op ((op_convRS Try.underlying21 Try.underlying9 rfl vd yZ) _) rfl rfl ?_
   refine GoR.op ((op_assign rfl) _) rfl rfl ?_
   refine GoR.nil ?_
   refine Go1.seq ?_
   refine Go1.drawS 0 [(0, .pure), (1, .pure), (2, .pure), (3, .stable), (4, .pure), (5, .loud), (6, .stable), (7, .pure), (8, .pure), (9, .pure), (10, .pure), (11, .pure)] mixed (by kernel_rfl) ?_
   intro LJ Fc
   have rg := Stp.same hO Fc
   replace cA := cA.ch rg.ch
   replace cD := cD.ch rg.ch
   replace cK := cK.ch rg.ch
   replace cE := cE.ch rg.ch
   replace da := da.ch rg.ch
   replace dp := dp.ch rg.ch
   replace dE := dE.ch rg.ch
   replace bc := bc.ch rg.ch
   replace hO := rg.own
   replace cQ := cQ.ch rg.ch
   replace hB := hB.trans rg.fr
   refine GoQ.pure rfl (op_move rfl) rfl rfl ?_
   refine GoQ.pure rfl (op_nilCheck rfl) rfl rfl ?_
   refine GoQ.pure rfl (op_fieldAddr Try.underlying72 rfl ti69 rfl (by decide)) rfl rfl ?_
   refine GoQ.stable rfl (oblk (i := 9) 8 hO rfl rfl Try.underlying69 rfl rfl) rfl rfl ?_
   refine GoQ.pure rfl (op_move rfl) rfl rfl ?_
   refine GoQ.call rfl (op_call body61 rfl (walk_enumerate_text hO.lt cQ H)) (fun v w hr => by obtain ⟨_, _, hs, _, _⟩ := hr; assumption) rfl rfl ?_
   rintro IH II ⟨r167, rfl, zJ, Kc, H⟩
   have fM := Stp.same hO zJ
   replace cA := cA.ch fM.ch
   replace cD := cD.ch fM.ch
   replace cK := cK.ch fM.ch
   replace cE := cE.ch fM.ch
   replace da := da.ch fM.ch
   replace dp := dp.ch fM.ch
   replace dE := dE.ch fM.ch
   replace bc := bc.ch fM.ch
   replace hO := fM.own
   replace cQ := cQ.ch fM.ch
   replace hB := hB.trans fM.fr
   by_cases vG : mhas m2_153 r167 = true
   ·replace H := ifp vG H
    refine GoQ.stable rfl (olookT (a := r167) (MK.str Try.underlying9) 9 hO rfl Try.underlying69 rfl rfl vG) rfl rfl ?_
    refine GoQ.pure rfl (op_move rfl) rfl rfl ?_
    refine GoQ.pure rfl (op_extract rfl rfl) rfl rfl ?_
    refine GoQ.pure rfl (op_extract rfl rfl) rfl rfl ?_
    refine GoQ.pure rfl (op_assign rfl) rfl rfl ?_
    refine GoQ.pure rfl (op_assign rfl) rfl rfl ?_
    refine GoQ.nil ?_
    refine Go1.seq ?_
    refine Go1.seq ?_
    refine Go1.cut [(6, .pointer (some ⟨B10, 0, none⟩)), (9, .int .i64 (-1 : Int)), (10, .int .i64 (k2_110 : Int)), (11, .slice Bd ((ix d_32 (k2_110 : Int)).length) Be), (12, .string (gstr (chr (IntKind.i32.wrap ((97 : Int) + (k2_110 : Int)))))), (13, .int .i64 (mgt m2_153 r167)), (14, .bool true), (85, .slice p35 n37 c36), (86, .int .i64 (d_32.length : Int)), (87, .int .i64 (k2_110 : Int))] ⟨rfl, rfl, rfl, rfl, rfl, rfl, rfl, rfl, rfl, rfl, trivial⟩ ?_
    intro σ _
    refine Go1.region ?_
    refine GoR.op ((op_move rfl) _) rfl rfl ?_
    refine GoR.nil ?_
    refine Go1.condT rfl rfl ?_
    refine Go1.drawS 5 [(0, .pure), (1, .pure), (2, .pure), (3, .pure), (4, .pure), (5, .stable), (6, .pure), (7, .pure), (8, .pure), (9, .pure), (10, .stable), (11, .pure), (12, .pure), (13, .stable), (14, .pure), (15, .loud), (16, .last), (17, .pure), (18, .pure), (19, .pure), (20, .last)] mixed (by kernel_rfl) ?_
    intro IJ zK
    have rh := Stp.same hO zK
    replace cA := cA.ch rh.ch
    replace cD := cD.ch rh.ch
    replace cK := cK.ch rh.ch
    replace cE := cE.ch rh.ch
    replace da := da.ch rh.ch
    replace dp := dp.ch rh.ch
    replace dE := dE.ch rh.ch
    replace bc := bc.ch rh.ch
    replace hO := rh.own
    replace cQ := cQ.ch rh.ch
    replace hB := hB.trans rh.fr
    refine GoQ.pure rfl (op_move rfl) rfl rfl ?_
    refine GoQ.pure rfl (op_move rfl) rfl rfl ?_
    refine GoQ.pure rfl (op_nilCheck rfl) rfl rfl ?_
    refine GoQ.pure rfl (op_fieldAddr Try.underlying72 rfl ti29 rfl (by decide)) rfl rfl ?_
    refine GoQ.pure rfl (op_fieldAddr Try.underlying29 rfl ti27 rfl (by decide)) rfl rfl ?_
    refine GoQ.stable rfl (oblk (i := 7) 8 hO rfl rfl Try.underlying27 rfl rfl) rfl rfl ?_
    refine GoQ.pure rfl (op_move rfl) rfl rfl ?_
    refine GoQ.pure rfl (op_move rfl) rfl rfl ?_
    refine GoQ.pure rfl (op_nilCheck rfl) rfl rfl ?_
    refine GoQ.pure rfl (op_fieldAddr Try.underlying72 rfl ti70 rfl (by decide)) rfl rfl ?_
    refine GoQ.stable rfl (oblk (i := 10) 8 hO rfl rfl Try.underlying70 rfl rfl) rfl rfl ?_
    refine GoQ.pure rfl (op_move rfl) rfl rfl ?_
    obtain ⟨vB, H⟩ := H
    obtain ⟨vC, H⟩ := H
    refine GoQ.pure rfl (op_index Try.underlying70 ti9 rfl rfl vB (ltn (cK.neq hO 2 rfl) vC) (cK.psome hO 2 rfl vB vC)) rfl rfl ?_
    refine GoQ.stable rfl (oldStr 2 hO rfl cK vB vC Try.underlying9 rfl rfl) rfl rfl ?_
    have hle179 := Els.str_le cK vB vC
    refine GoQ.pure rfl (op_build Try.underlying39 ti39 (pl := [(0, 1), (1, 1)]) (vs := [(0, .string (gstr (chr (IntKind.i32.wrap ((97 : Int) + (k2_110 : Int)))))), (1, .string (gstr (ix d_123 (mgt m2_153 r167))))]) (cs := #[.string (gstr (chr (IntKind.i32.wrap ((97 : Int) + (k2_110 : Int))))), .string (gstr (ix d_123 (mgt m2_153 r167)))]) (by kernel_rfl) rfl (by kernel_rfl)) rfl rfl ?_
    have hobt := obuildN (r := rpRule) (n := 1) (parts := [(0, .agg #[.string (gstr (chr (IntKind.i32.wrap ((97 : Int) + (k2_110 : Int))))), .string (gstr (ix d_123 (mgt m2_153 r167)))])]) (vs := [.string (gstr (chr (IntKind.i32.wrap ((97 : Int) + (k2_110 : Int))))), .string (gstr (ix d_123 (mgt m2_153 r167)))]) (xs := [(⟨chr (IntKind.i32.wrap ((97 : Int) + (k2_110 : Int))), ix d_123 (mgt m2_153 r167)⟩ : Rule)]) Try.underlying27 ti39 hO (by decide) (by decide) (by kernel_rfl) (Els.flat1 (⟨chr (IntKind.i32.wrap ((97 : Int) + (k2_110 : Int))), ix d_123 (mgt m2_153 r167)⟩ : Rule) ⟨(chr_le _), hle179⟩) rfl
    obtain ⟨IK, LK, jY, Fd, Fe, Ct⟩ := hobt
    refine GoQ.loud rfl (Ct rfl) Fe rfl rfl ?_
    replace cA := cA.ch jY.ch
    replace cD := cD.ch jY.ch
    replace cK := cK.ch jY.ch
    replace cE := cE.ch jY.ch
    replace da := da.ch jY.ch
    replace dp := dp.ch jY.ch
    replace dE := dE.ch jY.ch
    replace bc := bc.ch jY.ch
    replace hO := jY.own
    replace cQ := cQ.ch jY.ch
    replace hB := hB.trans jY.fr
    have hobt := freeze 0 hO rfl Fd
    obtain ⟨hO1, tg, qQ, Ff⟩ := hobt
    dsimp only [eS, eZ] at hO1 tg qQ
    replace cQ := cQ.ch tg
    replace cA := cA.ch tg
    replace cD := cD.ch tg
    replace cK := cK.ch tg
    replace cE := cE.ch tg
    replace da := da.ch tg
    replace dp := dp.ch tg
    replace dE := dE.ch tg
    replace bc := bc.ch tg
    replace hB := hB.trans (Owns.dropFr _ _ 0)
    dsimp only [eS, eZ] at hB
    replace hO := hO1; clear hO1
    obtain ⟨AR, H⟩ := H
    have hobt := oapp Try.underlying27 ti39 rfl 3 hO rfl cE qQ Ff AR (by decide)
    obtain ⟨LM, zV, zW, Fg, pS, sd, Cu⟩ := hobt
    dsimp only [sS, sZ] at pS sd
    refine GoQ.last rfl (Cu (by exact rfl) (by exact rfl)) rfl rfl ?_
    replace cA := cA.ch pS.ch
    replace cD := cD.ch pS.ch
    replace cK := cK.ch pS.ch
    replace da := da.ch pS.ch
    replace dp := dp.ch pS.ch
    replace dE := dE.ch pS.ch
    replace bc := bc.ch pS.ch
    replace hO := pS.own
    replace cQ := cQ.ch pS.ch
    replace qQ := qQ.ch pS.ch
    replace hB := hB.trans pS.fr
    refine GoQ.pure rfl (op_nilCheck rfl) rfl rfl ?_
    refine GoQ.pure rfl (op_fieldAddr Try.underlying72 rfl ti29 rfl (by decide)) rfl rfl ?_
    refine GoQ.pure rfl (op_fieldAddr Try.underlying29 rfl ti27 rfl (by decide)) rfl rfl ?_
    have hobt := oblkSt2 (v := .slice zV (iZ + 1) zW) (i := 7) (cs' := #[.int .i64 ((ix a0 (0 : Int)).length : Int), .bool false, .slice p35 n37 c36, .slice lA i6 lB, .slice kT i5 kU, .slice kq i4 kr, .slice none 0 0, .slice zV (iZ + 1) zW, .int .i64 (0 : Int), .map (some B4), .slice ke iY kg, .slice ji iX jK, .slice kc iQ kd]) 8 hO rfl rfl rfl rfl
    obtain ⟨LN, oG, Cv⟩ := hobt
    dsimp only [sS, sZ] at oG
    refine GoQ.last rfl (Cv Try.underlying27 rfl ti27 (by exact rfl) (by exact rfl)) rfl rfl ?_
    replace cA := cA.ch oG.ch
    replace cD := cD.ch oG.ch
    replace cK := cK.ch oG.ch
    replace sd := sd.ch oG.ch
    replace da := da.ch oG.ch
    replace dp := dp.ch oG.ch
    replace dE := dE.ch oG.ch
    replace bc := bc.ch oG.ch
    replace hO := oG.own
    replace cQ := cQ.ch oG.ch
    replace qQ := qQ.ch oG.ch
    replace hB := hB.trans oG.fr
    refine GoQ.nil ?_
    refine Go1.cut [(6, .pointer (some ⟨B10, 0, none⟩)), (9, .int .i64 (-1 : Int)), (13, .int .i64 (mgt m2_153 r167)), (85, .slice p35 n37 c36), (86, .int .i64 (d_32.length : Int)), (87, .int .i64 (k2_110 : Int))] ⟨rfl, rfl, rfl, rfl, rfl, rfl, trivial⟩ ?_
    intro σ _
    refine Go1.region ?_
    refine GoR.op ((op_move rfl) _) rfl rfl ?_
    refine GoR.op ((op_move rfl) _) rfl rfl ?_
    refine GoR.op ((op_nilCheck rfl) _) rfl rfl ?_
    refine GoR.op ((op_fieldAddr Try.underlying72 rfl ti26 rfl (by decide)) _) rfl rfl ?_
    refine GoR.op ((oblk (i := 12) 8 hO rfl rfl Try.underlying26 rfl rfl) _ (Same.refl _)) rfl rfl ?_
    refine GoR.op ((op_move rfl) _) rfl rfl ?_
    have hobt := obuild (r := Rp.int .i64) (n := 1) (parts := [(0, .int .i64 (mgt m2_153 r167))]) (vs := [.int .i64 (mgt m2_153 r167)]) (xs := [(mgt m2_153 r167)]) rfl Try.underlying26 ti3 hO (by decide) (by kernel_rfl) (Els.cons rfl rfl (Els.nil _ _ _) (by simp [mx])) rfl
    obtain ⟨I6, LO, pT, Fh, Kv, Cw⟩ := hobt
    refine GoR.op (Cw rfl) rfl rfl ?_
    replace cA := cA.ch pT.ch
    replace cD := cD.ch pT.ch
    replace cK := cK.ch pT.ch
    replace sd := sd.ch pT.ch
    replace da := da.ch pT.ch
    replace dp := dp.ch pT.ch
    replace dE := dE.ch pT.ch
    replace bc := bc.ch pT.ch
    replace hO := pT.own
    replace cQ := cQ.ch pT.ch
    replace qQ := qQ.ch pT.ch
    replace hB := hB.trans pT.fr
    have hobt := freeze 0 hO rfl Fh
    obtain ⟨hO1, sB, v7, Fi⟩ := hobt
    dsimp only [eS, eZ] at hO1 sB v7
    replace cQ := cQ.ch sB
    replace qQ := qQ.ch sB
    replace cA := cA.ch sB
    replace cD := cD.ch sB
    replace cK := cK.ch sB
    replace sd := sd.ch sB
    replace da := da.ch sB
    replace dp := dp.ch sB
    replace dE := dE.ch sB
    replace bc := bc.ch sB
    replace hB := hB.trans (Owns.dropFr _ _ 0)
    dsimp only [eS, eZ] at hB
    replace hO := hO1; clear hO1
    obtain ⟨vb, H⟩ := H
    have hobt := oapp Try.underlying26 ti3 rfl 0 hO rfl cA v7 Fi vb (by decide)
    obtain ⟨I7, Bm, Bn, Fj, oH, yI, Cx⟩ := hobt
    dsimp only [sS, sZ] at oH yI
    refine GoR.op (Cx (by exact rfl) (by exact rfl)) rfl rfl ?_
    replace cD := cD.ch oH.ch
    replace cK := cK.ch oH.ch
    replace sd := sd.ch oH.ch
    replace da := da.ch oH.ch
    replace dp := dp.ch oH.ch
    replace dE := dE.ch oH.ch
    replace bc := bc.ch oH.ch
    replace hO := oH.own
    replace cQ := cQ.ch oH.ch
    replace qQ := qQ.ch oH.ch
    replace v7 := v7.ch oH.ch
    replace hB := hB.trans oH.fr
    refine GoR.op ((op_nilCheck rfl) _) rfl rfl ?_
    refine GoR.op ((op_fieldAddr Try.underlying72 rfl ti26 rfl (by decide)) _) rfl rfl ?_
    have hobt := oblkSt2 (v := .slice Bm (iQ + 1) Bn) (i := 12) (cs' := #[.int .i64 ((ix a0 (0 : Int)).length : Int), .bool false, .slice p35 n37 c36, .slice lA i6 lB, .slice kT i5 kU, .slice kq i4 kr, .slice none 0 0, .slice zV (iZ + 1) zW, .int .i64 (0 : Int), .map (some B4), .slice ke iY kg, .slice ji iX jK, .slice Bm (iQ + 1) Bn]) 8 hO rfl rfl rfl rfl
    obtain ⟨LP, fN, Cy⟩ := hobt
    dsimp only [sS, sZ] at fN
    refine GoR.op (Cy Try.underlying26 rfl ti26 (by exact rfl) (by exact rfl)) rfl rfl ?_
    replace yI := yI.ch fN.ch
    replace cD := cD.ch fN.ch
    replace cK := cK.ch fN.ch
    replace sd := sd.ch fN.ch
    replace da := da.ch fN.ch
    replace dp := dp.ch fN.ch
    replace dE := dE.ch fN.ch
    replace bc := bc.ch fN.ch
    replace hO := fN.own
    replace cQ := cQ.ch fN.ch
    replace qQ := qQ.ch fN.ch
    replace v7 := v7.ch fN.ch
    replace hB := hB.trans fN.fr
    refine GoR.nil ?_
    refine Go1.inBlock ?_
    refine Go1.region ?_
    refine GoR.op ((op_add rfl rfl (wrap_i64 (natbd uK bc.bd))) _) rfl rfl ?_
    refine GoR.op ((op_move rfl) _) rfl rfl ?_
    refine GoR.nil ?_
    exact hX2 _ H _ _ ⟨iQ + 1, Bm, Bn, Fj, iX, ji, jK, o8, iY, ke, kg, o9, iZ + 1, zV, zW, Fg, i4, kq, kr, pe, i5, kT, kU, pg, i6, lA, lB, ph, ⟨rfl, rfl, rfl, rfl, rfl, trivial⟩, hO, yI, cD, cK, sd, da, dp, dE, bc, hB⟩
   replace H := ifn vG H
   refine GoQ.stable rfl (olookF (a := r167) (MK.str Try.underlying9) 9 hO rfl Try.underlying69 ti3 rfl rfl vG) rfl rfl ?_
   refine GoQ.pure rfl (op_move rfl) rfl rfl ?_
   refine GoQ.pure rfl (op_extract rfl rfl) rfl rfl ?_
   refine GoQ.pure rfl (op_extract rfl rfl) rfl rfl ?_
   refine GoQ.pure rfl (op_assign rfl) rfl rfl ?_
   refine GoQ.pure rfl (op_assign rfl) rfl rfl ?_
   refine GoQ.nil ?_
   refine Go1.seq ?_
   refine Go1.seq ?_
   refine Go1.region ?_
   refine GoR.op ((op_move rfl) _) rfl rfl ?_
   refine GoR.nil ?_
   refine Go1.condF rfl rfl ?_
   refine Go1.cut [(6, .pointer (some ⟨B10, 0, none⟩)), (9, .int .i64 (-1 : Int)), (10, .int .i64 (k2_110 : Int)), (11, .slice Bd ((ix d_32 (k2_110 : Int)).length) Be), (12, .string (gstr (chr (IntKind.i32.wrap ((97 : Int) + (k2_110 : Int)))))), (85, .slice p35 n37 c36), (86, .int .i64 (d_32.length : Int)), (87, .int .i64 (k2_110 : Int))] ⟨rfl, rfl, rfl, rfl, rfl, rfl, rfl, rfl, trivial⟩ ?_
   intro σ _
   refine Go1.region ?_
   refine GoR.op ((op_move rfl) _) rfl rfl ?_
   refine GoR.op ((op_move rfl) _) rfl rfl ?_
   refine GoR.call (op_call body64 rfl (walk_slices_Clone_int hO.lt cQ H)) rfl rfl ?_
   rintro LQ LS ⟨r224, vH, tv, tw, Kd, rfl, Fk, hN228, th, H⟩
   have pU := Stp.more hO Fk hN228
   dsimp only [List.cons_append, List.nil_append] at pU
   replace cA := cA.ch pU.ch
   replace cD := cD.ch pU.ch
   replace cK := cK.ch pU.ch
   replace cE := cE.ch pU.ch
   replace da := da.ch pU.ch
   replace dp := dp.ch pU.ch
   replace dE := dE.ch pU.ch
   replace bc := bc.ch pU.ch
   replace hO := pU.own
   replace cQ := cQ.ch pU.ch
   replace hB := hB.trans pU.fr
   replace th := th.ch (Ch.assoc _ _ _ _)
   refine GoR.op ((op_move rfl) _) rfl rfl ?_
   refine GoR.op ((op_move rfl) _) rfl rfl ?_
   refine GoR.op ((op_move rfl) _) rfl rfl ?_
   refine GoR.op ((op_move rfl) _) rfl rfl ?_
   refine GoR.inl (vs := [.pointer (some ⟨B10, 0, none⟩), .slice tv vH tw, .int .i64 (-1 : Int), .int .i64 (k2_110 : Int), .string (gstr (chr (IntKind.i32.wrap ((97 : Int) + (k2_110 : Int))))), .int .i64 (-1 : Int)]) (caps := []) rfl rfl body65 Try.func65 rfl Try.ntmps65 rfl rfl rfl ?_
   intro RhR232 hR232
   refine Go1.seq ?_
   refine Go1.region ?_
   refine GoR.op ((op_assign rfl) _) rfl rfl ?_
   refine GoR.nil ?_
   refine Go1.seq ?_
   refine Go1.region ?_
   refine GoR.op ((op_move rfl) _) rfl rfl ?_
   refine GoR.op ((op_nilCheck rfl) _) rfl rfl ?_
   refine GoR.op ((op_fieldAddr Try.underlying72 rfl ti29 rfl (by decide)) _) rfl rfl ?_
   refine GoR.op ((op_fieldAddr Try.underlying29 rfl ti22 rfl (by decide)) _) rfl rfl ?_
   refine GoR.op ((oblk (i := 3) 9 hO rfl rfl Try.underlying22 rfl rfl) _ (Same.refl _)) rfl rfl ?_
   refine GoR.op ((op_lenN Try.underlying22 rfl (dE.neq hO 7 rfl)) _) rfl rfl ?_
   refine GoR.op ((op_assign rfl) _) rfl rfl ?_
   refine GoR.nil ?_
   refine Go1.seq ?_
   refine Go1.drawS 1 [(0, .pure), (1, .pure), (2, .pure), (3, .stable), (4, .pure), (6, .pure), (5, .loud), (7, .last)] mixed (by kernel_rfl) ?_
   intro LT Fm
   have pV := Stp.same hO Fm
   replace th := th.ch pV.ch
   replace cA := cA.ch pV.ch
   replace cD := cD.ch pV.ch
   replace cK := cK.ch pV.ch
   replace cE := cE.ch pV.ch
   replace da := da.ch pV.ch
   replace dp := dp.ch pV.ch
   replace dE := dE.ch pV.ch
   replace bc := bc.ch pV.ch
   replace hO := pV.own
   replace cQ := cQ.ch pV.ch
   replace hB := hB.trans pV.fr
   refine GoQ.pure rfl (op_move rfl) rfl rfl ?_
   refine GoQ.pure rfl (op_nilCheck rfl) rfl rfl ?_
   refine GoQ.pure rfl (op_fieldAddr Try.underlying72 rfl ti69 rfl (by decide)) rfl rfl ?_
   refine GoQ.stable rfl (oblk (i := 9) 9 hO rfl rfl Try.underlying69 rfl rfl) rfl rfl ?_
   refine GoQ.pure rfl (op_move rfl) rfl rfl ?_
   refine GoQ.pure rfl (op_move rfl) rfl rfl ?_
   have hobt := rowlend 0 hO rfl th
   obtain ⟨Fn, Fo⟩ := hobt
   have hOc238 := hO.drop 0
   refine GoQ.call rfl (op_call body61 (show ([.slice tv vH tw] : List Value) = [.slice tv r224.length tw] from by rw [← Fo]) (walk_enumerate_text hOc238.lt Fn H)) (fun v w hr => by obtain ⟨_, _, hs, _, _⟩ := hr; assumption) rfl rfl ?_
   rintro LU I8 ⟨r239, rfl, zX, Ke, H⟩
   have pW := Stp.same hO zX
   replace th := th.ch pW.ch
   replace cA := cA.ch pW.ch
   replace cD := cD.ch pW.ch
   replace cK := cK.ch pW.ch
   replace cE := cE.ch pW.ch
   replace da := da.ch pW.ch
   replace dp := dp.ch pW.ch
   replace dE := dE.ch pW.ch
   replace bc := bc.ch pW.ch
   replace hO := pW.own
   replace cQ := cQ.ch pW.ch
   replace hB := hB.trans pW.fr
   have hobt := omapUpd (MK.str Try.underlying9) 10 hO rfl Try.underlying69 r239 (d_147.length : Int)
   obtain ⟨LV, oI, Cz⟩ := hobt
   dsimp only [sS, sZ] at oI
   refine GoQ.last rfl (Cz (by exact rfl) (by exact rfl) (by exact rfl)) rfl rfl ?_
   replace th := th.ch oI.ch
   replace cA := cA.ch oI.ch
   replace cD := cD.ch oI.ch
   replace cK := cK.ch oI.ch
   replace cE := cE.ch oI.ch
   replace da := da.ch oI.ch
   replace dp := dp.ch oI.ch
   replace dE := dE.ch oI.ch
   replace bc := bc.ch oI.ch
   replace hO := oI.own
   replace cQ := cQ.ch oI.ch
   replace hB := hB.trans oI.fr
   refine GoQ.nil ?_
   refine Go1.seq ?_
   refine Go1.cut [(0, .pointer (some ⟨B10, 0, none⟩)), (1, .slice tv vH tw), (2, .int .i64 (-1 : Int)), (3, .int .i64 (k2_110 : Int)), (4, .string (gstr (chr (IntKind.i32.wrap ((97 : Int) + (k2_110 : Int)))))), (5, .int .i64 (-1 : Int)), (13, .int .i64 (d_147.length : Int))] ⟨rfl, rfl, rfl, rfl, rfl, rfl, rfl, trivial⟩ ?_
   intro σ _
   refine Go1.region ?_
   refine GoR.op ((op_move rfl) _) rfl rfl ?_
   refine GoR.op ((op_move rfl) _) rfl rfl ?_
   refine GoR.op ((op_nilCheck rfl) _) rfl rfl ?_
   refine GoR.op ((op_fieldAddr Try.underlying72 rfl ti29 rfl (by decide)) _) rfl rfl ?_
   refine GoR.op ((op_fieldAddr Try.underlying29 rfl ti22 rfl (by decide)) _) rfl rfl ?_
   refine GoR.op ((oblk (i := 3) 9 hO rfl rfl Try.underlying22 rfl rfl) _ (Same.refl _)) rfl rfl ?_
   refine GoR.op ((op_move rfl) _) rfl rfl ?_
   have hobt := freeze 0 hO rfl th
   obtain ⟨hO1, tj, dZ, Fp⟩ := hobt
   dsimp only [eS, eZ] at hO1 tj dZ
   replace cQ := cQ.ch tj
   replace cA := cA.ch tj
   replace cD := cD.ch tj
   replace cK := cK.ch tj
   replace cE := cE.ch tj
   replace da := da.ch tj
   replace dp := dp.ch tj
   replace dE := dE.ch tj
   replace bc := bc.ch tj
   replace hB := hB.trans (Owns.dropFr _ _ 0)
   dsimp only [eS, eZ] at hB
   replace hO := hO1; clear hO1
   have hobt := obuild (r := Rp.sl (Rp.int .i64)) (n := 1) (parts := [(0, .slice tv vH tw)]) (vs := [.slice tv vH tw]) (xs := [r224]) rfl Try.underlying22 ti26 hO (by decide) (by kernel_rfl) (Els.cons rfl ⟨tv, tw, congrArg some (congrArg (fun nn => Value.slice tv nn tw) Fp), dZ⟩ (Els.nil _ _ _) (by simp [mx])) rfl
   obtain ⟨LW, LX, pX, Fq, Kw, CA⟩ := hobt
   refine GoR.op (CA rfl) rfl rfl ?_
   replace cA := cA.ch pX.ch
   replace cD := cD.ch pX.ch
   replace cK := cK.ch pX.ch
   replace cE := cE.ch pX.ch
   replace da := da.ch pX.ch
   replace dp := dp.ch pX.ch
   replace dE := dE.ch pX.ch
   replace bc := bc.ch pX.ch
   replace hO := pX.own
   replace cQ := cQ.ch pX.ch
   replace dZ := dZ.ch pX.ch
   replace hB := hB.trans pX.fr
   have hobt := freeze 0 hO rfl Fq
   obtain ⟨hO1, sC, eh, Fs⟩ := hobt
   dsimp only [eS, eZ] at hO1 sC eh
   replace cQ := cQ.ch sC
   replace dZ := dZ.ch sC
   replace cA := cA.ch sC
   replace cD := cD.ch sC
   replace cK := cK.ch sC
   replace cE := cE.ch sC
   replace da := da.ch sC
   replace dp := dp.ch sC
   replace dE := dE.ch sC
   replace bc := bc.ch sC
   replace hB := hB.trans (Owns.dropFr _ _ 0)
   dsimp only [eS, eZ] at hB
   replace hO := hO1; clear hO1
   obtain ⟨I9, H⟩ := H
   have hobt := oapp Try.underlying22 ti26 rfl 6 hO rfl dE eh Fs I9 (by decide)
   obtain ⟨LY, vI, vJ, Ft, oJ, et, CB⟩ := hobt
   dsimp only [sS, sZ] at oJ et
   refine GoR.op (CB (by exact rfl) (by exact rfl)) rfl rfl ?_
   replace cA := cA.ch oJ.ch
   replace cD := cD.ch oJ.ch
   replace cK := cK.ch oJ.ch
   replace cE := cE.ch oJ.ch
   replace da := da.ch oJ.ch
   replace dp := dp.ch oJ.ch
   replace bc := bc.ch oJ.ch
   replace hO := oJ.own
   replace cQ := cQ.ch oJ.ch
   replace dZ := dZ.ch oJ.ch
   replace eh := eh.ch oJ.ch
   replace hB := hB.trans oJ.fr
   refine GoR.op ((op_nilCheck rfl) _) rfl rfl ?_
   refine GoR.op ((op_fieldAddr Try.underlying72 rfl ti29 rfl (by decide)) _) rfl rfl ?_
   refine GoR.op ((op_fieldAddr Try.underlying29 rfl ti22 rfl (by decide)) _) rfl rfl ?_
   have hobt := oblkSt2 (v := .slice vI (i6 + 1) vJ) (i := 3) (cs' := #[.int .i64 ((ix a0 (0 : Int)).length : Int), .bool false, .slice p35 n37 c36, .slice vI (i6 + 1) vJ, .slice kT i5 kU, .slice kq i4 kr, .slice none 0 0, .slice jL iZ jM, .int .i64 (0 : Int), .map (some B4), .slice ke iY kg, .slice ji iX jK, .slice kc iQ kd]) 8 hO rfl rfl rfl rfl
   obtain ⟨LZ, nQ, CC⟩ := hobt
   dsimp only [sS, sZ] at nQ
   refine GoR.op (CC Try.underlying22 rfl ti22 (by exact rfl) (by exact rfl)) rfl rfl ?_
   replace cA := cA.ch nQ.ch
   replace cD := cD.ch nQ.ch
   replace cK := cK.ch nQ.ch
   replace cE := cE.ch nQ.ch
   replace da := da.ch nQ.ch
   replace dp := dp.ch nQ.ch
   replace et := et.ch nQ.ch
   replace bc := bc.ch nQ.ch
   replace hO := nQ.own
   replace cQ := cQ.ch nQ.ch
   replace dZ := dZ.ch nQ.ch
   replace eh := eh.ch nQ.ch
   replace hB := hB.trans nQ.fr
   refine GoR.nil ?_
   refine Go1.seq ?_
   refine Go1.region ?_
   refine GoR.op ((op_move rfl) _) rfl rfl ?_
   refine GoR.op ((op_move rfl) _) rfl rfl ?_
   refine GoR.op ((op_nilCheck rfl) _) rfl rfl ?_
   refine GoR.op ((op_fieldAddr Try.underlying72 rfl ti29 rfl (by decide)) _) rfl rfl ?_
   refine GoR.op ((op_fieldAddr Try.underlying29 rfl ti26 rfl (by decide)) _) rfl rfl ?_
   refine GoR.op ((oblk (i := 4) 8 hO rfl rfl Try.underlying26 rfl rfl) _ (Same.refl _)) rfl rfl ?_
   refine GoR.op ((op_move rfl) _) rfl rfl ?_
   have hobt := obuild (r := Rp.int .i64) (n := 1) (parts := [(0, .int .i64 (-1 : Int))]) (vs := [.int .i64 (-1 : Int)]) (xs := [(-1 : Int)]) rfl Try.underlying26 ti3 hO (by decide) (by kernel_rfl) (Els.cons rfl rfl (Els.nil _ _ _) (by simp [mx])) rfl
   obtain ⟨L1, L5, oK, Fu, Kx, CD⟩ := hobt
   refine GoR.op (CD rfl) rfl rfl ?_
   replace cA := cA.ch oK.ch
   replace cD := cD.ch oK.ch
   replace cK := cK.ch oK.ch
   replace cE := cE.ch oK.ch
   replace da := da.ch oK.ch
   replace dp := dp.ch oK.ch
   replace et := et.ch oK.ch
   replace bc := bc.ch oK.ch
   replace hO := oK.own
   replace cQ := cQ.ch oK.ch
   replace dZ := dZ.ch oK.ch
   replace eh := eh.ch oK.ch
   replace hB := hB.trans oK.fr
   have hobt := freeze 0 hO rfl Fu
   obtain ⟨hO1, se, fF, Fv⟩ := hobt
   dsimp only [eS, eZ] at hO1 se fF
   replace cQ := cQ.ch se
   replace dZ := dZ.ch se
   replace eh := eh.ch se
   replace cA := cA.ch se
   replace cD := cD.ch se
   replace cK := cK.ch se
   replace cE := cE.ch se
   replace da := da.ch se
   replace dp := dp.ch se
   replace et := et.ch se
   replace bc := bc.ch se
   replace hB := hB.trans (Owns.dropFr _ _ 0)
   dsimp only [eS, eZ] at hB
   replace hO := hO1; clear hO1
   obtain ⟨Ja, H⟩ := H
   have hobt := oapp Try.underlying26 ti3 rfl 5 hO rfl dp fF Fv Ja (by decide)
   obtain ⟨Jb, wU, wV, Fw, nS, fU, CE⟩ := hobt
   dsimp only [sS, sZ] at nS fU
   refine GoR.op (CE (by exact rfl) (by exact rfl)) rfl rfl ?_
   replace cA := cA.ch nS.ch
   replace cD := cD.ch nS.ch
   replace cK := cK.ch nS.ch
   replace cE := cE.ch nS.ch
   replace da := da.ch nS.ch
   replace et := et.ch nS.ch
   replace bc := bc.ch nS.ch
   replace hO := nS.own
   replace cQ := cQ.ch nS.ch
   replace dZ := dZ.ch nS.ch
   replace eh := eh.ch nS.ch
   replace fF := fF.ch nS.ch
   replace hB := hB.trans nS.fr
   refine GoR.op ((op_nilCheck rfl) _) rfl rfl ?_
   refine GoR.op ((op_fieldAddr Try.underlying72 rfl ti29 rfl (by decide)) _) rfl rfl ?_
   refine GoR.op ((op_fieldAddr Try.underlying29 rfl ti26 rfl (by decide)) _) rfl rfl ?_
   have hobt := oblkSt2 (v := .slice wU (i5 + 1) wV) (i := 4) (cs' := #[.int .i64 ((ix a0 (0 : Int)).length : Int), .bool false, .slice p35 n37 c36, .slice vI (i6 + 1) vJ, .slice wU (i5 + 1) wV, .slice kq i4 kr, .slice none 0 0, .slice jL iZ jM, .int .i64 (0 : Int), .map (some B4), .slice ke iY kg, .slice ji iX jK, .slice kc iQ kd]) 8 hO rfl rfl rfl rfl
   obtain ⟨L6, np, CF⟩ := hobt
   dsimp only [sS, sZ] at np
   refine GoR.op (CF Try.underlying26 rfl ti26 (by exact rfl) (by exact rfl)) rfl rfl ?_
   replace cA := cA.ch np.ch
   replace cD := cD.ch np.ch
   replace cK := cK.ch np.ch
   replace cE := cE.ch np.ch
   replace da := da.ch np.ch
   replace fU := fU.ch np.ch
   replace et := et.ch np.ch
   replace bc := bc.ch np.ch
   replace hO := np.own
   replace cQ := cQ.ch np.ch
   replace dZ := dZ.ch np.ch
   replace eh := eh.ch np.ch
   replace fF := fF.ch np.ch
   replace hB := hB.trans np.fr
   refine GoR.nil ?_
   refine Go1.seq ?_
   refine Go1.cut [(0, .pointer (some ⟨B10, 0, none⟩)), (3, .int .i64 (k2_110 : Int)), (4, .string (gstr (chr (IntKind.i32.wrap ((97 : Int) + (k2_110 : Int)))))), (5, .int .i64 (-1 : Int)), (13, .int .i64 (d_147.length : Int))] ⟨rfl, rfl, rfl, rfl, rfl, trivial⟩ ?_
   intro σ _
   refine Go1.region ?_
   refine GoR.op ((op_move rfl) _) rfl rfl ?_
   refine GoR.op ((op_move rfl) _) rfl rfl ?_
   refine GoR.op ((op_nilCheck rfl) _) rfl rfl ?_
   refine GoR.op ((op_fieldAddr Try.underlying72 rfl ti29 rfl (by decide)) _) rfl rfl ?_
   refine GoR.op ((op_fieldAddr Try.underlying29 rfl ti26 rfl (by decide)) _) rfl rfl ?_
   refine GoR.op ((oblk (i := 5) 8 hO rfl rfl Try.underlying26 rfl rfl) _ (Same.refl _)) rfl rfl ?_
   refine GoR.op ((op_move rfl) _) rfl rfl ?_
   have hobt := obuild (r := Rp.int .i64) (n := 1) (parts := [(0, .int .i64 (k2_110 : Int))]) (vs := [.int .i64 (k2_110 : Int)]) (xs := [(k2_110 : Int)]) rfl Try.underlying26 ti3 hO (by decide) (by kernel_rfl) (Els.cons rfl rfl (Els.nil _ _ _) (by simp [mx])) rfl
   obtain ⟨L7, L8, nT, Fx, Ky, CG⟩ := hobt
   refine GoR.op (CG rfl) rfl rfl ?_
   replace cA := cA.ch nT.ch
   replace cD := cD.ch nT.ch
   replace cK := cK.ch nT.ch
   replace cE := cE.ch nT.ch
   replace da := da.ch nT.ch
   replace fU := fU.ch nT.ch
   replace et := et.ch nT.ch
   replace bc := bc.ch nT.ch
   replace hO := nT.own
   replace cQ := cQ.ch nT.ch
   replace dZ := dZ.ch nT.ch
   replace eh := eh.ch nT.ch
   replace fF := fF.ch nT.ch
   replace hB := hB.trans nT.fr
   have hobt := freeze 0 hO rfl Fx
   obtain ⟨hO1, rG, iM, Fy⟩ := hobt
   dsimp only [eS, eZ] at hO1 rG iM
   replace cQ := cQ.ch rG
   replace dZ := dZ.ch rG
   replace eh := eh.ch rG
   replace fF := fF.ch rG
   replace cA := cA.ch rG
   replace cD := cD.ch rG
   replace cK := cK.ch rG
   replace cE := cE.ch rG
   replace da := da.ch rG
   replace fU := fU.ch rG
   replace et := et.ch rG
   replace bc := bc.ch rG
   replace hB := hB.trans (Owns.dropFr _ _ 0)
   dsimp only [eS, eZ] at hB
   replace hO := hO1; clear hO1
   obtain ⟨Jc, H⟩ := H
   have hobt := oapp Try.underlying26 ti3 rfl 4 hO rfl da iM Fy Jc (by decide)
   obtain ⟨L9, x5, x6, Fz, nq, iU, CH⟩ := hobt
   dsimp only [sS, sZ] at nq iU
   refine GoR.op (CH (by exact rfl) (by exact rfl)) rfl rfl ?_
   replace cA := cA.ch nq.ch
   replace cD := cD.ch nq.ch
   replace cK := cK.ch nq.ch
   replace cE := cE.ch nq.ch
   replace fU := fU.ch nq.ch
   replace et := et.ch nq.ch
   replace bc := bc.ch nq.ch
   replace hO := nq.own
   replace cQ := cQ.ch nq.ch
   replace dZ := dZ.ch nq.ch
   replace eh := eh.ch nq.ch
   replace fF := fF.ch nq.ch
   replace iM := iM.ch nq.ch
   replace hB := hB.trans nq.fr
   refine GoR.op ((op_nilCheck rfl) _) rfl rfl ?_
   refine GoR.op ((op_fieldAddr Try.underlying72 rfl ti29 rfl (by decide)) _) rfl rfl ?_
   refine GoR.op ((op_fieldAddr Try.underlying29 rfl ti26 rfl (by decide)) _) rfl rfl ?_
   have hobt := oblkSt2 (v := .slice x5 (i4 + 1) x6) (i := 5) (cs' := #[.int .i64 ((ix a0 (0 : Int)).length : Int), .bool false, .slice p35 n37 c36, .slice vI (i6 + 1) vJ, .slice wU (i5 + 1) wV, .slice x5 (i4 + 1) x6, .slice none 0 0, .slice jL iZ jM, .int .i64 (0 : Int), .map (some B4), .slice ke iY kg, .slice ji iX jK, .slice kc iQ kd]) 8 hO rfl rfl rfl rfl
   obtain ⟨Ma, mK, CJ⟩ := hobt
   dsimp only [sS, sZ] at mK
   refine GoR.op (CJ Try.underlying26 rfl ti26 (by exact rfl) (by exact rfl)) rfl rfl ?_
   replace cA := cA.ch mK.ch
   replace cD := cD.ch mK.ch
   replace cK := cK.ch mK.ch
   replace cE := cE.ch mK.ch
   replace iU := iU.ch mK.ch
   replace fU := fU.ch mK.ch
   replace et := et.ch mK.ch
   replace bc := bc.ch mK.ch
   replace hO := mK.own
   replace cQ := cQ.ch mK.ch
   replace dZ := dZ.ch mK.ch
   replace eh := eh.ch mK.ch
   replace fF := fF.ch mK.ch
   replace iM := iM.ch mK.ch
   replace hB := hB.trans mK.fr
   refine GoR.nil ?_
   refine Go1.seq ?_
   refine Go1.region ?_
   refine GoR.op ((op_move rfl) _) rfl rfl ?_
   refine GoR.op ((op_move rfl) _) rfl rfl ?_
   refine GoR.op ((op_nilCheck rfl) _) rfl rfl ?_
   refine GoR.op ((op_fieldAddr Try.underlying72 rfl ti70 rfl (by decide)) _) rfl rfl ?_
   refine GoR.op ((oblk (i := 10) 8 hO rfl rfl Try.underlying70 rfl rfl) _ (Same.refl _)) rfl rfl ?_
   refine GoR.op ((op_move rfl) _) rfl rfl ?_
   have hobt := obuild (r := Rp.str) (n := 1) (parts := [(0, .string (gstr (chr (IntKind.i32.wrap ((97 : Int) + (k2_110 : Int))))))]) (vs := [.string (gstr (chr (IntKind.i32.wrap ((97 : Int) + (k2_110 : Int)))))]) (xs := [chr (IntKind.i32.wrap ((97 : Int) + (k2_110 : Int)))]) rfl Try.underlying70 ti9 hO (by decide) (by kernel_rfl) (Els.cons rfl ⟨rfl, (chr_le _)⟩ (Els.nil _ _ _) (by simp [mx])) rfl
   obtain ⟨Jd, Mb, nr, FA, Kz, CK⟩ := hobt
   refine GoR.op (CK rfl) rfl rfl ?_
   replace cA := cA.ch nr.ch
   replace cD := cD.ch nr.ch
   replace cK := cK.ch nr.ch
   replace cE := cE.ch nr.ch
   replace iU := iU.ch nr.ch
   replace fU := fU.ch nr.ch
   replace et := et.ch nr.ch
   replace bc := bc.ch nr.ch
   replace hO := nr.own
   replace cQ := cQ.ch nr.ch
   replace dZ := dZ.ch nr.ch
   replace eh := eh.ch nr.ch
   replace fF := fF.ch nr.ch
   replace iM := iM.ch nr.ch
   replace hB := hB.trans nr.fr
   have hobt := freeze 0 hO rfl FA
   obtain ⟨hO1, qR, kY, FB⟩ := hobt
   dsimp only [eS, eZ] at hO1 qR kY
   replace cQ := cQ.ch qR
   replace dZ := dZ.ch qR
   replace eh := eh.ch qR
   replace fF := fF.ch qR
   replace iM := iM.ch qR
   replace cA := cA.ch qR
   replace cD := cD.ch qR
   replace cK := cK.ch qR
   replace cE := cE.ch qR
   replace iU := iU.ch qR
   replace fU := fU.ch qR
   replace et := et.ch qR
   replace bc := bc.ch qR
   replace hB := hB.trans (Owns.dropFr _ _ 0)
   dsimp only [eS, eZ] at hB
   replace hO := hO1; clear hO1
   obtain ⟨Je, H⟩ := H
   have hobt := oapp Try.underlying70 ti9 rfl 2 hO rfl cK kY FB Je (by decide)
   obtain ⟨Mc, y3, y4, FC, mM, mG, CM⟩ := hobt
   dsimp only [sS, sZ] at mM mG
   refine GoR.op (CM (by exact rfl) (by exact rfl)) rfl rfl ?_
   replace cA := cA.ch mM.ch
   replace cD := cD.ch mM.ch
   replace cE := cE.ch mM.ch
   replace iU := iU.ch mM.ch
   replace fU := fU.ch mM.ch
   replace et := et.ch mM.ch
   replace bc := bc.ch mM.ch
   replace hO := mM.own
   replace cQ := cQ.ch mM.ch
   replace dZ := dZ.ch mM.ch
   replace eh := eh.ch mM.ch
   replace fF := fF.ch mM.ch
   replace iM := iM.ch mM.ch
   replace kY := kY.ch mM.ch
   replace hB := hB.trans mM.fr
   refine GoR.op ((op_nilCheck rfl) _) rfl rfl ?_
   refine GoR.op ((op_fieldAddr Try.underlying72 rfl ti70 rfl (by decide)) _) rfl rfl ?_
   have hobt := oblkSt2 (v := .slice y3 (iY + 1) y4) (i := 10) (cs' := #[.int .i64 ((ix a0 (0 : Int)).length : Int), .bool false, .slice p35 n37 c36, .slice vI (i6 + 1) vJ, .slice wU (i5 + 1) wV, .slice x5 (i4 + 1) x6, .slice none 0 0, .slice jL iZ jM, .int .i64 (0 : Int), .map (some B4), .slice y3 (iY + 1) y4, .slice ji iX jK, .slice kc iQ kd]) 8 hO rfl rfl rfl rfl
   obtain ⟨Me, lL, CO⟩ := hobt
   dsimp only [sS, sZ] at lL
   refine GoR.op (CO Try.underlying70 rfl ti70 (by exact rfl) (by exact rfl)) rfl rfl ?_
   replace cA := cA.ch lL.ch
   replace cD := cD.ch lL.ch
   replace mG := mG.ch lL.ch
   replace cE := cE.ch lL.ch
   replace iU := iU.ch lL.ch
   replace fU := fU.ch lL.ch
   replace et := et.ch lL.ch
   replace bc := bc.ch lL.ch
   replace hO := lL.own
   replace cQ := cQ.ch lL.ch
   replace dZ := dZ.ch lL.ch
   replace eh := eh.ch lL.ch
   replace fF := fF.ch lL.ch
   replace iM := iM.ch lL.ch
   replace kY := kY.ch lL.ch
   replace hB := hB.trans lL.fr
   refine GoR.nil ?_
   refine Go1.seq ?_
   refine Go1.cut [(0, .pointer (some ⟨B10, 0, none⟩)), (5, .int .i64 (-1 : Int)), (13, .int .i64 (d_147.length : Int))] ⟨rfl, rfl, rfl, trivial⟩ ?_
   intro σ _
   refine Go1.region ?_
   refine GoR.op ((op_move rfl) _) rfl rfl ?_
   refine GoR.op ((op_move rfl) _) rfl rfl ?_
   refine GoR.op ((op_nilCheck rfl) _) rfl rfl ?_
   refine GoR.op ((op_fieldAddr Try.underlying72 rfl ti26 rfl (by decide)) _) rfl rfl ?_
   refine GoR.op ((oblk (i := 11) 8 hO rfl rfl Try.underlying26 rfl rfl) _ (Same.refl _)) rfl rfl ?_
   refine GoR.op ((op_move rfl) _) rfl rfl ?_
   have hobt := obuild (r := Rp.int .i64) (n := 1) (parts := [(0, .int .i64 (-1 : Int))]) (vs := [.int .i64 (-1 : Int)]) (xs := [(-1 : Int)]) rfl Try.underlying26 ti3 hO (by decide) (by kernel_rfl) (Els.cons rfl rfl (Els.nil _ _ _) (by simp [mx])) rfl
   obtain ⟨Mf, Mg, mO, FD, KA, CP⟩ := hobt
   refine GoR.op (CP rfl) rfl rfl ?_
   replace cA := cA.ch mO.ch
   replace cD := cD.ch mO.ch
   replace mG := mG.ch mO.ch
   replace cE := cE.ch mO.ch
   replace iU := iU.ch mO.ch
   replace fU := fU.ch mO.ch
   replace et := et.ch mO.ch
   replace bc := bc.ch mO.ch
   replace hO := mO.own
   replace cQ := cQ.ch mO.ch
   replace dZ := dZ.ch mO.ch
   replace eh := eh.ch mO.ch
   replace fF := fF.ch mO.ch
   replace iM := iM.ch mO.ch
   replace kY := kY.ch mO.ch
   replace hB := hB.trans mO.fr
   have hobt := freeze 0 hO rfl FD
   obtain ⟨hO1, pi, qS, FE⟩ := hobt
   dsimp only [eS, eZ] at hO1 pi qS
   replace cQ := cQ.ch pi
   replace dZ := dZ.ch pi
   replace eh := eh.ch pi
   replace fF := fF.ch pi
   replace iM := iM.ch pi
   replace kY := kY.ch pi
   replace cA := cA.ch pi
   replace cD := cD.ch pi
   replace mG := mG.ch pi
   replace cE := cE.ch pi
   replace iU := iU.ch pi
   replace fU := fU.ch pi
   replace et := et.ch pi
   replace bc := bc.ch pi
   replace hB := hB.trans (Owns.dropFr _ _ 0)
   dsimp only [eS, eZ] at hB
   replace hO := hO1; clear hO1
   obtain ⟨Jf, H⟩ := H
   have hobt := oapp Try.underlying26 ti3 rfl 1 hO rfl cD qS FE Jf (by decide)
   obtain ⟨Mh, zY, zZ, FF, lM, sf, CQ⟩ := hobt
   dsimp only [sS, sZ] at lM sf
   refine GoR.op (CQ (by exact rfl) (by exact rfl)) rfl rfl ?_
   replace cA := cA.ch lM.ch
   replace mG := mG.ch lM.ch
   replace cE := cE.ch lM.ch
   replace iU := iU.ch lM.ch
   replace fU := fU.ch lM.ch
   replace et := et.ch lM.ch
   replace bc := bc.ch lM.ch
   replace hO := lM.own
   replace cQ := cQ.ch lM.ch
   replace dZ := dZ.ch lM.ch
   replace eh := eh.ch lM.ch
   replace fF := fF.ch lM.ch
   replace iM := iM.ch lM.ch
   replace kY := kY.ch lM.ch
   replace qS := qS.ch lM.ch
   replace hB := hB.trans lM.fr
   refine GoR.op ((op_nilCheck rfl) _) rfl rfl ?_
   refine GoR.op ((op_fieldAddr Try.underlying72 rfl ti26 rfl (by decide)) _) rfl rfl ?_
   have hobt := oblkSt2 (v := .slice zY (iX + 1) zZ) (i := 11) (cs' := #[.int .i64 ((ix a0 (0 : Int)).length : Int), .bool false, .slice p35 n37 c36, .slice vI (i6 + 1) vJ, .slice wU (i5 + 1) wV, .slice x5 (i4 + 1) x6, .slice none 0 0, .slice jL iZ jM, .int .i64 (0 : Int), .map (some B4), .slice y3 (iY + 1) y4, .slice zY (iX + 1) zZ, .slice kc iQ kd]) 8 hO rfl rfl rfl rfl
   obtain ⟨Mi, lg, CR⟩ := hobt
   dsimp only [sS, sZ] at lg
   refine GoR.op (CR Try.underlying26 rfl ti26 (by exact rfl) (by exact rfl)) rfl rfl ?_
   replace cA := cA.ch lg.ch
   replace sf := sf.ch lg.ch
   replace mG := mG.ch lg.ch
   replace cE := cE.ch lg.ch
   replace iU := iU.ch lg.ch
   replace fU := fU.ch lg.ch
   replace et := et.ch lg.ch
   replace bc := bc.ch lg.ch
   replace hO := lg.own
   replace cQ := cQ.ch lg.ch
   replace dZ := dZ.ch lg.ch
   replace eh := eh.ch lg.ch
   replace fF := fF.ch lg.ch
   replace iM := iM.ch lg.ch
   replace kY := kY.ch lg.ch
   replace qS := qS.ch lg.ch
   replace hB := hB.trans lg.fr
   refine GoR.nil ?_
   refine Go1.seq ?_
   refine Go1.region ?_
   refine GoR.op ((op_move rfl) _) rfl rfl ?_
   refine GoR.op ((op_assign rfl) _) rfl rfl ?_
   refine GoR.nil ?_
   refine Go1.ret1V Try.func65 rfl (show _ = .int .i64 (d_147.length : Int) from rfl) ?_
   refine hR232 _ _ ?_
   refine GoR.op ((op_assign rfl) _) rfl rfl ?_
   refine GoR.nil ?_
   refine Go1.region ?_
   refine GoR.op ((op_move rfl) _) rfl rfl ?_
   refine GoR.op ((op_move rfl) _) rfl rfl ?_
   refine GoR.op ((op_nilCheck rfl) _) rfl rfl ?_
   refine GoR.op ((op_fieldAddr Try.underlying72 rfl ti26 rfl (by decide)) _) rfl rfl ?_
   refine GoR.op ((oblk (i := 12) 8 hO rfl rfl Try.underlying26 rfl rfl) _ (Same.refl _)) rfl rfl ?_
   refine GoR.op ((op_move rfl) _) rfl rfl ?_
   have hobt := obuild (r := Rp.int .i64) (n := 1) (parts := [(0, .int .i64 (d_147.length : Int))]) (vs := [.int .i64 (d_147.length : Int)]) (xs := [(d_147.length : Int)]) rfl Try.underlying26 ti3 hO (by decide) (by kernel_rfl) (Els.cons rfl rfl (Els.nil _ _ _) (by simp [mx])) rfl
   obtain ⟨Mj, Mk, lN, FG, KB, CT⟩ := hobt
   refine GoR.op (CT rfl) rfl rfl ?_
   replace cA := cA.ch lN.ch
   replace sf := sf.ch lN.ch
   replace mG := mG.ch lN.ch
   replace cE := cE.ch lN.ch
   replace iU := iU.ch lN.ch
   replace fU := fU.ch lN.ch
   replace et := et.ch lN.ch
   replace bc := bc.ch lN.ch
   replace hO := lN.own
   replace cQ := cQ.ch lN.ch
   replace dZ := dZ.ch lN.ch
   replace eh := eh.ch lN.ch
   replace fF := fF.ch lN.ch
   replace iM := iM.ch lN.ch
   replace kY := kY.ch lN.ch
   replace qS := qS.ch lN.ch
   replace hB := hB.trans lN.fr
   have hobt := freeze 0 hO rfl FG
   obtain ⟨hO1, oo, v8, FH⟩ := hobt
   dsimp only [eS, eZ] at hO1 oo v8
   replace cQ := cQ.ch oo
   replace dZ := dZ.ch oo
   replace eh := eh.ch oo
   replace fF := fF.ch oo
   replace iM := iM.ch oo
   replace kY := kY.ch oo
   replace qS := qS.ch oo
   replace cA := cA.ch oo
   replace sf := sf.ch oo
   replace mG := mG.ch oo
   replace cE := cE.ch oo
   replace iU := iU.ch oo
   replace fU := fU.ch oo
   replace et := et.ch oo
   replace bc := bc.ch oo
   replace hB := hB.trans (Owns.dropFr _ _ 0)
   dsimp only [eS, eZ] at hB
   replace hO := hO1; clear hO1
   obtain ⟨Jg, H⟩ := H
   have hobt := oapp Try.underlying26 ti3 rfl 0 hO rfl cA v8 FH Jg (by decide)
   obtain ⟨Ml, Bo, Bp, FI, lh, yJ, CU⟩ := hobt
   dsimp only [sS, sZ] at lh yJ
   refine GoR.op (CU (by exact rfl) (by exact rfl)) rfl rfl ?_
   replace sf := sf.ch lh.ch
   replace mG := mG.ch lh.ch
   replace cE := cE.ch lh.ch
   replace iU := iU.ch lh.ch
   replace fU := fU.ch lh.ch
   replace et := et.ch lh.ch
   replace bc := bc.ch lh.ch
   replace hO := lh.own
   replace cQ := cQ.ch lh.ch
   replace dZ := dZ.ch lh.ch
   replace eh := eh.ch lh.ch
   replace fF := fF.ch lh.ch
   replace iM := iM.ch lh.ch
   replace kY := kY.ch lh.ch
   replace qS := qS.ch lh.ch
   replace v8 := v8.ch lh.ch
   replace hB := hB.trans lh.fr
   refine GoR.op ((op_nilCheck rfl) _) rfl rfl ?_
   refine GoR.op ((op_fieldAddr Try.underlying72 rfl ti26 rfl (by decide)) _) rfl rfl ?_
   have hobt := oblkSt2 (v := .slice Bo (iQ + 1) Bp) (i := 12) (cs' := #[.int .i64 ((ix a0 (0 : Int)).length : Int), .bool false, .slice p35 n37 c36, .slice vI (i6 + 1) vJ, .slice wU (i5 + 1) wV, .slice x5 (i4 + 1) x6, .slice none 0 0, .slice jL iZ jM, .int .i64 (0 : Int), .map (some B4), .slice y3 (iY + 1) y4, .slice zY (iX + 1) zZ, .slice Bo (iQ + 1) Bp]) 8 hO rfl rfl rfl rfl
   obtain ⟨Mm, ks, CV⟩ := hobt
   dsimp only [sS, sZ] at ks
   refine GoR.op (CV Try.underlying26 rfl ti26 (by exact rfl) (by exact rfl)) rfl rfl ?_
   replace yJ := yJ.ch ks.ch
   replace sf := sf.ch ks.ch
   replace mG := mG.ch ks.ch
   replace cE := cE.ch ks.ch
   replace iU := iU.ch ks.ch
   replace fU := fU.ch ks.ch
   replace et := et.ch ks.ch
   replace bc := bc.ch ks.ch
   replace hO := ks.own
   replace cQ := cQ.ch ks.ch
   replace dZ := dZ.ch ks.ch
   replace eh := eh.ch ks.ch
   replace fF := fF.ch ks.ch
   replace iM := iM.ch ks.ch
   replace kY := kY.ch ks.ch
   replace qS := qS.ch ks.ch
   replace v8 := v8.ch ks.ch
   replace hB := hB.trans ks.fr
   refine GoR.nil ?_
   refine Go1.inBlock ?_
   refine Go1.cut [(6, .pointer (some ⟨B10, 0, none⟩)), (9, .int .i64 (-1 : Int)), (85, .slice p35 n37 c36), (86, .int .i64 (d_32.length : Int)), (87, .int .i64 (k2_110 : Int))] ⟨rfl, rfl, rfl, rfl, rfl, trivial⟩ ?_
   intro σ _
   refine Go1.region ?_
   refine GoR.op ((op_add rfl rfl (wrap_i64 (natbd uK bc.bd))) _) rfl rfl ?_
   refine GoR.op ((op_move rfl) _) rfl rfl ?_
   refine GoR.nil ?_
   exact hX2 _ H _ _ ⟨iQ + 1, Bo, Bp, FI, iX + 1, zY, zZ, FF, iY + 1, y3, y4, FC, iZ, jL, jM, pc, i4 + 1, x5, x6, Fz, i5 + 1, wU, wV, Fw, i6 + 1, vI, vJ, Ft, ⟨rfl, rfl, rfl, rfl, rfl, trivial⟩, hO, yJ, sf, mG, cE, iU, fU, et, bc, hB⟩
  replace H := ifn uK H
  refine GoR.op ((fun w => opB (op_lss rfl rfl w) (decide_eq_false uK)) _) rfl rfl ?_
  refine GoR.nil ?_
  refine Go1.seq ?_
  refine Go1.condF rfl rfl ?_
  refine Go1.exit rfl ?_
  refine Go1.seq ?_
  refine Go1.region ?_
  refine GoR.op ((op_move rfl) _) rfl rfl ?_
  refine GoR.op ((op_assign rfl) _) rfl rfl ?_
  refine GoR.op ((op_assign rfl) _) rfl rfl ?_
  refine GoR.nil ?_
  have rW := Stp.nil (e := 26) (r := 1) hO
  replace cA := cA.ch rW.ch
  replace cD := cD.ch rW.ch
  replace cK := cK.ch rW.ch
  replace cE := cE.ch rW.ch
  replace da := da.ch rW.ch
  replace dp := dp.ch rW.ch
  replace dE := dE.ch rW.ch
  replace bc := bc.ch rW.ch
  replace hO := rW.own
  replace hB := hB.trans rW.fr
  have kt := Els.nil (Rp.sl (Rp.int .i64)) (bl (.row 26 1 none 0 0 [] :: [.row 3 1 kc iQ kd qP, .row 3 1 ji iX jK o8, .row 9 1 ke iY kg o9, .row 39 2 jL iZ jM pc, .row 3 1 kq i4 kr pe, .row 3 1 kT i5 kU pg, .row 26 1 lA i6 lB ph, .row 26 1 p35 n37 c36 fQ, .blk B10 (.cells #[.int .i64 ((ix a0 (0 : Int)).length : Int), .bool false, .slice p35 n37 c36, .slice lA i6 lB, .slice kT i5 kU, .slice kq i4 kr, .slice none 0 0, .slice jL iZ jM, .int .i64 (0 : Int), .map (some B4), .slice ke iY kg, .slice ji iX jK, .slice kc iQ kd] 72 (0, 0)), .any (mapE (fun a : List UInt8 => Value.string (gstr a)) (fun a : Int => Value.int .i64 a) B4 m2_153)]) ++ A) x4
  have fX := Stp.front 10 hO rfl
  dsimp only [eS, eZ] at fX
  replace kt := kt.ch fX.ch
  replace cA := cA.ch fX.ch
  replace cD := cD.ch fX.ch
  replace cK := cK.ch fX.ch
  replace cE := cE.ch fX.ch
  replace da := da.ch fX.ch
  replace dp := dp.ch fX.ch
  replace dE := dE.ch fX.ch
  replace bc := bc.ch fX.ch
  replace hO := fX.own
  replace hB := hB.trans fX.fr
  have pY := Stp.front 2 hO rfl
  dsimp only [eS, eZ] at pY
  replace kt := kt.ch pY.ch
  replace cA := cA.ch pY.ch
  replace cD := cD.ch pY.ch
  replace cK := cK.ch pY.ch
  replace cE := cE.ch pY.ch
  replace da := da.ch pY.ch
  replace dp := dp.ch pY.ch
  replace dE := dE.ch pY.ch
  replace bc := bc.ch pY.ch
  replace hO := pY.own
  replace hB := hB.trans pY.fr
  have fS := Stp.front 3 hO rfl
  dsimp only [eS, eZ] at fS
  replace cA := cA.ch fS.ch
  replace kt := kt.ch fS.ch
  replace cD := cD.ch fS.ch
  replace cK := cK.ch fS.ch
  replace cE := cE.ch fS.ch
  replace da := da.ch fS.ch
  replace dp := dp.ch fS.ch
  replace dE := dE.ch fS.ch
  replace bc := bc.ch fS.ch
  replace hO := fS.own
  replace hB := hB.trans fS.fr
  have pZ := Stp.front 4 hO rfl
  dsimp only [eS, eZ] at pZ
  replace cD := cD.ch pZ.ch
  replace cA := cA.ch pZ.ch
  replace kt := kt.ch pZ.ch
  replace cK := cK.ch pZ.ch
  replace cE := cE.ch pZ.ch
  replace da := da.ch pZ.ch
  replace dp := dp.ch pZ.ch
  replace dE := dE.ch pZ.ch
  replace bc := bc.ch pZ.ch
  replace hO := pZ.own
  replace hB := hB.trans pZ.fr
  have p5 := Stp.front 5 hO rfl
  dsimp only [eS, eZ] at p5
  replace cK := cK.ch p5.ch
  replace cD := cD.ch p5.ch
  replace cA := cA.ch p5.ch
  replace kt := kt.ch p5.ch
  replace cE := cE.ch p5.ch
  replace da := da.ch p5.ch
  replace dp := dp.ch p5.ch
  replace dE := dE.ch p5.ch
  replace bc := bc.ch p5.ch
  replace hO := p5.own
  replace hB := hB.trans p5.fr
  have p6 := Stp.front 5 hO rfl
  dsimp only [eS, eZ] at p6
  replace cE := cE.ch p6.ch
  replace cK := cK.ch p6.ch
  replace cD := cD.ch p6.ch
  replace cA := cA.ch p6.ch
  replace kt := kt.ch p6.ch
  replace da := da.ch p6.ch
  replace dp := dp.ch p6.ch
  replace dE := dE.ch p6.ch
  replace bc := bc.ch p6.ch
  replace hO := p6.own
  replace hB := hB.trans p6.fr
  have fY := Stp.front 6 hO rfl
  dsimp only [eS, eZ] at fY
  replace kt := kt.ch fY.ch
  replace cE := cE.ch fY.ch
  replace cK := cK.ch fY.ch
  replace cD := cD.ch fY.ch
  replace cA := cA.ch fY.ch
  replace da := da.ch fY.ch
  replace dp := dp.ch fY.ch
  replace dE := dE.ch fY.ch
  replace bc := bc.ch fY.ch
  replace hO := fY.own
  replace hB := hB.trans fY.fr
  have qa := Stp.front 7 hO rfl
  dsimp only [eS, eZ] at qa
  replace da := da.ch qa.ch
  replace kt := kt.ch qa.ch
  replace cE := cE.ch qa.ch
  replace cK := cK.ch qa.ch
  replace cD := cD.ch qa.ch
  replace cA := cA.ch qa.ch
  replace dp := dp.ch qa.ch
  replace dE := dE.ch qa.ch
  replace bc := bc.ch qa.ch
  replace hO := qa.own
  replace hB := hB.trans qa.fr
  have qb := Stp.front 8 hO rfl
  dsimp only [eS, eZ] at qb
  replace dp := dp.ch qb.ch
  replace da := da.ch qb.ch
  replace kt := kt.ch qb.ch
  replace cE := cE.ch qb.ch
  replace cK := cK.ch qb.ch
  replace cD := cD.ch qb.ch
  replace cA := cA.ch qb.ch
  replace dE := dE.ch qb.ch
  replace bc := bc.ch qb.ch
  replace hO := qb.own
  replace hB := hB.trans qb.fr
  have qc := Stp.front 9 hO rfl
  dsimp only [eS, eZ] at qc
  replace dE := dE.ch qc.ch
  replace dp := dp.ch qc.ch
  replace da := da.ch qc.ch
  replace kt := kt.ch qc.ch
  replace cE := cE.ch qc.ch
  replace cK := cK.ch qc.ch
  replace cD := cD.ch qc.ch
  replace cA := cA.ch qc.ch
  replace bc := bc.ch qc.ch
  replace hO := qc.own
  replace hB := hB.trans qc.fr
  have qd := Stp.front 10 hO rfl
  dsimp only [eS, eZ] at qd
  replace bc := bc.ch qd.ch
  replace dE := dE.ch qd.ch
  replace dp := dp.ch qd.ch
  replace da := da.ch qd.ch
  replace kt := kt.ch qd.ch
  replace cE := cE.ch qd.ch
  replace cK := cK.ch qd.ch
  replace cD := cD.ch qd.ch
  replace cA := cA.ch qd.ch
  replace hO := qd.own
  replace hB := hB.trans qd.fr
  refine Go1.ret2 Try.func49 rfl ?_
  exact Or.inr ⟨(⟨(⟨((ix a0 (0 : Int)).length : Int), false, d_32, d_147, d_141, d_135, ([] : List (List Int)), d_129, (0 : Int)⟩ : Enum), m2_153, d_123, d_117, d_111⟩ : run), ((0 : Int)), B10, n37, p35, c36, fQ, i6, lA, lB, ph, i5, kT, kU, pg, i4, kq, kr, pe, 0, none, 0, ([]), iZ, jL, jM, pc, B4, iY, ke, kg, o9, iX, ji, jK, o8, iQ, kc, kd, qP, rfl, hB.same, hO, bc, dE, dp, da, kt, cE, cK, cD, cA, H⟩
 replace H := ifp rfl H
 refine Go1.condT rfl rfl ?_
 refine Go1.region ?_
 refine GoR.op ((op_move rfl) _) rfl rfl ?_
 refine GoR.op ((op_move rfl) _) rfl rfl ?_
 refine GoR.op ((op_nilCheck rfl) _) rfl rfl ?_
 refine GoR.op ((op_fieldAddr Try.underlying72 rfl ti29 rfl (by decide)) _) rfl rfl ?_
 refine GoR.op ((op_fieldAddr Try.underlying29 rfl ti3 rfl (by decide)) _) rfl rfl ?_
 refine GoR.op ((oblk (i := 0) 1 hO rfl rfl Try.underlying3 rfl rfl) _ (Same.refl _)) rfl rfl ?_
 refine GoR.call (op_call body62 rfl (walk_trans_Identity hO.lt H)) rfl rfl ?_
 rintro Mn Mo ⟨r397, vK, vL, rfl, FJ, dk, H⟩
 have xB := Stp.same hO FJ
 replace bc := bc.ch xB.ch
 replace hO := xB.own
 replace ca := ca.ch xB.ch
 replace hB := hB.trans xB.fr
 refine GoR.inl (vs := [.pointer (some ⟨B10, 0, none⟩), .slice vK r397.length vL, .int .i64 (-1 : Int), .int .i64 (-1 : Int), .string (gstr (([] : Str))), .int .i64 (-1 : Int)]) (caps := []) rfl rfl body65 Try.func65 rfl Try.ntmps65 rfl rfl rfl ?_
 intro RhR403 hR403
 refine Go1.seq ?_
 refine Go1.region ?_
 refine GoR.op ((op_assign rfl) _) rfl rfl ?_
 refine GoR.nil ?_
 refine Go1.seq ?_
 refine Go1.region ?_
 refine GoR.op ((op_move rfl) _) rfl rfl ?_
 refine GoR.op ((op_nilCheck rfl) _) rfl rfl ?_
 refine GoR.op ((op_fieldAddr Try.underlying72 rfl ti29 rfl (by decide)) _) rfl rfl ?_
 refine GoR.op ((op_fieldAddr Try.underlying29 rfl ti22 rfl (by decide)) _) rfl rfl ?_
 refine GoR.op ((oblk (i := 3) 1 hO rfl rfl Try.underlying22 rfl rfl) _ (Same.refl _)) rfl rfl ?_
 refine GoR.op ((op_len Try.underlying22 rfl) _) rfl rfl ?_
 refine GoR.op ((op_assign rfl) _) rfl rfl ?_
 refine GoR.nil ?_
 refine Go1.seq ?_
 refine Go1.cut [(0, .pointer (some ⟨B10, 0, none⟩)), (1, .slice vK r397.length vL), (2, .int .i64 (-1 : Int)), (3, .int .i64 (-1 : Int)), (4, .string (gstr (([] : Str)))), (5, .int .i64 (-1 : Int)), (13, .int .i64 (0 : Int))] ⟨rfl, rfl, rfl, rfl, rfl, rfl, rfl, trivial⟩ ?_
 intro σ _
 refine Go1.drawS 1 [(0, .pure), (1, .pure), (2, .pure), (3, .stable), (4, .pure), (6, .pure), (5, .loud), (7, .last)] mixed (by kernel_rfl) ?_
 intro Mp FK
 have vM := Stp.same hO FK
 replace bc := bc.ch vM.ch
 replace hO := vM.own
 replace ca := ca.ch vM.ch
 replace dk := dk.ch vM.ch
 replace hB := hB.trans vM.fr
 refine GoQ.pure rfl (op_move rfl) rfl rfl ?_
 refine GoQ.pure rfl (op_nilCheck rfl) rfl rfl ?_
 refine GoQ.pure rfl (op_fieldAddr Try.underlying72 rfl ti69 rfl (by decide)) rfl rfl ?_
 refine GoQ.stable rfl (oblk (i := 9) 1 hO rfl rfl Try.underlying69 rfl rfl) rfl rfl ?_
 refine GoQ.pure rfl (op_move rfl) rfl rfl ?_
 refine GoQ.pure rfl (op_move rfl) rfl rfl ?_
 refine GoQ.call rfl (op_call body61 rfl (walk_enumerate_text hO.lt dk H)) (fun v w hr => by obtain ⟨_, _, hs, _, _⟩ := hr; assumption) rfl rfl ?_
 rintro Mq Mr ⟨r407, rfl, FL, Kf, H⟩
 have vN := Stp.same hO FL
 replace bc := bc.ch vN.ch
 replace hO := vN.own
 replace ca := ca.ch vN.ch
 replace dk := dk.ch vN.ch
 replace hB := hB.trans vN.fr
 have hobt := omapUpd (MK.str Try.underlying9) 2 hO rfl Try.underlying69 r407 (0 : Int)
 obtain ⟨Ms, i7, CW⟩ := hobt
 refine GoQ.last rfl (CW (by exact rfl) (by exact rfl) (by exact rfl)) rfl rfl ?_
 replace bc := bc.ch i7.ch
 replace hO := i7.own
 replace ca := ca.ch i7.ch
 replace dk := dk.ch i7.ch
 replace hB := hB.trans i7.fr
 refine GoQ.nil ?_
 refine Go1.seq ?_
 refine Go1.region ?_
 refine GoR.op ((op_move rfl) _) rfl rfl ?_
 refine GoR.op ((op_move rfl) _) rfl rfl ?_
 refine GoR.op ((op_nilCheck rfl) _) rfl rfl ?_
 refine GoR.op ((op_fieldAddr Try.underlying72 rfl ti29 rfl (by decide)) _) rfl rfl ?_
 refine GoR.op ((op_fieldAddr Try.underlying29 rfl ti22 rfl (by decide)) _) rfl rfl ?_
 refine GoR.op ((oblk (i := 3) 1 hO rfl rfl Try.underlying22 rfl rfl) _ (Same.refl _)) rfl rfl ?_
 refine GoR.op ((op_move rfl) _) rfl rfl ?_
 have hobt := obuild (r := Rp.sl (Rp.int .i64)) (n := 1) (parts := [(0, .slice vK r397.length vL)]) (vs := [.slice vK r397.length vL]) (xs := [r397]) rfl Try.underlying22 ti26 hO (by decide) (by kernel_rfl) (Els.cons rfl ⟨vK, vL, rfl, dk⟩ (Els.nil _ _ _) (by simp [mx])) rfl
 obtain ⟨Jh, Mt, vO, FM, KC, CX⟩ := hobt
 refine GoR.op (CX rfl) rfl rfl ?_
 replace bc := bc.ch vO.ch
 replace hO := vO.own
 replace ca := ca.ch vO.ch
 replace dk := dk.ch vO.ch
 replace hB := hB.trans vO.fr
 have hobt := freeze 0 hO rfl FM
 obtain ⟨hO1, z3, dW, FN⟩ := hobt
 replace ca := ca.ch z3
 replace dk := dk.ch z3
 replace bc := bc.ch z3
 replace hB := hB.trans (Owns.dropFr _ _ 0)
 replace hO := hO1; clear hO1
 have iL := Stp.nil (e := 26) (r := 1) hO
 replace bc := bc.ch iL.ch
 replace hO := iL.own
 replace ca := ca.ch iL.ch
 replace dk := dk.ch iL.ch
 replace dW := dW.ch iL.ch
 replace hB := hB.trans iL.fr
 have gW := Els.nil (Rp.sl (Rp.int .i64)) (bl (.row 26 1 none 0 0 [] :: [.row 26 1 p35 n37 c36 fQ, .blk B10 (.cells #[.int .i64 ((ix a0 (0 : Int)).length : Int), .bool true, .slice p35 n37 c36, .slice none 0 0, .slice none 0 0, .slice none 0 0, .slice none 0 0, .slice none 0 0, .int .i64 (0 : Int), .map (some B4), .slice none 0 0, .slice none 0 0, .slice none 0 0] 72 (0, 0)), .any (mapE (fun a : List UInt8 => Value.string (gstr a)) (fun a : Int => Value.int .i64 a) B4 (mput (([] : List (Str × Int))) r407 ((0 : Int))))]) ++ A) Jh
 obtain ⟨Ji, H⟩ := H
 have hobt := oapp Try.underlying22 ti26 rfl 0 hO rfl gW dW FN Ji (by decide)
 obtain ⟨Mu, pk, pm, vi, uW, d9, CZ⟩ := hobt
 refine GoR.op (CZ (by exact rfl) (by exact rfl)) rfl rfl ?_
 replace bc := bc.ch uW.ch
 replace hO := uW.own
 replace ca := ca.ch uW.ch
 replace dk := dk.ch uW.ch
 replace dW := dW.ch uW.ch
 replace hB := hB.trans uW.fr
 refine GoR.op ((op_nilCheck rfl) _) rfl rfl ?_
 refine GoR.op ((op_fieldAddr Try.underlying72 rfl ti29 rfl (by decide)) _) rfl rfl ?_
 refine GoR.op ((op_fieldAddr Try.underlying29 rfl ti22 rfl (by decide)) _) rfl rfl ?_
 have hobt := oblkSt2 (v := .slice pk (0 + 1) pm) (i := 3) (cs' := #[.int .i64 ((ix a0 (0 : Int)).length : Int), .bool true, .slice p35 n37 c36, .slice pk (0 + 1) pm, .slice none 0 0, .slice none 0 0, .slice none 0 0, .slice none 0 0, .int .i64 (0 : Int), .map (some B4), .slice none 0 0, .slice none 0 0, .slice none 0 0]) 2 hO rfl rfl rfl rfl
 obtain ⟨Mv, t7, C0⟩ := hobt
 refine GoR.op (C0 Try.underlying22 rfl ti22 (by exact rfl) (by exact rfl)) rfl rfl ?_
 replace d9 := d9.ch t7.ch
 replace bc := bc.ch t7.ch
 replace hO := t7.own
 replace ca := ca.ch t7.ch
 replace dk := dk.ch t7.ch
 replace dW := dW.ch t7.ch
 replace hB := hB.trans t7.fr
 refine GoR.nil ?_
 refine Go1.seq ?_
 refine Go1.cut [(0, .pointer (some ⟨B10, 0, none⟩)), (2, .int .i64 (-1 : Int)), (3, .int .i64 (-1 : Int)), (4, .string (gstr (([] : Str)))), (5, .int .i64 (-1 : Int)), (13, .int .i64 (0 : Int))] ⟨rfl, rfl, rfl, rfl, rfl, rfl, trivial⟩ ?_
 intro σ _
 refine Go1.region ?_
 refine GoR.op ((op_move rfl) _) rfl rfl ?_
 refine GoR.op ((op_move rfl) _) rfl rfl ?_
 refine GoR.op ((op_nilCheck rfl) _) rfl rfl ?_
 refine GoR.op ((op_fieldAddr Try.underlying72 rfl ti29 rfl (by decide)) _) rfl rfl ?_
 refine GoR.op ((op_fieldAddr Try.underlying29 rfl ti26 rfl (by decide)) _) rfl rfl ?_
 refine GoR.op ((oblk (i := 4) 2 hO rfl rfl Try.underlying26 rfl rfl) _ (Same.refl _)) rfl rfl ?_
 refine GoR.op ((op_move rfl) _) rfl rfl ?_
 have hobt := obuild (r := Rp.int .i64) (n := 1) (parts := [(0, .int .i64 (-1 : Int))]) (vs := [.int .i64 (-1 : Int)]) (xs := [(-1 : Int)]) rfl Try.underlying26 ti3 hO (by decide) (by kernel_rfl) (Els.cons rfl rfl (Els.nil _ _ _) (by simp [mx])) rfl
 obtain ⟨Jj, Mw, t8, FO, KD, C1⟩ := hobt
 refine GoR.op (C1 rfl) rfl rfl ?_
 replace d9 := d9.ch t8.ch
 replace bc := bc.ch t8.ch
 replace hO := t8.own
 replace ca := ca.ch t8.ch
 replace dk := dk.ch t8.ch
 replace dW := dW.ch t8.ch
 replace hB := hB.trans t8.fr
 have hobt := freeze 0 hO rfl FO
 obtain ⟨hO1, wa, fe, FP⟩ := hobt
 dsimp only [eS, eZ] at hO1 wa fe
 replace ca := ca.ch wa
 replace dk := dk.ch wa
 replace dW := dW.ch wa
 replace d9 := d9.ch wa
 replace bc := bc.ch wa
 replace hB := hB.trans (Owns.dropFr _ _ 0)
 dsimp only [eS, eZ] at hB
 replace hO := hO1; clear hO1
 have tx := Stp.nil (e := 3) (r := 1) hO
 replace d9 := d9.ch tx.ch
 replace bc := bc.ch tx.ch
 replace hO := tx.own
 replace ca := ca.ch tx.ch
 replace dk := dk.ch tx.ch
 replace dW := dW.ch tx.ch
 replace fe := fe.ch tx.ch
 replace hB := hB.trans tx.fr
 have FQ := Els.nil (Rp.int .i64) (bl (.row 3 1 none 0 0 [] :: [.row 26 1 pk (0 + 1) pm vi, .row 26 1 p35 n37 c36 fQ, .blk B10 (.cells #[.int .i64 ((ix a0 (0 : Int)).length : Int), .bool true, .slice p35 n37 c36, .slice pk (0 + 1) pm, .slice none 0 0, .slice none 0 0, .slice none 0 0, .slice none 0 0, .int .i64 (0 : Int), .map (some B4), .slice none 0 0, .slice none 0 0, .slice none 0 0] 72 (0, 0)), .any (mapE (fun a : List UInt8 => Value.string (gstr a)) (fun a : Int => Value.int .i64 a) B4 (mput (([] : List (Str × Int))) r407 ((0 : Int))))]) ++ A) Jj
 obtain ⟨Jk, H⟩ := H
 have hobt := oapp Try.underlying26 ti3 rfl 0 hO rfl FQ fe FP Jk (by decide)
 obtain ⟨Mx, rN, rO, wb, sD, fG, y5⟩ := hobt
 dsimp only [sS, sZ] at sD fG
 refine GoR.op (y5 (by exact rfl) (by exact rfl)) rfl rfl ?_
 replace d9 := d9.ch sD.ch
 replace bc := bc.ch sD.ch
 replace hO := sD.own
 replace ca := ca.ch sD.ch
 replace dk := dk.ch sD.ch
 replace dW := dW.ch sD.ch
 replace fe := fe.ch sD.ch
 replace hB := hB.trans sD.fr
 refine GoR.op ((op_nilCheck rfl) _) rfl rfl ?_
 refine GoR.op ((op_fieldAddr Try.underlying72 rfl ti29 rfl (by decide)) _) rfl rfl ?_
 refine GoR.op ((op_fieldAddr Try.underlying29 rfl ti26 rfl (by decide)) _) rfl rfl ?_
 have hobt := oblkSt2 (v := .slice rN (0 + 1) rO) (i := 4) (cs' := #[.int .i64 ((ix a0 (0 : Int)).length : Int), .bool true, .slice p35 n37 c36, .slice pk (0 + 1) pm, .slice rN (0 + 1) rO, .slice none 0 0, .slice none 0 0, .slice none 0 0, .int .i64 (0 : Int), .map (some B4), .slice none 0 0, .slice none 0 0, .slice none 0 0]) 3 hO rfl rfl rfl rfl
 obtain ⟨My, rX, C2⟩ := hobt
 dsimp only [sS, sZ] at rX
 refine GoR.op (C2 Try.underlying26 rfl ti26 (by exact rfl) (by exact rfl)) rfl rfl ?_
 replace fG := fG.ch rX.ch
 replace d9 := d9.ch rX.ch
 replace bc := bc.ch rX.ch
 replace hO := rX.own
 replace ca := ca.ch rX.ch
 replace dk := dk.ch rX.ch
 replace dW := dW.ch rX.ch
 replace fe := fe.ch rX.ch
 replace hB := hB.trans rX.fr
 refine GoR.nil ?_
 refine Go1.seq ?_
 refine Go1.region ?_
 refine GoR.op ((op_move rfl) _) rfl rfl ?_
 refine GoR.op ((op_move rfl) _) rfl rfl ?_
 refine GoR.op ((op_nilCheck rfl) _) rfl rfl ?_
 refine GoR.op ((op_fieldAddr Try.underlying72 rfl ti29 rfl (by decide)) _) rfl rfl ?_
 refine GoR.op ((op_fieldAddr Try.underlying29 rfl ti26 rfl (by decide)) _) rfl rfl ?_
 refine GoR.op ((oblk (i := 5) 3 hO rfl rfl Try.underlying26 rfl rfl) _ (Same.refl _)) rfl rfl ?_
 refine GoR.op ((op_move rfl) _) rfl rfl ?_
 have hobt := obuild (r := Rp.int .i64) (n := 1) (parts := [(0, .int .i64 (-1 : Int))]) (vs := [.int .i64 (-1 : Int)]) (xs := [(-1 : Int)]) rfl Try.underlying26 ti3 hO (by decide) (by kernel_rfl) (Els.cons rfl rfl (Els.nil _ _ _) (by simp [mx])) rfl
 obtain ⟨Jl, Mz, sE, FS, KE, C3⟩ := hobt
 refine GoR.op (C3 rfl) rfl rfl ?_
 replace fG := fG.ch sE.ch
 replace d9 := d9.ch sE.ch
 replace bc := bc.ch sE.ch
 replace hO := sE.own
 replace ca := ca.ch sE.ch
 replace dk := dk.ch sE.ch
 replace dW := dW.ch sE.ch
 replace fe := fe.ch sE.ch
 replace hB := hB.trans sE.fr
 have hobt := freeze 0 hO rfl FS
 obtain ⟨hO1, ui, gX, FT⟩ := hobt
 dsimp only [eS, eZ] at hO1 ui gX
 replace ca := ca.ch ui
 replace dk := dk.ch ui
 replace dW := dW.ch ui
 replace fe := fe.ch ui
 replace fG := fG.ch ui
 replace d9 := d9.ch ui
 replace bc := bc.ch ui
 replace hB := hB.trans (Owns.dropFr _ _ 0)
 dsimp only [eS, eZ] at hB
 replace hO := hO1; clear hO1
 have rY := Stp.nil (e := 3) (r := 1) hO
 replace fG := fG.ch rY.ch
 replace d9 := d9.ch rY.ch
 replace bc := bc.ch rY.ch
 replace hO := rY.own
 replace ca := ca.ch rY.ch
 replace dk := dk.ch rY.ch
 replace dW := dW.ch rY.ch
 replace fe := fe.ch rY.ch
 replace gX := gX.ch rY.ch
 replace hB := hB.trans rY.fr
 have FU := Els.nil (Rp.int .i64) (bl (.row 3 1 none 0 0 [] :: [.row 3 1 rN (0 + 1) rO wb, .row 26 1 pk (0 + 1) pm vi, .row 26 1 p35 n37 c36 fQ, .blk B10 (.cells #[.int .i64 ((ix a0 (0 : Int)).length : Int), .bool true, .slice p35 n37 c36, .slice pk (0 + 1) pm, .slice rN (0 + 1) rO, .slice none 0 0, .slice none 0 0, .slice none 0 0, .int .i64 (0 : Int), .map (some B4), .slice none 0 0, .slice none 0 0, .slice none 0 0] 72 (0, 0)), .any (mapE (fun a : List UInt8 => Value.string (gstr a)) (fun a : Int => Value.int .i64 a) B4 (mput (([] : List (Str × Int))) r407 ((0 : Int))))]) ++ A) Jl
 obtain ⟨Jm, H⟩ := H
 have hobt := oapp Try.underlying26 ti3 rfl 0 hO rfl FU gX FT Jm (by decide)
 obtain ⟨MA, sV, sW, xC, ri, iV, C4⟩ := hobt
 dsimp only [sS, sZ] at ri iV
 refine GoR.op (C4 (by exact rfl) (by exact rfl)) rfl rfl ?_
 replace fG := fG.ch ri.ch
 replace d9 := d9.ch ri.ch
 replace bc := bc.ch ri.ch
 replace hO := ri.own
 replace ca := ca.ch ri.ch
 replace dk := dk.ch ri.ch
 replace dW := dW.ch ri.ch
 replace fe := fe.ch ri.ch
 replace gX := gX.ch ri.ch
 replace hB := hB.trans ri.fr
 refine GoR.op ((op_nilCheck rfl) _) rfl rfl ?_
 refine GoR.op ((op_fieldAddr Try.underlying72 rfl ti29 rfl (by decide)) _) rfl rfl ?_
 refine GoR.op ((op_fieldAddr Try.underlying29 rfl ti26 rfl (by decide)) _) rfl rfl ?_
 have hobt := oblkSt2 (v := .slice sV (0 + 1) sW) (i := 5) (cs' := #[.int .i64 ((ix a0 (0 : Int)).length : Int), .bool true, .slice p35 n37 c36, .slice pk (0 + 1) pm, .slice rN (0 + 1) rO, .slice sV (0 + 1) sW, .slice none 0 0, .slice none 0 0, .int .i64 (0 : Int), .map (some B4), .slice none 0 0, .slice none 0 0, .slice none 0 0]) 4 hO rfl rfl rfl rfl
 obtain ⟨MB, qe, C5⟩ := hobt
 dsimp only [sS, sZ] at qe
 refine GoR.op (C5 Try.underlying26 rfl ti26 (by exact rfl) (by exact rfl)) rfl rfl ?_
 replace iV := iV.ch qe.ch
 replace fG := fG.ch qe.ch
 replace d9 := d9.ch qe.ch
 replace bc := bc.ch qe.ch
 replace hO := qe.own
 replace ca := ca.ch qe.ch
 replace dk := dk.ch qe.ch
 replace dW := dW.ch qe.ch
 replace fe := fe.ch qe.ch
 replace gX := gX.ch qe.ch
 replace hB := hB.trans qe.fr
 refine GoR.nil ?_
 refine Go1.seq ?_
 refine Go1.cut [(0, .pointer (some ⟨B10, 0, none⟩)), (4, .string (gstr (([] : Str)))), (5, .int .i64 (-1 : Int)), (13, .int .i64 (0 : Int))] ⟨rfl, rfl, rfl, rfl, trivial⟩ ?_
 intro σ _
 refine Go1.region ?_
 refine GoR.op ((op_move rfl) _) rfl rfl ?_
 refine GoR.op ((op_move rfl) _) rfl rfl ?_
 refine GoR.op ((op_nilCheck rfl) _) rfl rfl ?_
 refine GoR.op ((op_fieldAddr Try.underlying72 rfl ti70 rfl (by decide)) _) rfl rfl ?_
 refine GoR.op ((oblk (i := 10) 4 hO rfl rfl Try.underlying70 rfl rfl) _ (Same.refl _)) rfl rfl ?_
 refine GoR.op ((op_move rfl) _) rfl rfl ?_
 have hobt := obuild (r := Rp.str) (n := 1) (parts := [(0, .string (gstr (([] : Str))))]) (vs := [.string (gstr (([] : Str)))]) (xs := [([] : Str)]) rfl Try.underlying70 ti9 hO (by decide) (by kernel_rfl) (Els.cons rfl ⟨rfl, (by decide)⟩ (Els.nil _ _ _) (by simp [mx])) rfl
 obtain ⟨Jo, MC, fD, uj, KF, C6⟩ := hobt
 refine GoR.op (C6 rfl) rfl rfl ?_
 replace iV := iV.ch fD.ch
 replace fG := fG.ch fD.ch
 replace d9 := d9.ch fD.ch
 replace bc := bc.ch fD.ch
 replace hO := fD.own
 replace ca := ca.ch fD.ch
 replace dk := dk.ch fD.ch
 replace dW := dW.ch fD.ch
 replace fe := fe.ch fD.ch
 replace gX := gX.ch fD.ch
 replace hB := hB.trans fD.fr
 have hobt := freeze 0 hO rfl uj
 obtain ⟨hO1, tk, kZ, FV⟩ := hobt
 dsimp only [eS, eZ] at hO1 tk kZ
 replace ca := ca.ch tk
 replace dk := dk.ch tk
 replace dW := dW.ch tk
 replace fe := fe.ch tk
 replace gX := gX.ch tk
 replace iV := iV.ch tk
 replace fG := fG.ch tk
 replace d9 := d9.ch tk
 replace bc := bc.ch tk
 replace hB := hB.trans (Owns.dropFr _ _ 0)
 dsimp only [eS, eZ] at hB
 replace hO := hO1; clear hO1
 have qf := Stp.nil (e := 9) (r := 1) hO
 replace iV := iV.ch qf.ch
 replace fG := fG.ch qf.ch
 replace d9 := d9.ch qf.ch
 replace bc := bc.ch qf.ch
 replace hO := qf.own
 replace ca := ca.ch qf.ch
 replace dk := dk.ch qf.ch
 replace dW := dW.ch qf.ch
 replace fe := fe.ch qf.ch
 replace gX := gX.ch qf.ch
 replace kZ := kZ.ch qf.ch
 replace hB := hB.trans qf.fr
 have FW := Els.nil (Rp.str) (bl (.row 9 1 none 0 0 [] :: [.row 3 1 sV (0 + 1) sW xC, .row 3 1 rN (0 + 1) rO wb, .row 26 1 pk (0 + 1) pm vi, .row 26 1 p35 n37 c36 fQ, .blk B10 (.cells #[.int .i64 ((ix a0 (0 : Int)).length : Int), .bool true, .slice p35 n37 c36, .slice pk (0 + 1) pm, .slice rN (0 + 1) rO, .slice sV (0 + 1) sW, .slice none 0 0, .slice none 0 0, .int .i64 (0 : Int), .map (some B4), .slice none 0 0, .slice none 0 0, .slice none 0 0] 72 (0, 0)), .any (mapE (fun a : List UInt8 => Value.string (gstr a)) (fun a : Int => Value.int .i64 a) B4 (mput (([] : List (Str × Int))) r407 ((0 : Int))))]) ++ A) Jo
 obtain ⟨Jp, H⟩ := H
 have hobt := oapp Try.underlying70 ti9 rfl 0 hO rfl FW kZ FV Jp (by decide)
 obtain ⟨MD, uM, uN, yK, oL, nI, C7⟩ := hobt
 dsimp only [sS, sZ] at oL nI
 refine GoR.op (C7 (by exact rfl) (by exact rfl)) rfl rfl ?_
 replace iV := iV.ch oL.ch
 replace fG := fG.ch oL.ch
 replace d9 := d9.ch oL.ch
 replace bc := bc.ch oL.ch
 replace hO := oL.own
 replace ca := ca.ch oL.ch
 replace dk := dk.ch oL.ch
 replace dW := dW.ch oL.ch
 replace fe := fe.ch oL.ch
 replace gX := gX.ch oL.ch
 replace kZ := kZ.ch oL.ch
 replace hB := hB.trans oL.fr
 refine GoR.op ((op_nilCheck rfl) _) rfl rfl ?_
 refine GoR.op ((op_fieldAddr Try.underlying72 rfl ti70 rfl (by decide)) _) rfl rfl ?_
 have hobt := oblkSt2 (v := .slice uM (0 + 1) uN) (i := 10) (cs' := #[.int .i64 ((ix a0 (0 : Int)).length : Int), .bool true, .slice p35 n37 c36, .slice pk (0 + 1) pm, .slice rN (0 + 1) rO, .slice sV (0 + 1) sW, .slice none 0 0, .slice none 0 0, .int .i64 (0 : Int), .map (some B4), .slice uM (0 + 1) uN, .slice none 0 0, .slice none 0 0]) 5 hO rfl rfl rfl rfl
 obtain ⟨ME, nU, y6⟩ := hobt
 dsimp only [sS, sZ] at nU
 refine GoR.op (y6 Try.underlying70 rfl ti70 (by exact rfl) (by exact rfl)) rfl rfl ?_
 replace nI := nI.ch nU.ch
 replace iV := iV.ch nU.ch
 replace fG := fG.ch nU.ch
 replace d9 := d9.ch nU.ch
 replace bc := bc.ch nU.ch
 replace hO := nU.own
 replace ca := ca.ch nU.ch
 replace dk := dk.ch nU.ch
 replace dW := dW.ch nU.ch
 replace fe := fe.ch nU.ch
 replace gX := gX.ch nU.ch
 replace kZ := kZ.ch nU.ch
 replace hB := hB.trans nU.fr
 refine GoR.nil ?_
 refine Go1.seq ?_
 refine Go1.region ?_
 refine GoR.op ((op_move rfl) _) rfl rfl ?_
 refine GoR.op ((op_move rfl) _) rfl rfl ?_
 refine GoR.op ((op_nilCheck rfl) _) rfl rfl ?_
 refine GoR.op ((op_fieldAddr Try.underlying72 rfl ti26 rfl (by decide)) _) rfl rfl ?_
 refine GoR.op ((oblk (i := 11) 5 hO rfl rfl Try.underlying26 rfl rfl) _ (Same.refl _)) rfl rfl ?_
 refine GoR.op ((op_move rfl) _) rfl rfl ?_
 have hobt := obuild (r := Rp.int .i64) (n := 1) (parts := [(0, .int .i64 (-1 : Int))]) (vs := [.int .i64 (-1 : Int)]) (xs := [(-1 : Int)]) rfl Try.underlying26 ti3 hO (by decide) (by kernel_rfl) (Els.cons rfl rfl (Els.nil _ _ _) (by simp [mx])) rfl
 obtain ⟨Jq, MF, oM, FX, KG, C8⟩ := hobt
 refine GoR.op (C8 rfl) rfl rfl ?_
 replace nI := nI.ch oM.ch
 replace iV := iV.ch oM.ch
 replace fG := fG.ch oM.ch
 replace d9 := d9.ch oM.ch
 replace bc := bc.ch oM.ch
 replace hO := oM.own
 replace ca := ca.ch oM.ch
 replace dk := dk.ch oM.ch
 replace dW := dW.ch oM.ch
 replace fe := fe.ch oM.ch
 replace gX := gX.ch oM.ch
 replace kZ := kZ.ch oM.ch
 replace hB := hB.trans oM.fr
 have hobt := freeze 0 hO rfl FX
 obtain ⟨hO1, sg, si, FY⟩ := hobt
 dsimp only [eS, eZ] at hO1 sg si
 replace ca := ca.ch sg
 replace dk := dk.ch sg
 replace dW := dW.ch sg
 replace fe := fe.ch sg
 replace gX := gX.ch sg
 replace kZ := kZ.ch sg
 replace nI := nI.ch sg
 replace iV := iV.ch sg
 replace fG := fG.ch sg
 replace d9 := d9.ch sg
 replace bc := bc.ch sg
 replace hB := hB.trans (Owns.dropFr _ _ 0)
 dsimp only [eS, eZ] at hB
 replace hO := hO1; clear hO1
 have nV := Stp.nil (e := 3) (r := 1) hO
 replace nI := nI.ch nV.ch
 replace iV := iV.ch nV.ch
 replace fG := fG.ch nV.ch
 replace d9 := d9.ch nV.ch
 replace bc := bc.ch nV.ch
 replace hO := nV.own
 replace ca := ca.ch nV.ch
 replace dk := dk.ch nV.ch
 replace dW := dW.ch nV.ch
 replace fe := fe.ch nV.ch
 replace gX := gX.ch nV.ch
 replace kZ := kZ.ch nV.ch
 replace si := si.ch nV.ch
 replace hB := hB.trans nV.fr
 have FZ := Els.nil (Rp.int .i64) (bl (.row 3 1 none 0 0 [] :: [.row 9 1 uM (0 + 1) uN yK, .row 3 1 sV (0 + 1) sW xC, .row 3 1 rN (0 + 1) rO wb, .row 26 1 pk (0 + 1) pm vi, .row 26 1 p35 n37 c36 fQ, .blk B10 (.cells #[.int .i64 ((ix a0 (0 : Int)).length : Int), .bool true, .slice p35 n37 c36, .slice pk (0 + 1) pm, .slice rN (0 + 1) rO, .slice sV (0 + 1) sW, .slice none 0 0, .slice none 0 0, .int .i64 (0 : Int), .map (some B4), .slice uM (0 + 1) uN, .slice none 0 0, .slice none 0 0] 72 (0, 0)), .any (mapE (fun a : List UInt8 => Value.string (gstr a)) (fun a : Int => Value.int .i64 a) B4 (mput (([] : List (Str × Int))) r407 ((0 : Int))))]) ++ A) Jq
 obtain ⟨Jr, H⟩ := H
 have hobt := oapp Try.underlying26 ti3 rfl 0 hO rfl FZ si FY Jr (by decide)
 obtain ⟨MG, wW, wX, z4, fT, uk, C9⟩ := hobt
 dsimp only [sS, sZ] at fT uk
 refine GoR.op (C9 (by exact rfl) (by exact rfl)) rfl rfl ?_
 replace nI := nI.ch fT.ch
 replace iV := iV.ch fT.ch
 replace fG := fG.ch fT.ch
 replace d9 := d9.ch fT.ch
 replace bc := bc.ch fT.ch
 replace hO := fT.own
 replace ca := ca.ch fT.ch
 replace dk := dk.ch fT.ch
 replace dW := dW.ch fT.ch
 replace fe := fe.ch fT.ch
 replace gX := gX.ch fT.ch
 replace kZ := kZ.ch fT.ch
 replace si := si.ch fT.ch
 replace hB := hB.trans fT.fr
 refine GoR.op ((op_nilCheck rfl) _) rfl rfl ?_
 refine GoR.op ((op_fieldAddr Try.underlying72 rfl ti26 rfl (by decide)) _) rfl rfl ?_
 have hobt := oblkSt2 (v := .slice wW (0 + 1) wX) (i := 11) (cs' := #[.int .i64 ((ix a0 (0 : Int)).length : Int), .bool true, .slice p35 n37 c36, .slice pk (0 + 1) pm, .slice rN (0 + 1) rO, .slice sV (0 + 1) sW, .slice none 0 0, .slice none 0 0, .int .i64 (0 : Int), .map (some B4), .slice uM (0 + 1) uN, .slice wW (0 + 1) wX, .slice none 0 0]) 6 hO rfl rfl rfl rfl
 obtain ⟨Db, mP, Dc⟩ := hobt
 dsimp only [sS, sZ] at mP
 refine GoR.op (Dc Try.underlying26 rfl ti26 (by exact rfl) (by exact rfl)) rfl rfl ?_
 replace uk := uk.ch mP.ch
 replace nI := nI.ch mP.ch
 replace iV := iV.ch mP.ch
 replace fG := fG.ch mP.ch
 replace d9 := d9.ch mP.ch
 replace bc := bc.ch mP.ch
 replace hO := mP.own
 replace ca := ca.ch mP.ch
 replace dk := dk.ch mP.ch
 replace dW := dW.ch mP.ch
 replace fe := fe.ch mP.ch
 replace gX := gX.ch mP.ch
 replace kZ := kZ.ch mP.ch
 replace si := si.ch mP.ch
 replace hB := hB.trans mP.fr
 refine GoR.nil ?_
 refine Go1.seq ?_
 refine Go1.cut [(13, .int .i64 (0 : Int))] ⟨rfl, trivial⟩ ?_
 intro σ _
 refine Go1.region ?_
 refine GoR.op ((op_move rfl) _) rfl rfl ?_
 refine GoR.op ((op_assign rfl) _) rfl rfl ?_
 refine GoR.nil ?_
 refine Go1.ret1V Try.func65 rfl (show _ = .int .i64 (0 : Int) from rfl) ?_
 refine hR403 _ _ ?_
 refine GoR.op ((op_assign rfl) _) rfl rfl ?_
 refine GoR.nil ?_
 refine Go1.seq ?_
 refine Go1.seq ?_
 refine Go1.region ?_
 refine GoR.op ((op_move rfl) _) rfl rfl ?_
 refine GoR.op ((op_nilCheck rfl) _) rfl rfl ?_
 refine GoR.op ((op_fieldAddr Try.underlying72 rfl ti29 rfl (by decide)) _) rfl rfl ?_
 refine GoR.op ((op_fieldAddr Try.underlying29 rfl ti22 rfl (by decide)) _) rfl rfl ?_
 refine GoR.op ((oblk (i := 2) 6 hO rfl rfl Try.underlying22 rfl rfl) _ (Same.refl _)) rfl rfl ?_
 refine GoR.op ((op_lenN Try.underlying22 rfl (bc.neq hO 5 rfl)) _) rfl rfl ?_
 refine GoR.op ((op_move rfl) _) rfl rfl ?_
 refine GoR.nil ?_
 refine Go1.block ?_
 have ns := Stp.nil (e := 39) (r := 2) hO
 replace uk := uk.ch ns.ch
 replace nI := nI.ch ns.ch
 replace iV := iV.ch ns.ch
 replace fG := fG.ch ns.ch
 replace d9 := d9.ch ns.ch
 replace bc := bc.ch ns.ch
 replace hO := ns.own
 replace ca := ca.ch ns.ch
 replace dk := dk.ch ns.ch
 replace dW := dW.ch ns.ch
 replace fe := fe.ch ns.ch
 replace gX := gX.ch ns.ch
 replace kZ := kZ.ch ns.ch
 replace si := si.ch ns.ch
 replace hB := hB.trans ns.fr
 have z5 := Els.nil (rpRule) (bl (.row 39 2 none 0 0 [] :: [.row 3 1 wW (0 + 1) wX z4, .row 9 1 uM (0 + 1) uN yK, .row 3 1 sV (0 + 1) sW xC, .row 3 1 rN (0 + 1) rO wb, .row 26 1 pk (0 + 1) pm vi, .row 26 1 p35 n37 c36 fQ, .blk B10 (.cells #[.int .i64 ((ix a0 (0 : Int)).length : Int), .bool true, .slice p35 n37 c36, .slice pk (0 + 1) pm, .slice rN (0 + 1) rO, .slice sV (0 + 1) sW, .slice none 0 0, .slice none 0 0, .int .i64 (0 : Int), .map (some B4), .slice uM (0 + 1) uN, .slice wW (0 + 1) wX, .slice none 0 0] 72 (0, 0)), .any (mapE (fun a : List UInt8 => Value.string (gstr a)) (fun a : Int => Value.int .i64 a) B4 (mput (([] : List (Str × Int))) r407 ((0 : Int))))]) ++ A) Db
 have mQ := Stp.nil (e := 3) (r := 1) hO
 replace z5 := z5.ch mQ.ch
 replace uk := uk.ch mQ.ch
 replace nI := nI.ch mQ.ch
 replace iV := iV.ch mQ.ch
 replace fG := fG.ch mQ.ch
 replace d9 := d9.ch mQ.ch
 replace bc := bc.ch mQ.ch
 replace hO := mQ.own
 replace ca := ca.ch mQ.ch
 replace dk := dk.ch mQ.ch
 replace dW := dW.ch mQ.ch
 replace fe := fe.ch mQ.ch
 replace gX := gX.ch mQ.ch
 replace kZ := kZ.ch mQ.ch
 replace si := si.ch mQ.ch
 replace hB := hB.trans mQ.fr
 have F0 := Els.nil (Rp.int .i64) (bl (.row 3 1 none 0 0 [] :: [.row 39 2 none 0 0 [], .row 3 1 wW (0 + 1) wX z4, .row 9 1 uM (0 + 1) uN yK, .row 3 1 sV (0 + 1) sW xC, .row 3 1 rN (0 + 1) rO wb, .row 26 1 pk (0 + 1) pm vi, .row 26 1 p35 n37 c36 fQ, .blk B10 (.cells #[.int .i64 ((ix a0 (0 : Int)).length : Int), .bool true, .slice p35 n37 c36, .slice pk (0 + 1) pm, .slice rN (0 + 1) rO, .slice sV (0 + 1) sW, .slice none 0 0, .slice none 0 0, .int .i64 (0 : Int), .map (some B4), .slice uM (0 + 1) uN, .slice wW (0 + 1) wX, .slice none 0 0] 72 (0, 0)), .any (mapE (fun a : List UInt8 => Value.string (gstr a)) (fun a : Int => Value.int .i64 a) B4 (mput (([] : List (Str × Int))) r407 ((0 : Int))))]) ++ A) Db
 refine Go1.loopW (S := Nat × List Int × List Rule × List Int × List Str × List Int × List Int × List (List Int) × (List (Str × Int))) (fun s σ w => match s with | (k3_548, d_549, d_555, d_561, d_567, d_573, d_579, d_585, m3_591) => ∃ (iR : Nat), ∃ (kh : Option Addr), ∃ (ki : Nat), ∃ (qT : List Value), ∃ (i8 : Nat), ∃ (jN : Option Addr), ∃ (jO : Nat), ∃ (po : List Value), ∃ (i9 : Nat), ∃ (jP : Option Addr), ∃ (jQ : Nat), ∃ (pp : List Value), ∃ (ja : Nat), ∃ (kj : Option Addr), ∃ (kl : Nat), ∃ (pq : List Value), ∃ (jb : Nat), ∃ (ku : Option Addr), ∃ (kw : Nat), ∃ (pr : List Value), ∃ (jc : Nat), ∃ (kV : Option Addr), ∃ (kW : Nat), ∃ (pt : List Value), ∃ (jd : Nat), ∃ (lC : Option Addr), ∃ (lD : Nat), ∃ (pv : List Value), agrees σ [(6, .pointer (some ⟨B10, 0, none⟩)), (9, .int .i64 (0 : Int)), (85, .slice p35 n37 c36), (86, .int .i64 (d_32.length : Int)), (87, .int .i64 (k3_548 : Int))] ∧ Owns w0.heap.size w [.row 3 1 kh iR ki qT, .row 39 2 jN i8 jO po, .row 3 1 jP i9 jQ pp, .row 9 1 kj ja kl pq, .row 3 1 ku jb kw pr, .row 3 1 kV jc kW pt, .row 26 1 lC jd lD pv, .row 26 1 p35 n37 c36 fQ, .blk B10 (.cells #[.int .i64 ((ix a0 (0 : Int)).length : Int), .bool true, .slice p35 n37 c36, .slice lC jd lD, .slice kV jc kW, .slice ku jb kw, .slice none 0 0, .slice jN i8 jO, .int .i64 (0 : Int), .map (some B4), .slice kj ja kl, .slice jP i9 jQ, .slice kh iR ki] 72 (0, 0)), .any (mapE (fun a : List UInt8 => Value.string (gstr a)) (fun a : Int => Value.int .i64 a) B4 m3_591)] A ∧ Els (Rp.int .i64) (bl [.row 3 1 kh iR ki qT, .row 39 2 jN i8 jO po, .row 3 1 jP i9 jQ pp, .row 9 1 kj ja kl pq, .row 3 1 ku jb kw pr, .row 3 1 kV jc kW pt, .row 26 1 lC jd lD pv, .row 26 1 p35 n37 c36 fQ, .blk B10 (.cells #[.int .i64 ((ix a0 (0 : Int)).length : Int), .bool true, .slice p35 n37 c36, .slice lC jd lD, .slice kV jc kW, .slice ku jb kw, .slice none 0 0, .slice jN i8 jO, .int .i64 (0 : Int), .map (some B4), .slice kj ja kl, .slice jP i9 jQ, .slice kh iR ki] 72 (0, 0)), .any (mapE (fun a : List UInt8 => Value.string (gstr a)) (fun a : Int => Value.int .i64 a) B4 m3_591)] ++ A) w qT d_549 ∧ Els (rpRule) (bl [.row 3 1 kh iR ki qT, .row 39 2 jN i8 jO po, .row 3 1 jP i9 jQ pp, .row 9 1 kj ja kl pq, .row 3 1 ku jb kw pr, .row 3 1 kV jc kW pt, .row 26 1 lC jd lD pv, .row 26 1 p35 n37 c36 fQ, .blk B10 (.cells #[.int .i64 ((ix a0 (0 : Int)).length : Int), .bool true, .slice p35 n37 c36, .slice lC jd lD, .slice kV jc kW, .slice ku jb kw, .slice none 0 0, .slice jN i8 jO, .int .i64 (0 : Int), .map (some B4), .slice kj ja kl, .slice jP i9 jQ, .slice kh iR ki] 72 (0, 0)), .any (mapE (fun a : List UInt8 => Value.string (gstr a)) (fun a : Int => Value.int .i64 a) B4 m3_591)] ++ A) w po d_555 ∧ Els (Rp.int .i64) (bl [.row 3 1 kh iR ki qT, .row 39 2 jN i8 jO po, .row 3 1 jP i9 jQ pp, .row 9 1 kj ja kl pq, .row 3 1 ku jb kw pr, .row 3 1 kV jc kW pt, .row 26 1 lC jd lD pv, .row 26 1 p35 n37 c36 fQ, .blk B10 (.cells #[.int .i64 ((ix a0 (0 : Int)).length : Int), .bool true, .slice p35 n37 c36, .slice lC jd lD, .slice kV jc kW, .slice ku jb kw, .slice none 0 0, .slice jN i8 jO, .int .i64 (0 : Int), .map (some B4), .slice kj ja kl, .slice jP i9 jQ, .slice kh iR ki] 72 (0, 0)), .any (mapE (fun a : List UInt8 => Value.string (gstr a)) (fun a : Int => Value.int .i64 a) B4 m3_591)] ++ A) w pp d_561 ∧ Els (Rp.str) (bl [.row 3 1 kh iR ki qT, .row 39 2 jN i8 jO po, .row 3 1 jP i9 jQ pp, .row 9 1 kj ja kl pq, .row 3 1 ku jb kw pr, .row 3 1 kV jc kW pt, .row 26 1 lC jd lD pv, .row 26 1 p35 n37 c36 fQ, .blk B10 (.cells #[.int .i64 ((ix a0 (0 : Int)).length : Int), .bool true, .slice p35 n37 c36, .slice lC jd lD, .slice kV jc kW, .slice ku jb kw, .slice none 0 0, .slice jN i8 jO, .int .i64 (0 : Int), .map (some B4), .slice kj ja kl, .slice jP i9 jQ, .slice kh iR ki] 72 (0, 0)), .any (mapE (fun a : List UInt8 => Value.string (gstr a)) (fun a : Int => Value.int .i64 a) B4 m3_591)] ++ A) w pq d_567 ∧ Els (Rp.int .i64) (bl [.row 3 1 kh iR ki qT, .row 39 2 jN i8 jO po, .row 3 1 jP i9 jQ pp, .row 9 1 kj ja kl pq, .row 3 1 ku jb kw pr, .row 3 1 kV jc kW pt, .row 26 1 lC jd lD pv, .row 26 1 p35 n37 c36 fQ, .blk B10 (.cells #[.int .i64 ((ix a0 (0 : Int)).length : Int), .bool true, .slice p35 n37 c36, .slice lC jd lD, .slice kV jc kW, .slice ku jb kw, .slice none 0 0, .slice jN i8 jO, .int .i64 (0 : Int), .map (some B4), .slice kj ja kl, .slice jP i9 jQ, .slice kh iR ki] 72 (0, 0)), .any (mapE (fun a : List UInt8 => Value.string (gstr a)) (fun a : Int => Value.int .i64 a) B4 m3_591)] ++ A) w pr d_573 ∧ Els (Rp.int .i64) (bl [.row 3 1 kh iR ki qT, .row 39 2 jN i8 jO po, .row 3 1 jP i9 jQ pp, .row 9 1 kj ja kl pq, .row 3 1 ku jb kw pr, .row 3 1 kV jc kW pt, .row 26 1 lC jd lD pv, .row 26 1 p35 n37 c36 fQ, .blk B10 (.cells #[.int .i64 ((ix a0 (0 : Int)).length : Int), .bool true, .slice p35 n37 c36, .slice lC jd lD, .slice kV jc kW, .slice ku jb kw, .slice none 0 0, .slice jN i8 jO, .int .i64 (0 : Int), .map (some B4), .slice kj ja kl, .slice jP i9 jQ, .slice kh iR ki] 72 (0, 0)), .any (mapE (fun a : List UInt8 => Value.string (gstr a)) (fun a : Int => Value.int .i64 a) B4 m3_591)] ++ A) w pt d_579 ∧ Els (Rp.sl (Rp.int .i64)) (bl [.row 3 1 kh iR ki qT, .row 39 2 jN i8 jO po, .row 3 1 jP i9 jQ pp, .row 9 1 kj ja kl pq, .row 3 1 ku jb kw pr, .row 3 1 kV jc kW pt, .row 26 1 lC jd lD pv, .row 26 1 p35 n37 c36 fQ, .blk B10 (.cells #[.int .i64 ((ix a0 (0 : Int)).length : Int), .bool true, .slice p35 n37 c36, .slice lC jd lD, .slice kV jc kW, .slice ku jb kw, .slice none 0 0, .slice jN i8 jO, .int .i64 (0 : Int), .map (some B4), .slice kj ja kl, .slice jP i9 jQ, .slice kh iR ki] 72 (0, 0)), .any (mapE (fun a : List UInt8 => Value.string (gstr a)) (fun a : Int => Value.int .i64 a) B4 m3_591)] ++ A) w pv d_585 ∧ Els (Rp.sl (Rp.int .i64)) (bl [.row 3 1 kh iR ki qT, .row 39 2 jN i8 jO po, .row 3 1 jP i9 jQ pp, .row 9 1 kj ja kl pq, .row 3 1 ku jb kw pr, .row 3 1 kV jc kW pt, .row 26 1 lC jd lD pv, .row 26 1 p35 n37 c36 fQ, .blk B10 (.cells #[.int .i64 ((ix a0 (0 : Int)).length : Int), .bool true, .slice p35 n37 c36, .slice lC jd lD, .slice kV jc kW, .slice ku jb kw, .slice none 0 0, .slice jN i8 jO, .int .i64 (0 : Int), .map (some B4), .slice kj ja kl, .slice jP i9 jQ, .slice kh iR ki] 72 (0, 0)), .any (mapE (fun a : List UInt8 => Value.string (gstr a)) (fun a : Int => Value.int .i64 a) B4 m3_591)] ++ A) w fQ d_32 ∧ Fr (bl []) w0 (bl [.row 3 1 kh iR ki qT, .row 39 2 jN i8 jO po, .row 3 1 jP i9 jQ pp, .row 9 1 kj ja kl pq, .row 3 1 ku jb kw pr, .row 3 1 kV jc kW pt, .row 26 1 lC jd lD pv, .row 26 1 p35 n37 c36 fQ, .blk B10 (.cells #[.int .i64 ((ix a0 (0 : Int)).length : Int), .bool true, .slice p35 n37 c36, .slice lC jd lD, .slice kV jc kW, .slice ku jb kw, .slice none 0 0, .slice jN i8 jO, .int .i64 (0 : Int), .map (some B4), .slice kj ja kl, .slice jP i9 jQ, .slice kh iR ki] 72 (0, 0)), .any (mapE (fun a : List UInt8 => Value.string (gstr a)) (fun a : Int => Value.int .i64 a) B4 m3_591)]) w) H ⟨0, none, 0, [], 0, none, 0, [], 0 + 1, wW, wX, z4, 0 + 1, uM, uN, yK, 0 + 1, sV, sW, xC, 0 + 1, rN, rO, wb, 0 + 1, pk, pm, vi, ⟨rfl, rfl, rfl, rfl, rfl, trivial⟩, hO, F0, z5, uk, nI, iV, fG, d9, bc, hB⟩ ?_
 intro X3
 refine prE fun k3_548 => prE fun d_549 => prE fun d_555 => prE fun d_561 => prE fun d_567 => prE fun d_573 => prE fun d_579 => prE fun d_585 => fun m3_591 => ?_
 intro H hX3 σ Js
 refine exE fun iR => exE fun kh => exE fun ki => exE fun qT => exE fun i8 => exE fun jN => exE fun jO => exE fun po => exE fun i9 => exE fun jP => exE fun jQ => exE fun pp => exE fun ja => exE fun kj => exE fun kl => exE fun pq => exE fun jb => exE fun ku => exE fun kw => exE fun pr => exE fun jc => exE fun kV => exE fun kW => exE fun pt => exE fun jd => exE fun lC => exE fun lD => exE fun pv => andE fun hag => andE fun hO => andE fun cB => andE fun cF => andE fun cG => andE fun cL => andE fun db => andE fun dq => andE fun dF => andE fun bc => fun hB => ?_
 dsimp only at H
 refine Go1.keep [(6, .pointer (some ⟨B10, 0, none⟩)), (9, .int .i64 (0 : Int)), (85, .slice p35 n37 c36), (86, .int .i64 (d_32.length : Int)), (87, .int .i64 (k3_548 : Int))] hag ?_
 refine Go1.seq ?_
 refine Go1.region ?_
 by_cases x7 : (k3_548 : Int) < (d_32.length : Int)
 ·replace H := ifp x7 H
  refine GoR.op ((fun w => opB (op_lss rfl rfl w) (decide_eq_true x7)) _) rfl rfl ?_
  refine GoR.nil ?_
  refine Go1.seq ?_
  refine Go1.condT rfl rfl ?_
  refine Go1.skip ?_
  refine Go1.seq ?_
  refine Go1.block ?_
  refine Go1.seq ?_
  refine Go1.region ?_
  refine GoR.op ((op_move rfl) _) rfl rfl ?_
  obtain ⟨Bq, H⟩ := H
  obtain ⟨Br, H⟩ := H
  refine GoR.op ((op_index Try.underlying22 ti26 rfl rfl Bq (ltn (bc.neq hO 7 rfl) Br) (bc.psome hO 7 rfl Bq Br)) _) rfl rfl ?_
  have hobt := oldSl 7 hO rfl bc Bq Br
  obtain ⟨Dd, De, c5, F1⟩ := hobt
  refine GoR.op ((F1 Try.underlying26 rfl rfl) _ (Same.refl _)) rfl rfl ?_
  refine GoR.op ((op_assign rfl) _) rfl rfl ?_
  refine GoR.op ((op_assign rfl) _) rfl rfl ?_
  refine GoR.nil ?_
  refine Go1.seq ?_
  refine Go1.region ?_
  refine GoR.op ((op_move rfl) _) rfl rfl ?_
  obtain ⟨Jt, H⟩ := H
  refine GoR.op ((op_add rfl rfl (wrap_i64 Jt)) _) rfl rfl ?_
  refine GoR.op ((op_conv Try.underlying3 Try.underlying21 rfl rfl) _) rfl rfl ?_
  obtain ⟨Ju, H⟩ := H
  obtain ⟨Jv, H⟩ := H
  refine GoR.op ((op_convRS Try.underlying21 Try.underlying9 rfl Ju Jv) _) rfl rfl ?_
  refine GoR.op ((op_assign rfl) _) rfl rfl ?_
  refine GoR.nil ?_
  refine Go1.seq ?_
  refine Go1.drawS 0 [(0, .pure), (1, .pure), (2, .pure), (3, .stable), (4, .pure), (5, .loud), (6, .stable), (7, .pure), (8, .pure), (9, .pure), (10, .pure), (11, .pure)] mixed (by kernel_rfl) ?_
  intro MH F2
  have rk := Stp.same hO F2
  replace cB := cB.ch rk.ch
  replace cF := cF.ch rk.ch
  replace cG := cG.ch rk.ch
  replace cL := cL.ch rk.ch
  replace db := db.ch rk.ch
  replace dq := dq.ch rk.ch
  replace dF := dF.ch rk.ch
  replace bc := bc.ch rk.ch
  replace hO := rk.own
  replace c5 := c5.ch rk.ch
  replace hB := hB.trans rk.fr
  refine GoQ.pure rfl (op_move rfl) rfl rfl ?_
  refine GoQ.pure rfl (op_nilCheck rfl) rfl rfl ?_
  refine GoQ.pure rfl (op_fieldAddr Try.underlying72 rfl ti69 rfl (by decide)) rfl rfl ?_
  refine GoQ.stable rfl (oblk (i := 9) 8 hO rfl rfl Try.underlying69 rfl rfl) rfl rfl ?_
  refine GoQ.pure rfl (op_move rfl) rfl rfl ?_
  refine GoQ.call rfl (op_call body61 rfl (walk_enumerate_text hO.lt c5 H)) (fun v w hr => by obtain ⟨_, _, hs, _, _⟩ := hr; assumption) rfl rfl ?_
  rintro MJ ML ⟨r605, rfl, F3, Kg, H⟩
  have rm := Stp.same hO F3
  replace cB := cB.ch rm.ch
  replace cF := cF.ch rm.ch
  replace cG := cG.ch rm.ch
  replace cL := cL.ch rm.ch
  replace db := db.ch rm.ch
  replace dq := dq.ch rm.ch
  replace dF := dF.ch rm.ch
  replace bc := bc.ch rm.ch
  replace hO := rm.own
  replace c5 := c5.ch rm.ch
  replace hB := hB.trans rm.fr
  by_cases z6 : mhas m3_591 r605 = true
  ·replace H := ifp z6 H
   refine GoQ.stable rfl (olookT (a := r605) (MK.str Try.underlying9) 9 hO rfl Try.underlying69 rfl rfl z6) rfl rfl ?_
   refine GoQ.pure rfl (op_move rfl) rfl rfl ?_
   refine GoQ.pure rfl (op_extract rfl rfl) rfl rfl ?_
   refine GoQ.pure rfl (op_extract rfl rfl) rfl rfl ?_
   refine GoQ.pure rfl (op_assign rfl) rfl rfl ?_
   refine GoQ.pure rfl (op_assign rfl) rfl rfl ?_
   refine GoQ.nil ?_
   refine Go1.seq ?_
   refine Go1.seq ?_
   refine Go1.cut [(6, .pointer (some ⟨B10, 0, none⟩)), (9, .int .i64 (0 : Int)), (10, .int .i64 (k3_548 : Int)), (11, .slice Dd ((ix d_32 (k3_548 : Int)).length) De), (12, .string (gstr (chr (IntKind.i32.wrap ((97 : Int) + (k3_548 : Int)))))), (13, .int .i64 (mgt m3_591 r605)), (14, .bool true), (85, .slice p35 n37 c36), (86, .int .i64 (d_32.length : Int)), (87, .int .i64 (k3_548 : Int))] ⟨rfl, rfl, rfl, rfl, rfl, rfl, rfl, rfl, rfl, rfl, trivial⟩ ?_
   intro σ _
   refine Go1.region ?_
   refine GoR.op ((op_move rfl) _) rfl rfl ?_
   refine GoR.nil ?_
   refine Go1.condT rfl rfl ?_
   refine Go1.drawS 5 [(0, .pure), (1, .pure), (2, .pure), (3, .pure), (4, .pure), (5, .stable), (6, .pure), (7, .pure), (8, .pure), (9, .pure), (10, .stable), (11, .pure), (12, .pure), (13, .stable), (14, .pure), (15, .loud), (16, .last), (17, .pure), (18, .pure), (19, .pure), (20, .last)] mixed (by kernel_rfl) ?_
   intro MM F4
   have ro := Stp.same hO F4
   replace cB := cB.ch ro.ch
   replace cF := cF.ch ro.ch
   replace cG := cG.ch ro.ch
   replace cL := cL.ch ro.ch
   replace db := db.ch ro.ch
   replace dq := dq.ch ro.ch
   replace dF := dF.ch ro.ch
   replace bc := bc.ch ro.ch
   replace hO := ro.own
   replace c5 := c5.ch ro.ch
   replace hB := hB.trans ro.fr
   refine GoQ.pure rfl (op_move rfl) rfl rfl ?_
   refine GoQ.pure rfl (op_move rfl) rfl rfl ?_
   refine GoQ.pure rfl (op_nilCheck rfl) rfl rfl ?_
   refine GoQ.pure rfl (op_fieldAddr Try.underlying72 rfl ti29 rfl (by decide)) rfl rfl ?_
   refine GoQ.pure rfl (op_fieldAddr Try.underlying29 rfl ti27 rfl (by decide)) rfl rfl ?_
   refine GoQ.stable rfl (oblk (i := 7) 8 hO rfl rfl Try.underlying27 rfl rfl) rfl rfl ?_
   refine GoQ.pure rfl (op_move rfl) rfl rfl ?_
   refine GoQ.pure rfl (op_move rfl) rfl rfl ?_
   refine GoQ.pure rfl (op_nilCheck rfl) rfl rfl ?_
   refine GoQ.pure rfl (op_fieldAddr Try.underlying72 rfl ti70 rfl (by decide)) rfl rfl ?_
   refine GoQ.stable rfl (oblk (i := 10) 8 hO rfl rfl Try.underlying70 rfl rfl) rfl rfl ?_
   refine GoQ.pure rfl (op_move rfl) rfl rfl ?_
   obtain ⟨z7, H⟩ := H
   obtain ⟨z8, H⟩ := H
   refine GoQ.pure rfl (op_index Try.underlying70 ti9 rfl rfl z7 (ltn (cL.neq hO 3 rfl) z8) (cL.psome hO 3 rfl z7 z8)) rfl rfl ?_
   refine GoQ.stable rfl (oldStr 3 hO rfl cL z7 z8 Try.underlying9 rfl rfl) rfl rfl ?_
   have hle617 := Els.str_le cL z7 z8
   refine GoQ.pure rfl (op_build Try.underlying39 ti39 (pl := [(0, 1), (1, 1)]) (vs := [(0, .string (gstr (chr (IntKind.i32.wrap ((97 : Int) + (k3_548 : Int)))))), (1, .string (gstr (ix d_567 (mgt m3_591 r605))))]) (cs := #[.string (gstr (chr (IntKind.i32.wrap ((97 : Int) + (k3_548 : Int))))), .string (gstr (ix d_567 (mgt m3_591 r605)))]) (by kernel_rfl) rfl (by kernel_rfl)) rfl rfl ?_
   have hobt := obuildN (r := rpRule) (n := 1) (parts := [(0, .agg #[.string (gstr (chr (IntKind.i32.wrap ((97 : Int) + (k3_548 : Int))))), .string (gstr (ix d_567 (mgt m3_591 r605)))])]) (vs := [.string (gstr (chr (IntKind.i32.wrap ((97 : Int) + (k3_548 : Int))))), .string (gstr (ix d_567 (mgt m3_591 r605)))]) (xs := [(⟨chr (IntKind.i32.wrap ((97 : Int) + (k3_548 : Int))), ix d_567 (mgt m3_591 r605)⟩ : Rule)]) Try.underlying27 ti39 hO (by decide) (by decide) (by kernel_rfl) (Els.flat1 (⟨chr (IntKind.i32.wrap ((97 : Int) + (k3_548 : Int))), ix d_567 (mgt m3_591 r605)⟩ : Rule) ⟨(chr_le _), hle617⟩) rfl
   obtain ⟨MN, MO, rp, F5, F6, Df⟩ := hobt
   refine GoQ.loud rfl (Df rfl) F6 rfl rfl ?_
   replace cB := cB.ch rp.ch
   replace cF := cF.ch rp.ch
   replace cG := cG.ch rp.ch
   replace cL := cL.ch rp.ch
   replace db := db.ch rp.ch
   replace dq := dq.ch rp.ch
   replace dF := dF.ch rp.ch
   replace bc := bc.ch rp.ch
   replace hO := rp.own
   replace c5 := c5.ch rp.ch
   replace hB := hB.trans rp.fr
   have hobt := freeze 0 hO rfl F5
   obtain ⟨hO1, tm, qU, F7⟩ := hobt
   dsimp only [eS, eZ] at hO1 tm qU
   replace c5 := c5.ch tm
   replace cB := cB.ch tm
   replace cF := cF.ch tm
   replace cG := cG.ch tm
   replace cL := cL.ch tm
   replace db := db.ch tm
   replace dq := dq.ch tm
   replace dF := dF.ch tm
   replace bc := bc.ch tm
   replace hB := hB.trans (Owns.dropFr _ _ 0)
   dsimp only [eS, eZ] at hB
   replace hO := hO1; clear hO1
   obtain ⟨Jw, H⟩ := H
   have hobt := oapp Try.underlying27 ti39 rfl 1 hO rfl cF qU F7 Jw (by decide)
   obtain ⟨MP, z9, Aa, F8, qg, sj, Dg⟩ := hobt
   dsimp only [sS, sZ] at qg sj
   refine GoQ.last rfl (Dg (by exact rfl) (by exact rfl)) rfl rfl ?_
   replace cB := cB.ch qg.ch
   replace cG := cG.ch qg.ch
   replace cL := cL.ch qg.ch
   replace db := db.ch qg.ch
   replace dq := dq.ch qg.ch
   replace dF := dF.ch qg.ch
   replace bc := bc.ch qg.ch
   replace hO := qg.own
   replace c5 := c5.ch qg.ch
   replace qU := qU.ch qg.ch
   replace hB := hB.trans qg.fr
   refine GoQ.pure rfl (op_nilCheck rfl) rfl rfl ?_
   refine GoQ.pure rfl (op_fieldAddr Try.underlying72 rfl ti29 rfl (by decide)) rfl rfl ?_
   refine GoQ.pure rfl (op_fieldAddr Try.underlying29 rfl ti27 rfl (by decide)) rfl rfl ?_
   have hobt := oblkSt2 (v := .slice z9 (i8 + 1) Aa) (i := 7) (cs' := #[.int .i64 ((ix a0 (0 : Int)).length : Int), .bool true, .slice p35 n37 c36, .slice lC jd lD, .slice kV jc kW, .slice ku jb kw, .slice none 0 0, .slice z9 (i8 + 1) Aa, .int .i64 (0 : Int), .map (some B4), .slice kj ja kl, .slice jP i9 jQ, .slice kh iR ki]) 8 hO rfl rfl rfl rfl
   obtain ⟨MQ, oN, Dh⟩ := hobt
   dsimp only [sS, sZ] at oN
   refine GoQ.last rfl (Dh Try.underlying27 rfl ti27 (by exact rfl) (by exact rfl)) rfl rfl ?_
   replace cB := cB.ch oN.ch
   replace sj := sj.ch oN.ch
   replace cG := cG.ch oN.ch
   replace cL := cL.ch oN.ch
   replace db := db.ch oN.ch
   replace dq := dq.ch oN.ch
   replace dF := dF.ch oN.ch
   replace bc := bc.ch oN.ch
   replace hO := oN.own
   replace c5 := c5.ch oN.ch
   replace qU := qU.ch oN.ch
   replace hB := hB.trans oN.fr
   refine GoQ.nil ?_
   refine Go1.cut [(6, .pointer (some ⟨B10, 0, none⟩)), (9, .int .i64 (0 : Int)), (13, .int .i64 (mgt m3_591 r605)), (85, .slice p35 n37 c36), (86, .int .i64 (d_32.length : Int)), (87, .int .i64 (k3_548 : Int))] ⟨rfl, rfl, rfl, rfl, rfl, rfl, trivial⟩ ?_
   intro σ _
   refine Go1.region ?_
   refine GoR.op ((op_move rfl) _) rfl rfl ?_
   refine GoR.op ((op_move rfl) _) rfl rfl ?_
   refine GoR.op ((op_nilCheck rfl) _) rfl rfl ?_
   refine GoR.op ((op_fieldAddr Try.underlying72 rfl ti26 rfl (by decide)) _) rfl rfl ?_
   refine GoR.op ((oblk (i := 12) 8 hO rfl rfl Try.underlying26 rfl rfl) _ (Same.refl _)) rfl rfl ?_
   refine GoR.op ((op_move rfl) _) rfl rfl ?_
   have hobt := obuild (r := Rp.int .i64) (n := 1) (parts := [(0, .int .i64 (mgt m3_591 r605))]) (vs := [.int .i64 (mgt m3_591 r605)]) (xs := [(mgt m3_591 r605)]) rfl Try.underlying26 ti3 hO (by decide) (by kernel_rfl) (Els.cons rfl rfl (Els.nil _ _ _) (by simp [mx])) rfl
   obtain ⟨MR, MS, qh, F9, KH, Di⟩ := hobt
   refine GoR.op (Di rfl) rfl rfl ?_
   replace cB := cB.ch qh.ch
   replace sj := sj.ch qh.ch
   replace cG := cG.ch qh.ch
   replace cL := cL.ch qh.ch
   replace db := db.ch qh.ch
   replace dq := dq.ch qh.ch
   replace dF := dF.ch qh.ch
   replace bc := bc.ch qh.ch
   replace hO := qh.own
   replace c5 := c5.ch qh.ch
   replace qU := qU.ch qh.ch
   replace hB := hB.trans qh.fr
   have hobt := freeze 0 hO rfl F9
   obtain ⟨hO1, sF, wc, Ga⟩ := hobt
   dsimp only [eS, eZ] at hO1 sF wc
   replace c5 := c5.ch sF
   replace qU := qU.ch sF
   replace cB := cB.ch sF
   replace sj := sj.ch sF
   replace cG := cG.ch sF
   replace cL := cL.ch sF
   replace db := db.ch sF
   replace dq := dq.ch sF
   replace dF := dF.ch sF
   replace bc := bc.ch sF
   replace hB := hB.trans (Owns.dropFr _ _ 0)
   dsimp only [eS, eZ] at hB
   replace hO := hO1; clear hO1
   obtain ⟨Jx, H⟩ := H
   have hobt := oapp Try.underlying26 ti3 rfl 0 hO rfl cB wc Ga Jx (by decide)
   obtain ⟨MT, Bs, Bt, Gb, oO, yL, Dj⟩ := hobt
   dsimp only [sS, sZ] at oO yL
   refine GoR.op (Dj (by exact rfl) (by exact rfl)) rfl rfl ?_
   replace sj := sj.ch oO.ch
   replace cG := cG.ch oO.ch
   replace cL := cL.ch oO.ch
   replace db := db.ch oO.ch
   replace dq := dq.ch oO.ch
   replace dF := dF.ch oO.ch
   replace bc := bc.ch oO.ch
   replace hO := oO.own
   replace c5 := c5.ch oO.ch
   replace qU := qU.ch oO.ch
   replace wc := wc.ch oO.ch
   replace hB := hB.trans oO.fr
   refine GoR.op ((op_nilCheck rfl) _) rfl rfl ?_
   refine GoR.op ((op_fieldAddr Try.underlying72 rfl ti26 rfl (by decide)) _) rfl rfl ?_
   have hobt := oblkSt2 (v := .slice Bs (iR + 1) Bt) (i := 12) (cs' := #[.int .i64 ((ix a0 (0 : Int)).length : Int), .bool true, .slice p35 n37 c36, .slice lC jd lD, .slice kV jc kW, .slice ku jb kw, .slice none 0 0, .slice z9 (i8 + 1) Aa, .int .i64 (0 : Int), .map (some B4), .slice kj ja kl, .slice jP i9 jQ, .slice Bs (iR + 1) Bt]) 8 hO rfl rfl rfl rfl
   obtain ⟨MU, nW, Dk⟩ := hobt
   dsimp only [sS, sZ] at nW
   refine GoR.op (Dk Try.underlying26 rfl ti26 (by exact rfl) (by exact rfl)) rfl rfl ?_
   replace yL := yL.ch nW.ch
   replace sj := sj.ch nW.ch
   replace cG := cG.ch nW.ch
   replace cL := cL.ch nW.ch
   replace db := db.ch nW.ch
   replace dq := dq.ch nW.ch
   replace dF := dF.ch nW.ch
   replace bc := bc.ch nW.ch
   replace hO := nW.own
   replace c5 := c5.ch nW.ch
   replace qU := qU.ch nW.ch
   replace wc := wc.ch nW.ch
   replace hB := hB.trans nW.fr
   refine GoR.nil ?_
   refine Go1.inBlock ?_
   refine Go1.region ?_
   refine GoR.op ((op_add rfl rfl (wrap_i64 (natbd x7 bc.bd))) _) rfl rfl ?_
   refine GoR.op ((op_move rfl) _) rfl rfl ?_
   refine GoR.nil ?_
   exact hX3 _ H _ _ ⟨iR + 1, Bs, Bt, Gb, i8 + 1, z9, Aa, F8, i9, jP, jQ, pp, ja, kj, kl, pq, jb, ku, kw, pr, jc, kV, kW, pt, jd, lC, lD, pv, ⟨rfl, rfl, rfl, rfl, rfl, trivial⟩, hO, yL, sj, cG, cL, db, dq, dF, bc, hB⟩
  replace H := ifn z6 H
  refine GoQ.stable rfl (olookF (a := r605) (MK.str Try.underlying9) 9 hO rfl Try.underlying69 ti3 rfl rfl z6) rfl rfl ?_
  refine GoQ.pure rfl (op_move rfl) rfl rfl ?_
  refine GoQ.pure rfl (op_extract rfl rfl) rfl rfl ?_
  refine GoQ.pure rfl (op_extract rfl rfl) rfl rfl ?_
  refine GoQ.pure rfl (op_assign rfl) rfl rfl ?_
  refine GoQ.pure rfl (op_assign rfl) rfl rfl ?_
  refine GoQ.nil ?_
  refine Go1.seq ?_
  refine Go1.seq ?_
  refine Go1.region ?_
  refine GoR.op ((op_move rfl) _) rfl rfl ?_
  refine GoR.nil ?_
  refine Go1.condF rfl rfl ?_
  refine Go1.cut [(6, .pointer (some ⟨B10, 0, none⟩)), (9, .int .i64 (0 : Int)), (10, .int .i64 (k3_548 : Int)), (11, .slice Dd ((ix d_32 (k3_548 : Int)).length) De), (12, .string (gstr (chr (IntKind.i32.wrap ((97 : Int) + (k3_548 : Int)))))), (85, .slice p35 n37 c36), (86, .int .i64 (d_32.length : Int)), (87, .int .i64 (k3_548 : Int))] ⟨rfl, rfl, rfl, rfl, rfl, rfl, rfl, rfl, trivial⟩ ?_
  intro σ _
  refine Go1.region ?_
  refine GoR.op ((op_move rfl) _) rfl rfl ?_
  refine GoR.op ((op_move rfl) _) rfl rfl ?_
  refine GoR.call (op_call body64 rfl (walk_slices_Clone_int hO.lt c5 H)) rfl rfl ?_
  rintro MV MW ⟨r662, vP, tz, tA, Kh, rfl, Gc, hN666, tn, H⟩
  have qi := Stp.more hO Gc hN666
  dsimp only [List.cons_append, List.nil_append] at qi
  replace cB := cB.ch qi.ch
  replace cF := cF.ch qi.ch
  replace cG := cG.ch qi.ch
  replace cL := cL.ch qi.ch
  replace db := db.ch qi.ch
  replace dq := dq.ch qi.ch
  replace dF := dF.ch qi.ch
  replace bc := bc.ch qi.ch
  replace hO := qi.own
  replace c5 := c5.ch qi.ch
  replace hB := hB.trans qi.fr
  replace tn := tn.ch (Ch.assoc _ _ _ _)
  refine GoR.op ((op_move rfl) _) rfl rfl ?_
  refine GoR.op ((op_move rfl) _) rfl rfl ?_
  refine GoR.op ((op_move rfl) _) rfl rfl ?_
  refine GoR.op ((op_move rfl) _) rfl rfl ?_
  refine GoR.inl (vs := [.pointer (some ⟨B10, 0, none⟩), .slice tz vP tA, .int .i64 (0 : Int), .int .i64 (k3_548 : Int), .string (gstr (chr (IntKind.i32.wrap ((97 : Int) + (k3_548 : Int))))), .int .i64 (0 : Int)]) (caps := []) rfl rfl body65 Try.func65 rfl Try.ntmps65 rfl rfl rfl ?_
  intro RhR670 hR670
  refine Go1.seq ?_
  refine Go1.region ?_
  refine GoR.op ((op_assign rfl) _) rfl rfl ?_
  refine GoR.nil ?_
  refine Go1.seq ?_
  refine Go1.region ?_
  refine GoR.op ((op_move rfl) _) rfl rfl ?_
  refine GoR.op ((op_nilCheck rfl) _) rfl rfl ?_
  refine GoR.op ((op_fieldAddr Try.underlying72 rfl ti29 rfl (by decide)) _) rfl rfl ?_
  refine GoR.op ((op_fieldAddr Try.underlying29 rfl ti22 rfl (by decide)) _) rfl rfl ?_
  refine GoR.op ((oblk (i := 3) 9 hO rfl rfl Try.underlying22 rfl rfl) _ (Same.refl _)) rfl rfl ?_
  refine GoR.op ((op_lenN Try.underlying22 rfl (dF.neq hO 7 rfl)) _) rfl rfl ?_
  refine GoR.op ((op_assign rfl) _) rfl rfl ?_
  refine GoR.nil ?_
  refine Go1.seq ?_
  refine Go1.drawS 1 [(0, .pure), (1, .pure), (2, .pure), (3, .stable), (4, .pure), (6, .pure), (5, .loud), (7, .last)] mixed (by kernel_rfl) ?_
  intro MX Gd
  have qj := Stp.same hO Gd
  replace tn := tn.ch qj.ch
  replace cB := cB.ch qj.ch
  replace cF := cF.ch qj.ch
  replace cG := cG.ch qj.ch
  replace cL := cL.ch qj.ch
  replace db := db.ch qj.ch
  replace dq := dq.ch qj.ch
  replace dF := dF.ch qj.ch
  replace bc := bc.ch qj.ch
  replace hO := qj.own
  replace c5 := c5.ch qj.ch
  replace hB := hB.trans qj.fr
  refine GoQ.pure rfl (op_move rfl) rfl rfl ?_
  refine GoQ.pure rfl (op_nilCheck rfl) rfl rfl ?_
  refine GoQ.pure rfl (op_fieldAddr Try.underlying72 rfl ti69 rfl (by decide)) rfl rfl ?_
  refine GoQ.stable rfl (oblk (i := 9) 9 hO rfl rfl Try.underlying69 rfl rfl) rfl rfl ?_
  refine GoQ.pure rfl (op_move rfl) rfl rfl ?_
  refine GoQ.pure rfl (op_move rfl) rfl rfl ?_
  have hobt := rowlend 0 hO rfl tn
  obtain ⟨Ge, Gf⟩ := hobt
  have hOc676 := hO.drop 0
  refine GoQ.call rfl (op_call body61 (show ([.slice tz vP tA] : List Value) = [.slice tz r662.length tA] from by rw [← Gf]) (walk_enumerate_text hOc676.lt Ge H)) (fun v w hr => by obtain ⟨_, _, hs, _, _⟩ := hr; assumption) rfl rfl ?_
  rintro MY MZ ⟨r677, rfl, Gg, Ki, H⟩
  have qk := Stp.same hO Gg
  replace tn := tn.ch qk.ch
  replace cB := cB.ch qk.ch
  replace cF := cF.ch qk.ch
  replace cG := cG.ch qk.ch
  replace cL := cL.ch qk.ch
  replace db := db.ch qk.ch
  replace dq := dq.ch qk.ch
  replace dF := dF.ch qk.ch
  replace bc := bc.ch qk.ch
  replace hO := qk.own
  replace c5 := c5.ch qk.ch
  replace hB := hB.trans qk.fr
  have hobt := omapUpd (MK.str Try.underlying9) 10 hO rfl Try.underlying69 r677 (d_585.length : Int)
  obtain ⟨M0, oP, Dl⟩ := hobt
  dsimp only [sS, sZ] at oP
  refine GoQ.last rfl (Dl (by exact rfl) (by exact rfl) (by exact rfl)) rfl rfl ?_
  replace tn := tn.ch oP.ch
  replace cB := cB.ch oP.ch
  replace cF := cF.ch oP.ch
  replace cG := cG.ch oP.ch
  replace cL := cL.ch oP.ch
  replace db := db.ch oP.ch
  replace dq := dq.ch oP.ch
  replace dF := dF.ch oP.ch
  replace bc := bc.ch oP.ch
  replace hO := oP.own
  replace c5 := c5.ch oP.ch
  replace hB := hB.trans oP.fr
  refine GoQ.nil ?_
  refine Go1.seq ?_
  refine Go1.cut [(0, .pointer (some ⟨B10, 0, none⟩)), (1, .slice tz vP tA), (2, .int .i64 (0 : Int)), (3, .int .i64 (k3_548 : Int)), (4, .string (gstr (chr (IntKind.i32.wrap ((97 : Int) + (k3_548 : Int)))))), (5, .int .i64 (0 : Int)), (13, .int .i64 (d_585.length : Int))] ⟨rfl, rfl, rfl, rfl, rfl, rfl, rfl, trivial⟩ ?_
  intro σ _
  refine Go1.region ?_
  refine GoR.op ((op_move rfl) _) rfl rfl ?_
  refine GoR.op ((op_move rfl) _) rfl rfl ?_
  refine GoR.op ((op_nilCheck rfl) _) rfl rfl ?_
  refine GoR.op ((op_fieldAddr Try.underlying72 rfl ti29 rfl (by decide)) _) rfl rfl ?_
  refine GoR.op ((op_fieldAddr Try.underlying29 rfl ti22 rfl (by decide)) _) rfl rfl ?_
  refine GoR.op ((oblk (i := 3) 9 hO rfl rfl Try.underlying22 rfl rfl) _ (Same.refl _)) rfl rfl ?_
  refine GoR.op ((op_move rfl) _) rfl rfl ?_
  have hobt := freeze 0 hO rfl tn
  obtain ⟨hO1, tp, d4, Gh⟩ := hobt
  dsimp only [eS, eZ] at hO1 tp d4
  replace c5 := c5.ch tp
  replace cB := cB.ch tp
  replace cF := cF.ch tp
  replace cG := cG.ch tp
  replace cL := cL.ch tp
  replace db := db.ch tp
  replace dq := dq.ch tp
  replace dF := dF.ch tp
  replace bc := bc.ch tp
  replace hB := hB.trans (Owns.dropFr _ _ 0)
  dsimp only [eS, eZ] at hB
  replace hO := hO1; clear hO1
  have hobt := obuild (r := Rp.sl (Rp.int .i64)) (n := 1) (parts := [(0, .slice tz vP tA)]) (vs := [.slice tz vP tA]) (xs := [r662]) rfl Try.underlying22 ti26 hO (by decide) (by kernel_rfl) (Els.cons rfl ⟨tz, tA, congrArg some (congrArg (fun nn => Value.slice tz nn tA) Gh), d4⟩ (Els.nil _ _ _) (by simp [mx])) rfl
  obtain ⟨M1, M2, ql, Gi, KI, Dm⟩ := hobt
  refine GoR.op (Dm rfl) rfl rfl ?_
  replace cB := cB.ch ql.ch
  replace cF := cF.ch ql.ch
  replace cG := cG.ch ql.ch
  replace cL := cL.ch ql.ch
  replace db := db.ch ql.ch
  replace dq := dq.ch ql.ch
  replace dF := dF.ch ql.ch
  replace bc := bc.ch ql.ch
  replace hO := ql.own
  replace c5 := c5.ch ql.ch
  replace d4 := d4.ch ql.ch
  replace hB := hB.trans ql.fr
  have hobt := freeze 0 hO rfl Gi
  obtain ⟨hO1, sG, en, Gj⟩ := hobt
  dsimp only [eS, eZ] at hO1 sG en
  replace c5 := c5.ch sG
  replace d4 := d4.ch sG
  replace cB := cB.ch sG
  replace cF := cF.ch sG
  replace cG := cG.ch sG
  replace cL := cL.ch sG
  replace db := db.ch sG
  replace dq := dq.ch sG
  replace dF := dF.ch sG
  replace bc := bc.ch sG
  replace hB := hB.trans (Owns.dropFr _ _ 0)
  dsimp only [eS, eZ] at hB
  replace hO := hO1; clear hO1
  obtain ⟨Jy, H⟩ := H
  have hobt := oapp Try.underlying22 ti26 rfl 6 hO rfl dF en Gj Jy (by decide)
  obtain ⟨M3, vQ, vR, Gk, oQ, eA, Dn⟩ := hobt
  dsimp only [sS, sZ] at oQ eA
  refine GoR.op (Dn (by exact rfl) (by exact rfl)) rfl rfl ?_
  replace cB := cB.ch oQ.ch
  replace cF := cF.ch oQ.ch
  replace cG := cG.ch oQ.ch
  replace cL := cL.ch oQ.ch
  replace db := db.ch oQ.ch
  replace dq := dq.ch oQ.ch
  replace bc := bc.ch oQ.ch
  replace hO := oQ.own
  replace c5 := c5.ch oQ.ch
  replace d4 := d4.ch oQ.ch
  replace en := en.ch oQ.ch
  replace hB := hB.trans oQ.fr
  refine GoR.op ((op_nilCheck rfl) _) rfl rfl ?_
  refine GoR.op ((op_fieldAddr Try.underlying72 rfl ti29 rfl (by decide)) _) rfl rfl ?_
  refine GoR.op ((op_fieldAddr Try.underlying29 rfl ti22 rfl (by decide)) _) rfl rfl ?_
  have hobt := oblkSt2 (v := .slice vQ (jd + 1) vR) (i := 3) (cs' := #[.int .i64 ((ix a0 (0 : Int)).length : Int), .bool true, .slice p35 n37 c36, .slice vQ (jd + 1) vR, .slice kV jc kW, .slice ku jb kw, .slice none 0 0, .slice jN i8 jO, .int .i64 (0 : Int), .map (some B4), .slice kj ja kl, .slice jP i9 jQ, .slice kh iR ki]) 8 hO rfl rfl rfl rfl
  obtain ⟨M4, nX, Do⟩ := hobt
  dsimp only [sS, sZ] at nX
  refine GoR.op (Do Try.underlying22 rfl ti22 (by exact rfl) (by exact rfl)) rfl rfl ?_
  replace cB := cB.ch nX.ch
  replace cF := cF.ch nX.ch
  replace cG := cG.ch nX.ch
  replace cL := cL.ch nX.ch
  replace db := db.ch nX.ch
  replace dq := dq.ch nX.ch
  replace eA := eA.ch nX.ch
  replace bc := bc.ch nX.ch
  replace hO := nX.own
  replace c5 := c5.ch nX.ch
  replace d4 := d4.ch nX.ch
  replace en := en.ch nX.ch
  replace hB := hB.trans nX.fr
  refine GoR.nil ?_
  refine Go1.seq ?_
  refine Go1.region ?_
  refine GoR.op ((op_move rfl) _) rfl rfl ?_
  refine GoR.op ((op_move rfl) _) rfl rfl ?_
  refine GoR.op ((op_nilCheck rfl) _) rfl rfl ?_
  refine GoR.op ((op_fieldAddr Try.underlying72 rfl ti29 rfl (by decide)) _) rfl rfl ?_
  refine GoR.op ((op_fieldAddr Try.underlying29 rfl ti26 rfl (by decide)) _) rfl rfl ?_
  refine GoR.op ((oblk (i := 4) 8 hO rfl rfl Try.underlying26 rfl rfl) _ (Same.refl _)) rfl rfl ?_
  refine GoR.op ((op_move rfl) _) rfl rfl ?_
  have hobt := obuild (r := Rp.int .i64) (n := 1) (parts := [(0, .int .i64 (0 : Int))]) (vs := [.int .i64 (0 : Int)]) (xs := [(0 : Int)]) rfl Try.underlying26 ti3 hO (by decide) (by kernel_rfl) (Els.cons rfl rfl (Els.nil _ _ _) (by simp [mx])) rfl
  obtain ⟨M5, M6, oR, Gl, KJ, Dp⟩ := hobt
  refine GoR.op (Dp rfl) rfl rfl ?_
  replace cB := cB.ch oR.ch
  replace cF := cF.ch oR.ch
  replace cG := cG.ch oR.ch
  replace cL := cL.ch oR.ch
  replace db := db.ch oR.ch
  replace dq := dq.ch oR.ch
  replace eA := eA.ch oR.ch
  replace bc := bc.ch oR.ch
  replace hO := oR.own
  replace c5 := c5.ch oR.ch
  replace d4 := d4.ch oR.ch
  replace en := en.ch oR.ch
  replace hB := hB.trans oR.fr
  have hobt := freeze 0 hO rfl Gl
  obtain ⟨hO1, sk, fH, Gm⟩ := hobt
  dsimp only [eS, eZ] at hO1 sk fH
  replace c5 := c5.ch sk
  replace d4 := d4.ch sk
  replace en := en.ch sk
  replace cB := cB.ch sk
  replace cF := cF.ch sk
  replace cG := cG.ch sk
  replace cL := cL.ch sk
  replace db := db.ch sk
  replace dq := dq.ch sk
  replace eA := eA.ch sk
  replace bc := bc.ch sk
  replace hB := hB.trans (Owns.dropFr _ _ 0)
  dsimp only [eS, eZ] at hB
  replace hO := hO1; clear hO1
  obtain ⟨Jz, H⟩ := H
  have hobt := oapp Try.underlying26 ti3 rfl 5 hO rfl dq fH Gm Jz (by decide)
  obtain ⟨M7, wY, wZ, Gn, nY, fV, Dq⟩ := hobt
  dsimp only [sS, sZ] at nY fV
  refine GoR.op (Dq (by exact rfl) (by exact rfl)) rfl rfl ?_
  replace cB := cB.ch nY.ch
  replace cF := cF.ch nY.ch
  replace cG := cG.ch nY.ch
  replace cL := cL.ch nY.ch
  replace db := db.ch nY.ch
  replace eA := eA.ch nY.ch
  replace bc := bc.ch nY.ch
  replace hO := nY.own
  replace c5 := c5.ch nY.ch
  replace d4 := d4.ch nY.ch
  replace en := en.ch nY.ch
  replace fH := fH.ch nY.ch
  replace hB := hB.trans nY.fr
  refine GoR.op ((op_nilCheck rfl) _) rfl rfl ?_
  refine GoR.op ((op_fieldAddr Try.underlying72 rfl ti29 rfl (by decide)) _) rfl rfl ?_
  refine GoR.op ((op_fieldAddr Try.underlying29 rfl ti26 rfl (by decide)) _) rfl rfl ?_
  have hobt := oblkSt2 (v := .slice wY (jc + 1) wZ) (i := 4) (cs' := #[.int .i64 ((ix a0 (0 : Int)).length : Int), .bool true, .slice p35 n37 c36, .slice vQ (jd + 1) vR, .slice wY (jc + 1) wZ, .slice ku jb kw, .slice none 0 0, .slice jN i8 jO, .int .i64 (0 : Int), .map (some B4), .slice kj ja kl, .slice jP i9 jQ, .slice kh iR ki]) 8 hO rfl rfl rfl rfl
  obtain ⟨M8, nt, Dr⟩ := hobt
  dsimp only [sS, sZ] at nt
  refine GoR.op (Dr Try.underlying26 rfl ti26 (by exact rfl) (by exact rfl)) rfl rfl ?_
  replace cB := cB.ch nt.ch
  replace cF := cF.ch nt.ch
  replace cG := cG.ch nt.ch
  replace cL := cL.ch nt.ch
  replace db := db.ch nt.ch
  replace fV := fV.ch nt.ch
  replace eA := eA.ch nt.ch
  replace bc := bc.ch nt.ch
  replace hO := nt.own
  replace c5 := c5.ch nt.ch
  replace d4 := d4.ch nt.ch
  replace en := en.ch nt.ch
  replace fH := fH.ch nt.ch
  replace hB := hB.trans nt.fr
  refine GoR.nil ?_
  refine Go1.seq ?_
  refine Go1.cut [(0, .pointer (some ⟨B10, 0, none⟩)), (3, .int .i64 (k3_548 : Int)), (4, .string (gstr (chr (IntKind.i32.wrap ((97 : Int) + (k3_548 : Int)))))), (5, .int .i64 (0 : Int)), (13, .int .i64 (d_585.length : Int))] ⟨rfl, rfl, rfl, rfl, rfl, trivial⟩ ?_
  intro σ _
  refine Go1.region ?_
  refine GoR.op ((op_move rfl) _) rfl rfl ?_
  refine GoR.op ((op_move rfl) _) rfl rfl ?_
  refine GoR.op ((op_nilCheck rfl) _) rfl rfl ?_
  refine GoR.op ((op_fieldAddr Try.underlying72 rfl ti29 rfl (by decide)) _) rfl rfl ?_
  refine GoR.op ((op_fieldAddr Try.underlying29 rfl ti26 rfl (by decide)) _) rfl rfl ?_
  refine GoR.op ((oblk (i := 5) 8 hO rfl rfl Try.underlying26 rfl rfl) _ (Same.refl _)) rfl rfl ?_
  refine GoR.op ((op_move rfl) _) rfl rfl ?_
  have hobt := obuild (r := Rp.int .i64) (n := 1) (parts := [(0, .int .i64 (k3_548 : Int))]) (vs := [.int .i64 (k3_548 : Int)]) (xs := [(k3_548 : Int)]) rfl Try.underlying26 ti3 hO (by decide) (by kernel_rfl) (Els.cons rfl rfl (Els.nil _ _ _) (by simp [mx])) rfl
  obtain ⟨M9, Na, nZ, Gp, KK, Ds⟩ := hobt
  refine GoR.op (Ds rfl) rfl rfl ?_
  replace cB := cB.ch nZ.ch
  replace cF := cF.ch nZ.ch
  replace cG := cG.ch nZ.ch
  replace cL := cL.ch nZ.ch
  replace db := db.ch nZ.ch
  replace fV := fV.ch nZ.ch
  replace eA := eA.ch nZ.ch
  replace bc := bc.ch nZ.ch
  replace hO := nZ.own
  replace c5 := c5.ch nZ.ch
  replace d4 := d4.ch nZ.ch
  replace en := en.ch nZ.ch
  replace fH := fH.ch nZ.ch
  replace hB := hB.trans nZ.fr
  have hobt := freeze 0 hO rfl Gp
  obtain ⟨hO1, rH, iN, Gq⟩ := hobt
  dsimp only [eS, eZ] at hO1 rH iN
  replace c5 := c5.ch rH
  replace d4 := d4.ch rH
  replace en := en.ch rH
  replace fH := fH.ch rH
  replace cB := cB.ch rH
  replace cF := cF.ch rH
  replace cG := cG.ch rH
  replace cL := cL.ch rH
  replace db := db.ch rH
  replace fV := fV.ch rH
  replace eA := eA.ch rH
  replace bc := bc.ch rH
  replace hB := hB.trans (Owns.dropFr _ _ 0)
  dsimp only [eS, eZ] at hB
  replace hO := hO1; clear hO1
  obtain ⟨JA, H⟩ := H
  have hobt := oapp Try.underlying26 ti3 rfl 4 hO rfl db iN Gq JA (by decide)
  obtain ⟨Nb, x8, x9, Gr, nu, iW, Dt⟩ := hobt
  dsimp only [sS, sZ] at nu iW
  refine GoR.op (Dt (by exact rfl) (by exact rfl)) rfl rfl ?_
  replace cB := cB.ch nu.ch
  replace cF := cF.ch nu.ch
  replace cG := cG.ch nu.ch
  replace cL := cL.ch nu.ch
  replace fV := fV.ch nu.ch
  replace eA := eA.ch nu.ch
  replace bc := bc.ch nu.ch
  replace hO := nu.own
  replace c5 := c5.ch nu.ch
  replace d4 := d4.ch nu.ch
  replace en := en.ch nu.ch
  replace fH := fH.ch nu.ch
  replace iN := iN.ch nu.ch
  replace hB := hB.trans nu.fr
  refine GoR.op ((op_nilCheck rfl) _) rfl rfl ?_
  refine GoR.op ((op_fieldAddr Try.underlying72 rfl ti29 rfl (by decide)) _) rfl rfl ?_
  refine GoR.op ((op_fieldAddr Try.underlying29 rfl ti26 rfl (by decide)) _) rfl rfl ?_
  have hobt := oblkSt2 (v := .slice x8 (jb + 1) x9) (i := 5) (cs' := #[.int .i64 ((ix a0 (0 : Int)).length : Int), .bool true, .slice p35 n37 c36, .slice vQ (jd + 1) vR, .slice wY (jc + 1) wZ, .slice x8 (jb + 1) x9, .slice none 0 0, .slice jN i8 jO, .int .i64 (0 : Int), .map (some B4), .slice kj ja kl, .slice jP i9 jQ, .slice kh iR ki]) 8 hO rfl rfl rfl rfl
  obtain ⟨Nc, mS, Du⟩ := hobt
  dsimp only [sS, sZ] at mS
  refine GoR.op (Du Try.underlying26 rfl ti26 (by exact rfl) (by exact rfl)) rfl rfl ?_
  replace cB := cB.ch mS.ch
  replace cF := cF.ch mS.ch
  replace cG := cG.ch mS.ch
  replace cL := cL.ch mS.ch
  replace iW := iW.ch mS.ch
  replace fV := fV.ch mS.ch
  replace eA := eA.ch mS.ch
  replace bc := bc.ch mS.ch
  replace hO := mS.own
  replace c5 := c5.ch mS.ch
  replace d4 := d4.ch mS.ch
  replace en := en.ch mS.ch
  replace fH := fH.ch mS.ch
  replace iN := iN.ch mS.ch
  replace hB := hB.trans mS.fr
  refine GoR.nil ?_
  refine Go1.seq ?_
  refine Go1.region ?_
  refine GoR.op ((op_move rfl) _) rfl rfl ?_
  refine GoR.op ((op_move rfl) _) rfl rfl ?_
  refine GoR.op ((op_nilCheck rfl) _) rfl rfl ?_
  refine GoR.op ((op_fieldAddr Try.underlying72 rfl ti70 rfl (by decide)) _) rfl rfl ?_
  refine GoR.op ((oblk (i := 10) 8 hO rfl rfl Try.underlying70 rfl rfl) _ (Same.refl _)) rfl rfl ?_
  refine GoR.op ((op_move rfl) _) rfl rfl ?_
  have hobt := obuild (r := Rp.str) (n := 1) (parts := [(0, .string (gstr (chr (IntKind.i32.wrap ((97 : Int) + (k3_548 : Int))))))]) (vs := [.string (gstr (chr (IntKind.i32.wrap ((97 : Int) + (k3_548 : Int)))))]) (xs := [chr (IntKind.i32.wrap ((97 : Int) + (k3_548 : Int)))]) rfl Try.underlying70 ti9 hO (by decide) (by kernel_rfl) (Els.cons rfl ⟨rfl, (chr_le _)⟩ (Els.nil _ _ _) (by simp [mx])) rfl
  obtain ⟨Nd, Nf, nv, Gs, KL, Dv⟩ := hobt
  refine GoR.op (Dv rfl) rfl rfl ?_
  replace cB := cB.ch nv.ch
  replace cF := cF.ch nv.ch
  replace cG := cG.ch nv.ch
  replace cL := cL.ch nv.ch
  replace iW := iW.ch nv.ch
  replace fV := fV.ch nv.ch
  replace eA := eA.ch nv.ch
  replace bc := bc.ch nv.ch
  replace hO := nv.own
  replace c5 := c5.ch nv.ch
  replace d4 := d4.ch nv.ch
  replace en := en.ch nv.ch
  replace fH := fH.ch nv.ch
  replace iN := iN.ch nv.ch
  replace hB := hB.trans nv.fr
  have hobt := freeze 0 hO rfl Gs
  obtain ⟨hO1, qV, k8, Gt⟩ := hobt
  dsimp only [eS, eZ] at hO1 qV k8
  replace c5 := c5.ch qV
  replace d4 := d4.ch qV
  replace en := en.ch qV
  replace fH := fH.ch qV
  replace iN := iN.ch qV
  replace cB := cB.ch qV
  replace cF := cF.ch qV
  replace cG := cG.ch qV
  replace cL := cL.ch qV
  replace iW := iW.ch qV
  replace fV := fV.ch qV
  replace eA := eA.ch qV
  replace bc := bc.ch qV
  replace hB := hB.trans (Owns.dropFr _ _ 0)
  dsimp only [eS, eZ] at hB
  replace hO := hO1; clear hO1
  obtain ⟨JB, H⟩ := H
  have hobt := oapp Try.underlying70 ti9 rfl 3 hO rfl cL k8 Gt JB (by decide)
  obtain ⟨Ng, y7, y8, Gu, mT, mH, Dw⟩ := hobt
  dsimp only [sS, sZ] at mT mH
  refine GoR.op (Dw (by exact rfl) (by exact rfl)) rfl rfl ?_
  replace cB := cB.ch mT.ch
  replace cF := cF.ch mT.ch
  replace cG := cG.ch mT.ch
  replace iW := iW.ch mT.ch
  replace fV := fV.ch mT.ch
  replace eA := eA.ch mT.ch
  replace bc := bc.ch mT.ch
  replace hO := mT.own
  replace c5 := c5.ch mT.ch
  replace d4 := d4.ch mT.ch
  replace en := en.ch mT.ch
  replace fH := fH.ch mT.ch
  replace iN := iN.ch mT.ch
  replace k8 := k8.ch mT.ch
  replace hB := hB.trans mT.fr
  refine GoR.op ((op_nilCheck rfl) _) rfl rfl ?_
  refine GoR.op ((op_fieldAddr Try.underlying72 rfl ti70 rfl (by decide)) _) rfl rfl ?_
  have hobt := oblkSt2 (v := .slice y7 (ja + 1) y8) (i := 10) (cs' := #[.int .i64 ((ix a0 (0 : Int)).length : Int), .bool true, .slice p35 n37 c36, .slice vQ (jd + 1) vR, .slice wY (jc + 1) wZ, .slice x8 (jb + 1) x9, .slice none 0 0, .slice jN i8 jO, .int .i64 (0 : Int), .map (some B4), .slice y7 (ja + 1) y8, .slice jP i9 jQ, .slice kh iR ki]) 8 hO rfl rfl rfl rfl
  obtain ⟨Nh, lO, Dx⟩ := hobt
  dsimp only [sS, sZ] at lO
  refine GoR.op (Dx Try.underlying70 rfl ti70 (by exact rfl) (by exact rfl)) rfl rfl ?_
  replace cB := cB.ch lO.ch
  replace cF := cF.ch lO.ch
  replace cG := cG.ch lO.ch
  replace mH := mH.ch lO.ch
  replace iW := iW.ch lO.ch
  replace fV := fV.ch lO.ch
  replace eA := eA.ch lO.ch
  replace bc := bc.ch lO.ch
  replace hO := lO.own
  replace c5 := c5.ch lO.ch
  replace d4 := d4.ch lO.ch
  replace en := en.ch lO.ch
  replace fH := fH.ch lO.ch
  replace iN := iN.ch lO.ch
  replace k8 := k8.ch lO.ch
  replace hB := hB.trans lO.fr
  refine GoR.nil ?_
  refine Go1.seq ?_
  refine Go1.cut [(0, .pointer (some ⟨B10, 0, none⟩)), (5, .int .i64 (0 : Int)), (13, .int .i64 (d_585.length : Int))] ⟨rfl, rfl, rfl, trivial⟩ ?_
  intro σ _
  refine Go1.region ?_
  refine GoR.op ((op_move rfl) _) rfl rfl ?_
  refine GoR.op ((op_move rfl) _) rfl rfl ?_
  refine GoR.op ((op_nilCheck rfl) _) rfl rfl ?_
  refine GoR.op ((op_fieldAddr Try.underlying72 rfl ti26 rfl (by decide)) _) rfl rfl ?_
  refine GoR.op ((oblk (i := 11) 8 hO rfl rfl Try.underlying26 rfl rfl) _ (Same.refl _)) rfl rfl ?_
  refine GoR.op ((op_move rfl) _) rfl rfl ?_
  have hobt := obuild (r := Rp.int .i64) (n := 1) (parts := [(0, .int .i64 (0 : Int))]) (vs := [.int .i64 (0 : Int)]) (xs := [(0 : Int)]) rfl Try.underlying26 ti3 hO (by decide) (by kernel_rfl) (Els.cons rfl rfl (Els.nil _ _ _) (by simp [mx])) rfl
  obtain ⟨Ni, Nj, mU, Gv, KM, Dy⟩ := hobt
  refine GoR.op (Dy rfl) rfl rfl ?_
  replace cB := cB.ch mU.ch
  replace cF := cF.ch mU.ch
  replace cG := cG.ch mU.ch
  replace mH := mH.ch mU.ch
  replace iW := iW.ch mU.ch
  replace fV := fV.ch mU.ch
  replace eA := eA.ch mU.ch
  replace bc := bc.ch mU.ch
  replace hO := mU.own
  replace c5 := c5.ch mU.ch
  replace d4 := d4.ch mU.ch
  replace en := en.ch mU.ch
  replace fH := fH.ch mU.ch
  replace iN := iN.ch mU.ch
  replace k8 := k8.ch mU.ch
  replace hB := hB.trans mU.fr
  have hobt := freeze 0 hO rfl Gv
  obtain ⟨hO1, px, qW, Gw⟩ := hobt
  dsimp only [eS, eZ] at hO1 px qW
  replace c5 := c5.ch px
  replace d4 := d4.ch px
  replace en := en.ch px
  replace fH := fH.ch px
  replace iN := iN.ch px
  replace k8 := k8.ch px
  replace cB := cB.ch px
  replace cF := cF.ch px
  replace cG := cG.ch px
  replace mH := mH.ch px
  replace iW := iW.ch px
  replace fV := fV.ch px
  replace eA := eA.ch px
  replace bc := bc.ch px
  replace hB := hB.trans (Owns.dropFr _ _ 0)
  dsimp only [eS, eZ] at hB
  replace hO := hO1; clear hO1
  obtain ⟨JC, H⟩ := H
  have hobt := oapp Try.underlying26 ti3 rfl 2 hO rfl cG qW Gw JC (by decide)
  obtain ⟨Nk, Ab, Ac, Gx, lP, sm, Dz⟩ := hobt
  dsimp only [sS, sZ] at lP sm
  refine GoR.op (Dz (by exact rfl) (by exact rfl)) rfl rfl ?_
  replace cB := cB.ch lP.ch
  replace cF := cF.ch lP.ch
  replace mH := mH.ch lP.ch
  replace iW := iW.ch lP.ch
  replace fV := fV.ch lP.ch
  replace eA := eA.ch lP.ch
  replace bc := bc.ch lP.ch
  replace hO := lP.own
  replace c5 := c5.ch lP.ch
  replace d4 := d4.ch lP.ch
  replace en := en.ch lP.ch
  replace fH := fH.ch lP.ch
  replace iN := iN.ch lP.ch
  replace k8 := k8.ch lP.ch
  replace qW := qW.ch lP.ch
  replace hB := hB.trans lP.fr
  refine GoR.op ((op_nilCheck rfl) _) rfl rfl ?_
  refine GoR.op ((op_fieldAddr Try.underlying72 rfl ti26 rfl (by decide)) _) rfl rfl ?_
  have hobt := oblkSt2 (v := .slice Ab (i9 + 1) Ac) (i := 11) (cs' := #[.int .i64 ((ix a0 (0 : Int)).length : Int), .bool true, .slice p35 n37 c36, .slice vQ (jd + 1) vR, .slice wY (jc + 1) wZ, .slice x8 (jb + 1) x9, .slice none 0 0, .slice jN i8 jO, .int .i64 (0 : Int), .map (some B4), .slice y7 (ja + 1) y8, .slice Ab (i9 + 1) Ac, .slice kh iR ki]) 8 hO rfl rfl rfl rfl
  obtain ⟨Nl, li, DA⟩ := hobt
  dsimp only [sS, sZ] at li
  refine GoR.op (DA Try.underlying26 rfl ti26 (by exact rfl) (by exact rfl)) rfl rfl ?_
  replace cB := cB.ch li.ch
  replace cF := cF.ch li.ch
  replace sm := sm.ch li.ch
  replace mH := mH.ch li.ch
  replace iW := iW.ch li.ch
  replace fV := fV.ch li.ch
  replace eA := eA.ch li.ch
  replace bc := bc.ch li.ch
  replace hO := li.own
  replace c5 := c5.ch li.ch
  replace d4 := d4.ch li.ch
  replace en := en.ch li.ch
  replace fH := fH.ch li.ch
  replace iN := iN.ch li.ch
  replace k8 := k8.ch li.ch
  replace qW := qW.ch li.ch
  replace hB := hB.trans li.fr
  refine GoR.nil ?_
  refine Go1.seq ?_
  refine Go1.region ?_
  refine GoR.op ((op_move rfl) _) rfl rfl ?_
  refine GoR.op ((op_assign rfl) _) rfl rfl ?_
  refine GoR.nil ?_
  refine Go1.ret1V Try.func65 rfl (show _ = .int .i64 (d_585.length : Int) from rfl) ?_
  refine hR670 _ _ ?_
  refine GoR.op ((op_assign rfl) _) rfl rfl ?_
  refine GoR.nil ?_
  refine Go1.region ?_
  refine GoR.op ((op_move rfl) _) rfl rfl ?_
  refine GoR.op ((op_move rfl) _) rfl rfl ?_
  refine GoR.op ((op_nilCheck rfl) _) rfl rfl ?_
  refine GoR.op ((op_fieldAddr Try.underlying72 rfl ti26 rfl (by decide)) _) rfl rfl ?_
  refine GoR.op ((oblk (i := 12) 8 hO rfl rfl Try.underlying26 rfl rfl) _ (Same.refl _)) rfl rfl ?_
  refine GoR.op ((op_move rfl) _) rfl rfl ?_
  have hobt := obuild (r := Rp.int .i64) (n := 1) (parts := [(0, .int .i64 (d_585.length : Int))]) (vs := [.int .i64 (d_585.length : Int)]) (xs := [(d_585.length : Int)]) rfl Try.underlying26 ti3 hO (by decide) (by kernel_rfl) (Els.cons rfl rfl (Els.nil _ _ _) (by simp [mx])) rfl
  obtain ⟨Nm, Nn, lQ, Gy, KN, DB⟩ := hobt
  refine GoR.op (DB rfl) rfl rfl ?_
  replace cB := cB.ch lQ.ch
  replace cF := cF.ch lQ.ch
  replace sm := sm.ch lQ.ch
  replace mH := mH.ch lQ.ch
  replace iW := iW.ch lQ.ch
  replace fV := fV.ch lQ.ch
  replace eA := eA.ch lQ.ch
  replace bc := bc.ch lQ.ch
  replace hO := lQ.own
  replace c5 := c5.ch lQ.ch
  replace d4 := d4.ch lQ.ch
  replace en := en.ch lQ.ch
  replace fH := fH.ch lQ.ch
  replace iN := iN.ch lQ.ch
  replace k8 := k8.ch lQ.ch
  replace qW := qW.ch lQ.ch
  replace hB := hB.trans lQ.fr
  have hobt := freeze 0 hO rfl Gy
  obtain ⟨hO1, oq, we, Gz⟩ := hobt
  dsimp only [eS, eZ] at hO1 oq we
  replace c5 := c5.ch oq
  replace d4 := d4.ch oq
  replace en := en.ch oq
  replace fH := fH.ch oq
  replace iN := iN.ch oq
  replace k8 := k8.ch oq
  replace qW := qW.ch oq
  replace cB := cB.ch oq
  replace cF := cF.ch oq
  replace sm := sm.ch oq
  replace mH := mH.ch oq
  replace iW := iW.ch oq
  replace fV := fV.ch oq
  replace eA := eA.ch oq
  replace bc := bc.ch oq
  replace hB := hB.trans (Owns.dropFr _ _ 0)
  dsimp only [eS, eZ] at hB
  replace hO := hO1; clear hO1
  obtain ⟨JD, H⟩ := H
  have hobt := oapp Try.underlying26 ti3 rfl 0 hO rfl cB we Gz JD (by decide)
  obtain ⟨Np, Bu, Bv, GA, lj, yM, DD⟩ := hobt
  dsimp only [sS, sZ] at lj yM
  refine GoR.op (DD (by exact rfl) (by exact rfl)) rfl rfl ?_
  replace cF := cF.ch lj.ch
  replace sm := sm.ch lj.ch
  replace mH := mH.ch lj.ch
  replace iW := iW.ch lj.ch
  replace fV := fV.ch lj.ch
  replace eA := eA.ch lj.ch
  replace bc := bc.ch lj.ch
  replace hO := lj.own
  replace c5 := c5.ch lj.ch
  replace d4 := d4.ch lj.ch
  replace en := en.ch lj.ch
  replace fH := fH.ch lj.ch
  replace iN := iN.ch lj.ch
  replace k8 := k8.ch lj.ch
  replace qW := qW.ch lj.ch
  replace we := we.ch lj.ch
  replace hB := hB.trans lj.fr
  refine GoR.op ((op_nilCheck rfl) _) rfl rfl ?_
  refine GoR.op ((op_fieldAddr Try.underlying72 rfl ti26 rfl (by decide)) _) rfl rfl ?_
  have hobt := oblkSt2 (v := .slice Bu (iR + 1) Bv) (i := 12) (cs' := #[.int .i64 ((ix a0 (0 : Int)).length : Int), .bool true, .slice p35 n37 c36, .slice vQ (jd + 1) vR, .slice wY (jc + 1) wZ, .slice x8 (jb + 1) x9, .slice none 0 0, .slice jN i8 jO, .int .i64 (0 : Int), .map (some B4), .slice y7 (ja + 1) y8, .slice Ab (i9 + 1) Ac, .slice Bu (iR + 1) Bv]) 8 hO rfl rfl rfl rfl
  obtain ⟨Nq, kx, DE⟩ := hobt
  dsimp only [sS, sZ] at kx
  refine GoR.op (DE Try.underlying26 rfl ti26 (by exact rfl) (by exact rfl)) rfl rfl ?_
  replace yM := yM.ch kx.ch
  replace cF := cF.ch kx.ch
  replace sm := sm.ch kx.ch
  replace mH := mH.ch kx.ch
  replace iW := iW.ch kx.ch
  replace fV := fV.ch kx.ch
  replace eA := eA.ch kx.ch
  replace bc := bc.ch kx.ch
  replace hO := kx.own
  replace c5 := c5.ch kx.ch
  replace d4 := d4.ch kx.ch
  replace en := en.ch kx.ch
  replace fH := fH.ch kx.ch
  replace iN := iN.ch kx.ch
  replace k8 := k8.ch kx.ch
  replace qW := qW.ch kx.ch
  replace we := we.ch kx.ch
  replace hB := hB.trans kx.fr
  refine GoR.nil ?_
  refine Go1.inBlock ?_
  refine Go1.cut [(6, .pointer (some ⟨B10, 0, none⟩)), (9, .int .i64 (0 : Int)), (85, .slice p35 n37 c36), (86, .int .i64 (d_32.length : Int)), (87, .int .i64 (k3_548 : Int))] ⟨rfl, rfl, rfl, rfl, rfl, trivial⟩ ?_
  intro σ _
  refine Go1.region ?_
  refine GoR.op ((op_add rfl rfl (wrap_i64 (natbd x7 bc.bd))) _) rfl rfl ?_
  refine GoR.op ((op_move rfl) _) rfl rfl ?_
  refine GoR.nil ?_
  exact hX3 _ H _ _ ⟨iR + 1, Bu, Bv, GA, i8, jN, jO, po, i9 + 1, Ab, Ac, Gx, ja + 1, y7, y8, Gu, jb + 1, x8, x9, Gr, jc + 1, wY, wZ, Gn, jd + 1, vQ, vR, Gk, ⟨rfl, rfl, rfl, rfl, rfl, trivial⟩, hO, yM, cF, sm, mH, iW, fV, eA, bc, hB⟩
 replace H := ifn x7 H
 refine GoR.op ((fun w => opB (op_lss rfl rfl w) (decide_eq_false x7)) _) rfl rfl ?_
 refine GoR.nil ?_
 refine Go1.seq ?_
 refine Go1.condF rfl rfl ?_
 refine Go1.exit rfl ?_
 refine Go1.seq ?_
 refine Go1.region ?_
 refine GoR.op ((op_move rfl) _) rfl rfl ?_
 refine GoR.op ((op_assign rfl) _) rfl rfl ?_
 refine GoR.op ((op_assign rfl) _) rfl rfl ?_
 refine GoR.nil ?_
 have rZ := Stp.nil (e := 26) (r := 1) hO
 replace cB := cB.ch rZ.ch
 replace cF := cF.ch rZ.ch
 replace cG := cG.ch rZ.ch
 replace cL := cL.ch rZ.ch
 replace db := db.ch rZ.ch
 replace dq := dq.ch rZ.ch
 replace dF := dF.ch rZ.ch
 replace bc := bc.ch rZ.ch
 replace hO := rZ.own
 replace hB := hB.trans rZ.fr
 have kz := Els.nil (Rp.sl (Rp.int .i64)) (bl (.row 26 1 none 0 0 [] :: [.row 3 1 kh iR ki qT, .row 39 2 jN i8 jO po, .row 3 1 jP i9 jQ pp, .row 9 1 kj ja kl pq, .row 3 1 ku jb kw pr, .row 3 1 kV jc kW pt, .row 26 1 lC jd lD pv, .row 26 1 p35 n37 c36 fQ, .blk B10 (.cells #[.int .i64 ((ix a0 (0 : Int)).length : Int), .bool true, .slice p35 n37 c36, .slice lC jd lD, .slice kV jc kW, .slice ku jb kw, .slice none 0 0, .slice jN i8 jO, .int .i64 (0 : Int), .map (some B4), .slice kj ja kl, .slice jP i9 jQ, .slice kh iR ki] 72 (0, 0)), .any (mapE (fun a : List UInt8 => Value.string (gstr a)) (fun a : Int => Value.int .i64 a) B4 m3_591)]) ++ A) Js
 have qm := Stp.front 10 hO rfl
 dsimp only [eS, eZ] at qm
 replace kz := kz.ch qm.ch
 replace cB := cB.ch qm.ch
 replace cF := cF.ch qm.ch
 replace cG := cG.ch qm.ch
 replace cL := cL.ch qm.ch
 replace db := db.ch qm.ch
 replace dq := dq.ch qm.ch
 replace dF := dF.ch qm.ch
 replace bc := bc.ch qm.ch
 replace hO := qm.own
 replace hB := hB.trans qm.fr
 have qn := Stp.front 2 hO rfl
 dsimp only [eS, eZ] at qn
 replace kz := kz.ch qn.ch
 replace cB := cB.ch qn.ch
 replace cF := cF.ch qn.ch
 replace cG := cG.ch qn.ch
 replace cL := cL.ch qn.ch
 replace db := db.ch qn.ch
 replace dq := dq.ch qn.ch
 replace dF := dF.ch qn.ch
 replace bc := bc.ch qn.ch
 replace hO := qn.own
 replace hB := hB.trans qn.fr
 have qo := Stp.front 4 hO rfl
 dsimp only [eS, eZ] at qo
 replace cB := cB.ch qo.ch
 replace kz := kz.ch qo.ch
 replace cF := cF.ch qo.ch
 replace cG := cG.ch qo.ch
 replace cL := cL.ch qo.ch
 replace db := db.ch qo.ch
 replace dq := dq.ch qo.ch
 replace dF := dF.ch qo.ch
 replace bc := bc.ch qo.ch
 replace hO := qo.own
 replace hB := hB.trans qo.fr
 have qp := Stp.front 5 hO rfl
 dsimp only [eS, eZ] at qp
 replace cG := cG.ch qp.ch
 replace cB := cB.ch qp.ch
 replace kz := kz.ch qp.ch
 replace cF := cF.ch qp.ch
 replace cL := cL.ch qp.ch
 replace db := db.ch qp.ch
 replace dq := dq.ch qp.ch
 replace dF := dF.ch qp.ch
 replace bc := bc.ch qp.ch
 replace hO := qp.own
 replace hB := hB.trans qp.fr
 have qq := Stp.front 5 hO rfl
 dsimp only [eS, eZ] at qq
 replace cL := cL.ch qq.ch
 replace cG := cG.ch qq.ch
 replace cB := cB.ch qq.ch
 replace kz := kz.ch qq.ch
 replace cF := cF.ch qq.ch
 replace db := db.ch qq.ch
 replace dq := dq.ch qq.ch
 replace dF := dF.ch qq.ch
 replace bc := bc.ch qq.ch
 replace hO := qq.own
 replace hB := hB.trans qq.fr
 have qr := Stp.front 5 hO rfl
 dsimp only [eS, eZ] at qr
 replace cF := cF.ch qr.ch
 replace cL := cL.ch qr.ch
 replace cG := cG.ch qr.ch
 replace cB := cB.ch qr.ch
 replace kz := kz.ch qr.ch
 replace db := db.ch qr.ch
 replace dq := dq.ch qr.ch
 replace dF := dF.ch qr.ch
 replace bc := bc.ch qr.ch
 replace hO := qr.own
 replace hB := hB.trans qr.fr
 have qs := Stp.front 6 hO rfl
 dsimp only [eS, eZ] at qs
 replace kz := kz.ch qs.ch
 replace cF := cF.ch qs.ch
 replace cL := cL.ch qs.ch
 replace cG := cG.ch qs.ch
 replace cB := cB.ch qs.ch
 replace db := db.ch qs.ch
 replace dq := dq.ch qs.ch
 replace dF := dF.ch qs.ch
 replace bc := bc.ch qs.ch
 replace hO := qs.own
 replace hB := hB.trans qs.fr
 have qt := Stp.front 7 hO rfl
 dsimp only [eS, eZ] at qt
 replace db := db.ch qt.ch
 replace kz := kz.ch qt.ch
 replace cF := cF.ch qt.ch
 replace cL := cL.ch qt.ch
 replace cG := cG.ch qt.ch
 replace cB := cB.ch qt.ch
 replace dq := dq.ch qt.ch
 replace dF := dF.ch qt.ch
 replace bc := bc.ch qt.ch
 replace hO := qt.own
 replace hB := hB.trans qt.fr
 have qu := Stp.front 8 hO rfl
 dsimp only [eS, eZ] at qu
 replace dq := dq.ch qu.ch
 replace db := db.ch qu.ch
 replace kz := kz.ch qu.ch
 replace cF := cF.ch qu.ch
 replace cL := cL.ch qu.ch
 replace cG := cG.ch qu.ch
 replace cB := cB.ch qu.ch
 replace dF := dF.ch qu.ch
 replace bc := bc.ch qu.ch
 replace hO := qu.own
 replace hB := hB.trans qu.fr
 have qv := Stp.front 9 hO rfl
 dsimp only [eS, eZ] at qv
 replace dF := dF.ch qv.ch
 replace dq := dq.ch qv.ch
 replace db := db.ch qv.ch
 replace kz := kz.ch qv.ch
 replace cF := cF.ch qv.ch
 replace cL := cL.ch qv.ch
 replace cG := cG.ch qv.ch
 replace cB := cB.ch qv.ch
 replace bc := bc.ch qv.ch
 replace hO := qv.own
 replace hB := hB.trans qv.fr
 have qw := Stp.front 10 hO rfl
 dsimp only [eS, eZ] at qw
 replace bc := bc.ch qw.ch
 replace dF := dF.ch qw.ch
 replace dq := dq.ch qw.ch
 replace db := db.ch qw.ch
 replace kz := kz.ch qw.ch
 replace cF := cF.ch qw.ch
 replace cL := cL.ch qw.ch
 replace cG := cG.ch qw.ch
 replace cB := cB.ch qw.ch
 replace hO := qw.own
 replace hB := hB.trans qw.fr
 refine Go1.ret2 Try.func49 rfl ?_
 exact Or.inr ⟨(⟨(⟨((ix a0 (0 : Int)).length : Int), true, d_32, d_585, d_579, d_573, ([] : List (List Int)), d_555, (0 : Int)⟩ : Enum), m3_591, d_567, d_561, d_549⟩ : run), ((0 : Int)), B10, n37, p35, c36, fQ, jd, lC, lD, pv, jc, kV, kW, pt, jb, ku, kw, pr, 0, none, 0, ([]), i8, jN, jO, po, B4, ja, kj, kl, pq, i9, jP, jQ, pp, iR, kh, ki, qT, rfl, hB.same, hO, bc, dF, dq, db, kz, cF, cL, cG, cB, H⟩
theorem body37 : Body Try.prog 37 := ⟨Try.f37, Try.func37, rfl, by kernel_rfl⟩
theorem walk_trans_Compose {A : List Nat} {w0 : World} {p_f : Option Addr} {c_f : Nat} {p_g : Option Addr} {c_g : Nat} {f : List Int} {g : List Int} (hA : ∀ b ∈ A, b < w0.heap.size) (h_f : ISl (Rp.int .i64) A w0 p_f c_f f) (h_g : ISl (Rp.int .i64) A w0 p_g c_g g) {K : List Int → Prop} (H : trans_Compose f g K) :
    CallsV Try.prog 37 #[.slice p_f f.length c_f, .slice p_g g.length c_g] w0 (fun v w' => ∃ (r0 : List Int), ∃ (tG : Option Addr), ∃ (tH : Nat), v = .slice tG r0.length tH ∧ Same w0 w' ∧ ISl (Rp.int .i64) A w' tG tH r0 ∧ K r0) := by
 refine CallsV.of (l := [.slice p_f f.length c_f, .slice p_g g.length c_g]) Try.func37 rfl Try.ntmps37 rfl ?_
 have hO := Owns.start hA
 have hB := Fr.refl (bl []) w0
 unfold trans_Compose at H
 replace h_f := h_f.ch (Ch.start A w0)
 replace h_g := h_g.ch (Ch.start A w0)
 refine Go1.seq ?_
 refine Go1.region ?_
 refine GoR.op ((op_assign rfl) _) rfl rfl ?_
 refine GoR.nil ?_
 refine Go1.seq ?_
 refine Go1.seq ?_
 refine Go1.region ?_
 refine GoR.op ((op_move rfl) _) rfl rfl ?_
 refine GoR.op ((op_len Try.underlying26 rfl) _) rfl rfl ?_
 replace H := H h_f.bd
 refine GoR.op ((op_move rfl) _) rfl rfl ?_
 refine GoR.op ((op_len Try.underlying26 rfl) _) rfl rfl ?_
 replace H := H h_g.bd
 by_cases h1 : (f.length : Int) = (g.length : Int)
 ·replace H := ifp h1 H
  refine GoR.op ((fun w => opB (op_neq rfl rfl w) (ndT h1)) _) rfl rfl ?_
  refine GoR.op ((op_move rfl) _) rfl rfl ?_
  refine GoR.op ((op_move rfl) _) rfl rfl ?_
  refine GoR.call (op_call body60 rfl (walk_trans_Valid hO.lt h_f H)) rfl rfl ?_
  rintro v6 w3 ⟨r2, rfl, hs4, H⟩
  have pz := Stp.same hO hs4
  replace hO := pz.own
  replace h_f := h_f.ch pz.ch
  replace h_g := h_g.ch pz.ch
  replace hB := hB.trans pz.fr
  cases r2
  ·replace H := ifn Bool.false_ne_true H
   refine GoR.op ((op_not rfl) _) rfl rfl ?_
   refine GoR.op ((op_pickF rfl rfl rfl) _) rfl rfl ?_
   refine GoR.op ((op_move rfl) _) rfl rfl ?_
   refine GoR.pass rfl rfl ?_
   refine GoR.pass rfl rfl ?_
   refine GoR.pass rfl rfl ?_
   refine GoR.op ((op_pickT rfl rfl rfl) _) rfl rfl ?_
   refine GoR.nil ?_
   refine Go1.condT rfl rfl ?_
   refine Go1.seq ?_
   refine Go1.region ?_
   refine GoR.op ((op_assign rfl) _) rfl rfl ?_
   refine GoR.nil ?_
   refine Go1.ret1 Try.func37 rfl ?_
   exact ⟨([] : List Int), none, 0, rfl, hB.same, (ISl.null _ _ _), H⟩
  replace H := ifp rfl H
  refine GoR.op ((op_not rfl) _) rfl rfl ?_
  refine GoR.op ((op_pickF rfl rfl rfl) _) rfl rfl ?_
  refine GoR.op ((op_move rfl) _) rfl rfl ?_
  refine GoR.op ((op_move rfl) _) rfl rfl ?_
  refine GoR.call (op_call body60 rfl (walk_trans_Valid hO.lt h_g H)) rfl rfl ?_
  rintro v12 w9 ⟨r8, rfl, Cs, H⟩
  have yN := Stp.same hO Cs
  replace hO := yN.own
  replace h_f := h_f.ch yN.ch
  replace h_g := h_g.ch yN.ch
  replace hB := hB.trans yN.fr
  cases r8
  ·replace H := ifn Bool.false_ne_true H
   refine GoR.op ((op_not rfl) _) rfl rfl ?_
   refine GoR.op ((op_pickF rfl rfl rfl) _) rfl rfl ?_
   refine GoR.nil ?_
   refine Go1.condT rfl rfl ?_
   refine Go1.seq ?_
   refine Go1.cut [] trivial ?_
   intro σ _
   refine Go1.region ?_
   refine GoR.op ((op_assign rfl) _) rfl rfl ?_
   refine GoR.nil ?_
   refine Go1.ret1 Try.func37 rfl ?_
   exact ⟨([] : List Int), none, 0, rfl, hB.same, (ISl.null _ _ _), H⟩
  replace H := ifp rfl H
  refine GoR.op ((op_not rfl) _) rfl rfl ?_
  refine GoR.op ((op_pickF rfl rfl rfl) _) rfl rfl ?_
  refine GoR.nil ?_
  refine Go1.condF rfl rfl ?_
  refine Go1.skip ?_
  refine Go1.seq ?_
  refine Go1.region ?_
  refine GoR.op ((op_move rfl) _) rfl rfl ?_
  refine GoR.op ((op_len Try.underlying26 rfl) _) rfl rfl ?_
  obtain ⟨h21, H⟩ := H
  obtain ⟨h22, H⟩ := H
  have hobt := omake (n := (f.length : Int)) (r := Rp.int .i64) (d := (0 : Int)) Try.underlying26 ti3 (fun _ _ => rfl) rfl hO h21 h22 (by decide)
  obtain ⟨w14, p15, wR, tT, dj, DF, zN⟩ := hobt
  refine GoR.op (zN rfl rfl) rfl rfl ?_
  replace hO := tT.own
  replace h_f := h_f.ch tT.ch
  replace h_g := h_g.ch tT.ch
  replace hB := hB.trans tT.fr
  refine GoR.op ((op_assign rfl) _) rfl rfl ?_
  refine GoR.nil ?_
  refine Go1.seq ?_
  refine Go1.seq ?_
  refine Go1.region ?_
  refine GoR.op ((op_move rfl) _) rfl rfl ?_
  refine GoR.op ((op_len Try.underlying26 rfl) _) rfl rfl ?_
  refine GoR.op ((op_move rfl) _) rfl rfl ?_
  refine GoR.nil ?_
  refine Go1.block ?_
  refine Go1.loopW (S := Nat × List Int) (fun s σ w => match s with | (k1_25, h1_26) => ∃ (w4 : List Value), agrees σ [(1, .slice p_g g.length c_g), (5, .slice p15 f.length f.length), (26, .slice p_f f.length c_f), (27, .int .i64 (f.length : Int)), (28, .int .i64 (k1_25 : Int))] ∧ Owns w0.heap.size w [.row 3 1 p15 f.length f.length w4] A ∧ Els (Rp.int .i64) (bl [.row 3 1 p15 f.length f.length w4] ++ A) w w4 h1_26 ∧ ISl (Rp.int .i64) (bl [.row 3 1 p15 f.length f.length w4] ++ A) w p_f c_f f ∧ ISl (Rp.int .i64) (bl [.row 3 1 p15 f.length f.length w4] ++ A) w p_g c_g g ∧ Fr (bl []) w0 (bl [.row 3 1 p15 f.length f.length w4]) w) H ⟨wR, ⟨rfl, rfl, rfl, rfl, rfl, trivial⟩, hO, dj, h_f, h_g, hB⟩ ?_
  intro X1
  refine prE fun k1_25 => fun h1_26 => ?_
  intro H hX1 σ w24
  refine exE fun w4 => andE fun hag => andE fun hO => andE fun Ad => andE fun h_f => andE fun h_g => fun hB => ?_
  dsimp only at H
  refine Go1.keep [(1, .slice p_g g.length c_g), (5, .slice p15 f.length f.length), (26, .slice p_f f.length c_f), (27, .int .i64 (f.length : Int)), (28, .int .i64 (k1_25 : Int))] hag ?_
  refine Go1.seq ?_
  refine Go1.region ?_
  by_cases h29 : (k1_25 : Int) < (f.length : Int)
  ·replace H := ifp h29 H
   refine GoR.op ((fun w => opB (op_lss rfl rfl w) (decide_eq_true h29)) _) rfl rfl ?_
   refine GoR.nil ?_
   refine Go1.seq ?_
   refine Go1.condT rfl rfl ?_
   refine Go1.skip ?_
   refine Go1.seq ?_
   refine Go1.block ?_
   refine Go1.seq ?_
   refine Go1.region ?_
   refine GoR.op ((op_move rfl) _) rfl rfl ?_
   obtain ⟨h30, H⟩ := H
   obtain ⟨h31, H⟩ := H
   refine GoR.op ((op_index Try.underlying26 ti3 rfl rfl h30 h31 (h_f.some_ h30 h31)) _) rfl rfl ?_
   refine GoR.op ((ldInt h_f h30 h31 Try.underlying3 rfl rfl) _ (Same.refl _)) rfl rfl ?_
   refine GoR.op ((op_assign rfl) _) rfl rfl ?_
   refine GoR.op ((op_assign rfl) _) rfl rfl ?_
   refine GoR.nil ?_
   refine Go1.region ?_
   refine GoR.op ((op_move rfl) _) rfl rfl ?_
   refine GoR.op ((op_move rfl) _) rfl rfl ?_
   refine GoR.op ((op_move rfl) _) rfl rfl ?_
   refine GoR.op ((op_move rfl) _) rfl rfl ?_
   obtain ⟨h32, H⟩ := H
   obtain ⟨h33, H⟩ := H
   refine GoR.op ((op_index Try.underlying26 ti3 rfl rfl h32 h33 (h_g.some_ h32 h33)) _) rfl rfl ?_
   refine GoR.op ((ldInt h_g h32 h33 Try.underlying3 rfl rfl) _ (Same.refl _)) rfl rfl ?_
   obtain ⟨h34, H⟩ := H
   obtain ⟨h35, H⟩ := H
   refine GoR.op ((op_index Try.underlying26 ti3 rfl rfl h34 (ltn (Ad.neq hO 0 rfl) h35) (Ad.psome hO 0 rfl h34 h35)) _) rfl rfl ?_
   have hobt := ost (r := Rp.int .i64) rfl 0 hO rfl Ad h34 h35 (v := .int .i64 (ix g (ix f (k1_25 : Int)))) (u := (ix g (ix f (k1_25 : Int)))) rfl rfl
   obtain ⟨w36, JE, yO, JF, GB⟩ := hobt
   refine GoR.op (GB Try.underlying3 rfl ti3 (by exact rfl) (by exact rfl)) rfl rfl ?_
   replace hO := yO.own
   replace h_f := h_f.ch yO.ch
   replace h_g := h_g.ch yO.ch
   replace hB := hB.trans yO.fr
   refine GoR.nil ?_
   refine Go1.inBlock ?_
   refine Go1.region ?_
   refine GoR.op ((op_add rfl rfl (wrap_i64 (natbd h29 h_f.bd))) _) rfl rfl ?_
   refine GoR.op ((op_move rfl) _) rfl rfl ?_
   refine GoR.nil ?_
   exact hX1 _ H _ _ ⟨JE, ⟨rfl, rfl, rfl, rfl, rfl, trivial⟩, hO, JF, h_f, h_g, hB⟩
  replace H := ifn h29 H
  refine GoR.op ((fun w => opB (op_lss rfl rfl w) (decide_eq_false h29)) _) rfl rfl ?_
  refine GoR.nil ?_
  refine Go1.seq ?_
  refine Go1.condF rfl rfl ?_
  refine Go1.exit rfl ?_
  refine Go1.seq ?_
  refine Go1.region ?_
  refine GoR.op ((op_move rfl) _) rfl rfl ?_
  refine GoR.op ((op_assign rfl) _) rfl rfl ?_
  refine GoR.nil ?_
  have hobt := freeze 0 hO rfl Ad
  obtain ⟨hO1, DG, JG, JH⟩ := hobt
  replace h_f := h_f.ch DG
  replace h_g := h_g.ch DG
  replace hB := hB.trans (Owns.dropFr _ _ 0)
  replace hO := hO1; clear hO1
  refine Go1.ret1 Try.func37 rfl ?_
  exact ⟨h1_26, p15, f.length, (congrArg (fun nn => Value.slice p15 nn f.length) JH), hB.same, (JG.ch (Ch.weak _ _ _)), H⟩
 replace H := ifn h1 H
 refine GoR.op ((fun w => opB (op_neq rfl rfl w) (ndF h1)) _) rfl rfl ?_
 refine GoR.op ((op_move rfl) _) rfl rfl ?_
 refine GoR.pass rfl rfl ?_
 refine GoR.pass rfl rfl ?_
 refine GoR.pass rfl rfl ?_
 refine GoR.op ((op_pickT rfl rfl rfl) _) rfl rfl ?_
 refine GoR.op ((op_move rfl) _) rfl rfl ?_
 refine GoR.pass rfl rfl ?_
 refine GoR.pass rfl rfl ?_
 refine GoR.pass rfl rfl ?_
 refine GoR.op ((op_pickT rfl rfl rfl) _) rfl rfl ?_
 refine GoR.nil ?_
 refine Go1.condT rfl rfl ?_
 refine Go1.seq ?_
 refine Go1.cut [] trivial ?_
 intro σ _
 refine Go1.region ?_
 refine GoR.op ((op_assign rfl) _) rfl rfl ?_
 refine GoR.nil ?_
 refine Go1.ret1 Try.func37 rfl ?_
 exact ⟨([] : List Int), none, 0, rfl, hB.same, (ISl.null _ _ _), H⟩
end Sg
