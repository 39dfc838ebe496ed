/- The walks: each call keeps to its plain transformer. Printed by walkgen.py. -/
import Derived.Test.YtjegjjdfgefkoaaTi
namespace Sg
open Go Go.RowKit Go.Proofs
set_option linter.unusedVariables false
set_option linter.unusedSimpArgs false
set_option maxRecDepth 100000
set_option maxHeartbeats 4000000
theorem body48 : Body Try.prog 48 := ⟨Try.f48, Try.func48, rfl, by kernel_rfl⟩
theorem walk_ref11_Valid {A : List Nat} {w0 : World} {p_f : Option Addr} {c_f : Nat} {f : List Int} (hA : ∀ b ∈ A, b < w0.heap.size) (h_f : ISl (Rp.int .i64) A w0 p_f c_f f) {K : Bool → Prop} (H : ref11_Valid f K) :
    CallsV Try.prog 48 #[.slice p_f f.length c_f] w0 (fun v w' => ∃ (r0 : Bool), v = .bool r0 ∧ Same w0 w' ∧ K r0) := by
 refine CallsV.of (l := [.slice p_f f.length c_f]) Try.func48 rfl Try.ntmps48 rfl ?_
 have hO := Owns.start hA
 have hB := Fr.refl (bl []) w0
 unfold ref11_Valid at H
 replace h_f := h_f.ch (Ch.start A w0)
 refine Go1.seq ?_
 refine Go1.region ?_
 refine GoR.op ((op_assign rfl) _) rfl rfl ?_
 refine GoR.nil ?_
 refine Go1.seq ?_
 refine Go1.seq ?_
 refine Go1.region ?_
 refine GoR.op ((op_move rfl) _) rfl rfl ?_
 refine GoR.op ((op_len Try.underlying26 rfl) _) rfl rfl ?_
 replace H := H h_f.bd
 by_cases h1 : (f.length : Int) < (1 : Int)
 ·replace H := ifp h1 H
  refine GoR.op ((fun w => opB (op_lss rfl rfl w) (decide_eq_true h1)) _) rfl rfl ?_
  refine GoR.op ((op_move rfl) _) rfl rfl ?_
  refine GoR.pass rfl rfl ?_
  refine GoR.pass rfl rfl ?_
  refine GoR.pass rfl rfl ?_
  refine GoR.op ((op_pickT rfl rfl rfl) _) rfl rfl ?_
  refine GoR.nil ?_
  refine Go1.condT rfl rfl ?_
  refine Go1.seq ?_
  refine Go1.region ?_
  refine GoR.op ((op_assign rfl) _) rfl rfl ?_
  refine GoR.nil ?_
  refine Go1.ret1 Try.func48 rfl ?_
  exact ⟨false, rfl, hB.same, H⟩
 replace H := ifn h1 H
 refine GoR.op ((fun w => opB (op_lss rfl rfl w) (decide_eq_false h1)) _) rfl rfl ?_
 refine GoR.op ((op_move rfl) _) rfl rfl ?_
 refine GoR.op ((op_move rfl) _) rfl rfl ?_
 refine GoR.op ((op_len Try.underlying26 rfl) _) rfl rfl ?_
 by_cases h2 : (32 : Int) < (f.length : Int)
 ·replace H := ifp h2 H
  refine GoR.op ((fun w => opB (op_gtr rfl rfl w) (decide_eq_true h2)) _) rfl rfl ?_
  refine GoR.op ((op_pickF rfl rfl rfl) _) rfl rfl ?_
  refine GoR.nil ?_
  refine Go1.condT rfl rfl ?_
  refine Go1.seq ?_
  refine Go1.region ?_
  refine GoR.op ((op_assign rfl) _) rfl rfl ?_
  refine GoR.nil ?_
  refine Go1.ret1 Try.func48 rfl ?_
  exact ⟨false, rfl, hB.same, H⟩
 replace H := ifn h2 H
 refine GoR.op ((fun w => opB (op_gtr rfl rfl w) (decide_eq_false h2)) _) rfl rfl ?_
 refine GoR.op ((op_pickF rfl rfl rfl) _) rfl rfl ?_
 refine GoR.nil ?_
 refine Go1.condF rfl rfl ?_
 refine Go1.skip ?_
 refine Go1.seq ?_
 refine Go1.seq ?_
 refine Go1.region ?_
 refine GoR.op ((op_move rfl) _) rfl rfl ?_
 refine GoR.op ((op_len Try.underlying26 rfl) _) rfl rfl ?_
 refine GoR.op ((op_move rfl) _) rfl rfl ?_
 refine GoR.nil ?_
 refine Go1.block ?_
 refine Go1.loopW (S := Nat) (fun s σ w => agrees σ [(0, .slice p_f f.length c_f), (13, .slice p_f f.length c_f), (14, .int .i64 (f.length : Int)), (15, .int .i64 (s : Int))] ∧ Owns w0.heap.size w [] A ∧ ISl (Rp.int .i64) (bl [] ++ A) w p_f c_f f ∧ Fr (bl []) w0 (bl []) w) H ⟨⟨rfl, rfl, rfl, rfl, trivial⟩, hO, h_f, hB⟩ ?_
 intro X1 k1_4
 intro H hX1 σ w3
 refine andE fun hag => andE fun hO => andE fun h_f => fun hB => ?_
 refine Go1.keep [(0, .slice p_f f.length c_f), (13, .slice p_f f.length c_f), (14, .int .i64 (f.length : Int)), (15, .int .i64 (k1_4 : Int))] hag ?_
 refine Go1.seq ?_
 refine Go1.region ?_
 by_cases h5 : (k1_4 : Int) < (f.length : Int)
 ·replace H := ifp h5 H
  refine GoR.op ((fun w => opB (op_lss rfl rfl w) (decide_eq_true h5)) _) rfl rfl ?_
  refine GoR.nil ?_
  refine Go1.seq ?_
  refine Go1.condT rfl rfl ?_
  refine Go1.skip ?_
  refine Go1.seq ?_
  refine Go1.block ?_
  refine Go1.seq ?_
  refine Go1.region ?_
  obtain ⟨h6, H⟩ := H
  obtain ⟨h7, H⟩ := H
  refine GoR.op ((op_index Try.underlying26 ti3 rfl rfl h6 h7 (h_f.some_ h6 h7)) _) rfl rfl ?_
  refine GoR.op ((ldInt h_f h6 h7 Try.underlying3 rfl rfl) _ (Same.refl _)) rfl rfl ?_
  refine GoR.op ((op_assign rfl) _) rfl rfl ?_
  refine GoR.nil ?_
  refine Go1.seq ?_
  refine Go1.region ?_
  refine GoR.op ((op_move rfl) _) rfl rfl ?_
  by_cases h8 : (ix f (k1_4 : Int)) < (0 : Int)
  ·replace H := ifp h8 H
   refine GoR.op ((fun w => opB (op_lss rfl rfl w) (decide_eq_true h8)) _) rfl rfl ?_
   refine GoR.op ((op_move rfl) _) rfl rfl ?_
   refine GoR.pass rfl rfl ?_
   refine GoR.pass rfl rfl ?_
   refine GoR.pass rfl rfl ?_
   refine GoR.pass rfl rfl ?_
   refine GoR.op ((op_pickT rfl rfl rfl) _) rfl rfl ?_
   refine GoR.nil ?_
   refine Go1.condT rfl rfl ?_
   refine Go1.seq ?_
   refine Go1.region ?_
   refine GoR.op ((op_assign rfl) _) rfl rfl ?_
   refine GoR.nil ?_
   refine Go1.ret1 Try.func48 rfl ?_
   exact ⟨false, rfl, hB.same, H⟩
  replace H := ifn h8 H
  refine GoR.op ((fun w => opB (op_lss rfl rfl w) (decide_eq_false h8)) _) rfl rfl ?_
  refine GoR.op ((op_move rfl) _) rfl rfl ?_
  refine GoR.op ((op_move rfl) _) rfl rfl ?_
  refine GoR.op ((op_move rfl) _) rfl rfl ?_
  refine GoR.op ((op_len Try.underlying26 rfl) _) rfl rfl ?_
  by_cases h9 : (f.length : Int) ≤ (ix f (k1_4 : Int))
  ·replace H := ifp h9 H
   refine GoR.op ((fun w => opB (op_geq rfl rfl w) (decide_eq_true h9)) _) rfl rfl ?_
   refine GoR.op ((op_pickF rfl rfl rfl) _) rfl rfl ?_
   refine GoR.nil ?_
   refine Go1.condT rfl rfl ?_
   refine Go1.seq ?_
   refine Go1.cut [] trivial ?_
   intro σ _
   refine Go1.region ?_
   refine GoR.op ((op_assign rfl) _) rfl rfl ?_
   refine GoR.nil ?_
   refine Go1.ret1 Try.func48 rfl ?_
   exact ⟨false, rfl, hB.same, H⟩
  replace H := ifn h9 H
  refine GoR.op ((fun w => opB (op_geq rfl rfl w) (decide_eq_false h9)) _) rfl rfl ?_
  refine GoR.op ((op_pickF rfl rfl rfl) _) rfl rfl ?_
  refine GoR.nil ?_
  refine Go1.condF rfl rfl ?_
  refine Go1.skip ?_
  refine Go1.inBlock ?_
  refine Go1.region ?_
  refine GoR.op ((op_add rfl rfl (wrap_i64 (natbd h5 h_f.bd))) _) rfl rfl ?_
  refine GoR.op ((op_move rfl) _) rfl rfl ?_
  refine GoR.nil ?_
  exact hX1 _ H _ _ ⟨⟨rfl, rfl, rfl, rfl, trivial⟩, hO, h_f, hB⟩
 replace H := ifn h5 H
 refine GoR.op ((fun w => opB (op_lss rfl rfl w) (decide_eq_false h5)) _) rfl rfl ?_
 refine GoR.nil ?_
 refine Go1.seq ?_
 refine Go1.condF rfl rfl ?_
 refine Go1.exit rfl ?_
 refine Go1.seq ?_
 refine Go1.region ?_
 refine GoR.op ((op_assign rfl) _) rfl rfl ?_
 refine GoR.nil ?_
 refine Go1.ret1 Try.func48 rfl ?_
 exact ⟨true, rfl, hB.same, H⟩
theorem body14 : Body Try.prog 14 := ⟨Try.f14, Try.func14, rfl, by kernel_rfl⟩
theorem walk_ref11_MayGens {A : List Nat} {w0 : World} {eF : Option Addr} {eG : Nat} {gens : List (List Int)} (hA : ∀ b ∈ A, b < w0.heap.size) (ck : ISl (Rp.sl (Rp.int .i64)) A w0 eF eG gens) {K : Bool → Prop} (H : ref11_MayGens gens K) :
    CallsV Try.prog 14 #[.slice eF gens.length eG] w0 (fun v w' => ∃ (r0 : Bool), v = .bool r0 ∧ Same w0 w' ∧ K r0) := by
 refine CallsV.of (l := [.slice eF gens.length eG]) Try.func14 rfl Try.ntmps14 rfl ?_
 have hO := Owns.start hA
 have hB := Fr.refl (bl []) w0
 unfold ref11_MayGens at H
 replace ck := ck.ch (Ch.start A w0)
 refine Go1.seq ?_
 refine Go1.region ?_
 refine GoR.op ((op_assign rfl) _) rfl rfl ?_
 refine GoR.nil ?_
 refine Go1.seq ?_
 refine Go1.seq ?_
 refine Go1.region ?_
 refine GoR.op ((op_move rfl) _) rfl rfl ?_
 refine GoR.op ((op_len Try.underlying22 rfl) _) rfl rfl ?_
 replace H := H ck.bd
 by_cases h1 : (gens.length : Int) < (1 : Int)
 ·replace H := ifp h1 H
  refine GoR.op ((fun w => opB (op_lss rfl rfl w) (decide_eq_true h1)) _) rfl rfl ?_
  refine GoR.op ((op_move rfl) _) rfl rfl ?_
  refine GoR.pass rfl rfl ?_
  refine GoR.pass rfl rfl ?_
  refine GoR.pass rfl rfl ?_
  refine GoR.op ((op_pickT rfl rfl rfl) _) rfl rfl ?_
  refine GoR.nil ?_
  refine Go1.condT rfl rfl ?_
  refine Go1.seq ?_
  refine Go1.region ?_
  refine GoR.op ((op_assign rfl) _) rfl rfl ?_
  refine GoR.nil ?_
  refine Go1.ret1 Try.func14 rfl ?_
  exact ⟨false, rfl, hB.same, H⟩
 replace H := ifn h1 H
 refine GoR.op ((fun w => opB (op_lss rfl rfl w) (decide_eq_false h1)) _) rfl rfl ?_
 refine GoR.op ((op_move rfl) _) rfl rfl ?_
 refine GoR.op ((op_move rfl) _) rfl rfl ?_
 refine GoR.op ((op_len Try.underlying22 rfl) _) rfl rfl ?_
 by_cases h2 : (6 : Int) < (gens.length : Int)
 ·replace H := ifp h2 H
  refine GoR.op ((fun w => opB (op_gtr rfl rfl w) (decide_eq_true h2)) _) rfl rfl ?_
  refine GoR.op ((op_pickF rfl rfl rfl) _) rfl rfl ?_
  refine GoR.nil ?_
  refine Go1.condT rfl rfl ?_
  refine Go1.seq ?_
  refine Go1.region ?_
  refine GoR.op ((op_assign rfl) _) rfl rfl ?_
  refine GoR.nil ?_
  refine Go1.ret1 Try.func14 rfl ?_
  exact ⟨false, rfl, hB.same, H⟩
 replace H := ifn h2 H
 refine GoR.op ((fun w => opB (op_gtr rfl rfl w) (decide_eq_false h2)) _) rfl rfl ?_
 refine GoR.op ((op_pickF rfl rfl rfl) _) rfl rfl ?_
 refine GoR.nil ?_
 refine Go1.condF rfl rfl ?_
 refine Go1.skip ?_
 refine Go1.seq ?_
 refine Go1.seq ?_
 refine Go1.region ?_
 refine GoR.op ((op_move rfl) _) rfl rfl ?_
 refine GoR.op ((op_len Try.underlying22 rfl) _) rfl rfl ?_
 refine GoR.op ((op_move rfl) _) rfl rfl ?_
 refine GoR.nil ?_
 refine Go1.block ?_
 refine Go1.loopW (S := Nat) (fun s σ w => agrees σ [(0, .slice eF gens.length eG), (13, .slice eF gens.length eG), (14, .int .i64 (gens.length : Int)), (15, .int .i64 (s : Int))] ∧ Owns w0.heap.size w [] A ∧ ISl (Rp.sl (Rp.int .i64)) (bl [] ++ A) w eF eG gens ∧ Fr (bl []) w0 (bl []) w) H ⟨⟨rfl, rfl, rfl, rfl, trivial⟩, hO, ck, hB⟩ ?_
 intro X1 k1_4
 intro H hX1 σ w3
 refine andE fun hag => andE fun hO => andE fun ck => fun hB => ?_
 refine Go1.keep [(0, .slice eF gens.length eG), (13, .slice eF gens.length eG), (14, .int .i64 (gens.length : Int)), (15, .int .i64 (k1_4 : Int))] hag ?_
 refine Go1.seq ?_
 refine Go1.region ?_
 by_cases h5 : (k1_4 : Int) < (gens.length : Int)
 ·replace H := ifp h5 H
  refine GoR.op ((fun w => opB (op_lss rfl rfl w) (decide_eq_true h5)) _) rfl rfl ?_
  refine GoR.nil ?_
  refine Go1.seq ?_
  refine Go1.condT rfl rfl ?_
  refine Go1.skip ?_
  refine Go1.seq ?_
  refine Go1.block ?_
  refine Go1.seq ?_
  refine Go1.region ?_
  obtain ⟨h6, H⟩ := H
  obtain ⟨h7, H⟩ := H
  refine GoR.op ((op_index Try.underlying22 ti26 rfl rfl h6 h7 (ck.some_ h6 h7)) _) rfl rfl ?_
  have hobt := ldSl ck h6 h7
  obtain ⟨p8, c9, xh, FT⟩ := hobt
  refine GoR.op ((FT Try.underlying26 rfl rfl) _ (Same.refl _)) rfl rfl ?_
  refine GoR.op ((op_assign rfl) _) rfl rfl ?_
  refine GoR.nil ?_
  refine Go1.seq ?_
  refine Go1.region ?_
  refine GoR.op ((op_move rfl) _) rfl rfl ?_
  refine GoR.call (op_call body48 rfl (walk_ref11_Valid hO.lt xh H)) rfl rfl ?_
  rintro v16 w13 ⟨r12, rfl, FU, H⟩
  have sj := Stp.same hO FU
  replace hO := sj.own
  replace ck := ck.ch sj.ch
  replace xh := xh.ch sj.ch
  replace hB := hB.trans sj.fr
  cases r12
  ·replace H := ifn Bool.false_ne_true H
   refine GoR.op ((op_not rfl) _) rfl rfl ?_
   refine GoR.op ((op_move rfl) _) rfl rfl ?_
   refine GoR.pass rfl rfl ?_
   refine GoR.pass rfl rfl ?_
   refine GoR.pass rfl rfl ?_
   refine GoR.pass rfl rfl ?_
   refine GoR.pass rfl rfl ?_
   refine GoR.pass rfl rfl ?_
   refine GoR.pass rfl rfl ?_
   refine GoR.op ((op_pickT rfl rfl rfl) _) rfl rfl ?_
   refine GoR.nil ?_
   refine Go1.condT rfl rfl ?_
   refine Go1.seq ?_
   refine Go1.region ?_
   refine GoR.op ((op_assign rfl) _) rfl rfl ?_
   refine GoR.nil ?_
   refine Go1.ret1 Try.func14 rfl ?_
   exact ⟨false, rfl, hB.same, H⟩
  replace H := ifp rfl H
  refine GoR.op ((op_not rfl) _) rfl rfl ?_
  refine GoR.op ((op_move rfl) _) rfl rfl ?_
  refine GoR.op ((op_move rfl) _) rfl rfl ?_
  refine GoR.op ((op_len Try.underlying26 rfl) _) rfl rfl ?_
  replace H := H xh.bd
  refine GoR.op ((op_move rfl) _) rfl rfl ?_
  obtain ⟨h18, H⟩ := H
  obtain ⟨h19, H⟩ := H
  refine GoR.op ((op_index Try.underlying22 ti26 rfl rfl h18 h19 (ck.some_ h18 h19)) _) rfl rfl ?_
  have hobt := ldSl ck h18 h19
  obtain ⟨p20, c21, FV, FW⟩ := hobt
  refine GoR.op ((FW Try.underlying26 rfl rfl) _ (Same.refl _)) rfl rfl ?_
  refine GoR.op ((op_len Try.underlying26 rfl) _) rfl rfl ?_
  replace H := H FV.bd
  by_cases h24 : ((ix gens (k1_4 : Int)).length : Int) = ((ix gens (0 : Int)).length : Int)
  ·replace H := ifp h24 H
   refine GoR.op ((fun w => opB (op_neq rfl rfl w) (ndT h24)) _) rfl rfl ?_
   refine GoR.op ((op_pickF rfl rfl rfl) _) rfl rfl ?_
   refine GoR.nil ?_
   refine Go1.condF rfl rfl ?_
   refine Go1.skip ?_
   refine Go1.inBlock ?_
   refine Go1.cut [(0, .slice eF gens.length eG), (13, .slice eF gens.length eG), (14, .int .i64 (gens.length : Int)), (15, .int .i64 (k1_4 : Int))] ⟨rfl, rfl, rfl, rfl, trivial⟩ ?_
   intro σ _
   refine Go1.region ?_
   refine GoR.op ((op_add rfl rfl (wrap_i64 (natbd h5 ck.bd))) _) rfl rfl ?_
   refine GoR.op ((op_move rfl) _) rfl rfl ?_
   refine GoR.nil ?_
   exact hX1 _ H _ _ ⟨⟨rfl, rfl, rfl, rfl, trivial⟩, hO, ck, hB⟩
  replace H := ifn h24 H
  refine GoR.op ((fun w => opB (op_neq rfl rfl w) (ndF h24)) _) rfl rfl ?_
  refine GoR.op ((op_pickF rfl rfl rfl) _) rfl rfl ?_
  refine GoR.nil ?_
  refine Go1.condT rfl rfl ?_
  refine Go1.seq ?_
  refine Go1.region ?_
  refine GoR.op ((op_assign rfl) _) rfl rfl ?_
  refine GoR.nil ?_
  refine Go1.ret1 Try.func14 rfl ?_
  exact ⟨false, rfl, hB.same, H⟩
 replace H := ifn h5 H
 refine GoR.op ((fun w => opB (op_lss rfl rfl w) (decide_eq_false h5)) _) rfl rfl ?_
 refine GoR.nil ?_
 refine Go1.seq ?_
 refine Go1.condF rfl rfl ?_
 refine Go1.exit rfl ?_
 refine Go1.seq ?_
 refine Go1.region ?_
 refine GoR.op ((op_assign rfl) _) rfl rfl ?_
 refine GoR.nil ?_
 refine Go1.ret1 Try.func14 rfl ?_
 exact ⟨true, rfl, hB.same, H⟩
theorem body15 : Body Try.prog 15 := ⟨Try.f15, Try.func15, rfl, by kernel_rfl⟩
theorem walk_law12_little {A : List Nat} {w0 : World} {eF : Option Addr} {eG : Nat} {gens : List (List Int)} {points : Int} {letters : Int} (hA : ∀ b ∈ A, b < w0.heap.size) (ck : ISl (Rp.sl (Rp.int .i64)) A w0 eF eG gens) {K : Bool → Prop} (H : law12_little gens points letters K) :
    CallsV Try.prog 15 #[.slice eF gens.length eG, .int .i64 points, .int .i64 letters] w0 (fun v w' => ∃ (r0 : Bool), v = .bool r0 ∧ Same w0 w' ∧ K r0) := by
 refine CallsV.of (l := [.slice eF gens.length eG, .int .i64 points, .int .i64 letters]) Try.func15 rfl Try.ntmps15 rfl ?_
 have hO := Owns.start hA
 have hB := Fr.refl (bl []) w0
 unfold law12_little at H
 replace ck := ck.ch (Ch.start A w0)
 refine Go1.seq ?_
 refine Go1.region ?_
 refine GoR.op ((op_assign rfl) _) rfl rfl ?_
 refine GoR.nil ?_
 refine Go1.seq ?_
 refine Go1.region ?_
 refine GoR.op ((op_move rfl) _) rfl rfl ?_
 refine GoR.call (op_call body14 rfl (walk_ref11_MayGens hO.lt ck H)) rfl rfl ?_
 rintro v5 w2 ⟨r1, rfl, hs3, H⟩
 have sT := Stp.same hO hs3
 replace hO := sT.own
 replace ck := ck.ch sT.ch
 replace hB := hB.trans sT.fr
 refine GoR.op ((op_move rfl) _) rfl rfl ?_
 cases r1
 ·replace H := ifn Bool.false_ne_true H
  refine GoR.pass rfl rfl ?_
  refine GoR.pass rfl rfl ?_
  refine GoR.pass rfl rfl ?_
  refine GoR.pass rfl rfl ?_
  refine GoR.op ((op_pickF rfl rfl rfl) _) rfl rfl ?_
  refine GoR.op ((op_move rfl) _) rfl rfl ?_
  refine GoR.pass rfl rfl ?_
  refine GoR.pass rfl rfl ?_
  refine GoR.pass rfl rfl ?_
  refine GoR.pass rfl rfl ?_
  refine GoR.pass rfl rfl ?_
  refine GoR.pass rfl rfl ?_
  refine GoR.op ((op_pickF rfl rfl rfl) _) rfl rfl ?_
  refine GoR.op ((op_assign rfl) _) rfl rfl ?_
  refine GoR.nil ?_
  refine Go1.ret1 Try.func15 rfl ?_
  exact ⟨false, rfl, hB.same, H⟩
 replace H := ifp rfl H
 refine GoR.op ((op_move rfl) _) rfl rfl ?_
 refine GoR.op ((op_len Try.underlying22 rfl) _) rfl rfl ?_
 replace H := H ck.bd
 refine GoR.op ((op_move rfl) _) rfl rfl ?_
 by_cases h7 : (gens.length : Int) ≤ letters
 ·replace H := ifp h7 H
  refine GoR.op ((fun w => opB (op_leq rfl rfl w) (decide_eq_true h7)) _) rfl rfl ?_
  refine GoR.op ((op_pickT rfl rfl rfl) _) rfl rfl ?_
  refine GoR.op ((op_move rfl) _) rfl rfl ?_
  refine GoR.op ((op_move rfl) _) rfl rfl ?_
  obtain ⟨h8, H⟩ := H
  obtain ⟨h9, H⟩ := H
  refine GoR.op ((op_index Try.underlying22 ti26 rfl rfl h8 h9 (ck.some_ h8 h9)) _) rfl rfl ?_
  have hobt := ldSl ck h8 h9
  obtain ⟨p10, c11, FX, FY⟩ := hobt
  refine GoR.op ((FY Try.underlying26 rfl rfl) _ (Same.refl _)) rfl rfl ?_
  refine GoR.op ((op_len Try.underlying26 rfl) _) rfl rfl ?_
  replace H := H FX.bd
  refine GoR.op ((op_move rfl) _) rfl rfl ?_
  by_cases h14 : ((ix gens (0 : Int)).length : Int) ≤ points
  ·replace H := ifp h14 H
   refine GoR.op ((fun w => opB (op_leq rfl rfl w) (decide_eq_true h14)) _) rfl rfl ?_
   refine GoR.op ((op_pickT rfl rfl rfl) _) rfl rfl ?_
   refine GoR.op ((op_assign rfl) _) rfl rfl ?_
   refine GoR.nil ?_
   refine Go1.ret1 Try.func15 rfl ?_
   exact ⟨true, rfl, hB.same, H⟩
  replace H := ifn h14 H
  refine GoR.op ((fun w => opB (op_leq rfl rfl w) (decide_eq_false h14)) _) rfl rfl ?_
  refine GoR.op ((op_pickT rfl rfl rfl) _) rfl rfl ?_
  refine GoR.op ((op_assign rfl) _) rfl rfl ?_
  refine GoR.nil ?_
  refine Go1.ret1 Try.func15 rfl ?_
  exact ⟨false, rfl, hB.same, H⟩
 replace H := ifn h7 H
 refine GoR.op ((fun w => opB (op_leq rfl rfl w) (decide_eq_false h7)) _) rfl rfl ?_
 refine GoR.op ((op_pickT rfl rfl rfl) _) rfl rfl ?_
 refine GoR.op ((op_move rfl) _) rfl rfl ?_
 refine GoR.pass rfl rfl ?_
 refine GoR.pass rfl rfl ?_
 refine GoR.pass rfl rfl ?_
 refine GoR.pass rfl rfl ?_
 refine GoR.pass rfl rfl ?_
 refine GoR.pass rfl rfl ?_
 refine GoR.op ((op_pickF rfl rfl rfl) _) rfl rfl ?_
 refine GoR.op ((op_assign rfl) _) rfl rfl ?_
 refine GoR.nil ?_
 refine Go1.ret1 Try.func15 rfl ?_
 exact ⟨false, rfl, hB.same, H⟩
theorem body60 : Body Try.prog 60 := ⟨Try.f60, Try.func60, rfl, by kernel_rfl⟩
theorem walk_trans_Valid {A : List Nat} {w0 : World} {p_f : Option Addr} {c_f : Nat} {f : List Int} (hA : ∀ b ∈ A, b < w0.heap.size) (h_f : ISl (Rp.int .i64) A w0 p_f c_f f) {K : Bool → Prop} (H : trans_Valid f K) :
    CallsV Try.prog 60 #[.slice p_f f.length c_f] w0 (fun v w' => ∃ (r0 : Bool), v = .bool r0 ∧ Same w0 w' ∧ K r0) := by
 refine CallsV.of (l := [.slice p_f f.length c_f]) Try.func60 rfl Try.ntmps60 rfl ?_
 have hO := Owns.start hA
 have hB := Fr.refl (bl []) w0
 unfold trans_Valid at H
 replace h_f := h_f.ch (Ch.start A w0)
 refine Go1.seq ?_
 refine Go1.region ?_
 refine GoR.op ((op_assign rfl) _) rfl rfl ?_
 refine GoR.nil ?_
 refine Go1.seq ?_
 refine Go1.seq ?_
 refine Go1.region ?_
 refine GoR.op ((op_move rfl) _) rfl rfl ?_
 refine GoR.op ((op_len Try.underlying26 rfl) _) rfl rfl ?_
 replace H := H h_f.bd
 by_cases h1 : (f.length : Int) < (1 : Int)
 ·replace H := ifp h1 H
  refine GoR.op ((fun w => opB (op_lss rfl rfl w) (decide_eq_true h1)) _) rfl rfl ?_
  refine GoR.op ((op_move rfl) _) rfl rfl ?_
  refine GoR.pass rfl rfl ?_
  refine GoR.pass rfl rfl ?_
  refine GoR.pass rfl rfl ?_
  refine GoR.op ((op_pickT rfl rfl rfl) _) rfl rfl ?_
  refine GoR.nil ?_
  refine Go1.condT rfl rfl ?_
  refine Go1.seq ?_
  refine Go1.region ?_
  refine GoR.op ((op_assign rfl) _) rfl rfl ?_
  refine GoR.nil ?_
  refine Go1.ret1 Try.func60 rfl ?_
  exact ⟨false, rfl, hB.same, H⟩
 replace H := ifn h1 H
 refine GoR.op ((fun w => opB (op_lss rfl rfl w) (decide_eq_false h1)) _) rfl rfl ?_
 refine GoR.op ((op_move rfl) _) rfl rfl ?_
 refine GoR.op ((op_move rfl) _) rfl rfl ?_
 refine GoR.op ((op_len Try.underlying26 rfl) _) rfl rfl ?_
 by_cases h2 : (32 : Int) < (f.length : Int)
 ·replace H := ifp h2 H
  refine GoR.op ((fun w => opB (op_gtr rfl rfl w) (decide_eq_true h2)) _) rfl rfl ?_
  refine GoR.op ((op_pickF rfl rfl rfl) _) rfl rfl ?_
  refine GoR.nil ?_
  refine Go1.condT rfl rfl ?_
  refine Go1.seq ?_
  refine Go1.region ?_
  refine GoR.op ((op_assign rfl) _) rfl rfl ?_
  refine GoR.nil ?_
  refine Go1.ret1 Try.func60 rfl ?_
  exact ⟨false, rfl, hB.same, H⟩
 replace H := ifn h2 H
 refine GoR.op ((fun w => opB (op_gtr rfl rfl w) (decide_eq_false h2)) _) rfl rfl ?_
 refine GoR.op ((op_pickF rfl rfl rfl) _) rfl rfl ?_
 refine GoR.nil ?_
 refine Go1.condF rfl rfl ?_
 refine Go1.skip ?_
 refine Go1.seq ?_
 refine Go1.seq ?_
 refine Go1.region ?_
 refine GoR.op ((op_move rfl) _) rfl rfl ?_
 refine GoR.op ((op_len Try.underlying26 rfl) _) rfl rfl ?_
 refine GoR.op ((op_move rfl) _) rfl rfl ?_
 refine GoR.nil ?_
 refine Go1.block ?_
 refine Go1.loopW (S := Nat) (fun s σ w => agrees σ [(0, .slice p_f f.length c_f), (13, .slice p_f f.length c_f), (14, .int .i64 (f.length : Int)), (15, .int .i64 (s : Int))] ∧ Owns w0.heap.size w [] A ∧ ISl (Rp.int .i64) (bl [] ++ A) w p_f c_f f ∧ Fr (bl []) w0 (bl []) w) H ⟨⟨rfl, rfl, rfl, rfl, trivial⟩, hO, h_f, hB⟩ ?_
 intro X1 k1_4
 intro H hX1 σ w3
 refine andE fun hag => andE fun hO => andE fun h_f => fun hB => ?_
 refine Go1.keep [(0, .slice p_f f.length c_f), (13, .slice p_f f.length c_f), (14, .int .i64 (f.length : Int)), (15, .int .i64 (k1_4 : Int))] hag ?_
 refine Go1.seq ?_
 refine Go1.region ?_
 by_cases h5 : (k1_4 : Int) < (f.length : Int)
 ·replace H := ifp h5 H
  refine GoR.op ((fun w => opB (op_lss rfl rfl w) (decide_eq_true h5)) _) rfl rfl ?_
  refine GoR.nil ?_
  refine Go1.seq ?_
  refine Go1.condT rfl rfl ?_
  refine Go1.skip ?_
  refine Go1.seq ?_
  refine Go1.block ?_
  refine Go1.seq ?_
  refine Go1.region ?_
  obtain ⟨h6, H⟩ := H
  obtain ⟨h7, H⟩ := H
  refine GoR.op ((op_index Try.underlying26 ti3 rfl rfl h6 h7 (h_f.some_ h6 h7)) _) rfl rfl ?_
  refine GoR.op ((ldInt h_f h6 h7 Try.underlying3 rfl rfl) _ (Same.refl _)) rfl rfl ?_
  refine GoR.op ((op_assign rfl) _) rfl rfl ?_
  refine GoR.nil ?_
  refine Go1.seq ?_
  refine Go1.region ?_
  refine GoR.op ((op_move rfl) _) rfl rfl ?_
  by_cases h8 : (ix f (k1_4 : Int)) < (0 : Int)
  ·replace H := ifp h8 H
   refine GoR.op ((fun w => opB (op_lss rfl rfl w) (decide_eq_true h8)) _) rfl rfl ?_
   refine GoR.op ((op_move rfl) _) rfl rfl ?_
   refine GoR.pass rfl rfl ?_
   refine GoR.pass rfl rfl ?_
   refine GoR.pass rfl rfl ?_
   refine GoR.pass rfl rfl ?_
   refine GoR.op ((op_pickT rfl rfl rfl) _) rfl rfl ?_
   refine GoR.nil ?_
   refine Go1.condT rfl rfl ?_
   refine Go1.seq ?_
   refine Go1.region ?_
   refine GoR.op ((op_assign rfl) _) rfl rfl ?_
   refine GoR.nil ?_
   refine Go1.ret1 Try.func60 rfl ?_
   exact ⟨false, rfl, hB.same, H⟩
  replace H := ifn h8 H
  refine GoR.op ((fun w => opB (op_lss rfl rfl w) (decide_eq_false h8)) _) rfl rfl ?_
  refine GoR.op ((op_move rfl) _) rfl rfl ?_
  refine GoR.op ((op_move rfl) _) rfl rfl ?_
  refine GoR.op ((op_move rfl) _) rfl rfl ?_
  refine GoR.op ((op_len Try.underlying26 rfl) _) rfl rfl ?_
  by_cases h9 : (f.length : Int) ≤ (ix f (k1_4 : Int))
  ·replace H := ifp h9 H
   refine GoR.op ((fun w => opB (op_geq rfl rfl w) (decide_eq_true h9)) _) rfl rfl ?_
   refine GoR.op ((op_pickF rfl rfl rfl) _) rfl rfl ?_
   refine GoR.nil ?_
   refine Go1.condT rfl rfl ?_
   refine Go1.seq ?_
   refine Go1.cut [] trivial ?_
   intro σ _
   refine Go1.region ?_
   refine GoR.op ((op_assign rfl) _) rfl rfl ?_
   refine GoR.nil ?_
   refine Go1.ret1 Try.func60 rfl ?_
   exact ⟨false, rfl, hB.same, H⟩
  replace H := ifn h9 H
  refine GoR.op ((fun w => opB (op_geq rfl rfl w) (decide_eq_false h9)) _) rfl rfl ?_
  refine GoR.op ((op_pickF rfl rfl rfl) _) rfl rfl ?_
  refine GoR.nil ?_
  refine Go1.condF rfl rfl ?_
  refine Go1.skip ?_
  refine Go1.inBlock ?_
  refine Go1.region ?_
  refine GoR.op ((op_add rfl rfl (wrap_i64 (natbd h5 h_f.bd))) _) rfl rfl ?_
  refine GoR.op ((op_move rfl) _) rfl rfl ?_
  refine GoR.nil ?_
  exact hX1 _ H _ _ ⟨⟨rfl, rfl, rfl, rfl, trivial⟩, hO, h_f, hB⟩
 replace H := ifn h5 H
 refine GoR.op ((fun w => opB (op_lss rfl rfl w) (decide_eq_false h5)) _) rfl rfl ?_
 refine GoR.nil ?_
 refine Go1.seq ?_
 refine Go1.condF rfl rfl ?_
 refine Go1.exit rfl ?_
 refine Go1.seq ?_
 refine Go1.region ?_
 refine GoR.op ((op_assign rfl) _) rfl rfl ?_
 refine GoR.nil ?_
 refine Go1.ret1 Try.func60 rfl ?_
 exact ⟨true, rfl, hB.same, H⟩
theorem body64 : Body Try.prog 64 := ⟨Try.f64, Try.func64, rfl, by kernel_rfl⟩
theorem walk_slices_Clone_int {A : List Nat} {w0 : World} {p_s : Option Addr} {c_s : Nat} {s : List Int} (hA : ∀ b ∈ A, b < w0.heap.size) (h_s : ISl (Rp.int .i64) A w0 p_s c_s s) {K : List Int → Prop} (H : slices_Clone_int s K) :
    CallsV Try.prog 64 #[.slice p_s s.length c_s] w0 (fun v w' => ∃ (r0 : List Int), ∃ (yC : Nat), ∃ (sd : Option Addr), ∃ (se : Nat), ∃ (xi : List Value), v = .slice sd yC se ∧ Same w0 w' ∧ Owns w0.heap.size w' [.row 3 1 sd yC se xi] A ∧ Els (Rp.int .i64) (bl [.row 3 1 sd yC se xi] ++ A) w' xi r0 ∧ K r0) := by
 refine CallsV.of (l := [.slice p_s s.length c_s]) Try.func64 rfl Try.ntmps64 rfl ?_
 have hO := Owns.start hA
 have hB := Fr.refl (bl []) w0
 unfold slices_Clone_int at H
 replace h_s := h_s.ch (Ch.start A w0)
 refine Go1.seq ?_
 refine Go1.region ?_
 refine GoR.op ((op_assign rfl) _) rfl rfl ?_
 refine GoR.nil ?_
 refine Go1.seq ?_
 refine Go1.seq ?_
 refine Go1.region ?_
 refine GoR.op ((op_move rfl) _) rfl rfl ?_
 replace H := H p_s.isNone (fun h => h_s.nilD h)
 by_cases hz2 : p_s.isNone = true
 ·replace H := ifp hz2 H
  refine GoR.op ((fun w => opB (op_nilSlice Try.underlying26 rfl rfl w) (hz2)) _) rfl rfl ?_
  refine GoR.nil ?_
  refine Go1.condT rfl rfl ?_
  refine Go1.seq ?_
  refine Go1.region ?_
  refine GoR.op ((op_assign rfl) _) rfl rfl ?_
  refine GoR.nil ?_
  have nv := Stp.nil (e := 3) (r := 1) hO
  replace hO := nv.own
  replace h_s := h_s.ch nv.ch
  replace hB := hB.trans nv.fr
  have hE5 := Els.nil (Rp.int .i64) (bl (.row 3 1 none 0 0 [] :: []) ++ A) w0
  refine Go1.ret1 Try.func64 rfl ?_
  exact ⟨(([] : List Int)), 0, none, 0, ([]), rfl, hB.same, hO, hE5, H⟩
 ·replace H := ifn hz2 H
  refine GoR.op ((fun w => opB (op_nilSlice Try.underlying26 rfl rfl w) (Bool.eq_false_iff.2 hz2)) _) rfl rfl ?_
  refine GoR.nil ?_
  refine Go1.condF rfl rfl ?_
  refine Go1.skip ?_
  refine Go1.seq ?_
  refine Go1.region ?_
  have hobt := obuild (r := Rp.int .i64) (n := 0) (parts := []) (vs := []) (xs := ([] : List Int)) rfl Try.underlying26 ti3 hO (by decide) (by kernel_rfl) (Els.nil _ _ _) rfl
  obtain ⟨w6, p7, yD, hE9, zY, Cj⟩ := hobt
  refine GoR.op (Cj rfl) rfl rfl ?_
  replace hO := yD.own
  replace h_s := h_s.ch yD.ch
  replace hB := hB.trans yD.fr
  refine GoR.op ((op_move rfl) _) rfl rfl ?_
  obtain ⟨h13, H⟩ := H
  have hobt := oapp Try.underlying26 ti3 rfl 0 hO rfl hE9 h_s rfl h13 (by decide)
  obtain ⟨w14, p15, c16, lk, pS, FZ, xj⟩ := hobt
  refine GoR.op (xj (by exact rfl) (by exact rfl)) rfl rfl ?_
  replace hO := pS.own
  replace h_s := h_s.ch pS.ch
  replace hB := hB.trans pS.fr
  refine GoR.op ((op_assign rfl) _) rfl rfl ?_
  refine GoR.nil ?_
  refine Go1.ret1 Try.func64 rfl ?_
  exact ⟨((([] : List Int)) ++ s), (0 + s.length), p15, c16, lk, rfl, hB.same, hO, FZ, H⟩
theorem body62 : Body Try.prog 62 := ⟨Try.f62, Try.func62, rfl, by kernel_rfl⟩
theorem walk_trans_Identity {A : List Nat} {w0 : World} {n : Int} (hA : ∀ b ∈ A, b < w0.heap.size) {K : List Int → Prop} (H : trans_Identity n K) :
    CallsV Try.prog 62 #[.int .i64 n] w0 (fun v w' => ∃ (r0 : List Int), ∃ (sd : Option Addr), ∃ (se : Nat), v = .slice sd r0.length se ∧ Same w0 w' ∧ ISl (Rp.int .i64) A w' sd se r0 ∧ K r0) := by
 refine CallsV.of (l := [.int .i64 n]) Try.func62 rfl Try.ntmps62 rfl ?_
 have hO := Owns.start hA
 have hB := Fr.refl (bl []) w0
 unfold trans_Identity at H
 refine Go1.seq ?_
 refine Go1.region ?_
 refine GoR.op ((op_assign rfl) _) rfl rfl ?_
 refine GoR.nil ?_
 refine Go1.seq ?_
 refine Go1.seq ?_
 refine Go1.region ?_
 refine GoR.op ((op_move rfl) _) rfl rfl ?_
 by_cases h1 : n < (1 : Int)
 ·replace H := ifp h1 H
  refine GoR.op ((fun w => opB (op_lss rfl rfl w) (decide_eq_true h1)) _) rfl rfl ?_
  refine GoR.op ((op_move rfl) _) rfl rfl ?_
  refine GoR.pass rfl rfl ?_
  refine GoR.pass rfl rfl ?_
  refine GoR.op ((op_pickT rfl rfl rfl) _) rfl rfl ?_
  refine GoR.nil ?_
  refine Go1.condT rfl rfl ?_
  refine Go1.seq ?_
  refine Go1.region ?_
  refine GoR.op ((op_assign rfl) _) rfl rfl ?_
  refine GoR.nil ?_
  refine Go1.ret1 Try.func62 rfl ?_
  exact ⟨([] : List Int), none, 0, rfl, hB.same, (ISl.null _ _ _), H⟩
 replace H := ifn h1 H
 refine GoR.op ((fun w => opB (op_lss rfl rfl w) (decide_eq_false h1)) _) rfl rfl ?_
 refine GoR.op ((op_move rfl) _) rfl rfl ?_
 refine GoR.op ((op_move rfl) _) rfl rfl ?_
 by_cases h2 : (32 : Int) < n
 ·replace H := ifp h2 H
  refine GoR.op ((fun w => opB (op_gtr rfl rfl w) (decide_eq_true h2)) _) rfl rfl ?_
  refine GoR.op ((op_pickF rfl rfl rfl) _) rfl rfl ?_
  refine GoR.nil ?_
  refine Go1.condT rfl rfl ?_
  refine Go1.seq ?_
  refine Go1.region ?_
  refine GoR.op ((op_assign rfl) _) rfl rfl ?_
  refine GoR.nil ?_
  refine Go1.ret1 Try.func62 rfl ?_
  exact ⟨([] : List Int), none, 0, rfl, hB.same, (ISl.null _ _ _), H⟩
 replace H := ifn h2 H
 refine GoR.op ((fun w => opB (op_gtr rfl rfl w) (decide_eq_false h2)) _) rfl rfl ?_
 refine GoR.op ((op_pickF rfl rfl rfl) _) rfl rfl ?_
 refine GoR.nil ?_
 refine Go1.condF rfl rfl ?_
 refine Go1.skip ?_
 refine Go1.seq ?_
 refine Go1.region ?_
 refine GoR.op ((op_move rfl) _) rfl rfl ?_
 obtain ⟨h10, H⟩ := H
 obtain ⟨h11, H⟩ := H
 have hobt := omake (n := n) (r := Rp.int .i64) (d := (0 : Int)) Try.underlying26 ti3 (fun _ _ => rfl) rfl hO h10 h11 (by decide)
 obtain ⟨w3, p4, vs5, sT, hE7, hs8, F0⟩ := hobt
 refine GoR.op (F0 rfl rfl) rfl rfl ?_
 replace hO := sT.own
 replace hB := hB.trans sT.fr
 refine GoR.op ((op_assign rfl) _) rfl rfl ?_
 refine GoR.nil ?_
 refine Go1.seq ?_
 refine Go1.seq ?_
 refine Go1.region ?_
 refine GoR.op ((op_move rfl) _) rfl rfl ?_
 refine GoR.op ((op_lenN Try.underlying26 rfl (hE7.neq hO 0 rfl)) _) rfl rfl ?_
 refine GoR.op ((op_move rfl) _) rfl rfl ?_
 refine GoR.nil ?_
 refine Go1.block ?_
 refine Go1.loopW (S := Nat × List Int) (fun s σ w => match s with | (k1_14, f1_15) => ∃ (uE : List Value), agrees σ [(3, .slice p4 n.toNat n.toNat), (14, .int .i64 ((List.replicate n.toNat ((0 : Int))).length : Int)), (15, .int .i64 (k1_14 : Int))] ∧ Owns w0.heap.size w [.row 3 1 p4 n.toNat n.toNat uE] A ∧ Els (Rp.int .i64) (bl [.row 3 1 p4 n.toNat n.toNat uE] ++ A) w uE f1_15 ∧ Fr (bl []) w0 (bl [.row 3 1 p4 n.toNat n.toNat uE]) w) H ⟨vs5, ⟨rfl, rfl, rfl, trivial⟩, hO, hE7, hB⟩ ?_
 intro X1
 refine prE fun k1_14 => fun f1_15 => ?_
 intro H hX1 σ w13
 refine exE fun uE => andE fun hag => andE fun hO => andE fun xk => fun hB => ?_
 dsimp only at H
 refine Go1.keep [(3, .slice p4 n.toNat n.toNat), (14, .int .i64 ((List.replicate n.toNat ((0 : Int))).length : Int)), (15, .int .i64 (k1_14 : Int))] hag ?_
 refine Go1.seq ?_
 refine Go1.region ?_
 by_cases h18 : (k1_14 : Int) < ((List.replicate n.toNat ((0 : Int))).length : Int)
 ·replace H := ifp h18 H
  refine GoR.op ((fun w => opB (op_lss rfl rfl w) (decide_eq_true h18)) _) rfl rfl ?_
  refine GoR.nil ?_
  refine Go1.seq ?_
  refine Go1.condT rfl rfl ?_
  refine Go1.skip ?_
  refine Go1.seq ?_
  refine Go1.block ?_
  refine Go1.seq ?_
  refine Go1.region ?_
  refine GoR.op ((op_move rfl) _) rfl rfl ?_
  refine GoR.op ((op_assign rfl) _) rfl rfl ?_
  refine GoR.nil ?_
  refine Go1.region ?_
  refine GoR.op ((op_move rfl) _) rfl rfl ?_
  refine GoR.op ((op_move rfl) _) rfl rfl ?_
  refine GoR.op ((op_move rfl) _) rfl rfl ?_
  obtain ⟨h19, H⟩ := H
  obtain ⟨h20, H⟩ := H
  refine GoR.op ((op_index Try.underlying26 ti3 rfl rfl h19 (ltn (xk.neq hO 0 rfl) h20) (xk.psome hO 0 rfl h19 h20)) _) rfl rfl ?_
  have hobt := ost (r := Rp.int .i64) rfl 0 hO rfl xk h19 h20 (v := .int .i64 (k1_14 : Int)) (u := (k1_14 : Int)) rfl rfl
  obtain ⟨w21, yE, ie, bW, xl⟩ := hobt
  refine GoR.op (xl Try.underlying3 rfl ti3 (by exact rfl) (by exact rfl)) rfl rfl ?_
  replace hO := ie.own
  replace hB := hB.trans ie.fr
  refine GoR.nil ?_
  refine Go1.inBlock ?_
  refine Go1.region ?_
  obtain ⟨h26, H⟩ := H
  refine GoR.op ((op_add rfl rfl (wrap_i64 h26)) _) rfl rfl ?_
  refine GoR.op ((op_move rfl) _) rfl rfl ?_
  refine GoR.nil ?_
  exact hX1 _ H _ _ ⟨yE, ⟨rfl, rfl, rfl, trivial⟩, hO, bW, hB⟩
 replace H := ifn h18 H
 refine GoR.op ((fun w => opB (op_lss rfl rfl w) (decide_eq_false h18)) _) rfl rfl ?_
 refine GoR.nil ?_
 refine Go1.seq ?_
 refine Go1.condF rfl rfl ?_
 refine Go1.exit rfl ?_
 refine Go1.seq ?_
 refine Go1.region ?_
 refine GoR.op ((op_move rfl) _) rfl rfl ?_
 refine GoR.op ((op_assign rfl) _) rfl rfl ?_
 refine GoR.nil ?_
 have hobt := freeze 0 hO rfl xk
 obtain ⟨hO1, IG, F1, F2⟩ := hobt
 replace hB := hB.trans (Owns.dropFr _ _ 0)
 replace hO := hO1; clear hO1
 refine Go1.ret1 Try.func62 rfl ?_
 exact ⟨f1_15, p4, n.toNat, (congrArg (fun nn => Value.slice p4 nn n.toNat) F2), hB.same, (F1.ch (Ch.weak _ _ _)), H⟩
theorem body61 : Body Try.prog 61 := ⟨Try.f61, Try.func61, rfl, by kernel_rfl⟩
theorem walk_enumerate_text {A : List Nat} {w0 : World} {p_f : Option Addr} {c_f : Nat} {f : List Int} (hA : ∀ b ∈ A, b < w0.heap.size) (h_f : ISl (Rp.int .i64) A w0 p_f c_f f) {K : Str → Prop} (H : enumerate_text f K) :
    CallsV Try.prog 61 #[.slice p_f f.length c_f] w0 (fun v w' => ∃ (r0 : Str), v = .string (gstr r0) ∧ Same w0 w' ∧ r0.length ≤ mx ∧ K r0) := by
 refine CallsV.of (l := [.slice p_f f.length c_f]) Try.func61 rfl Try.ntmps61 rfl ?_
 have hO := Owns.start hA
 have hB := Fr.refl (bl []) w0
 unfold enumerate_text at H
 replace h_f := h_f.ch (Ch.start A w0)
 refine Go1.seq ?_
 refine Go1.region ?_
 refine GoR.op ((op_assign rfl) _) rfl rfl ?_
 refine GoR.nil ?_
 refine Go1.seq ?_
 refine Go1.region ?_
 refine GoR.op ((op_move rfl) _) rfl rfl ?_
 refine GoR.op ((op_len Try.underlying26 rfl) _) rfl rfl ?_
 replace H := H h_f.bd
 obtain ⟨h8, H⟩ := H
 obtain ⟨h9, H⟩ := H
 have hobt := omake (n := (f.length : Int)) (r := Rp.int .u8) (d := (0 : Int)) Try.underlying84 ti5 (fun _ _ => rfl) rfl hO h8 h9 (by decide)
 obtain ⟨w1, p2, vs3, nv, hE5, hs6, wA⟩ := hobt
 refine GoR.op (wA rfl rfl) rfl rfl ?_
 replace hO := nv.own
 replace h_f := h_f.ch nv.ch
 replace hB := hB.trans nv.fr
 refine GoR.op ((op_assign rfl) _) rfl rfl ?_
 refine GoR.nil ?_
 refine Go1.seq ?_
 refine Go1.seq ?_
 refine Go1.region ?_
 refine GoR.op ((op_move rfl) _) rfl rfl ?_
 refine GoR.op ((op_len Try.underlying26 rfl) _) rfl rfl ?_
 refine GoR.op ((op_move rfl) _) rfl rfl ?_
 refine GoR.nil ?_
 refine Go1.block ?_
 refine Go1.loopW (S := Nat × List Int) (fun s σ w => match s with | (k1_12, b1_13) => ∃ (mK : List Value), agrees σ [(3, .slice p2 f.length f.length), (9, .slice p_f f.length c_f), (10, .int .i64 (f.length : Int)), (11, .int .i64 (k1_12 : Int))] ∧ Owns w0.heap.size w [.row 5 1 p2 f.length f.length mK] A ∧ Els (Rp.int .u8) (bl [.row 5 1 p2 f.length f.length mK] ++ A) w mK b1_13 ∧ ISl (Rp.int .i64) (bl [.row 5 1 p2 f.length f.length mK] ++ A) w p_f c_f f ∧ Fr (bl []) w0 (bl [.row 5 1 p2 f.length f.length mK]) w) H ⟨vs3, ⟨rfl, rfl, rfl, rfl, trivial⟩, hO, hE5, h_f, hB⟩ ?_
 intro X1
 refine prE fun k1_12 => fun b1_13 => ?_
 intro H hX1 σ w11
 refine exE fun mK => andE fun hag => andE fun hO => andE fun bu => andE fun h_f => fun hB => ?_
 dsimp only at H
 refine Go1.keep [(3, .slice p2 f.length f.length), (9, .slice p_f f.length c_f), (10, .int .i64 (f.length : Int)), (11, .int .i64 (k1_12 : Int))] hag ?_
 refine Go1.seq ?_
 refine Go1.region ?_
 by_cases h16 : (k1_12 : Int) < (f.length : Int)
 ·replace H := ifp h16 H
  refine GoR.op ((fun w => opB (op_lss rfl rfl w) (decide_eq_true h16)) _) rfl rfl ?_
  refine GoR.nil ?_
  refine Go1.seq ?_
  refine Go1.condT rfl rfl ?_
  refine Go1.skip ?_
  refine Go1.seq ?_
  refine Go1.block ?_
  refine Go1.seq ?_
  refine Go1.region ?_
  refine GoR.op ((op_move rfl) _) rfl rfl ?_
  obtain ⟨h17, H⟩ := H
  obtain ⟨h18, H⟩ := H
  refine GoR.op ((op_index Try.underlying26 ti3 rfl rfl h17 h18 (h_f.some_ h17 h18)) _) rfl rfl ?_
  refine GoR.op ((ldInt h_f h17 h18 Try.underlying3 rfl rfl) _ (Same.refl _)) rfl rfl ?_
  refine GoR.op ((op_assign rfl) _) rfl rfl ?_
  refine GoR.op ((op_assign rfl) _) rfl rfl ?_
  refine GoR.nil ?_
  refine Go1.region ?_
  refine GoR.op ((op_move rfl) _) rfl rfl ?_
  refine GoR.op ((op_move rfl) _) rfl rfl ?_
  refine GoR.op ((op_move rfl) _) rfl rfl ?_
  refine GoR.op ((op_conv Try.underlying3 Try.underlying5 rfl rfl) _) rfl rfl ?_
  obtain ⟨h19, H⟩ := H
  obtain ⟨h20, H⟩ := H
  refine GoR.op ((op_index Try.underlying84 ti5 rfl rfl h19 (ltn (bu.neq hO 0 rfl) h20) (bu.psome hO 0 rfl h19 h20)) _) rfl rfl ?_
  have hobt := ost (r := Rp.int .u8) rfl 0 hO rfl bu h19 h20 (v := .int .u8 (IntKind.u8.wrap (ix f (k1_12 : Int)))) (u := (IntKind.u8.wrap (ix f (k1_12 : Int)))) rfl rfl
  obtain ⟨w21, yE, ie, bW, xl⟩ := hobt
  refine GoR.op (xl Try.underlying5 rfl ti5 (by exact rfl) (by exact rfl)) rfl rfl ?_
  replace hO := ie.own
  replace h_f := h_f.ch ie.ch
  replace hB := hB.trans ie.fr
  refine GoR.nil ?_
  refine Go1.inBlock ?_
  refine Go1.region ?_
  refine GoR.op ((op_add rfl rfl (wrap_i64 (natbd h16 h_f.bd))) _) rfl rfl ?_
  refine GoR.op ((op_move rfl) _) rfl rfl ?_
  refine GoR.nil ?_
  exact hX1 _ H _ _ ⟨yE, ⟨rfl, rfl, rfl, rfl, trivial⟩, hO, bW, h_f, hB⟩
 replace H := ifn h16 H
 refine GoR.op ((fun w => opB (op_lss rfl rfl w) (decide_eq_false h16)) _) rfl rfl ?_
 refine GoR.nil ?_
 refine Go1.seq ?_
 refine Go1.condF rfl rfl ?_
 refine Go1.exit rfl ?_
 refine Go1.seq ?_
 refine Go1.region ?_
 refine GoR.op ((op_move rfl) _) rfl rfl ?_
 have hle26 := byt_le bu.bd
 refine GoR.op ((oldBytes 0 hO rfl bu Try.underlying84 Try.underlying5 Try.underlying9 rfl) _ (Same.refl _)) rfl rfl ?_
 refine GoR.op ((op_assign rfl) _) rfl rfl ?_
 refine GoR.nil ?_
 refine Go1.ret1 Try.func61 rfl ?_
 exact ⟨byt b1_13, rfl, hB.same, hle26, H⟩
theorem body65 : Body Try.prog 65 := ⟨Try.f65, Try.func65, rfl, by kernel_rfl⟩
theorem body49 : Body Try.prog 49 := ⟨Try.f49, Try.func49, rfl, by kernel_rfl⟩
theorem walk_enumerate_begin {A : List Nat} {w0 : World} {kh : Option Addr} {ki : Nat} {a0 : List (List Int)} {a1 : Bool} (hA : ∀ b ∈ A, b < w0.heap.size) (a8 : ISl (Rp.sl (Rp.int .i64)) A w0 kh ki a0) {K : Option run → Int → Prop} (H : enumerate_begin a0 a1 K) :
    CallsV Try.prog 49 #[.slice kh a0.length ki, .bool a1] w0 (fun v w' => (∃ (r1 : Int), v = .tuple #[.pointer none, .int .i64 r1] ∧ Same w0 w' ∧ K none r1) ∨ (∃ (q : run), ∃ (r1 : Int), ∃ (b_q : Nat), ∃ (aR : Nat), ∃ (aS : Option Addr), ∃ (aT : Nat), ∃ (bI : List Value), ∃ (aH : Nat), ∃ (aI : Option Addr), ∃ (aJ : Nat), ∃ (bD : List Value), ∃ (au : Nat), ∃ (av : Option Addr), ∃ (aw : Nat), ∃ (bw : List Value), ∃ (aU : Nat), ∃ (aV : Option Addr), ∃ (aW : Nat), ∃ (bK : List Value), ∃ (aK : Nat), ∃ (aL : Option Addr), ∃ (aM : Nat), ∃ (bE : List Value), ∃ (aN : Nat), ∃ (aO : Option Addr), ∃ (aP : Nat), ∃ (bF : List Value), ∃ (b7 : Nat), ∃ (bx : Nat), ∃ (bz : Option Addr), ∃ (bA : Nat), ∃ (cB : List Value), ∃ (bm : Nat), ∃ (bn : Option Addr), ∃ (bo : Nat), ∃ (cl : List Value), ∃ (bp : Nat), ∃ (bq : Option Addr), ∃ (bt : Nat), ∃ (co : List Value), v = .tuple #[.pointer (some ⟨b_q, 0, none⟩), .int .i64 r1] ∧ Same w0 w' ∧ Owns w0.heap.size w' [.blk b_q (.cells #[.int .i64 q.Enum.Points, .bool q.Enum.Monoid, .slice aS aR aT, .slice aI aH aJ, .slice av au aw, .slice aV aU aW, .slice aL aK aM, .slice aO aN aP, .int .i64 q.Enum.Done, .map (some b7), .slice bz bx bA, .slice bn bm bo, .slice bq bp bt] 72 (0, 0)), .row 26 1 aS aR aT bI, .row 26 1 aI aH aJ bD, .row 3 1 av au aw bw, .row 3 1 aV aU aW bK, .row 26 1 aL aK aM bE, .row 39 2 aO aN aP bF, .row 9 1 bz bx bA cB, .row 3 1 bn bm bo cl, .row 3 1 bq bp bt co, .any (mapE (fun a : List UInt8 => Value.string (gstr a)) (fun a : Int => Value.int .i64 a) b7 q.number)] A ∧ Els (Rp.sl (Rp.int .i64)) (bl [.blk b_q (.cells #[.int .i64 q.Enum.Points, .bool q.Enum.Monoid, .slice aS aR aT, .slice aI aH aJ, .slice av au aw, .slice aV aU aW, .slice aL aK aM, .slice aO aN aP, .int .i64 q.Enum.Done, .map (some b7), .slice bz bx bA, .slice bn bm bo, .slice bq bp bt] 72 (0, 0)), .row 26 1 aS aR aT bI, .row 26 1 aI aH aJ bD, .row 3 1 av au aw bw, .row 3 1 aV aU aW bK, .row 26 1 aL aK aM bE, .row 39 2 aO aN aP bF, .row 9 1 bz bx bA cB, .row 3 1 bn bm bo cl, .row 3 1 bq bp bt co, .any (mapE (fun a : List UInt8 => Value.string (gstr a)) (fun a : Int => Value.int .i64 a) b7 q.number)] ++ A) w' bI q.Enum.Gens ∧ Els (Rp.sl (Rp.int .i64)) (bl [.blk b_q (.cells #[.int .i64 q.Enum.Points, .bool q.Enum.Monoid, .slice aS aR aT, .slice aI aH aJ, .slice av au aw, .slice aV aU aW, .slice aL aK aM, .slice aO aN aP, .int .i64 q.Enum.Done, .map (some b7), .slice bz bx bA, .slice bn bm bo, .slice bq bp bt] 72 (0, 0)), .row 26 1 aS aR aT bI, .row 26 1 aI aH aJ bD, .row 3 1 av au aw bw, .row 3 1 aV aU aW bK, .row 26 1 aL aK aM bE, .row 39 2 aO aN aP bF, .row 9 1 bz bx bA cB, .row 3 1 bn bm bo cl, .row 3 1 bq bp bt co, .any (mapE (fun a : List UInt8 => Value.string (gstr a)) (fun a : Int => Value.int .i64 a) b7 q.number)] ++ A) w' bD q.Enum.Elems ∧ Els (Rp.int .i64) (bl [.blk b_q (.cells #[.int .i64 q.Enum.Points, .bool q.Enum.Monoid, .slice aS aR aT, .slice aI aH aJ, .slice av au aw, .slice aV aU aW, .slice aL aK aM, .slice aO aN aP, .int .i64 q.Enum.Done, .map (some b7), .slice bz bx bA, .slice bn bm bo, .slice bq bp bt] 72 (0, 0)), .row 26 1 aS aR aT bI, .row 26 1 aI aH aJ bD, .row 3 1 av au aw bw, .row 3 1 aV aU aW bK, .row 26 1 aL aK aM bE, .row 39 2 aO aN aP bF, .row 9 1 bz bx bA cB, .row 3 1 bn bm bo cl, .row 3 1 bq bp bt co, .any (mapE (fun a : List UInt8 => Value.string (gstr a)) (fun a : Int => Value.int .i64 a) b7 q.number)] ++ A) w' bw q.Enum.Prefix ∧ Els (Rp.int .i64) (bl [.blk b_q (.cells #[.int .i64 q.Enum.Points, .bool q.Enum.Monoid, .slice aS aR aT, .slice aI aH aJ, .slice av au aw, .slice aV aU aW, .slice aL aK aM, .slice aO aN aP, .int .i64 q.Enum.Done, .map (some b7), .slice bz bx bA, .slice bn bm bo, .slice bq bp bt] 72 (0, 0)), .row 26 1 aS aR aT bI, .row 26 1 aI aH aJ bD, .row 3 1 av au aw bw, .row 3 1 aV aU aW bK, .row 26 1 aL aK aM bE, .row 39 2 aO aN aP bF, .row 9 1 bz bx bA cB, .row 3 1 bn bm bo cl, .row 3 1 bq bp bt co, .any (mapE (fun a : List UInt8 => Value.string (gstr a)) (fun a : Int => Value.int .i64 a) b7 q.number)] ++ A) w' bK q.Enum.Last ∧ Els (Rp.sl (Rp.int .i64)) (bl [.blk b_q (.cells #[.int .i64 q.Enum.Points, .bool q.Enum.Monoid, .slice aS aR aT, .slice aI aH aJ, .slice av au aw, .slice aV aU aW, .slice aL aK aM, .slice aO aN aP, .int .i64 q.Enum.Done, .map (some b7), .slice bz bx bA, .slice bn bm bo, .slice bq bp bt] 72 (0, 0)), .row 26 1 aS aR aT bI, .row 26 1 aI aH aJ bD, .row 3 1 av au aw bw, .row 3 1 aV aU aW bK, .row 26 1 aL aK aM bE, .row 39 2 aO aN aP bF, .row 9 1 bz bx bA cB, .row 3 1 bn bm bo cl, .row 3 1 bq bp bt co, .any (mapE (fun a : List UInt8 => Value.string (gstr a)) (fun a : Int => Value.int .i64 a) b7 q.number)] ++ A) w' bE q.Enum.Right ∧ Els (rpRule) (bl [.blk b_q (.cells #[.int .i64 q.Enum.Points, .bool q.Enum.Monoid, .slice aS aR aT, .slice aI aH aJ, .slice av au aw, .slice aV aU aW, .slice aL aK aM, .slice aO aN aP, .int .i64 q.Enum.Done, .map (some b7), .slice bz bx bA, .slice bn bm bo, .slice bq bp bt] 72 (0, 0)), .row 26 1 aS aR aT bI, .row 26 1 aI aH aJ bD, .row 3 1 av au aw bw, .row 3 1 aV aU aW bK, .row 26 1 aL aK aM bE, .row 39 2 aO aN aP bF, .row 9 1 bz bx bA cB, .row 3 1 bn bm bo cl, .row 3 1 bq bp bt co, .any (mapE (fun a : List UInt8 => Value.string (gstr a)) (fun a : Int => Value.int .i64 a) b7 q.number)] ++ A) w' bF q.Enum.Rules ∧ Els (Rp.str) (bl [.blk b_q (.cells #[.int .i64 q.Enum.Points, .bool q.Enum.Monoid, .slice aS aR aT, .slice aI aH aJ, .slice av au aw, .slice aV aU aW, .slice aL aK aM, .slice aO aN aP, .int .i64 q.Enum.Done, .map (some b7), .slice bz bx bA, .slice bn bm bo, .slice bq bp bt] 72 (0, 0)), .row 26 1 aS aR aT bI, .row 26 1 aI aH aJ bD, .row 3 1 av au aw bw, .row 3 1 aV aU aW bK, .row 26 1 aL aK aM bE, .row 39 2 aO aN aP bF, .row 9 1 bz bx bA cB, .row 3 1 bn bm bo cl, .row 3 1 bq bp bt co, .any (mapE (fun a : List UInt8 => Value.string (gstr a)) (fun a : Int => Value.int .i64 a) b7 q.number)] ++ A) w' cB q.words ∧ Els (Rp.int .i64) (bl [.blk b_q (.cells #[.int .i64 q.Enum.Points, .bool q.Enum.Monoid, .slice aS aR aT, .slice aI aH aJ, .slice av au aw, .slice aV aU aW, .slice aL aK aM, .slice aO aN aP, .int .i64 q.Enum.Done, .map (some b7), .slice bz bx bA, .slice bn bm bo, .slice bq bp bt] 72 (0, 0)), .row 26 1 aS aR aT bI, .row 26 1 aI aH aJ bD, .row 3 1 av au aw bw, .row 3 1 aV aU aW bK, .row 26 1 aL aK aM bE, .row 39 2 aO aN aP bF, .row 9 1 bz bx bA cB, .row 3 1 bn bm bo cl, .row 3 1 bq bp bt co, .any (mapE (fun a : List UInt8 => Value.string (gstr a)) (fun a : Int => Value.int .i64 a) b7 q.number)] ++ A) w' cl q.behind ∧ Els (Rp.int .i64) (bl [.blk b_q (.cells #[.int .i64 q.Enum.Points, .bool q.Enum.Monoid, .slice aS aR aT, .slice aI aH aJ, .slice av au aw, .slice aV aU aW, .slice aL aK aM, .slice aO aN aP, .int .i64 q.Enum.Done, .map (some b7), .slice bz bx bA, .slice bn bm bo, .slice bq bp bt] 72 (0, 0)), .row 26 1 aS aR aT bI, .row 26 1 aI aH aJ bD, .row 3 1 av au aw bw, .row 3 1 aV aU aW bK, .row 26 1 aL aK aM bE, .row 39 2 aO aN aP bF, .row 9 1 bz bx bA cB, .row 3 1 bn bm bo cl, .row 3 1 bq bp bt co, .any (mapE (fun a : List UInt8 => Value.string (gstr a)) (fun a : Int => Value.int .i64 a) b7 q.number)] ++ A) w' co q.single ∧ K (some q) r1)) := by
 refine CallsV.of (l := [.slice kh a0.length ki, .bool a1]) Try.func49 rfl Try.ntmps49 rfl ?_
 have hO := Owns.start hA
 have hB := Fr.refl (bl []) w0
 unfold enumerate_begin at H
 replace a8 := a8.ch (Ch.start A w0)
 refine Go1.seq ?_
 refine Go1.region ?_
 refine GoR.op ((op_assign rfl) _) rfl rfl ?_
 refine GoR.op ((op_assign rfl) _) rfl rfl ?_
 refine GoR.nil ?_
 refine Go1.seq ?_
 refine Go1.seq ?_
 refine Go1.region ?_
 refine GoR.op ((op_move rfl) _) rfl rfl ?_
 refine GoR.op ((op_len Try.underlying22 rfl) _) rfl rfl ?_
 replace H := H a8.bd
 by_cases h1 : (a0.length : Int) = (0 : Int)
 ·replace H := ifp h1 H
  refine GoR.op ((fun w => opB (op_eql rfl rfl w) (decide_eq_true h1)) _) rfl rfl ?_
  refine GoR.op ((op_move rfl) _) rfl rfl ?_
  refine GoR.pass rfl rfl ?_
  refine GoR.pass rfl rfl ?_
  refine GoR.pass rfl rfl ?_
  refine GoR.op ((op_pickT rfl rfl rfl) _) rfl rfl ?_
  refine GoR.nil ?_
  refine Go1.condT rfl rfl ?_
  refine Go1.seq ?_
  refine Go1.region ?_
  refine GoR.op ((op_assign rfl) _) rfl rfl ?_
  refine GoR.op ((op_assign rfl) _) rfl rfl ?_
  refine GoR.nil ?_
  refine Go1.ret2 Try.func49 rfl ?_
  exact Or.inl ⟨((1 : Int)), rfl, hB.same, H⟩
 replace H := ifn h1 H
 refine GoR.op ((fun w => opB (op_eql rfl rfl w) (decide_eq_false h1)) _) rfl rfl ?_
 refine GoR.op ((op_move rfl) _) rfl rfl ?_
 refine GoR.op ((op_move rfl) _) rfl rfl ?_
 refine GoR.op ((op_len Try.underlying22 rfl) _) rfl rfl ?_
 by_cases h2 : (6 : Int) < (a0.length : Int)
 ·replace H := ifp h2 H
  refine GoR.op ((fun w => opB (op_gtr rfl rfl w) (decide_eq_true h2)) _) rfl rfl ?_
  refine GoR.op ((op_pickF rfl rfl rfl) _) rfl rfl ?_
  refine GoR.nil ?_
  refine Go1.condT rfl rfl ?_
  refine Go1.seq ?_
  refine Go1.region ?_
  refine GoR.op ((op_assign rfl) _) rfl rfl ?_
  refine GoR.op ((op_assign rfl) _) rfl rfl ?_
  refine GoR.nil ?_
  refine Go1.ret2 Try.func49 rfl ?_
  exact Or.inl ⟨((1 : Int)), rfl, hB.same, H⟩
 replace H := ifn h2 H
 refine GoR.op ((fun w => opB (op_gtr rfl rfl w) (decide_eq_false h2)) _) rfl rfl ?_
 refine GoR.op ((op_pickF rfl rfl rfl) _) rfl rfl ?_
 refine GoR.nil ?_
 refine Go1.condF rfl rfl ?_
 refine Go1.skip ?_
 refine Go1.seq ?_
 refine Go1.cut [(0, .slice kh a0.length ki), (1, .bool a1)] ⟨rfl, rfl, trivial⟩ ?_
 intro σ _
 refine Go1.region ?_
 have hobt := omakeMap (fun a : List UInt8 => Value.string (gstr a)) (fun a : Int => Value.int .i64 a) hO
 obtain ⟨w3, B4, yF, hs6, wA⟩ := hobt
 refine GoR.op wA rfl rfl ?_
 replace hO := yF.own
 replace a8 := a8.ch yF.ch
 replace hB := hB.trans yF.fr
 refine GoR.op ((op_build Try.underlying72 ti72 (pl := [(0, 9), (9, 1), (10, 1), (11, 1), (12, 1)]) (vs := [(1, .map (some B4))]) (cs := #[.int .i64 (0 : Int), .bool false, .slice none 0 0, .slice none 0 0, .slice none 0 0, .slice none 0 0, .slice none 0 0, .slice none 0 0, .int .i64 (0 : Int), .map (some B4), .slice none 0 0, .slice none 0 0, .slice none 0 0]) (by kernel_rfl) rfl (by kernel_rfl)) _) rfl rfl ?_
 have hobt := obox (t := 72) (v := .agg #[.int .i64 (0 : Int), .bool false, .slice none 0 0, .slice none 0 0, .slice none 0 0, .slice none 0 0, .slice none 0 0, .slice none 0 0, .int .i64 (0 : Int), .map (some B4), .slice none 0 0, .slice none 0 0, .slice none 0 0]) (cs := #[.int .i64 (0 : Int), .bool false, .slice none 0 0, .slice none 0 0, .slice none 0 0, .slice none 0 0, .slice none 0 0, .slice none 0 0, .int .i64 (0 : Int), .map (some B4), .slice none 0 0, .slice none 0 0, .slice none 0 0]) hO rfl
 obtain ⟨w9, B10, xm, wB, xn⟩ := hobt
 refine GoR.op (xn rfl) rfl rfl ?_
 replace hO := xm.own
 replace a8 := a8.ch xm.ch
 replace hB := hB.trans xm.fr
 refine GoR.op ((op_assign rfl) _) rfl rfl ?_
 refine GoR.nil ?_
 refine Go1.seq ?_
 refine Go1.region ?_
 refine GoR.op ((op_move rfl) _) rfl rfl ?_
 refine GoR.op ((op_move rfl) _) rfl rfl ?_
 refine GoR.op ((op_move rfl) _) rfl rfl ?_
 obtain ⟨h15, H⟩ := H
 obtain ⟨h16, H⟩ := H
 refine GoR.op ((op_index Try.underlying22 ti26 rfl rfl h15 h16 (a8.some_ h15 h16)) _) rfl rfl ?_
 have hobt := ldSl a8 h15 h16
 obtain ⟨p17, c18, uF, F3⟩ := hobt
 refine GoR.op ((F3 Try.underlying26 rfl rfl) _ (Same.refl _)) rfl rfl ?_
 refine GoR.op ((op_len Try.underlying26 rfl) _) rfl rfl ?_
 replace H := H uF.bd
 refine GoR.op ((op_move rfl) _) rfl rfl ?_
 refine GoR.op ((op_nilCheck rfl) _) rfl rfl ?_
 refine GoR.op ((op_fieldAddr Try.underlying72 rfl ti29 rfl (by decide)) _) rfl rfl ?_
 refine GoR.op ((op_fieldAddr Try.underlying29 rfl ti3 rfl (by decide)) _) rfl rfl ?_
 have hobt := oblkSt2 (v := .int .i64 ((ix a0 (0 : Int)).length : Int)) (i := 0) (cs' := #[.int .i64 ((ix a0 (0 : Int)).length : Int), .bool false, .slice none 0 0, .slice none 0 0, .slice none 0 0, .slice none 0 0, .slice none 0 0, .slice none 0 0, .int .i64 (0 : Int), .map (some B4), .slice none 0 0, .slice none 0 0, .slice none 0 0]) 0 hO rfl rfl rfl rfl
 obtain ⟨w21, ke, Ck⟩ := hobt
 refine GoR.op (Ck Try.underlying3 rfl ti3 (by exact rfl) (by exact rfl)) rfl rfl ?_
 replace hO := ke.own
 replace a8 := a8.ch ke.ch
 replace uF := uF.ch ke.ch
 replace hB := hB.trans ke.fr
 refine GoR.op ((op_nilCheck rfl) _) rfl rfl ?_
 refine GoR.op ((op_fieldAddr Try.underlying72 rfl ti29 rfl (by decide)) _) rfl rfl ?_
 refine GoR.op ((op_fieldAddr Try.underlying29 rfl ti4 rfl (by decide)) _) rfl rfl ?_
 have hobt := oblkSt2 (v := .bool a1) (i := 1) (cs' := #[.int .i64 ((ix a0 (0 : Int)).length : Int), .bool a1, .slice none 0 0, .slice none 0 0, .slice none 0 0, .slice none 0 0, .slice none 0 0, .slice none 0 0, .int .i64 (0 : Int), .map (some B4), .slice none 0 0, .slice none 0 0, .slice none 0 0]) 0 hO rfl rfl rfl rfl
 obtain ⟨w24, wl, xo⟩ := hobt
 refine GoR.op (xo Try.underlying4 rfl ti4 (by exact rfl) (by exact rfl)) rfl rfl ?_
 replace hO := wl.own
 replace a8 := a8.ch wl.ch
 replace uF := uF.ch wl.ch
 replace hB := hB.trans wl.fr
 refine GoR.nil ?_
 refine Go1.seq ?_
 refine Go1.seq ?_
 refine Go1.cut [(0, .slice kh a0.length ki), (1, .bool a1), (6, .pointer (some ⟨B10, 0, none⟩))] ⟨rfl, rfl, rfl, trivial⟩ ?_
 intro σ _
 refine Go1.region ?_
 refine GoR.op ((op_move rfl) _) rfl rfl ?_
 refine GoR.op ((op_len Try.underlying22 rfl) _) rfl rfl ?_
 refine GoR.op ((op_move rfl) _) rfl rfl ?_
 refine GoR.nil ?_
 refine Go1.block ?_
 have wm := Stp.nil (e := 26) (r := 1) hO
 replace hO := wm.own
 replace a8 := a8.ch wm.ch
 replace uF := uF.ch wm.ch
 replace hB := hB.trans wm.fr
 have F4 := Els.nil (Rp.sl (Rp.int .i64)) (bl (.row 26 1 none 0 0 [] :: [.blk B10 (.cells #[.int .i64 ((ix a0 (0 : Int)).length : Int), .bool a1, .slice none 0 0, .slice none 0 0, .slice none 0 0, .slice none 0 0, .slice none 0 0, .slice none 0 0, .int .i64 (0 : Int), .map (some B4), .slice none 0 0, .slice none 0 0, .slice none 0 0] 72 (0, 0)), .any (mapE (fun a : List UInt8 => Value.string (gstr a)) (fun a : Int => Value.int .i64 a) B4 (([] : List (Str × Int))))]) ++ A) w24
 refine Go1.loopW (S := Nat × List (List Int)) (fun s σ w => match s with | (k1_31, d_32) => ∃ (n37 : Nat), ∃ (p35 : Option Addr), ∃ (c36 : Nat), ∃ (eQ : List Value), agrees σ [(1, .bool a1), (6, .pointer (some ⟨B10, 0, none⟩)), (39, .slice kh a0.length ki), (40, .int .i64 (a0.length : Int)), (41, .int .i64 (k1_31 : Int))] ∧ Owns w0.heap.size w [.row 26 1 p35 n37 c36 eQ, .blk B10 (.cells #[.int .i64 ((ix a0 (0 : Int)).length : Int), .bool a1, .slice p35 n37 c36, .slice none 0 0, .slice none 0 0, .slice none 0 0, .slice none 0 0, .slice none 0 0, .int .i64 (0 : Int), .map (some B4), .slice none 0 0, .slice none 0 0, .slice none 0 0] 72 (0, 0)), .any (mapE (fun a : List UInt8 => Value.string (gstr a)) (fun a : Int => Value.int .i64 a) B4 (([] : List (Str × Int))))] A ∧ Els (Rp.sl (Rp.int .i64)) (bl [.row 26 1 p35 n37 c36 eQ, .blk B10 (.cells #[.int .i64 ((ix a0 (0 : Int)).length : Int), .bool a1, .slice p35 n37 c36, .slice none 0 0, .slice none 0 0, .slice none 0 0, .slice none 0 0, .slice none 0 0, .int .i64 (0 : Int), .map (some B4), .slice none 0 0, .slice none 0 0, .slice none 0 0] 72 (0, 0)), .any (mapE (fun a : List UInt8 => Value.string (gstr a)) (fun a : Int => Value.int .i64 a) B4 (([] : List (Str × Int))))] ++ A) w eQ d_32 ∧ ISl (Rp.sl (Rp.int .i64)) (bl [.row 26 1 p35 n37 c36 eQ, .blk B10 (.cells #[.int .i64 ((ix a0 (0 : Int)).length : Int), .bool a1, .slice p35 n37 c36, .slice none 0 0, .slice none 0 0, .slice none 0 0, .slice none 0 0, .slice none 0 0, .int .i64 (0 : Int), .map (some B4), .slice none 0 0, .slice none 0 0, .slice none 0 0] 72 (0, 0)), .any (mapE (fun a : List UInt8 => Value.string (gstr a)) (fun a : Int => Value.int .i64 a) B4 (([] : List (Str × Int))))] ++ A) w kh ki a0 ∧ Fr (bl []) w0 (bl [.row 26 1 p35 n37 c36 eQ, .blk B10 (.cells #[.int .i64 ((ix a0 (0 : Int)).length : Int), .bool a1, .slice p35 n37 c36, .slice none 0 0, .slice none 0 0, .slice none 0 0, .slice none 0 0, .slice none 0 0, .int .i64 (0 : Int), .map (some B4), .slice none 0 0, .slice none 0 0, .slice none 0 0] 72 (0, 0)), .any (mapE (fun a : List UInt8 => Value.string (gstr a)) (fun a : Int => Value.int .i64 a) B4 (([] : List (Str × Int))))]) w) H ⟨0, none, 0, [], ⟨rfl, rfl, rfl, rfl, rfl, trivial⟩, hO, F4, a8, hB⟩ ?_
 intro X1
 refine prE fun k1_31 => fun d_32 => ?_
 intro H hX1 σ w30
 refine exE fun n37 => exE fun p35 => exE fun c36 => exE fun eQ => andE fun hag => andE fun hO => andE fun aj => andE fun a8 => fun hB => ?_
 dsimp only at H
 refine Go1.keep [(1, .bool a1), (6, .pointer (some ⟨B10, 0, none⟩)), (39, .slice kh a0.length ki), (40, .int .i64 (a0.length : Int)), (41, .int .i64 (k1_31 : Int))] hag ?_
 refine Go1.seq ?_
 refine Go1.region ?_
 by_cases h38 : (k1_31 : Int) < (a0.length : Int)
 ·replace H := ifp h38 H
  refine GoR.op ((fun w => opB (op_lss rfl rfl w) (decide_eq_true h38)) _) rfl rfl ?_
  refine GoR.nil ?_
  refine Go1.seq ?_
  refine Go1.condT rfl rfl ?_
  refine Go1.skip ?_
  refine Go1.seq ?_
  refine Go1.block ?_
  refine Go1.seq ?_
  refine Go1.region ?_
  obtain ⟨h39, H⟩ := H
  obtain ⟨h40, H⟩ := H
  refine GoR.op ((op_index Try.underlying22 ti26 rfl rfl h39 h40 (a8.some_ h39 h40)) _) rfl rfl ?_
  have hobt := ldSl a8 h39 h40
  obtain ⟨p41, c42, nw, F5⟩ := hobt
  refine GoR.op ((F5 Try.underlying26 rfl rfl) _ (Same.refl _)) rfl rfl ?_
  refine GoR.op ((op_assign rfl) _) rfl rfl ?_
  refine GoR.nil ?_
  refine Go1.seq ?_
  refine Go1.seq ?_
  refine Go1.region ?_
  refine GoR.op ((op_move rfl) _) rfl rfl ?_
  refine GoR.op ((op_len Try.underlying26 rfl) _) rfl rfl ?_
  replace H := H nw.bd
  refine GoR.op ((op_move rfl) _) rfl rfl ?_
  refine GoR.op ((op_nilCheck rfl) _) rfl rfl ?_
  refine GoR.op ((op_fieldAddr Try.underlying72 rfl ti29 rfl (by decide)) _) rfl rfl ?_
  refine GoR.op ((op_fieldAddr Try.underlying29 rfl ti3 rfl (by decide)) _) rfl rfl ?_
  refine GoR.op ((oblk (i := 0) 1 hO rfl rfl Try.underlying3 rfl rfl) _ (Same.refl _)) rfl rfl ?_
  by_cases h45 : ((ix a0 (k1_31 : Int)).length : Int) = ((ix a0 (0 : Int)).length : Int)
  ·replace H := ifp h45 H
   refine GoR.op ((fun w => opB (op_neq rfl rfl w) (ndT h45)) _) rfl rfl ?_
   refine GoR.op ((op_move rfl) _) rfl rfl ?_
   refine GoR.op ((op_move rfl) _) rfl rfl ?_
   refine GoR.call (op_call body60 rfl (walk_trans_Valid hO.lt nw H)) rfl rfl ?_
   rintro v50 w47 ⟨r46, rfl, F6, H⟩
   have va := Stp.same hO F6
   replace aj := aj.ch va.ch
   replace hO := va.own
   replace a8 := a8.ch va.ch
   replace nw := nw.ch va.ch
   replace hB := hB.trans va.fr
   cases r46
   ·replace H := ifn Bool.false_ne_true H
    refine GoR.op ((op_not rfl) _) rfl rfl ?_
    refine GoR.op ((op_pickF rfl rfl rfl) _) rfl rfl ?_
    refine GoR.nil ?_
    refine Go1.condT rfl rfl ?_
    refine Go1.seq ?_
    refine Go1.region ?_
    refine GoR.op ((op_assign rfl) _) rfl rfl ?_
    refine GoR.op ((op_assign rfl) _) rfl rfl ?_
    refine GoR.nil ?_
    refine Go1.ret2 Try.func49 rfl ?_
    exact Or.inl ⟨((4 : Int)), rfl, hB.same, H⟩
   replace H := ifp rfl H
   refine GoR.op ((op_not rfl) _) rfl rfl ?_
   refine GoR.op ((op_pickF rfl rfl rfl) _) rfl rfl ?_
   refine GoR.nil ?_
   refine Go1.condF rfl rfl ?_
   refine Go1.skip ?_
   refine Go1.cut [(1, .bool a1), (6, .pointer (some ⟨B10, 0, none⟩)), (8, .slice p41 ((ix a0 (k1_31 : Int)).length) c42), (39, .slice kh a0.length ki), (40, .int .i64 (a0.length : Int)), (41, .int .i64 (k1_31 : Int))] ⟨rfl, rfl, rfl, rfl, rfl, rfl, trivial⟩ ?_
   intro σ _
   refine Go1.drawS 1 [(0, .pure), (1, .pure), (2, .pure), (3, .pure), (4, .pure), (5, .stable), (6, .pure), (7, .loud), (8, .loud), (9, .last), (10, .pure), (11, .pure), (12, .pure), (13, .last)] mixed (by kernel_rfl) ?_
   intro w52 F7
   have vb := Stp.same hO F7
   replace aj := aj.ch vb.ch
   replace hO := vb.own
   replace a8 := a8.ch vb.ch
   replace nw := nw.ch vb.ch
   replace hB := hB.trans vb.fr
   refine GoQ.pure rfl (op_move rfl) rfl rfl ?_
   refine GoQ.pure rfl (op_move rfl) rfl rfl ?_
   refine GoQ.pure rfl (op_nilCheck rfl) rfl rfl ?_
   refine GoQ.pure rfl (op_fieldAddr Try.underlying72 rfl ti29 rfl (by decide)) rfl rfl ?_
   refine GoQ.pure rfl (op_fieldAddr Try.underlying29 rfl ti22 rfl (by decide)) rfl rfl ?_
   refine GoQ.stable rfl (oblk (i := 2) 1 hO rfl rfl Try.underlying22 rfl rfl) rfl rfl ?_
   refine GoQ.pure rfl (op_move rfl) rfl rfl ?_
   refine GoQ.call rfl (op_call body64 rfl (walk_slices_Clone_int hO.lt nw H)) (fun v w hr => by obtain ⟨_, _, _, _, _, _, hs, _, _, _⟩ := hr; assumption) rfl rfl ?_
   rintro v60 w57 ⟨r55, zK, wn, wo, HV, rfl, F8, hN59, yG, H⟩
   have vc := Stp.more hO F8 hN59
   replace aj := aj.ch vc.ch
   replace hO := vc.own
   replace a8 := a8.ch vc.ch
   replace nw := nw.ch vc.ch
   replace hB := hB.trans vc.fr
   replace yG := yG.ch (Ch.assoc _ _ _ _)
   have hobt := freeze 0 hO rfl yG
   obtain ⟨hO1, yH, ro, F9⟩ := hobt
   replace a8 := a8.ch yH
   replace nw := nw.ch yH
   replace aj := aj.ch yH
   replace hB := hB.trans (Owns.dropFr _ _ 0)
   replace hO := hO1; clear hO1
   have hobt := obuild (r := Rp.sl (Rp.int .i64)) (n := 1) (parts := [(0, .slice wn zK wo)]) (vs := [.slice wn zK wo]) (xs := [r55]) rfl Try.underlying22 ti26 hO (by decide) (by kernel_rfl) (Els.cons rfl ⟨wn, wo, congrArg some (congrArg (fun nn => Value.slice wn nn wo) F9), ro⟩ (Els.nil _ _ _) (by simp [mx])) rfl
   obtain ⟨w66, p67, t9, pZ, Ga, Cl⟩ := hobt
   refine GoQ.loud rfl (Cl rfl) Ga rfl rfl ?_
   replace aj := aj.ch t9.ch
   replace hO := t9.own
   replace a8 := a8.ch t9.ch
   replace nw := nw.ch t9.ch
   replace ro := ro.ch t9.ch
   replace hB := hB.trans t9.fr
   have hobt := freeze 0 hO rfl pZ
   obtain ⟨hO1, xp, wC, Gb⟩ := hobt
   replace a8 := a8.ch xp
   replace nw := nw.ch xp
   replace ro := ro.ch xp
   replace aj := aj.ch xp
   replace hB := hB.trans (Owns.dropFr _ _ 0)
   replace hO := hO1; clear hO1
   obtain ⟨h76, H⟩ := H
   have hobt := oapp Try.underlying22 ti26 rfl 0 hO rfl aj wC Gb h76 (by decide)
   obtain ⟨w77, p78, c79, m5, ua, yI, Cm⟩ := hobt
   refine GoQ.last rfl (Cm (by exact rfl) (by exact rfl)) rfl rfl ?_
   replace hO := ua.own
   replace a8 := a8.ch ua.ch
   replace nw := nw.ch ua.ch
   replace ro := ro.ch ua.ch
   replace wC := wC.ch ua.ch
   replace hB := hB.trans ua.fr
   refine GoQ.pure rfl (op_nilCheck rfl) rfl rfl ?_
   refine GoQ.pure rfl (op_fieldAddr Try.underlying72 rfl ti29 rfl (by decide)) rfl rfl ?_
   refine GoQ.pure rfl (op_fieldAddr Try.underlying29 rfl ti22 rfl (by decide)) rfl rfl ?_
   have hobt := oblkSt2 (v := .slice p78 (n37 + 1) c79) (i := 2) (cs' := #[.int .i64 ((ix a0 (0 : Int)).length : Int), .bool a1, .slice p78 (n37 + 1) c79, .slice none 0 0, .slice none 0 0, .slice none 0 0, .slice none 0 0, .slice none 0 0, .int .i64 (0 : Int), .map (some B4), .slice none 0 0, .slice none 0 0, .slice none 0 0]) 1 hO rfl rfl rfl rfl
   obtain ⟨w85, tv, Cn⟩ := hobt
   refine GoQ.last rfl (Cn Try.underlying22 rfl ti22 (by exact rfl) (by exact rfl)) rfl rfl ?_
   replace yI := yI.ch tv.ch
   replace hO := tv.own
   replace a8 := a8.ch tv.ch
   replace nw := nw.ch tv.ch
   replace ro := ro.ch tv.ch
   replace wC := wC.ch tv.ch
   replace hB := hB.trans tv.fr
   refine GoQ.nil ?_
   refine Go1.inBlock ?_
   refine Go1.region ?_
   refine GoR.op ((op_add rfl rfl (wrap_i64 (natbd h38 a8.bd))) _) rfl rfl ?_
   refine GoR.op ((op_move rfl) _) rfl rfl ?_
   refine GoR.nil ?_
   exact hX1 _ H _ _ ⟨n37 + 1, p78, c79, m5, ⟨rfl, rfl, rfl, rfl, rfl, trivial⟩, hO, yI, a8, hB⟩
  replace H := ifn h45 H
  refine GoR.op ((fun w => opB (op_neq rfl rfl w) (ndF h45)) _) rfl rfl ?_
  refine GoR.op ((op_move rfl) _) rfl rfl ?_
  refine GoR.pass rfl rfl ?_
  refine GoR.pass rfl rfl ?_
  refine GoR.pass rfl rfl ?_
  refine GoR.op ((op_pickT rfl rfl rfl) _) rfl rfl ?_
  refine GoR.nil ?_
  refine Go1.condT rfl rfl ?_
  refine Go1.seq ?_
  refine Go1.cut [] trivial ?_
  intro σ _
  refine Go1.region ?_
  refine GoR.op ((op_assign rfl) _) rfl rfl ?_
  refine GoR.op ((op_assign rfl) _) rfl rfl ?_
  refine GoR.nil ?_
  refine Go1.ret2 Try.func49 rfl ?_
  exact Or.inl ⟨((4 : Int)), rfl, hB.same, H⟩
 replace H := ifn h38 H
 refine GoR.op ((fun w => opB (op_lss rfl rfl w) (decide_eq_false h38)) _) rfl rfl ?_
 refine GoR.nil ?_
 refine Go1.seq ?_
 refine Go1.condF rfl rfl ?_
 refine Go1.exit rfl ?_
 refine Go1.seq ?_
 refine Go1.region ?_
 refine GoR.op ((op_assign rfl) _) rfl rfl ?_
 refine GoR.nil ?_
 refine Go1.seq ?_
 refine Go1.seq ?_
 refine Go1.region ?_
 refine GoR.op ((op_move rfl) _) rfl rfl ?_
 refine GoR.nil ?_
 cases a1
 ·replace H := ifn Bool.false_ne_true H
  refine Go1.condF rfl rfl ?_
  refine Go1.skip ?_
  refine Go1.seq ?_
  refine Go1.seq ?_
  refine Go1.region ?_
  refine GoR.op ((op_move rfl) _) rfl rfl ?_
  refine GoR.op ((op_nilCheck rfl) _) rfl rfl ?_
  refine GoR.op ((op_fieldAddr Try.underlying72 rfl ti29 rfl (by decide)) _) rfl rfl ?_
  refine GoR.op ((op_fieldAddr Try.underlying29 rfl ti22 rfl (by decide)) _) rfl rfl ?_
  refine GoR.op ((oblk (i := 2) 1 hO rfl rfl Try.underlying22 rfl rfl) _ (Same.refl _)) rfl rfl ?_
  refine GoR.op ((op_lenN Try.underlying22 rfl (aj.neq hO 0 rfl)) _) rfl rfl ?_
  refine GoR.op ((op_move rfl) _) rfl rfl ?_
  refine GoR.nil ?_
  refine Go1.block ?_
  have wq := Stp.nil (e := 26) (r := 1) hO
  replace aj := aj.ch wq.ch
  replace hO := wq.own
  replace a8 := a8.ch wq.ch
  replace hB := hB.trans wq.fr
  have cW := Els.nil (Rp.sl (Rp.int .i64)) (bl (.row 26 1 none 0 0 [] :: [.row 26 1 p35 n37 c36 eQ, .blk B10 (.cells #[.int .i64 ((ix a0 (0 : Int)).length : Int), .bool false, .slice p35 n37 c36, .slice none 0 0, .slice none 0 0, .slice none 0 0, .slice none 0 0, .slice none 0 0, .int .i64 (0 : Int), .map (some B4), .slice none 0 0, .slice none 0 0, .slice none 0 0] 72 (0, 0)), .any (mapE (fun a : List UInt8 => Value.string (gstr a)) (fun a : Int => Value.int .i64 a) B4 (([] : List (Str × Int))))]) ++ A) w30
  have vd := Stp.nil (e := 3) (r := 1) hO
  replace cW := cW.ch vd.ch
  replace aj := aj.ch vd.ch
  replace hO := vd.own
  replace a8 := a8.ch vd.ch
  replace hB := hB.trans vd.fr
  have jh := Els.nil (Rp.int .i64) (bl (.row 3 1 none 0 0 [] :: [.row 26 1 none 0 0 [], .row 26 1 p35 n37 c36 eQ, .blk B10 (.cells #[.int .i64 ((ix a0 (0 : Int)).length : Int), .bool false, .slice p35 n37 c36, .slice none 0 0, .slice none 0 0, .slice none 0 0, .slice none 0 0, .slice none 0 0, .int .i64 (0 : Int), .map (some B4), .slice none 0 0, .slice none 0 0, .slice none 0 0] 72 (0, 0)), .any (mapE (fun a : List UInt8 => Value.string (gstr a)) (fun a : Int => Value.int .i64 a) B4 (([] : List (Str × Int))))]) ++ A) w30
  have ub := Stp.nil (e := 3) (r := 1) hO
  replace jh := jh.ch ub.ch
  replace cW := cW.ch ub.ch
  replace aj := aj.ch ub.ch
  replace hO := ub.own
  replace a8 := a8.ch ub.ch
  replace hB := hB.trans ub.fr
  have tw := Els.nil (Rp.int .i64) (bl (.row 3 1 none 0 0 [] :: [.row 3 1 none 0 0 [], .row 26 1 none 0 0 [], .row 26 1 p35 n37 c36 eQ, .blk B10 (.cells #[.int .i64 ((ix a0 (0 : Int)).length : Int), .bool false, .slice p35 n37 c36, .slice none 0 0, .slice none 0 0, .slice none 0 0, .slice none 0 0, .slice none 0 0, .int .i64 (0 : Int), .map (some B4), .slice none 0 0, .slice none 0 0, .slice none 0 0] 72 (0, 0)), .any (mapE (fun a : List UInt8 => Value.string (gstr a)) (fun a : Int => Value.int .i64 a) B4 (([] : List (Str × Int))))]) ++ A) w30
  have tx := Stp.nil (e := 39) (r := 2) hO
  replace tw := tw.ch tx.ch
  replace jh := jh.ch tx.ch
  replace cW := cW.ch tx.ch
  replace aj := aj.ch tx.ch
  replace hO := tx.own
  replace a8 := a8.ch tx.ch
  replace hB := hB.trans tx.fr
  have uG := Els.nil (rpRule) (bl (.row 39 2 none 0 0 [] :: [.row 3 1 none 0 0 [], .row 3 1 none 0 0 [], .row 26 1 none 0 0 [], .row 26 1 p35 n37 c36 eQ, .blk B10 (.cells #[.int .i64 ((ix a0 (0 : Int)).length : Int), .bool false, .slice p35 n37 c36, .slice none 0 0, .slice none 0 0, .slice none 0 0, .slice none 0 0, .slice none 0 0, .int .i64 (0 : Int), .map (some B4), .slice none 0 0, .slice none 0 0, .slice none 0 0] 72 (0, 0)), .any (mapE (fun a : List UInt8 => Value.string (gstr a)) (fun a : Int => Value.int .i64 a) B4 (([] : List (Str × Int))))]) ++ A) w30
  have iV := Stp.nil (e := 9) (r := 1) hO
  replace uG := uG.ch iV.ch
  replace tw := tw.ch iV.ch
  replace jh := jh.ch iV.ch
  replace cW := cW.ch iV.ch
  replace aj := aj.ch iV.ch
  replace hO := iV.own
  replace a8 := a8.ch iV.ch
  replace hB := hB.trans iV.fr
  have ve := Els.nil (Rp.str) (bl (.row 9 1 none 0 0 [] :: [.row 39 2 none 0 0 [], .row 3 1 none 0 0 [], .row 3 1 none 0 0 [], .row 26 1 none 0 0 [], .row 26 1 p35 n37 c36 eQ, .blk B10 (.cells #[.int .i64 ((ix a0 (0 : Int)).length : Int), .bool false, .slice p35 n37 c36, .slice none 0 0, .slice none 0 0, .slice none 0 0, .slice none 0 0, .slice none 0 0, .int .i64 (0 : Int), .map (some B4), .slice none 0 0, .slice none 0 0, .slice none 0 0] 72 (0, 0)), .any (mapE (fun a : List UInt8 => Value.string (gstr a)) (fun a : Int => Value.int .i64 a) B4 (([] : List (Str × Int))))]) ++ A) w30
  have g7 := Stp.nil (e := 3) (r := 1) hO
  replace ve := ve.ch g7.ch
  replace uG := uG.ch g7.ch
  replace tw := tw.ch g7.ch
  replace jh := jh.ch g7.ch
  replace cW := cW.ch g7.ch
  replace aj := aj.ch g7.ch
  replace hO := g7.own
  replace a8 := a8.ch g7.ch
  replace hB := hB.trans g7.fr
  have xq := Els.nil (Rp.int .i64) (bl (.row 3 1 none 0 0 [] :: [.row 9 1 none 0 0 [], .row 39 2 none 0 0 [], .row 3 1 none 0 0 [], .row 3 1 none 0 0 [], .row 26 1 none 0 0 [], .row 26 1 p35 n37 c36 eQ, .blk B10 (.cells #[.int .i64 ((ix a0 (0 : Int)).length : Int), .bool false, .slice p35 n37 c36, .slice none 0 0, .slice none 0 0, .slice none 0 0, .slice none 0 0, .slice none 0 0, .int .i64 (0 : Int), .map (some B4), .slice none 0 0, .slice none 0 0, .slice none 0 0] 72 (0, 0)), .any (mapE (fun a : List UInt8 => Value.string (gstr a)) (fun a : Int => Value.int .i64 a) B4 (([] : List (Str × Int))))]) ++ A) w30
  have qh := Stp.nil (e := 3) (r := 1) hO
  replace xq := xq.ch qh.ch
  replace ve := ve.ch qh.ch
  replace uG := uG.ch qh.ch
  replace tw := tw.ch qh.ch
  replace jh := jh.ch qh.ch
  replace cW := cW.ch qh.ch
  replace aj := aj.ch qh.ch
  replace hO := qh.own
  replace a8 := a8.ch qh.ch
  replace hB := hB.trans qh.fr
  have Co := Els.nil (Rp.int .i64) (bl (.row 3 1 none 0 0 [] :: [.row 3 1 none 0 0 [], .row 9 1 none 0 0 [], .row 39 2 none 0 0 [], .row 3 1 none 0 0 [], .row 3 1 none 0 0 [], .row 26 1 none 0 0 [], .row 26 1 p35 n37 c36 eQ, .blk B10 (.cells #[.int .i64 ((ix a0 (0 : Int)).length : Int), .bool false, .slice p35 n37 c36, .slice none 0 0, .slice none 0 0, .slice none 0 0, .slice none 0 0, .slice none 0 0, .int .i64 (0 : Int), .map (some B4), .slice none 0 0, .slice none 0 0, .slice none 0 0] 72 (0, 0)), .any (mapE (fun a : List UInt8 => Value.string (gstr a)) (fun a : Int => Value.int .i64 a) B4 (([] : List (Str × Int))))]) ++ A) w30
  refine Go1.loopW (S := Nat × List Int × List Int × List Str × List Rule × List Int × List Int × List (List Int) × (List (Str × Int))) (fun s σ w => match s with | (k2_110, d_111, d_117, d_123, d_129, d_135, d_141, d_147, m2_153) => ∃ (gI : Nat), ∃ (i9 : Option Addr), ∃ (ja : Nat), ∃ (o5 : List Value), ∃ (gP : Nat), ∃ (hZ : Option Addr), ∃ (iH : Nat), ∃ (ny : List Value), ∃ (gQ : Nat), ∃ (jb : Option Addr), ∃ (jc : Nat), ∃ (nz : List Value), ∃ (gR : Nat), ∃ (iI : Option Addr), ∃ (iJ : Nat), ∃ (nA : List Value), ∃ (gS : Nat), ∃ (ji : Option Addr), ∃ (jj : Nat), ∃ (nB : List Value), ∃ (gT : Nat), ∃ (jH : Option Addr), ∃ (jI : Nat), ∃ (nC : List Value), ∃ (gU : Nat), ∃ (j8 : Option Addr), ∃ (j9 : Nat), ∃ (nD : List Value), agrees σ [(6, .pointer (some ⟨B10, 0, none⟩)), (9, .int .i64 (-1 : Int)), (85, .slice p35 n37 c36), (86, .int .i64 (d_32.length : Int)), (87, .int .i64 (k2_110 : Int))] ∧ Owns w0.heap.size w [.row 3 1 i9 gI ja o5, .row 3 1 hZ gP iH ny, .row 9 1 jb gQ jc nz, .row 39 2 iI gR iJ nA, .row 3 1 ji gS jj nB, .row 3 1 jH gT jI nC, .row 26 1 j8 gU j9 nD, .row 26 1 p35 n37 c36 eQ, .blk B10 (.cells #[.int .i64 ((ix a0 (0 : Int)).length : Int), .bool false, .slice p35 n37 c36, .slice j8 gU j9, .slice jH gT jI, .slice ji gS jj, .slice none 0 0, .slice iI gR iJ, .int .i64 (0 : Int), .map (some B4), .slice jb gQ jc, .slice hZ gP iH, .slice i9 gI ja] 72 (0, 0)), .any (mapE (fun a : List UInt8 => Value.string (gstr a)) (fun a : Int => Value.int .i64 a) B4 m2_153)] A ∧ Els (Rp.int .i64) (bl [.row 3 1 i9 gI ja o5, .row 3 1 hZ gP iH ny, .row 9 1 jb gQ jc nz, .row 39 2 iI gR iJ nA, .row 3 1 ji gS jj nB, .row 3 1 jH gT jI nC, .row 26 1 j8 gU j9 nD, .row 26 1 p35 n37 c36 eQ, .blk B10 (.cells #[.int .i64 ((ix a0 (0 : Int)).length : Int), .bool false, .slice p35 n37 c36, .slice j8 gU j9, .slice jH gT jI, .slice ji gS jj, .slice none 0 0, .slice iI gR iJ, .int .i64 (0 : Int), .map (some B4), .slice jb gQ jc, .slice hZ gP iH, .slice i9 gI ja] 72 (0, 0)), .any (mapE (fun a : List UInt8 => Value.string (gstr a)) (fun a : Int => Value.int .i64 a) B4 m2_153)] ++ A) w o5 d_111 ∧ Els (Rp.int .i64) (bl [.row 3 1 i9 gI ja o5, .row 3 1 hZ gP iH ny, .row 9 1 jb gQ jc nz, .row 39 2 iI gR iJ nA, .row 3 1 ji gS jj nB, .row 3 1 jH gT jI nC, .row 26 1 j8 gU j9 nD, .row 26 1 p35 n37 c36 eQ, .blk B10 (.cells #[.int .i64 ((ix a0 (0 : Int)).length : Int), .bool false, .slice p35 n37 c36, .slice j8 gU j9, .slice jH gT jI, .slice ji gS jj, .slice none 0 0, .slice iI gR iJ, .int .i64 (0 : Int), .map (some B4), .slice jb gQ jc, .slice hZ gP iH, .slice i9 gI ja] 72 (0, 0)), .any (mapE (fun a : List UInt8 => Value.string (gstr a)) (fun a : Int => Value.int .i64 a) B4 m2_153)] ++ A) w ny d_117 ∧ Els (Rp.str) (bl [.row 3 1 i9 gI ja o5, .row 3 1 hZ gP iH ny, .row 9 1 jb gQ jc nz, .row 39 2 iI gR iJ nA, .row 3 1 ji gS jj nB, .row 3 1 jH gT jI nC, .row 26 1 j8 gU j9 nD, .row 26 1 p35 n37 c36 eQ, .blk B10 (.cells #[.int .i64 ((ix a0 (0 : Int)).length : Int), .bool false, .slice p35 n37 c36, .slice j8 gU j9, .slice jH gT jI, .slice ji gS jj, .slice none 0 0, .slice iI gR iJ, .int .i64 (0 : Int), .map (some B4), .slice jb gQ jc, .slice hZ gP iH, .slice i9 gI ja] 72 (0, 0)), .any (mapE (fun a : List UInt8 => Value.string (gstr a)) (fun a : Int => Value.int .i64 a) B4 m2_153)] ++ A) w nz d_123 ∧ Els (rpRule) (bl [.row 3 1 i9 gI ja o5, .row 3 1 hZ gP iH ny, .row 9 1 jb gQ jc nz, .row 39 2 iI gR iJ nA, .row 3 1 ji gS jj nB, .row 3 1 jH gT jI nC, .row 26 1 j8 gU j9 nD, .row 26 1 p35 n37 c36 eQ, .blk B10 (.cells #[.int .i64 ((ix a0 (0 : Int)).length : Int), .bool false, .slice p35 n37 c36, .slice j8 gU j9, .slice jH gT jI, .slice ji gS jj, .slice none 0 0, .slice iI gR iJ, .int .i64 (0 : Int), .map (some B4), .slice jb gQ jc, .slice hZ gP iH, .slice i9 gI ja] 72 (0, 0)), .any (mapE (fun a : List UInt8 => Value.string (gstr a)) (fun a : Int => Value.int .i64 a) B4 m2_153)] ++ A) w nA d_129 ∧ Els (Rp.int .i64) (bl [.row 3 1 i9 gI ja o5, .row 3 1 hZ gP iH ny, .row 9 1 jb gQ jc nz, .row 39 2 iI gR iJ nA, .row 3 1 ji gS jj nB, .row 3 1 jH gT jI nC, .row 26 1 j8 gU j9 nD, .row 26 1 p35 n37 c36 eQ, .blk B10 (.cells #[.int .i64 ((ix a0 (0 : Int)).length : Int), .bool false, .slice p35 n37 c36, .slice j8 gU j9, .slice jH gT jI, .slice ji gS jj, .slice none 0 0, .slice iI gR iJ, .int .i64 (0 : Int), .map (some B4), .slice jb gQ jc, .slice hZ gP iH, .slice i9 gI ja] 72 (0, 0)), .any (mapE (fun a : List UInt8 => Value.string (gstr a)) (fun a : Int => Value.int .i64 a) B4 m2_153)] ++ A) w nB d_135 ∧ Els (Rp.int .i64) (bl [.row 3 1 i9 gI ja o5, .row 3 1 hZ gP iH ny, .row 9 1 jb gQ jc nz, .row 39 2 iI gR iJ nA, .row 3 1 ji gS jj nB, .row 3 1 jH gT jI nC, .row 26 1 j8 gU j9 nD, .row 26 1 p35 n37 c36 eQ, .blk B10 (.cells #[.int .i64 ((ix a0 (0 : Int)).length : Int), .bool false, .slice p35 n37 c36, .slice j8 gU j9, .slice jH gT jI, .slice ji gS jj, .slice none 0 0, .slice iI gR iJ, .int .i64 (0 : Int), .map (some B4), .slice jb gQ jc, .slice hZ gP iH, .slice i9 gI ja] 72 (0, 0)), .any (mapE (fun a : List UInt8 => Value.string (gstr a)) (fun a : Int => Value.int .i64 a) B4 m2_153)] ++ A) w nC d_141 ∧ Els (Rp.sl (Rp.int .i64)) (bl [.row 3 1 i9 gI ja o5, .row 3 1 hZ gP iH ny, .row 9 1 jb gQ jc nz, .row 39 2 iI gR iJ nA, .row 3 1 ji gS jj nB, .row 3 1 jH gT jI nC, .row 26 1 j8 gU j9 nD, .row 26 1 p35 n37 c36 eQ, .blk B10 (.cells #[.int .i64 ((ix a0 (0 : Int)).length : Int), .bool false, .slice p35 n37 c36, .slice j8 gU j9, .slice jH gT jI, .slice ji gS jj, .slice none 0 0, .slice iI gR iJ, .int .i64 (0 : Int), .map (some B4), .slice jb gQ jc, .slice hZ gP iH, .slice i9 gI ja] 72 (0, 0)), .any (mapE (fun a : List UInt8 => Value.string (gstr a)) (fun a : Int => Value.int .i64 a) B4 m2_153)] ++ A) w nD d_147 ∧ Els (Rp.sl (Rp.int .i64)) (bl [.row 3 1 i9 gI ja o5, .row 3 1 hZ gP iH ny, .row 9 1 jb gQ jc nz, .row 39 2 iI gR iJ nA, .row 3 1 ji gS jj nB, .row 3 1 jH gT jI nC, .row 26 1 j8 gU j9 nD, .row 26 1 p35 n37 c36 eQ, .blk B10 (.cells #[.int .i64 ((ix a0 (0 : Int)).length : Int), .bool false, .slice p35 n37 c36, .slice j8 gU j9, .slice jH gT jI, .slice ji gS jj, .slice none 0 0, .slice iI gR iJ, .int .i64 (0 : Int), .map (some B4), .slice jb gQ jc, .slice hZ gP iH, .slice i9 gI ja] 72 (0, 0)), .any (mapE (fun a : List UInt8 => Value.string (gstr a)) (fun a : Int => Value.int .i64 a) B4 m2_153)] ++ A) w eQ d_32 ∧ Fr (bl []) w0 (bl [.row 3 1 i9 gI ja o5, .row 3 1 hZ gP iH ny, .row 9 1 jb gQ jc nz, .row 39 2 iI gR iJ nA, .row 3 1 ji gS jj nB, .row 3 1 jH gT jI nC, .row 26 1 j8 gU j9 nD, .row 26 1 p35 n37 c36 eQ, .blk B10 (.cells #[.int .i64 ((ix a0 (0 : Int)).length : Int), .bool false, .slice p35 n37 c36, .slice j8 gU j9, .slice jH gT jI, .slice ji gS jj, .slice none 0 0, .slice iI gR iJ, .int .i64 (0 : Int), .map (some B4), .slice jb gQ jc, .slice hZ gP iH, .slice i9 gI ja] 72 (0, 0)), .any (mapE (fun a : List UInt8 => Value.string (gstr a)) (fun a : Int => Value.int .i64 a) B4 m2_153)]) w) H ⟨0, none, 0, [], 0, none, 0, [], 0, none, 0, [], 0, none, 0, [], 0, none, 0, [], 0, none, 0, [], 0, none, 0, [], ⟨rfl, rfl, rfl, rfl, rfl, trivial⟩, hO, Co, xq, ve, uG, tw, jh, cW, aj, hB⟩ ?_
  intro X2
  refine prE fun k2_110 => prE fun d_111 => prE fun d_117 => prE fun d_123 => prE fun d_129 => prE fun d_135 => prE fun d_141 => prE fun d_147 => fun m2_153 => ?_
  intro H hX2 σ vG
  refine exE fun gI => exE fun i9 => exE fun ja => exE fun o5 => exE fun gP => exE fun hZ => exE fun iH => exE fun ny => exE fun gQ => exE fun jb => exE fun jc => exE fun nz => exE fun gR => exE fun iI => exE fun iJ => exE fun nA => exE fun gS => exE fun ji => exE fun jj => exE fun nB => exE fun gT => exE fun jH => exE fun jI => exE fun nC => exE fun gU => exE fun j8 => exE fun j9 => exE fun nD => andE fun hag => andE fun hO => andE fun bM => andE fun bP => andE fun bX => andE fun bQ => andE fun cp => andE fun cC => andE fun cX => andE fun aj => fun hB => ?_
  dsimp only at H
  refine Go1.keep [(6, .pointer (some ⟨B10, 0, none⟩)), (9, .int .i64 (-1 : Int)), (85, .slice p35 n37 c36), (86, .int .i64 (d_32.length : Int)), (87, .int .i64 (k2_110 : Int))] hag ?_
  refine Go1.seq ?_
  refine Go1.region ?_
  by_cases vH : (k2_110 : Int) < (d_32.length : Int)
  ·replace H := ifp vH H
   refine GoR.op ((fun w => opB (op_lss rfl rfl w) (decide_eq_true vH)) _) rfl rfl ?_
   refine GoR.nil ?_
   refine Go1.seq ?_
   refine Go1.condT rfl rfl ?_
   refine Go1.skip ?_
   refine Go1.seq ?_
   refine Go1.block ?_
   refine Go1.seq ?_
   refine Go1.region ?_
   refine GoR.op ((op_move rfl) _) rfl rfl ?_
   obtain ⟨uH, H⟩ := H
   obtain ⟨uI, H⟩ := H
   refine GoR.op ((op_index Try.underlying22 ti26 rfl rfl uH (ltn (aj.neq hO 7 rfl) uI) (aj.psome hO 7 rfl uH uI)) _) rfl rfl ?_
   have hobt := oldSl 7 hO rfl aj uH uI
   obtain ⟨zZ, z3, ci, Cp⟩ := hobt
   refine GoR.op ((Cp Try.underlying26 rfl rfl) _ (Same.refl _)) rfl rfl ?_
   refine GoR.op ((op_assign rfl) _) rfl rfl ?_
   refine GoR.op ((op_assign rfl) _) rfl rfl ?_
   refine GoR.nil ?_
   refine Go1.seq ?_
   refine Go1.region ?_
   refine GoR.op ((op_move rfl) _) rfl rfl ?_
   obtain ⟨Gc, H⟩ := H
   refine GoR.op ((op_add rfl rfl (wrap_i64 Gc)) _) rfl rfl ?_
   refine GoR.op ((op_conv Try.underlying3 Try.underlying21 rfl rfl) _) rfl rfl ?_
   obtain ⟨wD, H⟩ := H
   obtain ⟨wE, H⟩ := H
   refine GoR.op ((op_convRS Try.underlying21 Try.underlying9 rfl wD wE) _) rfl rfl ?_
   refine GoR.op ((op_assign rfl) _) rfl rfl ?_
   refine GoR.nil ?_
   refine Go1.seq ?_
   refine Go1.drawS 0 [(0, .pure), (1, .pure), (2, .pure), (3, .stable), (4, .pure), (5, .loud), (6, .stable), (7, .pure), (8, .pure), (9, .pure), (10, .pure), (11, .pure)] mixed (by kernel_rfl) ?_
   intro IH Cq
   have pt := Stp.same hO Cq
   replace bM := bM.ch pt.ch
   replace bP := bP.ch pt.ch
   replace bX := bX.ch pt.ch
   replace bQ := bQ.ch pt.ch
   replace cp := cp.ch pt.ch
   replace cC := cC.ch pt.ch
   replace cX := cX.ch pt.ch
   replace aj := aj.ch pt.ch
   replace hO := pt.own
   replace ci := ci.ch pt.ch
   replace hB := hB.trans pt.fr
   refine GoQ.pure rfl (op_move rfl) rfl rfl ?_
   refine GoQ.pure rfl (op_nilCheck rfl) rfl rfl ?_
   refine GoQ.pure rfl (op_fieldAddr Try.underlying72 rfl ti69 rfl (by decide)) rfl rfl ?_
   refine GoQ.stable rfl (oblk (i := 9) 8 hO rfl rfl Try.underlying69 rfl rfl) rfl rfl ?_
   refine GoQ.pure rfl (op_move rfl) rfl rfl ?_
   refine GoQ.call rfl (op_call body61 rfl (walk_enumerate_text hO.lt ci H)) (fun v w hr => by obtain ⟨_, _, hs, _, _⟩ := hr; assumption) rfl rfl ?_
   rintro II IJ ⟨r167, rfl, Cr, HM, H⟩
   have pv := Stp.same hO Cr
   replace bM := bM.ch pv.ch
   replace bP := bP.ch pv.ch
   replace bX := bX.ch pv.ch
   replace bQ := bQ.ch pv.ch
   replace cp := cp.ch pv.ch
   replace cC := cC.ch pv.ch
   replace cX := cX.ch pv.ch
   replace aj := aj.ch pv.ch
   replace hO := pv.own
   replace ci := ci.ch pv.ch
   replace hB := hB.trans pv.fr
   by_cases tN : mhas m2_153 r167 = true
   ·replace H := ifp tN H
    refine GoQ.stable rfl (olookT (a := r167) (MK.str Try.underlying9) 9 hO rfl Try.underlying69 rfl rfl tN) rfl rfl ?_
    refine GoQ.pure rfl (op_move rfl) rfl rfl ?_
    refine GoQ.pure rfl (op_extract rfl rfl) rfl rfl ?_
    refine GoQ.pure rfl (op_extract rfl rfl) rfl rfl ?_
    refine GoQ.pure rfl (op_assign rfl) rfl rfl ?_
    refine GoQ.pure rfl (op_assign rfl) rfl rfl ?_
    refine GoQ.nil ?_
    refine Go1.seq ?_
    refine Go1.seq ?_
    refine Go1.cut [(6, .pointer (some ⟨B10, 0, none⟩)), (9, .int .i64 (-1 : Int)), (10, .int .i64 (k2_110 : Int)), (11, .slice zZ ((ix d_32 (k2_110 : Int)).length) z3), (12, .string (gstr (chr (IntKind.i32.wrap ((97 : Int) + (k2_110 : Int)))))), (13, .int .i64 (mgt m2_153 r167)), (14, .bool true), (85, .slice p35 n37 c36), (86, .int .i64 (d_32.length : Int)), (87, .int .i64 (k2_110 : Int))] ⟨rfl, rfl, rfl, rfl, rfl, rfl, rfl, rfl, rfl, rfl, trivial⟩ ?_
    intro σ _
    refine Go1.region ?_
    refine GoR.op ((op_move rfl) _) rfl rfl ?_
    refine GoR.nil ?_
    refine Go1.condT rfl rfl ?_
    refine Go1.drawS 5 [(0, .pure), (1, .pure), (2, .pure), (3, .pure), (4, .pure), (5, .stable), (6, .pure), (7, .pure), (8, .pure), (9, .pure), (10, .stable), (11, .pure), (12, .pure), (13, .stable), (14, .pure), (15, .loud), (16, .last), (17, .pure), (18, .pure), (19, .pure), (20, .last)] mixed (by kernel_rfl) ?_
    intro IK Cs
    have px := Stp.same hO Cs
    replace bM := bM.ch px.ch
    replace bP := bP.ch px.ch
    replace bX := bX.ch px.ch
    replace bQ := bQ.ch px.ch
    replace cp := cp.ch px.ch
    replace cC := cC.ch px.ch
    replace cX := cX.ch px.ch
    replace aj := aj.ch px.ch
    replace hO := px.own
    replace ci := ci.ch px.ch
    replace hB := hB.trans px.fr
    refine GoQ.pure rfl (op_move rfl) rfl rfl ?_
    refine GoQ.pure rfl (op_move rfl) rfl rfl ?_
    refine GoQ.pure rfl (op_nilCheck rfl) rfl rfl ?_
    refine GoQ.pure rfl (op_fieldAddr Try.underlying72 rfl ti29 rfl (by decide)) rfl rfl ?_
    refine GoQ.pure rfl (op_fieldAddr Try.underlying29 rfl ti27 rfl (by decide)) rfl rfl ?_
    refine GoQ.stable rfl (oblk (i := 7) 8 hO rfl rfl Try.underlying27 rfl rfl) rfl rfl ?_
    refine GoQ.pure rfl (op_move rfl) rfl rfl ?_
    refine GoQ.pure rfl (op_move rfl) rfl rfl ?_
    refine GoQ.pure rfl (op_nilCheck rfl) rfl rfl ?_
    refine GoQ.pure rfl (op_fieldAddr Try.underlying72 rfl ti70 rfl (by decide)) rfl rfl ?_
    refine GoQ.stable rfl (oblk (i := 10) 8 hO rfl rfl Try.underlying70 rfl rfl) rfl rfl ?_
    refine GoQ.pure rfl (op_move rfl) rfl rfl ?_
    obtain ⟨xr, H⟩ := H
    obtain ⟨xt, H⟩ := H
    refine GoQ.pure rfl (op_index Try.underlying70 ti9 rfl rfl xr (ltn (bX.neq hO 2 rfl) xt) (bX.psome hO 2 rfl xr xt)) rfl rfl ?_
    refine GoQ.stable rfl (oldStr 2 hO rfl bX xr xt Try.underlying9 rfl rfl) rfl rfl ?_
    have hle179 := Els.str_le bX xr xt
    refine GoQ.pure rfl (op_build Try.underlying39 ti39 (pl := [(0, 1), (1, 1)]) (vs := [(0, .string (gstr (chr (IntKind.i32.wrap ((97 : Int) + (k2_110 : Int)))))), (1, .string (gstr (ix d_123 (mgt m2_153 r167))))]) (cs := #[.string (gstr (chr (IntKind.i32.wrap ((97 : Int) + (k2_110 : Int))))), .string (gstr (ix d_123 (mgt m2_153 r167)))]) (by kernel_rfl) rfl (by kernel_rfl)) rfl rfl ?_
    have hobt := obuildN (r := rpRule) (n := 1) (parts := [(0, .agg #[.string (gstr (chr (IntKind.i32.wrap ((97 : Int) + (k2_110 : Int))))), .string (gstr (ix d_123 (mgt m2_153 r167)))])]) (vs := [.string (gstr (chr (IntKind.i32.wrap ((97 : Int) + (k2_110 : Int))))), .string (gstr (ix d_123 (mgt m2_153 r167)))]) (xs := [(⟨chr (IntKind.i32.wrap ((97 : Int) + (k2_110 : Int))), ix d_123 (mgt m2_153 r167)⟩ : Rule)]) Try.underlying27 ti39 hO (by decide) (by decide) (by kernel_rfl) (Els.flat1 (⟨chr (IntKind.i32.wrap ((97 : Int) + (k2_110 : Int))), ix d_123 (mgt m2_153 r167)⟩ : Rule) ⟨(chr_le _), hle179⟩) rfl
    obtain ⟨IL, IM, iW, Ct, Cu, z4⟩ := hobt
    refine GoQ.loud rfl (z4 rfl) Cu rfl rfl ?_
    replace bM := bM.ch iW.ch
    replace bP := bP.ch iW.ch
    replace bX := bX.ch iW.ch
    replace bQ := bQ.ch iW.ch
    replace cp := cp.ch iW.ch
    replace cC := cC.ch iW.ch
    replace cX := cX.ch iW.ch
    replace aj := aj.ch iW.ch
    replace hO := iW.own
    replace ci := ci.ch iW.ch
    replace hB := hB.trans iW.fr
    have hobt := freeze 0 hO rfl Ct
    obtain ⟨hO1, rH, o6, Cv⟩ := hobt
    dsimp only [eS, eZ] at hO1 rH o6
    replace ci := ci.ch rH
    replace bM := bM.ch rH
    replace bP := bP.ch rH
    replace bX := bX.ch rH
    replace bQ := bQ.ch rH
    replace cp := cp.ch rH
    replace cC := cC.ch rH
    replace cX := cX.ch rH
    replace aj := aj.ch rH
    replace hB := hB.trans (Owns.dropFr _ _ 0)
    dsimp only [eS, eZ] at hB
    replace hO := hO1; clear hO1
    obtain ⟨Gd, H⟩ := H
    have hobt := oapp Try.underlying27 ti39 rfl 3 hO rfl bQ o6 Cv Gd (by decide)
    obtain ⟨IN, xv, xw, Cw, n8, qm, z5⟩ := hobt
    dsimp only [sS, sZ] at n8 qm
    refine GoQ.last rfl (z5 (by exact rfl) (by exact rfl)) rfl rfl ?_
    replace bM := bM.ch n8.ch
    replace bP := bP.ch n8.ch
    replace bX := bX.ch n8.ch
    replace cp := cp.ch n8.ch
    replace cC := cC.ch n8.ch
    replace cX := cX.ch n8.ch
    replace aj := aj.ch n8.ch
    replace hO := n8.own
    replace ci := ci.ch n8.ch
    replace o6 := o6.ch n8.ch
    replace hB := hB.trans n8.fr
    refine GoQ.pure rfl (op_nilCheck rfl) rfl rfl ?_
    refine GoQ.pure rfl (op_fieldAddr Try.underlying72 rfl ti29 rfl (by decide)) rfl rfl ?_
    refine GoQ.pure rfl (op_fieldAddr Try.underlying29 rfl ti27 rfl (by decide)) rfl rfl ?_
    have hobt := oblkSt2 (v := .slice xv (gR + 1) xw) (i := 7) (cs' := #[.int .i64 ((ix a0 (0 : Int)).length : Int), .bool false, .slice p35 n37 c36, .slice j8 gU j9, .slice jH gT jI, .slice ji gS jj, .slice none 0 0, .slice xv (gR + 1) xw, .int .i64 (0 : Int), .map (some B4), .slice jb gQ jc, .slice hZ gP iH, .slice i9 gI ja]) 8 hO rfl rfl rfl rfl
    obtain ⟨IQ, m6, z6⟩ := hobt
    dsimp only [sS, sZ] at m6
    refine GoQ.last rfl (z6 Try.underlying27 rfl ti27 (by exact rfl) (by exact rfl)) rfl rfl ?_
    replace bM := bM.ch m6.ch
    replace bP := bP.ch m6.ch
    replace bX := bX.ch m6.ch
    replace qm := qm.ch m6.ch
    replace cp := cp.ch m6.ch
    replace cC := cC.ch m6.ch
    replace cX := cX.ch m6.ch
    replace aj := aj.ch m6.ch
    replace hO := m6.own
    replace ci := ci.ch m6.ch
    replace o6 := o6.ch m6.ch
    replace hB := hB.trans m6.fr
    refine GoQ.nil ?_
    refine Go1.cut [(6, .pointer (some ⟨B10, 0, none⟩)), (9, .int .i64 (-1 : Int)), (13, .int .i64 (mgt m2_153 r167)), (85, .slice p35 n37 c36), (86, .int .i64 (d_32.length : Int)), (87, .int .i64 (k2_110 : Int))] ⟨rfl, rfl, rfl, rfl, rfl, rfl, trivial⟩ ?_
    intro σ _
    refine Go1.region ?_
    refine GoR.op ((op_move rfl) _) rfl rfl ?_
    refine GoR.op ((op_move rfl) _) rfl rfl ?_
    refine GoR.op ((op_nilCheck rfl) _) rfl rfl ?_
    refine GoR.op ((op_fieldAddr Try.underlying72 rfl ti26 rfl (by decide)) _) rfl rfl ?_
    refine GoR.op ((oblk (i := 12) 8 hO rfl rfl Try.underlying26 rfl rfl) _ (Same.refl _)) rfl rfl ?_
    refine GoR.op ((op_move rfl) _) rfl rfl ?_
    have hobt := obuild (r := Rp.int .i64) (n := 1) (parts := [(0, .int .i64 (mgt m2_153 r167))]) (vs := [.int .i64 (mgt m2_153 r167)]) (xs := [(mgt m2_153 r167)]) rfl Try.underlying26 ti3 hO (by decide) (by kernel_rfl) (Els.cons rfl rfl (Els.nil _ _ _) (by simp [mx])) rfl
    obtain ⟨Ge, IR, n9, Cx, H0, z7⟩ := hobt
    refine GoR.op (z7 rfl) rfl rfl ?_
    replace bM := bM.ch n9.ch
    replace bP := bP.ch n9.ch
    replace bX := bX.ch n9.ch
    replace qm := qm.ch n9.ch
    replace cp := cp.ch n9.ch
    replace cC := cC.ch n9.ch
    replace cX := cX.ch n9.ch
    replace aj := aj.ch n9.ch
    replace hO := n9.own
    replace ci := ci.ch n9.ch
    replace o6 := o6.ch n9.ch
    replace hB := hB.trans n9.fr
    have hobt := freeze 0 hO rfl Cx
    obtain ⟨hO1, qH, uc, Cy⟩ := hobt
    dsimp only [eS, eZ] at hO1 qH uc
    replace ci := ci.ch qH
    replace o6 := o6.ch qH
    replace bM := bM.ch qH
    replace bP := bP.ch qH
    replace bX := bX.ch qH
    replace qm := qm.ch qH
    replace cp := cp.ch qH
    replace cC := cC.ch qH
    replace cX := cX.ch qH
    replace aj := aj.ch qH
    replace hB := hB.trans (Owns.dropFr _ _ 0)
    dsimp only [eS, eZ] at hB
    replace hO := hO1; clear hO1
    obtain ⟨wF, H⟩ := H
    have hobt := oapp Try.underlying26 ti3 rfl 0 hO rfl bM uc Cy wF (by decide)
    obtain ⟨Gf, yJ, yK, Cz, m7, wr, z8⟩ := hobt
    dsimp only [sS, sZ] at m7 wr
    refine GoR.op (z8 (by exact rfl) (by exact rfl)) rfl rfl ?_
    replace bP := bP.ch m7.ch
    replace bX := bX.ch m7.ch
    replace qm := qm.ch m7.ch
    replace cp := cp.ch m7.ch
    replace cC := cC.ch m7.ch
    replace cX := cX.ch m7.ch
    replace aj := aj.ch m7.ch
    replace hO := m7.own
    replace ci := ci.ch m7.ch
    replace o6 := o6.ch m7.ch
    replace uc := uc.ch m7.ch
    replace hB := hB.trans m7.fr
    refine GoR.op ((op_nilCheck rfl) _) rfl rfl ?_
    refine GoR.op ((op_fieldAddr Try.underlying72 rfl ti26 rfl (by decide)) _) rfl rfl ?_
    have hobt := oblkSt2 (v := .slice yJ (gI + 1) yK) (i := 12) (cs' := #[.int .i64 ((ix a0 (0 : Int)).length : Int), .bool false, .slice p35 n37 c36, .slice j8 gU j9, .slice jH gT jI, .slice ji gS jj, .slice none 0 0, .slice xv (gR + 1) xw, .int .i64 (0 : Int), .map (some B4), .slice jb gQ jc, .slice hZ gP iH, .slice yJ (gI + 1) yK]) 8 hO rfl rfl rfl rfl
    obtain ⟨IS, eO, z9⟩ := hobt
    dsimp only [sS, sZ] at eO
    refine GoR.op (z9 Try.underlying26 rfl ti26 (by exact rfl) (by exact rfl)) rfl rfl ?_
    replace wr := wr.ch eO.ch
    replace bP := bP.ch eO.ch
    replace bX := bX.ch eO.ch
    replace qm := qm.ch eO.ch
    replace cp := cp.ch eO.ch
    replace cC := cC.ch eO.ch
    replace cX := cX.ch eO.ch
    replace aj := aj.ch eO.ch
    replace hO := eO.own
    replace ci := ci.ch eO.ch
    replace o6 := o6.ch eO.ch
    replace uc := uc.ch eO.ch
    replace hB := hB.trans eO.fr
    refine GoR.nil ?_
    refine Go1.inBlock ?_
    refine Go1.region ?_
    refine GoR.op ((op_add rfl rfl (wrap_i64 (natbd vH aj.bd))) _) rfl rfl ?_
    refine GoR.op ((op_move rfl) _) rfl rfl ?_
    refine GoR.nil ?_
    exact hX2 _ H _ _ ⟨gI + 1, yJ, yK, Cz, gP, hZ, iH, ny, gQ, jb, jc, nz, gR + 1, xv, xw, Cw, gS, ji, jj, nB, gT, jH, jI, nC, gU, j8, j9, nD, ⟨rfl, rfl, rfl, rfl, rfl, trivial⟩, hO, wr, bP, bX, qm, cp, cC, cX, aj, hB⟩
   replace H := ifn tN H
   refine GoQ.stable rfl (olookF (a := r167) (MK.str Try.underlying9) 9 hO rfl Try.underlying69 ti3 rfl rfl tN) rfl rfl ?_
   refine GoQ.pure rfl (op_move rfl) rfl rfl ?_
   refine GoQ.pure rfl (op_extract rfl rfl) rfl rfl ?_
   refine GoQ.pure rfl (op_extract rfl rfl) rfl rfl ?_
   refine GoQ.pure rfl (op_assign rfl) rfl rfl ?_
   refine GoQ.pure rfl (op_assign rfl) rfl rfl ?_
   refine GoQ.nil ?_
   refine Go1.seq ?_
   refine Go1.seq ?_
   refine Go1.region ?_
   refine GoR.op ((op_move rfl) _) rfl rfl ?_
   refine GoR.nil ?_
   refine Go1.condF rfl rfl ?_
   refine Go1.cut [(6, .pointer (some ⟨B10, 0, none⟩)), (9, .int .i64 (-1 : Int)), (10, .int .i64 (k2_110 : Int)), (11, .slice zZ ((ix d_32 (k2_110 : Int)).length) z3), (12, .string (gstr (chr (IntKind.i32.wrap ((97 : Int) + (k2_110 : Int)))))), (85, .slice p35 n37 c36), (86, .int .i64 (d_32.length : Int)), (87, .int .i64 (k2_110 : Int))] ⟨rfl, rfl, rfl, rfl, rfl, rfl, rfl, rfl, trivial⟩ ?_
   intro σ _
   refine Go1.region ?_
   refine GoR.op ((op_move rfl) _) rfl rfl ?_
   refine GoR.op ((op_move rfl) _) rfl rfl ?_
   refine GoR.call (op_call body64 rfl (walk_slices_Clone_int hO.lt ci H)) rfl rfl ?_
   rintro IT IU ⟨r224, tO, rV, rW, HN, rfl, CA, hN228, rI, H⟩
   have oa := Stp.more hO CA hN228
   dsimp only [List.cons_append, List.nil_append] at oa
   replace bM := bM.ch oa.ch
   replace bP := bP.ch oa.ch
   replace bX := bX.ch oa.ch
   replace bQ := bQ.ch oa.ch
   replace cp := cp.ch oa.ch
   replace cC := cC.ch oa.ch
   replace cX := cX.ch oa.ch
   replace aj := aj.ch oa.ch
   replace hO := oa.own
   replace ci := ci.ch oa.ch
   replace hB := hB.trans oa.fr
   replace rI := rI.ch (Ch.assoc _ _ _ _)
   refine GoR.op ((op_move rfl) _) rfl rfl ?_
   refine GoR.op ((op_move rfl) _) rfl rfl ?_
   refine GoR.op ((op_move rfl) _) rfl rfl ?_
   refine GoR.op ((op_move rfl) _) rfl rfl ?_
   refine GoR.inl (vs := [.pointer (some ⟨B10, 0, none⟩), .slice rV tO rW, .int .i64 (-1 : Int), .int .i64 (k2_110 : Int), .string (gstr (chr (IntKind.i32.wrap ((97 : Int) + (k2_110 : Int))))), .int .i64 (-1 : Int)]) (caps := []) rfl rfl body65 Try.func65 rfl Try.ntmps65 rfl rfl rfl ?_
   intro RhR232 hR232
   refine Go1.seq ?_
   refine Go1.region ?_
   refine GoR.op ((op_assign rfl) _) rfl rfl ?_
   refine GoR.nil ?_
   refine Go1.seq ?_
   refine Go1.region ?_
   refine GoR.op ((op_move rfl) _) rfl rfl ?_
   refine GoR.op ((op_nilCheck rfl) _) rfl rfl ?_
   refine GoR.op ((op_fieldAddr Try.underlying72 rfl ti29 rfl (by decide)) _) rfl rfl ?_
   refine GoR.op ((op_fieldAddr Try.underlying29 rfl ti22 rfl (by decide)) _) rfl rfl ?_
   refine GoR.op ((oblk (i := 3) 9 hO rfl rfl Try.underlying22 rfl rfl) _ (Same.refl _)) rfl rfl ?_
   refine GoR.op ((op_lenN Try.underlying22 rfl (cX.neq hO 7 rfl)) _) rfl rfl ?_
   refine GoR.op ((op_assign rfl) _) rfl rfl ?_
   refine GoR.nil ?_
   refine Go1.seq ?_
   refine Go1.drawS 1 [(0, .pure), (1, .pure), (2, .pure), (3, .stable), (4, .pure), (6, .pure), (5, .loud), (7, .last)] mixed (by kernel_rfl) ?_
   intro IV CB
   have ob := Stp.same hO CB
   replace rI := rI.ch ob.ch
   replace bM := bM.ch ob.ch
   replace bP := bP.ch ob.ch
   replace bX := bX.ch ob.ch
   replace bQ := bQ.ch ob.ch
   replace cp := cp.ch ob.ch
   replace cC := cC.ch ob.ch
   replace cX := cX.ch ob.ch
   replace aj := aj.ch ob.ch
   replace hO := ob.own
   replace ci := ci.ch ob.ch
   replace hB := hB.trans ob.fr
   refine GoQ.pure rfl (op_move rfl) rfl rfl ?_
   refine GoQ.pure rfl (op_nilCheck rfl) rfl rfl ?_
   refine GoQ.pure rfl (op_fieldAddr Try.underlying72 rfl ti69 rfl (by decide)) rfl rfl ?_
   refine GoQ.stable rfl (oblk (i := 9) 9 hO rfl rfl Try.underlying69 rfl rfl) rfl rfl ?_
   refine GoQ.pure rfl (op_move rfl) rfl rfl ?_
   refine GoQ.pure rfl (op_move rfl) rfl rfl ?_
   have hobt := rowlend 0 hO rfl rI
   obtain ⟨CC, CD⟩ := hobt
   have hOc238 := hO.drop 0
   refine GoQ.call rfl (op_call body61 (show ([.slice rV tO rW] : List Value) = [.slice rV r224.length rW] from by rw [← CD]) (walk_enumerate_text hOc238.lt CC H)) (fun v w hr => by obtain ⟨_, _, hs, _, _⟩ := hr; assumption) rfl rfl ?_
   rintro IW Gg ⟨r239, rfl, xx, HO, H⟩
   have oc := Stp.same hO xx
   replace rI := rI.ch oc.ch
   replace bM := bM.ch oc.ch
   replace bP := bP.ch oc.ch
   replace bX := bX.ch oc.ch
   replace bQ := bQ.ch oc.ch
   replace cp := cp.ch oc.ch
   replace cC := cC.ch oc.ch
   replace cX := cX.ch oc.ch
   replace aj := aj.ch oc.ch
   replace hO := oc.own
   replace ci := ci.ch oc.ch
   replace hB := hB.trans oc.fr
   have hobt := omapUpd (MK.str Try.underlying9) 10 hO rfl Try.underlying69 r239 (d_147.length : Int)
   obtain ⟨IX, m8, Aa⟩ := hobt
   dsimp only [sS, sZ] at m8
   refine GoQ.last rfl (Aa (by exact rfl) (by exact rfl) (by exact rfl)) rfl rfl ?_
   replace rI := rI.ch m8.ch
   replace bM := bM.ch m8.ch
   replace bP := bP.ch m8.ch
   replace bX := bX.ch m8.ch
   replace bQ := bQ.ch m8.ch
   replace cp := cp.ch m8.ch
   replace cC := cC.ch m8.ch
   replace cX := cX.ch m8.ch
   replace aj := aj.ch m8.ch
   replace hO := m8.own
   replace ci := ci.ch m8.ch
   replace hB := hB.trans m8.fr
   refine GoQ.nil ?_
   refine Go1.seq ?_
   refine Go1.cut [(0, .pointer (some ⟨B10, 0, none⟩)), (1, .slice rV tO rW), (2, .int .i64 (-1 : Int)), (3, .int .i64 (k2_110 : Int)), (4, .string (gstr (chr (IntKind.i32.wrap ((97 : Int) + (k2_110 : Int)))))), (5, .int .i64 (-1 : Int)), (13, .int .i64 (d_147.length : Int))] ⟨rfl, rfl, rfl, rfl, rfl, rfl, rfl, trivial⟩ ?_
   intro σ _
   refine Go1.region ?_
   refine GoR.op ((op_move rfl) _) rfl rfl ?_
   refine GoR.op ((op_move rfl) _) rfl rfl ?_
   refine GoR.op ((op_nilCheck rfl) _) rfl rfl ?_
   refine GoR.op ((op_fieldAddr Try.underlying72 rfl ti29 rfl (by decide)) _) rfl rfl ?_
   refine GoR.op ((op_fieldAddr Try.underlying29 rfl ti22 rfl (by decide)) _) rfl rfl ?_
   refine GoR.op ((oblk (i := 3) 9 hO rfl rfl Try.underlying22 rfl rfl) _ (Same.refl _)) rfl rfl ?_
   refine GoR.op ((op_move rfl) _) rfl rfl ?_
   have hobt := freeze 0 hO rfl rI
   obtain ⟨hO1, rJ, du, CE⟩ := hobt
   dsimp only [eS, eZ] at hO1 rJ du
   replace ci := ci.ch rJ
   replace bM := bM.ch rJ
   replace bP := bP.ch rJ
   replace bX := bX.ch rJ
   replace bQ := bQ.ch rJ
   replace cp := cp.ch rJ
   replace cC := cC.ch rJ
   replace cX := cX.ch rJ
   replace aj := aj.ch rJ
   replace hB := hB.trans (Owns.dropFr _ _ 0)
   dsimp only [eS, eZ] at hB
   replace hO := hO1; clear hO1
   have hobt := obuild (r := Rp.sl (Rp.int .i64)) (n := 1) (parts := [(0, .slice rV tO rW)]) (vs := [.slice rV tO rW]) (xs := [r224]) rfl Try.underlying22 ti26 hO (by decide) (by kernel_rfl) (Els.cons rfl ⟨rV, rW, congrArg some (congrArg (fun nn => Value.slice rV nn rW) CE), du⟩ (Els.nil _ _ _) (by simp [mx])) rfl
   obtain ⟨IY, IZ, od, CF, H1, Ab⟩ := hobt
   refine GoR.op (Ab rfl) rfl rfl ?_
   replace bM := bM.ch od.ch
   replace bP := bP.ch od.ch
   replace bX := bX.ch od.ch
   replace bQ := bQ.ch od.ch
   replace cp := cp.ch od.ch
   replace cC := cC.ch od.ch
   replace cX := cX.ch od.ch
   replace aj := aj.ch od.ch
   replace hO := od.own
   replace ci := ci.ch od.ch
   replace du := du.ch od.ch
   replace hB := hB.trans od.fr
   have hobt := freeze 0 hO rfl CF
   obtain ⟨hO1, qI, dC, CG⟩ := hobt
   dsimp only [eS, eZ] at hO1 qI dC
   replace ci := ci.ch qI
   replace du := du.ch qI
   replace bM := bM.ch qI
   replace bP := bP.ch qI
   replace bX := bX.ch qI
   replace bQ := bQ.ch qI
   replace cp := cp.ch qI
   replace cC := cC.ch qI
   replace cX := cX.ch qI
   replace aj := aj.ch qI
   replace hB := hB.trans (Owns.dropFr _ _ 0)
   dsimp only [eS, eZ] at hB
   replace hO := hO1; clear hO1
   obtain ⟨Gh, H⟩ := H
   have hobt := oapp Try.underlying22 ti26 rfl 6 hO rfl cX dC CG Gh (by decide)
   obtain ⟨I0, tP, tQ, CH, m9, dF, Ac⟩ := hobt
   dsimp only [sS, sZ] at m9 dF
   refine GoR.op (Ac (by exact rfl) (by exact rfl)) rfl rfl ?_
   replace bM := bM.ch m9.ch
   replace bP := bP.ch m9.ch
   replace bX := bX.ch m9.ch
   replace bQ := bQ.ch m9.ch
   replace cp := cp.ch m9.ch
   replace cC := cC.ch m9.ch
   replace aj := aj.ch m9.ch
   replace hO := m9.own
   replace ci := ci.ch m9.ch
   replace du := du.ch m9.ch
   replace dC := dC.ch m9.ch
   replace hB := hB.trans m9.fr
   refine GoR.op ((op_nilCheck rfl) _) rfl rfl ?_
   refine GoR.op ((op_fieldAddr Try.underlying72 rfl ti29 rfl (by decide)) _) rfl rfl ?_
   refine GoR.op ((op_fieldAddr Try.underlying29 rfl ti22 rfl (by decide)) _) rfl rfl ?_
   have hobt := oblkSt2 (v := .slice tP (gU + 1) tQ) (i := 3) (cs' := #[.int .i64 ((ix a0 (0 : Int)).length : Int), .bool false, .slice p35 n37 c36, .slice tP (gU + 1) tQ, .slice jH gT jI, .slice ji gS jj, .slice none 0 0, .slice iI gR iJ, .int .i64 (0 : Int), .map (some B4), .slice jb gQ jc, .slice hZ gP iH, .slice i9 gI ja]) 8 hO rfl rfl rfl rfl
   obtain ⟨I1, ms, Ad⟩ := hobt
   dsimp only [sS, sZ] at ms
   refine GoR.op (Ad Try.underlying22 rfl ti22 (by exact rfl) (by exact rfl)) rfl rfl ?_
   replace bM := bM.ch ms.ch
   replace bP := bP.ch ms.ch
   replace bX := bX.ch ms.ch
   replace bQ := bQ.ch ms.ch
   replace cp := cp.ch ms.ch
   replace cC := cC.ch ms.ch
   replace dF := dF.ch ms.ch
   replace aj := aj.ch ms.ch
   replace hO := ms.own
   replace ci := ci.ch ms.ch
   replace du := du.ch ms.ch
   replace dC := dC.ch ms.ch
   replace hB := hB.trans ms.fr
   refine GoR.nil ?_
   refine Go1.seq ?_
   refine Go1.region ?_
   refine GoR.op ((op_move rfl) _) rfl rfl ?_
   refine GoR.op ((op_move rfl) _) rfl rfl ?_
   refine GoR.op ((op_nilCheck rfl) _) rfl rfl ?_
   refine GoR.op ((op_fieldAddr Try.underlying72 rfl ti29 rfl (by decide)) _) rfl rfl ?_
   refine GoR.op ((op_fieldAddr Try.underlying29 rfl ti26 rfl (by decide)) _) rfl rfl ?_
   refine GoR.op ((oblk (i := 4) 8 hO rfl rfl Try.underlying26 rfl rfl) _ (Same.refl _)) rfl rfl ?_
   refine GoR.op ((op_move rfl) _) rfl rfl ?_
   have hobt := obuild (r := Rp.int .i64) (n := 1) (parts := [(0, .int .i64 (-1 : Int))]) (vs := [.int .i64 (-1 : Int)]) (xs := [(-1 : Int)]) rfl Try.underlying26 ti3 hO (by decide) (by kernel_rfl) (Els.cons rfl rfl (Els.nil _ _ _) (by simp [mx])) rfl
   obtain ⟨I2, I3, na, CJ, H2, Ae⟩ := hobt
   refine GoR.op (Ae rfl) rfl rfl ?_
   replace bM := bM.ch na.ch
   replace bP := bP.ch na.ch
   replace bX := bX.ch na.ch
   replace bQ := bQ.ch na.ch
   replace cp := cp.ch na.ch
   replace cC := cC.ch na.ch
   replace dF := dF.ch na.ch
   replace aj := aj.ch na.ch
   replace hO := na.own
   replace ci := ci.ch na.ch
   replace du := du.ch na.ch
   replace dC := dC.ch na.ch
   replace hB := hB.trans na.fr
   have hobt := freeze 0 hO rfl CJ
   obtain ⟨hO1, qn, eH, CK⟩ := hobt
   dsimp only [eS, eZ] at hO1 qn eH
   replace ci := ci.ch qn
   replace du := du.ch qn
   replace dC := dC.ch qn
   replace bM := bM.ch qn
   replace bP := bP.ch qn
   replace bX := bX.ch qn
   replace bQ := bQ.ch qn
   replace cp := cp.ch qn
   replace cC := cC.ch qn
   replace dF := dF.ch qn
   replace aj := aj.ch qn
   replace hB := hB.trans (Owns.dropFr _ _ 0)
   dsimp only [eS, eZ] at hB
   replace hO := hO1; clear hO1
   obtain ⟨Gi, H⟩ := H
   have hobt := oapp Try.underlying26 ti3 rfl 5 hO rfl cC eH CK Gi (by decide)
   obtain ⟨Gj, uJ, uK, CM, mt, eW, Af⟩ := hobt
   dsimp only [sS, sZ] at mt eW
   refine GoR.op (Af (by exact rfl) (by exact rfl)) rfl rfl ?_
   replace bM := bM.ch mt.ch
   replace bP := bP.ch mt.ch
   replace bX := bX.ch mt.ch
   replace bQ := bQ.ch mt.ch
   replace cp := cp.ch mt.ch
   replace dF := dF.ch mt.ch
   replace aj := aj.ch mt.ch
   replace hO := mt.own
   replace ci := ci.ch mt.ch
   replace du := du.ch mt.ch
   replace dC := dC.ch mt.ch
   replace eH := eH.ch mt.ch
   replace hB := hB.trans mt.fr
   refine GoR.op ((op_nilCheck rfl) _) rfl rfl ?_
   refine GoR.op ((op_fieldAddr Try.underlying72 rfl ti29 rfl (by decide)) _) rfl rfl ?_
   refine GoR.op ((op_fieldAddr Try.underlying29 rfl ti26 rfl (by decide)) _) rfl rfl ?_
   have hobt := oblkSt2 (v := .slice uJ (gT + 1) uK) (i := 4) (cs' := #[.int .i64 ((ix a0 (0 : Int)).length : Int), .bool false, .slice p35 n37 c36, .slice tP (gU + 1) tQ, .slice uJ (gT + 1) uK, .slice ji gS jj, .slice none 0 0, .slice iI gR iJ, .int .i64 (0 : Int), .map (some B4), .slice jb gQ jc, .slice hZ gP iH, .slice i9 gI ja]) 8 hO rfl rfl rfl rfl
   obtain ⟨I4, lT, Ag⟩ := hobt
   dsimp only [sS, sZ] at lT
   refine GoR.op (Ag Try.underlying26 rfl ti26 (by exact rfl) (by exact rfl)) rfl rfl ?_
   replace bM := bM.ch lT.ch
   replace bP := bP.ch lT.ch
   replace bX := bX.ch lT.ch
   replace bQ := bQ.ch lT.ch
   replace cp := cp.ch lT.ch
   replace eW := eW.ch lT.ch
   replace dF := dF.ch lT.ch
   replace aj := aj.ch lT.ch
   replace hO := lT.own
   replace ci := ci.ch lT.ch
   replace du := du.ch lT.ch
   replace dC := dC.ch lT.ch
   replace eH := eH.ch lT.ch
   replace hB := hB.trans lT.fr
   refine GoR.nil ?_
   refine Go1.seq ?_
   refine Go1.cut [(0, .pointer (some ⟨B10, 0, none⟩)), (3, .int .i64 (k2_110 : Int)), (4, .string (gstr (chr (IntKind.i32.wrap ((97 : Int) + (k2_110 : Int)))))), (5, .int .i64 (-1 : Int)), (13, .int .i64 (d_147.length : Int))] ⟨rfl, rfl, rfl, rfl, rfl, trivial⟩ ?_
   intro σ _
   refine Go1.region ?_
   refine GoR.op ((op_move rfl) _) rfl rfl ?_
   refine GoR.op ((op_move rfl) _) rfl rfl ?_
   refine GoR.op ((op_nilCheck rfl) _) rfl rfl ?_
   refine GoR.op ((op_fieldAddr Try.underlying72 rfl ti29 rfl (by decide)) _) rfl rfl ?_
   refine GoR.op ((op_fieldAddr Try.underlying29 rfl ti26 rfl (by decide)) _) rfl rfl ?_
   refine GoR.op ((oblk (i := 5) 8 hO rfl rfl Try.underlying26 rfl rfl) _ (Same.refl _)) rfl rfl ?_
   refine GoR.op ((op_move rfl) _) rfl rfl ?_
   have hobt := obuild (r := Rp.int .i64) (n := 1) (parts := [(0, .int .i64 (k2_110 : Int))]) (vs := [.int .i64 (k2_110 : Int)]) (xs := [(k2_110 : Int)]) rfl Try.underlying26 ti3 hO (by decide) (by kernel_rfl) (Els.cons rfl rfl (Els.nil _ _ _) (by simp [mx])) rfl
   obtain ⟨I5, I6, mv, CO, H3, Ah⟩ := hobt
   refine GoR.op (Ah rfl) rfl rfl ?_
   replace bM := bM.ch mv.ch
   replace bP := bP.ch mv.ch
   replace bX := bX.ch mv.ch
   replace bQ := bQ.ch mv.ch
   replace cp := cp.ch mv.ch
   replace eW := eW.ch mv.ch
   replace dF := dF.ch mv.ch
   replace aj := aj.ch mv.ch
   replace hO := mv.own
   replace ci := ci.ch mv.ch
   replace du := du.ch mv.ch
   replace dC := dC.ch mv.ch
   replace eH := eH.ch mv.ch
   replace hB := hB.trans mv.fr
   have hobt := freeze 0 hO rfl CO
   obtain ⟨hO1, pT, gE, CP⟩ := hobt
   dsimp only [eS, eZ] at hO1 pT gE
   replace ci := ci.ch pT
   replace du := du.ch pT
   replace dC := dC.ch pT
   replace eH := eH.ch pT
   replace bM := bM.ch pT
   replace bP := bP.ch pT
   replace bX := bX.ch pT
   replace bQ := bQ.ch pT
   replace cp := cp.ch pT
   replace eW := eW.ch pT
   replace dF := dF.ch pT
   replace aj := aj.ch pT
   replace hB := hB.trans (Owns.dropFr _ _ 0)
   dsimp only [eS, eZ] at hB
   replace hO := hO1; clear hO1
   obtain ⟨Gk, H⟩ := H
   have hobt := oapp Try.underlying26 ti3 rfl 4 hO rfl cp gE CP Gk (by decide)
   obtain ⟨I7, vI, vJ, CQ, lU, gL, Ai⟩ := hobt
   dsimp only [sS, sZ] at lU gL
   refine GoR.op (Ai (by exact rfl) (by exact rfl)) rfl rfl ?_
   replace bM := bM.ch lU.ch
   replace bP := bP.ch lU.ch
   replace bX := bX.ch lU.ch
   replace bQ := bQ.ch lU.ch
   replace eW := eW.ch lU.ch
   replace dF := dF.ch lU.ch
   replace aj := aj.ch lU.ch
   replace hO := lU.own
   replace ci := ci.ch lU.ch
   replace du := du.ch lU.ch
   replace dC := dC.ch lU.ch
   replace eH := eH.ch lU.ch
   replace gE := gE.ch lU.ch
   replace hB := hB.trans lU.fr
   refine GoR.op ((op_nilCheck rfl) _) rfl rfl ?_
   refine GoR.op ((op_fieldAddr Try.underlying72 rfl ti29 rfl (by decide)) _) rfl rfl ?_
   refine GoR.op ((op_fieldAddr Try.underlying29 rfl ti26 rfl (by decide)) _) rfl rfl ?_
   have hobt := oblkSt2 (v := .slice vI (gS + 1) vJ) (i := 5) (cs' := #[.int .i64 ((ix a0 (0 : Int)).length : Int), .bool false, .slice p35 n37 c36, .slice tP (gU + 1) tQ, .slice uJ (gT + 1) uK, .slice vI (gS + 1) vJ, .slice none 0 0, .slice iI gR iJ, .int .i64 (0 : Int), .map (some B4), .slice jb gQ jc, .slice hZ gP iH, .slice i9 gI ja]) 8 hO rfl rfl rfl rfl
   obtain ⟨I8, ll, Aj⟩ := hobt
   dsimp only [sS, sZ] at ll
   refine GoR.op (Aj Try.underlying26 rfl ti26 (by exact rfl) (by exact rfl)) rfl rfl ?_
   replace bM := bM.ch ll.ch
   replace bP := bP.ch ll.ch
   replace bX := bX.ch ll.ch
   replace bQ := bQ.ch ll.ch
   replace gL := gL.ch ll.ch
   replace eW := eW.ch ll.ch
   replace dF := dF.ch ll.ch
   replace aj := aj.ch ll.ch
   replace hO := ll.own
   replace ci := ci.ch ll.ch
   replace du := du.ch ll.ch
   replace dC := dC.ch ll.ch
   replace eH := eH.ch ll.ch
   replace gE := gE.ch ll.ch
   replace hB := hB.trans ll.fr
   refine GoR.nil ?_
   refine Go1.seq ?_
   refine Go1.region ?_
   refine GoR.op ((op_move rfl) _) rfl rfl ?_
   refine GoR.op ((op_move rfl) _) rfl rfl ?_
   refine GoR.op ((op_nilCheck rfl) _) rfl rfl ?_
   refine GoR.op ((op_fieldAddr Try.underlying72 rfl ti70 rfl (by decide)) _) rfl rfl ?_
   refine GoR.op ((oblk (i := 10) 8 hO rfl rfl Try.underlying70 rfl rfl) _ (Same.refl _)) rfl rfl ?_
   refine GoR.op ((op_move rfl) _) rfl rfl ?_
   have hobt := obuild (r := Rp.str) (n := 1) (parts := [(0, .string (gstr (chr (IntKind.i32.wrap ((97 : Int) + (k2_110 : Int))))))]) (vs := [.string (gstr (chr (IntKind.i32.wrap ((97 : Int) + (k2_110 : Int)))))]) (xs := [chr (IntKind.i32.wrap ((97 : Int) + (k2_110 : Int)))]) rfl Try.underlying70 ti9 hO (by decide) (by kernel_rfl) (Els.cons rfl ⟨rfl, (chr_le _)⟩ (Els.nil _ _ _) (by simp [mx])) rfl
   obtain ⟨Gl, I9, lV, CR, H4, Ak⟩ := hobt
   refine GoR.op (Ak rfl) rfl rfl ?_
   replace bM := bM.ch lV.ch
   replace bP := bP.ch lV.ch
   replace bX := bX.ch lV.ch
   replace bQ := bQ.ch lV.ch
   replace gL := gL.ch lV.ch
   replace eW := eW.ch lV.ch
   replace dF := dF.ch lV.ch
   replace aj := aj.ch lV.ch
   replace hO := lV.own
   replace ci := ci.ch lV.ch
   replace du := du.ch lV.ch
   replace dC := dC.ch lV.ch
   replace eH := eH.ch lV.ch
   replace gE := gE.ch lV.ch
   replace hB := hB.trans lV.fr
   have hobt := freeze 0 hO rfl CR
   obtain ⟨hO1, o7, jL, CT⟩ := hobt
   dsimp only [eS, eZ] at hO1 o7 jL
   replace ci := ci.ch o7
   replace du := du.ch o7
   replace dC := dC.ch o7
   replace eH := eH.ch o7
   replace gE := gE.ch o7
   replace bM := bM.ch o7
   replace bP := bP.ch o7
   replace bX := bX.ch o7
   replace bQ := bQ.ch o7
   replace gL := gL.ch o7
   replace eW := eW.ch o7
   replace dF := dF.ch o7
   replace aj := aj.ch o7
   replace hB := hB.trans (Owns.dropFr _ _ 0)
   dsimp only [eS, eZ] at hB
   replace hO := hO1; clear hO1
   obtain ⟨Gm, H⟩ := H
   have hobt := oapp Try.underlying70 ti9 rfl 2 hO rfl bX jL CT Gm (by decide)
   obtain ⟨Ja, wG, wH, CU, lm, li, Al⟩ := hobt
   dsimp only [sS, sZ] at lm li
   refine GoR.op (Al (by exact rfl) (by exact rfl)) rfl rfl ?_
   replace bM := bM.ch lm.ch
   replace bP := bP.ch lm.ch
   replace bQ := bQ.ch lm.ch
   replace gL := gL.ch lm.ch
   replace eW := eW.ch lm.ch
   replace dF := dF.ch lm.ch
   replace aj := aj.ch lm.ch
   replace hO := lm.own
   replace ci := ci.ch lm.ch
   replace du := du.ch lm.ch
   replace dC := dC.ch lm.ch
   replace eH := eH.ch lm.ch
   replace gE := gE.ch lm.ch
   replace jL := jL.ch lm.ch
   replace hB := hB.trans lm.fr
   refine GoR.op ((op_nilCheck rfl) _) rfl rfl ?_
   refine GoR.op ((op_fieldAddr Try.underlying72 rfl ti70 rfl (by decide)) _) rfl rfl ?_
   have hobt := oblkSt2 (v := .slice wG (gQ + 1) wH) (i := 10) (cs' := #[.int .i64 ((ix a0 (0 : Int)).length : Int), .bool false, .slice p35 n37 c36, .slice tP (gU + 1) tQ, .slice uJ (gT + 1) uK, .slice vI (gS + 1) vJ, .slice none 0 0, .slice iI gR iJ, .int .i64 (0 : Int), .map (some B4), .slice wG (gQ + 1) wH, .slice hZ gP iH, .slice i9 gI ja]) 8 hO rfl rfl rfl rfl
   obtain ⟨Jb, kj, Am⟩ := hobt
   dsimp only [sS, sZ] at kj
   refine GoR.op (Am Try.underlying70 rfl ti70 (by exact rfl) (by exact rfl)) rfl rfl ?_
   replace bM := bM.ch kj.ch
   replace bP := bP.ch kj.ch
   replace li := li.ch kj.ch
   replace bQ := bQ.ch kj.ch
   replace gL := gL.ch kj.ch
   replace eW := eW.ch kj.ch
   replace dF := dF.ch kj.ch
   replace aj := aj.ch kj.ch
   replace hO := kj.own
   replace ci := ci.ch kj.ch
   replace du := du.ch kj.ch
   replace dC := dC.ch kj.ch
   replace eH := eH.ch kj.ch
   replace gE := gE.ch kj.ch
   replace jL := jL.ch kj.ch
   replace hB := hB.trans kj.fr
   refine GoR.nil ?_
   refine Go1.seq ?_
   refine Go1.cut [(0, .pointer (some ⟨B10, 0, none⟩)), (5, .int .i64 (-1 : Int)), (13, .int .i64 (d_147.length : Int))] ⟨rfl, rfl, rfl, trivial⟩ ?_
   intro σ _
   refine Go1.region ?_
   refine GoR.op ((op_move rfl) _) rfl rfl ?_
   refine GoR.op ((op_move rfl) _) rfl rfl ?_
   refine GoR.op ((op_nilCheck rfl) _) rfl rfl ?_
   refine GoR.op ((op_fieldAddr Try.underlying72 rfl ti26 rfl (by decide)) _) rfl rfl ?_
   refine GoR.op ((oblk (i := 11) 8 hO rfl rfl Try.underlying26 rfl rfl) _ (Same.refl _)) rfl rfl ?_
   refine GoR.op ((op_move rfl) _) rfl rfl ?_
   have hobt := obuild (r := Rp.int .i64) (n := 1) (parts := [(0, .int .i64 (-1 : Int))]) (vs := [.int .i64 (-1 : Int)]) (xs := [(-1 : Int)]) rfl Try.underlying26 ti3 hO (by decide) (by kernel_rfl) (Els.cons rfl rfl (Els.nil _ _ _) (by simp [mx])) rfl
   obtain ⟨Jc, Jd, lp, CV, H5, Ao⟩ := hobt
   refine GoR.op (Ao rfl) rfl rfl ?_
   replace bM := bM.ch lp.ch
   replace bP := bP.ch lp.ch
   replace li := li.ch lp.ch
   replace bQ := bQ.ch lp.ch
   replace gL := gL.ch lp.ch
   replace eW := eW.ch lp.ch
   replace dF := dF.ch lp.ch
   replace aj := aj.ch lp.ch
   replace hO := lp.own
   replace ci := ci.ch lp.ch
   replace du := du.ch lp.ch
   replace dC := dC.ch lp.ch
   replace eH := eH.ch lp.ch
   replace gE := gE.ch lp.ch
   replace jL := jL.ch lp.ch
   replace hB := hB.trans lp.fr
   have hobt := freeze 0 hO rfl CV
   obtain ⟨hO1, nE, o8, CW⟩ := hobt
   dsimp only [eS, eZ] at hO1 nE o8
   replace ci := ci.ch nE
   replace du := du.ch nE
   replace dC := dC.ch nE
   replace eH := eH.ch nE
   replace gE := gE.ch nE
   replace jL := jL.ch nE
   replace bM := bM.ch nE
   replace bP := bP.ch nE
   replace li := li.ch nE
   replace bQ := bQ.ch nE
   replace gL := gL.ch nE
   replace eW := eW.ch nE
   replace dF := dF.ch nE
   replace aj := aj.ch nE
   replace hB := hB.trans (Owns.dropFr _ _ 0)
   dsimp only [eS, eZ] at hB
   replace hO := hO1; clear hO1
   obtain ⟨Gn, H⟩ := H
   have hobt := oapp Try.underlying26 ti3 rfl 1 hO rfl bP o8 CW Gn (by decide)
   obtain ⟨Je, xz, xA, CX, kl, qo, Ap⟩ := hobt
   dsimp only [sS, sZ] at kl qo
   refine GoR.op (Ap (by exact rfl) (by exact rfl)) rfl rfl ?_
   replace bM := bM.ch kl.ch
   replace li := li.ch kl.ch
   replace bQ := bQ.ch kl.ch
   replace gL := gL.ch kl.ch
   replace eW := eW.ch kl.ch
   replace dF := dF.ch kl.ch
   replace aj := aj.ch kl.ch
   replace hO := kl.own
   replace ci := ci.ch kl.ch
   replace du := du.ch kl.ch
   replace dC := dC.ch kl.ch
   replace eH := eH.ch kl.ch
   replace gE := gE.ch kl.ch
   replace jL := jL.ch kl.ch
   replace o8 := o8.ch kl.ch
   replace hB := hB.trans kl.fr
   refine GoR.op ((op_nilCheck rfl) _) rfl rfl ?_
   refine GoR.op ((op_fieldAddr Try.underlying72 rfl ti26 rfl (by decide)) _) rfl rfl ?_
   have hobt := oblkSt2 (v := .slice xz (gP + 1) xA) (i := 11) (cs' := #[.int .i64 ((ix a0 (0 : Int)).length : Int), .bool false, .slice p35 n37 c36, .slice tP (gU + 1) tQ, .slice uJ (gT + 1) uK, .slice vI (gS + 1) vJ, .slice none 0 0, .slice iI gR iJ, .int .i64 (0 : Int), .map (some B4), .slice wG (gQ + 1) wH, .slice xz (gP + 1) xA, .slice i9 gI ja]) 8 hO rfl rfl rfl rfl
   obtain ⟨Jf, jR, Aq⟩ := hobt
   dsimp only [sS, sZ] at jR
   refine GoR.op (Aq Try.underlying26 rfl ti26 (by exact rfl) (by exact rfl)) rfl rfl ?_
   replace bM := bM.ch jR.ch
   replace qo := qo.ch jR.ch
   replace li := li.ch jR.ch
   replace bQ := bQ.ch jR.ch
   replace gL := gL.ch jR.ch
   replace eW := eW.ch jR.ch
   replace dF := dF.ch jR.ch
   replace aj := aj.ch jR.ch
   replace hO := jR.own
   replace ci := ci.ch jR.ch
   replace du := du.ch jR.ch
   replace dC := dC.ch jR.ch
   replace eH := eH.ch jR.ch
   replace gE := gE.ch jR.ch
   replace jL := jL.ch jR.ch
   replace o8 := o8.ch jR.ch
   replace hB := hB.trans jR.fr
   refine GoR.nil ?_
   refine Go1.seq ?_
   refine Go1.region ?_
   refine GoR.op ((op_move rfl) _) rfl rfl ?_
   refine GoR.op ((op_assign rfl) _) rfl rfl ?_
   refine GoR.nil ?_
   refine Go1.ret1V Try.func65 rfl (show _ = .int .i64 (d_147.length : Int) from rfl) ?_
   refine hR232 _ _ ?_
   refine GoR.op ((op_assign rfl) _) rfl rfl ?_
   refine GoR.nil ?_
   refine Go1.region ?_
   refine GoR.op ((op_move rfl) _) rfl rfl ?_
   refine GoR.op ((op_move rfl) _) rfl rfl ?_
   refine GoR.op ((op_nilCheck rfl) _) rfl rfl ?_
   refine GoR.op ((op_fieldAddr Try.underlying72 rfl ti26 rfl (by decide)) _) rfl rfl ?_
   refine GoR.op ((oblk (i := 12) 8 hO rfl rfl Try.underlying26 rfl rfl) _ (Same.refl _)) rfl rfl ?_
   refine GoR.op ((op_move rfl) _) rfl rfl ?_
   have hobt := obuild (r := Rp.int .i64) (n := 1) (parts := [(0, .int .i64 (d_147.length : Int))]) (vs := [.int .i64 (d_147.length : Int)]) (xs := [(d_147.length : Int)]) rfl Try.underlying26 ti3 hO (by decide) (by kernel_rfl) (Els.cons rfl rfl (Els.nil _ _ _) (by simp [mx])) rfl
   obtain ⟨Jg, Jh, km, CZ, H6, Ar⟩ := hobt
   refine GoR.op (Ar rfl) rfl rfl ?_
   replace bM := bM.ch km.ch
   replace qo := qo.ch km.ch
   replace li := li.ch km.ch
   replace bQ := bQ.ch km.ch
   replace gL := gL.ch km.ch
   replace eW := eW.ch km.ch
   replace dF := dF.ch km.ch
   replace aj := aj.ch km.ch
   replace hO := km.own
   replace ci := ci.ch km.ch
   replace du := du.ch km.ch
   replace dC := dC.ch km.ch
   replace eH := eH.ch km.ch
   replace gE := gE.ch km.ch
   replace jL := jL.ch km.ch
   replace o8 := o8.ch km.ch
   replace hB := hB.trans km.fr
   have hobt := freeze 0 hO rfl CZ
   obtain ⟨hO1, mT, ud, C0⟩ := hobt
   dsimp only [eS, eZ] at hO1 mT ud
   replace ci := ci.ch mT
   replace du := du.ch mT
   replace dC := dC.ch mT
   replace eH := eH.ch mT
   replace gE := gE.ch mT
   replace jL := jL.ch mT
   replace o8 := o8.ch mT
   replace bM := bM.ch mT
   replace qo := qo.ch mT
   replace li := li.ch mT
   replace bQ := bQ.ch mT
   replace gL := gL.ch mT
   replace eW := eW.ch mT
   replace dF := dF.ch mT
   replace aj := aj.ch mT
   replace hB := hB.trans (Owns.dropFr _ _ 0)
   dsimp only [eS, eZ] at hB
   replace hO := hO1; clear hO1
   obtain ⟨Gp, H⟩ := H
   have hobt := oapp Try.underlying26 ti3 rfl 0 hO rfl bM ud C0 Gp (by decide)
   obtain ⟨Ji, yL, yM, C1, jS, ws, At⟩ := hobt
   dsimp only [sS, sZ] at jS ws
   refine GoR.op (At (by exact rfl) (by exact rfl)) rfl rfl ?_
   replace qo := qo.ch jS.ch
   replace li := li.ch jS.ch
   replace bQ := bQ.ch jS.ch
   replace gL := gL.ch jS.ch
   replace eW := eW.ch jS.ch
   replace dF := dF.ch jS.ch
   replace aj := aj.ch jS.ch
   replace hO := jS.own
   replace ci := ci.ch jS.ch
   replace du := du.ch jS.ch
   replace dC := dC.ch jS.ch
   replace eH := eH.ch jS.ch
   replace gE := gE.ch jS.ch
   replace jL := jL.ch jS.ch
   replace o8 := o8.ch jS.ch
   replace ud := ud.ch jS.ch
   replace hB := hB.trans jS.fr
   refine GoR.op ((op_nilCheck rfl) _) rfl rfl ?_
   refine GoR.op ((op_fieldAddr Try.underlying72 rfl ti26 rfl (by decide)) _) rfl rfl ?_
   have hobt := oblkSt2 (v := .slice yL (gI + 1) yM) (i := 12) (cs' := #[.int .i64 ((ix a0 (0 : Int)).length : Int), .bool false, .slice p35 n37 c36, .slice tP (gU + 1) tQ, .slice uJ (gT + 1) uK, .slice vI (gS + 1) vJ, .slice none 0 0, .slice iI gR iJ, .int .i64 (0 : Int), .map (some B4), .slice wG (gQ + 1) wH, .slice xz (gP + 1) xA, .slice yL (gI + 1) yM]) 8 hO rfl rfl rfl rfl
   obtain ⟨Jj, jk, Au⟩ := hobt
   dsimp only [sS, sZ] at jk
   refine GoR.op (Au Try.underlying26 rfl ti26 (by exact rfl) (by exact rfl)) rfl rfl ?_
   replace ws := ws.ch jk.ch
   replace qo := qo.ch jk.ch
   replace li := li.ch jk.ch
   replace bQ := bQ.ch jk.ch
   replace gL := gL.ch jk.ch
   replace eW := eW.ch jk.ch
   replace dF := dF.ch jk.ch
   replace aj := aj.ch jk.ch
   replace hO := jk.own
   replace ci := ci.ch jk.ch
   replace du := du.ch jk.ch
   replace dC := dC.ch jk.ch
   replace eH := eH.ch jk.ch
   replace gE := gE.ch jk.ch
   replace jL := jL.ch jk.ch
   replace o8 := o8.ch jk.ch
   replace ud := ud.ch jk.ch
   replace hB := hB.trans jk.fr
   refine GoR.nil ?_
   refine Go1.inBlock ?_
   refine Go1.cut [(6, .pointer (some ⟨B10, 0, none⟩)), (9, .int .i64 (-1 : Int)), (85, .slice p35 n37 c36), (86, .int .i64 (d_32.length : Int)), (87, .int .i64 (k2_110 : Int))] ⟨rfl, rfl, rfl, rfl, rfl, trivial⟩ ?_
   intro σ _
   refine Go1.region ?_
   refine GoR.op ((op_add rfl rfl (wrap_i64 (natbd vH aj.bd))) _) rfl rfl ?_
   refine GoR.op ((op_move rfl) _) rfl rfl ?_
   refine GoR.nil ?_
   exact hX2 _ H _ _ ⟨gI + 1, yL, yM, C1, gP + 1, xz, xA, CX, gQ + 1, wG, wH, CU, gR, iI, iJ, nA, gS + 1, vI, vJ, CQ, gT + 1, uJ, uK, CM, gU + 1, tP, tQ, CH, ⟨rfl, rfl, rfl, rfl, rfl, trivial⟩, hO, ws, qo, li, bQ, gL, eW, dF, aj, hB⟩
  replace H := ifn vH H
  refine GoR.op ((fun w => opB (op_lss rfl rfl w) (decide_eq_false vH)) _) rfl rfl ?_
  refine GoR.nil ?_
  refine Go1.seq ?_
  refine Go1.condF rfl rfl ?_
  refine Go1.exit rfl ?_
  refine Go1.seq ?_
  refine Go1.region ?_
  refine GoR.op ((op_move rfl) _) rfl rfl ?_
  refine GoR.op ((op_assign rfl) _) rfl rfl ?_
  refine GoR.op ((op_assign rfl) _) rfl rfl ?_
  refine GoR.nil ?_
  have qi := Stp.nil (e := 26) (r := 1) hO
  replace bM := bM.ch qi.ch
  replace bP := bP.ch qi.ch
  replace bX := bX.ch qi.ch
  replace bQ := bQ.ch qi.ch
  replace cp := cp.ch qi.ch
  replace cC := cC.ch qi.ch
  replace cX := cX.ch qi.ch
  replace aj := aj.ch qi.ch
  replace hO := qi.own
  replace hB := hB.trans qi.fr
  have jl := Els.nil (Rp.sl (Rp.int .i64)) (bl (.row 26 1 none 0 0 [] :: [.row 3 1 i9 gI ja o5, .row 3 1 hZ gP iH ny, .row 9 1 jb gQ jc nz, .row 39 2 iI gR iJ nA, .row 3 1 ji gS jj nB, .row 3 1 jH gT jI nC, .row 26 1 j8 gU j9 nD, .row 26 1 p35 n37 c36 eQ, .blk B10 (.cells #[.int .i64 ((ix a0 (0 : Int)).length : Int), .bool false, .slice p35 n37 c36, .slice j8 gU j9, .slice jH gT jI, .slice ji gS jj, .slice none 0 0, .slice iI gR iJ, .int .i64 (0 : Int), .map (some B4), .slice jb gQ jc, .slice hZ gP iH, .slice i9 gI ja] 72 (0, 0)), .any (mapE (fun a : List UInt8 => Value.string (gstr a)) (fun a : Int => Value.int .i64 a) B4 m2_153)]) ++ A) vG
  have eY := Stp.front 10 hO rfl
  dsimp only [eS, eZ] at eY
  replace jl := jl.ch eY.ch
  replace bM := bM.ch eY.ch
  replace bP := bP.ch eY.ch
  replace bX := bX.ch eY.ch
  replace bQ := bQ.ch eY.ch
  replace cp := cp.ch eY.ch
  replace cC := cC.ch eY.ch
  replace cX := cX.ch eY.ch
  replace aj := aj.ch eY.ch
  replace hO := eY.own
  replace hB := hB.trans eY.fr
  have oe := Stp.front 2 hO rfl
  dsimp only [eS, eZ] at oe
  replace jl := jl.ch oe.ch
  replace bM := bM.ch oe.ch
  replace bP := bP.ch oe.ch
  replace bX := bX.ch oe.ch
  replace bQ := bQ.ch oe.ch
  replace cp := cp.ch oe.ch
  replace cC := cC.ch oe.ch
  replace cX := cX.ch oe.ch
  replace aj := aj.ch oe.ch
  replace hO := oe.own
  replace hB := hB.trans oe.fr
  have eU := Stp.front 3 hO rfl
  dsimp only [eS, eZ] at eU
  replace bM := bM.ch eU.ch
  replace jl := jl.ch eU.ch
  replace bP := bP.ch eU.ch
  replace bX := bX.ch eU.ch
  replace bQ := bQ.ch eU.ch
  replace cp := cp.ch eU.ch
  replace cC := cC.ch eU.ch
  replace cX := cX.ch eU.ch
  replace aj := aj.ch eU.ch
  replace hO := eU.own
  replace hB := hB.trans eU.fr
  have og := Stp.front 4 hO rfl
  dsimp only [eS, eZ] at og
  replace bP := bP.ch og.ch
  replace bM := bM.ch og.ch
  replace jl := jl.ch og.ch
  replace bX := bX.ch og.ch
  replace bQ := bQ.ch og.ch
  replace cp := cp.ch og.ch
  replace cC := cC.ch og.ch
  replace cX := cX.ch og.ch
  replace aj := aj.ch og.ch
  replace hO := og.own
  replace hB := hB.trans og.fr
  have oh := Stp.front 5 hO rfl
  dsimp only [eS, eZ] at oh
  replace bX := bX.ch oh.ch
  replace bP := bP.ch oh.ch
  replace bM := bM.ch oh.ch
  replace jl := jl.ch oh.ch
  replace bQ := bQ.ch oh.ch
  replace cp := cp.ch oh.ch
  replace cC := cC.ch oh.ch
  replace cX := cX.ch oh.ch
  replace aj := aj.ch oh.ch
  replace hO := oh.own
  replace hB := hB.trans oh.fr
  have ol := Stp.front 5 hO rfl
  dsimp only [eS, eZ] at ol
  replace bQ := bQ.ch ol.ch
  replace bX := bX.ch ol.ch
  replace bP := bP.ch ol.ch
  replace bM := bM.ch ol.ch
  replace jl := jl.ch ol.ch
  replace cp := cp.ch ol.ch
  replace cC := cC.ch ol.ch
  replace cX := cX.ch ol.ch
  replace aj := aj.ch ol.ch
  replace hO := ol.own
  replace hB := hB.trans ol.fr
  have e8 := Stp.front 6 hO rfl
  dsimp only [eS, eZ] at e8
  replace jl := jl.ch e8.ch
  replace bQ := bQ.ch e8.ch
  replace bX := bX.ch e8.ch
  replace bP := bP.ch e8.ch
  replace bM := bM.ch e8.ch
  replace cp := cp.ch e8.ch
  replace cC := cC.ch e8.ch
  replace cX := cX.ch e8.ch
  replace aj := aj.ch e8.ch
  replace hO := e8.own
  replace hB := hB.trans e8.fr
  have om := Stp.front 7 hO rfl
  dsimp only [eS, eZ] at om
  replace cp := cp.ch om.ch
  replace jl := jl.ch om.ch
  replace bQ := bQ.ch om.ch
  replace bX := bX.ch om.ch
  replace bP := bP.ch om.ch
  replace bM := bM.ch om.ch
  replace cC := cC.ch om.ch
  replace cX := cX.ch om.ch
  replace aj := aj.ch om.ch
  replace hO := om.own
  replace hB := hB.trans om.fr
  have oo := Stp.front 8 hO rfl
  dsimp only [eS, eZ] at oo
  replace cC := cC.ch oo.ch
  replace cp := cp.ch oo.ch
  replace jl := jl.ch oo.ch
  replace bQ := bQ.ch oo.ch
  replace bX := bX.ch oo.ch
  replace bP := bP.ch oo.ch
  replace bM := bM.ch oo.ch
  replace cX := cX.ch oo.ch
  replace aj := aj.ch oo.ch
  replace hO := oo.own
  replace hB := hB.trans oo.fr
  have oq := Stp.front 9 hO rfl
  dsimp only [eS, eZ] at oq
  replace cX := cX.ch oq.ch
  replace cC := cC.ch oq.ch
  replace cp := cp.ch oq.ch
  replace jl := jl.ch oq.ch
  replace bQ := bQ.ch oq.ch
  replace bX := bX.ch oq.ch
  replace bP := bP.ch oq.ch
  replace bM := bM.ch oq.ch
  replace aj := aj.ch oq.ch
  replace hO := oq.own
  replace hB := hB.trans oq.fr
  have ot := Stp.front 10 hO rfl
  dsimp only [eS, eZ] at ot
  replace aj := aj.ch ot.ch
  replace cX := cX.ch ot.ch
  replace cC := cC.ch ot.ch
  replace cp := cp.ch ot.ch
  replace jl := jl.ch ot.ch
  replace bQ := bQ.ch ot.ch
  replace bX := bX.ch ot.ch
  replace bP := bP.ch ot.ch
  replace bM := bM.ch ot.ch
  replace hO := ot.own
  replace hB := hB.trans ot.fr
  refine Go1.ret2 Try.func49 rfl ?_
  exact Or.inr ⟨(⟨(⟨((ix a0 (0 : Int)).length : Int), false, d_32, d_147, d_141, d_135, ([] : List (List Int)), d_129, (0 : Int)⟩ : Enum), m2_153, d_123, d_117, d_111⟩ : run), ((0 : Int)), B10, n37, p35, c36, eQ, gU, j8, j9, nD, gT, jH, jI, nC, gS, ji, jj, nB, 0, none, 0, ([]), gR, iI, iJ, nA, B4, gQ, jb, jc, nz, gP, hZ, iH, ny, gI, i9, ja, o5, rfl, hB.same, hO, aj, cX, cC, cp, jl, bQ, bX, bP, bM, H⟩
 replace H := ifp rfl H
 refine Go1.condT rfl rfl ?_
 refine Go1.region ?_
 refine GoR.op ((op_move rfl) _) rfl rfl ?_
 refine GoR.op ((op_move rfl) _) rfl rfl ?_
 refine GoR.op ((op_nilCheck rfl) _) rfl rfl ?_
 refine GoR.op ((op_fieldAddr Try.underlying72 rfl ti29 rfl (by decide)) _) rfl rfl ?_
 refine GoR.op ((op_fieldAddr Try.underlying29 rfl ti3 rfl (by decide)) _) rfl rfl ?_
 refine GoR.op ((oblk (i := 0) 1 hO rfl rfl Try.underlying3 rfl rfl) _ (Same.refl _)) rfl rfl ?_
 refine GoR.call (op_call body62 rfl (walk_trans_Identity hO.lt H)) rfl rfl ?_
 rintro Jk Jl ⟨r397, tR, tS, rfl, C2, cA, H⟩
 have vg := Stp.same hO C2
 replace aj := aj.ch vg.ch
 replace hO := vg.own
 replace a8 := a8.ch vg.ch
 replace hB := hB.trans vg.fr
 refine GoR.inl (vs := [.pointer (some ⟨B10, 0, none⟩), .slice tR r397.length tS, .int .i64 (-1 : Int), .int .i64 (-1 : Int), .string (gstr (([] : Str))), .int .i64 (-1 : Int)]) (caps := []) rfl rfl body65 Try.func65 rfl Try.ntmps65 rfl rfl rfl ?_
 intro RhR403 hR403
 refine Go1.seq ?_
 refine Go1.region ?_
 refine GoR.op ((op_assign rfl) _) rfl rfl ?_
 refine GoR.nil ?_
 refine Go1.seq ?_
 refine Go1.region ?_
 refine GoR.op ((op_move rfl) _) rfl rfl ?_
 refine GoR.op ((op_nilCheck rfl) _) rfl rfl ?_
 refine GoR.op ((op_fieldAddr Try.underlying72 rfl ti29 rfl (by decide)) _) rfl rfl ?_
 refine GoR.op ((op_fieldAddr Try.underlying29 rfl ti22 rfl (by decide)) _) rfl rfl ?_
 refine GoR.op ((oblk (i := 3) 1 hO rfl rfl Try.underlying22 rfl rfl) _ (Same.refl _)) rfl rfl ?_
 refine GoR.op ((op_len Try.underlying22 rfl) _) rfl rfl ?_
 refine GoR.op ((op_assign rfl) _) rfl rfl ?_
 refine GoR.nil ?_
 refine Go1.seq ?_
 refine Go1.cut [(0, .pointer (some ⟨B10, 0, none⟩)), (1, .slice tR r397.length tS), (2, .int .i64 (-1 : Int)), (3, .int .i64 (-1 : Int)), (4, .string (gstr (([] : Str)))), (5, .int .i64 (-1 : Int)), (13, .int .i64 (0 : Int))] ⟨rfl, rfl, rfl, rfl, rfl, rfl, rfl, trivial⟩ ?_
 intro σ _
 refine Go1.drawS 1 [(0, .pure), (1, .pure), (2, .pure), (3, .stable), (4, .pure), (6, .pure), (5, .loud), (7, .last)] mixed (by kernel_rfl) ?_
 intro Jm C3
 have tT := Stp.same hO C3
 replace aj := aj.ch tT.ch
 replace hO := tT.own
 replace a8 := a8.ch tT.ch
 replace cA := cA.ch tT.ch
 replace hB := hB.trans tT.fr
 refine GoQ.pure rfl (op_move rfl) rfl rfl ?_
 refine GoQ.pure rfl (op_nilCheck rfl) rfl rfl ?_
 refine GoQ.pure rfl (op_fieldAddr Try.underlying72 rfl ti69 rfl (by decide)) rfl rfl ?_
 refine GoQ.stable rfl (oblk (i := 9) 1 hO rfl rfl Try.underlying69 rfl rfl) rfl rfl ?_
 refine GoQ.pure rfl (op_move rfl) rfl rfl ?_
 refine GoQ.pure rfl (op_move rfl) rfl rfl ?_
 refine GoQ.call rfl (op_call body61 rfl (walk_enumerate_text hO.lt cA H)) (fun v w hr => by obtain ⟨_, _, hs, _, _⟩ := hr; assumption) rfl rfl ?_
 rintro Jo Jp ⟨r407, rfl, C4, HP, H⟩
 have tU := Stp.same hO C4
 replace aj := aj.ch tU.ch
 replace hO := tU.own
 replace a8 := a8.ch tU.ch
 replace cA := cA.ch tU.ch
 replace hB := hB.trans tU.fr
 have hobt := omapUpd (MK.str Try.underlying9) 2 hO rfl Try.underlying69 r407 (0 : Int)
 obtain ⟨Jq, gV, Aw⟩ := hobt
 refine GoQ.last rfl (Aw (by exact rfl) (by exact rfl) (by exact rfl)) rfl rfl ?_
 replace aj := aj.ch gV.ch
 replace hO := gV.own
 replace a8 := a8.ch gV.ch
 replace cA := cA.ch gV.ch
 replace hB := hB.trans gV.fr
 refine GoQ.nil ?_
 refine Go1.seq ?_
 refine Go1.region ?_
 refine GoR.op ((op_move rfl) _) rfl rfl ?_
 refine GoR.op ((op_move rfl) _) rfl rfl ?_
 refine GoR.op ((op_nilCheck rfl) _) rfl rfl ?_
 refine GoR.op ((op_fieldAddr Try.underlying72 rfl ti29 rfl (by decide)) _) rfl rfl ?_
 refine GoR.op ((op_fieldAddr Try.underlying29 rfl ti22 rfl (by decide)) _) rfl rfl ?_
 refine GoR.op ((oblk (i := 3) 1 hO rfl rfl Try.underlying22 rfl rfl) _ (Same.refl _)) rfl rfl ?_
 refine GoR.op ((op_move rfl) _) rfl rfl ?_
 have hobt := obuild (r := Rp.sl (Rp.int .i64)) (n := 1) (parts := [(0, .slice tR r397.length tS)]) (vs := [.slice tR r397.length tS]) (xs := [r397]) rfl Try.underlying22 ti26 hO (by decide) (by kernel_rfl) (Els.cons rfl ⟨tR, tS, rfl, cA⟩ (Els.nil _ _ _) (by simp [mx])) rfl
 obtain ⟨Gq, Jr, tV, C5, H7, Ax⟩ := hobt
 refine GoR.op (Ax rfl) rfl rfl ?_
 replace aj := aj.ch tV.ch
 replace hO := tV.own
 replace a8 := a8.ch tV.ch
 replace cA := cA.ch tV.ch
 replace hB := hB.trans tV.fr
 have hobt := freeze 0 hO rfl C5
 obtain ⟨hO1, xB, dq, C6⟩ := hobt
 replace a8 := a8.ch xB
 replace cA := cA.ch xB
 replace aj := aj.ch xB
 replace hB := hB.trans (Owns.dropFr _ _ 0)
 replace hO := hO1; clear hO1
 have gC := Stp.nil (e := 26) (r := 1) hO
 replace aj := aj.ch gC.ch
 replace hO := gC.own
 replace a8 := a8.ch gC.ch
 replace cA := cA.ch gC.ch
 replace dq := dq.ch gC.ch
 replace hB := hB.trans gC.fr
 have fY := Els.nil (Rp.sl (Rp.int .i64)) (bl (.row 26 1 none 0 0 [] :: [.row 26 1 p35 n37 c36 eQ, .blk B10 (.cells #[.int .i64 ((ix a0 (0 : Int)).length : Int), .bool true, .slice p35 n37 c36, .slice none 0 0, .slice none 0 0, .slice none 0 0, .slice none 0 0, .slice none 0 0, .int .i64 (0 : Int), .map (some B4), .slice none 0 0, .slice none 0 0, .slice none 0 0] 72 (0, 0)), .any (mapE (fun a : List UInt8 => Value.string (gstr a)) (fun a : Int => Value.int .i64 a) B4 (mput (([] : List (Str × Int))) r407 ((0 : Int))))]) ++ A) Gq
 obtain ⟨Gr, H⟩ := H
 have hobt := oapp Try.underlying22 ti26 rfl 0 hO rfl fY dq C6 Gr (by decide)
 obtain ⟨Js, nF, nG, tz, tu, dA, Ay⟩ := hobt
 refine GoR.op (Ay (by exact rfl) (by exact rfl)) rfl rfl ?_
 replace aj := aj.ch tu.ch
 replace hO := tu.own
 replace a8 := a8.ch tu.ch
 replace cA := cA.ch tu.ch
 replace dq := dq.ch tu.ch
 replace hB := hB.trans tu.fr
 refine GoR.op ((op_nilCheck rfl) _) rfl rfl ?_
 refine GoR.op ((op_fieldAddr Try.underlying72 rfl ti29 rfl (by decide)) _) rfl rfl ?_
 refine GoR.op ((op_fieldAddr Try.underlying29 rfl ti22 rfl (by decide)) _) rfl rfl ?_
 have hobt := oblkSt2 (v := .slice nF (0 + 1) nG) (i := 3) (cs' := #[.int .i64 ((ix a0 (0 : Int)).length : Int), .bool true, .slice p35 n37 c36, .slice nF (0 + 1) nG, .slice none 0 0, .slice none 0 0, .slice none 0 0, .slice none 0 0, .int .i64 (0 : Int), .map (some B4), .slice none 0 0, .slice none 0 0, .slice none 0 0]) 2 hO rfl rfl rfl rfl
 obtain ⟨Jt, sA, Az⟩ := hobt
 refine GoR.op (Az Try.underlying22 rfl ti22 (by exact rfl) (by exact rfl)) rfl rfl ?_
 replace dA := dA.ch sA.ch
 replace aj := aj.ch sA.ch
 replace hO := sA.own
 replace a8 := a8.ch sA.ch
 replace cA := cA.ch sA.ch
 replace dq := dq.ch sA.ch
 replace hB := hB.trans sA.fr
 refine GoR.nil ?_
 refine Go1.seq ?_
 refine Go1.cut [(0, .pointer (some ⟨B10, 0, none⟩)), (2, .int .i64 (-1 : Int)), (3, .int .i64 (-1 : Int)), (4, .string (gstr (([] : Str)))), (5, .int .i64 (-1 : Int)), (13, .int .i64 (0 : Int))] ⟨rfl, rfl, rfl, rfl, rfl, rfl, trivial⟩ ?_
 intro σ _
 refine Go1.region ?_
 refine GoR.op ((op_move rfl) _) rfl rfl ?_
 refine GoR.op ((op_move rfl) _) rfl rfl ?_
 refine GoR.op ((op_nilCheck rfl) _) rfl rfl ?_
 refine GoR.op ((op_fieldAddr Try.underlying72 rfl ti29 rfl (by decide)) _) rfl rfl ?_
 refine GoR.op ((op_fieldAddr Try.underlying29 rfl ti26 rfl (by decide)) _) rfl rfl ?_
 refine GoR.op ((oblk (i := 4) 2 hO rfl rfl Try.underlying26 rfl rfl) _ (Same.refl _)) rfl rfl ?_
 refine GoR.op ((op_move rfl) _) rfl rfl ?_
 have hobt := obuild (r := Rp.int .i64) (n := 1) (parts := [(0, .int .i64 (-1 : Int))]) (vs := [.int .i64 (-1 : Int)]) (xs := [(-1 : Int)]) rfl Try.underlying26 ti3 hO (by decide) (by kernel_rfl) (Els.cons rfl rfl (Els.nil _ _ _) (by simp [mx])) rfl
 obtain ⟨Gs, Ju, sB, C7, H8, AA⟩ := hobt
 refine GoR.op (AA rfl) rfl rfl ?_
 replace dA := dA.ch sB.ch
 replace aj := aj.ch sB.ch
 replace hO := sB.own
 replace a8 := a8.ch sB.ch
 replace cA := cA.ch sB.ch
 replace dq := dq.ch sB.ch
 replace hB := hB.trans sB.fr
 have hobt := freeze 0 hO rfl C7
 obtain ⟨hO1, ue, dZ, C8⟩ := hobt
 dsimp only [eS, eZ] at hO1 ue dZ
 replace a8 := a8.ch ue
 replace cA := cA.ch ue
 replace dq := dq.ch ue
 replace dA := dA.ch ue
 replace aj := aj.ch ue
 replace hB := hB.trans (Owns.dropFr _ _ 0)
 dsimp only [eS, eZ] at hB
 replace hO := hO1; clear hO1
 have rX := Stp.nil (e := 3) (r := 1) hO
 replace dA := dA.ch rX.ch
 replace aj := aj.ch rX.ch
 replace hO := rX.own
 replace a8 := a8.ch rX.ch
 replace cA := cA.ch rX.ch
 replace dq := dq.ch rX.ch
 replace dZ := dZ.ch rX.ch
 replace hB := hB.trans rX.fr
 have C9 := Els.nil (Rp.int .i64) (bl (.row 3 1 none 0 0 [] :: [.row 26 1 nF (0 + 1) nG tz, .row 26 1 p35 n37 c36 eQ, .blk B10 (.cells #[.int .i64 ((ix a0 (0 : Int)).length : Int), .bool true, .slice p35 n37 c36, .slice nF (0 + 1) nG, .slice none 0 0, .slice none 0 0, .slice none 0 0, .slice none 0 0, .int .i64 (0 : Int), .map (some B4), .slice none 0 0, .slice none 0 0, .slice none 0 0] 72 (0, 0)), .any (mapE (fun a : List UInt8 => Value.string (gstr a)) (fun a : Int => Value.int .i64 a) B4 (mput (([] : List (Str × Int))) r407 ((0 : Int))))]) ++ A) Gs
 obtain ⟨Gt, H⟩ := H
 have hobt := oapp Try.underlying26 ti3 rfl 0 hO rfl C9 dZ C8 Gt (by decide)
 obtain ⟨Jv, p5, p6, uf, qJ, eI, wI⟩ := hobt
 dsimp only [sS, sZ] at qJ eI
 refine GoR.op (wI (by exact rfl) (by exact rfl)) rfl rfl ?_
 replace dA := dA.ch qJ.ch
 replace aj := aj.ch qJ.ch
 replace hO := qJ.own
 replace a8 := a8.ch qJ.ch
 replace cA := cA.ch qJ.ch
 replace dq := dq.ch qJ.ch
 replace dZ := dZ.ch qJ.ch
 replace hB := hB.trans qJ.fr
 refine GoR.op ((op_nilCheck rfl) _) rfl rfl ?_
 refine GoR.op ((op_fieldAddr Try.underlying72 rfl ti29 rfl (by decide)) _) rfl rfl ?_
 refine GoR.op ((op_fieldAddr Try.underlying29 rfl ti26 rfl (by decide)) _) rfl rfl ?_
 have hobt := oblkSt2 (v := .slice p5 (0 + 1) p6) (i := 4) (cs' := #[.int .i64 ((ix a0 (0 : Int)).length : Int), .bool true, .slice p35 n37 c36, .slice nF (0 + 1) nG, .slice p5 (0 + 1) p6, .slice none 0 0, .slice none 0 0, .slice none 0 0, .int .i64 (0 : Int), .map (some B4), .slice none 0 0, .slice none 0 0, .slice none 0 0]) 3 hO rfl rfl rfl rfl
 obtain ⟨Jw, qj, AB⟩ := hobt
 dsimp only [sS, sZ] at qj
 refine GoR.op (AB Try.underlying26 rfl ti26 (by exact rfl) (by exact rfl)) rfl rfl ?_
 replace eI := eI.ch qj.ch
 replace dA := dA.ch qj.ch
 replace aj := aj.ch qj.ch
 replace hO := qj.own
 replace a8 := a8.ch qj.ch
 replace cA := cA.ch qj.ch
 replace dq := dq.ch qj.ch
 replace dZ := dZ.ch qj.ch
 replace hB := hB.trans qj.fr
 refine GoR.nil ?_
 refine Go1.seq ?_
 refine Go1.region ?_
 refine GoR.op ((op_move rfl) _) rfl rfl ?_
 refine GoR.op ((op_move rfl) _) rfl rfl ?_
 refine GoR.op ((op_nilCheck rfl) _) rfl rfl ?_
 refine GoR.op ((op_fieldAddr Try.underlying72 rfl ti29 rfl (by decide)) _) rfl rfl ?_
 refine GoR.op ((op_fieldAddr Try.underlying29 rfl ti26 rfl (by decide)) _) rfl rfl ?_
 refine GoR.op ((oblk (i := 5) 3 hO rfl rfl Try.underlying26 rfl rfl) _ (Same.refl _)) rfl rfl ?_
 refine GoR.op ((op_move rfl) _) rfl rfl ?_
 have hobt := obuild (r := Rp.int .i64) (n := 1) (parts := [(0, .int .i64 (-1 : Int))]) (vs := [.int .i64 (-1 : Int)]) (xs := [(-1 : Int)]) rfl Try.underlying26 ti3 hO (by decide) (by kernel_rfl) (Els.cons rfl rfl (Els.nil _ _ _) (by simp [mx])) rfl
 obtain ⟨Gu, Jx, qK, Db, H9, AC⟩ := hobt
 refine GoR.op (AC rfl) rfl rfl ?_
 replace eI := eI.ch qK.ch
 replace dA := dA.ch qK.ch
 replace aj := aj.ch qK.ch
 replace hO := qK.own
 replace a8 := a8.ch qK.ch
 replace cA := cA.ch qK.ch
 replace dq := dq.ch qK.ch
 replace dZ := dZ.ch qK.ch
 replace hB := hB.trans qK.fr
 have hobt := freeze 0 hO rfl Db
 obtain ⟨hO1, sI, fZ, Dc⟩ := hobt
 dsimp only [eS, eZ] at hO1 sI fZ
 replace a8 := a8.ch sI
 replace cA := cA.ch sI
 replace dq := dq.ch sI
 replace dZ := dZ.ch sI
 replace eI := eI.ch sI
 replace dA := dA.ch sI
 replace aj := aj.ch sI
 replace hB := hB.trans (Owns.dropFr _ _ 0)
 dsimp only [eS, eZ] at hB
 replace hO := hO1; clear hO1
 have qk := Stp.nil (e := 3) (r := 1) hO
 replace eI := eI.ch qk.ch
 replace dA := dA.ch qk.ch
 replace aj := aj.ch qk.ch
 replace hO := qk.own
 replace a8 := a8.ch qk.ch
 replace cA := cA.ch qk.ch
 replace dq := dq.ch qk.ch
 replace dZ := dZ.ch qk.ch
 replace fZ := fZ.ch qk.ch
 replace hB := hB.trans qk.fr
 have Dd := Els.nil (Rp.int .i64) (bl (.row 3 1 none 0 0 [] :: [.row 3 1 p5 (0 + 1) p6 uf, .row 26 1 nF (0 + 1) nG tz, .row 26 1 p35 n37 c36 eQ, .blk B10 (.cells #[.int .i64 ((ix a0 (0 : Int)).length : Int), .bool true, .slice p35 n37 c36, .slice nF (0 + 1) nG, .slice p5 (0 + 1) p6, .slice none 0 0, .slice none 0 0, .slice none 0 0, .int .i64 (0 : Int), .map (some B4), .slice none 0 0, .slice none 0 0, .slice none 0 0] 72 (0, 0)), .any (mapE (fun a : List UInt8 => Value.string (gstr a)) (fun a : Int => Value.int .i64 a) B4 (mput (([] : List (Str × Int))) r407 ((0 : Int))))]) ++ A) Gu
 obtain ⟨Gv, H⟩ := H
 have hobt := oapp Try.underlying26 ti3 rfl 0 hO rfl Dd fZ Dc Gv (by decide)
 obtain ⟨Jy, rp, rq, vh, pz, gM, AD⟩ := hobt
 dsimp only [sS, sZ] at pz gM
 refine GoR.op (AD (by exact rfl) (by exact rfl)) rfl rfl ?_
 replace eI := eI.ch pz.ch
 replace dA := dA.ch pz.ch
 replace aj := aj.ch pz.ch
 replace hO := pz.own
 replace a8 := a8.ch pz.ch
 replace cA := cA.ch pz.ch
 replace dq := dq.ch pz.ch
 replace dZ := dZ.ch pz.ch
 replace fZ := fZ.ch pz.ch
 replace hB := hB.trans pz.fr
 refine GoR.op ((op_nilCheck rfl) _) rfl rfl ?_
 refine GoR.op ((op_fieldAddr Try.underlying72 rfl ti29 rfl (by decide)) _) rfl rfl ?_
 refine GoR.op ((op_fieldAddr Try.underlying29 rfl ti26 rfl (by decide)) _) rfl rfl ?_
 have hobt := oblkSt2 (v := .slice rp (0 + 1) rq) (i := 5) (cs' := #[.int .i64 ((ix a0 (0 : Int)).length : Int), .bool true, .slice p35 n37 c36, .slice nF (0 + 1) nG, .slice p5 (0 + 1) p6, .slice rp (0 + 1) rq, .slice none 0 0, .slice none 0 0, .int .i64 (0 : Int), .map (some B4), .slice none 0 0, .slice none 0 0, .slice none 0 0]) 4 hO rfl rfl rfl rfl
 obtain ⟨Jz, ou, AE⟩ := hobt
 dsimp only [sS, sZ] at ou
 refine GoR.op (AE Try.underlying26 rfl ti26 (by exact rfl) (by exact rfl)) rfl rfl ?_
 replace gM := gM.ch ou.ch
 replace eI := eI.ch ou.ch
 replace dA := dA.ch ou.ch
 replace aj := aj.ch ou.ch
 replace hO := ou.own
 replace a8 := a8.ch ou.ch
 replace cA := cA.ch ou.ch
 replace dq := dq.ch ou.ch
 replace dZ := dZ.ch ou.ch
 replace fZ := fZ.ch ou.ch
 replace hB := hB.trans ou.fr
 refine GoR.nil ?_
 refine Go1.seq ?_
 refine Go1.cut [(0, .pointer (some ⟨B10, 0, none⟩)), (4, .string (gstr (([] : Str)))), (5, .int .i64 (-1 : Int)), (13, .int .i64 (0 : Int))] ⟨rfl, rfl, rfl, rfl, trivial⟩ ?_
 intro σ _
 refine Go1.region ?_
 refine GoR.op ((op_move rfl) _) rfl rfl ?_
 refine GoR.op ((op_move rfl) _) rfl rfl ?_
 refine GoR.op ((op_nilCheck rfl) _) rfl rfl ?_
 refine GoR.op ((op_fieldAddr Try.underlying72 rfl ti70 rfl (by decide)) _) rfl rfl ?_
 refine GoR.op ((oblk (i := 10) 4 hO rfl rfl Try.underlying70 rfl rfl) _ (Same.refl _)) rfl rfl ?_
 refine GoR.op ((op_move rfl) _) rfl rfl ?_
 have hobt := obuild (r := Rp.str) (n := 1) (parts := [(0, .string (gstr (([] : Str))))]) (vs := [.string (gstr (([] : Str)))]) (xs := [([] : Str)]) rfl Try.underlying70 ti9 hO (by decide) (by kernel_rfl) (Els.cons rfl ⟨rfl, (by decide)⟩ (Els.nil _ _ _) (by simp [mx])) rfl
 obtain ⟨Gw, JA, eC, sJ, Ia, AF⟩ := hobt
 refine GoR.op (AF rfl) rfl rfl ?_
 replace gM := gM.ch eC.ch
 replace eI := eI.ch eC.ch
 replace dA := dA.ch eC.ch
 replace aj := aj.ch eC.ch
 replace hO := eC.own
 replace a8 := a8.ch eC.ch
 replace cA := cA.ch eC.ch
 replace dq := dq.ch eC.ch
 replace dZ := dZ.ch eC.ch
 replace fZ := fZ.ch eC.ch
 replace hB := hB.trans eC.fr
 have hobt := freeze 0 hO rfl sJ
 obtain ⟨hO1, rK, jM, De⟩ := hobt
 dsimp only [eS, eZ] at hO1 rK jM
 replace a8 := a8.ch rK
 replace cA := cA.ch rK
 replace dq := dq.ch rK
 replace dZ := dZ.ch rK
 replace fZ := fZ.ch rK
 replace gM := gM.ch rK
 replace eI := eI.ch rK
 replace dA := dA.ch rK
 replace aj := aj.ch rK
 replace hB := hB.trans (Owns.dropFr _ _ 0)
 dsimp only [eS, eZ] at hB
 replace hO := hO1; clear hO1
 have ov := Stp.nil (e := 9) (r := 1) hO
 replace gM := gM.ch ov.ch
 replace eI := eI.ch ov.ch
 replace dA := dA.ch ov.ch
 replace aj := aj.ch ov.ch
 replace hO := ov.own
 replace a8 := a8.ch ov.ch
 replace cA := cA.ch ov.ch
 replace dq := dq.ch ov.ch
 replace dZ := dZ.ch ov.ch
 replace fZ := fZ.ch ov.ch
 replace jM := jM.ch ov.ch
 replace hB := hB.trans ov.fr
 have Df := Els.nil (Rp.str) (bl (.row 9 1 none 0 0 [] :: [.row 3 1 rp (0 + 1) rq vh, .row 3 1 p5 (0 + 1) p6 uf, .row 26 1 nF (0 + 1) nG tz, .row 26 1 p35 n37 c36 eQ, .blk B10 (.cells #[.int .i64 ((ix a0 (0 : Int)).length : Int), .bool true, .slice p35 n37 c36, .slice nF (0 + 1) nG, .slice p5 (0 + 1) p6, .slice rp (0 + 1) rq, .slice none 0 0, .slice none 0 0, .int .i64 (0 : Int), .map (some B4), .slice none 0 0, .slice none 0 0, .slice none 0 0] 72 (0, 0)), .any (mapE (fun a : List UInt8 => Value.string (gstr a)) (fun a : Int => Value.int .i64 a) B4 (mput (([] : List (Str × Int))) r407 ((0 : Int))))]) ++ A) Gw
 obtain ⟨Gx, H⟩ := H
 have hobt := oapp Try.underlying70 ti9 rfl 0 hO rfl Df jM De Gx (by decide)
 obtain ⟨JB, sU, sV, wt, nb, mj, AG⟩ := hobt
 dsimp only [sS, sZ] at nb mj
 refine GoR.op (AG (by exact rfl) (by exact rfl)) rfl rfl ?_
 replace gM := gM.ch nb.ch
 replace eI := eI.ch nb.ch
 replace dA := dA.ch nb.ch
 replace aj := aj.ch nb.ch
 replace hO := nb.own
 replace a8 := a8.ch nb.ch
 replace cA := cA.ch nb.ch
 replace dq := dq.ch nb.ch
 replace dZ := dZ.ch nb.ch
 replace fZ := fZ.ch nb.ch
 replace jM := jM.ch nb.ch
 replace hB := hB.trans nb.fr
 refine GoR.op ((op_nilCheck rfl) _) rfl rfl ?_
 refine GoR.op ((op_fieldAddr Try.underlying72 rfl ti70 rfl (by decide)) _) rfl rfl ?_
 have hobt := oblkSt2 (v := .slice sU (0 + 1) sV) (i := 10) (cs' := #[.int .i64 ((ix a0 (0 : Int)).length : Int), .bool true, .slice p35 n37 c36, .slice nF (0 + 1) nG, .slice p5 (0 + 1) p6, .slice rp (0 + 1) rq, .slice none 0 0, .slice none 0 0, .int .i64 (0 : Int), .map (some B4), .slice sU (0 + 1) sV, .slice none 0 0, .slice none 0 0]) 5 hO rfl rfl rfl rfl
 obtain ⟨JC, mw, wJ⟩ := hobt
 dsimp only [sS, sZ] at mw
 refine GoR.op (wJ Try.underlying70 rfl ti70 (by exact rfl) (by exact rfl)) rfl rfl ?_
 replace mj := mj.ch mw.ch
 replace gM := gM.ch mw.ch
 replace eI := eI.ch mw.ch
 replace dA := dA.ch mw.ch
 replace aj := aj.ch mw.ch
 replace hO := mw.own
 replace a8 := a8.ch mw.ch
 replace cA := cA.ch mw.ch
 replace dq := dq.ch mw.ch
 replace dZ := dZ.ch mw.ch
 replace fZ := fZ.ch mw.ch
 replace jM := jM.ch mw.ch
 replace hB := hB.trans mw.fr
 refine GoR.nil ?_
 refine Go1.seq ?_
 refine Go1.region ?_
 refine GoR.op ((op_move rfl) _) rfl rfl ?_
 refine GoR.op ((op_move rfl) _) rfl rfl ?_
 refine GoR.op ((op_nilCheck rfl) _) rfl rfl ?_
 refine GoR.op ((op_fieldAddr Try.underlying72 rfl ti26 rfl (by decide)) _) rfl rfl ?_
 refine GoR.op ((oblk (i := 11) 5 hO rfl rfl Try.underlying26 rfl rfl) _ (Same.refl _)) rfl rfl ?_
 refine GoR.op ((op_move rfl) _) rfl rfl ?_
 have hobt := obuild (r := Rp.int .i64) (n := 1) (parts := [(0, .int .i64 (-1 : Int))]) (vs := [.int .i64 (-1 : Int)]) (xs := [(-1 : Int)]) rfl Try.underlying26 ti3 hO (by decide) (by kernel_rfl) (Els.cons rfl rfl (Els.nil _ _ _) (by simp [mx])) rfl
 obtain ⟨Gy, JD, nc, Dg, Ib, AH⟩ := hobt
 refine GoR.op (AH rfl) rfl rfl ?_
 replace mj := mj.ch nc.ch
 replace gM := gM.ch nc.ch
 replace eI := eI.ch nc.ch
 replace dA := dA.ch nc.ch
 replace aj := aj.ch nc.ch
 replace hO := nc.own
 replace a8 := a8.ch nc.ch
 replace cA := cA.ch nc.ch
 replace dq := dq.ch nc.ch
 replace dZ := dZ.ch nc.ch
 replace fZ := fZ.ch nc.ch
 replace jM := jM.ch nc.ch
 replace hB := hB.trans nc.fr
 have hobt := freeze 0 hO rfl Dg
 obtain ⟨hO1, qp, qq, Dh⟩ := hobt
 dsimp only [eS, eZ] at hO1 qp qq
 replace a8 := a8.ch qp
 replace cA := cA.ch qp
 replace dq := dq.ch qp
 replace dZ := dZ.ch qp
 replace fZ := fZ.ch qp
 replace jM := jM.ch qp
 replace mj := mj.ch qp
 replace gM := gM.ch qp
 replace eI := eI.ch qp
 replace dA := dA.ch qp
 replace aj := aj.ch qp
 replace hB := hB.trans (Owns.dropFr _ _ 0)
 dsimp only [eS, eZ] at hB
 replace hO := hO1; clear hO1
 have my := Stp.nil (e := 3) (r := 1) hO
 replace mj := mj.ch my.ch
 replace gM := gM.ch my.ch
 replace eI := eI.ch my.ch
 replace dA := dA.ch my.ch
 replace aj := aj.ch my.ch
 replace hO := my.own
 replace a8 := a8.ch my.ch
 replace cA := cA.ch my.ch
 replace dq := dq.ch my.ch
 replace dZ := dZ.ch my.ch
 replace fZ := fZ.ch my.ch
 replace jM := jM.ch my.ch
 replace qq := qq.ch my.ch
 replace hB := hB.trans my.fr
 have Di := Els.nil (Rp.int .i64) (bl (.row 3 1 none 0 0 [] :: [.row 9 1 sU (0 + 1) sV wt, .row 3 1 rp (0 + 1) rq vh, .row 3 1 p5 (0 + 1) p6 uf, .row 26 1 nF (0 + 1) nG tz, .row 26 1 p35 n37 c36 eQ, .blk B10 (.cells #[.int .i64 ((ix a0 (0 : Int)).length : Int), .bool true, .slice p35 n37 c36, .slice nF (0 + 1) nG, .slice p5 (0 + 1) p6, .slice rp (0 + 1) rq, .slice none 0 0, .slice none 0 0, .int .i64 (0 : Int), .map (some B4), .slice sU (0 + 1) sV, .slice none 0 0, .slice none 0 0] 72 (0, 0)), .any (mapE (fun a : List UInt8 => Value.string (gstr a)) (fun a : Int => Value.int .i64 a) B4 (mput (([] : List (Str × Int))) r407 ((0 : Int))))]) ++ A) Gy
 obtain ⟨Gz, H⟩ := H
 have hobt := oapp Try.underlying26 ti3 rfl 0 hO rfl Di qq Dh Gz (by decide)
 obtain ⟨JE, uL, uM, xC, eV, sK, AI⟩ := hobt
 dsimp only [sS, sZ] at eV sK
 refine GoR.op (AI (by exact rfl) (by exact rfl)) rfl rfl ?_
 replace mj := mj.ch eV.ch
 replace gM := gM.ch eV.ch
 replace eI := eI.ch eV.ch
 replace dA := dA.ch eV.ch
 replace aj := aj.ch eV.ch
 replace hO := eV.own
 replace a8 := a8.ch eV.ch
 replace cA := cA.ch eV.ch
 replace dq := dq.ch eV.ch
 replace dZ := dZ.ch eV.ch
 replace fZ := fZ.ch eV.ch
 replace jM := jM.ch eV.ch
 replace qq := qq.ch eV.ch
 replace hB := hB.trans eV.fr
 refine GoR.op ((op_nilCheck rfl) _) rfl rfl ?_
 refine GoR.op ((op_fieldAddr Try.underlying72 rfl ti26 rfl (by decide)) _) rfl rfl ?_
 have hobt := oblkSt2 (v := .slice uL (0 + 1) uM) (i := 11) (cs' := #[.int .i64 ((ix a0 (0 : Int)).length : Int), .bool true, .slice p35 n37 c36, .slice nF (0 + 1) nG, .slice p5 (0 + 1) p6, .slice rp (0 + 1) rq, .slice none 0 0, .slice none 0 0, .int .i64 (0 : Int), .map (some B4), .slice sU (0 + 1) sV, .slice uL (0 + 1) uM, .slice none 0 0]) 6 hO rfl rfl rfl rfl
 obtain ⟨AJ, lq, AK⟩ := hobt
 dsimp only [sS, sZ] at lq
 refine GoR.op (AK Try.underlying26 rfl ti26 (by exact rfl) (by exact rfl)) rfl rfl ?_
 replace sK := sK.ch lq.ch
 replace mj := mj.ch lq.ch
 replace gM := gM.ch lq.ch
 replace eI := eI.ch lq.ch
 replace dA := dA.ch lq.ch
 replace aj := aj.ch lq.ch
 replace hO := lq.own
 replace a8 := a8.ch lq.ch
 replace cA := cA.ch lq.ch
 replace dq := dq.ch lq.ch
 replace dZ := dZ.ch lq.ch
 replace fZ := fZ.ch lq.ch
 replace jM := jM.ch lq.ch
 replace qq := qq.ch lq.ch
 replace hB := hB.trans lq.fr
 refine GoR.nil ?_
 refine Go1.seq ?_
 refine Go1.cut [(13, .int .i64 (0 : Int))] ⟨rfl, trivial⟩ ?_
 intro σ _
 refine Go1.region ?_
 refine GoR.op ((op_move rfl) _) rfl rfl ?_
 refine GoR.op ((op_assign rfl) _) rfl rfl ?_
 refine GoR.nil ?_
 refine Go1.ret1V Try.func65 rfl (show _ = .int .i64 (0 : Int) from rfl) ?_
 refine hR403 _ _ ?_
 refine GoR.op ((op_assign rfl) _) rfl rfl ?_
 refine GoR.nil ?_
 refine Go1.seq ?_
 refine Go1.seq ?_
 refine Go1.region ?_
 refine GoR.op ((op_move rfl) _) rfl rfl ?_
 refine GoR.op ((op_nilCheck rfl) _) rfl rfl ?_
 refine GoR.op ((op_fieldAddr Try.underlying72 rfl ti29 rfl (by decide)) _) rfl rfl ?_
 refine GoR.op ((op_fieldAddr Try.underlying29 rfl ti22 rfl (by decide)) _) rfl rfl ?_
 refine GoR.op ((oblk (i := 2) 6 hO rfl rfl Try.underlying22 rfl rfl) _ (Same.refl _)) rfl rfl ?_
 refine GoR.op ((op_lenN Try.underlying22 rfl (aj.neq hO 5 rfl)) _) rfl rfl ?_
 refine GoR.op ((op_move rfl) _) rfl rfl ?_
 refine GoR.nil ?_
 refine Go1.block ?_
 have lW := Stp.nil (e := 39) (r := 2) hO
 replace sK := sK.ch lW.ch
 replace mj := mj.ch lW.ch
 replace gM := gM.ch lW.ch
 replace eI := eI.ch lW.ch
 replace dA := dA.ch lW.ch
 replace aj := aj.ch lW.ch
 replace hO := lW.own
 replace a8 := a8.ch lW.ch
 replace cA := cA.ch lW.ch
 replace dq := dq.ch lW.ch
 replace dZ := dZ.ch lW.ch
 replace fZ := fZ.ch lW.ch
 replace jM := jM.ch lW.ch
 replace qq := qq.ch lW.ch
 replace hB := hB.trans lW.fr
 have xD := Els.nil (rpRule) (bl (.row 39 2 none 0 0 [] :: [.row 3 1 uL (0 + 1) uM xC, .row 9 1 sU (0 + 1) sV wt, .row 3 1 rp (0 + 1) rq vh, .row 3 1 p5 (0 + 1) p6 uf, .row 26 1 nF (0 + 1) nG tz, .row 26 1 p35 n37 c36 eQ, .blk B10 (.cells #[.int .i64 ((ix a0 (0 : Int)).length : Int), .bool true, .slice p35 n37 c36, .slice nF (0 + 1) nG, .slice p5 (0 + 1) p6, .slice rp (0 + 1) rq, .slice none 0 0, .slice none 0 0, .int .i64 (0 : Int), .map (some B4), .slice sU (0 + 1) sV, .slice uL (0 + 1) uM, .slice none 0 0] 72 (0, 0)), .any (mapE (fun a : List UInt8 => Value.string (gstr a)) (fun a : Int => Value.int .i64 a) B4 (mput (([] : List (Str × Int))) r407 ((0 : Int))))]) ++ A) AJ
 have lr := Stp.nil (e := 3) (r := 1) hO
 replace xD := xD.ch lr.ch
 replace sK := sK.ch lr.ch
 replace mj := mj.ch lr.ch
 replace gM := gM.ch lr.ch
 replace eI := eI.ch lr.ch
 replace dA := dA.ch lr.ch
 replace aj := aj.ch lr.ch
 replace hO := lr.own
 replace a8 := a8.ch lr.ch
 replace cA := cA.ch lr.ch
 replace dq := dq.ch lr.ch
 replace dZ := dZ.ch lr.ch
 replace fZ := fZ.ch lr.ch
 replace jM := jM.ch lr.ch
 replace qq := qq.ch lr.ch
 replace hB := hB.trans lr.fr
 have Dj := Els.nil (Rp.int .i64) (bl (.row 3 1 none 0 0 [] :: [.row 39 2 none 0 0 [], .row 3 1 uL (0 + 1) uM xC, .row 9 1 sU (0 + 1) sV wt, .row 3 1 rp (0 + 1) rq vh, .row 3 1 p5 (0 + 1) p6 uf, .row 26 1 nF (0 + 1) nG tz, .row 26 1 p35 n37 c36 eQ, .blk B10 (.cells #[.int .i64 ((ix a0 (0 : Int)).length : Int), .bool true, .slice p35 n37 c36, .slice nF (0 + 1) nG, .slice p5 (0 + 1) p6, .slice rp (0 + 1) rq, .slice none 0 0, .slice none 0 0, .int .i64 (0 : Int), .map (some B4), .slice sU (0 + 1) sV, .slice uL (0 + 1) uM, .slice none 0 0] 72 (0, 0)), .any (mapE (fun a : List UInt8 => Value.string (gstr a)) (fun a : Int => Value.int .i64 a) B4 (mput (([] : List (Str × Int))) r407 ((0 : Int))))]) ++ A) AJ
 refine Go1.loopW (S := Nat × List Int × List Rule × List Int × List Str × List Int × List Int × List (List Int) × (List (Str × Int))) (fun s σ w => match s with | (k3_548, d_549, d_555, d_561, d_567, d_573, d_579, d_585, m3_591) => ∃ (gJ : Nat), ∃ (jd : Option Addr), ∃ (je : Nat), ∃ (o9 : List Value), ∃ (gW : Nat), ∃ (iK : Option Addr), ∃ (iL : Nat), ∃ (nH : List Value), ∃ (gX : Nat), ∃ (iM : Option Addr), ∃ (iN : Nat), ∃ (nI : List Value), ∃ (gY : Nat), ∃ (jf : Option Addr), ∃ (jg : Nat), ∃ (nJ : List Value), ∃ (gZ : Nat), ∃ (jm : Option Addr), ∃ (jo : Nat), ∃ (nK : List Value), ∃ (g0 : Nat), ∃ (jJ : Option Addr), ∃ (jK : Nat), ∃ (nM : List Value), ∃ (g5 : Nat), ∃ (ka : Option Addr), ∃ (kc : Nat), ∃ (nN : List Value), agrees σ [(6, .pointer (some ⟨B10, 0, none⟩)), (9, .int .i64 (0 : Int)), (85, .slice p35 n37 c36), (86, .int .i64 (d_32.length : Int)), (87, .int .i64 (k3_548 : Int))] ∧ Owns w0.heap.size w [.row 3 1 jd gJ je o9, .row 39 2 iK gW iL nH, .row 3 1 iM gX iN nI, .row 9 1 jf gY jg nJ, .row 3 1 jm gZ jo nK, .row 3 1 jJ g0 jK nM, .row 26 1 ka g5 kc nN, .row 26 1 p35 n37 c36 eQ, .blk B10 (.cells #[.int .i64 ((ix a0 (0 : Int)).length : Int), .bool true, .slice p35 n37 c36, .slice ka g5 kc, .slice jJ g0 jK, .slice jm gZ jo, .slice none 0 0, .slice iK gW iL, .int .i64 (0 : Int), .map (some B4), .slice jf gY jg, .slice iM gX iN, .slice jd gJ je] 72 (0, 0)), .any (mapE (fun a : List UInt8 => Value.string (gstr a)) (fun a : Int => Value.int .i64 a) B4 m3_591)] A ∧ Els (Rp.int .i64) (bl [.row 3 1 jd gJ je o9, .row 39 2 iK gW iL nH, .row 3 1 iM gX iN nI, .row 9 1 jf gY jg nJ, .row 3 1 jm gZ jo nK, .row 3 1 jJ g0 jK nM, .row 26 1 ka g5 kc nN, .row 26 1 p35 n37 c36 eQ, .blk B10 (.cells #[.int .i64 ((ix a0 (0 : Int)).length : Int), .bool true, .slice p35 n37 c36, .slice ka g5 kc, .slice jJ g0 jK, .slice jm gZ jo, .slice none 0 0, .slice iK gW iL, .int .i64 (0 : Int), .map (some B4), .slice jf gY jg, .slice iM gX iN, .slice jd gJ je] 72 (0, 0)), .any (mapE (fun a : List UInt8 => Value.string (gstr a)) (fun a : Int => Value.int .i64 a) B4 m3_591)] ++ A) w o9 d_549 ∧ Els (rpRule) (bl [.row 3 1 jd gJ je o9, .row 39 2 iK gW iL nH, .row 3 1 iM gX iN nI, .row 9 1 jf gY jg nJ, .row 3 1 jm gZ jo nK, .row 3 1 jJ g0 jK nM, .row 26 1 ka g5 kc nN, .row 26 1 p35 n37 c36 eQ, .blk B10 (.cells #[.int .i64 ((ix a0 (0 : Int)).length : Int), .bool true, .slice p35 n37 c36, .slice ka g5 kc, .slice jJ g0 jK, .slice jm gZ jo, .slice none 0 0, .slice iK gW iL, .int .i64 (0 : Int), .map (some B4), .slice jf gY jg, .slice iM gX iN, .slice jd gJ je] 72 (0, 0)), .any (mapE (fun a : List UInt8 => Value.string (gstr a)) (fun a : Int => Value.int .i64 a) B4 m3_591)] ++ A) w nH d_555 ∧ Els (Rp.int .i64) (bl [.row 3 1 jd gJ je o9, .row 39 2 iK gW iL nH, .row 3 1 iM gX iN nI, .row 9 1 jf gY jg nJ, .row 3 1 jm gZ jo nK, .row 3 1 jJ g0 jK nM, .row 26 1 ka g5 kc nN, .row 26 1 p35 n37 c36 eQ, .blk B10 (.cells #[.int .i64 ((ix a0 (0 : Int)).length : Int), .bool true, .slice p35 n37 c36, .slice ka g5 kc, .slice jJ g0 jK, .slice jm gZ jo, .slice none 0 0, .slice iK gW iL, .int .i64 (0 : Int), .map (some B4), .slice jf gY jg, .slice iM gX iN, .slice jd gJ je] 72 (0, 0)), .any (mapE (fun a : List UInt8 => Value.string (gstr a)) (fun a : Int => Value.int .i64 a) B4 m3_591)] ++ A) w nI d_561 ∧ Els (Rp.str) (bl [.row 3 1 jd gJ je o9, .row 39 2 iK gW iL nH, .row 3 1 iM gX iN nI, .row 9 1 jf gY jg nJ, .row 3 1 jm gZ jo nK, .row 3 1 jJ g0 jK nM, .row 26 1 ka g5 kc nN, .row 26 1 p35 n37 c36 eQ, .blk B10 (.cells #[.int .i64 ((ix a0 (0 : Int)).length : Int), .bool true, .slice p35 n37 c36, .slice ka g5 kc, .slice jJ g0 jK, .slice jm gZ jo, .slice none 0 0, .slice iK gW iL, .int .i64 (0 : Int), .map (some B4), .slice jf gY jg, .slice iM gX iN, .slice jd gJ je] 72 (0, 0)), .any (mapE (fun a : List UInt8 => Value.string (gstr a)) (fun a : Int => Value.int .i64 a) B4 m3_591)] ++ A) w nJ d_567 ∧ Els (Rp.int .i64) (bl [.row 3 1 jd gJ je o9, .row 39 2 iK gW iL nH, .row 3 1 iM gX iN nI, .row 9 1 jf gY jg nJ, .row 3 1 jm gZ jo nK, .row 3 1 jJ g0 jK nM, .row 26 1 ka g5 kc nN, .row 26 1 p35 n37 c36 eQ, .blk B10 (.cells #[.int .i64 ((ix a0 (0 : Int)).length : Int), .bool true, .slice p35 n37 c36, .slice ka g5 kc, .slice jJ g0 jK, .slice jm gZ jo, .slice none 0 0, .slice iK gW iL, .int .i64 (0 : Int), .map (some B4), .slice jf gY jg, .slice iM gX iN, .slice jd gJ je] 72 (0, 0)), .any (mapE (fun a : List UInt8 => Value.string (gstr a)) (fun a : Int => Value.int .i64 a) B4 m3_591)] ++ A) w nK d_573 ∧ Els (Rp.int .i64) (bl [.row 3 1 jd gJ je o9, .row 39 2 iK gW iL nH, .row 3 1 iM gX iN nI, .row 9 1 jf gY jg nJ, .row 3 1 jm gZ jo nK, .row 3 1 jJ g0 jK nM, .row 26 1 ka g5 kc nN, .row 26 1 p35 n37 c36 eQ, .blk B10 (.cells #[.int .i64 ((ix a0 (0 : Int)).length : Int), .bool true, .slice p35 n37 c36, .slice ka g5 kc, .slice jJ g0 jK, .slice jm gZ jo, .slice none 0 0, .slice iK gW iL, .int .i64 (0 : Int), .map (some B4), .slice jf gY jg, .slice iM gX iN, .slice jd gJ je] 72 (0, 0)), .any (mapE (fun a : List UInt8 => Value.string (gstr a)) (fun a : Int => Value.int .i64 a) B4 m3_591)] ++ A) w nM d_579 ∧ Els (Rp.sl (Rp.int .i64)) (bl [.row 3 1 jd gJ je o9, .row 39 2 iK gW iL nH, .row 3 1 iM gX iN nI, .row 9 1 jf gY jg nJ, .row 3 1 jm gZ jo nK, .row 3 1 jJ g0 jK nM, .row 26 1 ka g5 kc nN, .row 26 1 p35 n37 c36 eQ, .blk B10 (.cells #[.int .i64 ((ix a0 (0 : Int)).length : Int), .bool true, .slice p35 n37 c36, .slice ka g5 kc, .slice jJ g0 jK, .slice jm gZ jo, .slice none 0 0, .slice iK gW iL, .int .i64 (0 : Int), .map (some B4), .slice jf gY jg, .slice iM gX iN, .slice jd gJ je] 72 (0, 0)), .any (mapE (fun a : List UInt8 => Value.string (gstr a)) (fun a : Int => Value.int .i64 a) B4 m3_591)] ++ A) w nN d_585 ∧ Els (Rp.sl (Rp.int .i64)) (bl [.row 3 1 jd gJ je o9, .row 39 2 iK gW iL nH, .row 3 1 iM gX iN nI, .row 9 1 jf gY jg nJ, .row 3 1 jm gZ jo nK, .row 3 1 jJ g0 jK nM, .row 26 1 ka g5 kc nN, .row 26 1 p35 n37 c36 eQ, .blk B10 (.cells #[.int .i64 ((ix a0 (0 : Int)).length : Int), .bool true, .slice p35 n37 c36, .slice ka g5 kc, .slice jJ g0 jK, .slice jm gZ jo, .slice none 0 0, .slice iK gW iL, .int .i64 (0 : Int), .map (some B4), .slice jf gY jg, .slice iM gX iN, .slice jd gJ je] 72 (0, 0)), .any (mapE (fun a : List UInt8 => Value.string (gstr a)) (fun a : Int => Value.int .i64 a) B4 m3_591)] ++ A) w eQ d_32 ∧ Fr (bl []) w0 (bl [.row 3 1 jd gJ je o9, .row 39 2 iK gW iL nH, .row 3 1 iM gX iN nI, .row 9 1 jf gY jg nJ, .row 3 1 jm gZ jo nK, .row 3 1 jJ g0 jK nM, .row 26 1 ka g5 kc nN, .row 26 1 p35 n37 c36 eQ, .blk B10 (.cells #[.int .i64 ((ix a0 (0 : Int)).length : Int), .bool true, .slice p35 n37 c36, .slice ka g5 kc, .slice jJ g0 jK, .slice jm gZ jo, .slice none 0 0, .slice iK gW iL, .int .i64 (0 : Int), .map (some B4), .slice jf gY jg, .slice iM gX iN, .slice jd gJ je] 72 (0, 0)), .any (mapE (fun a : List UInt8 => Value.string (gstr a)) (fun a : Int => Value.int .i64 a) B4 m3_591)]) w) H ⟨0, none, 0, [], 0, none, 0, [], 0 + 1, uL, uM, xC, 0 + 1, sU, sV, wt, 0 + 1, rp, rq, vh, 0 + 1, p5, p6, uf, 0 + 1, nF, nG, tz, ⟨rfl, rfl, rfl, rfl, rfl, trivial⟩, hO, Dj, xD, sK, mj, gM, eI, dA, aj, hB⟩ ?_
 intro X3
 refine prE fun k3_548 => prE fun d_549 => prE fun d_555 => prE fun d_561 => prE fun d_567 => prE fun d_573 => prE fun d_579 => prE fun d_585 => fun m3_591 => ?_
 intro H hX3 σ GA
 refine exE fun gJ => exE fun jd => exE fun je => exE fun o9 => exE fun gW => exE fun iK => exE fun iL => exE fun nH => exE fun gX => exE fun iM => exE fun iN => exE fun nI => exE fun gY => exE fun jf => exE fun jg => exE fun nJ => exE fun gZ => exE fun jm => exE fun jo => exE fun nK => exE fun g0 => exE fun jJ => exE fun jK => exE fun nM => exE fun g5 => exE fun ka => exE fun kc => exE fun nN => andE fun hag => andE fun hO => andE fun bN => andE fun bS => andE fun bT => andE fun bY => andE fun cq => andE fun cD => andE fun cY => andE fun aj => fun hB => ?_
 dsimp only at H
 refine Go1.keep [(6, .pointer (some ⟨B10, 0, none⟩)), (9, .int .i64 (0 : Int)), (85, .slice p35 n37 c36), (86, .int .i64 (d_32.length : Int)), (87, .int .i64 (k3_548 : Int))] hag ?_
 refine Go1.seq ?_
 refine Go1.region ?_
 by_cases vK : (k3_548 : Int) < (d_32.length : Int)
 ·replace H := ifp vK H
  refine GoR.op ((fun w => opB (op_lss rfl rfl w) (decide_eq_true vK)) _) rfl rfl ?_
  refine GoR.nil ?_
  refine Go1.seq ?_
  refine Go1.condT rfl rfl ?_
  refine Go1.skip ?_
  refine Go1.seq ?_
  refine Go1.block ?_
  refine Go1.seq ?_
  refine Go1.region ?_
  refine GoR.op ((op_move rfl) _) rfl rfl ?_
  obtain ⟨yN, H⟩ := H
  obtain ⟨yO, H⟩ := H
  refine GoR.op ((op_index Try.underlying22 ti26 rfl rfl yN (ltn (aj.neq hO 7 rfl) yO) (aj.psome hO 7 rfl yN yO)) _) rfl rfl ?_
  have hobt := oldSl 7 hO rfl aj yN yO
  obtain ⟨AM, AN, cj, Dk⟩ := hobt
  refine GoR.op ((Dk Try.underlying26 rfl rfl) _ (Same.refl _)) rfl rfl ?_
  refine GoR.op ((op_assign rfl) _) rfl rfl ?_
  refine GoR.op ((op_assign rfl) _) rfl rfl ?_
  refine GoR.nil ?_
  refine Go1.seq ?_
  refine Go1.region ?_
  refine GoR.op ((op_move rfl) _) rfl rfl ?_
  obtain ⟨GB, H⟩ := H
  refine GoR.op ((op_add rfl rfl (wrap_i64 GB)) _) rfl rfl ?_
  refine GoR.op ((op_conv Try.underlying3 Try.underlying21 rfl rfl) _) rfl rfl ?_
  obtain ⟨GC, H⟩ := H
  obtain ⟨GD, H⟩ := H
  refine GoR.op ((op_convRS Try.underlying21 Try.underlying9 rfl GC GD) _) rfl rfl ?_
  refine GoR.op ((op_assign rfl) _) rfl rfl ?_
  refine GoR.nil ?_
  refine Go1.seq ?_
  refine Go1.drawS 0 [(0, .pure), (1, .pure), (2, .pure), (3, .stable), (4, .pure), (5, .loud), (6, .stable), (7, .pure), (8, .pure), (9, .pure), (10, .pure), (11, .pure)] mixed (by kernel_rfl) ?_
  intro JF Dl
  have pC := Stp.same hO Dl
  replace bN := bN.ch pC.ch
  replace bS := bS.ch pC.ch
  replace bT := bT.ch pC.ch
  replace bY := bY.ch pC.ch
  replace cq := cq.ch pC.ch
  replace cD := cD.ch pC.ch
  replace cY := cY.ch pC.ch
  replace aj := aj.ch pC.ch
  replace hO := pC.own
  replace cj := cj.ch pC.ch
  replace hB := hB.trans pC.fr
  refine GoQ.pure rfl (op_move rfl) rfl rfl ?_
  refine GoQ.pure rfl (op_nilCheck rfl) rfl rfl ?_
  refine GoQ.pure rfl (op_fieldAddr Try.underlying72 rfl ti69 rfl (by decide)) rfl rfl ?_
  refine GoQ.stable rfl (oblk (i := 9) 8 hO rfl rfl Try.underlying69 rfl rfl) rfl rfl ?_
  refine GoQ.pure rfl (op_move rfl) rfl rfl ?_
  refine GoQ.call rfl (op_call body61 rfl (walk_enumerate_text hO.lt cj H)) (fun v w hr => by obtain ⟨_, _, hs, _, _⟩ := hr; assumption) rfl rfl ?_
  rintro JG JH ⟨r605, rfl, Dm, HQ, H⟩
  have pD := Stp.same hO Dm
  replace bN := bN.ch pD.ch
  replace bS := bS.ch pD.ch
  replace bT := bT.ch pD.ch
  replace bY := bY.ch pD.ch
  replace cq := cq.ch pD.ch
  replace cD := cD.ch pD.ch
  replace cY := cY.ch pD.ch
  replace aj := aj.ch pD.ch
  replace hO := pD.own
  replace cj := cj.ch pD.ch
  replace hB := hB.trans pD.fr
  by_cases xE : mhas m3_591 r605 = true
  ·replace H := ifp xE H
   refine GoQ.stable rfl (olookT (a := r605) (MK.str Try.underlying9) 9 hO rfl Try.underlying69 rfl rfl xE) rfl rfl ?_
   refine GoQ.pure rfl (op_move rfl) rfl rfl ?_
   refine GoQ.pure rfl (op_extract rfl rfl) rfl rfl ?_
   refine GoQ.pure rfl (op_extract rfl rfl) rfl rfl ?_
   refine GoQ.pure rfl (op_assign rfl) rfl rfl ?_
   refine GoQ.pure rfl (op_assign rfl) rfl rfl ?_
   refine GoQ.nil ?_
   refine Go1.seq ?_
   refine Go1.seq ?_
   refine Go1.cut [(6, .pointer (some ⟨B10, 0, none⟩)), (9, .int .i64 (0 : Int)), (10, .int .i64 (k3_548 : Int)), (11, .slice AM ((ix d_32 (k3_548 : Int)).length) AN), (12, .string (gstr (chr (IntKind.i32.wrap ((97 : Int) + (k3_548 : Int)))))), (13, .int .i64 (mgt m3_591 r605)), (14, .bool true), (85, .slice p35 n37 c36), (86, .int .i64 (d_32.length : Int)), (87, .int .i64 (k3_548 : Int))] ⟨rfl, rfl, rfl, rfl, rfl, rfl, rfl, rfl, rfl, rfl, trivial⟩ ?_
   intro σ _
   refine Go1.region ?_
   refine GoR.op ((op_move rfl) _) rfl rfl ?_
   refine GoR.nil ?_
   refine Go1.condT rfl rfl ?_
   refine Go1.drawS 5 [(0, .pure), (1, .pure), (2, .pure), (3, .pure), (4, .pure), (5, .stable), (6, .pure), (7, .pure), (8, .pure), (9, .pure), (10, .stable), (11, .pure), (12, .pure), (13, .stable), (14, .pure), (15, .loud), (16, .last), (17, .pure), (18, .pure), (19, .pure), (20, .last)] mixed (by kernel_rfl) ?_
   intro JI Dn
   have pE := Stp.same hO Dn
   replace bN := bN.ch pE.ch
   replace bS := bS.ch pE.ch
   replace bT := bT.ch pE.ch
   replace bY := bY.ch pE.ch
   replace cq := cq.ch pE.ch
   replace cD := cD.ch pE.ch
   replace cY := cY.ch pE.ch
   replace aj := aj.ch pE.ch
   replace hO := pE.own
   replace cj := cj.ch pE.ch
   replace hB := hB.trans pE.fr
   refine GoQ.pure rfl (op_move rfl) rfl rfl ?_
   refine GoQ.pure rfl (op_move rfl) rfl rfl ?_
   refine GoQ.pure rfl (op_nilCheck rfl) rfl rfl ?_
   refine GoQ.pure rfl (op_fieldAddr Try.underlying72 rfl ti29 rfl (by decide)) rfl rfl ?_
   refine GoQ.pure rfl (op_fieldAddr Try.underlying29 rfl ti27 rfl (by decide)) rfl rfl ?_
   refine GoQ.stable rfl (oblk (i := 7) 8 hO rfl rfl Try.underlying27 rfl rfl) rfl rfl ?_
   refine GoQ.pure rfl (op_move rfl) rfl rfl ?_
   refine GoQ.pure rfl (op_move rfl) rfl rfl ?_
   refine GoQ.pure rfl (op_nilCheck rfl) rfl rfl ?_
   refine GoQ.pure rfl (op_fieldAddr Try.underlying72 rfl ti70 rfl (by decide)) rfl rfl ?_
   refine GoQ.stable rfl (oblk (i := 10) 8 hO rfl rfl Try.underlying70 rfl rfl) rfl rfl ?_
   refine GoQ.pure rfl (op_move rfl) rfl rfl ?_
   obtain ⟨xF, H⟩ := H
   obtain ⟨xG, H⟩ := H
   refine GoQ.pure rfl (op_index Try.underlying70 ti9 rfl rfl xF (ltn (bY.neq hO 3 rfl) xG) (bY.psome hO 3 rfl xF xG)) rfl rfl ?_
   refine GoQ.stable rfl (oldStr 3 hO rfl bY xF xG Try.underlying9 rfl rfl) rfl rfl ?_
   have hle617 := Els.str_le bY xF xG
   refine GoQ.pure rfl (op_build Try.underlying39 ti39 (pl := [(0, 1), (1, 1)]) (vs := [(0, .string (gstr (chr (IntKind.i32.wrap ((97 : Int) + (k3_548 : Int)))))), (1, .string (gstr (ix d_567 (mgt m3_591 r605))))]) (cs := #[.string (gstr (chr (IntKind.i32.wrap ((97 : Int) + (k3_548 : Int))))), .string (gstr (ix d_567 (mgt m3_591 r605)))]) (by kernel_rfl) rfl (by kernel_rfl)) rfl rfl ?_
   have hobt := obuildN (r := rpRule) (n := 1) (parts := [(0, .agg #[.string (gstr (chr (IntKind.i32.wrap ((97 : Int) + (k3_548 : Int))))), .string (gstr (ix d_567 (mgt m3_591 r605)))])]) (vs := [.string (gstr (chr (IntKind.i32.wrap ((97 : Int) + (k3_548 : Int))))), .string (gstr (ix d_567 (mgt m3_591 r605)))]) (xs := [(⟨chr (IntKind.i32.wrap ((97 : Int) + (k3_548 : Int))), ix d_567 (mgt m3_591 r605)⟩ : Rule)]) Try.underlying27 ti39 hO (by decide) (by decide) (by kernel_rfl) (Els.flat1 (⟨chr (IntKind.i32.wrap ((97 : Int) + (k3_548 : Int))), ix d_567 (mgt m3_591 r605)⟩ : Rule) ⟨(chr_le _), hle617⟩) rfl
   obtain ⟨JJ, JK, pF, Do, Dp, AO⟩ := hobt
   refine GoQ.loud rfl (AO rfl) Dp rfl rfl ?_
   replace bN := bN.ch pF.ch
   replace bS := bS.ch pF.ch
   replace bT := bT.ch pF.ch
   replace bY := bY.ch pF.ch
   replace cq := cq.ch pF.ch
   replace cD := cD.ch pF.ch
   replace cY := cY.ch pF.ch
   replace aj := aj.ch pF.ch
   replace hO := pF.own
   replace cj := cj.ch pF.ch
   replace hB := hB.trans pF.fr
   have hobt := freeze 0 hO rfl Do
   obtain ⟨hO1, rL, pc, Dq⟩ := hobt
   dsimp only [eS, eZ] at hO1 rL pc
   replace cj := cj.ch rL
   replace bN := bN.ch rL
   replace bS := bS.ch rL
   replace bT := bT.ch rL
   replace bY := bY.ch rL
   replace cq := cq.ch rL
   replace cD := cD.ch rL
   replace cY := cY.ch rL
   replace aj := aj.ch rL
   replace hB := hB.trans (Owns.dropFr _ _ 0)
   dsimp only [eS, eZ] at hB
   replace hO := hO1; clear hO1
   obtain ⟨GE, H⟩ := H
   have hobt := oapp Try.underlying27 ti39 rfl 1 hO rfl bS pc Dq GE (by decide)
   obtain ⟨JL, xH, xI, Dr, ow, qr, AP⟩ := hobt
   dsimp only [sS, sZ] at ow qr
   refine GoQ.last rfl (AP (by exact rfl) (by exact rfl)) rfl rfl ?_
   replace bN := bN.ch ow.ch
   replace bT := bT.ch ow.ch
   replace bY := bY.ch ow.ch
   replace cq := cq.ch ow.ch
   replace cD := cD.ch ow.ch
   replace cY := cY.ch ow.ch
   replace aj := aj.ch ow.ch
   replace hO := ow.own
   replace cj := cj.ch ow.ch
   replace pc := pc.ch ow.ch
   replace hB := hB.trans ow.fr
   refine GoQ.pure rfl (op_nilCheck rfl) rfl rfl ?_
   refine GoQ.pure rfl (op_fieldAddr Try.underlying72 rfl ti29 rfl (by decide)) rfl rfl ?_
   refine GoQ.pure rfl (op_fieldAddr Try.underlying29 rfl ti27 rfl (by decide)) rfl rfl ?_
   have hobt := oblkSt2 (v := .slice xH (gW + 1) xI) (i := 7) (cs' := #[.int .i64 ((ix a0 (0 : Int)).length : Int), .bool true, .slice p35 n37 c36, .slice ka g5 kc, .slice jJ g0 jK, .slice jm gZ jo, .slice none 0 0, .slice xH (gW + 1) xI, .int .i64 (0 : Int), .map (some B4), .slice jf gY jg, .slice iM gX iN, .slice jd gJ je]) 8 hO rfl rfl rfl rfl
   obtain ⟨JM, ne, AQ⟩ := hobt
   dsimp only [sS, sZ] at ne
   refine GoQ.last rfl (AQ Try.underlying27 rfl ti27 (by exact rfl) (by exact rfl)) rfl rfl ?_
   replace bN := bN.ch ne.ch
   replace qr := qr.ch ne.ch
   replace bT := bT.ch ne.ch
   replace bY := bY.ch ne.ch
   replace cq := cq.ch ne.ch
   replace cD := cD.ch ne.ch
   replace cY := cY.ch ne.ch
   replace aj := aj.ch ne.ch
   replace hO := ne.own
   replace cj := cj.ch ne.ch
   replace pc := pc.ch ne.ch
   replace hB := hB.trans ne.fr
   refine GoQ.nil ?_
   refine Go1.cut [(6, .pointer (some ⟨B10, 0, none⟩)), (9, .int .i64 (0 : Int)), (13, .int .i64 (mgt m3_591 r605)), (85, .slice p35 n37 c36), (86, .int .i64 (d_32.length : Int)), (87, .int .i64 (k3_548 : Int))] ⟨rfl, rfl, rfl, rfl, rfl, rfl, trivial⟩ ?_
   intro σ _
   refine Go1.region ?_
   refine GoR.op ((op_move rfl) _) rfl rfl ?_
   refine GoR.op ((op_move rfl) _) rfl rfl ?_
   refine GoR.op ((op_nilCheck rfl) _) rfl rfl ?_
   refine GoR.op ((op_fieldAddr Try.underlying72 rfl ti26 rfl (by decide)) _) rfl rfl ?_
   refine GoR.op ((oblk (i := 12) 8 hO rfl rfl Try.underlying26 rfl rfl) _ (Same.refl _)) rfl rfl ?_
   refine GoR.op ((op_move rfl) _) rfl rfl ?_
   have hobt := obuild (r := Rp.int .i64) (n := 1) (parts := [(0, .int .i64 (mgt m3_591 r605))]) (vs := [.int .i64 (mgt m3_591 r605)]) (xs := [(mgt m3_591 r605)]) rfl Try.underlying26 ti3 hO (by decide) (by kernel_rfl) (Els.cons rfl rfl (Els.nil _ _ _) (by simp [mx])) rfl
   obtain ⟨JN, JO, ox, Ds, Ic, AR⟩ := hobt
   refine GoR.op (AR rfl) rfl rfl ?_
   replace bN := bN.ch ox.ch
   replace qr := qr.ch ox.ch
   replace bT := bT.ch ox.ch
   replace bY := bY.ch ox.ch
   replace cq := cq.ch ox.ch
   replace cD := cD.ch ox.ch
   replace cY := cY.ch ox.ch
   replace aj := aj.ch ox.ch
   replace hO := ox.own
   replace cj := cj.ch ox.ch
   replace pc := pc.ch ox.ch
   replace hB := hB.trans ox.fr
   have hobt := freeze 0 hO rfl Ds
   obtain ⟨hO1, qL, ug, Dt⟩ := hobt
   dsimp only [eS, eZ] at hO1 qL ug
   replace cj := cj.ch qL
   replace pc := pc.ch qL
   replace bN := bN.ch qL
   replace qr := qr.ch qL
   replace bT := bT.ch qL
   replace bY := bY.ch qL
   replace cq := cq.ch qL
   replace cD := cD.ch qL
   replace cY := cY.ch qL
   replace aj := aj.ch qL
   replace hB := hB.trans (Owns.dropFr _ _ 0)
   dsimp only [eS, eZ] at hB
   replace hO := hO1; clear hO1
   obtain ⟨GF, H⟩ := H
   have hobt := oapp Try.underlying26 ti3 rfl 0 hO rfl bN ug Dt GF (by decide)
   obtain ⟨JP, yP, yQ, Du, nf, wu, AT⟩ := hobt
   dsimp only [sS, sZ] at nf wu
   refine GoR.op (AT (by exact rfl) (by exact rfl)) rfl rfl ?_
   replace qr := qr.ch nf.ch
   replace bT := bT.ch nf.ch
   replace bY := bY.ch nf.ch
   replace cq := cq.ch nf.ch
   replace cD := cD.ch nf.ch
   replace cY := cY.ch nf.ch
   replace aj := aj.ch nf.ch
   replace hO := nf.own
   replace cj := cj.ch nf.ch
   replace pc := pc.ch nf.ch
   replace ug := ug.ch nf.ch
   replace hB := hB.trans nf.fr
   refine GoR.op ((op_nilCheck rfl) _) rfl rfl ?_
   refine GoR.op ((op_fieldAddr Try.underlying72 rfl ti26 rfl (by decide)) _) rfl rfl ?_
   have hobt := oblkSt2 (v := .slice yP (gJ + 1) yQ) (i := 12) (cs' := #[.int .i64 ((ix a0 (0 : Int)).length : Int), .bool true, .slice p35 n37 c36, .slice ka g5 kc, .slice jJ g0 jK, .slice jm gZ jo, .slice none 0 0, .slice xH (gW + 1) xI, .int .i64 (0 : Int), .map (some B4), .slice jf gY jg, .slice iM gX iN, .slice yP (gJ + 1) yQ]) 8 hO rfl rfl rfl rfl
   obtain ⟨JQ, mz, AU⟩ := hobt
   dsimp only [sS, sZ] at mz
   refine GoR.op (AU Try.underlying26 rfl ti26 (by exact rfl) (by exact rfl)) rfl rfl ?_
   replace wu := wu.ch mz.ch
   replace qr := qr.ch mz.ch
   replace bT := bT.ch mz.ch
   replace bY := bY.ch mz.ch
   replace cq := cq.ch mz.ch
   replace cD := cD.ch mz.ch
   replace cY := cY.ch mz.ch
   replace aj := aj.ch mz.ch
   replace hO := mz.own
   replace cj := cj.ch mz.ch
   replace pc := pc.ch mz.ch
   replace ug := ug.ch mz.ch
   replace hB := hB.trans mz.fr
   refine GoR.nil ?_
   refine Go1.inBlock ?_
   refine Go1.region ?_
   refine GoR.op ((op_add rfl rfl (wrap_i64 (natbd vK aj.bd))) _) rfl rfl ?_
   refine GoR.op ((op_move rfl) _) rfl rfl ?_
   refine GoR.nil ?_
   exact hX3 _ H _ _ ⟨gJ + 1, yP, yQ, Du, gW + 1, xH, xI, Dr, gX, iM, iN, nI, gY, jf, jg, nJ, gZ, jm, jo, nK, g0, jJ, jK, nM, g5, ka, kc, nN, ⟨rfl, rfl, rfl, rfl, rfl, trivial⟩, hO, wu, qr, bT, bY, cq, cD, cY, aj, hB⟩
  replace H := ifn xE H
  refine GoQ.stable rfl (olookF (a := r605) (MK.str Try.underlying9) 9 hO rfl Try.underlying69 ti3 rfl rfl xE) rfl rfl ?_
  refine GoQ.pure rfl (op_move rfl) rfl rfl ?_
  refine GoQ.pure rfl (op_extract rfl rfl) rfl rfl ?_
  refine GoQ.pure rfl (op_extract rfl rfl) rfl rfl ?_
  refine GoQ.pure rfl (op_assign rfl) rfl rfl ?_
  refine GoQ.pure rfl (op_assign rfl) rfl rfl ?_
  refine GoQ.nil ?_
  refine Go1.seq ?_
  refine Go1.seq ?_
  refine Go1.region ?_
  refine GoR.op ((op_move rfl) _) rfl rfl ?_
  refine GoR.nil ?_
  refine Go1.condF rfl rfl ?_
  refine Go1.cut [(6, .pointer (some ⟨B10, 0, none⟩)), (9, .int .i64 (0 : Int)), (10, .int .i64 (k3_548 : Int)), (11, .slice AM ((ix d_32 (k3_548 : Int)).length) AN), (12, .string (gstr (chr (IntKind.i32.wrap ((97 : Int) + (k3_548 : Int)))))), (85, .slice p35 n37 c36), (86, .int .i64 (d_32.length : Int)), (87, .int .i64 (k3_548 : Int))] ⟨rfl, rfl, rfl, rfl, rfl, rfl, rfl, rfl, trivial⟩ ?_
  intro σ _
  refine Go1.region ?_
  refine GoR.op ((op_move rfl) _) rfl rfl ?_
  refine GoR.op ((op_move rfl) _) rfl rfl ?_
  refine GoR.call (op_call body64 rfl (walk_slices_Clone_int hO.lt cj H)) rfl rfl ?_
  rintro JR JS ⟨r662, tW, rY, rZ, HR, rfl, Dv, hN666, rM, H⟩
  have oy := Stp.more hO Dv hN666
  dsimp only [List.cons_append, List.nil_append] at oy
  replace bN := bN.ch oy.ch
  replace bS := bS.ch oy.ch
  replace bT := bT.ch oy.ch
  replace bY := bY.ch oy.ch
  replace cq := cq.ch oy.ch
  replace cD := cD.ch oy.ch
  replace cY := cY.ch oy.ch
  replace aj := aj.ch oy.ch
  replace hO := oy.own
  replace cj := cj.ch oy.ch
  replace hB := hB.trans oy.fr
  replace rM := rM.ch (Ch.assoc _ _ _ _)
  refine GoR.op ((op_move rfl) _) rfl rfl ?_
  refine GoR.op ((op_move rfl) _) rfl rfl ?_
  refine GoR.op ((op_move rfl) _) rfl rfl ?_
  refine GoR.op ((op_move rfl) _) rfl rfl ?_
  refine GoR.inl (vs := [.pointer (some ⟨B10, 0, none⟩), .slice rY tW rZ, .int .i64 (0 : Int), .int .i64 (k3_548 : Int), .string (gstr (chr (IntKind.i32.wrap ((97 : Int) + (k3_548 : Int))))), .int .i64 (0 : Int)]) (caps := []) rfl rfl body65 Try.func65 rfl Try.ntmps65 rfl rfl rfl ?_
  intro RhR670 hR670
  refine Go1.seq ?_
  refine Go1.region ?_
  refine GoR.op ((op_assign rfl) _) rfl rfl ?_
  refine GoR.nil ?_
  refine Go1.seq ?_
  refine Go1.region ?_
  refine GoR.op ((op_move rfl) _) rfl rfl ?_
  refine GoR.op ((op_nilCheck rfl) _) rfl rfl ?_
  refine GoR.op ((op_fieldAddr Try.underlying72 rfl ti29 rfl (by decide)) _) rfl rfl ?_
  refine GoR.op ((op_fieldAddr Try.underlying29 rfl ti22 rfl (by decide)) _) rfl rfl ?_
  refine GoR.op ((oblk (i := 3) 9 hO rfl rfl Try.underlying22 rfl rfl) _ (Same.refl _)) rfl rfl ?_
  refine GoR.op ((op_lenN Try.underlying22 rfl (cY.neq hO 7 rfl)) _) rfl rfl ?_
  refine GoR.op ((op_assign rfl) _) rfl rfl ?_
  refine GoR.nil ?_
  refine Go1.seq ?_
  refine Go1.drawS 1 [(0, .pure), (1, .pure), (2, .pure), (3, .stable), (4, .pure), (6, .pure), (5, .loud), (7, .last)] mixed (by kernel_rfl) ?_
  intro JT Dw
  have oz := Stp.same hO Dw
  replace rM := rM.ch oz.ch
  replace bN := bN.ch oz.ch
  replace bS := bS.ch oz.ch
  replace bT := bT.ch oz.ch
  replace bY := bY.ch oz.ch
  replace cq := cq.ch oz.ch
  replace cD := cD.ch oz.ch
  replace cY := cY.ch oz.ch
  replace aj := aj.ch oz.ch
  replace hO := oz.own
  replace cj := cj.ch oz.ch
  replace hB := hB.trans oz.fr
  refine GoQ.pure rfl (op_move rfl) rfl rfl ?_
  refine GoQ.pure rfl (op_nilCheck rfl) rfl rfl ?_
  refine GoQ.pure rfl (op_fieldAddr Try.underlying72 rfl ti69 rfl (by decide)) rfl rfl ?_
  refine GoQ.stable rfl (oblk (i := 9) 9 hO rfl rfl Try.underlying69 rfl rfl) rfl rfl ?_
  refine GoQ.pure rfl (op_move rfl) rfl rfl ?_
  refine GoQ.pure rfl (op_move rfl) rfl rfl ?_
  have hobt := rowlend 0 hO rfl rM
  obtain ⟨Dx, Dy⟩ := hobt
  have hOc676 := hO.drop 0
  refine GoQ.call rfl (op_call body61 (show ([.slice rY tW rZ] : List Value) = [.slice rY r662.length rZ] from by rw [← Dy]) (walk_enumerate_text hOc676.lt Dx H)) (fun v w hr => by obtain ⟨_, _, hs, _, _⟩ := hr; assumption) rfl rfl ?_
  rintro JU JV ⟨r677, rfl, Dz, HS, H⟩
  have oA := Stp.same hO Dz
  replace rM := rM.ch oA.ch
  replace bN := bN.ch oA.ch
  replace bS := bS.ch oA.ch
  replace bT := bT.ch oA.ch
  replace bY := bY.ch oA.ch
  replace cq := cq.ch oA.ch
  replace cD := cD.ch oA.ch
  replace cY := cY.ch oA.ch
  replace aj := aj.ch oA.ch
  replace hO := oA.own
  replace cj := cj.ch oA.ch
  replace hB := hB.trans oA.fr
  have hobt := omapUpd (MK.str Try.underlying9) 10 hO rfl Try.underlying69 r677 (d_585.length : Int)
  obtain ⟨JW, ng, AV⟩ := hobt
  dsimp only [sS, sZ] at ng
  refine GoQ.last rfl (AV (by exact rfl) (by exact rfl) (by exact rfl)) rfl rfl ?_
  replace rM := rM.ch ng.ch
  replace bN := bN.ch ng.ch
  replace bS := bS.ch ng.ch
  replace bT := bT.ch ng.ch
  replace bY := bY.ch ng.ch
  replace cq := cq.ch ng.ch
  replace cD := cD.ch ng.ch
  replace cY := cY.ch ng.ch
  replace aj := aj.ch ng.ch
  replace hO := ng.own
  replace cj := cj.ch ng.ch
  replace hB := hB.trans ng.fr
  refine GoQ.nil ?_
  refine Go1.seq ?_
  refine Go1.cut [(0, .pointer (some ⟨B10, 0, none⟩)), (1, .slice rY tW rZ), (2, .int .i64 (0 : Int)), (3, .int .i64 (k3_548 : Int)), (4, .string (gstr (chr (IntKind.i32.wrap ((97 : Int) + (k3_548 : Int)))))), (5, .int .i64 (0 : Int)), (13, .int .i64 (d_585.length : Int))] ⟨rfl, rfl, rfl, rfl, rfl, rfl, rfl, trivial⟩ ?_
  intro σ _
  refine Go1.region ?_
  refine GoR.op ((op_move rfl) _) rfl rfl ?_
  refine GoR.op ((op_move rfl) _) rfl rfl ?_
  refine GoR.op ((op_nilCheck rfl) _) rfl rfl ?_
  refine GoR.op ((op_fieldAddr Try.underlying72 rfl ti29 rfl (by decide)) _) rfl rfl ?_
  refine GoR.op ((op_fieldAddr Try.underlying29 rfl ti22 rfl (by decide)) _) rfl rfl ?_
  refine GoR.op ((oblk (i := 3) 9 hO rfl rfl Try.underlying22 rfl rfl) _ (Same.refl _)) rfl rfl ?_
  refine GoR.op ((op_move rfl) _) rfl rfl ?_
  have hobt := freeze 0 hO rfl rM
  obtain ⟨hO1, rN, dw, DA⟩ := hobt
  dsimp only [eS, eZ] at hO1 rN dw
  replace cj := cj.ch rN
  replace bN := bN.ch rN
  replace bS := bS.ch rN
  replace bT := bT.ch rN
  replace bY := bY.ch rN
  replace cq := cq.ch rN
  replace cD := cD.ch rN
  replace cY := cY.ch rN
  replace aj := aj.ch rN
  replace hB := hB.trans (Owns.dropFr _ _ 0)
  dsimp only [eS, eZ] at hB
  replace hO := hO1; clear hO1
  have hobt := obuild (r := Rp.sl (Rp.int .i64)) (n := 1) (parts := [(0, .slice rY tW rZ)]) (vs := [.slice rY tW rZ]) (xs := [r662]) rfl Try.underlying22 ti26 hO (by decide) (by kernel_rfl) (Els.cons rfl ⟨rY, rZ, congrArg some (congrArg (fun nn => Value.slice rY nn rZ) DA), dw⟩ (Els.nil _ _ _) (by simp [mx])) rfl
  obtain ⟨JX, JY, oB, DB, Id, AW⟩ := hobt
  refine GoR.op (AW rfl) rfl rfl ?_
  replace bN := bN.ch oB.ch
  replace bS := bS.ch oB.ch
  replace bT := bT.ch oB.ch
  replace bY := bY.ch oB.ch
  replace cq := cq.ch oB.ch
  replace cD := cD.ch oB.ch
  replace cY := cY.ch oB.ch
  replace aj := aj.ch oB.ch
  replace hO := oB.own
  replace cj := cj.ch oB.ch
  replace dw := dw.ch oB.ch
  replace hB := hB.trans oB.fr
  have hobt := freeze 0 hO rfl DB
  obtain ⟨hO1, qM, dD, DD⟩ := hobt
  dsimp only [eS, eZ] at hO1 qM dD
  replace cj := cj.ch qM
  replace dw := dw.ch qM
  replace bN := bN.ch qM
  replace bS := bS.ch qM
  replace bT := bT.ch qM
  replace bY := bY.ch qM
  replace cq := cq.ch qM
  replace cD := cD.ch qM
  replace cY := cY.ch qM
  replace aj := aj.ch qM
  replace hB := hB.trans (Owns.dropFr _ _ 0)
  dsimp only [eS, eZ] at hB
  replace hO := hO1; clear hO1
  obtain ⟨GG, H⟩ := H
  have hobt := oapp Try.underlying22 ti26 rfl 6 hO rfl cY dD DD GG (by decide)
  obtain ⟨JZ, tX, tY, DE, nh, dG, AX⟩ := hobt
  dsimp only [sS, sZ] at nh dG
  refine GoR.op (AX (by exact rfl) (by exact rfl)) rfl rfl ?_
  replace bN := bN.ch nh.ch
  replace bS := bS.ch nh.ch
  replace bT := bT.ch nh.ch
  replace bY := bY.ch nh.ch
  replace cq := cq.ch nh.ch
  replace cD := cD.ch nh.ch
  replace aj := aj.ch nh.ch
  replace hO := nh.own
  replace cj := cj.ch nh.ch
  replace dw := dw.ch nh.ch
  replace dD := dD.ch nh.ch
  replace hB := hB.trans nh.fr
  refine GoR.op ((op_nilCheck rfl) _) rfl rfl ?_
  refine GoR.op ((op_fieldAddr Try.underlying72 rfl ti29 rfl (by decide)) _) rfl rfl ?_
  refine GoR.op ((op_fieldAddr Try.underlying29 rfl ti22 rfl (by decide)) _) rfl rfl ?_
  have hobt := oblkSt2 (v := .slice tX (g5 + 1) tY) (i := 3) (cs' := #[.int .i64 ((ix a0 (0 : Int)).length : Int), .bool true, .slice p35 n37 c36, .slice tX (g5 + 1) tY, .slice jJ g0 jK, .slice jm gZ jo, .slice none 0 0, .slice iK gW iL, .int .i64 (0 : Int), .map (some B4), .slice jf gY jg, .slice iM gX iN, .slice jd gJ je]) 8 hO rfl rfl rfl rfl
  obtain ⟨J0, mA, AY⟩ := hobt
  dsimp only [sS, sZ] at mA
  refine GoR.op (AY Try.underlying22 rfl ti22 (by exact rfl) (by exact rfl)) rfl rfl ?_
  replace bN := bN.ch mA.ch
  replace bS := bS.ch mA.ch
  replace bT := bT.ch mA.ch
  replace bY := bY.ch mA.ch
  replace cq := cq.ch mA.ch
  replace cD := cD.ch mA.ch
  replace dG := dG.ch mA.ch
  replace aj := aj.ch mA.ch
  replace hO := mA.own
  replace cj := cj.ch mA.ch
  replace dw := dw.ch mA.ch
  replace dD := dD.ch mA.ch
  replace hB := hB.trans mA.fr
  refine GoR.nil ?_
  refine Go1.seq ?_
  refine Go1.region ?_
  refine GoR.op ((op_move rfl) _) rfl rfl ?_
  refine GoR.op ((op_move rfl) _) rfl rfl ?_
  refine GoR.op ((op_nilCheck rfl) _) rfl rfl ?_
  refine GoR.op ((op_fieldAddr Try.underlying72 rfl ti29 rfl (by decide)) _) rfl rfl ?_
  refine GoR.op ((op_fieldAddr Try.underlying29 rfl ti26 rfl (by decide)) _) rfl rfl ?_
  refine GoR.op ((oblk (i := 4) 8 hO rfl rfl Try.underlying26 rfl rfl) _ (Same.refl _)) rfl rfl ?_
  refine GoR.op ((op_move rfl) _) rfl rfl ?_
  have hobt := obuild (r := Rp.int .i64) (n := 1) (parts := [(0, .int .i64 (0 : Int))]) (vs := [.int .i64 (0 : Int)]) (xs := [(0 : Int)]) rfl Try.underlying26 ti3 hO (by decide) (by kernel_rfl) (Els.cons rfl rfl (Els.nil _ _ _) (by simp [mx])) rfl
  obtain ⟨J1, J2, ni, DF, Ie, AZ⟩ := hobt
  refine GoR.op (AZ rfl) rfl rfl ?_
  replace bN := bN.ch ni.ch
  replace bS := bS.ch ni.ch
  replace bT := bT.ch ni.ch
  replace bY := bY.ch ni.ch
  replace cq := cq.ch ni.ch
  replace cD := cD.ch ni.ch
  replace dG := dG.ch ni.ch
  replace aj := aj.ch ni.ch
  replace hO := ni.own
  replace cj := cj.ch ni.ch
  replace dw := dw.ch ni.ch
  replace dD := dD.ch ni.ch
  replace hB := hB.trans ni.fr
  have hobt := freeze 0 hO rfl DF
  obtain ⟨hO1, qs, eK, DG⟩ := hobt
  dsimp only [eS, eZ] at hO1 qs eK
  replace cj := cj.ch qs
  replace dw := dw.ch qs
  replace dD := dD.ch qs
  replace bN := bN.ch qs
  replace bS := bS.ch qs
  replace bT := bT.ch qs
  replace bY := bY.ch qs
  replace cq := cq.ch qs
  replace cD := cD.ch qs
  replace dG := dG.ch qs
  replace aj := aj.ch qs
  replace hB := hB.trans (Owns.dropFr _ _ 0)
  dsimp only [eS, eZ] at hB
  replace hO := hO1; clear hO1
  obtain ⟨GH, H⟩ := H
  have hobt := oapp Try.underlying26 ti3 rfl 5 hO rfl cD eK DG GH (by decide)
  obtain ⟨J3, uN, uO, DH, mB, eX, A4⟩ := hobt
  dsimp only [sS, sZ] at mB eX
  refine GoR.op (A4 (by exact rfl) (by exact rfl)) rfl rfl ?_
  replace bN := bN.ch mB.ch
  replace bS := bS.ch mB.ch
  replace bT := bT.ch mB.ch
  replace bY := bY.ch mB.ch
  replace cq := cq.ch mB.ch
  replace dG := dG.ch mB.ch
  replace aj := aj.ch mB.ch
  replace hO := mB.own
  replace cj := cj.ch mB.ch
  replace dw := dw.ch mB.ch
  replace dD := dD.ch mB.ch
  replace eK := eK.ch mB.ch
  replace hB := hB.trans mB.fr
  refine GoR.op ((op_nilCheck rfl) _) rfl rfl ?_
  refine GoR.op ((op_fieldAddr Try.underlying72 rfl ti29 rfl (by decide)) _) rfl rfl ?_
  refine GoR.op ((op_fieldAddr Try.underlying29 rfl ti26 rfl (by decide)) _) rfl rfl ?_
  have hobt := oblkSt2 (v := .slice uN (g0 + 1) uO) (i := 4) (cs' := #[.int .i64 ((ix a0 (0 : Int)).length : Int), .bool true, .slice p35 n37 c36, .slice tX (g5 + 1) tY, .slice uN (g0 + 1) uO, .slice jm gZ jo, .slice none 0 0, .slice iK gW iL, .int .i64 (0 : Int), .map (some B4), .slice jf gY jg, .slice iM gX iN, .slice jd gJ je]) 8 hO rfl rfl rfl rfl
  obtain ⟨J4, lX, A5⟩ := hobt
  dsimp only [sS, sZ] at lX
  refine GoR.op (A5 Try.underlying26 rfl ti26 (by exact rfl) (by exact rfl)) rfl rfl ?_
  replace bN := bN.ch lX.ch
  replace bS := bS.ch lX.ch
  replace bT := bT.ch lX.ch
  replace bY := bY.ch lX.ch
  replace cq := cq.ch lX.ch
  replace eX := eX.ch lX.ch
  replace dG := dG.ch lX.ch
  replace aj := aj.ch lX.ch
  replace hO := lX.own
  replace cj := cj.ch lX.ch
  replace dw := dw.ch lX.ch
  replace dD := dD.ch lX.ch
  replace eK := eK.ch lX.ch
  replace hB := hB.trans lX.fr
  refine GoR.nil ?_
  refine Go1.seq ?_
  refine Go1.cut [(0, .pointer (some ⟨B10, 0, none⟩)), (3, .int .i64 (k3_548 : Int)), (4, .string (gstr (chr (IntKind.i32.wrap ((97 : Int) + (k3_548 : Int)))))), (5, .int .i64 (0 : Int)), (13, .int .i64 (d_585.length : Int))] ⟨rfl, rfl, rfl, rfl, rfl, trivial⟩ ?_
  intro σ _
  refine Go1.region ?_
  refine GoR.op ((op_move rfl) _) rfl rfl ?_
  refine GoR.op ((op_move rfl) _) rfl rfl ?_
  refine GoR.op ((op_nilCheck rfl) _) rfl rfl ?_
  refine GoR.op ((op_fieldAddr Try.underlying72 rfl ti29 rfl (by decide)) _) rfl rfl ?_
  refine GoR.op ((op_fieldAddr Try.underlying29 rfl ti26 rfl (by decide)) _) rfl rfl ?_
  refine GoR.op ((oblk (i := 5) 8 hO rfl rfl Try.underlying26 rfl rfl) _ (Same.refl _)) rfl rfl ?_
  refine GoR.op ((op_move rfl) _) rfl rfl ?_
  have hobt := obuild (r := Rp.int .i64) (n := 1) (parts := [(0, .int .i64 (k3_548 : Int))]) (vs := [.int .i64 (k3_548 : Int)]) (xs := [(k3_548 : Int)]) rfl Try.underlying26 ti3 hO (by decide) (by kernel_rfl) (Els.cons rfl rfl (Els.nil _ _ _) (by simp [mx])) rfl
  obtain ⟨J5, J6, mC, DJ, Ig, A6⟩ := hobt
  refine GoR.op (A6 rfl) rfl rfl ?_
  replace bN := bN.ch mC.ch
  replace bS := bS.ch mC.ch
  replace bT := bT.ch mC.ch
  replace bY := bY.ch mC.ch
  replace cq := cq.ch mC.ch
  replace eX := eX.ch mC.ch
  replace dG := dG.ch mC.ch
  replace aj := aj.ch mC.ch
  replace hO := mC.own
  replace cj := cj.ch mC.ch
  replace dw := dw.ch mC.ch
  replace dD := dD.ch mC.ch
  replace eK := eK.ch mC.ch
  replace hB := hB.trans mC.fr
  have hobt := freeze 0 hO rfl DJ
  obtain ⟨hO1, pU, gF, DK⟩ := hobt
  dsimp only [eS, eZ] at hO1 pU gF
  replace cj := cj.ch pU
  replace dw := dw.ch pU
  replace dD := dD.ch pU
  replace eK := eK.ch pU
  replace bN := bN.ch pU
  replace bS := bS.ch pU
  replace bT := bT.ch pU
  replace bY := bY.ch pU
  replace cq := cq.ch pU
  replace eX := eX.ch pU
  replace dG := dG.ch pU
  replace aj := aj.ch pU
  replace hB := hB.trans (Owns.dropFr _ _ 0)
  dsimp only [eS, eZ] at hB
  replace hO := hO1; clear hO1
  obtain ⟨GJ, H⟩ := H
  have hobt := oapp Try.underlying26 ti3 rfl 4 hO rfl cq gF DK GJ (by decide)
  obtain ⟨J7, vL, vM, DL, lY, gN, A7⟩ := hobt
  dsimp only [sS, sZ] at lY gN
  refine GoR.op (A7 (by exact rfl) (by exact rfl)) rfl rfl ?_
  replace bN := bN.ch lY.ch
  replace bS := bS.ch lY.ch
  replace bT := bT.ch lY.ch
  replace bY := bY.ch lY.ch
  replace eX := eX.ch lY.ch
  replace dG := dG.ch lY.ch
  replace aj := aj.ch lY.ch
  replace hO := lY.own
  replace cj := cj.ch lY.ch
  replace dw := dw.ch lY.ch
  replace dD := dD.ch lY.ch
  replace eK := eK.ch lY.ch
  replace gF := gF.ch lY.ch
  replace hB := hB.trans lY.fr
  refine GoR.op ((op_nilCheck rfl) _) rfl rfl ?_
  refine GoR.op ((op_fieldAddr Try.underlying72 rfl ti29 rfl (by decide)) _) rfl rfl ?_
  refine GoR.op ((op_fieldAddr Try.underlying29 rfl ti26 rfl (by decide)) _) rfl rfl ?_
  have hobt := oblkSt2 (v := .slice vL (gZ + 1) vM) (i := 5) (cs' := #[.int .i64 ((ix a0 (0 : Int)).length : Int), .bool true, .slice p35 n37 c36, .slice tX (g5 + 1) tY, .slice uN (g0 + 1) uO, .slice vL (gZ + 1) vM, .slice none 0 0, .slice iK gW iL, .int .i64 (0 : Int), .map (some B4), .slice jf gY jg, .slice iM gX iN, .slice jd gJ je]) 8 hO rfl rfl rfl rfl
  obtain ⟨J8, lv, A8⟩ := hobt
  dsimp only [sS, sZ] at lv
  refine GoR.op (A8 Try.underlying26 rfl ti26 (by exact rfl) (by exact rfl)) rfl rfl ?_
  replace bN := bN.ch lv.ch
  replace bS := bS.ch lv.ch
  replace bT := bT.ch lv.ch
  replace bY := bY.ch lv.ch
  replace gN := gN.ch lv.ch
  replace eX := eX.ch lv.ch
  replace dG := dG.ch lv.ch
  replace aj := aj.ch lv.ch
  replace hO := lv.own
  replace cj := cj.ch lv.ch
  replace dw := dw.ch lv.ch
  replace dD := dD.ch lv.ch
  replace eK := eK.ch lv.ch
  replace gF := gF.ch lv.ch
  replace hB := hB.trans lv.fr
  refine GoR.nil ?_
  refine Go1.seq ?_
  refine Go1.region ?_
  refine GoR.op ((op_move rfl) _) rfl rfl ?_
  refine GoR.op ((op_move rfl) _) rfl rfl ?_
  refine GoR.op ((op_nilCheck rfl) _) rfl rfl ?_
  refine GoR.op ((op_fieldAddr Try.underlying72 rfl ti70 rfl (by decide)) _) rfl rfl ?_
  refine GoR.op ((oblk (i := 10) 8 hO rfl rfl Try.underlying70 rfl rfl) _ (Same.refl _)) rfl rfl ?_
  refine GoR.op ((op_move rfl) _) rfl rfl ?_
  have hobt := obuild (r := Rp.str) (n := 1) (parts := [(0, .string (gstr (chr (IntKind.i32.wrap ((97 : Int) + (k3_548 : Int))))))]) (vs := [.string (gstr (chr (IntKind.i32.wrap ((97 : Int) + (k3_548 : Int)))))]) (xs := [chr (IntKind.i32.wrap ((97 : Int) + (k3_548 : Int)))]) rfl Try.underlying70 ti9 hO (by decide) (by kernel_rfl) (Els.cons rfl ⟨rfl, (chr_le _)⟩ (Els.nil _ _ _) (by simp [mx])) rfl
  obtain ⟨J9, Ka, lZ, DM, Ih, A9⟩ := hobt
  refine GoR.op (A9 rfl) rfl rfl ?_
  replace bN := bN.ch lZ.ch
  replace bS := bS.ch lZ.ch
  replace bT := bT.ch lZ.ch
  replace bY := bY.ch lZ.ch
  replace gN := gN.ch lZ.ch
  replace eX := eX.ch lZ.ch
  replace dG := dG.ch lZ.ch
  replace aj := aj.ch lZ.ch
  replace hO := lZ.own
  replace cj := cj.ch lZ.ch
  replace dw := dw.ch lZ.ch
  replace dD := dD.ch lZ.ch
  replace eK := eK.ch lZ.ch
  replace gF := gF.ch lZ.ch
  replace hB := hB.trans lZ.fr
  have hobt := freeze 0 hO rfl DM
  obtain ⟨hO1, pe, jN, DN⟩ := hobt
  dsimp only [eS, eZ] at hO1 pe jN
  replace cj := cj.ch pe
  replace dw := dw.ch pe
  replace dD := dD.ch pe
  replace eK := eK.ch pe
  replace gF := gF.ch pe
  replace bN := bN.ch pe
  replace bS := bS.ch pe
  replace bT := bT.ch pe
  replace bY := bY.ch pe
  replace gN := gN.ch pe
  replace eX := eX.ch pe
  replace dG := dG.ch pe
  replace aj := aj.ch pe
  replace hB := hB.trans (Owns.dropFr _ _ 0)
  dsimp only [eS, eZ] at hB
  replace hO := hO1; clear hO1
  obtain ⟨GK, H⟩ := H
  have hobt := oapp Try.underlying70 ti9 rfl 3 hO rfl bY jN DN GK (by decide)
  obtain ⟨Kb, wK, wL, DO, lw, lj, Ba⟩ := hobt
  dsimp only [sS, sZ] at lw lj
  refine GoR.op (Ba (by exact rfl) (by exact rfl)) rfl rfl ?_
  replace bN := bN.ch lw.ch
  replace bS := bS.ch lw.ch
  replace bT := bT.ch lw.ch
  replace gN := gN.ch lw.ch
  replace eX := eX.ch lw.ch
  replace dG := dG.ch lw.ch
  replace aj := aj.ch lw.ch
  replace hO := lw.own
  replace cj := cj.ch lw.ch
  replace dw := dw.ch lw.ch
  replace dD := dD.ch lw.ch
  replace eK := eK.ch lw.ch
  replace gF := gF.ch lw.ch
  replace jN := jN.ch lw.ch
  replace hB := hB.trans lw.fr
  refine GoR.op ((op_nilCheck rfl) _) rfl rfl ?_
  refine GoR.op ((op_fieldAddr Try.underlying72 rfl ti70 rfl (by decide)) _) rfl rfl ?_
  have hobt := oblkSt2 (v := .slice wK (gY + 1) wL) (i := 10) (cs' := #[.int .i64 ((ix a0 (0 : Int)).length : Int), .bool true, .slice p35 n37 c36, .slice tX (g5 + 1) tY, .slice uN (g0 + 1) uO, .slice vL (gZ + 1) vM, .slice none 0 0, .slice iK gW iL, .int .i64 (0 : Int), .map (some B4), .slice wK (gY + 1) wL, .slice iM gX iN, .slice jd gJ je]) 8 hO rfl rfl rfl rfl
  obtain ⟨Kc, kn, Bb⟩ := hobt
  dsimp only [sS, sZ] at kn
  refine GoR.op (Bb Try.underlying70 rfl ti70 (by exact rfl) (by exact rfl)) rfl rfl ?_
  replace bN := bN.ch kn.ch
  replace bS := bS.ch kn.ch
  replace bT := bT.ch kn.ch
  replace lj := lj.ch kn.ch
  replace gN := gN.ch kn.ch
  replace eX := eX.ch kn.ch
  replace dG := dG.ch kn.ch
  replace aj := aj.ch kn.ch
  replace hO := kn.own
  replace cj := cj.ch kn.ch
  replace dw := dw.ch kn.ch
  replace dD := dD.ch kn.ch
  replace eK := eK.ch kn.ch
  replace gF := gF.ch kn.ch
  replace jN := jN.ch kn.ch
  replace hB := hB.trans kn.fr
  refine GoR.nil ?_
  refine Go1.seq ?_
  refine Go1.cut [(0, .pointer (some ⟨B10, 0, none⟩)), (5, .int .i64 (0 : Int)), (13, .int .i64 (d_585.length : Int))] ⟨rfl, rfl, rfl, trivial⟩ ?_
  intro σ _
  refine Go1.region ?_
  refine GoR.op ((op_move rfl) _) rfl rfl ?_
  refine GoR.op ((op_move rfl) _) rfl rfl ?_
  refine GoR.op ((op_nilCheck rfl) _) rfl rfl ?_
  refine GoR.op ((op_fieldAddr Try.underlying72 rfl ti26 rfl (by decide)) _) rfl rfl ?_
  refine GoR.op ((oblk (i := 11) 8 hO rfl rfl Try.underlying26 rfl rfl) _ (Same.refl _)) rfl rfl ?_
  refine GoR.op ((op_move rfl) _) rfl rfl ?_
  have hobt := obuild (r := Rp.int .i64) (n := 1) (parts := [(0, .int .i64 (0 : Int))]) (vs := [.int .i64 (0 : Int)]) (xs := [(0 : Int)]) rfl Try.underlying26 ti3 hO (by decide) (by kernel_rfl) (Els.cons rfl rfl (Els.nil _ _ _) (by simp [mx])) rfl
  obtain ⟨Kd, Ke, lx, DP, Ii, Bc⟩ := hobt
  refine GoR.op (Bc rfl) rfl rfl ?_
  replace bN := bN.ch lx.ch
  replace bS := bS.ch lx.ch
  replace bT := bT.ch lx.ch
  replace lj := lj.ch lx.ch
  replace gN := gN.ch lx.ch
  replace eX := eX.ch lx.ch
  replace dG := dG.ch lx.ch
  replace aj := aj.ch lx.ch
  replace hO := lx.own
  replace cj := cj.ch lx.ch
  replace dw := dw.ch lx.ch
  replace dD := dD.ch lx.ch
  replace eK := eK.ch lx.ch
  replace gF := gF.ch lx.ch
  replace jN := jN.ch lx.ch
  replace hB := hB.trans lx.fr
  have hobt := freeze 0 hO rfl DP
  obtain ⟨hO1, nO, pg, DQ⟩ := hobt
  dsimp only [eS, eZ] at hO1 nO pg
  replace cj := cj.ch nO
  replace dw := dw.ch nO
  replace dD := dD.ch nO
  replace eK := eK.ch nO
  replace gF := gF.ch nO
  replace jN := jN.ch nO
  replace bN := bN.ch nO
  replace bS := bS.ch nO
  replace bT := bT.ch nO
  replace lj := lj.ch nO
  replace gN := gN.ch nO
  replace eX := eX.ch nO
  replace dG := dG.ch nO
  replace aj := aj.ch nO
  replace hB := hB.trans (Owns.dropFr _ _ 0)
  dsimp only [eS, eZ] at hB
  replace hO := hO1; clear hO1
  obtain ⟨GL, H⟩ := H
  have hobt := oapp Try.underlying26 ti3 rfl 2 hO rfl bT pg DQ GL (by decide)
  obtain ⟨Kf, xJ, xK, DR, ko, qt, Bd⟩ := hobt
  dsimp only [sS, sZ] at ko qt
  refine GoR.op (Bd (by exact rfl) (by exact rfl)) rfl rfl ?_
  replace bN := bN.ch ko.ch
  replace bS := bS.ch ko.ch
  replace lj := lj.ch ko.ch
  replace gN := gN.ch ko.ch
  replace eX := eX.ch ko.ch
  replace dG := dG.ch ko.ch
  replace aj := aj.ch ko.ch
  replace hO := ko.own
  replace cj := cj.ch ko.ch
  replace dw := dw.ch ko.ch
  replace dD := dD.ch ko.ch
  replace eK := eK.ch ko.ch
  replace gF := gF.ch ko.ch
  replace jN := jN.ch ko.ch
  replace pg := pg.ch ko.ch
  replace hB := hB.trans ko.fr
  refine GoR.op ((op_nilCheck rfl) _) rfl rfl ?_
  refine GoR.op ((op_fieldAddr Try.underlying72 rfl ti26 rfl (by decide)) _) rfl rfl ?_
  have hobt := oblkSt2 (v := .slice xJ (gX + 1) xK) (i := 11) (cs' := #[.int .i64 ((ix a0 (0 : Int)).length : Int), .bool true, .slice p35 n37 c36, .slice tX (g5 + 1) tY, .slice uN (g0 + 1) uO, .slice vL (gZ + 1) vM, .slice none 0 0, .slice iK gW iL, .int .i64 (0 : Int), .map (some B4), .slice wK (gY + 1) wL, .slice xJ (gX + 1) xK, .slice jd gJ je]) 8 hO rfl rfl rfl rfl
  obtain ⟨Kg, jT, Be⟩ := hobt
  dsimp only [sS, sZ] at jT
  refine GoR.op (Be Try.underlying26 rfl ti26 (by exact rfl) (by exact rfl)) rfl rfl ?_
  replace bN := bN.ch jT.ch
  replace bS := bS.ch jT.ch
  replace qt := qt.ch jT.ch
  replace lj := lj.ch jT.ch
  replace gN := gN.ch jT.ch
  replace eX := eX.ch jT.ch
  replace dG := dG.ch jT.ch
  replace aj := aj.ch jT.ch
  replace hO := jT.own
  replace cj := cj.ch jT.ch
  replace dw := dw.ch jT.ch
  replace dD := dD.ch jT.ch
  replace eK := eK.ch jT.ch
  replace gF := gF.ch jT.ch
  replace jN := jN.ch jT.ch
  replace pg := pg.ch jT.ch
  replace hB := hB.trans jT.fr
  refine GoR.nil ?_
  refine Go1.seq ?_
  refine Go1.region ?_
  refine GoR.op ((op_move rfl) _) rfl rfl ?_
  refine GoR.op ((op_assign rfl) _) rfl rfl ?_
  refine GoR.nil ?_
  refine Go1.ret1V Try.func65 rfl (show _ = .int .i64 (d_585.length : Int) from rfl) ?_
  refine hR670 _ _ ?_
  refine GoR.op ((op_assign rfl) _) rfl rfl ?_
  refine GoR.nil ?_
  refine Go1.region ?_
  refine GoR.op ((op_move rfl) _) rfl rfl ?_
  refine GoR.op ((op_move rfl) _) rfl rfl ?_
  refine GoR.op ((op_nilCheck rfl) _) rfl rfl ?_
  refine GoR.op ((op_fieldAddr Try.underlying72 rfl ti26 rfl (by decide)) _) rfl rfl ?_
  refine GoR.op ((oblk (i := 12) 8 hO rfl rfl Try.underlying26 rfl rfl) _ (Same.refl _)) rfl rfl ?_
  refine GoR.op ((op_move rfl) _) rfl rfl ?_
  have hobt := obuild (r := Rp.int .i64) (n := 1) (parts := [(0, .int .i64 (d_585.length : Int))]) (vs := [.int .i64 (d_585.length : Int)]) (xs := [(d_585.length : Int)]) rfl Try.underlying26 ti3 hO (by decide) (by kernel_rfl) (Els.cons rfl rfl (Els.nil _ _ _) (by simp [mx])) rfl
  obtain ⟨Kh, Ki, kq, DS, Ij, Bf⟩ := hobt
  refine GoR.op (Bf rfl) rfl rfl ?_
  replace bN := bN.ch kq.ch
  replace bS := bS.ch kq.ch
  replace qt := qt.ch kq.ch
  replace lj := lj.ch kq.ch
  replace gN := gN.ch kq.ch
  replace eX := eX.ch kq.ch
  replace dG := dG.ch kq.ch
  replace aj := aj.ch kq.ch
  replace hO := kq.own
  replace cj := cj.ch kq.ch
  replace dw := dw.ch kq.ch
  replace dD := dD.ch kq.ch
  replace eK := eK.ch kq.ch
  replace gF := gF.ch kq.ch
  replace jN := jN.ch kq.ch
  replace pg := pg.ch kq.ch
  replace hB := hB.trans kq.fr
  have hobt := freeze 0 hO rfl DS
  obtain ⟨hO1, mU, uh, DT⟩ := hobt
  dsimp only [eS, eZ] at hO1 mU uh
  replace cj := cj.ch mU
  replace dw := dw.ch mU
  replace dD := dD.ch mU
  replace eK := eK.ch mU
  replace gF := gF.ch mU
  replace jN := jN.ch mU
  replace pg := pg.ch mU
  replace bN := bN.ch mU
  replace bS := bS.ch mU
  replace qt := qt.ch mU
  replace lj := lj.ch mU
  replace gN := gN.ch mU
  replace eX := eX.ch mU
  replace dG := dG.ch mU
  replace aj := aj.ch mU
  replace hB := hB.trans (Owns.dropFr _ _ 0)
  dsimp only [eS, eZ] at hB
  replace hO := hO1; clear hO1
  obtain ⟨GM, H⟩ := H
  have hobt := oapp Try.underlying26 ti3 rfl 0 hO rfl bN uh DT GM (by decide)
  obtain ⟨Kj, yR, yS, DU, jU, wv, Bg⟩ := hobt
  dsimp only [sS, sZ] at jU wv
  refine GoR.op (Bg (by exact rfl) (by exact rfl)) rfl rfl ?_
  replace bS := bS.ch jU.ch
  replace qt := qt.ch jU.ch
  replace lj := lj.ch jU.ch
  replace gN := gN.ch jU.ch
  replace eX := eX.ch jU.ch
  replace dG := dG.ch jU.ch
  replace aj := aj.ch jU.ch
  replace hO := jU.own
  replace cj := cj.ch jU.ch
  replace dw := dw.ch jU.ch
  replace dD := dD.ch jU.ch
  replace eK := eK.ch jU.ch
  replace gF := gF.ch jU.ch
  replace jN := jN.ch jU.ch
  replace pg := pg.ch jU.ch
  replace uh := uh.ch jU.ch
  replace hB := hB.trans jU.fr
  refine GoR.op ((op_nilCheck rfl) _) rfl rfl ?_
  refine GoR.op ((op_fieldAddr Try.underlying72 rfl ti26 rfl (by decide)) _) rfl rfl ?_
  have hobt := oblkSt2 (v := .slice yR (gJ + 1) yS) (i := 12) (cs' := #[.int .i64 ((ix a0 (0 : Int)).length : Int), .bool true, .slice p35 n37 c36, .slice tX (g5 + 1) tY, .slice uN (g0 + 1) uO, .slice vL (gZ + 1) vM, .slice none 0 0, .slice iK gW iL, .int .i64 (0 : Int), .map (some B4), .slice wK (gY + 1) wL, .slice xJ (gX + 1) xK, .slice yR (gJ + 1) yS]) 8 hO rfl rfl rfl rfl
  obtain ⟨Kk, jp, Bh⟩ := hobt
  dsimp only [sS, sZ] at jp
  refine GoR.op (Bh Try.underlying26 rfl ti26 (by exact rfl) (by exact rfl)) rfl rfl ?_
  replace wv := wv.ch jp.ch
  replace bS := bS.ch jp.ch
  replace qt := qt.ch jp.ch
  replace lj := lj.ch jp.ch
  replace gN := gN.ch jp.ch
  replace eX := eX.ch jp.ch
  replace dG := dG.ch jp.ch
  replace aj := aj.ch jp.ch
  replace hO := jp.own
  replace cj := cj.ch jp.ch
  replace dw := dw.ch jp.ch
  replace dD := dD.ch jp.ch
  replace eK := eK.ch jp.ch
  replace gF := gF.ch jp.ch
  replace jN := jN.ch jp.ch
  replace pg := pg.ch jp.ch
  replace uh := uh.ch jp.ch
  replace hB := hB.trans jp.fr
  refine GoR.nil ?_
  refine Go1.inBlock ?_
  refine Go1.cut [(6, .pointer (some ⟨B10, 0, none⟩)), (9, .int .i64 (0 : Int)), (85, .slice p35 n37 c36), (86, .int .i64 (d_32.length : Int)), (87, .int .i64 (k3_548 : Int))] ⟨rfl, rfl, rfl, rfl, rfl, trivial⟩ ?_
  intro σ _
  refine Go1.region ?_
  refine GoR.op ((op_add rfl rfl (wrap_i64 (natbd vK aj.bd))) _) rfl rfl ?_
  refine GoR.op ((op_move rfl) _) rfl rfl ?_
  refine GoR.nil ?_
  exact hX3 _ H _ _ ⟨gJ + 1, yR, yS, DU, gW, iK, iL, nH, gX + 1, xJ, xK, DR, gY + 1, wK, wL, DO, gZ + 1, vL, vM, DL, g0 + 1, uN, uO, DH, g5 + 1, tX, tY, DE, ⟨rfl, rfl, rfl, rfl, rfl, trivial⟩, hO, wv, bS, qt, lj, gN, eX, dG, aj, hB⟩
 replace H := ifn vK H
 refine GoR.op ((fun w => opB (op_lss rfl rfl w) (decide_eq_false vK)) _) rfl rfl ?_
 refine GoR.nil ?_
 refine Go1.seq ?_
 refine Go1.condF rfl rfl ?_
 refine Go1.exit rfl ?_
 refine Go1.seq ?_
 refine Go1.region ?_
 refine GoR.op ((op_move rfl) _) rfl rfl ?_
 refine GoR.op ((op_assign rfl) _) rfl rfl ?_
 refine GoR.op ((op_assign rfl) _) rfl rfl ?_
 refine GoR.nil ?_
 have ql := Stp.nil (e := 26) (r := 1) hO
 replace bN := bN.ch ql.ch
 replace bS := bS.ch ql.ch
 replace bT := bT.ch ql.ch
 replace bY := bY.ch ql.ch
 replace cq := cq.ch ql.ch
 replace cD := cD.ch ql.ch
 replace cY := cY.ch ql.ch
 replace aj := aj.ch ql.ch
 replace hO := ql.own
 replace hB := hB.trans ql.fr
 have jq := Els.nil (Rp.sl (Rp.int .i64)) (bl (.row 26 1 none 0 0 [] :: [.row 3 1 jd gJ je o9, .row 39 2 iK gW iL nH, .row 3 1 iM gX iN nI, .row 9 1 jf gY jg nJ, .row 3 1 jm gZ jo nK, .row 3 1 jJ g0 jK nM, .row 26 1 ka g5 kc nN, .row 26 1 p35 n37 c36 eQ, .blk B10 (.cells #[.int .i64 ((ix a0 (0 : Int)).length : Int), .bool true, .slice p35 n37 c36, .slice ka g5 kc, .slice jJ g0 jK, .slice jm gZ jo, .slice none 0 0, .slice iK gW iL, .int .i64 (0 : Int), .map (some B4), .slice jf gY jg, .slice iM gX iN, .slice jd gJ je] 72 (0, 0)), .any (mapE (fun a : List UInt8 => Value.string (gstr a)) (fun a : Int => Value.int .i64 a) B4 m3_591)]) ++ A) GA
 have oC := Stp.front 10 hO rfl
 dsimp only [eS, eZ] at oC
 replace jq := jq.ch oC.ch
 replace bN := bN.ch oC.ch
 replace bS := bS.ch oC.ch
 replace bT := bT.ch oC.ch
 replace bY := bY.ch oC.ch
 replace cq := cq.ch oC.ch
 replace cD := cD.ch oC.ch
 replace cY := cY.ch oC.ch
 replace aj := aj.ch oC.ch
 replace hO := oC.own
 replace hB := hB.trans oC.fr
 have oD := Stp.front 2 hO rfl
 dsimp only [eS, eZ] at oD
 replace jq := jq.ch oD.ch
 replace bN := bN.ch oD.ch
 replace bS := bS.ch oD.ch
 replace bT := bT.ch oD.ch
 replace bY := bY.ch oD.ch
 replace cq := cq.ch oD.ch
 replace cD := cD.ch oD.ch
 replace cY := cY.ch oD.ch
 replace aj := aj.ch oD.ch
 replace hO := oD.own
 replace hB := hB.trans oD.fr
 have oE := Stp.front 4 hO rfl
 dsimp only [eS, eZ] at oE
 replace bN := bN.ch oE.ch
 replace jq := jq.ch oE.ch
 replace bS := bS.ch oE.ch
 replace bT := bT.ch oE.ch
 replace bY := bY.ch oE.ch
 replace cq := cq.ch oE.ch
 replace cD := cD.ch oE.ch
 replace cY := cY.ch oE.ch
 replace aj := aj.ch oE.ch
 replace hO := oE.own
 replace hB := hB.trans oE.fr
 have oF := Stp.front 5 hO rfl
 dsimp only [eS, eZ] at oF
 replace bT := bT.ch oF.ch
 replace bN := bN.ch oF.ch
 replace jq := jq.ch oF.ch
 replace bS := bS.ch oF.ch
 replace bY := bY.ch oF.ch
 replace cq := cq.ch oF.ch
 replace cD := cD.ch oF.ch
 replace cY := cY.ch oF.ch
 replace aj := aj.ch oF.ch
 replace hO := oF.own
 replace hB := hB.trans oF.fr
 have oG := Stp.front 5 hO rfl
 dsimp only [eS, eZ] at oG
 replace bY := bY.ch oG.ch
 replace bT := bT.ch oG.ch
 replace bN := bN.ch oG.ch
 replace jq := jq.ch oG.ch
 replace bS := bS.ch oG.ch
 replace cq := cq.ch oG.ch
 replace cD := cD.ch oG.ch
 replace cY := cY.ch oG.ch
 replace aj := aj.ch oG.ch
 replace hO := oG.own
 replace hB := hB.trans oG.fr
 have oH := Stp.front 5 hO rfl
 dsimp only [eS, eZ] at oH
 replace bS := bS.ch oH.ch
 replace bY := bY.ch oH.ch
 replace bT := bT.ch oH.ch
 replace bN := bN.ch oH.ch
 replace jq := jq.ch oH.ch
 replace cq := cq.ch oH.ch
 replace cD := cD.ch oH.ch
 replace cY := cY.ch oH.ch
 replace aj := aj.ch oH.ch
 replace hO := oH.own
 replace hB := hB.trans oH.fr
 have oI := Stp.front 6 hO rfl
 dsimp only [eS, eZ] at oI
 replace jq := jq.ch oI.ch
 replace bS := bS.ch oI.ch
 replace bY := bY.ch oI.ch
 replace bT := bT.ch oI.ch
 replace bN := bN.ch oI.ch
 replace cq := cq.ch oI.ch
 replace cD := cD.ch oI.ch
 replace cY := cY.ch oI.ch
 replace aj := aj.ch oI.ch
 replace hO := oI.own
 replace hB := hB.trans oI.fr
 have oJ := Stp.front 7 hO rfl
 dsimp only [eS, eZ] at oJ
 replace cq := cq.ch oJ.ch
 replace jq := jq.ch oJ.ch
 replace bS := bS.ch oJ.ch
 replace bY := bY.ch oJ.ch
 replace bT := bT.ch oJ.ch
 replace bN := bN.ch oJ.ch
 replace cD := cD.ch oJ.ch
 replace cY := cY.ch oJ.ch
 replace aj := aj.ch oJ.ch
 replace hO := oJ.own
 replace hB := hB.trans oJ.fr
 have oK := Stp.front 8 hO rfl
 dsimp only [eS, eZ] at oK
 replace cD := cD.ch oK.ch
 replace cq := cq.ch oK.ch
 replace jq := jq.ch oK.ch
 replace bS := bS.ch oK.ch
 replace bY := bY.ch oK.ch
 replace bT := bT.ch oK.ch
 replace bN := bN.ch oK.ch
 replace cY := cY.ch oK.ch
 replace aj := aj.ch oK.ch
 replace hO := oK.own
 replace hB := hB.trans oK.fr
 have oL := Stp.front 9 hO rfl
 dsimp only [eS, eZ] at oL
 replace cY := cY.ch oL.ch
 replace cD := cD.ch oL.ch
 replace cq := cq.ch oL.ch
 replace jq := jq.ch oL.ch
 replace bS := bS.ch oL.ch
 replace bY := bY.ch oL.ch
 replace bT := bT.ch oL.ch
 replace bN := bN.ch oL.ch
 replace aj := aj.ch oL.ch
 replace hO := oL.own
 replace hB := hB.trans oL.fr
 have oM := Stp.front 10 hO rfl
 dsimp only [eS, eZ] at oM
 replace aj := aj.ch oM.ch
 replace cY := cY.ch oM.ch
 replace cD := cD.ch oM.ch
 replace cq := cq.ch oM.ch
 replace jq := jq.ch oM.ch
 replace bS := bS.ch oM.ch
 replace bY := bY.ch oM.ch
 replace bT := bT.ch oM.ch
 replace bN := bN.ch oM.ch
 replace hO := oM.own
 replace hB := hB.trans oM.fr
 refine Go1.ret2 Try.func49 rfl ?_
 exact Or.inr ⟨(⟨(⟨((ix a0 (0 : Int)).length : Int), true, d_32, d_585, d_579, d_573, ([] : List (List Int)), d_555, (0 : Int)⟩ : Enum), m3_591, d_567, d_561, d_549⟩ : run), ((0 : Int)), B10, n37, p35, c36, eQ, g5, ka, kc, nN, g0, jJ, jK, nM, gZ, jm, jo, nK, 0, none, 0, ([]), gW, iK, iL, nH, B4, gY, jf, jg, nJ, gX, iM, iN, nI, gJ, jd, je, o9, rfl, hB.same, hO, aj, cY, cD, cq, jq, bS, bY, bT, bN, H⟩
theorem body37 : Body Try.prog 37 := ⟨Try.f37, Try.func37, rfl, by kernel_rfl⟩
theorem walk_trans_Compose {A : List Nat} {w0 : World} {p_f : Option Addr} {c_f : Nat} {p_g : Option Addr} {c_g : Nat} {f : List Int} {g : List Int} (hA : ∀ b ∈ A, b < w0.heap.size) (h_f : ISl (Rp.int .i64) A w0 p_f c_f f) (h_g : ISl (Rp.int .i64) A w0 p_g c_g g) {K : List Int → Prop} (H : trans_Compose f g K) :
    CallsV Try.prog 37 #[.slice p_f f.length c_f, .slice p_g g.length c_g] w0 (fun v w' => ∃ (r0 : List Int), ∃ (sd : Option Addr), ∃ (se : Nat), v = .slice sd r0.length se ∧ Same w0 w' ∧ ISl (Rp.int .i64) A w' sd se r0 ∧ K r0) := by
 refine CallsV.of (l := [.slice p_f f.length c_f, .slice p_g g.length c_g]) Try.func37 rfl Try.ntmps37 rfl ?_
 have hO := Owns.start hA
 have hB := Fr.refl (bl []) w0
 unfold trans_Compose at H
 replace h_f := h_f.ch (Ch.start A w0)
 replace h_g := h_g.ch (Ch.start A w0)
 refine Go1.seq ?_
 refine Go1.region ?_
 refine GoR.op ((op_assign rfl) _) rfl rfl ?_
 refine GoR.nil ?_
 refine Go1.seq ?_
 refine Go1.seq ?_
 refine Go1.region ?_
 refine GoR.op ((op_move rfl) _) rfl rfl ?_
 refine GoR.op ((op_len Try.underlying26 rfl) _) rfl rfl ?_
 replace H := H h_f.bd
 refine GoR.op ((op_move rfl) _) rfl rfl ?_
 refine GoR.op ((op_len Try.underlying26 rfl) _) rfl rfl ?_
 replace H := H h_g.bd
 by_cases h1 : (f.length : Int) = (g.length : Int)
 ·replace H := ifp h1 H
  refine GoR.op ((fun w => opB (op_neq rfl rfl w) (ndT h1)) _) rfl rfl ?_
  refine GoR.op ((op_move rfl) _) rfl rfl ?_
  refine GoR.op ((op_move rfl) _) rfl rfl ?_
  refine GoR.call (op_call body60 rfl (walk_trans_Valid hO.lt h_f H)) rfl rfl ?_
  rintro v6 w3 ⟨r2, rfl, hs4, H⟩
  have l5 := Stp.same hO hs4
  replace hO := l5.own
  replace h_f := h_f.ch l5.ch
  replace h_g := h_g.ch l5.ch
  replace hB := hB.trans l5.fr
  cases r2
  ·replace H := ifn Bool.false_ne_true H
   refine GoR.op ((op_not rfl) _) rfl rfl ?_
   refine GoR.op ((op_pickF rfl rfl rfl) _) rfl rfl ?_
   refine GoR.op ((op_move rfl) _) rfl rfl ?_
   refine GoR.pass rfl rfl ?_
   refine GoR.pass rfl rfl ?_
   refine GoR.pass rfl rfl ?_
   refine GoR.op ((op_pickT rfl rfl rfl) _) rfl rfl ?_
   refine GoR.nil ?_
   refine Go1.condT rfl rfl ?_
   refine Go1.seq ?_
   refine Go1.region ?_
   refine GoR.op ((op_assign rfl) _) rfl rfl ?_
   refine GoR.nil ?_
   refine Go1.ret1 Try.func37 rfl ?_
   exact ⟨([] : List Int), none, 0, rfl, hB.same, (ISl.null _ _ _), H⟩
  replace H := ifp rfl H
  refine GoR.op ((op_not rfl) _) rfl rfl ?_
  refine GoR.op ((op_pickF rfl rfl rfl) _) rfl rfl ?_
  refine GoR.op ((op_move rfl) _) rfl rfl ?_
  refine GoR.op ((op_move rfl) _) rfl rfl ?_
  refine GoR.call (op_call body60 rfl (walk_trans_Valid hO.lt h_g H)) rfl rfl ?_
  rintro v12 w9 ⟨r8, rfl, zY, H⟩
  have ww := Stp.same hO zY
  replace hO := ww.own
  replace h_f := h_f.ch ww.ch
  replace h_g := h_g.ch ww.ch
  replace hB := hB.trans ww.fr
  cases r8
  ·replace H := ifn Bool.false_ne_true H
   refine GoR.op ((op_not rfl) _) rfl rfl ?_
   refine GoR.op ((op_pickF rfl rfl rfl) _) rfl rfl ?_
   refine GoR.nil ?_
   refine Go1.condT rfl rfl ?_
   refine Go1.seq ?_
   refine Go1.cut [] trivial ?_
   intro σ _
   refine Go1.region ?_
   refine GoR.op ((op_assign rfl) _) rfl rfl ?_
   refine GoR.nil ?_
   refine Go1.ret1 Try.func37 rfl ?_
   exact ⟨([] : List Int), none, 0, rfl, hB.same, (ISl.null _ _ _), H⟩
  replace H := ifp rfl H
  refine GoR.op ((op_not rfl) _) rfl rfl ?_
  refine GoR.op ((op_pickF rfl rfl rfl) _) rfl rfl ?_
  refine GoR.nil ?_
  refine Go1.condF rfl rfl ?_
  refine Go1.skip ?_
  refine Go1.seq ?_
  refine Go1.region ?_
  refine GoR.op ((op_move rfl) _) rfl rfl ?_
  refine GoR.op ((op_len Try.underlying26 rfl) _) rfl rfl ?_
  obtain ⟨h21, H⟩ := H
  obtain ⟨h22, H⟩ := H
  have hobt := omake (n := (f.length : Int)) (r := Rp.int .i64) (d := (0 : Int)) Try.underlying26 ti3 (fun _ _ => rfl) rfl hO h21 h22 (by decide)
  obtain ⟨w14, p15, uE, sj, cz, Bi, xj⟩ := hobt
  refine GoR.op (xj rfl rfl) rfl rfl ?_
  replace hO := sj.own
  replace h_f := h_f.ch sj.ch
  replace h_g := h_g.ch sj.ch
  replace hB := hB.trans sj.fr
  refine GoR.op ((op_assign rfl) _) rfl rfl ?_
  refine GoR.nil ?_
  refine Go1.seq ?_
  refine Go1.seq ?_
  refine Go1.region ?_
  refine GoR.op ((op_move rfl) _) rfl rfl ?_
  refine GoR.op ((op_len Try.underlying26 rfl) _) rfl rfl ?_
  refine GoR.op ((op_move rfl) _) rfl rfl ?_
  refine GoR.nil ?_
  refine Go1.block ?_
  refine Go1.loopW (S := Nat × List Int) (fun s σ w => match s with | (k1_25, h1_26) => ∃ (uP : List Value), agrees σ [(1, .slice p_g g.length c_g), (5, .slice p15 f.length f.length), (26, .slice p_f f.length c_f), (27, .int .i64 (f.length : Int)), (28, .int .i64 (k1_25 : Int))] ∧ Owns w0.heap.size w [.row 3 1 p15 f.length f.length uP] A ∧ Els (Rp.int .i64) (bl [.row 3 1 p15 f.length f.length uP] ++ A) w uP h1_26 ∧ ISl (Rp.int .i64) (bl [.row 3 1 p15 f.length f.length uP] ++ A) w p_f c_f f ∧ ISl (Rp.int .i64) (bl [.row 3 1 p15 f.length f.length uP] ++ A) w p_g c_g g ∧ Fr (bl []) w0 (bl [.row 3 1 p15 f.length f.length uP]) w) H ⟨uE, ⟨rfl, rfl, rfl, rfl, rfl, trivial⟩, hO, cz, h_f, h_g, hB⟩ ?_
  intro X1
  refine prE fun k1_25 => fun h1_26 => ?_
  intro H hX1 σ w24
  refine exE fun uP => andE fun hag => andE fun hO => andE fun xL => andE fun h_f => andE fun h_g => fun hB => ?_
  dsimp only at H
  refine Go1.keep [(1, .slice p_g g.length c_g), (5, .slice p15 f.length f.length), (26, .slice p_f f.length c_f), (27, .int .i64 (f.length : Int)), (28, .int .i64 (k1_25 : Int))] hag ?_
  refine Go1.seq ?_
  refine Go1.region ?_
  by_cases h29 : (k1_25 : Int) < (f.length : Int)
  ·replace H := ifp h29 H
   refine GoR.op ((fun w => opB (op_lss rfl rfl w) (decide_eq_true h29)) _) rfl rfl ?_
   refine GoR.nil ?_
   refine Go1.seq ?_
   refine Go1.condT rfl rfl ?_
   refine Go1.skip ?_
   refine Go1.seq ?_
   refine Go1.block ?_
   refine Go1.seq ?_
   refine Go1.region ?_
   refine GoR.op ((op_move rfl) _) rfl rfl ?_
   obtain ⟨h30, H⟩ := H
   obtain ⟨h31, H⟩ := H
   refine GoR.op ((op_index Try.underlying26 ti3 rfl rfl h30 h31 (h_f.some_ h30 h31)) _) rfl rfl ?_
   refine GoR.op ((ldInt h_f h30 h31 Try.underlying3 rfl rfl) _ (Same.refl _)) rfl rfl ?_
   refine GoR.op ((op_assign rfl) _) rfl rfl ?_
   refine GoR.op ((op_assign rfl) _) rfl rfl ?_
   refine GoR.nil ?_
   refine Go1.region ?_
   refine GoR.op ((op_move rfl) _) rfl rfl ?_
   refine GoR.op ((op_move rfl) _) rfl rfl ?_
   refine GoR.op ((op_move rfl) _) rfl rfl ?_
   refine GoR.op ((op_move rfl) _) rfl rfl ?_
   obtain ⟨h32, H⟩ := H
   obtain ⟨h33, H⟩ := H
   refine GoR.op ((op_index Try.underlying26 ti3 rfl rfl h32 h33 (h_g.some_ h32 h33)) _) rfl rfl ?_
   refine GoR.op ((ldInt h_g h32 h33 Try.underlying3 rfl rfl) _ (Same.refl _)) rfl rfl ?_
   obtain ⟨h34, H⟩ := H
   obtain ⟨h35, H⟩ := H
   refine GoR.op ((op_index Try.underlying26 ti3 rfl rfl h34 (ltn (xL.neq hO 0 rfl) h35) (xL.psome hO 0 rfl h34 h35)) _) rfl rfl ?_
   have hobt := ost (r := Rp.int .i64) rfl 0 hO rfl xL h34 h35 (v := .int .i64 (ix g (ix f (k1_25 : Int)))) (u := (ix g (ix f (k1_25 : Int)))) rfl rfl
   obtain ⟨w36, GN, ph, GO, xM⟩ := hobt
   refine GoR.op (xM Try.underlying3 rfl ti3 (by exact rfl) (by exact rfl)) rfl rfl ?_
   replace hO := ph.own
   replace h_f := h_f.ch ph.ch
   replace h_g := h_g.ch ph.ch
   replace hB := hB.trans ph.fr
   refine GoR.nil ?_
   refine Go1.inBlock ?_
   refine Go1.region ?_
   refine GoR.op ((op_add rfl rfl (wrap_i64 (natbd h29 h_f.bd))) _) rfl rfl ?_
   refine GoR.op ((op_move rfl) _) rfl rfl ?_
   refine GoR.nil ?_
   exact hX1 _ H _ _ ⟨GN, ⟨rfl, rfl, rfl, rfl, rfl, trivial⟩, hO, GO, h_f, h_g, hB⟩
  replace H := ifn h29 H
  refine GoR.op ((fun w => opB (op_lss rfl rfl w) (decide_eq_false h29)) _) rfl rfl ?_
  refine GoR.nil ?_
  refine Go1.seq ?_
  refine Go1.condF rfl rfl ?_
  refine Go1.exit rfl ?_
  refine Go1.seq ?_
  refine Go1.region ?_
  refine GoR.op ((op_move rfl) _) rfl rfl ?_
  refine GoR.op ((op_assign rfl) _) rfl rfl ?_
  refine GoR.nil ?_
  have hobt := freeze 0 hO rfl xL
  obtain ⟨hO1, Bj, GP, GQ⟩ := hobt
  replace h_f := h_f.ch Bj
  replace h_g := h_g.ch Bj
  replace hB := hB.trans (Owns.dropFr _ _ 0)
  replace hO := hO1; clear hO1
  refine Go1.ret1 Try.func37 rfl ?_
  exact ⟨h1_26, p15, f.length, (congrArg (fun nn => Value.slice p15 nn f.length) GQ), hB.same, (GP.ch (Ch.weak _ _ _)), H⟩
 replace H := ifn h1 H
 refine GoR.op ((fun w => opB (op_neq rfl rfl w) (ndF h1)) _) rfl rfl ?_
 refine GoR.op ((op_move rfl) _) rfl rfl ?_
 refine GoR.pass rfl rfl ?_
 refine GoR.pass rfl rfl ?_
 refine GoR.pass rfl rfl ?_
 refine GoR.op ((op_pickT rfl rfl rfl) _) rfl rfl ?_
 refine GoR.op ((op_move rfl) _) rfl rfl ?_
 refine GoR.pass rfl rfl ?_
 refine GoR.pass rfl rfl ?_
 refine GoR.pass rfl rfl ?_
 refine GoR.op ((op_pickT rfl rfl rfl) _) rfl rfl ?_
 refine GoR.nil ?_
 refine Go1.condT rfl rfl ?_
 refine Go1.seq ?_
 refine Go1.cut [] trivial ?_
 intro σ _
 refine Go1.region ?_
 refine GoR.op ((op_assign rfl) _) rfl rfl ?_
 refine GoR.nil ?_
 refine Go1.ret1 Try.func37 rfl ?_
 exact ⟨([] : List Int), none, 0, rfl, hB.same, (ISl.null _ _ _), H⟩
end Sg
