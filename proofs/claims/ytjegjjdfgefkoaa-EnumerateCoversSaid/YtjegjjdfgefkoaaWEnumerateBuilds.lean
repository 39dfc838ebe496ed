/- The walks: each call keeps to its plain transformer. Printed by walkgen.py. -/
import Derived.Test.YtjegjjdfgefkoaaTi
namespace Sg
open Go Go.RowKit Go.Proofs
set_option linter.unusedVariables false
set_option linter.unusedSimpArgs false
set_option maxRecDepth 100000
set_option maxHeartbeats 4000000
theorem body48 : Body Try.prog 48 := ⟨Try.f48, Try.func48, rfl, by kernel_rfl⟩
theorem walk_ref11_Valid {A : List Nat} {w0 : World} {p_f : Option Addr} {c_f : Nat} {f : List Int} (hA : ∀ b ∈ A, b < w0.heap.size) (h_f : ISl (Rp.int .i64) A w0 p_f c_f f) {K : Bool → Prop} (H : ref11_Valid f K) :
    CallsV Try.prog 48 #[.slice p_f f.length c_f] w0 (fun v w' => ∃ (r0 : Bool), v = .bool r0 ∧ Same w0 w' ∧ K r0) := by
 refine CallsV.of (l := [.slice p_f f.length c_f]) Try.func48 rfl Try.ntmps48 rfl ?_
 have hO := Owns.start hA
 have hB := Fr.refl (bl []) w0
 unfold ref11_Valid at H
 replace h_f := h_f.ch (Ch.start A w0)
 refine Go1.seq ?_
 refine Go1.region ?_
 refine GoR.op ((op_assign rfl) _) rfl rfl ?_
 refine GoR.nil ?_
 refine Go1.seq ?_
 refine Go1.seq ?_
 refine Go1.region ?_
 refine GoR.op ((op_move rfl) _) rfl rfl ?_
 refine GoR.op ((op_len Try.underlying26 rfl) _) rfl rfl ?_
 replace H := H h_f.bd
 by_cases h1 : (f.length : Int) < (1 : Int)
 ·replace H := ifp h1 H
  refine GoR.op ((fun w => opB (op_lss rfl rfl w) (decide_eq_true h1)) _) rfl rfl ?_
  refine GoR.op ((op_move rfl) _) rfl rfl ?_
  refine GoR.pass rfl rfl ?_
  refine GoR.pass rfl rfl ?_
  refine GoR.pass rfl rfl ?_
  refine GoR.op ((op_pickT rfl rfl rfl) _) rfl rfl ?_
  refine GoR.nil ?_
  refine Go1.condT rfl rfl ?_
  refine Go1.seq ?_
  refine Go1.region ?_
  refine GoR.op ((op_assign rfl) _) rfl rfl ?_
  refine GoR.nil ?_
  refine Go1.ret1 Try.func48 rfl ?_
  exact ⟨false, rfl, hB.same, H⟩
 replace H := ifn h1 H
 refine GoR.op ((fun w => opB (op_lss rfl rfl w) (decide_eq_false h1)) _) rfl rfl ?_
 refine GoR.op ((op_move rfl) _) rfl rfl ?_
 refine GoR.op ((op_move rfl) _) rfl rfl ?_
 refine GoR.op ((op_len Try.underlying26 rfl) _) rfl rfl ?_
 by_cases h2 : (32 : Int) < (f.length : Int)
 ·replace H := ifp h2 H
  refine GoR.op ((fun w => opB (op_gtr rfl rfl w) (decide_eq_true h2)) _) rfl rfl ?_
  refine GoR.op ((op_pickF rfl rfl rfl) _) rfl rfl ?_
  refine GoR.nil ?_
  refine Go1.condT rfl rfl ?_
  refine Go1.seq ?_
  refine Go1.region ?_
  refine GoR.op ((op_assign rfl) _) rfl rfl ?_
  refine GoR.nil ?_
  refine Go1.ret1 Try.func48 rfl ?_
  exact ⟨false, rfl, hB.same, H⟩
 replace H := ifn h2 H
 refine GoR.op ((fun w => opB (op_gtr rfl rfl w) (decide_eq_false h2)) _) rfl rfl ?_
 refine GoR.op ((op_pickF rfl rfl rfl) _) rfl rfl ?_
 refine GoR.nil ?_
 refine Go1.condF rfl rfl ?_
 refine Go1.skip ?_
 refine Go1.seq ?_
 refine Go1.seq ?_
 refine Go1.region ?_
 refine GoR.op ((op_move rfl) _) rfl rfl ?_
 refine GoR.op ((op_len Try.underlying26 rfl) _) rfl rfl ?_
 refine GoR.op ((op_move rfl) _) rfl rfl ?_
 refine GoR.nil ?_
 refine Go1.block ?_
 refine Go1.loopW (S := Nat) (fun s σ w => agrees σ [(0, .slice p_f f.length c_f), (13, .slice p_f f.length c_f), (14, .int .i64 (f.length : Int)), (15, .int .i64 (s : Int))] ∧ Owns w0.heap.size w [] A ∧ ISl (Rp.int .i64) (bl [] ++ A) w p_f c_f f ∧ Fr (bl []) w0 (bl []) w) H ⟨⟨rfl, rfl, rfl, rfl, trivial⟩, hO, h_f, hB⟩ ?_
 intro X1 k1_4
 intro H hX1 σ w3
 refine andE fun hag => andE fun hO => andE fun h_f => fun hB => ?_
 refine Go1.keep [(0, .slice p_f f.length c_f), (13, .slice p_f f.length c_f), (14, .int .i64 (f.length : Int)), (15, .int .i64 (k1_4 : Int))] hag ?_
 refine Go1.seq ?_
 refine Go1.region ?_
 by_cases h5 : (k1_4 : Int) < (f.length : Int)
 ·replace H := ifp h5 H
  refine GoR.op ((fun w => opB (op_lss rfl rfl w) (decide_eq_true h5)) _) rfl rfl ?_
  refine GoR.nil ?_
  refine Go1.seq ?_
  refine Go1.condT rfl rfl ?_
  refine Go1.skip ?_
  refine Go1.seq ?_
  refine Go1.block ?_
  refine Go1.seq ?_
  refine Go1.region ?_
  obtain ⟨h6, H⟩ := H
  obtain ⟨h7, H⟩ := H
  refine GoR.op ((op_index Try.underlying26 ti3 rfl rfl h6 h7 (h_f.some_ h6 h7)) _) rfl rfl ?_
  refine GoR.op ((ldInt h_f h6 h7 Try.underlying3 rfl rfl) _ (Same.refl _)) rfl rfl ?_
  refine GoR.op ((op_assign rfl) _) rfl rfl ?_
  refine GoR.nil ?_
  refine Go1.seq ?_
  refine Go1.region ?_
  refine GoR.op ((op_move rfl) _) rfl rfl ?_
  by_cases h8 : (ix f (k1_4 : Int)) < (0 : Int)
  ·replace H := ifp h8 H
   refine GoR.op ((fun w => opB (op_lss rfl rfl w) (decide_eq_true h8)) _) rfl rfl ?_
   refine GoR.op ((op_move rfl) _) rfl rfl ?_
   refine GoR.pass rfl rfl ?_
   refine GoR.pass rfl rfl ?_
   refine GoR.pass rfl rfl ?_
   refine GoR.pass rfl rfl ?_
   refine GoR.op ((op_pickT rfl rfl rfl) _) rfl rfl ?_
   refine GoR.nil ?_
   refine Go1.condT rfl rfl ?_
   refine Go1.seq ?_
   refine Go1.region ?_
   refine GoR.op ((op_assign rfl) _) rfl rfl ?_
   refine GoR.nil ?_
   refine Go1.ret1 Try.func48 rfl ?_
   exact ⟨false, rfl, hB.same, H⟩
  replace H := ifn h8 H
  refine GoR.op ((fun w => opB (op_lss rfl rfl w) (decide_eq_false h8)) _) rfl rfl ?_
  refine GoR.op ((op_move rfl) _) rfl rfl ?_
  refine GoR.op ((op_move rfl) _) rfl rfl ?_
  refine GoR.op ((op_move rfl) _) rfl rfl ?_
  refine GoR.op ((op_len Try.underlying26 rfl) _) rfl rfl ?_
  by_cases h9 : (f.length : Int) ≤ (ix f (k1_4 : Int))
  ·replace H := ifp h9 H
   refine GoR.op ((fun w => opB (op_geq rfl rfl w) (decide_eq_true h9)) _) rfl rfl ?_
   refine GoR.op ((op_pickF rfl rfl rfl) _) rfl rfl ?_
   refine GoR.nil ?_
   refine Go1.condT rfl rfl ?_
   refine Go1.seq ?_
   refine Go1.cut [] trivial ?_
   intro σ _
   refine Go1.region ?_
   refine GoR.op ((op_assign rfl) _) rfl rfl ?_
   refine GoR.nil ?_
   refine Go1.ret1 Try.func48 rfl ?_
   exact ⟨false, rfl, hB.same, H⟩
  replace H := ifn h9 H
  refine GoR.op ((fun w => opB (op_geq rfl rfl w) (decide_eq_false h9)) _) rfl rfl ?_
  refine GoR.op ((op_pickF rfl rfl rfl) _) rfl rfl ?_
  refine GoR.nil ?_
  refine Go1.condF rfl rfl ?_
  refine Go1.skip ?_
  refine Go1.inBlock ?_
  refine Go1.region ?_
  refine GoR.op ((op_add rfl rfl (wrap_i64 (natbd h5 h_f.bd))) _) rfl rfl ?_
  refine GoR.op ((op_move rfl) _) rfl rfl ?_
  refine GoR.nil ?_
  exact hX1 _ H _ _ ⟨⟨rfl, rfl, rfl, rfl, trivial⟩, hO, h_f, hB⟩
 replace H := ifn h5 H
 refine GoR.op ((fun w => opB (op_lss rfl rfl w) (decide_eq_false h5)) _) rfl rfl ?_
 refine GoR.nil ?_
 refine Go1.seq ?_
 refine Go1.condF rfl rfl ?_
 refine Go1.exit rfl ?_
 refine Go1.seq ?_
 refine Go1.region ?_
 refine GoR.op ((op_assign rfl) _) rfl rfl ?_
 refine GoR.nil ?_
 refine Go1.ret1 Try.func48 rfl ?_
 exact ⟨true, rfl, hB.same, H⟩
theorem body14 : Body Try.prog 14 := ⟨Try.f14, Try.func14, rfl, by kernel_rfl⟩
theorem walk_ref11_MayGens {A : List Nat} {w0 : World} {lj : Option Addr} {lk : Nat} {gens : List (List Int)} (hA : ∀ b ∈ A, b < w0.heap.size) (eG : ISl (Rp.sl (Rp.int .i64)) A w0 lj lk gens) {K : Bool → Prop} (H : ref11_MayGens gens K) :
    CallsV Try.prog 14 #[.slice lj gens.length lk] w0 (fun v w' => ∃ (r0 : Bool), v = .bool r0 ∧ Same w0 w' ∧ K r0) := by
 refine CallsV.of (l := [.slice lj gens.length lk]) Try.func14 rfl Try.ntmps14 rfl ?_
 have hO := Owns.start hA
 have hB := Fr.refl (bl []) w0
 unfold ref11_MayGens at H
 replace eG := eG.ch (Ch.start A w0)
 refine Go1.seq ?_
 refine Go1.region ?_
 refine GoR.op ((op_assign rfl) _) rfl rfl ?_
 refine GoR.nil ?_
 refine Go1.seq ?_
 refine Go1.seq ?_
 refine Go1.region ?_
 refine GoR.op ((op_move rfl) _) rfl rfl ?_
 refine GoR.op ((op_len Try.underlying22 rfl) _) rfl rfl ?_
 replace H := H eG.bd
 by_cases h1 : (gens.length : Int) < (1 : Int)
 ·replace H := ifp h1 H
  refine GoR.op ((fun w => opB (op_lss rfl rfl w) (decide_eq_true h1)) _) rfl rfl ?_
  refine GoR.op ((op_move rfl) _) rfl rfl ?_
  refine GoR.pass rfl rfl ?_
  refine GoR.pass rfl rfl ?_
  refine GoR.pass rfl rfl ?_
  refine GoR.op ((op_pickT rfl rfl rfl) _) rfl rfl ?_
  refine GoR.nil ?_
  refine Go1.condT rfl rfl ?_
  refine Go1.seq ?_
  refine Go1.region ?_
  refine GoR.op ((op_assign rfl) _) rfl rfl ?_
  refine GoR.nil ?_
  refine Go1.ret1 Try.func14 rfl ?_
  exact ⟨false, rfl, hB.same, H⟩
 replace H := ifn h1 H
 refine GoR.op ((fun w => opB (op_lss rfl rfl w) (decide_eq_false h1)) _) rfl rfl ?_
 refine GoR.op ((op_move rfl) _) rfl rfl ?_
 refine GoR.op ((op_move rfl) _) rfl rfl ?_
 refine GoR.op ((op_len Try.underlying22 rfl) _) rfl rfl ?_
 by_cases h2 : (6 : Int) < (gens.length : Int)
 ·replace H := ifp h2 H
  refine GoR.op ((fun w => opB (op_gtr rfl rfl w) (decide_eq_true h2)) _) rfl rfl ?_
  refine GoR.op ((op_pickF rfl rfl rfl) _) rfl rfl ?_
  refine GoR.nil ?_
  refine Go1.condT rfl rfl ?_
  refine Go1.seq ?_
  refine Go1.region ?_
  refine GoR.op ((op_assign rfl) _) rfl rfl ?_
  refine GoR.nil ?_
  refine Go1.ret1 Try.func14 rfl ?_
  exact ⟨false, rfl, hB.same, H⟩
 replace H := ifn h2 H
 refine GoR.op ((fun w => opB (op_gtr rfl rfl w) (decide_eq_false h2)) _) rfl rfl ?_
 refine GoR.op ((op_pickF rfl rfl rfl) _) rfl rfl ?_
 refine GoR.nil ?_
 refine Go1.condF rfl rfl ?_
 refine Go1.skip ?_
 refine Go1.seq ?_
 refine Go1.seq ?_
 refine Go1.region ?_
 refine GoR.op ((op_move rfl) _) rfl rfl ?_
 refine GoR.op ((op_len Try.underlying22 rfl) _) rfl rfl ?_
 refine GoR.op ((op_move rfl) _) rfl rfl ?_
 refine GoR.nil ?_
 refine Go1.block ?_
 refine Go1.loopW (S := Nat) (fun s σ w => agrees σ [(0, .slice lj gens.length lk), (13, .slice lj gens.length lk), (14, .int .i64 (gens.length : Int)), (15, .int .i64 (s : Int))] ∧ Owns w0.heap.size w [] A ∧ ISl (Rp.sl (Rp.int .i64)) (bl [] ++ A) w lj lk gens ∧ Fr (bl []) w0 (bl []) w) H ⟨⟨rfl, rfl, rfl, rfl, trivial⟩, hO, eG, hB⟩ ?_
 intro X1 k1_4
 intro H hX1 σ w3
 refine andE fun hag => andE fun hO => andE fun eG => fun hB => ?_
 refine Go1.keep [(0, .slice lj gens.length lk), (13, .slice lj gens.length lk), (14, .int .i64 (gens.length : Int)), (15, .int .i64 (k1_4 : Int))] hag ?_
 refine Go1.seq ?_
 refine Go1.region ?_
 by_cases h5 : (k1_4 : Int) < (gens.length : Int)
 ·replace H := ifp h5 H
  refine GoR.op ((fun w => opB (op_lss rfl rfl w) (decide_eq_true h5)) _) rfl rfl ?_
  refine GoR.nil ?_
  refine Go1.seq ?_
  refine Go1.condT rfl rfl ?_
  refine Go1.skip ?_
  refine Go1.seq ?_
  refine Go1.block ?_
  refine Go1.seq ?_
  refine Go1.region ?_
  obtain ⟨h6, H⟩ := H
  obtain ⟨h7, H⟩ := H
  refine GoR.op ((op_index Try.underlying22 ti26 rfl rfl h6 h7 (eG.some_ h6 h7)) _) rfl rfl ?_
  have hobt := ldSl eG h6 h7
  obtain ⟨p8, c9, yv, Ha⟩ := hobt
  refine GoR.op ((Ha Try.underlying26 rfl rfl) _ (Same.refl _)) rfl rfl ?_
  refine GoR.op ((op_assign rfl) _) rfl rfl ?_
  refine GoR.nil ?_
  refine Go1.seq ?_
  refine Go1.region ?_
  refine GoR.op ((op_move rfl) _) rfl rfl ?_
  refine GoR.call (op_call body48 rfl (walk_ref11_Valid hO.lt yv H)) rfl rfl ?_
  rintro v16 w13 ⟨r12, rfl, Hb, H⟩
  have tu := Stp.same hO Hb
  replace hO := tu.own
  replace eG := eG.ch tu.ch
  replace yv := yv.ch tu.ch
  replace hB := hB.trans tu.fr
  cases r12
  ·replace H := ifn Bool.false_ne_true H
   refine GoR.op ((op_not rfl) _) rfl rfl ?_
   refine GoR.op ((op_move rfl) _) rfl rfl ?_
   refine GoR.pass rfl rfl ?_
   refine GoR.pass rfl rfl ?_
   refine GoR.pass rfl rfl ?_
   refine GoR.pass rfl rfl ?_
   refine GoR.pass rfl rfl ?_
   refine GoR.pass rfl rfl ?_
   refine GoR.pass rfl rfl ?_
   refine GoR.op ((op_pickT rfl rfl rfl) _) rfl rfl ?_
   refine GoR.nil ?_
   refine Go1.condT rfl rfl ?_
   refine Go1.seq ?_
   refine Go1.region ?_
   refine GoR.op ((op_assign rfl) _) rfl rfl ?_
   refine GoR.nil ?_
   refine Go1.ret1 Try.func14 rfl ?_
   exact ⟨false, rfl, hB.same, H⟩
  replace H := ifp rfl H
  refine GoR.op ((op_not rfl) _) rfl rfl ?_
  refine GoR.op ((op_move rfl) _) rfl rfl ?_
  refine GoR.op ((op_move rfl) _) rfl rfl ?_
  refine GoR.op ((op_len Try.underlying26 rfl) _) rfl rfl ?_
  replace H := H yv.bd
  refine GoR.op ((op_move rfl) _) rfl rfl ?_
  obtain ⟨h18, H⟩ := H
  obtain ⟨h19, H⟩ := H
  refine GoR.op ((op_index Try.underlying22 ti26 rfl rfl h18 h19 (eG.some_ h18 h19)) _) rfl rfl ?_
  have hobt := ldSl eG h18 h19
  obtain ⟨p20, c21, Hc, He⟩ := hobt
  refine GoR.op ((He Try.underlying26 rfl rfl) _ (Same.refl _)) rfl rfl ?_
  refine GoR.op ((op_len Try.underlying26 rfl) _) rfl rfl ?_
  replace H := H Hc.bd
  by_cases h24 : ((ix gens (k1_4 : Int)).length : Int) = ((ix gens (0 : Int)).length : Int)
  ·replace H := ifp h24 H
   refine GoR.op ((fun w => opB (op_neq rfl rfl w) (ndT h24)) _) rfl rfl ?_
   refine GoR.op ((op_pickF rfl rfl rfl) _) rfl rfl ?_
   refine GoR.nil ?_
   refine Go1.condF rfl rfl ?_
   refine Go1.skip ?_
   refine Go1.inBlock ?_
   refine Go1.cut [(0, .slice lj gens.length lk), (13, .slice lj gens.length lk), (14, .int .i64 (gens.length : Int)), (15, .int .i64 (k1_4 : Int))] ⟨rfl, rfl, rfl, rfl, trivial⟩ ?_
   intro σ _
   refine Go1.region ?_
   refine GoR.op ((op_add rfl rfl (wrap_i64 (natbd h5 eG.bd))) _) rfl rfl ?_
   refine GoR.op ((op_move rfl) _) rfl rfl ?_
   refine GoR.nil ?_
   exact hX1 _ H _ _ ⟨⟨rfl, rfl, rfl, rfl, trivial⟩, hO, eG, hB⟩
  replace H := ifn h24 H
  refine GoR.op ((fun w => opB (op_neq rfl rfl w) (ndF h24)) _) rfl rfl ?_
  refine GoR.op ((op_pickF rfl rfl rfl) _) rfl rfl ?_
  refine GoR.nil ?_
  refine Go1.condT rfl rfl ?_
  refine Go1.seq ?_
  refine Go1.region ?_
  refine GoR.op ((op_assign rfl) _) rfl rfl ?_
  refine GoR.nil ?_
  refine Go1.ret1 Try.func14 rfl ?_
  exact ⟨false, rfl, hB.same, H⟩
 replace H := ifn h5 H
 refine GoR.op ((fun w => opB (op_lss rfl rfl w) (decide_eq_false h5)) _) rfl rfl ?_
 refine GoR.nil ?_
 refine Go1.seq ?_
 refine Go1.condF rfl rfl ?_
 refine Go1.exit rfl ?_
 refine Go1.seq ?_
 refine Go1.region ?_
 refine GoR.op ((op_assign rfl) _) rfl rfl ?_
 refine GoR.nil ?_
 refine Go1.ret1 Try.func14 rfl ?_
 exact ⟨true, rfl, hB.same, H⟩
theorem body15 : Body Try.prog 15 := ⟨Try.f15, Try.func15, rfl, by kernel_rfl⟩
theorem walk_law12_little {A : List Nat} {w0 : World} {lj : Option Addr} {lk : Nat} {gens : List (List Int)} {points : Int} {letters : Int} (hA : ∀ b ∈ A, b < w0.heap.size) (eG : ISl (Rp.sl (Rp.int .i64)) A w0 lj lk gens) {K : Bool → Prop} (H : law12_little gens points letters K) :
    CallsV Try.prog 15 #[.slice lj gens.length lk, .int .i64 points, .int .i64 letters] w0 (fun v w' => ∃ (r0 : Bool), v = .bool r0 ∧ Same w0 w' ∧ K r0) := by
 refine CallsV.of (l := [.slice lj gens.length lk, .int .i64 points, .int .i64 letters]) Try.func15 rfl Try.ntmps15 rfl ?_
 have hO := Owns.start hA
 have hB := Fr.refl (bl []) w0
 unfold law12_little at H
 replace eG := eG.ch (Ch.start A w0)
 refine Go1.seq ?_
 refine Go1.region ?_
 refine GoR.op ((op_assign rfl) _) rfl rfl ?_
 refine GoR.nil ?_
 refine Go1.seq ?_
 refine Go1.region ?_
 refine GoR.op ((op_move rfl) _) rfl rfl ?_
 refine GoR.call (op_call body14 rfl (walk_ref11_MayGens hO.lt eG H)) rfl rfl ?_
 rintro v5 w2 ⟨r1, rfl, hs3, H⟩
 have sv := Stp.same hO hs3
 replace hO := sv.own
 replace eG := eG.ch sv.ch
 replace hB := hB.trans sv.fr
 refine GoR.op ((op_move rfl) _) rfl rfl ?_
 cases r1
 ·replace H := ifn Bool.false_ne_true H
  refine GoR.pass rfl rfl ?_
  refine GoR.pass rfl rfl ?_
  refine GoR.pass rfl rfl ?_
  refine GoR.pass rfl rfl ?_
  refine GoR.op ((op_pickF rfl rfl rfl) _) rfl rfl ?_
  refine GoR.op ((op_move rfl) _) rfl rfl ?_
  refine GoR.pass rfl rfl ?_
  refine GoR.pass rfl rfl ?_
  refine GoR.pass rfl rfl ?_
  refine GoR.pass rfl rfl ?_
  refine GoR.pass rfl rfl ?_
  refine GoR.pass rfl rfl ?_
  refine GoR.op ((op_pickF rfl rfl rfl) _) rfl rfl ?_
  refine GoR.op ((op_assign rfl) _) rfl rfl ?_
  refine GoR.nil ?_
  refine Go1.ret1 Try.func15 rfl ?_
  exact ⟨false, rfl, hB.same, H⟩
 replace H := ifp rfl H
 refine GoR.op ((op_move rfl) _) rfl rfl ?_
 refine GoR.op ((op_len Try.underlying22 rfl) _) rfl rfl ?_
 replace H := H eG.bd
 refine GoR.op ((op_move rfl) _) rfl rfl ?_
 by_cases h7 : (gens.length : Int) ≤ letters
 ·replace H := ifp h7 H
  refine GoR.op ((fun w => opB (op_leq rfl rfl w) (decide_eq_true h7)) _) rfl rfl ?_
  refine GoR.op ((op_pickT rfl rfl rfl) _) rfl rfl ?_
  refine GoR.op ((op_move rfl) _) rfl rfl ?_
  refine GoR.op ((op_move rfl) _) rfl rfl ?_
  obtain ⟨h8, H⟩ := H
  obtain ⟨h9, H⟩ := H
  refine GoR.op ((op_index Try.underlying22 ti26 rfl rfl h8 h9 (eG.some_ h8 h9)) _) rfl rfl ?_
  have hobt := ldSl eG h8 h9
  obtain ⟨p10, c11, Hf, Hg⟩ := hobt
  refine GoR.op ((Hg Try.underlying26 rfl rfl) _ (Same.refl _)) rfl rfl ?_
  refine GoR.op ((op_len Try.underlying26 rfl) _) rfl rfl ?_
  replace H := H Hf.bd
  refine GoR.op ((op_move rfl) _) rfl rfl ?_
  by_cases h14 : ((ix gens (0 : Int)).length : Int) ≤ points
  ·replace H := ifp h14 H
   refine GoR.op ((fun w => opB (op_leq rfl rfl w) (decide_eq_true h14)) _) rfl rfl ?_
   refine GoR.op ((op_pickT rfl rfl rfl) _) rfl rfl ?_
   refine GoR.op ((op_assign rfl) _) rfl rfl ?_
   refine GoR.nil ?_
   refine Go1.ret1 Try.func15 rfl ?_
   exact ⟨true, rfl, hB.same, H⟩
  replace H := ifn h14 H
  refine GoR.op ((fun w => opB (op_leq rfl rfl w) (decide_eq_false h14)) _) rfl rfl ?_
  refine GoR.op ((op_pickT rfl rfl rfl) _) rfl rfl ?_
  refine GoR.op ((op_assign rfl) _) rfl rfl ?_
  refine GoR.nil ?_
  refine Go1.ret1 Try.func15 rfl ?_
  exact ⟨false, rfl, hB.same, H⟩
 replace H := ifn h7 H
 refine GoR.op ((fun w => opB (op_leq rfl rfl w) (decide_eq_false h7)) _) rfl rfl ?_
 refine GoR.op ((op_pickT rfl rfl rfl) _) rfl rfl ?_
 refine GoR.op ((op_move rfl) _) rfl rfl ?_
 refine GoR.pass rfl rfl ?_
 refine GoR.pass rfl rfl ?_
 refine GoR.pass rfl rfl ?_
 refine GoR.pass rfl rfl ?_
 refine GoR.pass rfl rfl ?_
 refine GoR.pass rfl rfl ?_
 refine GoR.op ((op_pickF rfl rfl rfl) _) rfl rfl ?_
 refine GoR.op ((op_assign rfl) _) rfl rfl ?_
 refine GoR.nil ?_
 refine Go1.ret1 Try.func15 rfl ?_
 exact ⟨false, rfl, hB.same, H⟩
theorem body60 : Body Try.prog 60 := ⟨Try.f60, Try.func60, rfl, by kernel_rfl⟩
theorem walk_trans_Valid {A : List Nat} {w0 : World} {p_f : Option Addr} {c_f : Nat} {f : List Int} (hA : ∀ b ∈ A, b < w0.heap.size) (h_f : ISl (Rp.int .i64) A w0 p_f c_f f) {K : Bool → Prop} (H : trans_Valid f K) :
    CallsV Try.prog 60 #[.slice p_f f.length c_f] w0 (fun v w' => ∃ (r0 : Bool), v = .bool r0 ∧ Same w0 w' ∧ K r0) := by
 refine CallsV.of (l := [.slice p_f f.length c_f]) Try.func60 rfl Try.ntmps60 rfl ?_
 have hO := Owns.start hA
 have hB := Fr.refl (bl []) w0
 unfold trans_Valid at H
 replace h_f := h_f.ch (Ch.start A w0)
 refine Go1.seq ?_
 refine Go1.region ?_
 refine GoR.op ((op_assign rfl) _) rfl rfl ?_
 refine GoR.nil ?_
 refine Go1.seq ?_
 refine Go1.seq ?_
 refine Go1.region ?_
 refine GoR.op ((op_move rfl) _) rfl rfl ?_
 refine GoR.op ((op_len Try.underlying26 rfl) _) rfl rfl ?_
 replace H := H h_f.bd
 by_cases h1 : (f.length : Int) < (1 : Int)
 ·replace H := ifp h1 H
  refine GoR.op ((fun w => opB (op_lss rfl rfl w) (decide_eq_true h1)) _) rfl rfl ?_
  refine GoR.op ((op_move rfl) _) rfl rfl ?_
  refine GoR.pass rfl rfl ?_
  refine GoR.pass rfl rfl ?_
  refine GoR.pass rfl rfl ?_
  refine GoR.op ((op_pickT rfl rfl rfl) _) rfl rfl ?_
  refine GoR.nil ?_
  refine Go1.condT rfl rfl ?_
  refine Go1.seq ?_
  refine Go1.region ?_
  refine GoR.op ((op_assign rfl) _) rfl rfl ?_
  refine GoR.nil ?_
  refine Go1.ret1 Try.func60 rfl ?_
  exact ⟨false, rfl, hB.same, H⟩
 replace H := ifn h1 H
 refine GoR.op ((fun w => opB (op_lss rfl rfl w) (decide_eq_false h1)) _) rfl rfl ?_
 refine GoR.op ((op_move rfl) _) rfl rfl ?_
 refine GoR.op ((op_move rfl) _) rfl rfl ?_
 refine GoR.op ((op_len Try.underlying26 rfl) _) rfl rfl ?_
 by_cases h2 : (32 : Int) < (f.length : Int)
 ·replace H := ifp h2 H
  refine GoR.op ((fun w => opB (op_gtr rfl rfl w) (decide_eq_true h2)) _) rfl rfl ?_
  refine GoR.op ((op_pickF rfl rfl rfl) _) rfl rfl ?_
  refine GoR.nil ?_
  refine Go1.condT rfl rfl ?_
  refine Go1.seq ?_
  refine Go1.region ?_
  refine GoR.op ((op_assign rfl) _) rfl rfl ?_
  refine GoR.nil ?_
  refine Go1.ret1 Try.func60 rfl ?_
  exact ⟨false, rfl, hB.same, H⟩
 replace H := ifn h2 H
 refine GoR.op ((fun w => opB (op_gtr rfl rfl w) (decide_eq_false h2)) _) rfl rfl ?_
 refine GoR.op ((op_pickF rfl rfl rfl) _) rfl rfl ?_
 refine GoR.nil ?_
 refine Go1.condF rfl rfl ?_
 refine Go1.skip ?_
 refine Go1.seq ?_
 refine Go1.seq ?_
 refine Go1.region ?_
 refine GoR.op ((op_move rfl) _) rfl rfl ?_
 refine GoR.op ((op_len Try.underlying26 rfl) _) rfl rfl ?_
 refine GoR.op ((op_move rfl) _) rfl rfl ?_
 refine GoR.nil ?_
 refine Go1.block ?_
 refine Go1.loopW (S := Nat) (fun s σ w => agrees σ [(0, .slice p_f f.length c_f), (13, .slice p_f f.length c_f), (14, .int .i64 (f.length : Int)), (15, .int .i64 (s : Int))] ∧ Owns w0.heap.size w [] A ∧ ISl (Rp.int .i64) (bl [] ++ A) w p_f c_f f ∧ Fr (bl []) w0 (bl []) w) H ⟨⟨rfl, rfl, rfl, rfl, trivial⟩, hO, h_f, hB⟩ ?_
 intro X1 k1_4
 intro H hX1 σ w3
 refine andE fun hag => andE fun hO => andE fun h_f => fun hB => ?_
 refine Go1.keep [(0, .slice p_f f.length c_f), (13, .slice p_f f.length c_f), (14, .int .i64 (f.length : Int)), (15, .int .i64 (k1_4 : Int))] hag ?_
 refine Go1.seq ?_
 refine Go1.region ?_
 by_cases h5 : (k1_4 : Int) < (f.length : Int)
 ·replace H := ifp h5 H
  refine GoR.op ((fun w => opB (op_lss rfl rfl w) (decide_eq_true h5)) _) rfl rfl ?_
  refine GoR.nil ?_
  refine Go1.seq ?_
  refine Go1.condT rfl rfl ?_
  refine Go1.skip ?_
  refine Go1.seq ?_
  refine Go1.block ?_
  refine Go1.seq ?_
  refine Go1.region ?_
  obtain ⟨h6, H⟩ := H
  obtain ⟨h7, H⟩ := H
  refine GoR.op ((op_index Try.underlying26 ti3 rfl rfl h6 h7 (h_f.some_ h6 h7)) _) rfl rfl ?_
  refine GoR.op ((ldInt h_f h6 h7 Try.underlying3 rfl rfl) _ (Same.refl _)) rfl rfl ?_
  refine GoR.op ((op_assign rfl) _) rfl rfl ?_
  refine GoR.nil ?_
  refine Go1.seq ?_
  refine Go1.region ?_
  refine GoR.op ((op_move rfl) _) rfl rfl ?_
  by_cases h8 : (ix f (k1_4 : Int)) < (0 : Int)
  ·replace H := ifp h8 H
   refine GoR.op ((fun w => opB (op_lss rfl rfl w) (decide_eq_true h8)) _) rfl rfl ?_
   refine GoR.op ((op_move rfl) _) rfl rfl ?_
   refine GoR.pass rfl rfl ?_
   refine GoR.pass rfl rfl ?_
   refine GoR.pass rfl rfl ?_
   refine GoR.pass rfl rfl ?_
   refine GoR.op ((op_pickT rfl rfl rfl) _) rfl rfl ?_
   refine GoR.nil ?_
   refine Go1.condT rfl rfl ?_
   refine Go1.seq ?_
   refine Go1.region ?_
   refine GoR.op ((op_assign rfl) _) rfl rfl ?_
   refine GoR.nil ?_
   refine Go1.ret1 Try.func60 rfl ?_
   exact ⟨false, rfl, hB.same, H⟩
  replace H := ifn h8 H
  refine GoR.op ((fun w => opB (op_lss rfl rfl w) (decide_eq_false h8)) _) rfl rfl ?_
  refine GoR.op ((op_move rfl) _) rfl rfl ?_
  refine GoR.op ((op_move rfl) _) rfl rfl ?_
  refine GoR.op ((op_move rfl) _) rfl rfl ?_
  refine GoR.op ((op_len Try.underlying26 rfl) _) rfl rfl ?_
  by_cases h9 : (f.length : Int) ≤ (ix f (k1_4 : Int))
  ·replace H := ifp h9 H
   refine GoR.op ((fun w => opB (op_geq rfl rfl w) (decide_eq_true h9)) _) rfl rfl ?_
   refine GoR.op ((op_pickF rfl rfl rfl) _) rfl rfl ?_
   refine GoR.nil ?_
   refine Go1.condT rfl rfl ?_
   refine Go1.seq ?_
   refine Go1.cut [] trivial ?_
   intro σ _
   refine Go1.region ?_
   refine GoR.op ((op_assign rfl) _) rfl rfl ?_
   refine GoR.nil ?_
   refine Go1.ret1 Try.func60 rfl ?_
   exact ⟨false, rfl, hB.same, H⟩
  replace H := ifn h9 H
  refine GoR.op ((fun w => opB (op_geq rfl rfl w) (decide_eq_false h9)) _) rfl rfl ?_
  refine GoR.op ((op_pickF rfl rfl rfl) _) rfl rfl ?_
  refine GoR.nil ?_
  refine Go1.condF rfl rfl ?_
  refine Go1.skip ?_
  refine Go1.inBlock ?_
  refine Go1.region ?_
  refine GoR.op ((op_add rfl rfl (wrap_i64 (natbd h5 h_f.bd))) _) rfl rfl ?_
  refine GoR.op ((op_move rfl) _) rfl rfl ?_
  refine GoR.nil ?_
  exact hX1 _ H _ _ ⟨⟨rfl, rfl, rfl, rfl, trivial⟩, hO, h_f, hB⟩
 replace H := ifn h5 H
 refine GoR.op ((fun w => opB (op_lss rfl rfl w) (decide_eq_false h5)) _) rfl rfl ?_
 refine GoR.nil ?_
 refine Go1.seq ?_
 refine Go1.condF rfl rfl ?_
 refine Go1.exit rfl ?_
 refine Go1.seq ?_
 refine Go1.region ?_
 refine GoR.op ((op_assign rfl) _) rfl rfl ?_
 refine GoR.nil ?_
 refine Go1.ret1 Try.func60 rfl ?_
 exact ⟨true, rfl, hB.same, H⟩
theorem body64 : Body Try.prog 64 := ⟨Try.f64, Try.func64, rfl, by kernel_rfl⟩
theorem walk_slices_Clone_int {A : List Nat} {w0 : World} {p_s : Option Addr} {c_s : Nat} {s : List Int} (hA : ∀ b ∈ A, b < w0.heap.size) (h_s : ISl (Rp.int .i64) A w0 p_s c_s s) {K : List Int → Prop} (H : slices_Clone_int s K) :
    CallsV Try.prog 64 #[.slice p_s s.length c_s] w0 (fun v w' => ∃ (r0 : List Int), ∃ (zM : Nat), ∃ (uB : Option Addr), ∃ (uC : Nat), ∃ (yw : List Value), v = .slice uB zM uC ∧ Same w0 w' ∧ Owns w0.heap.size w' [.row 3 1 uB zM uC yw] A ∧ Els (Rp.int .i64) (bl [.row 3 1 uB zM uC yw] ++ A) w' yw r0 ∧ K r0) := by
 refine CallsV.of (l := [.slice p_s s.length c_s]) Try.func64 rfl Try.ntmps64 rfl ?_
 have hO := Owns.start hA
 have hB := Fr.refl (bl []) w0
 unfold slices_Clone_int at H
 replace h_s := h_s.ch (Ch.start A w0)
 refine Go1.seq ?_
 refine Go1.region ?_
 refine GoR.op ((op_assign rfl) _) rfl rfl ?_
 refine GoR.nil ?_
 refine Go1.seq ?_
 refine Go1.seq ?_
 refine Go1.region ?_
 refine GoR.op ((op_move rfl) _) rfl rfl ?_
 replace H := H p_s.isNone (fun h => h_s.nilD h)
 by_cases hz2 : p_s.isNone = true
 ·replace H := ifp hz2 H
  refine GoR.op ((fun w => opB (op_nilSlice Try.underlying26 rfl rfl w) (hz2)) _) rfl rfl ?_
  refine GoR.nil ?_
  refine Go1.condT rfl rfl ?_
  refine Go1.seq ?_
  refine Go1.region ?_
  refine GoR.op ((op_assign rfl) _) rfl rfl ?_
  refine GoR.nil ?_
  have oR := Stp.nil (e := 3) (r := 1) hO
  replace hO := oR.own
  replace h_s := h_s.ch oR.ch
  replace hB := hB.trans oR.fr
  have hE5 := Els.nil (Rp.int .i64) (bl (.row 3 1 none 0 0 [] :: []) ++ A) w0
  refine Go1.ret1 Try.func64 rfl ?_
  exact ⟨(([] : List Int)), 0, none, 0, ([]), rfl, hB.same, hO, hE5, H⟩
 ·replace H := ifn hz2 H
  refine GoR.op ((fun w => opB (op_nilSlice Try.underlying26 rfl rfl w) (Bool.eq_false_iff.2 hz2)) _) rfl rfl ?_
  refine GoR.nil ?_
  refine Go1.condF rfl rfl ?_
  refine Go1.skip ?_
  refine Go1.seq ?_
  refine Go1.region ?_
  have hobt := obuild (r := Rp.int .i64) (n := 0) (parts := []) (vs := []) (xs := ([] : List Int)) rfl Try.underlying26 ti3 hO (by decide) (by kernel_rfl) (Els.nil _ _ _) rfl
  obtain ⟨w6, p7, zN, hE9, Bb, Dv⟩ := hobt
  refine GoR.op (Dv rfl) rfl rfl ?_
  replace hO := zN.own
  replace h_s := h_s.ch zN.ch
  replace hB := hB.trans zN.fr
  refine GoR.op ((op_move rfl) _) rfl rfl ?_
  obtain ⟨h13, H⟩ := H
  have hobt := oapp Try.underlying26 ti3 rfl 0 hO rfl hE9 h_s rfl h13 (by decide)
  obtain ⟨w14, p15, c16, mE, rf, Hh, yy⟩ := hobt
  refine GoR.op (yy (by exact rfl) (by exact rfl)) rfl rfl ?_
  replace hO := rf.own
  replace h_s := h_s.ch rf.ch
  replace hB := hB.trans rf.fr
  refine GoR.op ((op_assign rfl) _) rfl rfl ?_
  refine GoR.nil ?_
  refine Go1.ret1 Try.func64 rfl ?_
  exact ⟨((([] : List Int)) ++ s), (0 + s.length), p15, c16, mE, rfl, hB.same, hO, Hh, H⟩
theorem body62 : Body Try.prog 62 := ⟨Try.f62, Try.func62, rfl, by kernel_rfl⟩
theorem walk_trans_Identity {A : List Nat} {w0 : World} {n : Int} (hA : ∀ b ∈ A, b < w0.heap.size) {K : List Int → Prop} (H : trans_Identity n K) :
    CallsV Try.prog 62 #[.int .i64 n] w0 (fun v w' => ∃ (r0 : List Int), ∃ (uB : Option Addr), ∃ (uC : Nat), v = .slice uB r0.length uC ∧ Same w0 w' ∧ ISl (Rp.int .i64) A w' uB uC r0 ∧ K r0) := by
 refine CallsV.of (l := [.int .i64 n]) Try.func62 rfl Try.ntmps62 rfl ?_
 have hO := Owns.start hA
 have hB := Fr.refl (bl []) w0
 unfold trans_Identity at H
 refine Go1.seq ?_
 refine Go1.region ?_
 refine GoR.op ((op_assign rfl) _) rfl rfl ?_
 refine GoR.nil ?_
 refine Go1.seq ?_
 refine Go1.seq ?_
 refine Go1.region ?_
 refine GoR.op ((op_move rfl) _) rfl rfl ?_
 by_cases h1 : n < (1 : Int)
 ·replace H := ifp h1 H
  refine GoR.op ((fun w => opB (op_lss rfl rfl w) (decide_eq_true h1)) _) rfl rfl ?_
  refine GoR.op ((op_move rfl) _) rfl rfl ?_
  refine GoR.pass rfl rfl ?_
  refine GoR.pass rfl rfl ?_
  refine GoR.op ((op_pickT rfl rfl rfl) _) rfl rfl ?_
  refine GoR.nil ?_
  refine Go1.condT rfl rfl ?_
  refine Go1.seq ?_
  refine Go1.region ?_
  refine GoR.op ((op_assign rfl) _) rfl rfl ?_
  refine GoR.nil ?_
  refine Go1.ret1 Try.func62 rfl ?_
  exact ⟨([] : List Int), none, 0, rfl, hB.same, (ISl.null _ _ _), H⟩
 replace H := ifn h1 H
 refine GoR.op ((fun w => opB (op_lss rfl rfl w) (decide_eq_false h1)) _) rfl rfl ?_
 refine GoR.op ((op_move rfl) _) rfl rfl ?_
 refine GoR.op ((op_move rfl) _) rfl rfl ?_
 by_cases h2 : (32 : Int) < n
 ·replace H := ifp h2 H
  refine GoR.op ((fun w => opB (op_gtr rfl rfl w) (decide_eq_true h2)) _) rfl rfl ?_
  refine GoR.op ((op_pickF rfl rfl rfl) _) rfl rfl ?_
  refine GoR.nil ?_
  refine Go1.condT rfl rfl ?_
  refine Go1.seq ?_
  refine Go1.region ?_
  refine GoR.op ((op_assign rfl) _) rfl rfl ?_
  refine GoR.nil ?_
  refine Go1.ret1 Try.func62 rfl ?_
  exact ⟨([] : List Int), none, 0, rfl, hB.same, (ISl.null _ _ _), H⟩
 replace H := ifn h2 H
 refine GoR.op ((fun w => opB (op_gtr rfl rfl w) (decide_eq_false h2)) _) rfl rfl ?_
 refine GoR.op ((op_pickF rfl rfl rfl) _) rfl rfl ?_
 refine GoR.nil ?_
 refine Go1.condF rfl rfl ?_
 refine Go1.skip ?_
 refine Go1.seq ?_
 refine Go1.region ?_
 refine GoR.op ((op_move rfl) _) rfl rfl ?_
 obtain ⟨h10, H⟩ := H
 obtain ⟨h11, H⟩ := H
 have hobt := omake (n := n) (r := Rp.int .i64) (d := (0 : Int)) Try.underlying26 ti3 (fun _ _ => rfl) rfl hO h10 h11 (by decide)
 obtain ⟨w3, p4, vs5, sv, hE7, hs8, Hi⟩ := hobt
 refine GoR.op (Hi rfl rfl) rfl rfl ?_
 replace hO := sv.own
 replace hB := hB.trans sv.fr
 refine GoR.op ((op_assign rfl) _) rfl rfl ?_
 refine GoR.nil ?_
 refine Go1.seq ?_
 refine Go1.seq ?_
 refine Go1.region ?_
 refine GoR.op ((op_move rfl) _) rfl rfl ?_
 refine GoR.op ((op_lenN Try.underlying26 rfl (hE7.neq hO 0 rfl)) _) rfl rfl ?_
 refine GoR.op ((op_move rfl) _) rfl rfl ?_
 refine GoR.nil ?_
 refine Go1.block ?_
 refine Go1.loopW (S := Nat × List Int) (fun s σ w => match s with | (k1_14, f1_15) => ∃ (vW : List Value), agrees σ [(3, .slice p4 n.toNat n.toNat), (14, .int .i64 ((List.replicate n.toNat ((0 : Int))).length : Int)), (15, .int .i64 (k1_14 : Int))] ∧ Owns w0.heap.size w [.row 3 1 p4 n.toNat n.toNat vW] A ∧ Els (Rp.int .i64) (bl [.row 3 1 p4 n.toNat n.toNat vW] ++ A) w vW f1_15 ∧ Fr (bl []) w0 (bl [.row 3 1 p4 n.toNat n.toNat vW]) w) H ⟨vs5, ⟨rfl, rfl, rfl, trivial⟩, hO, hE7, hB⟩ ?_
 intro X1
 refine prE fun k1_14 => fun f1_15 => ?_
 intro H hX1 σ w13
 refine exE fun vW => andE fun hag => andE fun hO => andE fun yz => fun hB => ?_
 dsimp only at H
 refine Go1.keep [(3, .slice p4 n.toNat n.toNat), (14, .int .i64 ((List.replicate n.toNat ((0 : Int))).length : Int)), (15, .int .i64 (k1_14 : Int))] hag ?_
 refine Go1.seq ?_
 refine Go1.region ?_
 by_cases h18 : (k1_14 : Int) < ((List.replicate n.toNat ((0 : Int))).length : Int)
 ·replace H := ifp h18 H
  refine GoR.op ((fun w => opB (op_lss rfl rfl w) (decide_eq_true h18)) _) rfl rfl ?_
  refine GoR.nil ?_
  refine Go1.seq ?_
  refine Go1.condT rfl rfl ?_
  refine Go1.skip ?_
  refine Go1.seq ?_
  refine Go1.block ?_
  refine Go1.seq ?_
  refine Go1.region ?_
  refine GoR.op ((op_move rfl) _) rfl rfl ?_
  refine GoR.op ((op_assign rfl) _) rfl rfl ?_
  refine GoR.nil ?_
  refine Go1.region ?_
  refine GoR.op ((op_move rfl) _) rfl rfl ?_
  refine GoR.op ((op_move rfl) _) rfl rfl ?_
  refine GoR.op ((op_move rfl) _) rfl rfl ?_
  obtain ⟨h19, H⟩ := H
  obtain ⟨h20, H⟩ := H
  refine GoR.op ((op_index Try.underlying26 ti3 rfl rfl h19 (ltn (yz.neq hO 0 rfl) h20) (yz.psome hO 0 rfl h19 h20)) _) rfl rfl ?_
  have hobt := ost (r := Rp.int .i64) rfl 0 hO rfl yz h19 h20 (v := .int .i64 (k1_14 : Int)) (u := (k1_14 : Int)) rfl rfl
  obtain ⟨w21, zO, jy, cG, yA⟩ := hobt
  refine GoR.op (yA Try.underlying3 rfl ti3 (by exact rfl) (by exact rfl)) rfl rfl ?_
  replace hO := jy.own
  replace hB := hB.trans jy.fr
  refine GoR.nil ?_
  refine Go1.inBlock ?_
  refine Go1.region ?_
  obtain ⟨h26, H⟩ := H
  refine GoR.op ((op_add rfl rfl (wrap_i64 h26)) _) rfl rfl ?_
  refine GoR.op ((op_move rfl) _) rfl rfl ?_
  refine GoR.nil ?_
  exact hX1 _ H _ _ ⟨zO, ⟨rfl, rfl, rfl, trivial⟩, hO, cG, hB⟩
 replace H := ifn h18 H
 refine GoR.op ((fun w => opB (op_lss rfl rfl w) (decide_eq_false h18)) _) rfl rfl ?_
 refine GoR.nil ?_
 refine Go1.seq ?_
 refine Go1.condF rfl rfl ?_
 refine Go1.exit rfl ?_
 refine Go1.seq ?_
 refine Go1.region ?_
 refine GoR.op ((op_move rfl) _) rfl rfl ?_
 refine GoR.op ((op_assign rfl) _) rfl rfl ?_
 refine GoR.nil ?_
 have hobt := freeze 0 hO rfl yz
 obtain ⟨hO1, JP, Hj, Hk⟩ := hobt
 replace hB := hB.trans (Owns.dropFr _ _ 0)
 replace hO := hO1; clear hO1
 refine Go1.ret1 Try.func62 rfl ?_
 exact ⟨f1_15, p4, n.toNat, (congrArg (fun nn => Value.slice p4 nn n.toNat) Hk), hB.same, (Hj.ch (Ch.weak _ _ _)), H⟩
theorem body61 : Body Try.prog 61 := ⟨Try.f61, Try.func61, rfl, by kernel_rfl⟩
theorem walk_enumerate_text {A : List Nat} {w0 : World} {p_f : Option Addr} {c_f : Nat} {f : List Int} (hA : ∀ b ∈ A, b < w0.heap.size) (h_f : ISl (Rp.int .i64) A w0 p_f c_f f) {K : Str → Prop} (H : enumerate_text f K) :
    CallsV Try.prog 61 #[.slice p_f f.length c_f] w0 (fun v w' => ∃ (r0 : Str), v = .string (gstr r0) ∧ Same w0 w' ∧ r0.length ≤ mx ∧ K r0) := by
 refine CallsV.of (l := [.slice p_f f.length c_f]) Try.func61 rfl Try.ntmps61 rfl ?_
 have hO := Owns.start hA
 have hB := Fr.refl (bl []) w0
 unfold enumerate_text at H
 replace h_f := h_f.ch (Ch.start A w0)
 refine Go1.seq ?_
 refine Go1.region ?_
 refine GoR.op ((op_assign rfl) _) rfl rfl ?_
 refine GoR.nil ?_
 refine Go1.seq ?_
 refine Go1.region ?_
 refine GoR.op ((op_move rfl) _) rfl rfl ?_
 refine GoR.op ((op_len Try.underlying26 rfl) _) rfl rfl ?_
 replace H := H h_f.bd
 obtain ⟨h8, H⟩ := H
 obtain ⟨h9, H⟩ := H
 have hobt := omake (n := (f.length : Int)) (r := Rp.int .u8) (d := (0 : Int)) Try.underlying84 ti5 (fun _ _ => rfl) rfl hO h8 h9 (by decide)
 obtain ⟨w1, p2, vs3, oR, hE5, hs6, xT⟩ := hobt
 refine GoR.op (xT rfl rfl) rfl rfl ?_
 replace hO := oR.own
 replace h_f := h_f.ch oR.ch
 replace hB := hB.trans oR.fr
 refine GoR.op ((op_assign rfl) _) rfl rfl ?_
 refine GoR.nil ?_
 refine Go1.seq ?_
 refine Go1.seq ?_
 refine Go1.region ?_
 refine GoR.op ((op_move rfl) _) rfl rfl ?_
 refine GoR.op ((op_len Try.underlying26 rfl) _) rfl rfl ?_
 refine GoR.op ((op_move rfl) _) rfl rfl ?_
 refine GoR.nil ?_
 refine Go1.block ?_
 refine Go1.loopW (S := Nat × List Int) (fun s σ w => match s with | (k1_12, b1_13) => ∃ (nX : List Value), agrees σ [(3, .slice p2 f.length f.length), (9, .slice p_f f.length c_f), (10, .int .i64 (f.length : Int)), (11, .int .i64 (k1_12 : Int))] ∧ Owns w0.heap.size w [.row 5 1 p2 f.length f.length nX] A ∧ Els (Rp.int .u8) (bl [.row 5 1 p2 f.length f.length nX] ++ A) w nX b1_13 ∧ ISl (Rp.int .i64) (bl [.row 5 1 p2 f.length f.length nX] ++ A) w p_f c_f f ∧ Fr (bl []) w0 (bl [.row 5 1 p2 f.length f.length nX]) w) H ⟨vs3, ⟨rfl, rfl, rfl, rfl, trivial⟩, hO, hE5, h_f, hB⟩ ?_
 intro X1
 refine prE fun k1_12 => fun b1_13 => ?_
 intro H hX1 σ w11
 refine exE fun nX => andE fun hag => andE fun hO => andE fun b6 => andE fun h_f => fun hB => ?_
 dsimp only at H
 refine Go1.keep [(3, .slice p2 f.length f.length), (9, .slice p_f f.length c_f), (10, .int .i64 (f.length : Int)), (11, .int .i64 (k1_12 : Int))] hag ?_
 refine Go1.seq ?_
 refine Go1.region ?_
 by_cases h16 : (k1_12 : Int) < (f.length : Int)
 ·replace H := ifp h16 H
  refine GoR.op ((fun w => opB (op_lss rfl rfl w) (decide_eq_true h16)) _) rfl rfl ?_
  refine GoR.nil ?_
  refine Go1.seq ?_
  refine Go1.condT rfl rfl ?_
  refine Go1.skip ?_
  refine Go1.seq ?_
  refine Go1.block ?_
  refine Go1.seq ?_
  refine Go1.region ?_
  refine GoR.op ((op_move rfl) _) rfl rfl ?_
  obtain ⟨h17, H⟩ := H
  obtain ⟨h18, H⟩ := H
  refine GoR.op ((op_index Try.underlying26 ti3 rfl rfl h17 h18 (h_f.some_ h17 h18)) _) rfl rfl ?_
  refine GoR.op ((ldInt h_f h17 h18 Try.underlying3 rfl rfl) _ (Same.refl _)) rfl rfl ?_
  refine GoR.op ((op_assign rfl) _) rfl rfl ?_
  refine GoR.op ((op_assign rfl) _) rfl rfl ?_
  refine GoR.nil ?_
  refine Go1.region ?_
  refine GoR.op ((op_move rfl) _) rfl rfl ?_
  refine GoR.op ((op_move rfl) _) rfl rfl ?_
  refine GoR.op ((op_move rfl) _) rfl rfl ?_
  refine GoR.op ((op_conv Try.underlying3 Try.underlying5 rfl rfl) _) rfl rfl ?_
  obtain ⟨h19, H⟩ := H
  obtain ⟨h20, H⟩ := H
  refine GoR.op ((op_index Try.underlying84 ti5 rfl rfl h19 (ltn (b6.neq hO 0 rfl) h20) (b6.psome hO 0 rfl h19 h20)) _) rfl rfl ?_
  have hobt := ost (r := Rp.int .u8) rfl 0 hO rfl b6 h19 h20 (v := .int .u8 (IntKind.u8.wrap (ix f (k1_12 : Int)))) (u := (IntKind.u8.wrap (ix f (k1_12 : Int)))) rfl rfl
  obtain ⟨w21, zO, jy, cG, yA⟩ := hobt
  refine GoR.op (yA Try.underlying5 rfl ti5 (by exact rfl) (by exact rfl)) rfl rfl ?_
  replace hO := jy.own
  replace h_f := h_f.ch jy.ch
  replace hB := hB.trans jy.fr
  refine GoR.nil ?_
  refine Go1.inBlock ?_
  refine Go1.region ?_
  refine GoR.op ((op_add rfl rfl (wrap_i64 (natbd h16 h_f.bd))) _) rfl rfl ?_
  refine GoR.op ((op_move rfl) _) rfl rfl ?_
  refine GoR.nil ?_
  exact hX1 _ H _ _ ⟨zO, ⟨rfl, rfl, rfl, rfl, trivial⟩, hO, cG, h_f, hB⟩
 replace H := ifn h16 H
 refine GoR.op ((fun w => opB (op_lss rfl rfl w) (decide_eq_false h16)) _) rfl rfl ?_
 refine GoR.nil ?_
 refine Go1.seq ?_
 refine Go1.condF rfl rfl ?_
 refine Go1.exit rfl ?_
 refine Go1.seq ?_
 refine Go1.region ?_
 refine GoR.op ((op_move rfl) _) rfl rfl ?_
 have hle26 := byt_le b6.bd
 refine GoR.op ((oldBytes 0 hO rfl b6 Try.underlying84 Try.underlying5 Try.underlying9 rfl) _ (Same.refl _)) rfl rfl ?_
 refine GoR.op ((op_assign rfl) _) rfl rfl ?_
 refine GoR.nil ?_
 refine Go1.ret1 Try.func61 rfl ?_
 exact ⟨byt b1_13, rfl, hB.same, hle26, H⟩
theorem body65 : Body Try.prog 65 := ⟨Try.f65, Try.func65, rfl, by kernel_rfl⟩
theorem body49 : Body Try.prog 49 := ⟨Try.f49, Try.func49, rfl, by kernel_rfl⟩
theorem walk_enumerate_begin {A : List Nat} {w0 : World} {sw : Option Addr} {sx : Nat} {a0 : List (List Int)} {a1 : Bool} (hA : ∀ b ∈ A, b < w0.heap.size) (b7 : ISl (Rp.sl (Rp.int .i64)) A w0 sw sx a0) {K : Option run → Int → Prop} (H : enumerate_begin a0 a1 K) :
    CallsV Try.prog 49 #[.slice sw a0.length sx, .bool a1] w0 (fun v w' => (∃ (r1 : Int), v = .tuple #[.pointer none, .int .i64 r1] ∧ Same w0 w' ∧ K none r1) ∨ (∃ (q : run), ∃ (r1 : Int), ∃ (b_q : Nat), ∃ (bi : Nat), ∃ (bj : Option Addr), ∃ (bk : Nat), ∃ (cq : List Value), ∃ (aY : Nat), ∃ (aZ : Option Addr), ∃ (a5 : Nat), ∃ (cl : List Value), ∃ (aL : Nat), ∃ (aM : Option Addr), ∃ (aN : Nat), ∃ (cb : List Value), ∃ (bm : Nat), ∃ (bn : Option Addr), ∃ (bo : Nat), ∃ (cr : List Value), ∃ (a6 : Nat), ∃ (a7 : Option Addr), ∃ (a8 : Nat), ∃ (co : List Value), ∃ (a9 : Nat), ∃ (ba : Option Addr), ∃ (bc : Nat), ∃ (cp : List Value), ∃ (cR : Nat), ∃ (cf : Nat), ∃ (cg : Option Addr), ∃ (ci : Nat), ∃ (dr : List Value), ∃ (bQ : Nat), ∃ (bS : Option Addr), ∃ (bT : Nat), ∃ (da : List Value), ∃ (bU : Nat), ∃ (bV : Option Addr), ∃ (bW : Nat), ∃ (db : List Value), v = .tuple #[.pointer (some ⟨b_q, 0, none⟩), .int .i64 r1] ∧ Same w0 w' ∧ Owns w0.heap.size w' [.blk b_q (.cells #[.int .i64 q.Enum.Points, .bool q.Enum.Monoid, .slice bj bi bk, .slice aZ aY a5, .slice aM aL aN, .slice bn bm bo, .slice a7 a6 a8, .slice ba a9 bc, .int .i64 q.Enum.Done, .map (some cR), .slice cg cf ci, .slice bS bQ bT, .slice bV bU bW] 72 (0, 0)), .row 26 1 bj bi bk cq, .row 26 1 aZ aY a5 cl, .row 3 1 aM aL aN cb, .row 3 1 bn bm bo cr, .row 26 1 a7 a6 a8 co, .row 39 2 ba a9 bc cp, .row 9 1 cg cf ci dr, .row 3 1 bS bQ bT da, .row 3 1 bV bU bW db, .any (mapE (fun a : List UInt8 => Value.string (gstr a)) (fun a : Int => Value.int .i64 a) cR q.number)] A ∧ Els (Rp.sl (Rp.int .i64)) (bl [.blk b_q (.cells #[.int .i64 q.Enum.Points, .bool q.Enum.Monoid, .slice bj bi bk, .slice aZ aY a5, .slice aM aL aN, .slice bn bm bo, .slice a7 a6 a8, .slice ba a9 bc, .int .i64 q.Enum.Done, .map (some cR), .slice cg cf ci, .slice bS bQ bT, .slice bV bU bW] 72 (0, 0)), .row 26 1 bj bi bk cq, .row 26 1 aZ aY a5 cl, .row 3 1 aM aL aN cb, .row 3 1 bn bm bo cr, .row 26 1 a7 a6 a8 co, .row 39 2 ba a9 bc cp, .row 9 1 cg cf ci dr, .row 3 1 bS bQ bT da, .row 3 1 bV bU bW db, .any (mapE (fun a : List UInt8 => Value.string (gstr a)) (fun a : Int => Value.int .i64 a) cR q.number)] ++ A) w' cq q.Enum.Gens ∧ Els (Rp.sl (Rp.int .i64)) (bl [.blk b_q (.cells #[.int .i64 q.Enum.Points, .bool q.Enum.Monoid, .slice bj bi bk, .slice aZ aY a5, .slice aM aL aN, .slice bn bm bo, .slice a7 a6 a8, .slice ba a9 bc, .int .i64 q.Enum.Done, .map (some cR), .slice cg cf ci, .slice bS bQ bT, .slice bV bU bW] 72 (0, 0)), .row 26 1 bj bi bk cq, .row 26 1 aZ aY a5 cl, .row 3 1 aM aL aN cb, .row 3 1 bn bm bo cr, .row 26 1 a7 a6 a8 co, .row 39 2 ba a9 bc cp, .row 9 1 cg cf ci dr, .row 3 1 bS bQ bT da, .row 3 1 bV bU bW db, .any (mapE (fun a : List UInt8 => Value.string (gstr a)) (fun a : Int => Value.int .i64 a) cR q.number)] ++ A) w' cl q.Enum.Elems ∧ Els (Rp.int .i64) (bl [.blk b_q (.cells #[.int .i64 q.Enum.Points, .bool q.Enum.Monoid, .slice bj bi bk, .slice aZ aY a5, .slice aM aL aN, .slice bn bm bo, .slice a7 a6 a8, .slice ba a9 bc, .int .i64 q.Enum.Done, .map (some cR), .slice cg cf ci, .slice bS bQ bT, .slice bV bU bW] 72 (0, 0)), .row 26 1 bj bi bk cq, .row 26 1 aZ aY a5 cl, .row 3 1 aM aL aN cb, .row 3 1 bn bm bo cr, .row 26 1 a7 a6 a8 co, .row 39 2 ba a9 bc cp, .row 9 1 cg cf ci dr, .row 3 1 bS bQ bT da, .row 3 1 bV bU bW db, .any (mapE (fun a : List UInt8 => Value.string (gstr a)) (fun a : Int => Value.int .i64 a) cR q.number)] ++ A) w' cb q.Enum.Prefix ∧ Els (Rp.int .i64) (bl [.blk b_q (.cells #[.int .i64 q.Enum.Points, .bool q.Enum.Monoid, .slice bj bi bk, .slice aZ aY a5, .slice aM aL aN, .slice bn bm bo, .slice a7 a6 a8, .slice ba a9 bc, .int .i64 q.Enum.Done, .map (some cR), .slice cg cf ci, .slice bS bQ bT, .slice bV bU bW] 72 (0, 0)), .row 26 1 bj bi bk cq, .row 26 1 aZ aY a5 cl, .row 3 1 aM aL aN cb, .row 3 1 bn bm bo cr, .row 26 1 a7 a6 a8 co, .row 39 2 ba a9 bc cp, .row 9 1 cg cf ci dr, .row 3 1 bS bQ bT da, .row 3 1 bV bU bW db, .any (mapE (fun a : List UInt8 => Value.string (gstr a)) (fun a : Int => Value.int .i64 a) cR q.number)] ++ A) w' cr q.Enum.Last ∧ Els (Rp.sl (Rp.int .i64)) (bl [.blk b_q (.cells #[.int .i64 q.Enum.Points, .bool q.Enum.Monoid, .slice bj bi bk, .slice aZ aY a5, .slice aM aL aN, .slice bn bm bo, .slice a7 a6 a8, .slice ba a9 bc, .int .i64 q.Enum.Done, .map (some cR), .slice cg cf ci, .slice bS bQ bT, .slice bV bU bW] 72 (0, 0)), .row 26 1 bj bi bk cq, .row 26 1 aZ aY a5 cl, .row 3 1 aM aL aN cb, .row 3 1 bn bm bo cr, .row 26 1 a7 a6 a8 co, .row 39 2 ba a9 bc cp, .row 9 1 cg cf ci dr, .row 3 1 bS bQ bT da, .row 3 1 bV bU bW db, .any (mapE (fun a : List UInt8 => Value.string (gstr a)) (fun a : Int => Value.int .i64 a) cR q.number)] ++ A) w' co q.Enum.Right ∧ Els (rpRule) (bl [.blk b_q (.cells #[.int .i64 q.Enum.Points, .bool q.Enum.Monoid, .slice bj bi bk, .slice aZ aY a5, .slice aM aL aN, .slice bn bm bo, .slice a7 a6 a8, .slice ba a9 bc, .int .i64 q.Enum.Done, .map (some cR), .slice cg cf ci, .slice bS bQ bT, .slice bV bU bW] 72 (0, 0)), .row 26 1 bj bi bk cq, .row 26 1 aZ aY a5 cl, .row 3 1 aM aL aN cb, .row 3 1 bn bm bo cr, .row 26 1 a7 a6 a8 co, .row 39 2 ba a9 bc cp, .row 9 1 cg cf ci dr, .row 3 1 bS bQ bT da, .row 3 1 bV bU bW db, .any (mapE (fun a : List UInt8 => Value.string (gstr a)) (fun a : Int => Value.int .i64 a) cR q.number)] ++ A) w' cp q.Enum.Rules ∧ Els (Rp.str) (bl [.blk b_q (.cells #[.int .i64 q.Enum.Points, .bool q.Enum.Monoid, .slice bj bi bk, .slice aZ aY a5, .slice aM aL aN, .slice bn bm bo, .slice a7 a6 a8, .slice ba a9 bc, .int .i64 q.Enum.Done, .map (some cR), .slice cg cf ci, .slice bS bQ bT, .slice bV bU bW] 72 (0, 0)), .row 26 1 bj bi bk cq, .row 26 1 aZ aY a5 cl, .row 3 1 aM aL aN cb, .row 3 1 bn bm bo cr, .row 26 1 a7 a6 a8 co, .row 39 2 ba a9 bc cp, .row 9 1 cg cf ci dr, .row 3 1 bS bQ bT da, .row 3 1 bV bU bW db, .any (mapE (fun a : List UInt8 => Value.string (gstr a)) (fun a : Int => Value.int .i64 a) cR q.number)] ++ A) w' dr q.words ∧ Els (Rp.int .i64) (bl [.blk b_q (.cells #[.int .i64 q.Enum.Points, .bool q.Enum.Monoid, .slice bj bi bk, .slice aZ aY a5, .slice aM aL aN, .slice bn bm bo, .slice a7 a6 a8, .slice ba a9 bc, .int .i64 q.Enum.Done, .map (some cR), .slice cg cf ci, .slice bS bQ bT, .slice bV bU bW] 72 (0, 0)), .row 26 1 bj bi bk cq, .row 26 1 aZ aY a5 cl, .row 3 1 aM aL aN cb, .row 3 1 bn bm bo cr, .row 26 1 a7 a6 a8 co, .row 39 2 ba a9 bc cp, .row 9 1 cg cf ci dr, .row 3 1 bS bQ bT da, .row 3 1 bV bU bW db, .any (mapE (fun a : List UInt8 => Value.string (gstr a)) (fun a : Int => Value.int .i64 a) cR q.number)] ++ A) w' da q.behind ∧ Els (Rp.int .i64) (bl [.blk b_q (.cells #[.int .i64 q.Enum.Points, .bool q.Enum.Monoid, .slice bj bi bk, .slice aZ aY a5, .slice aM aL aN, .slice bn bm bo, .slice a7 a6 a8, .slice ba a9 bc, .int .i64 q.Enum.Done, .map (some cR), .slice cg cf ci, .slice bS bQ bT, .slice bV bU bW] 72 (0, 0)), .row 26 1 bj bi bk cq, .row 26 1 aZ aY a5 cl, .row 3 1 aM aL aN cb, .row 3 1 bn bm bo cr, .row 26 1 a7 a6 a8 co, .row 39 2 ba a9 bc cp, .row 9 1 cg cf ci dr, .row 3 1 bS bQ bT da, .row 3 1 bV bU bW db, .any (mapE (fun a : List UInt8 => Value.string (gstr a)) (fun a : Int => Value.int .i64 a) cR q.number)] ++ A) w' db q.single ∧ K (some q) r1)) := by
 refine CallsV.of (l := [.slice sw a0.length sx, .bool a1]) Try.func49 rfl Try.ntmps49 rfl ?_
 have hO := Owns.start hA
 have hB := Fr.refl (bl []) w0
 unfold enumerate_begin at H
 replace b7 := b7.ch (Ch.start A w0)
 refine Go1.seq ?_
 refine Go1.region ?_
 refine GoR.op ((op_assign rfl) _) rfl rfl ?_
 refine GoR.op ((op_assign rfl) _) rfl rfl ?_
 refine GoR.nil ?_
 refine Go1.seq ?_
 refine Go1.seq ?_
 refine Go1.region ?_
 refine GoR.op ((op_move rfl) _) rfl rfl ?_
 refine GoR.op ((op_len Try.underlying22 rfl) _) rfl rfl ?_
 replace H := H b7.bd
 by_cases h1 : (a0.length : Int) = (0 : Int)
 ·replace H := ifp h1 H
  refine GoR.op ((fun w => opB (op_eql rfl rfl w) (decide_eq_true h1)) _) rfl rfl ?_
  refine GoR.op ((op_move rfl) _) rfl rfl ?_
  refine GoR.pass rfl rfl ?_
  refine GoR.pass rfl rfl ?_
  refine GoR.pass rfl rfl ?_
  refine GoR.op ((op_pickT rfl rfl rfl) _) rfl rfl ?_
  refine GoR.nil ?_
  refine Go1.condT rfl rfl ?_
  refine Go1.seq ?_
  refine Go1.region ?_
  refine GoR.op ((op_assign rfl) _) rfl rfl ?_
  refine GoR.op ((op_assign rfl) _) rfl rfl ?_
  refine GoR.nil ?_
  refine Go1.ret2 Try.func49 rfl ?_
  exact Or.inl ⟨((1 : Int)), rfl, hB.same, H⟩
 replace H := ifn h1 H
 refine GoR.op ((fun w => opB (op_eql rfl rfl w) (decide_eq_false h1)) _) rfl rfl ?_
 refine GoR.op ((op_move rfl) _) rfl rfl ?_
 refine GoR.op ((op_move rfl) _) rfl rfl ?_
 refine GoR.op ((op_len Try.underlying22 rfl) _) rfl rfl ?_
 by_cases h2 : (6 : Int) < (a0.length : Int)
 ·replace H := ifp h2 H
  refine GoR.op ((fun w => opB (op_gtr rfl rfl w) (decide_eq_true h2)) _) rfl rfl ?_
  refine GoR.op ((op_pickF rfl rfl rfl) _) rfl rfl ?_
  refine GoR.nil ?_
  refine Go1.condT rfl rfl ?_
  refine Go1.seq ?_
  refine Go1.region ?_
  refine GoR.op ((op_assign rfl) _) rfl rfl ?_
  refine GoR.op ((op_assign rfl) _) rfl rfl ?_
  refine GoR.nil ?_
  refine Go1.ret2 Try.func49 rfl ?_
  exact Or.inl ⟨((1 : Int)), rfl, hB.same, H⟩
 replace H := ifn h2 H
 refine GoR.op ((fun w => opB (op_gtr rfl rfl w) (decide_eq_false h2)) _) rfl rfl ?_
 refine GoR.op ((op_pickF rfl rfl rfl) _) rfl rfl ?_
 refine GoR.nil ?_
 refine Go1.condF rfl rfl ?_
 refine Go1.skip ?_
 refine Go1.seq ?_
 refine Go1.cut [(0, .slice sw a0.length sx), (1, .bool a1)] ⟨rfl, rfl, trivial⟩ ?_
 intro σ _
 refine Go1.region ?_
 have hobt := omakeMap (fun a : List UInt8 => Value.string (gstr a)) (fun a : Int => Value.int .i64 a) hO
 obtain ⟨w3, B4, zP, hs6, xT⟩ := hobt
 refine GoR.op xT rfl rfl ?_
 replace hO := zP.own
 replace b7 := b7.ch zP.ch
 replace hB := hB.trans zP.fr
 refine GoR.op ((op_build Try.underlying72 ti72 (pl := [(0, 9), (9, 1), (10, 1), (11, 1), (12, 1)]) (vs := [(1, .map (some B4))]) (cs := #[.int .i64 (0 : Int), .bool false, .slice none 0 0, .slice none 0 0, .slice none 0 0, .slice none 0 0, .slice none 0 0, .slice none 0 0, .int .i64 (0 : Int), .map (some B4), .slice none 0 0, .slice none 0 0, .slice none 0 0]) (by kernel_rfl) rfl (by kernel_rfl)) _) rfl rfl ?_
 have hobt := obox (t := 72) (v := .agg #[.int .i64 (0 : Int), .bool false, .slice none 0 0, .slice none 0 0, .slice none 0 0, .slice none 0 0, .slice none 0 0, .slice none 0 0, .int .i64 (0 : Int), .map (some B4), .slice none 0 0, .slice none 0 0, .slice none 0 0]) (cs := #[.int .i64 (0 : Int), .bool false, .slice none 0 0, .slice none 0 0, .slice none 0 0, .slice none 0 0, .slice none 0 0, .slice none 0 0, .int .i64 (0 : Int), .map (some B4), .slice none 0 0, .slice none 0 0, .slice none 0 0]) hO rfl
 obtain ⟨w9, B10, yB, xU, yC⟩ := hobt
 refine GoR.op (yC rfl) rfl rfl ?_
 replace hO := yB.own
 replace b7 := b7.ch yB.ch
 replace hB := hB.trans yB.fr
 refine GoR.op ((op_assign rfl) _) rfl rfl ?_
 refine GoR.nil ?_
 refine Go1.seq ?_
 refine Go1.region ?_
 refine GoR.op ((op_move rfl) _) rfl rfl ?_
 refine GoR.op ((op_move rfl) _) rfl rfl ?_
 refine GoR.op ((op_move rfl) _) rfl rfl ?_
 obtain ⟨h15, H⟩ := H
 obtain ⟨h16, H⟩ := H
 refine GoR.op ((op_index Try.underlying22 ti26 rfl rfl h15 h16 (b7.some_ h15 h16)) _) rfl rfl ?_
 have hobt := ldSl b7 h15 h16
 obtain ⟨p17, c18, vX, Hl⟩ := hobt
 refine GoR.op ((Hl Try.underlying26 rfl rfl) _ (Same.refl _)) rfl rfl ?_
 refine GoR.op ((op_len Try.underlying26 rfl) _) rfl rfl ?_
 replace H := H vX.bd
 refine GoR.op ((op_move rfl) _) rfl rfl ?_
 refine GoR.op ((op_nilCheck rfl) _) rfl rfl ?_
 refine GoR.op ((op_fieldAddr Try.underlying72 rfl ti29 rfl (by decide)) _) rfl rfl ?_
 refine GoR.op ((op_fieldAddr Try.underlying29 rfl ti3 rfl (by decide)) _) rfl rfl ?_
 have hobt := oblkSt2 (v := .int .i64 ((ix a0 (0 : Int)).length : Int)) (i := 0) (cs' := #[.int .i64 ((ix a0 (0 : Int)).length : Int), .bool false, .slice none 0 0, .slice none 0 0, .slice none 0 0, .slice none 0 0, .slice none 0 0, .slice none 0 0, .int .i64 (0 : Int), .map (some B4), .slice none 0 0, .slice none 0 0, .slice none 0 0]) 0 hO rfl rfl rfl rfl
 obtain ⟨w21, mB, Dw⟩ := hobt
 refine GoR.op (Dw Try.underlying3 rfl ti3 (by exact rfl) (by exact rfl)) rfl rfl ?_
 replace hO := mB.own
 replace b7 := b7.ch mB.ch
 replace vX := vX.ch mB.ch
 replace hB := hB.trans mB.fr
 refine GoR.op ((op_nilCheck rfl) _) rfl rfl ?_
 refine GoR.op ((op_fieldAddr Try.underlying72 rfl ti29 rfl (by decide)) _) rfl rfl ?_
 refine GoR.op ((op_fieldAddr Try.underlying29 rfl ti4 rfl (by decide)) _) rfl rfl ?_
 have hobt := oblkSt2 (v := .bool a1) (i := 1) (cs' := #[.int .i64 ((ix a0 (0 : Int)).length : Int), .bool a1, .slice none 0 0, .slice none 0 0, .slice none 0 0, .slice none 0 0, .slice none 0 0, .slice none 0 0, .int .i64 (0 : Int), .map (some B4), .slice none 0 0, .slice none 0 0, .slice none 0 0]) 0 hO rfl rfl rfl rfl
 obtain ⟨w24, tP, yD⟩ := hobt
 refine GoR.op (yD Try.underlying4 rfl ti4 (by exact rfl) (by exact rfl)) rfl rfl ?_
 replace hO := tP.own
 replace b7 := b7.ch tP.ch
 replace vX := vX.ch tP.ch
 replace hB := hB.trans tP.fr
 refine GoR.nil ?_
 refine Go1.seq ?_
 refine Go1.seq ?_
 refine Go1.cut [(0, .slice sw a0.length sx), (1, .bool a1), (6, .pointer (some ⟨B10, 0, none⟩))] ⟨rfl, rfl, rfl, trivial⟩ ?_
 intro σ _
 refine Go1.region ?_
 refine GoR.op ((op_move rfl) _) rfl rfl ?_
 refine GoR.op ((op_len Try.underlying22 rfl) _) rfl rfl ?_
 refine GoR.op ((op_move rfl) _) rfl rfl ?_
 refine GoR.nil ?_
 refine Go1.block ?_
 have qA := Stp.nil (e := 26) (r := 1) hO
 replace hO := qA.own
 replace b7 := b7.ch qA.ch
 replace vX := vX.ch qA.ch
 replace hB := hB.trans qA.fr
 have Hm := Els.nil (Rp.sl (Rp.int .i64)) (bl (.row 26 1 none 0 0 [] :: [.blk B10 (.cells #[.int .i64 ((ix a0 (0 : Int)).length : Int), .bool a1, .slice none 0 0, .slice none 0 0, .slice none 0 0, .slice none 0 0, .slice none 0 0, .slice none 0 0, .int .i64 (0 : Int), .map (some B4), .slice none 0 0, .slice none 0 0, .slice none 0 0] 72 (0, 0)), .any (mapE (fun a : List UInt8 => Value.string (gstr a)) (fun a : Int => Value.int .i64 a) B4 (([] : List (Str × Int))))]) ++ A) w24
 refine Go1.loopW (S := Nat × List (List Int)) (fun s σ w => match s with | (k1_31, d_32) => ∃ (n37 : Nat), ∃ (p35 : Option Addr), ∃ (c36 : Nat), ∃ (fM : List Value), agrees σ [(1, .bool a1), (6, .pointer (some ⟨B10, 0, none⟩)), (39, .slice sw a0.length sx), (40, .int .i64 (a0.length : Int)), (41, .int .i64 (k1_31 : Int))] ∧ Owns w0.heap.size w [.row 26 1 p35 n37 c36 fM, .blk B10 (.cells #[.int .i64 ((ix a0 (0 : Int)).length : Int), .bool a1, .slice p35 n37 c36, .slice none 0 0, .slice none 0 0, .slice none 0 0, .slice none 0 0, .slice none 0 0, .int .i64 (0 : Int), .map (some B4), .slice none 0 0, .slice none 0 0, .slice none 0 0] 72 (0, 0)), .any (mapE (fun a : List UInt8 => Value.string (gstr a)) (fun a : Int => Value.int .i64 a) B4 (([] : List (Str × Int))))] A ∧ Els (Rp.sl (Rp.int .i64)) (bl [.row 26 1 p35 n37 c36 fM, .blk B10 (.cells #[.int .i64 ((ix a0 (0 : Int)).length : Int), .bool a1, .slice p35 n37 c36, .slice none 0 0, .slice none 0 0, .slice none 0 0, .slice none 0 0, .slice none 0 0, .int .i64 (0 : Int), .map (some B4), .slice none 0 0, .slice none 0 0, .slice none 0 0] 72 (0, 0)), .any (mapE (fun a : List UInt8 => Value.string (gstr a)) (fun a : Int => Value.int .i64 a) B4 (([] : List (Str × Int))))] ++ A) w fM d_32 ∧ ISl (Rp.sl (Rp.int .i64)) (bl [.row 26 1 p35 n37 c36 fM, .blk B10 (.cells #[.int .i64 ((ix a0 (0 : Int)).length : Int), .bool a1, .slice p35 n37 c36, .slice none 0 0, .slice none 0 0, .slice none 0 0, .slice none 0 0, .slice none 0 0, .int .i64 (0 : Int), .map (some B4), .slice none 0 0, .slice none 0 0, .slice none 0 0] 72 (0, 0)), .any (mapE (fun a : List UInt8 => Value.string (gstr a)) (fun a : Int => Value.int .i64 a) B4 (([] : List (Str × Int))))] ++ A) w sw sx a0 ∧ Fr (bl []) w0 (bl [.row 26 1 p35 n37 c36 fM, .blk B10 (.cells #[.int .i64 ((ix a0 (0 : Int)).length : Int), .bool a1, .slice p35 n37 c36, .slice none 0 0, .slice none 0 0, .slice none 0 0, .slice none 0 0, .slice none 0 0, .int .i64 (0 : Int), .map (some B4), .slice none 0 0, .slice none 0 0, .slice none 0 0] 72 (0, 0)), .any (mapE (fun a : List UInt8 => Value.string (gstr a)) (fun a : Int => Value.int .i64 a) B4 (([] : List (Str × Int))))]) w) H ⟨0, none, 0, [], ⟨rfl, rfl, rfl, rfl, rfl, trivial⟩, hO, Hm, b7, hB⟩ ?_
 intro X1
 refine prE fun k1_31 => fun d_32 => ?_
 intro H hX1 σ w30
 refine exE fun n37 => exE fun p35 => exE fun c36 => exE fun fM => andE fun hag => andE fun hO => andE fun aj => andE fun b7 => fun hB => ?_
 dsimp only at H
 refine Go1.keep [(1, .bool a1), (6, .pointer (some ⟨B10, 0, none⟩)), (39, .slice sw a0.length sx), (40, .int .i64 (a0.length : Int)), (41, .int .i64 (k1_31 : Int))] hag ?_
 refine Go1.seq ?_
 refine Go1.region ?_
 by_cases h38 : (k1_31 : Int) < (a0.length : Int)
 ·replace H := ifp h38 H
  refine GoR.op ((fun w => opB (op_lss rfl rfl w) (decide_eq_true h38)) _) rfl rfl ?_
  refine GoR.nil ?_
  refine Go1.seq ?_
  refine Go1.condT rfl rfl ?_
  refine Go1.skip ?_
  refine Go1.seq ?_
  refine Go1.block ?_
  refine Go1.seq ?_
  refine Go1.region ?_
  obtain ⟨h39, H⟩ := H
  obtain ⟨h40, H⟩ := H
  refine GoR.op ((op_index Try.underlying22 ti26 rfl rfl h39 h40 (b7.some_ h39 h40)) _) rfl rfl ?_
  have hobt := ldSl b7 h39 h40
  obtain ⟨p41, c42, oS, Hn⟩ := hobt
  refine GoR.op ((Hn Try.underlying26 rfl rfl) _ (Same.refl _)) rfl rfl ?_
  refine GoR.op ((op_assign rfl) _) rfl rfl ?_
  refine GoR.nil ?_
  refine Go1.seq ?_
  refine Go1.seq ?_
  refine Go1.region ?_
  refine GoR.op ((op_move rfl) _) rfl rfl ?_
  refine GoR.op ((op_len Try.underlying26 rfl) _) rfl rfl ?_
  replace H := H oS.bd
  refine GoR.op ((op_move rfl) _) rfl rfl ?_
  refine GoR.op ((op_nilCheck rfl) _) rfl rfl ?_
  refine GoR.op ((op_fieldAddr Try.underlying72 rfl ti29 rfl (by decide)) _) rfl rfl ?_
  refine GoR.op ((op_fieldAddr Try.underlying29 rfl ti3 rfl (by decide)) _) rfl rfl ?_
  refine GoR.op ((oblk (i := 0) 1 hO rfl rfl Try.underlying3 rfl rfl) _ (Same.refl _)) rfl rfl ?_
  by_cases h45 : ((ix a0 (k1_31 : Int)).length : Int) = ((ix a0 (0 : Int)).length : Int)
  ·replace H := ifp h45 H
   refine GoR.op ((fun w => opB (op_neq rfl rfl w) (ndT h45)) _) rfl rfl ?_
   refine GoR.op ((op_move rfl) _) rfl rfl ?_
   refine GoR.op ((op_move rfl) _) rfl rfl ?_
   refine GoR.call (op_call body60 rfl (walk_trans_Valid hO.lt oS H)) rfl rfl ?_
   rintro v50 w47 ⟨r46, rfl, Ho, H⟩
   have wA := Stp.same hO Ho
   replace aj := aj.ch wA.ch
   replace hO := wA.own
   replace b7 := b7.ch wA.ch
   replace oS := oS.ch wA.ch
   replace hB := hB.trans wA.fr
   cases r46
   ·replace H := ifn Bool.false_ne_true H
    refine GoR.op ((op_not rfl) _) rfl rfl ?_
    refine GoR.op ((op_pickF rfl rfl rfl) _) rfl rfl ?_
    refine GoR.nil ?_
    refine Go1.condT rfl rfl ?_
    refine Go1.seq ?_
    refine Go1.region ?_
    refine GoR.op ((op_assign rfl) _) rfl rfl ?_
    refine GoR.op ((op_assign rfl) _) rfl rfl ?_
    refine GoR.nil ?_
    refine Go1.ret2 Try.func49 rfl ?_
    exact Or.inl ⟨((4 : Int)), rfl, hB.same, H⟩
   replace H := ifp rfl H
   refine GoR.op ((op_not rfl) _) rfl rfl ?_
   refine GoR.op ((op_pickF rfl rfl rfl) _) rfl rfl ?_
   refine GoR.nil ?_
   refine Go1.condF rfl rfl ?_
   refine Go1.skip ?_
   refine Go1.cut [(1, .bool a1), (6, .pointer (some ⟨B10, 0, none⟩)), (8, .slice p41 ((ix a0 (k1_31 : Int)).length) c42), (39, .slice sw a0.length sx), (40, .int .i64 (a0.length : Int)), (41, .int .i64 (k1_31 : Int))] ⟨rfl, rfl, rfl, rfl, rfl, rfl, trivial⟩ ?_
   intro σ _
   refine Go1.drawS 1 [(0, .pure), (1, .pure), (2, .pure), (3, .pure), (4, .pure), (5, .stable), (6, .pure), (7, .loud), (8, .loud), (9, .last), (10, .pure), (11, .pure), (12, .pure), (13, .last)] mixed (by kernel_rfl) ?_
   intro w52 Hp
   have oT := Stp.same hO Hp
   replace aj := aj.ch oT.ch
   replace hO := oT.own
   replace b7 := b7.ch oT.ch
   replace oS := oS.ch oT.ch
   replace hB := hB.trans oT.fr
   refine GoQ.pure rfl (op_move rfl) rfl rfl ?_
   refine GoQ.pure rfl (op_move rfl) rfl rfl ?_
   refine GoQ.pure rfl (op_nilCheck rfl) rfl rfl ?_
   refine GoQ.pure rfl (op_fieldAddr Try.underlying72 rfl ti29 rfl (by decide)) rfl rfl ?_
   refine GoQ.pure rfl (op_fieldAddr Try.underlying29 rfl ti22 rfl (by decide)) rfl rfl ?_
   refine GoQ.stable rfl (oblk (i := 2) 1 hO rfl rfl Try.underlying22 rfl rfl) rfl rfl ?_
   refine GoQ.pure rfl (op_move rfl) rfl rfl ?_
   refine GoQ.call rfl (op_call body64 rfl (walk_slices_Clone_int hO.lt oS H)) (fun v w hr => by obtain ⟨_, _, _, _, _, _, hs, _, _, _⟩ := hr; assumption) rfl rfl ?_
   rintro v60 w57 ⟨r55, AQ, xI, xJ, Je, rfl, Hq, hN59, zQ, H⟩
   have wB := Stp.more hO Hq hN59
   replace aj := aj.ch wB.ch
   replace hO := wB.own
   replace b7 := b7.ch wB.ch
   replace oS := oS.ch wB.ch
   replace hB := hB.trans wB.fr
   replace zQ := zQ.ch (Ch.assoc _ _ _ _)
   have hobt := freeze 0 hO rfl zQ
   obtain ⟨hO1, zR, uD, Hr⟩ := hobt
   replace b7 := b7.ch zR
   replace oS := oS.ch zR
   replace aj := aj.ch zR
   replace hB := hB.trans (Owns.dropFr _ _ 0)
   replace hO := hO1; clear hO1
   have hobt := obuild (r := Rp.sl (Rp.int .i64)) (n := 1) (parts := [(0, .slice xI AQ xJ)]) (vs := [.slice xI AQ xJ]) (xs := [r55]) rfl Try.underlying22 ti26 hO (by decide) (by kernel_rfl) (Els.cons rfl ⟨xI, xJ, congrArg some (congrArg (fun nn => Value.slice xI nn xJ) Hr), uD⟩ (Els.nil _ _ _) (by simp [mx])) rfl
   obtain ⟨w66, p67, vl, rq, Hs, Dx⟩ := hobt
   refine GoQ.loud rfl (Dx rfl) Hs rfl rfl ?_
   replace aj := aj.ch vl.ch
   replace hO := vl.own
   replace b7 := b7.ch vl.ch
   replace oS := oS.ch vl.ch
   replace uD := uD.ch vl.ch
   replace hB := hB.trans vl.fr
   have hobt := freeze 0 hO rfl rq
   obtain ⟨hO1, yE, xV, Ht⟩ := hobt
   replace b7 := b7.ch yE
   replace oS := oS.ch yE
   replace uD := uD.ch yE
   replace aj := aj.ch yE
   replace hB := hB.trans (Owns.dropFr _ _ 0)
   replace hO := hO1; clear hO1
   obtain ⟨h76, H⟩ := H
   have hobt := oapp Try.underlying22 ti26 rfl 0 hO rfl aj xV Ht h76 (by decide)
   obtain ⟨w77, p78, c79, oo, oU, zS, Dy⟩ := hobt
   refine GoQ.last rfl (Dy (by exact rfl) (by exact rfl)) rfl rfl ?_
   replace hO := oU.own
   replace b7 := b7.ch oU.ch
   replace oS := oS.ch oU.ch
   replace uD := uD.ch oU.ch
   replace xV := xV.ch oU.ch
   replace hB := hB.trans oU.fr
   refine GoQ.pure rfl (op_nilCheck rfl) rfl rfl ?_
   refine GoQ.pure rfl (op_fieldAddr Try.underlying72 rfl ti29 rfl (by decide)) rfl rfl ?_
   refine GoQ.pure rfl (op_fieldAddr Try.underlying29 rfl ti22 rfl (by decide)) rfl rfl ?_
   have hobt := oblkSt2 (v := .slice p78 (n37 + 1) c79) (i := 2) (cs' := #[.int .i64 ((ix a0 (0 : Int)).length : Int), .bool a1, .slice p78 (n37 + 1) c79, .slice none 0 0, .slice none 0 0, .slice none 0 0, .slice none 0 0, .slice none 0 0, .int .i64 (0 : Int), .map (some B4), .slice none 0 0, .slice none 0 0, .slice none 0 0]) 1 hO rfl rfl rfl rfl
   obtain ⟨w85, uE, Dz⟩ := hobt
   refine GoQ.last rfl (Dz Try.underlying22 rfl ti22 (by exact rfl) (by exact rfl)) rfl rfl ?_
   replace zS := zS.ch uE.ch
   replace hO := uE.own
   replace b7 := b7.ch uE.ch
   replace oS := oS.ch uE.ch
   replace uD := uD.ch uE.ch
   replace xV := xV.ch uE.ch
   replace hB := hB.trans uE.fr
   refine GoQ.nil ?_
   refine Go1.inBlock ?_
   refine Go1.region ?_
   refine GoR.op ((op_add rfl rfl (wrap_i64 (natbd h38 b7.bd))) _) rfl rfl ?_
   refine GoR.op ((op_move rfl) _) rfl rfl ?_
   refine GoR.nil ?_
   exact hX1 _ H _ _ ⟨n37 + 1, p78, c79, oo, ⟨rfl, rfl, rfl, rfl, rfl, trivial⟩, hO, zS, b7, hB⟩
  replace H := ifn h45 H
  refine GoR.op ((fun w => opB (op_neq rfl rfl w) (ndF h45)) _) rfl rfl ?_
  refine GoR.op ((op_move rfl) _) rfl rfl ?_
  refine GoR.pass rfl rfl ?_
  refine GoR.pass rfl rfl ?_
  refine GoR.pass rfl rfl ?_
  refine GoR.op ((op_pickT rfl rfl rfl) _) rfl rfl ?_
  refine GoR.nil ?_
  refine Go1.condT rfl rfl ?_
  refine Go1.seq ?_
  refine Go1.cut [] trivial ?_
  intro σ _
  refine Go1.region ?_
  refine GoR.op ((op_assign rfl) _) rfl rfl ?_
  refine GoR.op ((op_assign rfl) _) rfl rfl ?_
  refine GoR.nil ?_
  refine Go1.ret2 Try.func49 rfl ?_
  exact Or.inl ⟨((4 : Int)), rfl, hB.same, H⟩
 replace H := ifn h38 H
 refine GoR.op ((fun w => opB (op_lss rfl rfl w) (decide_eq_false h38)) _) rfl rfl ?_
 refine GoR.nil ?_
 refine Go1.seq ?_
 refine Go1.condF rfl rfl ?_
 refine Go1.exit rfl ?_
 refine Go1.seq ?_
 refine Go1.region ?_
 refine GoR.op ((op_assign rfl) _) rfl rfl ?_
 refine GoR.nil ?_
 refine Go1.seq ?_
 refine Go1.seq ?_
 refine Go1.region ?_
 refine GoR.op ((op_move rfl) _) rfl rfl ?_
 refine GoR.nil ?_
 cases a1
 ·replace H := ifn Bool.false_ne_true H
  refine Go1.condF rfl rfl ?_
  refine Go1.skip ?_
  refine Go1.seq ?_
  refine Go1.seq ?_
  refine Go1.region ?_
  refine GoR.op ((op_move rfl) _) rfl rfl ?_
  refine GoR.op ((op_nilCheck rfl) _) rfl rfl ?_
  refine GoR.op ((op_fieldAddr Try.underlying72 rfl ti29 rfl (by decide)) _) rfl rfl ?_
  refine GoR.op ((op_fieldAddr Try.underlying29 rfl ti22 rfl (by decide)) _) rfl rfl ?_
  refine GoR.op ((oblk (i := 2) 1 hO rfl rfl Try.underlying22 rfl rfl) _ (Same.refl _)) rfl rfl ?_
  refine GoR.op ((op_lenN Try.underlying22 rfl (aj.neq hO 0 rfl)) _) rfl rfl ?_
  refine GoR.op ((op_move rfl) _) rfl rfl ?_
  refine GoR.nil ?_
  refine Go1.block ?_
  have xK := Stp.nil (e := 26) (r := 1) hO
  replace aj := aj.ch xK.ch
  replace hO := xK.own
  replace b7 := b7.ch xK.ch
  replace hB := hB.trans xK.fr
  have dI := Els.nil (Rp.sl (Rp.int .i64)) (bl (.row 26 1 none 0 0 [] :: [.row 26 1 p35 n37 c36 fM, .blk B10 (.cells #[.int .i64 ((ix a0 (0 : Int)).length : Int), .bool false, .slice p35 n37 c36, .slice none 0 0, .slice none 0 0, .slice none 0 0, .slice none 0 0, .slice none 0 0, .int .i64 (0 : Int), .map (some B4), .slice none 0 0, .slice none 0 0, .slice none 0 0] 72 (0, 0)), .any (mapE (fun a : List UInt8 => Value.string (gstr a)) (fun a : Int => Value.int .i64 a) B4 (([] : List (Str × Int))))]) ++ A) w30
  have wC := Stp.nil (e := 3) (r := 1) hO
  replace dI := dI.ch wC.ch
  replace aj := aj.ch wC.ch
  replace hO := wC.own
  replace b7 := b7.ch wC.ch
  replace hB := hB.trans wC.fr
  have ku := Els.nil (Rp.int .i64) (bl (.row 3 1 none 0 0 [] :: [.row 26 1 none 0 0 [], .row 26 1 p35 n37 c36 fM, .blk B10 (.cells #[.int .i64 ((ix a0 (0 : Int)).length : Int), .bool false, .slice p35 n37 c36, .slice none 0 0, .slice none 0 0, .slice none 0 0, .slice none 0 0, .slice none 0 0, .int .i64 (0 : Int), .map (some B4), .slice none 0 0, .slice none 0 0, .slice none 0 0] 72 (0, 0)), .any (mapE (fun a : List UInt8 => Value.string (gstr a)) (fun a : Int => Value.int .i64 a) B4 (([] : List (Str × Int))))]) ++ A) w30
  have vm := Stp.nil (e := 3) (r := 1) hO
  replace ku := ku.ch vm.ch
  replace dI := dI.ch vm.ch
  replace aj := aj.ch vm.ch
  replace hO := vm.own
  replace b7 := b7.ch vm.ch
  replace hB := hB.trans vm.fr
  have uF := Els.nil (Rp.int .i64) (bl (.row 3 1 none 0 0 [] :: [.row 3 1 none 0 0 [], .row 26 1 none 0 0 [], .row 26 1 p35 n37 c36 fM, .blk B10 (.cells #[.int .i64 ((ix a0 (0 : Int)).length : Int), .bool false, .slice p35 n37 c36, .slice none 0 0, .slice none 0 0, .slice none 0 0, .slice none 0 0, .slice none 0 0, .int .i64 (0 : Int), .map (some B4), .slice none 0 0, .slice none 0 0, .slice none 0 0] 72 (0, 0)), .any (mapE (fun a : List UInt8 => Value.string (gstr a)) (fun a : Int => Value.int .i64 a) B4 (([] : List (Str × Int))))]) ++ A) w30
  have uG := Stp.nil (e := 39) (r := 2) hO
  replace uF := uF.ch uG.ch
  replace ku := ku.ch uG.ch
  replace dI := dI.ch uG.ch
  replace aj := aj.ch uG.ch
  replace hO := uG.own
  replace b7 := b7.ch uG.ch
  replace hB := hB.trans uG.fr
  have vY := Els.nil (rpRule) (bl (.row 39 2 none 0 0 [] :: [.row 3 1 none 0 0 [], .row 3 1 none 0 0 [], .row 26 1 none 0 0 [], .row 26 1 p35 n37 c36 fM, .blk B10 (.cells #[.int .i64 ((ix a0 (0 : Int)).length : Int), .bool false, .slice p35 n37 c36, .slice none 0 0, .slice none 0 0, .slice none 0 0, .slice none 0 0, .slice none 0 0, .int .i64 (0 : Int), .map (some B4), .slice none 0 0, .slice none 0 0, .slice none 0 0] 72 (0, 0)), .any (mapE (fun a : List UInt8 => Value.string (gstr a)) (fun a : Int => Value.int .i64 a) B4 (([] : List (Str × Int))))]) ++ A) w30
  have j8 := Stp.nil (e := 9) (r := 1) hO
  replace vY := vY.ch j8.ch
  replace uF := uF.ch j8.ch
  replace ku := ku.ch j8.ch
  replace dI := dI.ch j8.ch
  replace aj := aj.ch j8.ch
  replace hO := j8.own
  replace b7 := b7.ch j8.ch
  replace hB := hB.trans j8.fr
  have wD := Els.nil (Rp.str) (bl (.row 9 1 none 0 0 [] :: [.row 39 2 none 0 0 [], .row 3 1 none 0 0 [], .row 3 1 none 0 0 [], .row 26 1 none 0 0 [], .row 26 1 p35 n37 c36 fM, .blk B10 (.cells #[.int .i64 ((ix a0 (0 : Int)).length : Int), .bool false, .slice p35 n37 c36, .slice none 0 0, .slice none 0 0, .slice none 0 0, .slice none 0 0, .slice none 0 0, .int .i64 (0 : Int), .map (some B4), .slice none 0 0, .slice none 0 0, .slice none 0 0] 72 (0, 0)), .any (mapE (fun a : List UInt8 => Value.string (gstr a)) (fun a : Int => Value.int .i64 a) B4 (([] : List (Str × Int))))]) ++ A) w30
  have jl := Stp.nil (e := 3) (r := 1) hO
  replace wD := wD.ch jl.ch
  replace vY := vY.ch jl.ch
  replace uF := uF.ch jl.ch
  replace ku := ku.ch jl.ch
  replace dI := dI.ch jl.ch
  replace aj := aj.ch jl.ch
  replace hO := jl.own
  replace b7 := b7.ch jl.ch
  replace hB := hB.trans jl.fr
  have yF := Els.nil (Rp.int .i64) (bl (.row 3 1 none 0 0 [] :: [.row 9 1 none 0 0 [], .row 39 2 none 0 0 [], .row 3 1 none 0 0 [], .row 3 1 none 0 0 [], .row 26 1 none 0 0 [], .row 26 1 p35 n37 c36 fM, .blk B10 (.cells #[.int .i64 ((ix a0 (0 : Int)).length : Int), .bool false, .slice p35 n37 c36, .slice none 0 0, .slice none 0 0, .slice none 0 0, .slice none 0 0, .slice none 0 0, .int .i64 (0 : Int), .map (some B4), .slice none 0 0, .slice none 0 0, .slice none 0 0] 72 (0, 0)), .any (mapE (fun a : List UInt8 => Value.string (gstr a)) (fun a : Int => Value.int .i64 a) B4 (([] : List (Str × Int))))]) ++ A) w30
  have rE := Stp.nil (e := 3) (r := 1) hO
  replace yF := yF.ch rE.ch
  replace wD := wD.ch rE.ch
  replace vY := vY.ch rE.ch
  replace uF := uF.ch rE.ch
  replace ku := ku.ch rE.ch
  replace dI := dI.ch rE.ch
  replace aj := aj.ch rE.ch
  replace hO := rE.own
  replace b7 := b7.ch rE.ch
  replace hB := hB.trans rE.fr
  have DA := Els.nil (Rp.int .i64) (bl (.row 3 1 none 0 0 [] :: [.row 3 1 none 0 0 [], .row 9 1 none 0 0 [], .row 39 2 none 0 0 [], .row 3 1 none 0 0 [], .row 3 1 none 0 0 [], .row 26 1 none 0 0 [], .row 26 1 p35 n37 c36 fM, .blk B10 (.cells #[.int .i64 ((ix a0 (0 : Int)).length : Int), .bool false, .slice p35 n37 c36, .slice none 0 0, .slice none 0 0, .slice none 0 0, .slice none 0 0, .slice none 0 0, .int .i64 (0 : Int), .map (some B4), .slice none 0 0, .slice none 0 0, .slice none 0 0] 72 (0, 0)), .any (mapE (fun a : List UInt8 => Value.string (gstr a)) (fun a : Int => Value.int .i64 a) B4 (([] : List (Str × Int))))]) ++ A) w30
  refine Go1.loopW (S := Nat × List Int × List Int × List Str × List Rule × List Int × List Int × List (List Int) × (List (Str × Int))) (fun s σ w => match s with | (k2_110, d_111, d_117, d_123, d_129, d_135, d_141, d_147, m2_153) => ∃ (iU : Nat), ∃ (kl : Option Addr), ∃ (km : Nat), ∃ (qB : List Value), ∃ (i4 : Nat), ∃ (jq : Option Addr), ∃ (jR : Nat), ∃ (oV : List Value), ∃ (i5 : Nat), ∃ (kn : Option Addr), ∃ (ko : Nat), ∃ (oW : List Value), ∃ (i6 : Nat), ∃ (jS : Option Addr), ∃ (jT : Nat), ∃ (oX : List Value), ∃ (i7 : Nat), ∃ (kw : Option Addr), ∃ (kx : Nat), ∃ (oY : List Value), ∃ (i8 : Nat), ∃ (kZ : Option Addr), ∃ (k8 : Nat), ∃ (oZ : List Value), ∃ (i9 : Nat), ∃ (lF : Option Addr), ∃ (lG : Nat), ∃ (o0 : List Value), agrees σ [(6, .pointer (some ⟨B10, 0, none⟩)), (9, .int .i64 (-1 : Int)), (85, .slice p35 n37 c36), (86, .int .i64 (d_32.length : Int)), (87, .int .i64 (k2_110 : Int))] ∧ Owns w0.heap.size w [.row 3 1 kl iU km qB, .row 3 1 jq i4 jR oV, .row 9 1 kn i5 ko oW, .row 39 2 jS i6 jT oX, .row 3 1 kw i7 kx oY, .row 3 1 kZ i8 k8 oZ, .row 26 1 lF i9 lG o0, .row 26 1 p35 n37 c36 fM, .blk B10 (.cells #[.int .i64 ((ix a0 (0 : Int)).length : Int), .bool false, .slice p35 n37 c36, .slice lF i9 lG, .slice kZ i8 k8, .slice kw i7 kx, .slice none 0 0, .slice jS i6 jT, .int .i64 (0 : Int), .map (some B4), .slice kn i5 ko, .slice jq i4 jR, .slice kl iU km] 72 (0, 0)), .any (mapE (fun a : List UInt8 => Value.string (gstr a)) (fun a : Int => Value.int .i64 a) B4 m2_153)] A ∧ Els (Rp.int .i64) (bl [.row 3 1 kl iU km qB, .row 3 1 jq i4 jR oV, .row 9 1 kn i5 ko oW, .row 39 2 jS i6 jT oX, .row 3 1 kw i7 kx oY, .row 3 1 kZ i8 k8 oZ, .row 26 1 lF i9 lG o0, .row 26 1 p35 n37 c36 fM, .blk B10 (.cells #[.int .i64 ((ix a0 (0 : Int)).length : Int), .bool false, .slice p35 n37 c36, .slice lF i9 lG, .slice kZ i8 k8, .slice kw i7 kx, .slice none 0 0, .slice jS i6 jT, .int .i64 (0 : Int), .map (some B4), .slice kn i5 ko, .slice jq i4 jR, .slice kl iU km] 72 (0, 0)), .any (mapE (fun a : List UInt8 => Value.string (gstr a)) (fun a : Int => Value.int .i64 a) B4 m2_153)] ++ A) w qB d_111 ∧ Els (Rp.int .i64) (bl [.row 3 1 kl iU km qB, .row 3 1 jq i4 jR oV, .row 9 1 kn i5 ko oW, .row 39 2 jS i6 jT oX, .row 3 1 kw i7 kx oY, .row 3 1 kZ i8 k8 oZ, .row 26 1 lF i9 lG o0, .row 26 1 p35 n37 c36 fM, .blk B10 (.cells #[.int .i64 ((ix a0 (0 : Int)).length : Int), .bool false, .slice p35 n37 c36, .slice lF i9 lG, .slice kZ i8 k8, .slice kw i7 kx, .slice none 0 0, .slice jS i6 jT, .int .i64 (0 : Int), .map (some B4), .slice kn i5 ko, .slice jq i4 jR, .slice kl iU km] 72 (0, 0)), .any (mapE (fun a : List UInt8 => Value.string (gstr a)) (fun a : Int => Value.int .i64 a) B4 m2_153)] ++ A) w oV d_117 ∧ Els (Rp.str) (bl [.row 3 1 kl iU km qB, .row 3 1 jq i4 jR oV, .row 9 1 kn i5 ko oW, .row 39 2 jS i6 jT oX, .row 3 1 kw i7 kx oY, .row 3 1 kZ i8 k8 oZ, .row 26 1 lF i9 lG o0, .row 26 1 p35 n37 c36 fM, .blk B10 (.cells #[.int .i64 ((ix a0 (0 : Int)).length : Int), .bool false, .slice p35 n37 c36, .slice lF i9 lG, .slice kZ i8 k8, .slice kw i7 kx, .slice none 0 0, .slice jS i6 jT, .int .i64 (0 : Int), .map (some B4), .slice kn i5 ko, .slice jq i4 jR, .slice kl iU km] 72 (0, 0)), .any (mapE (fun a : List UInt8 => Value.string (gstr a)) (fun a : Int => Value.int .i64 a) B4 m2_153)] ++ A) w oW d_123 ∧ Els (rpRule) (bl [.row 3 1 kl iU km qB, .row 3 1 jq i4 jR oV, .row 9 1 kn i5 ko oW, .row 39 2 jS i6 jT oX, .row 3 1 kw i7 kx oY, .row 3 1 kZ i8 k8 oZ, .row 26 1 lF i9 lG o0, .row 26 1 p35 n37 c36 fM, .blk B10 (.cells #[.int .i64 ((ix a0 (0 : Int)).length : Int), .bool false, .slice p35 n37 c36, .slice lF i9 lG, .slice kZ i8 k8, .slice kw i7 kx, .slice none 0 0, .slice jS i6 jT, .int .i64 (0 : Int), .map (some B4), .slice kn i5 ko, .slice jq i4 jR, .slice kl iU km] 72 (0, 0)), .any (mapE (fun a : List UInt8 => Value.string (gstr a)) (fun a : Int => Value.int .i64 a) B4 m2_153)] ++ A) w oX d_129 ∧ Els (Rp.int .i64) (bl [.row 3 1 kl iU km qB, .row 3 1 jq i4 jR oV, .row 9 1 kn i5 ko oW, .row 39 2 jS i6 jT oX, .row 3 1 kw i7 kx oY, .row 3 1 kZ i8 k8 oZ, .row 26 1 lF i9 lG o0, .row 26 1 p35 n37 c36 fM, .blk B10 (.cells #[.int .i64 ((ix a0 (0 : Int)).length : Int), .bool false, .slice p35 n37 c36, .slice lF i9 lG, .slice kZ i8 k8, .slice kw i7 kx, .slice none 0 0, .slice jS i6 jT, .int .i64 (0 : Int), .map (some B4), .slice kn i5 ko, .slice jq i4 jR, .slice kl iU km] 72 (0, 0)), .any (mapE (fun a : List UInt8 => Value.string (gstr a)) (fun a : Int => Value.int .i64 a) B4 m2_153)] ++ A) w oY d_135 ∧ Els (Rp.int .i64) (bl [.row 3 1 kl iU km qB, .row 3 1 jq i4 jR oV, .row 9 1 kn i5 ko oW, .row 39 2 jS i6 jT oX, .row 3 1 kw i7 kx oY, .row 3 1 kZ i8 k8 oZ, .row 26 1 lF i9 lG o0, .row 26 1 p35 n37 c36 fM, .blk B10 (.cells #[.int .i64 ((ix a0 (0 : Int)).length : Int), .bool false, .slice p35 n37 c36, .slice lF i9 lG, .slice kZ i8 k8, .slice kw i7 kx, .slice none 0 0, .slice jS i6 jT, .int .i64 (0 : Int), .map (some B4), .slice kn i5 ko, .slice jq i4 jR, .slice kl iU km] 72 (0, 0)), .any (mapE (fun a : List UInt8 => Value.string (gstr a)) (fun a : Int => Value.int .i64 a) B4 m2_153)] ++ A) w oZ d_141 ∧ Els (Rp.sl (Rp.int .i64)) (bl [.row 3 1 kl iU km qB, .row 3 1 jq i4 jR oV, .row 9 1 kn i5 ko oW, .row 39 2 jS i6 jT oX, .row 3 1 kw i7 kx oY, .row 3 1 kZ i8 k8 oZ, .row 26 1 lF i9 lG o0, .row 26 1 p35 n37 c36 fM, .blk B10 (.cells #[.int .i64 ((ix a0 (0 : Int)).length : Int), .bool false, .slice p35 n37 c36, .slice lF i9 lG, .slice kZ i8 k8, .slice kw i7 kx, .slice none 0 0, .slice jS i6 jT, .int .i64 (0 : Int), .map (some B4), .slice kn i5 ko, .slice jq i4 jR, .slice kl iU km] 72 (0, 0)), .any (mapE (fun a : List UInt8 => Value.string (gstr a)) (fun a : Int => Value.int .i64 a) B4 m2_153)] ++ A) w o0 d_147 ∧ Els (Rp.sl (Rp.int .i64)) (bl [.row 3 1 kl iU km qB, .row 3 1 jq i4 jR oV, .row 9 1 kn i5 ko oW, .row 39 2 jS i6 jT oX, .row 3 1 kw i7 kx oY, .row 3 1 kZ i8 k8 oZ, .row 26 1 lF i9 lG o0, .row 26 1 p35 n37 c36 fM, .blk B10 (.cells #[.int .i64 ((ix a0 (0 : Int)).length : Int), .bool false, .slice p35 n37 c36, .slice lF i9 lG, .slice kZ i8 k8, .slice kw i7 kx, .slice none 0 0, .slice jS i6 jT, .int .i64 (0 : Int), .map (some B4), .slice kn i5 ko, .slice jq i4 jR, .slice kl iU km] 72 (0, 0)), .any (mapE (fun a : List UInt8 => Value.string (gstr a)) (fun a : Int => Value.int .i64 a) B4 m2_153)] ++ A) w fM d_32 ∧ Fr (bl []) w0 (bl [.row 3 1 kl iU km qB, .row 3 1 jq i4 jR oV, .row 9 1 kn i5 ko oW, .row 39 2 jS i6 jT oX, .row 3 1 kw i7 kx oY, .row 3 1 kZ i8 k8 oZ, .row 26 1 lF i9 lG o0, .row 26 1 p35 n37 c36 fM, .blk B10 (.cells #[.int .i64 ((ix a0 (0 : Int)).length : Int), .bool false, .slice p35 n37 c36, .slice lF i9 lG, .slice kZ i8 k8, .slice kw i7 kx, .slice none 0 0, .slice jS i6 jT, .int .i64 (0 : Int), .map (some B4), .slice kn i5 ko, .slice jq i4 jR, .slice kl iU km] 72 (0, 0)), .any (mapE (fun a : List UInt8 => Value.string (gstr a)) (fun a : Int => Value.int .i64 a) B4 m2_153)]) w) H ⟨0, none, 0, [], 0, none, 0, [], 0, none, 0, [], 0, none, 0, [], 0, none, 0, [], 0, none, 0, [], 0, none, 0, [], ⟨rfl, rfl, rfl, rfl, rfl, trivial⟩, hO, DA, yF, wD, vY, uF, ku, dI, aj, hB⟩ ?_
  intro X2
  refine prE fun k2_110 => prE fun d_111 => prE fun d_117 => prE fun d_123 => prE fun d_129 => prE fun d_135 => prE fun d_141 => prE fun d_147 => fun m2_153 => ?_
  intro H hX2 σ xa
  refine exE fun iU => exE fun kl => exE fun km => exE fun qB => exE fun i4 => exE fun jq => exE fun jR => exE fun oV => exE fun i5 => exE fun kn => exE fun ko => exE fun oW => exE fun i6 => exE fun jS => exE fun jT => exE fun oX => exE fun i7 => exE fun kw => exE fun kx => exE fun oY => exE fun i8 => exE fun kZ => exE fun k8 => exE fun oZ => exE fun i9 => exE fun lF => exE fun lG => exE fun o0 => andE fun hag => andE fun hO => andE fun ct => andE fun cA => andE fun cH => andE fun cB => andE fun de => andE fun dt => andE fun dJ => andE fun aj => fun hB => ?_
  dsimp only at H
  refine Go1.keep [(6, .pointer (some ⟨B10, 0, none⟩)), (9, .int .i64 (-1 : Int)), (85, .slice p35 n37 c36), (86, .int .i64 (d_32.length : Int)), (87, .int .i64 (k2_110 : Int))] hag ?_
  refine Go1.seq ?_
  refine Go1.region ?_
  by_cases tD : (k2_110 : Int) < (d_32.length : Int)
  ·replace H := ifp tD H
   refine GoR.op ((fun w => opB (op_lss rfl rfl w) (decide_eq_true tD)) _) rfl rfl ?_
   refine GoR.nil ?_
   refine Go1.seq ?_
   refine Go1.condT rfl rfl ?_
   refine Go1.skip ?_
   refine Go1.seq ?_
   refine Go1.block ?_
   refine Go1.seq ?_
   refine Go1.region ?_
   refine GoR.op ((op_move rfl) _) rfl rfl ?_
   obtain ⟨tm, H⟩ := H
   obtain ⟨vZ, H⟩ := H
   refine GoR.op ((op_index Try.underlying22 ti26 rfl rfl tm (ltn (aj.neq hO 7 rfl) vZ) (aj.psome hO 7 rfl tm vZ)) _) rfl rfl ?_
   have hobt := oldSl 7 hO rfl aj tm vZ
   obtain ⟨Bc, Bd, cY, DB⟩ := hobt
   refine GoR.op ((DB Try.underlying26 rfl rfl) _ (Same.refl _)) rfl rfl ?_
   refine GoR.op ((op_assign rfl) _) rfl rfl ?_
   refine GoR.op ((op_assign rfl) _) rfl rfl ?_
   refine GoR.nil ?_
   refine Go1.seq ?_
   refine Go1.region ?_
   refine GoR.op ((op_move rfl) _) rfl rfl ?_
   obtain ⟨Hu, H⟩ := H
   refine GoR.op ((op_add rfl rfl (wrap_i64 Hu)) _) rfl rfl ?_
   refine GoR.op ((op_conv Try.underlying3 Try.underlying21 rfl rfl) _) rfl rfl ?_
   obtain ⟨xW, H⟩ := H
   obtain ⟨xX, H⟩ := H
   refine GoR.op ((op_convRS Try.underlying21 Try.underlying9 rfl xW xX) _) rfl rfl ?_
   refine GoR.op ((op_assign rfl) _) rfl rfl ?_
   refine GoR.nil ?_
   refine Go1.seq ?_
   refine Go1.drawS 0 [(0, .pure), (1, .pure), (2, .pure), (3, .stable), (4, .pure), (5, .loud), (6, .stable), (7, .pure), (8, .pure), (9, .pure), (10, .pure), (11, .pure)] mixed (by kernel_rfl) ?_
   intro JQ DD
   have qP := Stp.same hO DD
   replace ct := ct.ch qP.ch
   replace cA := cA.ch qP.ch
   replace cH := cH.ch qP.ch
   replace cB := cB.ch qP.ch
   replace de := de.ch qP.ch
   replace dt := dt.ch qP.ch
   replace dJ := dJ.ch qP.ch
   replace aj := aj.ch qP.ch
   replace hO := qP.own
   replace cY := cY.ch qP.ch
   replace hB := hB.trans qP.fr
   refine GoQ.pure rfl (op_move rfl) rfl rfl ?_
   refine GoQ.pure rfl (op_nilCheck rfl) rfl rfl ?_
   refine GoQ.pure rfl (op_fieldAddr Try.underlying72 rfl ti69 rfl (by decide)) rfl rfl ?_
   refine GoQ.stable rfl (oblk (i := 9) 8 hO rfl rfl Try.underlying69 rfl rfl) rfl rfl ?_
   refine GoQ.pure rfl (op_move rfl) rfl rfl ?_
   refine GoQ.call rfl (op_call body61 rfl (walk_enumerate_text hO.lt cY H)) (fun v w hr => by obtain ⟨_, _, hs, _, _⟩ := hr; assumption) rfl rfl ?_
   rintro JR JS ⟨r167, rfl, DE, I4, H⟩
   have qQ := Stp.same hO DE
   replace ct := ct.ch qQ.ch
   replace cA := cA.ch qQ.ch
   replace cH := cH.ch qQ.ch
   replace cB := cB.ch qQ.ch
   replace de := de.ch qQ.ch
   replace dt := dt.ch qQ.ch
   replace dJ := dJ.ch qQ.ch
   replace aj := aj.ch qQ.ch
   replace hO := qQ.own
   replace cY := cY.ch qQ.ch
   replace hB := hB.trans qQ.fr
   by_cases uQ : mhas m2_153 r167 = true
   ·replace H := ifp uQ H
    refine GoQ.stable rfl (olookT (a := r167) (MK.str Try.underlying9) 9 hO rfl Try.underlying69 rfl rfl uQ) rfl rfl ?_
    refine GoQ.pure rfl (op_move rfl) rfl rfl ?_
    refine GoQ.pure rfl (op_extract rfl rfl) rfl rfl ?_
    refine GoQ.pure rfl (op_extract rfl rfl) rfl rfl ?_
    refine GoQ.pure rfl (op_assign rfl) rfl rfl ?_
    refine GoQ.pure rfl (op_assign rfl) rfl rfl ?_
    refine GoQ.nil ?_
    refine Go1.seq ?_
    refine Go1.seq ?_
    refine Go1.cut [(6, .pointer (some ⟨B10, 0, none⟩)), (9, .int .i64 (-1 : Int)), (10, .int .i64 (k2_110 : Int)), (11, .slice Bc ((ix d_32 (k2_110 : Int)).length) Bd), (12, .string (gstr (chr (IntKind.i32.wrap ((97 : Int) + (k2_110 : Int)))))), (13, .int .i64 (mgt m2_153 r167)), (14, .bool true), (85, .slice p35 n37 c36), (86, .int .i64 (d_32.length : Int)), (87, .int .i64 (k2_110 : Int))] ⟨rfl, rfl, rfl, rfl, rfl, rfl, rfl, rfl, rfl, rfl, trivial⟩ ?_
    intro σ _
    refine Go1.region ?_
    refine GoR.op ((op_move rfl) _) rfl rfl ?_
    refine GoR.nil ?_
    refine Go1.condT rfl rfl ?_
    refine Go1.drawS 5 [(0, .pure), (1, .pure), (2, .pure), (3, .pure), (4, .pure), (5, .stable), (6, .pure), (7, .pure), (8, .pure), (9, .pure), (10, .stable), (11, .pure), (12, .pure), (13, .stable), (14, .pure), (15, .loud), (16, .last), (17, .pure), (18, .pure), (19, .pure), (20, .last)] mixed (by kernel_rfl) ?_
    intro JT DF
    have qR := Stp.same hO DF
    replace ct := ct.ch qR.ch
    replace cA := cA.ch qR.ch
    replace cH := cH.ch qR.ch
    replace cB := cB.ch qR.ch
    replace de := de.ch qR.ch
    replace dt := dt.ch qR.ch
    replace dJ := dJ.ch qR.ch
    replace aj := aj.ch qR.ch
    replace hO := qR.own
    replace cY := cY.ch qR.ch
    replace hB := hB.trans qR.fr
    refine GoQ.pure rfl (op_move rfl) rfl rfl ?_
    refine GoQ.pure rfl (op_move rfl) rfl rfl ?_
    refine GoQ.pure rfl (op_nilCheck rfl) rfl rfl ?_
    refine GoQ.pure rfl (op_fieldAddr Try.underlying72 rfl ti29 rfl (by decide)) rfl rfl ?_
    refine GoQ.pure rfl (op_fieldAddr Try.underlying29 rfl ti27 rfl (by decide)) rfl rfl ?_
    refine GoQ.stable rfl (oblk (i := 7) 8 hO rfl rfl Try.underlying27 rfl rfl) rfl rfl ?_
    refine GoQ.pure rfl (op_move rfl) rfl rfl ?_
    refine GoQ.pure rfl (op_move rfl) rfl rfl ?_
    refine GoQ.pure rfl (op_nilCheck rfl) rfl rfl ?_
    refine GoQ.pure rfl (op_fieldAddr Try.underlying72 rfl ti70 rfl (by decide)) rfl rfl ?_
    refine GoQ.stable rfl (oblk (i := 10) 8 hO rfl rfl Try.underlying70 rfl rfl) rfl rfl ?_
    refine GoQ.pure rfl (op_move rfl) rfl rfl ?_
    obtain ⟨yG, H⟩ := H
    obtain ⟨yH, H⟩ := H
    refine GoQ.pure rfl (op_index Try.underlying70 ti9 rfl rfl yG (ltn (cH.neq hO 2 rfl) yH) (cH.psome hO 2 rfl yG yH)) rfl rfl ?_
    refine GoQ.stable rfl (oldStr 2 hO rfl cH yG yH Try.underlying9 rfl rfl) rfl rfl ?_
    have hle179 := Els.str_le cH yG yH
    refine GoQ.pure rfl (op_build Try.underlying39 ti39 (pl := [(0, 1), (1, 1)]) (vs := [(0, .string (gstr (chr (IntKind.i32.wrap ((97 : Int) + (k2_110 : Int)))))), (1, .string (gstr (ix d_123 (mgt m2_153 r167))))]) (cs := #[.string (gstr (chr (IntKind.i32.wrap ((97 : Int) + (k2_110 : Int))))), .string (gstr (ix d_123 (mgt m2_153 r167)))]) (by kernel_rfl) rfl (by kernel_rfl)) rfl rfl ?_
    have hobt := obuildN (r := rpRule) (n := 1) (parts := [(0, .agg #[.string (gstr (chr (IntKind.i32.wrap ((97 : Int) + (k2_110 : Int))))), .string (gstr (ix d_123 (mgt m2_153 r167)))])]) (vs := [.string (gstr (chr (IntKind.i32.wrap ((97 : Int) + (k2_110 : Int))))), .string (gstr (ix d_123 (mgt m2_153 r167)))]) (xs := [(⟨chr (IntKind.i32.wrap ((97 : Int) + (k2_110 : Int))), ix d_123 (mgt m2_153 r167)⟩ : Rule)]) Try.underlying27 ti39 hO (by decide) (by decide) (by kernel_rfl) (Els.flat1 (⟨chr (IntKind.i32.wrap ((97 : Int) + (k2_110 : Int))), ix d_123 (mgt m2_153 r167)⟩ : Rule) ⟨(chr_le _), hle179⟩) rfl
    obtain ⟨JU, JV, j9, DG, DH, Be⟩ := hobt
    refine GoQ.loud rfl (Be rfl) DH rfl rfl ?_
    replace ct := ct.ch j9.ch
    replace cA := cA.ch j9.ch
    replace cH := cH.ch j9.ch
    replace cB := cB.ch j9.ch
    replace de := de.ch j9.ch
    replace dt := dt.ch j9.ch
    replace dJ := dJ.ch j9.ch
    replace aj := aj.ch j9.ch
    replace hO := j9.own
    replace cY := cY.ch j9.ch
    replace hB := hB.trans j9.fr
    have hobt := freeze 0 hO rfl DG
    obtain ⟨hO1, sG, qC, DJ⟩ := hobt
    dsimp only [eS, eZ] at hO1 sG qC
    replace cY := cY.ch sG
    replace ct := ct.ch sG
    replace cA := cA.ch sG
    replace cH := cH.ch sG
    replace cB := cB.ch sG
    replace de := de.ch sG
    replace dt := dt.ch sG
    replace dJ := dJ.ch sG
    replace aj := aj.ch sG
    replace hB := hB.trans (Owns.dropFr _ _ 0)
    dsimp only [eS, eZ] at hB
    replace hO := hO1; clear hO1
    obtain ⟨Hv, H⟩ := H
    have hobt := oapp Try.underlying27 ti39 rfl 3 hO rfl cB qC DJ Hv (by decide)
    obtain ⟨JW, yI, yJ, DK, pz, rJ, Bf⟩ := hobt
    dsimp only [sS, sZ] at pz rJ
    refine GoQ.last rfl (Bf (by exact rfl) (by exact rfl)) rfl rfl ?_
    replace ct := ct.ch pz.ch
    replace cA := cA.ch pz.ch
    replace cH := cH.ch pz.ch
    replace de := de.ch pz.ch
    replace dt := dt.ch pz.ch
    replace dJ := dJ.ch pz.ch
    replace aj := aj.ch pz.ch
    replace hO := pz.own
    replace cY := cY.ch pz.ch
    replace qC := qC.ch pz.ch
    replace hB := hB.trans pz.fr
    refine GoQ.pure rfl (op_nilCheck rfl) rfl rfl ?_
    refine GoQ.pure rfl (op_fieldAddr Try.underlying72 rfl ti29 rfl (by decide)) rfl rfl ?_
    refine GoQ.pure rfl (op_fieldAddr Try.underlying29 rfl ti27 rfl (by decide)) rfl rfl ?_
    have hobt := oblkSt2 (v := .slice yI (i6 + 1) yJ) (i := 7) (cs' := #[.int .i64 ((ix a0 (0 : Int)).length : Int), .bool false, .slice p35 n37 c36, .slice lF i9 lG, .slice kZ i8 k8, .slice kw i7 kx, .slice none 0 0, .slice yI (i6 + 1) yJ, .int .i64 (0 : Int), .map (some B4), .slice kn i5 ko, .slice jq i4 jR, .slice kl iU km]) 8 hO rfl rfl rfl rfl
    obtain ⟨JX, oq, Bg⟩ := hobt
    dsimp only [sS, sZ] at oq
    refine GoQ.last rfl (Bg Try.underlying27 rfl ti27 (by exact rfl) (by exact rfl)) rfl rfl ?_
    replace ct := ct.ch oq.ch
    replace cA := cA.ch oq.ch
    replace cH := cH.ch oq.ch
    replace rJ := rJ.ch oq.ch
    replace de := de.ch oq.ch
    replace dt := dt.ch oq.ch
    replace dJ := dJ.ch oq.ch
    replace aj := aj.ch oq.ch
    replace hO := oq.own
    replace cY := cY.ch oq.ch
    replace qC := qC.ch oq.ch
    replace hB := hB.trans oq.fr
    refine GoQ.nil ?_
    refine Go1.cut [(6, .pointer (some ⟨B10, 0, none⟩)), (9, .int .i64 (-1 : Int)), (13, .int .i64 (mgt m2_153 r167)), (85, .slice p35 n37 c36), (86, .int .i64 (d_32.length : Int)), (87, .int .i64 (k2_110 : Int))] ⟨rfl, rfl, rfl, rfl, rfl, rfl, trivial⟩ ?_
    intro σ _
    refine Go1.region ?_
    refine GoR.op ((op_move rfl) _) rfl rfl ?_
    refine GoR.op ((op_move rfl) _) rfl rfl ?_
    refine GoR.op ((op_nilCheck rfl) _) rfl rfl ?_
    refine GoR.op ((op_fieldAddr Try.underlying72 rfl ti26 rfl (by decide)) _) rfl rfl ?_
    refine GoR.op ((oblk (i := 12) 8 hO rfl rfl Try.underlying26 rfl rfl) _ (Same.refl _)) rfl rfl ?_
    refine GoR.op ((op_move rfl) _) rfl rfl ?_
    have hobt := obuild (r := Rp.int .i64) (n := 1) (parts := [(0, .int .i64 (mgt m2_153 r167))]) (vs := [.int .i64 (mgt m2_153 r167)]) (xs := [(mgt m2_153 r167)]) rfl Try.underlying26 ti3 hO (by decide) (by kernel_rfl) (Els.cons rfl rfl (Els.nil _ _ _) (by simp [mx])) rfl
    obtain ⟨Hw, JY, pC, DL, Ji, Bh⟩ := hobt
    refine GoR.op (Bh rfl) rfl rfl ?_
    replace ct := ct.ch pC.ch
    replace cA := cA.ch pC.ch
    replace cH := cH.ch pC.ch
    replace rJ := rJ.ch pC.ch
    replace de := de.ch pC.ch
    replace dt := dt.ch pC.ch
    replace dJ := dJ.ch pC.ch
    replace aj := aj.ch pC.ch
    replace hO := pC.own
    replace cY := cY.ch pC.ch
    replace qC := qC.ch pC.ch
    replace hB := hB.trans pC.fr
    have hobt := freeze 0 hO rfl DL
    obtain ⟨hO1, rY, vn, DM⟩ := hobt
    dsimp only [eS, eZ] at hO1 rY vn
    replace cY := cY.ch rY
    replace qC := qC.ch rY
    replace ct := ct.ch rY
    replace cA := cA.ch rY
    replace cH := cH.ch rY
    replace rJ := rJ.ch rY
    replace de := de.ch rY
    replace dt := dt.ch rY
    replace dJ := dJ.ch rY
    replace aj := aj.ch rY
    replace hB := hB.trans (Owns.dropFr _ _ 0)
    dsimp only [eS, eZ] at hB
    replace hO := hO1; clear hO1
    obtain ⟨xY, H⟩ := H
    have hobt := oapp Try.underlying26 ti3 rfl 0 hO rfl ct vn DM xY (by decide)
    obtain ⟨Hx, zT, zU, DN, ot, xL, Bi⟩ := hobt
    dsimp only [sS, sZ] at ot xL
    refine GoR.op (Bi (by exact rfl) (by exact rfl)) rfl rfl ?_
    replace cA := cA.ch ot.ch
    replace cH := cH.ch ot.ch
    replace rJ := rJ.ch ot.ch
    replace de := de.ch ot.ch
    replace dt := dt.ch ot.ch
    replace dJ := dJ.ch ot.ch
    replace aj := aj.ch ot.ch
    replace hO := ot.own
    replace cY := cY.ch ot.ch
    replace qC := qC.ch ot.ch
    replace vn := vn.ch ot.ch
    replace hB := hB.trans ot.fr
    refine GoR.op ((op_nilCheck rfl) _) rfl rfl ?_
    refine GoR.op ((op_fieldAddr Try.underlying72 rfl ti26 rfl (by decide)) _) rfl rfl ?_
    have hobt := oblkSt2 (v := .slice zT (iU + 1) zU) (i := 12) (cs' := #[.int .i64 ((ix a0 (0 : Int)).length : Int), .bool false, .slice p35 n37 c36, .slice lF i9 lG, .slice kZ i8 k8, .slice kw i7 kx, .slice none 0 0, .slice yI (i6 + 1) yJ, .int .i64 (0 : Int), .map (some B4), .slice kn i5 ko, .slice jq i4 jR, .slice zT (iU + 1) zU]) 8 hO rfl rfl rfl rfl
    obtain ⟨JZ, fJ, Bj⟩ := hobt
    dsimp only [sS, sZ] at fJ
    refine GoR.op (Bj Try.underlying26 rfl ti26 (by exact rfl) (by exact rfl)) rfl rfl ?_
    replace xL := xL.ch fJ.ch
    replace cA := cA.ch fJ.ch
    replace cH := cH.ch fJ.ch
    replace rJ := rJ.ch fJ.ch
    replace de := de.ch fJ.ch
    replace dt := dt.ch fJ.ch
    replace dJ := dJ.ch fJ.ch
    replace aj := aj.ch fJ.ch
    replace hO := fJ.own
    replace cY := cY.ch fJ.ch
    replace qC := qC.ch fJ.ch
    replace vn := vn.ch fJ.ch
    replace hB := hB.trans fJ.fr
    refine GoR.nil ?_
    refine Go1.inBlock ?_
    refine Go1.region ?_
    refine GoR.op ((op_add rfl rfl (wrap_i64 (natbd tD aj.bd))) _) rfl rfl ?_
    refine GoR.op ((op_move rfl) _) rfl rfl ?_
    refine GoR.nil ?_
    exact hX2 _ H _ _ ⟨iU + 1, zT, zU, DN, i4, jq, jR, oV, i5, kn, ko, oW, i6 + 1, yI, yJ, DK, i7, kw, kx, oY, i8, kZ, k8, oZ, i9, lF, lG, o0, ⟨rfl, rfl, rfl, rfl, rfl, trivial⟩, hO, xL, cA, cH, rJ, de, dt, dJ, aj, hB⟩
   replace H := ifn uQ H
   refine GoQ.stable rfl (olookF (a := r167) (MK.str Try.underlying9) 9 hO rfl Try.underlying69 ti3 rfl rfl uQ) rfl rfl ?_
   refine GoQ.pure rfl (op_move rfl) rfl rfl ?_
   refine GoQ.pure rfl (op_extract rfl rfl) rfl rfl ?_
   refine GoQ.pure rfl (op_extract rfl rfl) rfl rfl ?_
   refine GoQ.pure rfl (op_assign rfl) rfl rfl ?_
   refine GoQ.pure rfl (op_assign rfl) rfl rfl ?_
   refine GoQ.nil ?_
   refine Go1.seq ?_
   refine Go1.seq ?_
   refine Go1.region ?_
   refine GoR.op ((op_move rfl) _) rfl rfl ?_
   refine GoR.nil ?_
   refine Go1.condF rfl rfl ?_
   refine Go1.cut [(6, .pointer (some ⟨B10, 0, none⟩)), (9, .int .i64 (-1 : Int)), (10, .int .i64 (k2_110 : Int)), (11, .slice Bc ((ix d_32 (k2_110 : Int)).length) Bd), (12, .string (gstr (chr (IntKind.i32.wrap ((97 : Int) + (k2_110 : Int)))))), (85, .slice p35 n37 c36), (86, .int .i64 (d_32.length : Int)), (87, .int .i64 (k2_110 : Int))] ⟨rfl, rfl, rfl, rfl, rfl, rfl, rfl, rfl, trivial⟩ ?_
   intro σ _
   refine Go1.region ?_
   refine GoR.op ((op_move rfl) _) rfl rfl ?_
   refine GoR.op ((op_move rfl) _) rfl rfl ?_
   refine GoR.call (op_call body64 rfl (walk_slices_Clone_int hO.lt cY H)) rfl rfl ?_
   rintro J0 J1 ⟨r224, uR, sQ, sR, I5, rfl, DO, hN228, sH, H⟩
   have pD := Stp.more hO DO hN228
   dsimp only [List.cons_append, List.nil_append] at pD
   replace ct := ct.ch pD.ch
   replace cA := cA.ch pD.ch
   replace cH := cH.ch pD.ch
   replace cB := cB.ch pD.ch
   replace de := de.ch pD.ch
   replace dt := dt.ch pD.ch
   replace dJ := dJ.ch pD.ch
   replace aj := aj.ch pD.ch
   replace hO := pD.own
   replace cY := cY.ch pD.ch
   replace hB := hB.trans pD.fr
   replace sH := sH.ch (Ch.assoc _ _ _ _)
   refine GoR.op ((op_move rfl) _) rfl rfl ?_
   refine GoR.op ((op_move rfl) _) rfl rfl ?_
   refine GoR.op ((op_move rfl) _) rfl rfl ?_
   refine GoR.op ((op_move rfl) _) rfl rfl ?_
   refine GoR.inl (vs := [.pointer (some ⟨B10, 0, none⟩), .slice sQ uR sR, .int .i64 (-1 : Int), .int .i64 (k2_110 : Int), .string (gstr (chr (IntKind.i32.wrap ((97 : Int) + (k2_110 : Int))))), .int .i64 (-1 : Int)]) (caps := []) rfl rfl body65 Try.func65 rfl Try.ntmps65 rfl rfl rfl ?_
   intro RhR232 hR232
   refine Go1.seq ?_
   refine Go1.region ?_
   refine GoR.op ((op_assign rfl) _) rfl rfl ?_
   refine GoR.nil ?_
   refine Go1.seq ?_
   refine Go1.region ?_
   refine GoR.op ((op_move rfl) _) rfl rfl ?_
   refine GoR.op ((op_nilCheck rfl) _) rfl rfl ?_
   refine GoR.op ((op_fieldAddr Try.underlying72 rfl ti29 rfl (by decide)) _) rfl rfl ?_
   refine GoR.op ((op_fieldAddr Try.underlying29 rfl ti22 rfl (by decide)) _) rfl rfl ?_
   refine GoR.op ((oblk (i := 3) 9 hO rfl rfl Try.underlying22 rfl rfl) _ (Same.refl _)) rfl rfl ?_
   refine GoR.op ((op_lenN Try.underlying22 rfl (dJ.neq hO 7 rfl)) _) rfl rfl ?_
   refine GoR.op ((op_assign rfl) _) rfl rfl ?_
   refine GoR.nil ?_
   refine Go1.seq ?_
   refine Go1.drawS 1 [(0, .pure), (1, .pure), (2, .pure), (3, .stable), (4, .pure), (6, .pure), (5, .loud), (7, .last)] mixed (by kernel_rfl) ?_
   intro J2 DP
   have pE := Stp.same hO DP
   replace sH := sH.ch pE.ch
   replace ct := ct.ch pE.ch
   replace cA := cA.ch pE.ch
   replace cH := cH.ch pE.ch
   replace cB := cB.ch pE.ch
   replace de := de.ch pE.ch
   replace dt := dt.ch pE.ch
   replace dJ := dJ.ch pE.ch
   replace aj := aj.ch pE.ch
   replace hO := pE.own
   replace cY := cY.ch pE.ch
   replace hB := hB.trans pE.fr
   refine GoQ.pure rfl (op_move rfl) rfl rfl ?_
   refine GoQ.pure rfl (op_nilCheck rfl) rfl rfl ?_
   refine GoQ.pure rfl (op_fieldAddr Try.underlying72 rfl ti69 rfl (by decide)) rfl rfl ?_
   refine GoQ.stable rfl (oblk (i := 9) 9 hO rfl rfl Try.underlying69 rfl rfl) rfl rfl ?_
   refine GoQ.pure rfl (op_move rfl) rfl rfl ?_
   refine GoQ.pure rfl (op_move rfl) rfl rfl ?_
   have hobt := rowlend 0 hO rfl sH
   obtain ⟨DQ, DR⟩ := hobt
   have hOc238 := hO.drop 0
   refine GoQ.call rfl (op_call body61 (show ([.slice sQ uR sR] : List Value) = [.slice sQ r224.length sR] from by rw [← DR]) (walk_enumerate_text hOc238.lt DQ H)) (fun v w hr => by obtain ⟨_, _, hs, _, _⟩ := hr; assumption) rfl rfl ?_
   rintro J3 Hy ⟨r239, rfl, yK, I6, H⟩
   have pF := Stp.same hO yK
   replace sH := sH.ch pF.ch
   replace ct := ct.ch pF.ch
   replace cA := cA.ch pF.ch
   replace cH := cH.ch pF.ch
   replace cB := cB.ch pF.ch
   replace de := de.ch pF.ch
   replace dt := dt.ch pF.ch
   replace dJ := dJ.ch pF.ch
   replace aj := aj.ch pF.ch
   replace hO := pF.own
   replace cY := cY.ch pF.ch
   replace hB := hB.trans pF.fr
   have hobt := omapUpd (MK.str Try.underlying9) 10 hO rfl Try.underlying69 r239 (d_147.length : Int)
   obtain ⟨J4, ou, Bk⟩ := hobt
   dsimp only [sS, sZ] at ou
   refine GoQ.last rfl (Bk (by exact rfl) (by exact rfl) (by exact rfl)) rfl rfl ?_
   replace sH := sH.ch ou.ch
   replace ct := ct.ch ou.ch
   replace cA := cA.ch ou.ch
   replace cH := cH.ch ou.ch
   replace cB := cB.ch ou.ch
   replace de := de.ch ou.ch
   replace dt := dt.ch ou.ch
   replace dJ := dJ.ch ou.ch
   replace aj := aj.ch ou.ch
   replace hO := ou.own
   replace cY := cY.ch ou.ch
   replace hB := hB.trans ou.fr
   refine GoQ.nil ?_
   refine Go1.seq ?_
   refine Go1.cut [(0, .pointer (some ⟨B10, 0, none⟩)), (1, .slice sQ uR sR), (2, .int .i64 (-1 : Int)), (3, .int .i64 (k2_110 : Int)), (4, .string (gstr (chr (IntKind.i32.wrap ((97 : Int) + (k2_110 : Int)))))), (5, .int .i64 (-1 : Int)), (13, .int .i64 (d_147.length : Int))] ⟨rfl, rfl, rfl, rfl, rfl, rfl, rfl, trivial⟩ ?_
   intro σ _
   refine Go1.region ?_
   refine GoR.op ((op_move rfl) _) rfl rfl ?_
   refine GoR.op ((op_move rfl) _) rfl rfl ?_
   refine GoR.op ((op_nilCheck rfl) _) rfl rfl ?_
   refine GoR.op ((op_fieldAddr Try.underlying72 rfl ti29 rfl (by decide)) _) rfl rfl ?_
   refine GoR.op ((op_fieldAddr Try.underlying29 rfl ti22 rfl (by decide)) _) rfl rfl ?_
   refine GoR.op ((oblk (i := 3) 9 hO rfl rfl Try.underlying22 rfl rfl) _ (Same.refl _)) rfl rfl ?_
   refine GoR.op ((op_move rfl) _) rfl rfl ?_
   have hobt := freeze 0 hO rfl sH
   obtain ⟨hO1, sI, d8, DS⟩ := hobt
   dsimp only [eS, eZ] at hO1 sI d8
   replace cY := cY.ch sI
   replace ct := ct.ch sI
   replace cA := cA.ch sI
   replace cH := cH.ch sI
   replace cB := cB.ch sI
   replace de := de.ch sI
   replace dt := dt.ch sI
   replace dJ := dJ.ch sI
   replace aj := aj.ch sI
   replace hB := hB.trans (Owns.dropFr _ _ 0)
   dsimp only [eS, eZ] at hB
   replace hO := hO1; clear hO1
   have hobt := obuild (r := Rp.sl (Rp.int .i64)) (n := 1) (parts := [(0, .slice sQ uR sR)]) (vs := [.slice sQ uR sR]) (xs := [r224]) rfl Try.underlying22 ti26 hO (by decide) (by kernel_rfl) (Els.cons rfl ⟨sQ, sR, congrArg some (congrArg (fun nn => Value.slice sQ nn sR) DS), d8⟩ (Els.nil _ _ _) (by simp [mx])) rfl
   obtain ⟨J5, J6, pG, DT, Jj, Bl⟩ := hobt
   refine GoR.op (Bl rfl) rfl rfl ?_
   replace ct := ct.ch pG.ch
   replace cA := cA.ch pG.ch
   replace cH := cH.ch pG.ch
   replace cB := cB.ch pG.ch
   replace de := de.ch pG.ch
   replace dt := dt.ch pG.ch
   replace dJ := dJ.ch pG.ch
   replace aj := aj.ch pG.ch
   replace hO := pG.own
   replace cY := cY.ch pG.ch
   replace d8 := d8.ch pG.ch
   replace hB := hB.trans pG.fr
   have hobt := freeze 0 hO rfl DT
   obtain ⟨hO1, rZ, eo, DU⟩ := hobt
   dsimp only [eS, eZ] at hO1 rZ eo
   replace cY := cY.ch rZ
   replace d8 := d8.ch rZ
   replace ct := ct.ch rZ
   replace cA := cA.ch rZ
   replace cH := cH.ch rZ
   replace cB := cB.ch rZ
   replace de := de.ch rZ
   replace dt := dt.ch rZ
   replace dJ := dJ.ch rZ
   replace aj := aj.ch rZ
   replace hB := hB.trans (Owns.dropFr _ _ 0)
   dsimp only [eS, eZ] at hB
   replace hO := hO1; clear hO1
   obtain ⟨Hz, H⟩ := H
   have hobt := oapp Try.underlying22 ti26 rfl 6 hO rfl dJ eo DU Hz (by decide)
   obtain ⟨J7, uS, uT, DW, ov, eA, Bm⟩ := hobt
   dsimp only [sS, sZ] at ov eA
   refine GoR.op (Bm (by exact rfl) (by exact rfl)) rfl rfl ?_
   replace ct := ct.ch ov.ch
   replace cA := cA.ch ov.ch
   replace cH := cH.ch ov.ch
   replace cB := cB.ch ov.ch
   replace de := de.ch ov.ch
   replace dt := dt.ch ov.ch
   replace aj := aj.ch ov.ch
   replace hO := ov.own
   replace cY := cY.ch ov.ch
   replace d8 := d8.ch ov.ch
   replace eo := eo.ch ov.ch
   replace hB := hB.trans ov.fr
   refine GoR.op ((op_nilCheck rfl) _) rfl rfl ?_
   refine GoR.op ((op_fieldAddr Try.underlying72 rfl ti29 rfl (by decide)) _) rfl rfl ?_
   refine GoR.op ((op_fieldAddr Try.underlying29 rfl ti22 rfl (by decide)) _) rfl rfl ?_
   have hobt := oblkSt2 (v := .slice uS (i9 + 1) uT) (i := 3) (cs' := #[.int .i64 ((ix a0 (0 : Int)).length : Int), .bool false, .slice p35 n37 c36, .slice uS (i9 + 1) uT, .slice kZ i8 k8, .slice kw i7 kx, .slice none 0 0, .slice jS i6 jT, .int .i64 (0 : Int), .map (some B4), .slice kn i5 ko, .slice jq i4 jR, .slice kl iU km]) 8 hO rfl rfl rfl rfl
   obtain ⟨J8, nE, Bn⟩ := hobt
   dsimp only [sS, sZ] at nE
   refine GoR.op (Bn Try.underlying22 rfl ti22 (by exact rfl) (by exact rfl)) rfl rfl ?_
   replace ct := ct.ch nE.ch
   replace cA := cA.ch nE.ch
   replace cH := cH.ch nE.ch
   replace cB := cB.ch nE.ch
   replace de := de.ch nE.ch
   replace dt := dt.ch nE.ch
   replace eA := eA.ch nE.ch
   replace aj := aj.ch nE.ch
   replace hO := nE.own
   replace cY := cY.ch nE.ch
   replace d8 := d8.ch nE.ch
   replace eo := eo.ch nE.ch
   replace hB := hB.trans nE.fr
   refine GoR.nil ?_
   refine Go1.seq ?_
   refine Go1.region ?_
   refine GoR.op ((op_move rfl) _) rfl rfl ?_
   refine GoR.op ((op_move rfl) _) rfl rfl ?_
   refine GoR.op ((op_nilCheck rfl) _) rfl rfl ?_
   refine GoR.op ((op_fieldAddr Try.underlying72 rfl ti29 rfl (by decide)) _) rfl rfl ?_
   refine GoR.op ((op_fieldAddr Try.underlying29 rfl ti26 rfl (by decide)) _) rfl rfl ?_
   refine GoR.op ((oblk (i := 4) 8 hO rfl rfl Try.underlying26 rfl rfl) _ (Same.refl _)) rfl rfl ?_
   refine GoR.op ((op_move rfl) _) rfl rfl ?_
   have hobt := obuild (r := Rp.int .i64) (n := 1) (parts := [(0, .int .i64 (-1 : Int))]) (vs := [.int .i64 (-1 : Int)]) (xs := [(-1 : Int)]) rfl Try.underlying26 ti3 hO (by decide) (by kernel_rfl) (Els.cons rfl rfl (Els.nil _ _ _) (by simp [mx])) rfl
   obtain ⟨J9, Ka, ow, DX, Jk, Bo⟩ := hobt
   refine GoR.op (Bo rfl) rfl rfl ?_
   replace ct := ct.ch ow.ch
   replace cA := cA.ch ow.ch
   replace cH := cH.ch ow.ch
   replace cB := cB.ch ow.ch
   replace de := de.ch ow.ch
   replace dt := dt.ch ow.ch
   replace eA := eA.ch ow.ch
   replace aj := aj.ch ow.ch
   replace hO := ow.own
   replace cY := cY.ch ow.ch
   replace d8 := d8.ch ow.ch
   replace eo := eo.ch ow.ch
   replace hB := hB.trans ow.fr
   have hobt := freeze 0 hO rfl DX
   obtain ⟨hO1, rK, fE, DY⟩ := hobt
   dsimp only [eS, eZ] at hO1 rK fE
   replace cY := cY.ch rK
   replace d8 := d8.ch rK
   replace eo := eo.ch rK
   replace ct := ct.ch rK
   replace cA := cA.ch rK
   replace cH := cH.ch rK
   replace cB := cB.ch rK
   replace de := de.ch rK
   replace dt := dt.ch rK
   replace eA := eA.ch rK
   replace aj := aj.ch rK
   replace hB := hB.trans (Owns.dropFr _ _ 0)
   dsimp only [eS, eZ] at hB
   replace hO := hO1; clear hO1
   obtain ⟨HA, H⟩ := H
   have hobt := oapp Try.underlying26 ti3 rfl 5 hO rfl dt fE DY HA (by decide)
   obtain ⟨HB, v3, v4, DZ, nF, fS, Bp⟩ := hobt
   dsimp only [sS, sZ] at nF fS
   refine GoR.op (Bp (by exact rfl) (by exact rfl)) rfl rfl ?_
   replace ct := ct.ch nF.ch
   replace cA := cA.ch nF.ch
   replace cH := cH.ch nF.ch
   replace cB := cB.ch nF.ch
   replace de := de.ch nF.ch
   replace eA := eA.ch nF.ch
   replace aj := aj.ch nF.ch
   replace hO := nF.own
   replace cY := cY.ch nF.ch
   replace d8 := d8.ch nF.ch
   replace eo := eo.ch nF.ch
   replace fE := fE.ch nF.ch
   replace hB := hB.trans nF.fr
   refine GoR.op ((op_nilCheck rfl) _) rfl rfl ?_
   refine GoR.op ((op_fieldAddr Try.underlying72 rfl ti29 rfl (by decide)) _) rfl rfl ?_
   refine GoR.op ((op_fieldAddr Try.underlying29 rfl ti26 rfl (by decide)) _) rfl rfl ?_
   have hobt := oblkSt2 (v := .slice v3 (i8 + 1) v4) (i := 4) (cs' := #[.int .i64 ((ix a0 (0 : Int)).length : Int), .bool false, .slice p35 n37 c36, .slice uS (i9 + 1) uT, .slice v3 (i8 + 1) v4, .slice kw i7 kx, .slice none 0 0, .slice jS i6 jT, .int .i64 (0 : Int), .map (some B4), .slice kn i5 ko, .slice jq i4 jR, .slice kl iU km]) 8 hO rfl rfl rfl rfl
   obtain ⟨Kb, ne, Bq⟩ := hobt
   dsimp only [sS, sZ] at ne
   refine GoR.op (Bq Try.underlying26 rfl ti26 (by exact rfl) (by exact rfl)) rfl rfl ?_
   replace ct := ct.ch ne.ch
   replace cA := cA.ch ne.ch
   replace cH := cH.ch ne.ch
   replace cB := cB.ch ne.ch
   replace de := de.ch ne.ch
   replace fS := fS.ch ne.ch
   replace eA := eA.ch ne.ch
   replace aj := aj.ch ne.ch
   replace hO := ne.own
   replace cY := cY.ch ne.ch
   replace d8 := d8.ch ne.ch
   replace eo := eo.ch ne.ch
   replace fE := fE.ch ne.ch
   replace hB := hB.trans ne.fr
   refine GoR.nil ?_
   refine Go1.seq ?_
   refine Go1.cut [(0, .pointer (some ⟨B10, 0, none⟩)), (3, .int .i64 (k2_110 : Int)), (4, .string (gstr (chr (IntKind.i32.wrap ((97 : Int) + (k2_110 : Int)))))), (5, .int .i64 (-1 : Int)), (13, .int .i64 (d_147.length : Int))] ⟨rfl, rfl, rfl, rfl, rfl, trivial⟩ ?_
   intro σ _
   refine Go1.region ?_
   refine GoR.op ((op_move rfl) _) rfl rfl ?_
   refine GoR.op ((op_move rfl) _) rfl rfl ?_
   refine GoR.op ((op_nilCheck rfl) _) rfl rfl ?_
   refine GoR.op ((op_fieldAddr Try.underlying72 rfl ti29 rfl (by decide)) _) rfl rfl ?_
   refine GoR.op ((op_fieldAddr Try.underlying29 rfl ti26 rfl (by decide)) _) rfl rfl ?_
   refine GoR.op ((oblk (i := 5) 8 hO rfl rfl Try.underlying26 rfl rfl) _ (Same.refl _)) rfl rfl ?_
   refine GoR.op ((op_move rfl) _) rfl rfl ?_
   have hobt := obuild (r := Rp.int .i64) (n := 1) (parts := [(0, .int .i64 (k2_110 : Int))]) (vs := [.int .i64 (k2_110 : Int)]) (xs := [(k2_110 : Int)]) rfl Try.underlying26 ti3 hO (by decide) (by kernel_rfl) (Els.cons rfl rfl (Els.nil _ _ _) (by simp [mx])) rfl
   obtain ⟨Kc, Kd, nG, D0, Jl, Br⟩ := hobt
   refine GoR.op (Br rfl) rfl rfl ?_
   replace ct := ct.ch nG.ch
   replace cA := cA.ch nG.ch
   replace cH := cH.ch nG.ch
   replace cB := cB.ch nG.ch
   replace de := de.ch nG.ch
   replace fS := fS.ch nG.ch
   replace eA := eA.ch nG.ch
   replace aj := aj.ch nG.ch
   replace hO := nG.own
   replace cY := cY.ch nG.ch
   replace d8 := d8.ch nG.ch
   replace eo := eo.ch nG.ch
   replace fE := fE.ch nG.ch
   replace hB := hB.trans nG.fr
   have hobt := freeze 0 hO rfl D0
   obtain ⟨hO1, rg, iG, D1⟩ := hobt
   dsimp only [eS, eZ] at hO1 rg iG
   replace cY := cY.ch rg
   replace d8 := d8.ch rg
   replace eo := eo.ch rg
   replace fE := fE.ch rg
   replace ct := ct.ch rg
   replace cA := cA.ch rg
   replace cH := cH.ch rg
   replace cB := cB.ch rg
   replace de := de.ch rg
   replace fS := fS.ch rg
   replace eA := eA.ch rg
   replace aj := aj.ch rg
   replace hB := hB.trans (Owns.dropFr _ _ 0)
   dsimp only [eS, eZ] at hB
   replace hO := hO1; clear hO1
   obtain ⟨HC, H⟩ := H
   have hobt := oapp Try.underlying26 ti3 rfl 4 hO rfl de iG D1 HC (by decide)
   obtain ⟨Ke, xb, xc, D2, nf, iX, Bs⟩ := hobt
   dsimp only [sS, sZ] at nf iX
   refine GoR.op (Bs (by exact rfl) (by exact rfl)) rfl rfl ?_
   replace ct := ct.ch nf.ch
   replace cA := cA.ch nf.ch
   replace cH := cH.ch nf.ch
   replace cB := cB.ch nf.ch
   replace fS := fS.ch nf.ch
   replace eA := eA.ch nf.ch
   replace aj := aj.ch nf.ch
   replace hO := nf.own
   replace cY := cY.ch nf.ch
   replace d8 := d8.ch nf.ch
   replace eo := eo.ch nf.ch
   replace fE := fE.ch nf.ch
   replace iG := iG.ch nf.ch
   replace hB := hB.trans nf.fr
   refine GoR.op ((op_nilCheck rfl) _) rfl rfl ?_
   refine GoR.op ((op_fieldAddr Try.underlying72 rfl ti29 rfl (by decide)) _) rfl rfl ?_
   refine GoR.op ((op_fieldAddr Try.underlying29 rfl ti26 rfl (by decide)) _) rfl rfl ?_
   have hobt := oblkSt2 (v := .slice xb (i7 + 1) xc) (i := 5) (cs' := #[.int .i64 ((ix a0 (0 : Int)).length : Int), .bool false, .slice p35 n37 c36, .slice uS (i9 + 1) uT, .slice v3 (i8 + 1) v4, .slice xb (i7 + 1) xc, .slice none 0 0, .slice jS i6 jT, .int .i64 (0 : Int), .map (some B4), .slice kn i5 ko, .slice jq i4 jR, .slice kl iU km]) 8 hO rfl rfl rfl rfl
   obtain ⟨Kf, mF, Bt⟩ := hobt
   dsimp only [sS, sZ] at mF
   refine GoR.op (Bt Try.underlying26 rfl ti26 (by exact rfl) (by exact rfl)) rfl rfl ?_
   replace ct := ct.ch mF.ch
   replace cA := cA.ch mF.ch
   replace cH := cH.ch mF.ch
   replace cB := cB.ch mF.ch
   replace iX := iX.ch mF.ch
   replace fS := fS.ch mF.ch
   replace eA := eA.ch mF.ch
   replace aj := aj.ch mF.ch
   replace hO := mF.own
   replace cY := cY.ch mF.ch
   replace d8 := d8.ch mF.ch
   replace eo := eo.ch mF.ch
   replace fE := fE.ch mF.ch
   replace iG := iG.ch mF.ch
   replace hB := hB.trans mF.fr
   refine GoR.nil ?_
   refine Go1.seq ?_
   refine Go1.region ?_
   refine GoR.op ((op_move rfl) _) rfl rfl ?_
   refine GoR.op ((op_move rfl) _) rfl rfl ?_
   refine GoR.op ((op_nilCheck rfl) _) rfl rfl ?_
   refine GoR.op ((op_fieldAddr Try.underlying72 rfl ti70 rfl (by decide)) _) rfl rfl ?_
   refine GoR.op ((oblk (i := 10) 8 hO rfl rfl Try.underlying70 rfl rfl) _ (Same.refl _)) rfl rfl ?_
   refine GoR.op ((op_move rfl) _) rfl rfl ?_
   have hobt := obuild (r := Rp.str) (n := 1) (parts := [(0, .string (gstr (chr (IntKind.i32.wrap ((97 : Int) + (k2_110 : Int))))))]) (vs := [.string (gstr (chr (IntKind.i32.wrap ((97 : Int) + (k2_110 : Int)))))]) (xs := [chr (IntKind.i32.wrap ((97 : Int) + (k2_110 : Int)))]) rfl Try.underlying70 ti9 hO (by decide) (by kernel_rfl) (Els.cons rfl ⟨rfl, (chr_le _)⟩ (Els.nil _ _ _) (by simp [mx])) rfl
   obtain ⟨HD, Kg, ng, D3, Jm, Bu⟩ := hobt
   refine GoR.op (Bu rfl) rfl rfl ?_
   replace ct := ct.ch ng.ch
   replace cA := cA.ch ng.ch
   replace cH := cH.ch ng.ch
   replace cB := cB.ch ng.ch
   replace iX := iX.ch ng.ch
   replace fS := fS.ch ng.ch
   replace eA := eA.ch ng.ch
   replace aj := aj.ch ng.ch
   replace hO := ng.own
   replace cY := cY.ch ng.ch
   replace d8 := d8.ch ng.ch
   replace eo := eo.ch ng.ch
   replace fE := fE.ch ng.ch
   replace iG := iG.ch ng.ch
   replace hB := hB.trans ng.fr
   have hobt := freeze 0 hO rfl D3
   obtain ⟨hO1, qD, lb, D4⟩ := hobt
   dsimp only [eS, eZ] at hO1 qD lb
   replace cY := cY.ch qD
   replace d8 := d8.ch qD
   replace eo := eo.ch qD
   replace fE := fE.ch qD
   replace iG := iG.ch qD
   replace ct := ct.ch qD
   replace cA := cA.ch qD
   replace cH := cH.ch qD
   replace cB := cB.ch qD
   replace iX := iX.ch qD
   replace fS := fS.ch qD
   replace eA := eA.ch qD
   replace aj := aj.ch qD
   replace hB := hB.trans (Owns.dropFr _ _ 0)
   dsimp only [eS, eZ] at hB
   replace hO := hO1; clear hO1
   obtain ⟨HE, H⟩ := H
   have hobt := oapp Try.underlying70 ti9 rfl 2 hO rfl cH lb D4 HE (by decide)
   obtain ⟨Kh, xZ, x2, D5, mG, mC, Bv⟩ := hobt
   dsimp only [sS, sZ] at mG mC
   refine GoR.op (Bv (by exact rfl) (by exact rfl)) rfl rfl ?_
   replace ct := ct.ch mG.ch
   replace cA := cA.ch mG.ch
   replace cB := cB.ch mG.ch
   replace iX := iX.ch mG.ch
   replace fS := fS.ch mG.ch
   replace eA := eA.ch mG.ch
   replace aj := aj.ch mG.ch
   replace hO := mG.own
   replace cY := cY.ch mG.ch
   replace d8 := d8.ch mG.ch
   replace eo := eo.ch mG.ch
   replace fE := fE.ch mG.ch
   replace iG := iG.ch mG.ch
   replace lb := lb.ch mG.ch
   replace hB := hB.trans mG.fr
   refine GoR.op ((op_nilCheck rfl) _) rfl rfl ?_
   refine GoR.op ((op_fieldAddr Try.underlying72 rfl ti70 rfl (by decide)) _) rfl rfl ?_
   have hobt := oblkSt2 (v := .slice xZ (i5 + 1) x2) (i := 10) (cs' := #[.int .i64 ((ix a0 (0 : Int)).length : Int), .bool false, .slice p35 n37 c36, .slice uS (i9 + 1) uT, .slice v3 (i8 + 1) v4, .slice xb (i7 + 1) xc, .slice none 0 0, .slice jS i6 jT, .int .i64 (0 : Int), .map (some B4), .slice xZ (i5 + 1) x2, .slice jq i4 jR, .slice kl iU km]) 8 hO rfl rfl rfl rfl
   obtain ⟨Ki, lJ, Bw⟩ := hobt
   dsimp only [sS, sZ] at lJ
   refine GoR.op (Bw Try.underlying70 rfl ti70 (by exact rfl) (by exact rfl)) rfl rfl ?_
   replace ct := ct.ch lJ.ch
   replace cA := cA.ch lJ.ch
   replace mC := mC.ch lJ.ch
   replace cB := cB.ch lJ.ch
   replace iX := iX.ch lJ.ch
   replace fS := fS.ch lJ.ch
   replace eA := eA.ch lJ.ch
   replace aj := aj.ch lJ.ch
   replace hO := lJ.own
   replace cY := cY.ch lJ.ch
   replace d8 := d8.ch lJ.ch
   replace eo := eo.ch lJ.ch
   replace fE := fE.ch lJ.ch
   replace iG := iG.ch lJ.ch
   replace lb := lb.ch lJ.ch
   replace hB := hB.trans lJ.fr
   refine GoR.nil ?_
   refine Go1.seq ?_
   refine Go1.cut [(0, .pointer (some ⟨B10, 0, none⟩)), (5, .int .i64 (-1 : Int)), (13, .int .i64 (d_147.length : Int))] ⟨rfl, rfl, rfl, trivial⟩ ?_
   intro σ _
   refine Go1.region ?_
   refine GoR.op ((op_move rfl) _) rfl rfl ?_
   refine GoR.op ((op_move rfl) _) rfl rfl ?_
   refine GoR.op ((op_nilCheck rfl) _) rfl rfl ?_
   refine GoR.op ((op_fieldAddr Try.underlying72 rfl ti26 rfl (by decide)) _) rfl rfl ?_
   refine GoR.op ((oblk (i := 11) 8 hO rfl rfl Try.underlying26 rfl rfl) _ (Same.refl _)) rfl rfl ?_
   refine GoR.op ((op_move rfl) _) rfl rfl ?_
   have hobt := obuild (r := Rp.int .i64) (n := 1) (parts := [(0, .int .i64 (-1 : Int))]) (vs := [.int .i64 (-1 : Int)]) (xs := [(-1 : Int)]) rfl Try.underlying26 ti3 hO (by decide) (by kernel_rfl) (Els.cons rfl rfl (Els.nil _ _ _) (by simp [mx])) rfl
   obtain ⟨Kj, Kk, mH, D6, Jo, Bx⟩ := hobt
   refine GoR.op (Bx rfl) rfl rfl ?_
   replace ct := ct.ch mH.ch
   replace cA := cA.ch mH.ch
   replace mC := mC.ch mH.ch
   replace cB := cB.ch mH.ch
   replace iX := iX.ch mH.ch
   replace fS := fS.ch mH.ch
   replace eA := eA.ch mH.ch
   replace aj := aj.ch mH.ch
   replace hO := mH.own
   replace cY := cY.ch mH.ch
   replace d8 := d8.ch mH.ch
   replace eo := eo.ch mH.ch
   replace fE := fE.ch mH.ch
   replace iG := iG.ch mH.ch
   replace lb := lb.ch mH.ch
   replace hB := hB.trans mH.fr
   have hobt := freeze 0 hO rfl D6
   obtain ⟨hO1, o3, qE, D7⟩ := hobt
   dsimp only [eS, eZ] at hO1 o3 qE
   replace cY := cY.ch o3
   replace d8 := d8.ch o3
   replace eo := eo.ch o3
   replace fE := fE.ch o3
   replace iG := iG.ch o3
   replace lb := lb.ch o3
   replace ct := ct.ch o3
   replace cA := cA.ch o3
   replace mC := mC.ch o3
   replace cB := cB.ch o3
   replace iX := iX.ch o3
   replace fS := fS.ch o3
   replace eA := eA.ch o3
   replace aj := aj.ch o3
   replace hB := hB.trans (Owns.dropFr _ _ 0)
   dsimp only [eS, eZ] at hB
   replace hO := hO1; clear hO1
   obtain ⟨HF, H⟩ := H
   have hobt := oapp Try.underlying26 ti3 rfl 1 hO rfl cA qE D7 HF (by decide)
   obtain ⟨Kl, yL, yM, D8, lK, rL, By⟩ := hobt
   dsimp only [sS, sZ] at lK rL
   refine GoR.op (By (by exact rfl) (by exact rfl)) rfl rfl ?_
   replace ct := ct.ch lK.ch
   replace mC := mC.ch lK.ch
   replace cB := cB.ch lK.ch
   replace iX := iX.ch lK.ch
   replace fS := fS.ch lK.ch
   replace eA := eA.ch lK.ch
   replace aj := aj.ch lK.ch
   replace hO := lK.own
   replace cY := cY.ch lK.ch
   replace d8 := d8.ch lK.ch
   replace eo := eo.ch lK.ch
   replace fE := fE.ch lK.ch
   replace iG := iG.ch lK.ch
   replace lb := lb.ch lK.ch
   replace qE := qE.ch lK.ch
   replace hB := hB.trans lK.fr
   refine GoR.op ((op_nilCheck rfl) _) rfl rfl ?_
   refine GoR.op ((op_fieldAddr Try.underlying72 rfl ti26 rfl (by decide)) _) rfl rfl ?_
   have hobt := oblkSt2 (v := .slice yL (i4 + 1) yM) (i := 11) (cs' := #[.int .i64 ((ix a0 (0 : Int)).length : Int), .bool false, .slice p35 n37 c36, .slice uS (i9 + 1) uT, .slice v3 (i8 + 1) v4, .slice xb (i7 + 1) xc, .slice none 0 0, .slice jS i6 jT, .int .i64 (0 : Int), .map (some B4), .slice xZ (i5 + 1) x2, .slice yL (i4 + 1) yM, .slice kl iU km]) 8 hO rfl rfl rfl rfl
   obtain ⟨Km, ll, Bz⟩ := hobt
   dsimp only [sS, sZ] at ll
   refine GoR.op (Bz Try.underlying26 rfl ti26 (by exact rfl) (by exact rfl)) rfl rfl ?_
   replace ct := ct.ch ll.ch
   replace rL := rL.ch ll.ch
   replace mC := mC.ch ll.ch
   replace cB := cB.ch ll.ch
   replace iX := iX.ch ll.ch
   replace fS := fS.ch ll.ch
   replace eA := eA.ch ll.ch
   replace aj := aj.ch ll.ch
   replace hO := ll.own
   replace cY := cY.ch ll.ch
   replace d8 := d8.ch ll.ch
   replace eo := eo.ch ll.ch
   replace fE := fE.ch ll.ch
   replace iG := iG.ch ll.ch
   replace lb := lb.ch ll.ch
   replace qE := qE.ch ll.ch
   replace hB := hB.trans ll.fr
   refine GoR.nil ?_
   refine Go1.seq ?_
   refine Go1.region ?_
   refine GoR.op ((op_move rfl) _) rfl rfl ?_
   refine GoR.op ((op_assign rfl) _) rfl rfl ?_
   refine GoR.nil ?_
   refine Go1.ret1V Try.func65 rfl (show _ = .int .i64 (d_147.length : Int) from rfl) ?_
   refine hR232 _ _ ?_
   refine GoR.op ((op_assign rfl) _) rfl rfl ?_
   refine GoR.nil ?_
   refine Go1.region ?_
   refine GoR.op ((op_move rfl) _) rfl rfl ?_
   refine GoR.op ((op_move rfl) _) rfl rfl ?_
   refine GoR.op ((op_nilCheck rfl) _) rfl rfl ?_
   refine GoR.op ((op_fieldAddr Try.underlying72 rfl ti26 rfl (by decide)) _) rfl rfl ?_
   refine GoR.op ((oblk (i := 12) 8 hO rfl rfl Try.underlying26 rfl rfl) _ (Same.refl _)) rfl rfl ?_
   refine GoR.op ((op_move rfl) _) rfl rfl ?_
   have hobt := obuild (r := Rp.int .i64) (n := 1) (parts := [(0, .int .i64 (d_147.length : Int))]) (vs := [.int .i64 (d_147.length : Int)]) (xs := [(d_147.length : Int)]) rfl Try.underlying26 ti3 hO (by decide) (by kernel_rfl) (Els.cons rfl rfl (Els.nil _ _ _) (by simp [mx])) rfl
   obtain ⟨Kn, Ko, lL, D9, Jp, BA⟩ := hobt
   refine GoR.op (BA rfl) rfl rfl ?_
   replace ct := ct.ch lL.ch
   replace rL := rL.ch lL.ch
   replace mC := mC.ch lL.ch
   replace cB := cB.ch lL.ch
   replace iX := iX.ch lL.ch
   replace fS := fS.ch lL.ch
   replace eA := eA.ch lL.ch
   replace aj := aj.ch lL.ch
   replace hO := lL.own
   replace cY := cY.ch lL.ch
   replace d8 := d8.ch lL.ch
   replace eo := eo.ch lL.ch
   replace fE := fE.ch lL.ch
   replace iG := iG.ch lL.ch
   replace lb := lb.ch lL.ch
   replace qE := qE.ch lL.ch
   replace hB := hB.trans lL.fr
   have hobt := freeze 0 hO rfl D9
   obtain ⟨hO1, oa, vo, Ea⟩ := hobt
   dsimp only [eS, eZ] at hO1 oa vo
   replace cY := cY.ch oa
   replace d8 := d8.ch oa
   replace eo := eo.ch oa
   replace fE := fE.ch oa
   replace iG := iG.ch oa
   replace lb := lb.ch oa
   replace qE := qE.ch oa
   replace ct := ct.ch oa
   replace rL := rL.ch oa
   replace mC := mC.ch oa
   replace cB := cB.ch oa
   replace iX := iX.ch oa
   replace fS := fS.ch oa
   replace eA := eA.ch oa
   replace aj := aj.ch oa
   replace hB := hB.trans (Owns.dropFr _ _ 0)
   dsimp only [eS, eZ] at hB
   replace hO := hO1; clear hO1
   obtain ⟨HG, H⟩ := H
   have hobt := oapp Try.underlying26 ti3 rfl 0 hO rfl ct vo Ea HG (by decide)
   obtain ⟨Kq, zV, zW, Eb, lm, xM, BB⟩ := hobt
   dsimp only [sS, sZ] at lm xM
   refine GoR.op (BB (by exact rfl) (by exact rfl)) rfl rfl ?_
   replace rL := rL.ch lm.ch
   replace mC := mC.ch lm.ch
   replace cB := cB.ch lm.ch
   replace iX := iX.ch lm.ch
   replace fS := fS.ch lm.ch
   replace eA := eA.ch lm.ch
   replace aj := aj.ch lm.ch
   replace hO := lm.own
   replace cY := cY.ch lm.ch
   replace d8 := d8.ch lm.ch
   replace eo := eo.ch lm.ch
   replace fE := fE.ch lm.ch
   replace iG := iG.ch lm.ch
   replace lb := lb.ch lm.ch
   replace qE := qE.ch lm.ch
   replace vo := vo.ch lm.ch
   replace hB := hB.trans lm.fr
   refine GoR.op ((op_nilCheck rfl) _) rfl rfl ?_
   refine GoR.op ((op_fieldAddr Try.underlying72 rfl ti26 rfl (by decide)) _) rfl rfl ?_
   have hobt := oblkSt2 (v := .slice zV (iU + 1) zW) (i := 12) (cs' := #[.int .i64 ((ix a0 (0 : Int)).length : Int), .bool false, .slice p35 n37 c36, .slice uS (i9 + 1) uT, .slice v3 (i8 + 1) v4, .slice xb (i7 + 1) xc, .slice none 0 0, .slice jS i6 jT, .int .i64 (0 : Int), .map (some B4), .slice xZ (i5 + 1) x2, .slice yL (i4 + 1) yM, .slice zV (iU + 1) zW]) 8 hO rfl rfl rfl rfl
   obtain ⟨Kr, kz, BC⟩ := hobt
   dsimp only [sS, sZ] at kz
   refine GoR.op (BC Try.underlying26 rfl ti26 (by exact rfl) (by exact rfl)) rfl rfl ?_
   replace xM := xM.ch kz.ch
   replace rL := rL.ch kz.ch
   replace mC := mC.ch kz.ch
   replace cB := cB.ch kz.ch
   replace iX := iX.ch kz.ch
   replace fS := fS.ch kz.ch
   replace eA := eA.ch kz.ch
   replace aj := aj.ch kz.ch
   replace hO := kz.own
   replace cY := cY.ch kz.ch
   replace d8 := d8.ch kz.ch
   replace eo := eo.ch kz.ch
   replace fE := fE.ch kz.ch
   replace iG := iG.ch kz.ch
   replace lb := lb.ch kz.ch
   replace qE := qE.ch kz.ch
   replace vo := vo.ch kz.ch
   replace hB := hB.trans kz.fr
   refine GoR.nil ?_
   refine Go1.inBlock ?_
   refine Go1.cut [(6, .pointer (some ⟨B10, 0, none⟩)), (9, .int .i64 (-1 : Int)), (85, .slice p35 n37 c36), (86, .int .i64 (d_32.length : Int)), (87, .int .i64 (k2_110 : Int))] ⟨rfl, rfl, rfl, rfl, rfl, trivial⟩ ?_
   intro σ _
   refine Go1.region ?_
   refine GoR.op ((op_add rfl rfl (wrap_i64 (natbd tD aj.bd))) _) rfl rfl ?_
   refine GoR.op ((op_move rfl) _) rfl rfl ?_
   refine GoR.nil ?_
   exact hX2 _ H _ _ ⟨iU + 1, zV, zW, Eb, i4 + 1, yL, yM, D8, i5 + 1, xZ, x2, D5, i6, jS, jT, oX, i7 + 1, xb, xc, D2, i8 + 1, v3, v4, DZ, i9 + 1, uS, uT, DW, ⟨rfl, rfl, rfl, rfl, rfl, trivial⟩, hO, xM, rL, mC, cB, iX, fS, eA, aj, hB⟩
  replace H := ifn tD H
  refine GoR.op ((fun w => opB (op_lss rfl rfl w) (decide_eq_false tD)) _) rfl rfl ?_
  refine GoR.nil ?_
  refine Go1.seq ?_
  refine Go1.condF rfl rfl ?_
  refine Go1.exit rfl ?_
  refine Go1.seq ?_
  refine Go1.region ?_
  refine GoR.op ((op_move rfl) _) rfl rfl ?_
  refine GoR.op ((op_assign rfl) _) rfl rfl ?_
  refine GoR.op ((op_assign rfl) _) rfl rfl ?_
  refine GoR.nil ?_
  have rF := Stp.nil (e := 26) (r := 1) hO
  replace ct := ct.ch rF.ch
  replace cA := cA.ch rF.ch
  replace cH := cH.ch rF.ch
  replace cB := cB.ch rF.ch
  replace de := de.ch rF.ch
  replace dt := dt.ch rF.ch
  replace dJ := dJ.ch rF.ch
  replace aj := aj.ch rF.ch
  replace hO := rF.own
  replace hB := hB.trans rF.fr
  have kA := Els.nil (Rp.sl (Rp.int .i64)) (bl (.row 26 1 none 0 0 [] :: [.row 3 1 kl iU km qB, .row 3 1 jq i4 jR oV, .row 9 1 kn i5 ko oW, .row 39 2 jS i6 jT oX, .row 3 1 kw i7 kx oY, .row 3 1 kZ i8 k8 oZ, .row 26 1 lF i9 lG o0, .row 26 1 p35 n37 c36 fM, .blk B10 (.cells #[.int .i64 ((ix a0 (0 : Int)).length : Int), .bool false, .slice p35 n37 c36, .slice lF i9 lG, .slice kZ i8 k8, .slice kw i7 kx, .slice none 0 0, .slice jS i6 jT, .int .i64 (0 : Int), .map (some B4), .slice kn i5 ko, .slice jq i4 jR, .slice kl iU km] 72 (0, 0)), .any (mapE (fun a : List UInt8 => Value.string (gstr a)) (fun a : Int => Value.int .i64 a) B4 m2_153)]) ++ A) xa
  have fW := Stp.front 10 hO rfl
  dsimp only [eS, eZ] at fW
  replace kA := kA.ch fW.ch
  replace ct := ct.ch fW.ch
  replace cA := cA.ch fW.ch
  replace cH := cH.ch fW.ch
  replace cB := cB.ch fW.ch
  replace de := de.ch fW.ch
  replace dt := dt.ch fW.ch
  replace dJ := dJ.ch fW.ch
  replace aj := aj.ch fW.ch
  replace hO := fW.own
  replace hB := hB.trans fW.fr
  have pI := Stp.front 2 hO rfl
  dsimp only [eS, eZ] at pI
  replace kA := kA.ch pI.ch
  replace ct := ct.ch pI.ch
  replace cA := cA.ch pI.ch
  replace cH := cH.ch pI.ch
  replace cB := cB.ch pI.ch
  replace de := de.ch pI.ch
  replace dt := dt.ch pI.ch
  replace dJ := dJ.ch pI.ch
  replace aj := aj.ch pI.ch
  replace hO := pI.own
  replace hB := hB.trans pI.fr
  have fQ := Stp.front 3 hO rfl
  dsimp only [eS, eZ] at fQ
  replace ct := ct.ch fQ.ch
  replace kA := kA.ch fQ.ch
  replace cA := cA.ch fQ.ch
  replace cH := cH.ch fQ.ch
  replace cB := cB.ch fQ.ch
  replace de := de.ch fQ.ch
  replace dt := dt.ch fQ.ch
  replace dJ := dJ.ch fQ.ch
  replace aj := aj.ch fQ.ch
  replace hO := fQ.own
  replace hB := hB.trans fQ.fr
  have pK := Stp.front 4 hO rfl
  dsimp only [eS, eZ] at pK
  replace cA := cA.ch pK.ch
  replace ct := ct.ch pK.ch
  replace kA := kA.ch pK.ch
  replace cH := cH.ch pK.ch
  replace cB := cB.ch pK.ch
  replace de := de.ch pK.ch
  replace dt := dt.ch pK.ch
  replace dJ := dJ.ch pK.ch
  replace aj := aj.ch pK.ch
  replace hO := pK.own
  replace hB := hB.trans pK.fr
  have pM := Stp.front 5 hO rfl
  dsimp only [eS, eZ] at pM
  replace cH := cH.ch pM.ch
  replace cA := cA.ch pM.ch
  replace ct := ct.ch pM.ch
  replace kA := kA.ch pM.ch
  replace cB := cB.ch pM.ch
  replace de := de.ch pM.ch
  replace dt := dt.ch pM.ch
  replace dJ := dJ.ch pM.ch
  replace aj := aj.ch pM.ch
  replace hO := pM.own
  replace hB := hB.trans pM.fr
  have pN := Stp.front 5 hO rfl
  dsimp only [eS, eZ] at pN
  replace cB := cB.ch pN.ch
  replace cH := cH.ch pN.ch
  replace cA := cA.ch pN.ch
  replace ct := ct.ch pN.ch
  replace kA := kA.ch pN.ch
  replace de := de.ch pN.ch
  replace dt := dt.ch pN.ch
  replace dJ := dJ.ch pN.ch
  replace aj := aj.ch pN.ch
  replace hO := pN.own
  replace hB := hB.trans pN.fr
  have fX := Stp.front 6 hO rfl
  dsimp only [eS, eZ] at fX
  replace kA := kA.ch fX.ch
  replace cB := cB.ch fX.ch
  replace cH := cH.ch fX.ch
  replace cA := cA.ch fX.ch
  replace ct := ct.ch fX.ch
  replace de := de.ch fX.ch
  replace dt := dt.ch fX.ch
  replace dJ := dJ.ch fX.ch
  replace aj := aj.ch fX.ch
  replace hO := fX.own
  replace hB := hB.trans fX.fr
  have pO := Stp.front 7 hO rfl
  dsimp only [eS, eZ] at pO
  replace de := de.ch pO.ch
  replace kA := kA.ch pO.ch
  replace cB := cB.ch pO.ch
  replace cH := cH.ch pO.ch
  replace cA := cA.ch pO.ch
  replace ct := ct.ch pO.ch
  replace dt := dt.ch pO.ch
  replace dJ := dJ.ch pO.ch
  replace aj := aj.ch pO.ch
  replace hO := pO.own
  replace hB := hB.trans pO.fr
  have pP := Stp.front 8 hO rfl
  dsimp only [eS, eZ] at pP
  replace dt := dt.ch pP.ch
  replace de := de.ch pP.ch
  replace kA := kA.ch pP.ch
  replace cB := cB.ch pP.ch
  replace cH := cH.ch pP.ch
  replace cA := cA.ch pP.ch
  replace ct := ct.ch pP.ch
  replace dJ := dJ.ch pP.ch
  replace aj := aj.ch pP.ch
  replace hO := pP.own
  replace hB := hB.trans pP.fr
  have pQ := Stp.front 9 hO rfl
  dsimp only [eS, eZ] at pQ
  replace dJ := dJ.ch pQ.ch
  replace dt := dt.ch pQ.ch
  replace de := de.ch pQ.ch
  replace kA := kA.ch pQ.ch
  replace cB := cB.ch pQ.ch
  replace cH := cH.ch pQ.ch
  replace cA := cA.ch pQ.ch
  replace ct := ct.ch pQ.ch
  replace aj := aj.ch pQ.ch
  replace hO := pQ.own
  replace hB := hB.trans pQ.fr
  have pS := Stp.front 10 hO rfl
  dsimp only [eS, eZ] at pS
  replace aj := aj.ch pS.ch
  replace dJ := dJ.ch pS.ch
  replace dt := dt.ch pS.ch
  replace de := de.ch pS.ch
  replace kA := kA.ch pS.ch
  replace cB := cB.ch pS.ch
  replace cH := cH.ch pS.ch
  replace cA := cA.ch pS.ch
  replace ct := ct.ch pS.ch
  replace hO := pS.own
  replace hB := hB.trans pS.fr
  refine Go1.ret2 Try.func49 rfl ?_
  exact Or.inr ⟨(⟨(⟨((ix a0 (0 : Int)).length : Int), false, d_32, d_147, d_141, d_135, ([] : List (List Int)), d_129, (0 : Int)⟩ : Enum), m2_153, d_123, d_117, d_111⟩ : run), ((0 : Int)), B10, n37, p35, c36, fM, i9, lF, lG, o0, i8, kZ, k8, oZ, i7, kw, kx, oY, 0, none, 0, ([]), i6, jS, jT, oX, B4, i5, kn, ko, oW, i4, jq, jR, oV, iU, kl, km, qB, rfl, hB.same, hO, aj, dJ, dt, de, kA, cB, cH, cA, ct, H⟩
 replace H := ifp rfl H
 refine Go1.condT rfl rfl ?_
 refine Go1.region ?_
 refine GoR.op ((op_move rfl) _) rfl rfl ?_
 refine GoR.op ((op_move rfl) _) rfl rfl ?_
 refine GoR.op ((op_nilCheck rfl) _) rfl rfl ?_
 refine GoR.op ((op_fieldAddr Try.underlying72 rfl ti29 rfl (by decide)) _) rfl rfl ?_
 refine GoR.op ((op_fieldAddr Try.underlying29 rfl ti3 rfl (by decide)) _) rfl rfl ?_
 refine GoR.op ((oblk (i := 0) 1 hO rfl rfl Try.underlying3 rfl rfl) _ (Same.refl _)) rfl rfl ?_
 refine GoR.call (op_call body62 rfl (walk_trans_Identity hO.lt H)) rfl rfl ?_
 rintro Ks Kt ⟨r397, uU, uV, rfl, Ec, dl, H⟩
 have wE := Stp.same hO Ec
 replace aj := aj.ch wE.ch
 replace hO := wE.own
 replace b7 := b7.ch wE.ch
 replace hB := hB.trans wE.fr
 refine GoR.inl (vs := [.pointer (some ⟨B10, 0, none⟩), .slice uU r397.length uV, .int .i64 (-1 : Int), .int .i64 (-1 : Int), .string (gstr (([] : Str))), .int .i64 (-1 : Int)]) (caps := []) rfl rfl body65 Try.func65 rfl Try.ntmps65 rfl rfl rfl ?_
 intro RhR403 hR403
 refine Go1.seq ?_
 refine Go1.region ?_
 refine GoR.op ((op_assign rfl) _) rfl rfl ?_
 refine GoR.nil ?_
 refine Go1.seq ?_
 refine Go1.region ?_
 refine GoR.op ((op_move rfl) _) rfl rfl ?_
 refine GoR.op ((op_nilCheck rfl) _) rfl rfl ?_
 refine GoR.op ((op_fieldAddr Try.underlying72 rfl ti29 rfl (by decide)) _) rfl rfl ?_
 refine GoR.op ((op_fieldAddr Try.underlying29 rfl ti22 rfl (by decide)) _) rfl rfl ?_
 refine GoR.op ((oblk (i := 3) 1 hO rfl rfl Try.underlying22 rfl rfl) _ (Same.refl _)) rfl rfl ?_
 refine GoR.op ((op_len Try.underlying22 rfl) _) rfl rfl ?_
 refine GoR.op ((op_assign rfl) _) rfl rfl ?_
 refine GoR.nil ?_
 refine Go1.seq ?_
 refine Go1.cut [(0, .pointer (some ⟨B10, 0, none⟩)), (1, .slice uU r397.length uV), (2, .int .i64 (-1 : Int)), (3, .int .i64 (-1 : Int)), (4, .string (gstr (([] : Str)))), (5, .int .i64 (-1 : Int)), (13, .int .i64 (0 : Int))] ⟨rfl, rfl, rfl, rfl, rfl, rfl, rfl, trivial⟩ ?_
 intro σ _
 refine Go1.drawS 1 [(0, .pure), (1, .pure), (2, .pure), (3, .stable), (4, .pure), (6, .pure), (5, .loud), (7, .last)] mixed (by kernel_rfl) ?_
 intro Ku Ed
 have uW := Stp.same hO Ed
 replace aj := aj.ch uW.ch
 replace hO := uW.own
 replace b7 := b7.ch uW.ch
 replace dl := dl.ch uW.ch
 replace hB := hB.trans uW.fr
 refine GoQ.pure rfl (op_move rfl) rfl rfl ?_
 refine GoQ.pure rfl (op_nilCheck rfl) rfl rfl ?_
 refine GoQ.pure rfl (op_fieldAddr Try.underlying72 rfl ti69 rfl (by decide)) rfl rfl ?_
 refine GoQ.stable rfl (oblk (i := 9) 1 hO rfl rfl Try.underlying69 rfl rfl) rfl rfl ?_
 refine GoQ.pure rfl (op_move rfl) rfl rfl ?_
 refine GoQ.pure rfl (op_move rfl) rfl rfl ?_
 refine GoQ.call rfl (op_call body61 rfl (walk_enumerate_text hO.lt dl H)) (fun v w hr => by obtain ⟨_, _, hs, _, _⟩ := hr; assumption) rfl rfl ?_
 rintro Kv Kw ⟨r407, rfl, Ee, I7, H⟩
 have uX := Stp.same hO Ee
 replace aj := aj.ch uX.ch
 replace hO := uX.own
 replace b7 := b7.ch uX.ch
 replace dl := dl.ch uX.ch
 replace hB := hB.trans uX.fr
 have hobt := omapUpd (MK.str Try.underlying9) 2 hO rfl Try.underlying69 r407 (0 : Int)
 obtain ⟨Kx, ja, BD⟩ := hobt
 refine GoQ.last rfl (BD (by exact rfl) (by exact rfl) (by exact rfl)) rfl rfl ?_
 replace aj := aj.ch ja.ch
 replace hO := ja.own
 replace b7 := b7.ch ja.ch
 replace dl := dl.ch ja.ch
 replace hB := hB.trans ja.fr
 refine GoQ.nil ?_
 refine Go1.seq ?_
 refine Go1.region ?_
 refine GoR.op ((op_move rfl) _) rfl rfl ?_
 refine GoR.op ((op_move rfl) _) rfl rfl ?_
 refine GoR.op ((op_nilCheck rfl) _) rfl rfl ?_
 refine GoR.op ((op_fieldAddr Try.underlying72 rfl ti29 rfl (by decide)) _) rfl rfl ?_
 refine GoR.op ((op_fieldAddr Try.underlying29 rfl ti22 rfl (by decide)) _) rfl rfl ?_
 refine GoR.op ((oblk (i := 3) 1 hO rfl rfl Try.underlying22 rfl rfl) _ (Same.refl _)) rfl rfl ?_
 refine GoR.op ((op_move rfl) _) rfl rfl ?_
 have hobt := obuild (r := Rp.sl (Rp.int .i64)) (n := 1) (parts := [(0, .slice uU r397.length uV)]) (vs := [.slice uU r397.length uV]) (xs := [r397]) rfl Try.underlying22 ti26 hO (by decide) (by kernel_rfl) (Els.cons rfl ⟨uU, uV, rfl, dl⟩ (Els.nil _ _ _) (by simp [mx])) rfl
 obtain ⟨HH, Ky, uY, Ef, Jq, BE⟩ := hobt
 refine GoR.op (BE rfl) rfl rfl ?_
 replace aj := aj.ch uY.ch
 replace hO := uY.own
 replace b7 := b7.ch uY.ch
 replace dl := dl.ch uY.ch
 replace hB := hB.trans uY.fr
 have hobt := freeze 0 hO rfl Ef
 obtain ⟨hO1, yN, d5, Eg⟩ := hobt
 replace b7 := b7.ch yN
 replace dl := dl.ch yN
 replace aj := aj.ch yN
 replace hB := hB.trans (Owns.dropFr _ _ 0)
 replace hO := hO1; clear hO1
 have iF := Stp.nil (e := 26) (r := 1) hO
 replace aj := aj.ch iF.ch
 replace hO := iF.own
 replace b7 := b7.ch iF.ch
 replace dl := dl.ch iF.ch
 replace d5 := d5.ch iF.ch
 replace hB := hB.trans iF.fr
 have gT := Els.nil (Rp.sl (Rp.int .i64)) (bl (.row 26 1 none 0 0 [] :: [.row 26 1 p35 n37 c36 fM, .blk B10 (.cells #[.int .i64 ((ix a0 (0 : Int)).length : Int), .bool true, .slice p35 n37 c36, .slice none 0 0, .slice none 0 0, .slice none 0 0, .slice none 0 0, .slice none 0 0, .int .i64 (0 : Int), .map (some B4), .slice none 0 0, .slice none 0 0, .slice none 0 0] 72 (0, 0)), .any (mapE (fun a : List UInt8 => Value.string (gstr a)) (fun a : Int => Value.int .i64 a) B4 (mput (([] : List (Str × Int))) r407 ((0 : Int))))]) ++ A) HH
 obtain ⟨HI, H⟩ := H
 have hobt := oapp Try.underlying22 ti26 rfl 0 hO rfl gT d5 Eg HI (by decide)
 obtain ⟨Kz, o4, o5, uH, uu, eh, BG⟩ := hobt
 refine GoR.op (BG (by exact rfl) (by exact rfl)) rfl rfl ?_
 replace aj := aj.ch uu.ch
 replace hO := uu.own
 replace b7 := b7.ch uu.ch
 replace dl := dl.ch uu.ch
 replace d5 := d5.ch uu.ch
 replace hB := hB.trans uu.fr
 refine GoR.op ((op_nilCheck rfl) _) rfl rfl ?_
 refine GoR.op ((op_fieldAddr Try.underlying72 rfl ti29 rfl (by decide)) _) rfl rfl ?_
 refine GoR.op ((op_fieldAddr Try.underlying29 rfl ti22 rfl (by decide)) _) rfl rfl ?_
 have hobt := oblkSt2 (v := .slice o4 (0 + 1) o5) (i := 3) (cs' := #[.int .i64 ((ix a0 (0 : Int)).length : Int), .bool true, .slice p35 n37 c36, .slice o4 (0 + 1) o5, .slice none 0 0, .slice none 0 0, .slice none 0 0, .slice none 0 0, .int .i64 (0 : Int), .map (some B4), .slice none 0 0, .slice none 0 0, .slice none 0 0]) 2 hO rfl rfl rfl rfl
 obtain ⟨KA, tE, BH⟩ := hobt
 refine GoR.op (BH Try.underlying22 rfl ti22 (by exact rfl) (by exact rfl)) rfl rfl ?_
 replace eh := eh.ch tE.ch
 replace aj := aj.ch tE.ch
 replace hO := tE.own
 replace b7 := b7.ch tE.ch
 replace dl := dl.ch tE.ch
 replace d5 := d5.ch tE.ch
 replace hB := hB.trans tE.fr
 refine GoR.nil ?_
 refine Go1.seq ?_
 refine Go1.cut [(0, .pointer (some ⟨B10, 0, none⟩)), (2, .int .i64 (-1 : Int)), (3, .int .i64 (-1 : Int)), (4, .string (gstr (([] : Str)))), (5, .int .i64 (-1 : Int)), (13, .int .i64 (0 : Int))] ⟨rfl, rfl, rfl, rfl, rfl, rfl, trivial⟩ ?_
 intro σ _
 refine Go1.region ?_
 refine GoR.op ((op_move rfl) _) rfl rfl ?_
 refine GoR.op ((op_move rfl) _) rfl rfl ?_
 refine GoR.op ((op_nilCheck rfl) _) rfl rfl ?_
 refine GoR.op ((op_fieldAddr Try.underlying72 rfl ti29 rfl (by decide)) _) rfl rfl ?_
 refine GoR.op ((op_fieldAddr Try.underlying29 rfl ti26 rfl (by decide)) _) rfl rfl ?_
 refine GoR.op ((oblk (i := 4) 2 hO rfl rfl Try.underlying26 rfl rfl) _ (Same.refl _)) rfl rfl ?_
 refine GoR.op ((op_move rfl) _) rfl rfl ?_
 have hobt := obuild (r := Rp.int .i64) (n := 1) (parts := [(0, .int .i64 (-1 : Int))]) (vs := [.int .i64 (-1 : Int)]) (xs := [(-1 : Int)]) rfl Try.underlying26 ti3 hO (by decide) (by kernel_rfl) (Els.cons rfl rfl (Els.nil _ _ _) (by simp [mx])) rfl
 obtain ⟨HJ, KB, tF, Eh, Jr, BI⟩ := hobt
 refine GoR.op (BI rfl) rfl rfl ?_
 replace eh := eh.ch tF.ch
 replace aj := aj.ch tF.ch
 replace hO := tF.own
 replace b7 := b7.ch tF.ch
 replace dl := dl.ch tF.ch
 replace d5 := d5.ch tF.ch
 replace hB := hB.trans tF.fr
 have hobt := freeze 0 hO rfl Eh
 obtain ⟨hO1, vp, fd, Ei⟩ := hobt
 dsimp only [eS, eZ] at hO1 vp fd
 replace b7 := b7.ch vp
 replace dl := dl.ch vp
 replace d5 := d5.ch vp
 replace eh := eh.ch vp
 replace aj := aj.ch vp
 replace hB := hB.trans (Owns.dropFr _ _ 0)
 dsimp only [eS, eZ] at hB
 replace hO := hO1; clear hO1
 have sT := Stp.nil (e := 3) (r := 1) hO
 replace eh := eh.ch sT.ch
 replace aj := aj.ch sT.ch
 replace hO := sT.own
 replace b7 := b7.ch sT.ch
 replace dl := dl.ch sT.ch
 replace d5 := d5.ch sT.ch
 replace fd := fd.ch sT.ch
 replace hB := hB.trans sT.fr
 have Ej := Els.nil (Rp.int .i64) (bl (.row 3 1 none 0 0 [] :: [.row 26 1 o4 (0 + 1) o5 uH, .row 26 1 p35 n37 c36 fM, .blk B10 (.cells #[.int .i64 ((ix a0 (0 : Int)).length : Int), .bool true, .slice p35 n37 c36, .slice o4 (0 + 1) o5, .slice none 0 0, .slice none 0 0, .slice none 0 0, .slice none 0 0, .int .i64 (0 : Int), .map (some B4), .slice none 0 0, .slice none 0 0, .slice none 0 0] 72 (0, 0)), .any (mapE (fun a : List UInt8 => Value.string (gstr a)) (fun a : Int => Value.int .i64 a) B4 (mput (([] : List (Str × Int))) r407 ((0 : Int))))]) ++ A) HJ
 obtain ⟨HK, H⟩ := H
 have hobt := oapp Try.underlying26 ti3 rfl 0 hO rfl Ej fd Ei HK (by decide)
 obtain ⟨KC, rs, ru, vq, sa, fF, x3⟩ := hobt
 dsimp only [sS, sZ] at sa fF
 refine GoR.op (x3 (by exact rfl) (by exact rfl)) rfl rfl ?_
 replace eh := eh.ch sa.ch
 replace aj := aj.ch sa.ch
 replace hO := sa.own
 replace b7 := b7.ch sa.ch
 replace dl := dl.ch sa.ch
 replace d5 := d5.ch sa.ch
 replace fd := fd.ch sa.ch
 replace hB := hB.trans sa.fr
 refine GoR.op ((op_nilCheck rfl) _) rfl rfl ?_
 refine GoR.op ((op_fieldAddr Try.underlying72 rfl ti29 rfl (by decide)) _) rfl rfl ?_
 refine GoR.op ((op_fieldAddr Try.underlying29 rfl ti26 rfl (by decide)) _) rfl rfl ?_
 have hobt := oblkSt2 (v := .slice rs (0 + 1) ru) (i := 4) (cs' := #[.int .i64 ((ix a0 (0 : Int)).length : Int), .bool true, .slice p35 n37 c36, .slice o4 (0 + 1) o5, .slice rs (0 + 1) ru, .slice none 0 0, .slice none 0 0, .slice none 0 0, .int .i64 (0 : Int), .map (some B4), .slice none 0 0, .slice none 0 0, .slice none 0 0]) 3 hO rfl rfl rfl rfl
 obtain ⟨KD, rG, BJ⟩ := hobt
 dsimp only [sS, sZ] at rG
 refine GoR.op (BJ Try.underlying26 rfl ti26 (by exact rfl) (by exact rfl)) rfl rfl ?_
 replace fF := fF.ch rG.ch
 replace eh := eh.ch rG.ch
 replace aj := aj.ch rG.ch
 replace hO := rG.own
 replace b7 := b7.ch rG.ch
 replace dl := dl.ch rG.ch
 replace d5 := d5.ch rG.ch
 replace fd := fd.ch rG.ch
 replace hB := hB.trans rG.fr
 refine GoR.nil ?_
 refine Go1.seq ?_
 refine Go1.region ?_
 refine GoR.op ((op_move rfl) _) rfl rfl ?_
 refine GoR.op ((op_move rfl) _) rfl rfl ?_
 refine GoR.op ((op_nilCheck rfl) _) rfl rfl ?_
 refine GoR.op ((op_fieldAddr Try.underlying72 rfl ti29 rfl (by decide)) _) rfl rfl ?_
 refine GoR.op ((op_fieldAddr Try.underlying29 rfl ti26 rfl (by decide)) _) rfl rfl ?_
 refine GoR.op ((oblk (i := 5) 3 hO rfl rfl Try.underlying26 rfl rfl) _ (Same.refl _)) rfl rfl ?_
 refine GoR.op ((op_move rfl) _) rfl rfl ?_
 have hobt := obuild (r := Rp.int .i64) (n := 1) (parts := [(0, .int .i64 (-1 : Int))]) (vs := [.int .i64 (-1 : Int)]) (xs := [(-1 : Int)]) rfl Try.underlying26 ti3 hO (by decide) (by kernel_rfl) (Els.cons rfl rfl (Els.nil _ _ _) (by simp [mx])) rfl
 obtain ⟨HL, KE, sb, Ek, Js, BK⟩ := hobt
 refine GoR.op (BK rfl) rfl rfl ?_
 replace fF := fF.ch sb.ch
 replace eh := eh.ch sb.ch
 replace aj := aj.ch sb.ch
 replace hO := sb.own
 replace b7 := b7.ch sb.ch
 replace dl := dl.ch sb.ch
 replace d5 := d5.ch sb.ch
 replace fd := fd.ch sb.ch
 replace hB := hB.trans sb.fr
 have hobt := freeze 0 hO rfl Ek
 obtain ⟨hO1, tQ, gU, El⟩ := hobt
 dsimp only [eS, eZ] at hO1 tQ gU
 replace b7 := b7.ch tQ
 replace dl := dl.ch tQ
 replace d5 := d5.ch tQ
 replace fd := fd.ch tQ
 replace fF := fF.ch tQ
 replace eh := eh.ch tQ
 replace aj := aj.ch tQ
 replace hB := hB.trans (Owns.dropFr _ _ 0)
 dsimp only [eS, eZ] at hB
 replace hO := hO1; clear hO1
 have rH := Stp.nil (e := 3) (r := 1) hO
 replace fF := fF.ch rH.ch
 replace eh := eh.ch rH.ch
 replace aj := aj.ch rH.ch
 replace hO := rH.own
 replace b7 := b7.ch rH.ch
 replace dl := dl.ch rH.ch
 replace d5 := d5.ch rH.ch
 replace fd := fd.ch rH.ch
 replace gU := gU.ch rH.ch
 replace hB := hB.trans rH.fr
 have Em := Els.nil (Rp.int .i64) (bl (.row 3 1 none 0 0 [] :: [.row 3 1 rs (0 + 1) ru vq, .row 26 1 o4 (0 + 1) o5 uH, .row 26 1 p35 n37 c36 fM, .blk B10 (.cells #[.int .i64 ((ix a0 (0 : Int)).length : Int), .bool true, .slice p35 n37 c36, .slice o4 (0 + 1) o5, .slice rs (0 + 1) ru, .slice none 0 0, .slice none 0 0, .slice none 0 0, .int .i64 (0 : Int), .map (some B4), .slice none 0 0, .slice none 0 0, .slice none 0 0] 72 (0, 0)), .any (mapE (fun a : List UInt8 => Value.string (gstr a)) (fun a : Int => Value.int .i64 a) B4 (mput (([] : List (Str × Int))) r407 ((0 : Int))))]) ++ A) HL
 obtain ⟨HM, H⟩ := H
 have hobt := oapp Try.underlying26 ti3 rfl 0 hO rfl Em gU El HM (by decide)
 obtain ⟨KF, sy, sA, wF, qS, iY, BL⟩ := hobt
 dsimp only [sS, sZ] at qS iY
 refine GoR.op (BL (by exact rfl) (by exact rfl)) rfl rfl ?_
 replace fF := fF.ch qS.ch
 replace eh := eh.ch qS.ch
 replace aj := aj.ch qS.ch
 replace hO := qS.own
 replace b7 := b7.ch qS.ch
 replace dl := dl.ch qS.ch
 replace d5 := d5.ch qS.ch
 replace fd := fd.ch qS.ch
 replace gU := gU.ch qS.ch
 replace hB := hB.trans qS.fr
 refine GoR.op ((op_nilCheck rfl) _) rfl rfl ?_
 refine GoR.op ((op_fieldAddr Try.underlying72 rfl ti29 rfl (by decide)) _) rfl rfl ?_
 refine GoR.op ((op_fieldAddr Try.underlying29 rfl ti26 rfl (by decide)) _) rfl rfl ?_
 have hobt := oblkSt2 (v := .slice sy (0 + 1) sA) (i := 5) (cs' := #[.int .i64 ((ix a0 (0 : Int)).length : Int), .bool true, .slice p35 n37 c36, .slice o4 (0 + 1) o5, .slice rs (0 + 1) ru, .slice sy (0 + 1) sA, .slice none 0 0, .slice none 0 0, .int .i64 (0 : Int), .map (some B4), .slice none 0 0, .slice none 0 0, .slice none 0 0]) 4 hO rfl rfl rfl rfl
 obtain ⟨KG, pT, BM⟩ := hobt
 dsimp only [sS, sZ] at pT
 refine GoR.op (BM Try.underlying26 rfl ti26 (by exact rfl) (by exact rfl)) rfl rfl ?_
 replace iY := iY.ch pT.ch
 replace fF := fF.ch pT.ch
 replace eh := eh.ch pT.ch
 replace aj := aj.ch pT.ch
 replace hO := pT.own
 replace b7 := b7.ch pT.ch
 replace dl := dl.ch pT.ch
 replace d5 := d5.ch pT.ch
 replace fd := fd.ch pT.ch
 replace gU := gU.ch pT.ch
 replace hB := hB.trans pT.fr
 refine GoR.nil ?_
 refine Go1.seq ?_
 refine Go1.cut [(0, .pointer (some ⟨B10, 0, none⟩)), (4, .string (gstr (([] : Str)))), (5, .int .i64 (-1 : Int)), (13, .int .i64 (0 : Int))] ⟨rfl, rfl, rfl, rfl, trivial⟩ ?_
 intro σ _
 refine Go1.region ?_
 refine GoR.op ((op_move rfl) _) rfl rfl ?_
 refine GoR.op ((op_move rfl) _) rfl rfl ?_
 refine GoR.op ((op_nilCheck rfl) _) rfl rfl ?_
 refine GoR.op ((op_fieldAddr Try.underlying72 rfl ti70 rfl (by decide)) _) rfl rfl ?_
 refine GoR.op ((oblk (i := 10) 4 hO rfl rfl Try.underlying70 rfl rfl) _ (Same.refl _)) rfl rfl ?_
 refine GoR.op ((op_move rfl) _) rfl rfl ?_
 have hobt := obuild (r := Rp.str) (n := 1) (parts := [(0, .string (gstr (([] : Str))))]) (vs := [.string (gstr (([] : Str)))]) (xs := [([] : Str)]) rfl Try.underlying70 ti9 hO (by decide) (by kernel_rfl) (Els.cons rfl ⟨rfl, (by decide)⟩ (Els.nil _ _ _) (by simp [mx])) rfl
 obtain ⟨HN, KH, fB, tR, Jt, BN⟩ := hobt
 refine GoR.op (BN rfl) rfl rfl ?_
 replace iY := iY.ch fB.ch
 replace fF := fF.ch fB.ch
 replace eh := eh.ch fB.ch
 replace aj := aj.ch fB.ch
 replace hO := fB.own
 replace b7 := b7.ch fB.ch
 replace dl := dl.ch fB.ch
 replace d5 := d5.ch fB.ch
 replace fd := fd.ch fB.ch
 replace gU := gU.ch fB.ch
 replace hB := hB.trans fB.fr
 have hobt := freeze 0 hO rfl tR
 obtain ⟨hO1, sJ, ld, En⟩ := hobt
 dsimp only [eS, eZ] at hO1 sJ ld
 replace b7 := b7.ch sJ
 replace dl := dl.ch sJ
 replace d5 := d5.ch sJ
 replace fd := fd.ch sJ
 replace gU := gU.ch sJ
 replace iY := iY.ch sJ
 replace fF := fF.ch sJ
 replace eh := eh.ch sJ
 replace aj := aj.ch sJ
 replace hB := hB.trans (Owns.dropFr _ _ 0)
 dsimp only [eS, eZ] at hB
 replace hO := hO1; clear hO1
 have pU := Stp.nil (e := 9) (r := 1) hO
 replace iY := iY.ch pU.ch
 replace fF := fF.ch pU.ch
 replace eh := eh.ch pU.ch
 replace aj := aj.ch pU.ch
 replace hO := pU.own
 replace b7 := b7.ch pU.ch
 replace dl := dl.ch pU.ch
 replace d5 := d5.ch pU.ch
 replace fd := fd.ch pU.ch
 replace gU := gU.ch pU.ch
 replace ld := ld.ch pU.ch
 replace hB := hB.trans pU.fr
 have Eo := Els.nil (Rp.str) (bl (.row 9 1 none 0 0 [] :: [.row 3 1 sy (0 + 1) sA wF, .row 3 1 rs (0 + 1) ru vq, .row 26 1 o4 (0 + 1) o5 uH, .row 26 1 p35 n37 c36 fM, .blk B10 (.cells #[.int .i64 ((ix a0 (0 : Int)).length : Int), .bool true, .slice p35 n37 c36, .slice o4 (0 + 1) o5, .slice rs (0 + 1) ru, .slice sy (0 + 1) sA, .slice none 0 0, .slice none 0 0, .int .i64 (0 : Int), .map (some B4), .slice none 0 0, .slice none 0 0, .slice none 0 0] 72 (0, 0)), .any (mapE (fun a : List UInt8 => Value.string (gstr a)) (fun a : Int => Value.int .i64 a) B4 (mput (([] : List (Str × Int))) r407 ((0 : Int))))]) ++ A) HN
 obtain ⟨HO, H⟩ := H
 have hobt := oapp Try.underlying70 ti9 rfl 0 hO rfl Eo ld En HO (by decide)
 obtain ⟨KI, ui, uj, xN, oA, ny, BO⟩ := hobt
 dsimp only [sS, sZ] at oA ny
 refine GoR.op (BO (by exact rfl) (by exact rfl)) rfl rfl ?_
 replace iY := iY.ch oA.ch
 replace fF := fF.ch oA.ch
 replace eh := eh.ch oA.ch
 replace aj := aj.ch oA.ch
 replace hO := oA.own
 replace b7 := b7.ch oA.ch
 replace dl := dl.ch oA.ch
 replace d5 := d5.ch oA.ch
 replace fd := fd.ch oA.ch
 replace gU := gU.ch oA.ch
 replace ld := ld.ch oA.ch
 replace hB := hB.trans oA.fr
 refine GoR.op ((op_nilCheck rfl) _) rfl rfl ?_
 refine GoR.op ((op_fieldAddr Try.underlying72 rfl ti70 rfl (by decide)) _) rfl rfl ?_
 have hobt := oblkSt2 (v := .slice ui (0 + 1) uj) (i := 10) (cs' := #[.int .i64 ((ix a0 (0 : Int)).length : Int), .bool true, .slice p35 n37 c36, .slice o4 (0 + 1) o5, .slice rs (0 + 1) ru, .slice sy (0 + 1) sA, .slice none 0 0, .slice none 0 0, .int .i64 (0 : Int), .map (some B4), .slice ui (0 + 1) uj, .slice none 0 0, .slice none 0 0]) 5 hO rfl rfl rfl rfl
 obtain ⟨KJ, nH, x4⟩ := hobt
 dsimp only [sS, sZ] at nH
 refine GoR.op (x4 Try.underlying70 rfl ti70 (by exact rfl) (by exact rfl)) rfl rfl ?_
 replace ny := ny.ch nH.ch
 replace iY := iY.ch nH.ch
 replace fF := fF.ch nH.ch
 replace eh := eh.ch nH.ch
 replace aj := aj.ch nH.ch
 replace hO := nH.own
 replace b7 := b7.ch nH.ch
 replace dl := dl.ch nH.ch
 replace d5 := d5.ch nH.ch
 replace fd := fd.ch nH.ch
 replace gU := gU.ch nH.ch
 replace ld := ld.ch nH.ch
 replace hB := hB.trans nH.fr
 refine GoR.nil ?_
 refine Go1.seq ?_
 refine Go1.region ?_
 refine GoR.op ((op_move rfl) _) rfl rfl ?_
 refine GoR.op ((op_move rfl) _) rfl rfl ?_
 refine GoR.op ((op_nilCheck rfl) _) rfl rfl ?_
 refine GoR.op ((op_fieldAddr Try.underlying72 rfl ti26 rfl (by decide)) _) rfl rfl ?_
 refine GoR.op ((oblk (i := 11) 5 hO rfl rfl Try.underlying26 rfl rfl) _ (Same.refl _)) rfl rfl ?_
 refine GoR.op ((op_move rfl) _) rfl rfl ?_
 have hobt := obuild (r := Rp.int .i64) (n := 1) (parts := [(0, .int .i64 (-1 : Int))]) (vs := [.int .i64 (-1 : Int)]) (xs := [(-1 : Int)]) rfl Try.underlying26 ti3 hO (by decide) (by kernel_rfl) (Els.cons rfl rfl (Els.nil _ _ _) (by simp [mx])) rfl
 obtain ⟨HP, KK, oB, Ep, Ju, BP⟩ := hobt
 refine GoR.op (BP rfl) rfl rfl ?_
 replace ny := ny.ch oB.ch
 replace iY := iY.ch oB.ch
 replace fF := fF.ch oB.ch
 replace eh := eh.ch oB.ch
 replace aj := aj.ch oB.ch
 replace hO := oB.own
 replace b7 := b7.ch oB.ch
 replace dl := dl.ch oB.ch
 replace d5 := d5.ch oB.ch
 replace fd := fd.ch oB.ch
 replace gU := gU.ch oB.ch
 replace ld := ld.ch oB.ch
 replace hB := hB.trans oB.fr
 have hobt := freeze 0 hO rfl Ep
 obtain ⟨hO1, rM, rN, Er⟩ := hobt
 dsimp only [eS, eZ] at hO1 rM rN
 replace b7 := b7.ch rM
 replace dl := dl.ch rM
 replace d5 := d5.ch rM
 replace fd := fd.ch rM
 replace gU := gU.ch rM
 replace ld := ld.ch rM
 replace ny := ny.ch rM
 replace iY := iY.ch rM
 replace fF := fF.ch rM
 replace eh := eh.ch rM
 replace aj := aj.ch rM
 replace hB := hB.trans (Owns.dropFr _ _ 0)
 dsimp only [eS, eZ] at hB
 replace hO := hO1; clear hO1
 have nI := Stp.nil (e := 3) (r := 1) hO
 replace ny := ny.ch nI.ch
 replace iY := iY.ch nI.ch
 replace fF := fF.ch nI.ch
 replace eh := eh.ch nI.ch
 replace aj := aj.ch nI.ch
 replace hO := nI.own
 replace b7 := b7.ch nI.ch
 replace dl := dl.ch nI.ch
 replace d5 := d5.ch nI.ch
 replace fd := fd.ch nI.ch
 replace gU := gU.ch nI.ch
 replace ld := ld.ch nI.ch
 replace rN := rN.ch nI.ch
 replace hB := hB.trans nI.fr
 have Et := Els.nil (Rp.int .i64) (bl (.row 3 1 none 0 0 [] :: [.row 9 1 ui (0 + 1) uj xN, .row 3 1 sy (0 + 1) sA wF, .row 3 1 rs (0 + 1) ru vq, .row 26 1 o4 (0 + 1) o5 uH, .row 26 1 p35 n37 c36 fM, .blk B10 (.cells #[.int .i64 ((ix a0 (0 : Int)).length : Int), .bool true, .slice p35 n37 c36, .slice o4 (0 + 1) o5, .slice rs (0 + 1) ru, .slice sy (0 + 1) sA, .slice none 0 0, .slice none 0 0, .int .i64 (0 : Int), .map (some B4), .slice ui (0 + 1) uj, .slice none 0 0, .slice none 0 0] 72 (0, 0)), .any (mapE (fun a : List UInt8 => Value.string (gstr a)) (fun a : Int => Value.int .i64 a) B4 (mput (([] : List (Str × Int))) r407 ((0 : Int))))]) ++ A) HP
 obtain ⟨HQ, H⟩ := H
 have hobt := oapp Try.underlying26 ti3 rfl 0 hO rfl Et rN Er HQ (by decide)
 obtain ⟨KL, v7, v8, yO, fR, tS, BQ⟩ := hobt
 dsimp only [sS, sZ] at fR tS
 refine GoR.op (BQ (by exact rfl) (by exact rfl)) rfl rfl ?_
 replace ny := ny.ch fR.ch
 replace iY := iY.ch fR.ch
 replace fF := fF.ch fR.ch
 replace eh := eh.ch fR.ch
 replace aj := aj.ch fR.ch
 replace hO := fR.own
 replace b7 := b7.ch fR.ch
 replace dl := dl.ch fR.ch
 replace d5 := d5.ch fR.ch
 replace fd := fd.ch fR.ch
 replace gU := gU.ch fR.ch
 replace ld := ld.ch fR.ch
 replace rN := rN.ch fR.ch
 replace hB := hB.trans fR.fr
 refine GoR.op ((op_nilCheck rfl) _) rfl rfl ?_
 refine GoR.op ((op_fieldAddr Try.underlying72 rfl ti26 rfl (by decide)) _) rfl rfl ?_
 have hobt := oblkSt2 (v := .slice v7 (0 + 1) v8) (i := 11) (cs' := #[.int .i64 ((ix a0 (0 : Int)).length : Int), .bool true, .slice p35 n37 c36, .slice o4 (0 + 1) o5, .slice rs (0 + 1) ru, .slice sy (0 + 1) sA, .slice none 0 0, .slice none 0 0, .int .i64 (0 : Int), .map (some B4), .slice ui (0 + 1) uj, .slice v7 (0 + 1) v8, .slice none 0 0]) 6 hO rfl rfl rfl rfl
 obtain ⟨BR, mI, BS⟩ := hobt
 dsimp only [sS, sZ] at mI
 refine GoR.op (BS Try.underlying26 rfl ti26 (by exact rfl) (by exact rfl)) rfl rfl ?_
 replace tS := tS.ch mI.ch
 replace ny := ny.ch mI.ch
 replace iY := iY.ch mI.ch
 replace fF := fF.ch mI.ch
 replace eh := eh.ch mI.ch
 replace aj := aj.ch mI.ch
 replace hO := mI.own
 replace b7 := b7.ch mI.ch
 replace dl := dl.ch mI.ch
 replace d5 := d5.ch mI.ch
 replace fd := fd.ch mI.ch
 replace gU := gU.ch mI.ch
 replace ld := ld.ch mI.ch
 replace rN := rN.ch mI.ch
 replace hB := hB.trans mI.fr
 refine GoR.nil ?_
 refine Go1.seq ?_
 refine Go1.cut [(13, .int .i64 (0 : Int))] ⟨rfl, trivial⟩ ?_
 intro σ _
 refine Go1.region ?_
 refine GoR.op ((op_move rfl) _) rfl rfl ?_
 refine GoR.op ((op_assign rfl) _) rfl rfl ?_
 refine GoR.nil ?_
 refine Go1.ret1V Try.func65 rfl (show _ = .int .i64 (0 : Int) from rfl) ?_
 refine hR403 _ _ ?_
 refine GoR.op ((op_assign rfl) _) rfl rfl ?_
 refine GoR.nil ?_
 refine Go1.seq ?_
 refine Go1.seq ?_
 refine Go1.region ?_
 refine GoR.op ((op_move rfl) _) rfl rfl ?_
 refine GoR.op ((op_nilCheck rfl) _) rfl rfl ?_
 refine GoR.op ((op_fieldAddr Try.underlying72 rfl ti29 rfl (by decide)) _) rfl rfl ?_
 refine GoR.op ((op_fieldAddr Try.underlying29 rfl ti22 rfl (by decide)) _) rfl rfl ?_
 refine GoR.op ((oblk (i := 2) 6 hO rfl rfl Try.underlying22 rfl rfl) _ (Same.refl _)) rfl rfl ?_
 refine GoR.op ((op_lenN Try.underlying22 rfl (aj.neq hO 5 rfl)) _) rfl rfl ?_
 refine GoR.op ((op_move rfl) _) rfl rfl ?_
 refine GoR.nil ?_
 refine Go1.block ?_
 have nh := Stp.nil (e := 39) (r := 2) hO
 replace tS := tS.ch nh.ch
 replace ny := ny.ch nh.ch
 replace iY := iY.ch nh.ch
 replace fF := fF.ch nh.ch
 replace eh := eh.ch nh.ch
 replace aj := aj.ch nh.ch
 replace hO := nh.own
 replace b7 := b7.ch nh.ch
 replace dl := dl.ch nh.ch
 replace d5 := d5.ch nh.ch
 replace fd := fd.ch nh.ch
 replace gU := gU.ch nh.ch
 replace ld := ld.ch nh.ch
 replace rN := rN.ch nh.ch
 replace hB := hB.trans nh.fr
 have yP := Els.nil (rpRule) (bl (.row 39 2 none 0 0 [] :: [.row 3 1 v7 (0 + 1) v8 yO, .row 9 1 ui (0 + 1) uj xN, .row 3 1 sy (0 + 1) sA wF, .row 3 1 rs (0 + 1) ru vq, .row 26 1 o4 (0 + 1) o5 uH, .row 26 1 p35 n37 c36 fM, .blk B10 (.cells #[.int .i64 ((ix a0 (0 : Int)).length : Int), .bool true, .slice p35 n37 c36, .slice o4 (0 + 1) o5, .slice rs (0 + 1) ru, .slice sy (0 + 1) sA, .slice none 0 0, .slice none 0 0, .int .i64 (0 : Int), .map (some B4), .slice ui (0 + 1) uj, .slice v7 (0 + 1) v8, .slice none 0 0] 72 (0, 0)), .any (mapE (fun a : List UInt8 => Value.string (gstr a)) (fun a : Int => Value.int .i64 a) B4 (mput (([] : List (Str × Int))) r407 ((0 : Int))))]) ++ A) BR
 have mJ := Stp.nil (e := 3) (r := 1) hO
 replace yP := yP.ch mJ.ch
 replace tS := tS.ch mJ.ch
 replace ny := ny.ch mJ.ch
 replace iY := iY.ch mJ.ch
 replace fF := fF.ch mJ.ch
 replace eh := eh.ch mJ.ch
 replace aj := aj.ch mJ.ch
 replace hO := mJ.own
 replace b7 := b7.ch mJ.ch
 replace dl := dl.ch mJ.ch
 replace d5 := d5.ch mJ.ch
 replace fd := fd.ch mJ.ch
 replace gU := gU.ch mJ.ch
 replace ld := ld.ch mJ.ch
 replace rN := rN.ch mJ.ch
 replace hB := hB.trans mJ.fr
 have Eu := Els.nil (Rp.int .i64) (bl (.row 3 1 none 0 0 [] :: [.row 39 2 none 0 0 [], .row 3 1 v7 (0 + 1) v8 yO, .row 9 1 ui (0 + 1) uj xN, .row 3 1 sy (0 + 1) sA wF, .row 3 1 rs (0 + 1) ru vq, .row 26 1 o4 (0 + 1) o5 uH, .row 26 1 p35 n37 c36 fM, .blk B10 (.cells #[.int .i64 ((ix a0 (0 : Int)).length : Int), .bool true, .slice p35 n37 c36, .slice o4 (0 + 1) o5, .slice rs (0 + 1) ru, .slice sy (0 + 1) sA, .slice none 0 0, .slice none 0 0, .int .i64 (0 : Int), .map (some B4), .slice ui (0 + 1) uj, .slice v7 (0 + 1) v8, .slice none 0 0] 72 (0, 0)), .any (mapE (fun a : List UInt8 => Value.string (gstr a)) (fun a : Int => Value.int .i64 a) B4 (mput (([] : List (Str × Int))) r407 ((0 : Int))))]) ++ A) BR
 refine Go1.loopW (S := Nat × List Int × List Rule × List Int × List Str × List Int × List Int × List (List Int) × (List (Str × Int))) (fun s σ w => match s with | (k3_548, d_549, d_555, d_561, d_567, d_573, d_579, d_585, m3_591) => ∃ (iV : Nat), ∃ (kq : Option Addr), ∃ (kr : Nat), ∃ (qF : List Value), ∃ (jb : Nat), ∃ (jU : Option Addr), ∃ (jV : Nat), ∃ (o6 : List Value), ∃ (jc : Nat), ∃ (jW : Option Addr), ∃ (jX : Nat), ∃ (o7 : List Value), ∃ (jd : Nat), ∃ (ks : Option Addr), ∃ (kt : Nat), ∃ (o8 : List Value), ∃ (je : Nat), ∃ (kB : Option Addr), ∃ (kC : Nat), ∃ (o9 : List Value), ∃ (jf : Nat), ∃ (k9 : Option Addr), ∃ (la : Nat), ∃ (pc : List Value), ∃ (jg : Nat), ∃ (lH : Option Addr), ∃ (lI : Nat), ∃ (pe : List Value), agrees σ [(6, .pointer (some ⟨B10, 0, none⟩)), (9, .int .i64 (0 : Int)), (85, .slice p35 n37 c36), (86, .int .i64 (d_32.length : Int)), (87, .int .i64 (k3_548 : Int))] ∧ Owns w0.heap.size w [.row 3 1 kq iV kr qF, .row 39 2 jU jb jV o6, .row 3 1 jW jc jX o7, .row 9 1 ks jd kt o8, .row 3 1 kB je kC o9, .row 3 1 k9 jf la pc, .row 26 1 lH jg lI pe, .row 26 1 p35 n37 c36 fM, .blk B10 (.cells #[.int .i64 ((ix a0 (0 : Int)).length : Int), .bool true, .slice p35 n37 c36, .slice lH jg lI, .slice k9 jf la, .slice kB je kC, .slice none 0 0, .slice jU jb jV, .int .i64 (0 : Int), .map (some B4), .slice ks jd kt, .slice jW jc jX, .slice kq iV kr] 72 (0, 0)), .any (mapE (fun a : List UInt8 => Value.string (gstr a)) (fun a : Int => Value.int .i64 a) B4 m3_591)] A ∧ Els (Rp.int .i64) (bl [.row 3 1 kq iV kr qF, .row 39 2 jU jb jV o6, .row 3 1 jW jc jX o7, .row 9 1 ks jd kt o8, .row 3 1 kB je kC o9, .row 3 1 k9 jf la pc, .row 26 1 lH jg lI pe, .row 26 1 p35 n37 c36 fM, .blk B10 (.cells #[.int .i64 ((ix a0 (0 : Int)).length : Int), .bool true, .slice p35 n37 c36, .slice lH jg lI, .slice k9 jf la, .slice kB je kC, .slice none 0 0, .slice jU jb jV, .int .i64 (0 : Int), .map (some B4), .slice ks jd kt, .slice jW jc jX, .slice kq iV kr] 72 (0, 0)), .any (mapE (fun a : List UInt8 => Value.string (gstr a)) (fun a : Int => Value.int .i64 a) B4 m3_591)] ++ A) w qF d_549 ∧ Els (rpRule) (bl [.row 3 1 kq iV kr qF, .row 39 2 jU jb jV o6, .row 3 1 jW jc jX o7, .row 9 1 ks jd kt o8, .row 3 1 kB je kC o9, .row 3 1 k9 jf la pc, .row 26 1 lH jg lI pe, .row 26 1 p35 n37 c36 fM, .blk B10 (.cells #[.int .i64 ((ix a0 (0 : Int)).length : Int), .bool true, .slice p35 n37 c36, .slice lH jg lI, .slice k9 jf la, .slice kB je kC, .slice none 0 0, .slice jU jb jV, .int .i64 (0 : Int), .map (some B4), .slice ks jd kt, .slice jW jc jX, .slice kq iV kr] 72 (0, 0)), .any (mapE (fun a : List UInt8 => Value.string (gstr a)) (fun a : Int => Value.int .i64 a) B4 m3_591)] ++ A) w o6 d_555 ∧ Els (Rp.int .i64) (bl [.row 3 1 kq iV kr qF, .row 39 2 jU jb jV o6, .row 3 1 jW jc jX o7, .row 9 1 ks jd kt o8, .row 3 1 kB je kC o9, .row 3 1 k9 jf la pc, .row 26 1 lH jg lI pe, .row 26 1 p35 n37 c36 fM, .blk B10 (.cells #[.int .i64 ((ix a0 (0 : Int)).length : Int), .bool true, .slice p35 n37 c36, .slice lH jg lI, .slice k9 jf la, .slice kB je kC, .slice none 0 0, .slice jU jb jV, .int .i64 (0 : Int), .map (some B4), .slice ks jd kt, .slice jW jc jX, .slice kq iV kr] 72 (0, 0)), .any (mapE (fun a : List UInt8 => Value.string (gstr a)) (fun a : Int => Value.int .i64 a) B4 m3_591)] ++ A) w o7 d_561 ∧ Els (Rp.str) (bl [.row 3 1 kq iV kr qF, .row 39 2 jU jb jV o6, .row 3 1 jW jc jX o7, .row 9 1 ks jd kt o8, .row 3 1 kB je kC o9, .row 3 1 k9 jf la pc, .row 26 1 lH jg lI pe, .row 26 1 p35 n37 c36 fM, .blk B10 (.cells #[.int .i64 ((ix a0 (0 : Int)).length : Int), .bool true, .slice p35 n37 c36, .slice lH jg lI, .slice k9 jf la, .slice kB je kC, .slice none 0 0, .slice jU jb jV, .int .i64 (0 : Int), .map (some B4), .slice ks jd kt, .slice jW jc jX, .slice kq iV kr] 72 (0, 0)), .any (mapE (fun a : List UInt8 => Value.string (gstr a)) (fun a : Int => Value.int .i64 a) B4 m3_591)] ++ A) w o8 d_567 ∧ Els (Rp.int .i64) (bl [.row 3 1 kq iV kr qF, .row 39 2 jU jb jV o6, .row 3 1 jW jc jX o7, .row 9 1 ks jd kt o8, .row 3 1 kB je kC o9, .row 3 1 k9 jf la pc, .row 26 1 lH jg lI pe, .row 26 1 p35 n37 c36 fM, .blk B10 (.cells #[.int .i64 ((ix a0 (0 : Int)).length : Int), .bool true, .slice p35 n37 c36, .slice lH jg lI, .slice k9 jf la, .slice kB je kC, .slice none 0 0, .slice jU jb jV, .int .i64 (0 : Int), .map (some B4), .slice ks jd kt, .slice jW jc jX, .slice kq iV kr] 72 (0, 0)), .any (mapE (fun a : List UInt8 => Value.string (gstr a)) (fun a : Int => Value.int .i64 a) B4 m3_591)] ++ A) w o9 d_573 ∧ Els (Rp.int .i64) (bl [.row 3 1 kq iV kr qF, .row 39 2 jU jb jV o6, .row 3 1 jW jc jX o7, .row 9 1 ks jd kt o8, .row 3 1 kB je kC o9, .row 3 1 k9 jf la pc, .row 26 1 lH jg lI pe, .row 26 1 p35 n37 c36 fM, .blk B10 (.cells #[.int .i64 ((ix a0 (0 : Int)).length : Int), .bool true, .slice p35 n37 c36, .slice lH jg lI, .slice k9 jf la, .slice kB je kC, .slice none 0 0, .slice jU jb jV, .int .i64 (0 : Int), .map (some B4), .slice ks jd kt, .slice jW jc jX, .slice kq iV kr] 72 (0, 0)), .any (mapE (fun a : List UInt8 => Value.string (gstr a)) (fun a : Int => Value.int .i64 a) B4 m3_591)] ++ A) w pc d_579 ∧ Els (Rp.sl (Rp.int .i64)) (bl [.row 3 1 kq iV kr qF, .row 39 2 jU jb jV o6, .row 3 1 jW jc jX o7, .row 9 1 ks jd kt o8, .row 3 1 kB je kC o9, .row 3 1 k9 jf la pc, .row 26 1 lH jg lI pe, .row 26 1 p35 n37 c36 fM, .blk B10 (.cells #[.int .i64 ((ix a0 (0 : Int)).length : Int), .bool true, .slice p35 n37 c36, .slice lH jg lI, .slice k9 jf la, .slice kB je kC, .slice none 0 0, .slice jU jb jV, .int .i64 (0 : Int), .map (some B4), .slice ks jd kt, .slice jW jc jX, .slice kq iV kr] 72 (0, 0)), .any (mapE (fun a : List UInt8 => Value.string (gstr a)) (fun a : Int => Value.int .i64 a) B4 m3_591)] ++ A) w pe d_585 ∧ Els (Rp.sl (Rp.int .i64)) (bl [.row 3 1 kq iV kr qF, .row 39 2 jU jb jV o6, .row 3 1 jW jc jX o7, .row 9 1 ks jd kt o8, .row 3 1 kB je kC o9, .row 3 1 k9 jf la pc, .row 26 1 lH jg lI pe, .row 26 1 p35 n37 c36 fM, .blk B10 (.cells #[.int .i64 ((ix a0 (0 : Int)).length : Int), .bool true, .slice p35 n37 c36, .slice lH jg lI, .slice k9 jf la, .slice kB je kC, .slice none 0 0, .slice jU jb jV, .int .i64 (0 : Int), .map (some B4), .slice ks jd kt, .slice jW jc jX, .slice kq iV kr] 72 (0, 0)), .any (mapE (fun a : List UInt8 => Value.string (gstr a)) (fun a : Int => Value.int .i64 a) B4 m3_591)] ++ A) w fM d_32 ∧ Fr (bl []) w0 (bl [.row 3 1 kq iV kr qF, .row 39 2 jU jb jV o6, .row 3 1 jW jc jX o7, .row 9 1 ks jd kt o8, .row 3 1 kB je kC o9, .row 3 1 k9 jf la pc, .row 26 1 lH jg lI pe, .row 26 1 p35 n37 c36 fM, .blk B10 (.cells #[.int .i64 ((ix a0 (0 : Int)).length : Int), .bool true, .slice p35 n37 c36, .slice lH jg lI, .slice k9 jf la, .slice kB je kC, .slice none 0 0, .slice jU jb jV, .int .i64 (0 : Int), .map (some B4), .slice ks jd kt, .slice jW jc jX, .slice kq iV kr] 72 (0, 0)), .any (mapE (fun a : List UInt8 => Value.string (gstr a)) (fun a : Int => Value.int .i64 a) B4 m3_591)]) w) H ⟨0, none, 0, [], 0, none, 0, [], 0 + 1, v7, v8, yO, 0 + 1, ui, uj, xN, 0 + 1, sy, sA, wF, 0 + 1, rs, ru, vq, 0 + 1, o4, o5, uH, ⟨rfl, rfl, rfl, rfl, rfl, trivial⟩, hO, Eu, yP, tS, ny, iY, fF, eh, aj, hB⟩ ?_
 intro X3
 refine prE fun k3_548 => prE fun d_549 => prE fun d_555 => prE fun d_561 => prE fun d_567 => prE fun d_573 => prE fun d_579 => prE fun d_585 => fun m3_591 => ?_
 intro H hX3 σ HR
 refine exE fun iV => exE fun kq => exE fun kr => exE fun qF => exE fun jb => exE fun jU => exE fun jV => exE fun o6 => exE fun jc => exE fun jW => exE fun jX => exE fun o7 => exE fun jd => exE fun ks => exE fun kt => exE fun o8 => exE fun je => exE fun kB => exE fun kC => exE fun o9 => exE fun jf => exE fun k9 => exE fun la => exE fun pc => exE fun jg => exE fun lH => exE fun lI => exE fun pe => andE fun hag => andE fun hO => andE fun cu => andE fun cC => andE fun cD => andE fun cI => andE fun dg => andE fun du => andE fun dK => andE fun aj => fun hB => ?_
 dsimp only at H
 refine Go1.keep [(6, .pointer (some ⟨B10, 0, none⟩)), (9, .int .i64 (0 : Int)), (85, .slice p35 n37 c36), (86, .int .i64 (d_32.length : Int)), (87, .int .i64 (k3_548 : Int))] hag ?_
 refine Go1.seq ?_
 refine Go1.region ?_
 by_cases xd : (k3_548 : Int) < (d_32.length : Int)
 ·replace H := ifp xd H
  refine GoR.op ((fun w => opB (op_lss rfl rfl w) (decide_eq_true xd)) _) rfl rfl ?_
  refine GoR.nil ?_
  refine Go1.seq ?_
  refine Go1.condT rfl rfl ?_
  refine Go1.skip ?_
  refine Go1.seq ?_
  refine Go1.block ?_
  refine Go1.seq ?_
  refine Go1.region ?_
  refine GoR.op ((op_move rfl) _) rfl rfl ?_
  obtain ⟨zX, H⟩ := H
  obtain ⟨zY, H⟩ := H
  refine GoR.op ((op_index Try.underlying22 ti26 rfl rfl zX (ltn (aj.neq hO 7 rfl) zY) (aj.psome hO 7 rfl zX zY)) _) rfl rfl ?_
  have hobt := oldSl 7 hO rfl aj zX zY
  obtain ⟨BT, BU, cZ, Ev⟩ := hobt
  refine GoR.op ((Ev Try.underlying26 rfl rfl) _ (Same.refl _)) rfl rfl ?_
  refine GoR.op ((op_assign rfl) _) rfl rfl ?_
  refine GoR.op ((op_assign rfl) _) rfl rfl ?_
  refine GoR.nil ?_
  refine Go1.seq ?_
  refine Go1.region ?_
  refine GoR.op ((op_move rfl) _) rfl rfl ?_
  obtain ⟨HS, H⟩ := H
  refine GoR.op ((op_add rfl rfl (wrap_i64 HS)) _) rfl rfl ?_
  refine GoR.op ((op_conv Try.underlying3 Try.underlying21 rfl rfl) _) rfl rfl ?_
  obtain ⟨HT, H⟩ := H
  obtain ⟨HU, H⟩ := H
  refine GoR.op ((op_convRS Try.underlying21 Try.underlying9 rfl HT HU) _) rfl rfl ?_
  refine GoR.op ((op_assign rfl) _) rfl rfl ?_
  refine GoR.nil ?_
  refine Go1.seq ?_
  refine Go1.drawS 0 [(0, .pure), (1, .pure), (2, .pure), (3, .stable), (4, .pure), (5, .loud), (6, .stable), (7, .pure), (8, .pure), (9, .pure), (10, .pure), (11, .pure)] mixed (by kernel_rfl) ?_
  intro KM Ew
  have qT := Stp.same hO Ew
  replace cu := cu.ch qT.ch
  replace cC := cC.ch qT.ch
  replace cD := cD.ch qT.ch
  replace cI := cI.ch qT.ch
  replace dg := dg.ch qT.ch
  replace du := du.ch qT.ch
  replace dK := dK.ch qT.ch
  replace aj := aj.ch qT.ch
  replace hO := qT.own
  replace cZ := cZ.ch qT.ch
  replace hB := hB.trans qT.fr
  refine GoQ.pure rfl (op_move rfl) rfl rfl ?_
  refine GoQ.pure rfl (op_nilCheck rfl) rfl rfl ?_
  refine GoQ.pure rfl (op_fieldAddr Try.underlying72 rfl ti69 rfl (by decide)) rfl rfl ?_
  refine GoQ.stable rfl (oblk (i := 9) 8 hO rfl rfl Try.underlying69 rfl rfl) rfl rfl ?_
  refine GoQ.pure rfl (op_move rfl) rfl rfl ?_
  refine GoQ.call rfl (op_call body61 rfl (walk_enumerate_text hO.lt cZ H)) (fun v w hr => by obtain ⟨_, _, hs, _, _⟩ := hr; assumption) rfl rfl ?_
  rintro KN KO ⟨r605, rfl, Ex, I8, H⟩
  have qU := Stp.same hO Ex
  replace cu := cu.ch qU.ch
  replace cC := cC.ch qU.ch
  replace cD := cD.ch qU.ch
  replace cI := cI.ch qU.ch
  replace dg := dg.ch qU.ch
  replace du := du.ch qU.ch
  replace dK := dK.ch qU.ch
  replace aj := aj.ch qU.ch
  replace hO := qU.own
  replace cZ := cZ.ch qU.ch
  replace hB := hB.trans qU.fr
  by_cases yQ : mhas m3_591 r605 = true
  ·replace H := ifp yQ H
   refine GoQ.stable rfl (olookT (a := r605) (MK.str Try.underlying9) 9 hO rfl Try.underlying69 rfl rfl yQ) rfl rfl ?_
   refine GoQ.pure rfl (op_move rfl) rfl rfl ?_
   refine GoQ.pure rfl (op_extract rfl rfl) rfl rfl ?_
   refine GoQ.pure rfl (op_extract rfl rfl) rfl rfl ?_
   refine GoQ.pure rfl (op_assign rfl) rfl rfl ?_
   refine GoQ.pure rfl (op_assign rfl) rfl rfl ?_
   refine GoQ.nil ?_
   refine Go1.seq ?_
   refine Go1.seq ?_
   refine Go1.cut [(6, .pointer (some ⟨B10, 0, none⟩)), (9, .int .i64 (0 : Int)), (10, .int .i64 (k3_548 : Int)), (11, .slice BT ((ix d_32 (k3_548 : Int)).length) BU), (12, .string (gstr (chr (IntKind.i32.wrap ((97 : Int) + (k3_548 : Int)))))), (13, .int .i64 (mgt m3_591 r605)), (14, .bool true), (85, .slice p35 n37 c36), (86, .int .i64 (d_32.length : Int)), (87, .int .i64 (k3_548 : Int))] ⟨rfl, rfl, rfl, rfl, rfl, rfl, rfl, rfl, rfl, rfl, trivial⟩ ?_
   intro σ _
   refine Go1.region ?_
   refine GoR.op ((op_move rfl) _) rfl rfl ?_
   refine GoR.nil ?_
   refine Go1.condT rfl rfl ?_
   refine Go1.drawS 5 [(0, .pure), (1, .pure), (2, .pure), (3, .pure), (4, .pure), (5, .stable), (6, .pure), (7, .pure), (8, .pure), (9, .pure), (10, .stable), (11, .pure), (12, .pure), (13, .stable), (14, .pure), (15, .loud), (16, .last), (17, .pure), (18, .pure), (19, .pure), (20, .last)] mixed (by kernel_rfl) ?_
   intro KP Ey
   have qV := Stp.same hO Ey
   replace cu := cu.ch qV.ch
   replace cC := cC.ch qV.ch
   replace cD := cD.ch qV.ch
   replace cI := cI.ch qV.ch
   replace dg := dg.ch qV.ch
   replace du := du.ch qV.ch
   replace dK := dK.ch qV.ch
   replace aj := aj.ch qV.ch
   replace hO := qV.own
   replace cZ := cZ.ch qV.ch
   replace hB := hB.trans qV.fr
   refine GoQ.pure rfl (op_move rfl) rfl rfl ?_
   refine GoQ.pure rfl (op_move rfl) rfl rfl ?_
   refine GoQ.pure rfl (op_nilCheck rfl) rfl rfl ?_
   refine GoQ.pure rfl (op_fieldAddr Try.underlying72 rfl ti29 rfl (by decide)) rfl rfl ?_
   refine GoQ.pure rfl (op_fieldAddr Try.underlying29 rfl ti27 rfl (by decide)) rfl rfl ?_
   refine GoQ.stable rfl (oblk (i := 7) 8 hO rfl rfl Try.underlying27 rfl rfl) rfl rfl ?_
   refine GoQ.pure rfl (op_move rfl) rfl rfl ?_
   refine GoQ.pure rfl (op_move rfl) rfl rfl ?_
   refine GoQ.pure rfl (op_nilCheck rfl) rfl rfl ?_
   refine GoQ.pure rfl (op_fieldAddr Try.underlying72 rfl ti70 rfl (by decide)) rfl rfl ?_
   refine GoQ.stable rfl (oblk (i := 10) 8 hO rfl rfl Try.underlying70 rfl rfl) rfl rfl ?_
   refine GoQ.pure rfl (op_move rfl) rfl rfl ?_
   obtain ⟨yR, H⟩ := H
   obtain ⟨yS, H⟩ := H
   refine GoQ.pure rfl (op_index Try.underlying70 ti9 rfl rfl yR (ltn (cI.neq hO 3 rfl) yS) (cI.psome hO 3 rfl yR yS)) rfl rfl ?_
   refine GoQ.stable rfl (oldStr 3 hO rfl cI yR yS Try.underlying9 rfl rfl) rfl rfl ?_
   have hle617 := Els.str_le cI yR yS
   refine GoQ.pure rfl (op_build Try.underlying39 ti39 (pl := [(0, 1), (1, 1)]) (vs := [(0, .string (gstr (chr (IntKind.i32.wrap ((97 : Int) + (k3_548 : Int)))))), (1, .string (gstr (ix d_567 (mgt m3_591 r605))))]) (cs := #[.string (gstr (chr (IntKind.i32.wrap ((97 : Int) + (k3_548 : Int))))), .string (gstr (ix d_567 (mgt m3_591 r605)))]) (by kernel_rfl) rfl (by kernel_rfl)) rfl rfl ?_
   have hobt := obuildN (r := rpRule) (n := 1) (parts := [(0, .agg #[.string (gstr (chr (IntKind.i32.wrap ((97 : Int) + (k3_548 : Int))))), .string (gstr (ix d_567 (mgt m3_591 r605)))])]) (vs := [.string (gstr (chr (IntKind.i32.wrap ((97 : Int) + (k3_548 : Int))))), .string (gstr (ix d_567 (mgt m3_591 r605)))]) (xs := [(⟨chr (IntKind.i32.wrap ((97 : Int) + (k3_548 : Int))), ix d_567 (mgt m3_591 r605)⟩ : Rule)]) Try.underlying27 ti39 hO (by decide) (by decide) (by kernel_rfl) (Els.flat1 (⟨chr (IntKind.i32.wrap ((97 : Int) + (k3_548 : Int))), ix d_567 (mgt m3_591 r605)⟩ : Rule) ⟨(chr_le _), hle617⟩) rfl
   obtain ⟨KQ, KR, qW, Ez, EA, BV⟩ := hobt
   refine GoQ.loud rfl (BV rfl) EA rfl rfl ?_
   replace cu := cu.ch qW.ch
   replace cC := cC.ch qW.ch
   replace cD := cD.ch qW.ch
   replace cI := cI.ch qW.ch
   replace dg := dg.ch qW.ch
   replace du := du.ch qW.ch
   replace dK := dK.ch qW.ch
   replace aj := aj.ch qW.ch
   replace hO := qW.own
   replace cZ := cZ.ch qW.ch
   replace hB := hB.trans qW.fr
   have hobt := freeze 0 hO rfl Ez
   obtain ⟨hO1, sK, qG, EB⟩ := hobt
   dsimp only [eS, eZ] at hO1 sK qG
   replace cZ := cZ.ch sK
   replace cu := cu.ch sK
   replace cC := cC.ch sK
   replace cD := cD.ch sK
   replace cI := cI.ch sK
   replace dg := dg.ch sK
   replace du := du.ch sK
   replace dK := dK.ch sK
   replace aj := aj.ch sK
   replace hB := hB.trans (Owns.dropFr _ _ 0)
   dsimp only [eS, eZ] at hB
   replace hO := hO1; clear hO1
   obtain ⟨HV, H⟩ := H
   have hobt := oapp Try.underlying27 ti39 rfl 1 hO rfl cC qG EB HV (by decide)
   obtain ⟨KS, yT, yU, EC, pV, rO, BW⟩ := hobt
   dsimp only [sS, sZ] at pV rO
   refine GoQ.last rfl (BW (by exact rfl) (by exact rfl)) rfl rfl ?_
   replace cu := cu.ch pV.ch
   replace cD := cD.ch pV.ch
   replace cI := cI.ch pV.ch
   replace dg := dg.ch pV.ch
   replace du := du.ch pV.ch
   replace dK := dK.ch pV.ch
   replace aj := aj.ch pV.ch
   replace hO := pV.own
   replace cZ := cZ.ch pV.ch
   replace qG := qG.ch pV.ch
   replace hB := hB.trans pV.fr
   refine GoQ.pure rfl (op_nilCheck rfl) rfl rfl ?_
   refine GoQ.pure rfl (op_fieldAddr Try.underlying72 rfl ti29 rfl (by decide)) rfl rfl ?_
   refine GoQ.pure rfl (op_fieldAddr Try.underlying29 rfl ti27 rfl (by decide)) rfl rfl ?_
   have hobt := oblkSt2 (v := .slice yT (jb + 1) yU) (i := 7) (cs' := #[.int .i64 ((ix a0 (0 : Int)).length : Int), .bool true, .slice p35 n37 c36, .slice lH jg lI, .slice k9 jf la, .slice kB je kC, .slice none 0 0, .slice yT (jb + 1) yU, .int .i64 (0 : Int), .map (some B4), .slice ks jd kt, .slice jW jc jX, .slice kq iV kr]) 8 hO rfl rfl rfl rfl
   obtain ⟨KT, oC, BX⟩ := hobt
   dsimp only [sS, sZ] at oC
   refine GoQ.last rfl (BX Try.underlying27 rfl ti27 (by exact rfl) (by exact rfl)) rfl rfl ?_
   replace cu := cu.ch oC.ch
   replace rO := rO.ch oC.ch
   replace cD := cD.ch oC.ch
   replace cI := cI.ch oC.ch
   replace dg := dg.ch oC.ch
   replace du := du.ch oC.ch
   replace dK := dK.ch oC.ch
   replace aj := aj.ch oC.ch
   replace hO := oC.own
   replace cZ := cZ.ch oC.ch
   replace qG := qG.ch oC.ch
   replace hB := hB.trans oC.fr
   refine GoQ.nil ?_
   refine Go1.cut [(6, .pointer (some ⟨B10, 0, none⟩)), (9, .int .i64 (0 : Int)), (13, .int .i64 (mgt m3_591 r605)), (85, .slice p35 n37 c36), (86, .int .i64 (d_32.length : Int)), (87, .int .i64 (k3_548 : Int))] ⟨rfl, rfl, rfl, rfl, rfl, rfl, trivial⟩ ?_
   intro σ _
   refine Go1.region ?_
   refine GoR.op ((op_move rfl) _) rfl rfl ?_
   refine GoR.op ((op_move rfl) _) rfl rfl ?_
   refine GoR.op ((op_nilCheck rfl) _) rfl rfl ?_
   refine GoR.op ((op_fieldAddr Try.underlying72 rfl ti26 rfl (by decide)) _) rfl rfl ?_
   refine GoR.op ((oblk (i := 12) 8 hO rfl rfl Try.underlying26 rfl rfl) _ (Same.refl _)) rfl rfl ?_
   refine GoR.op ((op_move rfl) _) rfl rfl ?_
   have hobt := obuild (r := Rp.int .i64) (n := 1) (parts := [(0, .int .i64 (mgt m3_591 r605))]) (vs := [.int .i64 (mgt m3_591 r605)]) (xs := [(mgt m3_591 r605)]) rfl Try.underlying26 ti3 hO (by decide) (by kernel_rfl) (Els.cons rfl rfl (Els.nil _ _ _) (by simp [mx])) rfl
   obtain ⟨KU, KV, pW, ED, Jv, BY⟩ := hobt
   refine GoR.op (BY rfl) rfl rfl ?_
   replace cu := cu.ch pW.ch
   replace rO := rO.ch pW.ch
   replace cD := cD.ch pW.ch
   replace cI := cI.ch pW.ch
   replace dg := dg.ch pW.ch
   replace du := du.ch pW.ch
   replace dK := dK.ch pW.ch
   replace aj := aj.ch pW.ch
   replace hO := pW.own
   replace cZ := cZ.ch pW.ch
   replace qG := qG.ch pW.ch
   replace hB := hB.trans pW.fr
   have hobt := freeze 0 hO rfl ED
   obtain ⟨hO1, sc, vr, EE⟩ := hobt
   dsimp only [eS, eZ] at hO1 sc vr
   replace cZ := cZ.ch sc
   replace qG := qG.ch sc
   replace cu := cu.ch sc
   replace rO := rO.ch sc
   replace cD := cD.ch sc
   replace cI := cI.ch sc
   replace dg := dg.ch sc
   replace du := du.ch sc
   replace dK := dK.ch sc
   replace aj := aj.ch sc
   replace hB := hB.trans (Owns.dropFr _ _ 0)
   dsimp only [eS, eZ] at hB
   replace hO := hO1; clear hO1
   obtain ⟨HW, H⟩ := H
   have hobt := oapp Try.underlying26 ti3 rfl 0 hO rfl cu vr EE HW (by decide)
   obtain ⟨KW, zZ, z3, EF, oD, xO, BZ⟩ := hobt
   dsimp only [sS, sZ] at oD xO
   refine GoR.op (BZ (by exact rfl) (by exact rfl)) rfl rfl ?_
   replace rO := rO.ch oD.ch
   replace cD := cD.ch oD.ch
   replace cI := cI.ch oD.ch
   replace dg := dg.ch oD.ch
   replace du := du.ch oD.ch
   replace dK := dK.ch oD.ch
   replace aj := aj.ch oD.ch
   replace hO := oD.own
   replace cZ := cZ.ch oD.ch
   replace qG := qG.ch oD.ch
   replace vr := vr.ch oD.ch
   replace hB := hB.trans oD.fr
   refine GoR.op ((op_nilCheck rfl) _) rfl rfl ?_
   refine GoR.op ((op_fieldAddr Try.underlying72 rfl ti26 rfl (by decide)) _) rfl rfl ?_
   have hobt := oblkSt2 (v := .slice zZ (iV + 1) z3) (i := 12) (cs' := #[.int .i64 ((ix a0 (0 : Int)).length : Int), .bool true, .slice p35 n37 c36, .slice lH jg lI, .slice k9 jf la, .slice kB je kC, .slice none 0 0, .slice yT (jb + 1) yU, .int .i64 (0 : Int), .map (some B4), .slice ks jd kt, .slice jW jc jX, .slice zZ (iV + 1) z3]) 8 hO rfl rfl rfl rfl
   obtain ⟨KX, nJ, B1⟩ := hobt
   dsimp only [sS, sZ] at nJ
   refine GoR.op (B1 Try.underlying26 rfl ti26 (by exact rfl) (by exact rfl)) rfl rfl ?_
   replace xO := xO.ch nJ.ch
   replace rO := rO.ch nJ.ch
   replace cD := cD.ch nJ.ch
   replace cI := cI.ch nJ.ch
   replace dg := dg.ch nJ.ch
   replace du := du.ch nJ.ch
   replace dK := dK.ch nJ.ch
   replace aj := aj.ch nJ.ch
   replace hO := nJ.own
   replace cZ := cZ.ch nJ.ch
   replace qG := qG.ch nJ.ch
   replace vr := vr.ch nJ.ch
   replace hB := hB.trans nJ.fr
   refine GoR.nil ?_
   refine Go1.inBlock ?_
   refine Go1.region ?_
   refine GoR.op ((op_add rfl rfl (wrap_i64 (natbd xd aj.bd))) _) rfl rfl ?_
   refine GoR.op ((op_move rfl) _) rfl rfl ?_
   refine GoR.nil ?_
   exact hX3 _ H _ _ ⟨iV + 1, zZ, z3, EF, jb + 1, yT, yU, EC, jc, jW, jX, o7, jd, ks, kt, o8, je, kB, kC, o9, jf, k9, la, pc, jg, lH, lI, pe, ⟨rfl, rfl, rfl, rfl, rfl, trivial⟩, hO, xO, rO, cD, cI, dg, du, dK, aj, hB⟩
  replace H := ifn yQ H
  refine GoQ.stable rfl (olookF (a := r605) (MK.str Try.underlying9) 9 hO rfl Try.underlying69 ti3 rfl rfl yQ) rfl rfl ?_
  refine GoQ.pure rfl (op_move rfl) rfl rfl ?_
  refine GoQ.pure rfl (op_extract rfl rfl) rfl rfl ?_
  refine GoQ.pure rfl (op_extract rfl rfl) rfl rfl ?_
  refine GoQ.pure rfl (op_assign rfl) rfl rfl ?_
  refine GoQ.pure rfl (op_assign rfl) rfl rfl ?_
  refine GoQ.nil ?_
  refine Go1.seq ?_
  refine Go1.seq ?_
  refine Go1.region ?_
  refine GoR.op ((op_move rfl) _) rfl rfl ?_
  refine GoR.nil ?_
  refine Go1.condF rfl rfl ?_
  refine Go1.cut [(6, .pointer (some ⟨B10, 0, none⟩)), (9, .int .i64 (0 : Int)), (10, .int .i64 (k3_548 : Int)), (11, .slice BT ((ix d_32 (k3_548 : Int)).length) BU), (12, .string (gstr (chr (IntKind.i32.wrap ((97 : Int) + (k3_548 : Int)))))), (85, .slice p35 n37 c36), (86, .int .i64 (d_32.length : Int)), (87, .int .i64 (k3_548 : Int))] ⟨rfl, rfl, rfl, rfl, rfl, rfl, rfl, rfl, trivial⟩ ?_
  intro σ _
  refine Go1.region ?_
  refine GoR.op ((op_move rfl) _) rfl rfl ?_
  refine GoR.op ((op_move rfl) _) rfl rfl ?_
  refine GoR.call (op_call body64 rfl (walk_slices_Clone_int hO.lt cZ H)) rfl rfl ?_
  rintro KY KZ ⟨r662, uZ, sU, sV, I9, rfl, EG, hN666, sL, H⟩
  have pX := Stp.more hO EG hN666
  dsimp only [List.cons_append, List.nil_append] at pX
  replace cu := cu.ch pX.ch
  replace cC := cC.ch pX.ch
  replace cD := cD.ch pX.ch
  replace cI := cI.ch pX.ch
  replace dg := dg.ch pX.ch
  replace du := du.ch pX.ch
  replace dK := dK.ch pX.ch
  replace aj := aj.ch pX.ch
  replace hO := pX.own
  replace cZ := cZ.ch pX.ch
  replace hB := hB.trans pX.fr
  replace sL := sL.ch (Ch.assoc _ _ _ _)
  refine GoR.op ((op_move rfl) _) rfl rfl ?_
  refine GoR.op ((op_move rfl) _) rfl rfl ?_
  refine GoR.op ((op_move rfl) _) rfl rfl ?_
  refine GoR.op ((op_move rfl) _) rfl rfl ?_
  refine GoR.inl (vs := [.pointer (some ⟨B10, 0, none⟩), .slice sU uZ sV, .int .i64 (0 : Int), .int .i64 (k3_548 : Int), .string (gstr (chr (IntKind.i32.wrap ((97 : Int) + (k3_548 : Int))))), .int .i64 (0 : Int)]) (caps := []) rfl rfl body65 Try.func65 rfl Try.ntmps65 rfl rfl rfl ?_
  intro RhR670 hR670
  refine Go1.seq ?_
  refine Go1.region ?_
  refine GoR.op ((op_assign rfl) _) rfl rfl ?_
  refine GoR.nil ?_
  refine Go1.seq ?_
  refine Go1.region ?_
  refine GoR.op ((op_move rfl) _) rfl rfl ?_
  refine GoR.op ((op_nilCheck rfl) _) rfl rfl ?_
  refine GoR.op ((op_fieldAddr Try.underlying72 rfl ti29 rfl (by decide)) _) rfl rfl ?_
  refine GoR.op ((op_fieldAddr Try.underlying29 rfl ti22 rfl (by decide)) _) rfl rfl ?_
  refine GoR.op ((oblk (i := 3) 9 hO rfl rfl Try.underlying22 rfl rfl) _ (Same.refl _)) rfl rfl ?_
  refine GoR.op ((op_lenN Try.underlying22 rfl (dK.neq hO 7 rfl)) _) rfl rfl ?_
  refine GoR.op ((op_assign rfl) _) rfl rfl ?_
  refine GoR.nil ?_
  refine Go1.seq ?_
  refine Go1.drawS 1 [(0, .pure), (1, .pure), (2, .pure), (3, .stable), (4, .pure), (6, .pure), (5, .loud), (7, .last)] mixed (by kernel_rfl) ?_
  intro K1 EH
  have pY := Stp.same hO EH
  replace sL := sL.ch pY.ch
  replace cu := cu.ch pY.ch
  replace cC := cC.ch pY.ch
  replace cD := cD.ch pY.ch
  replace cI := cI.ch pY.ch
  replace dg := dg.ch pY.ch
  replace du := du.ch pY.ch
  replace dK := dK.ch pY.ch
  replace aj := aj.ch pY.ch
  replace hO := pY.own
  replace cZ := cZ.ch pY.ch
  replace hB := hB.trans pY.fr
  refine GoQ.pure rfl (op_move rfl) rfl rfl ?_
  refine GoQ.pure rfl (op_nilCheck rfl) rfl rfl ?_
  refine GoQ.pure rfl (op_fieldAddr Try.underlying72 rfl ti69 rfl (by decide)) rfl rfl ?_
  refine GoQ.stable rfl (oblk (i := 9) 9 hO rfl rfl Try.underlying69 rfl rfl) rfl rfl ?_
  refine GoQ.pure rfl (op_move rfl) rfl rfl ?_
  refine GoQ.pure rfl (op_move rfl) rfl rfl ?_
  have hobt := rowlend 0 hO rfl sL
  obtain ⟨EI, EJ⟩ := hobt
  have hOc676 := hO.drop 0
  refine GoQ.call rfl (op_call body61 (show ([.slice sU uZ sV] : List Value) = [.slice sU r662.length sV] from by rw [← EJ]) (walk_enumerate_text hOc676.lt EI H)) (fun v w hr => by obtain ⟨_, _, hs, _, _⟩ := hr; assumption) rfl rfl ?_
  rintro K2 K3 ⟨r677, rfl, EK, Ja, H⟩
  have pZ := Stp.same hO EK
  replace sL := sL.ch pZ.ch
  replace cu := cu.ch pZ.ch
  replace cC := cC.ch pZ.ch
  replace cD := cD.ch pZ.ch
  replace cI := cI.ch pZ.ch
  replace dg := dg.ch pZ.ch
  replace du := du.ch pZ.ch
  replace dK := dK.ch pZ.ch
  replace aj := aj.ch pZ.ch
  replace hO := pZ.own
  replace cZ := cZ.ch pZ.ch
  replace hB := hB.trans pZ.fr
  have hobt := omapUpd (MK.str Try.underlying9) 10 hO rfl Try.underlying69 r677 (d_585.length : Int)
  obtain ⟨K4, oE, B3⟩ := hobt
  dsimp only [sS, sZ] at oE
  refine GoQ.last rfl (B3 (by exact rfl) (by exact rfl) (by exact rfl)) rfl rfl ?_
  replace sL := sL.ch oE.ch
  replace cu := cu.ch oE.ch
  replace cC := cC.ch oE.ch
  replace cD := cD.ch oE.ch
  replace cI := cI.ch oE.ch
  replace dg := dg.ch oE.ch
  replace du := du.ch oE.ch
  replace dK := dK.ch oE.ch
  replace aj := aj.ch oE.ch
  replace hO := oE.own
  replace cZ := cZ.ch oE.ch
  replace hB := hB.trans oE.fr
  refine GoQ.nil ?_
  refine Go1.seq ?_
  refine Go1.cut [(0, .pointer (some ⟨B10, 0, none⟩)), (1, .slice sU uZ sV), (2, .int .i64 (0 : Int)), (3, .int .i64 (k3_548 : Int)), (4, .string (gstr (chr (IntKind.i32.wrap ((97 : Int) + (k3_548 : Int)))))), (5, .int .i64 (0 : Int)), (13, .int .i64 (d_585.length : Int))] ⟨rfl, rfl, rfl, rfl, rfl, rfl, rfl, trivial⟩ ?_
  intro σ _
  refine Go1.region ?_
  refine GoR.op ((op_move rfl) _) rfl rfl ?_
  refine GoR.op ((op_move rfl) _) rfl rfl ?_
  refine GoR.op ((op_nilCheck rfl) _) rfl rfl ?_
  refine GoR.op ((op_fieldAddr Try.underlying72 rfl ti29 rfl (by decide)) _) rfl rfl ?_
  refine GoR.op ((op_fieldAddr Try.underlying29 rfl ti22 rfl (by decide)) _) rfl rfl ?_
  refine GoR.op ((oblk (i := 3) 9 hO rfl rfl Try.underlying22 rfl rfl) _ (Same.refl _)) rfl rfl ?_
  refine GoR.op ((op_move rfl) _) rfl rfl ?_
  have hobt := freeze 0 hO rfl sL
  obtain ⟨hO1, sM, d9, EL⟩ := hobt
  dsimp only [eS, eZ] at hO1 sM d9
  replace cZ := cZ.ch sM
  replace cu := cu.ch sM
  replace cC := cC.ch sM
  replace cD := cD.ch sM
  replace cI := cI.ch sM
  replace dg := dg.ch sM
  replace du := du.ch sM
  replace dK := dK.ch sM
  replace aj := aj.ch sM
  replace hB := hB.trans (Owns.dropFr _ _ 0)
  dsimp only [eS, eZ] at hB
  replace hO := hO1; clear hO1
  have hobt := obuild (r := Rp.sl (Rp.int .i64)) (n := 1) (parts := [(0, .slice sU uZ sV)]) (vs := [.slice sU uZ sV]) (xs := [r662]) rfl Try.underlying22 ti26 hO (by decide) (by kernel_rfl) (Els.cons rfl ⟨sU, sV, congrArg some (congrArg (fun nn => Value.slice sU nn sV) EL), d9⟩ (Els.nil _ _ _) (by simp [mx])) rfl
  obtain ⟨K5, K6, p5, EM, Jw, B5⟩ := hobt
  refine GoR.op (B5 rfl) rfl rfl ?_
  replace cu := cu.ch p5.ch
  replace cC := cC.ch p5.ch
  replace cD := cD.ch p5.ch
  replace cI := cI.ch p5.ch
  replace dg := dg.ch p5.ch
  replace du := du.ch p5.ch
  replace dK := dK.ch p5.ch
  replace aj := aj.ch p5.ch
  replace hO := p5.own
  replace cZ := cZ.ch p5.ch
  replace d9 := d9.ch p5.ch
  replace hB := hB.trans p5.fr
  have hobt := freeze 0 hO rfl EM
  obtain ⟨hO1, sd, er, EO⟩ := hobt
  dsimp only [eS, eZ] at hO1 sd er
  replace cZ := cZ.ch sd
  replace d9 := d9.ch sd
  replace cu := cu.ch sd
  replace cC := cC.ch sd
  replace cD := cD.ch sd
  replace cI := cI.ch sd
  replace dg := dg.ch sd
  replace du := du.ch sd
  replace dK := dK.ch sd
  replace aj := aj.ch sd
  replace hB := hB.trans (Owns.dropFr _ _ 0)
  dsimp only [eS, eZ] at hB
  replace hO := hO1; clear hO1
  obtain ⟨HX, H⟩ := H
  have hobt := oapp Try.underlying22 ti26 rfl 6 hO rfl dK er EO HX (by decide)
  obtain ⟨K7, u0, u3, EP, oF, eB, B6⟩ := hobt
  dsimp only [sS, sZ] at oF eB
  refine GoR.op (B6 (by exact rfl) (by exact rfl)) rfl rfl ?_
  replace cu := cu.ch oF.ch
  replace cC := cC.ch oF.ch
  replace cD := cD.ch oF.ch
  replace cI := cI.ch oF.ch
  replace dg := dg.ch oF.ch
  replace du := du.ch oF.ch
  replace aj := aj.ch oF.ch
  replace hO := oF.own
  replace cZ := cZ.ch oF.ch
  replace d9 := d9.ch oF.ch
  replace er := er.ch oF.ch
  replace hB := hB.trans oF.fr
  refine GoR.op ((op_nilCheck rfl) _) rfl rfl ?_
  refine GoR.op ((op_fieldAddr Try.underlying72 rfl ti29 rfl (by decide)) _) rfl rfl ?_
  refine GoR.op ((op_fieldAddr Try.underlying29 rfl ti22 rfl (by decide)) _) rfl rfl ?_
  have hobt := oblkSt2 (v := .slice u0 (jg + 1) u3) (i := 3) (cs' := #[.int .i64 ((ix a0 (0 : Int)).length : Int), .bool true, .slice p35 n37 c36, .slice u0 (jg + 1) u3, .slice k9 jf la, .slice kB je kC, .slice none 0 0, .slice jU jb jV, .int .i64 (0 : Int), .map (some B4), .slice ks jd kt, .slice jW jc jX, .slice kq iV kr]) 8 hO rfl rfl rfl rfl
  obtain ⟨K8, nK, B7⟩ := hobt
  dsimp only [sS, sZ] at nK
  refine GoR.op (B7 Try.underlying22 rfl ti22 (by exact rfl) (by exact rfl)) rfl rfl ?_
  replace cu := cu.ch nK.ch
  replace cC := cC.ch nK.ch
  replace cD := cD.ch nK.ch
  replace cI := cI.ch nK.ch
  replace dg := dg.ch nK.ch
  replace du := du.ch nK.ch
  replace eB := eB.ch nK.ch
  replace aj := aj.ch nK.ch
  replace hO := nK.own
  replace cZ := cZ.ch nK.ch
  replace d9 := d9.ch nK.ch
  replace er := er.ch nK.ch
  replace hB := hB.trans nK.fr
  refine GoR.nil ?_
  refine Go1.seq ?_
  refine Go1.region ?_
  refine GoR.op ((op_move rfl) _) rfl rfl ?_
  refine GoR.op ((op_move rfl) _) rfl rfl ?_
  refine GoR.op ((op_nilCheck rfl) _) rfl rfl ?_
  refine GoR.op ((op_fieldAddr Try.underlying72 rfl ti29 rfl (by decide)) _) rfl rfl ?_
  refine GoR.op ((op_fieldAddr Try.underlying29 rfl ti26 rfl (by decide)) _) rfl rfl ?_
  refine GoR.op ((oblk (i := 4) 8 hO rfl rfl Try.underlying26 rfl rfl) _ (Same.refl _)) rfl rfl ?_
  refine GoR.op ((op_move rfl) _) rfl rfl ?_
  have hobt := obuild (r := Rp.int .i64) (n := 1) (parts := [(0, .int .i64 (0 : Int))]) (vs := [.int .i64 (0 : Int)]) (xs := [(0 : Int)]) rfl Try.underlying26 ti3 hO (by decide) (by kernel_rfl) (Els.cons rfl rfl (Els.nil _ _ _) (by simp [mx])) rfl
  obtain ⟨K9, La, oG, EQ, Jx, B8⟩ := hobt
  refine GoR.op (B8 rfl) rfl rfl ?_
  replace cu := cu.ch oG.ch
  replace cC := cC.ch oG.ch
  replace cD := cD.ch oG.ch
  replace cI := cI.ch oG.ch
  replace dg := dg.ch oG.ch
  replace du := du.ch oG.ch
  replace eB := eB.ch oG.ch
  replace aj := aj.ch oG.ch
  replace hO := oG.own
  replace cZ := cZ.ch oG.ch
  replace d9 := d9.ch oG.ch
  replace er := er.ch oG.ch
  replace hB := hB.trans oG.fr
  have hobt := freeze 0 hO rfl EQ
  obtain ⟨hO1, rP, fG, ER⟩ := hobt
  dsimp only [eS, eZ] at hO1 rP fG
  replace cZ := cZ.ch rP
  replace d9 := d9.ch rP
  replace er := er.ch rP
  replace cu := cu.ch rP
  replace cC := cC.ch rP
  replace cD := cD.ch rP
  replace cI := cI.ch rP
  replace dg := dg.ch rP
  replace du := du.ch rP
  replace eB := eB.ch rP
  replace aj := aj.ch rP
  replace hB := hB.trans (Owns.dropFr _ _ 0)
  dsimp only [eS, eZ] at hB
  replace hO := hO1; clear hO1
  obtain ⟨HY, H⟩ := H
  have hobt := oapp Try.underlying26 ti3 rfl 5 hO rfl du fG ER HY (by decide)
  obtain ⟨Lb, wa, wb, ES, nM, fT, Ca⟩ := hobt
  dsimp only [sS, sZ] at nM fT
  refine GoR.op (Ca (by exact rfl) (by exact rfl)) rfl rfl ?_
  replace cu := cu.ch nM.ch
  replace cC := cC.ch nM.ch
  replace cD := cD.ch nM.ch
  replace cI := cI.ch nM.ch
  replace dg := dg.ch nM.ch
  replace eB := eB.ch nM.ch
  replace aj := aj.ch nM.ch
  replace hO := nM.own
  replace cZ := cZ.ch nM.ch
  replace d9 := d9.ch nM.ch
  replace er := er.ch nM.ch
  replace fG := fG.ch nM.ch
  replace hB := hB.trans nM.fr
  refine GoR.op ((op_nilCheck rfl) _) rfl rfl ?_
  refine GoR.op ((op_fieldAddr Try.underlying72 rfl ti29 rfl (by decide)) _) rfl rfl ?_
  refine GoR.op ((op_fieldAddr Try.underlying29 rfl ti26 rfl (by decide)) _) rfl rfl ?_
  have hobt := oblkSt2 (v := .slice wa (jf + 1) wb) (i := 4) (cs' := #[.int .i64 ((ix a0 (0 : Int)).length : Int), .bool true, .slice p35 n37 c36, .slice u0 (jg + 1) u3, .slice wa (jf + 1) wb, .slice kB je kC, .slice none 0 0, .slice jU jb jV, .int .i64 (0 : Int), .map (some B4), .slice ks jd kt, .slice jW jc jX, .slice kq iV kr]) 8 hO rfl rfl rfl rfl
  obtain ⟨Lc, ni, Cb⟩ := hobt
  dsimp only [sS, sZ] at ni
  refine GoR.op (Cb Try.underlying26 rfl ti26 (by exact rfl) (by exact rfl)) rfl rfl ?_
  replace cu := cu.ch ni.ch
  replace cC := cC.ch ni.ch
  replace cD := cD.ch ni.ch
  replace cI := cI.ch ni.ch
  replace dg := dg.ch ni.ch
  replace fT := fT.ch ni.ch
  replace eB := eB.ch ni.ch
  replace aj := aj.ch ni.ch
  replace hO := ni.own
  replace cZ := cZ.ch ni.ch
  replace d9 := d9.ch ni.ch
  replace er := er.ch ni.ch
  replace fG := fG.ch ni.ch
  replace hB := hB.trans ni.fr
  refine GoR.nil ?_
  refine Go1.seq ?_
  refine Go1.cut [(0, .pointer (some ⟨B10, 0, none⟩)), (3, .int .i64 (k3_548 : Int)), (4, .string (gstr (chr (IntKind.i32.wrap ((97 : Int) + (k3_548 : Int)))))), (5, .int .i64 (0 : Int)), (13, .int .i64 (d_585.length : Int))] ⟨rfl, rfl, rfl, rfl, rfl, trivial⟩ ?_
  intro σ _
  refine Go1.region ?_
  refine GoR.op ((op_move rfl) _) rfl rfl ?_
  refine GoR.op ((op_move rfl) _) rfl rfl ?_
  refine GoR.op ((op_nilCheck rfl) _) rfl rfl ?_
  refine GoR.op ((op_fieldAddr Try.underlying72 rfl ti29 rfl (by decide)) _) rfl rfl ?_
  refine GoR.op ((op_fieldAddr Try.underlying29 rfl ti26 rfl (by decide)) _) rfl rfl ?_
  refine GoR.op ((oblk (i := 5) 8 hO rfl rfl Try.underlying26 rfl rfl) _ (Same.refl _)) rfl rfl ?_
  refine GoR.op ((op_move rfl) _) rfl rfl ?_
  have hobt := obuild (r := Rp.int .i64) (n := 1) (parts := [(0, .int .i64 (k3_548 : Int))]) (vs := [.int .i64 (k3_548 : Int)]) (xs := [(k3_548 : Int)]) rfl Try.underlying26 ti3 hO (by decide) (by kernel_rfl) (Els.cons rfl rfl (Els.nil _ _ _) (by simp [mx])) rfl
  obtain ⟨Ld, Le, nN, ET, Jy, Cc⟩ := hobt
  refine GoR.op (Cc rfl) rfl rfl ?_
  replace cu := cu.ch nN.ch
  replace cC := cC.ch nN.ch
  replace cD := cD.ch nN.ch
  replace cI := cI.ch nN.ch
  replace dg := dg.ch nN.ch
  replace fT := fT.ch nN.ch
  replace eB := eB.ch nN.ch
  replace aj := aj.ch nN.ch
  replace hO := nN.own
  replace cZ := cZ.ch nN.ch
  replace d9 := d9.ch nN.ch
  replace er := er.ch nN.ch
  replace fG := fG.ch nN.ch
  replace hB := hB.trans nN.fr
  have hobt := freeze 0 hO rfl ET
  obtain ⟨hO1, rh, iH, EU⟩ := hobt
  dsimp only [eS, eZ] at hO1 rh iH
  replace cZ := cZ.ch rh
  replace d9 := d9.ch rh
  replace er := er.ch rh
  replace fG := fG.ch rh
  replace cu := cu.ch rh
  replace cC := cC.ch rh
  replace cD := cD.ch rh
  replace cI := cI.ch rh
  replace dg := dg.ch rh
  replace fT := fT.ch rh
  replace eB := eB.ch rh
  replace aj := aj.ch rh
  replace hB := hB.trans (Owns.dropFr _ _ 0)
  dsimp only [eS, eZ] at hB
  replace hO := hO1; clear hO1
  obtain ⟨HZ, H⟩ := H
  have hobt := oapp Try.underlying26 ti3 rfl 4 hO rfl dg iH EU HZ (by decide)
  obtain ⟨Lf, xe, xg, EV, nj, iZ, Cd⟩ := hobt
  dsimp only [sS, sZ] at nj iZ
  refine GoR.op (Cd (by exact rfl) (by exact rfl)) rfl rfl ?_
  replace cu := cu.ch nj.ch
  replace cC := cC.ch nj.ch
  replace cD := cD.ch nj.ch
  replace cI := cI.ch nj.ch
  replace fT := fT.ch nj.ch
  replace eB := eB.ch nj.ch
  replace aj := aj.ch nj.ch
  replace hO := nj.own
  replace cZ := cZ.ch nj.ch
  replace d9 := d9.ch nj.ch
  replace er := er.ch nj.ch
  replace fG := fG.ch nj.ch
  replace iH := iH.ch nj.ch
  replace hB := hB.trans nj.fr
  refine GoR.op ((op_nilCheck rfl) _) rfl rfl ?_
  refine GoR.op ((op_fieldAddr Try.underlying72 rfl ti29 rfl (by decide)) _) rfl rfl ?_
  refine GoR.op ((op_fieldAddr Try.underlying29 rfl ti26 rfl (by decide)) _) rfl rfl ?_
  have hobt := oblkSt2 (v := .slice xe (je + 1) xg) (i := 5) (cs' := #[.int .i64 ((ix a0 (0 : Int)).length : Int), .bool true, .slice p35 n37 c36, .slice u0 (jg + 1) u3, .slice wa (jf + 1) wb, .slice xe (je + 1) xg, .slice none 0 0, .slice jU jb jV, .int .i64 (0 : Int), .map (some B4), .slice ks jd kt, .slice jW jc jX, .slice kq iV kr]) 8 hO rfl rfl rfl rfl
  obtain ⟨Lg, mK, Ce⟩ := hobt
  dsimp only [sS, sZ] at mK
  refine GoR.op (Ce Try.underlying26 rfl ti26 (by exact rfl) (by exact rfl)) rfl rfl ?_
  replace cu := cu.ch mK.ch
  replace cC := cC.ch mK.ch
  replace cD := cD.ch mK.ch
  replace cI := cI.ch mK.ch
  replace iZ := iZ.ch mK.ch
  replace fT := fT.ch mK.ch
  replace eB := eB.ch mK.ch
  replace aj := aj.ch mK.ch
  replace hO := mK.own
  replace cZ := cZ.ch mK.ch
  replace d9 := d9.ch mK.ch
  replace er := er.ch mK.ch
  replace fG := fG.ch mK.ch
  replace iH := iH.ch mK.ch
  replace hB := hB.trans mK.fr
  refine GoR.nil ?_
  refine Go1.seq ?_
  refine Go1.region ?_
  refine GoR.op ((op_move rfl) _) rfl rfl ?_
  refine GoR.op ((op_move rfl) _) rfl rfl ?_
  refine GoR.op ((op_nilCheck rfl) _) rfl rfl ?_
  refine GoR.op ((op_fieldAddr Try.underlying72 rfl ti70 rfl (by decide)) _) rfl rfl ?_
  refine GoR.op ((oblk (i := 10) 8 hO rfl rfl Try.underlying70 rfl rfl) _ (Same.refl _)) rfl rfl ?_
  refine GoR.op ((op_move rfl) _) rfl rfl ?_
  have hobt := obuild (r := Rp.str) (n := 1) (parts := [(0, .string (gstr (chr (IntKind.i32.wrap ((97 : Int) + (k3_548 : Int))))))]) (vs := [.string (gstr (chr (IntKind.i32.wrap ((97 : Int) + (k3_548 : Int)))))]) (xs := [chr (IntKind.i32.wrap ((97 : Int) + (k3_548 : Int)))]) rfl Try.underlying70 ti9 hO (by decide) (by kernel_rfl) (Els.cons rfl ⟨rfl, (chr_le _)⟩ (Els.nil _ _ _) (by simp [mx])) rfl
  obtain ⟨Lh, Li, nk, EW, Jz, Cf⟩ := hobt
  refine GoR.op (Cf rfl) rfl rfl ?_
  replace cu := cu.ch nk.ch
  replace cC := cC.ch nk.ch
  replace cD := cD.ch nk.ch
  replace cI := cI.ch nk.ch
  replace iZ := iZ.ch nk.ch
  replace fT := fT.ch nk.ch
  replace eB := eB.ch nk.ch
  replace aj := aj.ch nk.ch
  replace hO := nk.own
  replace cZ := cZ.ch nk.ch
  replace d9 := d9.ch nk.ch
  replace er := er.ch nk.ch
  replace fG := fG.ch nk.ch
  replace iH := iH.ch nk.ch
  replace hB := hB.trans nk.fr
  have hobt := freeze 0 hO rfl EW
  obtain ⟨hO1, qH, lg, EX⟩ := hobt
  dsimp only [eS, eZ] at hO1 qH lg
  replace cZ := cZ.ch qH
  replace d9 := d9.ch qH
  replace er := er.ch qH
  replace fG := fG.ch qH
  replace iH := iH.ch qH
  replace cu := cu.ch qH
  replace cC := cC.ch qH
  replace cD := cD.ch qH
  replace cI := cI.ch qH
  replace iZ := iZ.ch qH
  replace fT := fT.ch qH
  replace eB := eB.ch qH
  replace aj := aj.ch qH
  replace hB := hB.trans (Owns.dropFr _ _ 0)
  dsimp only [eS, eZ] at hB
  replace hO := hO1; clear hO1
  obtain ⟨H0, H⟩ := H
  have hobt := oapp Try.underlying70 ti9 rfl 3 hO rfl cI lg EX H0 (by decide)
  obtain ⟨Lj, x5, x6, EY, mM, mD, Cg⟩ := hobt
  dsimp only [sS, sZ] at mM mD
  refine GoR.op (Cg (by exact rfl) (by exact rfl)) rfl rfl ?_
  replace cu := cu.ch mM.ch
  replace cC := cC.ch mM.ch
  replace cD := cD.ch mM.ch
  replace iZ := iZ.ch mM.ch
  replace fT := fT.ch mM.ch
  replace eB := eB.ch mM.ch
  replace aj := aj.ch mM.ch
  replace hO := mM.own
  replace cZ := cZ.ch mM.ch
  replace d9 := d9.ch mM.ch
  replace er := er.ch mM.ch
  replace fG := fG.ch mM.ch
  replace iH := iH.ch mM.ch
  replace lg := lg.ch mM.ch
  replace hB := hB.trans mM.fr
  refine GoR.op ((op_nilCheck rfl) _) rfl rfl ?_
  refine GoR.op ((op_fieldAddr Try.underlying72 rfl ti70 rfl (by decide)) _) rfl rfl ?_
  have hobt := oblkSt2 (v := .slice x5 (jd + 1) x6) (i := 10) (cs' := #[.int .i64 ((ix a0 (0 : Int)).length : Int), .bool true, .slice p35 n37 c36, .slice u0 (jg + 1) u3, .slice wa (jf + 1) wb, .slice xe (je + 1) xg, .slice none 0 0, .slice jU jb jV, .int .i64 (0 : Int), .map (some B4), .slice x5 (jd + 1) x6, .slice jW jc jX, .slice kq iV kr]) 8 hO rfl rfl rfl rfl
  obtain ⟨Lk, lM, Ci⟩ := hobt
  dsimp only [sS, sZ] at lM
  refine GoR.op (Ci Try.underlying70 rfl ti70 (by exact rfl) (by exact rfl)) rfl rfl ?_
  replace cu := cu.ch lM.ch
  replace cC := cC.ch lM.ch
  replace cD := cD.ch lM.ch
  replace mD := mD.ch lM.ch
  replace iZ := iZ.ch lM.ch
  replace fT := fT.ch lM.ch
  replace eB := eB.ch lM.ch
  replace aj := aj.ch lM.ch
  replace hO := lM.own
  replace cZ := cZ.ch lM.ch
  replace d9 := d9.ch lM.ch
  replace er := er.ch lM.ch
  replace fG := fG.ch lM.ch
  replace iH := iH.ch lM.ch
  replace lg := lg.ch lM.ch
  replace hB := hB.trans lM.fr
  refine GoR.nil ?_
  refine Go1.seq ?_
  refine Go1.cut [(0, .pointer (some ⟨B10, 0, none⟩)), (5, .int .i64 (0 : Int)), (13, .int .i64 (d_585.length : Int))] ⟨rfl, rfl, rfl, trivial⟩ ?_
  intro σ _
  refine Go1.region ?_
  refine GoR.op ((op_move rfl) _) rfl rfl ?_
  refine GoR.op ((op_move rfl) _) rfl rfl ?_
  refine GoR.op ((op_nilCheck rfl) _) rfl rfl ?_
  refine GoR.op ((op_fieldAddr Try.underlying72 rfl ti26 rfl (by decide)) _) rfl rfl ?_
  refine GoR.op ((oblk (i := 11) 8 hO rfl rfl Try.underlying26 rfl rfl) _ (Same.refl _)) rfl rfl ?_
  refine GoR.op ((op_move rfl) _) rfl rfl ?_
  have hobt := obuild (r := Rp.int .i64) (n := 1) (parts := [(0, .int .i64 (0 : Int))]) (vs := [.int .i64 (0 : Int)]) (xs := [(0 : Int)]) rfl Try.underlying26 ti3 hO (by decide) (by kernel_rfl) (Els.cons rfl rfl (Els.nil _ _ _) (by simp [mx])) rfl
  obtain ⟨Ll, Lm, mO, EZ, JA, Cj⟩ := hobt
  refine GoR.op (Cj rfl) rfl rfl ?_
  replace cu := cu.ch mO.ch
  replace cC := cC.ch mO.ch
  replace cD := cD.ch mO.ch
  replace mD := mD.ch mO.ch
  replace iZ := iZ.ch mO.ch
  replace fT := fT.ch mO.ch
  replace eB := eB.ch mO.ch
  replace aj := aj.ch mO.ch
  replace hO := mO.own
  replace cZ := cZ.ch mO.ch
  replace d9 := d9.ch mO.ch
  replace er := er.ch mO.ch
  replace fG := fG.ch mO.ch
  replace iH := iH.ch mO.ch
  replace lg := lg.ch mO.ch
  replace hB := hB.trans mO.fr
  have hobt := freeze 0 hO rfl EZ
  obtain ⟨hO1, pg, qI, E0⟩ := hobt
  dsimp only [eS, eZ] at hO1 pg qI
  replace cZ := cZ.ch pg
  replace d9 := d9.ch pg
  replace er := er.ch pg
  replace fG := fG.ch pg
  replace iH := iH.ch pg
  replace lg := lg.ch pg
  replace cu := cu.ch pg
  replace cC := cC.ch pg
  replace cD := cD.ch pg
  replace mD := mD.ch pg
  replace iZ := iZ.ch pg
  replace fT := fT.ch pg
  replace eB := eB.ch pg
  replace aj := aj.ch pg
  replace hB := hB.trans (Owns.dropFr _ _ 0)
  dsimp only [eS, eZ] at hB
  replace hO := hO1; clear hO1
  obtain ⟨H1, H⟩ := H
  have hobt := oapp Try.underlying26 ti3 rfl 2 hO rfl cD qI E0 H1 (by decide)
  obtain ⟨Ln, yV, yW, E3, lN, rQ, Ck⟩ := hobt
  dsimp only [sS, sZ] at lN rQ
  refine GoR.op (Ck (by exact rfl) (by exact rfl)) rfl rfl ?_
  replace cu := cu.ch lN.ch
  replace cC := cC.ch lN.ch
  replace mD := mD.ch lN.ch
  replace iZ := iZ.ch lN.ch
  replace fT := fT.ch lN.ch
  replace eB := eB.ch lN.ch
  replace aj := aj.ch lN.ch
  replace hO := lN.own
  replace cZ := cZ.ch lN.ch
  replace d9 := d9.ch lN.ch
  replace er := er.ch lN.ch
  replace fG := fG.ch lN.ch
  replace iH := iH.ch lN.ch
  replace lg := lg.ch lN.ch
  replace qI := qI.ch lN.ch
  replace hB := hB.trans lN.fr
  refine GoR.op ((op_nilCheck rfl) _) rfl rfl ?_
  refine GoR.op ((op_fieldAddr Try.underlying72 rfl ti26 rfl (by decide)) _) rfl rfl ?_
  have hobt := oblkSt2 (v := .slice yV (jc + 1) yW) (i := 11) (cs' := #[.int .i64 ((ix a0 (0 : Int)).length : Int), .bool true, .slice p35 n37 c36, .slice u0 (jg + 1) u3, .slice wa (jf + 1) wb, .slice xe (je + 1) xg, .slice none 0 0, .slice jU jb jV, .int .i64 (0 : Int), .map (some B4), .slice x5 (jd + 1) x6, .slice yV (jc + 1) yW, .slice kq iV kr]) 8 hO rfl rfl rfl rfl
  obtain ⟨Lo, lp, Cl⟩ := hobt
  dsimp only [sS, sZ] at lp
  refine GoR.op (Cl Try.underlying26 rfl ti26 (by exact rfl) (by exact rfl)) rfl rfl ?_
  replace cu := cu.ch lp.ch
  replace cC := cC.ch lp.ch
  replace rQ := rQ.ch lp.ch
  replace mD := mD.ch lp.ch
  replace iZ := iZ.ch lp.ch
  replace fT := fT.ch lp.ch
  replace eB := eB.ch lp.ch
  replace aj := aj.ch lp.ch
  replace hO := lp.own
  replace cZ := cZ.ch lp.ch
  replace d9 := d9.ch lp.ch
  replace er := er.ch lp.ch
  replace fG := fG.ch lp.ch
  replace iH := iH.ch lp.ch
  replace lg := lg.ch lp.ch
  replace qI := qI.ch lp.ch
  replace hB := hB.trans lp.fr
  refine GoR.nil ?_
  refine Go1.seq ?_
  refine Go1.region ?_
  refine GoR.op ((op_move rfl) _) rfl rfl ?_
  refine GoR.op ((op_assign rfl) _) rfl rfl ?_
  refine GoR.nil ?_
  refine Go1.ret1V Try.func65 rfl (show _ = .int .i64 (d_585.length : Int) from rfl) ?_
  refine hR670 _ _ ?_
  refine GoR.op ((op_assign rfl) _) rfl rfl ?_
  refine GoR.nil ?_
  refine Go1.region ?_
  refine GoR.op ((op_move rfl) _) rfl rfl ?_
  refine GoR.op ((op_move rfl) _) rfl rfl ?_
  refine GoR.op ((op_nilCheck rfl) _) rfl rfl ?_
  refine GoR.op ((op_fieldAddr Try.underlying72 rfl ti26 rfl (by decide)) _) rfl rfl ?_
  refine GoR.op ((oblk (i := 12) 8 hO rfl rfl Try.underlying26 rfl rfl) _ (Same.refl _)) rfl rfl ?_
  refine GoR.op ((op_move rfl) _) rfl rfl ?_
  have hobt := obuild (r := Rp.int .i64) (n := 1) (parts := [(0, .int .i64 (d_585.length : Int))]) (vs := [.int .i64 (d_585.length : Int)]) (xs := [(d_585.length : Int)]) rfl Try.underlying26 ti3 hO (by decide) (by kernel_rfl) (Els.cons rfl rfl (Els.nil _ _ _) (by simp [mx])) rfl
  obtain ⟨Lp, Lr, lO, E4, JB, Cm⟩ := hobt
  refine GoR.op (Cm rfl) rfl rfl ?_
  replace cu := cu.ch lO.ch
  replace cC := cC.ch lO.ch
  replace rQ := rQ.ch lO.ch
  replace mD := mD.ch lO.ch
  replace iZ := iZ.ch lO.ch
  replace fT := fT.ch lO.ch
  replace eB := eB.ch lO.ch
  replace aj := aj.ch lO.ch
  replace hO := lO.own
  replace cZ := cZ.ch lO.ch
  replace d9 := d9.ch lO.ch
  replace er := er.ch lO.ch
  replace fG := fG.ch lO.ch
  replace iH := iH.ch lO.ch
  replace lg := lg.ch lO.ch
  replace qI := qI.ch lO.ch
  replace hB := hB.trans lO.fr
  have hobt := freeze 0 hO rfl E4
  obtain ⟨hO1, ob, vt, E5⟩ := hobt
  dsimp only [eS, eZ] at hO1 ob vt
  replace cZ := cZ.ch ob
  replace d9 := d9.ch ob
  replace er := er.ch ob
  replace fG := fG.ch ob
  replace iH := iH.ch ob
  replace lg := lg.ch ob
  replace qI := qI.ch ob
  replace cu := cu.ch ob
  replace cC := cC.ch ob
  replace rQ := rQ.ch ob
  replace mD := mD.ch ob
  replace iZ := iZ.ch ob
  replace fT := fT.ch ob
  replace eB := eB.ch ob
  replace aj := aj.ch ob
  replace hB := hB.trans (Owns.dropFr _ _ 0)
  dsimp only [eS, eZ] at hB
  replace hO := hO1; clear hO1
  obtain ⟨H2, H⟩ := H
  have hobt := oapp Try.underlying26 ti3 rfl 0 hO rfl cu vt E5 H2 (by decide)
  obtain ⟨Ls, z4, z5, E6, lr, xP, Cn⟩ := hobt
  dsimp only [sS, sZ] at lr xP
  refine GoR.op (Cn (by exact rfl) (by exact rfl)) rfl rfl ?_
  replace cC := cC.ch lr.ch
  replace rQ := rQ.ch lr.ch
  replace mD := mD.ch lr.ch
  replace iZ := iZ.ch lr.ch
  replace fT := fT.ch lr.ch
  replace eB := eB.ch lr.ch
  replace aj := aj.ch lr.ch
  replace hO := lr.own
  replace cZ := cZ.ch lr.ch
  replace d9 := d9.ch lr.ch
  replace er := er.ch lr.ch
  replace fG := fG.ch lr.ch
  replace iH := iH.ch lr.ch
  replace lg := lg.ch lr.ch
  replace qI := qI.ch lr.ch
  replace vt := vt.ch lr.ch
  replace hB := hB.trans lr.fr
  refine GoR.op ((op_nilCheck rfl) _) rfl rfl ?_
  refine GoR.op ((op_fieldAddr Try.underlying72 rfl ti26 rfl (by decide)) _) rfl rfl ?_
  have hobt := oblkSt2 (v := .slice z4 (iV + 1) z5) (i := 12) (cs' := #[.int .i64 ((ix a0 (0 : Int)).length : Int), .bool true, .slice p35 n37 c36, .slice u0 (jg + 1) u3, .slice wa (jf + 1) wb, .slice xe (je + 1) xg, .slice none 0 0, .slice jU jb jV, .int .i64 (0 : Int), .map (some B4), .slice x5 (jd + 1) x6, .slice yV (jc + 1) yW, .slice z4 (iV + 1) z5]) 8 hO rfl rfl rfl rfl
  obtain ⟨Lt, kD, Co⟩ := hobt
  dsimp only [sS, sZ] at kD
  refine GoR.op (Co Try.underlying26 rfl ti26 (by exact rfl) (by exact rfl)) rfl rfl ?_
  replace xP := xP.ch kD.ch
  replace cC := cC.ch kD.ch
  replace rQ := rQ.ch kD.ch
  replace mD := mD.ch kD.ch
  replace iZ := iZ.ch kD.ch
  replace fT := fT.ch kD.ch
  replace eB := eB.ch kD.ch
  replace aj := aj.ch kD.ch
  replace hO := kD.own
  replace cZ := cZ.ch kD.ch
  replace d9 := d9.ch kD.ch
  replace er := er.ch kD.ch
  replace fG := fG.ch kD.ch
  replace iH := iH.ch kD.ch
  replace lg := lg.ch kD.ch
  replace qI := qI.ch kD.ch
  replace vt := vt.ch kD.ch
  replace hB := hB.trans kD.fr
  refine GoR.nil ?_
  refine Go1.inBlock ?_
  refine Go1.cut [(6, .pointer (some ⟨B10, 0, none⟩)), (9, .int .i64 (0 : Int)), (85, .slice p35 n37 c36), (86, .int .i64 (d_32.length : Int)), (87, .int .i64 (k3_548 : Int))] ⟨rfl, rfl, rfl, rfl, rfl, trivial⟩ ?_
  intro σ _
  refine Go1.region ?_
  refine GoR.op ((op_add rfl rfl (wrap_i64 (natbd xd aj.bd))) _) rfl rfl ?_
  refine GoR.op ((op_move rfl) _) rfl rfl ?_
  refine GoR.nil ?_
  exact hX3 _ H _ _ ⟨iV + 1, z4, z5, E6, jb, jU, jV, o6, jc + 1, yV, yW, E3, jd + 1, x5, x6, EY, je + 1, xe, xg, EV, jf + 1, wa, wb, ES, jg + 1, u0, u3, EP, ⟨rfl, rfl, rfl, rfl, rfl, trivial⟩, hO, xP, cC, rQ, mD, iZ, fT, eB, aj, hB⟩
 replace H := ifn xd H
 refine GoR.op ((fun w => opB (op_lss rfl rfl w) (decide_eq_false xd)) _) rfl rfl ?_
 refine GoR.nil ?_
 refine Go1.seq ?_
 refine Go1.condF rfl rfl ?_
 refine Go1.exit rfl ?_
 refine Go1.seq ?_
 refine Go1.region ?_
 refine GoR.op ((op_move rfl) _) rfl rfl ?_
 refine GoR.op ((op_assign rfl) _) rfl rfl ?_
 refine GoR.op ((op_assign rfl) _) rfl rfl ?_
 refine GoR.nil ?_
 have rI := Stp.nil (e := 26) (r := 1) hO
 replace cu := cu.ch rI.ch
 replace cC := cC.ch rI.ch
 replace cD := cD.ch rI.ch
 replace cI := cI.ch rI.ch
 replace dg := dg.ch rI.ch
 replace du := du.ch rI.ch
 replace dK := dK.ch rI.ch
 replace aj := aj.ch rI.ch
 replace hO := rI.own
 replace hB := hB.trans rI.fr
 have kE := Els.nil (Rp.sl (Rp.int .i64)) (bl (.row 26 1 none 0 0 [] :: [.row 3 1 kq iV kr qF, .row 39 2 jU jb jV o6, .row 3 1 jW jc jX o7, .row 9 1 ks jd kt o8, .row 3 1 kB je kC o9, .row 3 1 k9 jf la pc, .row 26 1 lH jg lI pe, .row 26 1 p35 n37 c36 fM, .blk B10 (.cells #[.int .i64 ((ix a0 (0 : Int)).length : Int), .bool true, .slice p35 n37 c36, .slice lH jg lI, .slice k9 jf la, .slice kB je kC, .slice none 0 0, .slice jU jb jV, .int .i64 (0 : Int), .map (some B4), .slice ks jd kt, .slice jW jc jX, .slice kq iV kr] 72 (0, 0)), .any (mapE (fun a : List UInt8 => Value.string (gstr a)) (fun a : Int => Value.int .i64 a) B4 m3_591)]) ++ A) HR
 have p6 := Stp.front 10 hO rfl
 dsimp only [eS, eZ] at p6
 replace kE := kE.ch p6.ch
 replace cu := cu.ch p6.ch
 replace cC := cC.ch p6.ch
 replace cD := cD.ch p6.ch
 replace cI := cI.ch p6.ch
 replace dg := dg.ch p6.ch
 replace du := du.ch p6.ch
 replace dK := dK.ch p6.ch
 replace aj := aj.ch p6.ch
 replace hO := p6.own
 replace hB := hB.trans p6.fr
 have qa := Stp.front 2 hO rfl
 dsimp only [eS, eZ] at qa
 replace kE := kE.ch qa.ch
 replace cu := cu.ch qa.ch
 replace cC := cC.ch qa.ch
 replace cD := cD.ch qa.ch
 replace cI := cI.ch qa.ch
 replace dg := dg.ch qa.ch
 replace du := du.ch qa.ch
 replace dK := dK.ch qa.ch
 replace aj := aj.ch qa.ch
 replace hO := qa.own
 replace hB := hB.trans qa.fr
 have qb := Stp.front 4 hO rfl
 dsimp only [eS, eZ] at qb
 replace cu := cu.ch qb.ch
 replace kE := kE.ch qb.ch
 replace cC := cC.ch qb.ch
 replace cD := cD.ch qb.ch
 replace cI := cI.ch qb.ch
 replace dg := dg.ch qb.ch
 replace du := du.ch qb.ch
 replace dK := dK.ch qb.ch
 replace aj := aj.ch qb.ch
 replace hO := qb.own
 replace hB := hB.trans qb.fr
 have qc := Stp.front 5 hO rfl
 dsimp only [eS, eZ] at qc
 replace cD := cD.ch qc.ch
 replace cu := cu.ch qc.ch
 replace kE := kE.ch qc.ch
 replace cC := cC.ch qc.ch
 replace cI := cI.ch qc.ch
 replace dg := dg.ch qc.ch
 replace du := du.ch qc.ch
 replace dK := dK.ch qc.ch
 replace aj := aj.ch qc.ch
 replace hO := qc.own
 replace hB := hB.trans qc.fr
 have qd := Stp.front 5 hO rfl
 dsimp only [eS, eZ] at qd
 replace cI := cI.ch qd.ch
 replace cD := cD.ch qd.ch
 replace cu := cu.ch qd.ch
 replace kE := kE.ch qd.ch
 replace cC := cC.ch qd.ch
 replace dg := dg.ch qd.ch
 replace du := du.ch qd.ch
 replace dK := dK.ch qd.ch
 replace aj := aj.ch qd.ch
 replace hO := qd.own
 replace hB := hB.trans qd.fr
 have qe := Stp.front 5 hO rfl
 dsimp only [eS, eZ] at qe
 replace cC := cC.ch qe.ch
 replace cI := cI.ch qe.ch
 replace cD := cD.ch qe.ch
 replace cu := cu.ch qe.ch
 replace kE := kE.ch qe.ch
 replace dg := dg.ch qe.ch
 replace du := du.ch qe.ch
 replace dK := dK.ch qe.ch
 replace aj := aj.ch qe.ch
 replace hO := qe.own
 replace hB := hB.trans qe.fr
 have qf := Stp.front 6 hO rfl
 dsimp only [eS, eZ] at qf
 replace kE := kE.ch qf.ch
 replace cC := cC.ch qf.ch
 replace cI := cI.ch qf.ch
 replace cD := cD.ch qf.ch
 replace cu := cu.ch qf.ch
 replace dg := dg.ch qf.ch
 replace du := du.ch qf.ch
 replace dK := dK.ch qf.ch
 replace aj := aj.ch qf.ch
 replace hO := qf.own
 replace hB := hB.trans qf.fr
 have qg := Stp.front 7 hO rfl
 dsimp only [eS, eZ] at qg
 replace dg := dg.ch qg.ch
 replace kE := kE.ch qg.ch
 replace cC := cC.ch qg.ch
 replace cI := cI.ch qg.ch
 replace cD := cD.ch qg.ch
 replace cu := cu.ch qg.ch
 replace du := du.ch qg.ch
 replace dK := dK.ch qg.ch
 replace aj := aj.ch qg.ch
 replace hO := qg.own
 replace hB := hB.trans qg.fr
 have qh := Stp.front 8 hO rfl
 dsimp only [eS, eZ] at qh
 replace du := du.ch qh.ch
 replace dg := dg.ch qh.ch
 replace kE := kE.ch qh.ch
 replace cC := cC.ch qh.ch
 replace cI := cI.ch qh.ch
 replace cD := cD.ch qh.ch
 replace cu := cu.ch qh.ch
 replace dK := dK.ch qh.ch
 replace aj := aj.ch qh.ch
 replace hO := qh.own
 replace hB := hB.trans qh.fr
 have qi := Stp.front 9 hO rfl
 dsimp only [eS, eZ] at qi
 replace dK := dK.ch qi.ch
 replace du := du.ch qi.ch
 replace dg := dg.ch qi.ch
 replace kE := kE.ch qi.ch
 replace cC := cC.ch qi.ch
 replace cI := cI.ch qi.ch
 replace cD := cD.ch qi.ch
 replace cu := cu.ch qi.ch
 replace aj := aj.ch qi.ch
 replace hO := qi.own
 replace hB := hB.trans qi.fr
 have qj := Stp.front 10 hO rfl
 dsimp only [eS, eZ] at qj
 replace aj := aj.ch qj.ch
 replace dK := dK.ch qj.ch
 replace du := du.ch qj.ch
 replace dg := dg.ch qj.ch
 replace kE := kE.ch qj.ch
 replace cC := cC.ch qj.ch
 replace cI := cI.ch qj.ch
 replace cD := cD.ch qj.ch
 replace cu := cu.ch qj.ch
 replace hO := qj.own
 replace hB := hB.trans qj.fr
 refine Go1.ret2 Try.func49 rfl ?_
 exact Or.inr ⟨(⟨(⟨((ix a0 (0 : Int)).length : Int), true, d_32, d_585, d_579, d_573, ([] : List (List Int)), d_555, (0 : Int)⟩ : Enum), m3_591, d_567, d_561, d_549⟩ : run), ((0 : Int)), B10, n37, p35, c36, fM, jg, lH, lI, pe, jf, k9, la, pc, je, kB, kC, o9, 0, none, 0, ([]), jb, jU, jV, o6, B4, jd, ks, kt, o8, jc, jW, jX, o7, iV, kq, kr, qF, rfl, hB.same, hO, aj, dK, du, dg, kE, cC, cI, cD, cu, H⟩
theorem body37 : Body Try.prog 37 := ⟨Try.f37, Try.func37, rfl, by kernel_rfl⟩
theorem walk_trans_Compose {A : List Nat} {w0 : World} {p_f : Option Addr} {c_f : Nat} {p_g : Option Addr} {c_g : Nat} {f : List Int} {g : List Int} (hA : ∀ b ∈ A, b < w0.heap.size) (h_f : ISl (Rp.int .i64) A w0 p_f c_f f) (h_g : ISl (Rp.int .i64) A w0 p_g c_g g) {K : List Int → Prop} (H : trans_Compose f g K) :
    CallsV Try.prog 37 #[.slice p_f f.length c_f, .slice p_g g.length c_g] w0 (fun v w' => ∃ (r0 : List Int), ∃ (uB : Option Addr), ∃ (uC : Nat), v = .slice uB r0.length uC ∧ Same w0 w' ∧ ISl (Rp.int .i64) A w' uB uC r0 ∧ K r0) := by
 refine CallsV.of (l := [.slice p_f f.length c_f, .slice p_g g.length c_g]) Try.func37 rfl Try.ntmps37 rfl ?_
 have hO := Owns.start hA
 have hB := Fr.refl (bl []) w0
 unfold trans_Compose at H
 replace h_f := h_f.ch (Ch.start A w0)
 replace h_g := h_g.ch (Ch.start A w0)
 refine Go1.seq ?_
 refine Go1.region ?_
 refine GoR.op ((op_assign rfl) _) rfl rfl ?_
 refine GoR.nil ?_
 refine Go1.seq ?_
 refine Go1.seq ?_
 refine Go1.region ?_
 refine GoR.op ((op_move rfl) _) rfl rfl ?_
 refine GoR.op ((op_len Try.underlying26 rfl) _) rfl rfl ?_
 replace H := H h_f.bd
 refine GoR.op ((op_move rfl) _) rfl rfl ?_
 refine GoR.op ((op_len Try.underlying26 rfl) _) rfl rfl ?_
 replace H := H h_g.bd
 by_cases h1 : (f.length : Int) = (g.length : Int)
 ·replace H := ifp h1 H
  refine GoR.op ((fun w => opB (op_neq rfl rfl w) (ndT h1)) _) rfl rfl ?_
  refine GoR.op ((op_move rfl) _) rfl rfl ?_
  refine GoR.op ((op_move rfl) _) rfl rfl ?_
  refine GoR.call (op_call body60 rfl (walk_trans_Valid hO.lt h_f H)) rfl rfl ?_
  rintro v6 w3 ⟨r2, rfl, hs4, H⟩
  have se := Stp.same hO hs4
  replace hO := se.own
  replace h_f := h_f.ch se.ch
  replace h_g := h_g.ch se.ch
  replace hB := hB.trans se.fr
  cases r2
  ·replace H := ifn Bool.false_ne_true H
   refine GoR.op ((op_not rfl) _) rfl rfl ?_
   refine GoR.op ((op_pickF rfl rfl rfl) _) rfl rfl ?_
   refine GoR.op ((op_move rfl) _) rfl rfl ?_
   refine GoR.pass rfl rfl ?_
   refine GoR.pass rfl rfl ?_
   refine GoR.pass rfl rfl ?_
   refine GoR.op ((op_pickT rfl rfl rfl) _) rfl rfl ?_
   refine GoR.nil ?_
   refine Go1.condT rfl rfl ?_
   refine Go1.seq ?_
   refine Go1.region ?_
   refine GoR.op ((op_assign rfl) _) rfl rfl ?_
   refine GoR.nil ?_
   refine Go1.ret1 Try.func37 rfl ?_
   exact ⟨([] : List Int), none, 0, rfl, hB.same, (ISl.null _ _ _), H⟩
  replace H := ifp rfl H
  refine GoR.op ((op_not rfl) _) rfl rfl ?_
  refine GoR.op ((op_pickF rfl rfl rfl) _) rfl rfl ?_
  refine GoR.op ((op_move rfl) _) rfl rfl ?_
  refine GoR.op ((op_move rfl) _) rfl rfl ?_
  refine GoR.call (op_call body60 rfl (walk_trans_Valid hO.lt h_g H)) rfl rfl ?_
  rintro v12 w9 ⟨r8, rfl, Bb, H⟩
  have xQ := Stp.same hO Bb
  replace hO := xQ.own
  replace h_f := h_f.ch xQ.ch
  replace h_g := h_g.ch xQ.ch
  replace hB := hB.trans xQ.fr
  cases r8
  ·replace H := ifn Bool.false_ne_true H
   refine GoR.op ((op_not rfl) _) rfl rfl ?_
   refine GoR.op ((op_pickF rfl rfl rfl) _) rfl rfl ?_
   refine GoR.nil ?_
   refine Go1.condT rfl rfl ?_
   refine Go1.seq ?_
   refine Go1.cut [] trivial ?_
   intro σ _
   refine Go1.region ?_
   refine GoR.op ((op_assign rfl) _) rfl rfl ?_
   refine GoR.nil ?_
   refine Go1.ret1 Try.func37 rfl ?_
   exact ⟨([] : List Int), none, 0, rfl, hB.same, (ISl.null _ _ _), H⟩
  replace H := ifp rfl H
  refine GoR.op ((op_not rfl) _) rfl rfl ?_
  refine GoR.op ((op_pickF rfl rfl rfl) _) rfl rfl ?_
  refine GoR.nil ?_
  refine Go1.condF rfl rfl ?_
  refine Go1.skip ?_
  refine Go1.seq ?_
  refine Go1.region ?_
  refine GoR.op ((op_move rfl) _) rfl rfl ?_
  refine GoR.op ((op_len Try.underlying26 rfl) _) rfl rfl ?_
  obtain ⟨h21, H⟩ := H
  obtain ⟨h22, H⟩ := H
  have hobt := omake (n := (f.length : Int)) (r := Rp.int .i64) (d := (0 : Int)) Try.underlying26 ti3 (fun _ _ => rfl) rfl hO h21 h22 (by decide)
  obtain ⟨w14, p15, vW, tu, dk, Cp, yy⟩ := hobt
  refine GoR.op (yy rfl rfl) rfl rfl ?_
  replace hO := tu.own
  replace h_f := h_f.ch tu.ch
  replace h_g := h_g.ch tu.ch
  replace hB := hB.trans tu.fr
  refine GoR.op ((op_assign rfl) _) rfl rfl ?_
  refine GoR.nil ?_
  refine Go1.seq ?_
  refine Go1.seq ?_
  refine Go1.region ?_
  refine GoR.op ((op_move rfl) _) rfl rfl ?_
  refine GoR.op ((op_len Try.underlying26 rfl) _) rfl rfl ?_
  refine GoR.op ((op_move rfl) _) rfl rfl ?_
  refine GoR.nil ?_
  refine Go1.block ?_
  refine Go1.loopW (S := Nat × List Int) (fun s σ w => match s with | (k1_25, h1_26) => ∃ (wc : List Value), agrees σ [(1, .slice p_g g.length c_g), (5, .slice p15 f.length f.length), (26, .slice p_f f.length c_f), (27, .int .i64 (f.length : Int)), (28, .int .i64 (k1_25 : Int))] ∧ Owns w0.heap.size w [.row 3 1 p15 f.length f.length wc] A ∧ Els (Rp.int .i64) (bl [.row 3 1 p15 f.length f.length wc] ++ A) w wc h1_26 ∧ ISl (Rp.int .i64) (bl [.row 3 1 p15 f.length f.length wc] ++ A) w p_f c_f f ∧ ISl (Rp.int .i64) (bl [.row 3 1 p15 f.length f.length wc] ++ A) w p_g c_g g ∧ Fr (bl []) w0 (bl [.row 3 1 p15 f.length f.length wc]) w) H ⟨vW, ⟨rfl, rfl, rfl, rfl, rfl, trivial⟩, hO, dk, h_f, h_g, hB⟩ ?_
  intro X1
  refine prE fun k1_25 => fun h1_26 => ?_
  intro H hX1 σ w24
  refine exE fun wc => andE fun hag => andE fun hO => andE fun yX => andE fun h_f => andE fun h_g => fun hB => ?_
  dsimp only at H
  refine Go1.keep [(1, .slice p_g g.length c_g), (5, .slice p15 f.length f.length), (26, .slice p_f f.length c_f), (27, .int .i64 (f.length : Int)), (28, .int .i64 (k1_25 : Int))] hag ?_
  refine Go1.seq ?_
  refine Go1.region ?_
  by_cases h29 : (k1_25 : Int) < (f.length : Int)
  ·replace H := ifp h29 H
   refine GoR.op ((fun w => opB (op_lss rfl rfl w) (decide_eq_true h29)) _) rfl rfl ?_
   refine GoR.nil ?_
   refine Go1.seq ?_
   refine Go1.condT rfl rfl ?_
   refine Go1.skip ?_
   refine Go1.seq ?_
   refine Go1.block ?_
   refine Go1.seq ?_
   refine Go1.region ?_
   refine GoR.op ((op_move rfl) _) rfl rfl ?_
   obtain ⟨h30, H⟩ := H
   obtain ⟨h31, H⟩ := H
   refine GoR.op ((op_index Try.underlying26 ti3 rfl rfl h30 h31 (h_f.some_ h30 h31)) _) rfl rfl ?_
   refine GoR.op ((ldInt h_f h30 h31 Try.underlying3 rfl rfl) _ (Same.refl _)) rfl rfl ?_
   refine GoR.op ((op_assign rfl) _) rfl rfl ?_
   refine GoR.op ((op_assign rfl) _) rfl rfl ?_
   refine GoR.nil ?_
   refine Go1.region ?_
   refine GoR.op ((op_move rfl) _) rfl rfl ?_
   refine GoR.op ((op_move rfl) _) rfl rfl ?_
   refine GoR.op ((op_move rfl) _) rfl rfl ?_
   refine GoR.op ((op_move rfl) _) rfl rfl ?_
   obtain ⟨h32, H⟩ := H
   obtain ⟨h33, H⟩ := H
   refine GoR.op ((op_index Try.underlying26 ti3 rfl rfl h32 h33 (h_g.some_ h32 h33)) _) rfl rfl ?_
   refine GoR.op ((ldInt h_g h32 h33 Try.underlying3 rfl rfl) _ (Same.refl _)) rfl rfl ?_
   obtain ⟨h34, H⟩ := H
   obtain ⟨h35, H⟩ := H
   refine GoR.op ((op_index Try.underlying26 ti3 rfl rfl h34 (ltn (yX.neq hO 0 rfl) h35) (yX.psome hO 0 rfl h34 h35)) _) rfl rfl ?_
   have hobt := ost (r := Rp.int .i64) rfl 0 hO rfl yX h34 h35 (v := .int .i64 (ix g (ix f (k1_25 : Int)))) (u := (ix g (ix f (k1_25 : Int)))) rfl rfl
   obtain ⟨w36, H3, xR, H4, E7⟩ := hobt
   refine GoR.op (E7 Try.underlying3 rfl ti3 (by exact rfl) (by exact rfl)) rfl rfl ?_
   replace hO := xR.own
   replace h_f := h_f.ch xR.ch
   replace h_g := h_g.ch xR.ch
   replace hB := hB.trans xR.fr
   refine GoR.nil ?_
   refine Go1.inBlock ?_
   refine Go1.region ?_
   refine GoR.op ((op_add rfl rfl (wrap_i64 (natbd h29 h_f.bd))) _) rfl rfl ?_
   refine GoR.op ((op_move rfl) _) rfl rfl ?_
   refine GoR.nil ?_
   exact hX1 _ H _ _ ⟨H3, ⟨rfl, rfl, rfl, rfl, rfl, trivial⟩, hO, H4, h_f, h_g, hB⟩
  replace H := ifn h29 H
  refine GoR.op ((fun w => opB (op_lss rfl rfl w) (decide_eq_false h29)) _) rfl rfl ?_
  refine GoR.nil ?_
  refine Go1.seq ?_
  refine Go1.condF rfl rfl ?_
  refine Go1.exit rfl ?_
  refine Go1.seq ?_
  refine Go1.region ?_
  refine GoR.op ((op_move rfl) _) rfl rfl ?_
  refine GoR.op ((op_assign rfl) _) rfl rfl ?_
  refine GoR.nil ?_
  have hobt := freeze 0 hO rfl yX
  obtain ⟨hO1, Cq, H5, H6⟩ := hobt
  replace h_f := h_f.ch Cq
  replace h_g := h_g.ch Cq
  replace hB := hB.trans (Owns.dropFr _ _ 0)
  replace hO := hO1; clear hO1
  refine Go1.ret1 Try.func37 rfl ?_
  exact ⟨h1_26, p15, f.length, (congrArg (fun nn => Value.slice p15 nn f.length) H6), hB.same, (H5.ch (Ch.weak _ _ _)), H⟩
 replace H := ifn h1 H
 refine GoR.op ((fun w => opB (op_neq rfl rfl w) (ndF h1)) _) rfl rfl ?_
 refine GoR.op ((op_move rfl) _) rfl rfl ?_
 refine GoR.pass rfl rfl ?_
 refine GoR.pass rfl rfl ?_
 refine GoR.pass rfl rfl ?_
 refine GoR.op ((op_pickT rfl rfl rfl) _) rfl rfl ?_
 refine GoR.op ((op_move rfl) _) rfl rfl ?_
 refine GoR.pass rfl rfl ?_
 refine GoR.pass rfl rfl ?_
 refine GoR.pass rfl rfl ?_
 refine GoR.op ((op_pickT rfl rfl rfl) _) rfl rfl ?_
 refine GoR.nil ?_
 refine Go1.condT rfl rfl ?_
 refine Go1.seq ?_
 refine Go1.cut [] trivial ?_
 intro σ _
 refine Go1.region ?_
 refine GoR.op ((op_assign rfl) _) rfl rfl ?_
 refine GoR.nil ?_
 refine Go1.ret1 Try.func37 rfl ?_
 exact ⟨([] : List Int), none, 0, rfl, hB.same, (ISl.null _ _ _), H⟩
end Sg
