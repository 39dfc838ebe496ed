/- The walks: each call keeps to its plain transformer. Printed by walkgen.py. -/
import Derived.Test.YtjegmdkaiddokaaTi
import Derived.Test.YtjegmdkaiddokaaWTransAssociates
namespace Sg
open Go Go.RowKit Go.Proofs
set_option linter.unusedVariables false
set_option maxRecDepth 100000
set_option maxHeartbeats 4000000
theorem body45 : Body Try.prog 45 := ⟨Try.f45, Try.func45, rfl, by kernel_rfl⟩
theorem walk_trans_IsPermutation {A : List Nat} {w0 : World} {p_f : Option Addr} {c_f : Nat} {f : List Int} (hA : ∀ b ∈ A, b < w0.heap.size) (h_f : ISl (Rp.int .i64) A w0 p_f c_f f) {K : Bool → Prop} (H : trans_IsPermutation f K) :
    CallsV Try.prog 45 #[.slice p_f f.length c_f] w0 (fun v w' => ∃ (r0 : Bool), v = .bool r0 ∧ Same w0 w' ∧ K r0) := by
 refine CallsV.of (l := [.slice p_f f.length c_f]) Try.func45 rfl Try.ntmps45 rfl ?_
 have hO := Owns.start hA
 have hB := Fr.refl (bl []) w0
 unfold trans_IsPermutation at H
 replace h_f := h_f.ch (Ch.start A w0)
 refine Go1.seq ?_
 refine Go1.region ?_
 refine GoR.op ((op_assign rfl) _) rfl rfl ?_
 refine GoR.nil ?_
 refine Go1.seq ?_
 refine Go1.region ?_
 refine GoR.op ((op_move rfl) _) rfl rfl ?_
 refine GoR.call (op_call body21 rfl (walk_trans_Valid hO.lt h_f H)) rfl rfl ?_
 rintro v5 w2 ⟨r1, rfl, hs3, H⟩
 have hst6 := Stp.same hO hs3
 replace hO := hst6.own
 replace h_f := h_f.ch hst6.ch
 replace hB := hB.trans hst6.fr
 refine GoR.op ((op_move rfl) _) rfl rfl ?_
 cases r1
 ·replace H := ifn Bool.false_ne_true H
  refine GoR.pass rfl rfl ?_
  refine GoR.pass rfl rfl ?_
  refine GoR.pass rfl rfl ?_
  refine GoR.pass rfl rfl ?_
  refine GoR.pass rfl rfl ?_
  refine GoR.op ((op_pickF rfl rfl rfl) _) rfl rfl ?_
  refine GoR.op ((op_assign rfl) _) rfl rfl ?_
  refine GoR.nil ?_
  refine Go1.ret1 Try.func45 rfl ?_
  exact ⟨false, rfl, hB.same, H⟩
 ·replace H := ifp rfl H
  refine GoR.op ((op_move rfl) _) rfl rfl ?_
  refine GoR.call (op_call body44 rfl (walk_trans_Rank hO.lt h_f H)) rfl rfl ?_
  rintro v11 w8 ⟨r7, rfl, hs9, H⟩
  have hst12 := Stp.same hO hs9
  replace hO := hst12.own
  replace h_f := h_f.ch hst12.ch
  replace hB := hB.trans hst12.fr
  refine GoR.op ((op_move rfl) _) rfl rfl ?_
  refine GoR.op ((op_len Try.underlying22 rfl) _) rfl rfl ?_
  replace H := H h_f.bd
  by_cases h13 : r7 = (f.length : Int)
  ·replace H := ifp h13 H
   refine GoR.op ((fun w => opB (op_eql rfl rfl w) (decide_eq_true h13)) _) rfl rfl ?_
   refine GoR.op ((op_pickT rfl rfl rfl) _) rfl rfl ?_
   refine GoR.op ((op_assign rfl) _) rfl rfl ?_
   refine GoR.nil ?_
   refine Go1.ret1 Try.func45 rfl ?_
   exact ⟨true, rfl, hB.same, H⟩
  ·replace H := ifn h13 H
   refine GoR.op ((fun w => opB (op_eql rfl rfl w) (decide_eq_false h13)) _) rfl rfl ?_
   refine GoR.op ((op_pickT rfl rfl rfl) _) rfl rfl ?_
   refine GoR.op ((op_assign rfl) _) rfl rfl ?_
   refine GoR.nil ?_
   refine Go1.ret1 Try.func45 rfl ?_
   exact ⟨false, rfl, hB.same, H⟩
theorem body46 : Body Try.prog 46 := ⟨Try.f46, Try.func46, rfl, by kernel_rfl⟩
theorem walk_trans_Inverse {A : List Nat} {w0 : World} {p_f : Option Addr} {c_f : Nat} {f : List Int} (hA : ∀ b ∈ A, b < w0.heap.size) (h_f : ISl (Rp.int .i64) A w0 p_f c_f f) {K : List Int → Prop} (H : trans_Inverse f K) :
    CallsV Try.prog 46 #[.slice p_f f.length c_f] w0 (fun v w' => ∃ (r0 : List Int), ∃ (p_r0 : Option Addr), ∃ (c_r0 : Nat), v = .slice p_r0 r0.length c_r0 ∧ Same w0 w' ∧ ISl (Rp.int .i64) A w' p_r0 c_r0 r0 ∧ K r0) := by
 refine CallsV.of (l := [.slice p_f f.length c_f]) Try.func46 rfl Try.ntmps46 rfl ?_
 have hO := Owns.start hA
 have hB := Fr.refl (bl []) w0
 unfold trans_Inverse at H
 replace h_f := h_f.ch (Ch.start A w0)
 refine Go1.seq ?_
 refine Go1.region ?_
 refine GoR.op ((op_assign rfl) _) rfl rfl ?_
 refine GoR.nil ?_
 refine Go1.seq ?_
 refine Go1.seq ?_
 refine Go1.region ?_
 refine GoR.op ((op_move rfl) _) rfl rfl ?_
 refine GoR.call (op_call body45 rfl (walk_trans_IsPermutation hO.lt h_f H)) rfl rfl ?_
 rintro v5 w2 ⟨r1, rfl, hs3, H⟩
 have hst6 := Stp.same hO hs3
 replace hO := hst6.own
 replace h_f := h_f.ch hst6.ch
 replace hB := hB.trans hst6.fr
 cases r1
 ·replace H := ifn Bool.false_ne_true H
  refine GoR.op ((op_not rfl) _) rfl rfl ?_
  refine GoR.nil ?_
  refine Go1.condT rfl rfl ?_
  refine Go1.seq ?_
  refine Go1.region ?_
  refine GoR.op ((op_assign rfl) _) rfl rfl ?_
  refine GoR.nil ?_
  refine Go1.ret1 Try.func46 rfl ?_
  exact ⟨([] : List Int), none, 0, rfl, hB.same, (ISl.null _ _ _), H⟩
 ·replace H := ifp rfl H
  refine GoR.op ((op_not rfl) _) rfl rfl ?_
  refine GoR.nil ?_
  refine Go1.condF rfl rfl ?_
  refine Go1.skip ?_
  refine Go1.seq ?_
  refine Go1.region ?_
  refine GoR.op ((op_move rfl) _) rfl rfl ?_
  refine GoR.op ((op_len Try.underlying22 rfl) _) rfl rfl ?_
  replace H := H h_f.bd
  obtain ⟨h14, H⟩ := H
  obtain ⟨h15, H⟩ := H
  have hobt := omake (n := (f.length : Int)) (r := Rp.int .i64) (d := (0 : Int)) Try.underlying22 ti3 (fun _ _ => rfl) rfl hO h14 h15 (by decide)
  obtain ⟨w7, p8, vs9, hst10, hE11, hs12, hop13⟩ := hobt
  refine GoR.op (hop13 rfl rfl) rfl rfl ?_
  replace hO := hst10.own
  replace h_f := h_f.ch hst10.ch
  replace hB := hB.trans hst10.fr
  refine GoR.op ((op_assign rfl) _) rfl rfl ?_
  refine GoR.nil ?_
  refine Go1.seq ?_
  refine Go1.seq ?_
  refine Go1.region ?_
  refine GoR.op ((op_move rfl) _) rfl rfl ?_
  refine GoR.op ((op_len Try.underlying22 rfl) _) rfl rfl ?_
  refine GoR.op ((op_move rfl) _) rfl rfl ?_
  refine GoR.nil ?_
  refine Go1.block ?_
  refine Go1.loopW (S := Nat × List Int) (fun s σ w => ∃ (vs20 : List Value), agrees σ [(3, .slice p8 f.length f.length), (12, .slice p_f f.length c_f), (13, .int .i64 (f.length : Int)), (14, .int .i64 ((s.1) : Int))] ∧ Owns w0.heap.size w [.row 3 1 p8 f.length f.length vs20] A ∧ Els (Rp.int .i64) (bl [.row 3 1 p8 f.length f.length vs20] ++ A) w vs20 (s.2) ∧ ISl (Rp.int .i64) (bl [.row 3 1 p8 f.length f.length vs20] ++ A) w p_f c_f f ∧ Fr (bl []) w0 (bl [.row 3 1 p8 f.length f.length vs20]) w) H ⟨vs9, ⟨rfl, rfl, rfl, rfl, trivial⟩, hO, hE11, h_f, hB⟩ ?_
  rintro X1 ⟨k1_18, g1_19⟩ H hX1 σ w17 ⟨vs20, hag, hO, hE21, h_f, hB⟩
  dsimp only at H
  refine Go1.keep [(3, .slice p8 f.length f.length), (12, .slice p_f f.length c_f), (13, .int .i64 (f.length : Int)), (14, .int .i64 (k1_18 : Int))] hag ?_
  refine Go1.seq ?_
  refine Go1.region ?_
  by_cases h22 : (k1_18 : Int) < (f.length : Int)
  ·replace H := ifp h22 H
   refine GoR.op ((fun w => opB (op_lss rfl rfl w) (decide_eq_true h22)) _) rfl rfl ?_
   refine GoR.nil ?_
   refine Go1.seq ?_
   refine Go1.condT rfl rfl ?_
   refine Go1.skip ?_
   refine Go1.seq ?_
   refine Go1.block ?_
   refine Go1.seq ?_
   refine Go1.region ?_
   refine GoR.op ((op_move rfl) _) rfl rfl ?_
   obtain ⟨h23, H⟩ := H
   obtain ⟨h24, H⟩ := H
   refine GoR.op ((op_index Try.underlying22 ti3 rfl rfl h23 h24 (h_f.some_ h23 h24)) _) rfl rfl ?_
   refine GoR.op ((ldInt h_f h23 h24 Try.underlying3 rfl rfl) _ (Same.refl _)) rfl rfl ?_
   refine GoR.op ((op_assign rfl) _) rfl rfl ?_
   refine GoR.op ((op_assign rfl) _) rfl rfl ?_
   refine GoR.nil ?_
   refine Go1.region ?_
   refine GoR.op ((op_move rfl) _) rfl rfl ?_
   refine GoR.op ((op_move rfl) _) rfl rfl ?_
   refine GoR.op ((op_move rfl) _) rfl rfl ?_
   obtain ⟨h25, H⟩ := H
   obtain ⟨h26, H⟩ := H
   refine GoR.op ((op_index Try.underlying22 ti3 rfl rfl h25 (ltn (hE21.neq hO 0 rfl) h26) (hE21.psome hO 0 rfl h25 h26)) _) rfl rfl ?_
   have hobt := ost (r := Rp.int .i64) rfl 0 hO rfl hE21 h25 h26 (v := .int .i64 (k1_18 : Int)) (u := (k1_18 : Int)) rfl rfl
   obtain ⟨w27, vs28, hst29, hE30, hop31⟩ := hobt
   refine GoR.op (hop31 Try.underlying3 rfl ti3 rfl rfl) rfl rfl ?_
   replace hO := hst29.own
   replace h_f := h_f.ch hst29.ch
   replace hB := hB.trans hst29.fr
   refine GoR.nil ?_
   refine Go1.inBlock ?_
   refine Go1.region ?_
   refine GoR.op ((op_add rfl rfl (wrap_i64 (natbd h22 h_f.bd))) _) rfl rfl ?_
   refine GoR.op ((op_move rfl) _) rfl rfl ?_
   refine GoR.nil ?_
   exact hX1 _ H _ _ ⟨vs28, ⟨rfl, rfl, rfl, rfl, trivial⟩, hO, hE30, h_f, hB⟩
  ·replace H := ifn h22 H
   refine GoR.op ((fun w => opB (op_lss rfl rfl w) (decide_eq_false h22)) _) rfl rfl ?_
   refine GoR.nil ?_
   refine Go1.seq ?_
   refine Go1.condF rfl rfl ?_
   refine Go1.exit rfl ?_
   refine Go1.seq ?_
   refine Go1.region ?_
   refine GoR.op ((op_move rfl) _) rfl rfl ?_
   refine GoR.op ((op_assign rfl) _) rfl rfl ?_
   refine GoR.nil ?_
   have hobt := freeze 0 hO rfl hE21
   obtain ⟨hO1, hc34, hi32, hn33⟩ := hobt
   replace h_f := h_f.ch hc34
   replace hB := hB.trans (Owns.dropFr _ _ 0)
   replace hO := hO1; clear hO1
   refine Go1.ret1 Try.func46 rfl ?_
   exact ⟨g1_19, p8, f.length, ((congrArg (fun nn => Value.slice p8 nn f.length) hn33)), hB.same, (hi32.ch (Ch.weak _ _ _)), H⟩
theorem body64 : Body Try.prog 64 := ⟨Try.f64, Try.func64, rfl, by kernel_rfl⟩
theorem walk_ref03_Set {A : List Nat} {w0 : World} {p_l : Option Addr} {c_l : Nat} {l : List Int} {n : Int} (hA : ∀ b ∈ A, b < w0.heap.size) (h_l : ISl (Rp.int .i64) A w0 p_l c_l l) {K : List Bool → Prop} (H : ref03_Set l n K) :
    CallsV Try.prog 64 #[.slice p_l l.length c_l, .int .i64 n] w0 (fun v w' => ∃ (r0 : List Bool), ∃ (n_r0 : Nat), ∃ (p_r0 : Option Addr), ∃ (c_r0 : Nat), ∃ (vs_r0 : List Value), v = .slice p_r0 n_r0 c_r0 ∧ Same w0 w' ∧ Owns w0.heap.size w' [.row 4 1 p_r0 n_r0 c_r0 vs_r0] A ∧ Els (Rp.bool) (bl [.row 4 1 p_r0 n_r0 c_r0 vs_r0] ++ A) w' vs_r0 r0 ∧ K r0) := by
 refine CallsV.of (l := [.slice p_l l.length c_l, .int .i64 n]) Try.func64 rfl Try.ntmps64 rfl ?_
 have hO := Owns.start hA
 have hB := Fr.refl (bl []) w0
 unfold ref03_Set at H
 replace h_l := h_l.ch (Ch.start A w0)
 refine Go1.seq ?_
 refine Go1.region ?_
 refine GoR.op ((op_assign rfl) _) rfl rfl ?_
 refine GoR.nil ?_
 refine Go1.seq ?_
 refine Go1.region ?_
 refine GoR.op ((op_move rfl) _) rfl rfl ?_
 obtain ⟨h8, H⟩ := H
 obtain ⟨h9, H⟩ := H
 have hobt := omake (n := n) (r := Rp.bool) (d := false) Try.underlying40 ti4 (fun _ _ => rfl) rfl hO h8 h9 (by decide)
 obtain ⟨w1, p2, vs3, hst4, hE5, hs6, hop7⟩ := hobt
 refine GoR.op (hop7 rfl rfl) rfl rfl ?_
 replace hO := hst4.own
 replace h_l := h_l.ch hst4.ch
 replace hB := hB.trans hst4.fr
 refine GoR.op ((op_assign rfl) _) rfl rfl ?_
 refine GoR.nil ?_
 refine Go1.seq ?_
 refine Go1.seq ?_
 refine Go1.region ?_
 refine GoR.op ((op_move rfl) _) rfl rfl ?_
 refine GoR.op ((op_len Try.underlying22 rfl) _) rfl rfl ?_
 replace H := H h_l.bd
 refine GoR.op ((op_move rfl) _) rfl rfl ?_
 refine GoR.nil ?_
 refine Go1.block ?_
 refine Go1.loopW (S := Nat × List Bool) (fun s σ w => ∃ (vs14 : List Value), agrees σ [(1, .int .i64 n), (5, .slice p2 n.toNat n.toNat), (10, .slice p_l l.length c_l), (11, .int .i64 (l.length : Int)), (12, .int .i64 ((s.1) : Int))] ∧ Owns w0.heap.size w [.row 4 1 p2 n.toNat n.toNat vs14] A ∧ Els (Rp.bool) (bl [.row 4 1 p2 n.toNat n.toNat vs14] ++ A) w vs14 (s.2) ∧ ISl (Rp.int .i64) (bl [.row 4 1 p2 n.toNat n.toNat vs14] ++ A) w p_l c_l l ∧ Fr (bl []) w0 (bl [.row 4 1 p2 n.toNat n.toNat vs14]) w) H ⟨vs3, ⟨rfl, rfl, rfl, rfl, rfl, trivial⟩, hO, hE5, h_l, hB⟩ ?_
 rintro X1 ⟨k1_12, out1_13⟩ H hX1 σ w11 ⟨vs14, hag, hO, hE15, h_l, hB⟩
 dsimp only at H
 refine Go1.keep [(1, .int .i64 n), (5, .slice p2 n.toNat n.toNat), (10, .slice p_l l.length c_l), (11, .int .i64 (l.length : Int)), (12, .int .i64 (k1_12 : Int))] hag ?_
 refine Go1.seq ?_
 refine Go1.region ?_
 by_cases h16 : (k1_12 : Int) < (l.length : Int)
 ·replace H := ifp h16 H
  refine GoR.op ((fun w => opB (op_lss rfl rfl w) (decide_eq_true h16)) _) rfl rfl ?_
  refine GoR.nil ?_
  refine Go1.seq ?_
  refine Go1.condT rfl rfl ?_
  refine Go1.skip ?_
  refine Go1.seq ?_
  refine Go1.block ?_
  refine Go1.seq ?_
  refine Go1.region ?_
  obtain ⟨h17, H⟩ := H
  obtain ⟨h18, H⟩ := H
  refine GoR.op ((op_index Try.underlying22 ti3 rfl rfl h17 h18 (h_l.some_ h17 h18)) _) rfl rfl ?_
  refine GoR.op ((ldInt h_l h17 h18 Try.underlying3 rfl rfl) _ (Same.refl _)) rfl rfl ?_
  refine GoR.op ((op_assign rfl) _) rfl rfl ?_
  refine GoR.nil ?_
  refine Go1.seq ?_
  refine Go1.region ?_
  refine GoR.op ((op_move rfl) _) rfl rfl ?_
  by_cases h19 : (0 : Int) ≤ (ix l (k1_12 : Int))
  ·replace H := ifp h19 H
   refine GoR.op ((fun w => opB (op_geq rfl rfl w) (decide_eq_true h19)) _) rfl rfl ?_
   refine GoR.op ((op_move rfl) _) rfl rfl ?_
   refine GoR.op ((op_move rfl) _) rfl rfl ?_
   refine GoR.op ((op_move rfl) _) rfl rfl ?_
   by_cases h20 : (ix l (k1_12 : Int)) < n
   ·replace H := ifp h20 H
    refine GoR.op ((fun w => opB (op_lss rfl rfl w) (decide_eq_true h20)) _) rfl rfl ?_
    refine GoR.op ((op_pickT rfl rfl rfl) _) rfl rfl ?_
    refine GoR.nil ?_
    refine Go1.condT rfl rfl ?_
    refine Go1.region ?_
    refine GoR.op ((op_move rfl) _) rfl rfl ?_
    refine GoR.op ((op_move rfl) _) rfl rfl ?_
    obtain ⟨h21, H⟩ := H
    obtain ⟨h22, H⟩ := H
    refine GoR.op ((op_index Try.underlying40 ti4 rfl rfl h21 (ltn (hE15.neq hO 0 rfl) h22) (hE15.psome hO 0 rfl h21 h22)) _) rfl rfl ?_
    have hobt := ost (r := Rp.bool) rfl 0 hO rfl hE15 h21 h22 (v := .bool true) (u := true) rfl rfl
    obtain ⟨w23, vs24, hst25, hE26, hop27⟩ := hobt
    refine GoR.op (hop27 Try.underlying4 rfl ti4 rfl rfl) rfl rfl ?_
    replace hO := hst25.own
    replace h_l := h_l.ch hst25.ch
    replace hB := hB.trans hst25.fr
    refine GoR.nil ?_
    refine Go1.inBlock ?_
    refine Go1.region ?_
    refine GoR.op ((op_add rfl rfl (wrap_i64 (natbd h16 h_l.bd))) _) rfl rfl ?_
    refine GoR.op ((op_move rfl) _) rfl rfl ?_
    refine GoR.nil ?_
    exact hX1 _ H _ _ ⟨vs24, ⟨rfl, rfl, rfl, rfl, rfl, trivial⟩, hO, hE26, h_l, hB⟩
   ·replace H := ifn h20 H
    refine GoR.op ((fun w => opB (op_lss rfl rfl w) (decide_eq_false h20)) _) rfl rfl ?_
    refine GoR.op ((op_pickT rfl rfl rfl) _) rfl rfl ?_
    refine GoR.nil ?_
    refine Go1.condF rfl rfl ?_
    refine Go1.skip ?_
    refine Go1.inBlock ?_
    refine Go1.region ?_
    refine GoR.op ((op_add rfl rfl (wrap_i64 (natbd h16 h_l.bd))) _) rfl rfl ?_
    refine GoR.op ((op_move rfl) _) rfl rfl ?_
    refine GoR.nil ?_
    exact hX1 _ H _ _ ⟨vs14, ⟨rfl, rfl, rfl, rfl, rfl, trivial⟩, hO, hE15, h_l, hB⟩
  ·replace H := ifn h19 H
   refine GoR.op ((fun w => opB (op_geq rfl rfl w) (decide_eq_false h19)) _) rfl rfl ?_
   refine GoR.op ((op_move rfl) _) rfl rfl ?_
   refine GoR.pass rfl rfl ?_
   refine GoR.pass rfl rfl ?_
   refine GoR.pass rfl rfl ?_
   refine GoR.op ((op_pickF rfl rfl rfl) _) rfl rfl ?_
   refine GoR.nil ?_
   refine Go1.condF rfl rfl ?_
   refine Go1.skip ?_
   refine Go1.inBlock ?_
   refine Go1.region ?_
   refine GoR.op ((op_add rfl rfl (wrap_i64 (natbd h16 h_l.bd))) _) rfl rfl ?_
   refine GoR.op ((op_move rfl) _) rfl rfl ?_
   refine GoR.nil ?_
   exact hX1 _ H _ _ ⟨vs14, ⟨rfl, rfl, rfl, rfl, rfl, trivial⟩, hO, hE15, h_l, hB⟩
 ·replace H := ifn h16 H
  refine GoR.op ((fun w => opB (op_lss rfl rfl w) (decide_eq_false h16)) _) rfl rfl ?_
  refine GoR.nil ?_
  refine Go1.seq ?_
  refine Go1.condF rfl rfl ?_
  refine Go1.exit rfl ?_
  refine Go1.seq ?_
  refine Go1.region ?_
  refine GoR.op ((op_move rfl) _) rfl rfl ?_
  refine GoR.op ((op_assign rfl) _) rfl rfl ?_
  refine GoR.nil ?_
  refine Go1.ret1 Try.func64 rfl ?_
  exact ⟨out1_13, n.toNat, p2, n.toNat, vs14, rfl, hB.same, hO, hE15, H⟩
theorem body63 : Body Try.prog 63 := ⟨Try.f63, Try.func63, rfl, by kernel_rfl⟩
theorem walk_ref03_Members {A : List Nat} {w0 : World} {p_set_ : Option Addr} {c_set_ : Nat} {set_ : List Bool} (hA : ∀ b ∈ A, b < w0.heap.size) (h_set_ : ISl (Rp.bool) A w0 p_set_ c_set_ set_) {K : List Int → Prop} (H : ref03_Members set_ K) :
    CallsV Try.prog 63 #[.slice p_set_ set_.length c_set_] w0 (fun v w' => ∃ (r0 : List Int), ∃ (n_r0 : Nat), ∃ (p_r0 : Option Addr), ∃ (c_r0 : Nat), ∃ (vs_r0 : List Value), v = .slice p_r0 n_r0 c_r0 ∧ Same w0 w' ∧ Owns w0.heap.size w' [.row 3 1 p_r0 n_r0 c_r0 vs_r0] A ∧ Els (Rp.int .i64) (bl [.row 3 1 p_r0 n_r0 c_r0 vs_r0] ++ A) w' vs_r0 r0 ∧ K r0) := by
 refine CallsV.of (l := [.slice p_set_ set_.length c_set_]) Try.func63 rfl Try.ntmps63 rfl ?_
 have hO := Owns.start hA
 have hB := Fr.refl (bl []) w0
 unfold ref03_Members at H
 replace h_set_ := h_set_.ch (Ch.start A w0)
 refine Go1.seq ?_
 refine Go1.region ?_
 refine GoR.op ((op_assign rfl) _) rfl rfl ?_
 refine GoR.nil ?_
 refine Go1.seq ?_
 refine Go1.region ?_
 refine GoR.op ((op_assign rfl) _) rfl rfl ?_
 refine GoR.nil ?_
 refine Go1.seq ?_
 refine Go1.seq ?_
 refine Go1.region ?_
 refine GoR.op ((op_move rfl) _) rfl rfl ?_
 refine GoR.op ((op_len Try.underlying40 rfl) _) rfl rfl ?_
 replace H := H h_set_.bd
 refine GoR.op ((op_move rfl) _) rfl rfl ?_
 refine GoR.nil ?_
 refine Go1.block ?_
 have hst2 := Stp.nil (e := 3) (r := 1) hO
 replace hO := hst2.own
 replace h_set_ := h_set_.ch hst2.ch
 replace hB := hB.trans hst2.fr
 have hE3 := Els.nil (Rp.int .i64) (bl (.row 3 1 none 0 0 [] :: []) ++ A) w0
 refine Go1.loopW (S := Nat × List Int) (fun s σ w => ∃ (n11 : Nat), ∃ (p9 : Option Addr), ∃ (c10 : Nat), ∃ (vs7 : List Value), agrees σ [(3, .slice p9 n11 c10), (6, .slice p_set_ set_.length c_set_), (7, .int .i64 (set_.length : Int)), (8, .int .i64 ((s.1) : Int))] ∧ Owns w0.heap.size w [.row 3 1 p9 n11 c10 vs7] A ∧ Els (Rp.int .i64) (bl [.row 3 1 p9 n11 c10 vs7] ++ A) w vs7 (s.2) ∧ ISl (Rp.bool) (bl [.row 3 1 p9 n11 c10 vs7] ++ A) w p_set_ c_set_ set_ ∧ Fr (bl []) w0 (bl [.row 3 1 p9 n11 c10 vs7]) w) H ⟨0, none, 0, [], ⟨rfl, rfl, rfl, rfl, trivial⟩, hO, hE3, h_set_, hB⟩ ?_
 rintro X1 ⟨k1_5, l1_6⟩ H hX1 σ w4 ⟨n11, p9, c10, vs7, hag, hO, hE8, h_set_, hB⟩
 dsimp only at H
 refine Go1.keep [(3, .slice p9 n11 c10), (6, .slice p_set_ set_.length c_set_), (7, .int .i64 (set_.length : Int)), (8, .int .i64 (k1_5 : Int))] hag ?_
 refine Go1.seq ?_
 refine Go1.region ?_
 by_cases h12 : (k1_5 : Int) < (set_.length : Int)
 ·replace H := ifp h12 H
  refine GoR.op ((fun w => opB (op_lss rfl rfl w) (decide_eq_true h12)) _) rfl rfl ?_
  refine GoR.nil ?_
  refine Go1.seq ?_
  refine Go1.condT rfl rfl ?_
  refine Go1.skip ?_
  refine Go1.seq ?_
  refine Go1.block ?_
  refine Go1.seq ?_
  refine Go1.region ?_
  refine GoR.op ((op_move rfl) _) rfl rfl ?_
  obtain ⟨h13, H⟩ := H
  obtain ⟨h14, H⟩ := H
  refine GoR.op ((op_index Try.underlying40 ti4 rfl rfl h13 h14 (h_set_.some_ h13 h14)) _) rfl rfl ?_
  by_cases h15 : ix set_ (k1_5 : Int) = true
  ·replace H := ifp h15 H
   refine GoR.op (opB ((ldBool h_set_ h13 h14 Try.underlying4 rfl rfl) _ (Same.refl _)) (h15)) rfl rfl ?_
   refine GoR.op ((op_assign rfl) _) rfl rfl ?_
   refine GoR.op ((op_assign rfl) _) rfl rfl ?_
   refine GoR.nil ?_
   refine Go1.seq ?_
   refine Go1.region ?_
   refine GoR.op ((op_move rfl) _) rfl rfl ?_
   refine GoR.nil ?_
   refine Go1.condT rfl rfl ?_
   refine Go1.region ?_
   refine GoR.op ((op_move rfl) _) rfl rfl ?_
   refine GoR.op ((op_move rfl) _) rfl rfl ?_
   have hobt := obuild (r := Rp.int .i64) (n := 1) (parts := [(0, .int .i64 (k1_5 : Int))]) (vs := [.int .i64 (k1_5 : Int)]) (xs := [(k1_5 : Int)]) rfl Try.underlying22 ti3 hO (by decide) (by kernel_rfl) (Els.cons rfl rfl (Els.nil _ _ _) (by simp [mx])) rfl
   obtain ⟨w16, p17, hst18, hE19, hs20, hop21⟩ := hobt
   refine GoR.op (hop21 rfl) rfl rfl ?_
   replace hE8 := hE8.ch hst18.ch
   replace hO := hst18.own
   replace h_set_ := h_set_.ch hst18.ch
   replace hB := hB.trans hst18.fr
   have hobt := freeze 0 hO rfl hE19
   obtain ⟨hO1, hc25, hi23, hn24⟩ := hobt
   replace h_set_ := h_set_.ch hc25
   replace hE8 := hE8.ch hc25
   replace hB := hB.trans (Owns.dropFr _ _ 0)
   replace hO := hO1; clear hO1
   obtain ⟨h26, H⟩ := H
   have hobt := oapp Try.underlying22 ti3 rfl 0 hO rfl hE8 hi23 hn24 h26 (by decide)
   obtain ⟨w27, p28, c29, vs30, hst31, hE32, hop33⟩ := hobt
   refine GoR.op (hop33 rfl rfl) rfl rfl ?_
   replace hO := hst31.own
   replace h_set_ := h_set_.ch hst31.ch
   replace hi23 := hi23.ch hst31.ch
   replace hB := hB.trans hst31.fr
   refine GoR.op ((op_assign rfl) _) rfl rfl ?_
   refine GoR.nil ?_
   refine Go1.inBlock ?_
   refine Go1.region ?_
   refine GoR.op ((op_add rfl rfl (wrap_i64 (natbd h12 h_set_.bd))) _) rfl rfl ?_
   refine GoR.op ((op_move rfl) _) rfl rfl ?_
   refine GoR.nil ?_
   exact hX1 _ H _ _ ⟨n11 + 1, p28, c29, vs30, ⟨rfl, rfl, rfl, rfl, trivial⟩, hO, hE32, h_set_, hB⟩
  ·replace H := ifn h15 H
   refine GoR.op (opB ((ldBool h_set_ h13 h14 Try.underlying4 rfl rfl) _ (Same.refl _)) (Bool.eq_false_iff.2 h15)) rfl rfl ?_
   refine GoR.op ((op_assign rfl) _) rfl rfl ?_
   refine GoR.op ((op_assign rfl) _) rfl rfl ?_
   refine GoR.nil ?_
   refine Go1.seq ?_
   refine Go1.region ?_
   refine GoR.op ((op_move rfl) _) rfl rfl ?_
   refine GoR.nil ?_
   refine Go1.condF rfl rfl ?_
   refine Go1.skip ?_
   refine Go1.inBlock ?_
   refine Go1.region ?_
   refine GoR.op ((op_add rfl rfl (wrap_i64 (natbd h12 h_set_.bd))) _) rfl rfl ?_
   refine GoR.op ((op_move rfl) _) rfl rfl ?_
   refine GoR.nil ?_
   exact hX1 _ H _ _ ⟨n11, p9, c10, vs7, ⟨rfl, rfl, rfl, rfl, trivial⟩, hO, hE8, h_set_, hB⟩
 ·replace H := ifn h12 H
  refine GoR.op ((fun w => opB (op_lss rfl rfl w) (decide_eq_false h12)) _) rfl rfl ?_
  refine GoR.nil ?_
  refine Go1.seq ?_
  refine Go1.condF rfl rfl ?_
  refine Go1.exit rfl ?_
  refine Go1.seq ?_
  refine Go1.region ?_
  refine GoR.op ((op_move rfl) _) rfl rfl ?_
  refine GoR.op ((op_assign rfl) _) rfl rfl ?_
  refine GoR.nil ?_
  refine Go1.ret1 Try.func63 rfl ?_
  exact ⟨l1_6, n11, p9, c10, vs7, rfl, hB.same, hO, hE8, H⟩
theorem body51 : Body Try.prog 51 := ⟨Try.f51, Try.func51, rfl, by kernel_rfl⟩
theorem walk_ref11_Image {A : List Nat} {w0 : World} {p_f : Option Addr} {c_f : Nat} {f : List Int} (hA : ∀ b ∈ A, b < w0.heap.size) (h_f : ISl (Rp.int .i64) A w0 p_f c_f f) {K : List Int → Prop} (H : ref11_Image f K) :
    CallsV Try.prog 51 #[.slice p_f f.length c_f] w0 (fun v w' => ∃ (r0 : List Int), ∃ (p_r0 : Option Addr), ∃ (c_r0 : Nat), v = .slice p_r0 r0.length c_r0 ∧ Same w0 w' ∧ ISl (Rp.int .i64) A w' p_r0 c_r0 r0 ∧ K r0) := by
 refine CallsV.of (l := [.slice p_f f.length c_f]) Try.func51 rfl Try.ntmps51 rfl ?_
 have hO := Owns.start hA
 have hB := Fr.refl (bl []) w0
 unfold ref11_Image at H
 replace h_f := h_f.ch (Ch.start A w0)
 refine Go1.seq ?_
 refine Go1.region ?_
 refine GoR.op ((op_assign rfl) _) rfl rfl ?_
 refine GoR.nil ?_
 refine Go1.seq ?_
 refine Go1.region ?_
 refine GoR.op ((op_move rfl) _) rfl rfl ?_
 refine GoR.op ((op_move rfl) _) rfl rfl ?_
 refine GoR.op ((op_len Try.underlying22 rfl) _) rfl rfl ?_
 replace H := H h_f.bd
 refine GoR.call (op_call body64 rfl (walk_ref03_Set hO.lt h_f H)) rfl rfl ?_
 rintro v6 w3 ⟨r1, n_r1, p_r1, c_r1, vs_r1, rfl, hs4, hN5, hE2, H⟩
 have hst7 := Stp.more hO hs4 hN5
 replace hO := hst7.own
 replace h_f := h_f.ch hst7.ch
 replace hB := hB.trans hst7.fr
 replace hE2 := hE2.ch (Ch.assoc _ _ _ _)
 have hobt := rowlend 0 hO rfl hE2
 obtain ⟨hl9, hn10⟩ := hobt
 have hOc11 := hO.drop 0
 refine GoR.call (op_call body63 (show ([.slice p_r1 n_r1 c_r1] : List Value) = [.slice p_r1 r1.length c_r1] from by rw [← hn10]) (walk_ref03_Members hOc11.lt hl9 H)) rfl rfl ?_
 rintro v17 w14 ⟨r12, n_r12, p_r12, c_r12, vs_r12, rfl, hs15, hN16, hE13, H⟩
 have hst18 := Stp.more hO hs15 hN16
 replace hE2 := hE2.ch hst18.ch
 replace hO := hst18.own
 replace h_f := h_f.ch hst18.ch
 replace hB := hB.trans hst18.fr
 replace hE13 := Els.flO hO (Fl.int .i64) hE13
 refine GoR.op ((op_assign rfl) _) rfl rfl ?_
 refine GoR.nil ?_
 have hobt := freeze 0 hO rfl hE13
 obtain ⟨hO1, hc22, hi20, hn21⟩ := hobt
 replace h_f := h_f.ch hc22
 replace hE2 := hE2.ch hc22
 replace hB := hB.trans (Owns.dropFr _ _ 0)
 replace hO := hO1; clear hO1
 refine Go1.ret1 Try.func51 rfl ?_
 exact ⟨r12, p_r12, c_r12, ((congrArg (fun nn => Value.slice p_r12 nn c_r12) hn21)), hB.same, (hi20.ch (Ch.weak _ _ _)), H⟩
theorem body47 : Body Try.prog 47 := ⟨Try.f47, Try.func47, rfl, by kernel_rfl⟩
theorem walk_ref11_IsPermutation {A : List Nat} {w0 : World} {p_f : Option Addr} {c_f : Nat} {f : List Int} (hA : ∀ b ∈ A, b < w0.heap.size) (h_f : ISl (Rp.int .i64) A w0 p_f c_f f) {K : Bool → Prop} (H : ref11_IsPermutation f K) :
    CallsV Try.prog 47 #[.slice p_f f.length c_f] w0 (fun v w' => ∃ (r0 : Bool), v = .bool r0 ∧ Same w0 w' ∧ K r0) := by
 refine CallsV.of (l := [.slice p_f f.length c_f]) Try.func47 rfl Try.ntmps47 rfl ?_
 have hO := Owns.start hA
 have hB := Fr.refl (bl []) w0
 unfold ref11_IsPermutation at H
 replace h_f := h_f.ch (Ch.start A w0)
 refine Go1.seq ?_
 refine Go1.region ?_
 refine GoR.op ((op_assign rfl) _) rfl rfl ?_
 refine GoR.nil ?_
 refine Go1.seq ?_
 refine Go1.region ?_
 refine GoR.op ((op_move rfl) _) rfl rfl ?_
 refine GoR.call (op_call body22 rfl (walk_ref11_Valid hO.lt h_f H)) rfl rfl ?_
 rintro v5 w2 ⟨r1, rfl, hs3, H⟩
 have hst6 := Stp.same hO hs3
 replace hO := hst6.own
 replace h_f := h_f.ch hst6.ch
 replace hB := hB.trans hst6.fr
 refine GoR.op ((op_move rfl) _) rfl rfl ?_
 cases r1
 ·replace H := ifn Bool.false_ne_true H
  refine GoR.pass rfl rfl ?_
  refine GoR.pass rfl rfl ?_
  refine GoR.pass rfl rfl ?_
  refine GoR.pass rfl rfl ?_
  refine GoR.pass rfl rfl ?_
  refine GoR.pass rfl rfl ?_
  refine GoR.op ((op_pickF rfl rfl rfl) _) rfl rfl ?_
  refine GoR.op ((op_assign rfl) _) rfl rfl ?_
  refine GoR.nil ?_
  refine Go1.ret1 Try.func47 rfl ?_
  exact ⟨false, rfl, hB.same, H⟩
 ·replace H := ifp rfl H
  refine GoR.op ((op_move rfl) _) rfl rfl ?_
  refine GoR.call (op_call body51 rfl (walk_ref11_Image hO.lt h_f H)) rfl rfl ?_
  rintro v11 w8 ⟨r7, p_r7, c_r7, rfl, hs9, h_r7, H⟩
  have hst12 := Stp.same hO hs9
  replace hO := hst12.own
  replace h_f := h_f.ch hst12.ch
  replace hB := hB.trans hst12.fr
  refine GoR.op ((op_len Try.underlying22 rfl) _) rfl rfl ?_
  replace H := H h_r7.bd
  refine GoR.op ((op_move rfl) _) rfl rfl ?_
  refine GoR.op ((op_len Try.underlying22 rfl) _) rfl rfl ?_
  replace H := H h_f.bd
  by_cases h13 : (r7.length : Int) = (f.length : Int)
  ·replace H := ifp h13 H
   refine GoR.op ((fun w => opB (op_eql rfl rfl w) (decide_eq_true h13)) _) rfl rfl ?_
   refine GoR.op ((op_pickT rfl rfl rfl) _) rfl rfl ?_
   refine GoR.op ((op_assign rfl) _) rfl rfl ?_
   refine GoR.nil ?_
   refine Go1.ret1 Try.func47 rfl ?_
   exact ⟨true, rfl, hB.same, H⟩
  ·replace H := ifn h13 H
   refine GoR.op ((fun w => opB (op_eql rfl rfl w) (decide_eq_false h13)) _) rfl rfl ?_
   refine GoR.op ((op_pickT rfl rfl rfl) _) rfl rfl ?_
   refine GoR.op ((op_assign rfl) _) rfl rfl ?_
   refine GoR.nil ?_
   refine Go1.ret1 Try.func47 rfl ?_
   exact ⟨false, rfl, hB.same, H⟩
theorem body48 : Body Try.prog 48 := ⟨Try.f48, Try.func48, rfl, by kernel_rfl⟩
theorem walk_ref11_Inverse {A : List Nat} {w0 : World} {p_f : Option Addr} {c_f : Nat} {f : List Int} (hA : ∀ b ∈ A, b < w0.heap.size) (h_f : ISl (Rp.int .i64) A w0 p_f c_f f) {K : List Int → Prop} (H : ref11_Inverse f K) :
    CallsV Try.prog 48 #[.slice p_f f.length c_f] w0 (fun v w' => ∃ (r0 : List Int), ∃ (p_r0 : Option Addr), ∃ (c_r0 : Nat), v = .slice p_r0 r0.length c_r0 ∧ Same w0 w' ∧ ISl (Rp.int .i64) A w' p_r0 c_r0 r0 ∧ K r0) := by
 refine CallsV.of (l := [.slice p_f f.length c_f]) Try.func48 rfl Try.ntmps48 rfl ?_
 have hO := Owns.start hA
 have hB := Fr.refl (bl []) w0
 unfold ref11_Inverse at H
 replace h_f := h_f.ch (Ch.start A w0)
 refine Go1.seq ?_
 refine Go1.region ?_
 refine GoR.op ((op_assign rfl) _) rfl rfl ?_
 refine GoR.nil ?_
 refine Go1.seq ?_
 refine Go1.region ?_
 refine GoR.op ((op_move rfl) _) rfl rfl ?_
 refine GoR.op ((op_len Try.underlying22 rfl) _) rfl rfl ?_
 replace H := H h_f.bd
 obtain ⟨h8, H⟩ := H
 obtain ⟨h9, H⟩ := H
 have hobt := omake (n := (f.length : Int)) (r := Rp.int .i64) (d := (0 : Int)) Try.underlying22 ti3 (fun _ _ => rfl) rfl hO h8 h9 (by decide)
 obtain ⟨w1, p2, vs3, hst4, hE5, hs6, hop7⟩ := hobt
 refine GoR.op (hop7 rfl rfl) rfl rfl ?_
 replace hO := hst4.own
 replace h_f := h_f.ch hst4.ch
 replace hB := hB.trans hst4.fr
 refine GoR.op ((op_assign rfl) _) rfl rfl ?_
 refine GoR.nil ?_
 refine Go1.seq ?_
 refine Go1.seq ?_
 refine Go1.region ?_
 refine GoR.op ((op_move rfl) _) rfl rfl ?_
 refine GoR.op ((op_len Try.underlying22 rfl) _) rfl rfl ?_
 refine GoR.op ((op_move rfl) _) rfl rfl ?_
 refine GoR.nil ?_
 refine Go1.block ?_
 refine Go1.loopW (S := Nat × List Int) (fun s σ w => ∃ (vs14 : List Value), agrees σ [(3, .slice p2 f.length f.length), (9, .slice p_f f.length c_f), (10, .int .i64 (f.length : Int)), (11, .int .i64 ((s.1) : Int))] ∧ Owns w0.heap.size w [.row 3 1 p2 f.length f.length vs14] A ∧ Els (Rp.int .i64) (bl [.row 3 1 p2 f.length f.length vs14] ++ A) w vs14 (s.2) ∧ ISl (Rp.int .i64) (bl [.row 3 1 p2 f.length f.length vs14] ++ A) w p_f c_f f ∧ Fr (bl []) w0 (bl [.row 3 1 p2 f.length f.length vs14]) w) H ⟨vs3, ⟨rfl, rfl, rfl, rfl, trivial⟩, hO, hE5, h_f, hB⟩ ?_
 rintro X1 ⟨k1_12, out1_13⟩ H hX1 σ w11 ⟨vs14, hag, hO, hE15, h_f, hB⟩
 dsimp only at H
 refine Go1.keep [(3, .slice p2 f.length f.length), (9, .slice p_f f.length c_f), (10, .int .i64 (f.length : Int)), (11, .int .i64 (k1_12 : Int))] hag ?_
 refine Go1.seq ?_
 refine Go1.region ?_
 by_cases h16 : (k1_12 : Int) < (f.length : Int)
 ·replace H := ifp h16 H
  refine GoR.op ((fun w => opB (op_lss rfl rfl w) (decide_eq_true h16)) _) rfl rfl ?_
  refine GoR.nil ?_
  refine Go1.seq ?_
  refine Go1.condT rfl rfl ?_
  refine Go1.skip ?_
  refine Go1.seq ?_
  refine Go1.block ?_
  refine Go1.seq ?_
  refine Go1.region ?_
  refine GoR.op ((op_move rfl) _) rfl rfl ?_
  obtain ⟨h17, H⟩ := H
  obtain ⟨h18, H⟩ := H
  refine GoR.op ((op_index Try.underlying22 ti3 rfl rfl h17 h18 (h_f.some_ h17 h18)) _) rfl rfl ?_
  refine GoR.op ((ldInt h_f h17 h18 Try.underlying3 rfl rfl) _ (Same.refl _)) rfl rfl ?_
  refine GoR.op ((op_assign rfl) _) rfl rfl ?_
  refine GoR.op ((op_assign rfl) _) rfl rfl ?_
  refine GoR.nil ?_
  refine Go1.region ?_
  refine GoR.op ((op_move rfl) _) rfl rfl ?_
  refine GoR.op ((op_move rfl) _) rfl rfl ?_
  refine GoR.op ((op_move rfl) _) rfl rfl ?_
  obtain ⟨h19, H⟩ := H
  obtain ⟨h20, H⟩ := H
  refine GoR.op ((op_index Try.underlying22 ti3 rfl rfl h19 (ltn (hE15.neq hO 0 rfl) h20) (hE15.psome hO 0 rfl h19 h20)) _) rfl rfl ?_
  have hobt := ost (r := Rp.int .i64) rfl 0 hO rfl hE15 h19 h20 (v := .int .i64 (k1_12 : Int)) (u := (k1_12 : Int)) rfl rfl
  obtain ⟨w21, vs22, hst23, hE24, hop25⟩ := hobt
  refine GoR.op (hop25 Try.underlying3 rfl ti3 rfl rfl) rfl rfl ?_
  replace hO := hst23.own
  replace h_f := h_f.ch hst23.ch
  replace hB := hB.trans hst23.fr
  refine GoR.nil ?_
  refine Go1.inBlock ?_
  refine Go1.region ?_
  refine GoR.op ((op_add rfl rfl (wrap_i64 (natbd h16 h_f.bd))) _) rfl rfl ?_
  refine GoR.op ((op_move rfl) _) rfl rfl ?_
  refine GoR.nil ?_
  exact hX1 _ H _ _ ⟨vs22, ⟨rfl, rfl, rfl, rfl, trivial⟩, hO, hE24, h_f, hB⟩
 ·replace H := ifn h16 H
  refine GoR.op ((fun w => opB (op_lss rfl rfl w) (decide_eq_false h16)) _) rfl rfl ?_
  refine GoR.nil ?_
  refine Go1.seq ?_
  refine Go1.condF rfl rfl ?_
  refine Go1.exit rfl ?_
  refine Go1.seq ?_
  refine Go1.region ?_
  refine GoR.op ((op_move rfl) _) rfl rfl ?_
  refine GoR.op ((op_assign rfl) _) rfl rfl ?_
  refine GoR.nil ?_
  have hobt := freeze 0 hO rfl hE15
  obtain ⟨hO1, hc28, hi26, hn27⟩ := hobt
  replace h_f := h_f.ch hc28
  replace hB := hB.trans (Owns.dropFr _ _ 0)
  replace hO := hO1; clear hO1
  refine Go1.ret1 Try.func48 rfl ?_
  exact ⟨out1_13, p2, f.length, ((congrArg (fun nn => Value.slice p2 nn f.length) hn27)), hB.same, (hi26.ch (Ch.weak _ _ _)), H⟩
theorem body13 : Body Try.prog 13 := ⟨Try.f13, Try.func13, rfl, by kernel_rfl⟩
theorem walk_law11_TransInverts {A : List Nat} {w0 : World} {p_f : Option Addr} {c_f : Nat} {f : List Int} (hA : ∀ b ∈ A, b < w0.heap.size) (h_f : ISl (Rp.int .i64) A w0 p_f c_f f) {K : Bool → Prop} (H : law11_TransInverts f K) :
    CallsV Try.prog 13 #[.slice p_f f.length c_f] w0 (fun v w' => ∃ (r0 : Bool), v = .bool r0 ∧ Same w0 w' ∧ K r0) := by
 refine CallsV.of (l := [.slice p_f f.length c_f]) Try.func13 rfl Try.ntmps13 rfl ?_
 have hO := Owns.start hA
 have hB := Fr.refl (bl []) w0
 unfold law11_TransInverts at H
 replace h_f := h_f.ch (Ch.start A w0)
 refine Go1.seq ?_
 refine Go1.region ?_
 refine GoR.op ((op_assign rfl) _) rfl rfl ?_
 refine GoR.nil ?_
 refine Go1.seq ?_
 refine Go1.region ?_
 refine GoR.op ((op_move rfl) _) rfl rfl ?_
 refine GoR.call (op_call body45 rfl (walk_trans_IsPermutation hO.lt h_f H)) rfl rfl ?_
 rintro v5 w2 ⟨r1, rfl, hs3, H⟩
 have hst6 := Stp.same hO hs3
 replace hO := hst6.own
 replace h_f := h_f.ch hst6.ch
 replace hB := hB.trans hst6.fr
 refine GoR.op ((op_move rfl) _) rfl rfl ?_
 refine GoR.call (op_call body46 rfl (walk_trans_Inverse hO.lt h_f H)) rfl rfl ?_
 rintro v11 w8 ⟨r7, p_r7, c_r7, rfl, hs9, h_r7, H⟩
 have hst12 := Stp.same hO hs9
 replace hO := hst12.own
 replace h_f := h_f.ch hst12.ch
 replace hB := hB.trans hst12.fr
 refine GoR.op ((op_assign rfl) _) rfl rfl ?_
 refine GoR.op ((op_assign rfl) _) rfl rfl ?_
 refine GoR.nil ?_
 refine Go1.seq ?_
 refine Go1.seq ?_
 refine Go1.region ?_
 refine GoR.op ((op_move rfl) _) rfl rfl ?_
 refine GoR.op ((op_move rfl) _) rfl rfl ?_
 refine GoR.call (op_call body47 rfl (walk_ref11_IsPermutation hO.lt h_f H)) rfl rfl ?_
 rintro v17 w14 ⟨r13, rfl, hs15, H⟩
 have hst18 := Stp.same hO hs15
 replace hO := hst18.own
 replace h_f := h_f.ch hst18.ch
 replace h_r7 := h_r7.ch hst18.ch
 replace hB := hB.trans hst18.fr
 cases r1
 ·replace H := ifn Bool.false_ne_true H
  cases r13
  ·replace H := ifn Bool.false_ne_true H
   refine GoR.op ((op_neqB Try.underlying4 rfl rfl) _) rfl rfl ?_
   refine GoR.nil ?_
   refine Go1.condF rfl rfl ?_
   refine Go1.skip ?_
   refine Go1.seq ?_
   refine Go1.seq ?_
   refine Go1.region ?_
   refine GoR.op ((op_move rfl) _) rfl rfl ?_
   refine GoR.op ((op_not rfl) _) rfl rfl ?_
   refine GoR.nil ?_
   refine Go1.condT rfl rfl ?_
   refine Go1.seq ?_
   refine Go1.region ?_
   refine GoR.op ((op_move rfl) _) rfl rfl ?_
   refine GoR.op ((op_len Try.underlying22 rfl) _) rfl rfl ?_
   replace H := H h_r7.bd
   by_cases h19 : (r7.length : Int) = (0 : Int)
   ·replace H := ifp h19 H
    refine GoR.op ((fun w => opB (op_eql rfl rfl w) (decide_eq_true h19)) _) rfl rfl ?_
    refine GoR.op ((op_move rfl) _) rfl rfl ?_
    refine GoR.call (op_call body17 rfl (walk_law11_awake hO.lt H)) rfl rfl ?_
    rintro v24 w21 ⟨r20, rfl, hs22, H⟩
    have hst25 := Stp.same hO hs22
    replace hO := hst25.own
    replace h_f := h_f.ch hst25.ch
    replace h_r7 := h_r7.ch hst25.ch
    replace hB := hB.trans hst25.fr
    refine GoR.op ((op_pickT rfl rfl rfl) _) rfl rfl ?_
    refine GoR.op ((op_assign rfl) _) rfl rfl ?_
    refine GoR.nil ?_
    refine Go1.ret1 Try.func13 rfl ?_
    exact ⟨r20, rfl, hB.same, H⟩
   ·replace H := ifn h19 H
    refine GoR.op ((fun w => opB (op_eql rfl rfl w) (decide_eq_false h19)) _) rfl rfl ?_
    refine GoR.op ((op_move rfl) _) rfl rfl ?_
    refine GoR.pass rfl rfl ?_
    refine GoR.op ((op_pickF rfl rfl rfl) _) rfl rfl ?_
    refine GoR.op ((op_assign rfl) _) rfl rfl ?_
    refine GoR.nil ?_
    refine Go1.ret1 Try.func13 rfl ?_
    exact ⟨false, rfl, hB.same, H⟩
  ·replace H := ifp rfl H
   refine GoR.op ((op_neqB Try.underlying4 rfl rfl) _) rfl rfl ?_
   refine GoR.nil ?_
   refine Go1.condT rfl rfl ?_
   refine Go1.seq ?_
   refine Go1.region ?_
   refine GoR.op ((op_assign rfl) _) rfl rfl ?_
   refine GoR.nil ?_
   refine Go1.ret1 Try.func13 rfl ?_
   exact ⟨false, rfl, hB.same, H⟩
 ·replace H := ifp rfl H
  cases r13
  ·replace H := ifn Bool.false_ne_true H
   refine GoR.op ((op_neqB Try.underlying4 rfl rfl) _) rfl rfl ?_
   refine GoR.nil ?_
   refine Go1.condT rfl rfl ?_
   refine Go1.seq ?_
   refine Go1.region ?_
   refine GoR.op ((op_assign rfl) _) rfl rfl ?_
   refine GoR.nil ?_
   refine Go1.ret1 Try.func13 rfl ?_
   exact ⟨false, rfl, hB.same, H⟩
  ·replace H := ifp rfl H
   refine GoR.op ((op_neqB Try.underlying4 rfl rfl) _) rfl rfl ?_
   refine GoR.nil ?_
   refine Go1.condF rfl rfl ?_
   refine Go1.skip ?_
   refine Go1.seq ?_
   refine Go1.seq ?_
   refine Go1.region ?_
   refine GoR.op ((op_move rfl) _) rfl rfl ?_
   refine GoR.op ((op_not rfl) _) rfl rfl ?_
   refine GoR.nil ?_
   refine Go1.condF rfl rfl ?_
   refine Go1.skip ?_
   refine Go1.seq ?_
   refine Go1.region ?_
   refine GoR.op ((op_move rfl) _) rfl rfl ?_
   refine GoR.op ((op_len Try.underlying22 rfl) _) rfl rfl ?_
   replace H := H h_f.bd
   refine GoR.call (op_call body20 rfl (walk_trans_Identity hO.lt H)) rfl rfl ?_
   rintro v30 w27 ⟨r26, p_r26, c_r26, rfl, hs28, h_r26, H⟩
   have hst31 := Stp.same hO hs28
   replace hO := hst31.own
   replace h_f := h_f.ch hst31.ch
   replace h_r7 := h_r7.ch hst31.ch
   replace hB := hB.trans hst31.fr
   refine GoR.op ((op_assign rfl) _) rfl rfl ?_
   refine GoR.nil ?_
   refine Go1.seq ?_
   refine Go1.region ?_
   refine GoR.op ((op_move rfl) _) rfl rfl ?_
   refine GoR.op ((op_move rfl) _) rfl rfl ?_
   refine GoR.call (op_call body48 rfl (walk_ref11_Inverse hO.lt h_f H)) rfl rfl ?_
   rintro v36 w33 ⟨r32, p_r32, c_r32, rfl, hs34, h_r32, H⟩
   have hst37 := Stp.same hO hs34
   replace hO := hst37.own
   replace h_f := h_f.ch hst37.ch
   replace h_r7 := h_r7.ch hst37.ch
   replace h_r26 := h_r26.ch hst37.ch
   replace hB := hB.trans hst37.fr
   refine GoR.call (op_call body18 rfl (walk_ref03_Same hO.lt h_r7 h_r32 H)) rfl rfl ?_
   rintro v42 w39 ⟨r38, rfl, hs40, H⟩
   have hst43 := Stp.same hO hs40
   replace hO := hst43.own
   replace h_f := h_f.ch hst43.ch
   replace h_r7 := h_r7.ch hst43.ch
   replace h_r26 := h_r26.ch hst43.ch
   replace h_r32 := h_r32.ch hst43.ch
   replace hB := hB.trans hst43.fr
   refine GoR.op ((op_move rfl) _) rfl rfl ?_
   cases r38
   ·replace H := ifn Bool.false_ne_true H
    refine GoR.pass rfl rfl ?_
    refine GoR.pass rfl rfl ?_
    refine GoR.pass rfl rfl ?_
    refine GoR.pass rfl rfl ?_
    refine GoR.pass rfl rfl ?_
    refine GoR.op ((op_pickF rfl rfl rfl) _) rfl rfl ?_
    refine GoR.op ((op_move rfl) _) rfl rfl ?_
    refine GoR.pass rfl rfl ?_
    refine GoR.pass rfl rfl ?_
    refine GoR.pass rfl rfl ?_
    refine GoR.pass rfl rfl ?_
    refine GoR.pass rfl rfl ?_
    refine GoR.op ((op_pickF rfl rfl rfl) _) rfl rfl ?_
    refine GoR.op ((op_move rfl) _) rfl rfl ?_
    refine GoR.pass rfl rfl ?_
    refine GoR.pass rfl rfl ?_
    refine GoR.pass rfl rfl ?_
    refine GoR.pass rfl rfl ?_
    refine GoR.pass rfl rfl ?_
    refine GoR.op ((op_pickF rfl rfl rfl) _) rfl rfl ?_
    refine GoR.op ((op_move rfl) _) rfl rfl ?_
    refine GoR.pass rfl rfl ?_
    refine GoR.op ((op_pickF rfl rfl rfl) _) rfl rfl ?_
    refine GoR.op ((op_assign rfl) _) rfl rfl ?_
    refine GoR.nil ?_
    refine Go1.ret1 Try.func13 rfl ?_
    exact ⟨false, rfl, hB.same, H⟩
   ·replace H := ifp rfl H
    refine GoR.op ((op_move rfl) _) rfl rfl ?_
    refine GoR.op ((op_move rfl) _) rfl rfl ?_
    refine GoR.call (op_call body15 rfl (walk_trans_Compose hO.lt h_f h_r7 H)) rfl rfl ?_
    rintro v48 w45 ⟨r44, p_r44, c_r44, rfl, hs46, h_r44, H⟩
    have hst49 := Stp.same hO hs46
    replace hO := hst49.own
    replace h_f := h_f.ch hst49.ch
    replace h_r7 := h_r7.ch hst49.ch
    replace h_r26 := h_r26.ch hst49.ch
    replace h_r32 := h_r32.ch hst49.ch
    replace hB := hB.trans hst49.fr
    refine GoR.op ((op_move rfl) _) rfl rfl ?_
    refine GoR.call (op_call body18 rfl (walk_ref03_Same hO.lt h_r44 h_r26 H)) rfl rfl ?_
    rintro v54 w51 ⟨r50, rfl, hs52, H⟩
    have hst55 := Stp.same hO hs52
    replace hO := hst55.own
    replace h_f := h_f.ch hst55.ch
    replace h_r7 := h_r7.ch hst55.ch
    replace h_r26 := h_r26.ch hst55.ch
    replace h_r32 := h_r32.ch hst55.ch
    replace h_r44 := h_r44.ch hst55.ch
    replace hB := hB.trans hst55.fr
    refine GoR.op ((op_pickT rfl rfl rfl) _) rfl rfl ?_
    refine GoR.op ((op_move rfl) _) rfl rfl ?_
    cases r50
    ·replace H := ifn Bool.false_ne_true H
     refine GoR.pass rfl rfl ?_
     refine GoR.pass rfl rfl ?_
     refine GoR.pass rfl rfl ?_
     refine GoR.pass rfl rfl ?_
     refine GoR.pass rfl rfl ?_
     refine GoR.op ((op_pickF rfl rfl rfl) _) rfl rfl ?_
     refine GoR.op ((op_move rfl) _) rfl rfl ?_
     refine GoR.pass rfl rfl ?_
     refine GoR.pass rfl rfl ?_
     refine GoR.pass rfl rfl ?_
     refine GoR.pass rfl rfl ?_
     refine GoR.pass rfl rfl ?_
     refine GoR.op ((op_pickF rfl rfl rfl) _) rfl rfl ?_
     refine GoR.op ((op_move rfl) _) rfl rfl ?_
     refine GoR.pass rfl rfl ?_
     refine GoR.op ((op_pickF rfl rfl rfl) _) rfl rfl ?_
     refine GoR.op ((op_assign rfl) _) rfl rfl ?_
     refine GoR.nil ?_
     refine Go1.ret1 Try.func13 rfl ?_
     exact ⟨false, rfl, hB.same, H⟩
    ·replace H := ifp rfl H
     refine GoR.op ((op_move rfl) _) rfl rfl ?_
     refine GoR.op ((op_move rfl) _) rfl rfl ?_
     refine GoR.call (op_call body15 rfl (walk_trans_Compose hO.lt h_r7 h_f H)) rfl rfl ?_
     rintro v60 w57 ⟨r56, p_r56, c_r56, rfl, hs58, h_r56, H⟩
     have hst61 := Stp.same hO hs58
     replace hO := hst61.own
     replace h_f := h_f.ch hst61.ch
     replace h_r7 := h_r7.ch hst61.ch
     replace h_r26 := h_r26.ch hst61.ch
     replace h_r32 := h_r32.ch hst61.ch
     replace h_r44 := h_r44.ch hst61.ch
     replace hB := hB.trans hst61.fr
     refine GoR.op ((op_move rfl) _) rfl rfl ?_
     refine GoR.call (op_call body18 rfl (walk_ref03_Same hO.lt h_r56 h_r26 H)) rfl rfl ?_
     rintro v66 w63 ⟨r62, rfl, hs64, H⟩
     have hst67 := Stp.same hO hs64
     replace hO := hst67.own
     replace h_f := h_f.ch hst67.ch
     replace h_r7 := h_r7.ch hst67.ch
     replace h_r26 := h_r26.ch hst67.ch
     replace h_r32 := h_r32.ch hst67.ch
     replace h_r44 := h_r44.ch hst67.ch
     replace h_r56 := h_r56.ch hst67.ch
     replace hB := hB.trans hst67.fr
     refine GoR.op ((op_pickT rfl rfl rfl) _) rfl rfl ?_
     refine GoR.op ((op_move rfl) _) rfl rfl ?_
     cases r62
     ·replace H := ifn Bool.false_ne_true H
      refine GoR.pass rfl rfl ?_
      refine GoR.pass rfl rfl ?_
      refine GoR.pass rfl rfl ?_
      refine GoR.pass rfl rfl ?_
      refine GoR.pass rfl rfl ?_
      refine GoR.op ((op_pickF rfl rfl rfl) _) rfl rfl ?_
      refine GoR.op ((op_move rfl) _) rfl rfl ?_
      refine GoR.pass rfl rfl ?_
      refine GoR.op ((op_pickF rfl rfl rfl) _) rfl rfl ?_
      refine GoR.op ((op_assign rfl) _) rfl rfl ?_
      refine GoR.nil ?_
      refine Go1.ret1 Try.func13 rfl ?_
      exact ⟨false, rfl, hB.same, H⟩
     ·replace H := ifp rfl H
      refine GoR.op ((op_move rfl) _) rfl rfl ?_
      refine GoR.call (op_call body44 rfl (walk_trans_Rank hO.lt h_f H)) rfl rfl ?_
      rintro v72 w69 ⟨r68, rfl, hs70, H⟩
      have hst73 := Stp.same hO hs70
      replace hO := hst73.own
      replace h_f := h_f.ch hst73.ch
      replace h_r7 := h_r7.ch hst73.ch
      replace h_r26 := h_r26.ch hst73.ch
      replace h_r32 := h_r32.ch hst73.ch
      replace h_r44 := h_r44.ch hst73.ch
      replace h_r56 := h_r56.ch hst73.ch
      replace hB := hB.trans hst73.fr
      refine GoR.op ((op_move rfl) _) rfl rfl ?_
      refine GoR.op ((op_len Try.underlying22 rfl) _) rfl rfl ?_
      by_cases h74 : r68 = (f.length : Int)
      ·replace H := ifp h74 H
       refine GoR.op ((fun w => opB (op_eql rfl rfl w) (decide_eq_true h74)) _) rfl rfl ?_
       refine GoR.op ((op_pickT rfl rfl rfl) _) rfl rfl ?_
       refine GoR.op ((op_move rfl) _) rfl rfl ?_
       refine GoR.call (op_call body17 rfl (walk_law11_awake hO.lt H)) rfl rfl ?_
       rintro v79 w76 ⟨r75, rfl, hs77, H⟩
       have hst80 := Stp.same hO hs77
       replace hO := hst80.own
       replace h_f := h_f.ch hst80.ch
       replace h_r7 := h_r7.ch hst80.ch
       replace h_r26 := h_r26.ch hst80.ch
       replace h_r32 := h_r32.ch hst80.ch
       replace h_r44 := h_r44.ch hst80.ch
       replace h_r56 := h_r56.ch hst80.ch
       replace hB := hB.trans hst80.fr
       refine GoR.op ((op_pickT rfl rfl rfl) _) rfl rfl ?_
       refine GoR.op ((op_assign rfl) _) rfl rfl ?_
       refine GoR.nil ?_
       refine Go1.ret1 Try.func13 rfl ?_
       exact ⟨r75, rfl, hB.same, H⟩
      ·replace H := ifn h74 H
       refine GoR.op ((fun w => opB (op_eql rfl rfl w) (decide_eq_false h74)) _) rfl rfl ?_
       refine GoR.op ((op_pickT rfl rfl rfl) _) rfl rfl ?_
       refine GoR.op ((op_move rfl) _) rfl rfl ?_
       refine GoR.pass rfl rfl ?_
       refine GoR.op ((op_pickF rfl rfl rfl) _) rfl rfl ?_
       refine GoR.op ((op_assign rfl) _) rfl rfl ?_
       refine GoR.nil ?_
       refine Go1.ret1 Try.func13 rfl ?_
       exact ⟨false, rfl, hB.same, H⟩
end Sg
