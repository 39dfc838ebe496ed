/- The walks: each call keeps to its plain transformer. Printed by walkgen.py. -/
import Derived.Test.YtjegmdkaiddokaaWTransComposes
namespace Sg
open Go Go.RowKit Go.Proofs
set_option linter.unusedVariables false
set_option maxRecDepth 100000
theorem body20 : Body Try.prog 20 := ⟨Try.f20, Try.func20, rfl, by kernel_rfl⟩
theorem walk_trans_Identity {A : List Nat} {w0 : World} {n : Int} (hA : ∀ b ∈ A, b < w0.heap.size) {K : List Int → Prop} (H : trans_Identity n K) :
    CallsV Try.prog 20 #[.int .i64 n] w0 (fun v w' => ∃ (r0 : List Int), ∃ (p_r0 : Option Addr), ∃ (c_r0 : Nat), v = .slice p_r0 r0.length c_r0 ∧ Same w0 w' ∧ ISl (Rp.int .i64) A w' p_r0 c_r0 r0 ∧ K r0) := by
 refine CallsV.of (l := [.int .i64 n]) Try.func20 rfl Try.ntmps20 rfl ?_
 have hO := Owns.start hA
 have hB := Below.refl w0.heap.size w0
 unfold trans_Identity at H
 refine Go1.seq ?_
 refine Go1.region ?_
 refine GoR.op ((op_assign rfl) _) rfl rfl ?_
 refine GoR.nil ?_
 refine Go1.seq ?_
 refine Go1.seq ?_
 refine Go1.region ?_
 refine GoR.op ((op_move rfl) _) rfl rfl ?_
 by_cases h1 : n < (1 : Int)
 ·replace H := ifp h1 H
  refine GoR.op ((fun w => opB (op_lss rfl rfl w) (decide_eq_true h1)) _) rfl rfl ?_
  refine GoR.op ((op_move rfl) _) rfl rfl ?_
  refine GoR.pass rfl rfl ?_
  refine GoR.pass rfl rfl ?_
  refine GoR.op ((op_pickT rfl rfl rfl) _) rfl rfl ?_
  refine GoR.nil ?_
  refine Go1.condT rfl rfl ?_
  refine Go1.seq ?_
  refine Go1.region ?_
  refine GoR.op ((op_assign rfl) _) rfl rfl ?_
  refine GoR.nil ?_
  refine Go1.ret1 Try.func20 rfl ?_
  exact ⟨([] : List Int), none, 0, rfl, (Below.same' hB), (ISl.null _ _ _), H⟩
 ·replace H := ifn h1 H
  refine GoR.op ((fun w => opB (op_lss rfl rfl w) (decide_eq_false h1)) _) rfl rfl ?_
  refine GoR.op ((op_move rfl) _) rfl rfl ?_
  refine GoR.op ((op_move rfl) _) rfl rfl ?_
  by_cases h2 : (32 : Int) < n
  ·replace H := ifp h2 H
   refine GoR.op ((fun w => opB (op_gtr rfl rfl w) (decide_eq_true h2)) _) rfl rfl ?_
   refine GoR.op ((op_pickF rfl rfl rfl) _) rfl rfl ?_
   refine GoR.nil ?_
   refine Go1.condT rfl rfl ?_
   refine Go1.seq ?_
   refine Go1.region ?_
   refine GoR.op ((op_assign rfl) _) rfl rfl ?_
   refine GoR.nil ?_
   refine Go1.ret1 Try.func20 rfl ?_
   exact ⟨([] : List Int), none, 0, rfl, (Below.same' hB), (ISl.null _ _ _), H⟩
  ·replace H := ifn h2 H
   refine GoR.op ((fun w => opB (op_gtr rfl rfl w) (decide_eq_false h2)) _) rfl rfl ?_
   refine GoR.op ((op_pickF rfl rfl rfl) _) rfl rfl ?_
   refine GoR.nil ?_
   refine Go1.condF rfl rfl ?_
   refine Go1.skip ?_
   refine Go1.seq ?_
   refine Go1.region ?_
   refine GoR.op ((op_move rfl) _) rfl rfl ?_
   obtain ⟨h10, H⟩ := H
   obtain ⟨h11, H⟩ := H
   obtain ⟨w3, p4, vs5, hst6, hE7, hs8, hop9⟩ := omake (n := n) (r := Rp.int .i64) (d := (0 : Int)) Try.underlying22 ti3 (fun _ _ => rfl) rfl hO h10 h11 (by decide)
   refine GoR.op (hop9 rfl rfl) rfl rfl ?_
   replace hO := hst6.own
   replace hB := hB.trans hst6.bel
   refine GoR.op ((op_assign rfl) _) rfl rfl ?_
   refine GoR.nil ?_
   refine Go1.seq ?_
   refine Go1.seq ?_
   refine Go1.region ?_
   refine GoR.op ((op_move rfl) _) rfl rfl ?_
   refine GoR.op ((op_lenN Try.underlying22 rfl (hE7.neq hO 0 rfl)) _) rfl rfl ?_
   refine GoR.op ((op_move rfl) _) rfl rfl ?_
   refine GoR.nil ?_
   refine Go1.block ?_
   refine Go1.loopW (S := Nat × List Int) (fun s σ w => ∃ (n20 : Nat), ∃ (p16 : Option Addr), ∃ (c17 : Nat), ∃ (vs18 : List Value), agrees σ [(3, .slice p16 n20 c17), (14, .int .i64 ((List.replicate n.toNat ((0 : Int))).length : Int)), (15, .int .i64 ((s.1) : Int))] ∧ Owns w0.heap.size w [.row 3 1 p16 n20 c17 vs18] A ∧ Els (Rp.int .i64) (bl [.row 3 1 p16 n20 c17 vs18] ++ A) w vs18 (s.2) ∧ Below w0.heap.size w0 w) H ⟨n.toNat, p4, n.toNat, vs5, ⟨rfl, rfl, rfl, trivial⟩, hO, hE7, hB⟩ ?_
   rintro X1 ⟨k1_14, f1_15⟩ H hX1 σ w13 ⟨n20, p16, c17, vs18, hag, hO, hE19, hB⟩
   dsimp only at H
   refine Go1.keep [(3, .slice p16 n20 c17), (14, .int .i64 ((List.replicate n.toNat ((0 : Int))).length : Int)), (15, .int .i64 (k1_14 : Int))] hag ?_
   refine Go1.seq ?_
   refine Go1.region ?_
   by_cases h21 : (k1_14 : Int) < ((List.replicate n.toNat ((0 : Int))).length : Int)
   ·replace H := ifp h21 H
    refine GoR.op ((fun w => opB (op_lss rfl rfl w) (decide_eq_true h21)) _) rfl rfl ?_
    refine GoR.nil ?_
    refine Go1.seq ?_
    refine Go1.condT rfl rfl ?_
    refine Go1.skip ?_
    refine Go1.seq ?_
    refine Go1.block ?_
    refine Go1.seq ?_
    refine Go1.region ?_
    refine GoR.op ((op_move rfl) _) rfl rfl ?_
    refine GoR.op ((op_assign rfl) _) rfl rfl ?_
    refine GoR.nil ?_
    refine Go1.region ?_
    refine GoR.op ((op_move rfl) _) rfl rfl ?_
    refine GoR.op ((op_move rfl) _) rfl rfl ?_
    refine GoR.op ((op_move rfl) _) rfl rfl ?_
    obtain ⟨h22, H⟩ := H
    obtain ⟨h23, H⟩ := H
    refine GoR.op ((op_index Try.underlying22 ti3 rfl rfl h22 (ltn (hE19.neq hO 0 rfl) h23) (hE19.psome hO 0 rfl h22 h23)) _) rfl rfl ?_
    obtain ⟨w24, vs25, hst26, hE27, hop28⟩ := ost (r := Rp.int .i64) rfl 0 hO rfl hE19 h22 h23 (v := .int .i64 (k1_14 : Int)) (u := (k1_14 : Int)) rfl rfl
    refine GoR.op (hop28 Try.underlying3 rfl ti3 rfl rfl) rfl rfl ?_
    replace hO := hst26.own
    replace hB := hB.trans hst26.bel
    refine GoR.nil ?_
    refine Go1.inBlock ?_
    refine Go1.region ?_
    obtain ⟨h29, H⟩ := H
    refine GoR.op ((op_add rfl rfl (wrap_i64 h29)) _) rfl rfl ?_
    refine GoR.op ((op_move rfl) _) rfl rfl ?_
    refine GoR.nil ?_
    exact hX1 _ H _ _ ⟨n20, p16, c17, vs25, ⟨rfl, rfl, rfl, trivial⟩, hO, hE27, hB⟩
   ·replace H := ifn h21 H
    refine GoR.op ((fun w => opB (op_lss rfl rfl w) (decide_eq_false h21)) _) rfl rfl ?_
    refine GoR.nil ?_
    refine Go1.seq ?_
    refine Go1.condF rfl rfl ?_
    refine Go1.exit rfl ?_
    refine Go1.seq ?_
    refine Go1.region ?_
    refine GoR.op ((op_move rfl) _) rfl rfl ?_
    refine GoR.op ((op_assign rfl) _) rfl rfl ?_
    refine GoR.nil ?_
    obtain ⟨hO1, hc32, hi30, hn31⟩ := freeze 0 hO rfl hE19
    replace hO := hO1; clear hO1
    refine Go1.ret1 Try.func20 rfl ?_
    exact ⟨f1_15, p16, c17, ((congrArg (fun nn => Value.slice p16 nn c17) hn31)), (Below.same' hB), (hi30.ch (Ch.weak _ _ _)), H⟩
theorem body23 : Body Try.prog 23 := ⟨Try.f23, Try.func23, rfl, by kernel_rfl⟩
theorem walk_ref03_Discrete {A : List Nat} {w0 : World} {n : Int} (hA : ∀ b ∈ A, b < w0.heap.size) {K : List Int → Prop} (H : ref03_Discrete n K) :
    CallsV Try.prog 23 #[.int .i64 n] w0 (fun v w' => ∃ (r0 : List Int), ∃ (p_r0 : Option Addr), ∃ (c_r0 : Nat), v = .slice p_r0 r0.length c_r0 ∧ Same w0 w' ∧ ISl (Rp.int .i64) A w' p_r0 c_r0 r0 ∧ K r0) := by
 refine CallsV.of (l := [.int .i64 n]) Try.func23 rfl Try.ntmps23 rfl ?_
 have hO := Owns.start hA
 have hB := Below.refl w0.heap.size w0
 unfold ref03_Discrete at H
 refine Go1.seq ?_
 refine Go1.region ?_
 refine GoR.op ((op_assign rfl) _) rfl rfl ?_
 refine GoR.nil ?_
 refine Go1.seq ?_
 refine Go1.region ?_
 refine GoR.op ((op_move rfl) _) rfl rfl ?_
 obtain ⟨h8, H⟩ := H
 obtain ⟨h9, H⟩ := H
 obtain ⟨w1, p2, vs3, hst4, hE5, hs6, hop7⟩ := omake (n := n) (r := Rp.int .i64) (d := (0 : Int)) Try.underlying22 ti3 (fun _ _ => rfl) rfl hO h8 h9 (by decide)
 refine GoR.op (hop7 rfl rfl) rfl rfl ?_
 replace hO := hst4.own
 replace hB := hB.trans hst4.bel
 refine GoR.op ((op_assign rfl) _) rfl rfl ?_
 refine GoR.nil ?_
 refine Go1.seq ?_
 refine Go1.seq ?_
 refine Go1.region ?_
 refine GoR.op ((op_move rfl) _) rfl rfl ?_
 refine GoR.op ((op_lenN Try.underlying22 rfl (hE5.neq hO 0 rfl)) _) rfl rfl ?_
 refine GoR.op ((op_move rfl) _) rfl rfl ?_
 refine GoR.nil ?_
 refine Go1.block ?_
 refine Go1.loopW (S := Nat × List Int) (fun s σ w => ∃ (n18 : Nat), ∃ (p14 : Option Addr), ∃ (c15 : Nat), ∃ (vs16 : List Value), agrees σ [(3, .slice p14 n18 c15), (8, .int .i64 ((List.replicate n.toNat ((0 : Int))).length : Int)), (9, .int .i64 ((s.1) : Int))] ∧ Owns w0.heap.size w [.row 3 1 p14 n18 c15 vs16] A ∧ Els (Rp.int .i64) (bl [.row 3 1 p14 n18 c15 vs16] ++ A) w vs16 (s.2) ∧ Below w0.heap.size w0 w) H ⟨n.toNat, p2, n.toNat, vs3, ⟨rfl, rfl, rfl, trivial⟩, hO, hE5, hB⟩ ?_
 rintro X1 ⟨k1_12, p1_13⟩ H hX1 σ w11 ⟨n18, p14, c15, vs16, hag, hO, hE17, hB⟩
 dsimp only at H
 refine Go1.keep [(3, .slice p14 n18 c15), (8, .int .i64 ((List.replicate n.toNat ((0 : Int))).length : Int)), (9, .int .i64 (k1_12 : Int))] hag ?_
 refine Go1.seq ?_
 refine Go1.region ?_
 by_cases h19 : (k1_12 : Int) < ((List.replicate n.toNat ((0 : Int))).length : Int)
 ·replace H := ifp h19 H
  refine GoR.op ((fun w => opB (op_lss rfl rfl w) (decide_eq_true h19)) _) rfl rfl ?_
  refine GoR.nil ?_
  refine Go1.seq ?_
  refine Go1.condT rfl rfl ?_
  refine Go1.skip ?_
  refine Go1.seq ?_
  refine Go1.block ?_
  refine Go1.seq ?_
  refine Go1.region ?_
  refine GoR.op ((op_move rfl) _) rfl rfl ?_
  refine GoR.op ((op_assign rfl) _) rfl rfl ?_
  refine GoR.nil ?_
  refine Go1.region ?_
  refine GoR.op ((op_move rfl) _) rfl rfl ?_
  refine GoR.op ((op_move rfl) _) rfl rfl ?_
  refine GoR.op ((op_move rfl) _) rfl rfl ?_
  obtain ⟨h20, H⟩ := H
  obtain ⟨h21, H⟩ := H
  refine GoR.op ((op_index Try.underlying22 ti3 rfl rfl h20 (ltn (hE17.neq hO 0 rfl) h21) (hE17.psome hO 0 rfl h20 h21)) _) rfl rfl ?_
  obtain ⟨w22, vs23, hst24, hE25, hop26⟩ := ost (r := Rp.int .i64) rfl 0 hO rfl hE17 h20 h21 (v := .int .i64 (k1_12 : Int)) (u := (k1_12 : Int)) rfl rfl
  refine GoR.op (hop26 Try.underlying3 rfl ti3 rfl rfl) rfl rfl ?_
  replace hO := hst24.own
  replace hB := hB.trans hst24.bel
  refine GoR.nil ?_
  refine Go1.inBlock ?_
  refine Go1.region ?_
  obtain ⟨h27, H⟩ := H
  refine GoR.op ((op_add rfl rfl (wrap_i64 h27)) _) rfl rfl ?_
  refine GoR.op ((op_move rfl) _) rfl rfl ?_
  refine GoR.nil ?_
  exact hX1 _ H _ _ ⟨n18, p14, c15, vs23, ⟨rfl, rfl, rfl, trivial⟩, hO, hE25, hB⟩
 ·replace H := ifn h19 H
  refine GoR.op ((fun w => opB (op_lss rfl rfl w) (decide_eq_false h19)) _) rfl rfl ?_
  refine GoR.nil ?_
  refine Go1.seq ?_
  refine Go1.condF rfl rfl ?_
  refine Go1.exit rfl ?_
  refine Go1.seq ?_
  refine Go1.region ?_
  refine GoR.op ((op_move rfl) _) rfl rfl ?_
  refine GoR.op ((op_assign rfl) _) rfl rfl ?_
  refine GoR.nil ?_
  obtain ⟨hO1, hc30, hi28, hn29⟩ := freeze 0 hO rfl hE17
  replace hO := hO1; clear hO1
  refine Go1.ret1 Try.func23 rfl ?_
  exact ⟨p1_13, p14, c15, ((congrArg (fun nn => Value.slice p14 nn c15) hn29)), (Below.same' hB), (hi28.ch (Ch.weak _ _ _)), H⟩
theorem body4 : Body Try.prog 4 := ⟨Try.f4, Try.func4, rfl, by kernel_rfl⟩
theorem walk_law11_TransValid {A : List Nat} {w0 : World} {p_f : Option Addr} {c_f : Nat} {f : List Int} {n : Int} (hA : ∀ b ∈ A, b < w0.heap.size) (h_f : ISl (Rp.int .i64) A w0 p_f c_f f) {K : Bool → Prop} (H : law11_TransValid f n K) :
    CallsV Try.prog 4 #[.slice p_f f.length c_f, .int .i64 n] w0 (fun v w' => ∃ (r0 : Bool), v = .bool r0 ∧ Same w0 w' ∧ K r0) := by
 refine CallsV.of (l := [.slice p_f f.length c_f, .int .i64 n]) Try.func4 rfl Try.ntmps4 rfl ?_
 have hO := Owns.start hA
 have hB := Below.refl w0.heap.size w0
 unfold law11_TransValid at H
 replace h_f := h_f.ch (Ch.start A w0)
 refine Go1.seq ?_
 refine Go1.region ?_
 refine GoR.op ((op_assign rfl) _) rfl rfl ?_
 refine GoR.nil ?_
 refine Go1.seq ?_
 refine Go1.region ?_
 refine GoR.op ((op_move rfl) _) rfl rfl ?_
 refine GoR.call (op_call body20 rfl (walk_trans_Identity hO.lt H)) rfl rfl ?_
 rintro v4 w2 ⟨r1, p_r1, c_r1, rfl, hs3, h_r1, H⟩
 have hst5 := Stp.same hO hs3
 replace hO := hst5.own
 replace h_f := h_f.ch hst5.ch
 replace hB := hB.trans hst5.bel
 refine GoR.op ((op_assign rfl) _) rfl rfl ?_
 refine GoR.nil ?_
 refine Go1.seq ?_
 refine Go1.seq ?_
 refine Go1.region ?_
 refine GoR.op ((op_move rfl) _) rfl rfl ?_
 by_cases h6 : n < (1 : Int)
 ·replace H := ifp h6 H
  refine GoR.op ((fun w => opB (op_lss rfl rfl w) (decide_eq_true h6)) _) rfl rfl ?_
  refine GoR.op ((op_move rfl) _) rfl rfl ?_
  refine GoR.pass rfl rfl ?_
  refine GoR.pass rfl rfl ?_
  refine GoR.op ((op_pickT rfl rfl rfl) _) rfl rfl ?_
  refine GoR.nil ?_
  refine Go1.condT rfl rfl ?_
  refine Go1.seq ?_
  refine Go1.region ?_
  refine GoR.op ((op_move rfl) _) rfl rfl ?_
  refine GoR.call (op_call body21 rfl (walk_trans_Valid hO.lt h_f H)) rfl rfl ?_
  rintro v10 w8 ⟨r7, rfl, hs9, H⟩
  have hst11 := Stp.same hO hs9
  replace hO := hst11.own
  replace h_f := h_f.ch hst11.ch
  replace h_r1 := h_r1.ch hst11.ch
  replace hB := hB.trans hst11.bel
  refine GoR.op ((op_move rfl) _) rfl rfl ?_
  refine GoR.call (op_call body22 rfl (walk_ref11_Valid hO.lt h_f H)) rfl rfl ?_
  rintro v15 w13 ⟨r12, rfl, hs14, H⟩
  have hst16 := Stp.same hO hs14
  replace hO := hst16.own
  replace h_f := h_f.ch hst16.ch
  replace h_r1 := h_r1.ch hst16.ch
  replace hB := hB.trans hst16.bel
  cases r7
  ·replace H := ifn Bool.false_ne_true H
   cases r12
   ·replace H := ifn Bool.false_ne_true H
    refine GoR.op ((op_eqlB Try.underlying4 rfl rfl) _) rfl rfl ?_
    refine GoR.op ((op_move rfl) _) rfl rfl ?_
    refine GoR.op ((op_move rfl) _) rfl rfl ?_
    refine GoR.op ((op_len Try.underlying22 rfl) _) rfl rfl ?_
    replace H := H h_r1.bd
    by_cases h17 : (r1.length : Int) = (0 : Int)
    ·replace H := ifp h17 H
     refine GoR.op ((fun w => opB (op_eql rfl rfl w) (decide_eq_true h17)) _) rfl rfl ?_
     refine GoR.op ((op_pickT rfl rfl rfl) _) rfl rfl ?_
     refine GoR.op ((op_move rfl) _) rfl rfl ?_
     refine GoR.call (op_call body17 rfl (walk_law11_awake hO.lt H)) rfl rfl ?_
     rintro v21 w19 ⟨r18, rfl, hs20, H⟩
     have hst22 := Stp.same hO hs20
     replace hO := hst22.own
     replace h_f := h_f.ch hst22.ch
     replace h_r1 := h_r1.ch hst22.ch
     replace hB := hB.trans hst22.bel
     refine GoR.op ((op_pickT rfl rfl rfl) _) rfl rfl ?_
     refine GoR.op ((op_assign rfl) _) rfl rfl ?_
     refine GoR.nil ?_
     refine Go1.ret1 Try.func4 rfl ?_
     exact ⟨r18, rfl, (Below.same' hB), H⟩
    ·replace H := ifn h17 H
     refine GoR.op ((fun w => opB (op_eql rfl rfl w) (decide_eq_false h17)) _) rfl rfl ?_
     refine GoR.op ((op_pickT rfl rfl rfl) _) rfl rfl ?_
     refine GoR.op ((op_move rfl) _) rfl rfl ?_
     refine GoR.pass rfl rfl ?_
     refine GoR.op ((op_pickF rfl rfl rfl) _) rfl rfl ?_
     refine GoR.op ((op_assign rfl) _) rfl rfl ?_
     refine GoR.nil ?_
     refine Go1.ret1 Try.func4 rfl ?_
     exact ⟨false, rfl, (Below.same' hB), H⟩
   ·replace H := ifp rfl H
    refine GoR.op ((op_eqlB Try.underlying4 rfl rfl) _) rfl rfl ?_
    refine GoR.op ((op_move rfl) _) rfl rfl ?_
    refine GoR.pass rfl rfl ?_
    refine GoR.pass rfl rfl ?_
    refine GoR.pass rfl rfl ?_
    refine GoR.op ((op_pickF rfl rfl rfl) _) rfl rfl ?_
    refine GoR.op ((op_move rfl) _) rfl rfl ?_
    refine GoR.pass rfl rfl ?_
    refine GoR.op ((op_pickF rfl rfl rfl) _) rfl rfl ?_
    refine GoR.op ((op_assign rfl) _) rfl rfl ?_
    refine GoR.nil ?_
    refine Go1.ret1 Try.func4 rfl ?_
    exact ⟨false, rfl, (Below.same' hB), H⟩
  ·replace H := ifp rfl H
   cases r12
   ·replace H := ifn Bool.false_ne_true H
    refine GoR.op ((op_eqlB Try.underlying4 rfl rfl) _) rfl rfl ?_
    refine GoR.op ((op_move rfl) _) rfl rfl ?_
    refine GoR.pass rfl rfl ?_
    refine GoR.pass rfl rfl ?_
    refine GoR.pass rfl rfl ?_
    refine GoR.op ((op_pickF rfl rfl rfl) _) rfl rfl ?_
    refine GoR.op ((op_move rfl) _) rfl rfl ?_
    refine GoR.pass rfl rfl ?_
    refine GoR.op ((op_pickF rfl rfl rfl) _) rfl rfl ?_
    refine GoR.op ((op_assign rfl) _) rfl rfl ?_
    refine GoR.nil ?_
    refine Go1.ret1 Try.func4 rfl ?_
    exact ⟨false, rfl, (Below.same' hB), H⟩
   ·replace H := ifp rfl H
    refine GoR.op ((op_eqlB Try.underlying4 rfl rfl) _) rfl rfl ?_
    refine GoR.op ((op_move rfl) _) rfl rfl ?_
    refine GoR.op ((op_move rfl) _) rfl rfl ?_
    refine GoR.op ((op_len Try.underlying22 rfl) _) rfl rfl ?_
    replace H := H h_r1.bd
    by_cases h23 : (r1.length : Int) = (0 : Int)
    ·replace H := ifp h23 H
     refine GoR.op ((fun w => opB (op_eql rfl rfl w) (decide_eq_true h23)) _) rfl rfl ?_
     refine GoR.op ((op_pickT rfl rfl rfl) _) rfl rfl ?_
     refine GoR.op ((op_move rfl) _) rfl rfl ?_
     refine GoR.call (op_call body17 rfl (walk_law11_awake hO.lt H)) rfl rfl ?_
     rintro v27 w25 ⟨r24, rfl, hs26, H⟩
     have hst28 := Stp.same hO hs26
     replace hO := hst28.own
     replace h_f := h_f.ch hst28.ch
     replace h_r1 := h_r1.ch hst28.ch
     replace hB := hB.trans hst28.bel
     refine GoR.op ((op_pickT rfl rfl rfl) _) rfl rfl ?_
     refine GoR.op ((op_assign rfl) _) rfl rfl ?_
     refine GoR.nil ?_
     refine Go1.ret1 Try.func4 rfl ?_
     exact ⟨r24, rfl, (Below.same' hB), H⟩
    ·replace H := ifn h23 H
     refine GoR.op ((fun w => opB (op_eql rfl rfl w) (decide_eq_false h23)) _) rfl rfl ?_
     refine GoR.op ((op_pickT rfl rfl rfl) _) rfl rfl ?_
     refine GoR.op ((op_move rfl) _) rfl rfl ?_
     refine GoR.pass rfl rfl ?_
     refine GoR.op ((op_pickF rfl rfl rfl) _) rfl rfl ?_
     refine GoR.op ((op_assign rfl) _) rfl rfl ?_
     refine GoR.nil ?_
     refine Go1.ret1 Try.func4 rfl ?_
     exact ⟨false, rfl, (Below.same' hB), H⟩
 ·replace H := ifn h6 H
  refine GoR.op ((fun w => opB (op_lss rfl rfl w) (decide_eq_false h6)) _) rfl rfl ?_
  refine GoR.op ((op_move rfl) _) rfl rfl ?_
  refine GoR.op ((op_move rfl) _) rfl rfl ?_
  by_cases h29 : (32 : Int) < n
  ·replace H := ifp h29 H
   refine GoR.op ((fun w => opB (op_gtr rfl rfl w) (decide_eq_true h29)) _) rfl rfl ?_
   refine GoR.op ((op_pickF rfl rfl rfl) _) rfl rfl ?_
   refine GoR.nil ?_
   refine Go1.condT rfl rfl ?_
   refine Go1.seq ?_
   refine Go1.region ?_
   refine GoR.op ((op_move rfl) _) rfl rfl ?_
   refine GoR.call (op_call body21 rfl (walk_trans_Valid hO.lt h_f H)) rfl rfl ?_
   rintro v33 w31 ⟨r30, rfl, hs32, H⟩
   have hst34 := Stp.same hO hs32
   replace hO := hst34.own
   replace h_f := h_f.ch hst34.ch
   replace h_r1 := h_r1.ch hst34.ch
   replace hB := hB.trans hst34.bel
   refine GoR.op ((op_move rfl) _) rfl rfl ?_
   refine GoR.call (op_call body22 rfl (walk_ref11_Valid hO.lt h_f H)) rfl rfl ?_
   rintro v38 w36 ⟨r35, rfl, hs37, H⟩
   have hst39 := Stp.same hO hs37
   replace hO := hst39.own
   replace h_f := h_f.ch hst39.ch
   replace h_r1 := h_r1.ch hst39.ch
   replace hB := hB.trans hst39.bel
   cases r30
   ·replace H := ifn Bool.false_ne_true H
    cases r35
    ·replace H := ifn Bool.false_ne_true H
     refine GoR.op ((op_eqlB Try.underlying4 rfl rfl) _) rfl rfl ?_
     refine GoR.op ((op_move rfl) _) rfl rfl ?_
     refine GoR.op ((op_move rfl) _) rfl rfl ?_
     refine GoR.op ((op_len Try.underlying22 rfl) _) rfl rfl ?_
     replace H := H h_r1.bd
     by_cases h40 : (r1.length : Int) = (0 : Int)
     ·replace H := ifp h40 H
      refine GoR.op ((fun w => opB (op_eql rfl rfl w) (decide_eq_true h40)) _) rfl rfl ?_
      refine GoR.op ((op_pickT rfl rfl rfl) _) rfl rfl ?_
      refine GoR.op ((op_move rfl) _) rfl rfl ?_
      refine GoR.call (op_call body17 rfl (walk_law11_awake hO.lt H)) rfl rfl ?_
      rintro v44 w42 ⟨r41, rfl, hs43, H⟩
      have hst45 := Stp.same hO hs43
      replace hO := hst45.own
      replace h_f := h_f.ch hst45.ch
      replace h_r1 := h_r1.ch hst45.ch
      replace hB := hB.trans hst45.bel
      refine GoR.op ((op_pickT rfl rfl rfl) _) rfl rfl ?_
      refine GoR.op ((op_assign rfl) _) rfl rfl ?_
      refine GoR.nil ?_
      refine Go1.ret1 Try.func4 rfl ?_
      exact ⟨r41, rfl, (Below.same' hB), H⟩
     ·replace H := ifn h40 H
      refine GoR.op ((fun w => opB (op_eql rfl rfl w) (decide_eq_false h40)) _) rfl rfl ?_
      refine GoR.op ((op_pickT rfl rfl rfl) _) rfl rfl ?_
      refine GoR.op ((op_move rfl) _) rfl rfl ?_
      refine GoR.pass rfl rfl ?_
      refine GoR.op ((op_pickF rfl rfl rfl) _) rfl rfl ?_
      refine GoR.op ((op_assign rfl) _) rfl rfl ?_
      refine GoR.nil ?_
      refine Go1.ret1 Try.func4 rfl ?_
      exact ⟨false, rfl, (Below.same' hB), H⟩
    ·replace H := ifp rfl H
     refine GoR.op ((op_eqlB Try.underlying4 rfl rfl) _) rfl rfl ?_
     refine GoR.op ((op_move rfl) _) rfl rfl ?_
     refine GoR.pass rfl rfl ?_
     refine GoR.pass rfl rfl ?_
     refine GoR.pass rfl rfl ?_
     refine GoR.op ((op_pickF rfl rfl rfl) _) rfl rfl ?_
     refine GoR.op ((op_move rfl) _) rfl rfl ?_
     refine GoR.pass rfl rfl ?_
     refine GoR.op ((op_pickF rfl rfl rfl) _) rfl rfl ?_
     refine GoR.op ((op_assign rfl) _) rfl rfl ?_
     refine GoR.nil ?_
     refine Go1.ret1 Try.func4 rfl ?_
     exact ⟨false, rfl, (Below.same' hB), H⟩
   ·replace H := ifp rfl H
    cases r35
    ·replace H := ifn Bool.false_ne_true H
     refine GoR.op ((op_eqlB Try.underlying4 rfl rfl) _) rfl rfl ?_
     refine GoR.op ((op_move rfl) _) rfl rfl ?_
     refine GoR.pass rfl rfl ?_
     refine GoR.pass rfl rfl ?_
     refine GoR.pass rfl rfl ?_
     refine GoR.op ((op_pickF rfl rfl rfl) _) rfl rfl ?_
     refine GoR.op ((op_move rfl) _) rfl rfl ?_
     refine GoR.pass rfl rfl ?_
     refine GoR.op ((op_pickF rfl rfl rfl) _) rfl rfl ?_
     refine GoR.op ((op_assign rfl) _) rfl rfl ?_
     refine GoR.nil ?_
     refine Go1.ret1 Try.func4 rfl ?_
     exact ⟨false, rfl, (Below.same' hB), H⟩
    ·replace H := ifp rfl H
     refine GoR.op ((op_eqlB Try.underlying4 rfl rfl) _) rfl rfl ?_
     refine GoR.op ((op_move rfl) _) rfl rfl ?_
     refine GoR.op ((op_move rfl) _) rfl rfl ?_
     refine GoR.op ((op_len Try.underlying22 rfl) _) rfl rfl ?_
     replace H := H h_r1.bd
     by_cases h46 : (r1.length : Int) = (0 : Int)
     ·replace H := ifp h46 H
      refine GoR.op ((fun w => opB (op_eql rfl rfl w) (decide_eq_true h46)) _) rfl rfl ?_
      refine GoR.op ((op_pickT rfl rfl rfl) _) rfl rfl ?_
      refine GoR.op ((op_move rfl) _) rfl rfl ?_
      refine GoR.call (op_call body17 rfl (walk_law11_awake hO.lt H)) rfl rfl ?_
      rintro v50 w48 ⟨r47, rfl, hs49, H⟩
      have hst51 := Stp.same hO hs49
      replace hO := hst51.own
      replace h_f := h_f.ch hst51.ch
      replace h_r1 := h_r1.ch hst51.ch
      replace hB := hB.trans hst51.bel
      refine GoR.op ((op_pickT rfl rfl rfl) _) rfl rfl ?_
      refine GoR.op ((op_assign rfl) _) rfl rfl ?_
      refine GoR.nil ?_
      refine Go1.ret1 Try.func4 rfl ?_
      exact ⟨r47, rfl, (Below.same' hB), H⟩
     ·replace H := ifn h46 H
      refine GoR.op ((fun w => opB (op_eql rfl rfl w) (decide_eq_false h46)) _) rfl rfl ?_
      refine GoR.op ((op_pickT rfl rfl rfl) _) rfl rfl ?_
      refine GoR.op ((op_move rfl) _) rfl rfl ?_
      refine GoR.pass rfl rfl ?_
      refine GoR.op ((op_pickF rfl rfl rfl) _) rfl rfl ?_
      refine GoR.op ((op_assign rfl) _) rfl rfl ?_
      refine GoR.nil ?_
      refine Go1.ret1 Try.func4 rfl ?_
      exact ⟨false, rfl, (Below.same' hB), H⟩
  ·replace H := ifn h29 H
   refine GoR.op ((fun w => opB (op_gtr rfl rfl w) (decide_eq_false h29)) _) rfl rfl ?_
   refine GoR.op ((op_pickF rfl rfl rfl) _) rfl rfl ?_
   refine GoR.nil ?_
   refine Go1.condF rfl rfl ?_
   refine Go1.skip ?_
   refine Go1.seq ?_
   refine Go1.region ?_
   refine GoR.op ((op_move rfl) _) rfl rfl ?_
   refine GoR.call (op_call body21 rfl (walk_trans_Valid hO.lt h_f H)) rfl rfl ?_
   rintro v55 w53 ⟨r52, rfl, hs54, H⟩
   have hst56 := Stp.same hO hs54
   replace hO := hst56.own
   replace h_f := h_f.ch hst56.ch
   replace h_r1 := h_r1.ch hst56.ch
   replace hB := hB.trans hst56.bel
   refine GoR.op ((op_move rfl) _) rfl rfl ?_
   refine GoR.call (op_call body22 rfl (walk_ref11_Valid hO.lt h_f H)) rfl rfl ?_
   rintro v60 w58 ⟨r57, rfl, hs59, H⟩
   have hst61 := Stp.same hO hs59
   replace hO := hst61.own
   replace h_f := h_f.ch hst61.ch
   replace h_r1 := h_r1.ch hst61.ch
   replace hB := hB.trans hst61.bel
   cases r52
   ·replace H := ifn Bool.false_ne_true H
    cases r57
    ·replace H := ifn Bool.false_ne_true H
     refine GoR.op ((op_eqlB Try.underlying4 rfl rfl) _) rfl rfl ?_
     refine GoR.op ((op_move rfl) _) rfl rfl ?_
     refine GoR.op ((op_move rfl) _) rfl rfl ?_
     refine GoR.op ((op_move rfl) _) rfl rfl ?_
     refine GoR.call (op_call body23 rfl (walk_ref03_Discrete hO.lt H)) rfl rfl ?_
     rintro v65 w63 ⟨r62, p_r62, c_r62, rfl, hs64, h_r62, H⟩
     have hst66 := Stp.same hO hs64
     replace hO := hst66.own
     replace h_f := h_f.ch hst66.ch
     replace h_r1 := h_r1.ch hst66.ch
     replace hB := hB.trans hst66.bel
     refine GoR.call (op_call body18 rfl (walk_ref03_Same hO.lt h_r1 h_r62 H)) rfl rfl ?_
     rintro v70 w68 ⟨r67, rfl, hs69, H⟩
     have hst71 := Stp.same hO hs69
     replace hO := hst71.own
     replace h_f := h_f.ch hst71.ch
     replace h_r1 := h_r1.ch hst71.ch
     replace h_r62 := h_r62.ch hst71.ch
     replace hB := hB.trans hst71.bel
     refine GoR.op ((op_pickT rfl rfl rfl) _) rfl rfl ?_
     refine GoR.op ((op_move rfl) _) rfl rfl ?_
     cases r67
     ·replace H := ifn Bool.false_ne_true H
      refine GoR.pass rfl rfl ?_
      refine GoR.op ((op_pickF rfl rfl rfl) _) rfl rfl ?_
      refine GoR.op ((op_assign rfl) _) rfl rfl ?_
      refine GoR.nil ?_
      refine Go1.ret1 Try.func4 rfl ?_
      exact ⟨false, rfl, (Below.same' hB), H⟩
     ·replace H := ifp rfl H
      refine GoR.call (op_call body17 rfl (walk_law11_awake hO.lt H)) rfl rfl ?_
      rintro v75 w73 ⟨r72, rfl, hs74, H⟩
      have hst76 := Stp.same hO hs74
      replace hO := hst76.own
      replace h_f := h_f.ch hst76.ch
      replace h_r1 := h_r1.ch hst76.ch
      replace h_r62 := h_r62.ch hst76.ch
      replace hB := hB.trans hst76.bel
      refine GoR.op ((op_pickT rfl rfl rfl) _) rfl rfl ?_
      refine GoR.op ((op_assign rfl) _) rfl rfl ?_
      refine GoR.nil ?_
      refine Go1.ret1 Try.func4 rfl ?_
      exact ⟨r72, rfl, (Below.same' hB), H⟩
    ·replace H := ifp rfl H
     refine GoR.op ((op_eqlB Try.underlying4 rfl rfl) _) rfl rfl ?_
     refine GoR.op ((op_move rfl) _) rfl rfl ?_
     refine GoR.pass rfl rfl ?_
     refine GoR.pass rfl rfl ?_
     refine GoR.pass rfl rfl ?_
     refine GoR.pass rfl rfl ?_
     refine GoR.op ((op_pickF rfl rfl rfl) _) rfl rfl ?_
     refine GoR.op ((op_move rfl) _) rfl rfl ?_
     refine GoR.pass rfl rfl ?_
     refine GoR.op ((op_pickF rfl rfl rfl) _) rfl rfl ?_
     refine GoR.op ((op_assign rfl) _) rfl rfl ?_
     refine GoR.nil ?_
     refine Go1.ret1 Try.func4 rfl ?_
     exact ⟨false, rfl, (Below.same' hB), H⟩
   ·replace H := ifp rfl H
    cases r57
    ·replace H := ifn Bool.false_ne_true H
     refine GoR.op ((op_eqlB Try.underlying4 rfl rfl) _) rfl rfl ?_
     refine GoR.op ((op_move rfl) _) rfl rfl ?_
     refine GoR.pass rfl rfl ?_
     refine GoR.pass rfl rfl ?_
     refine GoR.pass rfl rfl ?_
     refine GoR.pass rfl rfl ?_
     refine GoR.op ((op_pickF rfl rfl rfl) _) rfl rfl ?_
     refine GoR.op ((op_move rfl) _) rfl rfl ?_
     refine GoR.pass rfl rfl ?_
     refine GoR.op ((op_pickF rfl rfl rfl) _) rfl rfl ?_
     refine GoR.op ((op_assign rfl) _) rfl rfl ?_
     refine GoR.nil ?_
     refine Go1.ret1 Try.func4 rfl ?_
     exact ⟨false, rfl, (Below.same' hB), H⟩
    ·replace H := ifp rfl H
     refine GoR.op ((op_eqlB Try.underlying4 rfl rfl) _) rfl rfl ?_
     refine GoR.op ((op_move rfl) _) rfl rfl ?_
     refine GoR.op ((op_move rfl) _) rfl rfl ?_
     refine GoR.op ((op_move rfl) _) rfl rfl ?_
     refine GoR.call (op_call body23 rfl (walk_ref03_Discrete hO.lt H)) rfl rfl ?_
     rintro v80 w78 ⟨r77, p_r77, c_r77, rfl, hs79, h_r77, H⟩
     have hst81 := Stp.same hO hs79
     replace hO := hst81.own
     replace h_f := h_f.ch hst81.ch
     replace h_r1 := h_r1.ch hst81.ch
     replace hB := hB.trans hst81.bel
     refine GoR.call (op_call body18 rfl (walk_ref03_Same hO.lt h_r1 h_r77 H)) rfl rfl ?_
     rintro v85 w83 ⟨r82, rfl, hs84, H⟩
     have hst86 := Stp.same hO hs84
     replace hO := hst86.own
     replace h_f := h_f.ch hst86.ch
     replace h_r1 := h_r1.ch hst86.ch
     replace h_r77 := h_r77.ch hst86.ch
     replace hB := hB.trans hst86.bel
     refine GoR.op ((op_pickT rfl rfl rfl) _) rfl rfl ?_
     refine GoR.op ((op_move rfl) _) rfl rfl ?_
     cases r82
     ·replace H := ifn Bool.false_ne_true H
      refine GoR.pass rfl rfl ?_
      refine GoR.op ((op_pickF rfl rfl rfl) _) rfl rfl ?_
      refine GoR.op ((op_assign rfl) _) rfl rfl ?_
      refine GoR.nil ?_
      refine Go1.ret1 Try.func4 rfl ?_
      exact ⟨false, rfl, (Below.same' hB), H⟩
     ·replace H := ifp rfl H
      refine GoR.call (op_call body17 rfl (walk_law11_awake hO.lt H)) rfl rfl ?_
      rintro v90 w88 ⟨r87, rfl, hs89, H⟩
      have hst91 := Stp.same hO hs89
      replace hO := hst91.own
      replace h_f := h_f.ch hst91.ch
      replace h_r1 := h_r1.ch hst91.ch
      replace h_r77 := h_r77.ch hst91.ch
      replace hB := hB.trans hst91.bel
      refine GoR.op ((op_pickT rfl rfl rfl) _) rfl rfl ?_
      refine GoR.op ((op_assign rfl) _) rfl rfl ?_
      refine GoR.nil ?_
      refine Go1.ret1 Try.func4 rfl ?_
      exact ⟨r87, rfl, (Below.same' hB), H⟩
end Sg
