/- The walks: each call keeps to its plain transformer. Printed by walkgen.py. -/
import Derived.Test.YtjegmdkaiddokaaTi
import Derived.Test.YtjegmdkaiddokaaWTransComposes
namespace Sg
open Go Go.RowKit Go.Proofs
set_option linter.unusedVariables false
set_option maxRecDepth 100000
set_option maxHeartbeats 4000000
theorem body20 : Body Try.prog 20 := ⟨Try.f20, Try.func20, rfl, by kernel_rfl⟩
theorem walk_trans_Identity {A : List Nat} {w0 : World} {n : Int} (hA : ∀ b ∈ A, b < w0.heap.size) {K : List Int → Prop} (H : trans_Identity n K) :
    CallsV Try.prog 20 #[.int .i64 n] w0 (fun v w' => ∃ (r0 : List Int), ∃ (p_r0 : Option Addr), ∃ (c_r0 : Nat), v = .slice p_r0 r0.length c_r0 ∧ Same w0 w' ∧ ISl (Rp.int .i64) A w' p_r0 c_r0 r0 ∧ K r0) := by
 refine CallsV.of (l := [.int .i64 n]) Try.func20 rfl Try.ntmps20 rfl ?_
 have hO := Owns.start hA
 have hB := Fr.refl (bl []) w0
 unfold trans_Identity at H
 refine Go1.seq ?_
 refine Go1.region ?_
 refine GoR.op ((op_assign rfl) _) rfl rfl ?_
 refine GoR.nil ?_
 refine Go1.seq ?_
 refine Go1.seq ?_
 refine Go1.region ?_
 refine GoR.op ((op_move rfl) _) rfl rfl ?_
 by_cases h1 : n < (1 : Int)
 ·replace H := ifp h1 H
  refine GoR.op ((fun w => opB (op_lss rfl rfl w) (decide_eq_true h1)) _) rfl rfl ?_
  refine GoR.op ((op_move rfl) _) rfl rfl ?_
  refine GoR.pass rfl rfl ?_
  refine GoR.pass rfl rfl ?_
  refine GoR.op ((op_pickT rfl rfl rfl) _) rfl rfl ?_
  refine GoR.nil ?_
  refine Go1.condT rfl rfl ?_
  refine Go1.seq ?_
  refine Go1.region ?_
  refine GoR.op ((op_assign rfl) _) rfl rfl ?_
  refine GoR.nil ?_
  refine Go1.ret1 Try.func20 rfl ?_
  exact ⟨([] : List Int), none, 0, rfl, hB.same, (ISl.null _ _ _), H⟩
 ·replace H := ifn h1 H
  refine GoR.op ((fun w => opB (op_lss rfl rfl w) (decide_eq_false h1)) _) rfl rfl ?_
  refine GoR.op ((op_move rfl) _) rfl rfl ?_
  refine GoR.op ((op_move rfl) _) rfl rfl ?_
  by_cases h2 : (32 : Int) < n
  ·replace H := ifp h2 H
   refine GoR.op ((fun w => opB (op_gtr rfl rfl w) (decide_eq_true h2)) _) rfl rfl ?_
   refine GoR.op ((op_pickF rfl rfl rfl) _) rfl rfl ?_
   refine GoR.nil ?_
   refine Go1.condT rfl rfl ?_
   refine Go1.seq ?_
   refine Go1.region ?_
   refine GoR.op ((op_assign rfl) _) rfl rfl ?_
   refine GoR.nil ?_
   refine Go1.ret1 Try.func20 rfl ?_
   exact ⟨([] : List Int), none, 0, rfl, hB.same, (ISl.null _ _ _), H⟩
  ·replace H := ifn h2 H
   refine GoR.op ((fun w => opB (op_gtr rfl rfl w) (decide_eq_false h2)) _) rfl rfl ?_
   refine GoR.op ((op_pickF rfl rfl rfl) _) rfl rfl ?_
   refine GoR.nil ?_
   refine Go1.condF rfl rfl ?_
   refine Go1.skip ?_
   refine Go1.seq ?_
   refine Go1.region ?_
   refine GoR.op ((op_move rfl) _) rfl rfl ?_
   obtain ⟨h10, H⟩ := H
   obtain ⟨h11, H⟩ := H
   have hobt := omake (n := n) (r := Rp.int .i64) (d := (0 : Int)) Try.underlying22 ti3 (fun _ _ => rfl) rfl hO h10 h11 (by decide)
   obtain ⟨w3, p4, vs5, hst6, hE7, hs8, hop9⟩ := hobt
   refine GoR.op (hop9 rfl rfl) rfl rfl ?_
   replace hO := hst6.own
   replace hB := hB.trans hst6.fr
   refine GoR.op ((op_assign rfl) _) rfl rfl ?_
   refine GoR.nil ?_
   refine Go1.seq ?_
   refine Go1.seq ?_
   refine Go1.region ?_
   refine GoR.op ((op_move rfl) _) rfl rfl ?_
   refine GoR.op ((op_lenN Try.underlying22 rfl (hE7.neq hO 0 rfl)) _) rfl rfl ?_
   refine GoR.op ((op_move rfl) _) rfl rfl ?_
   refine GoR.nil ?_
   refine Go1.block ?_
   refine Go1.loopW (S := Nat × List Int) (fun s σ w => ∃ (vs16 : List Value), agrees σ [(3, .slice p4 n.toNat n.toNat), (14, .int .i64 ((List.replicate n.toNat ((0 : Int))).length : Int)), (15, .int .i64 ((s.1) : Int))] ∧ Owns w0.heap.size w [.row 3 1 p4 n.toNat n.toNat vs16] A ∧ Els (Rp.int .i64) (bl [.row 3 1 p4 n.toNat n.toNat vs16] ++ A) w vs16 (s.2) ∧ Fr (bl []) w0 (bl [.row 3 1 p4 n.toNat n.toNat vs16]) w) H ⟨vs5, ⟨rfl, rfl, rfl, trivial⟩, hO, hE7, hB⟩ ?_
   rintro X1 ⟨k1_14, f1_15⟩ H hX1 σ w13 ⟨vs16, hag, hO, hE17, hB⟩
   dsimp only at H
   refine Go1.keep [(3, .slice p4 n.toNat n.toNat), (14, .int .i64 ((List.replicate n.toNat ((0 : Int))).length : Int)), (15, .int .i64 (k1_14 : Int))] hag ?_
   refine Go1.seq ?_
   refine Go1.region ?_
   by_cases h18 : (k1_14 : Int) < ((List.replicate n.toNat ((0 : Int))).length : Int)
   ·replace H := ifp h18 H
    refine GoR.op ((fun w => opB (op_lss rfl rfl w) (decide_eq_true h18)) _) rfl rfl ?_
    refine GoR.nil ?_
    refine Go1.seq ?_
    refine Go1.condT rfl rfl ?_
    refine Go1.skip ?_
    refine Go1.seq ?_
    refine Go1.block ?_
    refine Go1.seq ?_
    refine Go1.region ?_
    refine GoR.op ((op_move rfl) _) rfl rfl ?_
    refine GoR.op ((op_assign rfl) _) rfl rfl ?_
    refine GoR.nil ?_
    refine Go1.region ?_
    refine GoR.op ((op_move rfl) _) rfl rfl ?_
    refine GoR.op ((op_move rfl) _) rfl rfl ?_
    refine GoR.op ((op_move rfl) _) rfl rfl ?_
    obtain ⟨h19, H⟩ := H
    obtain ⟨h20, H⟩ := H
    refine GoR.op ((op_index Try.underlying22 ti3 rfl rfl h19 (ltn (hE17.neq hO 0 rfl) h20) (hE17.psome hO 0 rfl h19 h20)) _) rfl rfl ?_
    have hobt := ost (r := Rp.int .i64) rfl 0 hO rfl hE17 h19 h20 (v := .int .i64 (k1_14 : Int)) (u := (k1_14 : Int)) rfl rfl
    obtain ⟨w21, vs22, hst23, hE24, hop25⟩ := hobt
    refine GoR.op (hop25 Try.underlying3 rfl ti3 rfl rfl) rfl rfl ?_
    replace hO := hst23.own
    replace hB := hB.trans hst23.fr
    refine GoR.nil ?_
    refine Go1.inBlock ?_
    refine Go1.region ?_
    obtain ⟨h26, H⟩ := H
    refine GoR.op ((op_add rfl rfl (wrap_i64 h26)) _) rfl rfl ?_
    refine GoR.op ((op_move rfl) _) rfl rfl ?_
    refine GoR.nil ?_
    exact hX1 _ H _ _ ⟨vs22, ⟨rfl, rfl, rfl, trivial⟩, hO, hE24, hB⟩
   ·replace H := ifn h18 H
    refine GoR.op ((fun w => opB (op_lss rfl rfl w) (decide_eq_false h18)) _) rfl rfl ?_
    refine GoR.nil ?_
    refine Go1.seq ?_
    refine Go1.condF rfl rfl ?_
    refine Go1.exit rfl ?_
    refine Go1.seq ?_
    refine Go1.region ?_
    refine GoR.op ((op_move rfl) _) rfl rfl ?_
    refine GoR.op ((op_assign rfl) _) rfl rfl ?_
    refine GoR.nil ?_
    have hobt := freeze 0 hO rfl hE17
    obtain ⟨hO1, hc29, hi27, hn28⟩ := hobt
    replace hB := hB.trans (Owns.dropFr _ _ 0)
    replace hO := hO1; clear hO1
    refine Go1.ret1 Try.func20 rfl ?_
    exact ⟨f1_15, p4, n.toNat, ((congrArg (fun nn => Value.slice p4 nn n.toNat) hn28)), hB.same, (hi27.ch (Ch.weak _ _ _)), H⟩
theorem body23 : Body Try.prog 23 := ⟨Try.f23, Try.func23, rfl, by kernel_rfl⟩
theorem walk_ref03_Discrete {A : List Nat} {w0 : World} {n : Int} (hA : ∀ b ∈ A, b < w0.heap.size) {K : List Int → Prop} (H : ref03_Discrete n K) :
    CallsV Try.prog 23 #[.int .i64 n] w0 (fun v w' => ∃ (r0 : List Int), ∃ (p_r0 : Option Addr), ∃ (c_r0 : Nat), v = .slice p_r0 r0.length c_r0 ∧ Same w0 w' ∧ ISl (Rp.int .i64) A w' p_r0 c_r0 r0 ∧ K r0) := by
 refine CallsV.of (l := [.int .i64 n]) Try.func23 rfl Try.ntmps23 rfl ?_
 have hO := Owns.start hA
 have hB := Fr.refl (bl []) w0
 unfold ref03_Discrete at H
 refine Go1.seq ?_
 refine Go1.region ?_
 refine GoR.op ((op_assign rfl) _) rfl rfl ?_
 refine GoR.nil ?_
 refine Go1.seq ?_
 refine Go1.region ?_
 refine GoR.op ((op_move rfl) _) rfl rfl ?_
 obtain ⟨h8, H⟩ := H
 obtain ⟨h9, H⟩ := H
 have hobt := omake (n := n) (r := Rp.int .i64) (d := (0 : Int)) Try.underlying22 ti3 (fun _ _ => rfl) rfl hO h8 h9 (by decide)
 obtain ⟨w1, p2, vs3, hst4, hE5, hs6, hop7⟩ := hobt
 refine GoR.op (hop7 rfl rfl) rfl rfl ?_
 replace hO := hst4.own
 replace hB := hB.trans hst4.fr
 refine GoR.op ((op_assign rfl) _) rfl rfl ?_
 refine GoR.nil ?_
 refine Go1.seq ?_
 refine Go1.seq ?_
 refine Go1.region ?_
 refine GoR.op ((op_move rfl) _) rfl rfl ?_
 refine GoR.op ((op_lenN Try.underlying22 rfl (hE5.neq hO 0 rfl)) _) rfl rfl ?_
 refine GoR.op ((op_move rfl) _) rfl rfl ?_
 refine GoR.nil ?_
 refine Go1.block ?_
 refine Go1.loopW (S := Nat × List Int) (fun s σ w => ∃ (vs14 : List Value), agrees σ [(3, .slice p2 n.toNat n.toNat), (8, .int .i64 ((List.replicate n.toNat ((0 : Int))).length : Int)), (9, .int .i64 ((s.1) : Int))] ∧ Owns w0.heap.size w [.row 3 1 p2 n.toNat n.toNat vs14] A ∧ Els (Rp.int .i64) (bl [.row 3 1 p2 n.toNat n.toNat vs14] ++ A) w vs14 (s.2) ∧ Fr (bl []) w0 (bl [.row 3 1 p2 n.toNat n.toNat vs14]) w) H ⟨vs3, ⟨rfl, rfl, rfl, trivial⟩, hO, hE5, hB⟩ ?_
 rintro X1 ⟨k1_12, p1_13⟩ H hX1 σ w11 ⟨vs14, hag, hO, hE15, hB⟩
 dsimp only at H
 refine Go1.keep [(3, .slice p2 n.toNat n.toNat), (8, .int .i64 ((List.replicate n.toNat ((0 : Int))).length : Int)), (9, .int .i64 (k1_12 : Int))] hag ?_
 refine Go1.seq ?_
 refine Go1.region ?_
 by_cases h16 : (k1_12 : Int) < ((List.replicate n.toNat ((0 : Int))).length : Int)
 ·replace H := ifp h16 H
  refine GoR.op ((fun w => opB (op_lss rfl rfl w) (decide_eq_true h16)) _) rfl rfl ?_
  refine GoR.nil ?_
  refine Go1.seq ?_
  refine Go1.condT rfl rfl ?_
  refine Go1.skip ?_
  refine Go1.seq ?_
  refine Go1.block ?_
  refine Go1.seq ?_
  refine Go1.region ?_
  refine GoR.op ((op_move rfl) _) rfl rfl ?_
  refine GoR.op ((op_assign rfl) _) rfl rfl ?_
  refine GoR.nil ?_
  refine Go1.region ?_
  refine GoR.op ((op_move rfl) _) rfl rfl ?_
  refine GoR.op ((op_move rfl) _) rfl rfl ?_
  refine GoR.op ((op_move rfl) _) rfl rfl ?_
  obtain ⟨h17, H⟩ := H
  obtain ⟨h18, H⟩ := H
  refine GoR.op ((op_index Try.underlying22 ti3 rfl rfl h17 (ltn (hE15.neq hO 0 rfl) h18) (hE15.psome hO 0 rfl h17 h18)) _) rfl rfl ?_
  have hobt := ost (r := Rp.int .i64) rfl 0 hO rfl hE15 h17 h18 (v := .int .i64 (k1_12 : Int)) (u := (k1_12 : Int)) rfl rfl
  obtain ⟨w19, vs20, hst21, hE22, hop23⟩ := hobt
  refine GoR.op (hop23 Try.underlying3 rfl ti3 rfl rfl) rfl rfl ?_
  replace hO := hst21.own
  replace hB := hB.trans hst21.fr
  refine GoR.nil ?_
  refine Go1.inBlock ?_
  refine Go1.region ?_
  obtain ⟨h24, H⟩ := H
  refine GoR.op ((op_add rfl rfl (wrap_i64 h24)) _) rfl rfl ?_
  refine GoR.op ((op_move rfl) _) rfl rfl ?_
  refine GoR.nil ?_
  exact hX1 _ H _ _ ⟨vs20, ⟨rfl, rfl, rfl, trivial⟩, hO, hE22, hB⟩
 ·replace H := ifn h16 H
  refine GoR.op ((fun w => opB (op_lss rfl rfl w) (decide_eq_false h16)) _) rfl rfl ?_
  refine GoR.nil ?_
  refine Go1.seq ?_
  refine Go1.condF rfl rfl ?_
  refine Go1.exit rfl ?_
  refine Go1.seq ?_
  refine Go1.region ?_
  refine GoR.op ((op_move rfl) _) rfl rfl ?_
  refine GoR.op ((op_assign rfl) _) rfl rfl ?_
  refine GoR.nil ?_
  have hobt := freeze 0 hO rfl hE15
  obtain ⟨hO1, hc27, hi25, hn26⟩ := hobt
  replace hB := hB.trans (Owns.dropFr _ _ 0)
  replace hO := hO1; clear hO1
  refine Go1.ret1 Try.func23 rfl ?_
  exact ⟨p1_13, p2, n.toNat, ((congrArg (fun nn => Value.slice p2 nn n.toNat) hn26)), hB.same, (hi25.ch (Ch.weak _ _ _)), H⟩
theorem body4 : Body Try.prog 4 := ⟨Try.f4, Try.func4, rfl, by kernel_rfl⟩
theorem walk_law11_TransValid {A : List Nat} {w0 : World} {p_f : Option Addr} {c_f : Nat} {f : List Int} {n : Int} (hA : ∀ b ∈ A, b < w0.heap.size) (h_f : ISl (Rp.int .i64) A w0 p_f c_f f) {K : Bool → Prop} (H : law11_TransValid f n K) :
    CallsV Try.prog 4 #[.slice p_f f.length c_f, .int .i64 n] w0 (fun v w' => ∃ (r0 : Bool), v = .bool r0 ∧ Same w0 w' ∧ K r0) := by
 refine CallsV.of (l := [.slice p_f f.length c_f, .int .i64 n]) Try.func4 rfl Try.ntmps4 rfl ?_
 have hO := Owns.start hA
 have hB := Fr.refl (bl []) w0
 unfold law11_TransValid at H
 replace h_f := h_f.ch (Ch.start A w0)
 refine Go1.seq ?_
 refine Go1.region ?_
 refine GoR.op ((op_assign rfl) _) rfl rfl ?_
 refine GoR.nil ?_
 refine Go1.seq ?_
 refine Go1.region ?_
 refine GoR.op ((op_move rfl) _) rfl rfl ?_
 refine GoR.call (op_call body20 rfl (walk_trans_Identity hO.lt H)) rfl rfl ?_
 rintro v5 w2 ⟨r1, p_r1, c_r1, rfl, hs3, h_r1, H⟩
 have hst6 := Stp.same hO hs3
 replace hO := hst6.own
 replace h_f := h_f.ch hst6.ch
 replace hB := hB.trans hst6.fr
 refine GoR.op ((op_assign rfl) _) rfl rfl ?_
 refine GoR.nil ?_
 refine Go1.seq ?_
 refine Go1.seq ?_
 refine Go1.region ?_
 refine GoR.op ((op_move rfl) _) rfl rfl ?_
 by_cases h7 : n < (1 : Int)
 ·replace H := ifp h7 H
  refine GoR.op ((fun w => opB (op_lss rfl rfl w) (decide_eq_true h7)) _) rfl rfl ?_
  refine GoR.op ((op_move rfl) _) rfl rfl ?_
  refine GoR.pass rfl rfl ?_
  refine GoR.pass rfl rfl ?_
  refine GoR.op ((op_pickT rfl rfl rfl) _) rfl rfl ?_
  refine GoR.nil ?_
  refine Go1.condT rfl rfl ?_
  refine Go1.seq ?_
  refine Go1.region ?_
  refine GoR.op ((op_move rfl) _) rfl rfl ?_
  refine GoR.call (op_call body21 rfl (walk_trans_Valid hO.lt h_f H)) rfl rfl ?_
  rintro v12 w9 ⟨r8, rfl, hs10, H⟩
  have hst13 := Stp.same hO hs10
  replace hO := hst13.own
  replace h_f := h_f.ch hst13.ch
  replace h_r1 := h_r1.ch hst13.ch
  replace hB := hB.trans hst13.fr
  refine GoR.op ((op_move rfl) _) rfl rfl ?_
  refine GoR.call (op_call body22 rfl (walk_ref11_Valid hO.lt h_f H)) rfl rfl ?_
  rintro v18 w15 ⟨r14, rfl, hs16, H⟩
  have hst19 := Stp.same hO hs16
  replace hO := hst19.own
  replace h_f := h_f.ch hst19.ch
  replace h_r1 := h_r1.ch hst19.ch
  replace hB := hB.trans hst19.fr
  cases r8
  ·replace H := ifn Bool.false_ne_true H
   cases r14
   ·replace H := ifn Bool.false_ne_true H
    refine GoR.op ((op_eqlB Try.underlying4 rfl rfl) _) rfl rfl ?_
    refine GoR.op ((op_move rfl) _) rfl rfl ?_
    refine GoR.op ((op_move rfl) _) rfl rfl ?_
    refine GoR.op ((op_len Try.underlying22 rfl) _) rfl rfl ?_
    replace H := H h_r1.bd
    by_cases h20 : (r1.length : Int) = (0 : Int)
    ·replace H := ifp h20 H
     refine GoR.op ((fun w => opB (op_eql rfl rfl w) (decide_eq_true h20)) _) rfl rfl ?_
     refine GoR.op ((op_pickT rfl rfl rfl) _) rfl rfl ?_
     refine GoR.op ((op_move rfl) _) rfl rfl ?_
     refine GoR.call (op_call body17 rfl (walk_law11_awake hO.lt H)) rfl rfl ?_
     rintro v25 w22 ⟨r21, rfl, hs23, H⟩
     have hst26 := Stp.same hO hs23
     replace hO := hst26.own
     replace h_f := h_f.ch hst26.ch
     replace h_r1 := h_r1.ch hst26.ch
     replace hB := hB.trans hst26.fr
     refine GoR.op ((op_pickT rfl rfl rfl) _) rfl rfl ?_
     refine GoR.op ((op_assign rfl) _) rfl rfl ?_
     refine GoR.nil ?_
     refine Go1.ret1 Try.func4 rfl ?_
     exact ⟨r21, rfl, hB.same, H⟩
    ·replace H := ifn h20 H
     refine GoR.op ((fun w => opB (op_eql rfl rfl w) (decide_eq_false h20)) _) rfl rfl ?_
     refine GoR.op ((op_pickT rfl rfl rfl) _) rfl rfl ?_
     refine GoR.op ((op_move rfl) _) rfl rfl ?_
     refine GoR.pass rfl rfl ?_
     refine GoR.op ((op_pickF rfl rfl rfl) _) rfl rfl ?_
     refine GoR.op ((op_assign rfl) _) rfl rfl ?_
     refine GoR.nil ?_
     refine Go1.ret1 Try.func4 rfl ?_
     exact ⟨false, rfl, hB.same, H⟩
   ·replace H := ifp rfl H
    refine GoR.op ((op_eqlB Try.underlying4 rfl rfl) _) rfl rfl ?_
    refine GoR.op ((op_move rfl) _) rfl rfl ?_
    refine GoR.pass rfl rfl ?_
    refine GoR.pass rfl rfl ?_
    refine GoR.pass rfl rfl ?_
    refine GoR.op ((op_pickF rfl rfl rfl) _) rfl rfl ?_
    refine GoR.op ((op_move rfl) _) rfl rfl ?_
    refine GoR.pass rfl rfl ?_
    refine GoR.op ((op_pickF rfl rfl rfl) _) rfl rfl ?_
    refine GoR.op ((op_assign rfl) _) rfl rfl ?_
    refine GoR.nil ?_
    refine Go1.ret1 Try.func4 rfl ?_
    exact ⟨false, rfl, hB.same, H⟩
  ·replace H := ifp rfl H
   cases r14
   ·replace H := ifn Bool.false_ne_true H
    refine GoR.op ((op_eqlB Try.underlying4 rfl rfl) _) rfl rfl ?_
    refine GoR.op ((op_move rfl) _) rfl rfl ?_
    refine GoR.pass rfl rfl ?_
    refine GoR.pass rfl rfl ?_
    refine GoR.pass rfl rfl ?_
    refine GoR.op ((op_pickF rfl rfl rfl) _) rfl rfl ?_
    refine GoR.op ((op_move rfl) _) rfl rfl ?_
    refine GoR.pass rfl rfl ?_
    refine GoR.op ((op_pickF rfl rfl rfl) _) rfl rfl ?_
    refine GoR.op ((op_assign rfl) _) rfl rfl ?_
    refine GoR.nil ?_
    refine Go1.ret1 Try.func4 rfl ?_
    exact ⟨false, rfl, hB.same, H⟩
   ·replace H := ifp rfl H
    refine GoR.op ((op_eqlB Try.underlying4 rfl rfl) _) rfl rfl ?_
    refine GoR.op ((op_move rfl) _) rfl rfl ?_
    refine GoR.op ((op_move rfl) _) rfl rfl ?_
    refine GoR.op ((op_len Try.underlying22 rfl) _) rfl rfl ?_
    replace H := H h_r1.bd
    by_cases h27 : (r1.length : Int) = (0 : Int)
    ·replace H := ifp h27 H
     refine GoR.op ((fun w => opB (op_eql rfl rfl w) (decide_eq_true h27)) _) rfl rfl ?_
     refine GoR.op ((op_pickT rfl rfl rfl) _) rfl rfl ?_
     refine GoR.op ((op_move rfl) _) rfl rfl ?_
     refine GoR.call (op_call body17 rfl (walk_law11_awake hO.lt H)) rfl rfl ?_
     rintro v32 w29 ⟨r28, rfl, hs30, H⟩
     have hst33 := Stp.same hO hs30
     replace hO := hst33.own
     replace h_f := h_f.ch hst33.ch
     replace h_r1 := h_r1.ch hst33.ch
     replace hB := hB.trans hst33.fr
     refine GoR.op ((op_pickT rfl rfl rfl) _) rfl rfl ?_
     refine GoR.op ((op_assign rfl) _) rfl rfl ?_
     refine GoR.nil ?_
     refine Go1.ret1 Try.func4 rfl ?_
     exact ⟨r28, rfl, hB.same, H⟩
    ·replace H := ifn h27 H
     refine GoR.op ((fun w => opB (op_eql rfl rfl w) (decide_eq_false h27)) _) rfl rfl ?_
     refine GoR.op ((op_pickT rfl rfl rfl) _) rfl rfl ?_
     refine GoR.op ((op_move rfl) _) rfl rfl ?_
     refine GoR.pass rfl rfl ?_
     refine GoR.op ((op_pickF rfl rfl rfl) _) rfl rfl ?_
     refine GoR.op ((op_assign rfl) _) rfl rfl ?_
     refine GoR.nil ?_
     refine Go1.ret1 Try.func4 rfl ?_
     exact ⟨false, rfl, hB.same, H⟩
 ·replace H := ifn h7 H
  refine GoR.op ((fun w => opB (op_lss rfl rfl w) (decide_eq_false h7)) _) rfl rfl ?_
  refine GoR.op ((op_move rfl) _) rfl rfl ?_
  refine GoR.op ((op_move rfl) _) rfl rfl ?_
  by_cases h34 : (32 : Int) < n
  ·replace H := ifp h34 H
   refine GoR.op ((fun w => opB (op_gtr rfl rfl w) (decide_eq_true h34)) _) rfl rfl ?_
   refine GoR.op ((op_pickF rfl rfl rfl) _) rfl rfl ?_
   refine GoR.nil ?_
   refine Go1.condT rfl rfl ?_
   refine Go1.seq ?_
   refine Go1.region ?_
   refine GoR.op ((op_move rfl) _) rfl rfl ?_
   refine GoR.call (op_call body21 rfl (walk_trans_Valid hO.lt h_f H)) rfl rfl ?_
   rintro v39 w36 ⟨r35, rfl, hs37, H⟩
   have hst40 := Stp.same hO hs37
   replace hO := hst40.own
   replace h_f := h_f.ch hst40.ch
   replace h_r1 := h_r1.ch hst40.ch
   replace hB := hB.trans hst40.fr
   refine GoR.op ((op_move rfl) _) rfl rfl ?_
   refine GoR.call (op_call body22 rfl (walk_ref11_Valid hO.lt h_f H)) rfl rfl ?_
   rintro v45 w42 ⟨r41, rfl, hs43, H⟩
   have hst46 := Stp.same hO hs43
   replace hO := hst46.own
   replace h_f := h_f.ch hst46.ch
   replace h_r1 := h_r1.ch hst46.ch
   replace hB := hB.trans hst46.fr
   cases r35
   ·replace H := ifn Bool.false_ne_true H
    cases r41
    ·replace H := ifn Bool.false_ne_true H
     refine GoR.op ((op_eqlB Try.underlying4 rfl rfl) _) rfl rfl ?_
     refine GoR.op ((op_move rfl) _) rfl rfl ?_
     refine GoR.op ((op_move rfl) _) rfl rfl ?_
     refine GoR.op ((op_len Try.underlying22 rfl) _) rfl rfl ?_
     replace H := H h_r1.bd
     by_cases h47 : (r1.length : Int) = (0 : Int)
     ·replace H := ifp h47 H
      refine GoR.op ((fun w => opB (op_eql rfl rfl w) (decide_eq_true h47)) _) rfl rfl ?_
      refine GoR.op ((op_pickT rfl rfl rfl) _) rfl rfl ?_
      refine GoR.op ((op_move rfl) _) rfl rfl ?_
      refine GoR.call (op_call body17 rfl (walk_law11_awake hO.lt H)) rfl rfl ?_
      rintro v52 w49 ⟨r48, rfl, hs50, H⟩
      have hst53 := Stp.same hO hs50
      replace hO := hst53.own
      replace h_f := h_f.ch hst53.ch
      replace h_r1 := h_r1.ch hst53.ch
      replace hB := hB.trans hst53.fr
      refine GoR.op ((op_pickT rfl rfl rfl) _) rfl rfl ?_
      refine GoR.op ((op_assign rfl) _) rfl rfl ?_
      refine GoR.nil ?_
      refine Go1.ret1 Try.func4 rfl ?_
      exact ⟨r48, rfl, hB.same, H⟩
     ·replace H := ifn h47 H
      refine GoR.op ((fun w => opB (op_eql rfl rfl w) (decide_eq_false h47)) _) rfl rfl ?_
      refine GoR.op ((op_pickT rfl rfl rfl) _) rfl rfl ?_
      refine GoR.op ((op_move rfl) _) rfl rfl ?_
      refine GoR.pass rfl rfl ?_
      refine GoR.op ((op_pickF rfl rfl rfl) _) rfl rfl ?_
      refine GoR.op ((op_assign rfl) _) rfl rfl ?_
      refine GoR.nil ?_
      refine Go1.ret1 Try.func4 rfl ?_
      exact ⟨false, rfl, hB.same, H⟩
    ·replace H := ifp rfl H
     refine GoR.op ((op_eqlB Try.underlying4 rfl rfl) _) rfl rfl ?_
     refine GoR.op ((op_move rfl) _) rfl rfl ?_
     refine GoR.pass rfl rfl ?_
     refine GoR.pass rfl rfl ?_
     refine GoR.pass rfl rfl ?_
     refine GoR.op ((op_pickF rfl rfl rfl) _) rfl rfl ?_
     refine GoR.op ((op_move rfl) _) rfl rfl ?_
     refine GoR.pass rfl rfl ?_
     refine GoR.op ((op_pickF rfl rfl rfl) _) rfl rfl ?_
     refine GoR.op ((op_assign rfl) _) rfl rfl ?_
     refine GoR.nil ?_
     refine Go1.ret1 Try.func4 rfl ?_
     exact ⟨false, rfl, hB.same, H⟩
   ·replace H := ifp rfl H
    cases r41
    ·replace H := ifn Bool.false_ne_true H
     refine GoR.op ((op_eqlB Try.underlying4 rfl rfl) _) rfl rfl ?_
     refine GoR.op ((op_move rfl) _) rfl rfl ?_
     refine GoR.pass rfl rfl ?_
     refine GoR.pass rfl rfl ?_
     refine GoR.pass rfl rfl ?_
     refine GoR.op ((op_pickF rfl rfl rfl) _) rfl rfl ?_
     refine GoR.op ((op_move rfl) _) rfl rfl ?_
     refine GoR.pass rfl rfl ?_
     refine GoR.op ((op_pickF rfl rfl rfl) _) rfl rfl ?_
     refine GoR.op ((op_assign rfl) _) rfl rfl ?_
     refine GoR.nil ?_
     refine Go1.ret1 Try.func4 rfl ?_
     exact ⟨false, rfl, hB.same, H⟩
    ·replace H := ifp rfl H
     refine GoR.op ((op_eqlB Try.underlying4 rfl rfl) _) rfl rfl ?_
     refine GoR.op ((op_move rfl) _) rfl rfl ?_
     refine GoR.op ((op_move rfl) _) rfl rfl ?_
     refine GoR.op ((op_len Try.underlying22 rfl) _) rfl rfl ?_
     replace H := H h_r1.bd
     by_cases h54 : (r1.length : Int) = (0 : Int)
     ·replace H := ifp h54 H
      refine GoR.op ((fun w => opB (op_eql rfl rfl w) (decide_eq_true h54)) _) rfl rfl ?_
      refine GoR.op ((op_pickT rfl rfl rfl) _) rfl rfl ?_
      refine GoR.op ((op_move rfl) _) rfl rfl ?_
      refine GoR.call (op_call body17 rfl (walk_law11_awake hO.lt H)) rfl rfl ?_
      rintro v59 w56 ⟨r55, rfl, hs57, H⟩
      have hst60 := Stp.same hO hs57
      replace hO := hst60.own
      replace h_f := h_f.ch hst60.ch
      replace h_r1 := h_r1.ch hst60.ch
      replace hB := hB.trans hst60.fr
      refine GoR.op ((op_pickT rfl rfl rfl) _) rfl rfl ?_
      refine GoR.op ((op_assign rfl) _) rfl rfl ?_
      refine GoR.nil ?_
      refine Go1.ret1 Try.func4 rfl ?_
      exact ⟨r55, rfl, hB.same, H⟩
     ·replace H := ifn h54 H
      refine GoR.op ((fun w => opB (op_eql rfl rfl w) (decide_eq_false h54)) _) rfl rfl ?_
      refine GoR.op ((op_pickT rfl rfl rfl) _) rfl rfl ?_
      refine GoR.op ((op_move rfl) _) rfl rfl ?_
      refine GoR.pass rfl rfl ?_
      refine GoR.op ((op_pickF rfl rfl rfl) _) rfl rfl ?_
      refine GoR.op ((op_assign rfl) _) rfl rfl ?_
      refine GoR.nil ?_
      refine Go1.ret1 Try.func4 rfl ?_
      exact ⟨false, rfl, hB.same, H⟩
  ·replace H := ifn h34 H
   refine GoR.op ((fun w => opB (op_gtr rfl rfl w) (decide_eq_false h34)) _) rfl rfl ?_
   refine GoR.op ((op_pickF rfl rfl rfl) _) rfl rfl ?_
   refine GoR.nil ?_
   refine Go1.condF rfl rfl ?_
   refine Go1.skip ?_
   refine Go1.seq ?_
   refine Go1.region ?_
   refine GoR.op ((op_move rfl) _) rfl rfl ?_
   refine GoR.call (op_call body21 rfl (walk_trans_Valid hO.lt h_f H)) rfl rfl ?_
   rintro v65 w62 ⟨r61, rfl, hs63, H⟩
   have hst66 := Stp.same hO hs63
   replace hO := hst66.own
   replace h_f := h_f.ch hst66.ch
   replace h_r1 := h_r1.ch hst66.ch
   replace hB := hB.trans hst66.fr
   refine GoR.op ((op_move rfl) _) rfl rfl ?_
   refine GoR.call (op_call body22 rfl (walk_ref11_Valid hO.lt h_f H)) rfl rfl ?_
   rintro v71 w68 ⟨r67, rfl, hs69, H⟩
   have hst72 := Stp.same hO hs69
   replace hO := hst72.own
   replace h_f := h_f.ch hst72.ch
   replace h_r1 := h_r1.ch hst72.ch
   replace hB := hB.trans hst72.fr
   cases r61
   ·replace H := ifn Bool.false_ne_true H
    cases r67
    ·replace H := ifn Bool.false_ne_true H
     refine GoR.op ((op_eqlB Try.underlying4 rfl rfl) _) rfl rfl ?_
     refine GoR.op ((op_move rfl) _) rfl rfl ?_
     refine GoR.op ((op_move rfl) _) rfl rfl ?_
     refine GoR.op ((op_move rfl) _) rfl rfl ?_
     refine GoR.call (op_call body23 rfl (walk_ref03_Discrete hO.lt H)) rfl rfl ?_
     rintro v77 w74 ⟨r73, p_r73, c_r73, rfl, hs75, h_r73, H⟩
     have hst78 := Stp.same hO hs75
     replace hO := hst78.own
     replace h_f := h_f.ch hst78.ch
     replace h_r1 := h_r1.ch hst78.ch
     replace hB := hB.trans hst78.fr
     refine GoR.call (op_call body18 rfl (walk_ref03_Same hO.lt h_r1 h_r73 H)) rfl rfl ?_
     rintro v83 w80 ⟨r79, rfl, hs81, H⟩
     have hst84 := Stp.same hO hs81
     replace hO := hst84.own
     replace h_f := h_f.ch hst84.ch
     replace h_r1 := h_r1.ch hst84.ch
     replace h_r73 := h_r73.ch hst84.ch
     replace hB := hB.trans hst84.fr
     refine GoR.op ((op_pickT rfl rfl rfl) _) rfl rfl ?_
     refine GoR.op ((op_move rfl) _) rfl rfl ?_
     cases r79
     ·replace H := ifn Bool.false_ne_true H
      refine GoR.pass rfl rfl ?_
      refine GoR.op ((op_pickF rfl rfl rfl) _) rfl rfl ?_
      refine GoR.op ((op_assign rfl) _) rfl rfl ?_
      refine GoR.nil ?_
      refine Go1.ret1 Try.func4 rfl ?_
      exact ⟨false, rfl, hB.same, H⟩
     ·replace H := ifp rfl H
      refine GoR.call (op_call body17 rfl (walk_law11_awake hO.lt H)) rfl rfl ?_
      rintro v89 w86 ⟨r85, rfl, hs87, H⟩
      have hst90 := Stp.same hO hs87
      replace hO := hst90.own
      replace h_f := h_f.ch hst90.ch
      replace h_r1 := h_r1.ch hst90.ch
      replace h_r73 := h_r73.ch hst90.ch
      replace hB := hB.trans hst90.fr
      refine GoR.op ((op_pickT rfl rfl rfl) _) rfl rfl ?_
      refine GoR.op ((op_assign rfl) _) rfl rfl ?_
      refine GoR.nil ?_
      refine Go1.ret1 Try.func4 rfl ?_
      exact ⟨r85, rfl, hB.same, H⟩
    ·replace H := ifp rfl H
     refine GoR.op ((op_eqlB Try.underlying4 rfl rfl) _) rfl rfl ?_
     refine GoR.op ((op_move rfl) _) rfl rfl ?_
     refine GoR.pass rfl rfl ?_
     refine GoR.pass rfl rfl ?_
     refine GoR.pass rfl rfl ?_
     refine GoR.pass rfl rfl ?_
     refine GoR.op ((op_pickF rfl rfl rfl) _) rfl rfl ?_
     refine GoR.op ((op_move rfl) _) rfl rfl ?_
     refine GoR.pass rfl rfl ?_
     refine GoR.op ((op_pickF rfl rfl rfl) _) rfl rfl ?_
     refine GoR.op ((op_assign rfl) _) rfl rfl ?_
     refine GoR.nil ?_
     refine Go1.ret1 Try.func4 rfl ?_
     exact ⟨false, rfl, hB.same, H⟩
   ·replace H := ifp rfl H
    cases r67
    ·replace H := ifn Bool.false_ne_true H
     refine GoR.op ((op_eqlB Try.underlying4 rfl rfl) _) rfl rfl ?_
     refine GoR.op ((op_move rfl) _) rfl rfl ?_
     refine GoR.pass rfl rfl ?_
     refine GoR.pass rfl rfl ?_
     refine GoR.pass rfl rfl ?_
     refine GoR.pass rfl rfl ?_
     refine GoR.op ((op_pickF rfl rfl rfl) _) rfl rfl ?_
     refine GoR.op ((op_move rfl) _) rfl rfl ?_
     refine GoR.pass rfl rfl ?_
     refine GoR.op ((op_pickF rfl rfl rfl) _) rfl rfl ?_
     refine GoR.op ((op_assign rfl) _) rfl rfl ?_
     refine GoR.nil ?_
     refine Go1.ret1 Try.func4 rfl ?_
     exact ⟨false, rfl, hB.same, H⟩
    ·replace H := ifp rfl H
     refine GoR.op ((op_eqlB Try.underlying4 rfl rfl) _) rfl rfl ?_
     refine GoR.op ((op_move rfl) _) rfl rfl ?_
     refine GoR.op ((op_move rfl) _) rfl rfl ?_
     refine GoR.op ((op_move rfl) _) rfl rfl ?_
     refine GoR.call (op_call body23 rfl (walk_ref03_Discrete hO.lt H)) rfl rfl ?_
     rintro v95 w92 ⟨r91, p_r91, c_r91, rfl, hs93, h_r91, H⟩
     have hst96 := Stp.same hO hs93
     replace hO := hst96.own
     replace h_f := h_f.ch hst96.ch
     replace h_r1 := h_r1.ch hst96.ch
     replace hB := hB.trans hst96.fr
     refine GoR.call (op_call body18 rfl (walk_ref03_Same hO.lt h_r1 h_r91 H)) rfl rfl ?_
     rintro v101 w98 ⟨r97, rfl, hs99, H⟩
     have hst102 := Stp.same hO hs99
     replace hO := hst102.own
     replace h_f := h_f.ch hst102.ch
     replace h_r1 := h_r1.ch hst102.ch
     replace h_r91 := h_r91.ch hst102.ch
     replace hB := hB.trans hst102.fr
     refine GoR.op ((op_pickT rfl rfl rfl) _) rfl rfl ?_
     refine GoR.op ((op_move rfl) _) rfl rfl ?_
     cases r97
     ·replace H := ifn Bool.false_ne_true H
      refine GoR.pass rfl rfl ?_
      refine GoR.op ((op_pickF rfl rfl rfl) _) rfl rfl ?_
      refine GoR.op ((op_assign rfl) _) rfl rfl ?_
      refine GoR.nil ?_
      refine Go1.ret1 Try.func4 rfl ?_
      exact ⟨false, rfl, hB.same, H⟩
     ·replace H := ifp rfl H
      refine GoR.call (op_call body17 rfl (walk_law11_awake hO.lt H)) rfl rfl ?_
      rintro v107 w104 ⟨r103, rfl, hs105, H⟩
      have hst108 := Stp.same hO hs105
      replace hO := hst108.own
      replace h_f := h_f.ch hst108.ch
      replace h_r1 := h_r1.ch hst108.ch
      replace h_r91 := h_r91.ch hst108.ch
      replace hB := hB.trans hst108.fr
      refine GoR.op ((op_pickT rfl rfl rfl) _) rfl rfl ?_
      refine GoR.op ((op_assign rfl) _) rfl rfl ?_
      refine GoR.nil ?_
      refine Go1.ret1 Try.func4 rfl ?_
      exact ⟨r103, rfl, hB.same, H⟩
end Sg
