/- The walks: each call keeps to its plain transformer. Printed by walkgen.py. -/
import Derived.Test.YthobeabghciknaaTi
import Derived.Test.YthobeabghciknaaWGreenClassesb
namespace Sg
open Go Go.RowKit Go.Proofs
set_option linter.unusedVariables false
set_option linter.unusedSimpArgs false
set_option maxRecDepth 100000
set_option maxHeartbeats 4000000
theorem body19 : Body Try.prog 19 := ⟨Try.f19, Try.func19, rfl, by kernel_rfl⟩
theorem walk_law15_small {A : List Nat} {w0 : World} {p_t : Option Addr} {c_t : Nat} {t : List (List Int)} {most : Int} (hA : ∀ b ∈ A, b < w0.heap.size) (h_t : ISl (Rp.sl (Rp.int .i64)) A w0 p_t c_t t) {K : Bool → Prop} (H : law15_small t most K) :
    CallsV Try.prog 19 #[.slice p_t t.length c_t, .int .i64 most] w0 (fun v w' => ∃ (r0 : Bool), v = .bool r0 ∧ Same w0 w' ∧ K r0) := by
 refine CallsV.of (l := [.slice p_t t.length c_t, .int .i64 most]) Try.func19 rfl Try.ntmps19 rfl ?_
 have hO := Owns.start hA
 have hB := Fr.refl (bl []) w0
 unfold law15_small at H
 replace h_t := h_t.ch (Ch.start A w0)
 refine Go1.seq ?_
 refine Go1.region ?_
 refine GoR.op ((op_assign rfl) _) rfl rfl ?_
 refine GoR.nil ?_
 refine Go1.seq ?_
 refine Go1.region ?_
 refine GoR.op ((op_move rfl) _) rfl rfl ?_
 refine GoR.op ((op_len Try.underlying22 rfl) _) rfl rfl ?_
 replace H := H h_t.bd
 refine GoR.op ((op_move rfl) _) rfl rfl ?_
 by_cases h1 : (t.length : Int) ≤ most
 ·replace H := ifp h1 H
  refine GoR.op ((fun w => opB (op_leq rfl rfl w) (decide_eq_true h1)) _) rfl rfl ?_
  refine GoR.op ((op_move rfl) _) rfl rfl ?_
  refine GoR.op ((op_move rfl) _) rfl rfl ?_
  refine GoR.call (op_call body16 rfl (walk_ref14_Valid hO.lt h_t H)) rfl rfl ?_
  rintro v6 w3 ⟨r2, rfl, hs4, H⟩
  have hst7 := Stp.same hO hs4
  replace hO := hst7.own
  replace h_t := h_t.ch hst7.ch
  replace hB := hB.trans hst7.fr
  refine GoR.op ((op_pickT rfl rfl rfl) _) rfl rfl ?_
  refine GoR.op ((op_assign rfl) _) rfl rfl ?_
  refine GoR.nil ?_
  refine Go1.ret1 Try.func19 rfl ?_
  exact ⟨r2, rfl, hB.same, H⟩
 ·replace H := ifn h1 H
  refine GoR.op ((fun w => opB (op_leq rfl rfl w) (decide_eq_false h1)) _) rfl rfl ?_
  refine GoR.op ((op_move rfl) _) rfl rfl ?_
  refine GoR.pass rfl rfl ?_
  refine GoR.pass rfl rfl ?_
  refine GoR.op ((op_pickF rfl rfl rfl) _) rfl rfl ?_
  refine GoR.op ((op_assign rfl) _) rfl rfl ?_
  refine GoR.nil ?_
  refine Go1.ret1 Try.func19 rfl ?_
  exact ⟨false, rfl, hB.same, H⟩
theorem body20 : Body Try.prog 20 := ⟨Try.f20, Try.func20, rfl, by kernel_rfl⟩
theorem walk_ref14_In {A : List Nat} {w0 : World} {p_t : Option Addr} {c_t : Nat} {p_l : Option Addr} {c_l : Nat} {t : List (List Int)} {l : List Int} (hA : ∀ b ∈ A, b < w0.heap.size) (h_t : ISl (Rp.sl (Rp.int .i64)) A w0 p_t c_t t) (h_l : ISl (Rp.int .i64) A w0 p_l c_l l) {K : Bool → Prop} (H : ref14_In t l K) :
    CallsV Try.prog 20 #[.slice p_t t.length c_t, .slice p_l l.length c_l] w0 (fun v w' => ∃ (r0 : Bool), v = .bool r0 ∧ Same w0 w' ∧ K r0) := by
 refine CallsV.of (l := [.slice p_t t.length c_t, .slice p_l l.length c_l]) Try.func20 rfl Try.ntmps20 rfl ?_
 have hO := Owns.start hA
 have hB := Fr.refl (bl []) w0
 unfold ref14_In at H
 replace h_t := h_t.ch (Ch.start A w0)
 replace h_l := h_l.ch (Ch.start A w0)
 refine Go1.seq ?_
 refine Go1.region ?_
 refine GoR.op ((op_assign rfl) _) rfl rfl ?_
 refine GoR.nil ?_
 refine Go1.seq ?_
 refine Go1.seq ?_
 refine Go1.region ?_
 refine GoR.op ((op_move rfl) _) rfl rfl ?_
 refine GoR.op ((op_len Try.underlying25 rfl) _) rfl rfl ?_
 replace H := H h_l.bd
 refine GoR.op ((op_move rfl) _) rfl rfl ?_
 refine GoR.nil ?_
 refine Go1.block ?_
 refine Go1.loopW (S := Nat) (fun s σ w => agrees σ [(0, .slice p_t t.length c_t), (7, .slice p_l l.length c_l), (8, .int .i64 (l.length : Int)), (9, .int .i64 (s : Int))] ∧ Owns w0.heap.size w [] A ∧ ISl (Rp.sl (Rp.int .i64)) (bl [] ++ A) w p_t c_t t ∧ ISl (Rp.int .i64) (bl [] ++ A) w p_l c_l l ∧ Fr (bl []) w0 (bl []) w) H ⟨⟨rfl, rfl, rfl, rfl, trivial⟩, hO, h_t, h_l, hB⟩ ?_
 rintro X1 k1_2 H hX1 σ w1 ⟨hag, hO, h_t, h_l, hB⟩
 refine Go1.keep [(0, .slice p_t t.length c_t), (7, .slice p_l l.length c_l), (8, .int .i64 (l.length : Int)), (9, .int .i64 (k1_2 : Int))] hag ?_
 refine Go1.seq ?_
 refine Go1.region ?_
 by_cases h3 : (k1_2 : Int) < (l.length : Int)
 ·replace H := ifp h3 H
  refine GoR.op ((fun w => opB (op_lss rfl rfl w) (decide_eq_true h3)) _) rfl rfl ?_
  refine GoR.nil ?_
  refine Go1.seq ?_
  refine Go1.condT rfl rfl ?_
  refine Go1.skip ?_
  refine Go1.seq ?_
  refine Go1.block ?_
  refine Go1.seq ?_
  refine Go1.region ?_
  obtain ⟨h4, H⟩ := H
  obtain ⟨h5, H⟩ := H
  refine GoR.op ((op_index Try.underlying25 ti3 rfl rfl h4 h5 (h_l.some_ h4 h5)) _) rfl rfl ?_
  refine GoR.op ((ldInt h_l h4 h5 Try.underlying3 rfl rfl) _ (Same.refl _)) rfl rfl ?_
  refine GoR.op ((op_assign rfl) _) rfl rfl ?_
  refine GoR.nil ?_
  refine Go1.seq ?_
  refine Go1.region ?_
  refine GoR.op ((op_move rfl) _) rfl rfl ?_
  by_cases h6 : (ix l (k1_2 : Int)) < (0 : Int)
  ·replace H := ifp h6 H
   refine GoR.op ((fun w => opB (op_lss rfl rfl w) (decide_eq_true h6)) _) rfl rfl ?_
   refine GoR.op ((op_move rfl) _) rfl rfl ?_
   refine GoR.pass rfl rfl ?_
   refine GoR.pass rfl rfl ?_
   refine GoR.pass rfl rfl ?_
   refine GoR.pass rfl rfl ?_
   refine GoR.op ((op_pickT rfl rfl rfl) _) rfl rfl ?_
   refine GoR.nil ?_
   refine Go1.condT rfl rfl ?_
   refine Go1.seq ?_
   refine Go1.region ?_
   refine GoR.op ((op_assign rfl) _) rfl rfl ?_
   refine GoR.nil ?_
   refine Go1.ret1 Try.func20 rfl ?_
   exact ⟨false, rfl, hB.same, H⟩
  ·replace H := ifn h6 H
   refine GoR.op ((fun w => opB (op_lss rfl rfl w) (decide_eq_false h6)) _) rfl rfl ?_
   refine GoR.op ((op_move rfl) _) rfl rfl ?_
   refine GoR.op ((op_move rfl) _) rfl rfl ?_
   refine GoR.op ((op_move rfl) _) rfl rfl ?_
   refine GoR.op ((op_len Try.underlying22 rfl) _) rfl rfl ?_
   replace H := H h_t.bd
   by_cases h7 : (t.length : Int) ≤ (ix l (k1_2 : Int))
   ·replace H := ifp h7 H
    refine GoR.op ((fun w => opB (op_geq rfl rfl w) (decide_eq_true h7)) _) rfl rfl ?_
    refine GoR.op ((op_pickF rfl rfl rfl) _) rfl rfl ?_
    refine GoR.nil ?_
    refine Go1.condT rfl rfl ?_
    refine Go1.seq ?_
    refine Go1.region ?_
    refine GoR.op ((op_assign rfl) _) rfl rfl ?_
    refine GoR.nil ?_
    refine Go1.ret1 Try.func20 rfl ?_
    exact ⟨false, rfl, hB.same, H⟩
   ·replace H := ifn h7 H
    refine GoR.op ((fun w => opB (op_geq rfl rfl w) (decide_eq_false h7)) _) rfl rfl ?_
    refine GoR.op ((op_pickF rfl rfl rfl) _) rfl rfl ?_
    refine GoR.nil ?_
    refine Go1.condF rfl rfl ?_
    refine Go1.skip ?_
    refine Go1.inBlock ?_
    refine Go1.region ?_
    refine GoR.op ((op_add rfl rfl (wrap_i64 (natbd h3 h_l.bd))) _) rfl rfl ?_
    refine GoR.op ((op_move rfl) _) rfl rfl ?_
    refine GoR.nil ?_
    exact hX1 _ H _ _ ⟨⟨rfl, rfl, rfl, rfl, trivial⟩, hO, h_t, h_l, hB⟩
 ·replace H := ifn h3 H
  refine GoR.op ((fun w => opB (op_lss rfl rfl w) (decide_eq_false h3)) _) rfl rfl ?_
  refine GoR.nil ?_
  refine Go1.seq ?_
  refine Go1.condF rfl rfl ?_
  refine Go1.exit rfl ?_
  refine Go1.seq ?_
  refine Go1.region ?_
  refine GoR.op ((op_assign rfl) _) rfl rfl ?_
  refine GoR.nil ?_
  refine Go1.ret1 Try.func20 rfl ?_
  exact ⟨true, rfl, hB.same, H⟩
theorem body21 : Body Try.prog 21 := ⟨Try.f21, Try.func21, rfl, by kernel_rfl⟩
theorem walk_ref03_Valid {A : List Nat} {w0 : World} {p_p : Option Addr} {c_p : Nat} {p : List Int} (hA : ∀ b ∈ A, b < w0.heap.size) (h_p : ISl (Rp.int .i64) A w0 p_p c_p p) {K : Bool → Prop} (H : ref03_Valid p K) :
    CallsV Try.prog 21 #[.slice p_p p.length c_p] w0 (fun v w' => ∃ (r0 : Bool), v = .bool r0 ∧ Same w0 w' ∧ K r0) := by
 refine CallsV.of (l := [.slice p_p p.length c_p]) Try.func21 rfl Try.ntmps21 rfl ?_
 have hO := Owns.start hA
 have hB := Fr.refl (bl []) w0
 unfold ref03_Valid at H
 replace h_p := h_p.ch (Ch.start A w0)
 refine Go1.seq ?_
 refine Go1.region ?_
 refine GoR.op ((op_assign rfl) _) rfl rfl ?_
 refine GoR.nil ?_
 refine Go1.seq ?_
 refine Go1.region ?_
 refine GoR.op ((op_move rfl) _) rfl rfl ?_
 refine GoR.op ((op_len Try.underlying25 rfl) _) rfl rfl ?_
 replace H := H h_p.bd
 by_cases h1 : (p.length : Int) ≤ (4096 : Int)
 ·replace H := ifp h1 H
  refine GoR.op ((fun w => opB (op_leq rfl rfl w) (decide_eq_true h1)) _) rfl rfl ?_
  refine GoR.op ((op_move rfl) _) rfl rfl ?_
  refine GoR.op ((op_move rfl) _) rfl rfl ?_
  refine GoR.op ((op_move rfl) _) rfl rfl ?_
  refine GoR.call (op_call body57 rfl (walk_ref03_Canonical hO.lt h_p H)) rfl rfl ?_
  rintro v6 w3 ⟨r2, p_r2, c_r2, rfl, hs4, h_r2, H⟩
  have hst7 := Stp.same hO hs4
  replace hO := hst7.own
  replace h_p := h_p.ch hst7.ch
  replace hB := hB.trans hst7.fr
  refine GoR.call (op_call body22 rfl (walk_ref03_Same hO.lt h_p h_r2 H)) rfl rfl ?_
  rintro v12 w9 ⟨r8, rfl, hs10, H⟩
  have hst13 := Stp.same hO hs10
  replace hO := hst13.own
  replace h_p := h_p.ch hst13.ch
  replace h_r2 := h_r2.ch hst13.ch
  replace hB := hB.trans hst13.fr
  refine GoR.op ((op_pickT rfl rfl rfl) _) rfl rfl ?_
  refine GoR.op ((op_assign rfl) _) rfl rfl ?_
  refine GoR.nil ?_
  refine Go1.ret1 Try.func21 rfl ?_
  exact ⟨r8, rfl, hB.same, H⟩
 ·replace H := ifn h1 H
  refine GoR.op ((fun w => opB (op_leq rfl rfl w) (decide_eq_false h1)) _) rfl rfl ?_
  refine GoR.op ((op_move rfl) _) rfl rfl ?_
  refine GoR.pass rfl rfl ?_
  refine GoR.pass rfl rfl ?_
  refine GoR.pass rfl rfl ?_
  refine GoR.pass rfl rfl ?_
  refine GoR.op ((op_pickF rfl rfl rfl) _) rfl rfl ?_
  refine GoR.op ((op_assign rfl) _) rfl rfl ?_
  refine GoR.nil ?_
  refine Go1.ret1 Try.func21 rfl ?_
  exact ⟨false, rfl, hB.same, H⟩
theorem body58 : Body Try.prog 58 := ⟨Try.f58, Try.func58, rfl, by kernel_rfl⟩
theorem body23 : Body Try.prog 23 := ⟨Try.f23, Try.func23, rfl, by kernel_rfl⟩
theorem walk_ref03_Join {A : List Nat} {w0 : World} {p_p : Option Addr} {c_p : Nat} {p_q : Option Addr} {c_q : Nat} {p : List Int} {q : List Int} (hA : ∀ b ∈ A, b < w0.heap.size) (h_p : ISl (Rp.int .i64) A w0 p_p c_p p) (h_q : ISl (Rp.int .i64) A w0 p_q c_q q) {K : List Int → Prop} (H : ref03_Join p q K) :
    CallsV Try.prog 23 #[.slice p_p p.length c_p, .slice p_q q.length c_q] w0 (fun v w' => ∃ (r0 : List Int), ∃ (p_r0 : Option Addr), ∃ (c_r0 : Nat), v = .slice p_r0 r0.length c_r0 ∧ Same w0 w' ∧ ISl (Rp.int .i64) A w' p_r0 c_r0 r0 ∧ K r0) := by
 refine CallsV.of (l := [.slice p_p p.length c_p, .slice p_q q.length c_q]) Try.func23 rfl Try.ntmps23 rfl ?_
 have hO := Owns.start hA
 have hB := Fr.refl (bl []) w0
 unfold ref03_Join at H
 replace h_p := h_p.ch (Ch.start A w0)
 replace h_q := h_q.ch (Ch.start A w0)
 refine Go1.seq ?_
 refine Go1.region ?_
 refine GoR.op ((op_assign rfl) _) rfl rfl ?_
 refine GoR.nil ?_
 refine Go1.seq ?_
 refine Go1.region ?_
 have hobt := obuild (r := Rp.int .i64) (n := 0) (parts := []) (vs := []) (xs := ([] : List Int)) rfl Try.underlying25 ti3 hO (by decide) (by kernel_rfl) (Els.nil _ _ _) rfl
 obtain ⟨w1, p2, hst3, hE4, hs5, hop6⟩ := hobt
 refine GoR.op (hop6 rfl) rfl rfl ?_
 replace hO := hst3.own
 replace h_p := h_p.ch hst3.ch
 replace h_q := h_q.ch hst3.ch
 replace hB := hB.trans hst3.fr
 refine GoR.op ((op_move rfl) _) rfl rfl ?_
 obtain ⟨h8, H⟩ := H
 have hobt := oapp Try.underlying25 ti3 rfl 0 hO rfl hE4 h_p rfl h8 (by decide)
 obtain ⟨w9, p10, c11, vs12, hst13, hE14, hop15⟩ := hobt
 refine GoR.op (hop15 rfl rfl) rfl rfl ?_
 replace hO := hst13.own
 replace h_p := h_p.ch hst13.ch
 replace h_q := h_q.ch hst13.ch
 replace hB := hB.trans hst13.fr
 refine GoR.op ((op_assign rfl) _) rfl rfl ?_
 refine GoR.nil ?_
 refine Go1.seq ?_
 refine Go1.seq ?_
 refine Go1.region ?_
 refine GoR.op ((op_move rfl) _) rfl rfl ?_
 refine GoR.op ((op_len Try.underlying25 rfl) _) rfl rfl ?_
 replace H := H h_q.bd
 refine GoR.op ((op_move rfl) _) rfl rfl ?_
 refine GoR.nil ?_
 refine Go1.block ?_
 refine Go1.loopW (S := Nat × List Int) (fun s σ w => ∃ (vs20 : List Value), agrees σ [(1, .slice p_q q.length c_q), (5, .slice p10 (0 + p.length) c11), (12, .int .i64 (q.length : Int)), (13, .int .i64 ((s.1) : Int))] ∧ Owns w0.heap.size w [.row 3 1 p10 (0 + p.length) c11 vs20] A ∧ Els (Rp.int .i64) (bl [.row 3 1 p10 (0 + p.length) c11 vs20] ++ A) w vs20 (s.2) ∧ ISl (Rp.int .i64) (bl [.row 3 1 p10 (0 + p.length) c11 vs20] ++ A) w p_q c_q q ∧ Fr (bl []) w0 (bl [.row 3 1 p10 (0 + p.length) c11 vs20]) w) H ⟨vs12, ⟨rfl, rfl, rfl, rfl, trivial⟩, hO, hE14, h_q, hB⟩ ?_
 rintro X1 ⟨k1_18, out1_19⟩ H hX1 σ w17 ⟨vs20, hag, hO, hE21, h_q, hB⟩
 dsimp only at H
 refine Go1.keep [(1, .slice p_q q.length c_q), (5, .slice p10 (0 + p.length) c11), (12, .int .i64 (q.length : Int)), (13, .int .i64 (k1_18 : Int))] hag ?_
 refine Go1.seq ?_
 refine Go1.region ?_
 by_cases h22 : (k1_18 : Int) < (q.length : Int)
 ·replace H := ifp h22 H
  refine GoR.op ((fun w => opB (op_lss rfl rfl w) (decide_eq_true h22)) _) rfl rfl ?_
  refine GoR.nil ?_
  refine Go1.seq ?_
  refine Go1.condT rfl rfl ?_
  refine Go1.skip ?_
  refine Go1.seq ?_
  refine Go1.block ?_
  refine Go1.seq ?_
  refine Go1.region ?_
  refine GoR.op ((op_move rfl) _) rfl rfl ?_
  refine GoR.op ((op_assign rfl) _) rfl rfl ?_
  refine GoR.nil ?_
  refine Go1.seq ?_
  refine Go1.region ?_
  refine GoR.op ((op_assign rfl) _) rfl rfl ?_
  refine GoR.nil ?_
  refine Go1.block ?_
  refine Go1.loopW (S := Nat) (fun s σ w => agrees σ [(1, .slice p_q q.length c_q), (5, .slice p10 (0 + p.length) c11), (6, .int .i64 (k1_18 : Int)), (7, .int .i64 (s : Int)), (12, .int .i64 (q.length : Int)), (13, .int .i64 (k1_18 : Int))] ∧ Owns w0.heap.size w [.row 3 1 p10 (0 + p.length) c11 vs20] A ∧ Els (Rp.int .i64) (bl [.row 3 1 p10 (0 + p.length) c11 vs20] ++ A) w vs20 out1_19 ∧ ISl (Rp.int .i64) (bl [.row 3 1 p10 (0 + p.length) c11 vs20] ++ A) w p_q c_q q ∧ Fr (bl []) w0 (bl [.row 3 1 p10 (0 + p.length) c11 vs20]) w) H ⟨⟨rfl, rfl, rfl, rfl, rfl, rfl, trivial⟩, hO, hE21, h_q, hB⟩ ?_
  rintro X2 j2_24 H hX2 σ w23 ⟨hag, hO, hE21, h_q, hB⟩
  refine Go1.keep [(1, .slice p_q q.length c_q), (5, .slice p10 (0 + p.length) c11), (6, .int .i64 (k1_18 : Int)), (7, .int .i64 (j2_24 : Int)), (12, .int .i64 (q.length : Int)), (13, .int .i64 (k1_18 : Int))] hag ?_
  refine Go1.seq ?_
  refine Go1.seq ?_
  refine Go1.region ?_
  refine GoR.op ((op_move rfl) _) rfl rfl ?_
  refine GoR.op ((op_move rfl) _) rfl rfl ?_
  by_cases h25 : (j2_24 : Int) < (k1_18 : Int)
  ·replace H := ifp h25 H
   refine GoR.op ((fun w => opB (op_lss rfl rfl w) (decide_eq_true h25)) _) rfl rfl ?_
   refine GoR.nil ?_
   refine Go1.condT rfl rfl ?_
   refine Go1.skip ?_
   refine Go1.seq ?_
   refine Go1.block ?_
   refine Go1.seq ?_
   refine Go1.drawS 0 [(0, .pure), (1, .pure), (2, .pure), (3, .stable), (4, .pure), (5, .pure), (6, .pure), (7, .stable), (8, .pure)] mixed (by kernel_rfl) ?_
   intro w26 hs27
   have hst28 := Stp.same hO hs27
   replace hE21 := hE21.ch hst28.ch
   replace hO := hst28.own
   replace h_q := h_q.ch hst28.ch
   replace hB := hB.trans hst28.fr
   refine GoQ.pure rfl (op_move rfl) rfl rfl ?_
   refine GoQ.pure rfl (op_move rfl) rfl rfl ?_
   obtain ⟨h29, H⟩ := H
   obtain ⟨h30, H⟩ := H
   refine GoQ.pure rfl (op_index Try.underlying25 ti3 rfl rfl h29 h30 (h_q.some_ h29 h30)) rfl rfl ?_
   refine GoQ.stable rfl (ldInt h_q h29 h30 Try.underlying3 rfl rfl) rfl rfl ?_
   refine GoQ.pure rfl (op_move rfl) rfl rfl ?_
   refine GoQ.pure rfl (op_move rfl) rfl rfl ?_
   obtain ⟨h31, H⟩ := H
   obtain ⟨h32, H⟩ := H
   refine GoQ.pure rfl (op_index Try.underlying25 ti3 rfl rfl h31 h32 (h_q.some_ h31 h32)) rfl rfl ?_
   refine GoQ.stable rfl (ldInt h_q h31 h32 Try.underlying3 rfl rfl) rfl rfl ?_
   by_cases h33 : (ix q (k1_18 : Int)) = (ix q (j2_24 : Int))
   ·replace H := ifp h33 H
    refine GoQ.pure rfl (fun w => opB (op_eql rfl rfl w) (decide_eq_true h33)) rfl rfl ?_
    refine GoQ.nil ?_
    refine Go1.condT rfl rfl ?_
    refine Go1.seq ?_
    refine Go1.region ?_
    refine GoR.op ((op_move rfl) _) rfl rfl ?_
    refine GoR.op ((op_move rfl) _) rfl rfl ?_
    refine GoR.op ((op_move rfl) _) rfl rfl ?_
    refine GoR.inl (vs := [.slice p10 (0 + p.length) c11, .int .i64 (k1_18 : Int), .int .i64 (j2_24 : Int)]) (caps := []) rfl rfl body58 Try.func58 rfl Try.ntmps58 rfl rfl rfl ?_
    intro RhR34 hR34
    refine Go1.seq ?_
    refine Go1.drawS 0 [(0, .pure), (1, .pure), (2, .pure), (3, .stable), (4, .pure), (5, .pure), (6, .pure), (7, .stable), (8, .pure), (9, .pure)] mixed (by kernel_rfl) ?_
    intro w35 hs36
    have hst37 := Stp.same hO hs36
    replace hE21 := hE21.ch hst37.ch
    replace hO := hst37.own
    replace h_q := h_q.ch hst37.ch
    replace hB := hB.trans hst37.fr
    refine GoQ.pure rfl (op_move rfl) rfl rfl ?_
    refine GoQ.pure rfl (op_move rfl) rfl rfl ?_
    obtain ⟨h38, H⟩ := H
    obtain ⟨h39, H⟩ := H
    refine GoQ.pure rfl (op_index Try.underlying25 ti3 rfl rfl h38 (ltn (hE21.neq hO 0 rfl) h39) (hE21.psome hO 0 rfl h38 h39)) rfl rfl ?_
    refine GoQ.stable rfl (oldInt 0 hO rfl hE21 h38 h39 Try.underlying3 rfl rfl) rfl rfl ?_
    refine GoQ.pure rfl (op_move rfl) rfl rfl ?_
    refine GoQ.pure rfl (op_move rfl) rfl rfl ?_
    obtain ⟨h40, H⟩ := H
    obtain ⟨h41, H⟩ := H
    refine GoQ.pure rfl (op_index Try.underlying25 ti3 rfl rfl h40 (ltn (hE21.neq hO 0 rfl) h41) (hE21.psome hO 0 rfl h40 h41)) rfl rfl ?_
    refine GoQ.stable rfl (oldInt 0 hO rfl hE21 h40 h41 Try.underlying3 rfl rfl) rfl rfl ?_
    refine GoQ.pure rfl (op_assign rfl) rfl rfl ?_
    refine GoQ.pure rfl (op_assign rfl) rfl rfl ?_
    refine GoQ.nil ?_
    refine Go1.seq ?_
    refine Go1.region ?_
    refine GoR.op ((op_move rfl) _) rfl rfl ?_
    refine GoR.op ((op_lenN Try.underlying25 rfl (hE21.neq hO 0 rfl)) _) rfl rfl ?_
    refine GoR.op ((op_move rfl) _) rfl rfl ?_
    refine GoR.nil ?_
    refine Go1.block ?_
    refine Go1.loopW (S := Nat × List Int) (fun s σ w => ∃ (vs45 : List Value), agrees σ [(0, .slice p10 (0 + p.length) c11), (6, .int .i64 (ix out1_19 (k1_18 : Int))), (7, .int .i64 (ix out1_19 (j2_24 : Int))), (18, .int .i64 (out1_19.length : Int)), (19, .int .i64 ((s.1) : Int))] ∧ Owns w0.heap.size w [.row 3 1 p10 (0 + p.length) c11 vs45] A ∧ Els (Rp.int .i64) (bl [.row 3 1 p10 (0 + p.length) c11 vs45] ++ A) w vs45 (s.2) ∧ ISl (Rp.int .i64) (bl [.row 3 1 p10 (0 + p.length) c11 vs45] ++ A) w p_q c_q q ∧ Fr (bl []) w0 (bl [.row 3 1 p10 (0 + p.length) c11 vs45]) w) H ⟨vs20, ⟨rfl, rfl, rfl, rfl, rfl, trivial⟩, hO, hE21, h_q, hB⟩ ?_
    rintro X3 ⟨k3_43, p3_44⟩ H hX3 σ w42 ⟨vs45, hag, hO, hE46, h_q, hB⟩
    dsimp only at H
    refine Go1.keep [(0, .slice p10 (0 + p.length) c11), (6, .int .i64 (ix out1_19 (k1_18 : Int))), (7, .int .i64 (ix out1_19 (j2_24 : Int))), (18, .int .i64 (out1_19.length : Int)), (19, .int .i64 (k3_43 : Int))] hag ?_
    refine Go1.seq ?_
    refine Go1.region ?_
    by_cases h47 : (k3_43 : Int) < (out1_19.length : Int)
    ·replace H := ifp h47 H
     refine GoR.op ((fun w => opB (op_lss rfl rfl w) (decide_eq_true h47)) _) rfl rfl ?_
     refine GoR.nil ?_
     refine Go1.seq ?_
     refine Go1.condT rfl rfl ?_
     refine Go1.skip ?_
     refine Go1.seq ?_
     refine Go1.block ?_
     refine Go1.seq ?_
     refine Go1.region ?_
     refine GoR.op ((op_move rfl) _) rfl rfl ?_
     refine GoR.op ((op_assign rfl) _) rfl rfl ?_
     refine GoR.nil ?_
     refine Go1.seq ?_
     refine Go1.region ?_
     refine GoR.op ((op_move rfl) _) rfl rfl ?_
     refine GoR.op ((op_move rfl) _) rfl rfl ?_
     obtain ⟨h48, H⟩ := H
     obtain ⟨h49, H⟩ := H
     refine GoR.op ((op_index Try.underlying25 ti3 rfl rfl h48 (ltn (hE46.neq hO 0 rfl) h49) (hE46.psome hO 0 rfl h48 h49)) _) rfl rfl ?_
     refine GoR.op ((oldInt 0 hO rfl hE46 h48 h49 Try.underlying3 rfl rfl) _ (Same.refl _)) rfl rfl ?_
     refine GoR.op ((op_move rfl) _) rfl rfl ?_
     by_cases h50 : (ix p3_44 (k3_43 : Int)) = (ix out1_19 (j2_24 : Int))
     ·replace H := ifp h50 H
      refine GoR.op ((fun w => opB (op_eql rfl rfl w) (decide_eq_true h50)) _) rfl rfl ?_
      refine GoR.nil ?_
      refine Go1.condT rfl rfl ?_
      refine Go1.region ?_
      refine GoR.op ((op_move rfl) _) rfl rfl ?_
      refine GoR.op ((op_move rfl) _) rfl rfl ?_
      refine GoR.op ((op_move rfl) _) rfl rfl ?_
      obtain ⟨h51, H⟩ := H
      obtain ⟨h52, H⟩ := H
      refine GoR.op ((op_index Try.underlying25 ti3 rfl rfl h51 (ltn (hE46.neq hO 0 rfl) h52) (hE46.psome hO 0 rfl h51 h52)) _) rfl rfl ?_
      have hobt := ost (r := Rp.int .i64) rfl 0 hO rfl hE46 h51 h52 (v := .int .i64 (ix out1_19 (k1_18 : Int))) (u := (ix out1_19 (k1_18 : Int))) rfl rfl
      obtain ⟨w53, vs54, hst55, hE56, hop57⟩ := hobt
      refine GoR.op (hop57 Try.underlying3 rfl ti3 rfl rfl) rfl rfl ?_
      replace hO := hst55.own
      replace h_q := h_q.ch hst55.ch
      replace hB := hB.trans hst55.fr
      refine GoR.nil ?_
      refine Go1.inBlock ?_
      refine Go1.region ?_
      obtain ⟨h58, H⟩ := H
      refine GoR.op ((op_add rfl rfl (wrap_i64 h58)) _) rfl rfl ?_
      refine GoR.op ((op_move rfl) _) rfl rfl ?_
      refine GoR.nil ?_
      exact hX3 _ H _ _ ⟨vs54, ⟨rfl, rfl, rfl, rfl, rfl, trivial⟩, hO, hE56, h_q, hB⟩
     ·replace H := ifn h50 H
      refine GoR.op ((fun w => opB (op_eql rfl rfl w) (decide_eq_false h50)) _) rfl rfl ?_
      refine GoR.nil ?_
      refine Go1.condF rfl rfl ?_
      refine Go1.skip ?_
      refine Go1.inBlock ?_
      refine Go1.region ?_
      obtain ⟨h59, H⟩ := H
      refine GoR.op ((op_add rfl rfl (wrap_i64 h59)) _) rfl rfl ?_
      refine GoR.op ((op_move rfl) _) rfl rfl ?_
      refine GoR.nil ?_
      exact hX3 _ H _ _ ⟨vs45, ⟨rfl, rfl, rfl, rfl, rfl, trivial⟩, hO, hE46, h_q, hB⟩
    ·replace H := ifn h47 H
     refine GoR.op ((fun w => opB (op_lss rfl rfl w) (decide_eq_false h47)) _) rfl rfl ?_
     refine GoR.nil ?_
     refine Go1.seq ?_
     refine Go1.condF rfl rfl ?_
     refine Go1.exit rfl ?_
     refine Go1.fin0V Try.func58 rfl ?_
     refine hR34 _ _ ?_
     refine GoR.nil ?_
     refine Go1.exit rfl ?_
     refine Go1.inBlock ?_
     refine Go1.region ?_
     refine GoR.op ((op_add rfl rfl (wrap_i64 (natbd h22 h_q.bd))) _) rfl rfl ?_
     refine GoR.op ((op_move rfl) _) rfl rfl ?_
     refine GoR.nil ?_
     exact hX1 _ H _ _ ⟨vs45, ⟨rfl, rfl, rfl, rfl, trivial⟩, hO, hE46, h_q, hB⟩
   ·replace H := ifn h33 H
    refine GoQ.pure rfl (fun w => opB (op_eql rfl rfl w) (decide_eq_false h33)) rfl rfl ?_
    refine GoQ.nil ?_
    refine Go1.condF rfl rfl ?_
    refine Go1.skip ?_
    refine Go1.inBlock ?_
    refine Go1.region ?_
    refine GoR.op ((op_move rfl) _) rfl rfl ?_
    obtain ⟨h60, H⟩ := H
    refine GoR.op ((op_add rfl rfl (wrap_i64 h60)) _) rfl rfl ?_
    refine GoR.op ((op_assign rfl) _) rfl rfl ?_
    refine GoR.nil ?_
    exact hX2 _ H _ _ ⟨⟨rfl, rfl, rfl, rfl, rfl, rfl, trivial⟩, hO, hE21, h_q, hB⟩
  ·replace H := ifn h25 H
   refine GoR.op ((fun w => opB (op_lss rfl rfl w) (decide_eq_false h25)) _) rfl rfl ?_
   refine GoR.nil ?_
   refine Go1.condF rfl rfl ?_
   refine Go1.exit rfl ?_
   refine Go1.inBlock ?_
   refine Go1.region ?_
   refine GoR.op ((op_add rfl rfl (wrap_i64 (natbd h22 h_q.bd))) _) rfl rfl ?_
   refine GoR.op ((op_move rfl) _) rfl rfl ?_
   refine GoR.nil ?_
   exact hX1 _ H _ _ ⟨vs20, ⟨rfl, rfl, rfl, rfl, trivial⟩, hO, hE21, h_q, hB⟩
 ·replace H := ifn h22 H
  refine GoR.op ((fun w => opB (op_lss rfl rfl w) (decide_eq_false h22)) _) rfl rfl ?_
  refine GoR.nil ?_
  refine Go1.seq ?_
  refine Go1.condF rfl rfl ?_
  refine Go1.exit rfl ?_
  refine Go1.seq ?_
  refine Go1.region ?_
  refine GoR.op ((op_move rfl) _) rfl rfl ?_
  have hobt := freeze 0 hO rfl hE21
  obtain ⟨hO1, hc63, hi61, hn62⟩ := hobt
  replace h_q := h_q.ch hc63
  replace hB := hB.trans (Owns.dropFr _ _ 0)
  replace hO := hO1; clear hO1
  refine GoR.call (op_call body57 (show ([.slice p10 (0 + p.length) c11] : List Value) = [.slice p10 out1_19.length c11] from by rw [← hn62]) (walk_ref03_Canonical hO.lt hi61 H)) rfl rfl ?_
  rintro v68 w65 ⟨r64, p_r64, c_r64, rfl, hs66, h_r64, H⟩
  have hst69 := Stp.same hO hs66
  replace hO := hst69.own
  replace h_q := h_q.ch hst69.ch
  replace hi61 := hi61.ch hst69.ch
  replace hB := hB.trans hst69.fr
  refine GoR.op ((op_assign rfl) _) rfl rfl ?_
  refine GoR.nil ?_
  refine Go1.ret1 Try.func23 rfl ?_
  exact ⟨r64, p_r64, c_r64, rfl, hB.same, (h_r64.ch (Ch.weak _ _ _)), H⟩
theorem body4 : Body Try.prog 4 := ⟨Try.f4, Try.func4, rfl, by kernel_rfl⟩
theorem walk_law15_GreenStable {A : List Nat} {w0 : World} {p_a0 : Option Addr} {c_a0 : Nat} {a0 : List (List Int)} {a1 : Int} {a2 : Int} (hA : ∀ b ∈ A, b < w0.heap.size) (h_a0 : ISl (Rp.sl (Rp.int .i64)) A w0 p_a0 c_a0 a0) {K : Bool → Prop} (H : law15_GreenStable a0 a1 a2 K) :
    CallsV Try.prog 4 #[.slice p_a0 a0.length c_a0, .int .i64 a1, .int .i64 a2] w0 (fun v w' => ∃ (r0 : Bool), v = .bool r0 ∧ Same w0 w' ∧ K r0) := by
 refine CallsV.of (l := [.slice p_a0 a0.length c_a0, .int .i64 a1, .int .i64 a2]) Try.func4 rfl Try.ntmps4 rfl ?_
 have hO := Owns.start hA
 have hB := Fr.refl (bl []) w0
 unfold law15_GreenStable at H
 replace h_a0 := h_a0.ch (Ch.start A w0)
 refine Go1.seq ?_
 refine Go1.region ?_
 refine GoR.op ((op_assign rfl) _) rfl rfl ?_
 refine GoR.nil ?_
 refine Go1.seq ?_
 refine Go1.seq ?_
 refine Go1.region ?_
 refine GoR.op ((op_move rfl) _) rfl rfl ?_
 refine GoR.call (op_call body19 rfl (walk_law15_small hO.lt h_a0 H)) rfl rfl ?_
 rintro v5 w2 ⟨r1, rfl, hs3, H⟩
 have hst6 := Stp.same hO hs3
 replace hO := hst6.own
 replace h_a0 := h_a0.ch hst6.ch
 replace hB := hB.trans hst6.fr
 cases r1
 ·replace H := ifn Bool.false_ne_true H
  refine GoR.op ((op_not rfl) _) rfl rfl ?_
  refine GoR.op ((op_move rfl) _) rfl rfl ?_
  refine GoR.pass rfl rfl ?_
  refine GoR.pass rfl rfl ?_
  refine GoR.pass rfl rfl ?_
  refine GoR.pass rfl rfl ?_
  refine GoR.pass rfl rfl ?_
  refine GoR.pass rfl rfl ?_
  refine GoR.op ((op_pickT rfl rfl rfl) _) rfl rfl ?_
  refine GoR.nil ?_
  refine Go1.condT rfl rfl ?_
  refine Go1.seq ?_
  refine Go1.region ?_
  refine GoR.call (op_call body14 rfl (walk_law15_awake hO.lt H)) rfl rfl ?_
  rintro v11 w8 ⟨r7, rfl, hs9, H⟩
  have hst12 := Stp.same hO hs9
  replace hO := hst12.own
  replace h_a0 := h_a0.ch hst12.ch
  replace hB := hB.trans hst12.fr
  refine GoR.op ((op_assign rfl) _) rfl rfl ?_
  refine GoR.nil ?_
  refine Go1.ret1 Try.func4 rfl ?_
  exact ⟨r7, rfl, hB.same, H⟩
 ·replace H := ifp rfl H
  refine GoR.op ((op_not rfl) _) rfl rfl ?_
  refine GoR.op ((op_move rfl) _) rfl rfl ?_
  refine GoR.op ((op_move rfl) _) rfl rfl ?_
  refine GoR.op ((op_move rfl) _) rfl rfl ?_
  refine GoR.op ((op_move rfl) _) rfl rfl ?_
  have hobt := obuild (r := Rp.int .i64) (n := 2) (parts := [(0, .int .i64 a1), (1, .int .i64 a2)]) (vs := [.int .i64 a1, .int .i64 a2]) (xs := [a1, a2]) rfl Try.underlying25 ti3 hO (by decide) (by kernel_rfl) (Els.cons rfl rfl (Els.cons rfl rfl (Els.nil _ _ _) (by simp [mx])) (by simp [mx])) rfl
  obtain ⟨w13, p14, hst15, hE16, hs17, hop18⟩ := hobt
  refine GoR.op (hop18 rfl) rfl rfl ?_
  replace hO := hst15.own
  replace h_a0 := h_a0.ch hst15.ch
  replace hB := hB.trans hst15.fr
  have hobt := rowlend 0 hO rfl hE16
  obtain ⟨hl20, hn21⟩ := hobt
  have hOc22 := hO.drop 0
  refine GoR.call (op_call body20 (show ([.slice p_a0 a0.length c_a0, .slice p14 2 2] : List Value) = [.slice p_a0 a0.length c_a0, .slice p14 ([a1, a2]).length 2] from by rw [← hn21]) (walk_ref14_In hOc22.lt (h_a0.ch (Owns.dropCh _ _ 0)) hl20 H)) rfl rfl ?_
  rintro v27 w24 ⟨r23, rfl, hs25, H⟩
  have hst28 := Stp.same hO hs25
  replace hE16 := hE16.ch hst28.ch
  replace hO := hst28.own
  replace h_a0 := h_a0.ch hst28.ch
  replace hB := hB.trans hst28.fr
  cases r23
  ·replace H := ifn Bool.false_ne_true H
   refine GoR.op ((op_not rfl) _) rfl rfl ?_
   refine GoR.op ((op_pickF rfl rfl rfl) _) rfl rfl ?_
   refine GoR.nil ?_
   refine Go1.condT rfl rfl ?_
   refine Go1.seq ?_
   refine Go1.region ?_
   refine GoR.call (op_call body14 rfl (walk_law15_awake hO.lt H)) rfl rfl ?_
   rintro v33 w30 ⟨r29, rfl, hs31, H⟩
   have hst34 := Stp.same hO hs31
   replace hE16 := hE16.ch hst34.ch
   replace hO := hst34.own
   replace h_a0 := h_a0.ch hst34.ch
   replace hB := hB.trans hst34.fr
   refine GoR.op ((op_assign rfl) _) rfl rfl ?_
   refine GoR.nil ?_
   refine Go1.ret1 Try.func4 rfl ?_
   exact ⟨r29, rfl, hB.same, H⟩
  ·replace H := ifp rfl H
   refine GoR.op ((op_not rfl) _) rfl rfl ?_
   refine GoR.op ((op_pickF rfl rfl rfl) _) rfl rfl ?_
   refine GoR.nil ?_
   refine Go1.condF rfl rfl ?_
   refine Go1.skip ?_
   refine Go1.seq ?_
   refine Go1.region ?_
   refine GoR.op ((op_move rfl) _) rfl rfl ?_
   refine GoR.call (op_call body15 rfl (walk_green_Classes hO.lt h_a0 H)) rfl rfl ?_
   rintro v39 w36 ⟨r35, p_r35_R, c_r35_R, p_r35_L, c_r35_L, p_r35_J, c_r35_J, p_r35_H, c_r35_H, p_r35_Below, c_r35_Below, rfl, hs37, h_r35_R, h_r35_L, h_r35_J, h_r35_H, h_r35_Below, H⟩
   have hst40 := Stp.same hO hs37
   replace hE16 := hE16.ch hst40.ch
   replace hO := hst40.own
   replace h_a0 := h_a0.ch hst40.ch
   replace hB := hB.trans hst40.fr
   have hobt := oalloc (t := 28) (cs := #[.slice none 0 0, .slice none 0 0, .slice none 0 0, .slice none 0 0, .slice none 0 0]) ti28 hO rfl
   obtain ⟨w41, B42, hst43, hs44, hop45⟩ := hobt
   refine GoR.op hop45 rfl rfl ?_
   replace hE16 := hE16.ch hst43.ch
   replace hO := hst43.own
   replace h_a0 := h_a0.ch hst43.ch
   replace h_r35_R := h_r35_R.ch hst43.ch
   replace h_r35_L := h_r35_L.ch hst43.ch
   replace h_r35_J := h_r35_J.ch hst43.ch
   replace h_r35_H := h_r35_H.ch hst43.ch
   replace h_r35_Below := h_r35_Below.ch hst43.ch
   replace hB := hB.trans hst43.fr
   have hobt := oblkStAgg (us := [.slice p_r35_R r35.R.length c_r35_R, .slice p_r35_L r35.L.length c_r35_L, .slice p_r35_J r35.J.length c_r35_J, .slice p_r35_H r35.H.length c_r35_H, .slice p_r35_Below r35.Below.length c_r35_Below]) (o := 0) (cs' := #[.slice p_r35_R r35.R.length c_r35_R, .slice p_r35_L r35.L.length c_r35_L, .slice p_r35_J r35.J.length c_r35_J, .slice p_r35_H r35.H.length c_r35_H, .slice p_r35_Below r35.Below.length c_r35_Below]) 0 hO rfl rfl (Nat.le_of_ble_eq_true rfl) rfl
   obtain ⟨w47, hst48, hop49⟩ := hobt
   refine GoR.op (hop49 ti28 rfl rfl rfl) rfl rfl ?_
   replace hE16 := hE16.ch hst48.ch
   replace hO := hst48.own
   replace h_a0 := h_a0.ch hst48.ch
   replace h_r35_R := h_r35_R.ch hst48.ch
   replace h_r35_L := h_r35_L.ch hst48.ch
   replace h_r35_J := h_r35_J.ch hst48.ch
   replace h_r35_H := h_r35_H.ch hst48.ch
   replace h_r35_Below := h_r35_Below.ch hst48.ch
   replace hB := hB.trans hst48.fr
   refine GoR.nil ?_
   refine Go1.seq ?_
   refine Go1.seq ?_
   refine Go1.drawS 0 [(0, .pure), (1, .stable), (2, .loud), (3, .pure), (4, .pure), (5, .pure), (6, .stable), (7, .loud), (8, .pure), (9, .pure), (10, .pure), (11, .pure), (12, .stable), (13, .pure), (14, .pure), (15, .pure), (16, .pure), (17, .pure), (18, .pure), (19, .pure), (20, .stable), (21, .pure), (22, .pure), (23, .pure), (24, .pure), (25, .pure), (26, .pure), (27, .pure), (28, .stable), (29, .pure), (30, .pure), (31, .pure), (32, .pure), (33, .pure), (34, .pure), (35, .pure), (36, .stable), (37, .pure), (38, .stable), (39, .pure), (40, .stable), (41, .loud), (42, .loud), (43, .pure), (44, .pure)] mixed (by kernel_rfl) ?_
   intro w50 hs51
   have hst52 := Stp.same hO hs51
   replace hE16 := hE16.ch hst52.ch
   replace hO := hst52.own
   replace h_a0 := h_a0.ch hst52.ch
   replace h_r35_R := h_r35_R.ch hst52.ch
   replace h_r35_L := h_r35_L.ch hst52.ch
   replace h_r35_J := h_r35_J.ch hst52.ch
   replace h_r35_H := h_r35_H.ch hst52.ch
   replace h_r35_Below := h_r35_Below.ch hst52.ch
   replace hB := hB.trans hst52.fr
   refine GoQ.pure rfl (op_fieldAddr Try.underlying28 rfl ti25 rfl (by decide)) rfl rfl ?_
   refine GoQ.stable rfl (oblk 0 hO rfl rfl Try.underlying25 rfl rfl) rfl rfl ?_
   refine GoQ.call rfl (op_call body21 rfl (walk_ref03_Valid hO.lt h_r35_R H)) (fun v w hr => by obtain ⟨_, _, hs, _⟩ := hr; assumption) rfl rfl ?_
   rintro v57 w54 ⟨r53, rfl, hs55, H⟩
   have hst58 := Stp.same hO hs55
   replace hE16 := hE16.ch hst58.ch
   replace hO := hst58.own
   replace h_a0 := h_a0.ch hst58.ch
   replace h_r35_R := h_r35_R.ch hst58.ch
   replace h_r35_L := h_r35_L.ch hst58.ch
   replace h_r35_J := h_r35_J.ch hst58.ch
   replace h_r35_H := h_r35_H.ch hst58.ch
   replace h_r35_Below := h_r35_Below.ch hst58.ch
   replace hB := hB.trans hst58.fr
   cases r53
   ·replace H := ifn Bool.false_ne_true H
    refine GoQ.pure rfl (op_not rfl) rfl rfl ?_
    refine GoQ.pure rfl (op_move rfl) rfl rfl ?_
    refine GoQ.pass rfl rfl rfl ?_
    refine GoQ.pass rfl rfl rfl ?_
    refine GoQ.pass rfl rfl rfl ?_
    refine GoQ.pass rfl rfl rfl ?_
    refine GoQ.pure rfl (op_pickT rfl rfl rfl) rfl rfl ?_
    refine GoQ.pure rfl (op_move rfl) rfl rfl ?_
    refine GoQ.pass rfl rfl rfl ?_
    refine GoQ.pass rfl rfl rfl ?_
    refine GoQ.pass rfl rfl rfl ?_
    refine GoQ.pass rfl rfl rfl ?_
    refine GoQ.pass rfl rfl rfl ?_
    refine GoQ.pass rfl rfl rfl ?_
    refine GoQ.pure rfl (op_pickT rfl rfl rfl) rfl rfl ?_
    refine GoQ.pure rfl (op_move rfl) rfl rfl ?_
    refine GoQ.pass rfl rfl rfl ?_
    refine GoQ.pass rfl rfl rfl ?_
    refine GoQ.pass rfl rfl rfl ?_
    refine GoQ.pass rfl rfl rfl ?_
    refine GoQ.pass rfl rfl rfl ?_
    refine GoQ.pass rfl rfl rfl ?_
    refine GoQ.pure rfl (op_pickT rfl rfl rfl) rfl rfl ?_
    refine GoQ.pure rfl (op_move rfl) rfl rfl ?_
    refine GoQ.pass rfl rfl rfl ?_
    refine GoQ.pass rfl rfl rfl ?_
    refine GoQ.pass rfl rfl rfl ?_
    refine GoQ.pass rfl rfl rfl ?_
    refine GoQ.pass rfl rfl rfl ?_
    refine GoQ.pass rfl rfl rfl ?_
    refine GoQ.pure rfl (op_pickT rfl rfl rfl) rfl rfl ?_
    refine GoQ.pure rfl (op_move rfl) rfl rfl ?_
    refine GoQ.pass rfl rfl rfl ?_
    refine GoQ.pass rfl rfl rfl ?_
    refine GoQ.pass rfl rfl rfl ?_
    refine GoQ.pass rfl rfl rfl ?_
    refine GoQ.pass rfl rfl rfl ?_
    refine GoQ.pass rfl rfl rfl ?_
    refine GoQ.pass rfl rfl rfl ?_
    refine GoQ.pass rfl rfl rfl ?_
    refine GoQ.pass rfl rfl rfl ?_
    refine GoQ.pure rfl (op_pickT rfl rfl rfl) rfl rfl ?_
    refine GoQ.nil ?_
    refine Go1.condT rfl rfl ?_
    refine Go1.seq ?_
    refine Go1.region ?_
    refine GoR.op ((op_assign rfl) _) rfl rfl ?_
    refine GoR.nil ?_
    refine Go1.ret1 Try.func4 rfl ?_
    exact ⟨false, rfl, hB.same, H⟩
   ·replace H := ifp rfl H
    refine GoQ.pure rfl (op_not rfl) rfl rfl ?_
    refine GoQ.pure rfl (op_move rfl) rfl rfl ?_
    refine GoQ.pure rfl (op_fieldAddr Try.underlying28 rfl ti25 rfl (by decide)) rfl rfl ?_
    refine GoQ.stable rfl (oblk 0 hO rfl rfl Try.underlying25 rfl rfl) rfl rfl ?_
    refine GoQ.call rfl (op_call body21 rfl (walk_ref03_Valid hO.lt h_r35_L H)) (fun v w hr => by obtain ⟨_, _, hs, _⟩ := hr; assumption) rfl rfl ?_
    rintro v63 w60 ⟨r59, rfl, hs61, H⟩
    have hst64 := Stp.same hO hs61
    replace hE16 := hE16.ch hst64.ch
    replace hO := hst64.own
    replace h_a0 := h_a0.ch hst64.ch
    replace h_r35_R := h_r35_R.ch hst64.ch
    replace h_r35_L := h_r35_L.ch hst64.ch
    replace h_r35_J := h_r35_J.ch hst64.ch
    replace h_r35_H := h_r35_H.ch hst64.ch
    replace h_r35_Below := h_r35_Below.ch hst64.ch
    replace hB := hB.trans hst64.fr
    cases r59
    ·replace H := ifn Bool.false_ne_true H
     refine GoQ.pure rfl (op_not rfl) rfl rfl ?_
     refine GoQ.pure rfl (op_pickF rfl rfl rfl) rfl rfl ?_
     refine GoQ.pure rfl (op_move rfl) rfl rfl ?_
     refine GoQ.pass rfl rfl rfl ?_
     refine GoQ.pass rfl rfl rfl ?_
     refine GoQ.pass rfl rfl rfl ?_
     refine GoQ.pass rfl rfl rfl ?_
     refine GoQ.pass rfl rfl rfl ?_
     refine GoQ.pass rfl rfl rfl ?_
     refine GoQ.pure rfl (op_pickT rfl rfl rfl) rfl rfl ?_
     refine GoQ.pure rfl (op_move rfl) rfl rfl ?_
     refine GoQ.pass rfl rfl rfl ?_
     refine GoQ.pass rfl rfl rfl ?_
     refine GoQ.pass rfl rfl rfl ?_
     refine GoQ.pass rfl rfl rfl ?_
     refine GoQ.pass rfl rfl rfl ?_
     refine GoQ.pass rfl rfl rfl ?_
     refine GoQ.pure rfl (op_pickT rfl rfl rfl) rfl rfl ?_
     refine GoQ.pure rfl (op_move rfl) rfl rfl ?_
     refine GoQ.pass rfl rfl rfl ?_
     refine GoQ.pass rfl rfl rfl ?_
     refine GoQ.pass rfl rfl rfl ?_
     refine GoQ.pass rfl rfl rfl ?_
     refine GoQ.pass rfl rfl rfl ?_
     refine GoQ.pass rfl rfl rfl ?_
     refine GoQ.pure rfl (op_pickT rfl rfl rfl) rfl rfl ?_
     refine GoQ.pure rfl (op_move rfl) rfl rfl ?_
     refine GoQ.pass rfl rfl rfl ?_
     refine GoQ.pass rfl rfl rfl ?_
     refine GoQ.pass rfl rfl rfl ?_
     refine GoQ.pass rfl rfl rfl ?_
     refine GoQ.pass rfl rfl rfl ?_
     refine GoQ.pass rfl rfl rfl ?_
     refine GoQ.pass rfl rfl rfl ?_
     refine GoQ.pass rfl rfl rfl ?_
     refine GoQ.pass rfl rfl rfl ?_
     refine GoQ.pure rfl (op_pickT rfl rfl rfl) rfl rfl ?_
     refine GoQ.nil ?_
     refine Go1.condT rfl rfl ?_
     refine Go1.seq ?_
     refine Go1.region ?_
     refine GoR.op ((op_assign rfl) _) rfl rfl ?_
     refine GoR.nil ?_
     refine Go1.ret1 Try.func4 rfl ?_
     exact ⟨false, rfl, hB.same, H⟩
    ·replace H := ifp rfl H
     refine GoQ.pure rfl (op_not rfl) rfl rfl ?_
     refine GoQ.pure rfl (op_pickF rfl rfl rfl) rfl rfl ?_
     refine GoQ.pure rfl (op_move rfl) rfl rfl ?_
     refine GoQ.pure rfl (op_fieldAddr Try.underlying28 rfl ti25 rfl (by decide)) rfl rfl ?_
     refine GoQ.stable rfl (oblk 0 hO rfl rfl Try.underlying25 rfl rfl) rfl rfl ?_
     refine GoQ.pure rfl (op_len Try.underlying25 rfl) rfl rfl ?_
     replace H := H h_r35_R.bd
     refine GoQ.pure rfl (op_move rfl) rfl rfl ?_
     refine GoQ.pure rfl (op_len Try.underlying22 rfl) rfl rfl ?_
     replace H := H h_a0.bd
     by_cases h65 : (r35.R.length : Int) = (a0.length : Int)
     ·replace H := ifp h65 H
      refine GoQ.pure rfl (fun w => opB (op_neq rfl rfl w) (ndT h65)) rfl rfl ?_
      refine GoQ.pure rfl (op_pickF rfl rfl rfl) rfl rfl ?_
      refine GoQ.pure rfl (op_move rfl) rfl rfl ?_
      refine GoQ.pure rfl (op_fieldAddr Try.underlying28 rfl ti25 rfl (by decide)) rfl rfl ?_
      refine GoQ.stable rfl (oblk 0 hO rfl rfl Try.underlying25 rfl rfl) rfl rfl ?_
      refine GoQ.pure rfl (op_len Try.underlying25 rfl) rfl rfl ?_
      replace H := H h_r35_L.bd
      refine GoQ.pure rfl (op_move rfl) rfl rfl ?_
      refine GoQ.pure rfl (op_len Try.underlying22 rfl) rfl rfl ?_
      by_cases h66 : (r35.L.length : Int) = (a0.length : Int)
      ·replace H := ifp h66 H
       refine GoQ.pure rfl (fun w => opB (op_neq rfl rfl w) (ndT h66)) rfl rfl ?_
       refine GoQ.pure rfl (op_pickF rfl rfl rfl) rfl rfl ?_
       refine GoQ.pure rfl (op_move rfl) rfl rfl ?_
       refine GoQ.pure rfl (op_fieldAddr Try.underlying28 rfl ti25 rfl (by decide)) rfl rfl ?_
       refine GoQ.stable rfl (oblk 0 hO rfl rfl Try.underlying25 rfl rfl) rfl rfl ?_
       refine GoQ.pure rfl (op_len Try.underlying25 rfl) rfl rfl ?_
       replace H := H h_r35_J.bd
       refine GoQ.pure rfl (op_move rfl) rfl rfl ?_
       refine GoQ.pure rfl (op_len Try.underlying22 rfl) rfl rfl ?_
       by_cases h67 : (r35.J.length : Int) = (a0.length : Int)
       ·replace H := ifp h67 H
        refine GoQ.pure rfl (fun w => opB (op_neq rfl rfl w) (ndT h67)) rfl rfl ?_
        refine GoQ.pure rfl (op_pickF rfl rfl rfl) rfl rfl ?_
        refine GoQ.pure rfl (op_move rfl) rfl rfl ?_
        refine GoQ.pure rfl (op_fieldAddr Try.underlying28 rfl ti25 rfl (by decide)) rfl rfl ?_
        refine GoQ.stable rfl (oblk 0 hO rfl rfl Try.underlying25 rfl rfl) rfl rfl ?_
        refine GoQ.pure rfl (op_fieldAddr Try.underlying28 rfl ti25 rfl (by decide)) rfl rfl ?_
        refine GoQ.stable rfl (oblk 0 hO rfl rfl Try.underlying25 rfl rfl) rfl rfl ?_
        refine GoQ.pure rfl (op_fieldAddr Try.underlying28 rfl ti25 rfl (by decide)) rfl rfl ?_
        refine GoQ.stable rfl (oblk 0 hO rfl rfl Try.underlying25 rfl rfl) rfl rfl ?_
        refine GoQ.call rfl (op_call body23 rfl (walk_ref03_Join hO.lt h_r35_R h_r35_L H)) (fun v w hr => by obtain ⟨_, _, _, _, hs, _, _⟩ := hr; assumption) rfl rfl ?_
        rintro v72 w69 ⟨r68, p_r68, c_r68, rfl, hs70, h_r68, H⟩
        have hst73 := Stp.same hO hs70
        replace hE16 := hE16.ch hst73.ch
        replace hO := hst73.own
        replace h_a0 := h_a0.ch hst73.ch
        replace h_r35_R := h_r35_R.ch hst73.ch
        replace h_r35_L := h_r35_L.ch hst73.ch
        replace h_r35_J := h_r35_J.ch hst73.ch
        replace h_r35_H := h_r35_H.ch hst73.ch
        replace h_r35_Below := h_r35_Below.ch hst73.ch
        replace hB := hB.trans hst73.fr
        refine GoQ.call rfl (op_call body22 rfl (walk_ref03_Same hO.lt h_r35_J h_r68 H)) (fun v w hr => by obtain ⟨_, _, hs, _⟩ := hr; assumption) rfl rfl ?_
        rintro v78 w75 ⟨r74, rfl, hs76, H⟩
        have hst79 := Stp.same hO hs76
        replace hE16 := hE16.ch hst79.ch
        replace hO := hst79.own
        replace h_a0 := h_a0.ch hst79.ch
        replace h_r35_R := h_r35_R.ch hst79.ch
        replace h_r35_L := h_r35_L.ch hst79.ch
        replace h_r35_J := h_r35_J.ch hst79.ch
        replace h_r35_H := h_r35_H.ch hst79.ch
        replace h_r35_Below := h_r35_Below.ch hst79.ch
        replace h_r68 := h_r68.ch hst79.ch
        replace hB := hB.trans hst79.fr
        cases r74
        ·replace H := ifn Bool.false_ne_true H
         refine GoQ.pure rfl (op_not rfl) rfl rfl ?_
         refine GoQ.pure rfl (op_pickF rfl rfl rfl) rfl rfl ?_
         refine GoQ.nil ?_
         refine Go1.condT rfl rfl ?_
         refine Go1.seq ?_
         refine Go1.region ?_
         refine GoR.op ((op_assign rfl) _) rfl rfl ?_
         refine GoR.nil ?_
         refine Go1.ret1 Try.func4 rfl ?_
         exact ⟨false, rfl, hB.same, H⟩
        ·replace H := ifp rfl H
         refine GoQ.pure rfl (op_not rfl) rfl rfl ?_
         refine GoQ.pure rfl (op_pickF rfl rfl rfl) rfl rfl ?_
         refine GoQ.nil ?_
         refine Go1.condF rfl rfl ?_
         refine Go1.skip ?_
         refine Go1.seq ?_
         refine Go1.region ?_
         refine GoR.op ((op_move rfl) _) rfl rfl ?_
         refine GoR.op ((op_move rfl) _) rfl rfl ?_
         obtain ⟨h80, H⟩ := H
         obtain ⟨h81, H⟩ := H
         refine GoR.op ((op_index Try.underlying22 ti25 rfl rfl h80 h81 (h_a0.some_ h80 h81)) _) rfl rfl ?_
         have hobt := ldSl h_a0 h80 h81
         obtain ⟨p82, c83, hi84, hl85⟩ := hobt
         refine GoR.op ((hl85 Try.underlying25 rfl rfl) _ (Same.refl _)) rfl rfl ?_
         refine GoR.op ((op_move rfl) _) rfl rfl ?_
         obtain ⟨h86, H⟩ := H
         obtain ⟨h87, H⟩ := H
         refine GoR.op ((op_index Try.underlying25 ti3 rfl rfl h86 h87 (hi84.some_ h86 h87)) _) rfl rfl ?_
         refine GoR.op ((ldInt hi84 h86 h87 Try.underlying3 rfl rfl) _ (Same.refl _)) rfl rfl ?_
         refine GoR.op ((op_assign rfl) _) rfl rfl ?_
         refine GoR.nil ?_
         refine Go1.seq ?_
         refine Go1.drawS 0 [(0, .pure), (1, .stable), (2, .pure), (3, .pure), (4, .stable), (5, .pure), (6, .stable), (7, .pure), (8, .pure), (9, .stable), (10, .pure), (11, .pure), (12, .pure), (13, .stable), (14, .pure), (15, .pure), (16, .stable), (17, .pure), (18, .stable), (19, .pure), (20, .pure), (21, .stable), (22, .pure), (23, .pure), (24, .pure), (25, .pure), (26, .stable), (27, .pure), (28, .pure), (29, .stable), (30, .pure), (31, .stable), (32, .pure), (33, .pure), (34, .stable), (35, .pure), (36, .pure), (37, .pure), (38, .stable), (39, .pure), (40, .pure), (41, .stable), (42, .pure), (43, .stable), (44, .pure), (45, .pure), (46, .stable), (47, .pure), (48, .pure), (49, .pure), (50, .pure), (51, .loud), (52, .pure), (53, .pure)] mixed (by kernel_rfl) ?_
         intro w88 hs89
         have hst90 := Stp.same hO hs89
         replace hE16 := hE16.ch hst90.ch
         replace hO := hst90.own
         replace h_a0 := h_a0.ch hst90.ch
         replace h_r35_R := h_r35_R.ch hst90.ch
         replace h_r35_L := h_r35_L.ch hst90.ch
         replace h_r35_J := h_r35_J.ch hst90.ch
         replace h_r35_H := h_r35_H.ch hst90.ch
         replace h_r35_Below := h_r35_Below.ch hst90.ch
         replace h_r68 := h_r68.ch hst90.ch
         replace hi84 := hi84.ch hst90.ch
         replace hB := hB.trans hst90.fr
         refine GoQ.pure rfl (op_fieldAddr Try.underlying28 rfl ti25 rfl (by decide)) rfl rfl ?_
         refine GoQ.stable rfl (oblk 0 hO rfl rfl Try.underlying25 rfl rfl) rfl rfl ?_
         refine GoQ.pure rfl (op_move rfl) rfl rfl ?_
         obtain ⟨h91, H⟩ := H
         obtain ⟨h92, H⟩ := H
         refine GoQ.pure rfl (op_index Try.underlying25 ti3 rfl rfl h91 h92 (h_r35_J.some_ h91 h92)) rfl rfl ?_
         refine GoQ.stable rfl (ldInt h_r35_J h91 h92 Try.underlying3 rfl rfl) rfl rfl ?_
         refine GoQ.pure rfl (op_fieldAddr Try.underlying28 rfl ti25 rfl (by decide)) rfl rfl ?_
         refine GoQ.stable rfl (oblk 0 hO rfl rfl Try.underlying25 rfl rfl) rfl rfl ?_
         refine GoQ.pure rfl (op_move rfl) rfl rfl ?_
         obtain ⟨h93, H⟩ := H
         obtain ⟨h94, H⟩ := H
         refine GoQ.pure rfl (op_index Try.underlying25 ti3 rfl rfl h93 h94 (h_r35_J.some_ h93 h94)) rfl rfl ?_
         refine GoQ.stable rfl (ldInt h_r35_J h93 h94 Try.underlying3 rfl rfl) rfl rfl ?_
         by_cases h95 : (ix r35.J (ix (ix a0 a1) a2)) = (ix r35.J a1)
         ·replace H := ifp h95 H
          refine GoQ.pure rfl (fun w => opB (op_neq rfl rfl w) (ndT h95)) rfl rfl ?_
          refine GoQ.pure rfl (op_move rfl) rfl rfl ?_
          refine GoQ.pure rfl (op_fieldAddr Try.underlying28 rfl ti25 rfl (by decide)) rfl rfl ?_
          refine GoQ.stable rfl (oblk 0 hO rfl rfl Try.underlying25 rfl rfl) rfl rfl ?_
          refine GoQ.pure rfl (op_move rfl) rfl rfl ?_
          obtain ⟨h96, H⟩ := H
          obtain ⟨h97, H⟩ := H
          refine GoQ.pure rfl (op_index Try.underlying25 ti3 rfl rfl h96 h97 (h_r35_R.some_ h96 h97)) rfl rfl ?_
          refine GoQ.stable rfl (ldInt h_r35_R h96 h97 Try.underlying3 rfl rfl) rfl rfl ?_
          refine GoQ.pure rfl (op_fieldAddr Try.underlying28 rfl ti25 rfl (by decide)) rfl rfl ?_
          refine GoQ.stable rfl (oblk 0 hO rfl rfl Try.underlying25 rfl rfl) rfl rfl ?_
          refine GoQ.pure rfl (op_move rfl) rfl rfl ?_
          obtain ⟨h98, H⟩ := H
          obtain ⟨h99, H⟩ := H
          refine GoQ.pure rfl (op_index Try.underlying25 ti3 rfl rfl h98 h99 (h_r35_R.some_ h98 h99)) rfl rfl ?_
          refine GoQ.stable rfl (ldInt h_r35_R h98 h99 Try.underlying3 rfl rfl) rfl rfl ?_
          by_cases h100 : (ix r35.R (ix (ix a0 a1) a2)) = (ix r35.R a1)
          ·replace H := ifp h100 H
           refine GoQ.pure rfl (fun w => opB (op_eql rfl rfl w) (decide_eq_true h100)) rfl rfl ?_
           refine GoQ.pure rfl (op_pickF rfl rfl rfl) rfl rfl ?_
           refine GoQ.pure rfl (op_move rfl) rfl rfl ?_
           refine GoQ.pure rfl (op_fieldAddr Try.underlying28 rfl ti25 rfl (by decide)) rfl rfl ?_
           refine GoQ.stable rfl (oblk 0 hO rfl rfl Try.underlying25 rfl rfl) rfl rfl ?_
           refine GoQ.pure rfl (op_move rfl) rfl rfl ?_
           obtain ⟨h101, H⟩ := H
           obtain ⟨h102, H⟩ := H
           refine GoQ.pure rfl (op_index Try.underlying25 ti3 rfl rfl h101 h102 (h_r35_J.some_ h101 h102)) rfl rfl ?_
           refine GoQ.stable rfl (ldInt h_r35_J h101 h102 Try.underlying3 rfl rfl) rfl rfl ?_
           refine GoQ.pure rfl (op_fieldAddr Try.underlying28 rfl ti25 rfl (by decide)) rfl rfl ?_
           refine GoQ.stable rfl (oblk 0 hO rfl rfl Try.underlying25 rfl rfl) rfl rfl ?_
           refine GoQ.pure rfl (op_move rfl) rfl rfl ?_
           obtain ⟨h103, H⟩ := H
           obtain ⟨h104, H⟩ := H
           refine GoQ.pure rfl (op_index Try.underlying25 ti3 rfl rfl h103 h104 (h_r35_J.some_ h103 h104)) rfl rfl ?_
           refine GoQ.stable rfl (ldInt h_r35_J h103 h104 Try.underlying3 rfl rfl) rfl rfl ?_
           by_cases h105 : (ix r35.J (ix (ix a0 a1) a2)) = (ix r35.J a2)
           ·replace H := ifp h105 H
            refine GoQ.pure rfl (fun w => opB (op_neq rfl rfl w) (ndT h105)) rfl rfl ?_
            refine GoQ.pure rfl (op_move rfl) rfl rfl ?_
            refine GoQ.pure rfl (op_fieldAddr Try.underlying28 rfl ti25 rfl (by decide)) rfl rfl ?_
            refine GoQ.stable rfl (oblk 0 hO rfl rfl Try.underlying25 rfl rfl) rfl rfl ?_
            refine GoQ.pure rfl (op_move rfl) rfl rfl ?_
            obtain ⟨h106, H⟩ := H
            obtain ⟨h107, H⟩ := H
            refine GoQ.pure rfl (op_index Try.underlying25 ti3 rfl rfl h106 h107 (h_r35_L.some_ h106 h107)) rfl rfl ?_
            refine GoQ.stable rfl (ldInt h_r35_L h106 h107 Try.underlying3 rfl rfl) rfl rfl ?_
            refine GoQ.pure rfl (op_fieldAddr Try.underlying28 rfl ti25 rfl (by decide)) rfl rfl ?_
            refine GoQ.stable rfl (oblk 0 hO rfl rfl Try.underlying25 rfl rfl) rfl rfl ?_
            refine GoQ.pure rfl (op_move rfl) rfl rfl ?_
            obtain ⟨h108, H⟩ := H
            obtain ⟨h109, H⟩ := H
            refine GoQ.pure rfl (op_index Try.underlying25 ti3 rfl rfl h108 h109 (h_r35_L.some_ h108 h109)) rfl rfl ?_
            refine GoQ.stable rfl (ldInt h_r35_L h108 h109 Try.underlying3 rfl rfl) rfl rfl ?_
            by_cases h110 : (ix r35.L (ix (ix a0 a1) a2)) = (ix r35.L a2)
            ·replace H := ifp h110 H
             refine GoQ.pure rfl (fun w => opB (op_eql rfl rfl w) (decide_eq_true h110)) rfl rfl ?_
             refine GoQ.pure rfl (op_pickF rfl rfl rfl) rfl rfl ?_
             refine GoQ.pure rfl (op_pickT rfl rfl rfl) rfl rfl ?_
             refine GoQ.pure rfl (op_move rfl) rfl rfl ?_
             refine GoQ.call rfl (op_call body14 rfl (walk_law15_awake hO.lt H)) (fun v w hr => by obtain ⟨_, _, hs, _⟩ := hr; assumption) rfl rfl ?_
             rintro v115 w112 ⟨r111, rfl, hs113, H⟩
             have hst116 := Stp.same hO hs113
             replace hE16 := hE16.ch hst116.ch
             replace hO := hst116.own
             replace h_a0 := h_a0.ch hst116.ch
             replace h_r35_R := h_r35_R.ch hst116.ch
             replace h_r35_L := h_r35_L.ch hst116.ch
             replace h_r35_J := h_r35_J.ch hst116.ch
             replace h_r35_H := h_r35_H.ch hst116.ch
             replace h_r35_Below := h_r35_Below.ch hst116.ch
             replace h_r68 := h_r68.ch hst116.ch
             replace hi84 := hi84.ch hst116.ch
             replace hB := hB.trans hst116.fr
             refine GoQ.pure rfl (op_pickT rfl rfl rfl) rfl rfl ?_
             refine GoQ.pure rfl (op_assign rfl) rfl rfl ?_
             refine GoQ.nil ?_
             refine Go1.ret1 Try.func4 rfl ?_
             exact ⟨r111, rfl, hB.same, H⟩
            ·replace H := ifn h110 H
             refine GoQ.pure rfl (fun w => opB (op_eql rfl rfl w) (decide_eq_false h110)) rfl rfl ?_
             refine GoQ.pure rfl (op_pickF rfl rfl rfl) rfl rfl ?_
             refine GoQ.pure rfl (op_pickT rfl rfl rfl) rfl rfl ?_
             refine GoQ.pure rfl (op_move rfl) rfl rfl ?_
             refine GoQ.pass rfl rfl rfl ?_
             refine GoQ.pure rfl (op_pickF rfl rfl rfl) rfl rfl ?_
             refine GoQ.pure rfl (op_assign rfl) rfl rfl ?_
             refine GoQ.nil ?_
             refine Go1.ret1 Try.func4 rfl ?_
             exact ⟨false, rfl, hB.same, H⟩
           ·replace H := ifn h105 H
            refine GoQ.pure rfl (fun w => opB (op_neq rfl rfl w) (ndF h105)) rfl rfl ?_
            refine GoQ.pure rfl (op_move rfl) rfl rfl ?_
            refine GoQ.pass rfl rfl rfl ?_
            refine GoQ.pass rfl rfl rfl ?_
            refine GoQ.pass rfl rfl rfl ?_
            refine GoQ.pass rfl rfl rfl ?_
            refine GoQ.pass rfl rfl rfl ?_
            refine GoQ.pass rfl rfl rfl ?_
            refine GoQ.pass rfl rfl rfl ?_
            refine GoQ.pass rfl rfl rfl ?_
            refine GoQ.pass rfl rfl rfl ?_
            refine GoQ.pass rfl rfl rfl ?_
            refine GoQ.pass rfl rfl rfl ?_
            refine GoQ.pure rfl (op_pickT rfl rfl rfl) rfl rfl ?_
            refine GoQ.pure rfl (op_pickT rfl rfl rfl) rfl rfl ?_
            refine GoQ.pure rfl (op_move rfl) rfl rfl ?_
            refine GoQ.call rfl (op_call body14 rfl (walk_law15_awake hO.lt H)) (fun v w hr => by obtain ⟨_, _, hs, _⟩ := hr; assumption) rfl rfl ?_
            rintro v121 w118 ⟨r117, rfl, hs119, H⟩
            have hst122 := Stp.same hO hs119
            replace hE16 := hE16.ch hst122.ch
            replace hO := hst122.own
            replace h_a0 := h_a0.ch hst122.ch
            replace h_r35_R := h_r35_R.ch hst122.ch
            replace h_r35_L := h_r35_L.ch hst122.ch
            replace h_r35_J := h_r35_J.ch hst122.ch
            replace h_r35_H := h_r35_H.ch hst122.ch
            replace h_r35_Below := h_r35_Below.ch hst122.ch
            replace h_r68 := h_r68.ch hst122.ch
            replace hi84 := hi84.ch hst122.ch
            replace hB := hB.trans hst122.fr
            refine GoQ.pure rfl (op_pickT rfl rfl rfl) rfl rfl ?_
            refine GoQ.pure rfl (op_assign rfl) rfl rfl ?_
            refine GoQ.nil ?_
            refine Go1.ret1 Try.func4 rfl ?_
            exact ⟨r117, rfl, hB.same, H⟩
          ·replace H := ifn h100 H
           refine GoQ.pure rfl (fun w => opB (op_eql rfl rfl w) (decide_eq_false h100)) rfl rfl ?_
           refine GoQ.pure rfl (op_pickF rfl rfl rfl) rfl rfl ?_
           refine GoQ.pure rfl (op_move rfl) rfl rfl ?_
           refine GoQ.pass rfl rfl rfl ?_
           refine GoQ.pass rfl rfl rfl ?_
           refine GoQ.pass rfl rfl rfl ?_
           refine GoQ.pass rfl rfl rfl ?_
           refine GoQ.pass rfl rfl rfl ?_
           refine GoQ.pass rfl rfl rfl ?_
           refine GoQ.pass rfl rfl rfl ?_
           refine GoQ.pass rfl rfl rfl ?_
           refine GoQ.pass rfl rfl rfl ?_
           refine GoQ.pass rfl rfl rfl ?_
           refine GoQ.pass rfl rfl rfl ?_
           refine GoQ.pass rfl rfl rfl ?_
           refine GoQ.pass rfl rfl rfl ?_
           refine GoQ.pass rfl rfl rfl ?_
           refine GoQ.pass rfl rfl rfl ?_
           refine GoQ.pass rfl rfl rfl ?_
           refine GoQ.pass rfl rfl rfl ?_
           refine GoQ.pass rfl rfl rfl ?_
           refine GoQ.pass rfl rfl rfl ?_
           refine GoQ.pass rfl rfl rfl ?_
           refine GoQ.pass rfl rfl rfl ?_
           refine GoQ.pass rfl rfl rfl ?_
           refine GoQ.pass rfl rfl rfl ?_
           refine GoQ.pass rfl rfl rfl ?_
           refine GoQ.pure rfl (op_pickF rfl rfl rfl) rfl rfl ?_
           refine GoQ.pure rfl (op_move rfl) rfl rfl ?_
           refine GoQ.pass rfl rfl rfl ?_
           refine GoQ.pure rfl (op_pickF rfl rfl rfl) rfl rfl ?_
           refine GoQ.pure rfl (op_assign rfl) rfl rfl ?_
           refine GoQ.nil ?_
           refine Go1.ret1 Try.func4 rfl ?_
           exact ⟨false, rfl, hB.same, H⟩
         ·replace H := ifn h95 H
          refine GoQ.pure rfl (fun w => opB (op_neq rfl rfl w) (ndF h95)) rfl rfl ?_
          refine GoQ.pure rfl (op_move rfl) rfl rfl ?_
          refine GoQ.pass rfl rfl rfl ?_
          refine GoQ.pass rfl rfl rfl ?_
          refine GoQ.pass rfl rfl rfl ?_
          refine GoQ.pass rfl rfl rfl ?_
          refine GoQ.pass rfl rfl rfl ?_
          refine GoQ.pass rfl rfl rfl ?_
          refine GoQ.pass rfl rfl rfl ?_
          refine GoQ.pass rfl rfl rfl ?_
          refine GoQ.pass rfl rfl rfl ?_
          refine GoQ.pass rfl rfl rfl ?_
          refine GoQ.pass rfl rfl rfl ?_
          refine GoQ.pure rfl (op_pickT rfl rfl rfl) rfl rfl ?_
          refine GoQ.pure rfl (op_move rfl) rfl rfl ?_
          refine GoQ.pure rfl (op_fieldAddr Try.underlying28 rfl ti25 rfl (by decide)) rfl rfl ?_
          refine GoQ.stable rfl (oblk 0 hO rfl rfl Try.underlying25 rfl rfl) rfl rfl ?_
          refine GoQ.pure rfl (op_move rfl) rfl rfl ?_
          obtain ⟨h123, H⟩ := H
          obtain ⟨h124, H⟩ := H
          refine GoQ.pure rfl (op_index Try.underlying25 ti3 rfl rfl h123 h124 (h_r35_J.some_ h123 h124)) rfl rfl ?_
          refine GoQ.stable rfl (ldInt h_r35_J h123 h124 Try.underlying3 rfl rfl) rfl rfl ?_
          refine GoQ.pure rfl (op_fieldAddr Try.underlying28 rfl ti25 rfl (by decide)) rfl rfl ?_
          refine GoQ.stable rfl (oblk 0 hO rfl rfl Try.underlying25 rfl rfl) rfl rfl ?_
          refine GoQ.pure rfl (op_move rfl) rfl rfl ?_
          obtain ⟨h125, H⟩ := H
          obtain ⟨h126, H⟩ := H
          refine GoQ.pure rfl (op_index Try.underlying25 ti3 rfl rfl h125 h126 (h_r35_J.some_ h125 h126)) rfl rfl ?_
          refine GoQ.stable rfl (ldInt h_r35_J h125 h126 Try.underlying3 rfl rfl) rfl rfl ?_
          by_cases h127 : (ix r35.J (ix (ix a0 a1) a2)) = (ix r35.J a2)
          ·replace H := ifp h127 H
           refine GoQ.pure rfl (fun w => opB (op_neq rfl rfl w) (ndT h127)) rfl rfl ?_
           refine GoQ.pure rfl (op_move rfl) rfl rfl ?_
           refine GoQ.pure rfl (op_fieldAddr Try.underlying28 rfl ti25 rfl (by decide)) rfl rfl ?_
           refine GoQ.stable rfl (oblk 0 hO rfl rfl Try.underlying25 rfl rfl) rfl rfl ?_
           refine GoQ.pure rfl (op_move rfl) rfl rfl ?_
           obtain ⟨h128, H⟩ := H
           obtain ⟨h129, H⟩ := H
           refine GoQ.pure rfl (op_index Try.underlying25 ti3 rfl rfl h128 h129 (h_r35_L.some_ h128 h129)) rfl rfl ?_
           refine GoQ.stable rfl (ldInt h_r35_L h128 h129 Try.underlying3 rfl rfl) rfl rfl ?_
           refine GoQ.pure rfl (op_fieldAddr Try.underlying28 rfl ti25 rfl (by decide)) rfl rfl ?_
           refine GoQ.stable rfl (oblk 0 hO rfl rfl Try.underlying25 rfl rfl) rfl rfl ?_
           refine GoQ.pure rfl (op_move rfl) rfl rfl ?_
           obtain ⟨h130, H⟩ := H
           obtain ⟨h131, H⟩ := H
           refine GoQ.pure rfl (op_index Try.underlying25 ti3 rfl rfl h130 h131 (h_r35_L.some_ h130 h131)) rfl rfl ?_
           refine GoQ.stable rfl (ldInt h_r35_L h130 h131 Try.underlying3 rfl rfl) rfl rfl ?_
           by_cases h132 : (ix r35.L (ix (ix a0 a1) a2)) = (ix r35.L a2)
           ·replace H := ifp h132 H
            refine GoQ.pure rfl (fun w => opB (op_eql rfl rfl w) (decide_eq_true h132)) rfl rfl ?_
            refine GoQ.pure rfl (op_pickF rfl rfl rfl) rfl rfl ?_
            refine GoQ.pure rfl (op_pickT rfl rfl rfl) rfl rfl ?_
            refine GoQ.pure rfl (op_move rfl) rfl rfl ?_
            refine GoQ.call rfl (op_call body14 rfl (walk_law15_awake hO.lt H)) (fun v w hr => by obtain ⟨_, _, hs, _⟩ := hr; assumption) rfl rfl ?_
            rintro v137 w134 ⟨r133, rfl, hs135, H⟩
            have hst138 := Stp.same hO hs135
            replace hE16 := hE16.ch hst138.ch
            replace hO := hst138.own
            replace h_a0 := h_a0.ch hst138.ch
            replace h_r35_R := h_r35_R.ch hst138.ch
            replace h_r35_L := h_r35_L.ch hst138.ch
            replace h_r35_J := h_r35_J.ch hst138.ch
            replace h_r35_H := h_r35_H.ch hst138.ch
            replace h_r35_Below := h_r35_Below.ch hst138.ch
            replace h_r68 := h_r68.ch hst138.ch
            replace hi84 := hi84.ch hst138.ch
            replace hB := hB.trans hst138.fr
            refine GoQ.pure rfl (op_pickT rfl rfl rfl) rfl rfl ?_
            refine GoQ.pure rfl (op_assign rfl) rfl rfl ?_
            refine GoQ.nil ?_
            refine Go1.ret1 Try.func4 rfl ?_
            exact ⟨r133, rfl, hB.same, H⟩
           ·replace H := ifn h132 H
            refine GoQ.pure rfl (fun w => opB (op_eql rfl rfl w) (decide_eq_false h132)) rfl rfl ?_
            refine GoQ.pure rfl (op_pickF rfl rfl rfl) rfl rfl ?_
            refine GoQ.pure rfl (op_pickT rfl rfl rfl) rfl rfl ?_
            refine GoQ.pure rfl (op_move rfl) rfl rfl ?_
            refine GoQ.pass rfl rfl rfl ?_
            refine GoQ.pure rfl (op_pickF rfl rfl rfl) rfl rfl ?_
            refine GoQ.pure rfl (op_assign rfl) rfl rfl ?_
            refine GoQ.nil ?_
            refine Go1.ret1 Try.func4 rfl ?_
            exact ⟨false, rfl, hB.same, H⟩
          ·replace H := ifn h127 H
           refine GoQ.pure rfl (fun w => opB (op_neq rfl rfl w) (ndF h127)) rfl rfl ?_
           refine GoQ.pure rfl (op_move rfl) rfl rfl ?_
           refine GoQ.pass rfl rfl rfl ?_
           refine GoQ.pass rfl rfl rfl ?_
           refine GoQ.pass rfl rfl rfl ?_
           refine GoQ.pass rfl rfl rfl ?_
           refine GoQ.pass rfl rfl rfl ?_
           refine GoQ.pass rfl rfl rfl ?_
           refine GoQ.pass rfl rfl rfl ?_
           refine GoQ.pass rfl rfl rfl ?_
           refine GoQ.pass rfl rfl rfl ?_
           refine GoQ.pass rfl rfl rfl ?_
           refine GoQ.pass rfl rfl rfl ?_
           refine GoQ.pure rfl (op_pickT rfl rfl rfl) rfl rfl ?_
           refine GoQ.pure rfl (op_pickT rfl rfl rfl) rfl rfl ?_
           refine GoQ.pure rfl (op_move rfl) rfl rfl ?_
           refine GoQ.call rfl (op_call body14 rfl (walk_law15_awake hO.lt H)) (fun v w hr => by obtain ⟨_, _, hs, _⟩ := hr; assumption) rfl rfl ?_
           rintro v143 w140 ⟨r139, rfl, hs141, H⟩
           have hst144 := Stp.same hO hs141
           replace hE16 := hE16.ch hst144.ch
           replace hO := hst144.own
           replace h_a0 := h_a0.ch hst144.ch
           replace h_r35_R := h_r35_R.ch hst144.ch
           replace h_r35_L := h_r35_L.ch hst144.ch
           replace h_r35_J := h_r35_J.ch hst144.ch
           replace h_r35_H := h_r35_H.ch hst144.ch
           replace h_r35_Below := h_r35_Below.ch hst144.ch
           replace h_r68 := h_r68.ch hst144.ch
           replace hi84 := hi84.ch hst144.ch
           replace hB := hB.trans hst144.fr
           refine GoQ.pure rfl (op_pickT rfl rfl rfl) rfl rfl ?_
           refine GoQ.pure rfl (op_assign rfl) rfl rfl ?_
           refine GoQ.nil ?_
           refine Go1.ret1 Try.func4 rfl ?_
           exact ⟨r139, rfl, hB.same, H⟩
       ·replace H := ifn h67 H
        refine GoQ.pure rfl (fun w => opB (op_neq rfl rfl w) (ndF h67)) rfl rfl ?_
        refine GoQ.pure rfl (op_pickF rfl rfl rfl) rfl rfl ?_
        refine GoQ.pure rfl (op_move rfl) rfl rfl ?_
        refine GoQ.pass rfl rfl rfl ?_
        refine GoQ.pass rfl rfl rfl ?_
        refine GoQ.pass rfl rfl rfl ?_
        refine GoQ.pass rfl rfl rfl ?_
        refine GoQ.pass rfl rfl rfl ?_
        refine GoQ.pass rfl rfl rfl ?_
        refine GoQ.pass rfl rfl rfl ?_
        refine GoQ.pass rfl rfl rfl ?_
        refine GoQ.pass rfl rfl rfl ?_
        refine GoQ.pure rfl (op_pickT rfl rfl rfl) rfl rfl ?_
        refine GoQ.nil ?_
        refine Go1.condT rfl rfl ?_
        refine Go1.seq ?_
        refine Go1.region ?_
        refine GoR.op ((op_assign rfl) _) rfl rfl ?_
        refine GoR.nil ?_
        refine Go1.ret1 Try.func4 rfl ?_
        exact ⟨false, rfl, hB.same, H⟩
      ·replace H := ifn h66 H
       refine GoQ.pure rfl (fun w => opB (op_neq rfl rfl w) (ndF h66)) rfl rfl ?_
       refine GoQ.pure rfl (op_pickF rfl rfl rfl) rfl rfl ?_
       refine GoQ.pure rfl (op_move rfl) rfl rfl ?_
       refine GoQ.pass rfl rfl rfl ?_
       refine GoQ.pass rfl rfl rfl ?_
       refine GoQ.pass rfl rfl rfl ?_
       refine GoQ.pass rfl rfl rfl ?_
       refine GoQ.pass rfl rfl rfl ?_
       refine GoQ.pass rfl rfl rfl ?_
       refine GoQ.pure rfl (op_pickT rfl rfl rfl) rfl rfl ?_
       refine GoQ.pure rfl (op_move rfl) rfl rfl ?_
       refine GoQ.pass rfl rfl rfl ?_
       refine GoQ.pass rfl rfl rfl ?_
       refine GoQ.pass rfl rfl rfl ?_
       refine GoQ.pass rfl rfl rfl ?_
       refine GoQ.pass rfl rfl rfl ?_
       refine GoQ.pass rfl rfl rfl ?_
       refine GoQ.pass rfl rfl rfl ?_
       refine GoQ.pass rfl rfl rfl ?_
       refine GoQ.pass rfl rfl rfl ?_
       refine GoQ.pure rfl (op_pickT rfl rfl rfl) rfl rfl ?_
       refine GoQ.nil ?_
       refine Go1.condT rfl rfl ?_
       refine Go1.seq ?_
       refine Go1.region ?_
       refine GoR.op ((op_assign rfl) _) rfl rfl ?_
       refine GoR.nil ?_
       refine Go1.ret1 Try.func4 rfl ?_
       exact ⟨false, rfl, hB.same, H⟩
     ·replace H := ifn h65 H
      refine GoQ.pure rfl (fun w => opB (op_neq rfl rfl w) (ndF h65)) rfl rfl ?_
      refine GoQ.pure rfl (op_pickF rfl rfl rfl) rfl rfl ?_
      refine GoQ.pure rfl (op_move rfl) rfl rfl ?_
      refine GoQ.pass rfl rfl rfl ?_
      refine GoQ.pass rfl rfl rfl ?_
      refine GoQ.pass rfl rfl rfl ?_
      refine GoQ.pass rfl rfl rfl ?_
      refine GoQ.pass rfl rfl rfl ?_
      refine GoQ.pass rfl rfl rfl ?_
      refine GoQ.pure rfl (op_pickT rfl rfl rfl) rfl rfl ?_
      refine GoQ.pure rfl (op_move rfl) rfl rfl ?_
      refine GoQ.pass rfl rfl rfl ?_
      refine GoQ.pass rfl rfl rfl ?_
      refine GoQ.pass rfl rfl rfl ?_
      refine GoQ.pass rfl rfl rfl ?_
      refine GoQ.pass rfl rfl rfl ?_
      refine GoQ.pass rfl rfl rfl ?_
      refine GoQ.pure rfl (op_pickT rfl rfl rfl) rfl rfl ?_
      refine GoQ.pure rfl (op_move rfl) rfl rfl ?_
      refine GoQ.pass rfl rfl rfl ?_
      refine GoQ.pass rfl rfl rfl ?_
      refine GoQ.pass rfl rfl rfl ?_
      refine GoQ.pass rfl rfl rfl ?_
      refine GoQ.pass rfl rfl rfl ?_
      refine GoQ.pass rfl rfl rfl ?_
      refine GoQ.pass rfl rfl rfl ?_
      refine GoQ.pass rfl rfl rfl ?_
      refine GoQ.pass rfl rfl rfl ?_
      refine GoQ.pure rfl (op_pickT rfl rfl rfl) rfl rfl ?_
      refine GoQ.nil ?_
      refine Go1.condT rfl rfl ?_
      refine Go1.seq ?_
      refine Go1.region ?_
      refine GoR.op ((op_assign rfl) _) rfl rfl ?_
      refine GoR.nil ?_
      refine Go1.ret1 Try.func4 rfl ?_
      exact ⟨false, rfl, hB.same, H⟩
end Sg
