/- The walks: each call keeps to its plain transformer. Printed by walkgen.py. -/
import Derived.Test.YthobeabghciknaaTi
import Derived.Test.YthobeabghciknaaWGreenStable
namespace Sg
open Go Go.RowKit Go.Proofs
set_option linter.unusedVariables false
set_option linter.unusedSimpArgs false
set_option maxRecDepth 100000
set_option maxHeartbeats 4000000
theorem body61 : Body Try.prog 61 := ⟨Try.f61, Try.func61, rfl, by kernel_rfl⟩
theorem walk_mult_valid {A : List Nat} {w0 : World} {p_t : Option Addr} {c_t : Nat} {t : List (List Int)} (hA : ∀ b ∈ A, b < w0.heap.size) (h_t : ISl (Rp.sl (Rp.int .i64)) A w0 p_t c_t t) {K : Bool → Prop} (H : mult_valid t K) :
    CallsV Try.prog 61 #[.slice p_t t.length c_t] w0 (fun v w' => ∃ (r0 : Bool), v = .bool r0 ∧ Same w0 w' ∧ K r0) := by
 refine CallsV.of (l := [.slice p_t t.length c_t]) Try.func61 rfl Try.ntmps61 rfl ?_
 have hO := Owns.start hA
 have hB := Fr.refl (bl []) w0
 unfold mult_valid at H
 replace h_t := h_t.ch (Ch.start A w0)
 refine Go1.seq ?_
 refine Go1.region ?_
 refine GoR.op ((op_assign rfl) _) rfl rfl ?_
 refine GoR.nil ?_
 refine Go1.seq ?_
 refine Go1.region ?_
 refine GoR.op ((op_move rfl) _) rfl rfl ?_
 refine GoR.call (op_call body45 rfl (walk_mult_Validate hO.lt h_t H)) rfl rfl ?_
 rintro v5 w2 ⟨r1, rfl, hs3, H⟩
 have hst6 := Stp.same hO hs3
 replace hO := hst6.own
 replace h_t := h_t.ch hst6.ch
 replace hB := hB.trans hst6.fr
 by_cases h7 : r1 = (0 : Int)
 ·replace H := ifp h7 H
  refine GoR.op ((fun w => opB (op_eql rfl rfl w) (decide_eq_true h7)) _) rfl rfl ?_
  refine GoR.op ((op_assign rfl) _) rfl rfl ?_
  refine GoR.nil ?_
  refine Go1.ret1 Try.func61 rfl ?_
  exact ⟨true, rfl, hB.same, H⟩
 ·replace H := ifn h7 H
  refine GoR.op ((fun w => opB (op_eql rfl rfl w) (decide_eq_false h7)) _) rfl rfl ?_
  refine GoR.op ((op_assign rfl) _) rfl rfl ?_
  refine GoR.nil ?_
  refine Go1.ret1 Try.func61 rfl ?_
  exact ⟨false, rfl, hB.same, H⟩
theorem body32 : Body Try.prog 32 := ⟨Try.f32, Try.func32, rfl, by kernel_rfl⟩
theorem walk_mult_Opposite {A : List Nat} {w0 : World} {p_t : Option Addr} {c_t : Nat} {t : List (List Int)} (hA : ∀ b ∈ A, b < w0.heap.size) (h_t : ISl (Rp.sl (Rp.int .i64)) A w0 p_t c_t t) {K : List (List Int) → Prop} (H : mult_Opposite t K) :
    CallsV Try.prog 32 #[.slice p_t t.length c_t] w0 (fun v w' => ∃ (r0 : List (List Int)), ∃ (p_r0 : Option Addr), ∃ (c_r0 : Nat), v = .slice p_r0 r0.length c_r0 ∧ Same w0 w' ∧ ISl (Rp.sl (Rp.int .i64)) A w' p_r0 c_r0 r0 ∧ K r0) := by
 refine CallsV.of (l := [.slice p_t t.length c_t]) Try.func32 rfl Try.ntmps32 rfl ?_
 have hO := Owns.start hA
 have hB := Fr.refl (bl []) w0
 unfold mult_Opposite at H
 replace h_t := h_t.ch (Ch.start A w0)
 refine Go1.seq ?_
 refine Go1.region ?_
 refine GoR.op ((op_assign rfl) _) rfl rfl ?_
 refine GoR.nil ?_
 refine Go1.seq ?_
 refine Go1.seq ?_
 refine Go1.region ?_
 refine GoR.op ((op_move rfl) _) rfl rfl ?_
 refine GoR.call (op_call body61 rfl (walk_mult_valid hO.lt h_t H)) rfl rfl ?_
 rintro v5 w2 ⟨r1, rfl, hs3, H⟩
 have hst6 := Stp.same hO hs3
 replace hO := hst6.own
 replace h_t := h_t.ch hst6.ch
 replace hB := hB.trans hst6.fr
 cases r1
 ·replace H := ifn Bool.false_ne_true H
  refine GoR.op ((op_not rfl) _) rfl rfl ?_
  refine GoR.nil ?_
  refine Go1.condT rfl rfl ?_
  refine Go1.seq ?_
  refine Go1.region ?_
  refine GoR.op ((op_assign rfl) _) rfl rfl ?_
  refine GoR.nil ?_
  refine Go1.ret1 Try.func32 rfl ?_
  exact ⟨([] : List (List Int)), none, 0, rfl, hB.same, (ISl.null _ _ _), H⟩
 ·replace H := ifp rfl H
  refine GoR.op ((op_not rfl) _) rfl rfl ?_
  refine GoR.nil ?_
  refine Go1.condF rfl rfl ?_
  refine Go1.skip ?_
  refine Go1.seq ?_
  refine Go1.region ?_
  refine GoR.op ((op_move rfl) _) rfl rfl ?_
  refine GoR.op ((op_len Try.underlying22 rfl) _) rfl rfl ?_
  replace H := H h_t.bd
  obtain ⟨h14, H⟩ := H
  obtain ⟨h15, H⟩ := H
  have hobt := t2make (m := (t.length : Int)) (e' := 3) (Fl.int .i64) Try.underlying22 ti25 hO h14 h15 (by decide)
  obtain ⟨w7, p8, hst10, hs12, hop13⟩ := hobt
  refine GoR.op (hop13 rfl rfl) rfl rfl ?_
  replace hO := hst10.own
  replace h_t := h_t.ch hst10.ch
  replace hB := hB.trans hst10.fr
  refine GoR.op ((op_assign rfl) _) rfl rfl ?_
  refine GoR.nil ?_
  refine Go1.seq ?_
  refine Go1.seq ?_
  refine Go1.region ?_
  refine GoR.op ((op_move rfl) _) rfl rfl ?_
  refine GoR.op ((op_lenN Try.underlying22 rfl (t2neq 0 hO rfl)) _) rfl rfl ?_
  refine GoR.op ((op_move rfl) _) rfl rfl ?_
  refine GoR.nil ?_
  refine Go1.block ?_
  refine Go1.loopW (S := Nat × List (List Int)) (fun s σ w => ∃ (n22 : Nat), ∃ (p20 : Option Addr), ∃ (c21 : Nat), ∃ (hs23 : Hd), agrees σ [(0, .slice p_t t.length c_t), (3, .slice p20 n22 c21), (13, .int .i64 ((List.replicate t.length ([] : List Int)).length : Int)), (14, .int .i64 ((s.1) : Int))] ∧ Owns w0.heap.size w [t2 (Fl.int .i64) 25 3 p20 n22 c21 hs23 (s.2)] A ∧ ISl (Rp.sl (Rp.int .i64)) (bl [t2 (Fl.int .i64) 25 3 p20 n22 c21 hs23 (s.2)] ++ A) w p_t c_t t ∧ Fr (bl []) w0 (bl [t2 (Fl.int .i64) 25 3 p20 n22 c21 hs23 (s.2)]) w) H ⟨t.length, p8, t.length, (fun _ => (none, 0)), ⟨rfl, rfl, rfl, rfl, trivial⟩, hO, h_t, hB⟩ ?_
  rintro X1 ⟨k1_18, o1_19⟩ H hX1 σ w17 ⟨n22, p20, c21, hs23, hag, hO, h_t, hB⟩
  dsimp only at H
  refine Go1.keep [(0, .slice p_t t.length c_t), (3, .slice p20 n22 c21), (13, .int .i64 ((List.replicate t.length ([] : List Int)).length : Int)), (14, .int .i64 (k1_18 : Int))] hag ?_
  refine Go1.seq ?_
  refine Go1.region ?_
  by_cases h24 : (k1_18 : Int) < ((List.replicate t.length ([] : List Int)).length : Int)
  ·replace H := ifp h24 H
   refine GoR.op ((fun w => opB (op_lss rfl rfl w) (decide_eq_true h24)) _) rfl rfl ?_
   refine GoR.nil ?_
   refine Go1.seq ?_
   refine Go1.condT rfl rfl ?_
   refine Go1.skip ?_
   refine Go1.seq ?_
   refine Go1.block ?_
   refine Go1.seq ?_
   refine Go1.region ?_
   refine GoR.op ((op_move rfl) _) rfl rfl ?_
   refine GoR.op ((op_assign rfl) _) rfl rfl ?_
   refine GoR.nil ?_
   refine Go1.seq ?_
   refine Go1.region ?_
   refine GoR.op ((op_move rfl) _) rfl rfl ?_
   refine GoR.op ((op_move rfl) _) rfl rfl ?_
   refine GoR.op ((op_move rfl) _) rfl rfl ?_
   refine GoR.op ((op_len Try.underlying22 rfl) _) rfl rfl ?_
   obtain ⟨h32, H⟩ := H
   obtain ⟨h33, H⟩ := H
   have hobt := omake (n := (t.length : Int)) (r := Rp.int .i64) (d := (0 : Int)) Try.underlying25 ti3 (fun _ _ => rfl) rfl hO h32 h33 (by decide)
   obtain ⟨w25, p26, vs27, hst28, hE29, hs30, hop31⟩ := hobt
   refine GoR.op (hop31 rfl rfl) rfl rfl ?_
   replace hO := hst28.own
   replace h_t := h_t.ch hst28.ch
   replace hB := hB.trans hst28.fr
   obtain ⟨h35, H⟩ := H
   obtain ⟨h36, H⟩ := H
   refine GoR.op ((op_index Try.underlying22 ti25 rfl rfl h35 (ltn (t2neq 1 hO rfl) h36) (t2some 1 hO rfl h35 h36)) _) rfl rfl ?_
   have hst37 := Stp.front 1 hO rfl
   replace hE29 := hE29.ch hst37.ch
   replace hO := hst37.own
   replace h_t := h_t.ch hst37.ch
   replace hB := hB.trans hst37.fr
   have hst38 := Stp.front 1 hO rfl
   replace hE29 := hE29.ch hst38.ch
   replace hO := hst38.own
   replace h_t := h_t.ch hst38.ch
   replace hB := hB.trans hst38.fr
   have hobt := t2put (hf := (Fl.int .i64)) hO hE29 h35 h36
   obtain ⟨w39, hst40, hop41⟩ := hobt
   refine GoR.op (hop41 Try.underlying25 rfl ti25 rfl rfl) rfl rfl ?_
   replace hO := hst40.own
   replace h_t := h_t.ch hst40.ch
   replace hB := hB.trans hst40.fr
   refine GoR.nil ?_
   refine Go1.seq ?_
   refine Go1.region ?_
   refine GoR.op ((op_move rfl) _) rfl rfl ?_
   refine GoR.op ((op_len Try.underlying22 rfl) _) rfl rfl ?_
   refine GoR.op ((op_move rfl) _) rfl rfl ?_
   refine GoR.nil ?_
   refine Go1.block ?_
   refine Go1.loopW (S := Nat × List (List Int)) (fun s σ w => agrees σ [(0, .slice p_t t.length c_t), (3, .slice p20 n22 c21), (4, .int .i64 (k1_18 : Int)), (13, .int .i64 ((List.replicate t.length ([] : List Int)).length : Int)), (14, .int .i64 (k1_18 : Int)), (24, .int .i64 (t.length : Int)), (25, .int .i64 ((s.1) : Int))] ∧ Owns w0.heap.size w [t2 (Fl.int .i64) 25 3 p20 n22 c21 (hup hs23 (k1_18 : Int).toNat (p26, t.length)) (s.2)] A ∧ ISl (Rp.sl (Rp.int .i64)) (bl [t2 (Fl.int .i64) 25 3 p20 n22 c21 (hup hs23 (k1_18 : Int).toNat (p26, t.length)) (s.2)] ++ A) w p_t c_t t ∧ Fr (bl []) w0 (bl [t2 (Fl.int .i64) 25 3 p20 n22 c21 (hup hs23 (k1_18 : Int).toNat (p26, t.length)) (s.2)]) w) H ⟨⟨rfl, rfl, rfl, rfl, rfl, rfl, rfl, trivial⟩, hO, h_t, hB⟩ ?_
   rintro X2 ⟨k2_43, o2_44⟩ H hX2 σ w42 ⟨hag, hO, h_t, hB⟩
   dsimp only at H
   refine Go1.keep [(0, .slice p_t t.length c_t), (3, .slice p20 n22 c21), (4, .int .i64 (k1_18 : Int)), (13, .int .i64 ((List.replicate t.length ([] : List Int)).length : Int)), (14, .int .i64 (k1_18 : Int)), (24, .int .i64 (t.length : Int)), (25, .int .i64 (k2_43 : Int))] hag ?_
   refine Go1.seq ?_
   refine Go1.region ?_
   by_cases h45 : (k2_43 : Int) < (t.length : Int)
   ·replace H := ifp h45 H
    refine GoR.op ((fun w => opB (op_lss rfl rfl w) (decide_eq_true h45)) _) rfl rfl ?_
    refine GoR.nil ?_
    refine Go1.seq ?_
    refine Go1.condT rfl rfl ?_
    refine Go1.skip ?_
    refine Go1.seq ?_
    refine Go1.block ?_
    refine Go1.seq ?_
    refine Go1.region ?_
    refine GoR.op ((op_move rfl) _) rfl rfl ?_
    refine GoR.op ((op_assign rfl) _) rfl rfl ?_
    refine GoR.nil ?_
    refine Go1.drawS 1 [(0, .pure), (1, .pure), (2, .pure), (3, .stable), (4, .pure), (5, .pure), (6, .pure), (7, .pure), (8, .stable), (9, .pure), (10, .pure), (11, .stable), (12, .pure), (13, .last)] mixed (by kernel_rfl) ?_
    intro w46 hs47
    have hst48 := Stp.same hO hs47
    replace hO := hst48.own
    replace h_t := h_t.ch hst48.ch
    replace hB := hB.trans hst48.fr
    refine GoQ.pure rfl (op_move rfl) rfl rfl ?_
    refine GoQ.pure rfl (op_move rfl) rfl rfl ?_
    obtain ⟨h49, H⟩ := H
    obtain ⟨h50, H⟩ := H
    refine GoQ.pure rfl (op_index Try.underlying22 ti25 rfl rfl h49 (ltn (t2neq 0 hO rfl) h50) (t2some 0 hO rfl h49 h50)) rfl rfl ?_
    refine GoQ.stable rfl (t2head 0 hO rfl h49 h50 Try.underlying25 rfl rfl) rfl rfl ?_
    refine GoQ.pure rfl (op_move rfl) rfl rfl ?_
    refine GoQ.pure rfl (op_move rfl) rfl rfl ?_
    refine GoQ.pure rfl (op_move rfl) rfl rfl ?_
    obtain ⟨h51, H⟩ := H
    obtain ⟨h52, H⟩ := H
    refine GoQ.pure rfl (op_index Try.underlying22 ti25 rfl rfl h51 h52 (h_t.some_ h51 h52)) rfl rfl ?_
    have hobt := ldSl h_t h51 h52
    obtain ⟨p53, c54, hi55, hl56⟩ := hobt
    refine GoQ.stable rfl (hl56 Try.underlying25 rfl rfl) rfl rfl ?_
    refine GoQ.pure rfl (op_move rfl) rfl rfl ?_
    obtain ⟨h57, H⟩ := H
    obtain ⟨h58, H⟩ := H
    refine GoQ.pure rfl (op_index Try.underlying25 ti3 rfl rfl h57 h58 (hi55.some_ h57 h58)) rfl rfl ?_
    refine GoQ.stable rfl (ldInt hi55 h57 h58 Try.underlying3 rfl rfl) rfl rfl ?_
    obtain ⟨h59, H⟩ := H
    obtain ⟨h60, H⟩ := H
    refine GoQ.pure rfl (op_index Try.underlying25 ti3 rfl rfl h59 h60 (t2isome 0 hO rfl h49 h50 h59 h60)) rfl rfl ?_
    have hobt := t2st (r := Rp.int .i64) (hf := (Fl.int .i64)) rfl 0 hO rfl h49 h50 h59 h60 (v := .int .i64 (ix (ix t (k2_43 : Int)) (k1_18 : Int))) (u := (ix (ix t (k2_43 : Int)) (k1_18 : Int))) rfl rfl
    obtain ⟨w61, hst62, hop63⟩ := hobt
    refine GoQ.last rfl (hop63 Try.underlying3 rfl ti3 rfl rfl) rfl rfl ?_
    replace hO := hst62.own
    replace h_t := h_t.ch hst62.ch
    replace hi55 := hi55.ch hst62.ch
    replace hB := hB.trans hst62.fr
    refine GoQ.nil ?_
    refine Go1.inBlock ?_
    refine Go1.region ?_
    refine GoR.op ((op_add rfl rfl (wrap_i64 (natbd h45 h_t.bd))) _) rfl rfl ?_
    refine GoR.op ((op_move rfl) _) rfl rfl ?_
    refine GoR.nil ?_
    exact hX2 _ H _ _ ⟨⟨rfl, rfl, rfl, rfl, rfl, rfl, rfl, trivial⟩, hO, h_t, hB⟩
   ·replace H := ifn h45 H
    refine GoR.op ((fun w => opB (op_lss rfl rfl w) (decide_eq_false h45)) _) rfl rfl ?_
    refine GoR.nil ?_
    refine Go1.seq ?_
    refine Go1.condF rfl rfl ?_
    refine Go1.exit rfl ?_
    refine Go1.inBlock ?_
    refine Go1.region ?_
    obtain ⟨h64, H⟩ := H
    refine GoR.op ((op_add rfl rfl (wrap_i64 h64)) _) rfl rfl ?_
    refine GoR.op ((op_move rfl) _) rfl rfl ?_
    refine GoR.nil ?_
    exact hX1 _ H _ _ ⟨n22, p20, c21, hup hs23 (k1_18 : Int).toNat (p26, t.length), ⟨rfl, rfl, rfl, rfl, trivial⟩, hO, h_t, hB⟩
  ·replace H := ifn h24 H
   refine GoR.op ((fun w => opB (op_lss rfl rfl w) (decide_eq_false h24)) _) rfl rfl ?_
   refine GoR.nil ?_
   refine Go1.seq ?_
   refine Go1.condF rfl rfl ?_
   refine Go1.exit rfl ?_
   refine Go1.seq ?_
   refine Go1.region ?_
   refine GoR.op ((op_move rfl) _) rfl rfl ?_
   refine GoR.op ((op_assign rfl) _) rfl rfl ?_
   refine GoR.nil ?_
   have hobt := t2freezeA 0 hO rfl
   obtain ⟨hO1, hc67, hi65, hn66⟩ := hobt
   replace h_t := h_t.ch hc67
   replace hB := hB.trans (Owns.dropFr _ _ 0)
   replace hO := hO1; clear hO1
   refine Go1.ret1 Try.func32 rfl ?_
   exact ⟨o1_19, p20, c21, (congrArg (fun nn => Value.slice p20 nn c21) hn66), hB.same, (hi65.ch (Ch.weak _ _ _)), H⟩
theorem body8 : Body Try.prog 8 := ⟨Try.f8, Try.func8, rfl, by kernel_rfl⟩
theorem walk_law15_GreenMirrors {A : List Nat} {w0 : World} {p_a0 : Option Addr} {c_a0 : Nat} {a0 : List (List Int)} (hA : ∀ b ∈ A, b < w0.heap.size) (h_a0 : ISl (Rp.sl (Rp.int .i64)) A w0 p_a0 c_a0 a0) {K : Bool → Prop} (H : law15_GreenMirrors a0 K) :
    CallsV Try.prog 8 #[.slice p_a0 a0.length c_a0] w0 (fun v w' => ∃ (r0 : Bool), v = .bool r0 ∧ Same w0 w' ∧ K r0) := by
 refine CallsV.of (l := [.slice p_a0 a0.length c_a0]) Try.func8 rfl Try.ntmps8 rfl ?_
 have hO := Owns.start hA
 have hB := Fr.refl (bl []) w0
 unfold law15_GreenMirrors at H
 replace h_a0 := h_a0.ch (Ch.start A w0)
 refine Go1.seq ?_
 refine Go1.region ?_
 refine GoR.op ((op_assign rfl) _) rfl rfl ?_
 refine GoR.nil ?_
 refine Go1.seq ?_
 refine Go1.seq ?_
 refine Go1.region ?_
 refine GoR.op ((op_move rfl) _) rfl rfl ?_
 refine GoR.call (op_call body19 rfl (walk_law15_small hO.lt h_a0 H)) rfl rfl ?_
 rintro v5 w2 ⟨r1, rfl, hs3, H⟩
 have hst6 := Stp.same hO hs3
 replace hO := hst6.own
 replace h_a0 := h_a0.ch hst6.ch
 replace hB := hB.trans hst6.fr
 cases r1
 ·replace H := ifn Bool.false_ne_true H
  refine GoR.op ((op_not rfl) _) rfl rfl ?_
  refine GoR.nil ?_
  refine Go1.condT rfl rfl ?_
  refine Go1.seq ?_
  refine Go1.region ?_
  refine GoR.call (op_call body14 rfl (walk_law15_awake hO.lt H)) rfl rfl ?_
  rintro v11 w8 ⟨r7, rfl, hs9, H⟩
  have hst12 := Stp.same hO hs9
  replace hO := hst12.own
  replace h_a0 := h_a0.ch hst12.ch
  replace hB := hB.trans hst12.fr
  refine GoR.op ((op_assign rfl) _) rfl rfl ?_
  refine GoR.nil ?_
  refine Go1.ret1 Try.func8 rfl ?_
  exact ⟨r7, rfl, hB.same, H⟩
 ·replace H := ifp rfl H
  refine GoR.op ((op_not rfl) _) rfl rfl ?_
  refine GoR.nil ?_
  refine Go1.condF rfl rfl ?_
  refine Go1.skip ?_
  refine Go1.seq ?_
  refine Go1.region ?_
  refine GoR.op ((op_move rfl) _) rfl rfl ?_
  refine GoR.call (op_call body15 rfl (walk_green_Classes hO.lt h_a0 H)) rfl rfl ?_
  rintro v17 w14 ⟨r13, p_r13_R, c_r13_R, p_r13_L, c_r13_L, p_r13_J, c_r13_J, p_r13_H, c_r13_H, p_r13_Below, c_r13_Below, rfl, hs15, h_r13_R, h_r13_L, h_r13_J, h_r13_H, h_r13_Below, H⟩
  have hst18 := Stp.same hO hs15
  replace hO := hst18.own
  replace h_a0 := h_a0.ch hst18.ch
  replace hB := hB.trans hst18.fr
  refine GoR.op ((op_move rfl) _) rfl rfl ?_
  refine GoR.call (op_call body32 rfl (walk_mult_Opposite hO.lt h_a0 H)) rfl rfl ?_
  rintro v23 w20 ⟨r19, p_r19, c_r19, rfl, hs21, h_r19, H⟩
  have hst24 := Stp.same hO hs21
  replace hO := hst24.own
  replace h_a0 := h_a0.ch hst24.ch
  replace h_r13_R := h_r13_R.ch hst24.ch
  replace h_r13_L := h_r13_L.ch hst24.ch
  replace h_r13_J := h_r13_J.ch hst24.ch
  replace h_r13_H := h_r13_H.ch hst24.ch
  replace h_r13_Below := h_r13_Below.ch hst24.ch
  replace hB := hB.trans hst24.fr
  refine GoR.call (op_call body15 rfl (walk_green_Classes hO.lt h_r19 H)) rfl rfl ?_
  rintro v29 w26 ⟨r25, p_r25_R, c_r25_R, p_r25_L, c_r25_L, p_r25_J, c_r25_J, p_r25_H, c_r25_H, p_r25_Below, c_r25_Below, rfl, hs27, h_r25_R, h_r25_L, h_r25_J, h_r25_H, h_r25_Below, H⟩
  have hst30 := Stp.same hO hs27
  replace hO := hst30.own
  replace h_a0 := h_a0.ch hst30.ch
  replace h_r13_R := h_r13_R.ch hst30.ch
  replace h_r13_L := h_r13_L.ch hst30.ch
  replace h_r13_J := h_r13_J.ch hst30.ch
  replace h_r13_H := h_r13_H.ch hst30.ch
  replace h_r13_Below := h_r13_Below.ch hst30.ch
  replace h_r19 := h_r19.ch hst30.ch
  replace hB := hB.trans hst30.fr
  have hobt := oalloc (t := 28) (cs := #[.slice none 0 0, .slice none 0 0, .slice none 0 0, .slice none 0 0, .slice none 0 0]) ti28 hO rfl
  obtain ⟨w31, B32, hst33, hs34, hop35⟩ := hobt
  refine GoR.op hop35 rfl rfl ?_
  replace hO := hst33.own
  replace h_a0 := h_a0.ch hst33.ch
  replace h_r13_R := h_r13_R.ch hst33.ch
  replace h_r13_L := h_r13_L.ch hst33.ch
  replace h_r13_J := h_r13_J.ch hst33.ch
  replace h_r13_H := h_r13_H.ch hst33.ch
  replace h_r13_Below := h_r13_Below.ch hst33.ch
  replace h_r19 := h_r19.ch hst33.ch
  replace h_r25_R := h_r25_R.ch hst33.ch
  replace h_r25_L := h_r25_L.ch hst33.ch
  replace h_r25_J := h_r25_J.ch hst33.ch
  replace h_r25_H := h_r25_H.ch hst33.ch
  replace h_r25_Below := h_r25_Below.ch hst33.ch
  replace hB := hB.trans hst33.fr
  have hobt := oalloc (t := 28) (cs := #[.slice none 0 0, .slice none 0 0, .slice none 0 0, .slice none 0 0, .slice none 0 0]) ti28 hO rfl
  obtain ⟨w37, B38, hst39, hs40, hop41⟩ := hobt
  refine GoR.op hop41 rfl rfl ?_
  replace hO := hst39.own
  replace h_a0 := h_a0.ch hst39.ch
  replace h_r13_R := h_r13_R.ch hst39.ch
  replace h_r13_L := h_r13_L.ch hst39.ch
  replace h_r13_J := h_r13_J.ch hst39.ch
  replace h_r13_H := h_r13_H.ch hst39.ch
  replace h_r13_Below := h_r13_Below.ch hst39.ch
  replace h_r19 := h_r19.ch hst39.ch
  replace h_r25_R := h_r25_R.ch hst39.ch
  replace h_r25_L := h_r25_L.ch hst39.ch
  replace h_r25_J := h_r25_J.ch hst39.ch
  replace h_r25_H := h_r25_H.ch hst39.ch
  replace h_r25_Below := h_r25_Below.ch hst39.ch
  replace hB := hB.trans hst39.fr
  have hobt := oblkStAgg (us := [.slice p_r13_R r13.R.length c_r13_R, .slice p_r13_L r13.L.length c_r13_L, .slice p_r13_J r13.J.length c_r13_J, .slice p_r13_H r13.H.length c_r13_H, .slice p_r13_Below r13.Below.length c_r13_Below]) (o := 0) (cs' := #[.slice p_r13_R r13.R.length c_r13_R, .slice p_r13_L r13.L.length c_r13_L, .slice p_r13_J r13.J.length c_r13_J, .slice p_r13_H r13.H.length c_r13_H, .slice p_r13_Below r13.Below.length c_r13_Below]) 1 hO rfl rfl (Nat.le_of_ble_eq_true rfl) rfl
  obtain ⟨w43, hst44, hop45⟩ := hobt
  refine GoR.op (hop45 ti28 rfl rfl rfl) rfl rfl ?_
  replace hO := hst44.own
  replace h_a0 := h_a0.ch hst44.ch
  replace h_r13_R := h_r13_R.ch hst44.ch
  replace h_r13_L := h_r13_L.ch hst44.ch
  replace h_r13_J := h_r13_J.ch hst44.ch
  replace h_r13_H := h_r13_H.ch hst44.ch
  replace h_r13_Below := h_r13_Below.ch hst44.ch
  replace h_r19 := h_r19.ch hst44.ch
  replace h_r25_R := h_r25_R.ch hst44.ch
  replace h_r25_L := h_r25_L.ch hst44.ch
  replace h_r25_J := h_r25_J.ch hst44.ch
  replace h_r25_H := h_r25_H.ch hst44.ch
  replace h_r25_Below := h_r25_Below.ch hst44.ch
  replace hB := hB.trans hst44.fr
  have hobt := oblkStAgg (us := [.slice p_r25_R r25.R.length c_r25_R, .slice p_r25_L r25.L.length c_r25_L, .slice p_r25_J r25.J.length c_r25_J, .slice p_r25_H r25.H.length c_r25_H, .slice p_r25_Below r25.Below.length c_r25_Below]) (o := 0) (cs' := #[.slice p_r25_R r25.R.length c_r25_R, .slice p_r25_L r25.L.length c_r25_L, .slice p_r25_J r25.J.length c_r25_J, .slice p_r25_H r25.H.length c_r25_H, .slice p_r25_Below r25.Below.length c_r25_Below]) 0 hO rfl rfl (Nat.le_of_ble_eq_true rfl) rfl
  obtain ⟨w46, hst47, hop48⟩ := hobt
  refine GoR.op (hop48 ti28 rfl rfl rfl) rfl rfl ?_
  replace hO := hst47.own
  replace h_a0 := h_a0.ch hst47.ch
  replace h_r13_R := h_r13_R.ch hst47.ch
  replace h_r13_L := h_r13_L.ch hst47.ch
  replace h_r13_J := h_r13_J.ch hst47.ch
  replace h_r13_H := h_r13_H.ch hst47.ch
  replace h_r13_Below := h_r13_Below.ch hst47.ch
  replace h_r19 := h_r19.ch hst47.ch
  replace h_r25_R := h_r25_R.ch hst47.ch
  replace h_r25_L := h_r25_L.ch hst47.ch
  replace h_r25_J := h_r25_J.ch hst47.ch
  replace h_r25_H := h_r25_H.ch hst47.ch
  replace h_r25_Below := h_r25_Below.ch hst47.ch
  replace hB := hB.trans hst47.fr
  refine GoR.nil ?_
  refine Go1.seq ?_
  refine Go1.seq ?_
  refine Go1.region ?_
  refine GoR.op ((op_fieldAddr Try.underlying28 rfl ti25 rfl (by decide)) _) rfl rfl ?_
  refine GoR.op ((oblk 1 hO rfl rfl Try.underlying25 rfl rfl) _ (Same.refl _)) rfl rfl ?_
  refine GoR.op ((op_len Try.underlying25 rfl) _) rfl rfl ?_
  replace H := H h_r13_J.bd
  refine GoR.op ((op_move rfl) _) rfl rfl ?_
  refine GoR.op ((op_len Try.underlying22 rfl) _) rfl rfl ?_
  replace H := H h_a0.bd
  by_cases h49 : (r13.J.length : Int) = (a0.length : Int)
  ·replace H := ifp h49 H
   refine GoR.op ((fun w => opB (op_neq rfl rfl w) (ndT h49)) _) rfl rfl ?_
   refine GoR.op ((op_move rfl) _) rfl rfl ?_
   refine GoR.op ((op_fieldAddr Try.underlying28 rfl ti26 rfl (by decide)) _) rfl rfl ?_
   refine GoR.op ((oblk 1 hO rfl rfl Try.underlying26 rfl rfl) _ (Same.refl _)) rfl rfl ?_
   refine GoR.op ((op_len Try.underlying26 rfl) _) rfl rfl ?_
   replace H := H h_r13_Below.bd
   refine GoR.op ((op_fieldAddr Try.underlying28 rfl ti26 rfl (by decide)) _) rfl rfl ?_
   refine GoR.op ((oblk 0 hO rfl rfl Try.underlying26 rfl rfl) _ (Same.refl _)) rfl rfl ?_
   refine GoR.op ((op_len Try.underlying26 rfl) _) rfl rfl ?_
   replace H := H h_r25_Below.bd
   by_cases h50 : (r13.Below.length : Int) = (r25.Below.length : Int)
   ·replace H := ifp h50 H
    refine GoR.op ((fun w => opB (op_neq rfl rfl w) (ndT h50)) _) rfl rfl ?_
    refine GoR.op ((op_pickF rfl rfl rfl) _) rfl rfl ?_
    refine GoR.nil ?_
    refine Go1.condF rfl rfl ?_
    refine Go1.skip ?_
    refine Go1.seq ?_
    refine Go1.seq ?_
    refine Go1.region ?_
    refine GoR.op ((op_fieldAddr Try.underlying28 rfl ti26 rfl (by decide)) _) rfl rfl ?_
    refine GoR.op ((oblk 1 hO rfl rfl Try.underlying26 rfl rfl) _ (Same.refl _)) rfl rfl ?_
    refine GoR.op ((op_len Try.underlying26 rfl) _) rfl rfl ?_
    refine GoR.op ((op_move rfl) _) rfl rfl ?_
    refine GoR.nil ?_
    refine Go1.block ?_
    refine Go1.loopW (S := Nat) (fun s σ w => agrees σ [(3, .pointer (some ⟨B32, 0, none⟩)), (4, .pointer (some ⟨B38, 0, none⟩)), (33, .int .i64 (r13.Below.length : Int)), (34, .int .i64 (s : Int))] ∧ Owns w0.heap.size w [.blk B38 (.cells #[.slice p_r25_R r25.R.length c_r25_R, .slice p_r25_L r25.L.length c_r25_L, .slice p_r25_J r25.J.length c_r25_J, .slice p_r25_H r25.H.length c_r25_H, .slice p_r25_Below r25.Below.length c_r25_Below] 28 (0, 0)), .blk B32 (.cells #[.slice p_r13_R r13.R.length c_r13_R, .slice p_r13_L r13.L.length c_r13_L, .slice p_r13_J r13.J.length c_r13_J, .slice p_r13_H r13.H.length c_r13_H, .slice p_r13_Below r13.Below.length c_r13_Below] 28 (0, 0))] A ∧ ISl (Rp.int .i64) (bl [.blk B38 (.cells #[.slice p_r25_R r25.R.length c_r25_R, .slice p_r25_L r25.L.length c_r25_L, .slice p_r25_J r25.J.length c_r25_J, .slice p_r25_H r25.H.length c_r25_H, .slice p_r25_Below r25.Below.length c_r25_Below] 28 (0, 0)), .blk B32 (.cells #[.slice p_r13_R r13.R.length c_r13_R, .slice p_r13_L r13.L.length c_r13_L, .slice p_r13_J r13.J.length c_r13_J, .slice p_r13_H r13.H.length c_r13_H, .slice p_r13_Below r13.Below.length c_r13_Below] 28 (0, 0))] ++ A) w p_r13_R c_r13_R r13.R ∧ ISl (Rp.int .i64) (bl [.blk B38 (.cells #[.slice p_r25_R r25.R.length c_r25_R, .slice p_r25_L r25.L.length c_r25_L, .slice p_r25_J r25.J.length c_r25_J, .slice p_r25_H r25.H.length c_r25_H, .slice p_r25_Below r25.Below.length c_r25_Below] 28 (0, 0)), .blk B32 (.cells #[.slice p_r13_R r13.R.length c_r13_R, .slice p_r13_L r13.L.length c_r13_L, .slice p_r13_J r13.J.length c_r13_J, .slice p_r13_H r13.H.length c_r13_H, .slice p_r13_Below r13.Below.length c_r13_Below] 28 (0, 0))] ++ A) w p_r13_L c_r13_L r13.L ∧ ISl (Rp.int .i64) (bl [.blk B38 (.cells #[.slice p_r25_R r25.R.length c_r25_R, .slice p_r25_L r25.L.length c_r25_L, .slice p_r25_J r25.J.length c_r25_J, .slice p_r25_H r25.H.length c_r25_H, .slice p_r25_Below r25.Below.length c_r25_Below] 28 (0, 0)), .blk B32 (.cells #[.slice p_r13_R r13.R.length c_r13_R, .slice p_r13_L r13.L.length c_r13_L, .slice p_r13_J r13.J.length c_r13_J, .slice p_r13_H r13.H.length c_r13_H, .slice p_r13_Below r13.Below.length c_r13_Below] 28 (0, 0))] ++ A) w p_r13_J c_r13_J r13.J ∧ ISl (Rp.int .i64) (bl [.blk B38 (.cells #[.slice p_r25_R r25.R.length c_r25_R, .slice p_r25_L r25.L.length c_r25_L, .slice p_r25_J r25.J.length c_r25_J, .slice p_r25_H r25.H.length c_r25_H, .slice p_r25_Below r25.Below.length c_r25_Below] 28 (0, 0)), .blk B32 (.cells #[.slice p_r13_R r13.R.length c_r13_R, .slice p_r13_L r13.L.length c_r13_L, .slice p_r13_J r13.J.length c_r13_J, .slice p_r13_H r13.H.length c_r13_H, .slice p_r13_Below r13.Below.length c_r13_Below] 28 (0, 0))] ++ A) w p_r13_H c_r13_H r13.H ∧ ISl (Rp.sl (Rp.bool)) (bl [.blk B38 (.cells #[.slice p_r25_R r25.R.length c_r25_R, .slice p_r25_L r25.L.length c_r25_L, .slice p_r25_J r25.J.length c_r25_J, .slice p_r25_H r25.H.length c_r25_H, .slice p_r25_Below r25.Below.length c_r25_Below] 28 (0, 0)), .blk B32 (.cells #[.slice p_r13_R r13.R.length c_r13_R, .slice p_r13_L r13.L.length c_r13_L, .slice p_r13_J r13.J.length c_r13_J, .slice p_r13_H r13.H.length c_r13_H, .slice p_r13_Below r13.Below.length c_r13_Below] 28 (0, 0))] ++ A) w p_r13_Below c_r13_Below r13.Below ∧ ISl (Rp.int .i64) (bl [.blk B38 (.cells #[.slice p_r25_R r25.R.length c_r25_R, .slice p_r25_L r25.L.length c_r25_L, .slice p_r25_J r25.J.length c_r25_J, .slice p_r25_H r25.H.length c_r25_H, .slice p_r25_Below r25.Below.length c_r25_Below] 28 (0, 0)), .blk B32 (.cells #[.slice p_r13_R r13.R.length c_r13_R, .slice p_r13_L r13.L.length c_r13_L, .slice p_r13_J r13.J.length c_r13_J, .slice p_r13_H r13.H.length c_r13_H, .slice p_r13_Below r13.Below.length c_r13_Below] 28 (0, 0))] ++ A) w p_r25_R c_r25_R r25.R ∧ ISl (Rp.int .i64) (bl [.blk B38 (.cells #[.slice p_r25_R r25.R.length c_r25_R, .slice p_r25_L r25.L.length c_r25_L, .slice p_r25_J r25.J.length c_r25_J, .slice p_r25_H r25.H.length c_r25_H, .slice p_r25_Below r25.Below.length c_r25_Below] 28 (0, 0)), .blk B32 (.cells #[.slice p_r13_R r13.R.length c_r13_R, .slice p_r13_L r13.L.length c_r13_L, .slice p_r13_J r13.J.length c_r13_J, .slice p_r13_H r13.H.length c_r13_H, .slice p_r13_Below r13.Below.length c_r13_Below] 28 (0, 0))] ++ A) w p_r25_L c_r25_L r25.L ∧ ISl (Rp.int .i64) (bl [.blk B38 (.cells #[.slice p_r25_R r25.R.length c_r25_R, .slice p_r25_L r25.L.length c_r25_L, .slice p_r25_J r25.J.length c_r25_J, .slice p_r25_H r25.H.length c_r25_H, .slice p_r25_Below r25.Below.length c_r25_Below] 28 (0, 0)), .blk B32 (.cells #[.slice p_r13_R r13.R.length c_r13_R, .slice p_r13_L r13.L.length c_r13_L, .slice p_r13_J r13.J.length c_r13_J, .slice p_r13_H r13.H.length c_r13_H, .slice p_r13_Below r13.Below.length c_r13_Below] 28 (0, 0))] ++ A) w p_r25_J c_r25_J r25.J ∧ ISl (Rp.int .i64) (bl [.blk B38 (.cells #[.slice p_r25_R r25.R.length c_r25_R, .slice p_r25_L r25.L.length c_r25_L, .slice p_r25_J r25.J.length c_r25_J, .slice p_r25_H r25.H.length c_r25_H, .slice p_r25_Below r25.Below.length c_r25_Below] 28 (0, 0)), .blk B32 (.cells #[.slice p_r13_R r13.R.length c_r13_R, .slice p_r13_L r13.L.length c_r13_L, .slice p_r13_J r13.J.length c_r13_J, .slice p_r13_H r13.H.length c_r13_H, .slice p_r13_Below r13.Below.length c_r13_Below] 28 (0, 0))] ++ A) w p_r25_H c_r25_H r25.H ∧ ISl (Rp.sl (Rp.bool)) (bl [.blk B38 (.cells #[.slice p_r25_R r25.R.length c_r25_R, .slice p_r25_L r25.L.length c_r25_L, .slice p_r25_J r25.J.length c_r25_J, .slice p_r25_H r25.H.length c_r25_H, .slice p_r25_Below r25.Below.length c_r25_Below] 28 (0, 0)), .blk B32 (.cells #[.slice p_r13_R r13.R.length c_r13_R, .slice p_r13_L r13.L.length c_r13_L, .slice p_r13_J r13.J.length c_r13_J, .slice p_r13_H r13.H.length c_r13_H, .slice p_r13_Below r13.Below.length c_r13_Below] 28 (0, 0))] ++ A) w p_r25_Below c_r25_Below r25.Below ∧ Fr (bl []) w0 (bl [.blk B38 (.cells #[.slice p_r25_R r25.R.length c_r25_R, .slice p_r25_L r25.L.length c_r25_L, .slice p_r25_J r25.J.length c_r25_J, .slice p_r25_H r25.H.length c_r25_H, .slice p_r25_Below r25.Below.length c_r25_Below] 28 (0, 0)), .blk B32 (.cells #[.slice p_r13_R r13.R.length c_r13_R, .slice p_r13_L r13.L.length c_r13_L, .slice p_r13_J r13.J.length c_r13_J, .slice p_r13_H r13.H.length c_r13_H, .slice p_r13_Below r13.Below.length c_r13_Below] 28 (0, 0))]) w) H ⟨⟨rfl, rfl, rfl, rfl, trivial⟩, hO, h_r13_R, h_r13_L, h_r13_J, h_r13_H, h_r13_Below, h_r25_R, h_r25_L, h_r25_J, h_r25_H, h_r25_Below, hB⟩ ?_
    rintro X1 k1_52 H hX1 σ w51 ⟨hag, hO, h_r13_R, h_r13_L, h_r13_J, h_r13_H, h_r13_Below, h_r25_R, h_r25_L, h_r25_J, h_r25_H, h_r25_Below, hB⟩
    refine Go1.keep [(3, .pointer (some ⟨B32, 0, none⟩)), (4, .pointer (some ⟨B38, 0, none⟩)), (33, .int .i64 (r13.Below.length : Int)), (34, .int .i64 (k1_52 : Int))] hag ?_
    refine Go1.seq ?_
    refine Go1.region ?_
    by_cases h53 : (k1_52 : Int) < (r13.Below.length : Int)
    ·replace H := ifp h53 H
     refine GoR.op ((fun w => opB (op_lss rfl rfl w) (decide_eq_true h53)) _) rfl rfl ?_
     refine GoR.nil ?_
     refine Go1.seq ?_
     refine Go1.condT rfl rfl ?_
     refine Go1.skip ?_
     refine Go1.seq ?_
     refine Go1.block ?_
     refine Go1.seq ?_
     refine Go1.region ?_
     refine GoR.op ((op_move rfl) _) rfl rfl ?_
     refine GoR.op ((op_assign rfl) _) rfl rfl ?_
     refine GoR.nil ?_
     refine Go1.seq ?_
     refine Go1.region ?_
     refine GoR.op ((op_fieldAddr Try.underlying28 rfl ti26 rfl (by decide)) _) rfl rfl ?_
     refine GoR.op ((oblk 1 hO rfl rfl Try.underlying26 rfl rfl) _ (Same.refl _)) rfl rfl ?_
     refine GoR.op ((op_move rfl) _) rfl rfl ?_
     obtain ⟨h54, H⟩ := H
     obtain ⟨h55, H⟩ := H
     refine GoR.op ((op_index Try.underlying26 ti38 rfl rfl h54 h55 (h_r13_Below.some_ h54 h55)) _) rfl rfl ?_
     have hobt := ldSl h_r13_Below h54 h55
     obtain ⟨p56, c57, hi58, hl59⟩ := hobt
     refine GoR.op ((hl59 Try.underlying38 rfl rfl) _ (Same.refl _)) rfl rfl ?_
     refine GoR.op ((op_len Try.underlying38 rfl) _) rfl rfl ?_
     replace H := H hi58.bd
     refine GoR.op ((op_move rfl) _) rfl rfl ?_
     refine GoR.nil ?_
     refine Go1.block ?_
     refine Go1.loopW (S := Nat) (fun s σ w => agrees σ [(3, .pointer (some ⟨B32, 0, none⟩)), (4, .pointer (some ⟨B38, 0, none⟩)), (5, .int .i64 (k1_52 : Int)), (33, .int .i64 (r13.Below.length : Int)), (34, .int .i64 (k1_52 : Int)), (42, .int .i64 ((ix r13.Below (k1_52 : Int)).length : Int)), (43, .int .i64 (s : Int))] ∧ Owns w0.heap.size w [.blk B38 (.cells #[.slice p_r25_R r25.R.length c_r25_R, .slice p_r25_L r25.L.length c_r25_L, .slice p_r25_J r25.J.length c_r25_J, .slice p_r25_H r25.H.length c_r25_H, .slice p_r25_Below r25.Below.length c_r25_Below] 28 (0, 0)), .blk B32 (.cells #[.slice p_r13_R r13.R.length c_r13_R, .slice p_r13_L r13.L.length c_r13_L, .slice p_r13_J r13.J.length c_r13_J, .slice p_r13_H r13.H.length c_r13_H, .slice p_r13_Below r13.Below.length c_r13_Below] 28 (0, 0))] A ∧ ISl (Rp.int .i64) (bl [.blk B38 (.cells #[.slice p_r25_R r25.R.length c_r25_R, .slice p_r25_L r25.L.length c_r25_L, .slice p_r25_J r25.J.length c_r25_J, .slice p_r25_H r25.H.length c_r25_H, .slice p_r25_Below r25.Below.length c_r25_Below] 28 (0, 0)), .blk B32 (.cells #[.slice p_r13_R r13.R.length c_r13_R, .slice p_r13_L r13.L.length c_r13_L, .slice p_r13_J r13.J.length c_r13_J, .slice p_r13_H r13.H.length c_r13_H, .slice p_r13_Below r13.Below.length c_r13_Below] 28 (0, 0))] ++ A) w p_r13_R c_r13_R r13.R ∧ ISl (Rp.int .i64) (bl [.blk B38 (.cells #[.slice p_r25_R r25.R.length c_r25_R, .slice p_r25_L r25.L.length c_r25_L, .slice p_r25_J r25.J.length c_r25_J, .slice p_r25_H r25.H.length c_r25_H, .slice p_r25_Below r25.Below.length c_r25_Below] 28 (0, 0)), .blk B32 (.cells #[.slice p_r13_R r13.R.length c_r13_R, .slice p_r13_L r13.L.length c_r13_L, .slice p_r13_J r13.J.length c_r13_J, .slice p_r13_H r13.H.length c_r13_H, .slice p_r13_Below r13.Below.length c_r13_Below] 28 (0, 0))] ++ A) w p_r13_L c_r13_L r13.L ∧ ISl (Rp.int .i64) (bl [.blk B38 (.cells #[.slice p_r25_R r25.R.length c_r25_R, .slice p_r25_L r25.L.length c_r25_L, .slice p_r25_J r25.J.length c_r25_J, .slice p_r25_H r25.H.length c_r25_H, .slice p_r25_Below r25.Below.length c_r25_Below] 28 (0, 0)), .blk B32 (.cells #[.slice p_r13_R r13.R.length c_r13_R, .slice p_r13_L r13.L.length c_r13_L, .slice p_r13_J r13.J.length c_r13_J, .slice p_r13_H r13.H.length c_r13_H, .slice p_r13_Below r13.Below.length c_r13_Below] 28 (0, 0))] ++ A) w p_r13_J c_r13_J r13.J ∧ ISl (Rp.int .i64) (bl [.blk B38 (.cells #[.slice p_r25_R r25.R.length c_r25_R, .slice p_r25_L r25.L.length c_r25_L, .slice p_r25_J r25.J.length c_r25_J, .slice p_r25_H r25.H.length c_r25_H, .slice p_r25_Below r25.Below.length c_r25_Below] 28 (0, 0)), .blk B32 (.cells #[.slice p_r13_R r13.R.length c_r13_R, .slice p_r13_L r13.L.length c_r13_L, .slice p_r13_J r13.J.length c_r13_J, .slice p_r13_H r13.H.length c_r13_H, .slice p_r13_Below r13.Below.length c_r13_Below] 28 (0, 0))] ++ A) w p_r13_H c_r13_H r13.H ∧ ISl (Rp.sl (Rp.bool)) (bl [.blk B38 (.cells #[.slice p_r25_R r25.R.length c_r25_R, .slice p_r25_L r25.L.length c_r25_L, .slice p_r25_J r25.J.length c_r25_J, .slice p_r25_H r25.H.length c_r25_H, .slice p_r25_Below r25.Below.length c_r25_Below] 28 (0, 0)), .blk B32 (.cells #[.slice p_r13_R r13.R.length c_r13_R, .slice p_r13_L r13.L.length c_r13_L, .slice p_r13_J r13.J.length c_r13_J, .slice p_r13_H r13.H.length c_r13_H, .slice p_r13_Below r13.Below.length c_r13_Below] 28 (0, 0))] ++ A) w p_r13_Below c_r13_Below r13.Below ∧ ISl (Rp.int .i64) (bl [.blk B38 (.cells #[.slice p_r25_R r25.R.length c_r25_R, .slice p_r25_L r25.L.length c_r25_L, .slice p_r25_J r25.J.length c_r25_J, .slice p_r25_H r25.H.length c_r25_H, .slice p_r25_Below r25.Below.length c_r25_Below] 28 (0, 0)), .blk B32 (.cells #[.slice p_r13_R r13.R.length c_r13_R, .slice p_r13_L r13.L.length c_r13_L, .slice p_r13_J r13.J.length c_r13_J, .slice p_r13_H r13.H.length c_r13_H, .slice p_r13_Below r13.Below.length c_r13_Below] 28 (0, 0))] ++ A) w p_r25_R c_r25_R r25.R ∧ ISl (Rp.int .i64) (bl [.blk B38 (.cells #[.slice p_r25_R r25.R.length c_r25_R, .slice p_r25_L r25.L.length c_r25_L, .slice p_r25_J r25.J.length c_r25_J, .slice p_r25_H r25.H.length c_r25_H, .slice p_r25_Below r25.Below.length c_r25_Below] 28 (0, 0)), .blk B32 (.cells #[.slice p_r13_R r13.R.length c_r13_R, .slice p_r13_L r13.L.length c_r13_L, .slice p_r13_J r13.J.length c_r13_J, .slice p_r13_H r13.H.length c_r13_H, .slice p_r13_Below r13.Below.length c_r13_Below] 28 (0, 0))] ++ A) w p_r25_L c_r25_L r25.L ∧ ISl (Rp.int .i64) (bl [.blk B38 (.cells #[.slice p_r25_R r25.R.length c_r25_R, .slice p_r25_L r25.L.length c_r25_L, .slice p_r25_J r25.J.length c_r25_J, .slice p_r25_H r25.H.length c_r25_H, .slice p_r25_Below r25.Below.length c_r25_Below] 28 (0, 0)), .blk B32 (.cells #[.slice p_r13_R r13.R.length c_r13_R, .slice p_r13_L r13.L.length c_r13_L, .slice p_r13_J r13.J.length c_r13_J, .slice p_r13_H r13.H.length c_r13_H, .slice p_r13_Below r13.Below.length c_r13_Below] 28 (0, 0))] ++ A) w p_r25_J c_r25_J r25.J ∧ ISl (Rp.int .i64) (bl [.blk B38 (.cells #[.slice p_r25_R r25.R.length c_r25_R, .slice p_r25_L r25.L.length c_r25_L, .slice p_r25_J r25.J.length c_r25_J, .slice p_r25_H r25.H.length c_r25_H, .slice p_r25_Below r25.Below.length c_r25_Below] 28 (0, 0)), .blk B32 (.cells #[.slice p_r13_R r13.R.length c_r13_R, .slice p_r13_L r13.L.length c_r13_L, .slice p_r13_J r13.J.length c_r13_J, .slice p_r13_H r13.H.length c_r13_H, .slice p_r13_Below r13.Below.length c_r13_Below] 28 (0, 0))] ++ A) w p_r25_H c_r25_H r25.H ∧ ISl (Rp.sl (Rp.bool)) (bl [.blk B38 (.cells #[.slice p_r25_R r25.R.length c_r25_R, .slice p_r25_L r25.L.length c_r25_L, .slice p_r25_J r25.J.length c_r25_J, .slice p_r25_H r25.H.length c_r25_H, .slice p_r25_Below r25.Below.length c_r25_Below] 28 (0, 0)), .blk B32 (.cells #[.slice p_r13_R r13.R.length c_r13_R, .slice p_r13_L r13.L.length c_r13_L, .slice p_r13_J r13.J.length c_r13_J, .slice p_r13_H r13.H.length c_r13_H, .slice p_r13_Below r13.Below.length c_r13_Below] 28 (0, 0))] ++ A) w p_r25_Below c_r25_Below r25.Below ∧ Fr (bl []) w0 (bl [.blk B38 (.cells #[.slice p_r25_R r25.R.length c_r25_R, .slice p_r25_L r25.L.length c_r25_L, .slice p_r25_J r25.J.length c_r25_J, .slice p_r25_H r25.H.length c_r25_H, .slice p_r25_Below r25.Below.length c_r25_Below] 28 (0, 0)), .blk B32 (.cells #[.slice p_r13_R r13.R.length c_r13_R, .slice p_r13_L r13.L.length c_r13_L, .slice p_r13_J r13.J.length c_r13_J, .slice p_r13_H r13.H.length c_r13_H, .slice p_r13_Below r13.Below.length c_r13_Below] 28 (0, 0))]) w) H ⟨⟨rfl, rfl, rfl, rfl, rfl, rfl, rfl, trivial⟩, hO, h_r13_R, h_r13_L, h_r13_J, h_r13_H, h_r13_Below, h_r25_R, h_r25_L, h_r25_J, h_r25_H, h_r25_Below, hB⟩ ?_
     rintro X2 k2_61 H hX2 σ w60 ⟨hag, hO, h_r13_R, h_r13_L, h_r13_J, h_r13_H, h_r13_Below, h_r25_R, h_r25_L, h_r25_J, h_r25_H, h_r25_Below, hB⟩
     refine Go1.keep [(3, .pointer (some ⟨B32, 0, none⟩)), (4, .pointer (some ⟨B38, 0, none⟩)), (5, .int .i64 (k1_52 : Int)), (33, .int .i64 (r13.Below.length : Int)), (34, .int .i64 (k1_52 : Int)), (42, .int .i64 ((ix r13.Below (k1_52 : Int)).length : Int)), (43, .int .i64 (k2_61 : Int))] hag ?_
     refine Go1.seq ?_
     refine Go1.region ?_
     by_cases h62 : (k2_61 : Int) < ((ix r13.Below (k1_52 : Int)).length : Int)
     ·replace H := ifp h62 H
      refine GoR.op ((fun w => opB (op_lss rfl rfl w) (decide_eq_true h62)) _) rfl rfl ?_
      refine GoR.nil ?_
      refine Go1.seq ?_
      refine Go1.condT rfl rfl ?_
      refine Go1.skip ?_
      refine Go1.seq ?_
      refine Go1.block ?_
      refine Go1.seq ?_
      refine Go1.region ?_
      refine GoR.op ((op_move rfl) _) rfl rfl ?_
      refine GoR.op ((op_assign rfl) _) rfl rfl ?_
      refine GoR.nil ?_
      refine Go1.seq ?_
      refine Go1.drawS 0 [(0, .pure), (1, .stable), (2, .pure), (3, .pure), (4, .stable), (5, .pure), (6, .pure), (7, .pure), (8, .pure), (9, .pure), (10, .stable), (11, .pure), (12, .pure), (13, .stable), (14, .pure), (15, .pure), (16, .stable), (17, .pure), (18, .stable), (19, .pure), (20, .pure), (21, .stable), (22, .pure), (23, .pure), (24, .stable), (25, .pure), (26, .pure)] mixed (by kernel_rfl) ?_
      intro w63 hs64
      have hst65 := Stp.same hO hs64
      replace hO := hst65.own
      replace h_r13_R := h_r13_R.ch hst65.ch
      replace h_r13_L := h_r13_L.ch hst65.ch
      replace h_r13_J := h_r13_J.ch hst65.ch
      replace h_r13_H := h_r13_H.ch hst65.ch
      replace h_r13_Below := h_r13_Below.ch hst65.ch
      replace h_r25_R := h_r25_R.ch hst65.ch
      replace h_r25_L := h_r25_L.ch hst65.ch
      replace h_r25_J := h_r25_J.ch hst65.ch
      replace h_r25_H := h_r25_H.ch hst65.ch
      replace h_r25_Below := h_r25_Below.ch hst65.ch
      replace hB := hB.trans hst65.fr
      refine GoQ.pure rfl (op_fieldAddr Try.underlying28 rfl ti26 rfl (by decide)) rfl rfl ?_
      refine GoQ.stable rfl (oblk 0 hO rfl rfl Try.underlying26 rfl rfl) rfl rfl ?_
      refine GoQ.pure rfl (op_move rfl) rfl rfl ?_
      obtain ⟨h66, H⟩ := H
      obtain ⟨h67, H⟩ := H
      refine GoQ.pure rfl (op_index Try.underlying26 ti38 rfl rfl h66 h67 (h_r25_Below.some_ h66 h67)) rfl rfl ?_
      have hobt := ldSl h_r25_Below h66 h67
      obtain ⟨p68, c69, hi70, hl71⟩ := hobt
      refine GoQ.stable rfl (hl71 Try.underlying38 rfl rfl) rfl rfl ?_
      refine GoQ.pure rfl (op_len Try.underlying38 rfl) rfl rfl ?_
      replace H := H hi70.bd
      refine GoQ.pure rfl (op_move rfl) rfl rfl ?_
      by_cases h72 : ((ix r25.Below (k1_52 : Int)).length : Int) ≤ (k2_61 : Int)
      ·replace H := ifp h72 H
       refine GoQ.pure rfl (fun w => opB (op_leq rfl rfl w) (decide_eq_true h72)) rfl rfl ?_
       refine GoQ.pure rfl (op_move rfl) rfl rfl ?_
       refine GoQ.pass rfl rfl rfl ?_
       refine GoQ.pass rfl rfl rfl ?_
       refine GoQ.pass rfl rfl rfl ?_
       refine GoQ.pass rfl rfl rfl ?_
       refine GoQ.pass rfl rfl rfl ?_
       refine GoQ.pass rfl rfl rfl ?_
       refine GoQ.pass rfl rfl rfl ?_
       refine GoQ.pass rfl rfl rfl ?_
       refine GoQ.pass rfl rfl rfl ?_
       refine GoQ.pass rfl rfl rfl ?_
       refine GoQ.pass rfl rfl rfl ?_
       refine GoQ.pass rfl rfl rfl ?_
       refine GoQ.pass rfl rfl rfl ?_
       refine GoQ.pass rfl rfl rfl ?_
       refine GoQ.pass rfl rfl rfl ?_
       refine GoQ.pass rfl rfl rfl ?_
       refine GoQ.pass rfl rfl rfl ?_
       refine GoQ.pure rfl (op_pickT rfl rfl rfl) rfl rfl ?_
       refine GoQ.nil ?_
       refine Go1.condT rfl rfl ?_
       refine Go1.seq ?_
       refine Go1.region ?_
       refine GoR.op ((op_assign rfl) _) rfl rfl ?_
       refine GoR.nil ?_
       refine Go1.ret1 Try.func8 rfl ?_
       exact ⟨false, rfl, hB.same, H⟩
      ·replace H := ifn h72 H
       refine GoQ.pure rfl (fun w => opB (op_leq rfl rfl w) (decide_eq_false h72)) rfl rfl ?_
       refine GoQ.pure rfl (op_move rfl) rfl rfl ?_
       refine GoQ.pure rfl (op_fieldAddr Try.underlying28 rfl ti26 rfl (by decide)) rfl rfl ?_
       refine GoQ.stable rfl (oblk 1 hO rfl rfl Try.underlying26 rfl rfl) rfl rfl ?_
       refine GoQ.pure rfl (op_move rfl) rfl rfl ?_
       obtain ⟨h73, H⟩ := H
       obtain ⟨h74, H⟩ := H
       refine GoQ.pure rfl (op_index Try.underlying26 ti38 rfl rfl h73 h74 (h_r13_Below.some_ h73 h74)) rfl rfl ?_
       have hobt := ldSl h_r13_Below h73 h74
       obtain ⟨p75, c76, hi77, hl78⟩ := hobt
       refine GoQ.stable rfl (hl78 Try.underlying38 rfl rfl) rfl rfl ?_
       refine GoQ.pure rfl (op_move rfl) rfl rfl ?_
       obtain ⟨h79, H⟩ := H
       obtain ⟨h80, H⟩ := H
       refine GoQ.pure rfl (op_index Try.underlying38 ti4 rfl rfl h79 h80 (hi77.some_ h79 h80)) rfl rfl ?_
       by_cases h81 : ix (ix r13.Below (k1_52 : Int)) (k2_61 : Int) = true
       ·replace H := ifp h81 H
        refine GoQ.stable rfl (fun w hw => opB ((ldBool hi77 h79 h80 Try.underlying4 rfl rfl) w hw) (h81)) rfl rfl ?_
        refine GoQ.pure rfl (op_fieldAddr Try.underlying28 rfl ti26 rfl (by decide)) rfl rfl ?_
        refine GoQ.stable rfl (oblk 0 hO rfl rfl Try.underlying26 rfl rfl) rfl rfl ?_
        refine GoQ.pure rfl (op_move rfl) rfl rfl ?_
        obtain ⟨h82, H⟩ := H
        obtain ⟨h83, H⟩ := H
        refine GoQ.pure rfl (op_index Try.underlying26 ti38 rfl rfl h82 h83 (h_r25_Below.some_ h82 h83)) rfl rfl ?_
        have hobt := ldSl h_r25_Below h82 h83
        obtain ⟨p84, c85, hi86, hl87⟩ := hobt
        refine GoQ.stable rfl (hl87 Try.underlying38 rfl rfl) rfl rfl ?_
        refine GoQ.pure rfl (op_move rfl) rfl rfl ?_
        obtain ⟨h88, H⟩ := H
        obtain ⟨h89, H⟩ := H
        refine GoQ.pure rfl (op_index Try.underlying38 ti4 rfl rfl h88 h89 (hi86.some_ h88 h89)) rfl rfl ?_
        by_cases h90 : ix (ix r25.Below (k1_52 : Int)) (k2_61 : Int) = true
        ·replace H := ifp h90 H
         refine GoQ.stable rfl (fun w hw => opB ((ldBool hi86 h88 h89 Try.underlying4 rfl rfl) w hw) (h90)) rfl rfl ?_
         refine GoQ.pure rfl (op_neqB Try.underlying4 rfl rfl) rfl rfl ?_
         refine GoQ.pure rfl (op_pickF rfl rfl rfl) rfl rfl ?_
         refine GoQ.nil ?_
         refine Go1.condF rfl rfl ?_
         refine Go1.skip ?_
         refine Go1.inBlock ?_
         refine Go1.region ?_
         refine GoR.op ((op_add rfl rfl (wrap_i64 (natbd h62 hi77.bd))) _) rfl rfl ?_
         refine GoR.op ((op_move rfl) _) rfl rfl ?_
         refine GoR.nil ?_
         exact hX2 _ H _ _ ⟨⟨rfl, rfl, rfl, rfl, rfl, rfl, rfl, trivial⟩, hO, h_r13_R, h_r13_L, h_r13_J, h_r13_H, h_r13_Below, h_r25_R, h_r25_L, h_r25_J, h_r25_H, h_r25_Below, hB⟩
        ·replace H := ifn h90 H
         refine GoQ.stable rfl (fun w hw => opB ((ldBool hi86 h88 h89 Try.underlying4 rfl rfl) w hw) (Bool.eq_false_iff.2 h90)) rfl rfl ?_
         refine GoQ.pure rfl (op_neqB Try.underlying4 rfl rfl) rfl rfl ?_
         refine GoQ.pure rfl (op_pickF rfl rfl rfl) rfl rfl ?_
         refine GoQ.nil ?_
         refine Go1.condT rfl rfl ?_
         refine Go1.seq ?_
         refine Go1.region ?_
         refine GoR.op ((op_assign rfl) _) rfl rfl ?_
         refine GoR.nil ?_
         refine Go1.ret1 Try.func8 rfl ?_
         exact ⟨false, rfl, hB.same, H⟩
       ·replace H := ifn h81 H
        refine GoQ.stable rfl (fun w hw => opB ((ldBool hi77 h79 h80 Try.underlying4 rfl rfl) w hw) (Bool.eq_false_iff.2 h81)) rfl rfl ?_
        refine GoQ.pure rfl (op_fieldAddr Try.underlying28 rfl ti26 rfl (by decide)) rfl rfl ?_
        refine GoQ.stable rfl (oblk 0 hO rfl rfl Try.underlying26 rfl rfl) rfl rfl ?_
        refine GoQ.pure rfl (op_move rfl) rfl rfl ?_
        obtain ⟨h91, H⟩ := H
        obtain ⟨h92, H⟩ := H
        refine GoQ.pure rfl (op_index Try.underlying26 ti38 rfl rfl h91 h92 (h_r25_Below.some_ h91 h92)) rfl rfl ?_
        have hobt := ldSl h_r25_Below h91 h92
        obtain ⟨p93, c94, hi95, hl96⟩ := hobt
        refine GoQ.stable rfl (hl96 Try.underlying38 rfl rfl) rfl rfl ?_
        refine GoQ.pure rfl (op_move rfl) rfl rfl ?_
        obtain ⟨h97, H⟩ := H
        obtain ⟨h98, H⟩ := H
        refine GoQ.pure rfl (op_index Try.underlying38 ti4 rfl rfl h97 h98 (hi95.some_ h97 h98)) rfl rfl ?_
        by_cases h99 : ix (ix r25.Below (k1_52 : Int)) (k2_61 : Int) = true
        ·replace H := ifp h99 H
         refine GoQ.stable rfl (fun w hw => opB ((ldBool hi95 h97 h98 Try.underlying4 rfl rfl) w hw) (h99)) rfl rfl ?_
         refine GoQ.pure rfl (op_neqB Try.underlying4 rfl rfl) rfl rfl ?_
         refine GoQ.pure rfl (op_pickF rfl rfl rfl) rfl rfl ?_
         refine GoQ.nil ?_
         refine Go1.condT rfl rfl ?_
         refine Go1.seq ?_
         refine Go1.region ?_
         refine GoR.op ((op_assign rfl) _) rfl rfl ?_
         refine GoR.nil ?_
         refine Go1.ret1 Try.func8 rfl ?_
         exact ⟨false, rfl, hB.same, H⟩
        ·replace H := ifn h99 H
         refine GoQ.stable rfl (fun w hw => opB ((ldBool hi95 h97 h98 Try.underlying4 rfl rfl) w hw) (Bool.eq_false_iff.2 h99)) rfl rfl ?_
         refine GoQ.pure rfl (op_neqB Try.underlying4 rfl rfl) rfl rfl ?_
         refine GoQ.pure rfl (op_pickF rfl rfl rfl) rfl rfl ?_
         refine GoQ.nil ?_
         refine Go1.condF rfl rfl ?_
         refine Go1.skip ?_
         refine Go1.inBlock ?_
         refine Go1.region ?_
         refine GoR.op ((op_add rfl rfl (wrap_i64 (natbd h62 hi77.bd))) _) rfl rfl ?_
         refine GoR.op ((op_move rfl) _) rfl rfl ?_
         refine GoR.nil ?_
         exact hX2 _ H _ _ ⟨⟨rfl, rfl, rfl, rfl, rfl, rfl, rfl, trivial⟩, hO, h_r13_R, h_r13_L, h_r13_J, h_r13_H, h_r13_Below, h_r25_R, h_r25_L, h_r25_J, h_r25_H, h_r25_Below, hB⟩
     ·replace H := ifn h62 H
      refine GoR.op ((fun w => opB (op_lss rfl rfl w) (decide_eq_false h62)) _) rfl rfl ?_
      refine GoR.nil ?_
      refine Go1.seq ?_
      refine Go1.condF rfl rfl ?_
      refine Go1.exit rfl ?_
      refine Go1.inBlock ?_
      refine Go1.region ?_
      refine GoR.op ((op_add rfl rfl (wrap_i64 (natbd h53 h_r13_Below.bd))) _) rfl rfl ?_
      refine GoR.op ((op_move rfl) _) rfl rfl ?_
      refine GoR.nil ?_
      exact hX1 _ H _ _ ⟨⟨rfl, rfl, rfl, rfl, trivial⟩, hO, h_r13_R, h_r13_L, h_r13_J, h_r13_H, h_r13_Below, h_r25_R, h_r25_L, h_r25_J, h_r25_H, h_r25_Below, hB⟩
    ·replace H := ifn h53 H
     refine GoR.op ((fun w => opB (op_lss rfl rfl w) (decide_eq_false h53)) _) rfl rfl ?_
     refine GoR.nil ?_
     refine Go1.seq ?_
     refine Go1.condF rfl rfl ?_
     refine Go1.exit rfl ?_
     refine Go1.seq ?_
     refine Go1.region ?_
     refine GoR.op ((op_fieldAddr Try.underlying28 rfl ti25 rfl (by decide)) _) rfl rfl ?_
     refine GoR.op ((oblk 1 hO rfl rfl Try.underlying25 rfl rfl) _ (Same.refl _)) rfl rfl ?_
     refine GoR.op ((op_fieldAddr Try.underlying28 rfl ti25 rfl (by decide)) _) rfl rfl ?_
     refine GoR.op ((oblk 0 hO rfl rfl Try.underlying25 rfl rfl) _ (Same.refl _)) rfl rfl ?_
     refine GoR.call (op_call body22 rfl (walk_ref03_Same hO.lt h_r13_R h_r25_L H)) rfl rfl ?_
     rintro v104 w101 ⟨r100, rfl, hs102, H⟩
     have hst105 := Stp.same hO hs102
     replace hO := hst105.own
     replace h_r13_R := h_r13_R.ch hst105.ch
     replace h_r13_L := h_r13_L.ch hst105.ch
     replace h_r13_J := h_r13_J.ch hst105.ch
     replace h_r13_H := h_r13_H.ch hst105.ch
     replace h_r13_Below := h_r13_Below.ch hst105.ch
     replace h_r25_R := h_r25_R.ch hst105.ch
     replace h_r25_L := h_r25_L.ch hst105.ch
     replace h_r25_J := h_r25_J.ch hst105.ch
     replace h_r25_H := h_r25_H.ch hst105.ch
     replace h_r25_Below := h_r25_Below.ch hst105.ch
     replace hB := hB.trans hst105.fr
     refine GoR.op ((op_move rfl) _) rfl rfl ?_
     cases r100
     ·replace H := ifn Bool.false_ne_true H
      refine GoR.pass rfl rfl ?_
      refine GoR.pass rfl rfl ?_
      refine GoR.pass rfl rfl ?_
      refine GoR.pass rfl rfl ?_
      refine GoR.pass rfl rfl ?_
      refine GoR.op ((op_pickF rfl rfl rfl) _) rfl rfl ?_
      refine GoR.op ((op_move rfl) _) rfl rfl ?_
      refine GoR.pass rfl rfl ?_
      refine GoR.pass rfl rfl ?_
      refine GoR.pass rfl rfl ?_
      refine GoR.pass rfl rfl ?_
      refine GoR.pass rfl rfl ?_
      refine GoR.op ((op_pickF rfl rfl rfl) _) rfl rfl ?_
      refine GoR.op ((op_move rfl) _) rfl rfl ?_
      refine GoR.pass rfl rfl ?_
      refine GoR.pass rfl rfl ?_
      refine GoR.pass rfl rfl ?_
      refine GoR.pass rfl rfl ?_
      refine GoR.pass rfl rfl ?_
      refine GoR.op ((op_pickF rfl rfl rfl) _) rfl rfl ?_
      refine GoR.op ((op_move rfl) _) rfl rfl ?_
      refine GoR.pass rfl rfl ?_
      refine GoR.op ((op_pickF rfl rfl rfl) _) rfl rfl ?_
      refine GoR.op ((op_assign rfl) _) rfl rfl ?_
      refine GoR.nil ?_
      refine Go1.ret1 Try.func8 rfl ?_
      exact ⟨false, rfl, hB.same, H⟩
     ·replace H := ifp rfl H
      refine GoR.op ((op_fieldAddr Try.underlying28 rfl ti25 rfl (by decide)) _) rfl rfl ?_
      refine GoR.op ((oblk 1 hO rfl rfl Try.underlying25 rfl rfl) _ (Same.refl _)) rfl rfl ?_
      refine GoR.op ((op_fieldAddr Try.underlying28 rfl ti25 rfl (by decide)) _) rfl rfl ?_
      refine GoR.op ((oblk 0 hO rfl rfl Try.underlying25 rfl rfl) _ (Same.refl _)) rfl rfl ?_
      refine GoR.call (op_call body22 rfl (walk_ref03_Same hO.lt h_r13_L h_r25_R H)) rfl rfl ?_
      rintro v110 w107 ⟨r106, rfl, hs108, H⟩
      have hst111 := Stp.same hO hs108
      replace hO := hst111.own
      replace h_r13_R := h_r13_R.ch hst111.ch
      replace h_r13_L := h_r13_L.ch hst111.ch
      replace h_r13_J := h_r13_J.ch hst111.ch
      replace h_r13_H := h_r13_H.ch hst111.ch
      replace h_r13_Below := h_r13_Below.ch hst111.ch
      replace h_r25_R := h_r25_R.ch hst111.ch
      replace h_r25_L := h_r25_L.ch hst111.ch
      replace h_r25_J := h_r25_J.ch hst111.ch
      replace h_r25_H := h_r25_H.ch hst111.ch
      replace h_r25_Below := h_r25_Below.ch hst111.ch
      replace hB := hB.trans hst111.fr
      refine GoR.op ((op_pickT rfl rfl rfl) _) rfl rfl ?_
      refine GoR.op ((op_move rfl) _) rfl rfl ?_
      cases r106
      ·replace H := ifn Bool.false_ne_true H
       refine GoR.pass rfl rfl ?_
       refine GoR.pass rfl rfl ?_
       refine GoR.pass rfl rfl ?_
       refine GoR.pass rfl rfl ?_
       refine GoR.pass rfl rfl ?_
       refine GoR.op ((op_pickF rfl rfl rfl) _) rfl rfl ?_
       refine GoR.op ((op_move rfl) _) rfl rfl ?_
       refine GoR.pass rfl rfl ?_
       refine GoR.pass rfl rfl ?_
       refine GoR.pass rfl rfl ?_
       refine GoR.pass rfl rfl ?_
       refine GoR.pass rfl rfl ?_
       refine GoR.op ((op_pickF rfl rfl rfl) _) rfl rfl ?_
       refine GoR.op ((op_move rfl) _) rfl rfl ?_
       refine GoR.pass rfl rfl ?_
       refine GoR.op ((op_pickF rfl rfl rfl) _) rfl rfl ?_
       refine GoR.op ((op_assign rfl) _) rfl rfl ?_
       refine GoR.nil ?_
       refine Go1.ret1 Try.func8 rfl ?_
       exact ⟨false, rfl, hB.same, H⟩
      ·replace H := ifp rfl H
       refine GoR.op ((op_fieldAddr Try.underlying28 rfl ti25 rfl (by decide)) _) rfl rfl ?_
       refine GoR.op ((oblk 1 hO rfl rfl Try.underlying25 rfl rfl) _ (Same.refl _)) rfl rfl ?_
       refine GoR.op ((op_fieldAddr Try.underlying28 rfl ti25 rfl (by decide)) _) rfl rfl ?_
       refine GoR.op ((oblk 0 hO rfl rfl Try.underlying25 rfl rfl) _ (Same.refl _)) rfl rfl ?_
       refine GoR.call (op_call body22 rfl (walk_ref03_Same hO.lt h_r13_J h_r25_J H)) rfl rfl ?_
       rintro v116 w113 ⟨r112, rfl, hs114, H⟩
       have hst117 := Stp.same hO hs114
       replace hO := hst117.own
       replace h_r13_R := h_r13_R.ch hst117.ch
       replace h_r13_L := h_r13_L.ch hst117.ch
       replace h_r13_J := h_r13_J.ch hst117.ch
       replace h_r13_H := h_r13_H.ch hst117.ch
       replace h_r13_Below := h_r13_Below.ch hst117.ch
       replace h_r25_R := h_r25_R.ch hst117.ch
       replace h_r25_L := h_r25_L.ch hst117.ch
       replace h_r25_J := h_r25_J.ch hst117.ch
       replace h_r25_H := h_r25_H.ch hst117.ch
       replace h_r25_Below := h_r25_Below.ch hst117.ch
       replace hB := hB.trans hst117.fr
       refine GoR.op ((op_pickT rfl rfl rfl) _) rfl rfl ?_
       refine GoR.op ((op_move rfl) _) rfl rfl ?_
       cases r112
       ·replace H := ifn Bool.false_ne_true H
        refine GoR.pass rfl rfl ?_
        refine GoR.pass rfl rfl ?_
        refine GoR.pass rfl rfl ?_
        refine GoR.pass rfl rfl ?_
        refine GoR.pass rfl rfl ?_
        refine GoR.op ((op_pickF rfl rfl rfl) _) rfl rfl ?_
        refine GoR.op ((op_move rfl) _) rfl rfl ?_
        refine GoR.pass rfl rfl ?_
        refine GoR.op ((op_pickF rfl rfl rfl) _) rfl rfl ?_
        refine GoR.op ((op_assign rfl) _) rfl rfl ?_
        refine GoR.nil ?_
        refine Go1.ret1 Try.func8 rfl ?_
        exact ⟨false, rfl, hB.same, H⟩
       ·replace H := ifp rfl H
        refine GoR.op ((op_fieldAddr Try.underlying28 rfl ti25 rfl (by decide)) _) rfl rfl ?_
        refine GoR.op ((oblk 1 hO rfl rfl Try.underlying25 rfl rfl) _ (Same.refl _)) rfl rfl ?_
        refine GoR.op ((op_fieldAddr Try.underlying28 rfl ti25 rfl (by decide)) _) rfl rfl ?_
        refine GoR.op ((oblk 0 hO rfl rfl Try.underlying25 rfl rfl) _ (Same.refl _)) rfl rfl ?_
        refine GoR.call (op_call body22 rfl (walk_ref03_Same hO.lt h_r13_H h_r25_H H)) rfl rfl ?_
        rintro v122 w119 ⟨r118, rfl, hs120, H⟩
        have hst123 := Stp.same hO hs120
        replace hO := hst123.own
        replace h_r13_R := h_r13_R.ch hst123.ch
        replace h_r13_L := h_r13_L.ch hst123.ch
        replace h_r13_J := h_r13_J.ch hst123.ch
        replace h_r13_H := h_r13_H.ch hst123.ch
        replace h_r13_Below := h_r13_Below.ch hst123.ch
        replace h_r25_R := h_r25_R.ch hst123.ch
        replace h_r25_L := h_r25_L.ch hst123.ch
        replace h_r25_J := h_r25_J.ch hst123.ch
        replace h_r25_H := h_r25_H.ch hst123.ch
        replace h_r25_Below := h_r25_Below.ch hst123.ch
        replace hB := hB.trans hst123.fr
        refine GoR.op ((op_pickT rfl rfl rfl) _) rfl rfl ?_
        refine GoR.op ((op_move rfl) _) rfl rfl ?_
        cases r118
        ·replace H := ifn Bool.false_ne_true H
         refine GoR.pass rfl rfl ?_
         refine GoR.op ((op_pickF rfl rfl rfl) _) rfl rfl ?_
         refine GoR.op ((op_assign rfl) _) rfl rfl ?_
         refine GoR.nil ?_
         refine Go1.ret1 Try.func8 rfl ?_
         exact ⟨false, rfl, hB.same, H⟩
        ·replace H := ifp rfl H
         refine GoR.call (op_call body14 rfl (walk_law15_awake hO.lt H)) rfl rfl ?_
         rintro v128 w125 ⟨r124, rfl, hs126, H⟩
         have hst129 := Stp.same hO hs126
         replace hO := hst129.own
         replace h_r13_R := h_r13_R.ch hst129.ch
         replace h_r13_L := h_r13_L.ch hst129.ch
         replace h_r13_J := h_r13_J.ch hst129.ch
         replace h_r13_H := h_r13_H.ch hst129.ch
         replace h_r13_Below := h_r13_Below.ch hst129.ch
         replace h_r25_R := h_r25_R.ch hst129.ch
         replace h_r25_L := h_r25_L.ch hst129.ch
         replace h_r25_J := h_r25_J.ch hst129.ch
         replace h_r25_H := h_r25_H.ch hst129.ch
         replace h_r25_Below := h_r25_Below.ch hst129.ch
         replace hB := hB.trans hst129.fr
         refine GoR.op ((op_pickT rfl rfl rfl) _) rfl rfl ?_
         refine GoR.op ((op_assign rfl) _) rfl rfl ?_
         refine GoR.nil ?_
         refine Go1.ret1 Try.func8 rfl ?_
         exact ⟨r124, rfl, hB.same, H⟩
   ·replace H := ifn h50 H
    refine GoR.op ((fun w => opB (op_neq rfl rfl w) (ndF h50)) _) rfl rfl ?_
    refine GoR.op ((op_pickF rfl rfl rfl) _) rfl rfl ?_
    refine GoR.nil ?_
    refine Go1.condT rfl rfl ?_
    refine Go1.seq ?_
    refine Go1.region ?_
    refine GoR.op ((op_assign rfl) _) rfl rfl ?_
    refine GoR.nil ?_
    refine Go1.ret1 Try.func8 rfl ?_
    exact ⟨false, rfl, hB.same, H⟩
  ·replace H := ifn h49 H
   refine GoR.op ((fun w => opB (op_neq rfl rfl w) (ndF h49)) _) rfl rfl ?_
   refine GoR.op ((op_move rfl) _) rfl rfl ?_
   refine GoR.pass rfl rfl ?_
   refine GoR.pass rfl rfl ?_
   refine GoR.pass rfl rfl ?_
   refine GoR.pass rfl rfl ?_
   refine GoR.pass rfl rfl ?_
   refine GoR.pass rfl rfl ?_
   refine GoR.pass rfl rfl ?_
   refine GoR.op ((op_pickT rfl rfl rfl) _) rfl rfl ?_
   refine GoR.nil ?_
   refine Go1.condT rfl rfl ?_
   refine Go1.seq ?_
   refine Go1.region ?_
   refine GoR.op ((op_assign rfl) _) rfl rfl ?_
   refine GoR.nil ?_
   refine Go1.ret1 Try.func8 rfl ?_
   exact ⟨false, rfl, hB.same, H⟩
end Sg
