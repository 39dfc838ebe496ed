/- The walks: each call keeps to its plain transformer. Printed by walkgen.py. -/
import Derived.Test.YthobeabghciknaaTi
import Derived.Test.YthobeabghciknaaWGreenClassesb
namespace Sg
open Go Go.RowKit Go.Proofs
set_option linter.unusedVariables false
set_option linter.unusedSimpArgs false
set_option maxRecDepth 100000
set_option maxHeartbeats 4000000
theorem body25 : Body Try.prog 25 := ⟨Try.f25, Try.func25, rfl, by kernel_rfl⟩
theorem walk_ref15_Heights {A : List Nat} {w0 : World} {p_t : Option Addr} {c_t : Nat} {t : List (List Int)} (hA : ∀ b ∈ A, b < w0.heap.size) (h_t : ISl (Rp.sl (Rp.int .i64)) A w0 p_t c_t t) {K : List Int → Prop} (H : ref15_Heights t K) :
    CallsV Try.prog 25 #[.slice p_t t.length c_t] w0 (fun v w' => ∃ (r0 : List Int), ∃ (p_r0 : Option Addr), ∃ (c_r0 : Nat), v = .slice p_r0 r0.length c_r0 ∧ Same w0 w' ∧ ISl (Rp.int .i64) A w' p_r0 c_r0 r0 ∧ K r0) := by
 refine CallsV.of (l := [.slice p_t t.length c_t]) Try.func25 rfl Try.ntmps25 rfl ?_
 have hO := Owns.start hA
 have hB := Fr.refl (bl []) w0
 unfold ref15_Heights at H
 replace h_t := h_t.ch (Ch.start A w0)
 refine Go1.seq ?_
 refine Go1.region ?_
 refine GoR.op ((op_assign rfl) _) rfl rfl ?_
 refine GoR.nil ?_
 refine Go1.seq ?_
 refine Go1.region ?_
 refine GoR.op ((op_move rfl) _) rfl rfl ?_
 refine GoR.call (op_call body18 rfl (walk_ref15_Classes hO.lt h_t H)) rfl rfl ?_
 rintro v5 w2 ⟨r1, p_r1_R, c_r1_R, p_r1_L, c_r1_L, p_r1_J, c_r1_J, p_r1_H, c_r1_H, p_r1_Below, c_r1_Below, rfl, hs3, h_r1_R, h_r1_L, h_r1_J, h_r1_H, h_r1_Below, H⟩
 have hst6 := Stp.same hO hs3
 replace hO := hst6.own
 replace h_t := h_t.ch hst6.ch
 replace hB := hB.trans hst6.fr
 have hobt := oalloc (t := 28) (cs := #[.slice none 0 0, .slice none 0 0, .slice none 0 0, .slice none 0 0, .slice none 0 0]) ti28 hO rfl
 obtain ⟨w7, B8, hst9, hs10, hop11⟩ := hobt
 refine GoR.op hop11 rfl rfl ?_
 replace hO := hst9.own
 replace h_t := h_t.ch hst9.ch
 replace h_r1_R := h_r1_R.ch hst9.ch
 replace h_r1_L := h_r1_L.ch hst9.ch
 replace h_r1_J := h_r1_J.ch hst9.ch
 replace h_r1_H := h_r1_H.ch hst9.ch
 replace h_r1_Below := h_r1_Below.ch hst9.ch
 replace hB := hB.trans hst9.fr
 have hobt := oblkStAgg (us := [.slice p_r1_R r1.R.length c_r1_R, .slice p_r1_L r1.L.length c_r1_L, .slice p_r1_J r1.J.length c_r1_J, .slice p_r1_H r1.H.length c_r1_H, .slice p_r1_Below r1.Below.length c_r1_Below]) (o := 0) (cs' := #[.slice p_r1_R r1.R.length c_r1_R, .slice p_r1_L r1.L.length c_r1_L, .slice p_r1_J r1.J.length c_r1_J, .slice p_r1_H r1.H.length c_r1_H, .slice p_r1_Below r1.Below.length c_r1_Below]) 0 hO rfl rfl (Nat.le_of_ble_eq_true rfl) rfl
 obtain ⟨w13, hst14, hop15⟩ := hobt
 refine GoR.op (hop15 ti28 rfl rfl rfl) rfl rfl ?_
 replace hO := hst14.own
 replace h_t := h_t.ch hst14.ch
 replace h_r1_R := h_r1_R.ch hst14.ch
 replace h_r1_L := h_r1_L.ch hst14.ch
 replace h_r1_J := h_r1_J.ch hst14.ch
 replace h_r1_H := h_r1_H.ch hst14.ch
 replace h_r1_Below := h_r1_Below.ch hst14.ch
 replace hB := hB.trans hst14.fr
 refine GoR.nil ?_
 refine Go1.seq ?_
 refine Go1.region ?_
 refine GoR.op ((op_fieldAddr Try.underlying28 rfl ti26 rfl (by decide)) _) rfl rfl ?_
 refine GoR.op ((oblk 0 hO rfl rfl Try.underlying26 rfl rfl) _ (Same.refl _)) rfl rfl ?_
 refine GoR.op ((op_len Try.underlying26 rfl) _) rfl rfl ?_
 replace H := H h_r1_Below.bd
 obtain ⟨h23, H⟩ := H
 obtain ⟨h24, H⟩ := H
 have hobt := omake (n := (r1.Below.length : Int)) (r := Rp.int .i64) (d := (0 : Int)) Try.underlying25 ti3 (fun _ _ => rfl) rfl hO h23 h24 (by decide)
 obtain ⟨w16, p17, vs18, hst19, hE20, hs21, hop22⟩ := hobt
 refine GoR.op (hop22 rfl rfl) rfl rfl ?_
 replace hO := hst19.own
 replace h_t := h_t.ch hst19.ch
 replace h_r1_R := h_r1_R.ch hst19.ch
 replace h_r1_L := h_r1_L.ch hst19.ch
 replace h_r1_J := h_r1_J.ch hst19.ch
 replace h_r1_H := h_r1_H.ch hst19.ch
 replace h_r1_Below := h_r1_Below.ch hst19.ch
 replace hB := hB.trans hst19.fr
 refine GoR.op ((op_assign rfl) _) rfl rfl ?_
 refine GoR.nil ?_
 refine Go1.seq ?_
 refine Go1.seq ?_
 refine Go1.region ?_
 refine GoR.op ((op_assign rfl) _) rfl rfl ?_
 refine GoR.nil ?_
 refine Go1.block ?_
 refine Go1.loopW (S := Nat × List Int) (fun s σ w => ∃ (vs29 : List Value), agrees σ [(3, .pointer (some ⟨B8, 0, none⟩)), (4, .slice p17 r1.Below.length r1.Below.length), (5, .int .i64 ((s.1) : Int))] ∧ Owns w0.heap.size w [.row 3 1 p17 r1.Below.length r1.Below.length vs29, .blk B8 (.cells #[.slice p_r1_R r1.R.length c_r1_R, .slice p_r1_L r1.L.length c_r1_L, .slice p_r1_J r1.J.length c_r1_J, .slice p_r1_H r1.H.length c_r1_H, .slice p_r1_Below r1.Below.length c_r1_Below] 28 (0, 0))] A ∧ Els (Rp.int .i64) (bl [.row 3 1 p17 r1.Below.length r1.Below.length vs29, .blk B8 (.cells #[.slice p_r1_R r1.R.length c_r1_R, .slice p_r1_L r1.L.length c_r1_L, .slice p_r1_J r1.J.length c_r1_J, .slice p_r1_H r1.H.length c_r1_H, .slice p_r1_Below r1.Below.length c_r1_Below] 28 (0, 0))] ++ A) w vs29 (s.2) ∧ ISl (Rp.int .i64) (bl [.row 3 1 p17 r1.Below.length r1.Below.length vs29, .blk B8 (.cells #[.slice p_r1_R r1.R.length c_r1_R, .slice p_r1_L r1.L.length c_r1_L, .slice p_r1_J r1.J.length c_r1_J, .slice p_r1_H r1.H.length c_r1_H, .slice p_r1_Below r1.Below.length c_r1_Below] 28 (0, 0))] ++ A) w p_r1_R c_r1_R r1.R ∧ ISl (Rp.int .i64) (bl [.row 3 1 p17 r1.Below.length r1.Below.length vs29, .blk B8 (.cells #[.slice p_r1_R r1.R.length c_r1_R, .slice p_r1_L r1.L.length c_r1_L, .slice p_r1_J r1.J.length c_r1_J, .slice p_r1_H r1.H.length c_r1_H, .slice p_r1_Below r1.Below.length c_r1_Below] 28 (0, 0))] ++ A) w p_r1_L c_r1_L r1.L ∧ ISl (Rp.int .i64) (bl [.row 3 1 p17 r1.Below.length r1.Below.length vs29, .blk B8 (.cells #[.slice p_r1_R r1.R.length c_r1_R, .slice p_r1_L r1.L.length c_r1_L, .slice p_r1_J r1.J.length c_r1_J, .slice p_r1_H r1.H.length c_r1_H, .slice p_r1_Below r1.Below.length c_r1_Below] 28 (0, 0))] ++ A) w p_r1_J c_r1_J r1.J ∧ ISl (Rp.int .i64) (bl [.row 3 1 p17 r1.Below.length r1.Below.length vs29, .blk B8 (.cells #[.slice p_r1_R r1.R.length c_r1_R, .slice p_r1_L r1.L.length c_r1_L, .slice p_r1_J r1.J.length c_r1_J, .slice p_r1_H r1.H.length c_r1_H, .slice p_r1_Below r1.Below.length c_r1_Below] 28 (0, 0))] ++ A) w p_r1_H c_r1_H r1.H ∧ ISl (Rp.sl (Rp.bool)) (bl [.row 3 1 p17 r1.Below.length r1.Below.length vs29, .blk B8 (.cells #[.slice p_r1_R r1.R.length c_r1_R, .slice p_r1_L r1.L.length c_r1_L, .slice p_r1_J r1.J.length c_r1_J, .slice p_r1_H r1.H.length c_r1_H, .slice p_r1_Below r1.Below.length c_r1_Below] 28 (0, 0))] ++ A) w p_r1_Below c_r1_Below r1.Below ∧ Fr (bl []) w0 (bl [.row 3 1 p17 r1.Below.length r1.Below.length vs29, .blk B8 (.cells #[.slice p_r1_R r1.R.length c_r1_R, .slice p_r1_L r1.L.length c_r1_L, .slice p_r1_J r1.J.length c_r1_J, .slice p_r1_H r1.H.length c_r1_H, .slice p_r1_Below r1.Below.length c_r1_Below] 28 (0, 0))]) w) H ⟨vs18, ⟨rfl, rfl, rfl, trivial⟩, hO, hE20, h_r1_R, h_r1_L, h_r1_J, h_r1_H, h_r1_Below, hB⟩ ?_
 rintro X1 ⟨k1_27, out1_28⟩ H hX1 σ w26 ⟨vs29, hag, hO, hE30, h_r1_R, h_r1_L, h_r1_J, h_r1_H, h_r1_Below, hB⟩
 dsimp only at H
 refine Go1.keep [(3, .pointer (some ⟨B8, 0, none⟩)), (4, .slice p17 r1.Below.length r1.Below.length), (5, .int .i64 (k1_27 : Int))] hag ?_
 refine Go1.seq ?_
 refine Go1.seq ?_
 refine Go1.region ?_
 refine GoR.op ((op_move rfl) _) rfl rfl ?_
 refine GoR.op ((op_move rfl) _) rfl rfl ?_
 refine GoR.op ((op_lenN Try.underlying25 rfl (hE30.neq hO 0 rfl)) _) rfl rfl ?_
 by_cases h31 : (k1_27 : Int) < (out1_28.length : Int)
 ·replace H := ifp h31 H
  refine GoR.op ((fun w => opB (op_lss rfl rfl w) (decide_eq_true h31)) _) rfl rfl ?_
  refine GoR.nil ?_
  refine Go1.condT rfl rfl ?_
  refine Go1.skip ?_
  refine Go1.seq ?_
  refine Go1.block ?_
  refine Go1.seq ?_
  refine Go1.region ?_
  refine GoR.op ((op_move rfl) _) rfl rfl ?_
  refine GoR.op ((op_lenN Try.underlying25 rfl (hE30.neq hO 0 rfl)) _) rfl rfl ?_
  refine GoR.op ((op_move rfl) _) rfl rfl ?_
  refine GoR.nil ?_
  refine Go1.block ?_
  refine Go1.loopW (S := Nat × List Int) (fun s σ w => ∃ (vs35 : List Value), agrees σ [(3, .pointer (some ⟨B8, 0, none⟩)), (4, .slice p17 r1.Below.length r1.Below.length), (5, .int .i64 (k1_27 : Int)), (21, .int .i64 (out1_28.length : Int)), (22, .int .i64 ((s.1) : Int))] ∧ Owns w0.heap.size w [.row 3 1 p17 r1.Below.length r1.Below.length vs35, .blk B8 (.cells #[.slice p_r1_R r1.R.length c_r1_R, .slice p_r1_L r1.L.length c_r1_L, .slice p_r1_J r1.J.length c_r1_J, .slice p_r1_H r1.H.length c_r1_H, .slice p_r1_Below r1.Below.length c_r1_Below] 28 (0, 0))] A ∧ Els (Rp.int .i64) (bl [.row 3 1 p17 r1.Below.length r1.Below.length vs35, .blk B8 (.cells #[.slice p_r1_R r1.R.length c_r1_R, .slice p_r1_L r1.L.length c_r1_L, .slice p_r1_J r1.J.length c_r1_J, .slice p_r1_H r1.H.length c_r1_H, .slice p_r1_Below r1.Below.length c_r1_Below] 28 (0, 0))] ++ A) w vs35 (s.2) ∧ ISl (Rp.int .i64) (bl [.row 3 1 p17 r1.Below.length r1.Below.length vs35, .blk B8 (.cells #[.slice p_r1_R r1.R.length c_r1_R, .slice p_r1_L r1.L.length c_r1_L, .slice p_r1_J r1.J.length c_r1_J, .slice p_r1_H r1.H.length c_r1_H, .slice p_r1_Below r1.Below.length c_r1_Below] 28 (0, 0))] ++ A) w p_r1_R c_r1_R r1.R ∧ ISl (Rp.int .i64) (bl [.row 3 1 p17 r1.Below.length r1.Below.length vs35, .blk B8 (.cells #[.slice p_r1_R r1.R.length c_r1_R, .slice p_r1_L r1.L.length c_r1_L, .slice p_r1_J r1.J.length c_r1_J, .slice p_r1_H r1.H.length c_r1_H, .slice p_r1_Below r1.Below.length c_r1_Below] 28 (0, 0))] ++ A) w p_r1_L c_r1_L r1.L ∧ ISl (Rp.int .i64) (bl [.row 3 1 p17 r1.Below.length r1.Below.length vs35, .blk B8 (.cells #[.slice p_r1_R r1.R.length c_r1_R, .slice p_r1_L r1.L.length c_r1_L, .slice p_r1_J r1.J.length c_r1_J, .slice p_r1_H r1.H.length c_r1_H, .slice p_r1_Below r1.Below.length c_r1_Below] 28 (0, 0))] ++ A) w p_r1_J c_r1_J r1.J ∧ ISl (Rp.int .i64) (bl [.row 3 1 p17 r1.Below.length r1.Below.length vs35, .blk B8 (.cells #[.slice p_r1_R r1.R.length c_r1_R, .slice p_r1_L r1.L.length c_r1_L, .slice p_r1_J r1.J.length c_r1_J, .slice p_r1_H r1.H.length c_r1_H, .slice p_r1_Below r1.Below.length c_r1_Below] 28 (0, 0))] ++ A) w p_r1_H c_r1_H r1.H ∧ ISl (Rp.sl (Rp.bool)) (bl [.row 3 1 p17 r1.Below.length r1.Below.length vs35, .blk B8 (.cells #[.slice p_r1_R r1.R.length c_r1_R, .slice p_r1_L r1.L.length c_r1_L, .slice p_r1_J r1.J.length c_r1_J, .slice p_r1_H r1.H.length c_r1_H, .slice p_r1_Below r1.Below.length c_r1_Below] 28 (0, 0))] ++ A) w p_r1_Below c_r1_Below r1.Below ∧ Fr (bl []) w0 (bl [.row 3 1 p17 r1.Below.length r1.Below.length vs35, .blk B8 (.cells #[.slice p_r1_R r1.R.length c_r1_R, .slice p_r1_L r1.L.length c_r1_L, .slice p_r1_J r1.J.length c_r1_J, .slice p_r1_H r1.H.length c_r1_H, .slice p_r1_Below r1.Below.length c_r1_Below] 28 (0, 0))]) w) H ⟨vs29, ⟨rfl, rfl, rfl, rfl, rfl, trivial⟩, hO, hE30, h_r1_R, h_r1_L, h_r1_J, h_r1_H, h_r1_Below, hB⟩ ?_
  rintro X2 ⟨k2_33, out2_34⟩ H hX2 σ w32 ⟨vs35, hag, hO, hE36, h_r1_R, h_r1_L, h_r1_J, h_r1_H, h_r1_Below, hB⟩
  dsimp only at H
  refine Go1.keep [(3, .pointer (some ⟨B8, 0, none⟩)), (4, .slice p17 r1.Below.length r1.Below.length), (5, .int .i64 (k1_27 : Int)), (21, .int .i64 (out1_28.length : Int)), (22, .int .i64 (k2_33 : Int))] hag ?_
  refine Go1.seq ?_
  refine Go1.region ?_
  by_cases h37 : (k2_33 : Int) < (out1_28.length : Int)
  ·replace H := ifp h37 H
   refine GoR.op ((fun w => opB (op_lss rfl rfl w) (decide_eq_true h37)) _) rfl rfl ?_
   refine GoR.nil ?_
   refine Go1.seq ?_
   refine Go1.condT rfl rfl ?_
   refine Go1.skip ?_
   refine Go1.seq ?_
   refine Go1.block ?_
   refine Go1.seq ?_
   refine Go1.region ?_
   refine GoR.op ((op_move rfl) _) rfl rfl ?_
   refine GoR.op ((op_assign rfl) _) rfl rfl ?_
   refine GoR.nil ?_
   refine Go1.seq ?_
   refine Go1.region ?_
   refine GoR.op ((op_move rfl) _) rfl rfl ?_
   refine GoR.op ((op_lenN Try.underlying25 rfl (hE36.neq hO 0 rfl)) _) rfl rfl ?_
   refine GoR.op ((op_move rfl) _) rfl rfl ?_
   refine GoR.nil ?_
   refine Go1.block ?_
   refine Go1.loopW (S := Nat × List Int) (fun s σ w => ∃ (vs41 : List Value), agrees σ [(3, .pointer (some ⟨B8, 0, none⟩)), (4, .slice p17 r1.Below.length r1.Below.length), (5, .int .i64 (k1_27 : Int)), (6, .int .i64 (k2_33 : Int)), (21, .int .i64 (out1_28.length : Int)), (22, .int .i64 (k2_33 : Int)), (26, .int .i64 (out2_34.length : Int)), (27, .int .i64 ((s.1) : Int))] ∧ Owns w0.heap.size w [.row 3 1 p17 r1.Below.length r1.Below.length vs41, .blk B8 (.cells #[.slice p_r1_R r1.R.length c_r1_R, .slice p_r1_L r1.L.length c_r1_L, .slice p_r1_J r1.J.length c_r1_J, .slice p_r1_H r1.H.length c_r1_H, .slice p_r1_Below r1.Below.length c_r1_Below] 28 (0, 0))] A ∧ Els (Rp.int .i64) (bl [.row 3 1 p17 r1.Below.length r1.Below.length vs41, .blk B8 (.cells #[.slice p_r1_R r1.R.length c_r1_R, .slice p_r1_L r1.L.length c_r1_L, .slice p_r1_J r1.J.length c_r1_J, .slice p_r1_H r1.H.length c_r1_H, .slice p_r1_Below r1.Below.length c_r1_Below] 28 (0, 0))] ++ A) w vs41 (s.2) ∧ ISl (Rp.int .i64) (bl [.row 3 1 p17 r1.Below.length r1.Below.length vs41, .blk B8 (.cells #[.slice p_r1_R r1.R.length c_r1_R, .slice p_r1_L r1.L.length c_r1_L, .slice p_r1_J r1.J.length c_r1_J, .slice p_r1_H r1.H.length c_r1_H, .slice p_r1_Below r1.Below.length c_r1_Below] 28 (0, 0))] ++ A) w p_r1_R c_r1_R r1.R ∧ ISl (Rp.int .i64) (bl [.row 3 1 p17 r1.Below.length r1.Below.length vs41, .blk B8 (.cells #[.slice p_r1_R r1.R.length c_r1_R, .slice p_r1_L r1.L.length c_r1_L, .slice p_r1_J r1.J.length c_r1_J, .slice p_r1_H r1.H.length c_r1_H, .slice p_r1_Below r1.Below.length c_r1_Below] 28 (0, 0))] ++ A) w p_r1_L c_r1_L r1.L ∧ ISl (Rp.int .i64) (bl [.row 3 1 p17 r1.Below.length r1.Below.length vs41, .blk B8 (.cells #[.slice p_r1_R r1.R.length c_r1_R, .slice p_r1_L r1.L.length c_r1_L, .slice p_r1_J r1.J.length c_r1_J, .slice p_r1_H r1.H.length c_r1_H, .slice p_r1_Below r1.Below.length c_r1_Below] 28 (0, 0))] ++ A) w p_r1_J c_r1_J r1.J ∧ ISl (Rp.int .i64) (bl [.row 3 1 p17 r1.Below.length r1.Below.length vs41, .blk B8 (.cells #[.slice p_r1_R r1.R.length c_r1_R, .slice p_r1_L r1.L.length c_r1_L, .slice p_r1_J r1.J.length c_r1_J, .slice p_r1_H r1.H.length c_r1_H, .slice p_r1_Below r1.Below.length c_r1_Below] 28 (0, 0))] ++ A) w p_r1_H c_r1_H r1.H ∧ ISl (Rp.sl (Rp.bool)) (bl [.row 3 1 p17 r1.Below.length r1.Below.length vs41, .blk B8 (.cells #[.slice p_r1_R r1.R.length c_r1_R, .slice p_r1_L r1.L.length c_r1_L, .slice p_r1_J r1.J.length c_r1_J, .slice p_r1_H r1.H.length c_r1_H, .slice p_r1_Below r1.Below.length c_r1_Below] 28 (0, 0))] ++ A) w p_r1_Below c_r1_Below r1.Below ∧ Fr (bl []) w0 (bl [.row 3 1 p17 r1.Below.length r1.Below.length vs41, .blk B8 (.cells #[.slice p_r1_R r1.R.length c_r1_R, .slice p_r1_L r1.L.length c_r1_L, .slice p_r1_J r1.J.length c_r1_J, .slice p_r1_H r1.H.length c_r1_H, .slice p_r1_Below r1.Below.length c_r1_Below] 28 (0, 0))]) w) H ⟨vs35, ⟨rfl, rfl, rfl, rfl, rfl, rfl, rfl, rfl, trivial⟩, hO, hE36, h_r1_R, h_r1_L, h_r1_J, h_r1_H, h_r1_Below, hB⟩ ?_
   rintro X3 ⟨k3_39, out3_40⟩ H hX3 σ w38 ⟨vs41, hag, hO, hE42, h_r1_R, h_r1_L, h_r1_J, h_r1_H, h_r1_Below, hB⟩
   dsimp only at H
   refine Go1.keep [(3, .pointer (some ⟨B8, 0, none⟩)), (4, .slice p17 r1.Below.length r1.Below.length), (5, .int .i64 (k1_27 : Int)), (6, .int .i64 (k2_33 : Int)), (21, .int .i64 (out1_28.length : Int)), (22, .int .i64 (k2_33 : Int)), (26, .int .i64 (out2_34.length : Int)), (27, .int .i64 (k3_39 : Int))] hag ?_
   refine Go1.seq ?_
   refine Go1.region ?_
   by_cases h43 : (k3_39 : Int) < (out2_34.length : Int)
   ·replace H := ifp h43 H
    refine GoR.op ((fun w => opB (op_lss rfl rfl w) (decide_eq_true h43)) _) rfl rfl ?_
    refine GoR.nil ?_
    refine Go1.seq ?_
    refine Go1.condT rfl rfl ?_
    refine Go1.skip ?_
    refine Go1.seq ?_
    refine Go1.block ?_
    refine Go1.seq ?_
    refine Go1.region ?_
    refine GoR.op ((op_move rfl) _) rfl rfl ?_
    refine GoR.op ((op_assign rfl) _) rfl rfl ?_
    refine GoR.nil ?_
    refine Go1.seq ?_
    refine Go1.region ?_
    refine GoR.op ((op_move rfl) _) rfl rfl ?_
    refine GoR.op ((op_move rfl) _) rfl rfl ?_
    by_cases h44 : (k2_33 : Int) = (k3_39 : Int)
    ·replace H := ifp h44 H
     refine GoR.op ((fun w => opB (op_neq rfl rfl w) (ndT h44)) _) rfl rfl ?_
     refine GoR.op ((op_move rfl) _) rfl rfl ?_
     refine GoR.pass rfl rfl ?_
     refine GoR.pass rfl rfl ?_
     refine GoR.pass rfl rfl ?_
     refine GoR.pass rfl rfl ?_
     refine GoR.pass rfl rfl ?_
     refine GoR.pass rfl rfl ?_
     refine GoR.pass rfl rfl ?_
     refine GoR.pass rfl rfl ?_
     refine GoR.op ((op_pickF rfl rfl rfl) _) rfl rfl ?_
     refine GoR.nil ?_
     refine Go1.condF rfl rfl ?_
     refine Go1.skip ?_
     refine Go1.inBlock ?_
     refine Go1.region ?_
     obtain ⟨h45, H⟩ := H
     refine GoR.op ((op_add rfl rfl (wrap_i64 h45)) _) rfl rfl ?_
     refine GoR.op ((op_move rfl) _) rfl rfl ?_
     refine GoR.nil ?_
     exact hX3 _ H _ _ ⟨vs41, ⟨rfl, rfl, rfl, rfl, rfl, rfl, rfl, rfl, trivial⟩, hO, hE42, h_r1_R, h_r1_L, h_r1_J, h_r1_H, h_r1_Below, hB⟩
    ·replace H := ifn h44 H
     refine GoR.op ((fun w => opB (op_neq rfl rfl w) (ndF h44)) _) rfl rfl ?_
     refine GoR.op ((op_move rfl) _) rfl rfl ?_
     refine GoR.op ((op_fieldAddr Try.underlying28 rfl ti26 rfl (by decide)) _) rfl rfl ?_
     refine GoR.op ((oblk 1 hO rfl rfl Try.underlying26 rfl rfl) _ (Same.refl _)) rfl rfl ?_
     refine GoR.op ((op_move rfl) _) rfl rfl ?_
     obtain ⟨h46, H⟩ := H
     obtain ⟨h47, H⟩ := H
     refine GoR.op ((op_index Try.underlying26 ti38 rfl rfl h46 h47 (h_r1_Below.some_ h46 h47)) _) rfl rfl ?_
     have hobt := ldSl h_r1_Below h46 h47
     obtain ⟨p48, c49, hi50, hl51⟩ := hobt
     refine GoR.op ((hl51 Try.underlying38 rfl rfl) _ (Same.refl _)) rfl rfl ?_
     refine GoR.op ((op_move rfl) _) rfl rfl ?_
     obtain ⟨h52, H⟩ := H
     obtain ⟨h53, H⟩ := H
     refine GoR.op ((op_index Try.underlying38 ti4 rfl rfl h52 h53 (hi50.some_ h52 h53)) _) rfl rfl ?_
     by_cases h54 : ix (ix r1.Below (k2_33 : Int)) (k3_39 : Int) = true
     ·replace H := ifp h54 H
      refine GoR.op (opB ((ldBool hi50 h52 h53 Try.underlying4 rfl rfl) _ (Same.refl _)) (h54)) rfl rfl ?_
      refine GoR.op ((op_pickT rfl rfl rfl) _) rfl rfl ?_
      refine GoR.nil ?_
      refine Go1.condT rfl rfl ?_
      refine Go1.drawS 1 [(0, .pure), (1, .pure), (2, .pure), (3, .pure), (4, .pure), (5, .stable), (6, .pure), (7, .pure), (8, .pure), (9, .stable), (10, .pure), (11, .pure), (12, .pure), (13, .last)] mixed (by kernel_rfl) ?_
      intro w55 hs56
      have hst57 := Stp.same hO hs56
      replace hE42 := hE42.ch hst57.ch
      replace hO := hst57.own
      replace h_r1_R := h_r1_R.ch hst57.ch
      replace h_r1_L := h_r1_L.ch hst57.ch
      replace h_r1_J := h_r1_J.ch hst57.ch
      replace h_r1_H := h_r1_H.ch hst57.ch
      replace h_r1_Below := h_r1_Below.ch hst57.ch
      replace hi50 := hi50.ch hst57.ch
      replace hB := hB.trans hst57.fr
      refine GoQ.pure rfl (op_move rfl) rfl rfl ?_
      refine GoQ.pure rfl (op_move rfl) rfl rfl ?_
      refine GoQ.pure rfl (op_move rfl) rfl rfl ?_
      refine GoQ.pure rfl (op_move rfl) rfl rfl ?_
      obtain ⟨h58, H⟩ := H
      obtain ⟨h59, H⟩ := H
      refine GoQ.pure rfl (op_index Try.underlying25 ti3 rfl rfl h58 (ltn (hE42.neq hO 0 rfl) h59) (hE42.psome hO 0 rfl h58 h59)) rfl rfl ?_
      refine GoQ.stable rfl (oldInt 0 hO rfl hE42 h58 h59 Try.underlying3 rfl rfl) rfl rfl ?_
      refine GoQ.pure rfl (op_move rfl) rfl rfl ?_
      refine GoQ.pure rfl (op_move rfl) rfl rfl ?_
      obtain ⟨h60, H⟩ := H
      obtain ⟨h61, H⟩ := H
      refine GoQ.pure rfl (op_index Try.underlying25 ti3 rfl rfl h60 (ltn (hE42.neq hO 0 rfl) h61) (hE42.psome hO 0 rfl h60 h61)) rfl rfl ?_
      refine GoQ.stable rfl (oldInt 0 hO rfl hE42 h60 h61 Try.underlying3 rfl rfl) rfl rfl ?_
      obtain ⟨h62, H⟩ := H
      refine GoQ.pure rfl (op_add rfl rfl (wrap_i64 h62)) rfl rfl ?_
      by_cases h63 : (ix out3_40 (k2_33 : Int)) < ((ix out3_40 (k3_39 : Int)) + (1 : Int))
      ·replace H := ifp h63 H
       refine GoQ.pure rfl (op_maxT rfl rfl h63) rfl rfl ?_
       obtain ⟨h64, H⟩ := H
       obtain ⟨h65, H⟩ := H
       refine GoQ.pure rfl (op_index Try.underlying25 ti3 rfl rfl h64 (ltn (hE42.neq hO 0 rfl) h65) (hE42.psome hO 0 rfl h64 h65)) rfl rfl ?_
       have hobt := ost (r := Rp.int .i64) rfl 0 hO rfl hE42 h64 h65 (v := .int .i64 ((ix out3_40 (k3_39 : Int)) + (1 : Int))) (u := ((ix out3_40 (k3_39 : Int)) + (1 : Int))) rfl rfl
       obtain ⟨w66, vs67, hst68, hE69, hop70⟩ := hobt
       refine GoQ.last rfl (hop70 Try.underlying3 rfl ti3 rfl rfl) rfl rfl ?_
       replace hO := hst68.own
       replace h_r1_R := h_r1_R.ch hst68.ch
       replace h_r1_L := h_r1_L.ch hst68.ch
       replace h_r1_J := h_r1_J.ch hst68.ch
       replace h_r1_H := h_r1_H.ch hst68.ch
       replace h_r1_Below := h_r1_Below.ch hst68.ch
       replace hi50 := hi50.ch hst68.ch
       replace hB := hB.trans hst68.fr
       refine GoQ.nil ?_
       refine Go1.inBlock ?_
       refine Go1.region ?_
       obtain ⟨h71, H⟩ := H
       refine GoR.op ((op_add rfl rfl (wrap_i64 h71)) _) rfl rfl ?_
       refine GoR.op ((op_move rfl) _) rfl rfl ?_
       refine GoR.nil ?_
       exact hX3 _ H _ _ ⟨vs67, ⟨rfl, rfl, rfl, rfl, rfl, rfl, rfl, rfl, trivial⟩, hO, hE69, h_r1_R, h_r1_L, h_r1_J, h_r1_H, h_r1_Below, hB⟩
      ·replace H := ifn h63 H
       refine GoQ.pure rfl (op_maxF rfl rfl h63) rfl rfl ?_
       obtain ⟨h72, H⟩ := H
       obtain ⟨h73, H⟩ := H
       refine GoQ.pure rfl (op_index Try.underlying25 ti3 rfl rfl h72 (ltn (hE42.neq hO 0 rfl) h73) (hE42.psome hO 0 rfl h72 h73)) rfl rfl ?_
       have hobt := ost (r := Rp.int .i64) rfl 0 hO rfl hE42 h72 h73 (v := .int .i64 (ix out3_40 (k2_33 : Int))) (u := (ix out3_40 (k2_33 : Int))) rfl rfl
       obtain ⟨w74, vs75, hst76, hE77, hop78⟩ := hobt
       refine GoQ.last rfl (hop78 Try.underlying3 rfl ti3 rfl rfl) rfl rfl ?_
       replace hO := hst76.own
       replace h_r1_R := h_r1_R.ch hst76.ch
       replace h_r1_L := h_r1_L.ch hst76.ch
       replace h_r1_J := h_r1_J.ch hst76.ch
       replace h_r1_H := h_r1_H.ch hst76.ch
       replace h_r1_Below := h_r1_Below.ch hst76.ch
       replace hi50 := hi50.ch hst76.ch
       replace hB := hB.trans hst76.fr
       refine GoQ.nil ?_
       refine Go1.inBlock ?_
       refine Go1.region ?_
       obtain ⟨h79, H⟩ := H
       refine GoR.op ((op_add rfl rfl (wrap_i64 h79)) _) rfl rfl ?_
       refine GoR.op ((op_move rfl) _) rfl rfl ?_
       refine GoR.nil ?_
       exact hX3 _ H _ _ ⟨vs75, ⟨rfl, rfl, rfl, rfl, rfl, rfl, rfl, rfl, trivial⟩, hO, hE77, h_r1_R, h_r1_L, h_r1_J, h_r1_H, h_r1_Below, hB⟩
     ·replace H := ifn h54 H
      refine GoR.op (opB ((ldBool hi50 h52 h53 Try.underlying4 rfl rfl) _ (Same.refl _)) (Bool.eq_false_iff.2 h54)) rfl rfl ?_
      refine GoR.op ((op_pickT rfl rfl rfl) _) rfl rfl ?_
      refine GoR.nil ?_
      refine Go1.condF rfl rfl ?_
      refine Go1.skip ?_
      refine Go1.inBlock ?_
      refine Go1.region ?_
      obtain ⟨h80, H⟩ := H
      refine GoR.op ((op_add rfl rfl (wrap_i64 h80)) _) rfl rfl ?_
      refine GoR.op ((op_move rfl) _) rfl rfl ?_
      refine GoR.nil ?_
      exact hX3 _ H _ _ ⟨vs41, ⟨rfl, rfl, rfl, rfl, rfl, rfl, rfl, rfl, trivial⟩, hO, hE42, h_r1_R, h_r1_L, h_r1_J, h_r1_H, h_r1_Below, hB⟩
   ·replace H := ifn h43 H
    refine GoR.op ((fun w => opB (op_lss rfl rfl w) (decide_eq_false h43)) _) rfl rfl ?_
    refine GoR.nil ?_
    refine Go1.seq ?_
    refine Go1.condF rfl rfl ?_
    refine Go1.exit rfl ?_
    refine Go1.inBlock ?_
    refine Go1.region ?_
    obtain ⟨h81, H⟩ := H
    refine GoR.op ((op_add rfl rfl (wrap_i64 h81)) _) rfl rfl ?_
    refine GoR.op ((op_move rfl) _) rfl rfl ?_
    refine GoR.nil ?_
    exact hX2 _ H _ _ ⟨vs41, ⟨rfl, rfl, rfl, rfl, rfl, trivial⟩, hO, hE42, h_r1_R, h_r1_L, h_r1_J, h_r1_H, h_r1_Below, hB⟩
  ·replace H := ifn h37 H
   refine GoR.op ((fun w => opB (op_lss rfl rfl w) (decide_eq_false h37)) _) rfl rfl ?_
   refine GoR.nil ?_
   refine Go1.seq ?_
   refine Go1.condF rfl rfl ?_
   refine Go1.exit rfl ?_
   refine Go1.inBlock ?_
   refine Go1.region ?_
   refine GoR.op ((op_move rfl) _) rfl rfl ?_
   obtain ⟨h82, H⟩ := H
   refine GoR.op ((op_add rfl rfl (wrap_i64 h82)) _) rfl rfl ?_
   refine GoR.op ((op_assign rfl) _) rfl rfl ?_
   refine GoR.nil ?_
   exact hX1 _ H _ _ ⟨vs35, ⟨rfl, rfl, rfl, trivial⟩, hO, hE36, h_r1_R, h_r1_L, h_r1_J, h_r1_H, h_r1_Below, hB⟩
 ·replace H := ifn h31 H
  refine GoR.op ((fun w => opB (op_lss rfl rfl w) (decide_eq_false h31)) _) rfl rfl ?_
  refine GoR.nil ?_
  refine Go1.condF rfl rfl ?_
  refine Go1.exit rfl ?_
  refine Go1.seq ?_
  refine Go1.region ?_
  refine GoR.op ((op_move rfl) _) rfl rfl ?_
  refine GoR.op ((op_assign rfl) _) rfl rfl ?_
  refine GoR.nil ?_
  have hobt := freeze 0 hO rfl hE30
  obtain ⟨hO1, hc85, hi83, hn84⟩ := hobt
  replace h_r1_R := h_r1_R.ch hc85
  replace h_r1_L := h_r1_L.ch hc85
  replace h_r1_J := h_r1_J.ch hc85
  replace h_r1_H := h_r1_H.ch hc85
  replace h_r1_Below := h_r1_Below.ch hc85
  replace hB := hB.trans (Owns.dropFr _ _ 0)
  replace hO := hO1; clear hO1
  refine Go1.ret1 Try.func25 rfl ?_
  exact ⟨out1_28, p17, r1.Below.length, (congrArg (fun nn => Value.slice p17 nn r1.Below.length) hn84), hB.same, (hi83.ch (Ch.weak _ _ _)), H⟩
theorem body5 : Body Try.prog 5 := ⟨Try.f5, Try.func5, rfl, by kernel_rfl⟩
theorem walk_law15_GreenHeights {A : List Nat} {w0 : World} {p_a0 : Option Addr} {c_a0 : Nat} {a0 : List (List Int)} (hA : ∀ b ∈ A, b < w0.heap.size) (h_a0 : ISl (Rp.sl (Rp.int .i64)) A w0 p_a0 c_a0 a0) {K : Bool → Prop} (H : law15_GreenHeights a0 K) :
    CallsV Try.prog 5 #[.slice p_a0 a0.length c_a0] w0 (fun v w' => ∃ (r0 : Bool), v = .bool r0 ∧ Same w0 w' ∧ K r0) := by
 refine CallsV.of (l := [.slice p_a0 a0.length c_a0]) Try.func5 rfl Try.ntmps5 rfl ?_
 have hO := Owns.start hA
 have hB := Fr.refl (bl []) w0
 unfold law15_GreenHeights at H
 replace h_a0 := h_a0.ch (Ch.start A w0)
 refine Go1.seq ?_
 refine Go1.region ?_
 refine GoR.op ((op_assign rfl) _) rfl rfl ?_
 refine GoR.nil ?_
 refine Go1.seq ?_
 refine Go1.seq ?_
 refine Go1.region ?_
 refine GoR.op ((op_move rfl) _) rfl rfl ?_
 refine GoR.call (op_call body13 rfl (walk_law15_large hO.lt h_a0 H)) rfl rfl ?_
 rintro v5 w2 ⟨r1, rfl, hs3, H⟩
 have hst6 := Stp.same hO hs3
 replace hO := hst6.own
 replace h_a0 := h_a0.ch hst6.ch
 replace hB := hB.trans hst6.fr
 refine GoR.nil ?_
 cases r1
 ·replace H := ifn Bool.false_ne_true H
  refine Go1.condF rfl rfl ?_
  refine Go1.skip ?_
  refine Go1.seq ?_
  refine Go1.region ?_
  refine GoR.op ((op_move rfl) _) rfl rfl ?_
  refine GoR.call (op_call body24 rfl (walk_green_Heights hO.lt h_a0 H)) rfl rfl ?_
  rintro v11 w8 ⟨r7, p_r7, c_r7, rfl, hs9, h_r7, H⟩
  have hst12 := Stp.same hO hs9
  replace hO := hst12.own
  replace h_a0 := h_a0.ch hst12.ch
  replace hB := hB.trans hst12.fr
  refine GoR.op ((op_assign rfl) _) rfl rfl ?_
  refine GoR.nil ?_
  refine Go1.seq ?_
  refine Go1.seq ?_
  refine Go1.region ?_
  refine GoR.op ((op_move rfl) _) rfl rfl ?_
  refine GoR.call (op_call body16 rfl (walk_ref14_Valid hO.lt h_a0 H)) rfl rfl ?_
  rintro v17 w14 ⟨r13, rfl, hs15, H⟩
  have hst18 := Stp.same hO hs15
  replace hO := hst18.own
  replace h_a0 := h_a0.ch hst18.ch
  replace h_r7 := h_r7.ch hst18.ch
  replace hB := hB.trans hst18.fr
  cases r13
  ·replace H := ifn Bool.false_ne_true H
   refine GoR.op ((op_not rfl) _) rfl rfl ?_
   refine GoR.nil ?_
   refine Go1.condT rfl rfl ?_
   refine Go1.seq ?_
   refine Go1.region ?_
   refine GoR.op ((op_move rfl) _) rfl rfl ?_
   refine GoR.op ((op_len Try.underlying25 rfl) _) rfl rfl ?_
   replace H := H h_r7.bd
   by_cases h19 : (r7.length : Int) = (0 : Int)
   ·replace H := ifp h19 H
    refine GoR.op ((fun w => opB (op_eql rfl rfl w) (decide_eq_true h19)) _) rfl rfl ?_
    refine GoR.op ((op_move rfl) _) rfl rfl ?_
    refine GoR.call (op_call body14 rfl (walk_law15_awake hO.lt H)) rfl rfl ?_
    rintro v24 w21 ⟨r20, rfl, hs22, H⟩
    have hst25 := Stp.same hO hs22
    replace hO := hst25.own
    replace h_a0 := h_a0.ch hst25.ch
    replace h_r7 := h_r7.ch hst25.ch
    replace hB := hB.trans hst25.fr
    refine GoR.op ((op_pickT rfl rfl rfl) _) rfl rfl ?_
    refine GoR.op ((op_assign rfl) _) rfl rfl ?_
    refine GoR.nil ?_
    refine Go1.ret1 Try.func5 rfl ?_
    exact ⟨r20, rfl, hB.same, H⟩
   ·replace H := ifn h19 H
    refine GoR.op ((fun w => opB (op_eql rfl rfl w) (decide_eq_false h19)) _) rfl rfl ?_
    refine GoR.op ((op_move rfl) _) rfl rfl ?_
    refine GoR.pass rfl rfl ?_
    refine GoR.op ((op_pickF rfl rfl rfl) _) rfl rfl ?_
    refine GoR.op ((op_assign rfl) _) rfl rfl ?_
    refine GoR.nil ?_
    refine Go1.ret1 Try.func5 rfl ?_
    exact ⟨false, rfl, hB.same, H⟩
  ·replace H := ifp rfl H
   refine GoR.op ((op_not rfl) _) rfl rfl ?_
   refine GoR.nil ?_
   refine Go1.condF rfl rfl ?_
   refine Go1.skip ?_
   refine Go1.seq ?_
   refine Go1.region ?_
   refine GoR.op ((op_move rfl) _) rfl rfl ?_
   refine GoR.call (op_call body18 rfl (walk_ref15_Classes hO.lt h_a0 H)) rfl rfl ?_
   rintro v30 w27 ⟨r26, p_r26_R, c_r26_R, p_r26_L, c_r26_L, p_r26_J, c_r26_J, p_r26_H, c_r26_H, p_r26_Below, c_r26_Below, rfl, hs28, h_r26_R, h_r26_L, h_r26_J, h_r26_H, h_r26_Below, H⟩
   have hst31 := Stp.same hO hs28
   replace hO := hst31.own
   replace h_a0 := h_a0.ch hst31.ch
   replace h_r7 := h_r7.ch hst31.ch
   replace hB := hB.trans hst31.fr
   have hobt := oalloc (t := 28) (cs := #[.slice none 0 0, .slice none 0 0, .slice none 0 0, .slice none 0 0, .slice none 0 0]) ti28 hO rfl
   obtain ⟨w32, B33, hst34, hs35, hop36⟩ := hobt
   refine GoR.op hop36 rfl rfl ?_
   replace hO := hst34.own
   replace h_a0 := h_a0.ch hst34.ch
   replace h_r7 := h_r7.ch hst34.ch
   replace h_r26_R := h_r26_R.ch hst34.ch
   replace h_r26_L := h_r26_L.ch hst34.ch
   replace h_r26_J := h_r26_J.ch hst34.ch
   replace h_r26_H := h_r26_H.ch hst34.ch
   replace h_r26_Below := h_r26_Below.ch hst34.ch
   replace hB := hB.trans hst34.fr
   have hobt := oblkStAgg (us := [.slice p_r26_R r26.R.length c_r26_R, .slice p_r26_L r26.L.length c_r26_L, .slice p_r26_J r26.J.length c_r26_J, .slice p_r26_H r26.H.length c_r26_H, .slice p_r26_Below r26.Below.length c_r26_Below]) (o := 0) (cs' := #[.slice p_r26_R r26.R.length c_r26_R, .slice p_r26_L r26.L.length c_r26_L, .slice p_r26_J r26.J.length c_r26_J, .slice p_r26_H r26.H.length c_r26_H, .slice p_r26_Below r26.Below.length c_r26_Below]) 0 hO rfl rfl (Nat.le_of_ble_eq_true rfl) rfl
   obtain ⟨w38, hst39, hop40⟩ := hobt
   refine GoR.op (hop40 ti28 rfl rfl rfl) rfl rfl ?_
   replace hO := hst39.own
   replace h_a0 := h_a0.ch hst39.ch
   replace h_r7 := h_r7.ch hst39.ch
   replace h_r26_R := h_r26_R.ch hst39.ch
   replace h_r26_L := h_r26_L.ch hst39.ch
   replace h_r26_J := h_r26_J.ch hst39.ch
   replace h_r26_H := h_r26_H.ch hst39.ch
   replace h_r26_Below := h_r26_Below.ch hst39.ch
   replace hB := hB.trans hst39.fr
   refine GoR.nil ?_
   refine Go1.seq ?_
   refine Go1.seq ?_
   refine Go1.region ?_
   refine GoR.op ((op_move rfl) _) rfl rfl ?_
   refine GoR.op ((op_move rfl) _) rfl rfl ?_
   refine GoR.call (op_call body25 rfl (walk_ref15_Heights hO.lt h_a0 H)) rfl rfl ?_
   rintro v45 w42 ⟨r41, p_r41, c_r41, rfl, hs43, h_r41, H⟩
   have hst46 := Stp.same hO hs43
   replace hO := hst46.own
   replace h_a0 := h_a0.ch hst46.ch
   replace h_r7 := h_r7.ch hst46.ch
   replace h_r26_R := h_r26_R.ch hst46.ch
   replace h_r26_L := h_r26_L.ch hst46.ch
   replace h_r26_J := h_r26_J.ch hst46.ch
   replace h_r26_H := h_r26_H.ch hst46.ch
   replace h_r26_Below := h_r26_Below.ch hst46.ch
   replace hB := hB.trans hst46.fr
   refine GoR.call (op_call body22 rfl (walk_ref03_Same hO.lt h_r7 h_r41 H)) rfl rfl ?_
   rintro v51 w48 ⟨r47, rfl, hs49, H⟩
   have hst52 := Stp.same hO hs49
   replace hO := hst52.own
   replace h_a0 := h_a0.ch hst52.ch
   replace h_r7 := h_r7.ch hst52.ch
   replace h_r26_R := h_r26_R.ch hst52.ch
   replace h_r26_L := h_r26_L.ch hst52.ch
   replace h_r26_J := h_r26_J.ch hst52.ch
   replace h_r26_H := h_r26_H.ch hst52.ch
   replace h_r26_Below := h_r26_Below.ch hst52.ch
   replace h_r41 := h_r41.ch hst52.ch
   replace hB := hB.trans hst52.fr
   cases r47
   ·replace H := ifn Bool.false_ne_true H
    refine GoR.op ((op_not rfl) _) rfl rfl ?_
    refine GoR.nil ?_
    refine Go1.condT rfl rfl ?_
    refine Go1.seq ?_
    refine Go1.region ?_
    refine GoR.op ((op_assign rfl) _) rfl rfl ?_
    refine GoR.nil ?_
    refine Go1.ret1 Try.func5 rfl ?_
    exact ⟨false, rfl, hB.same, H⟩
   ·replace H := ifp rfl H
    refine GoR.op ((op_not rfl) _) rfl rfl ?_
    refine GoR.nil ?_
    refine Go1.condF rfl rfl ?_
    refine Go1.skip ?_
    refine Go1.seq ?_
    refine Go1.seq ?_
    refine Go1.region ?_
    refine GoR.op ((op_fieldAddr Try.underlying28 rfl ti26 rfl (by decide)) _) rfl rfl ?_
    refine GoR.op ((oblk 0 hO rfl rfl Try.underlying26 rfl rfl) _ (Same.refl _)) rfl rfl ?_
    refine GoR.op ((op_len Try.underlying26 rfl) _) rfl rfl ?_
    replace H := H h_r26_Below.bd
    refine GoR.op ((op_move rfl) _) rfl rfl ?_
    refine GoR.nil ?_
    refine Go1.block ?_
    refine Go1.loopW (S := Nat) (fun s σ w => agrees σ [(3, .slice p_r7 r7.length c_r7), (4, .pointer (some ⟨B33, 0, none⟩)), (30, .int .i64 (r26.Below.length : Int)), (31, .int .i64 (s : Int))] ∧ Owns w0.heap.size w [.blk B33 (.cells #[.slice p_r26_R r26.R.length c_r26_R, .slice p_r26_L r26.L.length c_r26_L, .slice p_r26_J r26.J.length c_r26_J, .slice p_r26_H r26.H.length c_r26_H, .slice p_r26_Below r26.Below.length c_r26_Below] 28 (0, 0))] A ∧ ISl (Rp.int .i64) (bl [.blk B33 (.cells #[.slice p_r26_R r26.R.length c_r26_R, .slice p_r26_L r26.L.length c_r26_L, .slice p_r26_J r26.J.length c_r26_J, .slice p_r26_H r26.H.length c_r26_H, .slice p_r26_Below r26.Below.length c_r26_Below] 28 (0, 0))] ++ A) w p_r7 c_r7 r7 ∧ ISl (Rp.int .i64) (bl [.blk B33 (.cells #[.slice p_r26_R r26.R.length c_r26_R, .slice p_r26_L r26.L.length c_r26_L, .slice p_r26_J r26.J.length c_r26_J, .slice p_r26_H r26.H.length c_r26_H, .slice p_r26_Below r26.Below.length c_r26_Below] 28 (0, 0))] ++ A) w p_r26_R c_r26_R r26.R ∧ ISl (Rp.int .i64) (bl [.blk B33 (.cells #[.slice p_r26_R r26.R.length c_r26_R, .slice p_r26_L r26.L.length c_r26_L, .slice p_r26_J r26.J.length c_r26_J, .slice p_r26_H r26.H.length c_r26_H, .slice p_r26_Below r26.Below.length c_r26_Below] 28 (0, 0))] ++ A) w p_r26_L c_r26_L r26.L ∧ ISl (Rp.int .i64) (bl [.blk B33 (.cells #[.slice p_r26_R r26.R.length c_r26_R, .slice p_r26_L r26.L.length c_r26_L, .slice p_r26_J r26.J.length c_r26_J, .slice p_r26_H r26.H.length c_r26_H, .slice p_r26_Below r26.Below.length c_r26_Below] 28 (0, 0))] ++ A) w p_r26_J c_r26_J r26.J ∧ ISl (Rp.int .i64) (bl [.blk B33 (.cells #[.slice p_r26_R r26.R.length c_r26_R, .slice p_r26_L r26.L.length c_r26_L, .slice p_r26_J r26.J.length c_r26_J, .slice p_r26_H r26.H.length c_r26_H, .slice p_r26_Below r26.Below.length c_r26_Below] 28 (0, 0))] ++ A) w p_r26_H c_r26_H r26.H ∧ ISl (Rp.sl (Rp.bool)) (bl [.blk B33 (.cells #[.slice p_r26_R r26.R.length c_r26_R, .slice p_r26_L r26.L.length c_r26_L, .slice p_r26_J r26.J.length c_r26_J, .slice p_r26_H r26.H.length c_r26_H, .slice p_r26_Below r26.Below.length c_r26_Below] 28 (0, 0))] ++ A) w p_r26_Below c_r26_Below r26.Below ∧ Fr (bl []) w0 (bl [.blk B33 (.cells #[.slice p_r26_R r26.R.length c_r26_R, .slice p_r26_L r26.L.length c_r26_L, .slice p_r26_J r26.J.length c_r26_J, .slice p_r26_H r26.H.length c_r26_H, .slice p_r26_Below r26.Below.length c_r26_Below] 28 (0, 0))]) w) H ⟨⟨rfl, rfl, rfl, rfl, trivial⟩, hO, h_r7, h_r26_R, h_r26_L, h_r26_J, h_r26_H, h_r26_Below, hB⟩ ?_
    rintro X1 k1_54 H hX1 σ w53 ⟨hag, hO, h_r7, h_r26_R, h_r26_L, h_r26_J, h_r26_H, h_r26_Below, hB⟩
    refine Go1.keep [(3, .slice p_r7 r7.length c_r7), (4, .pointer (some ⟨B33, 0, none⟩)), (30, .int .i64 (r26.Below.length : Int)), (31, .int .i64 (k1_54 : Int))] hag ?_
    refine Go1.seq ?_
    refine Go1.region ?_
    by_cases h55 : (k1_54 : Int) < (r26.Below.length : Int)
    ·replace H := ifp h55 H
     refine GoR.op ((fun w => opB (op_lss rfl rfl w) (decide_eq_true h55)) _) rfl rfl ?_
     refine GoR.nil ?_
     refine Go1.seq ?_
     refine Go1.condT rfl rfl ?_
     refine Go1.skip ?_
     refine Go1.seq ?_
     refine Go1.block ?_
     refine Go1.seq ?_
     refine Go1.region ?_
     refine GoR.op ((op_move rfl) _) rfl rfl ?_
     refine GoR.op ((op_assign rfl) _) rfl rfl ?_
     refine GoR.nil ?_
     refine Go1.seq ?_
     refine Go1.region ?_
     refine GoR.op ((op_fieldAddr Try.underlying28 rfl ti26 rfl (by decide)) _) rfl rfl ?_
     refine GoR.op ((oblk 0 hO rfl rfl Try.underlying26 rfl rfl) _ (Same.refl _)) rfl rfl ?_
     refine GoR.op ((op_len Try.underlying26 rfl) _) rfl rfl ?_
     refine GoR.op ((op_move rfl) _) rfl rfl ?_
     refine GoR.nil ?_
     refine Go1.block ?_
     refine Go1.loopW (S := Nat) (fun s σ w => agrees σ [(3, .slice p_r7 r7.length c_r7), (4, .pointer (some ⟨B33, 0, none⟩)), (5, .int .i64 (k1_54 : Int)), (30, .int .i64 (r26.Below.length : Int)), (31, .int .i64 (k1_54 : Int)), (36, .int .i64 (r26.Below.length : Int)), (37, .int .i64 (s : Int))] ∧ Owns w0.heap.size w [.blk B33 (.cells #[.slice p_r26_R r26.R.length c_r26_R, .slice p_r26_L r26.L.length c_r26_L, .slice p_r26_J r26.J.length c_r26_J, .slice p_r26_H r26.H.length c_r26_H, .slice p_r26_Below r26.Below.length c_r26_Below] 28 (0, 0))] A ∧ ISl (Rp.int .i64) (bl [.blk B33 (.cells #[.slice p_r26_R r26.R.length c_r26_R, .slice p_r26_L r26.L.length c_r26_L, .slice p_r26_J r26.J.length c_r26_J, .slice p_r26_H r26.H.length c_r26_H, .slice p_r26_Below r26.Below.length c_r26_Below] 28 (0, 0))] ++ A) w p_r7 c_r7 r7 ∧ ISl (Rp.int .i64) (bl [.blk B33 (.cells #[.slice p_r26_R r26.R.length c_r26_R, .slice p_r26_L r26.L.length c_r26_L, .slice p_r26_J r26.J.length c_r26_J, .slice p_r26_H r26.H.length c_r26_H, .slice p_r26_Below r26.Below.length c_r26_Below] 28 (0, 0))] ++ A) w p_r26_R c_r26_R r26.R ∧ ISl (Rp.int .i64) (bl [.blk B33 (.cells #[.slice p_r26_R r26.R.length c_r26_R, .slice p_r26_L r26.L.length c_r26_L, .slice p_r26_J r26.J.length c_r26_J, .slice p_r26_H r26.H.length c_r26_H, .slice p_r26_Below r26.Below.length c_r26_Below] 28 (0, 0))] ++ A) w p_r26_L c_r26_L r26.L ∧ ISl (Rp.int .i64) (bl [.blk B33 (.cells #[.slice p_r26_R r26.R.length c_r26_R, .slice p_r26_L r26.L.length c_r26_L, .slice p_r26_J r26.J.length c_r26_J, .slice p_r26_H r26.H.length c_r26_H, .slice p_r26_Below r26.Below.length c_r26_Below] 28 (0, 0))] ++ A) w p_r26_J c_r26_J r26.J ∧ ISl (Rp.int .i64) (bl [.blk B33 (.cells #[.slice p_r26_R r26.R.length c_r26_R, .slice p_r26_L r26.L.length c_r26_L, .slice p_r26_J r26.J.length c_r26_J, .slice p_r26_H r26.H.length c_r26_H, .slice p_r26_Below r26.Below.length c_r26_Below] 28 (0, 0))] ++ A) w p_r26_H c_r26_H r26.H ∧ ISl (Rp.sl (Rp.bool)) (bl [.blk B33 (.cells #[.slice p_r26_R r26.R.length c_r26_R, .slice p_r26_L r26.L.length c_r26_L, .slice p_r26_J r26.J.length c_r26_J, .slice p_r26_H r26.H.length c_r26_H, .slice p_r26_Below r26.Below.length c_r26_Below] 28 (0, 0))] ++ A) w p_r26_Below c_r26_Below r26.Below ∧ Fr (bl []) w0 (bl [.blk B33 (.cells #[.slice p_r26_R r26.R.length c_r26_R, .slice p_r26_L r26.L.length c_r26_L, .slice p_r26_J r26.J.length c_r26_J, .slice p_r26_H r26.H.length c_r26_H, .slice p_r26_Below r26.Below.length c_r26_Below] 28 (0, 0))]) w) H ⟨⟨rfl, rfl, rfl, rfl, rfl, rfl, rfl, trivial⟩, hO, h_r7, h_r26_R, h_r26_L, h_r26_J, h_r26_H, h_r26_Below, hB⟩ ?_
     rintro X2 k2_57 H hX2 σ w56 ⟨hag, hO, h_r7, h_r26_R, h_r26_L, h_r26_J, h_r26_H, h_r26_Below, hB⟩
     refine Go1.keep [(3, .slice p_r7 r7.length c_r7), (4, .pointer (some ⟨B33, 0, none⟩)), (5, .int .i64 (k1_54 : Int)), (30, .int .i64 (r26.Below.length : Int)), (31, .int .i64 (k1_54 : Int)), (36, .int .i64 (r26.Below.length : Int)), (37, .int .i64 (k2_57 : Int))] hag ?_
     refine Go1.seq ?_
     refine Go1.region ?_
     by_cases h58 : (k2_57 : Int) < (r26.Below.length : Int)
     ·replace H := ifp h58 H
      refine GoR.op ((fun w => opB (op_lss rfl rfl w) (decide_eq_true h58)) _) rfl rfl ?_
      refine GoR.nil ?_
      refine Go1.seq ?_
      refine Go1.condT rfl rfl ?_
      refine Go1.skip ?_
      refine Go1.seq ?_
      refine Go1.block ?_
      refine Go1.seq ?_
      refine Go1.region ?_
      refine GoR.op ((op_move rfl) _) rfl rfl ?_
      refine GoR.op ((op_assign rfl) _) rfl rfl ?_
      refine GoR.nil ?_
      refine Go1.seq ?_
      refine Go1.drawS 0 [(0, .pure), (1, .pure), (2, .pure), (3, .pure), (4, .pure), (5, .stable), (6, .pure), (7, .pure), (8, .stable), (9, .pure), (10, .pure), (11, .stable), (12, .pure), (13, .pure), (14, .pure), (15, .pure), (16, .pure), (17, .stable), (18, .pure), (19, .pure), (20, .pure), (21, .stable), (22, .pure), (23, .pure)] mixed (by kernel_rfl) ?_
      intro w59 hs60
      have hst61 := Stp.same hO hs60
      replace hO := hst61.own
      replace h_r7 := h_r7.ch hst61.ch
      replace h_r26_R := h_r26_R.ch hst61.ch
      replace h_r26_L := h_r26_L.ch hst61.ch
      replace h_r26_J := h_r26_J.ch hst61.ch
      replace h_r26_H := h_r26_H.ch hst61.ch
      replace h_r26_Below := h_r26_Below.ch hst61.ch
      replace hB := hB.trans hst61.fr
      refine GoQ.pure rfl (op_move rfl) rfl rfl ?_
      refine GoQ.pure rfl (op_move rfl) rfl rfl ?_
      by_cases h62 : (k1_54 : Int) = (k2_57 : Int)
      ·replace H := ifp h62 H
       refine GoQ.pure rfl (fun w => opB (op_neq rfl rfl w) (ndT h62)) rfl rfl ?_
       refine GoQ.pure rfl (op_move rfl) rfl rfl ?_
       refine GoQ.pass rfl rfl rfl ?_
       refine GoQ.pass rfl rfl rfl ?_
       refine GoQ.pass rfl rfl rfl ?_
       refine GoQ.pass rfl rfl rfl ?_
       refine GoQ.pass rfl rfl rfl ?_
       refine GoQ.pass rfl rfl rfl ?_
       refine GoQ.pass rfl rfl rfl ?_
       refine GoQ.pass rfl rfl rfl ?_
       refine GoQ.pure rfl (op_pickF rfl rfl rfl) rfl rfl ?_
       refine GoQ.pure rfl (op_move rfl) rfl rfl ?_
       refine GoQ.pass rfl rfl rfl ?_
       refine GoQ.pass rfl rfl rfl ?_
       refine GoQ.pass rfl rfl rfl ?_
       refine GoQ.pass rfl rfl rfl ?_
       refine GoQ.pass rfl rfl rfl ?_
       refine GoQ.pass rfl rfl rfl ?_
       refine GoQ.pass rfl rfl rfl ?_
       refine GoQ.pass rfl rfl rfl ?_
       refine GoQ.pass rfl rfl rfl ?_
       refine GoQ.pure rfl (op_pickF rfl rfl rfl) rfl rfl ?_
       refine GoQ.nil ?_
       refine Go1.condF rfl rfl ?_
       refine Go1.skip ?_
       refine Go1.inBlock ?_
       refine Go1.region ?_
       refine GoR.op ((op_add rfl rfl (wrap_i64 (natbd h58 h_r26_Below.bd))) _) rfl rfl ?_
       refine GoR.op ((op_move rfl) _) rfl rfl ?_
       refine GoR.nil ?_
       exact hX2 _ H _ _ ⟨⟨rfl, rfl, rfl, rfl, rfl, rfl, rfl, trivial⟩, hO, h_r7, h_r26_R, h_r26_L, h_r26_J, h_r26_H, h_r26_Below, hB⟩
      ·replace H := ifn h62 H
       refine GoQ.pure rfl (fun w => opB (op_neq rfl rfl w) (ndF h62)) rfl rfl ?_
       refine GoQ.pure rfl (op_move rfl) rfl rfl ?_
       refine GoQ.pure rfl (op_fieldAddr Try.underlying28 rfl ti26 rfl (by decide)) rfl rfl ?_
       refine GoQ.stable rfl (oblk 0 hO rfl rfl Try.underlying26 rfl rfl) rfl rfl ?_
       refine GoQ.pure rfl (op_move rfl) rfl rfl ?_
       obtain ⟨h63, H⟩ := H
       obtain ⟨h64, H⟩ := H
       refine GoQ.pure rfl (op_index Try.underlying26 ti38 rfl rfl h63 h64 (h_r26_Below.some_ h63 h64)) rfl rfl ?_
       have hobt := ldSl h_r26_Below h63 h64
       obtain ⟨p65, c66, hi67, hl68⟩ := hobt
       refine GoQ.stable rfl (hl68 Try.underlying38 rfl rfl) rfl rfl ?_
       refine GoQ.pure rfl (op_move rfl) rfl rfl ?_
       obtain ⟨h69, H⟩ := H
       obtain ⟨h70, H⟩ := H
       refine GoQ.pure rfl (op_index Try.underlying38 ti4 rfl rfl h69 h70 (hi67.some_ h69 h70)) rfl rfl ?_
       by_cases h71 : ix (ix r26.Below (k1_54 : Int)) (k2_57 : Int) = true
       ·replace H := ifp h71 H
        refine GoQ.stable rfl (fun w hw => opB ((ldBool hi67 h69 h70 Try.underlying4 rfl rfl) w hw) (h71)) rfl rfl ?_
        refine GoQ.pure rfl (op_pickT rfl rfl rfl) rfl rfl ?_
        refine GoQ.pure rfl (op_move rfl) rfl rfl ?_
        refine GoQ.pure rfl (op_move rfl) rfl rfl ?_
        refine GoQ.pure rfl (op_move rfl) rfl rfl ?_
        obtain ⟨h72, H⟩ := H
        obtain ⟨h73, H⟩ := H
        refine GoQ.pure rfl (op_index Try.underlying25 ti3 rfl rfl h72 h73 (h_r7.some_ h72 h73)) rfl rfl ?_
        refine GoQ.stable rfl (ldInt h_r7 h72 h73 Try.underlying3 rfl rfl) rfl rfl ?_
        refine GoQ.pure rfl (op_move rfl) rfl rfl ?_
        refine GoQ.pure rfl (op_move rfl) rfl rfl ?_
        obtain ⟨h74, H⟩ := H
        obtain ⟨h75, H⟩ := H
        refine GoQ.pure rfl (op_index Try.underlying25 ti3 rfl rfl h74 h75 (h_r7.some_ h74 h75)) rfl rfl ?_
        refine GoQ.stable rfl (ldInt h_r7 h74 h75 Try.underlying3 rfl rfl) rfl rfl ?_
        by_cases h76 : (ix r7 (k1_54 : Int)) ≤ (ix r7 (k2_57 : Int))
        ·replace H := ifp h76 H
         refine GoQ.pure rfl (fun w => opB (op_leq rfl rfl w) (decide_eq_true h76)) rfl rfl ?_
         refine GoQ.pure rfl (op_pickT rfl rfl rfl) rfl rfl ?_
         refine GoQ.nil ?_
         refine Go1.condT rfl rfl ?_
         refine Go1.seq ?_
         refine Go1.region ?_
         refine GoR.op ((op_assign rfl) _) rfl rfl ?_
         refine GoR.nil ?_
         refine Go1.ret1 Try.func5 rfl ?_
         exact ⟨false, rfl, hB.same, H⟩
        ·replace H := ifn h76 H
         refine GoQ.pure rfl (fun w => opB (op_leq rfl rfl w) (decide_eq_false h76)) rfl rfl ?_
         refine GoQ.pure rfl (op_pickT rfl rfl rfl) rfl rfl ?_
         refine GoQ.nil ?_
         refine Go1.condF rfl rfl ?_
         refine Go1.skip ?_
         refine Go1.inBlock ?_
         refine Go1.region ?_
         refine GoR.op ((op_add rfl rfl (wrap_i64 (natbd h58 h_r26_Below.bd))) _) rfl rfl ?_
         refine GoR.op ((op_move rfl) _) rfl rfl ?_
         refine GoR.nil ?_
         exact hX2 _ H _ _ ⟨⟨rfl, rfl, rfl, rfl, rfl, rfl, rfl, trivial⟩, hO, h_r7, h_r26_R, h_r26_L, h_r26_J, h_r26_H, h_r26_Below, hB⟩
       ·replace H := ifn h71 H
        refine GoQ.stable rfl (fun w hw => opB ((ldBool hi67 h69 h70 Try.underlying4 rfl rfl) w hw) (Bool.eq_false_iff.2 h71)) rfl rfl ?_
        refine GoQ.pure rfl (op_pickT rfl rfl rfl) rfl rfl ?_
        refine GoQ.pure rfl (op_move rfl) rfl rfl ?_
        refine GoQ.pass rfl rfl rfl ?_
        refine GoQ.pass rfl rfl rfl ?_
        refine GoQ.pass rfl rfl rfl ?_
        refine GoQ.pass rfl rfl rfl ?_
        refine GoQ.pass rfl rfl rfl ?_
        refine GoQ.pass rfl rfl rfl ?_
        refine GoQ.pass rfl rfl rfl ?_
        refine GoQ.pass rfl rfl rfl ?_
        refine GoQ.pass rfl rfl rfl ?_
        refine GoQ.pure rfl (op_pickF rfl rfl rfl) rfl rfl ?_
        refine GoQ.nil ?_
        refine Go1.condF rfl rfl ?_
        refine Go1.skip ?_
        refine Go1.inBlock ?_
        refine Go1.region ?_
        refine GoR.op ((op_add rfl rfl (wrap_i64 (natbd h58 h_r26_Below.bd))) _) rfl rfl ?_
        refine GoR.op ((op_move rfl) _) rfl rfl ?_
        refine GoR.nil ?_
        exact hX2 _ H _ _ ⟨⟨rfl, rfl, rfl, rfl, rfl, rfl, rfl, trivial⟩, hO, h_r7, h_r26_R, h_r26_L, h_r26_J, h_r26_H, h_r26_Below, hB⟩
     ·replace H := ifn h58 H
      refine GoR.op ((fun w => opB (op_lss rfl rfl w) (decide_eq_false h58)) _) rfl rfl ?_
      refine GoR.nil ?_
      refine Go1.seq ?_
      refine Go1.condF rfl rfl ?_
      refine Go1.exit rfl ?_
      refine Go1.inBlock ?_
      refine Go1.region ?_
      refine GoR.op ((op_add rfl rfl (wrap_i64 (natbd h55 h_r26_Below.bd))) _) rfl rfl ?_
      refine GoR.op ((op_move rfl) _) rfl rfl ?_
      refine GoR.nil ?_
      exact hX1 _ H _ _ ⟨⟨rfl, rfl, rfl, rfl, trivial⟩, hO, h_r7, h_r26_R, h_r26_L, h_r26_J, h_r26_H, h_r26_Below, hB⟩
    ·replace H := ifn h55 H
     refine GoR.op ((fun w => opB (op_lss rfl rfl w) (decide_eq_false h55)) _) rfl rfl ?_
     refine GoR.nil ?_
     refine Go1.seq ?_
     refine Go1.condF rfl rfl ?_
     refine Go1.exit rfl ?_
     refine Go1.seq ?_
     refine Go1.region ?_
     refine GoR.call (op_call body14 rfl (walk_law15_awake hO.lt H)) rfl rfl ?_
     rintro v81 w78 ⟨r77, rfl, hs79, H⟩
     have hst82 := Stp.same hO hs79
     replace hO := hst82.own
     replace h_r7 := h_r7.ch hst82.ch
     replace h_r26_R := h_r26_R.ch hst82.ch
     replace h_r26_L := h_r26_L.ch hst82.ch
     replace h_r26_J := h_r26_J.ch hst82.ch
     replace h_r26_H := h_r26_H.ch hst82.ch
     replace h_r26_Below := h_r26_Below.ch hst82.ch
     replace hB := hB.trans hst82.fr
     refine GoR.op ((op_assign rfl) _) rfl rfl ?_
     refine GoR.nil ?_
     refine Go1.ret1 Try.func5 rfl ?_
     exact ⟨r77, rfl, hB.same, H⟩
 ·replace H := ifp rfl H
  refine Go1.condT rfl rfl ?_
  refine Go1.seq ?_
  refine Go1.region ?_
  refine GoR.call (op_call body14 rfl (walk_law15_awake hO.lt H)) rfl rfl ?_
  rintro v87 w84 ⟨r83, rfl, hs85, H⟩
  have hst88 := Stp.same hO hs85
  replace hO := hst88.own
  replace h_a0 := h_a0.ch hst88.ch
  replace hB := hB.trans hst88.fr
  refine GoR.op ((op_assign rfl) _) rfl rfl ?_
  refine GoR.nil ?_
  refine Go1.ret1 Try.func5 rfl ?_
  exact ⟨r83, rfl, hB.same, H⟩
end Sg
