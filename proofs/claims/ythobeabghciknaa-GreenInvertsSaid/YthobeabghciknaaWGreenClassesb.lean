/- The walks: each call keeps to its plain transformer. Printed by walkgen.py. -/
import Derived.Test.YthobeabghciknaaTi
import Derived.Test.YthobeabghciknaaWGreenClasses
namespace Sg
open Go Go.RowKit Go.Proofs
set_option linter.unusedVariables false
set_option linter.unusedSimpArgs false
set_option maxRecDepth 100000
set_option maxHeartbeats 4000000
theorem body59 : Body Try.prog 59 := ⟨Try.f59, Try.func59, rfl, by kernel_rfl⟩
theorem body24 : Body Try.prog 24 := ⟨Try.f24, Try.func24, rfl, by kernel_rfl⟩
theorem walk_green_Heights {A : List Nat} {w0 : World} {p_t : Option Addr} {c_t : Nat} {t : List (List Int)} (hA : ∀ b ∈ A, b < w0.heap.size) (h_t : ISl (Rp.sl (Rp.int .i64)) A w0 p_t c_t t) {K : List Int → Prop} (H : green_Heights t K) :
    CallsV Try.prog 24 #[.slice p_t t.length c_t] w0 (fun v w' => ∃ (r0 : List Int), ∃ (p_r0 : Option Addr), ∃ (c_r0 : Nat), v = .slice p_r0 r0.length c_r0 ∧ Same w0 w' ∧ ISl (Rp.int .i64) A w' p_r0 c_r0 r0 ∧ K r0) := by
 refine CallsV.of (l := [.slice p_t t.length c_t]) Try.func24 rfl Try.ntmps24 rfl ?_
 have hO := Owns.start hA
 have hB := Fr.refl (bl []) w0
 unfold green_Heights at H
 replace h_t := h_t.ch (Ch.start A w0)
 refine Go1.seq ?_
 refine Go1.region ?_
 refine GoR.op ((op_assign rfl) _) rfl rfl ?_
 refine GoR.nil ?_
 refine Go1.seq ?_
 refine Go1.region ?_
 refine GoR.op ((op_move rfl) _) rfl rfl ?_
 refine GoR.call (op_call body15 rfl (walk_green_Classes hO.lt h_t H)) rfl rfl ?_
 rintro v5 w2 ⟨r1, p_r1_R, c_r1_R, p_r1_L, c_r1_L, p_r1_J, c_r1_J, p_r1_H, c_r1_H, p_r1_Below, c_r1_Below, rfl, hs3, h_r1_R, h_r1_L, h_r1_J, h_r1_H, h_r1_Below, H⟩
 have hst6 := Stp.same hO hs3
 replace hO := hst6.own
 replace h_t := h_t.ch hst6.ch
 replace hB := hB.trans hst6.fr
 have hobt := oalloc (t := 28) (cs := #[.slice none 0 0, .slice none 0 0, .slice none 0 0, .slice none 0 0, .slice none 0 0]) ti28 hO rfl
 obtain ⟨w7, B8, hst9, hs10, hop11⟩ := hobt
 refine GoR.op hop11 rfl rfl ?_
 replace hO := hst9.own
 replace h_t := h_t.ch hst9.ch
 replace h_r1_R := h_r1_R.ch hst9.ch
 replace h_r1_L := h_r1_L.ch hst9.ch
 replace h_r1_J := h_r1_J.ch hst9.ch
 replace h_r1_H := h_r1_H.ch hst9.ch
 replace h_r1_Below := h_r1_Below.ch hst9.ch
 replace hB := hB.trans hst9.fr
 have hobt := oblkStAgg (us := [.slice p_r1_R r1.R.length c_r1_R, .slice p_r1_L r1.L.length c_r1_L, .slice p_r1_J r1.J.length c_r1_J, .slice p_r1_H r1.H.length c_r1_H, .slice p_r1_Below r1.Below.length c_r1_Below]) (o := 0) (cs' := #[.slice p_r1_R r1.R.length c_r1_R, .slice p_r1_L r1.L.length c_r1_L, .slice p_r1_J r1.J.length c_r1_J, .slice p_r1_H r1.H.length c_r1_H, .slice p_r1_Below r1.Below.length c_r1_Below]) 0 hO rfl rfl (Nat.le_of_ble_eq_true rfl) rfl
 obtain ⟨w13, hst14, hop15⟩ := hobt
 refine GoR.op (hop15 ti28 rfl rfl rfl) rfl rfl ?_
 replace hO := hst14.own
 replace h_t := h_t.ch hst14.ch
 replace h_r1_R := h_r1_R.ch hst14.ch
 replace h_r1_L := h_r1_L.ch hst14.ch
 replace h_r1_J := h_r1_J.ch hst14.ch
 replace h_r1_H := h_r1_H.ch hst14.ch
 replace h_r1_Below := h_r1_Below.ch hst14.ch
 replace hB := hB.trans hst14.fr
 refine GoR.nil ?_
 refine Go1.seq ?_
 refine Go1.region ?_
 refine GoR.op ((op_fieldAddr Try.underlying28 rfl ti26 rfl (by decide)) _) rfl rfl ?_
 refine GoR.op ((oblk 0 hO rfl rfl Try.underlying26 rfl rfl) _ (Same.refl _)) rfl rfl ?_
 refine GoR.op ((op_len Try.underlying26 rfl) _) rfl rfl ?_
 replace H := H h_r1_Below.bd
 obtain ⟨h23, H⟩ := H
 obtain ⟨h24, H⟩ := H
 have hobt := omake (n := (r1.Below.length : Int)) (r := Rp.int .i64) (d := (0 : Int)) Try.underlying25 ti3 (fun _ _ => rfl) rfl hO h23 h24 (by decide)
 obtain ⟨w16, p17, vs18, hst19, hE20, hs21, hop22⟩ := hobt
 refine GoR.op (hop22 rfl rfl) rfl rfl ?_
 replace hO := hst19.own
 replace h_t := h_t.ch hst19.ch
 replace h_r1_R := h_r1_R.ch hst19.ch
 replace h_r1_L := h_r1_L.ch hst19.ch
 replace h_r1_J := h_r1_J.ch hst19.ch
 replace h_r1_H := h_r1_H.ch hst19.ch
 replace h_r1_Below := h_r1_Below.ch hst19.ch
 replace hB := hB.trans hst19.fr
 have hobt := oalloc (t := 25) (cs := #[.slice none 0 0]) ti25 hO rfl
 obtain ⟨w26, B27, hst28, hs29, hop30⟩ := hobt
 refine GoR.op hop30 rfl rfl ?_
 replace hE20 := hE20.ch hst28.ch
 replace hO := hst28.own
 replace h_t := h_t.ch hst28.ch
 replace h_r1_R := h_r1_R.ch hst28.ch
 replace h_r1_L := h_r1_L.ch hst28.ch
 replace h_r1_J := h_r1_J.ch hst28.ch
 replace h_r1_H := h_r1_H.ch hst28.ch
 replace h_r1_Below := h_r1_Below.ch hst28.ch
 replace hB := hB.trans hst28.fr
 have hobt := oblkSt (v := .slice p17 r1.Below.length r1.Below.length) (i := 0) 0 hO rfl rfl rfl
 obtain ⟨w32, hst33, hop34⟩ := hobt
 refine GoR.op (hop34 Try.underlying25 rfl ti25 rfl rfl) rfl rfl ?_
 replace hE20 := hE20.ch hst33.ch
 replace hO := hst33.own
 replace h_t := h_t.ch hst33.ch
 replace h_r1_R := h_r1_R.ch hst33.ch
 replace h_r1_L := h_r1_L.ch hst33.ch
 replace h_r1_J := h_r1_J.ch hst33.ch
 replace h_r1_H := h_r1_H.ch hst33.ch
 replace h_r1_Below := h_r1_Below.ch hst33.ch
 replace hB := hB.trans hst33.fr
 refine GoR.nil ?_
 refine Go1.seq ?_
 refine Go1.seq ?_
 refine Go1.region ?_
 refine GoR.op ((oblk 0 hO rfl rfl Try.underlying25 rfl rfl) _ (Same.refl _)) rfl rfl ?_
 refine GoR.op ((op_lenN Try.underlying25 rfl (hE20.neq hO 1 rfl)) _) rfl rfl ?_
 refine GoR.op ((op_move rfl) _) rfl rfl ?_
 refine GoR.nil ?_
 refine Go1.block ?_
 refine Go1.loopW (S := Nat × List Int) (fun s σ w => ∃ (vs38 : List Value), agrees σ [(3, .pointer (some ⟨B8, 0, none⟩)), (4, .pointer (some ⟨B27, 0, none⟩)), (15, .int .i64 ((List.replicate r1.Below.length ((0 : Int))).length : Int)), (16, .int .i64 ((s.1) : Int))] ∧ Owns w0.heap.size w [.blk B27 (.cells #[.slice p17 r1.Below.length r1.Below.length] 25 (0, 0)), .row 3 1 p17 r1.Below.length r1.Below.length vs38, .blk B8 (.cells #[.slice p_r1_R r1.R.length c_r1_R, .slice p_r1_L r1.L.length c_r1_L, .slice p_r1_J r1.J.length c_r1_J, .slice p_r1_H r1.H.length c_r1_H, .slice p_r1_Below r1.Below.length c_r1_Below] 28 (0, 0))] A ∧ Els (Rp.int .i64) (bl [.blk B27 (.cells #[.slice p17 r1.Below.length r1.Below.length] 25 (0, 0)), .row 3 1 p17 r1.Below.length r1.Below.length vs38, .blk B8 (.cells #[.slice p_r1_R r1.R.length c_r1_R, .slice p_r1_L r1.L.length c_r1_L, .slice p_r1_J r1.J.length c_r1_J, .slice p_r1_H r1.H.length c_r1_H, .slice p_r1_Below r1.Below.length c_r1_Below] 28 (0, 0))] ++ A) w vs38 (s.2) ∧ ISl (Rp.int .i64) (bl [.blk B27 (.cells #[.slice p17 r1.Below.length r1.Below.length] 25 (0, 0)), .row 3 1 p17 r1.Below.length r1.Below.length vs38, .blk B8 (.cells #[.slice p_r1_R r1.R.length c_r1_R, .slice p_r1_L r1.L.length c_r1_L, .slice p_r1_J r1.J.length c_r1_J, .slice p_r1_H r1.H.length c_r1_H, .slice p_r1_Below r1.Below.length c_r1_Below] 28 (0, 0))] ++ A) w p_r1_R c_r1_R r1.R ∧ ISl (Rp.int .i64) (bl [.blk B27 (.cells #[.slice p17 r1.Below.length r1.Below.length] 25 (0, 0)), .row 3 1 p17 r1.Below.length r1.Below.length vs38, .blk B8 (.cells #[.slice p_r1_R r1.R.length c_r1_R, .slice p_r1_L r1.L.length c_r1_L, .slice p_r1_J r1.J.length c_r1_J, .slice p_r1_H r1.H.length c_r1_H, .slice p_r1_Below r1.Below.length c_r1_Below] 28 (0, 0))] ++ A) w p_r1_L c_r1_L r1.L ∧ ISl (Rp.int .i64) (bl [.blk B27 (.cells #[.slice p17 r1.Below.length r1.Below.length] 25 (0, 0)), .row 3 1 p17 r1.Below.length r1.Below.length vs38, .blk B8 (.cells #[.slice p_r1_R r1.R.length c_r1_R, .slice p_r1_L r1.L.length c_r1_L, .slice p_r1_J r1.J.length c_r1_J, .slice p_r1_H r1.H.length c_r1_H, .slice p_r1_Below r1.Below.length c_r1_Below] 28 (0, 0))] ++ A) w p_r1_J c_r1_J r1.J ∧ ISl (Rp.int .i64) (bl [.blk B27 (.cells #[.slice p17 r1.Below.length r1.Below.length] 25 (0, 0)), .row 3 1 p17 r1.Below.length r1.Below.length vs38, .blk B8 (.cells #[.slice p_r1_R r1.R.length c_r1_R, .slice p_r1_L r1.L.length c_r1_L, .slice p_r1_J r1.J.length c_r1_J, .slice p_r1_H r1.H.length c_r1_H, .slice p_r1_Below r1.Below.length c_r1_Below] 28 (0, 0))] ++ A) w p_r1_H c_r1_H r1.H ∧ ISl (Rp.sl (Rp.bool)) (bl [.blk B27 (.cells #[.slice p17 r1.Below.length r1.Below.length] 25 (0, 0)), .row 3 1 p17 r1.Below.length r1.Below.length vs38, .blk B8 (.cells #[.slice p_r1_R r1.R.length c_r1_R, .slice p_r1_L r1.L.length c_r1_L, .slice p_r1_J r1.J.length c_r1_J, .slice p_r1_H r1.H.length c_r1_H, .slice p_r1_Below r1.Below.length c_r1_Below] 28 (0, 0))] ++ A) w p_r1_Below c_r1_Below r1.Below ∧ Fr (bl []) w0 (bl [.blk B27 (.cells #[.slice p17 r1.Below.length r1.Below.length] 25 (0, 0)), .row 3 1 p17 r1.Below.length r1.Below.length vs38, .blk B8 (.cells #[.slice p_r1_R r1.R.length c_r1_R, .slice p_r1_L r1.L.length c_r1_L, .slice p_r1_J r1.J.length c_r1_J, .slice p_r1_H r1.H.length c_r1_H, .slice p_r1_Below r1.Below.length c_r1_Below] 28 (0, 0))]) w) H ⟨vs18, ⟨rfl, rfl, rfl, rfl, trivial⟩, hO, hE20, h_r1_R, h_r1_L, h_r1_J, h_r1_H, h_r1_Below, hB⟩ ?_
 rintro X1 ⟨k1_36, d_37⟩ H hX1 σ w35 ⟨vs38, hag, hO, hE39, h_r1_R, h_r1_L, h_r1_J, h_r1_H, h_r1_Below, hB⟩
 dsimp only at H
 refine Go1.keep [(3, .pointer (some ⟨B8, 0, none⟩)), (4, .pointer (some ⟨B27, 0, none⟩)), (15, .int .i64 ((List.replicate r1.Below.length ((0 : Int))).length : Int)), (16, .int .i64 (k1_36 : Int))] hag ?_
 refine Go1.seq ?_
 refine Go1.region ?_
 by_cases h40 : (k1_36 : Int) < ((List.replicate r1.Below.length ((0 : Int))).length : Int)
 ·replace H := ifp h40 H
  refine GoR.op ((fun w => opB (op_lss rfl rfl w) (decide_eq_true h40)) _) rfl rfl ?_
  refine GoR.nil ?_
  refine Go1.seq ?_
  refine Go1.condT rfl rfl ?_
  refine Go1.skip ?_
  refine Go1.seq ?_
  refine Go1.block ?_
  refine Go1.seq ?_
  refine Go1.region ?_
  refine GoR.op ((op_move rfl) _) rfl rfl ?_
  refine GoR.op ((op_assign rfl) _) rfl rfl ?_
  refine GoR.nil ?_
  refine Go1.region ?_
  refine GoR.op ((oblk 0 hO rfl rfl Try.underlying25 rfl rfl) _ (Same.refl _)) rfl rfl ?_
  refine GoR.op ((op_move rfl) _) rfl rfl ?_
  obtain ⟨h41, H⟩ := H
  obtain ⟨h42, H⟩ := H
  refine GoR.op ((op_index Try.underlying25 ti3 rfl rfl h41 (ltn (hE39.neq hO 1 rfl) h42) (hE39.psome hO 1 rfl h41 h42)) _) rfl rfl ?_
  have hobt := ost (r := Rp.int .i64) rfl 1 hO rfl hE39 h41 h42 (v := .int .i64 (-1 : Int)) (u := (-1 : Int)) rfl rfl
  obtain ⟨w43, vs44, hst45, hE46, hop47⟩ := hobt
  refine GoR.op (hop47 Try.underlying3 rfl ti3 rfl rfl) rfl rfl ?_
  replace hO := hst45.own
  replace h_r1_R := h_r1_R.ch hst45.ch
  replace h_r1_L := h_r1_L.ch hst45.ch
  replace h_r1_J := h_r1_J.ch hst45.ch
  replace h_r1_H := h_r1_H.ch hst45.ch
  replace h_r1_Below := h_r1_Below.ch hst45.ch
  replace hB := hB.trans hst45.fr
  refine GoR.nil ?_
  refine Go1.inBlock ?_
  refine Go1.region ?_
  obtain ⟨h48, H⟩ := H
  refine GoR.op ((op_add rfl rfl (wrap_i64 h48)) _) rfl rfl ?_
  refine GoR.op ((op_move rfl) _) rfl rfl ?_
  refine GoR.nil ?_
  exact hX1 _ H _ _ ⟨vs44, ⟨rfl, rfl, rfl, rfl, trivial⟩, hO, hE46, h_r1_R, h_r1_L, h_r1_J, h_r1_H, h_r1_Below, hB⟩
 ·replace H := ifn h40 H
  refine GoR.op ((fun w => opB (op_lss rfl rfl w) (decide_eq_false h40)) _) rfl rfl ?_
  refine GoR.nil ?_
  refine Go1.seq ?_
  refine Go1.condF rfl rfl ?_
  refine Go1.exit rfl ?_
  refine Go1.seq ?_
  refine Go1.region ?_
  have hobt := oalloc (t := 68) (cs := #[.nilFunc]) ti68 hO rfl
  obtain ⟨w49, B50, hst51, hs52, hop53⟩ := hobt
  refine GoR.op hop53 rfl rfl ?_
  replace hE39 := hE39.ch hst51.ch
  replace hO := hst51.own
  replace h_r1_R := h_r1_R.ch hst51.ch
  replace h_r1_L := h_r1_L.ch hst51.ch
  replace h_r1_J := h_r1_J.ch hst51.ch
  replace h_r1_H := h_r1_H.ch hst51.ch
  replace h_r1_Below := h_r1_Below.ch hst51.ch
  replace hB := hB.trans hst51.fr
  refine GoR.nil ?_
  refine Go1.seq ?_
  refine Go1.region ?_
  refine GoR.op ((op_makeFunc (vs := [.pointer (some ⟨B27, 0, none⟩), .pointer (some ⟨B8, 0, none⟩), .pointer (some ⟨B50, 0, none⟩)]) rfl) _) rfl rfl ?_
  have hobt := oblkSt (v := .func (.func 59) #[] #[.pointer (some ⟨B27, 0, none⟩), .pointer (some ⟨B8, 0, none⟩), .pointer (some ⟨B50, 0, none⟩)]) (i := 0) 0 hO rfl rfl rfl
  obtain ⟨w55, hst56, hop57⟩ := hobt
  refine GoR.op (hop57 Try.underlying68 rfl ti68 rfl rfl) rfl rfl ?_
  replace hE39 := hE39.ch hst56.ch
  replace hO := hst56.own
  replace h_r1_R := h_r1_R.ch hst56.ch
  replace h_r1_L := h_r1_L.ch hst56.ch
  replace h_r1_J := h_r1_J.ch hst56.ch
  replace h_r1_H := h_r1_H.ch hst56.ch
  replace h_r1_Below := h_r1_Below.ch hst56.ch
  replace hB := hB.trans hst56.fr
  refine GoR.nil ?_
  refine Go1.seq ?_
  refine Go1.seq ?_
  refine Go1.region ?_
  refine GoR.op ((oblk 1 hO rfl rfl Try.underlying25 rfl rfl) _ (Same.refl _)) rfl rfl ?_
  refine GoR.op ((op_lenN Try.underlying25 rfl (hE39.neq hO 2 rfl)) _) rfl rfl ?_
  refine GoR.op ((op_move rfl) _) rfl rfl ?_
  refine GoR.nil ?_
  refine Go1.block ?_
  refine Go1.loopW (S := Nat × List Int) (fun s σ w => ∃ (vs61 : List Value), agrees σ [(4, .pointer (some ⟨B27, 0, none⟩)), (6, .pointer (some ⟨B50, 0, none⟩)), (25, .int .i64 (d_37.length : Int)), (26, .int .i64 ((s.1) : Int))] ∧ Owns w0.heap.size w [.blk B50 (.cells #[.func (.func 59) #[] #[.pointer (some ⟨B27, 0, none⟩), .pointer (some ⟨B8, 0, none⟩), .pointer (some ⟨B50, 0, none⟩)]] 68 (0, 0)), .blk B27 (.cells #[.slice p17 r1.Below.length r1.Below.length] 25 (0, 0)), .row 3 1 p17 r1.Below.length r1.Below.length vs61, .blk B8 (.cells #[.slice p_r1_R r1.R.length c_r1_R, .slice p_r1_L r1.L.length c_r1_L, .slice p_r1_J r1.J.length c_r1_J, .slice p_r1_H r1.H.length c_r1_H, .slice p_r1_Below r1.Below.length c_r1_Below] 28 (0, 0))] A ∧ Els (Rp.int .i64) (bl [.blk B50 (.cells #[.func (.func 59) #[] #[.pointer (some ⟨B27, 0, none⟩), .pointer (some ⟨B8, 0, none⟩), .pointer (some ⟨B50, 0, none⟩)]] 68 (0, 0)), .blk B27 (.cells #[.slice p17 r1.Below.length r1.Below.length] 25 (0, 0)), .row 3 1 p17 r1.Below.length r1.Below.length vs61, .blk B8 (.cells #[.slice p_r1_R r1.R.length c_r1_R, .slice p_r1_L r1.L.length c_r1_L, .slice p_r1_J r1.J.length c_r1_J, .slice p_r1_H r1.H.length c_r1_H, .slice p_r1_Below r1.Below.length c_r1_Below] 28 (0, 0))] ++ A) w vs61 (s.2) ∧ ISl (Rp.int .i64) (bl [.blk B50 (.cells #[.func (.func 59) #[] #[.pointer (some ⟨B27, 0, none⟩), .pointer (some ⟨B8, 0, none⟩), .pointer (some ⟨B50, 0, none⟩)]] 68 (0, 0)), .blk B27 (.cells #[.slice p17 r1.Below.length r1.Below.length] 25 (0, 0)), .row 3 1 p17 r1.Below.length r1.Below.length vs61, .blk B8 (.cells #[.slice p_r1_R r1.R.length c_r1_R, .slice p_r1_L r1.L.length c_r1_L, .slice p_r1_J r1.J.length c_r1_J, .slice p_r1_H r1.H.length c_r1_H, .slice p_r1_Below r1.Below.length c_r1_Below] 28 (0, 0))] ++ A) w p_r1_R c_r1_R r1.R ∧ ISl (Rp.int .i64) (bl [.blk B50 (.cells #[.func (.func 59) #[] #[.pointer (some ⟨B27, 0, none⟩), .pointer (some ⟨B8, 0, none⟩), .pointer (some ⟨B50, 0, none⟩)]] 68 (0, 0)), .blk B27 (.cells #[.slice p17 r1.Below.length r1.Below.length] 25 (0, 0)), .row 3 1 p17 r1.Below.length r1.Below.length vs61, .blk B8 (.cells #[.slice p_r1_R r1.R.length c_r1_R, .slice p_r1_L r1.L.length c_r1_L, .slice p_r1_J r1.J.length c_r1_J, .slice p_r1_H r1.H.length c_r1_H, .slice p_r1_Below r1.Below.length c_r1_Below] 28 (0, 0))] ++ A) w p_r1_L c_r1_L r1.L ∧ ISl (Rp.int .i64) (bl [.blk B50 (.cells #[.func (.func 59) #[] #[.pointer (some ⟨B27, 0, none⟩), .pointer (some ⟨B8, 0, none⟩), .pointer (some ⟨B50, 0, none⟩)]] 68 (0, 0)), .blk B27 (.cells #[.slice p17 r1.Below.length r1.Below.length] 25 (0, 0)), .row 3 1 p17 r1.Below.length r1.Below.length vs61, .blk B8 (.cells #[.slice p_r1_R r1.R.length c_r1_R, .slice p_r1_L r1.L.length c_r1_L, .slice p_r1_J r1.J.length c_r1_J, .slice p_r1_H r1.H.length c_r1_H, .slice p_r1_Below r1.Below.length c_r1_Below] 28 (0, 0))] ++ A) w p_r1_J c_r1_J r1.J ∧ ISl (Rp.int .i64) (bl [.blk B50 (.cells #[.func (.func 59) #[] #[.pointer (some ⟨B27, 0, none⟩), .pointer (some ⟨B8, 0, none⟩), .pointer (some ⟨B50, 0, none⟩)]] 68 (0, 0)), .blk B27 (.cells #[.slice p17 r1.Below.length r1.Below.length] 25 (0, 0)), .row 3 1 p17 r1.Below.length r1.Below.length vs61, .blk B8 (.cells #[.slice p_r1_R r1.R.length c_r1_R, .slice p_r1_L r1.L.length c_r1_L, .slice p_r1_J r1.J.length c_r1_J, .slice p_r1_H r1.H.length c_r1_H, .slice p_r1_Below r1.Below.length c_r1_Below] 28 (0, 0))] ++ A) w p_r1_H c_r1_H r1.H ∧ ISl (Rp.sl (Rp.bool)) (bl [.blk B50 (.cells #[.func (.func 59) #[] #[.pointer (some ⟨B27, 0, none⟩), .pointer (some ⟨B8, 0, none⟩), .pointer (some ⟨B50, 0, none⟩)]] 68 (0, 0)), .blk B27 (.cells #[.slice p17 r1.Below.length r1.Below.length] 25 (0, 0)), .row 3 1 p17 r1.Below.length r1.Below.length vs61, .blk B8 (.cells #[.slice p_r1_R r1.R.length c_r1_R, .slice p_r1_L r1.L.length c_r1_L, .slice p_r1_J r1.J.length c_r1_J, .slice p_r1_H r1.H.length c_r1_H, .slice p_r1_Below r1.Below.length c_r1_Below] 28 (0, 0))] ++ A) w p_r1_Below c_r1_Below r1.Below ∧ Fr (bl []) w0 (bl [.blk B50 (.cells #[.func (.func 59) #[] #[.pointer (some ⟨B27, 0, none⟩), .pointer (some ⟨B8, 0, none⟩), .pointer (some ⟨B50, 0, none⟩)]] 68 (0, 0)), .blk B27 (.cells #[.slice p17 r1.Below.length r1.Below.length] 25 (0, 0)), .row 3 1 p17 r1.Below.length r1.Below.length vs61, .blk B8 (.cells #[.slice p_r1_R r1.R.length c_r1_R, .slice p_r1_L r1.L.length c_r1_L, .slice p_r1_J r1.J.length c_r1_J, .slice p_r1_H r1.H.length c_r1_H, .slice p_r1_Below r1.Below.length c_r1_Below] 28 (0, 0))]) w) H ⟨vs38, ⟨rfl, rfl, rfl, rfl, trivial⟩, hO, hE39, h_r1_R, h_r1_L, h_r1_J, h_r1_H, h_r1_Below, hB⟩ ?_
  rintro X2 ⟨k2_59, d_60⟩ H hX2 σ w58 ⟨vs61, hag, hO, hE62, h_r1_R, h_r1_L, h_r1_J, h_r1_H, h_r1_Below, hB⟩
  dsimp only at H
  refine Go1.keep [(4, .pointer (some ⟨B27, 0, none⟩)), (6, .pointer (some ⟨B50, 0, none⟩)), (25, .int .i64 (d_37.length : Int)), (26, .int .i64 (k2_59 : Int))] hag ?_
  refine Go1.seq ?_
  refine Go1.region ?_
  by_cases h63 : (k2_59 : Int) < (d_37.length : Int)
  ·replace H := ifp h63 H
   refine GoR.op ((fun w => opB (op_lss rfl rfl w) (decide_eq_true h63)) _) rfl rfl ?_
   refine GoR.nil ?_
   refine Go1.seq ?_
   refine Go1.condT rfl rfl ?_
   refine Go1.skip ?_
   refine Go1.seq ?_
   refine Go1.block ?_
   refine Go1.seq ?_
   refine Go1.region ?_
   refine GoR.op ((op_move rfl) _) rfl rfl ?_
   refine GoR.op ((op_assign rfl) _) rfl rfl ?_
   refine GoR.nil ?_
   refine Go1.region ?_
   refine GoR.op ((oblk 0 hO rfl rfl Try.underlying68 rfl rfl) _ (Same.refl _)) rfl rfl ?_
   refine GoR.op ((op_move rfl) _) rfl rfl ?_
   refine useRec (P := Try.prog) (g := 59) (S := Int × List Int) (T := Int × List Int) (args := [.int .i64 (k2_59 : Int), .pointer (some ⟨B27, 0, none⟩), .pointer (some ⟨B8, 0, none⟩), .pointer (some ⟨B50, 0, none⟩)]) (fun s args w => ∃ (vs66 : List Value), args = [.int .i64 (s.1), .pointer (some ⟨B27, 0, none⟩), .pointer (some ⟨B8, 0, none⟩), .pointer (some ⟨B50, 0, none⟩)] ∧ Owns w0.heap.size w [.blk B50 (.cells #[.func (.func 59) #[] #[.pointer (some ⟨B27, 0, none⟩), .pointer (some ⟨B8, 0, none⟩), .pointer (some ⟨B50, 0, none⟩)]] 68 (0, 0)), .blk B27 (.cells #[.slice p17 r1.Below.length r1.Below.length] 25 (0, 0)), .row 3 1 p17 r1.Below.length r1.Below.length vs66, .blk B8 (.cells #[.slice p_r1_R r1.R.length c_r1_R, .slice p_r1_L r1.L.length c_r1_L, .slice p_r1_J r1.J.length c_r1_J, .slice p_r1_H r1.H.length c_r1_H, .slice p_r1_Below r1.Below.length c_r1_Below] 28 (0, 0))] A ∧ Els (Rp.int .i64) (bl [.blk B50 (.cells #[.func (.func 59) #[] #[.pointer (some ⟨B27, 0, none⟩), .pointer (some ⟨B8, 0, none⟩), .pointer (some ⟨B50, 0, none⟩)]] 68 (0, 0)), .blk B27 (.cells #[.slice p17 r1.Below.length r1.Below.length] 25 (0, 0)), .row 3 1 p17 r1.Below.length r1.Below.length vs66, .blk B8 (.cells #[.slice p_r1_R r1.R.length c_r1_R, .slice p_r1_L r1.L.length c_r1_L, .slice p_r1_J r1.J.length c_r1_J, .slice p_r1_H r1.H.length c_r1_H, .slice p_r1_Below r1.Below.length c_r1_Below] 28 (0, 0))] ++ A) w vs66 (s.2) ∧ ISl (Rp.int .i64) (bl [.blk B50 (.cells #[.func (.func 59) #[] #[.pointer (some ⟨B27, 0, none⟩), .pointer (some ⟨B8, 0, none⟩), .pointer (some ⟨B50, 0, none⟩)]] 68 (0, 0)), .blk B27 (.cells #[.slice p17 r1.Below.length r1.Below.length] 25 (0, 0)), .row 3 1 p17 r1.Below.length r1.Below.length vs66, .blk B8 (.cells #[.slice p_r1_R r1.R.length c_r1_R, .slice p_r1_L r1.L.length c_r1_L, .slice p_r1_J r1.J.length c_r1_J, .slice p_r1_H r1.H.length c_r1_H, .slice p_r1_Below r1.Below.length c_r1_Below] 28 (0, 0))] ++ A) w p_r1_R c_r1_R r1.R ∧ ISl (Rp.int .i64) (bl [.blk B50 (.cells #[.func (.func 59) #[] #[.pointer (some ⟨B27, 0, none⟩), .pointer (some ⟨B8, 0, none⟩), .pointer (some ⟨B50, 0, none⟩)]] 68 (0, 0)), .blk B27 (.cells #[.slice p17 r1.Below.length r1.Below.length] 25 (0, 0)), .row 3 1 p17 r1.Below.length r1.Below.length vs66, .blk B8 (.cells #[.slice p_r1_R r1.R.length c_r1_R, .slice p_r1_L r1.L.length c_r1_L, .slice p_r1_J r1.J.length c_r1_J, .slice p_r1_H r1.H.length c_r1_H, .slice p_r1_Below r1.Below.length c_r1_Below] 28 (0, 0))] ++ A) w p_r1_L c_r1_L r1.L ∧ ISl (Rp.int .i64) (bl [.blk B50 (.cells #[.func (.func 59) #[] #[.pointer (some ⟨B27, 0, none⟩), .pointer (some ⟨B8, 0, none⟩), .pointer (some ⟨B50, 0, none⟩)]] 68 (0, 0)), .blk B27 (.cells #[.slice p17 r1.Below.length r1.Below.length] 25 (0, 0)), .row 3 1 p17 r1.Below.length r1.Below.length vs66, .blk B8 (.cells #[.slice p_r1_R r1.R.length c_r1_R, .slice p_r1_L r1.L.length c_r1_L, .slice p_r1_J r1.J.length c_r1_J, .slice p_r1_H r1.H.length c_r1_H, .slice p_r1_Below r1.Below.length c_r1_Below] 28 (0, 0))] ++ A) w p_r1_J c_r1_J r1.J ∧ ISl (Rp.int .i64) (bl [.blk B50 (.cells #[.func (.func 59) #[] #[.pointer (some ⟨B27, 0, none⟩), .pointer (some ⟨B8, 0, none⟩), .pointer (some ⟨B50, 0, none⟩)]] 68 (0, 0)), .blk B27 (.cells #[.slice p17 r1.Below.length r1.Below.length] 25 (0, 0)), .row 3 1 p17 r1.Below.length r1.Below.length vs66, .blk B8 (.cells #[.slice p_r1_R r1.R.length c_r1_R, .slice p_r1_L r1.L.length c_r1_L, .slice p_r1_J r1.J.length c_r1_J, .slice p_r1_H r1.H.length c_r1_H, .slice p_r1_Below r1.Below.length c_r1_Below] 28 (0, 0))] ++ A) w p_r1_H c_r1_H r1.H ∧ ISl (Rp.sl (Rp.bool)) (bl [.blk B50 (.cells #[.func (.func 59) #[] #[.pointer (some ⟨B27, 0, none⟩), .pointer (some ⟨B8, 0, none⟩), .pointer (some ⟨B50, 0, none⟩)]] 68 (0, 0)), .blk B27 (.cells #[.slice p17 r1.Below.length r1.Below.length] 25 (0, 0)), .row 3 1 p17 r1.Below.length r1.Below.length vs66, .blk B8 (.cells #[.slice p_r1_R r1.R.length c_r1_R, .slice p_r1_L r1.L.length c_r1_L, .slice p_r1_J r1.J.length c_r1_J, .slice p_r1_H r1.H.length c_r1_H, .slice p_r1_Below r1.Below.length c_r1_Below] 28 (0, 0))] ++ A) w p_r1_Below c_r1_Below r1.Below) (fun we t v w => ∃ (vs66 : List Value), v = .int .i64 (t.1) ∧ Owns w0.heap.size w [.blk B50 (.cells #[.func (.func 59) #[] #[.pointer (some ⟨B27, 0, none⟩), .pointer (some ⟨B8, 0, none⟩), .pointer (some ⟨B50, 0, none⟩)]] 68 (0, 0)), .blk B27 (.cells #[.slice p17 r1.Below.length r1.Below.length] 25 (0, 0)), .row 3 1 p17 r1.Below.length r1.Below.length vs66, .blk B8 (.cells #[.slice p_r1_R r1.R.length c_r1_R, .slice p_r1_L r1.L.length c_r1_L, .slice p_r1_J r1.J.length c_r1_J, .slice p_r1_H r1.H.length c_r1_H, .slice p_r1_Below r1.Below.length c_r1_Below] 28 (0, 0))] A ∧ Els (Rp.int .i64) (bl [.blk B50 (.cells #[.func (.func 59) #[] #[.pointer (some ⟨B27, 0, none⟩), .pointer (some ⟨B8, 0, none⟩), .pointer (some ⟨B50, 0, none⟩)]] 68 (0, 0)), .blk B27 (.cells #[.slice p17 r1.Below.length r1.Below.length] 25 (0, 0)), .row 3 1 p17 r1.Below.length r1.Below.length vs66, .blk B8 (.cells #[.slice p_r1_R r1.R.length c_r1_R, .slice p_r1_L r1.L.length c_r1_L, .slice p_r1_J r1.J.length c_r1_J, .slice p_r1_H r1.H.length c_r1_H, .slice p_r1_Below r1.Below.length c_r1_Below] 28 (0, 0))] ++ A) w vs66 (t.2) ∧ Fr (bl [.blk B50 (.cells #[.func (.func 59) #[] #[.pointer (some ⟨B27, 0, none⟩), .pointer (some ⟨B8, 0, none⟩), .pointer (some ⟨B50, 0, none⟩)]] 68 (0, 0)), .blk B27 (.cells #[.slice p17 r1.Below.length r1.Below.length] 25 (0, 0)), .row 3 1 p17 r1.Below.length r1.Below.length vs66, .blk B8 (.cells #[.slice p_r1_R r1.R.length c_r1_R, .slice p_r1_L r1.L.length c_r1_L, .slice p_r1_J r1.J.length c_r1_J, .slice p_r1_H r1.H.length c_r1_H, .slice p_r1_Below r1.Below.length c_r1_Below] 28 (0, 0))]) we (bl [.blk B50 (.cells #[.func (.func 59) #[] #[.pointer (some ⟨B27, 0, none⟩), .pointer (some ⟨B8, 0, none⟩), .pointer (some ⟨B50, 0, none⟩)]] 68 (0, 0)), .blk B27 (.cells #[.slice p17 r1.Below.length r1.Below.length] 25 (0, 0)), .row 3 1 p17 r1.Below.length r1.Below.length vs66, .blk B8 (.cells #[.slice p_r1_R r1.R.length c_r1_R, .slice p_r1_L r1.L.length c_r1_L, .slice p_r1_J r1.J.length c_r1_J, .slice p_r1_H r1.H.length c_r1_H, .slice p_r1_Below r1.Below.length c_r1_Below] 28 (0, 0))]) w) ⟨vs61, rfl, hO, hE62, h_r1_R, h_r1_L, h_r1_J, h_r1_H, h_r1_Below⟩ H ?_ ?_
   ·rintro X3 hX3 ⟨i3_64, d3_65⟩ KR3 args w68 H ⟨vs66, rfl, hO, hE67, h_r1_R, h_r1_L, h_r1_J, h_r1_H, h_r1_Below⟩
    dsimp only at H
    refine CallsV.of (l := [.int .i64 i3_64, .pointer (some ⟨B27, 0, none⟩), .pointer (some ⟨B8, 0, none⟩), .pointer (some ⟨B50, 0, none⟩)]) Try.func59 rfl Try.ntmps59 rfl ?_
    have hB := Fr.refl (bl [.blk B50 (.cells #[.func (.func 59) #[] #[.pointer (some ⟨B27, 0, none⟩), .pointer (some ⟨B8, 0, none⟩), .pointer (some ⟨B50, 0, none⟩)]] 68 (0, 0)), .blk B27 (.cells #[.slice p17 r1.Below.length r1.Below.length] 25 (0, 0)), .row 3 1 p17 r1.Below.length r1.Below.length vs66, .blk B8 (.cells #[.slice p_r1_R r1.R.length c_r1_R, .slice p_r1_L r1.L.length c_r1_L, .slice p_r1_J r1.J.length c_r1_J, .slice p_r1_H r1.H.length c_r1_H, .slice p_r1_Below r1.Below.length c_r1_Below] 28 (0, 0))]) w68
    refine Go1.seq ?_
    refine Go1.region ?_
    refine GoR.op ((op_assign rfl) _) rfl rfl ?_
    refine GoR.nil ?_
    refine Go1.seq ?_
    refine Go1.seq ?_
    refine Go1.region ?_
    refine GoR.op ((oblk 1 hO rfl rfl Try.underlying25 rfl rfl) _ (Same.refl _)) rfl rfl ?_
    refine GoR.op ((op_move rfl) _) rfl rfl ?_
    obtain ⟨h69, H⟩ := H
    obtain ⟨h70, H⟩ := H
    refine GoR.op ((op_index Try.underlying25 ti3 rfl rfl h69 (ltn (hE67.neq hO 2 rfl) h70) (hE67.psome hO 2 rfl h69 h70)) _) rfl rfl ?_
    refine GoR.op ((oldInt 2 hO rfl hE67 h69 h70 Try.underlying3 rfl rfl) _ (Same.refl _)) rfl rfl ?_
    by_cases h71 : (ix d3_65 i3_64) < (0 : Int)
    ·replace H := ifp h71 H
     refine GoR.op ((fun w => opB (op_lss rfl rfl w) (decide_eq_true h71)) _) rfl rfl ?_
     refine GoR.nil ?_
     refine Go1.condT rfl rfl ?_
     refine Go1.seq ?_
     refine Go1.region ?_
     refine GoR.op ((oblk 1 hO rfl rfl Try.underlying25 rfl rfl) _ (Same.refl _)) rfl rfl ?_
     refine GoR.op ((op_move rfl) _) rfl rfl ?_
     obtain ⟨h72, H⟩ := H
     obtain ⟨h73, H⟩ := H
     refine GoR.op ((op_index Try.underlying25 ti3 rfl rfl h72 (ltn (hE67.neq hO 2 rfl) h73) (hE67.psome hO 2 rfl h72 h73)) _) rfl rfl ?_
     have hobt := ost (r := Rp.int .i64) rfl 2 hO rfl hE67 h72 h73 (v := .int .i64 (0 : Int)) (u := (0 : Int)) rfl rfl
     obtain ⟨w74, vs75, hst76, hE77, hop78⟩ := hobt
     refine GoR.op (hop78 Try.underlying3 rfl ti3 rfl rfl) rfl rfl ?_
     replace hO := hst76.own
     replace h_r1_R := h_r1_R.ch hst76.ch
     replace h_r1_L := h_r1_L.ch hst76.ch
     replace h_r1_J := h_r1_J.ch hst76.ch
     replace h_r1_H := h_r1_H.ch hst76.ch
     replace h_r1_Below := h_r1_Below.ch hst76.ch
     replace hB := hB.trans hst76.fr
     refine GoR.nil ?_
     refine Go1.seq ?_
     refine Go1.region ?_
     refine GoR.op ((op_fieldAddr Try.underlying28 rfl ti26 rfl (by decide)) _) rfl rfl ?_
     refine GoR.op ((oblk 3 hO rfl rfl Try.underlying26 rfl rfl) _ (Same.refl _)) rfl rfl ?_
     refine GoR.op ((op_move rfl) _) rfl rfl ?_
     obtain ⟨h79, H⟩ := H
     obtain ⟨h80, H⟩ := H
     refine GoR.op ((op_index Try.underlying26 ti38 rfl rfl h79 h80 (h_r1_Below.some_ h79 h80)) _) rfl rfl ?_
     have hobt := ldSl h_r1_Below h79 h80
     obtain ⟨p81, c82, hi83, hl84⟩ := hobt
     refine GoR.op ((hl84 Try.underlying38 rfl rfl) _ (Same.refl _)) rfl rfl ?_
     refine GoR.op ((op_len Try.underlying38 rfl) _) rfl rfl ?_
     replace H := H hi83.bd
     refine GoR.op ((op_move rfl) _) rfl rfl ?_
     refine GoR.nil ?_
     refine Go1.block ?_
     refine Go1.loopW (S := Nat × List Int) (fun s σ w => ∃ (vs88 : List Value), agrees σ [(0, .int .i64 i3_64), (1, .pointer (some ⟨B27, 0, none⟩)), (3, .pointer (some ⟨B50, 0, none⟩)), (20, .slice p81 ((ix r1.Below i3_64).length) c82), (21, .int .i64 ((ix r1.Below i3_64).length : Int)), (22, .int .i64 ((s.1) : Int))] ∧ Owns w0.heap.size w [.blk B50 (.cells #[.func (.func 59) #[] #[.pointer (some ⟨B27, 0, none⟩), .pointer (some ⟨B8, 0, none⟩), .pointer (some ⟨B50, 0, none⟩)]] 68 (0, 0)), .blk B27 (.cells #[.slice p17 r1.Below.length r1.Below.length] 25 (0, 0)), .row 3 1 p17 r1.Below.length r1.Below.length vs88, .blk B8 (.cells #[.slice p_r1_R r1.R.length c_r1_R, .slice p_r1_L r1.L.length c_r1_L, .slice p_r1_J r1.J.length c_r1_J, .slice p_r1_H r1.H.length c_r1_H, .slice p_r1_Below r1.Below.length c_r1_Below] 28 (0, 0))] A ∧ Els (Rp.int .i64) (bl [.blk B50 (.cells #[.func (.func 59) #[] #[.pointer (some ⟨B27, 0, none⟩), .pointer (some ⟨B8, 0, none⟩), .pointer (some ⟨B50, 0, none⟩)]] 68 (0, 0)), .blk B27 (.cells #[.slice p17 r1.Below.length r1.Below.length] 25 (0, 0)), .row 3 1 p17 r1.Below.length r1.Below.length vs88, .blk B8 (.cells #[.slice p_r1_R r1.R.length c_r1_R, .slice p_r1_L r1.L.length c_r1_L, .slice p_r1_J r1.J.length c_r1_J, .slice p_r1_H r1.H.length c_r1_H, .slice p_r1_Below r1.Below.length c_r1_Below] 28 (0, 0))] ++ A) w vs88 (s.2) ∧ ISl (Rp.int .i64) (bl [.blk B50 (.cells #[.func (.func 59) #[] #[.pointer (some ⟨B27, 0, none⟩), .pointer (some ⟨B8, 0, none⟩), .pointer (some ⟨B50, 0, none⟩)]] 68 (0, 0)), .blk B27 (.cells #[.slice p17 r1.Below.length r1.Below.length] 25 (0, 0)), .row 3 1 p17 r1.Below.length r1.Below.length vs88, .blk B8 (.cells #[.slice p_r1_R r1.R.length c_r1_R, .slice p_r1_L r1.L.length c_r1_L, .slice p_r1_J r1.J.length c_r1_J, .slice p_r1_H r1.H.length c_r1_H, .slice p_r1_Below r1.Below.length c_r1_Below] 28 (0, 0))] ++ A) w p_r1_R c_r1_R r1.R ∧ ISl (Rp.int .i64) (bl [.blk B50 (.cells #[.func (.func 59) #[] #[.pointer (some ⟨B27, 0, none⟩), .pointer (some ⟨B8, 0, none⟩), .pointer (some ⟨B50, 0, none⟩)]] 68 (0, 0)), .blk B27 (.cells #[.slice p17 r1.Below.length r1.Below.length] 25 (0, 0)), .row 3 1 p17 r1.Below.length r1.Below.length vs88, .blk B8 (.cells #[.slice p_r1_R r1.R.length c_r1_R, .slice p_r1_L r1.L.length c_r1_L, .slice p_r1_J r1.J.length c_r1_J, .slice p_r1_H r1.H.length c_r1_H, .slice p_r1_Below r1.Below.length c_r1_Below] 28 (0, 0))] ++ A) w p_r1_L c_r1_L r1.L ∧ ISl (Rp.int .i64) (bl [.blk B50 (.cells #[.func (.func 59) #[] #[.pointer (some ⟨B27, 0, none⟩), .pointer (some ⟨B8, 0, none⟩), .pointer (some ⟨B50, 0, none⟩)]] 68 (0, 0)), .blk B27 (.cells #[.slice p17 r1.Below.length r1.Below.length] 25 (0, 0)), .row 3 1 p17 r1.Below.length r1.Below.length vs88, .blk B8 (.cells #[.slice p_r1_R r1.R.length c_r1_R, .slice p_r1_L r1.L.length c_r1_L, .slice p_r1_J r1.J.length c_r1_J, .slice p_r1_H r1.H.length c_r1_H, .slice p_r1_Below r1.Below.length c_r1_Below] 28 (0, 0))] ++ A) w p_r1_J c_r1_J r1.J ∧ ISl (Rp.int .i64) (bl [.blk B50 (.cells #[.func (.func 59) #[] #[.pointer (some ⟨B27, 0, none⟩), .pointer (some ⟨B8, 0, none⟩), .pointer (some ⟨B50, 0, none⟩)]] 68 (0, 0)), .blk B27 (.cells #[.slice p17 r1.Below.length r1.Below.length] 25 (0, 0)), .row 3 1 p17 r1.Below.length r1.Below.length vs88, .blk B8 (.cells #[.slice p_r1_R r1.R.length c_r1_R, .slice p_r1_L r1.L.length c_r1_L, .slice p_r1_J r1.J.length c_r1_J, .slice p_r1_H r1.H.length c_r1_H, .slice p_r1_Below r1.Below.length c_r1_Below] 28 (0, 0))] ++ A) w p_r1_H c_r1_H r1.H ∧ ISl (Rp.sl (Rp.bool)) (bl [.blk B50 (.cells #[.func (.func 59) #[] #[.pointer (some ⟨B27, 0, none⟩), .pointer (some ⟨B8, 0, none⟩), .pointer (some ⟨B50, 0, none⟩)]] 68 (0, 0)), .blk B27 (.cells #[.slice p17 r1.Below.length r1.Below.length] 25 (0, 0)), .row 3 1 p17 r1.Below.length r1.Below.length vs88, .blk B8 (.cells #[.slice p_r1_R r1.R.length c_r1_R, .slice p_r1_L r1.L.length c_r1_L, .slice p_r1_J r1.J.length c_r1_J, .slice p_r1_H r1.H.length c_r1_H, .slice p_r1_Below r1.Below.length c_r1_Below] 28 (0, 0))] ++ A) w p_r1_Below c_r1_Below r1.Below ∧ ISl (Rp.bool) (bl [.blk B50 (.cells #[.func (.func 59) #[] #[.pointer (some ⟨B27, 0, none⟩), .pointer (some ⟨B8, 0, none⟩), .pointer (some ⟨B50, 0, none⟩)]] 68 (0, 0)), .blk B27 (.cells #[.slice p17 r1.Below.length r1.Below.length] 25 (0, 0)), .row 3 1 p17 r1.Below.length r1.Below.length vs88, .blk B8 (.cells #[.slice p_r1_R r1.R.length c_r1_R, .slice p_r1_L r1.L.length c_r1_L, .slice p_r1_J r1.J.length c_r1_J, .slice p_r1_H r1.H.length c_r1_H, .slice p_r1_Below r1.Below.length c_r1_Below] 28 (0, 0))] ++ A) w p81 c82 (ix r1.Below i3_64) ∧ Fr (bl [.blk B50 (.cells #[.func (.func 59) #[] #[.pointer (some ⟨B27, 0, none⟩), .pointer (some ⟨B8, 0, none⟩), .pointer (some ⟨B50, 0, none⟩)]] 68 (0, 0)), .blk B27 (.cells #[.slice p17 r1.Below.length r1.Below.length] 25 (0, 0)), .row 3 1 p17 r1.Below.length r1.Below.length vs66, .blk B8 (.cells #[.slice p_r1_R r1.R.length c_r1_R, .slice p_r1_L r1.L.length c_r1_L, .slice p_r1_J r1.J.length c_r1_J, .slice p_r1_H r1.H.length c_r1_H, .slice p_r1_Below r1.Below.length c_r1_Below] 28 (0, 0))]) w68 (bl [.blk B50 (.cells #[.func (.func 59) #[] #[.pointer (some ⟨B27, 0, none⟩), .pointer (some ⟨B8, 0, none⟩), .pointer (some ⟨B50, 0, none⟩)]] 68 (0, 0)), .blk B27 (.cells #[.slice p17 r1.Below.length r1.Below.length] 25 (0, 0)), .row 3 1 p17 r1.Below.length r1.Below.length vs88, .blk B8 (.cells #[.slice p_r1_R r1.R.length c_r1_R, .slice p_r1_L r1.L.length c_r1_L, .slice p_r1_J r1.J.length c_r1_J, .slice p_r1_H r1.H.length c_r1_H, .slice p_r1_Below r1.Below.length c_r1_Below] 28 (0, 0))]) w) H ⟨vs75, ⟨rfl, rfl, rfl, rfl, rfl, rfl, trivial⟩, hO, hE77, h_r1_R, h_r1_L, h_r1_J, h_r1_H, h_r1_Below, hi83, hB⟩ ?_
     rintro X4 ⟨k4_86, d_87⟩ H hX4 σ w85 ⟨vs88, hag, hO, hE89, h_r1_R, h_r1_L, h_r1_J, h_r1_H, h_r1_Below, hi83, hB⟩
     dsimp only at H
     refine Go1.keep [(0, .int .i64 i3_64), (1, .pointer (some ⟨B27, 0, none⟩)), (3, .pointer (some ⟨B50, 0, none⟩)), (20, .slice p81 ((ix r1.Below i3_64).length) c82), (21, .int .i64 ((ix r1.Below i3_64).length : Int)), (22, .int .i64 (k4_86 : Int))] hag ?_
     refine Go1.seq ?_
     refine Go1.region ?_
     by_cases h90 : (k4_86 : Int) < ((ix r1.Below i3_64).length : Int)
     ·replace H := ifp h90 H
      refine GoR.op ((fun w => opB (op_lss rfl rfl w) (decide_eq_true h90)) _) rfl rfl ?_
      refine GoR.nil ?_
      refine Go1.seq ?_
      refine Go1.condT rfl rfl ?_
      refine Go1.skip ?_
      refine Go1.seq ?_
      refine Go1.block ?_
      refine Go1.seq ?_
      refine Go1.region ?_
      refine GoR.op ((op_move rfl) _) rfl rfl ?_
      obtain ⟨h91, H⟩ := H
      obtain ⟨h92, H⟩ := H
      refine GoR.op ((op_index Try.underlying38 ti4 rfl rfl h91 h92 (hi83.some_ h91 h92)) _) rfl rfl ?_
      by_cases h93 : ix (ix r1.Below i3_64) (k4_86 : Int) = true
      ·replace H := ifp h93 H
       refine GoR.op (opB ((ldBool hi83 h91 h92 Try.underlying4 rfl rfl) _ (Same.refl _)) (h93)) rfl rfl ?_
       refine GoR.op ((op_assign rfl) _) rfl rfl ?_
       refine GoR.op ((op_assign rfl) _) rfl rfl ?_
       refine GoR.nil ?_
       refine Go1.seq ?_
       refine Go1.region ?_
       refine GoR.op ((op_move rfl) _) rfl rfl ?_
       refine GoR.op ((op_move rfl) _) rfl rfl ?_
       refine GoR.op ((op_move rfl) _) rfl rfl ?_
       refine GoR.op ((op_move rfl) _) rfl rfl ?_
       by_cases h94 : (k4_86 : Int) = i3_64
       ·replace H := ifp h94 H
        refine GoR.op ((fun w => opB (op_neq rfl rfl w) (ndT h94)) _) rfl rfl ?_
        refine GoR.op ((op_pickT rfl rfl rfl) _) rfl rfl ?_
        refine GoR.nil ?_
        refine Go1.condF rfl rfl ?_
        refine Go1.skip ?_
        refine Go1.inBlock ?_
        refine Go1.region ?_
        refine GoR.op ((op_add rfl rfl (wrap_i64 (natbd h90 hi83.bd))) _) rfl rfl ?_
        refine GoR.op ((op_move rfl) _) rfl rfl ?_
        refine GoR.nil ?_
        exact hX4 _ H _ _ ⟨vs88, ⟨rfl, rfl, rfl, rfl, rfl, rfl, trivial⟩, hO, hE89, h_r1_R, h_r1_L, h_r1_J, h_r1_H, h_r1_Below, hi83, hB⟩
       ·replace H := ifn h94 H
        refine GoR.op ((fun w => opB (op_neq rfl rfl w) (ndF h94)) _) rfl rfl ?_
        refine GoR.op ((op_pickT rfl rfl rfl) _) rfl rfl ?_
        refine GoR.nil ?_
        refine Go1.condT rfl rfl ?_
        refine Go1.drawRS [(some ⟨B27, 0, none⟩), (padd p17 (i3_64.toNat * 1)), (some ⟨B50, 0, none⟩)] 1 [(0, .stable), (1, .pure), (2, .stable), (3, .pure), (4, .pure), (5, .stable), (6, .stable), (7, .pure), (8, .loud), (9, .pure), (10, .pure), (11, .pure), (12, .last)] mixed (by kernel_rfl) ?_
        intro w95 hs96
        have hst97 := Stp.same hO hs96
        replace hE89 := hE89.ch hst97.ch
        replace hO := hst97.own
        replace h_r1_R := h_r1_R.ch hst97.ch
        replace h_r1_L := h_r1_L.ch hst97.ch
        replace h_r1_J := h_r1_J.ch hst97.ch
        replace h_r1_H := h_r1_H.ch hst97.ch
        replace h_r1_Below := h_r1_Below.ch hst97.ch
        replace hi83 := hi83.ch hst97.ch
        replace hB := hB.trans hst97.fr
        refine GoQR.stable rfl (loadR (.head _) rfl (blkCell 1 hO rfl rfl) Try.underlying25 rfl rfl) rfl rfl ?_
        refine GoQR.pure rfl (op_move rfl) rfl rfl ?_
        refine GoQR.stable rfl (loadR (.head _) rfl (blkCell 1 hO rfl rfl) Try.underlying25 rfl rfl) rfl rfl ?_
        refine GoQR.pure rfl (op_move rfl) rfl rfl ?_
        obtain ⟨h98, H⟩ := H
        obtain ⟨h99, H⟩ := H
        refine GoQR.pure rfl (op_index Try.underlying25 ti3 rfl rfl h98 (ltn (hE89.neq hO 2 rfl) h99) (hE89.psome hO 2 rfl h98 h99)) rfl rfl ?_
        refine GoQR.stable rfl (loadR (.tail _ (.head _)) (padd_some (hE89.psome hO 2 rfl h98 h99)) (rowCellInt 2 hO rfl hE89 h98 h99) Try.underlying3 rfl rfl) rfl rfl ?_
        refine GoQR.stable rfl (loadR (.tail _ (.tail _ (.head _))) rfl (blkCell 0 hO rfl rfl) Try.underlying68 rfl rfl) rfl rfl ?_
        refine GoQR.pure rfl (op_move rfl) rfl rfl ?_
        refine GoQR.call rfl (op_callV (vs := [.int .i64 (k4_86 : Int)]) (caps := [.pointer (some ⟨B27, 0, none⟩), .pointer (some ⟨B8, 0, none⟩), .pointer (some ⟨B50, 0, none⟩)]) body59 rfl rfl (hX3 ((k4_86 : Int), d_87) _ _ _ H ⟨vs88, rfl, hO, hE89, h_r1_R, h_r1_L, h_r1_J, h_r1_H, h_r1_Below⟩)) (fun v w hr => by obtain ⟨⟨r102, d103⟩, ⟨vs104, rfl, hO9, hE899, hF9⟩, H9⟩ := hr; dsimp only at H9; obtain ⟨kk1, kl1, H9⟩ := H9; exact (CS.cons (cs_eq (blkCell 1 hO rfl rfl) (blkCell 1 hO9 rfl rfl)) (CS.cons (cs_eq (rowCellInt 2 hO rfl hE89 h98 h99) (by rw [← kk1]; exact rowCellInt 2 hO9 rfl hE899 h98 kl1)) (CS.cons (cs_eq (blkCell 0 hO rfl rfl) (blkCell 0 hO9 rfl rfl)) (CS.nil _ _))))) rfl rfl ?_
        rintro v101 w100 ⟨⟨r102, d103⟩, ⟨vs104, rfl, hO, hE89, hF⟩, H⟩
        dsimp only at H
        replace h_r1_R := h_r1_R.ch (hF.ch.app A)
        replace h_r1_L := h_r1_L.ch (hF.ch.app A)
        replace h_r1_J := h_r1_J.ch (hF.ch.app A)
        replace h_r1_H := h_r1_H.ch (hF.ch.app A)
        replace h_r1_Below := h_r1_Below.ch (hF.ch.app A)
        replace hi83 := hi83.ch (hF.ch.app A)
        replace hB := hB.trans hF
        obtain ⟨kk1, kl1, H⟩ := H
        obtain ⟨h105, H⟩ := H
        refine GoQR.pure rfl (op_add rfl rfl (wrap_i64 h105)) rfl rfl ?_
        by_cases h106 : (ix d_87 i3_64) < ((1 : Int) + r102)
        ·replace H := ifp h106 H
         refine GoQR.pure rfl (op_maxT rfl rfl h106) rfl rfl ?_
         obtain ⟨h107, H⟩ := H
         obtain ⟨h108, H⟩ := H
         refine GoQR.pure rfl (op_index Try.underlying25 ti3 rfl rfl h107 (ltn (hE89.neq hO 2 rfl) h108) (hE89.psome hO 2 rfl h107 h108)) rfl rfl ?_
         have hobt := ost (r := Rp.int .i64) rfl 2 hO rfl hE89 h107 h108 (v := .int .i64 ((1 : Int) + r102)) (u := ((1 : Int) + r102)) rfl rfl
         obtain ⟨w109, vs110, hst111, hE112, hop113⟩ := hobt
         refine GoQR.last rfl (hop113 Try.underlying3 rfl ti3 rfl rfl) rfl rfl ?_
         replace hO := hst111.own
         replace h_r1_R := h_r1_R.ch hst111.ch
         replace h_r1_L := h_r1_L.ch hst111.ch
         replace h_r1_J := h_r1_J.ch hst111.ch
         replace h_r1_H := h_r1_H.ch hst111.ch
         replace h_r1_Below := h_r1_Below.ch hst111.ch
         replace hi83 := hi83.ch hst111.ch
         replace hB := hB.trans hst111.fr
         refine GoQR.nil ?_
         refine Go1.inBlock ?_
         refine Go1.region ?_
         refine GoR.op ((op_add rfl rfl (wrap_i64 (natbd h90 hi83.bd))) _) rfl rfl ?_
         refine GoR.op ((op_move rfl) _) rfl rfl ?_
         refine GoR.nil ?_
         exact hX4 _ H _ _ ⟨vs110, ⟨rfl, rfl, rfl, rfl, rfl, rfl, trivial⟩, hO, hE112, h_r1_R, h_r1_L, h_r1_J, h_r1_H, h_r1_Below, hi83, hB⟩
        ·replace H := ifn h106 H
         refine GoQR.pure rfl (op_maxF rfl rfl h106) rfl rfl ?_
         obtain ⟨h114, H⟩ := H
         obtain ⟨h115, H⟩ := H
         refine GoQR.pure rfl (op_index Try.underlying25 ti3 rfl rfl h114 (ltn (hE89.neq hO 2 rfl) h115) (hE89.psome hO 2 rfl h114 h115)) rfl rfl ?_
         have hobt := ost (r := Rp.int .i64) rfl 2 hO rfl hE89 h114 h115 (v := .int .i64 (ix d_87 i3_64)) (u := (ix d_87 i3_64)) rfl rfl
         obtain ⟨w116, vs117, hst118, hE119, hop120⟩ := hobt
         refine GoQR.last rfl (hop120 Try.underlying3 rfl ti3 rfl rfl) rfl rfl ?_
         replace hO := hst118.own
         replace h_r1_R := h_r1_R.ch hst118.ch
         replace h_r1_L := h_r1_L.ch hst118.ch
         replace h_r1_J := h_r1_J.ch hst118.ch
         replace h_r1_H := h_r1_H.ch hst118.ch
         replace h_r1_Below := h_r1_Below.ch hst118.ch
         replace hi83 := hi83.ch hst118.ch
         replace hB := hB.trans hst118.fr
         refine GoQR.nil ?_
         refine Go1.inBlock ?_
         refine Go1.region ?_
         refine GoR.op ((op_add rfl rfl (wrap_i64 (natbd h90 hi83.bd))) _) rfl rfl ?_
         refine GoR.op ((op_move rfl) _) rfl rfl ?_
         refine GoR.nil ?_
         exact hX4 _ H _ _ ⟨vs117, ⟨rfl, rfl, rfl, rfl, rfl, rfl, trivial⟩, hO, hE119, h_r1_R, h_r1_L, h_r1_J, h_r1_H, h_r1_Below, hi83, hB⟩
      ·replace H := ifn h93 H
       refine GoR.op (opB ((ldBool hi83 h91 h92 Try.underlying4 rfl rfl) _ (Same.refl _)) (Bool.eq_false_iff.2 h93)) rfl rfl ?_
       refine GoR.op ((op_assign rfl) _) rfl rfl ?_
       refine GoR.op ((op_assign rfl) _) rfl rfl ?_
       refine GoR.nil ?_
       refine Go1.seq ?_
       refine Go1.region ?_
       refine GoR.op ((op_move rfl) _) rfl rfl ?_
       refine GoR.op ((op_move rfl) _) rfl rfl ?_
       refine GoR.pass rfl rfl ?_
       refine GoR.pass rfl rfl ?_
       refine GoR.pass rfl rfl ?_
       refine GoR.op ((op_pickF rfl rfl rfl) _) rfl rfl ?_
       refine GoR.nil ?_
       refine Go1.condF rfl rfl ?_
       refine Go1.skip ?_
       refine Go1.inBlock ?_
       refine Go1.region ?_
       refine GoR.op ((op_add rfl rfl (wrap_i64 (natbd h90 hi83.bd))) _) rfl rfl ?_
       refine GoR.op ((op_move rfl) _) rfl rfl ?_
       refine GoR.nil ?_
       exact hX4 _ H _ _ ⟨vs88, ⟨rfl, rfl, rfl, rfl, rfl, rfl, trivial⟩, hO, hE89, h_r1_R, h_r1_L, h_r1_J, h_r1_H, h_r1_Below, hi83, hB⟩
     ·replace H := ifn h90 H
      refine GoR.op ((fun w => opB (op_lss rfl rfl w) (decide_eq_false h90)) _) rfl rfl ?_
      refine GoR.nil ?_
      refine Go1.seq ?_
      refine Go1.condF rfl rfl ?_
      refine Go1.exit rfl ?_
      refine Go1.seq ?_
      refine Go1.region ?_
      refine GoR.op ((oblk 1 hO rfl rfl Try.underlying25 rfl rfl) _ (Same.refl _)) rfl rfl ?_
      refine GoR.op ((op_move rfl) _) rfl rfl ?_
      obtain ⟨h121, H⟩ := H
      obtain ⟨h122, H⟩ := H
      refine GoR.op ((op_index Try.underlying25 ti3 rfl rfl h121 (ltn (hE89.neq hO 2 rfl) h122) (hE89.psome hO 2 rfl h121 h122)) _) rfl rfl ?_
      refine GoR.op ((oldInt 2 hO rfl hE89 h121 h122 Try.underlying3 rfl rfl) _ (Same.refl _)) rfl rfl ?_
      refine GoR.op ((op_assign rfl) _) rfl rfl ?_
      refine GoR.nil ?_
      refine Go1.ret1 Try.func59 rfl ?_
      exact ⟨((ix d_87 i3_64), d_87), ⟨vs88, rfl, hO, hE89, hB⟩, H⟩
    ·replace H := ifn h71 H
     refine GoR.op ((fun w => opB (op_lss rfl rfl w) (decide_eq_false h71)) _) rfl rfl ?_
     refine GoR.nil ?_
     refine Go1.condF rfl rfl ?_
     refine Go1.skip ?_
     refine Go1.seq ?_
     refine Go1.region ?_
     refine GoR.op ((oblk 1 hO rfl rfl Try.underlying25 rfl rfl) _ (Same.refl _)) rfl rfl ?_
     refine GoR.op ((op_move rfl) _) rfl rfl ?_
     obtain ⟨h123, H⟩ := H
     obtain ⟨h124, H⟩ := H
     refine GoR.op ((op_index Try.underlying25 ti3 rfl rfl h123 (ltn (hE67.neq hO 2 rfl) h124) (hE67.psome hO 2 rfl h123 h124)) _) rfl rfl ?_
     refine GoR.op ((oldInt 2 hO rfl hE67 h123 h124 Try.underlying3 rfl rfl) _ (Same.refl _)) rfl rfl ?_
     refine GoR.op ((op_assign rfl) _) rfl rfl ?_
     refine GoR.nil ?_
     refine Go1.ret1 Try.func59 rfl ?_
     exact ⟨((ix d3_65 i3_64), d3_65), ⟨vs66, rfl, hO, hE67, hB⟩, H⟩
   ·intro hrec3
    refine GoR.call (op_callV (vs := [.int .i64 (k2_59 : Int)]) (caps := [.pointer (some ⟨B27, 0, none⟩), .pointer (some ⟨B8, 0, none⟩), .pointer (some ⟨B50, 0, none⟩)]) body59 rfl rfl hrec3) rfl rfl ?_
    rintro v126 w125 ⟨⟨r127, d128⟩, ⟨vs129, rfl, hO, hE62, hF⟩, H⟩
    dsimp only at H
    replace h_r1_R := h_r1_R.ch (hF.ch.app A)
    replace h_r1_L := h_r1_L.ch (hF.ch.app A)
    replace h_r1_J := h_r1_J.ch (hF.ch.app A)
    replace h_r1_H := h_r1_H.ch (hF.ch.app A)
    replace h_r1_Below := h_r1_Below.ch (hF.ch.app A)
    replace hB := hB.trans hF
    refine GoR.nil ?_
    refine Go1.inBlock ?_
    refine Go1.region ?_
    obtain ⟨h130, H⟩ := H
    refine GoR.op ((op_add rfl rfl (wrap_i64 h130)) _) rfl rfl ?_
    refine GoR.op ((op_move rfl) _) rfl rfl ?_
    refine GoR.nil ?_
    exact hX2 _ H _ _ ⟨vs129, ⟨rfl, rfl, rfl, rfl, trivial⟩, hO, hE62, h_r1_R, h_r1_L, h_r1_J, h_r1_H, h_r1_Below, hB⟩
  ·replace H := ifn h63 H
   refine GoR.op ((fun w => opB (op_lss rfl rfl w) (decide_eq_false h63)) _) rfl rfl ?_
   refine GoR.nil ?_
   refine Go1.seq ?_
   refine Go1.condF rfl rfl ?_
   refine Go1.exit rfl ?_
   refine Go1.seq ?_
   refine Go1.region ?_
   refine GoR.op ((oblk 1 hO rfl rfl Try.underlying25 rfl rfl) _ (Same.refl _)) rfl rfl ?_
   refine GoR.op ((op_assign rfl) _) rfl rfl ?_
   refine GoR.nil ?_
   have hobt := freeze 2 hO rfl hE62
   obtain ⟨hO1, hc133, hi131, hn132⟩ := hobt
   replace h_r1_R := h_r1_R.ch hc133
   replace h_r1_L := h_r1_L.ch hc133
   replace h_r1_J := h_r1_J.ch hc133
   replace h_r1_H := h_r1_H.ch hc133
   replace h_r1_Below := h_r1_Below.ch hc133
   replace hB := hB.trans (Owns.dropFr _ _ 2)
   replace hO := hO1; clear hO1
   refine Go1.ret1 Try.func24 rfl ?_
   exact ⟨d_60, p17, r1.Below.length, (congrArg (fun nn => Value.slice p17 nn r1.Below.length) hn132), hB.same, (hi131.ch (Ch.weak _ _ _)), H⟩
theorem body14 : Body Try.prog 14 := ⟨Try.f14, Try.func14, rfl, by kernel_rfl⟩
theorem walk_law15_awake {A : List Nat} {w0 : World} (hA : ∀ b ∈ A, b < w0.heap.size) {K : Bool → Prop} (H : law15_awake  K) :
    CallsV Try.prog 14 #[] w0 (fun v w' => ∃ (r0 : Bool), v = .bool r0 ∧ Same w0 w' ∧ K r0) := by
 refine CallsV.of (l := []) Try.func14 rfl Try.ntmps14 rfl ?_
 have hO := Owns.start hA
 have hB := Fr.refl (bl []) w0
 unfold law15_awake at H
 refine Go1.seq ?_
 refine Go1.region ?_
 refine GoR.op ((op_assign rfl) _) rfl rfl ?_
 refine GoR.nil ?_
 refine Go1.seq ?_
 refine Go1.region ?_
 refine GoR.call (op_call body44 rfl (walk_law15_flip hO.lt H)) rfl rfl ?_
 rintro v5 w2 ⟨r1, p_r1, c_r1, rfl, hs3, h_r1, H⟩
 have hst6 := Stp.same hO hs3
 replace hO := hst6.own
 replace hB := hB.trans hst6.fr
 refine GoR.call (op_call body15 rfl (walk_green_Classes hO.lt h_r1 H)) rfl rfl ?_
 rintro v11 w8 ⟨r7, p_r7_R, c_r7_R, p_r7_L, c_r7_L, p_r7_J, c_r7_J, p_r7_H, c_r7_H, p_r7_Below, c_r7_Below, rfl, hs9, h_r7_R, h_r7_L, h_r7_J, h_r7_H, h_r7_Below, H⟩
 have hst12 := Stp.same hO hs9
 replace hO := hst12.own
 replace h_r1 := h_r1.ch hst12.ch
 replace hB := hB.trans hst12.fr
 have hobt := oalloc (t := 28) (cs := #[.slice none 0 0, .slice none 0 0, .slice none 0 0, .slice none 0 0, .slice none 0 0]) ti28 hO rfl
 obtain ⟨w13, B14, hst15, hs16, hop17⟩ := hobt
 refine GoR.op hop17 rfl rfl ?_
 replace hO := hst15.own
 replace h_r1 := h_r1.ch hst15.ch
 replace h_r7_R := h_r7_R.ch hst15.ch
 replace h_r7_L := h_r7_L.ch hst15.ch
 replace h_r7_J := h_r7_J.ch hst15.ch
 replace h_r7_H := h_r7_H.ch hst15.ch
 replace h_r7_Below := h_r7_Below.ch hst15.ch
 replace hB := hB.trans hst15.fr
 have hobt := oblkStAgg (us := [.slice p_r7_R r7.R.length c_r7_R, .slice p_r7_L r7.L.length c_r7_L, .slice p_r7_J r7.J.length c_r7_J, .slice p_r7_H r7.H.length c_r7_H, .slice p_r7_Below r7.Below.length c_r7_Below]) (o := 0) (cs' := #[.slice p_r7_R r7.R.length c_r7_R, .slice p_r7_L r7.L.length c_r7_L, .slice p_r7_J r7.J.length c_r7_J, .slice p_r7_H r7.H.length c_r7_H, .slice p_r7_Below r7.Below.length c_r7_Below]) 0 hO rfl rfl (Nat.le_of_ble_eq_true rfl) rfl
 obtain ⟨w19, hst20, hop21⟩ := hobt
 refine GoR.op (hop21 ti28 rfl rfl rfl) rfl rfl ?_
 replace hO := hst20.own
 replace h_r1 := h_r1.ch hst20.ch
 replace h_r7_R := h_r7_R.ch hst20.ch
 replace h_r7_L := h_r7_L.ch hst20.ch
 replace h_r7_J := h_r7_J.ch hst20.ch
 replace h_r7_H := h_r7_H.ch hst20.ch
 replace h_r7_Below := h_r7_Below.ch hst20.ch
 replace hB := hB.trans hst20.fr
 refine GoR.nil ?_
 refine Go1.seq ?_
 refine Go1.region ?_
 refine GoR.op ((op_fieldAddr Try.underlying28 rfl ti25 rfl (by decide)) _) rfl rfl ?_
 refine GoR.op ((oblk 0 hO rfl rfl Try.underlying25 rfl rfl) _ (Same.refl _)) rfl rfl ?_
 have hobt := obuild (r := Rp.int .i64) (n := 3) (parts := [(0, .int .i64 (0 : Int)), (1, .int .i64 (0 : Int)), (2, .int .i64 (1 : Int))]) (vs := [.int .i64 (0 : Int), .int .i64 (0 : Int), .int .i64 (1 : Int)]) (xs := [(0 : Int), (0 : Int), (1 : Int)]) rfl Try.underlying25 ti3 hO (by decide) (by kernel_rfl) (Els.cons rfl rfl (Els.cons rfl rfl (Els.cons rfl rfl (Els.nil _ _ _) (by simp [mx])) (by simp [mx])) (by simp [mx])) rfl
 obtain ⟨w22, p23, hst24, hE25, hs26, hop27⟩ := hobt
 refine GoR.op (hop27 rfl) rfl rfl ?_
 replace hO := hst24.own
 replace h_r1 := h_r1.ch hst24.ch
 replace h_r7_R := h_r7_R.ch hst24.ch
 replace h_r7_L := h_r7_L.ch hst24.ch
 replace h_r7_J := h_r7_J.ch hst24.ch
 replace h_r7_H := h_r7_H.ch hst24.ch
 replace h_r7_Below := h_r7_Below.ch hst24.ch
 replace hB := hB.trans hst24.fr
 have hobt := rowlend 0 hO rfl hE25
 obtain ⟨hl29, hn30⟩ := hobt
 have hOc31 := hO.drop 0
 refine GoR.call (op_call body22 (show ([.slice p_r7_J r7.J.length c_r7_J, .slice p23 3 3] : List Value) = [.slice p_r7_J r7.J.length c_r7_J, .slice p23 ([(0 : Int), (0 : Int), (1 : Int)]).length 3] from by rw [← hn30]) (walk_ref03_Same hOc31.lt (h_r7_J.ch (Owns.dropCh _ _ 0)) hl29 H)) rfl rfl ?_
 rintro v36 w33 ⟨r32, rfl, hs34, H⟩
 have hst37 := Stp.same hO hs34
 replace hE25 := hE25.ch hst37.ch
 replace hO := hst37.own
 replace h_r1 := h_r1.ch hst37.ch
 replace h_r7_R := h_r7_R.ch hst37.ch
 replace h_r7_L := h_r7_L.ch hst37.ch
 replace h_r7_J := h_r7_J.ch hst37.ch
 replace h_r7_H := h_r7_H.ch hst37.ch
 replace h_r7_Below := h_r7_Below.ch hst37.ch
 replace hB := hB.trans hst37.fr
 refine GoR.op ((op_move rfl) _) rfl rfl ?_
 cases r32
 ·replace H := ifn Bool.false_ne_true H
  refine GoR.pass rfl rfl ?_
  refine GoR.pass rfl rfl ?_
  refine GoR.pass rfl rfl ?_
  refine GoR.pass rfl rfl ?_
  refine GoR.op ((op_pickF rfl rfl rfl) _) rfl rfl ?_
  refine GoR.op ((op_move rfl) _) rfl rfl ?_
  refine GoR.pass rfl rfl ?_
  refine GoR.pass rfl rfl ?_
  refine GoR.pass rfl rfl ?_
  refine GoR.pass rfl rfl ?_
  refine GoR.op ((op_pickF rfl rfl rfl) _) rfl rfl ?_
  refine GoR.op ((op_assign rfl) _) rfl rfl ?_
  refine GoR.nil ?_
  refine Go1.ret1 Try.func14 rfl ?_
  exact ⟨false, rfl, hB.same, H⟩
 ·replace H := ifp rfl H
  refine GoR.op ((op_fieldAddr Try.underlying28 rfl ti26 rfl (by decide)) _) rfl rfl ?_
  refine GoR.op ((oblk 1 hO rfl rfl Try.underlying26 rfl rfl) _ (Same.refl _)) rfl rfl ?_
  refine GoR.op ((op_len Try.underlying26 rfl) _) rfl rfl ?_
  replace H := H h_r7_Below.bd
  by_cases h38 : (r7.Below.length : Int) = (2 : Int)
  ·replace H := ifp h38 H
   refine GoR.op ((fun w => opB (op_eql rfl rfl w) (decide_eq_true h38)) _) rfl rfl ?_
   refine GoR.op ((op_pickT rfl rfl rfl) _) rfl rfl ?_
   refine GoR.op ((op_move rfl) _) rfl rfl ?_
   refine GoR.call (op_call body44 rfl (walk_law15_flip hO.lt H)) rfl rfl ?_
   rintro v43 w40 ⟨r39, p_r39, c_r39, rfl, hs41, h_r39, H⟩
   have hst44 := Stp.same hO hs41
   replace hE25 := hE25.ch hst44.ch
   replace hO := hst44.own
   replace h_r1 := h_r1.ch hst44.ch
   replace h_r7_R := h_r7_R.ch hst44.ch
   replace h_r7_L := h_r7_L.ch hst44.ch
   replace h_r7_J := h_r7_J.ch hst44.ch
   replace h_r7_H := h_r7_H.ch hst44.ch
   replace h_r7_Below := h_r7_Below.ch hst44.ch
   replace hB := hB.trans hst44.fr
   refine GoR.call (op_call body24 rfl (walk_green_Heights hO.lt h_r39 H)) rfl rfl ?_
   rintro v49 w46 ⟨r45, p_r45, c_r45, rfl, hs47, h_r45, H⟩
   have hst50 := Stp.same hO hs47
   replace hE25 := hE25.ch hst50.ch
   replace hO := hst50.own
   replace h_r1 := h_r1.ch hst50.ch
   replace h_r7_R := h_r7_R.ch hst50.ch
   replace h_r7_L := h_r7_L.ch hst50.ch
   replace h_r7_J := h_r7_J.ch hst50.ch
   replace h_r7_H := h_r7_H.ch hst50.ch
   replace h_r7_Below := h_r7_Below.ch hst50.ch
   replace h_r39 := h_r39.ch hst50.ch
   replace hB := hB.trans hst50.fr
   have hobt := obuild (r := Rp.int .i64) (n := 2) (parts := [(0, .int .i64 (0 : Int)), (1, .int .i64 (1 : Int))]) (vs := [.int .i64 (0 : Int), .int .i64 (1 : Int)]) (xs := [(0 : Int), (1 : Int)]) rfl Try.underlying25 ti3 hO (by decide) (by kernel_rfl) (Els.cons rfl rfl (Els.cons rfl rfl (Els.nil _ _ _) (by simp [mx])) (by simp [mx])) rfl
   obtain ⟨w51, p52, hst53, hE54, hs55, hop56⟩ := hobt
   refine GoR.op (hop56 rfl) rfl rfl ?_
   replace hE25 := hE25.ch hst53.ch
   replace hO := hst53.own
   replace h_r1 := h_r1.ch hst53.ch
   replace h_r7_R := h_r7_R.ch hst53.ch
   replace h_r7_L := h_r7_L.ch hst53.ch
   replace h_r7_J := h_r7_J.ch hst53.ch
   replace h_r7_H := h_r7_H.ch hst53.ch
   replace h_r7_Below := h_r7_Below.ch hst53.ch
   replace h_r39 := h_r39.ch hst53.ch
   replace h_r45 := h_r45.ch hst53.ch
   replace hB := hB.trans hst53.fr
   have hobt := rowlend 0 hO rfl hE54
   obtain ⟨hl58, hn59⟩ := hobt
   have hOc60 := hO.drop 0
   refine GoR.call (op_call body22 (show ([.slice p_r45 r45.length c_r45, .slice p52 2 2] : List Value) = [.slice p_r45 r45.length c_r45, .slice p52 ([(0 : Int), (1 : Int)]).length 2] from by rw [← hn59]) (walk_ref03_Same hOc60.lt (h_r45.ch (Owns.dropCh _ _ 0)) hl58 H)) rfl rfl ?_
   rintro v65 w62 ⟨r61, rfl, hs63, H⟩
   have hst66 := Stp.same hO hs63
   replace hE54 := hE54.ch hst66.ch
   replace hE25 := hE25.ch hst66.ch
   replace hO := hst66.own
   replace h_r1 := h_r1.ch hst66.ch
   replace h_r7_R := h_r7_R.ch hst66.ch
   replace h_r7_L := h_r7_L.ch hst66.ch
   replace h_r7_J := h_r7_J.ch hst66.ch
   replace h_r7_H := h_r7_H.ch hst66.ch
   replace h_r7_Below := h_r7_Below.ch hst66.ch
   replace h_r39 := h_r39.ch hst66.ch
   replace h_r45 := h_r45.ch hst66.ch
   replace hB := hB.trans hst66.fr
   refine GoR.op ((op_pickT rfl rfl rfl) _) rfl rfl ?_
   refine GoR.op ((op_assign rfl) _) rfl rfl ?_
   refine GoR.nil ?_
   refine Go1.ret1 Try.func14 rfl ?_
   exact ⟨r61, rfl, hB.same, H⟩
  ·replace H := ifn h38 H
   refine GoR.op ((fun w => opB (op_eql rfl rfl w) (decide_eq_false h38)) _) rfl rfl ?_
   refine GoR.op ((op_pickT rfl rfl rfl) _) rfl rfl ?_
   refine GoR.op ((op_move rfl) _) rfl rfl ?_
   refine GoR.pass rfl rfl ?_
   refine GoR.pass rfl rfl ?_
   refine GoR.pass rfl rfl ?_
   refine GoR.pass rfl rfl ?_
   refine GoR.op ((op_pickF rfl rfl rfl) _) rfl rfl ?_
   refine GoR.op ((op_assign rfl) _) rfl rfl ?_
   refine GoR.nil ?_
   refine Go1.ret1 Try.func14 rfl ?_
   exact ⟨false, rfl, hB.same, H⟩
theorem body67 : Body Try.prog 67 := ⟨Try.f67, Try.func67, rfl, by kernel_rfl⟩
theorem walk_ref14_Associative {A : List Nat} {w0 : World} {p_t : Option Addr} {c_t : Nat} {t : List (List Int)} (hA : ∀ b ∈ A, b < w0.heap.size) (h_t : ISl (Rp.sl (Rp.int .i64)) A w0 p_t c_t t) {K : Int → Int → Int → Int → Prop} (H : ref14_Associative t K) :
    CallsV Try.prog 67 #[.slice p_t t.length c_t] w0 (fun v w' => ∃ (r0 : Int), ∃ (r1 : Int), ∃ (r2 : Int), ∃ (r3 : Int), v = .tuple #[.int .i64 r0, .int .i64 r1, .int .i64 r2, .int .i64 r3] ∧ Same w0 w' ∧ K r0 r1 r2 r3) := by
 refine CallsV.of (l := [.slice p_t t.length c_t]) Try.func67 rfl Try.ntmps67 rfl ?_
 have hO := Owns.start hA
 have hB := Fr.refl (bl []) w0
 unfold ref14_Associative at H
 replace h_t := h_t.ch (Ch.start A w0)
 refine Go1.seq ?_
 refine Go1.region ?_
 refine GoR.op ((op_assign rfl) _) rfl rfl ?_
 refine GoR.op ((op_assign rfl) _) rfl rfl ?_
 refine GoR.op ((op_assign rfl) _) rfl rfl ?_
 refine GoR.op ((op_assign rfl) _) rfl rfl ?_
 refine GoR.nil ?_
 refine Go1.seq ?_
 refine Go1.seq ?_
 refine Go1.region ?_
 refine GoR.op ((op_move rfl) _) rfl rfl ?_
 refine GoR.call (op_call body43 rfl (walk_ref14_Shape hO.lt h_t H)) rfl rfl ?_
 rintro v5 w2 ⟨r1, rfl, hs3, H⟩
 have hst6 := Stp.same hO hs3
 replace hO := hst6.own
 replace h_t := h_t.ch hst6.ch
 replace hB := hB.trans hst6.fr
 refine GoR.op ((op_assign rfl) _) rfl rfl ?_
 refine GoR.nil ?_
 refine Go1.seq ?_
 refine Go1.region ?_
 refine GoR.op ((op_move rfl) _) rfl rfl ?_
 by_cases h7 : r1 = (0 : Int)
 ·replace H := ifp h7 H
  refine GoR.op ((fun w => opB (op_neq rfl rfl w) (ndT h7)) _) rfl rfl ?_
  refine GoR.nil ?_
  refine Go1.condF rfl rfl ?_
  refine Go1.skip ?_
  refine Go1.seq ?_
  refine Go1.seq ?_
  refine Go1.region ?_
  refine GoR.op ((op_move rfl) _) rfl rfl ?_
  refine GoR.op ((op_len Try.underlying22 rfl) _) rfl rfl ?_
  replace H := H h_t.bd
  refine GoR.op ((op_move rfl) _) rfl rfl ?_
  refine GoR.nil ?_
  refine Go1.block ?_
  refine Go1.loopW (S := Nat) (fun s σ w => agrees σ [(0, .slice p_t t.length c_t), (16, .int .i64 (t.length : Int)), (17, .int .i64 (s : Int))] ∧ Owns w0.heap.size w [] A ∧ ISl (Rp.sl (Rp.int .i64)) (bl [] ++ A) w p_t c_t t ∧ Fr (bl []) w0 (bl []) w) H ⟨⟨rfl, rfl, rfl, trivial⟩, hO, h_t, hB⟩ ?_
  rintro X1 k1_9 H hX1 σ w8 ⟨hag, hO, h_t, hB⟩
  refine Go1.keep [(0, .slice p_t t.length c_t), (16, .int .i64 (t.length : Int)), (17, .int .i64 (k1_9 : Int))] hag ?_
  refine Go1.seq ?_
  refine Go1.region ?_
  by_cases h10 : (k1_9 : Int) < (t.length : Int)
  ·replace H := ifp h10 H
   refine GoR.op ((fun w => opB (op_lss rfl rfl w) (decide_eq_true h10)) _) rfl rfl ?_
   refine GoR.nil ?_
   refine Go1.seq ?_
   refine Go1.condT rfl rfl ?_
   refine Go1.skip ?_
   refine Go1.seq ?_
   refine Go1.block ?_
   refine Go1.seq ?_
   refine Go1.region ?_
   refine GoR.op ((op_move rfl) _) rfl rfl ?_
   refine GoR.op ((op_assign rfl) _) rfl rfl ?_
   refine GoR.nil ?_
   refine Go1.seq ?_
   refine Go1.region ?_
   refine GoR.op ((op_move rfl) _) rfl rfl ?_
   refine GoR.op ((op_len Try.underlying22 rfl) _) rfl rfl ?_
   refine GoR.op ((op_move rfl) _) rfl rfl ?_
   refine GoR.nil ?_
   refine Go1.block ?_
   refine Go1.loopW (S := Nat) (fun s σ w => agrees σ [(0, .slice p_t t.length c_t), (7, .int .i64 (k1_9 : Int)), (16, .int .i64 (t.length : Int)), (17, .int .i64 (k1_9 : Int)), (21, .int .i64 (t.length : Int)), (22, .int .i64 (s : Int))] ∧ Owns w0.heap.size w [] A ∧ ISl (Rp.sl (Rp.int .i64)) (bl [] ++ A) w p_t c_t t ∧ Fr (bl []) w0 (bl []) w) H ⟨⟨rfl, rfl, rfl, rfl, rfl, rfl, trivial⟩, hO, h_t, hB⟩ ?_
   rintro X2 k2_12 H hX2 σ w11 ⟨hag, hO, h_t, hB⟩
   refine Go1.keep [(0, .slice p_t t.length c_t), (7, .int .i64 (k1_9 : Int)), (16, .int .i64 (t.length : Int)), (17, .int .i64 (k1_9 : Int)), (21, .int .i64 (t.length : Int)), (22, .int .i64 (k2_12 : Int))] hag ?_
   refine Go1.seq ?_
   refine Go1.region ?_
   by_cases h13 : (k2_12 : Int) < (t.length : Int)
   ·replace H := ifp h13 H
    refine GoR.op ((fun w => opB (op_lss rfl rfl w) (decide_eq_true h13)) _) rfl rfl ?_
    refine GoR.nil ?_
    refine Go1.seq ?_
    refine Go1.condT rfl rfl ?_
    refine Go1.skip ?_
    refine Go1.seq ?_
    refine Go1.block ?_
    refine Go1.seq ?_
    refine Go1.region ?_
    refine GoR.op ((op_move rfl) _) rfl rfl ?_
    refine GoR.op ((op_assign rfl) _) rfl rfl ?_
    refine GoR.nil ?_
    refine Go1.seq ?_
    refine Go1.region ?_
    refine GoR.op ((op_move rfl) _) rfl rfl ?_
    refine GoR.op ((op_len Try.underlying22 rfl) _) rfl rfl ?_
    refine GoR.op ((op_move rfl) _) rfl rfl ?_
    refine GoR.nil ?_
    refine Go1.block ?_
    refine Go1.loopW (S := Nat) (fun s σ w => agrees σ [(0, .slice p_t t.length c_t), (7, .int .i64 (k1_9 : Int)), (8, .int .i64 (k2_12 : Int)), (16, .int .i64 (t.length : Int)), (17, .int .i64 (k1_9 : Int)), (21, .int .i64 (t.length : Int)), (22, .int .i64 (k2_12 : Int)), (26, .int .i64 (t.length : Int)), (27, .int .i64 (s : Int))] ∧ Owns w0.heap.size w [] A ∧ ISl (Rp.sl (Rp.int .i64)) (bl [] ++ A) w p_t c_t t ∧ Fr (bl []) w0 (bl []) w) H ⟨⟨rfl, rfl, rfl, rfl, rfl, rfl, rfl, rfl, rfl, trivial⟩, hO, h_t, hB⟩ ?_
    rintro X3 k3_15 H hX3 σ w14 ⟨hag, hO, h_t, hB⟩
    refine Go1.keep [(0, .slice p_t t.length c_t), (7, .int .i64 (k1_9 : Int)), (8, .int .i64 (k2_12 : Int)), (16, .int .i64 (t.length : Int)), (17, .int .i64 (k1_9 : Int)), (21, .int .i64 (t.length : Int)), (22, .int .i64 (k2_12 : Int)), (26, .int .i64 (t.length : Int)), (27, .int .i64 (k3_15 : Int))] hag ?_
    refine Go1.seq ?_
    refine Go1.region ?_
    by_cases h16 : (k3_15 : Int) < (t.length : Int)
    ·replace H := ifp h16 H
     refine GoR.op ((fun w => opB (op_lss rfl rfl w) (decide_eq_true h16)) _) rfl rfl ?_
     refine GoR.nil ?_
     refine Go1.seq ?_
     refine Go1.condT rfl rfl ?_
     refine Go1.skip ?_
     refine Go1.seq ?_
     refine Go1.block ?_
     refine Go1.seq ?_
     refine Go1.region ?_
     refine GoR.op ((op_move rfl) _) rfl rfl ?_
     refine GoR.op ((op_assign rfl) _) rfl rfl ?_
     refine GoR.nil ?_
     refine Go1.seq ?_
     refine Go1.drawS 0 [(0, .pure), (1, .pure), (2, .pure), (3, .pure), (4, .stable), (5, .pure), (6, .pure), (7, .stable), (8, .pure), (9, .stable), (10, .pure), (11, .pure), (12, .stable), (13, .pure), (14, .pure), (15, .pure), (16, .stable), (17, .pure), (18, .pure), (19, .pure), (20, .stable), (21, .pure), (22, .pure), (23, .stable), (24, .pure), (25, .stable), (26, .pure)] mixed (by kernel_rfl) ?_
     intro w17 hs18
     have hst19 := Stp.same hO hs18
     replace hO := hst19.own
     replace h_t := h_t.ch hst19.ch
     replace hB := hB.trans hst19.fr
     refine GoQ.pure rfl (op_move rfl) rfl rfl ?_
     refine GoQ.pure rfl (op_move rfl) rfl rfl ?_
     refine GoQ.pure rfl (op_move rfl) rfl rfl ?_
     obtain ⟨h20, H⟩ := H
     obtain ⟨h21, H⟩ := H
     refine GoQ.pure rfl (op_index Try.underlying22 ti25 rfl rfl h20 h21 (h_t.some_ h20 h21)) rfl rfl ?_
     have hobt := ldSl h_t h20 h21
     obtain ⟨p22, c23, hi24, hl25⟩ := hobt
     refine GoQ.stable rfl (hl25 Try.underlying25 rfl rfl) rfl rfl ?_
     refine GoQ.pure rfl (op_move rfl) rfl rfl ?_
     obtain ⟨h26, H⟩ := H
     obtain ⟨h27, H⟩ := H
     refine GoQ.pure rfl (op_index Try.underlying25 ti3 rfl rfl h26 h27 (hi24.some_ h26 h27)) rfl rfl ?_
     refine GoQ.stable rfl (ldInt hi24 h26 h27 Try.underlying3 rfl rfl) rfl rfl ?_
     obtain ⟨h28, H⟩ := H
     obtain ⟨h29, H⟩ := H
     refine GoQ.pure rfl (op_index Try.underlying22 ti25 rfl rfl h28 h29 (h_t.some_ h28 h29)) rfl rfl ?_
     have hobt := ldSl h_t h28 h29
     obtain ⟨p30, c31, hi32, hl33⟩ := hobt
     refine GoQ.stable rfl (hl33 Try.underlying25 rfl rfl) rfl rfl ?_
     refine GoQ.pure rfl (op_move rfl) rfl rfl ?_
     obtain ⟨h34, H⟩ := H
     obtain ⟨h35, H⟩ := H
     refine GoQ.pure rfl (op_index Try.underlying25 ti3 rfl rfl h34 h35 (hi32.some_ h34 h35)) rfl rfl ?_
     refine GoQ.stable rfl (ldInt hi32 h34 h35 Try.underlying3 rfl rfl) rfl rfl ?_
     refine GoQ.pure rfl (op_move rfl) rfl rfl ?_
     refine GoQ.pure rfl (op_move rfl) rfl rfl ?_
     obtain ⟨h36, H⟩ := H
     obtain ⟨h37, H⟩ := H
     refine GoQ.pure rfl (op_index Try.underlying22 ti25 rfl rfl h36 h37 (h_t.some_ h36 h37)) rfl rfl ?_
     have hobt := ldSl h_t h36 h37
     obtain ⟨p38, c39, hi40, hl41⟩ := hobt
     refine GoQ.stable rfl (hl41 Try.underlying25 rfl rfl) rfl rfl ?_
     refine GoQ.pure rfl (op_move rfl) rfl rfl ?_
     refine GoQ.pure rfl (op_move rfl) rfl rfl ?_
     obtain ⟨h42, H⟩ := H
     obtain ⟨h43, H⟩ := H
     refine GoQ.pure rfl (op_index Try.underlying22 ti25 rfl rfl h42 h43 (h_t.some_ h42 h43)) rfl rfl ?_
     have hobt := ldSl h_t h42 h43
     obtain ⟨p44, c45, hi46, hl47⟩ := hobt
     refine GoQ.stable rfl (hl47 Try.underlying25 rfl rfl) rfl rfl ?_
     refine GoQ.pure rfl (op_move rfl) rfl rfl ?_
     obtain ⟨h48, H⟩ := H
     obtain ⟨h49, H⟩ := H
     refine GoQ.pure rfl (op_index Try.underlying25 ti3 rfl rfl h48 h49 (hi46.some_ h48 h49)) rfl rfl ?_
     refine GoQ.stable rfl (ldInt hi46 h48 h49 Try.underlying3 rfl rfl) rfl rfl ?_
     obtain ⟨h50, H⟩ := H
     obtain ⟨h51, H⟩ := H
     refine GoQ.pure rfl (op_index Try.underlying25 ti3 rfl rfl h50 h51 (hi40.some_ h50 h51)) rfl rfl ?_
     refine GoQ.stable rfl (ldInt hi40 h50 h51 Try.underlying3 rfl rfl) rfl rfl ?_
     by_cases h52 : (ix (ix t (ix (ix t (k1_9 : Int)) (k2_12 : Int))) (k3_15 : Int)) = (ix (ix t (k1_9 : Int)) (ix (ix t (k2_12 : Int)) (k3_15 : Int)))
     ·replace H := ifp h52 H
      refine GoQ.pure rfl (fun w => opB (op_neq rfl rfl w) (ndT h52)) rfl rfl ?_
      refine GoQ.nil ?_
      refine Go1.condF rfl rfl ?_
      refine Go1.skip ?_
      refine Go1.inBlock ?_
      refine Go1.region ?_
      refine GoR.op ((op_add rfl rfl (wrap_i64 (natbd h16 h_t.bd))) _) rfl rfl ?_
      refine GoR.op ((op_move rfl) _) rfl rfl ?_
      refine GoR.nil ?_
      exact hX3 _ H _ _ ⟨⟨rfl, rfl, rfl, rfl, rfl, rfl, rfl, rfl, rfl, trivial⟩, hO, h_t, hB⟩
     ·replace H := ifn h52 H
      refine GoQ.pure rfl (fun w => opB (op_neq rfl rfl w) (ndF h52)) rfl rfl ?_
      refine GoQ.nil ?_
      refine Go1.condT rfl rfl ?_
      refine Go1.seq ?_
      refine Go1.region ?_
      refine GoR.op ((op_move rfl) _) rfl rfl ?_
      refine GoR.op ((op_move rfl) _) rfl rfl ?_
      refine GoR.op ((op_move rfl) _) rfl rfl ?_
      refine GoR.op ((op_assign rfl) _) rfl rfl ?_
      refine GoR.op ((op_assign rfl) _) rfl rfl ?_
      refine GoR.op ((op_assign rfl) _) rfl rfl ?_
      refine GoR.op ((op_assign rfl) _) rfl rfl ?_
      refine GoR.nil ?_
      refine Go1.ret4 Try.func67 rfl ?_
      exact ⟨(k1_9 : Int), (k2_12 : Int), (k3_15 : Int), (5 : Int), rfl, hB.same, H⟩
    ·replace H := ifn h16 H
     refine GoR.op ((fun w => opB (op_lss rfl rfl w) (decide_eq_false h16)) _) rfl rfl ?_
     refine GoR.nil ?_
     refine Go1.seq ?_
     refine Go1.condF rfl rfl ?_
     refine Go1.exit rfl ?_
     refine Go1.inBlock ?_
     refine Go1.region ?_
     refine GoR.op ((op_add rfl rfl (wrap_i64 (natbd h13 h_t.bd))) _) rfl rfl ?_
     refine GoR.op ((op_move rfl) _) rfl rfl ?_
     refine GoR.nil ?_
     exact hX2 _ H _ _ ⟨⟨rfl, rfl, rfl, rfl, rfl, rfl, trivial⟩, hO, h_t, hB⟩
   ·replace H := ifn h13 H
    refine GoR.op ((fun w => opB (op_lss rfl rfl w) (decide_eq_false h13)) _) rfl rfl ?_
    refine GoR.nil ?_
    refine Go1.seq ?_
    refine Go1.condF rfl rfl ?_
    refine Go1.exit rfl ?_
    refine Go1.inBlock ?_
    refine Go1.region ?_
    refine GoR.op ((op_add rfl rfl (wrap_i64 (natbd h10 h_t.bd))) _) rfl rfl ?_
    refine GoR.op ((op_move rfl) _) rfl rfl ?_
    refine GoR.nil ?_
    exact hX1 _ H _ _ ⟨⟨rfl, rfl, rfl, trivial⟩, hO, h_t, hB⟩
  ·replace H := ifn h10 H
   refine GoR.op ((fun w => opB (op_lss rfl rfl w) (decide_eq_false h10)) _) rfl rfl ?_
   refine GoR.nil ?_
   refine Go1.seq ?_
   refine Go1.condF rfl rfl ?_
   refine Go1.exit rfl ?_
   refine Go1.seq ?_
   refine Go1.region ?_
   refine GoR.op ((op_assign rfl) _) rfl rfl ?_
   refine GoR.op ((op_assign rfl) _) rfl rfl ?_
   refine GoR.op ((op_assign rfl) _) rfl rfl ?_
   refine GoR.op ((op_assign rfl) _) rfl rfl ?_
   refine GoR.nil ?_
   refine Go1.ret4 Try.func67 rfl ?_
   exact ⟨(0 : Int), (0 : Int), (0 : Int), (0 : Int), rfl, hB.same, H⟩
 ·replace H := ifn h7 H
  refine GoR.op ((fun w => opB (op_neq rfl rfl w) (ndF h7)) _) rfl rfl ?_
  refine GoR.nil ?_
  refine Go1.condT rfl rfl ?_
  refine Go1.seq ?_
  refine Go1.region ?_
  refine GoR.op ((op_move rfl) _) rfl rfl ?_
  refine GoR.op ((op_assign rfl) _) rfl rfl ?_
  refine GoR.op ((op_assign rfl) _) rfl rfl ?_
  refine GoR.op ((op_assign rfl) _) rfl rfl ?_
  refine GoR.op ((op_assign rfl) _) rfl rfl ?_
  refine GoR.nil ?_
  refine Go1.ret4 Try.func67 rfl ?_
  exact ⟨(0 : Int), (0 : Int), (0 : Int), r1, rfl, hB.same, H⟩
theorem body39 : Body Try.prog 39 := ⟨Try.f39, Try.func39, rfl, by kernel_rfl⟩
theorem walk_ref14_Validate {A : List Nat} {w0 : World} {p_t : Option Addr} {c_t : Nat} {t : List (List Int)} (hA : ∀ b ∈ A, b < w0.heap.size) (h_t : ISl (Rp.sl (Rp.int .i64)) A w0 p_t c_t t) {K : Int → Prop} (H : ref14_Validate t K) :
    CallsV Try.prog 39 #[.slice p_t t.length c_t] w0 (fun v w' => ∃ (r0 : Int), v = .int .i64 r0 ∧ Same w0 w' ∧ K r0) := by
 refine CallsV.of (l := [.slice p_t t.length c_t]) Try.func39 rfl Try.ntmps39 rfl ?_
 have hO := Owns.start hA
 have hB := Fr.refl (bl []) w0
 unfold ref14_Validate at H
 replace h_t := h_t.ch (Ch.start A w0)
 refine Go1.seq ?_
 refine Go1.region ?_
 refine GoR.op ((op_assign rfl) _) rfl rfl ?_
 refine GoR.nil ?_
 refine Go1.seq ?_
 refine Go1.region ?_
 refine GoR.op ((op_move rfl) _) rfl rfl ?_
 refine GoR.call (op_call body67 rfl (walk_ref14_Associative hO.lt h_t H)) rfl rfl ?_
 rintro v8 w5 ⟨r1, r2, r3, r4, rfl, hs6, H⟩
 have hst9 := Stp.same hO hs6
 replace hO := hst9.own
 replace h_t := h_t.ch hst9.ch
 replace hB := hB.trans hst9.fr
 refine GoR.op ((op_move rfl) _) rfl rfl ?_
 refine GoR.op ((op_extract rfl rfl) _) rfl rfl ?_
 refine GoR.op ((op_extract rfl rfl) _) rfl rfl ?_
 refine GoR.op ((op_extract rfl rfl) _) rfl rfl ?_
 refine GoR.op ((op_extract rfl rfl) _) rfl rfl ?_
 refine GoR.op ((op_assign rfl) _) rfl rfl ?_
 refine GoR.op ((op_assign rfl) _) rfl rfl ?_
 refine GoR.op ((op_assign rfl) _) rfl rfl ?_
 refine GoR.op ((op_assign rfl) _) rfl rfl ?_
 refine GoR.nil ?_
 refine Go1.seq ?_
 refine Go1.region ?_
 refine GoR.op ((op_move rfl) _) rfl rfl ?_
 refine GoR.op ((op_assign rfl) _) rfl rfl ?_
 refine GoR.nil ?_
 refine Go1.ret1 Try.func39 rfl ?_
 exact ⟨r4, rfl, hB.same, H⟩
theorem body16 : Body Try.prog 16 := ⟨Try.f16, Try.func16, rfl, by kernel_rfl⟩
theorem walk_ref14_Valid {A : List Nat} {w0 : World} {p_t : Option Addr} {c_t : Nat} {t : List (List Int)} (hA : ∀ b ∈ A, b < w0.heap.size) (h_t : ISl (Rp.sl (Rp.int .i64)) A w0 p_t c_t t) {K : Bool → Prop} (H : ref14_Valid t K) :
    CallsV Try.prog 16 #[.slice p_t t.length c_t] w0 (fun v w' => ∃ (r0 : Bool), v = .bool r0 ∧ Same w0 w' ∧ K r0) := by
 refine CallsV.of (l := [.slice p_t t.length c_t]) Try.func16 rfl Try.ntmps16 rfl ?_
 have hO := Owns.start hA
 have hB := Fr.refl (bl []) w0
 unfold ref14_Valid at H
 replace h_t := h_t.ch (Ch.start A w0)
 refine Go1.seq ?_
 refine Go1.region ?_
 refine GoR.op ((op_assign rfl) _) rfl rfl ?_
 refine GoR.nil ?_
 refine Go1.seq ?_
 refine Go1.region ?_
 refine GoR.op ((op_move rfl) _) rfl rfl ?_
 refine GoR.call (op_call body39 rfl (walk_ref14_Validate hO.lt h_t H)) rfl rfl ?_
 rintro v5 w2 ⟨r1, rfl, hs3, H⟩
 have hst6 := Stp.same hO hs3
 replace hO := hst6.own
 replace h_t := h_t.ch hst6.ch
 replace hB := hB.trans hst6.fr
 by_cases h7 : r1 = (0 : Int)
 ·replace H := ifp h7 H
  refine GoR.op ((fun w => opB (op_eql rfl rfl w) (decide_eq_true h7)) _) rfl rfl ?_
  refine GoR.op ((op_assign rfl) _) rfl rfl ?_
  refine GoR.nil ?_
  refine Go1.ret1 Try.func16 rfl ?_
  exact ⟨true, rfl, hB.same, H⟩
 ·replace H := ifn h7 H
  refine GoR.op ((fun w => opB (op_eql rfl rfl w) (decide_eq_false h7)) _) rfl rfl ?_
  refine GoR.op ((op_assign rfl) _) rfl rfl ?_
  refine GoR.nil ?_
  refine Go1.ret1 Try.func16 rfl ?_
  exact ⟨false, rfl, hB.same, H⟩
end Sg
