/- The walks: each call keeps to its plain transformer. Printed by walkgen.py. -/
import Derived.Test.YthobeabghciknaaTi
import Derived.Test.YthobeabghciknaaWGreenClasses
namespace Sg
open Go Go.RowKit Go.Proofs
set_option linter.unusedVariables false
set_option linter.unusedSimpArgs false
set_option maxRecDepth 100000
set_option maxHeartbeats 4000000
theorem body59 : Body Try.prog 59 := ⟨Try.f59, Try.func59, rfl, by kernel_rfl⟩
theorem body24 : Body Try.prog 24 := ⟨Try.f24, Try.func24, rfl, by kernel_rfl⟩
theorem walk_green_Heights {A : List Nat} {w0 : World} {p_t : Option Addr} {c_t : Nat} {t : List (List Int)} (hA : ∀ b ∈ A, b < w0.heap.size) (h_t : ISl (Rp.sl (Rp.int .i64)) A w0 p_t c_t t) {K : List Int → Prop} (H : green_Heights t K) :
    CallsV Try.prog 24 #[.slice p_t t.length c_t] w0 (fun v w' => ∃ (r0 : List Int), ∃ (p_r0 : Option Addr), ∃ (c_r0 : Nat), v = .slice p_r0 r0.length c_r0 ∧ Same w0 w' ∧ ISl (Rp.int .i64) A w' p_r0 c_r0 r0 ∧ K r0) := by
 refine CallsV.of (l := [.slice p_t t.length c_t]) Try.func24 rfl Try.ntmps24 rfl ?_
 have hO := Owns.start hA
 have hB := Fr.refl (bl []) w0
 unfold green_Heights at H
 replace h_t := h_t.ch (Ch.start A w0)
 refine Go1.seq ?_
 refine Go1.region ?_
 refine GoR.op ((op_assign rfl) _) rfl rfl ?_
 refine GoR.nil ?_
 refine Go1.seq ?_
 refine Go1.region ?_
 refine GoR.op ((op_move rfl) _) rfl rfl ?_
 refine GoR.call (op_call body15 rfl (walk_green_Classes hO.lt h_t H)) rfl rfl ?_
 rintro v5 w2 ⟨r1, p_r1_R, c_r1_R, p_r1_L, c_r1_L, p_r1_J, c_r1_J, p_r1_H, c_r1_H, p_r1_Below, c_r1_Below, rfl, hs3, h_r1_R, h_r1_L, h_r1_J, h_r1_H, h_r1_Below, H⟩
 have hst6 := Stp.same hO hs3
 replace hO := hst6.own
 replace h_t := h_t.ch hst6.ch
 replace hB := hB.trans hst6.fr
 have hobt := oalloc (t := 28) (cs := #[.slice none 0 0, .slice none 0 0, .slice none 0 0, .slice none 0 0, .slice none 0 0]) ti28 hO rfl
 obtain ⟨w7, B8, hst9, hs10, hop11⟩ := hobt
 refine GoR.op hop11 rfl rfl ?_
 replace hO := hst9.own
 replace h_t := h_t.ch hst9.ch
 replace h_r1_R := h_r1_R.ch hst9.ch
 replace h_r1_L := h_r1_L.ch hst9.ch
 replace h_r1_J := h_r1_J.ch hst9.ch
 replace h_r1_H := h_r1_H.ch hst9.ch
 replace h_r1_Below := h_r1_Below.ch hst9.ch
 replace hB := hB.trans hst9.fr
 have hobt := oblkStAgg (us := [.slice p_r1_R r1.R.length c_r1_R, .slice p_r1_L r1.L.length c_r1_L, .slice p_r1_J r1.J.length c_r1_J, .slice p_r1_H r1.H.length c_r1_H, .slice p_r1_Below r1.Below.length c_r1_Below]) (o := 0) (cs' := #[.slice p_r1_R r1.R.length c_r1_R, .slice p_r1_L r1.L.length c_r1_L, .slice p_r1_J r1.J.length c_r1_J, .slice p_r1_H r1.H.length c_r1_H, .slice p_r1_Below r1.Below.length c_r1_Below]) 0 hO rfl rfl (Nat.le_of_ble_eq_true rfl) rfl
 obtain ⟨w13, hst14, hop15⟩ := hobt
 refine GoR.op (hop15 ti28 rfl rfl rfl) rfl rfl ?_
 replace hO := hst14.own
 replace h_t := h_t.ch hst14.ch
 replace h_r1_R := h_r1_R.ch hst14.ch
 replace h_r1_L := h_r1_L.ch hst14.ch
 replace h_r1_J := h_r1_J.ch hst14.ch
 replace h_r1_H := h_r1_H.ch hst14.ch
 replace h_r1_Below := h_r1_Below.ch hst14.ch
 replace hB := hB.trans hst14.fr
 refine GoR.nil ?_
 refine Go1.seq ?_
 refine Go1.region ?_
 refine GoR.op ((op_fieldAddr Try.underlying28 rfl ti26 rfl (by decide)) _) rfl rfl ?_
 refine GoR.op ((oblk 0 hO rfl rfl Try.underlying26 rfl rfl) _ (Same.refl _)) rfl rfl ?_
 refine GoR.op ((op_len Try.underlying26 rfl) _) rfl rfl ?_
 replace H := H h_r1_Below.bd
 obtain ⟨h23, H⟩ := H
 obtain ⟨h24, H⟩ := H
 have hobt := omake (n := (r1.Below.length : Int)) (r := Rp.int .i64) (d := (0 : Int)) Try.underlying25 ti3 (fun _ _ => rfl) rfl hO h23 h24 (by decide)
 obtain ⟨w16, p17, vs18, hst19, hE20, hs21, hop22⟩ := hobt
 refine GoR.op (hop22 rfl rfl) rfl rfl ?_
 replace hO := hst19.own
 replace h_t := h_t.ch hst19.ch
 replace h_r1_R := h_r1_R.ch hst19.ch
 replace h_r1_L := h_r1_L.ch hst19.ch
 replace h_r1_J := h_r1_J.ch hst19.ch
 replace h_r1_H := h_r1_H.ch hst19.ch
 replace h_r1_Below := h_r1_Below.ch hst19.ch
 replace hB := hB.trans hst19.fr
 have hobt := oalloc (t := 25) (cs := #[.slice none 0 0]) ti25 hO rfl
 obtain ⟨w26, B27, hst28, hs29, hop30⟩ := hobt
 refine GoR.op hop30 rfl rfl ?_
 replace hE20 := hE20.ch hst28.ch
 replace hO := hst28.own
 replace h_t := h_t.ch hst28.ch
 replace h_r1_R := h_r1_R.ch hst28.ch
 replace h_r1_L := h_r1_L.ch hst28.ch
 replace h_r1_J := h_r1_J.ch hst28.ch
 replace h_r1_H := h_r1_H.ch hst28.ch
 replace h_r1_Below := h_r1_Below.ch hst28.ch
 replace hB := hB.trans hst28.fr
 have hobt := oblkSt (v := .slice p17 r1.Below.length r1.Below.length) (i := 0) 0 hO rfl rfl rfl
 obtain ⟨w32, hst33, hop34⟩ := hobt
 refine GoR.op (hop34 Try.underlying25 rfl ti25 rfl rfl) rfl rfl ?_
 replace hE20 := hE20.ch hst33.ch
 replace hO := hst33.own
 replace h_t := h_t.ch hst33.ch
 replace h_r1_R := h_r1_R.ch hst33.ch
 replace h_r1_L := h_r1_L.ch hst33.ch
 replace h_r1_J := h_r1_J.ch hst33.ch
 replace h_r1_H := h_r1_H.ch hst33.ch
 replace h_r1_Below := h_r1_Below.ch hst33.ch
 replace hB := hB.trans hst33.fr
 refine GoR.nil ?_
 refine Go1.seq ?_
 refine Go1.seq ?_
 refine Go1.region ?_
 refine GoR.op ((oblk 0 hO rfl rfl Try.underlying25 rfl rfl) _ (Same.refl _)) rfl rfl ?_
 refine GoR.op ((op_lenN Try.underlying25 rfl (hE20.neq hO 1 rfl)) _) rfl rfl ?_
 refine GoR.op ((op_move rfl) _) rfl rfl ?_
 refine GoR.nil ?_
 refine Go1.block ?_
 refine Go1.loopW (S := Nat × List Int) (fun s σ w => ∃ (vs38 : List Value), agrees σ [(3, .pointer (some ⟨B8, 0, none⟩)), (4, .pointer (some ⟨B27, 0, none⟩)), (15, .int .i64 ((List.replicate r1.Below.length ((0 : Int))).length : Int)), (16, .int .i64 ((s.1) : Int))] ∧ Owns w0.heap.size w [.blk B27 (.cells #[.slice p17 r1.Below.length r1.Below.length] 25 (0, 0)), .row 3 1 p17 r1.Below.length r1.Below.length vs38, .blk B8 (.cells #[.slice p_r1_R r1.R.length c_r1_R, .slice p_r1_L r1.L.length c_r1_L, .slice p_r1_J r1.J.length c_r1_J, .slice p_r1_H r1.H.length c_r1_H, .slice p_r1_Below r1.Below.length c_r1_Below] 28 (0, 0))] A ∧ Els (Rp.int .i64) (bl [.blk B27 (.cells #[.slice p17 r1.Below.length r1.Below.length] 25 (0, 0)), .row 3 1 p17 r1.Below.length r1.Below.length vs38, .blk B8 (.cells #[.slice p_r1_R r1.R.length c_r1_R, .slice p_r1_L r1.L.length c_r1_L, .slice p_r1_J r1.J.length c_r1_J, .slice p_r1_H r1.H.length c_r1_H, .slice p_r1_Below r1.Below.length c_r1_Below] 28 (0, 0))] ++ A) w vs38 (s.2) ∧ ISl (Rp.int .i64) (bl [.blk B27 (.cells #[.slice p17 r1.Below.length r1.Below.length] 25 (0, 0)), .row 3 1 p17 r1.Below.length r1.Below.length vs38, .blk B8 (.cells #[.slice p_r1_R r1.R.length c_r1_R, .slice p_r1_L r1.L.length c_r1_L, .slice p_r1_J r1.J.length c_r1_J, .slice p_r1_H r1.H.length c_r1_H, .slice p_r1_Below r1.Below.length c_r1_Below] 28 (0, 0))] ++ A) w p_r1_R c_r1_R r1.R ∧ ISl (Rp.int .i64) (bl [.blk B27 (.cells #[.slice p17 r1.Below.length r1.Below.length] 25 (0, 0)), .row 3 1 p17 r1.Below.length r1.Below.length vs38, .blk B8 (.cells #[.slice p_r1_R r1.R.length c_r1_R, .slice p_r1_L r1.L.length c_r1_L, .slice p_r1_J r1.J.length c_r1_J, .slice p_r1_H r1.H.length c_r1_H, .slice p_r1_Below r1.Below.length c_r1_Below] 28 (0, 0))] ++ A) w p_r1_L c_r1_L r1.L ∧ ISl (Rp.int .i64) (bl [.blk B27 (.cells #[.slice p17 r1.Below.length r1.Below.length] 25 (0, 0)), .row 3 1 p17 r1.Below.length r1.Below.length vs38, .blk B8 (.cells #[.slice p_r1_R r1.R.length c_r1_R, .slice p_r1_L r1.L.length c_r1_L, .slice p_r1_J r1.J.length c_r1_J, .slice p_r1_H r1.H.length c_r1_H, .slice p_r1_Below r1.Below.length c_r1_Below] 28 (0, 0))] ++ A) w p_r1_J c_r1_J r1.J ∧ ISl (Rp.int .i64) (bl [.blk B27 (.cells #[.slice p17 r1.Below.length r1.Below.length] 25 (0, 0)), .row 3 1 p17 r1.Below.length r1.Below.length vs38, .blk B8 (.cells #[.slice p_r1_R r1.R.length c_r1_R, .slice p_r1_L r1.L.length c_r1_L, .slice p_r1_J r1.J.length c_r1_J, .slice p_r1_H r1.H.length c_r1_H, .slice p_r1_Below r1.Below.length c_r1_Below] 28 (0, 0))] ++ A) w p_r1_H c_r1_H r1.H ∧ ISl (Rp.sl (Rp.bool)) (bl [.blk B27 (.cells #[.slice p17 r1.Below.length r1.Below.length] 25 (0, 0)), .row 3 1 p17 r1.Below.length r1.Below.length vs38, .blk B8 (.cells #[.slice p_r1_R r1.R.length c_r1_R, .slice p_r1_L r1.L.length c_r1_L, .slice p_r1_J r1.J.length c_r1_J, .slice p_r1_H r1.H.length c_r1_H, .slice p_r1_Below r1.Below.length c_r1_Below] 28 (0, 0))] ++ A) w p_r1_Below c_r1_Below r1.Below ∧ Fr (bl []) w0 (bl [.blk B27 (.cells #[.slice p17 r1.Below.length r1.Below.length] 25 (0, 0)), .row 3 1 p17 r1.Below.length r1.Below.length vs38, .blk B8 (.cells #[.slice p_r1_R r1.R.length c_r1_R, .slice p_r1_L r1.L.length c_r1_L, .slice p_r1_J r1.J.length c_r1_J, .slice p_r1_H r1.H.length c_r1_H, .slice p_r1_Below r1.Below.length c_r1_Below] 28 (0, 0))]) w) H ⟨vs18, ⟨rfl, rfl, rfl, rfl, trivial⟩, hO, hE20, h_r1_R, h_r1_L, h_r1_J, h_r1_H, h_r1_Below, hB⟩ ?_
 rintro X1 ⟨k1_36, d_37⟩ H hX1 σ w35 ⟨vs38, hag, hO, hE39, h_r1_R, h_r1_L, h_r1_J, h_r1_H, h_r1_Below, hB⟩
 dsimp only at H
 refine Go1.keep [(3, .pointer (some ⟨B8, 0, none⟩)), (4, .pointer (some ⟨B27, 0, none⟩)), (15, .int .i64 ((List.replicate r1.Below.length ((0 : Int))).length : Int)), (16, .int .i64 (k1_36 : Int))] hag ?_
 refine Go1.seq ?_
 refine Go1.region ?_
 by_cases h40 : (k1_36 : Int) < ((List.replicate r1.Below.length ((0 : Int))).length : Int)
 ·replace H := ifp h40 H
  refine GoR.op ((fun w => opB (op_lss rfl rfl w) (decide_eq_true h40)) _) rfl rfl ?_
  refine GoR.nil ?_
  refine Go1.seq ?_
  refine Go1.condT rfl rfl ?_
  refine Go1.skip ?_
  refine Go1.seq ?_
  refine Go1.block ?_
  refine Go1.seq ?_
  refine Go1.region ?_
  refine GoR.op ((op_move rfl) _) rfl rfl ?_
  refine GoR.op ((op_assign rfl) _) rfl rfl ?_
  refine GoR.nil ?_
  refine Go1.region ?_
  refine GoR.op ((oblk 0 hO rfl rfl Try.underlying25 rfl rfl) _ (Same.refl _)) rfl rfl ?_
  refine GoR.op ((op_move rfl) _) rfl rfl ?_
  obtain ⟨h41, H⟩ := H
  obtain ⟨h42, H⟩ := H
  refine GoR.op ((op_index Try.underlying25 ti3 rfl rfl h41 (ltn (hE39.neq hO 1 rfl) h42) (hE39.psome hO 1 rfl h41 h42)) _) rfl rfl ?_
  have hobt := ost (r := Rp.int .i64) rfl 1 hO rfl hE39 h41 h42 (v := .int .i64 (-1 : Int)) (u := (-1 : Int)) rfl rfl
  obtain ⟨w43, vs44, hst45, hE46, hop47⟩ := hobt
  refine GoR.op (hop47 Try.underlying3 rfl ti3 rfl rfl) rfl rfl ?_
  replace hO := hst45.own
  replace h_r1_R := h_r1_R.ch hst45.ch
  replace h_r1_L := h_r1_L.ch hst45.ch
  replace h_r1_J := h_r1_J.ch hst45.ch
  replace h_r1_H := h_r1_H.ch hst45.ch
  replace h_r1_Below := h_r1_Below.ch hst45.ch
  replace hB := hB.trans hst45.fr
  refine GoR.nil ?_
  refine Go1.inBlock ?_
  refine Go1.region ?_
  obtain ⟨h48, H⟩ := H
  refine GoR.op ((op_add rfl rfl (wrap_i64 h48)) _) rfl rfl ?_
  refine GoR.op ((op_move rfl) _) rfl rfl ?_
  refine GoR.nil ?_
  exact hX1 _ H _ _ ⟨vs44, ⟨rfl, rfl, rfl, rfl, trivial⟩, hO, hE46, h_r1_R, h_r1_L, h_r1_J, h_r1_H, h_r1_Below, hB⟩
 ·replace H := ifn h40 H
  refine GoR.op ((fun w => opB (op_lss rfl rfl w) (decide_eq_false h40)) _) rfl rfl ?_
  refine GoR.nil ?_
  refine Go1.seq ?_
  refine Go1.condF rfl rfl ?_
  refine Go1.exit rfl ?_
  refine Go1.seq ?_
  refine Go1.region ?_
  have hobt := oalloc (t := 68) (cs := #[.nilFunc]) ti68 hO rfl
  obtain ⟨w49, B50, hst51, hs52, hop53⟩ := hobt
  refine GoR.op hop53 rfl rfl ?_
  replace hE39 := hE39.ch hst51.ch
  replace hO := hst51.own
  replace h_r1_R := h_r1_R.ch hst51.ch
  replace h_r1_L := h_r1_L.ch hst51.ch
  replace h_r1_J := h_r1_J.ch hst51.ch
  replace h_r1_H := h_r1_H.ch hst51.ch
  replace h_r1_Below := h_r1_Below.ch hst51.ch
  replace hB := hB.trans hst51.fr
  refine GoR.nil ?_
  refine Go1.seq ?_
  refine Go1.region ?_
  refine GoR.op ((op_makeFunc (vs := [.pointer (some ⟨B27, 0, none⟩), .pointer (some ⟨B8, 0, none⟩), .pointer (some ⟨B50, 0, none⟩)]) rfl) _) rfl rfl ?_
  have hobt := oblkSt (v := .func (.func 59) #[] #[.pointer (some ⟨B27, 0, none⟩), .pointer (some ⟨B8, 0, none⟩), .pointer (some ⟨B50, 0, none⟩)]) (i := 0) 0 hO rfl rfl rfl
  obtain ⟨w55, hst56, hop57⟩ := hobt
  refine GoR.op (hop57 Try.underlying68 rfl ti68 rfl rfl) rfl rfl ?_
  replace hE39 := hE39.ch hst56.ch
  replace hO := hst56.own
  replace h_r1_R := h_r1_R.ch hst56.ch
  replace h_r1_L := h_r1_L.ch hst56.ch
  replace h_r1_J := h_r1_J.ch hst56.ch
  replace h_r1_H := h_r1_H.ch hst56.ch
  replace h_r1_Below := h_r1_Below.ch hst56.ch
  replace hB := hB.trans hst56.fr
  refine GoR.nil ?_
  refine Go1.seq ?_
  refine Go1.seq ?_
  refine Go1.region ?_
  refine GoR.op ((oblk 1 hO rfl rfl Try.underlying25 rfl rfl) _ (Same.refl _)) rfl rfl ?_
  refine GoR.op ((op_lenN Try.underlying25 rfl (hE39.neq hO 2 rfl)) _) rfl rfl ?_
  refine GoR.op ((op_move rfl) _) rfl rfl ?_
  refine GoR.nil ?_
  refine Go1.block ?_
  refine Go1.loopW (S := Nat × List Int) (fun s σ w => ∃ (vs61 : List Value), agrees σ [(4, .pointer (some ⟨B27, 0, none⟩)), (6, .pointer (some ⟨B50, 0, none⟩)), (25, .int .i64 (d_37.length : Int)), (26, .int .i64 ((s.1) : Int))] ∧ Owns w0.heap.size w [.blk B50 (.cells #[.func (.func 59) #[] #[.pointer (some ⟨B27, 0, none⟩), .pointer (some ⟨B8, 0, none⟩), .pointer (some ⟨B50, 0, none⟩)]] 68 (0, 0)), .blk B27 (.cells #[.slice p17 r1.Below.length r1.Below.length] 25 (0, 0)), .row 3 1 p17 r1.Below.length r1.Below.length vs61, .blk B8 (.cells #[.slice p_r1_R r1.R.length c_r1_R, .slice p_r1_L r1.L.length c_r1_L, .slice p_r1_J r1.J.length c_r1_J, .slice p_r1_H r1.H.length c_r1_H, .slice p_r1_Below r1.Below.length c_r1_Below] 28 (0, 0))] A ∧ Els (Rp.int .i64) (bl [.blk B50 (.cells #[.func (.func 59) #[] #[.pointer (some ⟨B27, 0, none⟩), .pointer (some ⟨B8, 0, none⟩), .pointer (some ⟨B50, 0, none⟩)]] 68 (0, 0)), .blk B27 (.cells #[.slice p17 r1.Below.length r1.Below.length] 25 (0, 0)), .row 3 1 p17 r1.Below.length r1.Below.length vs61, .blk B8 (.cells #[.slice p_r1_R r1.R.length c_r1_R, .slice p_r1_L r1.L.length c_r1_L, .slice p_r1_J r1.J.length c_r1_J, .slice p_r1_H r1.H.length c_r1_H, .slice p_r1_Below r1.Below.length c_r1_Below] 28 (0, 0))] ++ A) w vs61 (s.2) ∧ ISl (Rp.int .i64) (bl [.blk B50 (.cells #[.func (.func 59) #[] #[.pointer (some ⟨B27, 0, none⟩), .pointer (some ⟨B8, 0, none⟩), .pointer (some ⟨B50, 0, none⟩)]] 68 (0, 0)), .blk B27 (.cells #[.slice p17 r1.Below.length r1.Below.length] 25 (0, 0)), .row 3 1 p17 r1.Below.length r1.Below.length vs61, .blk B8 (.cells #[.slice p_r1_R r1.R.length c_r1_R, .slice p_r1_L r1.L.length c_r1_L, .slice p_r1_J r1.J.length c_r1_J, .slice p_r1_H r1.H.length c_r1_H, .slice p_r1_Below r1.Below.length c_r1_Below] 28 (0, 0))] ++ A) w p_r1_R c_r1_R r1.R ∧ ISl (Rp.int .i64) (bl [.blk B50 (.cells #[.func (.func 59) #[] #[.pointer (some ⟨B27, 0, none⟩), .pointer (some ⟨B8, 0, none⟩), .pointer (some ⟨B50, 0, none⟩)]] 68 (0, 0)), .blk B27 (.cells #[.slice p17 r1.Below.length r1.Below.length] 25 (0, 0)), .row 3 1 p17 r1.Below.length r1.Below.length vs61, .blk B8 (.cells #[.slice p_r1_R r1.R.length c_r1_R, .slice p_r1_L r1.L.length c_r1_L, .slice p_r1_J r1.J.length c_r1_J, .slice p_r1_H r1.H.length c_r1_H, .slice p_r1_Below r1.Below.length c_r1_Below] 28 (0, 0))] ++ A) w p_r1_L c_r1_L r1.L ∧ ISl (Rp.int .i64) (bl [.blk B50 (.cells #[.func (.func 59) #[] #[.pointer (some ⟨B27, 0, none⟩), .pointer (some ⟨B8, 0, none⟩), .pointer (some ⟨B50, 0, none⟩)]] 68 (0, 0)), .blk B27 (.cells #[.slice p17 r1.Below.length r1.Below.length] 25 (0, 0)), .row 3 1 p17 r1.Below.length r1.Below.length vs61, .blk B8 (.cells #[.slice p_r1_R r1.R.length c_r1_R, .slice p_r1_L r1.L.length c_r1_L, .slice p_r1_J r1.J.length c_r1_J, .slice p_r1_H r1.H.length c_r1_H, .slice p_r1_Below r1.Below.length c_r1_Below] 28 (0, 0))] ++ A) w p_r1_J c_r1_J r1.J ∧ ISl (Rp.int .i64) (bl [.blk B50 (.cells #[.func (.func 59) #[] #[.pointer (some ⟨B27, 0, none⟩), .pointer (some ⟨B8, 0, none⟩), .pointer (some ⟨B50, 0, none⟩)]] 68 (0, 0)), .blk B27 (.cells #[.slice p17 r1.Below.length r1.Below.length] 25 (0, 0)), .row 3 1 p17 r1.Below.length r1.Below.length vs61, .blk B8 (.cells #[.slice p_r1_R r1.R.length c_r1_R, .slice p_r1_L r1.L.length c_r1_L, .slice p_r1_J r1.J.length c_r1_J, .slice p_r1_H r1.H.length c_r1_H, .slice p_r1_Below r1.Below.length c_r1_Below] 28 (0, 0))] ++ A) w p_r1_H c_r1_H r1.H ∧ ISl (Rp.sl (Rp.bool)) (bl [.blk B50 (.cells #[.func (.func 59) #[] #[.pointer (some ⟨B27, 0, none⟩), .pointer (some ⟨B8, 0, none⟩), .pointer (some ⟨B50, 0, none⟩)]] 68 (0, 0)), .blk B27 (.cells #[.slice p17 r1.Below.length r1.Below.length] 25 (0, 0)), .row 3 1 p17 r1.Below.length r1.Below.length vs61, .blk B8 (.cells #[.slice p_r1_R r1.R.length c_r1_R, .slice p_r1_L r1.L.length c_r1_L, .slice p_r1_J r1.J.length c_r1_J, .slice p_r1_H r1.H.length c_r1_H, .slice p_r1_Below r1.Below.length c_r1_Below] 28 (0, 0))] ++ A) w p_r1_Below c_r1_Below r1.Below ∧ Fr (bl []) w0 (bl [.blk B50 (.cells #[.func (.func 59) #[] #[.pointer (some ⟨B27, 0, none⟩), .pointer (some ⟨B8, 0, none⟩), .pointer (some ⟨B50, 0, none⟩)]] 68 (0, 0)), .blk B27 (.cells #[.slice p17 r1.Below.length r1.Below.length] 25 (0, 0)), .row 3 1 p17 r1.Below.length r1.Below.length vs61, .blk B8 (.cells #[.slice p_r1_R r1.R.length c_r1_R, .slice p_r1_L r1.L.length c_r1_L, .slice p_r1_J r1.J.length c_r1_J, .slice p_r1_H r1.H.length c_r1_H, .slice p_r1_Below r1.Below.length c_r1_Below] 28 (0, 0))]) w) H ⟨vs38, ⟨rfl, rfl, rfl, rfl, trivial⟩, hO, hE39, h_r1_R, h_r1_L, h_r1_J, h_r1_H, h_r1_Below, hB⟩ ?_
  rintro X2 ⟨k2_59, d_60⟩ H hX2 σ w58 ⟨vs61, hag, hO, hE62, h_r1_R, h_r1_L, h_r1_J, h_r1_H, h_r1_Below, hB⟩
  dsimp only at H
  refine Go1.keep [(4, .pointer (some ⟨B27, 0, none⟩)), (6, .pointer (some ⟨B50, 0, none⟩)), (25, .int .i64 (d_37.length : Int)), (26, .int .i64 (k2_59 : Int))] hag ?_
  refine Go1.seq ?_
  refine Go1.region ?_
  by_cases h63 : (k2_59 : Int) < (d_37.length : Int)
  ·replace H := ifp h63 H
   refine GoR.op ((fun w => opB (op_lss rfl rfl w) (decide_eq_true h63)) _) rfl rfl ?_
   refine GoR.nil ?_
   refine Go1.seq ?_
   refine Go1.condT rfl rfl ?_
   refine Go1.skip ?_
   refine Go1.seq ?_
   refine Go1.block ?_
   refine Go1.seq ?_
   refine Go1.region ?_
   refine GoR.op ((op_move rfl) _) rfl rfl ?_
   refine GoR.op ((op_assign rfl) _) rfl rfl ?_
   refine GoR.nil ?_
   refine Go1.region ?_
   refine GoR.op ((oblk 0 hO rfl rfl Try.underlying68 rfl rfl) _ (Same.refl _)) rfl rfl ?_
   refine GoR.op ((op_move rfl) _) rfl rfl ?_
   refine useRec (P := Try.prog) (g := 59) (S := Int × List Int) (T := Int × List Int) (args := [.int .i64 (k2_59 : Int), .pointer (some ⟨B27, 0, none⟩), .pointer (some ⟨B8, 0, none⟩), .pointer (some ⟨B50, 0, none⟩)]) (fun s args w => ∃ (vs66 : List Value), args = [.int .i64 (s.1), .pointer (some ⟨B27, 0, none⟩), .pointer (some ⟨B8, 0, none⟩), .pointer (some ⟨B50, 0, none⟩)] ∧ Owns w0.heap.size w [.blk B50 (.cells #[.func (.func 59) #[] #[.pointer (some ⟨B27, 0, none⟩), .pointer (some ⟨B8, 0, none⟩), .pointer (some ⟨B50, 0, none⟩)]] 68 (0, 0)), .blk B27 (.cells #[.slice p17 r1.Below.length r1.Below.length] 25 (0, 0)), .row 3 1 p17 r1.Below.length r1.Below.length vs66, .blk B8 (.cells #[.slice p_r1_R r1.R.length c_r1_R, .slice p_r1_L r1.L.length c_r1_L, .slice p_r1_J r1.J.length c_r1_J, .slice p_r1_H r1.H.length c_r1_H, .slice p_r1_Below r1.Below.length c_r1_Below] 28 (0, 0))] A ∧ Els (Rp.int .i64) (bl [.blk B50 (.cells #[.func (.func 59) #[] #[.pointer (some ⟨B27, 0, none⟩), .pointer (some ⟨B8, 0, none⟩), .pointer (some ⟨B50, 0, none⟩)]] 68 (0, 0)), .blk B27 (.cells #[.slice p17 r1.Below.length r1.Below.length] 25 (0, 0)), .row 3 1 p17 r1.Below.length r1.Below.length vs66, .blk B8 (.cells #[.slice p_r1_R r1.R.length c_r1_R, .slice p_r1_L r1.L.length c_r1_L, .slice p_r1_J r1.J.length c_r1_J, .slice p_r1_H r1.H.length c_r1_H, .slice p_r1_Below r1.Below.length c_r1_Below] 28 (0, 0))] ++ A) w vs66 (s.2) ∧ ISl (Rp.int .i64) (bl [.blk B50 (.cells #[.func (.func 59) #[] #[.pointer (some ⟨B27, 0, none⟩), .pointer (some ⟨B8, 0, none⟩), .pointer (some ⟨B50, 0, none⟩)]] 68 (0, 0)), .blk B27 (.cells #[.slice p17 r1.Below.length r1.Below.length] 25 (0, 0)), .row 3 1 p17 r1.Below.length r1.Below.length vs66, .blk B8 (.cells #[.slice p_r1_R r1.R.length c_r1_R, .slice p_r1_L r1.L.length c_r1_L, .slice p_r1_J r1.J.length c_r1_J, .slice p_r1_H r1.H.length c_r1_H, .slice p_r1_Below r1.Below.length c_r1_Below] 28 (0, 0))] ++ A) w p_r1_R c_r1_R r1.R ∧ ISl (Rp.int .i64) (bl [.blk B50 (.cells #[.func (.func 59) #[] #[.pointer (some ⟨B27, 0, none⟩), .pointer (some ⟨B8, 0, none⟩), .pointer (some ⟨B50, 0, none⟩)]] 68 (0, 0)), .blk B27 (.cells #[.slice p17 r1.Below.length r1.Below.length] 25 (0, 0)), .row 3 1 p17 r1.Below.length r1.Below.length vs66, .blk B8 (.cells #[.slice p_r1_R r1.R.length c_r1_R, .slice p_r1_L r1.L.length c_r1_L, .slice p_r1_J r1.J.length c_r1_J, .slice p_r1_H r1.H.length c_r1_H, .slice p_r1_Below r1.Below.length c_r1_Below] 28 (0, 0))] ++ A) w p_r1_L c_r1_L r1.L ∧ ISl (Rp.int .i64) (bl [.blk B50 (.cells #[.func (.func 59) #[] #[.pointer (some ⟨B27, 0, none⟩), .pointer (some ⟨B8, 0, none⟩), .pointer (some ⟨B50, 0, none⟩)]] 68 (0, 0)), .blk B27 (.cells #[.slice p17 r1.Below.length r1.Below.length] 25 (0, 0)), .row 3 1 p17 r1.Below.length r1.Below.length vs66, .blk B8 (.cells #[.slice p_r1_R r1.R.length c_r1_R, .slice p_r1_L r1.L.length c_r1_L, .slice p_r1_J r1.J.length c_r1_J, .slice p_r1_H r1.H.length c_r1_H, .slice p_r1_Below r1.Below.length c_r1_Below] 28 (0, 0))] ++ A) w p_r1_J c_r1_J r1.J ∧ ISl (Rp.int .i64) (bl [.blk B50 (.cells #[.func (.func 59) #[] #[.pointer (some ⟨B27, 0, none⟩), .pointer (some ⟨B8, 0, none⟩), .pointer (some ⟨B50, 0, none⟩)]] 68 (0, 0)), .blk B27 (.cells #[.slice p17 r1.Below.length r1.Below.length] 25 (0, 0)), .row 3 1 p17 r1.Below.length r1.Below.length vs66, .blk B8 (.cells #[.slice p_r1_R r1.R.length c_r1_R, .slice p_r1_L r1.L.length c_r1_L, .slice p_r1_J r1.J.length c_r1_J, .slice p_r1_H r1.H.length c_r1_H, .slice p_r1_Below r1.Below.length c_r1_Below] 28 (0, 0))] ++ A) w p_r1_H c_r1_H r1.H ∧ ISl (Rp.sl (Rp.bool)) (bl [.blk B50 (.cells #[.func (.func 59) #[] #[.pointer (some ⟨B27, 0, none⟩), .pointer (some ⟨B8, 0, none⟩), .pointer (some ⟨B50, 0, none⟩)]] 68 (0, 0)), .blk B27 (.cells #[.slice p17 r1.Below.length r1.Below.length] 25 (0, 0)), .row 3 1 p17 r1.Below.length r1.Below.length vs66, .blk B8 (.cells #[.slice p_r1_R r1.R.length c_r1_R, .slice p_r1_L r1.L.length c_r1_L, .slice p_r1_J r1.J.length c_r1_J, .slice p_r1_H r1.H.length c_r1_H, .slice p_r1_Below r1.Below.length c_r1_Below] 28 (0, 0))] ++ A) w p_r1_Below c_r1_Below r1.Below) (fun we t v w => ∃ (vs66 : List Value), v = .int .i64 (t.1) ∧ Owns w0.heap.size w [.blk B50 (.cells #[.func (.func 59) #[] #[.pointer (some ⟨B27, 0, none⟩), .pointer (some ⟨B8, 0, none⟩), .pointer (some ⟨B50, 0, none⟩)]] 68 (0, 0)), .blk B27 (.cells #[.slice p17 r1.Below.length r1.Below.length] 25 (0, 0)), .row 3 1 p17 r1.Below.length r1.Below.length vs66, .blk B8 (.cells #[.slice p_r1_R r1.R.length c_r1_R, .slice p_r1_L r1.L.length c_r1_L, .slice p_r1_J r1.J.length c_r1_J, .slice p_r1_H r1.H.length c_r1_H, .slice p_r1_Below r1.Below.length c_r1_Below] 28 (0, 0))] A ∧ Els (Rp.int .i64) (bl [.blk B50 (.cells #[.func (.func 59) #[] #[.pointer (some ⟨B27, 0, none⟩), .pointer (some ⟨B8, 0, none⟩), .pointer (some ⟨B50, 0, none⟩)]] 68 (0, 0)), .blk B27 (.cells #[.slice p17 r1.Below.length r1.Below.length] 25 (0, 0)), .row 3 1 p17 r1.Below.length r1.Below.length vs66, .blk B8 (.cells #[.slice p_r1_R r1.R.length c_r1_R, .slice p_r1_L r1.L.length c_r1_L, .slice p_r1_J r1.J.length c_r1_J, .slice p_r1_H r1.H.length c_r1_H, .slice p_r1_Below r1.Below.length c_r1_Below] 28 (0, 0))] ++ A) w vs66 (t.2) ∧ Fr (bl [.blk B50 (.cells #[.func (.func 59) #[] #[.pointer (some ⟨B27, 0, none⟩), .pointer (some ⟨B8, 0, none⟩), .pointer (some ⟨B50, 0, none⟩)]] 68 (0, 0)), .blk B27 (.cells #[.slice p17 r1.Below.length r1.Below.length] 25 (0, 0)), .row 3 1 p17 r1.Below.length r1.Below.length vs66, .blk B8 (.cells #[.slice p_r1_R r1.R.length c_r1_R, .slice p_r1_L r1.L.length c_r1_L, .slice p_r1_J r1.J.length c_r1_J, .slice p_r1_H r1.H.length c_r1_H, .slice p_r1_Below r1.Below.length c_r1_Below] 28 (0, 0))]) we (bl [.blk B50 (.cells #[.func (.func 59) #[] #[.pointer (some ⟨B27, 0, none⟩), .pointer (some ⟨B8, 0, none⟩), .pointer (some ⟨B50, 0, none⟩)]] 68 (0, 0)), .blk B27 (.cells #[.slice p17 r1.Below.length r1.Below.length] 25 (0, 0)), .row 3 1 p17 r1.Below.length r1.Below.length vs66, .blk B8 (.cells #[.slice p_r1_R r1.R.length c_r1_R, .slice p_r1_L r1.L.length c_r1_L, .slice p_r1_J r1.J.length c_r1_J, .slice p_r1_H r1.H.length c_r1_H, .slice p_r1_Below r1.Below.length c_r1_Below] 28 (0, 0))]) w) ⟨vs61, rfl, hO, hE62, h_r1_R, h_r1_L, h_r1_J, h_r1_H, h_r1_Below⟩ H ?_ ?_
   ·rintro X3 hX3 ⟨i3_64, d3_65⟩ KR3 args w68 H ⟨vs66, rfl, hO, hE67, h_r1_R, h_r1_L, h_r1_J, h_r1_H, h_r1_Below⟩
    dsimp only at H
    refine CallsV.of (l := [.int .i64 i3_64, .pointer (some ⟨B27, 0, none⟩), .pointer (some ⟨B8, 0, none⟩), .pointer (some ⟨B50, 0, none⟩)]) Try.func59 rfl Try.ntmps59 rfl ?_
    have hB := Fr.refl (bl [.blk B50 (.cells #[.func (.func 59) #[] #[.pointer (some ⟨B27, 0, none⟩), .pointer (some ⟨B8, 0, none⟩), .pointer (some ⟨B50, 0, none⟩)]] 68 (0, 0)), .blk B27 (.cells #[.slice p17 r1.Below.length r1.Below.length] 25 (0, 0)), .row 3 1 p17 r1.Below.length r1.Below.length vs66, .blk B8 (.cells #[.slice p_r1_R r1.R.length c_r1_R, .slice p_r1_L r1.L.length c_r1_L, .slice p_r1_J r1.J.length c_r1_J, .slice p_r1_H r1.H.length c_r1_H, .slice p_r1_Below r1.Below.length c_r1_Below] 28 (0, 0))]) w68
    refine Go1.seq ?_
    refine Go1.region ?_
    refine GoR.op ((op_assign rfl) _) rfl rfl ?_
    refine GoR.nil ?_
    refine Go1.seq ?_
    refine Go1.seq ?_
    refine Go1.region ?_
    refine GoR.op ((oblk 1 hO rfl rfl Try.underlying25 rfl rfl) _ (Same.refl _)) rfl rfl ?_
    refine GoR.op ((op_move rfl) _) rfl rfl ?_
    obtain ⟨h69, H⟩ := H
    obtain ⟨h70, H⟩ := H
    refine GoR.op ((op_index Try.underlying25 ti3 rfl rfl h69 (ltn (hE67.neq hO 2 rfl) h70) (hE67.psome hO 2 rfl h69 h70)) _) rfl rfl ?_
    refine GoR.op ((oldInt 2 hO rfl hE67 h69 h70 Try.underlying3 rfl rfl) _ (Same.refl _)) rfl rfl ?_
    by_cases h71 : (ix d3_65 i3_64) < (0 : Int)
    ·replace H := ifp h71 H
     refine GoR.op ((fun w => opB (op_lss rfl rfl w) (decide_eq_true h71)) _) rfl rfl ?_
     refine GoR.nil ?_
     refine Go1.condT rfl rfl ?_
     refine Go1.seq ?_
     refine Go1.region ?_
     refine GoR.op ((oblk 1 hO rfl rfl Try.underlying25 rfl rfl) _ (Same.refl _)) rfl rfl ?_
     refine GoR.op ((op_move rfl) _) rfl rfl ?_
     obtain ⟨h72, H⟩ := H
     obtain ⟨h73, H⟩ := H
     refine GoR.op ((op_index Try.underlying25 ti3 rfl rfl h72 (ltn (hE67.neq hO 2 rfl) h73) (hE67.psome hO 2 rfl h72 h73)) _) rfl rfl ?_
     have hobt := ost (r := Rp.int .i64) rfl 2 hO rfl hE67 h72 h73 (v := .int .i64 (0 : Int)) (u := (0 : Int)) rfl rfl
     obtain ⟨w74, vs75, hst76, hE77, hop78⟩ := hobt
     refine GoR.op (hop78 Try.underlying3 rfl ti3 rfl rfl) rfl rfl ?_
     replace hO := hst76.own
     replace h_r1_R := h_r1_R.ch hst76.ch
     replace h_r1_L := h_r1_L.ch hst76.ch
     replace h_r1_J := h_r1_J.ch hst76.ch
     replace h_r1_H := h_r1_H.ch hst76.ch
     replace h_r1_Below := h_r1_Below.ch hst76.ch
     replace hB := hB.trans hst76.fr
     refine GoR.nil ?_
     refine Go1.seq ?_
     refine Go1.region ?_
     refine GoR.op ((op_fieldAddr Try.underlying28 rfl ti26 rfl (by decide)) _) rfl rfl ?_
     refine GoR.op ((oblk 3 hO rfl rfl Try.underlying26 rfl rfl) _ (Same.refl _)) rfl rfl ?_
     refine GoR.op ((op_move rfl) _) rfl rfl ?_
     obtain ⟨h79, H⟩ := H
     obtain ⟨h80, H⟩ := H
     refine GoR.op ((op_index Try.underlying26 ti38 rfl rfl h79 h80 (h_r1_Below.some_ h79 h80)) _) rfl rfl ?_
     have hobt := ldSl h_r1_Below h79 h80
     obtain ⟨p81, c82, hi83, hl84⟩ := hobt
     refine GoR.op ((hl84 Try.underlying38 rfl rfl) _ (Same.refl _)) rfl rfl ?_
     refine GoR.op ((op_len Try.underlying38 rfl) _) rfl rfl ?_
     replace H := H hi83.bd
     refine GoR.op ((op_move rfl) _) rfl rfl ?_
     refine GoR.nil ?_
     refine Go1.block ?_
     refine Go1.loopW (S := Nat × List Int) (fun s σ w => ∃ (vs88 : List Value), agrees σ [(0, .int .i64 i3_64), (1, .pointer (some ⟨B27, 0, none⟩)), (3, .pointer (some ⟨B50, 0, none⟩)), (20, .slice p81 ((ix r1.Below i3_64).length) c82), (21, .int .i64 ((ix r1.Below i3_64).length : Int)), (22, .int .i64 ((s.1) : Int))] ∧ Owns w0.heap.size w [.blk B50 (.cells #[.func (.func 59) #[] #[.pointer (some ⟨B27, 0, none⟩), .pointer (some ⟨B8, 0, none⟩), .pointer (some ⟨B50, 0, none⟩)]] 68 (0, 0)), .blk B27 (.cells #[.slice p17 r1.Below.length r1.Below.length] 25 (0, 0)), .row 3 1 p17 r1.Below.length r1.Below.length vs88, .blk B8 (.cells #[.slice p_r1_R r1.R.length c_r1_R, .slice p_r1_L r1.L.length c_r1_L, .slice p_r1_J r1.J.length c_r1_J, .slice p_r1_H r1.H.length c_r1_H, .slice p_r1_Below r1.Below.length c_r1_Below] 28 (0, 0))] A ∧ Els (Rp.int .i64) (bl [.blk B50 (.cells #[.func (.func 59) #[] #[.pointer (some ⟨B27, 0, none⟩), .pointer (some ⟨B8, 0, none⟩), .pointer (some ⟨B50, 0, none⟩)]] 68 (0, 0)), .blk B27 (.cells #[.slice p17 r1.Below.length r1.Below.length] 25 (0, 0)), .row 3 1 p17 r1.Below.length r1.Below.length vs88, .blk B8 (.cells #[.slice p_r1_R r1.R.length c_r1_R, .slice p_r1_L r1.L.length c_r1_L, .slice p_r1_J r1.J.length c_r1_J, .slice p_r1_H r1.H.length c_r1_H, .slice p_r1_Below r1.Below.length c_r1_Below] 28 (0, 0))] ++ A) w vs88 (s.2) ∧ ISl (Rp.int .i64) (bl [.blk B50 (.cells #[.func (.func 59) #[] #[.pointer (some ⟨B27, 0, none⟩), .pointer (some ⟨B8, 0, none⟩), .pointer (some ⟨B50, 0, none⟩)]] 68 (0, 0)), .blk B27 (.cells #[.slice p17 r1.Below.length r1.Below.length] 25 (0, 0)), .row 3 1 p17 r1.Below.length r1.Below.length vs88, .blk B8 (.cells #[.slice p_r1_R r1.R.length c_r1_R, .slice p_r1_L r1.L.length c_r1_L, .slice p_r1_J r1.J.length c_r1_J, .slice p_r1_H r1.H.length c_r1_H, .slice p_r1_Below r1.Below.length c_r1_Below] 28 (0, 0))] ++ A) w p_r1_R c_r1_R r1.R ∧ ISl (Rp.int .i64) (bl [.blk B50 (.cells #[.func (.func 59) #[] #[.pointer (some ⟨B27, 0, none⟩), .pointer (some ⟨B8, 0, none⟩), .pointer (some ⟨B50, 0, none⟩)]] 68 (0, 0)), .blk B27 (.cells #[.slice p17 r1.Below.length r1.Below.length] 25 (0, 0)), .row 3 1 p17 r1.Below.length r1.Below.length vs88, .blk B8 (.cells #[.slice p_r1_R r1.R.length c_r1_R, .slice p_r1_L r1.L.length c_r1_L, .slice p_r1_J r1.J.length c_r1_J, .slice p_r1_H r1.H.length c_r1_H, .slice p_r1_Below r1.Below.length c_r1_Below] 28 (0, 0))] ++ A) w p_r1_L c_r1_L r1.L ∧ ISl (Rp.int .i64) (bl [.blk B50 (.cells #[.func (.func 59) #[] #[.pointer (some ⟨B27, 0, none⟩), .pointer (some ⟨B8, 0, none⟩), .pointer (some ⟨B50, 0, none⟩)]] 68 (0, 0)), .blk B27 (.cells #[.slice p17 r1.Below.length r1.Below.length] 25 (0, 0)), .row 3 1 p17 r1.Below.length r1.Below.length vs88, .blk B8 (.cells #[.slice p_r1_R r1.R.length c_r1_R, .slice p_r1_L r1.L.length c_r1_L, .slice p_r1_J r1.J.length c_r1_J, .slice p_r1_H r1.H.length c_r1_H, .slice p_r1_Below r1.Below.length c_r1_Below] 28 (0, 0))] ++ A) w p_r1_J c_r1_J r1.J ∧ ISl (Rp.int .i64) (bl [.blk B50 (.cells #[.func (.func 59) #[] #[.pointer (some ⟨B27, 0, none⟩), .pointer (some ⟨B8, 0, none⟩), .pointer (some ⟨B50, 0, none⟩)]] 68 (0, 0)), .blk B27 (.cells #[.slice p17 r1.Below.length r1.Below.length] 25 (0, 0)), .row 3 1 p17 r1.Below.length r1.Below.length vs88, .blk B8 (.cells #[.slice p_r1_R r1.R.length c_r1_R, .slice p_r1_L r1.L.length c_r1_L, .slice p_r1_J r1.J.length c_r1_J, .slice p_r1_H r1.H.length c_r1_H, .slice p_r1_Below r1.Below.length c_r1_Below] 28 (0, 0))] ++ A) w p_r1_H c_r1_H r1.H ∧ ISl (Rp.sl (Rp.bool)) (bl [.blk B50 (.cells #[.func (.func 59) #[] #[.pointer (some ⟨B27, 0, none⟩), .pointer (some ⟨B8, 0, none⟩), .pointer (some ⟨B50, 0, none⟩)]] 68 (0, 0)), .blk B27 (.cells #[.slice p17 r1.Below.length r1.Below.length] 25 (0, 0)), .row 3 1 p17 r1.Below.length r1.Below.length vs88, .blk B8 (.cells #[.slice p_r1_R r1.R.length c_r1_R, .slice p_r1_L r1.L.length c_r1_L, .slice p_r1_J r1.J.length c_r1_J, .slice p_r1_H r1.H.length c_r1_H, .slice p_r1_Below r1.Below.length c_r1_Below] 28 (0, 0))] ++ A) w p_r1_Below c_r1_Below r1.Below ∧ ISl (Rp.bool) (bl [.blk B50 (.cells #[.func (.func 59) #[] #[.pointer (some ⟨B27, 0, none⟩), .pointer (some ⟨B8, 0, none⟩), .pointer (some ⟨B50, 0, none⟩)]] 68 (0, 0)), .blk B27 (.cells #[.slice p17 r1.Below.length r1.Below.length] 25 (0, 0)), .row 3 1 p17 r1.Below.length r1.Below.length vs88, .blk B8 (.cells #[.slice p_r1_R r1.R.length c_r1_R, .slice p_r1_L r1.L.length c_r1_L, .slice p_r1_J r1.J.length c_r1_J, .slice p_r1_H r1.H.length c_r1_H, .slice p_r1_Below r1.Below.length c_r1_Below] 28 (0, 0))] ++ A) w p81 c82 (ix r1.Below i3_64) ∧ Fr (bl [.blk B50 (.cells #[.func (.func 59) #[] #[.pointer (some ⟨B27, 0, none⟩), .pointer (some ⟨B8, 0, none⟩), .pointer (some ⟨B50, 0, none⟩)]] 68 (0, 0)), .blk B27 (.cells #[.slice p17 r1.Below.length r1.Below.length] 25 (0, 0)), .row 3 1 p17 r1.Below.length r1.Below.length vs66, .blk B8 (.cells #[.slice p_r1_R r1.R.length c_r1_R, .slice p_r1_L r1.L.length c_r1_L, .slice p_r1_J r1.J.length c_r1_J, .slice p_r1_H r1.H.length c_r1_H, .slice p_r1_Below r1.Below.length c_r1_Below] 28 (0, 0))]) w68 (bl [.blk B50 (.cells #[.func (.func 59) #[] #[.pointer (some ⟨B27, 0, none⟩), .pointer (some ⟨B8, 0, none⟩), .pointer (some ⟨B50, 0, none⟩)]] 68 (0, 0)), .blk B27 (.cells #[.slice p17 r1.Below.length r1.Below.length] 25 (0, 0)), .row 3 1 p17 r1.Below.length r1.Below.length vs88, .blk B8 (.cells #[.slice p_r1_R r1.R.length c_r1_R, .slice p_r1_L r1.L.length c_r1_L, .slice p_r1_J r1.J.length c_r1_J, .slice p_r1_H r1.H.length c_r1_H, .slice p_r1_Below r1.Below.length c_r1_Below] 28 (0, 0))]) w) H ⟨vs75, ⟨rfl, rfl, rfl, rfl, rfl, rfl, trivial⟩, hO, hE77, h_r1_R, h_r1_L, h_r1_J, h_r1_H, h_r1_Below, hi83, hB⟩ ?_
     rintro X4 ⟨k4_86, d_87⟩ H hX4 σ w85 ⟨vs88, hag, hO, hE89, h_r1_R, h_r1_L, h_r1_J, h_r1_H, h_r1_Below, hi83, hB⟩
     dsimp only at H
     refine Go1.keep [(0, .int .i64 i3_64), (1, .pointer (some ⟨B27, 0, none⟩)), (3, .pointer (some ⟨B50, 0, none⟩)), (20, .slice p81 ((ix r1.Below i3_64).length) c82), (21, .int .i64 ((ix r1.Below i3_64).length : Int)), (22, .int .i64 (k4_86 : Int))] hag ?_
     refine Go1.seq ?_
     refine Go1.region ?_
     by_cases h90 : (k4_86 : Int) < ((ix r1.Below i3_64).length : Int)
     ·replace H := ifp h90 H
      refine GoR.op ((fun w => opB (op_lss rfl rfl w) (decide_eq_true h90)) _) rfl rfl ?_
      refine GoR.nil ?_
      refine Go1.seq ?_
      refine Go1.condT rfl rfl ?_
      refine Go1.skip ?_
      refine Go1.seq ?_
      refine Go1.block ?_
      refine Go1.seq ?_
      refine Go1.region ?_
      refine GoR.op ((op_move rfl) _) rfl rfl ?_
      obtain ⟨h91, H⟩ := H
      obtain ⟨h92, H⟩ := H
      refine GoR.op ((op_index Try.underlying38 ti4 rfl rfl h91 h92 (hi83.some_ h91 h92)) _) rfl rfl ?_
      by_cases h93 : ix (ix r1.Below i3_64) (k4_86 : Int) = true
      ·replace H := ifp h93 H
       refine GoR.op (opB ((ldBool hi83 h91 h92 Try.underlying4 rfl rfl) _ (Same.refl _)) (h93)) rfl rfl ?_
       refine GoR.op ((op_assign rfl) _) rfl rfl ?_
       refine GoR.op ((op_assign rfl) _) rfl rfl ?_
       refine GoR.nil ?_
       refine Go1.seq ?_
       refine Go1.region ?_
       refine GoR.op ((op_move rfl) _) rfl rfl ?_
       refine GoR.op ((op_move rfl) _) rfl rfl ?_
       refine GoR.op ((op_move rfl) _) rfl rfl ?_
       refine GoR.op ((op_move rfl) _) rfl rfl ?_
       by_cases h94 : (k4_86 : Int) = i3_64
       ·replace H := ifp h94 H
        refine GoR.op ((fun w => opB (op_neq rfl rfl w) (ndT h94)) _) rfl rfl ?_
        refine GoR.op ((op_pickT rfl rfl rfl) _) rfl rfl ?_
        refine GoR.nil ?_
        refine Go1.condF rfl rfl ?_
        refine Go1.skip ?_
        refine Go1.inBlock ?_
        refine Go1.region ?_
        refine GoR.op ((op_add rfl rfl (wrap_i64 (natbd h90 hi83.bd))) _) rfl rfl ?_
        refine GoR.op ((op_move rfl) _) rfl rfl ?_
        refine GoR.nil ?_
        exact hX4 _ H _ _ ⟨vs88, ⟨rfl, rfl, rfl, rfl, rfl, rfl, trivial⟩, hO, hE89, h_r1_R, h_r1_L, h_r1_J, h_r1_H, h_r1_Below, hi83, hB⟩
       ·replace H := ifn h94 H
        refine GoR.op ((fun w => opB (op_neq rfl rfl w) (ndF h94)) _) rfl rfl ?_
        refine GoR.op ((op_pickT rfl rfl rfl) _) rfl rfl ?_
        refine GoR.nil ?_
        refine Go1.condT rfl rfl ?_
        refine Go1.drawRS [(some ⟨B27, 0, none⟩), (padd p17 (i3_64.toNat * 1)), (some ⟨B50, 0, none⟩)] 1 [(0, .stable), (1, .pure), (2, .stable), (3, .pure), (4, .pure), (5, .stable), (6, .stable), (7, .pure), (8, .loud), (9, .pure), (10, .pure), (11, .pure), (12, .last)] mixed (by kernel_rfl) ?_
        intro w95 hs96
        have hst97 := Stp.same hO hs96
        replace hE89 := hE89.ch hst97.ch
        replace hO := hst97.own
        replace h_r1_R := h_r1_R.ch hst97.ch
        replace h_r1_L := h_r1_L.ch hst97.ch
        replace h_r1_J := h_r1_J.ch hst97.ch
        replace h_r1_H := h_r1_H.ch hst97.ch
        replace h_r1_Below := h_r1_Below.ch hst97.ch
        replace hi83 := hi83.ch hst97.ch
        replace hB := hB.trans hst97.fr
        refine GoQR.stable rfl (loadR (.head _) rfl (blkCell 1 hO rfl rfl) Try.underlying25 rfl rfl) rfl rfl ?_
        refine GoQR.pure rfl (op_move rfl) rfl rfl ?_
        refine GoQR.stable rfl (loadR (.head _) rfl (blkCell 1 hO rfl rfl) Try.underlying25 rfl rfl) rfl rfl ?_
        refine GoQR.pure rfl (op_move rfl) rfl rfl ?_
        obtain ⟨h98, H⟩ := H
        obtain ⟨h99, H⟩ := H
        refine GoQR.pure rfl (op_index Try.underlying25 ti3 rfl rfl h98 (ltn (hE89.neq hO 2 rfl) h99) (hE89.psome hO 2 rfl h98 h99)) rfl rfl ?_
        refine GoQR.stable rfl (loadR (.tail _ (.head _)) (padd_some (hE89.psome hO 2 rfl h98 h99)) (rowCellInt 2 hO rfl hE89 h98 h99) Try.underlying3 rfl rfl) rfl rfl ?_
        refine GoQR.stable rfl (loadR (.tail _ (.tail _ (.head _))) rfl (blkCell 0 hO rfl rfl) Try.underlying68 rfl rfl) rfl rfl ?_
        refine GoQR.pure rfl (op_move rfl) rfl rfl ?_
        refine GoQR.call rfl (op_callV (vs := [.int .i64 (k4_86 : Int)]) (caps := [.pointer (some ⟨B27, 0, none⟩), .pointer (some ⟨B8, 0, none⟩), .pointer (some ⟨B50, 0, none⟩)]) body59 rfl rfl (hX3 ((k4_86 : Int), d_87) _ _ _ H ⟨vs88, rfl, hO, hE89, h_r1_R, h_r1_L, h_r1_J, h_r1_H, h_r1_Below⟩)) (fun v w hr => by obtain ⟨⟨r102, d103⟩, ⟨vs104, rfl, hO9, hE899, hF9⟩, H9⟩ := hr; dsimp only at H9; obtain ⟨kk1, kl1, H9⟩ := H9; exact (CS.cons (cs_eq (blkCell 1 hO rfl rfl) (blkCell 1 hO9 rfl rfl)) (CS.cons (cs_eq (rowCellInt 2 hO rfl hE89 h98 h99) (by rw [← kk1]; exact rowCellInt 2 hO9 rfl hE899 h98 kl1)) (CS.cons (cs_eq (blkCell 0 hO rfl rfl) (blkCell 0 hO9 rfl rfl)) (CS.nil _ _))))) rfl rfl ?_
        rintro v101 w100 ⟨⟨r102, d103⟩, ⟨vs104, rfl, hO, hE89, hF⟩, H⟩
        dsimp only at H
        replace h_r1_R := h_r1_R.ch (hF.ch.app A)
        replace h_r1_L := h_r1_L.ch (hF.ch.app A)
        replace h_r1_J := h_r1_J.ch (hF.ch.app A)
        replace h_r1_H := h_r1_H.ch (hF.ch.app A)
        replace h_r1_Below := h_r1_Below.ch (hF.ch.app A)
        replace hi83 := hi83.ch (hF.ch.app A)
        replace hB := hB.trans hF
        obtain ⟨kk1, kl1, H⟩ := H
        obtain ⟨h105, H⟩ := H
        refine GoQR.pure rfl (op_add rfl rfl (wrap_i64 h105)) rfl rfl ?_
        by_cases h106 : (ix d_87 i3_64) < ((1 : Int) + r102)
        ·replace H := ifp h106 H
         refine GoQR.pure rfl (op_maxT rfl rfl h106) rfl rfl ?_
         obtain ⟨h107, H⟩ := H
         obtain ⟨h108, H⟩ := H
         refine GoQR.pure rfl (op_index Try.underlying25 ti3 rfl rfl h107 (ltn (hE89.neq hO 2 rfl) h108) (hE89.psome hO 2 rfl h107 h108)) rfl rfl ?_
         have hobt := ost (r := Rp.int .i64) rfl 2 hO rfl hE89 h107 h108 (v := .int .i64 ((1 : Int) + r102)) (u := ((1 : Int) + r102)) rfl rfl
         obtain ⟨w109, vs110, hst111, hE112, hop113⟩ := hobt
         refine GoQR.last rfl (hop113 Try.underlying3 rfl ti3 rfl rfl) rfl rfl ?_
         replace hO := hst111.own
         replace h_r1_R := h_r1_R.ch hst111.ch
         replace h_r1_L := h_r1_L.ch hst111.ch
         replace h_r1_J := h_r1_J.ch hst111.ch
         replace h_r1_H := h_r1_H.ch hst111.ch
         replace h_r1_Below := h_r1_Below.ch hst111.ch
         replace hi83 := hi83.ch hst111.ch
         replace hB := hB.trans hst111.fr
         refine GoQR.nil ?_
         refine Go1.inBlock ?_
         refine Go1.region ?_
         refine GoR.op ((op_add rfl rfl (wrap_i64 (natbd h90 hi83.bd))) _) rfl rfl ?_
         refine GoR.op ((op_move rfl) _) rfl rfl ?_
         refine GoR.nil ?_
         exact hX4 _ H _ _ ⟨vs110, ⟨rfl, rfl, rfl, rfl, rfl, rfl, trivial⟩, hO, hE112, h_r1_R, h_r1_L, h_r1_J, h_r1_H, h_r1_Below, hi83, hB⟩
        ·replace H := ifn h106 H
         refine GoQR.pure rfl (op_maxF rfl rfl h106) rfl rfl ?_
         obtain ⟨h114, H⟩ := H
         obtain ⟨h115, H⟩ := H
         refine GoQR.pure rfl (op_index Try.underlying25 ti3 rfl rfl h114 (ltn (hE89.neq hO 2 rfl) h115) (hE89.psome hO 2 rfl h114 h115)) rfl rfl ?_
         have hobt := ost (r := Rp.int .i64) rfl 2 hO rfl hE89 h114 h115 (v := .int .i64 (ix d_87 i3_64)) (u := (ix d_87 i3_64)) rfl rfl
         obtain ⟨w116, vs117, hst118, hE119, hop120⟩ := hobt
         refine GoQR.last rfl (hop120 Try.underlying3 rfl ti3 rfl rfl) rfl rfl ?_
         replace hO := hst118.own
         replace h_r1_R := h_r1_R.ch hst118.ch
         replace h_r1_L := h_r1_L.ch hst118.ch
         replace h_r1_J := h_r1_J.ch hst118.ch
         replace h_r1_H := h_r1_H.ch hst118.ch
         replace h_r1_Below := h_r1_Below.ch hst118.ch
         replace hi83 := hi83.ch hst118.ch
         replace hB := hB.trans hst118.fr
         refine GoQR.nil ?_
         refine Go1.inBlock ?_
         refine Go1.region ?_
         refine GoR.op ((op_add rfl rfl (wrap_i64 (natbd h90 hi83.bd))) _) rfl rfl ?_
         refine GoR.op ((op_move rfl) _) rfl rfl ?_
         refine GoR.nil ?_
         exact hX4 _ H _ _ ⟨vs117, ⟨rfl, rfl, rfl, rfl, rfl, rfl, trivial⟩, hO, hE119, h_r1_R, h_r1_L, h_r1_J, h_r1_H, h_r1_Below, hi83, hB⟩
      ·replace H := ifn h93 H
       refine GoR.op (opB ((ldBool hi83 h91 h92 Try.underlying4 rfl rfl) _ (Same.refl _)) (Bool.eq_false_iff.2 h93)) rfl rfl ?_
       refine GoR.op ((op_assign rfl) _) rfl rfl ?_
       refine GoR.op ((op_assign rfl) _) rfl rfl ?_
       refine GoR.nil ?_
       refine Go1.seq ?_
       refine Go1.region ?_
       refine GoR.op ((op_move rfl) _) rfl rfl ?_
       refine GoR.op ((op_move rfl) _) rfl rfl ?_
       refine GoR.pass rfl rfl ?_
       refine GoR.pass rfl rfl ?_
       refine GoR.pass rfl rfl ?_
       refine GoR.op ((op_pickF rfl rfl rfl) _) rfl rfl ?_
       refine GoR.nil ?_
       refine Go1.condF rfl rfl ?_
       refine Go1.skip ?_
       refine Go1.inBlock ?_
       refine Go1.region ?_
       refine GoR.op ((op_add rfl rfl (wrap_i64 (natbd h90 hi83.bd))) _) rfl rfl ?_
       refine GoR.op ((op_move rfl) _) rfl rfl ?_
       refine GoR.nil ?_
       exact hX4 _ H _ _ ⟨vs88, ⟨rfl, rfl, rfl, rfl, rfl, rfl, trivial⟩, hO, hE89, h_r1_R, h_r1_L, h_r1_J, h_r1_H, h_r1_Below, hi83, hB⟩
     ·replace H := ifn h90 H
      refine GoR.op ((fun w => opB (op_lss rfl rfl w) (decide_eq_false h90)) _) rfl rfl ?_
      refine GoR.nil ?_
      refine Go1.seq ?_
      refine Go1.condF rfl rfl ?_
      refine Go1.exit rfl ?_
      refine Go1.seq ?_
      refine Go1.region ?_
      refine GoR.op ((oblk 1 hO rfl rfl Try.underlying25 rfl rfl) _ (Same.refl _)) rfl rfl ?_
      refine GoR.op ((op_move rfl) _) rfl rfl ?_
      obtain ⟨h121, H⟩ := H
      obtain ⟨h122, H⟩ := H
      refine GoR.op ((op_index Try.underlying25 ti3 rfl rfl h121 (ltn (hE89.neq hO 2 rfl) h122) (hE89.psome hO 2 rfl h121 h122)) _) rfl rfl ?_
      refine GoR.op ((oldInt 2 hO rfl hE89 h121 h122 Try.underlying3 rfl rfl) _ (Same.refl _)) rfl rfl ?_
      refine GoR.op ((op_assign rfl) _) rfl rfl ?_
      refine GoR.nil ?_
      refine Go1.ret1 Try.func59 rfl ?_
      exact ⟨((ix d_87 i3_64), d_87), ⟨vs88, rfl, hO, hE89, hB⟩, H⟩
    ·replace H := ifn h71 H
     refine GoR.op ((fun w => opB (op_lss rfl rfl w) (decide_eq_false h71)) _) rfl rfl ?_
     refine GoR.nil ?_
     refine Go1.condF rfl rfl ?_
     refine Go1.skip ?_
     refine Go1.seq ?_
     refine Go1.region ?_
     refine GoR.op ((oblk 1 hO rfl rfl Try.underlying25 rfl rfl) _ (Same.refl _)) rfl rfl ?_
     refine GoR.op ((op_move rfl) _) rfl rfl ?_
     obtain ⟨h123, H⟩ := H
     obtain ⟨h124, H⟩ := H
     refine GoR.op ((op_index Try.underlying25 ti3 rfl rfl h123 (ltn (hE67.neq hO 2 rfl) h124) (hE67.psome hO 2 rfl h123 h124)) _) rfl rfl ?_
     refine GoR.op ((oldInt 2 hO rfl hE67 h123 h124 Try.underlying3 rfl rfl) _ (Same.refl _)) rfl rfl ?_
     refine GoR.op ((op_assign rfl) _) rfl rfl ?_
     refine GoR.nil ?_
     refine Go1.ret1 Try.func59 rfl ?_
     exact ⟨((ix d3_65 i3_64), d3_65), ⟨vs66, rfl, hO, hE67, hB⟩, H⟩
   ·intro hrec3
    refine GoR.call (op_callV (vs := [.int .i64 (k2_59 : Int)]) (caps := [.pointer (some ⟨B27, 0, none⟩), .pointer (some ⟨B8, 0, none⟩), .pointer (some ⟨B50, 0, none⟩)]) body59 rfl rfl hrec3) rfl rfl ?_
    rintro v126 w125 ⟨⟨r127, d128⟩, ⟨vs129, rfl, hO, hE62, hF⟩, H⟩
    dsimp only at H
    replace h_r1_R := h_r1_R.ch (hF.ch.app A)
    replace h_r1_L := h_r1_L.ch (hF.ch.app A)
    replace h_r1_J := h_r1_J.ch (hF.ch.app A)
    replace h_r1_H := h_r1_H.ch (hF.ch.app A)
    replace h_r1_Below := h_r1_Below.ch (hF.ch.app A)
    replace hB := hB.trans hF
    refine GoR.nil ?_
    refine Go1.inBlock ?_
    refine Go1.region ?_
    obtain ⟨h130, H⟩ := H
    refine GoR.op ((op_add rfl rfl (wrap_i64 h130)) _) rfl rfl ?_
    refine GoR.op ((op_move rfl) _) rfl rfl ?_
    refine GoR.nil ?_
    exact hX2 _ H _ _ ⟨vs129, ⟨rfl, rfl, rfl, rfl, trivial⟩, hO, hE62, h_r1_R, h_r1_L, h_r1_J, h_r1_H, h_r1_Below, hB⟩
  ·replace H := ifn h63 H
   refine GoR.op ((fun w => opB (op_lss rfl rfl w) (decide_eq_false h63)) _) rfl rfl ?_
   refine GoR.nil ?_
   refine Go1.seq ?_
   refine Go1.condF rfl rfl ?_
   refine Go1.exit rfl ?_
   refine Go1.seq ?_
   refine Go1.region ?_
   refine GoR.op ((oblk 1 hO rfl rfl Try.underlying25 rfl rfl) _ (Same.refl _)) rfl rfl ?_
   refine GoR.op ((op_assign rfl) _) rfl rfl ?_
   refine GoR.nil ?_
   have hobt := freeze 2 hO rfl hE62
   obtain ⟨hO1, hc133, hi131, hn132⟩ := hobt
   replace h_r1_R := h_r1_R.ch hc133
   replace h_r1_L := h_r1_L.ch hc133
   replace h_r1_J := h_r1_J.ch hc133
   replace h_r1_H := h_r1_H.ch hc133
   replace h_r1_Below := h_r1_Below.ch hc133
   replace hB := hB.trans (Owns.dropFr _ _ 2)
   replace hO := hO1; clear hO1
   refine Go1.ret1 Try.func24 rfl ?_
   exact ⟨d_60, p17, r1.Below.length, (congrArg (fun nn => Value.slice p17 nn r1.Below.length) hn132), hB.same, (hi131.ch (Ch.weak _ _ _)), H⟩
theorem body14 : Body Try.prog 14 := ⟨Try.f14, Try.func14, rfl, by kernel_rfl⟩
theorem walk_law15_awake {A : List Nat} {w0 : World} (hA : ∀ b ∈ A, b < w0.heap.size) {K : Bool → Prop} (H : law15_awake  K) :
    CallsV Try.prog 14 #[] w0 (fun v w' => ∃ (r0 : Bool), v = .bool r0 ∧ Same w0 w' ∧ K r0) := by
 refine CallsV.of (l := []) Try.func14 rfl Try.ntmps14 rfl ?_
 have hO := Owns.start hA
 have hB := Fr.refl (bl []) w0
 unfold law15_awake at H
 refine Go1.seq ?_
 refine Go1.region ?_
 refine GoR.op ((op_assign rfl) _) rfl rfl ?_
 refine GoR.nil ?_
 refine Go1.seq ?_
 refine Go1.region ?_
 refine GoR.call (op_call body44 rfl (walk_law15_flip hO.lt H)) rfl rfl ?_
 rintro v5 w2 ⟨r1, p_r1, c_r1, rfl, hs3, h_r1, H⟩
 have hst6 := Stp.same hO hs3
 replace hO := hst6.own
 replace hB := hB.trans hst6.fr
 refine GoR.call (op_call body15 rfl (walk_green_Classes hO.lt h_r1 H)) rfl rfl ?_
 rintro v11 w8 ⟨r7, p_r7_R, c_r7_R, p_r7_L, c_r7_L, p_r7_J, c_r7_J, p_r7_H, c_r7_H, p_r7_Below, c_r7_Below, rfl, hs9, h_r7_R, h_r7_L, h_r7_J, h_r7_H, h_r7_Below, H⟩
 have hst12 := Stp.same hO hs9
 replace hO := hst12.own
 replace h_r1 := h_r1.ch hst12.ch
 replace hB := hB.trans hst12.fr
 have hobt := oalloc (t := 28) (cs := #[.slice none 0 0, .slice none 0 0, .slice none 0 0, .slice none 0 0, .slice none 0 0]) ti28 hO rfl
 obtain ⟨w13, B14, hst15, hs16, hop17⟩ := hobt
 refine GoR.op hop17 rfl rfl ?_
 replace hO := hst15.own
 replace h_r1 := h_r1.ch hst15.ch
 replace h_r7_R := h_r7_R.ch hst15.ch
 replace h_r7_L := h_r7_L.ch hst15.ch
 replace h_r7_J := h_r7_J.ch hst15.ch
 replace h_r7_H := h_r7_H.ch hst15.ch
 replace h_r7_Below := h_r7_Below.ch hst15.ch
 replace hB := hB.trans hst15.fr
 have hobt := oblkStAgg (us := [.slice p_r7_R r7.R.length c_r7_R, .slice p_r7_L r7.L.length c_r7_L, .slice p_r7_J r7.J.length c_r7_J, .slice p_r7_H r7.H.length c_r7_H, .slice p_r7_Below r7.Below.length c_r7_Below]) (o := 0) (cs' := #[.slice p_r7_R r7.R.length c_r7_R, .slice p_r7_L r7.L.length c_r7_L, .slice p_r7_J r7.J.length c_r7_J, .slice p_r7_H r7.H.length c_r7_H, .slice p_r7_Below r7.Below.length c_r7_Below]) 0 hO rfl rfl (Nat.le_of_ble_eq_true rfl) rfl
 obtain ⟨w19, hst20, hop21⟩ := hobt
 refine GoR.op (hop21 ti28 rfl rfl rfl) rfl rfl ?_
 replace hO := hst20.own
 replace h_r1 := h_r1.ch hst20.ch
 replace h_r7_R := h_r7_R.ch hst20.ch
 replace h_r7_L := h_r7_L.ch hst20.ch
 replace h_r7_J := h_r7_J.ch hst20.ch
 replace h_r7_H := h_r7_H.ch hst20.ch
 replace h_r7_Below := h_r7_Below.ch hst20.ch
 replace hB := hB.trans hst20.fr
 refine GoR.nil ?_
 refine Go1.seq ?_
 refine Go1.region ?_
 refine GoR.op ((op_fieldAddr Try.underlying28 rfl ti25 rfl (by decide)) _) rfl rfl ?_
 refine GoR.op ((oblk 0 hO rfl rfl Try.underlying25 rfl rfl) _ (Same.refl _)) rfl rfl ?_
 have hobt := obuild (r := Rp.int .i64) (n := 3) (parts := [(0, .int .i64 (0 : Int)), (1, .int .i64 (0 : Int)), (2, .int .i64 (1 : Int))]) (vs := [.int .i64 (0 : Int), .int .i64 (0 : Int), .int .i64 (1 : Int)]) (xs := [(0 : Int), (0 : Int), (1 : Int)]) rfl Try.underlying25 ti3 hO (by decide) (by kernel_rfl) (Els.cons rfl rfl (Els.cons rfl rfl (Els.cons rfl rfl (Els.nil _ _ _) (by simp [mx])) (by simp [mx])) (by simp [mx])) rfl
 obtain ⟨w22, p23, hst24, hE25, hs26, hop27⟩ := hobt
 refine GoR.op (hop27 rfl) rfl rfl ?_
 replace hO := hst24.own
 replace h_r1 := h_r1.ch hst24.ch
 replace h_r7_R := h_r7_R.ch hst24.ch
 replace h_r7_L := h_r7_L.ch hst24.ch
 replace h_r7_J := h_r7_J.ch hst24.ch
 replace h_r7_H := h_r7_H.ch hst24.ch
 replace h_r7_Below := h_r7_Below.ch hst24.ch
 replace hB := hB.trans hst24.fr
 have hobt := rowlend 0 hO rfl hE25
 obtain ⟨hl29, hn30⟩ := hobt
 have hOc31 := hO.drop 0
 refine GoR.call (op_call body22 (show ([.slice p_r7_J r7.J.length c_r7_J, .slice p23 3 3] : List Value) = [.slice p_r7_J r7.J.length c_r7_J, .slice p23 ([(0 : Int), (0 : Int), (1 : Int)]).length 3] from by rw [← hn30]) (walk_ref03_Same hOc31.lt (h_r7_J.ch (Owns.dropCh _ _ 0)) hl29 H)) rfl rfl ?_
 rintro v36 w33 ⟨r32, rfl, hs34, H⟩
 have hst37 := Stp.same hO hs34
 replace hE25 := hE25.ch hst37.ch
 replace hO := hst37.own
 replace h_r1 := h_r1.ch hst37.ch
 replace h_r7_R := h_r7_R.ch hst37.ch
 replace h_r7_L := h_r7_L.ch hst37.ch
 replace h_r7_J := h_r7_J.ch hst37.ch
 replace h_r7_H := h_r7_H.ch hst37.ch
 replace h_r7_Below := h_r7_Below.ch hst37.ch
 replace hB := hB.trans hst37.fr
 refine GoR.op ((op_move rfl) _) rfl rfl ?_
 cases r32
 ·replace H := ifn Bool.false_ne_true H
  refine GoR.pass rfl rfl ?_
  refine GoR.pass rfl rfl ?_
  refine GoR.pass rfl rfl ?_
  refine GoR.pass rfl rfl ?_
  refine GoR.op ((op_pickF rfl rfl rfl) _) rfl rfl ?_
  refine GoR.op ((op_move rfl) _) rfl rfl ?_
  refine GoR.pass rfl rfl ?_
  refine GoR.pass rfl rfl ?_
  refine GoR.pass rfl rfl ?_
  refine GoR.pass rfl rfl ?_
  refine GoR.op ((op_pickF rfl rfl rfl) _) rfl rfl ?_
  refine GoR.op ((op_assign rfl) _) rfl rfl ?_
  refine GoR.nil ?_
  refine Go1.ret1 Try.func14 rfl ?_
  exact ⟨false, rfl, hB.same, H⟩
 ·replace H := ifp rfl H
  refine GoR.op ((op_fieldAddr Try.underlying28 rfl ti26 rfl (by decide)) _) rfl rfl ?_
  refine GoR.op ((oblk 1 hO rfl rfl Try.underlying26 rfl rfl) _ (Same.refl _)) rfl rfl ?_
  refine GoR.op ((op_len Try.underlying26 rfl) _) rfl rfl ?_
  replace H := H h_r7_Below.bd
  by_cases h38 : (r7.Below.length : Int) = (2 : Int)
  ·replace H := ifp h38 H
   refine GoR.op ((fun w => opB (op_eql rfl rfl w) (decide_eq_true h38)) _) rfl rfl ?_
   refine GoR.op ((op_pickT rfl rfl rfl) _) rfl rfl ?_
   refine GoR.op ((op_move rfl) _) rfl rfl ?_
   refine GoR.call (op_call body44 rfl (walk_law15_flip hO.lt H)) rfl rfl ?_
   rintro v43 w40 ⟨r39, p_r39, c_r39, rfl, hs41, h_r39, H⟩
   have hst44 := Stp.same hO hs41
   replace hE25 := hE25.ch hst44.ch
   replace hO := hst44.own
   replace h_r1 := h_r1.ch hst44.ch
   replace h_r7_R := h_r7_R.ch hst44.ch
   replace h_r7_L := h_r7_L.ch hst44.ch
   replace h_r7_J := h_r7_J.ch hst44.ch
   replace h_r7_H := h_r7_H.ch hst44.ch
   replace h_r7_Below := h_r7_Below.ch hst44.ch
   replace hB := hB.trans hst44.fr
   refine GoR.call (op_call body24 rfl (walk_green_Heights hO.lt h_r39 H)) rfl rfl ?_
   rintro v49 w46 ⟨r45, p_r45, c_r45, rfl, hs47, h_r45, H⟩
   have hst50 := Stp.same hO hs47
   replace hE25 := hE25.ch hst50.ch
   replace hO := hst50.own
   replace h_r1 := h_r1.ch hst50.ch
   replace h_r7_R := h_r7_R.ch hst50.ch
   replace h_r7_L := h_r7_L.ch hst50.ch
   replace h_r7_J := h_r7_J.ch hst50.ch
   replace h_r7_H := h_r7_H.ch hst50.ch
   replace h_r7_Below := h_r7_Below.ch hst50.ch
   replace h_r39 := h_r39.ch hst50.ch
   replace hB := hB.trans hst50.fr
   have hobt := obuild (r := Rp.int .i64) (n := 2) (parts := [(0, .int .i64 (0 : Int)), (1, .int .i64 (1 : Int))]) (vs := [.int .i64 (0 : Int), .int .i64 (1 : Int)]) (xs := [(0 : Int), (1 : Int)]) rfl Try.underlying25 ti3 hO (by decide) (by kernel_rfl) (Els.cons rfl rfl (Els.cons rfl rfl (Els.nil _ _ _) (by simp [mx])) (by simp [mx])) rfl
   obtain ⟨w51, p52, hst53, hE54, hs55, hop56⟩ := hobt
   refine GoR.op (hop56 rfl) rfl rfl ?_
   replace hE25 := hE25.ch hst53.ch
   replace hO := hst53.own
   replace h_r1 := h_r1.ch hst53.ch
   replace h_r7_R := h_r7_R.ch hst53.ch
   replace h_r7_L := h_r7_L.ch hst53.ch
   replace h_r7_J := h_r7_J.ch hst53.ch
   replace h_r7_H := h_r7_H.ch hst53.ch
   replace h_r7_Below := h_r7_Below.ch hst53.ch
   replace h_r39 := h_r39.ch hst53.ch
   replace h_r45 := h_r45.ch hst53.ch
   replace hB := hB.trans hst53.fr
   have hobt := rowlend 0 hO rfl hE54
   obtain ⟨hl58, hn59⟩ := hobt
   have hOc60 := hO.drop 0
   refine GoR.call (op_call body22 (show ([.slice p_r45 r45.length c_r45, .slice p52 2 2] : List Value) = [.slice p_r45 r45.length c_r45, .slice p52 ([(0 : Int), (1 : Int)]).length 2] from by rw [← hn59]) (walk_ref03_Same hOc60.lt (h_r45.ch (Owns.dropCh _ _ 0)) hl58 H)) rfl rfl ?_
   rintro v65 w62 ⟨r61, rfl, hs63, H⟩
   have hst66 := Stp.same hO hs63
   replace hE54 := hE54.ch hst66.ch
   replace hE25 := hE25.ch hst66.ch
   replace hO := hst66.own
   replace h_r1 := h_r1.ch hst66.ch
   replace h_r7_R := h_r7_R.ch hst66.ch
   replace h_r7_L := h_r7_L.ch hst66.ch
   replace h_r7_J := h_r7_J.ch hst66.ch
   replace h_r7_H := h_r7_H.ch hst66.ch
   replace h_r7_Below := h_r7_Below.ch hst66.ch
   replace h_r39 := h_r39.ch hst66.ch
   replace h_r45 := h_r45.ch hst66.ch
   replace hB := hB.trans hst66.fr
   refine GoR.op ((op_pickT rfl rfl rfl) _) rfl rfl ?_
   refine GoR.op ((op_assign rfl) _) rfl rfl ?_
   refine GoR.nil ?_
   refine Go1.ret1 Try.func14 rfl ?_
   exact ⟨r61, rfl, hB.same, H⟩
  ·replace H := ifn h38 H
   refine GoR.op ((fun w => opB (op_eql rfl rfl w) (decide_eq_false h38)) _) rfl rfl ?_
   refine GoR.op ((op_pickT rfl rfl rfl) _) rfl rfl ?_
   refine GoR.op ((op_move rfl) _) rfl rfl ?_
   refine GoR.pass rfl rfl ?_
   refine GoR.pass rfl rfl ?_
   refine GoR.pass rfl rfl ?_
   refine GoR.pass rfl rfl ?_
   refine GoR.op ((op_pickF rfl rfl rfl) _) rfl rfl ?_
   refine GoR.op ((op_assign rfl) _) rfl rfl ?_
   refine GoR.nil ?_
   refine Go1.ret1 Try.func14 rfl ?_
   exact ⟨false, rfl, hB.same, H⟩
theorem body67 : Body Try.prog 67 := ⟨Try.f67, Try.func67, rfl, by kernel_rfl⟩
theorem walk_ref14_Associative {A : List Nat} {w0 : World} {p_t : Option Addr} {c_t : Nat} {t : List (List Int)} (hA : ∀ b ∈ A, b < w0.heap.size) (h_t : ISl (Rp.sl (Rp.int .i64)) A w0 p_t c_t t) {K : Int → Int → Int → Int → Prop} (H : ref14_Associative t K) :
    CallsV Try.prog 67 #[.slice p_t t.length c_t] w0 (fun v w' => ∃ (r0 : Int), ∃ (r1 : Int), ∃ (r2 : Int), ∃ (r3 : Int), v = .tuple #[.int .i64 r0, .int .i64 r1, .int .i64 r2, .int .i64 r3] ∧ Same w0 w' ∧ K r0 r1 r2 r3) := by
 refine CallsV.of (l := [.slice p_t t.length c_t]) Try.func67 rfl Try.ntmps67 rfl ?_
 have hO := Owns.start hA
 have hB := Fr.refl (bl []) w0
 unfold ref14_Associative at H
 replace h_t := h_t.ch (Ch.start A w0)
 refine Go1.seq ?_
 refine Go1.region ?_
 refine GoR.op ((op_assign rfl) _) rfl rfl ?_
 refine GoR.op ((op_assign rfl) _) rfl rfl ?_
 refine GoR.op ((op_assign rfl) _) rfl rfl ?_
 refine GoR.op ((op_assign rfl) _) rfl rfl ?_
 refine GoR.nil ?_
 refine Go1.seq ?_
 refine Go1.seq ?_
 refine Go1.region ?_
 refine GoR.op ((op_move rfl) _) rfl rfl ?_
 refine GoR.call (op_call body43 rfl (walk_ref14_Shape hO.lt h_t H)) rfl rfl ?_
 rintro v5 w2 ⟨r1, rfl, hs3, H⟩
 have hst6 := Stp.same hO hs3
 replace hO := hst6.own
 replace h_t := h_t.ch hst6.ch
 replace hB := hB.trans hst6.fr
 refine GoR.op ((op_assign rfl) _) rfl rfl ?_
 refine GoR.nil ?_
 refine Go1.seq ?_
 refine Go1.region ?_
 refine GoR.op ((op_move rfl) _) rfl rfl ?_
 by_cases h7 : r1 = (0 : Int)
 ·replace H := ifp h7 H
  refine GoR.op ((fun w => opB (op_neq rfl rfl w) (ndT h7)) _) rfl rfl ?_
  refine GoR.nil ?_
  refine Go1.condF rfl rfl ?_
  refine Go1.skip ?_
  refine Go1.seq ?_
  refine Go1.seq ?_
  refine Go1.region ?_
  refine GoR.op ((op_move rfl) _) rfl rfl ?_
  refine GoR.op ((op_len Try.underlying22 rfl) _) rfl rfl ?_
  replace H := H h_t.bd
  refine GoR.op ((op_move rfl) _) rfl rfl ?_
  refine GoR.nil ?_
  refine Go1.block ?_
  refine Go1.loopW (S := Nat) (fun s σ w => agrees σ [(0, .slice p_t t.length c_t), (16, .int .i64 (t.length : Int)), (17, .int .i64 (s : Int))] ∧ Owns w0.heap.size w [] A ∧ ISl (Rp.sl (Rp.int .i64)) (bl [] ++ A) w p_t c_t t ∧ Fr (bl []) w0 (bl []) w) H ⟨⟨rfl, rfl, rfl, trivial⟩, hO, h_t, hB⟩ ?_
  rintro X1 k1_9 H hX1 σ w8 ⟨hag, hO, h_t, hB⟩
  refine Go1.keep [(0, .slice p_t t.length c_t), (16, .int .i64 (t.length : Int)), (17, .int .i64 (k1_9 : Int))] hag ?_
  refine Go1.seq ?_
  refine Go1.region ?_
  by_cases h10 : (k1_9 : Int) < (t.length : Int)
  ·replace H := ifp h10 H
   refine GoR.op ((fun w => opB (op_lss rfl rfl w) (decide_eq_true h10)) _) rfl rfl ?_
   refine GoR.nil ?_
   refine Go1.seq ?_
   refine Go1.condT rfl rfl ?_
   refine Go1.skip ?_
   refine Go1.seq ?_
   refine Go1.block ?_
   refine Go1.seq ?_
   refine Go1.region ?_
   refine GoR.op ((op_move rfl) _) rfl rfl ?_
   refine GoR.op ((op_assign rfl) _) rfl rfl ?_
   refine GoR.nil ?_
   refine Go1.seq ?_
   refine Go1.region ?_
   refine GoR.op ((op_move rfl) _) rfl rfl ?_
   refine GoR.op ((op_len Try.underlying22 rfl) _) rfl rfl ?_
   refine GoR.op ((op_move rfl) _) rfl rfl ?_
   refine GoR.nil ?_
   refine Go1.block ?_
   refine Go1.loopW (S := Nat) (fun s σ w => agrees σ [(0, .slice p_t t.length c_t), (7, .int .i64 (k1_9 : Int)), (16, .int .i64 (t.length : Int)), (17, .int .i64 (k1_9 : Int)), (21, .int .i64 (t.length : Int)), (22, .int .i64 (s : Int))] ∧ Owns w0.heap.size w [] A ∧ ISl (Rp.sl (Rp.int .i64)) (bl [] ++ A) w p_t c_t t ∧ Fr (bl []) w0 (bl []) w) H ⟨⟨rfl, rfl, rfl, rfl, rfl, rfl, trivial⟩, hO, h_t, hB⟩ ?_
   rintro X2 k2_12 H hX2 σ w11 ⟨hag, hO, h_t, hB⟩
   refine Go1.keep [(0, .slice p_t t.length c_t), (7, .int .i64 (k1_9 : Int)), (16, .int .i64 (t.length : Int)), (17, .int .i64 (k1_9 : Int)), (21, .int .i64 (t.length : Int)), (22, .int .i64 (k2_12 : Int))] hag ?_
   refine Go1.seq ?_
   refine Go1.region ?_
   by_cases h13 : (k2_12 : Int) < (t.length : Int)
   ·replace H := ifp h13 H
    refine GoR.op ((fun w => opB (op_lss rfl rfl w) (decide_eq_true h13)) _) rfl rfl ?_
    refine GoR.nil ?_
    refine Go1.seq ?_
    refine Go1.condT rfl rfl ?_
    refine Go1.skip ?_
    refine Go1.seq ?_
    refine Go1.block ?_
    refine Go1.seq ?_
    refine Go1.region ?_
    refine GoR.op ((op_move rfl) _) rfl rfl ?_
    refine GoR.op ((op_assign rfl) _) rfl rfl ?_
    refine GoR.nil ?_
    refine Go1.seq ?_
    refine Go1.region ?_
    refine GoR.op ((op_move rfl) _) rfl rfl ?_
    refine GoR.op ((op_len Try.underlying22 rfl) _) rfl rfl ?_
    refine GoR.op ((op_move rfl) _) rfl rfl ?_
    refine GoR.nil ?_
    refine Go1.block ?_
    refine Go1.loopW (S := Nat) (fun s σ w => agrees σ [(0, .slice p_t t.length c_t), (7, .int .i64 (k1_9 : Int)), (8, .int .i64 (k2_12 : Int)), (16, .int .i64 (t.length : Int)), (17, .int .i64 (k1_9 : Int)), (21, .int .i64 (t.length : Int)), (22, .int .i64 (k2_12 : Int)), (26, .int .i64 (t.length : Int)), (27, .int .i64 (s : Int))] ∧ Owns w0.heap.size w [] A ∧ ISl (Rp.sl (Rp.int .i64)) (bl [] ++ A) w p_t c_t t ∧ Fr (bl []) w0 (bl []) w) H ⟨⟨rfl, rfl, rfl, rfl, rfl, rfl, rfl, rfl, rfl, trivial⟩, hO, h_t, hB⟩ ?_
    rintro X3 k3_15 H hX3 σ w14 ⟨hag, hO, h_t, hB⟩
    refine Go1.keep [(0, .slice p_t t.length c_t), (7, .int .i64 (k1_9 : Int)), (8, .int .i64 (k2_12 : Int)), (16, .int .i64 (t.length : Int)), (17, .int .i64 (k1_9 : Int)), (21, .int .i64 (t.length : Int)), (22, .int .i64 (k2_12 : Int)), (26, .int .i64 (t.length : Int)), (27, .int .i64 (k3_15 : Int))] hag ?_
    refine Go1.seq ?_
    refine Go1.region ?_
    by_cases h16 : (k3_15 : Int) < (t.length : Int)
    ·replace H := ifp h16 H
     refine GoR.op ((fun w => opB (op_lss rfl rfl w) (decide_eq_true h16)) _) rfl rfl ?_
     refine GoR.nil ?_
     refine Go1.seq ?_
     refine Go1.condT rfl rfl ?_
     refine Go1.skip ?_
     refine Go1.seq ?_
     refine Go1.block ?_
     refine Go1.seq ?_
     refine Go1.region ?_
     refine GoR.op ((op_move rfl) _) rfl rfl ?_
     refine GoR.op ((op_assign rfl) _) rfl rfl ?_
     refine GoR.nil ?_
     refine Go1.seq ?_
     refine Go1.drawS 0 [(0, .pure), (1, .pure), (2, .pure), (3, .pure), (4, .stable), (5, .pure), (6, .pure), (7, .stable), (8, .pure), (9, .stable), (10, .pure), (11, .pure), (12, .stable), (13, .pure), (14, .pure), (15, .pure), (16, .stable), (17, .pure), (18, .pure), (19, .pure), (20, .stable), (21, .pure), (22, .pure), (23, .stable), (24, .pure), (25, .stable), (26, .pure)] mixed (by kernel_rfl) ?_
     intro w17 hs18
     have hst19 := Stp.same hO hs18
     replace hO := hst19.own
     replace h_t := h_t.ch hst19.ch
     replace hB := hB.trans hst19.fr
     refine GoQ.pure rfl (op_move rfl) rfl rfl ?_
     refine GoQ.pure rfl (op_move rfl) rfl rfl ?_
     refine GoQ.pure rfl (op_move rfl) rfl rfl ?_
     obtain ⟨h20, H⟩ := H
     obtain ⟨h21, H⟩ := H
     refine GoQ.pure rfl (op_index Try.underlying22 ti25 rfl rfl h20 h21 (h_t.some_ h20 h21)) rfl rfl ?_
     have hobt := ldSl h_t h20 h21
     obtain ⟨p22, c23, hi24, hl25⟩ := hobt
     refine GoQ.stable rfl (hl25 Try.underlying25 rfl rfl) rfl rfl ?_
     refine GoQ.pure rfl (op_move rfl) rfl rfl ?_
     obtain ⟨h26, H⟩ := H
     obtain ⟨h27, H⟩ := H
     refine GoQ.pure rfl (op_index Try.underlying25 ti3 rfl rfl h26 h27 (hi24.some_ h26 h27)) rfl rfl ?_
     refine GoQ.stable rfl (ldInt hi24 h26 h27 Try.underlying3 rfl rfl) rfl rfl ?_
     obtain ⟨h28, H⟩ := H
     obtain ⟨h29, H⟩ := H
     refine GoQ.pure rfl (op_index Try.underlying22 ti25 rfl rfl h28 h29 (h_t.some_ h28 h29)) rfl rfl ?_
     have hobt := ldSl h_t h28 h29
     obtain ⟨p30, c31, hi32, hl33⟩ := hobt
     refine GoQ.stable rfl (hl33 Try.underlying25 rfl rfl) rfl rfl ?_
     refine GoQ.pure rfl (op_move rfl) rfl rfl ?_
     obtain ⟨h34, H⟩ := H
     obtain ⟨h35, H⟩ := H
     refine GoQ.pure rfl (op_index Try.underlying25 ti3 rfl rfl h34 h35 (hi32.some_ h34 h35)) rfl rfl ?_
     refine GoQ.stable rfl (ldInt hi32 h34 h35 Try.underlying3 rfl rfl) rfl rfl ?_
     refine GoQ.pure rfl (op_move rfl) rfl rfl ?_
     refine GoQ.pure rfl (op_move rfl) rfl rfl ?_
     obtain ⟨h36, H⟩ := H
     obtain ⟨h37, H⟩ := H
     refine GoQ.pure rfl (op_index Try.underlying22 ti25 rfl rfl h36 h37 (h_t.some_ h36 h37)) rfl rfl ?_
     have hobt := ldSl h_t h36 h37
     obtain ⟨p38, c39, hi40, hl41⟩ := hobt
     refine GoQ.stable rfl (hl41 Try.underlying25 rfl rfl) rfl rfl ?_
     refine GoQ.pure rfl (op_move rfl) rfl rfl ?_
     refine GoQ.pure rfl (op_move rfl) rfl rfl ?_
     obtain ⟨h42, H⟩ := H
     obtain ⟨h43, H⟩ := H
     refine GoQ.pure rfl (op_index Try.underlying22 ti25 rfl rfl h42 h43 (h_t.some_ h42 h43)) rfl rfl ?_
     have hobt := ldSl h_t h42 h43
     obtain ⟨p44, c45, hi46, hl47⟩ := hobt
     refine GoQ.stable rfl (hl47 Try.underlying25 rfl rfl) rfl rfl ?_
     refine GoQ.pure rfl (op_move rfl) rfl rfl ?_
     obtain ⟨h48, H⟩ := H
     obtain ⟨h49, H⟩ := H
     refine GoQ.pure rfl (op_index Try.underlying25 ti3 rfl rfl h48 h49 (hi46.some_ h48 h49)) rfl rfl ?_
     refine GoQ.stable rfl (ldInt hi46 h48 h49 Try.underlying3 rfl rfl) rfl rfl ?_
     obtain ⟨h50, H⟩ := H
     obtain ⟨h51, H⟩ := H
     refine GoQ.pure rfl (op_index Try.underlying25 ti3 rfl rfl h50 h51 (hi40.some_ h50 h51)) rfl rfl ?_
     refine GoQ.stable rfl (ldInt hi40 h50 h51 Try.underlying3 rfl rfl) rfl rfl ?_
     by_cases h52 : (ix (ix t (ix (ix t (k1_9 : Int)) (k2_12 : Int))) (k3_15 : Int)) = (ix (ix t (k1_9 : Int)) (ix (ix t (k2_12 : Int)) (k3_15 : Int)))
     ·replace H := ifp h52 H
      refine GoQ.pure rfl (fun w => opB (op_neq rfl rfl w) (ndT h52)) rfl rfl ?_
      refine GoQ.nil ?_
      refine Go1.condF rfl rfl ?_
      refine Go1.skip ?_
      refine Go1.inBlock ?_
      refine Go1.region ?_
      refine GoR.op ((op_add rfl rfl (wrap_i64 (natbd h16 h_t.bd))) _) rfl rfl ?_
      refine GoR.op ((op_move rfl) _) rfl rfl ?_
      refine GoR.nil ?_
      exact hX3 _ H _ _ ⟨⟨rfl, rfl, rfl, rfl, rfl, rfl, rfl, rfl, rfl, trivial⟩, hO, h_t, hB⟩
     ·replace H := ifn h52 H
      refine GoQ.pure rfl (fun w => opB (op_neq rfl rfl w) (ndF h52)) rfl rfl ?_
      refine GoQ.nil ?_
      refine Go1.condT rfl rfl ?_
      refine Go1.seq ?_
      refine Go1.region ?_
      refine GoR.op ((op_move rfl) _) rfl rfl ?_
      refine GoR.op ((op_move rfl) _) rfl rfl ?_
      refine GoR.op ((op_move rfl) _) rfl rfl ?_
      refine GoR.op ((op_assign rfl) _) rfl rfl ?_
      refine GoR.op ((op_assign rfl) _) rfl rfl ?_
      refine GoR.op ((op_assign rfl) _) rfl rfl ?_
      refine GoR.op ((op_assign rfl) _) rfl rfl ?_
      refine GoR.nil ?_
      refine Go1.ret4 Try.func67 rfl ?_
      exact ⟨(k1_9 : Int), (k2_12 : Int), (k3_15 : Int), (5 : Int), rfl, hB.same, H⟩
    ·replace H := ifn h16 H
     refine GoR.op ((fun w => opB (op_lss rfl rfl w) (decide_eq_false h16)) _) rfl rfl ?_
     refine GoR.nil ?_
     refine Go1.seq ?_
     refine Go1.condF rfl rfl ?_
     refine Go1.exit rfl ?_
     refine Go1.inBlock ?_
     refine Go1.region ?_
     refine GoR.op ((op_add rfl rfl (wrap_i64 (natbd h13 h_t.bd))) _) rfl rfl ?_
     refine GoR.op ((op_move rfl) _) rfl rfl ?_
     refine GoR.nil ?_
     exact hX2 _ H _ _ ⟨⟨rfl, rfl, rfl, rfl, rfl, rfl, trivial⟩, hO, h_t, hB⟩
   ·replace H := ifn h13 H
    refine GoR.op ((fun w => opB (op_lss rfl rfl w) (decide_eq_false h13)) _) rfl rfl ?_
    refine GoR.nil ?_
    refine Go1.seq ?_
    refine Go1.condF rfl rfl ?_
    refine Go1.exit rfl ?_
    refine Go1.inBlock ?_
    refine Go1.region ?_
    refine GoR.op ((op_add rfl rfl (wrap_i64 (natbd h10 h_t.bd))) _) rfl rfl ?_
    refine GoR.op ((op_move rfl) _) rfl rfl ?_
    refine GoR.nil ?_
    exact hX1 _ H _ _ ⟨⟨rfl, rfl, rfl, trivial⟩, hO, h_t, hB⟩
  ·replace H := ifn h10 H
   refine GoR.op ((fun w => opB (op_lss rfl rfl w) (decide_eq_false h10)) _) rfl rfl ?_
   refine GoR.nil ?_
   refine Go1.seq ?_
   refine Go1.condF rfl rfl ?_
   refine Go1.exit rfl ?_
   refine Go1.seq ?_
   refine Go1.region ?_
   refine GoR.op ((op_assign rfl) _) rfl rfl ?_
   refine GoR.op ((op_assign rfl) _) rfl rfl ?_
   refine GoR.op ((op_assign rfl) _) rfl rfl ?_
   refine GoR.op ((op_assign rfl) _) rfl rfl ?_
   refine GoR.nil ?_
   refine Go1.ret4 Try.func67 rfl ?_
   exact ⟨(0 : Int), (0 : Int), (0 : Int), (0 : Int), rfl, hB.same, H⟩
 ·replace H := ifn h7 H
  refine GoR.op ((fun w => opB (op_neq rfl rfl w) (ndF h7)) _) rfl rfl ?_
  refine GoR.nil ?_
  refine Go1.condT rfl rfl ?_
  refine Go1.seq ?_
  refine Go1.region ?_
  refine GoR.op ((op_move rfl) _) rfl rfl ?_
  refine GoR.op ((op_assign rfl) _) rfl rfl ?_
  refine GoR.op ((op_assign rfl) _) rfl rfl ?_
  refine GoR.op ((op_assign rfl) _) rfl rfl ?_
  refine GoR.op ((op_assign rfl) _) rfl rfl ?_
  refine GoR.nil ?_
  refine Go1.ret4 Try.func67 rfl ?_
  exact ⟨(0 : Int), (0 : Int), (0 : Int), r1, rfl, hB.same, H⟩
theorem body39 : Body Try.prog 39 := ⟨Try.f39, Try.func39, rfl, by kernel_rfl⟩
theorem walk_ref14_Validate {A : List Nat} {w0 : World} {p_t : Option Addr} {c_t : Nat} {t : List (List Int)} (hA : ∀ b ∈ A, b < w0.heap.size) (h_t : ISl (Rp.sl (Rp.int .i64)) A w0 p_t c_t t) {K : Int → Prop} (H : ref14_Validate t K) :
    CallsV Try.prog 39 #[.slice p_t t.length c_t] w0 (fun v w' => ∃ (r0 : Int), v = .int .i64 r0 ∧ Same w0 w' ∧ K r0) := by
 refine CallsV.of (l := [.slice p_t t.length c_t]) Try.func39 rfl Try.ntmps39 rfl ?_
 have hO := Owns.start hA
 have hB := Fr.refl (bl []) w0
 unfold ref14_Validate at H
 replace h_t := h_t.ch (Ch.start A w0)
 refine Go1.seq ?_
 refine Go1.region ?_
 refine GoR.op ((op_assign rfl) _) rfl rfl ?_
 refine GoR.nil ?_
 refine Go1.seq ?_
 refine Go1.region ?_
 refine GoR.op ((op_move rfl) _) rfl rfl ?_
 refine GoR.call (op_call body67 rfl (walk_ref14_Associative hO.lt h_t H)) rfl rfl ?_
 rintro v8 w5 ⟨r1, r2, r3, r4, rfl, hs6, H⟩
 have hst9 := Stp.same hO hs6
 replace hO := hst9.own
 replace h_t := h_t.ch hst9.ch
 replace hB := hB.trans hst9.fr
 refine GoR.op ((op_move rfl) _) rfl rfl ?_
 refine GoR.op ((op_extract rfl rfl) _) rfl rfl ?_
 refine GoR.op ((op_extract rfl rfl) _) rfl rfl ?_
 refine GoR.op ((op_extract rfl rfl) _) rfl rfl ?_
 refine GoR.op ((op_extract rfl rfl) _) rfl rfl ?_
 refine GoR.op ((op_assign rfl) _) rfl rfl ?_
 refine GoR.op ((op_assign rfl) _) rfl rfl ?_
 refine GoR.op ((op_assign rfl) _) rfl rfl ?_
 refine GoR.op ((op_assign rfl) _) rfl rfl ?_
 refine GoR.nil ?_
 refine Go1.seq ?_
 refine Go1.region ?_
 refine GoR.op ((op_move rfl) _) rfl rfl ?_
 refine GoR.op ((op_assign rfl) _) rfl rfl ?_
 refine GoR.nil ?_
 refine Go1.ret1 Try.func39 rfl ?_
 exact ⟨r4, rfl, hB.same, H⟩
theorem body16 : Body Try.prog 16 := ⟨Try.f16, Try.func16, rfl, by kernel_rfl⟩
theorem walk_ref14_Valid {A : List Nat} {w0 : World} {p_t : Option Addr} {c_t : Nat} {t : List (List Int)} (hA : ∀ b ∈ A, b < w0.heap.size) (h_t : ISl (Rp.sl (Rp.int .i64)) A w0 p_t c_t t) {K : Bool → Prop} (H : ref14_Valid t K) :
    CallsV Try.prog 16 #[.slice p_t t.length c_t] w0 (fun v w' => ∃ (r0 : Bool), v = .bool r0 ∧ Same w0 w' ∧ K r0) := by
 refine CallsV.of (l := [.slice p_t t.length c_t]) Try.func16 rfl Try.ntmps16 rfl ?_
 have hO := Owns.start hA
 have hB := Fr.refl (bl []) w0
 unfold ref14_Valid at H
 replace h_t := h_t.ch (Ch.start A w0)
 refine Go1.seq ?_
 refine Go1.region ?_
 refine GoR.op ((op_assign rfl) _) rfl rfl ?_
 refine GoR.nil ?_
 refine Go1.seq ?_
 refine Go1.region ?_
 refine GoR.op ((op_move rfl) _) rfl rfl ?_
 refine GoR.call (op_call body39 rfl (walk_ref14_Validate hO.lt h_t H)) rfl rfl ?_
 rintro v5 w2 ⟨r1, rfl, hs3, H⟩
 have hst6 := Stp.same hO hs3
 replace hO := hst6.own
 replace h_t := h_t.ch hst6.ch
 replace hB := hB.trans hst6.fr
 by_cases h7 : r1 = (0 : Int)
 ·replace H := ifp h7 H
  refine GoR.op ((fun w => opB (op_eql rfl rfl w) (decide_eq_true h7)) _) rfl rfl ?_
  refine GoR.op ((op_assign rfl) _) rfl rfl ?_
  refine GoR.nil ?_
  refine Go1.ret1 Try.func16 rfl ?_
  exact ⟨true, rfl, hB.same, H⟩
 ·replace H := ifn h7 H
  refine GoR.op ((fun w => opB (op_eql rfl rfl w) (decide_eq_false h7)) _) rfl rfl ?_
  refine GoR.op ((op_assign rfl) _) rfl rfl ?_
  refine GoR.nil ?_
  refine Go1.ret1 Try.func16 rfl ?_
  exact ⟨false, rfl, hB.same, H⟩
theorem body17 : Body Try.prog 17 := ⟨Try.f17, Try.func17, rfl, by kernel_rfl⟩
theorem walk_ref15_Same {A : List Nat} {w0 : World} {p_a0_R : Option Addr} {c_a0_R : Nat} {p_a0_L : Option Addr} {c_a0_L : Nat} {p_a0_J : Option Addr} {c_a0_J : Nat} {p_a0_H : Option Addr} {c_a0_H : Nat} {p_a0_Below : Option Addr} {c_a0_Below : Nat} {p_a1_R : Option Addr} {c_a1_R : Nat} {p_a1_L : Option Addr} {c_a1_L : Nat} {p_a1_J : Option Addr} {c_a1_J : Nat} {p_a1_H : Option Addr} {c_a1_H : Nat} {p_a1_Below : Option Addr} {c_a1_Below : Nat} {a0 : Green} {a1 : Green} (hA : ∀ b ∈ A, b < w0.heap.size) (h_a0_R : ISl (Rp.int .i64) A w0 p_a0_R c_a0_R a0.R) (h_a0_L : ISl (Rp.int .i64) A w0 p_a0_L c_a0_L a0.L) (h_a0_J : ISl (Rp.int .i64) A w0 p_a0_J c_a0_J a0.J) (h_a0_H : ISl (Rp.int .i64) A w0 p_a0_H c_a0_H a0.H) (h_a0_Below : ISl (Rp.sl (Rp.bool)) A w0 p_a0_Below c_a0_Below a0.Below) (h_a1_R : ISl (Rp.int .i64) A w0 p_a1_R c_a1_R a1.R) (h_a1_L : ISl (Rp.int .i64) A w0 p_a1_L c_a1_L a1.L) (h_a1_J : ISl (Rp.int .i64) A w0 p_a1_J c_a1_J a1.J) (h_a1_H : ISl (Rp.int .i64) A w0 p_a1_H c_a1_H a1.H) (h_a1_Below : ISl (Rp.sl (Rp.bool)) A w0 p_a1_Below c_a1_Below a1.Below) {K : Bool → Prop} (H : ref15_Same a0 a1 K) :
    CallsV Try.prog 17 #[.agg #[.slice p_a0_R a0.R.length c_a0_R, .slice p_a0_L a0.L.length c_a0_L, .slice p_a0_J a0.J.length c_a0_J, .slice p_a0_H a0.H.length c_a0_H, .slice p_a0_Below a0.Below.length c_a0_Below], .agg #[.slice p_a1_R a1.R.length c_a1_R, .slice p_a1_L a1.L.length c_a1_L, .slice p_a1_J a1.J.length c_a1_J, .slice p_a1_H a1.H.length c_a1_H, .slice p_a1_Below a1.Below.length c_a1_Below]] w0 (fun v w' => ∃ (r0 : Bool), v = .bool r0 ∧ Same w0 w' ∧ K r0) := by
 refine CallsV.of (l := [.agg #[.slice p_a0_R a0.R.length c_a0_R, .slice p_a0_L a0.L.length c_a0_L, .slice p_a0_J a0.J.length c_a0_J, .slice p_a0_H a0.H.length c_a0_H, .slice p_a0_Below a0.Below.length c_a0_Below], .agg #[.slice p_a1_R a1.R.length c_a1_R, .slice p_a1_L a1.L.length c_a1_L, .slice p_a1_J a1.J.length c_a1_J, .slice p_a1_H a1.H.length c_a1_H, .slice p_a1_Below a1.Below.length c_a1_Below]]) Try.func17 rfl Try.ntmps17 rfl ?_
 have hO := Owns.start hA
 have hB := Fr.refl (bl []) w0
 unfold ref15_Same at H
 replace h_a0_R := h_a0_R.ch (Ch.start A w0)
 replace h_a0_L := h_a0_L.ch (Ch.start A w0)
 replace h_a0_J := h_a0_J.ch (Ch.start A w0)
 replace h_a0_H := h_a0_H.ch (Ch.start A w0)
 replace h_a0_Below := h_a0_Below.ch (Ch.start A w0)
 replace h_a1_R := h_a1_R.ch (Ch.start A w0)
 replace h_a1_L := h_a1_L.ch (Ch.start A w0)
 replace h_a1_J := h_a1_J.ch (Ch.start A w0)
 replace h_a1_H := h_a1_H.ch (Ch.start A w0)
 replace h_a1_Below := h_a1_Below.ch (Ch.start A w0)
 refine Go1.seq ?_
 refine Go1.region ?_
 have hobt := obox (t := 28) (v := .agg #[.slice p_a0_R a0.R.length c_a0_R, .slice p_a0_L a0.L.length c_a0_L, .slice p_a0_J a0.J.length c_a0_J, .slice p_a0_H a0.H.length c_a0_H, .slice p_a0_Below a0.Below.length c_a0_Below]) (cs := #[.slice p_a0_R a0.R.length c_a0_R, .slice p_a0_L a0.L.length c_a0_L, .slice p_a0_J a0.J.length c_a0_J, .slice p_a0_H a0.H.length c_a0_H, .slice p_a0_Below a0.Below.length c_a0_Below]) hO rfl
 obtain ⟨w1, B2, hst3, hs4, hop5⟩ := hobt
 refine GoR.op (hop5 rfl) rfl rfl ?_
 replace hO := hst3.own
 replace h_a0_R := h_a0_R.ch hst3.ch
 replace h_a0_L := h_a0_L.ch hst3.ch
 replace h_a0_J := h_a0_J.ch hst3.ch
 replace h_a0_H := h_a0_H.ch hst3.ch
 replace h_a0_Below := h_a0_Below.ch hst3.ch
 replace h_a1_R := h_a1_R.ch hst3.ch
 replace h_a1_L := h_a1_L.ch hst3.ch
 replace h_a1_J := h_a1_J.ch hst3.ch
 replace h_a1_H := h_a1_H.ch hst3.ch
 replace h_a1_Below := h_a1_Below.ch hst3.ch
 replace hB := hB.trans hst3.fr
 have hobt := obox (t := 28) (v := .agg #[.slice p_a1_R a1.R.length c_a1_R, .slice p_a1_L a1.L.length c_a1_L, .slice p_a1_J a1.J.length c_a1_J, .slice p_a1_H a1.H.length c_a1_H, .slice p_a1_Below a1.Below.length c_a1_Below]) (cs := #[.slice p_a1_R a1.R.length c_a1_R, .slice p_a1_L a1.L.length c_a1_L, .slice p_a1_J a1.J.length c_a1_J, .slice p_a1_H a1.H.length c_a1_H, .slice p_a1_Below a1.Below.length c_a1_Below]) hO rfl
 obtain ⟨w7, B8, hst9, hs10, hop11⟩ := hobt
 refine GoR.op (hop11 rfl) rfl rfl ?_
 replace hO := hst9.own
 replace h_a0_R := h_a0_R.ch hst9.ch
 replace h_a0_L := h_a0_L.ch hst9.ch
 replace h_a0_J := h_a0_J.ch hst9.ch
 replace h_a0_H := h_a0_H.ch hst9.ch
 replace h_a0_Below := h_a0_Below.ch hst9.ch
 replace h_a1_R := h_a1_R.ch hst9.ch
 replace h_a1_L := h_a1_L.ch hst9.ch
 replace h_a1_J := h_a1_J.ch hst9.ch
 replace h_a1_H := h_a1_H.ch hst9.ch
 replace h_a1_Below := h_a1_Below.ch hst9.ch
 replace hB := hB.trans hst9.fr
 refine GoR.op ((op_assign rfl) _) rfl rfl ?_
 refine GoR.nil ?_
 refine Go1.seq ?_
 refine Go1.seq ?_
 refine Go1.region ?_
 refine GoR.op ((op_fieldAddr Try.underlying28 rfl ti25 rfl (by decide)) _) rfl rfl ?_
 refine GoR.op ((oblk 1 hO rfl rfl Try.underlying25 rfl rfl) _ (Same.refl _)) rfl rfl ?_
 refine GoR.op ((op_fieldAddr Try.underlying28 rfl ti25 rfl (by decide)) _) rfl rfl ?_
 refine GoR.op ((oblk 0 hO rfl rfl Try.underlying25 rfl rfl) _ (Same.refl _)) rfl rfl ?_
 refine GoR.call (op_call body22 rfl (walk_ref03_Same hO.lt h_a0_R h_a1_R H)) rfl rfl ?_
 rintro v17 w14 ⟨r13, rfl, hs15, H⟩
 have hst18 := Stp.same hO hs15
 replace hO := hst18.own
 replace h_a0_R := h_a0_R.ch hst18.ch
 replace h_a0_L := h_a0_L.ch hst18.ch
 replace h_a0_J := h_a0_J.ch hst18.ch
 replace h_a0_H := h_a0_H.ch hst18.ch
 replace h_a0_Below := h_a0_Below.ch hst18.ch
 replace h_a1_R := h_a1_R.ch hst18.ch
 replace h_a1_L := h_a1_L.ch hst18.ch
 replace h_a1_J := h_a1_J.ch hst18.ch
 replace h_a1_H := h_a1_H.ch hst18.ch
 replace h_a1_Below := h_a1_Below.ch hst18.ch
 replace hB := hB.trans hst18.fr
 cases r13
 ·replace H := ifn Bool.false_ne_true H
  refine GoR.op ((op_not rfl) _) rfl rfl ?_
  refine GoR.op ((op_move rfl) _) rfl rfl ?_
  refine GoR.pass rfl rfl ?_
  refine GoR.pass rfl rfl ?_
  refine GoR.pass rfl rfl ?_
  refine GoR.pass rfl rfl ?_
  refine GoR.pass rfl rfl ?_
  refine GoR.pass rfl rfl ?_
  refine GoR.op ((op_pickT rfl rfl rfl) _) rfl rfl ?_
  refine GoR.op ((op_move rfl) _) rfl rfl ?_
  refine GoR.pass rfl rfl ?_
  refine GoR.pass rfl rfl ?_
  refine GoR.pass rfl rfl ?_
  refine GoR.pass rfl rfl ?_
  refine GoR.pass rfl rfl ?_
  refine GoR.pass rfl rfl ?_
  refine GoR.op ((op_pickT rfl rfl rfl) _) rfl rfl ?_
  refine GoR.op ((op_move rfl) _) rfl rfl ?_
  refine GoR.pass rfl rfl ?_
  refine GoR.pass rfl rfl ?_
  refine GoR.pass rfl rfl ?_
  refine GoR.pass rfl rfl ?_
  refine GoR.pass rfl rfl ?_
  refine GoR.pass rfl rfl ?_
  refine GoR.op ((op_pickT rfl rfl rfl) _) rfl rfl ?_
  refine GoR.op ((op_move rfl) _) rfl rfl ?_
  refine GoR.pass rfl rfl ?_
  refine GoR.pass rfl rfl ?_
  refine GoR.pass rfl rfl ?_
  refine GoR.pass rfl rfl ?_
  refine GoR.pass rfl rfl ?_
  refine GoR.pass rfl rfl ?_
  refine GoR.pass rfl rfl ?_
  refine GoR.op ((op_pickT rfl rfl rfl) _) rfl rfl ?_
  refine GoR.nil ?_
  refine Go1.condT rfl rfl ?_
  refine Go1.seq ?_
  refine Go1.region ?_
  refine GoR.op ((op_assign rfl) _) rfl rfl ?_
  refine GoR.nil ?_
  refine Go1.ret1 Try.func17 rfl ?_
  exact ⟨false, rfl, hB.same, H⟩
 ·replace H := ifp rfl H
  refine GoR.op ((op_not rfl) _) rfl rfl ?_
  refine GoR.op ((op_move rfl) _) rfl rfl ?_
  refine GoR.op ((op_fieldAddr Try.underlying28 rfl ti25 rfl (by decide)) _) rfl rfl ?_
  refine GoR.op ((oblk 1 hO rfl rfl Try.underlying25 rfl rfl) _ (Same.refl _)) rfl rfl ?_
  refine GoR.op ((op_fieldAddr Try.underlying28 rfl ti25 rfl (by decide)) _) rfl rfl ?_
  refine GoR.op ((oblk 0 hO rfl rfl Try.underlying25 rfl rfl) _ (Same.refl _)) rfl rfl ?_
  refine GoR.call (op_call body22 rfl (walk_ref03_Same hO.lt h_a0_L h_a1_L H)) rfl rfl ?_
  rintro v23 w20 ⟨r19, rfl, hs21, H⟩
  have hst24 := Stp.same hO hs21
  replace hO := hst24.own
  replace h_a0_R := h_a0_R.ch hst24.ch
  replace h_a0_L := h_a0_L.ch hst24.ch
  replace h_a0_J := h_a0_J.ch hst24.ch
  replace h_a0_H := h_a0_H.ch hst24.ch
  replace h_a0_Below := h_a0_Below.ch hst24.ch
  replace h_a1_R := h_a1_R.ch hst24.ch
  replace h_a1_L := h_a1_L.ch hst24.ch
  replace h_a1_J := h_a1_J.ch hst24.ch
  replace h_a1_H := h_a1_H.ch hst24.ch
  replace h_a1_Below := h_a1_Below.ch hst24.ch
  replace hB := hB.trans hst24.fr
  cases r19
  ·replace H := ifn Bool.false_ne_true H
   refine GoR.op ((op_not rfl) _) rfl rfl ?_
   refine GoR.op ((op_pickF rfl rfl rfl) _) rfl rfl ?_
   refine GoR.op ((op_move rfl) _) rfl rfl ?_
   refine GoR.pass rfl rfl ?_
   refine GoR.pass rfl rfl ?_
   refine GoR.pass rfl rfl ?_
   refine GoR.pass rfl rfl ?_
   refine GoR.pass rfl rfl ?_
   refine GoR.pass rfl rfl ?_
   refine GoR.op ((op_pickT rfl rfl rfl) _) rfl rfl ?_
   refine GoR.op ((op_move rfl) _) rfl rfl ?_
   refine GoR.pass rfl rfl ?_
   refine GoR.pass rfl rfl ?_
   refine GoR.pass rfl rfl ?_
   refine GoR.pass rfl rfl ?_
   refine GoR.pass rfl rfl ?_
   refine GoR.pass rfl rfl ?_
   refine GoR.op ((op_pickT rfl rfl rfl) _) rfl rfl ?_
   refine GoR.op ((op_move rfl) _) rfl rfl ?_
   refine GoR.pass rfl rfl ?_
   refine GoR.pass rfl rfl ?_
   refine GoR.pass rfl rfl ?_
   refine GoR.pass rfl rfl ?_
   refine GoR.pass rfl rfl ?_
   refine GoR.pass rfl rfl ?_
   refine GoR.pass rfl rfl ?_
   refine GoR.op ((op_pickT rfl rfl rfl) _) rfl rfl ?_
   refine GoR.nil ?_
   refine Go1.condT rfl rfl ?_
   refine Go1.seq ?_
   refine Go1.region ?_
   refine GoR.op ((op_assign rfl) _) rfl rfl ?_
   refine GoR.nil ?_
   refine Go1.ret1 Try.func17 rfl ?_
   exact ⟨false, rfl, hB.same, H⟩
  ·replace H := ifp rfl H
   refine GoR.op ((op_not rfl) _) rfl rfl ?_
   refine GoR.op ((op_pickF rfl rfl rfl) _) rfl rfl ?_
   refine GoR.op ((op_move rfl) _) rfl rfl ?_
   refine GoR.op ((op_fieldAddr Try.underlying28 rfl ti25 rfl (by decide)) _) rfl rfl ?_
   refine GoR.op ((oblk 1 hO rfl rfl Try.underlying25 rfl rfl) _ (Same.refl _)) rfl rfl ?_
   refine GoR.op ((op_fieldAddr Try.underlying28 rfl ti25 rfl (by decide)) _) rfl rfl ?_
   refine GoR.op ((oblk 0 hO rfl rfl Try.underlying25 rfl rfl) _ (Same.refl _)) rfl rfl ?_
   refine GoR.call (op_call body22 rfl (walk_ref03_Same hO.lt h_a0_J h_a1_J H)) rfl rfl ?_
   rintro v29 w26 ⟨r25, rfl, hs27, H⟩
   have hst30 := Stp.same hO hs27
   replace hO := hst30.own
   replace h_a0_R := h_a0_R.ch hst30.ch
   replace h_a0_L := h_a0_L.ch hst30.ch
   replace h_a0_J := h_a0_J.ch hst30.ch
   replace h_a0_H := h_a0_H.ch hst30.ch
   replace h_a0_Below := h_a0_Below.ch hst30.ch
   replace h_a1_R := h_a1_R.ch hst30.ch
   replace h_a1_L := h_a1_L.ch hst30.ch
   replace h_a1_J := h_a1_J.ch hst30.ch
   replace h_a1_H := h_a1_H.ch hst30.ch
   replace h_a1_Below := h_a1_Below.ch hst30.ch
   replace hB := hB.trans hst30.fr
   cases r25
   ·replace H := ifn Bool.false_ne_true H
    refine GoR.op ((op_not rfl) _) rfl rfl ?_
    refine GoR.op ((op_pickF rfl rfl rfl) _) rfl rfl ?_
    refine GoR.op ((op_move rfl) _) rfl rfl ?_
    refine GoR.pass rfl rfl ?_
    refine GoR.pass rfl rfl ?_
    refine GoR.pass rfl rfl ?_
    refine GoR.pass rfl rfl ?_
    refine GoR.pass rfl rfl ?_
    refine GoR.pass rfl rfl ?_
    refine GoR.op ((op_pickT rfl rfl rfl) _) rfl rfl ?_
    refine GoR.op ((op_move rfl) _) rfl rfl ?_
    refine GoR.pass rfl rfl ?_
    refine GoR.pass rfl rfl ?_
    refine GoR.pass rfl rfl ?_
    refine GoR.pass rfl rfl ?_
    refine GoR.pass rfl rfl ?_
    refine GoR.pass rfl rfl ?_
    refine GoR.pass rfl rfl ?_
    refine GoR.op ((op_pickT rfl rfl rfl) _) rfl rfl ?_
    refine GoR.nil ?_
    refine Go1.condT rfl rfl ?_
    refine Go1.seq ?_
    refine Go1.region ?_
    refine GoR.op ((op_assign rfl) _) rfl rfl ?_
    refine GoR.nil ?_
    refine Go1.ret1 Try.func17 rfl ?_
    exact ⟨false, rfl, hB.same, H⟩
   ·replace H := ifp rfl H
    refine GoR.op ((op_not rfl) _) rfl rfl ?_
    refine GoR.op ((op_pickF rfl rfl rfl) _) rfl rfl ?_
    refine GoR.op ((op_move rfl) _) rfl rfl ?_
    refine GoR.op ((op_fieldAddr Try.underlying28 rfl ti25 rfl (by decide)) _) rfl rfl ?_
    refine GoR.op ((oblk 1 hO rfl rfl Try.underlying25 rfl rfl) _ (Same.refl _)) rfl rfl ?_
    refine GoR.op ((op_fieldAddr Try.underlying28 rfl ti25 rfl (by decide)) _) rfl rfl ?_
    refine GoR.op ((oblk 0 hO rfl rfl Try.underlying25 rfl rfl) _ (Same.refl _)) rfl rfl ?_
    refine GoR.call (op_call body22 rfl (walk_ref03_Same hO.lt h_a0_H h_a1_H H)) rfl rfl ?_
    rintro v35 w32 ⟨r31, rfl, hs33, H⟩
    have hst36 := Stp.same hO hs33
    replace hO := hst36.own
    replace h_a0_R := h_a0_R.ch hst36.ch
    replace h_a0_L := h_a0_L.ch hst36.ch
    replace h_a0_J := h_a0_J.ch hst36.ch
    replace h_a0_H := h_a0_H.ch hst36.ch
    replace h_a0_Below := h_a0_Below.ch hst36.ch
    replace h_a1_R := h_a1_R.ch hst36.ch
    replace h_a1_L := h_a1_L.ch hst36.ch
    replace h_a1_J := h_a1_J.ch hst36.ch
    replace h_a1_H := h_a1_H.ch hst36.ch
    replace h_a1_Below := h_a1_Below.ch hst36.ch
    replace hB := hB.trans hst36.fr
    cases r31
    ·replace H := ifn Bool.false_ne_true H
     refine GoR.op ((op_not rfl) _) rfl rfl ?_
     refine GoR.op ((op_pickF rfl rfl rfl) _) rfl rfl ?_
     refine GoR.op ((op_move rfl) _) rfl rfl ?_
     refine GoR.pass rfl rfl ?_
     refine GoR.pass rfl rfl ?_
     refine GoR.pass rfl rfl ?_
     refine GoR.pass rfl rfl ?_
     refine GoR.pass rfl rfl ?_
     refine GoR.pass rfl rfl ?_
     refine GoR.pass rfl rfl ?_
     refine GoR.op ((op_pickT rfl rfl rfl) _) rfl rfl ?_
     refine GoR.nil ?_
     refine Go1.condT rfl rfl ?_
     refine Go1.seq ?_
     refine Go1.region ?_
     refine GoR.op ((op_assign rfl) _) rfl rfl ?_
     refine GoR.nil ?_
     refine Go1.ret1 Try.func17 rfl ?_
     exact ⟨false, rfl, hB.same, H⟩
    ·replace H := ifp rfl H
     refine GoR.op ((op_not rfl) _) rfl rfl ?_
     refine GoR.op ((op_pickF rfl rfl rfl) _) rfl rfl ?_
     refine GoR.op ((op_move rfl) _) rfl rfl ?_
     refine GoR.op ((op_fieldAddr Try.underlying28 rfl ti26 rfl (by decide)) _) rfl rfl ?_
     refine GoR.op ((oblk 1 hO rfl rfl Try.underlying26 rfl rfl) _ (Same.refl _)) rfl rfl ?_
     refine GoR.op ((op_len Try.underlying26 rfl) _) rfl rfl ?_
     replace H := H h_a0_Below.bd
     refine GoR.op ((op_fieldAddr Try.underlying28 rfl ti26 rfl (by decide)) _) rfl rfl ?_
     refine GoR.op ((oblk 0 hO rfl rfl Try.underlying26 rfl rfl) _ (Same.refl _)) rfl rfl ?_
     refine GoR.op ((op_len Try.underlying26 rfl) _) rfl rfl ?_
     replace H := H h_a1_Below.bd
     by_cases h37 : (a0.Below.length : Int) = (a1.Below.length : Int)
     ·replace H := ifp h37 H
      refine GoR.op ((fun w => opB (op_neq rfl rfl w) (ndT h37)) _) rfl rfl ?_
      refine GoR.op ((op_pickF rfl rfl rfl) _) rfl rfl ?_
      refine GoR.nil ?_
      refine Go1.condF rfl rfl ?_
      refine Go1.skip ?_
      refine Go1.seq ?_
      refine Go1.seq ?_
      refine Go1.region ?_
      refine GoR.op ((op_fieldAddr Try.underlying28 rfl ti26 rfl (by decide)) _) rfl rfl ?_
      refine GoR.op ((oblk 1 hO rfl rfl Try.underlying26 rfl rfl) _ (Same.refl _)) rfl rfl ?_
      refine GoR.op ((op_len Try.underlying26 rfl) _) rfl rfl ?_
      refine GoR.op ((op_move rfl) _) rfl rfl ?_
      refine GoR.nil ?_
      refine Go1.block ?_
      refine Go1.loopW (S := Nat) (fun s σ w => agrees σ [(2, .pointer (some ⟨B2, 0, none⟩)), (3, .pointer (some ⟨B8, 0, none⟩)), (48, .int .i64 (a0.Below.length : Int)), (49, .int .i64 (s : Int))] ∧ Owns w0.heap.size w [.blk B8 (.cells #[.slice p_a1_R a1.R.length c_a1_R, .slice p_a1_L a1.L.length c_a1_L, .slice p_a1_J a1.J.length c_a1_J, .slice p_a1_H a1.H.length c_a1_H, .slice p_a1_Below a1.Below.length c_a1_Below] 28 (0, 0)), .blk B2 (.cells #[.slice p_a0_R a0.R.length c_a0_R, .slice p_a0_L a0.L.length c_a0_L, .slice p_a0_J a0.J.length c_a0_J, .slice p_a0_H a0.H.length c_a0_H, .slice p_a0_Below a0.Below.length c_a0_Below] 28 (0, 0))] A ∧ ISl (Rp.int .i64) (bl [.blk B8 (.cells #[.slice p_a1_R a1.R.length c_a1_R, .slice p_a1_L a1.L.length c_a1_L, .slice p_a1_J a1.J.length c_a1_J, .slice p_a1_H a1.H.length c_a1_H, .slice p_a1_Below a1.Below.length c_a1_Below] 28 (0, 0)), .blk B2 (.cells #[.slice p_a0_R a0.R.length c_a0_R, .slice p_a0_L a0.L.length c_a0_L, .slice p_a0_J a0.J.length c_a0_J, .slice p_a0_H a0.H.length c_a0_H, .slice p_a0_Below a0.Below.length c_a0_Below] 28 (0, 0))] ++ A) w p_a0_R c_a0_R a0.R ∧ ISl (Rp.int .i64) (bl [.blk B8 (.cells #[.slice p_a1_R a1.R.length c_a1_R, .slice p_a1_L a1.L.length c_a1_L, .slice p_a1_J a1.J.length c_a1_J, .slice p_a1_H a1.H.length c_a1_H, .slice p_a1_Below a1.Below.length c_a1_Below] 28 (0, 0)), .blk B2 (.cells #[.slice p_a0_R a0.R.length c_a0_R, .slice p_a0_L a0.L.length c_a0_L, .slice p_a0_J a0.J.length c_a0_J, .slice p_a0_H a0.H.length c_a0_H, .slice p_a0_Below a0.Below.length c_a0_Below] 28 (0, 0))] ++ A) w p_a0_L c_a0_L a0.L ∧ ISl (Rp.int .i64) (bl [.blk B8 (.cells #[.slice p_a1_R a1.R.length c_a1_R, .slice p_a1_L a1.L.length c_a1_L, .slice p_a1_J a1.J.length c_a1_J, .slice p_a1_H a1.H.length c_a1_H, .slice p_a1_Below a1.Below.length c_a1_Below] 28 (0, 0)), .blk B2 (.cells #[.slice p_a0_R a0.R.length c_a0_R, .slice p_a0_L a0.L.length c_a0_L, .slice p_a0_J a0.J.length c_a0_J, .slice p_a0_H a0.H.length c_a0_H, .slice p_a0_Below a0.Below.length c_a0_Below] 28 (0, 0))] ++ A) w p_a0_J c_a0_J a0.J ∧ ISl (Rp.int .i64) (bl [.blk B8 (.cells #[.slice p_a1_R a1.R.length c_a1_R, .slice p_a1_L a1.L.length c_a1_L, .slice p_a1_J a1.J.length c_a1_J, .slice p_a1_H a1.H.length c_a1_H, .slice p_a1_Below a1.Below.length c_a1_Below] 28 (0, 0)), .blk B2 (.cells #[.slice p_a0_R a0.R.length c_a0_R, .slice p_a0_L a0.L.length c_a0_L, .slice p_a0_J a0.J.length c_a0_J, .slice p_a0_H a0.H.length c_a0_H, .slice p_a0_Below a0.Below.length c_a0_Below] 28 (0, 0))] ++ A) w p_a0_H c_a0_H a0.H ∧ ISl (Rp.sl (Rp.bool)) (bl [.blk B8 (.cells #[.slice p_a1_R a1.R.length c_a1_R, .slice p_a1_L a1.L.length c_a1_L, .slice p_a1_J a1.J.length c_a1_J, .slice p_a1_H a1.H.length c_a1_H, .slice p_a1_Below a1.Below.length c_a1_Below] 28 (0, 0)), .blk B2 (.cells #[.slice p_a0_R a0.R.length c_a0_R, .slice p_a0_L a0.L.length c_a0_L, .slice p_a0_J a0.J.length c_a0_J, .slice p_a0_H a0.H.length c_a0_H, .slice p_a0_Below a0.Below.length c_a0_Below] 28 (0, 0))] ++ A) w p_a0_Below c_a0_Below a0.Below ∧ ISl (Rp.int .i64) (bl [.blk B8 (.cells #[.slice p_a1_R a1.R.length c_a1_R, .slice p_a1_L a1.L.length c_a1_L, .slice p_a1_J a1.J.length c_a1_J, .slice p_a1_H a1.H.length c_a1_H, .slice p_a1_Below a1.Below.length c_a1_Below] 28 (0, 0)), .blk B2 (.cells #[.slice p_a0_R a0.R.length c_a0_R, .slice p_a0_L a0.L.length c_a0_L, .slice p_a0_J a0.J.length c_a0_J, .slice p_a0_H a0.H.length c_a0_H, .slice p_a0_Below a0.Below.length c_a0_Below] 28 (0, 0))] ++ A) w p_a1_R c_a1_R a1.R ∧ ISl (Rp.int .i64) (bl [.blk B8 (.cells #[.slice p_a1_R a1.R.length c_a1_R, .slice p_a1_L a1.L.length c_a1_L, .slice p_a1_J a1.J.length c_a1_J, .slice p_a1_H a1.H.length c_a1_H, .slice p_a1_Below a1.Below.length c_a1_Below] 28 (0, 0)), .blk B2 (.cells #[.slice p_a0_R a0.R.length c_a0_R, .slice p_a0_L a0.L.length c_a0_L, .slice p_a0_J a0.J.length c_a0_J, .slice p_a0_H a0.H.length c_a0_H, .slice p_a0_Below a0.Below.length c_a0_Below] 28 (0, 0))] ++ A) w p_a1_L c_a1_L a1.L ∧ ISl (Rp.int .i64) (bl [.blk B8 (.cells #[.slice p_a1_R a1.R.length c_a1_R, .slice p_a1_L a1.L.length c_a1_L, .slice p_a1_J a1.J.length c_a1_J, .slice p_a1_H a1.H.length c_a1_H, .slice p_a1_Below a1.Below.length c_a1_Below] 28 (0, 0)), .blk B2 (.cells #[.slice p_a0_R a0.R.length c_a0_R, .slice p_a0_L a0.L.length c_a0_L, .slice p_a0_J a0.J.length c_a0_J, .slice p_a0_H a0.H.length c_a0_H, .slice p_a0_Below a0.Below.length c_a0_Below] 28 (0, 0))] ++ A) w p_a1_J c_a1_J a1.J ∧ ISl (Rp.int .i64) (bl [.blk B8 (.cells #[.slice p_a1_R a1.R.length c_a1_R, .slice p_a1_L a1.L.length c_a1_L, .slice p_a1_J a1.J.length c_a1_J, .slice p_a1_H a1.H.length c_a1_H, .slice p_a1_Below a1.Below.length c_a1_Below] 28 (0, 0)), .blk B2 (.cells #[.slice p_a0_R a0.R.length c_a0_R, .slice p_a0_L a0.L.length c_a0_L, .slice p_a0_J a0.J.length c_a0_J, .slice p_a0_H a0.H.length c_a0_H, .slice p_a0_Below a0.Below.length c_a0_Below] 28 (0, 0))] ++ A) w p_a1_H c_a1_H a1.H ∧ ISl (Rp.sl (Rp.bool)) (bl [.blk B8 (.cells #[.slice p_a1_R a1.R.length c_a1_R, .slice p_a1_L a1.L.length c_a1_L, .slice p_a1_J a1.J.length c_a1_J, .slice p_a1_H a1.H.length c_a1_H, .slice p_a1_Below a1.Below.length c_a1_Below] 28 (0, 0)), .blk B2 (.cells #[.slice p_a0_R a0.R.length c_a0_R, .slice p_a0_L a0.L.length c_a0_L, .slice p_a0_J a0.J.length c_a0_J, .slice p_a0_H a0.H.length c_a0_H, .slice p_a0_Below a0.Below.length c_a0_Below] 28 (0, 0))] ++ A) w p_a1_Below c_a1_Below a1.Below ∧ Fr (bl []) w0 (bl [.blk B8 (.cells #[.slice p_a1_R a1.R.length c_a1_R, .slice p_a1_L a1.L.length c_a1_L, .slice p_a1_J a1.J.length c_a1_J, .slice p_a1_H a1.H.length c_a1_H, .slice p_a1_Below a1.Below.length c_a1_Below] 28 (0, 0)), .blk B2 (.cells #[.slice p_a0_R a0.R.length c_a0_R, .slice p_a0_L a0.L.length c_a0_L, .slice p_a0_J a0.J.length c_a0_J, .slice p_a0_H a0.H.length c_a0_H, .slice p_a0_Below a0.Below.length c_a0_Below] 28 (0, 0))]) w) H ⟨⟨rfl, rfl, rfl, rfl, trivial⟩, hO, h_a0_R, h_a0_L, h_a0_J, h_a0_H, h_a0_Below, h_a1_R, h_a1_L, h_a1_J, h_a1_H, h_a1_Below, hB⟩ ?_
      rintro X1 k1_39 H hX1 σ w38 ⟨hag, hO, h_a0_R, h_a0_L, h_a0_J, h_a0_H, h_a0_Below, h_a1_R, h_a1_L, h_a1_J, h_a1_H, h_a1_Below, hB⟩
      refine Go1.keep [(2, .pointer (some ⟨B2, 0, none⟩)), (3, .pointer (some ⟨B8, 0, none⟩)), (48, .int .i64 (a0.Below.length : Int)), (49, .int .i64 (k1_39 : Int))] hag ?_
      refine Go1.seq ?_
      refine Go1.region ?_
      by_cases h40 : (k1_39 : Int) < (a0.Below.length : Int)
      ·replace H := ifp h40 H
       refine GoR.op ((fun w => opB (op_lss rfl rfl w) (decide_eq_true h40)) _) rfl rfl ?_
       refine GoR.nil ?_
       refine Go1.seq ?_
       refine Go1.condT rfl rfl ?_
       refine Go1.skip ?_
       refine Go1.seq ?_
       refine Go1.block ?_
       refine Go1.seq ?_
       refine Go1.region ?_
       refine GoR.op ((op_move rfl) _) rfl rfl ?_
       refine GoR.op ((op_assign rfl) _) rfl rfl ?_
       refine GoR.nil ?_
       refine Go1.seq ?_
       refine Go1.seq ?_
       refine Go1.drawS 0 [(0, .pure), (1, .stable), (2, .pure), (3, .pure), (4, .stable), (5, .pure), (6, .pure), (7, .stable), (8, .pure), (9, .pure), (10, .stable), (11, .pure), (12, .pure)] mixed (by kernel_rfl) ?_
       intro w41 hs42
       have hst43 := Stp.same hO hs42
       replace hO := hst43.own
       replace h_a0_R := h_a0_R.ch hst43.ch
       replace h_a0_L := h_a0_L.ch hst43.ch
       replace h_a0_J := h_a0_J.ch hst43.ch
       replace h_a0_H := h_a0_H.ch hst43.ch
       replace h_a0_Below := h_a0_Below.ch hst43.ch
       replace h_a1_R := h_a1_R.ch hst43.ch
       replace h_a1_L := h_a1_L.ch hst43.ch
       replace h_a1_J := h_a1_J.ch hst43.ch
       replace h_a1_H := h_a1_H.ch hst43.ch
       replace h_a1_Below := h_a1_Below.ch hst43.ch
       replace hB := hB.trans hst43.fr
       refine GoQ.pure rfl (op_fieldAddr Try.underlying28 rfl ti26 rfl (by decide)) rfl rfl ?_
       refine GoQ.stable rfl (oblk 1 hO rfl rfl Try.underlying26 rfl rfl) rfl rfl ?_
       refine GoQ.pure rfl (op_move rfl) rfl rfl ?_
       obtain ⟨h44, H⟩ := H
       obtain ⟨h45, H⟩ := H
       refine GoQ.pure rfl (op_index Try.underlying26 ti38 rfl rfl h44 h45 (h_a0_Below.some_ h44 h45)) rfl rfl ?_
       have hobt := ldSl h_a0_Below h44 h45
       obtain ⟨p46, c47, hi48, hl49⟩ := hobt
       refine GoQ.stable rfl (hl49 Try.underlying38 rfl rfl) rfl rfl ?_
       refine GoQ.pure rfl (op_len Try.underlying38 rfl) rfl rfl ?_
       replace H := H hi48.bd
       refine GoQ.pure rfl (op_fieldAddr Try.underlying28 rfl ti26 rfl (by decide)) rfl rfl ?_
       refine GoQ.stable rfl (oblk 0 hO rfl rfl Try.underlying26 rfl rfl) rfl rfl ?_
       refine GoQ.pure rfl (op_move rfl) rfl rfl ?_
       obtain ⟨h50, H⟩ := H
       obtain ⟨h51, H⟩ := H
       refine GoQ.pure rfl (op_index Try.underlying26 ti38 rfl rfl h50 h51 (h_a1_Below.some_ h50 h51)) rfl rfl ?_
       have hobt := ldSl h_a1_Below h50 h51
       obtain ⟨p52, c53, hi54, hl55⟩ := hobt
       refine GoQ.stable rfl (hl55 Try.underlying38 rfl rfl) rfl rfl ?_
       refine GoQ.pure rfl (op_len Try.underlying38 rfl) rfl rfl ?_
       replace H := H hi54.bd
       by_cases h56 : ((ix a0.Below (k1_39 : Int)).length : Int) = ((ix a1.Below (k1_39 : Int)).length : Int)
       ·replace H := ifp h56 H
        refine GoQ.pure rfl (fun w => opB (op_neq rfl rfl w) (ndT h56)) rfl rfl ?_
        refine GoQ.nil ?_
        refine Go1.condF rfl rfl ?_
        refine Go1.skip ?_
        refine Go1.seq ?_
        refine Go1.region ?_
        refine GoR.op ((op_fieldAddr Try.underlying28 rfl ti26 rfl (by decide)) _) rfl rfl ?_
        refine GoR.op ((oblk 1 hO rfl rfl Try.underlying26 rfl rfl) _ (Same.refl _)) rfl rfl ?_
        refine GoR.op ((op_move rfl) _) rfl rfl ?_
        obtain ⟨h57, H⟩ := H
        obtain ⟨h58, H⟩ := H
        refine GoR.op ((op_index Try.underlying26 ti38 rfl rfl h57 h58 (h_a0_Below.some_ h57 h58)) _) rfl rfl ?_
        have hobt := ldSl h_a0_Below h57 h58
        obtain ⟨p59, c60, hi61, hl62⟩ := hobt
        refine GoR.op ((hl62 Try.underlying38 rfl rfl) _ (Same.refl _)) rfl rfl ?_
        refine GoR.op ((op_len Try.underlying38 rfl) _) rfl rfl ?_
        refine GoR.op ((op_move rfl) _) rfl rfl ?_
        refine GoR.nil ?_
        refine Go1.block ?_
        refine Go1.loopW (S := Nat) (fun s σ w => agrees σ [(2, .pointer (some ⟨B2, 0, none⟩)), (3, .pointer (some ⟨B8, 0, none⟩)), (5, .int .i64 (k1_39 : Int)), (48, .int .i64 (a0.Below.length : Int)), (49, .int .i64 (k1_39 : Int)), (70, .int .i64 ((ix a0.Below (k1_39 : Int)).length : Int)), (71, .int .i64 (s : Int))] ∧ Owns w0.heap.size w [.blk B8 (.cells #[.slice p_a1_R a1.R.length c_a1_R, .slice p_a1_L a1.L.length c_a1_L, .slice p_a1_J a1.J.length c_a1_J, .slice p_a1_H a1.H.length c_a1_H, .slice p_a1_Below a1.Below.length c_a1_Below] 28 (0, 0)), .blk B2 (.cells #[.slice p_a0_R a0.R.length c_a0_R, .slice p_a0_L a0.L.length c_a0_L, .slice p_a0_J a0.J.length c_a0_J, .slice p_a0_H a0.H.length c_a0_H, .slice p_a0_Below a0.Below.length c_a0_Below] 28 (0, 0))] A ∧ ISl (Rp.int .i64) (bl [.blk B8 (.cells #[.slice p_a1_R a1.R.length c_a1_R, .slice p_a1_L a1.L.length c_a1_L, .slice p_a1_J a1.J.length c_a1_J, .slice p_a1_H a1.H.length c_a1_H, .slice p_a1_Below a1.Below.length c_a1_Below] 28 (0, 0)), .blk B2 (.cells #[.slice p_a0_R a0.R.length c_a0_R, .slice p_a0_L a0.L.length c_a0_L, .slice p_a0_J a0.J.length c_a0_J, .slice p_a0_H a0.H.length c_a0_H, .slice p_a0_Below a0.Below.length c_a0_Below] 28 (0, 0))] ++ A) w p_a0_R c_a0_R a0.R ∧ ISl (Rp.int .i64) (bl [.blk B8 (.cells #[.slice p_a1_R a1.R.length c_a1_R, .slice p_a1_L a1.L.length c_a1_L, .slice p_a1_J a1.J.length c_a1_J, .slice p_a1_H a1.H.length c_a1_H, .slice p_a1_Below a1.Below.length c_a1_Below] 28 (0, 0)), .blk B2 (.cells #[.slice p_a0_R a0.R.length c_a0_R, .slice p_a0_L a0.L.length c_a0_L, .slice p_a0_J a0.J.length c_a0_J, .slice p_a0_H a0.H.length c_a0_H, .slice p_a0_Below a0.Below.length c_a0_Below] 28 (0, 0))] ++ A) w p_a0_L c_a0_L a0.L ∧ ISl (Rp.int .i64) (bl [.blk B8 (.cells #[.slice p_a1_R a1.R.length c_a1_R, .slice p_a1_L a1.L.length c_a1_L, .slice p_a1_J a1.J.length c_a1_J, .slice p_a1_H a1.H.length c_a1_H, .slice p_a1_Below a1.Below.length c_a1_Below] 28 (0, 0)), .blk B2 (.cells #[.slice p_a0_R a0.R.length c_a0_R, .slice p_a0_L a0.L.length c_a0_L, .slice p_a0_J a0.J.length c_a0_J, .slice p_a0_H a0.H.length c_a0_H, .slice p_a0_Below a0.Below.length c_a0_Below] 28 (0, 0))] ++ A) w p_a0_J c_a0_J a0.J ∧ ISl (Rp.int .i64) (bl [.blk B8 (.cells #[.slice p_a1_R a1.R.length c_a1_R, .slice p_a1_L a1.L.length c_a1_L, .slice p_a1_J a1.J.length c_a1_J, .slice p_a1_H a1.H.length c_a1_H, .slice p_a1_Below a1.Below.length c_a1_Below] 28 (0, 0)), .blk B2 (.cells #[.slice p_a0_R a0.R.length c_a0_R, .slice p_a0_L a0.L.length c_a0_L, .slice p_a0_J a0.J.length c_a0_J, .slice p_a0_H a0.H.length c_a0_H, .slice p_a0_Below a0.Below.length c_a0_Below] 28 (0, 0))] ++ A) w p_a0_H c_a0_H a0.H ∧ ISl (Rp.sl (Rp.bool)) (bl [.blk B8 (.cells #[.slice p_a1_R a1.R.length c_a1_R, .slice p_a1_L a1.L.length c_a1_L, .slice p_a1_J a1.J.length c_a1_J, .slice p_a1_H a1.H.length c_a1_H, .slice p_a1_Below a1.Below.length c_a1_Below] 28 (0, 0)), .blk B2 (.cells #[.slice p_a0_R a0.R.length c_a0_R, .slice p_a0_L a0.L.length c_a0_L, .slice p_a0_J a0.J.length c_a0_J, .slice p_a0_H a0.H.length c_a0_H, .slice p_a0_Below a0.Below.length c_a0_Below] 28 (0, 0))] ++ A) w p_a0_Below c_a0_Below a0.Below ∧ ISl (Rp.int .i64) (bl [.blk B8 (.cells #[.slice p_a1_R a1.R.length c_a1_R, .slice p_a1_L a1.L.length c_a1_L, .slice p_a1_J a1.J.length c_a1_J, .slice p_a1_H a1.H.length c_a1_H, .slice p_a1_Below a1.Below.length c_a1_Below] 28 (0, 0)), .blk B2 (.cells #[.slice p_a0_R a0.R.length c_a0_R, .slice p_a0_L a0.L.length c_a0_L, .slice p_a0_J a0.J.length c_a0_J, .slice p_a0_H a0.H.length c_a0_H, .slice p_a0_Below a0.Below.length c_a0_Below] 28 (0, 0))] ++ A) w p_a1_R c_a1_R a1.R ∧ ISl (Rp.int .i64) (bl [.blk B8 (.cells #[.slice p_a1_R a1.R.length c_a1_R, .slice p_a1_L a1.L.length c_a1_L, .slice p_a1_J a1.J.length c_a1_J, .slice p_a1_H a1.H.length c_a1_H, .slice p_a1_Below a1.Below.length c_a1_Below] 28 (0, 0)), .blk B2 (.cells #[.slice p_a0_R a0.R.length c_a0_R, .slice p_a0_L a0.L.length c_a0_L, .slice p_a0_J a0.J.length c_a0_J, .slice p_a0_H a0.H.length c_a0_H, .slice p_a0_Below a0.Below.length c_a0_Below] 28 (0, 0))] ++ A) w p_a1_L c_a1_L a1.L ∧ ISl (Rp.int .i64) (bl [.blk B8 (.cells #[.slice p_a1_R a1.R.length c_a1_R, .slice p_a1_L a1.L.length c_a1_L, .slice p_a1_J a1.J.length c_a1_J, .slice p_a1_H a1.H.length c_a1_H, .slice p_a1_Below a1.Below.length c_a1_Below] 28 (0, 0)), .blk B2 (.cells #[.slice p_a0_R a0.R.length c_a0_R, .slice p_a0_L a0.L.length c_a0_L, .slice p_a0_J a0.J.length c_a0_J, .slice p_a0_H a0.H.length c_a0_H, .slice p_a0_Below a0.Below.length c_a0_Below] 28 (0, 0))] ++ A) w p_a1_J c_a1_J a1.J ∧ ISl (Rp.int .i64) (bl [.blk B8 (.cells #[.slice p_a1_R a1.R.length c_a1_R, .slice p_a1_L a1.L.length c_a1_L, .slice p_a1_J a1.J.length c_a1_J, .slice p_a1_H a1.H.length c_a1_H, .slice p_a1_Below a1.Below.length c_a1_Below] 28 (0, 0)), .blk B2 (.cells #[.slice p_a0_R a0.R.length c_a0_R, .slice p_a0_L a0.L.length c_a0_L, .slice p_a0_J a0.J.length c_a0_J, .slice p_a0_H a0.H.length c_a0_H, .slice p_a0_Below a0.Below.length c_a0_Below] 28 (0, 0))] ++ A) w p_a1_H c_a1_H a1.H ∧ ISl (Rp.sl (Rp.bool)) (bl [.blk B8 (.cells #[.slice p_a1_R a1.R.length c_a1_R, .slice p_a1_L a1.L.length c_a1_L, .slice p_a1_J a1.J.length c_a1_J, .slice p_a1_H a1.H.length c_a1_H, .slice p_a1_Below a1.Below.length c_a1_Below] 28 (0, 0)), .blk B2 (.cells #[.slice p_a0_R a0.R.length c_a0_R, .slice p_a0_L a0.L.length c_a0_L, .slice p_a0_J a0.J.length c_a0_J, .slice p_a0_H a0.H.length c_a0_H, .slice p_a0_Below a0.Below.length c_a0_Below] 28 (0, 0))] ++ A) w p_a1_Below c_a1_Below a1.Below ∧ Fr (bl []) w0 (bl [.blk B8 (.cells #[.slice p_a1_R a1.R.length c_a1_R, .slice p_a1_L a1.L.length c_a1_L, .slice p_a1_J a1.J.length c_a1_J, .slice p_a1_H a1.H.length c_a1_H, .slice p_a1_Below a1.Below.length c_a1_Below] 28 (0, 0)), .blk B2 (.cells #[.slice p_a0_R a0.R.length c_a0_R, .slice p_a0_L a0.L.length c_a0_L, .slice p_a0_J a0.J.length c_a0_J, .slice p_a0_H a0.H.length c_a0_H, .slice p_a0_Below a0.Below.length c_a0_Below] 28 (0, 0))]) w) H ⟨⟨rfl, rfl, rfl, rfl, rfl, rfl, rfl, trivial⟩, hO, h_a0_R, h_a0_L, h_a0_J, h_a0_H, h_a0_Below, h_a1_R, h_a1_L, h_a1_J, h_a1_H, h_a1_Below, hB⟩ ?_
        rintro X2 k2_64 H hX2 σ w63 ⟨hag, hO, h_a0_R, h_a0_L, h_a0_J, h_a0_H, h_a0_Below, h_a1_R, h_a1_L, h_a1_J, h_a1_H, h_a1_Below, hB⟩
        refine Go1.keep [(2, .pointer (some ⟨B2, 0, none⟩)), (3, .pointer (some ⟨B8, 0, none⟩)), (5, .int .i64 (k1_39 : Int)), (48, .int .i64 (a0.Below.length : Int)), (49, .int .i64 (k1_39 : Int)), (70, .int .i64 ((ix a0.Below (k1_39 : Int)).length : Int)), (71, .int .i64 (k2_64 : Int))] hag ?_
        refine Go1.seq ?_
        refine Go1.region ?_
        by_cases h65 : (k2_64 : Int) < ((ix a0.Below (k1_39 : Int)).length : Int)
        ·replace H := ifp h65 H
         refine GoR.op ((fun w => opB (op_lss rfl rfl w) (decide_eq_true h65)) _) rfl rfl ?_
         refine GoR.nil ?_
         refine Go1.seq ?_
         refine Go1.condT rfl rfl ?_
         refine Go1.skip ?_
         refine Go1.seq ?_
         refine Go1.block ?_
         refine Go1.seq ?_
         refine Go1.region ?_
         refine GoR.op ((op_move rfl) _) rfl rfl ?_
         refine GoR.op ((op_assign rfl) _) rfl rfl ?_
         refine GoR.nil ?_
         refine Go1.seq ?_
         refine Go1.drawS 0 [(0, .pure), (1, .stable), (2, .pure), (3, .pure), (4, .stable), (5, .pure), (6, .pure), (7, .stable), (8, .pure), (9, .stable), (10, .pure), (11, .pure), (12, .stable), (13, .pure), (14, .pure), (15, .stable), (16, .pure)] mixed (by kernel_rfl) ?_
         intro w66 hs67
         have hst68 := Stp.same hO hs67
         replace hO := hst68.own
         replace h_a0_R := h_a0_R.ch hst68.ch
         replace h_a0_L := h_a0_L.ch hst68.ch
         replace h_a0_J := h_a0_J.ch hst68.ch
         replace h_a0_H := h_a0_H.ch hst68.ch
         replace h_a0_Below := h_a0_Below.ch hst68.ch
         replace h_a1_R := h_a1_R.ch hst68.ch
         replace h_a1_L := h_a1_L.ch hst68.ch
         replace h_a1_J := h_a1_J.ch hst68.ch
         replace h_a1_H := h_a1_H.ch hst68.ch
         replace h_a1_Below := h_a1_Below.ch hst68.ch
         replace hB := hB.trans hst68.fr
         refine GoQ.pure rfl (op_fieldAddr Try.underlying28 rfl ti26 rfl (by decide)) rfl rfl ?_
         refine GoQ.stable rfl (oblk 1 hO rfl rfl Try.underlying26 rfl rfl) rfl rfl ?_
         refine GoQ.pure rfl (op_move rfl) rfl rfl ?_
         obtain ⟨h69, H⟩ := H
         obtain ⟨h70, H⟩ := H
         refine GoQ.pure rfl (op_index Try.underlying26 ti38 rfl rfl h69 h70 (h_a0_Below.some_ h69 h70)) rfl rfl ?_
         have hobt := ldSl h_a0_Below h69 h70
         obtain ⟨p71, c72, hi73, hl74⟩ := hobt
         refine GoQ.stable rfl (hl74 Try.underlying38 rfl rfl) rfl rfl ?_
         refine GoQ.pure rfl (op_move rfl) rfl rfl ?_
         obtain ⟨h75, H⟩ := H
         obtain ⟨h76, H⟩ := H
         refine GoQ.pure rfl (op_index Try.underlying38 ti4 rfl rfl h75 h76 (hi73.some_ h75 h76)) rfl rfl ?_
         by_cases h77 : ix (ix a0.Below (k1_39 : Int)) (k2_64 : Int) = true
         ·replace H := ifp h77 H
          refine GoQ.stable rfl (fun w hw => opB ((ldBool hi73 h75 h76 Try.underlying4 rfl rfl) w hw) (h77)) rfl rfl ?_
          refine GoQ.pure rfl (op_fieldAddr Try.underlying28 rfl ti26 rfl (by decide)) rfl rfl ?_
          refine GoQ.stable rfl (oblk 0 hO rfl rfl Try.underlying26 rfl rfl) rfl rfl ?_
          refine GoQ.pure rfl (op_move rfl) rfl rfl ?_
          obtain ⟨h78, H⟩ := H
          obtain ⟨h79, H⟩ := H
          refine GoQ.pure rfl (op_index Try.underlying26 ti38 rfl rfl h78 h79 (h_a1_Below.some_ h78 h79)) rfl rfl ?_
          have hobt := ldSl h_a1_Below h78 h79
          obtain ⟨p80, c81, hi82, hl83⟩ := hobt
          refine GoQ.stable rfl (hl83 Try.underlying38 rfl rfl) rfl rfl ?_
          refine GoQ.pure rfl (op_move rfl) rfl rfl ?_
          obtain ⟨h84, H⟩ := H
          obtain ⟨h85, H⟩ := H
          refine GoQ.pure rfl (op_index Try.underlying38 ti4 rfl rfl h84 h85 (hi82.some_ h84 h85)) rfl rfl ?_
          by_cases h86 : ix (ix a1.Below (k1_39 : Int)) (k2_64 : Int) = true
          ·replace H := ifp h86 H
           refine GoQ.stable rfl (fun w hw => opB ((ldBool hi82 h84 h85 Try.underlying4 rfl rfl) w hw) (h86)) rfl rfl ?_
           refine GoQ.pure rfl (op_neqB Try.underlying4 rfl rfl) rfl rfl ?_
           refine GoQ.nil ?_
           refine Go1.condF rfl rfl ?_
           refine Go1.skip ?_
           refine Go1.inBlock ?_
           refine Go1.region ?_
           refine GoR.op ((op_add rfl rfl (wrap_i64 (natbd h65 hi73.bd))) _) rfl rfl ?_
           refine GoR.op ((op_move rfl) _) rfl rfl ?_
           refine GoR.nil ?_
           exact hX2 _ H _ _ ⟨⟨rfl, rfl, rfl, rfl, rfl, rfl, rfl, trivial⟩, hO, h_a0_R, h_a0_L, h_a0_J, h_a0_H, h_a0_Below, h_a1_R, h_a1_L, h_a1_J, h_a1_H, h_a1_Below, hB⟩
          ·replace H := ifn h86 H
           refine GoQ.stable rfl (fun w hw => opB ((ldBool hi82 h84 h85 Try.underlying4 rfl rfl) w hw) (Bool.eq_false_iff.2 h86)) rfl rfl ?_
           refine GoQ.pure rfl (op_neqB Try.underlying4 rfl rfl) rfl rfl ?_
           refine GoQ.nil ?_
           refine Go1.condT rfl rfl ?_
           refine Go1.seq ?_
           refine Go1.region ?_
           refine GoR.op ((op_assign rfl) _) rfl rfl ?_
           refine GoR.nil ?_
           refine Go1.ret1 Try.func17 rfl ?_
           exact ⟨false, rfl, hB.same, H⟩
         ·replace H := ifn h77 H
          refine GoQ.stable rfl (fun w hw => opB ((ldBool hi73 h75 h76 Try.underlying4 rfl rfl) w hw) (Bool.eq_false_iff.2 h77)) rfl rfl ?_
          refine GoQ.pure rfl (op_fieldAddr Try.underlying28 rfl ti26 rfl (by decide)) rfl rfl ?_
          refine GoQ.stable rfl (oblk 0 hO rfl rfl Try.underlying26 rfl rfl) rfl rfl ?_
          refine GoQ.pure rfl (op_move rfl) rfl rfl ?_
          obtain ⟨h87, H⟩ := H
          obtain ⟨h88, H⟩ := H
          refine GoQ.pure rfl (op_index Try.underlying26 ti38 rfl rfl h87 h88 (h_a1_Below.some_ h87 h88)) rfl rfl ?_
          have hobt := ldSl h_a1_Below h87 h88
          obtain ⟨p89, c90, hi91, hl92⟩ := hobt
          refine GoQ.stable rfl (hl92 Try.underlying38 rfl rfl) rfl rfl ?_
          refine GoQ.pure rfl (op_move rfl) rfl rfl ?_
          obtain ⟨h93, H⟩ := H
          obtain ⟨h94, H⟩ := H
          refine GoQ.pure rfl (op_index Try.underlying38 ti4 rfl rfl h93 h94 (hi91.some_ h93 h94)) rfl rfl ?_
          by_cases h95 : ix (ix a1.Below (k1_39 : Int)) (k2_64 : Int) = true
          ·replace H := ifp h95 H
           refine GoQ.stable rfl (fun w hw => opB ((ldBool hi91 h93 h94 Try.underlying4 rfl rfl) w hw) (h95)) rfl rfl ?_
           refine GoQ.pure rfl (op_neqB Try.underlying4 rfl rfl) rfl rfl ?_
           refine GoQ.nil ?_
           refine Go1.condT rfl rfl ?_
           refine Go1.seq ?_
           refine Go1.region ?_
           refine GoR.op ((op_assign rfl) _) rfl rfl ?_
           refine GoR.nil ?_
           refine Go1.ret1 Try.func17 rfl ?_
           exact ⟨false, rfl, hB.same, H⟩
          ·replace H := ifn h95 H
           refine GoQ.stable rfl (fun w hw => opB ((ldBool hi91 h93 h94 Try.underlying4 rfl rfl) w hw) (Bool.eq_false_iff.2 h95)) rfl rfl ?_
           refine GoQ.pure rfl (op_neqB Try.underlying4 rfl rfl) rfl rfl ?_
           refine GoQ.nil ?_
           refine Go1.condF rfl rfl ?_
           refine Go1.skip ?_
           refine Go1.inBlock ?_
           refine Go1.region ?_
           refine GoR.op ((op_add rfl rfl (wrap_i64 (natbd h65 hi73.bd))) _) rfl rfl ?_
           refine GoR.op ((op_move rfl) _) rfl rfl ?_
           refine GoR.nil ?_
           exact hX2 _ H _ _ ⟨⟨rfl, rfl, rfl, rfl, rfl, rfl, rfl, trivial⟩, hO, h_a0_R, h_a0_L, h_a0_J, h_a0_H, h_a0_Below, h_a1_R, h_a1_L, h_a1_J, h_a1_H, h_a1_Below, hB⟩
        ·replace H := ifn h65 H
         refine GoR.op ((fun w => opB (op_lss rfl rfl w) (decide_eq_false h65)) _) rfl rfl ?_
         refine GoR.nil ?_
         refine Go1.seq ?_
         refine Go1.condF rfl rfl ?_
         refine Go1.exit rfl ?_
         refine Go1.inBlock ?_
         refine Go1.region ?_
         refine GoR.op ((op_add rfl rfl (wrap_i64 (natbd h40 h_a0_Below.bd))) _) rfl rfl ?_
         refine GoR.op ((op_move rfl) _) rfl rfl ?_
         refine GoR.nil ?_
         exact hX1 _ H _ _ ⟨⟨rfl, rfl, rfl, rfl, trivial⟩, hO, h_a0_R, h_a0_L, h_a0_J, h_a0_H, h_a0_Below, h_a1_R, h_a1_L, h_a1_J, h_a1_H, h_a1_Below, hB⟩
       ·replace H := ifn h56 H
        refine GoQ.pure rfl (fun w => opB (op_neq rfl rfl w) (ndF h56)) rfl rfl ?_
        refine GoQ.nil ?_
        refine Go1.condT rfl rfl ?_
        refine Go1.seq ?_
        refine Go1.region ?_
        refine GoR.op ((op_assign rfl) _) rfl rfl ?_
        refine GoR.nil ?_
        refine Go1.ret1 Try.func17 rfl ?_
        exact ⟨false, rfl, hB.same, H⟩
      ·replace H := ifn h40 H
       refine GoR.op ((fun w => opB (op_lss rfl rfl w) (decide_eq_false h40)) _) rfl rfl ?_
       refine GoR.nil ?_
       refine Go1.seq ?_
       refine Go1.condF rfl rfl ?_
       refine Go1.exit rfl ?_
       refine Go1.seq ?_
       refine Go1.region ?_
       refine GoR.op ((op_assign rfl) _) rfl rfl ?_
       refine GoR.nil ?_
       refine Go1.ret1 Try.func17 rfl ?_
       exact ⟨true, rfl, hB.same, H⟩
     ·replace H := ifn h37 H
      refine GoR.op ((fun w => opB (op_neq rfl rfl w) (ndF h37)) _) rfl rfl ?_
      refine GoR.op ((op_pickF rfl rfl rfl) _) rfl rfl ?_
      refine GoR.nil ?_
      refine Go1.condT rfl rfl ?_
      refine Go1.seq ?_
      refine Go1.region ?_
      refine GoR.op ((op_assign rfl) _) rfl rfl ?_
      refine GoR.nil ?_
      refine Go1.ret1 Try.func17 rfl ?_
      exact ⟨false, rfl, hB.same, H⟩
theorem body29 : Body Try.prog 29 := ⟨Try.f29, Try.func29, rfl, by kernel_rfl⟩
theorem walk_ref15_Right {A : List Nat} {w0 : World} {p_t : Option Addr} {c_t : Nat} {t : List (List Int)} {x : Int} (hA : ∀ b ∈ A, b < w0.heap.size) (h_t : ISl (Rp.sl (Rp.int .i64)) A w0 p_t c_t t) {K : List Bool → Prop} (H : ref15_Right t x K) :
    CallsV Try.prog 29 #[.slice p_t t.length c_t, .int .i64 x] w0 (fun v w' => ∃ (r0 : List Bool), ∃ (p_r0 : Option Addr), ∃ (c_r0 : Nat), v = .slice p_r0 r0.length c_r0 ∧ Same w0 w' ∧ ISl (Rp.bool) A w' p_r0 c_r0 r0 ∧ K r0) := by
 refine CallsV.of (l := [.slice p_t t.length c_t, .int .i64 x]) Try.func29 rfl Try.ntmps29 rfl ?_
 have hO := Owns.start hA
 have hB := Fr.refl (bl []) w0
 unfold ref15_Right at H
 replace h_t := h_t.ch (Ch.start A w0)
 refine Go1.seq ?_
 refine Go1.region ?_
 refine GoR.op ((op_assign rfl) _) rfl rfl ?_
 refine GoR.nil ?_
 refine Go1.seq ?_
 refine Go1.region ?_
 refine GoR.op ((op_move rfl) _) rfl rfl ?_
 refine GoR.op ((op_len Try.underlying22 rfl) _) rfl rfl ?_
 replace H := H h_t.bd
 obtain ⟨h8, H⟩ := H
 obtain ⟨h9, H⟩ := H
 have hobt := omake (n := (t.length : Int)) (r := Rp.bool) (d := false) Try.underlying38 ti4 (fun _ _ => rfl) rfl hO h8 h9 (by decide)
 obtain ⟨w1, p2, vs3, hst4, hE5, hs6, hop7⟩ := hobt
 refine GoR.op (hop7 rfl rfl) rfl rfl ?_
 replace hO := hst4.own
 replace h_t := h_t.ch hst4.ch
 replace hB := hB.trans hst4.fr
 refine GoR.op ((op_assign rfl) _) rfl rfl ?_
 refine GoR.nil ?_
 refine Go1.seq ?_
 refine Go1.region ?_
 refine GoR.op ((op_move rfl) _) rfl rfl ?_
 refine GoR.op ((op_move rfl) _) rfl rfl ?_
 obtain ⟨h11, H⟩ := H
 obtain ⟨h12, H⟩ := H
 refine GoR.op ((op_index Try.underlying38 ti4 rfl rfl h11 (ltn (hE5.neq hO 0 rfl) h12) (hE5.psome hO 0 rfl h11 h12)) _) rfl rfl ?_
 have hobt := ost (r := Rp.bool) rfl 0 hO rfl hE5 h11 h12 (v := .bool true) (u := true) rfl rfl
 obtain ⟨w13, vs14, hst15, hE16, hop17⟩ := hobt
 refine GoR.op (hop17 Try.underlying4 rfl ti4 rfl rfl) rfl rfl ?_
 replace hO := hst15.own
 replace h_t := h_t.ch hst15.ch
 replace hB := hB.trans hst15.fr
 refine GoR.nil ?_
 refine Go1.seq ?_
 refine Go1.seq ?_
 refine Go1.region ?_
 refine GoR.op ((op_move rfl) _) rfl rfl ?_
 refine GoR.op ((op_move rfl) _) rfl rfl ?_
 obtain ⟨h18, H⟩ := H
 obtain ⟨h19, H⟩ := H
 refine GoR.op ((op_index Try.underlying22 ti25 rfl rfl h18 h19 (h_t.some_ h18 h19)) _) rfl rfl ?_
 have hobt := ldSl h_t h18 h19
 obtain ⟨p20, c21, hi22, hl23⟩ := hobt
 refine GoR.op ((hl23 Try.underlying25 rfl rfl) _ (Same.refl _)) rfl rfl ?_
 refine GoR.op ((op_len Try.underlying25 rfl) _) rfl rfl ?_
 replace H := H hi22.bd
 refine GoR.op ((op_move rfl) _) rfl rfl ?_
 refine GoR.nil ?_
 refine Go1.block ?_
 refine Go1.loopW (S := Nat × List Bool) (fun s σ w => ∃ (vs27 : List Value), agrees σ [(5, .slice p2 t.length t.length), (17, .slice p20 ((ix t x).length) c21), (18, .int .i64 ((ix t x).length : Int)), (19, .int .i64 ((s.1) : Int))] ∧ Owns w0.heap.size w [.row 4 1 p2 t.length t.length vs27] A ∧ Els (Rp.bool) (bl [.row 4 1 p2 t.length t.length vs27] ++ A) w vs27 (s.2) ∧ ISl (Rp.int .i64) (bl [.row 4 1 p2 t.length t.length vs27] ++ A) w p20 c21 (ix t x) ∧ Fr (bl []) w0 (bl [.row 4 1 p2 t.length t.length vs27]) w) H ⟨vs14, ⟨rfl, rfl, rfl, rfl, trivial⟩, hO, hE16, hi22, hB⟩ ?_
 rintro X1 ⟨k1_25, in1_26⟩ H hX1 σ w24 ⟨vs27, hag, hO, hE28, hi22, hB⟩
 dsimp only at H
 refine Go1.keep [(5, .slice p2 t.length t.length), (17, .slice p20 ((ix t x).length) c21), (18, .int .i64 ((ix t x).length : Int)), (19, .int .i64 (k1_25 : Int))] hag ?_
 refine Go1.seq ?_
 refine Go1.region ?_
 by_cases h29 : (k1_25 : Int) < ((ix t x).length : Int)
 ·replace H := ifp h29 H
  refine GoR.op ((fun w => opB (op_lss rfl rfl w) (decide_eq_true h29)) _) rfl rfl ?_
  refine GoR.nil ?_
  refine Go1.seq ?_
  refine Go1.condT rfl rfl ?_
  refine Go1.skip ?_
  refine Go1.seq ?_
  refine Go1.block ?_
  refine Go1.seq ?_
  refine Go1.region ?_
  obtain ⟨h30, H⟩ := H
  obtain ⟨h31, H⟩ := H
  refine GoR.op ((op_index Try.underlying25 ti3 rfl rfl h30 h31 (hi22.some_ h30 h31)) _) rfl rfl ?_
  refine GoR.op ((ldInt hi22 h30 h31 Try.underlying3 rfl rfl) _ (Same.refl _)) rfl rfl ?_
  refine GoR.op ((op_assign rfl) _) rfl rfl ?_
  refine GoR.nil ?_
  refine Go1.region ?_
  refine GoR.op ((op_move rfl) _) rfl rfl ?_
  refine GoR.op ((op_move rfl) _) rfl rfl ?_
  obtain ⟨h32, H⟩ := H
  obtain ⟨h33, H⟩ := H
  refine GoR.op ((op_index Try.underlying38 ti4 rfl rfl h32 (ltn (hE28.neq hO 0 rfl) h33) (hE28.psome hO 0 rfl h32 h33)) _) rfl rfl ?_
  have hobt := ost (r := Rp.bool) rfl 0 hO rfl hE28 h32 h33 (v := .bool true) (u := true) rfl rfl
  obtain ⟨w34, vs35, hst36, hE37, hop38⟩ := hobt
  refine GoR.op (hop38 Try.underlying4 rfl ti4 rfl rfl) rfl rfl ?_
  replace hO := hst36.own
  replace hi22 := hi22.ch hst36.ch
  replace hB := hB.trans hst36.fr
  refine GoR.nil ?_
  refine Go1.inBlock ?_
  refine Go1.region ?_
  refine GoR.op ((op_add rfl rfl (wrap_i64 (natbd h29 hi22.bd))) _) rfl rfl ?_
  refine GoR.op ((op_move rfl) _) rfl rfl ?_
  refine GoR.nil ?_
  exact hX1 _ H _ _ ⟨vs35, ⟨rfl, rfl, rfl, rfl, trivial⟩, hO, hE37, hi22, hB⟩
 ·replace H := ifn h29 H
  refine GoR.op ((fun w => opB (op_lss rfl rfl w) (decide_eq_false h29)) _) rfl rfl ?_
  refine GoR.nil ?_
  refine Go1.seq ?_
  refine Go1.condF rfl rfl ?_
  refine Go1.exit rfl ?_
  refine Go1.seq ?_
  refine Go1.region ?_
  refine GoR.op ((op_move rfl) _) rfl rfl ?_
  refine GoR.op ((op_assign rfl) _) rfl rfl ?_
  refine GoR.nil ?_
  have hobt := freeze 0 hO rfl hE28
  obtain ⟨hO1, hc41, hi39, hn40⟩ := hobt
  replace hi22 := hi22.ch hc41
  replace hB := hB.trans (Owns.dropFr _ _ 0)
  replace hO := hO1; clear hO1
  refine Go1.ret1 Try.func29 rfl ?_
  exact ⟨in1_26, p2, t.length, (congrArg (fun nn => Value.slice p2 nn t.length) hn40), hB.same, (hi39.ch (Ch.weak _ _ _)), H⟩
theorem body30 : Body Try.prog 30 := ⟨Try.f30, Try.func30, rfl, by kernel_rfl⟩
theorem walk_ref15_Left {A : List Nat} {w0 : World} {p_t : Option Addr} {c_t : Nat} {t : List (List Int)} {x : Int} (hA : ∀ b ∈ A, b < w0.heap.size) (h_t : ISl (Rp.sl (Rp.int .i64)) A w0 p_t c_t t) {K : List Bool → Prop} (H : ref15_Left t x K) :
    CallsV Try.prog 30 #[.slice p_t t.length c_t, .int .i64 x] w0 (fun v w' => ∃ (r0 : List Bool), ∃ (p_r0 : Option Addr), ∃ (c_r0 : Nat), v = .slice p_r0 r0.length c_r0 ∧ Same w0 w' ∧ ISl (Rp.bool) A w' p_r0 c_r0 r0 ∧ K r0) := by
 refine CallsV.of (l := [.slice p_t t.length c_t, .int .i64 x]) Try.func30 rfl Try.ntmps30 rfl ?_
 have hO := Owns.start hA
 have hB := Fr.refl (bl []) w0
 unfold ref15_Left at H
 replace h_t := h_t.ch (Ch.start A w0)
 refine Go1.seq ?_
 refine Go1.region ?_
 refine GoR.op ((op_assign rfl) _) rfl rfl ?_
 refine GoR.nil ?_
 refine Go1.seq ?_
 refine Go1.region ?_
 refine GoR.op ((op_move rfl) _) rfl rfl ?_
 refine GoR.op ((op_len Try.underlying22 rfl) _) rfl rfl ?_
 replace H := H h_t.bd
 obtain ⟨h8, H⟩ := H
 obtain ⟨h9, H⟩ := H
 have hobt := omake (n := (t.length : Int)) (r := Rp.bool) (d := false) Try.underlying38 ti4 (fun _ _ => rfl) rfl hO h8 h9 (by decide)
 obtain ⟨w1, p2, vs3, hst4, hE5, hs6, hop7⟩ := hobt
 refine GoR.op (hop7 rfl rfl) rfl rfl ?_
 replace hO := hst4.own
 replace h_t := h_t.ch hst4.ch
 replace hB := hB.trans hst4.fr
 refine GoR.op ((op_assign rfl) _) rfl rfl ?_
 refine GoR.nil ?_
 refine Go1.seq ?_
 refine Go1.region ?_
 refine GoR.op ((op_move rfl) _) rfl rfl ?_
 refine GoR.op ((op_move rfl) _) rfl rfl ?_
 obtain ⟨h11, H⟩ := H
 obtain ⟨h12, H⟩ := H
 refine GoR.op ((op_index Try.underlying38 ti4 rfl rfl h11 (ltn (hE5.neq hO 0 rfl) h12) (hE5.psome hO 0 rfl h11 h12)) _) rfl rfl ?_
 have hobt := ost (r := Rp.bool) rfl 0 hO rfl hE5 h11 h12 (v := .bool true) (u := true) rfl rfl
 obtain ⟨w13, vs14, hst15, hE16, hop17⟩ := hobt
 refine GoR.op (hop17 Try.underlying4 rfl ti4 rfl rfl) rfl rfl ?_
 replace hO := hst15.own
 replace h_t := h_t.ch hst15.ch
 replace hB := hB.trans hst15.fr
 refine GoR.nil ?_
 refine Go1.seq ?_
 refine Go1.seq ?_
 refine Go1.region ?_
 refine GoR.op ((op_move rfl) _) rfl rfl ?_
 refine GoR.op ((op_len Try.underlying22 rfl) _) rfl rfl ?_
 refine GoR.op ((op_move rfl) _) rfl rfl ?_
 refine GoR.nil ?_
 refine Go1.block ?_
 refine Go1.loopW (S := Nat × List Bool) (fun s σ w => ∃ (vs21 : List Value), agrees σ [(0, .slice p_t t.length c_t), (1, .int .i64 x), (5, .slice p2 t.length t.length), (14, .int .i64 (t.length : Int)), (15, .int .i64 ((s.1) : Int))] ∧ Owns w0.heap.size w [.row 4 1 p2 t.length t.length vs21] A ∧ Els (Rp.bool) (bl [.row 4 1 p2 t.length t.length vs21] ++ A) w vs21 (s.2) ∧ ISl (Rp.sl (Rp.int .i64)) (bl [.row 4 1 p2 t.length t.length vs21] ++ A) w p_t c_t t ∧ Fr (bl []) w0 (bl [.row 4 1 p2 t.length t.length vs21]) w) H ⟨vs14, ⟨rfl, rfl, rfl, rfl, rfl, trivial⟩, hO, hE16, h_t, hB⟩ ?_
 rintro X1 ⟨k1_19, in1_20⟩ H hX1 σ w18 ⟨vs21, hag, hO, hE22, h_t, hB⟩
 dsimp only at H
 refine Go1.keep [(0, .slice p_t t.length c_t), (1, .int .i64 x), (5, .slice p2 t.length t.length), (14, .int .i64 (t.length : Int)), (15, .int .i64 (k1_19 : Int))] hag ?_
 refine Go1.seq ?_
 refine Go1.region ?_
 by_cases h23 : (k1_19 : Int) < (t.length : Int)
 ·replace H := ifp h23 H
  refine GoR.op ((fun w => opB (op_lss rfl rfl w) (decide_eq_true h23)) _) rfl rfl ?_
  refine GoR.nil ?_
  refine Go1.seq ?_
  refine Go1.condT rfl rfl ?_
  refine Go1.skip ?_
  refine Go1.seq ?_
  refine Go1.block ?_
  refine Go1.seq ?_
  refine Go1.region ?_
  refine GoR.op ((op_move rfl) _) rfl rfl ?_
  refine GoR.op ((op_assign rfl) _) rfl rfl ?_
  refine GoR.nil ?_
  refine Go1.region ?_
  refine GoR.op ((op_move rfl) _) rfl rfl ?_
  refine GoR.op ((op_move rfl) _) rfl rfl ?_
  refine GoR.op ((op_move rfl) _) rfl rfl ?_
  obtain ⟨h24, H⟩ := H
  obtain ⟨h25, H⟩ := H
  refine GoR.op ((op_index Try.underlying22 ti25 rfl rfl h24 h25 (h_t.some_ h24 h25)) _) rfl rfl ?_
  have hobt := ldSl h_t h24 h25
  obtain ⟨p26, c27, hi28, hl29⟩ := hobt
  refine GoR.op ((hl29 Try.underlying25 rfl rfl) _ (Same.refl _)) rfl rfl ?_
  refine GoR.op ((op_move rfl) _) rfl rfl ?_
  obtain ⟨h30, H⟩ := H
  obtain ⟨h31, H⟩ := H
  refine GoR.op ((op_index Try.underlying25 ti3 rfl rfl h30 h31 (hi28.some_ h30 h31)) _) rfl rfl ?_
  refine GoR.op ((ldInt hi28 h30 h31 Try.underlying3 rfl rfl) _ (Same.refl _)) rfl rfl ?_
  obtain ⟨h32, H⟩ := H
  obtain ⟨h33, H⟩ := H
  refine GoR.op ((op_index Try.underlying38 ti4 rfl rfl h32 (ltn (hE22.neq hO 0 rfl) h33) (hE22.psome hO 0 rfl h32 h33)) _) rfl rfl ?_
  have hobt := ost (r := Rp.bool) rfl 0 hO rfl hE22 h32 h33 (v := .bool true) (u := true) rfl rfl
  obtain ⟨w34, vs35, hst36, hE37, hop38⟩ := hobt
  refine GoR.op (hop38 Try.underlying4 rfl ti4 rfl rfl) rfl rfl ?_
  replace hO := hst36.own
  replace h_t := h_t.ch hst36.ch
  replace hi28 := hi28.ch hst36.ch
  replace hB := hB.trans hst36.fr
  refine GoR.nil ?_
  refine Go1.inBlock ?_
  refine Go1.region ?_
  refine GoR.op ((op_add rfl rfl (wrap_i64 (natbd h23 h_t.bd))) _) rfl rfl ?_
  refine GoR.op ((op_move rfl) _) rfl rfl ?_
  refine GoR.nil ?_
  exact hX1 _ H _ _ ⟨vs35, ⟨rfl, rfl, rfl, rfl, rfl, trivial⟩, hO, hE37, h_t, hB⟩
 ·replace H := ifn h23 H
  refine GoR.op ((fun w => opB (op_lss rfl rfl w) (decide_eq_false h23)) _) rfl rfl ?_
  refine GoR.nil ?_
  refine Go1.seq ?_
  refine Go1.condF rfl rfl ?_
  refine Go1.exit rfl ?_
  refine Go1.seq ?_
  refine Go1.region ?_
  refine GoR.op ((op_move rfl) _) rfl rfl ?_
  refine GoR.op ((op_assign rfl) _) rfl rfl ?_
  refine GoR.nil ?_
  have hobt := freeze 0 hO rfl hE22
  obtain ⟨hO1, hc41, hi39, hn40⟩ := hobt
  replace h_t := h_t.ch hc41
  replace hB := hB.trans (Owns.dropFr _ _ 0)
  replace hO := hO1; clear hO1
  refine Go1.ret1 Try.func30 rfl ?_
  exact ⟨in1_20, p2, t.length, (congrArg (fun nn => Value.slice p2 nn t.length) hn40), hB.same, (hi39.ch (Ch.weak _ _ _)), H⟩
theorem body31 : Body Try.prog 31 := ⟨Try.f31, Try.func31, rfl, by kernel_rfl⟩
theorem walk_ref15_Both {A : List Nat} {w0 : World} {p_t : Option Addr} {c_t : Nat} {t : List (List Int)} {x : Int} (hA : ∀ b ∈ A, b < w0.heap.size) (h_t : ISl (Rp.sl (Rp.int .i64)) A w0 p_t c_t t) {K : List Bool → Prop} (H : ref15_Both t x K) :
    CallsV Try.prog 31 #[.slice p_t t.length c_t, .int .i64 x] w0 (fun v w' => ∃ (r0 : List Bool), ∃ (p_r0 : Option Addr), ∃ (c_r0 : Nat), v = .slice p_r0 r0.length c_r0 ∧ Same w0 w' ∧ ISl (Rp.bool) A w' p_r0 c_r0 r0 ∧ K r0) := by
 refine CallsV.of (l := [.slice p_t t.length c_t, .int .i64 x]) Try.func31 rfl Try.ntmps31 rfl ?_
 have hO := Owns.start hA
 have hB := Fr.refl (bl []) w0
 unfold ref15_Both at H
 replace h_t := h_t.ch (Ch.start A w0)
 refine Go1.seq ?_
 refine Go1.region ?_
 refine GoR.op ((op_assign rfl) _) rfl rfl ?_
 refine GoR.nil ?_
 refine Go1.seq ?_
 refine Go1.region ?_
 refine GoR.op ((op_move rfl) _) rfl rfl ?_
 refine GoR.op ((op_len Try.underlying22 rfl) _) rfl rfl ?_
 replace H := H h_t.bd
 obtain ⟨h8, H⟩ := H
 obtain ⟨h9, H⟩ := H
 have hobt := omake (n := (t.length : Int)) (r := Rp.bool) (d := false) Try.underlying38 ti4 (fun _ _ => rfl) rfl hO h8 h9 (by decide)
 obtain ⟨w1, p2, vs3, hst4, hE5, hs6, hop7⟩ := hobt
 refine GoR.op (hop7 rfl rfl) rfl rfl ?_
 replace hO := hst4.own
 replace h_t := h_t.ch hst4.ch
 replace hB := hB.trans hst4.fr
 refine GoR.op ((op_assign rfl) _) rfl rfl ?_
 refine GoR.nil ?_
 refine Go1.seq ?_
 refine Go1.seq ?_
 refine Go1.region ?_
 refine GoR.op ((op_move rfl) _) rfl rfl ?_
 refine GoR.op ((op_move rfl) _) rfl rfl ?_
 refine GoR.call (op_call body30 rfl (walk_ref15_Left hO.lt h_t H)) rfl rfl ?_
 rintro v15 w12 ⟨r11, p_r11, c_r11, rfl, hs13, h_r11, H⟩
 have hst16 := Stp.same hO hs13
 replace hE5 := hE5.ch hst16.ch
 replace hO := hst16.own
 replace h_t := h_t.ch hst16.ch
 replace hB := hB.trans hst16.fr
 refine GoR.op ((op_len Try.underlying38 rfl) _) rfl rfl ?_
 replace H := H h_r11.bd
 refine GoR.op ((op_move rfl) _) rfl rfl ?_
 refine GoR.nil ?_
 refine Go1.block ?_
 refine Go1.loopW (S := Nat × List Bool) (fun s σ w => ∃ (vs20 : List Value), agrees σ [(0, .slice p_t t.length c_t), (5, .slice p2 t.length t.length), (15, .slice p_r11 r11.length c_r11), (16, .int .i64 (r11.length : Int)), (17, .int .i64 ((s.1) : Int))] ∧ Owns w0.heap.size w [.row 4 1 p2 t.length t.length vs20] A ∧ Els (Rp.bool) (bl [.row 4 1 p2 t.length t.length vs20] ++ A) w vs20 (s.2) ∧ ISl (Rp.sl (Rp.int .i64)) (bl [.row 4 1 p2 t.length t.length vs20] ++ A) w p_t c_t t ∧ ISl (Rp.bool) (bl [.row 4 1 p2 t.length t.length vs20] ++ A) w p_r11 c_r11 r11 ∧ Fr (bl []) w0 (bl [.row 4 1 p2 t.length t.length vs20]) w) H ⟨vs3, ⟨rfl, rfl, rfl, rfl, rfl, trivial⟩, hO, hE5, h_t, h_r11, hB⟩ ?_
 rintro X1 ⟨k1_18, in1_19⟩ H hX1 σ w17 ⟨vs20, hag, hO, hE21, h_t, h_r11, hB⟩
 dsimp only at H
 refine Go1.keep [(0, .slice p_t t.length c_t), (5, .slice p2 t.length t.length), (15, .slice p_r11 r11.length c_r11), (16, .int .i64 (r11.length : Int)), (17, .int .i64 (k1_18 : Int))] hag ?_
 refine Go1.seq ?_
 refine Go1.region ?_
 by_cases h22 : (k1_18 : Int) < (r11.length : Int)
 ·replace H := ifp h22 H
  refine GoR.op ((fun w => opB (op_lss rfl rfl w) (decide_eq_true h22)) _) rfl rfl ?_
  refine GoR.nil ?_
  refine Go1.seq ?_
  refine Go1.condT rfl rfl ?_
  refine Go1.skip ?_
  refine Go1.seq ?_
  refine Go1.block ?_
  refine Go1.seq ?_
  refine Go1.region ?_
  refine GoR.op ((op_move rfl) _) rfl rfl ?_
  obtain ⟨h23, H⟩ := H
  obtain ⟨h24, H⟩ := H
  refine GoR.op ((op_index Try.underlying38 ti4 rfl rfl h23 h24 (h_r11.some_ h23 h24)) _) rfl rfl ?_
  by_cases h25 : ix r11 (k1_18 : Int) = true
  ·replace H := ifp h25 H
   refine GoR.op (opB ((ldBool h_r11 h23 h24 Try.underlying4 rfl rfl) _ (Same.refl _)) (h25)) rfl rfl ?_
   refine GoR.op ((op_assign rfl) _) rfl rfl ?_
   refine GoR.op ((op_assign rfl) _) rfl rfl ?_
   refine GoR.nil ?_
   refine Go1.seq ?_
   refine Go1.seq ?_
   refine Go1.region ?_
   refine GoR.op ((op_move rfl) _) rfl rfl ?_
   refine GoR.op ((op_not rfl) _) rfl rfl ?_
   refine GoR.nil ?_
   refine Go1.condF rfl rfl ?_
   refine Go1.skip ?_
   refine Go1.seq ?_
   refine Go1.region ?_
   refine GoR.op ((op_move rfl) _) rfl rfl ?_
   refine GoR.op ((op_move rfl) _) rfl rfl ?_
   obtain ⟨h26, H⟩ := H
   obtain ⟨h27, H⟩ := H
   refine GoR.op ((op_index Try.underlying38 ti4 rfl rfl h26 (ltn (hE21.neq hO 0 rfl) h27) (hE21.psome hO 0 rfl h26 h27)) _) rfl rfl ?_
   have hobt := ost (r := Rp.bool) rfl 0 hO rfl hE21 h26 h27 (v := .bool true) (u := true) rfl rfl
   obtain ⟨w28, vs29, hst30, hE31, hop32⟩ := hobt
   refine GoR.op (hop32 Try.underlying4 rfl ti4 rfl rfl) rfl rfl ?_
   replace hO := hst30.own
   replace h_t := h_t.ch hst30.ch
   replace h_r11 := h_r11.ch hst30.ch
   replace hB := hB.trans hst30.fr
   refine GoR.nil ?_
   refine Go1.seq ?_
   refine Go1.region ?_
   refine GoR.op ((op_move rfl) _) rfl rfl ?_
   refine GoR.op ((op_move rfl) _) rfl rfl ?_
   obtain ⟨h33, H⟩ := H
   obtain ⟨h34, H⟩ := H
   refine GoR.op ((op_index Try.underlying22 ti25 rfl rfl h33 h34 (h_t.some_ h33 h34)) _) rfl rfl ?_
   have hobt := ldSl h_t h33 h34
   obtain ⟨p35, c36, hi37, hl38⟩ := hobt
   refine GoR.op ((hl38 Try.underlying25 rfl rfl) _ (Same.refl _)) rfl rfl ?_
   refine GoR.op ((op_len Try.underlying25 rfl) _) rfl rfl ?_
   replace H := H hi37.bd
   refine GoR.op ((op_move rfl) _) rfl rfl ?_
   refine GoR.nil ?_
   refine Go1.block ?_
   refine Go1.loopW (S := Nat × List Bool) (fun s σ w => ∃ (vs42 : List Value), agrees σ [(0, .slice p_t t.length c_t), (5, .slice p2 t.length t.length), (15, .slice p_r11 r11.length c_r11), (16, .int .i64 (r11.length : Int)), (17, .int .i64 (k1_18 : Int)), (30, .slice p35 ((ix t (k1_18 : Int)).length) c36), (31, .int .i64 ((ix t (k1_18 : Int)).length : Int)), (32, .int .i64 ((s.1) : Int))] ∧ Owns w0.heap.size w [.row 4 1 p2 t.length t.length vs42] A ∧ Els (Rp.bool) (bl [.row 4 1 p2 t.length t.length vs42] ++ A) w vs42 (s.2) ∧ ISl (Rp.sl (Rp.int .i64)) (bl [.row 4 1 p2 t.length t.length vs42] ++ A) w p_t c_t t ∧ ISl (Rp.bool) (bl [.row 4 1 p2 t.length t.length vs42] ++ A) w p_r11 c_r11 r11 ∧ ISl (Rp.int .i64) (bl [.row 4 1 p2 t.length t.length vs42] ++ A) w p35 c36 (ix t (k1_18 : Int)) ∧ Fr (bl []) w0 (bl [.row 4 1 p2 t.length t.length vs42]) w) H ⟨vs29, ⟨rfl, rfl, rfl, rfl, rfl, rfl, rfl, rfl, trivial⟩, hO, hE31, h_t, h_r11, hi37, hB⟩ ?_
   rintro X2 ⟨k2_40, in2_41⟩ H hX2 σ w39 ⟨vs42, hag, hO, hE43, h_t, h_r11, hi37, hB⟩
   dsimp only at H
   refine Go1.keep [(0, .slice p_t t.length c_t), (5, .slice p2 t.length t.length), (15, .slice p_r11 r11.length c_r11), (16, .int .i64 (r11.length : Int)), (17, .int .i64 (k1_18 : Int)), (30, .slice p35 ((ix t (k1_18 : Int)).length) c36), (31, .int .i64 ((ix t (k1_18 : Int)).length : Int)), (32, .int .i64 (k2_40 : Int))] hag ?_
   refine Go1.seq ?_
   refine Go1.region ?_
   by_cases h44 : (k2_40 : Int) < ((ix t (k1_18 : Int)).length : Int)
   ·replace H := ifp h44 H
    refine GoR.op ((fun w => opB (op_lss rfl rfl w) (decide_eq_true h44)) _) rfl rfl ?_
    refine GoR.nil ?_
    refine Go1.seq ?_
    refine Go1.condT rfl rfl ?_
    refine Go1.skip ?_
    refine Go1.seq ?_
    refine Go1.block ?_
    refine Go1.seq ?_
    refine Go1.region ?_
    obtain ⟨h45, H⟩ := H
    obtain ⟨h46, H⟩ := H
    refine GoR.op ((op_index Try.underlying25 ti3 rfl rfl h45 h46 (hi37.some_ h45 h46)) _) rfl rfl ?_
    refine GoR.op ((ldInt hi37 h45 h46 Try.underlying3 rfl rfl) _ (Same.refl _)) rfl rfl ?_
    refine GoR.op ((op_assign rfl) _) rfl rfl ?_
    refine GoR.nil ?_
    refine Go1.region ?_
    refine GoR.op ((op_move rfl) _) rfl rfl ?_
    refine GoR.op ((op_move rfl) _) rfl rfl ?_
    obtain ⟨h47, H⟩ := H
    obtain ⟨h48, H⟩ := H
    refine GoR.op ((op_index Try.underlying38 ti4 rfl rfl h47 (ltn (hE43.neq hO 0 rfl) h48) (hE43.psome hO 0 rfl h47 h48)) _) rfl rfl ?_
    have hobt := ost (r := Rp.bool) rfl 0 hO rfl hE43 h47 h48 (v := .bool true) (u := true) rfl rfl
    obtain ⟨w49, vs50, hst51, hE52, hop53⟩ := hobt
    refine GoR.op (hop53 Try.underlying4 rfl ti4 rfl rfl) rfl rfl ?_
    replace hO := hst51.own
    replace h_t := h_t.ch hst51.ch
    replace h_r11 := h_r11.ch hst51.ch
    replace hi37 := hi37.ch hst51.ch
    replace hB := hB.trans hst51.fr
    refine GoR.nil ?_
    refine Go1.inBlock ?_
    refine Go1.region ?_
    refine GoR.op ((op_add rfl rfl (wrap_i64 (natbd h44 hi37.bd))) _) rfl rfl ?_
    refine GoR.op ((op_move rfl) _) rfl rfl ?_
    refine GoR.nil ?_
    exact hX2 _ H _ _ ⟨vs50, ⟨rfl, rfl, rfl, rfl, rfl, rfl, rfl, rfl, trivial⟩, hO, hE52, h_t, h_r11, hi37, hB⟩
   ·replace H := ifn h44 H
    refine GoR.op ((fun w => opB (op_lss rfl rfl w) (decide_eq_false h44)) _) rfl rfl ?_
    refine GoR.nil ?_
    refine Go1.seq ?_
    refine Go1.condF rfl rfl ?_
    refine Go1.exit rfl ?_
    refine Go1.inBlock ?_
    refine Go1.region ?_
    refine GoR.op ((op_add rfl rfl (wrap_i64 (natbd h22 h_r11.bd))) _) rfl rfl ?_
    refine GoR.op ((op_move rfl) _) rfl rfl ?_
    refine GoR.nil ?_
    exact hX1 _ H _ _ ⟨vs42, ⟨rfl, rfl, rfl, rfl, rfl, trivial⟩, hO, hE43, h_t, h_r11, hB⟩
  ·replace H := ifn h25 H
   refine GoR.op (opB ((ldBool h_r11 h23 h24 Try.underlying4 rfl rfl) _ (Same.refl _)) (Bool.eq_false_iff.2 h25)) rfl rfl ?_
   refine GoR.op ((op_assign rfl) _) rfl rfl ?_
   refine GoR.op ((op_assign rfl) _) rfl rfl ?_
   refine GoR.nil ?_
   refine Go1.seq ?_
   refine Go1.seq ?_
   refine Go1.region ?_
   refine GoR.op ((op_move rfl) _) rfl rfl ?_
   refine GoR.op ((op_not rfl) _) rfl rfl ?_
   refine GoR.nil ?_
   refine Go1.condT rfl rfl ?_
   refine Go1.exit rfl ?_
   refine Go1.region ?_
   refine GoR.op ((op_add rfl rfl (wrap_i64 (natbd h22 h_r11.bd))) _) rfl rfl ?_
   refine GoR.op ((op_move rfl) _) rfl rfl ?_
   refine GoR.nil ?_
   exact hX1 _ H _ _ ⟨vs20, ⟨rfl, rfl, rfl, rfl, rfl, trivial⟩, hO, hE21, h_t, h_r11, hB⟩
 ·replace H := ifn h22 H
  refine GoR.op ((fun w => opB (op_lss rfl rfl w) (decide_eq_false h22)) _) rfl rfl ?_
  refine GoR.nil ?_
  refine Go1.seq ?_
  refine Go1.condF rfl rfl ?_
  refine Go1.exit rfl ?_
  refine Go1.seq ?_
  refine Go1.region ?_
  refine GoR.op ((op_move rfl) _) rfl rfl ?_
  refine GoR.op ((op_assign rfl) _) rfl rfl ?_
  refine GoR.nil ?_
  have hobt := freeze 0 hO rfl hE21
  obtain ⟨hO1, hc56, hi54, hn55⟩ := hobt
  replace h_t := h_t.ch hc56
  replace h_r11 := h_r11.ch hc56
  replace hB := hB.trans (Owns.dropFr _ _ 0)
  replace hO := hO1; clear hO1
  refine Go1.ret1 Try.func31 rfl ?_
  exact ⟨in1_19, p2, t.length, (congrArg (fun nn => Value.slice p2 nn t.length) hn55), hB.same, (hi54.ch (Ch.weak _ _ _)), H⟩
theorem body54 : Body Try.prog 54 := ⟨Try.f54, Try.func54, rfl, by kernel_rfl⟩
theorem walk_ref15_ideals {A : List Nat} {w0 : World} {p_t : Option Addr} {c_t : Nat} {t : List (List Int)} {which : Int} (hA : ∀ b ∈ A, b < w0.heap.size) (h_t : ISl (Rp.sl (Rp.int .i64)) A w0 p_t c_t t) {K : List (List Bool) → Prop} (H : ref15_ideals t which K) :
    CallsV Try.prog 54 #[.slice p_t t.length c_t, .int .u8 which] w0 (fun v w' => ∃ (r0 : List (List Bool)), ∃ (p_r0 : Option Addr), ∃ (c_r0 : Nat), v = .slice p_r0 r0.length c_r0 ∧ Same w0 w' ∧ ISl (Rp.sl (Rp.bool)) A w' p_r0 c_r0 r0 ∧ K r0) := by
 refine CallsV.of (l := [.slice p_t t.length c_t, .int .u8 which]) Try.func54 rfl Try.ntmps54 rfl ?_
 have hO := Owns.start hA
 have hB := Fr.refl (bl []) w0
 unfold ref15_ideals at H
 replace h_t := h_t.ch (Ch.start A w0)
 refine Go1.seq ?_
 refine Go1.region ?_
 refine GoR.op ((op_assign rfl) _) rfl rfl ?_
 refine GoR.nil ?_
 refine Go1.seq ?_
 refine Go1.region ?_
 refine GoR.op ((op_assign rfl) _) rfl rfl ?_
 refine GoR.nil ?_
 refine Go1.seq ?_
 refine Go1.seq ?_
 refine Go1.region ?_
 refine GoR.op ((op_move rfl) _) rfl rfl ?_
 refine GoR.op ((op_len Try.underlying22 rfl) _) rfl rfl ?_
 replace H := H h_t.bd
 refine GoR.op ((op_move rfl) _) rfl rfl ?_
 refine GoR.nil ?_
 refine Go1.block ?_
 have hst2 := Stp.nil (e := 38) (r := 1) hO
 replace hO := hst2.own
 replace h_t := h_t.ch hst2.ch
 replace hB := hB.trans hst2.fr
 have hE3 := Els.nil (Rp.sl (Rp.bool)) (bl (.row 38 1 none 0 0 [] :: []) ++ A) w0
 refine Go1.loopW (S := Nat × List (List Bool)) (fun s σ w => ∃ (n11 : Nat), ∃ (p9 : Option Addr), ∃ (c10 : Nat), ∃ (vs7 : List Value), agrees σ [(0, .slice p_t t.length c_t), (1, .int .u8 which), (5, .slice p9 n11 c10), (8, .int .i64 (t.length : Int)), (9, .int .i64 ((s.1) : Int))] ∧ Owns w0.heap.size w [.row 38 1 p9 n11 c10 vs7] A ∧ Els (Rp.sl (Rp.bool)) (bl [.row 38 1 p9 n11 c10 vs7] ++ A) w vs7 (s.2) ∧ ISl (Rp.sl (Rp.int .i64)) (bl [.row 38 1 p9 n11 c10 vs7] ++ A) w p_t c_t t ∧ Fr (bl []) w0 (bl [.row 38 1 p9 n11 c10 vs7]) w) H ⟨0, none, 0, [], ⟨rfl, rfl, rfl, rfl, rfl, trivial⟩, hO, hE3, h_t, hB⟩ ?_
 rintro X1 ⟨k1_5, out1_6⟩ H hX1 σ w4 ⟨n11, p9, c10, vs7, hag, hO, hE8, h_t, hB⟩
 dsimp only at H
 refine Go1.keep [(0, .slice p_t t.length c_t), (1, .int .u8 which), (5, .slice p9 n11 c10), (8, .int .i64 (t.length : Int)), (9, .int .i64 (k1_5 : Int))] hag ?_
 refine Go1.seq ?_
 refine Go1.region ?_
 by_cases h12 : (k1_5 : Int) < (t.length : Int)
 ·replace H := ifp h12 H
  refine GoR.op ((fun w => opB (op_lss rfl rfl w) (decide_eq_true h12)) _) rfl rfl ?_
  refine GoR.nil ?_
  refine Go1.seq ?_
  refine Go1.condT rfl rfl ?_
  refine Go1.skip ?_
  refine Go1.seq ?_
  refine Go1.block ?_
  refine Go1.seq ?_
  refine Go1.region ?_
  refine GoR.op ((op_move rfl) _) rfl rfl ?_
  refine GoR.op ((op_assign rfl) _) rfl rfl ?_
  refine GoR.nil ?_
  refine Go1.seq ?_
  refine Go1.region ?_
  refine GoR.op ((op_move rfl) _) rfl rfl ?_
  refine GoR.nil ?_
  refine Go1.block ?_
  refine Go1.seq ?_
  refine Go1.region ?_
  by_cases h13 : which = (82 : Int)
  ·replace H := ifp h13 H
   refine GoR.op ((fun w => opB (op_eql rfl rfl w) (decide_eq_true h13)) _) rfl rfl ?_
   refine GoR.op ((op_assign rfl) _) rfl rfl ?_
   refine GoR.nil ?_
   refine Go1.condT rfl rfl ?_
   refine Go1.region ?_
   refine GoR.op ((op_move rfl) _) rfl rfl ?_
   refine GoR.op ((op_move rfl) _) rfl rfl ?_
   refine GoR.op ((op_move rfl) _) rfl rfl ?_
   refine GoR.call (op_call body29 rfl (walk_ref15_Right hO.lt h_t H)) rfl rfl ?_
   rintro v18 w15 ⟨r14, p_r14, c_r14, rfl, hs16, h_r14, H⟩
   have hst19 := Stp.same hO hs16
   replace hE8 := hE8.ch hst19.ch
   replace hO := hst19.own
   replace h_t := h_t.ch hst19.ch
   replace hB := hB.trans hst19.fr
   have hobt := obuild (r := Rp.sl (Rp.bool)) (n := 1) (parts := [(0, .slice p_r14 r14.length c_r14)]) (vs := [.slice p_r14 r14.length c_r14]) (xs := [r14]) rfl Try.underlying26 ti38 hO (by decide) (by kernel_rfl) (Els.cons rfl ⟨p_r14, c_r14, rfl, h_r14⟩ (Els.nil _ _ _) (by simp [mx])) rfl
   obtain ⟨w20, p21, hst22, hE23, hs24, hop25⟩ := hobt
   refine GoR.op (hop25 rfl) rfl rfl ?_
   replace hE8 := hE8.ch hst22.ch
   replace hO := hst22.own
   replace h_t := h_t.ch hst22.ch
   replace h_r14 := h_r14.ch hst22.ch
   replace hB := hB.trans hst22.fr
   have hobt := freeze 0 hO rfl hE23
   obtain ⟨hO1, hc29, hi27, hn28⟩ := hobt
   replace h_t := h_t.ch hc29
   replace h_r14 := h_r14.ch hc29
   replace hE8 := hE8.ch hc29
   replace hB := hB.trans (Owns.dropFr _ _ 0)
   replace hO := hO1; clear hO1
   obtain ⟨h30, H⟩ := H
   have hobt := oapp Try.underlying26 ti38 rfl 0 hO rfl hE8 hi27 hn28 h30 (by decide)
   obtain ⟨w31, p32, c33, vs34, hst35, hE36, hop37⟩ := hobt
   refine GoR.op (hop37 rfl rfl) rfl rfl ?_
   replace hO := hst35.own
   replace h_t := h_t.ch hst35.ch
   replace h_r14 := h_r14.ch hst35.ch
   replace hi27 := hi27.ch hst35.ch
   replace hB := hB.trans hst35.fr
   refine GoR.op ((op_assign rfl) _) rfl rfl ?_
   refine GoR.nil ?_
   refine Go1.inBlock ?_
   refine Go1.inBlock ?_
   refine Go1.region ?_
   refine GoR.op ((op_add rfl rfl (wrap_i64 (natbd h12 h_t.bd))) _) rfl rfl ?_
   refine GoR.op ((op_move rfl) _) rfl rfl ?_
   refine GoR.nil ?_
   exact hX1 _ H _ _ ⟨n11 + 1, p32, c33, vs34, ⟨rfl, rfl, rfl, rfl, rfl, trivial⟩, hO, hE36, h_t, hB⟩
  ·replace H := ifn h13 H
   refine GoR.op ((fun w => opB (op_eql rfl rfl w) (decide_eq_false h13)) _) rfl rfl ?_
   refine GoR.op ((op_assign rfl) _) rfl rfl ?_
   refine GoR.nil ?_
   refine Go1.condF rfl rfl ?_
   refine Go1.seq ?_
   refine Go1.region ?_
   by_cases h39 : which = (76 : Int)
   ·replace H := ifp h39 H
    refine GoR.op ((fun w => opB (op_eql rfl rfl w) (decide_eq_true h39)) _) rfl rfl ?_
    refine GoR.op ((op_assign rfl) _) rfl rfl ?_
    refine GoR.nil ?_
    refine Go1.condT rfl rfl ?_
    refine Go1.region ?_
    refine GoR.op ((op_move rfl) _) rfl rfl ?_
    refine GoR.op ((op_move rfl) _) rfl rfl ?_
    refine GoR.op ((op_move rfl) _) rfl rfl ?_
    refine GoR.call (op_call body30 rfl (walk_ref15_Left hO.lt h_t H)) rfl rfl ?_
    rintro v44 w41 ⟨r40, p_r40, c_r40, rfl, hs42, h_r40, H⟩
    have hst45 := Stp.same hO hs42
    replace hE8 := hE8.ch hst45.ch
    replace hO := hst45.own
    replace h_t := h_t.ch hst45.ch
    replace hB := hB.trans hst45.fr
    have hobt := obuild (r := Rp.sl (Rp.bool)) (n := 1) (parts := [(0, .slice p_r40 r40.length c_r40)]) (vs := [.slice p_r40 r40.length c_r40]) (xs := [r40]) rfl Try.underlying26 ti38 hO (by decide) (by kernel_rfl) (Els.cons rfl ⟨p_r40, c_r40, rfl, h_r40⟩ (Els.nil _ _ _) (by simp [mx])) rfl
    obtain ⟨w46, p47, hst48, hE49, hs50, hop51⟩ := hobt
    refine GoR.op (hop51 rfl) rfl rfl ?_
    replace hE8 := hE8.ch hst48.ch
    replace hO := hst48.own
    replace h_t := h_t.ch hst48.ch
    replace h_r40 := h_r40.ch hst48.ch
    replace hB := hB.trans hst48.fr
    have hobt := freeze 0 hO rfl hE49
    obtain ⟨hO1, hc55, hi53, hn54⟩ := hobt
    replace h_t := h_t.ch hc55
    replace h_r40 := h_r40.ch hc55
    replace hE8 := hE8.ch hc55
    replace hB := hB.trans (Owns.dropFr _ _ 0)
    replace hO := hO1; clear hO1
    obtain ⟨h56, H⟩ := H
    have hobt := oapp Try.underlying26 ti38 rfl 0 hO rfl hE8 hi53 hn54 h56 (by decide)
    obtain ⟨w57, p58, c59, vs60, hst61, hE62, hop63⟩ := hobt
    refine GoR.op (hop63 rfl rfl) rfl rfl ?_
    replace hO := hst61.own
    replace h_t := h_t.ch hst61.ch
    replace h_r40 := h_r40.ch hst61.ch
    replace hi53 := hi53.ch hst61.ch
    replace hB := hB.trans hst61.fr
    refine GoR.op ((op_assign rfl) _) rfl rfl ?_
    refine GoR.nil ?_
    refine Go1.inBlock ?_
    refine Go1.inBlock ?_
    refine Go1.region ?_
    refine GoR.op ((op_add rfl rfl (wrap_i64 (natbd h12 h_t.bd))) _) rfl rfl ?_
    refine GoR.op ((op_move rfl) _) rfl rfl ?_
    refine GoR.nil ?_
    exact hX1 _ H _ _ ⟨n11 + 1, p58, c59, vs60, ⟨rfl, rfl, rfl, rfl, rfl, trivial⟩, hO, hE62, h_t, hB⟩
   ·replace H := ifn h39 H
    refine GoR.op ((fun w => opB (op_eql rfl rfl w) (decide_eq_false h39)) _) rfl rfl ?_
    refine GoR.op ((op_assign rfl) _) rfl rfl ?_
    refine GoR.nil ?_
    refine Go1.condF rfl rfl ?_
    refine Go1.region ?_
    refine GoR.op ((op_move rfl) _) rfl rfl ?_
    refine GoR.op ((op_move rfl) _) rfl rfl ?_
    refine GoR.op ((op_move rfl) _) rfl rfl ?_
    refine GoR.call (op_call body31 rfl (walk_ref15_Both hO.lt h_t H)) rfl rfl ?_
    rintro v69 w66 ⟨r65, p_r65, c_r65, rfl, hs67, h_r65, H⟩
    have hst70 := Stp.same hO hs67
    replace hE8 := hE8.ch hst70.ch
    replace hO := hst70.own
    replace h_t := h_t.ch hst70.ch
    replace hB := hB.trans hst70.fr
    have hobt := obuild (r := Rp.sl (Rp.bool)) (n := 1) (parts := [(0, .slice p_r65 r65.length c_r65)]) (vs := [.slice p_r65 r65.length c_r65]) (xs := [r65]) rfl Try.underlying26 ti38 hO (by decide) (by kernel_rfl) (Els.cons rfl ⟨p_r65, c_r65, rfl, h_r65⟩ (Els.nil _ _ _) (by simp [mx])) rfl
    obtain ⟨w71, p72, hst73, hE74, hs75, hop76⟩ := hobt
    refine GoR.op (hop76 rfl) rfl rfl ?_
    replace hE8 := hE8.ch hst73.ch
    replace hO := hst73.own
    replace h_t := h_t.ch hst73.ch
    replace h_r65 := h_r65.ch hst73.ch
    replace hB := hB.trans hst73.fr
    have hobt := freeze 0 hO rfl hE74
    obtain ⟨hO1, hc80, hi78, hn79⟩ := hobt
    replace h_t := h_t.ch hc80
    replace h_r65 := h_r65.ch hc80
    replace hE8 := hE8.ch hc80
    replace hB := hB.trans (Owns.dropFr _ _ 0)
    replace hO := hO1; clear hO1
    obtain ⟨h81, H⟩ := H
    have hobt := oapp Try.underlying26 ti38 rfl 0 hO rfl hE8 hi78 hn79 h81 (by decide)
    obtain ⟨w82, p83, c84, vs85, hst86, hE87, hop88⟩ := hobt
    refine GoR.op (hop88 rfl rfl) rfl rfl ?_
    replace hO := hst86.own
    replace h_t := h_t.ch hst86.ch
    replace h_r65 := h_r65.ch hst86.ch
    replace hi78 := hi78.ch hst86.ch
    replace hB := hB.trans hst86.fr
    refine GoR.op ((op_assign rfl) _) rfl rfl ?_
    refine GoR.nil ?_
    refine Go1.inBlock ?_
    refine Go1.inBlock ?_
    refine Go1.region ?_
    refine GoR.op ((op_add rfl rfl (wrap_i64 (natbd h12 h_t.bd))) _) rfl rfl ?_
    refine GoR.op ((op_move rfl) _) rfl rfl ?_
    refine GoR.nil ?_
    exact hX1 _ H _ _ ⟨n11 + 1, p83, c84, vs85, ⟨rfl, rfl, rfl, rfl, rfl, trivial⟩, hO, hE87, h_t, hB⟩
 ·replace H := ifn h12 H
  refine GoR.op ((fun w => opB (op_lss rfl rfl w) (decide_eq_false h12)) _) rfl rfl ?_
  refine GoR.nil ?_
  refine Go1.seq ?_
  refine Go1.condF rfl rfl ?_
  refine Go1.exit rfl ?_
  refine Go1.seq ?_
  refine Go1.region ?_
  refine GoR.op ((op_move rfl) _) rfl rfl ?_
  refine GoR.op ((op_assign rfl) _) rfl rfl ?_
  refine GoR.nil ?_
  have hobt := freeze 0 hO rfl hE8
  obtain ⟨hO1, hc92, hi90, hn91⟩ := hobt
  replace h_t := h_t.ch hc92
  replace hB := hB.trans (Owns.dropFr _ _ 0)
  replace hO := hO1; clear hO1
  refine Go1.ret1 Try.func54 rfl ?_
  exact ⟨out1_6, p9, c10, (congrArg (fun nn => Value.slice p9 nn c10) hn91), hB.same, (hi90.ch (Ch.weak _ _ _)), H⟩
theorem body57 : Body Try.prog 57 := ⟨Try.f57, Try.func57, rfl, by kernel_rfl⟩
theorem walk_ref03_Canonical {A : List Nat} {w0 : World} {p_l : Option Addr} {c_l : Nat} {l : List Int} (hA : ∀ b ∈ A, b < w0.heap.size) (h_l : ISl (Rp.int .i64) A w0 p_l c_l l) {K : List Int → Prop} (H : ref03_Canonical l K) :
    CallsV Try.prog 57 #[.slice p_l l.length c_l] w0 (fun v w' => ∃ (r0 : List Int), ∃ (p_r0 : Option Addr), ∃ (c_r0 : Nat), v = .slice p_r0 r0.length c_r0 ∧ Same w0 w' ∧ ISl (Rp.int .i64) A w' p_r0 c_r0 r0 ∧ K r0) := by
 refine CallsV.of (l := [.slice p_l l.length c_l]) Try.func57 rfl Try.ntmps57 rfl ?_
 have hO := Owns.start hA
 have hB := Fr.refl (bl []) w0
 unfold ref03_Canonical at H
 replace h_l := h_l.ch (Ch.start A w0)
 refine Go1.seq ?_
 refine Go1.region ?_
 refine GoR.op ((op_assign rfl) _) rfl rfl ?_
 refine GoR.nil ?_
 refine Go1.seq ?_
 refine Go1.seq ?_
 refine Go1.region ?_
 refine GoR.op ((op_move rfl) _) rfl rfl ?_
 refine GoR.op ((op_len Try.underlying25 rfl) _) rfl rfl ?_
 replace H := H h_l.bd
 by_cases h1 : (4096 : Int) < (l.length : Int)
 ·replace H := ifp h1 H
  refine GoR.op ((fun w => opB (op_gtr rfl rfl w) (decide_eq_true h1)) _) rfl rfl ?_
  refine GoR.nil ?_
  refine Go1.condT rfl rfl ?_
  refine Go1.seq ?_
  refine Go1.region ?_
  refine GoR.op ((op_assign rfl) _) rfl rfl ?_
  refine GoR.nil ?_
  refine Go1.ret1 Try.func57 rfl ?_
  exact ⟨([] : List Int), none, 0, rfl, hB.same, (ISl.null _ _ _), H⟩
 ·replace H := ifn h1 H
  refine GoR.op ((fun w => opB (op_gtr rfl rfl w) (decide_eq_false h1)) _) rfl rfl ?_
  refine GoR.nil ?_
  refine Go1.condF rfl rfl ?_
  refine Go1.skip ?_
  refine Go1.seq ?_
  refine Go1.region ?_
  refine GoR.op ((op_move rfl) _) rfl rfl ?_
  refine GoR.op ((op_len Try.underlying25 rfl) _) rfl rfl ?_
  obtain ⟨h9, H⟩ := H
  obtain ⟨h10, H⟩ := H
  have hobt := omake (n := (l.length : Int)) (r := Rp.int .i64) (d := (0 : Int)) Try.underlying25 ti3 (fun _ _ => rfl) rfl hO h9 h10 (by decide)
  obtain ⟨w2, p3, vs4, hst5, hE6, hs7, hop8⟩ := hobt
  refine GoR.op (hop8 rfl rfl) rfl rfl ?_
  replace hO := hst5.own
  replace h_l := h_l.ch hst5.ch
  replace hB := hB.trans hst5.fr
  refine GoR.op ((op_assign rfl) _) rfl rfl ?_
  refine GoR.nil ?_
  refine Go1.seq ?_
  refine Go1.region ?_
  refine GoR.op ((op_assign rfl) _) rfl rfl ?_
  refine GoR.nil ?_
  refine Go1.seq ?_
  refine Go1.region ?_
  have hobt := omakeMap (fun a : Int => Value.int .i64 a) (fun a : Int => Value.int .i64 a) hO
  obtain ⟨w12, B13, hst14, hs15, hop16⟩ := hobt
  refine GoR.op hop16 rfl rfl ?_
  replace hE6 := hE6.ch hst14.ch
  replace hO := hst14.own
  replace h_l := h_l.ch hst14.ch
  replace hB := hB.trans hst14.fr
  refine GoR.op ((op_assign rfl) _) rfl rfl ?_
  refine GoR.nil ?_
  refine Go1.seq ?_
  refine Go1.seq ?_
  refine Go1.region ?_
  refine GoR.op ((op_move rfl) _) rfl rfl ?_
  refine GoR.op ((op_len Try.underlying25 rfl) _) rfl rfl ?_
  refine GoR.op ((op_move rfl) _) rfl rfl ?_
  refine GoR.nil ?_
  refine Go1.block ?_
  refine Go1.loopW (S := Nat × Nat × (List (Int × Int)) × List Int) (fun s σ w => ∃ (vs23 : List Value), agrees σ [(3, .slice p3 l.length l.length), (4, .int .i64 ((s.1) : Int)), (5, .map (some B13)), (17, .slice p_l l.length c_l), (18, .int .i64 (l.length : Int)), (19, .int .i64 ((s.2.1) : Int))] ∧ Owns w0.heap.size w [.any (mapE (fun a : Int => Value.int .i64 a) (fun a : Int => Value.int .i64 a) B13 (s.2.2.1)), .row 3 1 p3 l.length l.length vs23] A ∧ Els (Rp.int .i64) (bl [.any (mapE (fun a : Int => Value.int .i64 a) (fun a : Int => Value.int .i64 a) B13 (s.2.2.1)), .row 3 1 p3 l.length l.length vs23] ++ A) w vs23 (s.2.2.2) ∧ ISl (Rp.int .i64) (bl [.any (mapE (fun a : Int => Value.int .i64 a) (fun a : Int => Value.int .i64 a) B13 (s.2.2.1)), .row 3 1 p3 l.length l.length vs23] ++ A) w p_l c_l l ∧ Fr (bl []) w0 (bl [.any (mapE (fun a : Int => Value.int .i64 a) (fun a : Int => Value.int .i64 a) B13 (s.2.2.1)), .row 3 1 p3 l.length l.length vs23]) w) H ⟨vs4, ⟨rfl, rfl, rfl, rfl, rfl, rfl, trivial⟩, hO, hE6, h_l, hB⟩ ?_
  rintro X1 ⟨next1_19, k1_20, m1_21, out1_22⟩ H hX1 σ w18 ⟨vs23, hag, hO, hE24, h_l, hB⟩
  dsimp only at H
  refine Go1.keep [(3, .slice p3 l.length l.length), (4, .int .i64 (next1_19 : Int)), (5, .map (some B13)), (17, .slice p_l l.length c_l), (18, .int .i64 (l.length : Int)), (19, .int .i64 (k1_20 : Int))] hag ?_
  refine Go1.seq ?_
  refine Go1.region ?_
  by_cases h25 : (k1_20 : Int) < (l.length : Int)
  ·replace H := ifp h25 H
   refine GoR.op ((fun w => opB (op_lss rfl rfl w) (decide_eq_true h25)) _) rfl rfl ?_
   refine GoR.nil ?_
   refine Go1.seq ?_
   refine Go1.condT rfl rfl ?_
   refine Go1.skip ?_
   refine Go1.seq ?_
   refine Go1.block ?_
   refine Go1.seq ?_
   refine Go1.region ?_
   refine GoR.op ((op_move rfl) _) rfl rfl ?_
   obtain ⟨h26, H⟩ := H
   obtain ⟨h27, H⟩ := H
   refine GoR.op ((op_index Try.underlying25 ti3 rfl rfl h26 h27 (h_l.some_ h26 h27)) _) rfl rfl ?_
   refine GoR.op ((ldInt h_l h26 h27 Try.underlying3 rfl rfl) _ (Same.refl _)) rfl rfl ?_
   refine GoR.op ((op_assign rfl) _) rfl rfl ?_
   refine GoR.op ((op_assign rfl) _) rfl rfl ?_
   refine GoR.nil ?_
   refine Go1.seq ?_
   refine Go1.region ?_
   refine GoR.op ((op_move rfl) _) rfl rfl ?_
   refine GoR.op ((op_move rfl) _) rfl rfl ?_
   by_cases h28 : mhas m1_21 ((ix l (k1_20 : Int))) = true
   ·replace H := ifp h28 H
    refine GoR.op ((olookT (a := (ix l (k1_20 : Int))) (MK.int Try.underlying3) 0 hO rfl Try.underlying86 rfl rfl h28) _ (Same.refl _)) rfl rfl ?_
    refine GoR.op ((op_move rfl) _) rfl rfl ?_
    refine GoR.op ((op_extract rfl rfl) _) rfl rfl ?_
    refine GoR.op ((op_extract rfl rfl) _) rfl rfl ?_
    refine GoR.op ((op_assign rfl) _) rfl rfl ?_
    refine GoR.op ((op_assign rfl) _) rfl rfl ?_
    refine GoR.nil ?_
    refine Go1.seq ?_
    refine Go1.seq ?_
    refine Go1.region ?_
    refine GoR.op ((op_move rfl) _) rfl rfl ?_
    refine GoR.op ((op_not rfl) _) rfl rfl ?_
    refine GoR.nil ?_
    refine Go1.condF rfl rfl ?_
    refine Go1.skip ?_
    refine Go1.region ?_
    refine GoR.op ((op_move rfl) _) rfl rfl ?_
    refine GoR.op ((op_move rfl) _) rfl rfl ?_
    refine GoR.op ((op_move rfl) _) rfl rfl ?_
    obtain ⟨h29, H⟩ := H
    obtain ⟨h30, H⟩ := H
    refine GoR.op ((op_index Try.underlying25 ti3 rfl rfl h29 (ltn (hE24.neq hO 1 rfl) h30) (hE24.psome hO 1 rfl h29 h30)) _) rfl rfl ?_
    have hobt := ost (r := Rp.int .i64) rfl 1 hO rfl hE24 h29 h30 (v := .int .i64 (mgt m1_21 ((ix l (k1_20 : Int))))) (u := (mgt m1_21 ((ix l (k1_20 : Int))))) rfl rfl
    obtain ⟨w31, vs32, hst33, hE34, hop35⟩ := hobt
    refine GoR.op (hop35 Try.underlying3 rfl ti3 rfl rfl) rfl rfl ?_
    replace hO := hst33.own
    replace h_l := h_l.ch hst33.ch
    replace hB := hB.trans hst33.fr
    refine GoR.nil ?_
    refine Go1.inBlock ?_
    refine Go1.region ?_
    refine GoR.op ((op_add rfl rfl (wrap_i64 (natbd h25 h_l.bd))) _) rfl rfl ?_
    refine GoR.op ((op_move rfl) _) rfl rfl ?_
    refine GoR.nil ?_
    exact hX1 _ H _ _ ⟨vs32, ⟨rfl, rfl, rfl, rfl, rfl, rfl, trivial⟩, hO, hE34, h_l, hB⟩
   ·replace H := ifn h28 H
    refine GoR.op ((olookF (a := (ix l (k1_20 : Int))) (MK.int Try.underlying3) 0 hO rfl Try.underlying86 ti3 rfl rfl h28) _ (Same.refl _)) rfl rfl ?_
    refine GoR.op ((op_move rfl) _) rfl rfl ?_
    refine GoR.op ((op_extract rfl rfl) _) rfl rfl ?_
    refine GoR.op ((op_extract rfl rfl) _) rfl rfl ?_
    refine GoR.op ((op_assign rfl) _) rfl rfl ?_
    refine GoR.op ((op_assign rfl) _) rfl rfl ?_
    refine GoR.nil ?_
    refine Go1.seq ?_
    refine Go1.seq ?_
    refine Go1.region ?_
    refine GoR.op ((op_move rfl) _) rfl rfl ?_
    refine GoR.op ((op_not rfl) _) rfl rfl ?_
    refine GoR.nil ?_
    refine Go1.condT rfl rfl ?_
    refine Go1.seq ?_
    refine Go1.region ?_
    refine GoR.op ((op_move rfl) _) rfl rfl ?_
    refine GoR.op ((op_assign rfl) _) rfl rfl ?_
    refine GoR.nil ?_
    refine Go1.seq ?_
    refine Go1.region ?_
    refine GoR.op ((op_move rfl) _) rfl rfl ?_
    refine GoR.op ((op_move rfl) _) rfl rfl ?_
    refine GoR.op ((op_move rfl) _) rfl rfl ?_
    have hobt := omapUpd (MK.int Try.underlying3) 0 hO rfl Try.underlying86 (ix l (k1_20 : Int)) (next1_19 : Int)
    obtain ⟨w36, hst37, hop38⟩ := hobt
    refine GoR.op (hop38 rfl rfl rfl) rfl rfl ?_
    replace hE24 := hE24.ch hst37.ch
    replace hO := hst37.own
    replace h_l := h_l.ch hst37.ch
    replace hB := hB.trans hst37.fr
    refine GoR.nil ?_
    refine Go1.region ?_
    refine GoR.op ((op_move rfl) _) rfl rfl ?_
    obtain ⟨h39, H⟩ := H
    refine GoR.op ((op_add rfl rfl (wrap_i64 h39)) _) rfl rfl ?_
    refine GoR.op ((op_assign rfl) _) rfl rfl ?_
    refine GoR.nil ?_
    refine Go1.region ?_
    refine GoR.op ((op_move rfl) _) rfl rfl ?_
    refine GoR.op ((op_move rfl) _) rfl rfl ?_
    refine GoR.op ((op_move rfl) _) rfl rfl ?_
    obtain ⟨h40, H⟩ := H
    obtain ⟨h41, H⟩ := H
    refine GoR.op ((op_index Try.underlying25 ti3 rfl rfl h40 (ltn (hE24.neq hO 1 rfl) h41) (hE24.psome hO 1 rfl h40 h41)) _) rfl rfl ?_
    have hobt := ost (r := Rp.int .i64) rfl 1 hO rfl hE24 h40 h41 (v := .int .i64 (next1_19 : Int)) (u := (next1_19 : Int)) rfl rfl
    obtain ⟨w42, vs43, hst44, hE45, hop46⟩ := hobt
    refine GoR.op (hop46 Try.underlying3 rfl ti3 rfl rfl) rfl rfl ?_
    replace hO := hst44.own
    replace h_l := h_l.ch hst44.ch
    replace hB := hB.trans hst44.fr
    refine GoR.nil ?_
    refine Go1.inBlock ?_
    refine Go1.region ?_
    refine GoR.op ((op_add rfl rfl (wrap_i64 (natbd h25 h_l.bd))) _) rfl rfl ?_
    refine GoR.op ((op_move rfl) _) rfl rfl ?_
    refine GoR.nil ?_
    exact hX1 _ H _ _ ⟨vs43, ⟨rfl, rfl, rfl, rfl, rfl, rfl, trivial⟩, hO, hE45, h_l, hB⟩
  ·replace H := ifn h25 H
   refine GoR.op ((fun w => opB (op_lss rfl rfl w) (decide_eq_false h25)) _) rfl rfl ?_
   refine GoR.nil ?_
   refine Go1.seq ?_
   refine Go1.condF rfl rfl ?_
   refine Go1.exit rfl ?_
   refine Go1.seq ?_
   refine Go1.region ?_
   refine GoR.op ((op_move rfl) _) rfl rfl ?_
   refine GoR.op ((op_assign rfl) _) rfl rfl ?_
   refine GoR.nil ?_
   have hobt := freeze 1 hO rfl hE24
   obtain ⟨hO1, hc49, hi47, hn48⟩ := hobt
   replace h_l := h_l.ch hc49
   replace hB := hB.trans (Owns.dropFr _ _ 1)
   replace hO := hO1; clear hO1
   refine Go1.ret1 Try.func57 rfl ?_
   exact ⟨out1_22, p3, l.length, (congrArg (fun nn => Value.slice p3 nn l.length) hn48), hB.same, (hi47.ch (Ch.weak _ _ _)), H⟩
theorem body53 : Body Try.prog 53 := ⟨Try.f53, Try.func53, rfl, by kernel_rfl⟩
theorem walk_ref15_mutual {A : List Nat} {w0 : World} {p_in_ : Option Addr} {c_in_ : Nat} {in_ : List (List Bool)} (hA : ∀ b ∈ A, b < w0.heap.size) (h_in_ : ISl (Rp.sl (Rp.bool)) A w0 p_in_ c_in_ in_) {K : List Int → Prop} (H : ref15_mutual in_ K) :
    CallsV Try.prog 53 #[.slice p_in_ in_.length c_in_] w0 (fun v w' => ∃ (r0 : List Int), ∃ (p_r0 : Option Addr), ∃ (c_r0 : Nat), v = .slice p_r0 r0.length c_r0 ∧ Same w0 w' ∧ ISl (Rp.int .i64) A w' p_r0 c_r0 r0 ∧ K r0) := by
 refine CallsV.of (l := [.slice p_in_ in_.length c_in_]) Try.func53 rfl Try.ntmps53 rfl ?_
 have hO := Owns.start hA
 have hB := Fr.refl (bl []) w0
 unfold ref15_mutual at H
 replace h_in_ := h_in_.ch (Ch.start A w0)
 refine Go1.seq ?_
 refine Go1.region ?_
 refine GoR.op ((op_assign rfl) _) rfl rfl ?_
 refine GoR.nil ?_
 refine Go1.seq ?_
 refine Go1.region ?_
 refine GoR.op ((op_move rfl) _) rfl rfl ?_
 refine GoR.op ((op_len Try.underlying26 rfl) _) rfl rfl ?_
 replace H := H h_in_.bd
 obtain ⟨h8, H⟩ := H
 obtain ⟨h9, H⟩ := H
 have hobt := omake (n := (in_.length : Int)) (r := Rp.int .i64) (d := (0 : Int)) Try.underlying25 ti3 (fun _ _ => rfl) rfl hO h8 h9 (by decide)
 obtain ⟨w1, p2, vs3, hst4, hE5, hs6, hop7⟩ := hobt
 refine GoR.op (hop7 rfl rfl) rfl rfl ?_
 replace hO := hst4.own
 replace h_in_ := h_in_.ch hst4.ch
 replace hB := hB.trans hst4.fr
 refine GoR.op ((op_assign rfl) _) rfl rfl ?_
 refine GoR.nil ?_
 refine Go1.seq ?_
 refine Go1.seq ?_
 refine Go1.region ?_
 refine GoR.op ((op_move rfl) _) rfl rfl ?_
 refine GoR.op ((op_lenN Try.underlying25 rfl (hE5.neq hO 0 rfl)) _) rfl rfl ?_
 refine GoR.op ((op_move rfl) _) rfl rfl ?_
 refine GoR.nil ?_
 refine Go1.block ?_
 refine Go1.loopW (S := Nat × List Int) (fun s σ w => ∃ (vs14 : List Value), agrees σ [(0, .slice p_in_ in_.length c_in_), (3, .slice p2 in_.length in_.length), (10, .int .i64 ((List.replicate in_.length ((0 : Int))).length : Int)), (11, .int .i64 ((s.1) : Int))] ∧ Owns w0.heap.size w [.row 3 1 p2 in_.length in_.length vs14] A ∧ Els (Rp.int .i64) (bl [.row 3 1 p2 in_.length in_.length vs14] ++ A) w vs14 (s.2) ∧ ISl (Rp.sl (Rp.bool)) (bl [.row 3 1 p2 in_.length in_.length vs14] ++ A) w p_in_ c_in_ in_ ∧ Fr (bl []) w0 (bl [.row 3 1 p2 in_.length in_.length vs14]) w) H ⟨vs3, ⟨rfl, rfl, rfl, rfl, trivial⟩, hO, hE5, h_in_, hB⟩ ?_
 rintro X1 ⟨k1_12, p1_13⟩ H hX1 σ w11 ⟨vs14, hag, hO, hE15, h_in_, hB⟩
 dsimp only at H
 refine Go1.keep [(0, .slice p_in_ in_.length c_in_), (3, .slice p2 in_.length in_.length), (10, .int .i64 ((List.replicate in_.length ((0 : Int))).length : Int)), (11, .int .i64 (k1_12 : Int))] hag ?_
 refine Go1.seq ?_
 refine Go1.region ?_
 by_cases h16 : (k1_12 : Int) < ((List.replicate in_.length ((0 : Int))).length : Int)
 ·replace H := ifp h16 H
  refine GoR.op ((fun w => opB (op_lss rfl rfl w) (decide_eq_true h16)) _) rfl rfl ?_
  refine GoR.nil ?_
  refine Go1.seq ?_
  refine Go1.condT rfl rfl ?_
  refine Go1.skip ?_
  refine Go1.seq ?_
  refine Go1.block ?_
  refine Go1.seq ?_
  refine Go1.region ?_
  refine GoR.op ((op_move rfl) _) rfl rfl ?_
  refine GoR.op ((op_assign rfl) _) rfl rfl ?_
  refine GoR.nil ?_
  refine Go1.seq ?_
  refine Go1.region ?_
  refine GoR.op ((op_move rfl) _) rfl rfl ?_
  refine GoR.op ((op_move rfl) _) rfl rfl ?_
  refine GoR.op ((op_move rfl) _) rfl rfl ?_
  obtain ⟨h17, H⟩ := H
  obtain ⟨h18, H⟩ := H
  refine GoR.op ((op_index Try.underlying25 ti3 rfl rfl h17 (ltn (hE15.neq hO 0 rfl) h18) (hE15.psome hO 0 rfl h17 h18)) _) rfl rfl ?_
  have hobt := ost (r := Rp.int .i64) rfl 0 hO rfl hE15 h17 h18 (v := .int .i64 (k1_12 : Int)) (u := (k1_12 : Int)) rfl rfl
  obtain ⟨w19, vs20, hst21, hE22, hop23⟩ := hobt
  refine GoR.op (hop23 Try.underlying3 rfl ti3 rfl rfl) rfl rfl ?_
  replace hO := hst21.own
  replace h_in_ := h_in_.ch hst21.ch
  replace hB := hB.trans hst21.fr
  refine GoR.nil ?_
  refine Go1.seq ?_
  refine Go1.region ?_
  refine GoR.op ((op_assign rfl) _) rfl rfl ?_
  refine GoR.nil ?_
  refine Go1.block ?_
  refine Go1.loopW (S := Nat) (fun s σ w => agrees σ [(0, .slice p_in_ in_.length c_in_), (3, .slice p2 in_.length in_.length), (4, .int .i64 (k1_12 : Int)), (5, .int .i64 (s : Int)), (10, .int .i64 ((List.replicate in_.length ((0 : Int))).length : Int)), (11, .int .i64 (k1_12 : Int))] ∧ Owns w0.heap.size w [.row 3 1 p2 in_.length in_.length vs20] A ∧ Els (Rp.int .i64) (bl [.row 3 1 p2 in_.length in_.length vs20] ++ A) w vs20 (st p1_13 (k1_12 : Int) (k1_12 : Int)) ∧ ISl (Rp.sl (Rp.bool)) (bl [.row 3 1 p2 in_.length in_.length vs20] ++ A) w p_in_ c_in_ in_ ∧ Fr (bl []) w0 (bl [.row 3 1 p2 in_.length in_.length vs20]) w) H ⟨⟨rfl, rfl, rfl, rfl, rfl, rfl, trivial⟩, hO, hE22, h_in_, hB⟩ ?_
  rintro X2 y2_25 H hX2 σ w24 ⟨hag, hO, hE22, h_in_, hB⟩
  refine Go1.keep [(0, .slice p_in_ in_.length c_in_), (3, .slice p2 in_.length in_.length), (4, .int .i64 (k1_12 : Int)), (5, .int .i64 (y2_25 : Int)), (10, .int .i64 ((List.replicate in_.length ((0 : Int))).length : Int)), (11, .int .i64 (k1_12 : Int))] hag ?_
  refine Go1.seq ?_
  refine Go1.seq ?_
  refine Go1.region ?_
  refine GoR.op ((op_move rfl) _) rfl rfl ?_
  refine GoR.op ((op_move rfl) _) rfl rfl ?_
  by_cases h26 : (y2_25 : Int) < (k1_12 : Int)
  ·replace H := ifp h26 H
   refine GoR.op ((fun w => opB (op_lss rfl rfl w) (decide_eq_true h26)) _) rfl rfl ?_
   refine GoR.nil ?_
   refine Go1.condT rfl rfl ?_
   refine Go1.skip ?_
   refine Go1.seq ?_
   refine Go1.block ?_
   refine Go1.seq ?_
   refine Go1.region ?_
   refine GoR.op ((op_move rfl) _) rfl rfl ?_
   refine GoR.op ((op_move rfl) _) rfl rfl ?_
   obtain ⟨h27, H⟩ := H
   obtain ⟨h28, H⟩ := H
   refine GoR.op ((op_index Try.underlying26 ti38 rfl rfl h27 h28 (h_in_.some_ h27 h28)) _) rfl rfl ?_
   have hobt := ldSl h_in_ h27 h28
   obtain ⟨p29, c30, hi31, hl32⟩ := hobt
   refine GoR.op ((hl32 Try.underlying38 rfl rfl) _ (Same.refl _)) rfl rfl ?_
   refine GoR.op ((op_move rfl) _) rfl rfl ?_
   obtain ⟨h33, H⟩ := H
   obtain ⟨h34, H⟩ := H
   refine GoR.op ((op_index Try.underlying38 ti4 rfl rfl h33 h34 (hi31.some_ h33 h34)) _) rfl rfl ?_
   by_cases h35 : ix (ix in_ (k1_12 : Int)) (y2_25 : Int) = true
   ·replace H := ifp h35 H
    refine GoR.op (opB ((ldBool hi31 h33 h34 Try.underlying4 rfl rfl) _ (Same.refl _)) (h35)) rfl rfl ?_
    refine GoR.op ((op_move rfl) _) rfl rfl ?_
    refine GoR.op ((op_move rfl) _) rfl rfl ?_
    refine GoR.op ((op_move rfl) _) rfl rfl ?_
    obtain ⟨h36, H⟩ := H
    obtain ⟨h37, H⟩ := H
    refine GoR.op ((op_index Try.underlying26 ti38 rfl rfl h36 h37 (h_in_.some_ h36 h37)) _) rfl rfl ?_
    have hobt := ldSl h_in_ h36 h37
    obtain ⟨p38, c39, hi40, hl41⟩ := hobt
    refine GoR.op ((hl41 Try.underlying38 rfl rfl) _ (Same.refl _)) rfl rfl ?_
    refine GoR.op ((op_move rfl) _) rfl rfl ?_
    obtain ⟨h42, H⟩ := H
    obtain ⟨h43, H⟩ := H
    refine GoR.op ((op_index Try.underlying38 ti4 rfl rfl h42 h43 (hi40.some_ h42 h43)) _) rfl rfl ?_
    by_cases h44 : ix (ix in_ (y2_25 : Int)) (k1_12 : Int) = true
    ·replace H := ifp h44 H
     refine GoR.op (opB ((ldBool hi40 h42 h43 Try.underlying4 rfl rfl) _ (Same.refl _)) (h44)) rfl rfl ?_
     refine GoR.op ((op_pickT rfl rfl rfl) _) rfl rfl ?_
     refine GoR.nil ?_
     refine Go1.condT rfl rfl ?_
     refine Go1.seq ?_
     refine Go1.region ?_
     refine GoR.op ((op_move rfl) _) rfl rfl ?_
     refine GoR.op ((op_move rfl) _) rfl rfl ?_
     refine GoR.op ((op_move rfl) _) rfl rfl ?_
     refine GoR.op ((op_move rfl) _) rfl rfl ?_
     obtain ⟨h45, H⟩ := H
     obtain ⟨h46, H⟩ := H
     refine GoR.op ((op_index Try.underlying25 ti3 rfl rfl h45 (ltn (hE22.neq hO 0 rfl) h46) (hE22.psome hO 0 rfl h45 h46)) _) rfl rfl ?_
     refine GoR.op ((oldInt 0 hO rfl hE22 h45 h46 Try.underlying3 rfl rfl) _ (Same.refl _)) rfl rfl ?_
     obtain ⟨h47, H⟩ := H
     obtain ⟨h48, H⟩ := H
     refine GoR.op ((op_index Try.underlying25 ti3 rfl rfl h47 (ltn (hE22.neq hO 0 rfl) h48) (hE22.psome hO 0 rfl h47 h48)) _) rfl rfl ?_
     have hobt := ost (r := Rp.int .i64) rfl 0 hO rfl hE22 h47 h48 (v := .int .i64 (ix (st p1_13 (k1_12 : Int) (k1_12 : Int)) (y2_25 : Int))) (u := (ix (st p1_13 (k1_12 : Int) (k1_12 : Int)) (y2_25 : Int))) rfl rfl
     obtain ⟨w49, vs50, hst51, hE52, hop53⟩ := hobt
     refine GoR.op (hop53 Try.underlying3 rfl ti3 rfl rfl) rfl rfl ?_
     replace hO := hst51.own
     replace h_in_ := h_in_.ch hst51.ch
     replace hi31 := hi31.ch hst51.ch
     replace hi40 := hi40.ch hst51.ch
     replace hB := hB.trans hst51.fr
     refine GoR.nil ?_
     refine Go1.exit rfl ?_
     refine Go1.inBlock ?_
     refine Go1.region ?_
     obtain ⟨h54, H⟩ := H
     refine GoR.op ((op_add rfl rfl (wrap_i64 h54)) _) rfl rfl ?_
     refine GoR.op ((op_move rfl) _) rfl rfl ?_
     refine GoR.nil ?_
     exact hX1 _ H _ _ ⟨vs50, ⟨rfl, rfl, rfl, rfl, trivial⟩, hO, hE52, h_in_, hB⟩
    ·replace H := ifn h44 H
     refine GoR.op (opB ((ldBool hi40 h42 h43 Try.underlying4 rfl rfl) _ (Same.refl _)) (Bool.eq_false_iff.2 h44)) rfl rfl ?_
     refine GoR.op ((op_pickT rfl rfl rfl) _) rfl rfl ?_
     refine GoR.nil ?_
     refine Go1.condF rfl rfl ?_
     refine Go1.skip ?_
     refine Go1.inBlock ?_
     refine Go1.region ?_
     refine GoR.op ((op_move rfl) _) rfl rfl ?_
     obtain ⟨h55, H⟩ := H
     refine GoR.op ((op_add rfl rfl (wrap_i64 h55)) _) rfl rfl ?_
     refine GoR.op ((op_assign rfl) _) rfl rfl ?_
     refine GoR.nil ?_
     exact hX2 _ H _ _ ⟨⟨rfl, rfl, rfl, rfl, rfl, rfl, trivial⟩, hO, hE22, h_in_, hB⟩
   ·replace H := ifn h35 H
    refine GoR.op (opB ((ldBool hi31 h33 h34 Try.underlying4 rfl rfl) _ (Same.refl _)) (Bool.eq_false_iff.2 h35)) rfl rfl ?_
    refine GoR.op ((op_move rfl) _) rfl rfl ?_
    refine GoR.pass rfl rfl ?_
    refine GoR.pass rfl rfl ?_
    refine GoR.pass rfl rfl ?_
    refine GoR.pass rfl rfl ?_
    refine GoR.pass rfl rfl ?_
    refine GoR.pass rfl rfl ?_
    refine GoR.pass rfl rfl ?_
    refine GoR.op ((op_pickF rfl rfl rfl) _) rfl rfl ?_
    refine GoR.nil ?_
    refine Go1.condF rfl rfl ?_
    refine Go1.skip ?_
    refine Go1.inBlock ?_
    refine Go1.region ?_
    refine GoR.op ((op_move rfl) _) rfl rfl ?_
    obtain ⟨h56, H⟩ := H
    refine GoR.op ((op_add rfl rfl (wrap_i64 h56)) _) rfl rfl ?_
    refine GoR.op ((op_assign rfl) _) rfl rfl ?_
    refine GoR.nil ?_
    exact hX2 _ H _ _ ⟨⟨rfl, rfl, rfl, rfl, rfl, rfl, trivial⟩, hO, hE22, h_in_, hB⟩
  ·replace H := ifn h26 H
   refine GoR.op ((fun w => opB (op_lss rfl rfl w) (decide_eq_false h26)) _) rfl rfl ?_
   refine GoR.nil ?_
   refine Go1.condF rfl rfl ?_
   refine Go1.exit rfl ?_
   refine Go1.inBlock ?_
   refine Go1.region ?_
   obtain ⟨h57, H⟩ := H
   refine GoR.op ((op_add rfl rfl (wrap_i64 h57)) _) rfl rfl ?_
   refine GoR.op ((op_move rfl) _) rfl rfl ?_
   refine GoR.nil ?_
   exact hX1 _ H _ _ ⟨vs20, ⟨rfl, rfl, rfl, rfl, trivial⟩, hO, hE22, h_in_, hB⟩
 ·replace H := ifn h16 H
  refine GoR.op ((fun w => opB (op_lss rfl rfl w) (decide_eq_false h16)) _) rfl rfl ?_
  refine GoR.nil ?_
  refine Go1.seq ?_
  refine Go1.condF rfl rfl ?_
  refine Go1.exit rfl ?_
  refine Go1.seq ?_
  refine Go1.region ?_
  refine GoR.op ((op_move rfl) _) rfl rfl ?_
  have hobt := freeze 0 hO rfl hE15
  obtain ⟨hO1, hc60, hi58, hn59⟩ := hobt
  replace h_in_ := h_in_.ch hc60
  replace hB := hB.trans (Owns.dropFr _ _ 0)
  replace hO := hO1; clear hO1
  refine GoR.call (op_call body57 (show ([.slice p2 in_.length in_.length] : List Value) = [.slice p2 p1_13.length in_.length] from by rw [← hn59]) (walk_ref03_Canonical hO.lt hi58 H)) rfl rfl ?_
  rintro v65 w62 ⟨r61, p_r61, c_r61, rfl, hs63, h_r61, H⟩
  have hst66 := Stp.same hO hs63
  replace hO := hst66.own
  replace h_in_ := h_in_.ch hst66.ch
  replace hi58 := hi58.ch hst66.ch
  replace hB := hB.trans hst66.fr
  refine GoR.op ((op_assign rfl) _) rfl rfl ?_
  refine GoR.nil ?_
  refine Go1.ret1 Try.func53 rfl ?_
  exact ⟨r61, p_r61, c_r61, rfl, hB.same, (h_r61.ch (Ch.weak _ _ _)), H⟩
theorem body55 : Body Try.prog 55 := ⟨Try.f55, Try.func55, rfl, by kernel_rfl⟩
theorem walk_ref03_Meet {A : List Nat} {w0 : World} {p_p : Option Addr} {c_p : Nat} {p_q : Option Addr} {c_q : Nat} {p : List Int} {q : List Int} (hA : ∀ b ∈ A, b < w0.heap.size) (h_p : ISl (Rp.int .i64) A w0 p_p c_p p) (h_q : ISl (Rp.int .i64) A w0 p_q c_q q) {K : List Int → Prop} (H : ref03_Meet p q K) :
    CallsV Try.prog 55 #[.slice p_p p.length c_p, .slice p_q q.length c_q] w0 (fun v w' => ∃ (r0 : List Int), ∃ (p_r0 : Option Addr), ∃ (c_r0 : Nat), v = .slice p_r0 r0.length c_r0 ∧ Same w0 w' ∧ ISl (Rp.int .i64) A w' p_r0 c_r0 r0 ∧ K r0) := by
 refine CallsV.of (l := [.slice p_p p.length c_p, .slice p_q q.length c_q]) Try.func55 rfl Try.ntmps55 rfl ?_
 have hO := Owns.start hA
 have hB := Fr.refl (bl []) w0
 unfold ref03_Meet at H
 replace h_p := h_p.ch (Ch.start A w0)
 replace h_q := h_q.ch (Ch.start A w0)
 refine Go1.seq ?_
 refine Go1.region ?_
 refine GoR.op ((op_assign rfl) _) rfl rfl ?_
 refine GoR.nil ?_
 refine Go1.seq ?_
 refine Go1.region ?_
 refine GoR.op ((op_move rfl) _) rfl rfl ?_
 refine GoR.op ((op_len Try.underlying25 rfl) _) rfl rfl ?_
 replace H := H h_p.bd
 obtain ⟨h8, H⟩ := H
 obtain ⟨h9, H⟩ := H
 have hobt := omake (n := (p.length : Int)) (r := Rp.int .i64) (d := (0 : Int)) Try.underlying25 ti3 (fun _ _ => rfl) rfl hO h8 h9 (by decide)
 obtain ⟨w1, p2, vs3, hst4, hE5, hs6, hop7⟩ := hobt
 refine GoR.op (hop7 rfl rfl) rfl rfl ?_
 replace hO := hst4.own
 replace h_p := h_p.ch hst4.ch
 replace h_q := h_q.ch hst4.ch
 replace hB := hB.trans hst4.fr
 refine GoR.op ((op_assign rfl) _) rfl rfl ?_
 refine GoR.nil ?_
 refine Go1.seq ?_
 refine Go1.seq ?_
 refine Go1.region ?_
 refine GoR.op ((op_move rfl) _) rfl rfl ?_
 refine GoR.op ((op_len Try.underlying25 rfl) _) rfl rfl ?_
 refine GoR.op ((op_move rfl) _) rfl rfl ?_
 refine GoR.nil ?_
 refine Go1.block ?_
 refine Go1.loopW (S := Nat × List Int) (fun s σ w => ∃ (vs14 : List Value), agrees σ [(0, .slice p_p p.length c_p), (1, .slice p_q q.length c_q), (5, .slice p2 p.length p.length), (11, .int .i64 (p.length : Int)), (12, .int .i64 ((s.1) : Int))] ∧ Owns w0.heap.size w [.row 3 1 p2 p.length p.length vs14] A ∧ Els (Rp.int .i64) (bl [.row 3 1 p2 p.length p.length vs14] ++ A) w vs14 (s.2) ∧ ISl (Rp.int .i64) (bl [.row 3 1 p2 p.length p.length vs14] ++ A) w p_p c_p p ∧ ISl (Rp.int .i64) (bl [.row 3 1 p2 p.length p.length vs14] ++ A) w p_q c_q q ∧ Fr (bl []) w0 (bl [.row 3 1 p2 p.length p.length vs14]) w) H ⟨vs3, ⟨rfl, rfl, rfl, rfl, rfl, trivial⟩, hO, hE5, h_p, h_q, hB⟩ ?_
 rintro X1 ⟨k1_12, out1_13⟩ H hX1 σ w11 ⟨vs14, hag, hO, hE15, h_p, h_q, hB⟩
 dsimp only at H
 refine Go1.keep [(0, .slice p_p p.length c_p), (1, .slice p_q q.length c_q), (5, .slice p2 p.length p.length), (11, .int .i64 (p.length : Int)), (12, .int .i64 (k1_12 : Int))] hag ?_
 refine Go1.seq ?_
 refine Go1.region ?_
 by_cases h16 : (k1_12 : Int) < (p.length : Int)
 ·replace H := ifp h16 H
  refine GoR.op ((fun w => opB (op_lss rfl rfl w) (decide_eq_true h16)) _) rfl rfl ?_
  refine GoR.nil ?_
  refine Go1.seq ?_
  refine Go1.condT rfl rfl ?_
  refine Go1.skip ?_
  refine Go1.seq ?_
  refine Go1.block ?_
  refine Go1.seq ?_
  refine Go1.region ?_
  refine GoR.op ((op_move rfl) _) rfl rfl ?_
  refine GoR.op ((op_assign rfl) _) rfl rfl ?_
  refine GoR.nil ?_
  refine Go1.drawS 1 [(0, .pure), (1, .pure), (2, .pure), (3, .pure), (4, .pure), (5, .stable), (6, .pure), (7, .pure), (8, .pure), (9, .pure), (10, .stable), (11, .pure), (12, .pure), (13, .last)] mixed (by kernel_rfl) ?_
  intro w17 hs18
  have hst19 := Stp.same hO hs18
  replace hE15 := hE15.ch hst19.ch
  replace hO := hst19.own
  replace h_p := h_p.ch hst19.ch
  replace h_q := h_q.ch hst19.ch
  replace hB := hB.trans hst19.fr
  refine GoQ.pure rfl (op_move rfl) rfl rfl ?_
  refine GoQ.pure rfl (op_move rfl) rfl rfl ?_
  refine GoQ.pure rfl (op_move rfl) rfl rfl ?_
  refine GoQ.pure rfl (op_move rfl) rfl rfl ?_
  obtain ⟨h20, H⟩ := H
  obtain ⟨h21, H⟩ := H
  refine GoQ.pure rfl (op_index Try.underlying25 ti3 rfl rfl h20 h21 (h_p.some_ h20 h21)) rfl rfl ?_
  refine GoQ.stable rfl (ldInt h_p h20 h21 Try.underlying3 rfl rfl) rfl rfl ?_
  obtain ⟨h22, H⟩ := H
  refine GoQ.pure rfl (op_mul rfl rfl (wrap_i64 h22)) rfl rfl ?_
  refine GoQ.pure rfl (op_move rfl) rfl rfl ?_
  refine GoQ.pure rfl (op_move rfl) rfl rfl ?_
  obtain ⟨h23, H⟩ := H
  obtain ⟨h24, H⟩ := H
  refine GoQ.pure rfl (op_index Try.underlying25 ti3 rfl rfl h23 h24 (h_q.some_ h23 h24)) rfl rfl ?_
  refine GoQ.stable rfl (ldInt h_q h23 h24 Try.underlying3 rfl rfl) rfl rfl ?_
  obtain ⟨h25, H⟩ := H
  refine GoQ.pure rfl (op_add rfl rfl (wrap_i64 h25)) rfl rfl ?_
  obtain ⟨h26, H⟩ := H
  obtain ⟨h27, H⟩ := H
  refine GoQ.pure rfl (op_index Try.underlying25 ti3 rfl rfl h26 (ltn (hE15.neq hO 0 rfl) h27) (hE15.psome hO 0 rfl h26 h27)) rfl rfl ?_
  have hobt := ost (r := Rp.int .i64) rfl 0 hO rfl hE15 h26 h27 (v := .int .i64 (((ix p (k1_12 : Int)) * (4096 : Int)) + (ix q (k1_12 : Int)))) (u := (((ix p (k1_12 : Int)) * (4096 : Int)) + (ix q (k1_12 : Int)))) rfl rfl
  obtain ⟨w28, vs29, hst30, hE31, hop32⟩ := hobt
  refine GoQ.last rfl (hop32 Try.underlying3 rfl ti3 rfl rfl) rfl rfl ?_
  replace hO := hst30.own
  replace h_p := h_p.ch hst30.ch
  replace h_q := h_q.ch hst30.ch
  replace hB := hB.trans hst30.fr
  refine GoQ.nil ?_
  refine Go1.inBlock ?_
  refine Go1.region ?_
  refine GoR.op ((op_add rfl rfl (wrap_i64 (natbd h16 h_p.bd))) _) rfl rfl ?_
  refine GoR.op ((op_move rfl) _) rfl rfl ?_
  refine GoR.nil ?_
  exact hX1 _ H _ _ ⟨vs29, ⟨rfl, rfl, rfl, rfl, rfl, trivial⟩, hO, hE31, h_p, h_q, hB⟩
 ·replace H := ifn h16 H
  refine GoR.op ((fun w => opB (op_lss rfl rfl w) (decide_eq_false h16)) _) rfl rfl ?_
  refine GoR.nil ?_
  refine Go1.seq ?_
  refine Go1.condF rfl rfl ?_
  refine Go1.exit rfl ?_
  refine Go1.seq ?_
  refine Go1.region ?_
  refine GoR.op ((op_move rfl) _) rfl rfl ?_
  have hobt := freeze 0 hO rfl hE15
  obtain ⟨hO1, hc35, hi33, hn34⟩ := hobt
  replace h_p := h_p.ch hc35
  replace h_q := h_q.ch hc35
  replace hB := hB.trans (Owns.dropFr _ _ 0)
  replace hO := hO1; clear hO1
  refine GoR.call (op_call body57 (show ([.slice p2 p.length p.length] : List Value) = [.slice p2 out1_13.length p.length] from by rw [← hn34]) (walk_ref03_Canonical hO.lt hi33 H)) rfl rfl ?_
  rintro v40 w37 ⟨r36, p_r36, c_r36, rfl, hs38, h_r36, H⟩
  have hst41 := Stp.same hO hs38
  replace hO := hst41.own
  replace h_p := h_p.ch hst41.ch
  replace h_q := h_q.ch hst41.ch
  replace hi33 := hi33.ch hst41.ch
  replace hB := hB.trans hst41.fr
  refine GoR.op ((op_assign rfl) _) rfl rfl ?_
  refine GoR.nil ?_
  refine Go1.ret1 Try.func55 rfl ?_
  exact ⟨r36, p_r36, c_r36, rfl, hB.same, (h_r36.ch (Ch.weak _ _ _)), H⟩
theorem body82 : Body Try.prog 82 := ⟨Try.f82, Try.func82, rfl, by kernel_rfl⟩
theorem walk_ref03_Count {A : List Nat} {w0 : World} {p_p : Option Addr} {c_p : Nat} {p : List Int} (hA : ∀ b ∈ A, b < w0.heap.size) (h_p : ISl (Rp.int .i64) A w0 p_p c_p p) {K : Int → Prop} (H : ref03_Count p K) :
    CallsV Try.prog 82 #[.slice p_p p.length c_p] w0 (fun v w' => ∃ (r0 : Int), v = .int .i64 r0 ∧ Same w0 w' ∧ K r0) := by
 refine CallsV.of (l := [.slice p_p p.length c_p]) Try.func82 rfl Try.ntmps82 rfl ?_
 have hO := Owns.start hA
 have hB := Fr.refl (bl []) w0
 unfold ref03_Count at H
 replace h_p := h_p.ch (Ch.start A w0)
 refine Go1.seq ?_
 refine Go1.region ?_
 refine GoR.op ((op_assign rfl) _) rfl rfl ?_
 refine GoR.nil ?_
 refine Go1.seq ?_
 refine Go1.region ?_
 refine GoR.op ((op_assign rfl) _) rfl rfl ?_
 refine GoR.nil ?_
 refine Go1.seq ?_
 refine Go1.seq ?_
 refine Go1.region ?_
 refine GoR.op ((op_move rfl) _) rfl rfl ?_
 refine GoR.op ((op_len Try.underlying25 rfl) _) rfl rfl ?_
 replace H := H h_p.bd
 refine GoR.op ((op_move rfl) _) rfl rfl ?_
 refine GoR.nil ?_
 refine Go1.block ?_
 refine Go1.loopW (S := Int × Nat) (fun s σ w => agrees σ [(3, .int .i64 (s.1)), (6, .slice p_p p.length c_p), (7, .int .i64 (p.length : Int)), (8, .int .i64 ((s.2) : Int))] ∧ Owns w0.heap.size w [] A ∧ ISl (Rp.int .i64) (bl [] ++ A) w p_p c_p p ∧ Fr (bl []) w0 (bl []) w) H ⟨⟨rfl, rfl, rfl, rfl, trivial⟩, hO, h_p, hB⟩ ?_
 rintro X1 ⟨n1_2, k1_3⟩ H hX1 σ w1 ⟨hag, hO, h_p, hB⟩
 dsimp only at H
 refine Go1.keep [(3, .int .i64 n1_2), (6, .slice p_p p.length c_p), (7, .int .i64 (p.length : Int)), (8, .int .i64 (k1_3 : Int))] hag ?_
 refine Go1.seq ?_
 refine Go1.region ?_
 by_cases h4 : (k1_3 : Int) < (p.length : Int)
 ·replace H := ifp h4 H
  refine GoR.op ((fun w => opB (op_lss rfl rfl w) (decide_eq_true h4)) _) rfl rfl ?_
  refine GoR.nil ?_
  refine Go1.seq ?_
  refine Go1.condT rfl rfl ?_
  refine Go1.skip ?_
  refine Go1.seq ?_
  refine Go1.block ?_
  refine Go1.seq ?_
  refine Go1.region ?_
  obtain ⟨h5, H⟩ := H
  obtain ⟨h6, H⟩ := H
  refine GoR.op ((op_index Try.underlying25 ti3 rfl rfl h5 h6 (h_p.some_ h5 h6)) _) rfl rfl ?_
  refine GoR.op ((ldInt h_p h5 h6 Try.underlying3 rfl rfl) _ (Same.refl _)) rfl rfl ?_
  refine GoR.op ((op_assign rfl) _) rfl rfl ?_
  refine GoR.nil ?_
  refine Go1.region ?_
  refine GoR.op ((op_move rfl) _) rfl rfl ?_
  refine GoR.op ((op_move rfl) _) rfl rfl ?_
  obtain ⟨h7, H⟩ := H
  refine GoR.op ((op_add rfl rfl (wrap_i64 h7)) _) rfl rfl ?_
  by_cases h8 : n1_2 < ((ix p (k1_3 : Int)) + (1 : Int))
  ·replace H := ifp h8 H
   refine GoR.op ((op_maxT rfl rfl h8) _) rfl rfl ?_
   refine GoR.op ((op_assign rfl) _) rfl rfl ?_
   refine GoR.nil ?_
   refine Go1.inBlock ?_
   refine Go1.region ?_
   refine GoR.op ((op_add rfl rfl (wrap_i64 (natbd h4 h_p.bd))) _) rfl rfl ?_
   refine GoR.op ((op_move rfl) _) rfl rfl ?_
   refine GoR.nil ?_
   exact hX1 _ H _ _ ⟨⟨rfl, rfl, rfl, rfl, trivial⟩, hO, h_p, hB⟩
  ·replace H := ifn h8 H
   refine GoR.op ((op_maxF rfl rfl h8) _) rfl rfl ?_
   refine GoR.op ((op_assign rfl) _) rfl rfl ?_
   refine GoR.nil ?_
   refine Go1.inBlock ?_
   refine Go1.region ?_
   refine GoR.op ((op_add rfl rfl (wrap_i64 (natbd h4 h_p.bd))) _) rfl rfl ?_
   refine GoR.op ((op_move rfl) _) rfl rfl ?_
   refine GoR.nil ?_
   exact hX1 _ H _ _ ⟨⟨rfl, rfl, rfl, rfl, trivial⟩, hO, h_p, hB⟩
 ·replace H := ifn h4 H
  refine GoR.op ((fun w => opB (op_lss rfl rfl w) (decide_eq_false h4)) _) rfl rfl ?_
  refine GoR.nil ?_
  refine Go1.seq ?_
  refine Go1.condF rfl rfl ?_
  refine Go1.exit rfl ?_
  refine Go1.seq ?_
  refine Go1.region ?_
  refine GoR.op ((op_move rfl) _) rfl rfl ?_
  refine GoR.op ((op_assign rfl) _) rfl rfl ?_
  refine GoR.nil ?_
  refine Go1.ret1 Try.func82 rfl ?_
  exact ⟨n1_2, rfl, hB.same, H⟩
theorem body56 : Body Try.prog 56 := ⟨Try.f56, Try.func56, rfl, by kernel_rfl⟩
theorem walk_ref03_Classes {A : List Nat} {w0 : World} {p_p : Option Addr} {c_p : Nat} {p : List Int} (hA : ∀ b ∈ A, b < w0.heap.size) (h_p : ISl (Rp.int .i64) A w0 p_p c_p p) {K : List (List Int) → Prop} (H : ref03_Classes p K) :
    CallsV Try.prog 56 #[.slice p_p p.length c_p] w0 (fun v w' => ∃ (r0 : List (List Int)), ∃ (p_r0 : Option Addr), ∃ (c_r0 : Nat), v = .slice p_r0 r0.length c_r0 ∧ Same w0 w' ∧ ISl (Rp.sl (Rp.int .i64)) A w' p_r0 c_r0 r0 ∧ K r0) := by
 refine CallsV.of (l := [.slice p_p p.length c_p]) Try.func56 rfl Try.ntmps56 rfl ?_
 have hO := Owns.start hA
 have hB := Fr.refl (bl []) w0
 unfold ref03_Classes at H
 replace h_p := h_p.ch (Ch.start A w0)
 refine Go1.seq ?_
 refine Go1.region ?_
 refine GoR.op ((op_assign rfl) _) rfl rfl ?_
 refine GoR.nil ?_
 refine Go1.seq ?_
 refine Go1.region ?_
 refine GoR.op ((op_move rfl) _) rfl rfl ?_
 refine GoR.call (op_call body82 rfl (walk_ref03_Count hO.lt h_p H)) rfl rfl ?_
 rintro v5 w2 ⟨r1, rfl, hs3, H⟩
 have hst6 := Stp.same hO hs3
 replace hO := hst6.own
 replace h_p := h_p.ch hst6.ch
 replace hB := hB.trans hst6.fr
 obtain ⟨h14, H⟩ := H
 obtain ⟨h15, H⟩ := H
 have hobt := t2make (m := r1) (e' := 3) (Fl.int .i64) Try.underlying22 ti25 hO h14 h15 (by decide)
 obtain ⟨w7, p8, hst10, hs12, hop13⟩ := hobt
 refine GoR.op (hop13 rfl rfl) rfl rfl ?_
 replace hO := hst10.own
 replace h_p := h_p.ch hst10.ch
 replace hB := hB.trans hst10.fr
 refine GoR.op ((op_assign rfl) _) rfl rfl ?_
 refine GoR.nil ?_
 refine Go1.seq ?_
 refine Go1.seq ?_
 refine Go1.region ?_
 refine GoR.op ((op_move rfl) _) rfl rfl ?_
 refine GoR.op ((op_len Try.underlying25 rfl) _) rfl rfl ?_
 replace H := H h_p.bd
 refine GoR.op ((op_move rfl) _) rfl rfl ?_
 refine GoR.nil ?_
 refine Go1.block ?_
 refine Go1.loopW (S := Nat × List (List Int)) (fun s σ w => ∃ (n22 : Nat), ∃ (p20 : Option Addr), ∃ (c21 : Nat), ∃ (hs23 : Hd), agrees σ [(3, .slice p20 n22 c21), (9, .slice p_p p.length c_p), (10, .int .i64 (p.length : Int)), (11, .int .i64 ((s.1) : Int))] ∧ Owns w0.heap.size w [t2 (Fl.int .i64) 25 3 p20 n22 c21 hs23 (s.2)] A ∧ ISl (Rp.int .i64) (bl [t2 (Fl.int .i64) 25 3 p20 n22 c21 hs23 (s.2)] ++ A) w p_p c_p p ∧ Fr (bl []) w0 (bl [t2 (Fl.int .i64) 25 3 p20 n22 c21 hs23 (s.2)]) w) H ⟨r1.toNat, p8, r1.toNat, (fun _ => (none, 0)), ⟨rfl, rfl, rfl, rfl, trivial⟩, hO, h_p, hB⟩ ?_
 rintro X1 ⟨k1_18, out1_19⟩ H hX1 σ w17 ⟨n22, p20, c21, hs23, hag, hO, h_p, hB⟩
 dsimp only at H
 refine Go1.keep [(3, .slice p20 n22 c21), (9, .slice p_p p.length c_p), (10, .int .i64 (p.length : Int)), (11, .int .i64 (k1_18 : Int))] hag ?_
 refine Go1.seq ?_
 refine Go1.region ?_
 by_cases h24 : (k1_18 : Int) < (p.length : Int)
 ·replace H := ifp h24 H
  refine GoR.op ((fun w => opB (op_lss rfl rfl w) (decide_eq_true h24)) _) rfl rfl ?_
  refine GoR.nil ?_
  refine Go1.seq ?_
  refine Go1.condT rfl rfl ?_
  refine Go1.skip ?_
  refine Go1.seq ?_
  refine Go1.block ?_
  refine Go1.seq ?_
  refine Go1.region ?_
  refine GoR.op ((op_move rfl) _) rfl rfl ?_
  obtain ⟨h25, H⟩ := H
  obtain ⟨h26, H⟩ := H
  refine GoR.op ((op_index Try.underlying25 ti3 rfl rfl h25 h26 (h_p.some_ h25 h26)) _) rfl rfl ?_
  refine GoR.op ((ldInt h_p h25 h26 Try.underlying3 rfl rfl) _ (Same.refl _)) rfl rfl ?_
  refine GoR.op ((op_assign rfl) _) rfl rfl ?_
  refine GoR.op ((op_assign rfl) _) rfl rfl ?_
  refine GoR.nil ?_
  refine Go1.region ?_
  refine GoR.op ((op_move rfl) _) rfl rfl ?_
  refine GoR.op ((op_move rfl) _) rfl rfl ?_
  refine GoR.op ((op_move rfl) _) rfl rfl ?_
  refine GoR.op ((op_move rfl) _) rfl rfl ?_
  obtain ⟨h27, H⟩ := H
  obtain ⟨h28, H⟩ := H
  refine GoR.op ((op_index Try.underlying22 ti25 rfl rfl h27 (ltn (t2neq 0 hO rfl) h28) (t2some 0 hO rfl h27 h28)) _) rfl rfl ?_
  refine GoR.op ((t2head 0 hO rfl h27 h28 Try.underlying25 rfl rfl) _ (Same.refl _)) rfl rfl ?_
  refine GoR.op ((op_move rfl) _) rfl rfl ?_
  have hobt := obuild (r := Rp.int .i64) (n := 1) (parts := [(0, .int .i64 (k1_18 : Int))]) (vs := [.int .i64 (k1_18 : Int)]) (xs := [(k1_18 : Int)]) rfl Try.underlying25 ti3 hO (by decide) (by kernel_rfl) (Els.cons rfl rfl (Els.nil _ _ _) (by simp [mx])) rfl
  obtain ⟨w29, p30, hst31, hE32, hs33, hop34⟩ := hobt
  refine GoR.op (hop34 rfl) rfl rfl ?_
  replace hO := hst31.own
  replace h_p := h_p.ch hst31.ch
  replace hB := hB.trans hst31.fr
  have hst36 := Stp.front 1 hO rfl
  replace hE32 := hE32.ch hst36.ch
  replace hO := hst36.own
  replace h_p := h_p.ch hst36.ch
  replace hB := hB.trans hst36.fr
  have hobt := t2take (hf := (Fl.int .i64)) hO h27 h28
  obtain ⟨vs37, hst38, hE39⟩ := hobt
  replace hE32 := hE32.ch hst38.ch
  replace hO := hst38.own
  replace h_p := h_p.ch hst38.ch
  replace hB := hB.trans hst38.fr
  have hE41 := hE39 (bl [.row 3 1 (hs23 (ix p (k1_18 : Int)).toNat).1 ((ix out1_19 (ix p (k1_18 : Int))).length) ((hs23 (ix p (k1_18 : Int)).toNat).2) vs37, t2h (Fl.int .i64) 25 3 p20 n22 c21 hs23 out1_19 (ix p (k1_18 : Int)).toNat, .row 3 1 p30 1 1 [.int .i64 (k1_18 : Int)]] ++ A)
  have hobt := freeze 2 hO rfl hE32
  obtain ⟨hO1, hc44, hi42, hn43⟩ := hobt
  replace h_p := h_p.ch hc44
  replace hE41 := hE41.ch hc44
  replace hB := hB.trans (Owns.dropFr _ _ 2)
  replace hO := hO1; clear hO1
  obtain ⟨h45, H⟩ := H
  have hobt := oapp Try.underlying25 ti3 rfl 0 hO rfl hE41 hi42 hn43 h45 (by decide)
  obtain ⟨w46, p47, c48, vs49, hst50, hE51, hop52⟩ := hobt
  refine GoR.op (hop52 rfl rfl) rfl rfl ?_
  replace hO := hst50.own
  replace h_p := h_p.ch hst50.ch
  replace hi42 := hi42.ch hst50.ch
  replace hB := hB.trans hst50.fr
  obtain ⟨h54, H⟩ := H
  obtain ⟨h55, H⟩ := H
  refine GoR.op ((op_index Try.underlying22 ti25 rfl rfl h54 (ltn (t2neqH 1 hO rfl) h55) (t2someH 1 hO rfl h54 h55)) _) rfl rfl ?_
  have hst56 := Stp.front 1 hO rfl
  replace hE51 := hE51.ch hst56.ch
  replace hO := hst56.own
  replace h_p := h_p.ch hst56.ch
  replace hi42 := hi42.ch hst56.ch
  replace hB := hB.trans hst56.fr
  have hst57 := Stp.front 1 hO rfl
  replace hE51 := hE51.ch hst57.ch
  replace hO := hst57.own
  replace h_p := h_p.ch hst57.ch
  replace hi42 := hi42.ch hst57.ch
  replace hB := hB.trans hst57.fr
  have hobt := t2fix (hf := (Fl.int .i64)) hO hE51 h54 h55 rfl
  obtain ⟨w58, hst59, hop60⟩ := hobt
  refine GoR.op (hop60 Try.underlying25 rfl ti25 rfl rfl) rfl rfl ?_
  replace hO := hst59.own
  replace h_p := h_p.ch hst59.ch
  replace hi42 := hi42.ch hst59.ch
  replace hB := hB.trans hst59.fr
  refine GoR.nil ?_
  refine Go1.inBlock ?_
  refine Go1.region ?_
  refine GoR.op ((op_add rfl rfl (wrap_i64 (natbd h24 h_p.bd))) _) rfl rfl ?_
  refine GoR.op ((op_move rfl) _) rfl rfl ?_
  refine GoR.nil ?_
  exact hX1 _ H _ _ ⟨n22, p20, c21, hup hs23 (ix p (k1_18 : Int)).toNat (p47, c48), ⟨rfl, rfl, rfl, rfl, trivial⟩, hO, h_p, hB⟩
 ·replace H := ifn h24 H
  refine GoR.op ((fun w => opB (op_lss rfl rfl w) (decide_eq_false h24)) _) rfl rfl ?_
  refine GoR.nil ?_
  refine Go1.seq ?_
  refine Go1.condF rfl rfl ?_
  refine Go1.exit rfl ?_
  refine Go1.seq ?_
  refine Go1.region ?_
  refine GoR.op ((op_move rfl) _) rfl rfl ?_
  refine GoR.op ((op_assign rfl) _) rfl rfl ?_
  refine GoR.nil ?_
  have hobt := t2freezeA 0 hO rfl
  obtain ⟨hO1, hc63, hi61, hn62⟩ := hobt
  replace h_p := h_p.ch hc63
  replace hB := hB.trans (Owns.dropFr _ _ 0)
  replace hO := hO1; clear hO1
  refine Go1.ret1 Try.func56 rfl ?_
  exact ⟨out1_19, p20, c21, (congrArg (fun nn => Value.slice p20 nn c21) hn62), hB.same, (hi61.ch (Ch.weak _ _ _)), H⟩
theorem body18 : Body Try.prog 18 := ⟨Try.f18, Try.func18, rfl, by kernel_rfl⟩
theorem walk_ref15_Classes {A : List Nat} {w0 : World} {p_a0 : Option Addr} {c_a0 : Nat} {a0 : List (List Int)} (hA : ∀ b ∈ A, b < w0.heap.size) (h_a0 : ISl (Rp.sl (Rp.int .i64)) A w0 p_a0 c_a0 a0) {K : Green → Prop} (H : ref15_Classes a0 K) :
    CallsV Try.prog 18 #[.slice p_a0 a0.length c_a0] w0 (fun v w' => ∃ (r0 : Green), ∃ (p_r0_R : Option Addr), ∃ (c_r0_R : Nat), ∃ (p_r0_L : Option Addr), ∃ (c_r0_L : Nat), ∃ (p_r0_J : Option Addr), ∃ (c_r0_J : Nat), ∃ (p_r0_H : Option Addr), ∃ (c_r0_H : Nat), ∃ (p_r0_Below : Option Addr), ∃ (c_r0_Below : Nat), v = .agg #[.slice p_r0_R r0.R.length c_r0_R, .slice p_r0_L r0.L.length c_r0_L, .slice p_r0_J r0.J.length c_r0_J, .slice p_r0_H r0.H.length c_r0_H, .slice p_r0_Below r0.Below.length c_r0_Below] ∧ Same w0 w' ∧ ISl (Rp.int .i64) A w' p_r0_R c_r0_R r0.R ∧ ISl (Rp.int .i64) A w' p_r0_L c_r0_L r0.L ∧ ISl (Rp.int .i64) A w' p_r0_J c_r0_J r0.J ∧ ISl (Rp.int .i64) A w' p_r0_H c_r0_H r0.H ∧ ISl (Rp.sl (Rp.bool)) A w' p_r0_Below c_r0_Below r0.Below ∧ K r0) := by
 refine CallsV.of (l := [.slice p_a0 a0.length c_a0]) Try.func18 rfl Try.ntmps18 rfl ?_
 have hO := Owns.start hA
 have hB := Fr.refl (bl []) w0
 unfold ref15_Classes at H
 replace h_a0 := h_a0.ch (Ch.start A w0)
 refine Go1.seq ?_
 refine Go1.region ?_
 have hobt := oalloc (t := 28) (cs := #[.slice none 0 0, .slice none 0 0, .slice none 0 0, .slice none 0 0, .slice none 0 0]) ti28 hO rfl
 obtain ⟨w1, B2, hst3, hs4, hop5⟩ := hobt
 refine GoR.op hop5 rfl rfl ?_
 replace hO := hst3.own
 replace h_a0 := h_a0.ch hst3.ch
 replace hB := hB.trans hst3.fr
 refine GoR.nil ?_
 refine Go1.seq ?_
 refine Go1.region ?_
 refine GoR.op ((op_move rfl) _) rfl rfl ?_
 refine GoR.call (op_call body54 rfl (walk_ref15_ideals hO.lt h_a0 H)) rfl rfl ?_
 rintro v11 w8 ⟨r7, p_r7, c_r7, rfl, hs9, h_r7, H⟩
 have hst12 := Stp.same hO hs9
 replace hO := hst12.own
 replace h_a0 := h_a0.ch hst12.ch
 replace hB := hB.trans hst12.fr
 refine GoR.call (op_call body53 rfl (walk_ref15_mutual hO.lt h_r7 H)) rfl rfl ?_
 rintro v17 w14 ⟨r13, p_r13, c_r13, rfl, hs15, h_r13, H⟩
 have hst18 := Stp.same hO hs15
 replace hO := hst18.own
 replace h_a0 := h_a0.ch hst18.ch
 replace h_r7 := h_r7.ch hst18.ch
 replace hB := hB.trans hst18.fr
 refine GoR.op ((op_move rfl) _) rfl rfl ?_
 refine GoR.call (op_call body54 rfl (walk_ref15_ideals hO.lt h_a0 H)) rfl rfl ?_
 rintro v23 w20 ⟨r19, p_r19, c_r19, rfl, hs21, h_r19, H⟩
 have hst24 := Stp.same hO hs21
 replace hO := hst24.own
 replace h_a0 := h_a0.ch hst24.ch
 replace h_r7 := h_r7.ch hst24.ch
 replace h_r13 := h_r13.ch hst24.ch
 replace hB := hB.trans hst24.fr
 refine GoR.call (op_call body53 rfl (walk_ref15_mutual hO.lt h_r19 H)) rfl rfl ?_
 rintro v29 w26 ⟨r25, p_r25, c_r25, rfl, hs27, h_r25, H⟩
 have hst30 := Stp.same hO hs27
 replace hO := hst30.own
 replace h_a0 := h_a0.ch hst30.ch
 replace h_r7 := h_r7.ch hst30.ch
 replace h_r13 := h_r13.ch hst30.ch
 replace h_r19 := h_r19.ch hst30.ch
 replace hB := hB.trans hst30.fr
 refine GoR.op ((op_build Try.underlying28 ti28 (pl := [(0, 1), (1, 1), (2, 1), (3, 1), (4, 1)]) (vs := [(0, .slice p_r13 r13.length c_r13), (1, .slice p_r25 r25.length c_r25)]) (cs := #[.slice p_r13 r13.length c_r13, .slice p_r25 r25.length c_r25, .slice none 0 0, .slice none 0 0, .slice none 0 0]) (by kernel_rfl) rfl (by kernel_rfl)) _) rfl rfl ?_
 have hobt := oalloc (t := 28) (cs := #[.slice none 0 0, .slice none 0 0, .slice none 0 0, .slice none 0 0, .slice none 0 0]) ti28 hO rfl
 obtain ⟨w31, B32, hst33, hs34, hop35⟩ := hobt
 refine GoR.op hop35 rfl rfl ?_
 replace hO := hst33.own
 replace h_a0 := h_a0.ch hst33.ch
 replace h_r7 := h_r7.ch hst33.ch
 replace h_r13 := h_r13.ch hst33.ch
 replace h_r19 := h_r19.ch hst33.ch
 replace h_r25 := h_r25.ch hst33.ch
 replace hB := hB.trans hst33.fr
 have hobt := oblkStAgg (us := [.slice p_r13 r13.length c_r13, .slice p_r25 r25.length c_r25, .slice none 0 0, .slice none 0 0, .slice none 0 0]) (o := 0) (cs' := #[.slice p_r13 r13.length c_r13, .slice p_r25 r25.length c_r25, .slice none 0 0, .slice none 0 0, .slice none 0 0]) 0 hO rfl rfl (Nat.le_of_ble_eq_true rfl) rfl
 obtain ⟨w37, hst38, hop39⟩ := hobt
 refine GoR.op (hop39 ti28 rfl rfl rfl) rfl rfl ?_
 replace hO := hst38.own
 replace h_a0 := h_a0.ch hst38.ch
 replace h_r7 := h_r7.ch hst38.ch
 replace h_r13 := h_r13.ch hst38.ch
 replace h_r19 := h_r19.ch hst38.ch
 replace h_r25 := h_r25.ch hst38.ch
 replace hB := hB.trans hst38.fr
 refine GoR.nil ?_
 refine Go1.seq ?_
 refine Go1.region ?_
 refine GoR.op ((op_move rfl) _) rfl rfl ?_
 refine GoR.call (op_call body54 rfl (walk_ref15_ideals hO.lt h_a0 H)) rfl rfl ?_
 rintro v44 w41 ⟨r40, p_r40, c_r40, rfl, hs42, h_r40, H⟩
 have hst45 := Stp.same hO hs42
 replace hO := hst45.own
 replace h_a0 := h_a0.ch hst45.ch
 replace h_r7 := h_r7.ch hst45.ch
 replace h_r13 := h_r13.ch hst45.ch
 replace h_r19 := h_r19.ch hst45.ch
 replace h_r25 := h_r25.ch hst45.ch
 replace hB := hB.trans hst45.fr
 refine GoR.op ((op_assign rfl) _) rfl rfl ?_
 refine GoR.nil ?_
 refine Go1.seq ?_
 refine Go1.region ?_
 refine GoR.op ((op_move rfl) _) rfl rfl ?_
 refine GoR.call (op_call body53 rfl (walk_ref15_mutual hO.lt h_r40 H)) rfl rfl ?_
 rintro v50 w47 ⟨r46, p_r46, c_r46, rfl, hs48, h_r46, H⟩
 have hst51 := Stp.same hO hs48
 replace hO := hst51.own
 replace h_a0 := h_a0.ch hst51.ch
 replace h_r7 := h_r7.ch hst51.ch
 replace h_r13 := h_r13.ch hst51.ch
 replace h_r19 := h_r19.ch hst51.ch
 replace h_r25 := h_r25.ch hst51.ch
 replace h_r40 := h_r40.ch hst51.ch
 replace hB := hB.trans hst51.fr
 refine GoR.op ((op_fieldAddr Try.underlying28 rfl ti25 rfl (by decide)) _) rfl rfl ?_
 have hobt := oblkSt (v := .slice p_r46 r46.length c_r46) (i := 2) 0 hO rfl rfl rfl
 obtain ⟨w52, hst53, hop54⟩ := hobt
 refine GoR.op (hop54 Try.underlying25 rfl ti25 rfl rfl) rfl rfl ?_
 replace hO := hst53.own
 replace h_a0 := h_a0.ch hst53.ch
 replace h_r7 := h_r7.ch hst53.ch
 replace h_r13 := h_r13.ch hst53.ch
 replace h_r19 := h_r19.ch hst53.ch
 replace h_r25 := h_r25.ch hst53.ch
 replace h_r40 := h_r40.ch hst53.ch
 replace h_r46 := h_r46.ch hst53.ch
 replace hB := hB.trans hst53.fr
 refine GoR.nil ?_
 refine Go1.seq ?_
 refine Go1.region ?_
 refine GoR.op ((op_fieldAddr Try.underlying28 rfl ti25 rfl (by decide)) _) rfl rfl ?_
 refine GoR.op ((oblk 0 hO rfl rfl Try.underlying25 rfl rfl) _ (Same.refl _)) rfl rfl ?_
 refine GoR.op ((op_fieldAddr Try.underlying28 rfl ti25 rfl (by decide)) _) rfl rfl ?_
 refine GoR.op ((oblk 0 hO rfl rfl Try.underlying25 rfl rfl) _ (Same.refl _)) rfl rfl ?_
 refine GoR.call (op_call body55 rfl (walk_ref03_Meet hO.lt h_r13 h_r25 H)) rfl rfl ?_
 rintro v59 w56 ⟨r55, p_r55, c_r55, rfl, hs57, h_r55, H⟩
 have hst60 := Stp.same hO hs57
 replace hO := hst60.own
 replace h_a0 := h_a0.ch hst60.ch
 replace h_r7 := h_r7.ch hst60.ch
 replace h_r13 := h_r13.ch hst60.ch
 replace h_r19 := h_r19.ch hst60.ch
 replace h_r25 := h_r25.ch hst60.ch
 replace h_r40 := h_r40.ch hst60.ch
 replace h_r46 := h_r46.ch hst60.ch
 replace hB := hB.trans hst60.fr
 refine GoR.op ((op_fieldAddr Try.underlying28 rfl ti25 rfl (by decide)) _) rfl rfl ?_
 have hobt := oblkSt (v := .slice p_r55 r55.length c_r55) (i := 3) 0 hO rfl rfl rfl
 obtain ⟨w61, hst62, hop63⟩ := hobt
 refine GoR.op (hop63 Try.underlying25 rfl ti25 rfl rfl) rfl rfl ?_
 replace hO := hst62.own
 replace h_a0 := h_a0.ch hst62.ch
 replace h_r7 := h_r7.ch hst62.ch
 replace h_r13 := h_r13.ch hst62.ch
 replace h_r19 := h_r19.ch hst62.ch
 replace h_r25 := h_r25.ch hst62.ch
 replace h_r40 := h_r40.ch hst62.ch
 replace h_r46 := h_r46.ch hst62.ch
 replace h_r55 := h_r55.ch hst62.ch
 replace hB := hB.trans hst62.fr
 refine GoR.nil ?_
 refine Go1.seq ?_
 refine Go1.region ?_
 refine GoR.op ((op_fieldAddr Try.underlying28 rfl ti25 rfl (by decide)) _) rfl rfl ?_
 refine GoR.op ((oblk 0 hO rfl rfl Try.underlying25 rfl rfl) _ (Same.refl _)) rfl rfl ?_
 refine GoR.call (op_call body56 rfl (walk_ref03_Classes hO.lt h_r46 H)) rfl rfl ?_
 rintro v68 w65 ⟨r64, p_r64, c_r64, rfl, hs66, h_r64, H⟩
 have hst69 := Stp.same hO hs66
 replace hO := hst69.own
 replace h_a0 := h_a0.ch hst69.ch
 replace h_r7 := h_r7.ch hst69.ch
 replace h_r13 := h_r13.ch hst69.ch
 replace h_r19 := h_r19.ch hst69.ch
 replace h_r25 := h_r25.ch hst69.ch
 replace h_r40 := h_r40.ch hst69.ch
 replace h_r46 := h_r46.ch hst69.ch
 replace h_r55 := h_r55.ch hst69.ch
 replace hB := hB.trans hst69.fr
 refine GoR.op ((op_assign rfl) _) rfl rfl ?_
 refine GoR.nil ?_
 refine Go1.seq ?_
 refine Go1.seq ?_
 refine Go1.region ?_
 refine GoR.op ((op_move rfl) _) rfl rfl ?_
 refine GoR.op ((op_len Try.underlying22 rfl) _) rfl rfl ?_
 replace H := H h_r64.bd
 refine GoR.op ((op_move rfl) _) rfl rfl ?_
 refine GoR.nil ?_
 refine Go1.block ?_
 have hst71 := Stp.nil (e := 38) (r := 1) hO
 replace hO := hst71.own
 replace h_a0 := h_a0.ch hst71.ch
 replace h_r7 := h_r7.ch hst71.ch
 replace h_r13 := h_r13.ch hst71.ch
 replace h_r19 := h_r19.ch hst71.ch
 replace h_r25 := h_r25.ch hst71.ch
 replace h_r40 := h_r40.ch hst71.ch
 replace h_r46 := h_r46.ch hst71.ch
 replace h_r55 := h_r55.ch hst71.ch
 replace h_r64 := h_r64.ch hst71.ch
 replace hB := hB.trans hst71.fr
 have hE72 := Els.nil (Rp.sl (Rp.bool)) (bl (.row 38 1 none 0 0 [] :: [.blk B32 (.cells #[.slice p_r13 r13.length c_r13, .slice p_r25 r25.length c_r25, .slice p_r46 r46.length c_r46, .slice p_r55 r55.length c_r55, .slice none 0 0] 28 (0, 0)), .blk B2 (.cells #[.slice none 0 0, .slice none 0 0, .slice none 0 0, .slice none 0 0, .slice none 0 0] 28 (0, 0))]) ++ A) w65
 refine Go1.loopW (S := Nat × List (List Bool)) (fun s σ w => ∃ (n80 : Nat), ∃ (p78 : Option Addr), ∃ (c79 : Nat), ∃ (vs76 : List Value), agrees σ [(2, .pointer (some ⟨B2, 0, none⟩)), (3, .pointer (some ⟨B32, 0, none⟩)), (4, .slice p_r40 r40.length c_r40), (5, .slice p_r64 r64.length c_r64), (32, .slice p_r64 r64.length c_r64), (33, .int .i64 (r64.length : Int)), (34, .int .i64 ((s.1) : Int))] ∧ Owns w0.heap.size w [.row 38 1 p78 n80 c79 vs76, .blk B32 (.cells #[.slice p_r13 r13.length c_r13, .slice p_r25 r25.length c_r25, .slice p_r46 r46.length c_r46, .slice p_r55 r55.length c_r55, .slice p78 n80 c79] 28 (0, 0)), .blk B2 (.cells #[.slice none 0 0, .slice none 0 0, .slice none 0 0, .slice none 0 0, .slice none 0 0] 28 (0, 0))] A ∧ Els (Rp.sl (Rp.bool)) (bl [.row 38 1 p78 n80 c79 vs76, .blk B32 (.cells #[.slice p_r13 r13.length c_r13, .slice p_r25 r25.length c_r25, .slice p_r46 r46.length c_r46, .slice p_r55 r55.length c_r55, .slice p78 n80 c79] 28 (0, 0)), .blk B2 (.cells #[.slice none 0 0, .slice none 0 0, .slice none 0 0, .slice none 0 0, .slice none 0 0] 28 (0, 0))] ++ A) w vs76 (s.2) ∧ ISl (Rp.int .i64) (bl [.row 38 1 p78 n80 c79 vs76, .blk B32 (.cells #[.slice p_r13 r13.length c_r13, .slice p_r25 r25.length c_r25, .slice p_r46 r46.length c_r46, .slice p_r55 r55.length c_r55, .slice p78 n80 c79] 28 (0, 0)), .blk B2 (.cells #[.slice none 0 0, .slice none 0 0, .slice none 0 0, .slice none 0 0, .slice none 0 0] 28 (0, 0))] ++ A) w p_r13 c_r13 r13 ∧ ISl (Rp.int .i64) (bl [.row 38 1 p78 n80 c79 vs76, .blk B32 (.cells #[.slice p_r13 r13.length c_r13, .slice p_r25 r25.length c_r25, .slice p_r46 r46.length c_r46, .slice p_r55 r55.length c_r55, .slice p78 n80 c79] 28 (0, 0)), .blk B2 (.cells #[.slice none 0 0, .slice none 0 0, .slice none 0 0, .slice none 0 0, .slice none 0 0] 28 (0, 0))] ++ A) w p_r25 c_r25 r25 ∧ ISl (Rp.sl (Rp.bool)) (bl [.row 38 1 p78 n80 c79 vs76, .blk B32 (.cells #[.slice p_r13 r13.length c_r13, .slice p_r25 r25.length c_r25, .slice p_r46 r46.length c_r46, .slice p_r55 r55.length c_r55, .slice p78 n80 c79] 28 (0, 0)), .blk B2 (.cells #[.slice none 0 0, .slice none 0 0, .slice none 0 0, .slice none 0 0, .slice none 0 0] 28 (0, 0))] ++ A) w p_r40 c_r40 r40 ∧ ISl (Rp.int .i64) (bl [.row 38 1 p78 n80 c79 vs76, .blk B32 (.cells #[.slice p_r13 r13.length c_r13, .slice p_r25 r25.length c_r25, .slice p_r46 r46.length c_r46, .slice p_r55 r55.length c_r55, .slice p78 n80 c79] 28 (0, 0)), .blk B2 (.cells #[.slice none 0 0, .slice none 0 0, .slice none 0 0, .slice none 0 0, .slice none 0 0] 28 (0, 0))] ++ A) w p_r46 c_r46 r46 ∧ ISl (Rp.int .i64) (bl [.row 38 1 p78 n80 c79 vs76, .blk B32 (.cells #[.slice p_r13 r13.length c_r13, .slice p_r25 r25.length c_r25, .slice p_r46 r46.length c_r46, .slice p_r55 r55.length c_r55, .slice p78 n80 c79] 28 (0, 0)), .blk B2 (.cells #[.slice none 0 0, .slice none 0 0, .slice none 0 0, .slice none 0 0, .slice none 0 0] 28 (0, 0))] ++ A) w p_r55 c_r55 r55 ∧ ISl (Rp.sl (Rp.int .i64)) (bl [.row 38 1 p78 n80 c79 vs76, .blk B32 (.cells #[.slice p_r13 r13.length c_r13, .slice p_r25 r25.length c_r25, .slice p_r46 r46.length c_r46, .slice p_r55 r55.length c_r55, .slice p78 n80 c79] 28 (0, 0)), .blk B2 (.cells #[.slice none 0 0, .slice none 0 0, .slice none 0 0, .slice none 0 0, .slice none 0 0] 28 (0, 0))] ++ A) w p_r64 c_r64 r64 ∧ Fr (bl []) w0 (bl [.row 38 1 p78 n80 c79 vs76, .blk B32 (.cells #[.slice p_r13 r13.length c_r13, .slice p_r25 r25.length c_r25, .slice p_r46 r46.length c_r46, .slice p_r55 r55.length c_r55, .slice p78 n80 c79] 28 (0, 0)), .blk B2 (.cells #[.slice none 0 0, .slice none 0 0, .slice none 0 0, .slice none 0 0, .slice none 0 0] 28 (0, 0))]) w) H ⟨0, none, 0, [], ⟨rfl, rfl, rfl, rfl, rfl, rfl, rfl, trivial⟩, hO, hE72, h_r13, h_r25, h_r40, h_r46, h_r55, h_r64, hB⟩ ?_
 rintro X1 ⟨k1_74, d_75⟩ H hX1 σ w73 ⟨n80, p78, c79, vs76, hag, hO, hE77, h_r13, h_r25, h_r40, h_r46, h_r55, h_r64, hB⟩
 dsimp only at H
 refine Go1.keep [(2, .pointer (some ⟨B2, 0, none⟩)), (3, .pointer (some ⟨B32, 0, none⟩)), (4, .slice p_r40 r40.length c_r40), (5, .slice p_r64 r64.length c_r64), (32, .slice p_r64 r64.length c_r64), (33, .int .i64 (r64.length : Int)), (34, .int .i64 (k1_74 : Int))] hag ?_
 refine Go1.seq ?_
 refine Go1.region ?_
 by_cases h81 : (k1_74 : Int) < (r64.length : Int)
 ·replace H := ifp h81 H
  refine GoR.op ((fun w => opB (op_lss rfl rfl w) (decide_eq_true h81)) _) rfl rfl ?_
  refine GoR.nil ?_
  refine Go1.seq ?_
  refine Go1.condT rfl rfl ?_
  refine Go1.skip ?_
  refine Go1.seq ?_
  refine Go1.block ?_
  refine Go1.seq ?_
  refine Go1.region ?_
  obtain ⟨h82, H⟩ := H
  obtain ⟨h83, H⟩ := H
  refine GoR.op ((op_index Try.underlying22 ti25 rfl rfl h82 h83 (h_r64.some_ h82 h83)) _) rfl rfl ?_
  have hobt := ldSl h_r64 h82 h83
  obtain ⟨p84, c85, hi86, hl87⟩ := hobt
  refine GoR.op ((hl87 Try.underlying25 rfl rfl) _ (Same.refl _)) rfl rfl ?_
  refine GoR.op ((op_assign rfl) _) rfl rfl ?_
  refine GoR.nil ?_
  refine Go1.seq ?_
  refine Go1.region ?_
  refine GoR.op ((op_assign rfl) _) rfl rfl ?_
  refine GoR.nil ?_
  refine Go1.seq ?_
  refine Go1.seq ?_
  refine Go1.region ?_
  refine GoR.op ((op_move rfl) _) rfl rfl ?_
  refine GoR.op ((op_len Try.underlying22 rfl) _) rfl rfl ?_
  refine GoR.op ((op_move rfl) _) rfl rfl ?_
  refine GoR.nil ?_
  refine Go1.block ?_
  have hst89 := Stp.nil (e := 4) (r := 1) hO
  replace hE77 := hE77.ch hst89.ch
  replace hO := hst89.own
  replace h_r13 := h_r13.ch hst89.ch
  replace h_r25 := h_r25.ch hst89.ch
  replace h_r40 := h_r40.ch hst89.ch
  replace h_r46 := h_r46.ch hst89.ch
  replace h_r55 := h_r55.ch hst89.ch
  replace h_r64 := h_r64.ch hst89.ch
  replace hi86 := hi86.ch hst89.ch
  replace hB := hB.trans hst89.fr
  have hE90 := Els.nil (Rp.bool) (bl (.row 4 1 none 0 0 [] :: [.row 38 1 p78 n80 c79 vs76, .blk B32 (.cells #[.slice p_r13 r13.length c_r13, .slice p_r25 r25.length c_r25, .slice p_r46 r46.length c_r46, .slice p_r55 r55.length c_r55, .slice p78 n80 c79] 28 (0, 0)), .blk B2 (.cells #[.slice none 0 0, .slice none 0 0, .slice none 0 0, .slice none 0 0, .slice none 0 0] 28 (0, 0))]) ++ A) w73
  refine Go1.loopW (S := Nat × List Bool) (fun s σ w => ∃ (n98 : Nat), ∃ (p96 : Option Addr), ∃ (c97 : Nat), ∃ (vs94 : List Value), agrees σ [(2, .pointer (some ⟨B2, 0, none⟩)), (3, .pointer (some ⟨B32, 0, none⟩)), (4, .slice p_r40 r40.length c_r40), (5, .slice p_r64 r64.length c_r64), (7, .slice p84 ((ix r64 (k1_74 : Int)).length) c85), (8, .slice p96 n98 c97), (32, .slice p_r64 r64.length c_r64), (33, .int .i64 (r64.length : Int)), (34, .int .i64 (k1_74 : Int)), (38, .slice p_r64 r64.length c_r64), (39, .int .i64 (r64.length : Int)), (40, .int .i64 ((s.1) : Int))] ∧ Owns w0.heap.size w [.row 4 1 p96 n98 c97 vs94, .row 38 1 p78 n80 c79 vs76, .blk B32 (.cells #[.slice p_r13 r13.length c_r13, .slice p_r25 r25.length c_r25, .slice p_r46 r46.length c_r46, .slice p_r55 r55.length c_r55, .slice p78 n80 c79] 28 (0, 0)), .blk B2 (.cells #[.slice none 0 0, .slice none 0 0, .slice none 0 0, .slice none 0 0, .slice none 0 0] 28 (0, 0))] A ∧ Els (Rp.bool) (bl [.row 4 1 p96 n98 c97 vs94, .row 38 1 p78 n80 c79 vs76, .blk B32 (.cells #[.slice p_r13 r13.length c_r13, .slice p_r25 r25.length c_r25, .slice p_r46 r46.length c_r46, .slice p_r55 r55.length c_r55, .slice p78 n80 c79] 28 (0, 0)), .blk B2 (.cells #[.slice none 0 0, .slice none 0 0, .slice none 0 0, .slice none 0 0, .slice none 0 0] 28 (0, 0))] ++ A) w vs94 (s.2) ∧ Els (Rp.sl (Rp.bool)) (bl [.row 4 1 p96 n98 c97 vs94, .row 38 1 p78 n80 c79 vs76, .blk B32 (.cells #[.slice p_r13 r13.length c_r13, .slice p_r25 r25.length c_r25, .slice p_r46 r46.length c_r46, .slice p_r55 r55.length c_r55, .slice p78 n80 c79] 28 (0, 0)), .blk B2 (.cells #[.slice none 0 0, .slice none 0 0, .slice none 0 0, .slice none 0 0, .slice none 0 0] 28 (0, 0))] ++ A) w vs76 d_75 ∧ ISl (Rp.int .i64) (bl [.row 4 1 p96 n98 c97 vs94, .row 38 1 p78 n80 c79 vs76, .blk B32 (.cells #[.slice p_r13 r13.length c_r13, .slice p_r25 r25.length c_r25, .slice p_r46 r46.length c_r46, .slice p_r55 r55.length c_r55, .slice p78 n80 c79] 28 (0, 0)), .blk B2 (.cells #[.slice none 0 0, .slice none 0 0, .slice none 0 0, .slice none 0 0, .slice none 0 0] 28 (0, 0))] ++ A) w p_r13 c_r13 r13 ∧ ISl (Rp.int .i64) (bl [.row 4 1 p96 n98 c97 vs94, .row 38 1 p78 n80 c79 vs76, .blk B32 (.cells #[.slice p_r13 r13.length c_r13, .slice p_r25 r25.length c_r25, .slice p_r46 r46.length c_r46, .slice p_r55 r55.length c_r55, .slice p78 n80 c79] 28 (0, 0)), .blk B2 (.cells #[.slice none 0 0, .slice none 0 0, .slice none 0 0, .slice none 0 0, .slice none 0 0] 28 (0, 0))] ++ A) w p_r25 c_r25 r25 ∧ ISl (Rp.sl (Rp.bool)) (bl [.row 4 1 p96 n98 c97 vs94, .row 38 1 p78 n80 c79 vs76, .blk B32 (.cells #[.slice p_r13 r13.length c_r13, .slice p_r25 r25.length c_r25, .slice p_r46 r46.length c_r46, .slice p_r55 r55.length c_r55, .slice p78 n80 c79] 28 (0, 0)), .blk B2 (.cells #[.slice none 0 0, .slice none 0 0, .slice none 0 0, .slice none 0 0, .slice none 0 0] 28 (0, 0))] ++ A) w p_r40 c_r40 r40 ∧ ISl (Rp.int .i64) (bl [.row 4 1 p96 n98 c97 vs94, .row 38 1 p78 n80 c79 vs76, .blk B32 (.cells #[.slice p_r13 r13.length c_r13, .slice p_r25 r25.length c_r25, .slice p_r46 r46.length c_r46, .slice p_r55 r55.length c_r55, .slice p78 n80 c79] 28 (0, 0)), .blk B2 (.cells #[.slice none 0 0, .slice none 0 0, .slice none 0 0, .slice none 0 0, .slice none 0 0] 28 (0, 0))] ++ A) w p_r46 c_r46 r46 ∧ ISl (Rp.int .i64) (bl [.row 4 1 p96 n98 c97 vs94, .row 38 1 p78 n80 c79 vs76, .blk B32 (.cells #[.slice p_r13 r13.length c_r13, .slice p_r25 r25.length c_r25, .slice p_r46 r46.length c_r46, .slice p_r55 r55.length c_r55, .slice p78 n80 c79] 28 (0, 0)), .blk B2 (.cells #[.slice none 0 0, .slice none 0 0, .slice none 0 0, .slice none 0 0, .slice none 0 0] 28 (0, 0))] ++ A) w p_r55 c_r55 r55 ∧ ISl (Rp.sl (Rp.int .i64)) (bl [.row 4 1 p96 n98 c97 vs94, .row 38 1 p78 n80 c79 vs76, .blk B32 (.cells #[.slice p_r13 r13.length c_r13, .slice p_r25 r25.length c_r25, .slice p_r46 r46.length c_r46, .slice p_r55 r55.length c_r55, .slice p78 n80 c79] 28 (0, 0)), .blk B2 (.cells #[.slice none 0 0, .slice none 0 0, .slice none 0 0, .slice none 0 0, .slice none 0 0] 28 (0, 0))] ++ A) w p_r64 c_r64 r64 ∧ ISl (Rp.int .i64) (bl [.row 4 1 p96 n98 c97 vs94, .row 38 1 p78 n80 c79 vs76, .blk B32 (.cells #[.slice p_r13 r13.length c_r13, .slice p_r25 r25.length c_r25, .slice p_r46 r46.length c_r46, .slice p_r55 r55.length c_r55, .slice p78 n80 c79] 28 (0, 0)), .blk B2 (.cells #[.slice none 0 0, .slice none 0 0, .slice none 0 0, .slice none 0 0, .slice none 0 0] 28 (0, 0))] ++ A) w p84 c85 (ix r64 (k1_74 : Int)) ∧ Fr (bl []) w0 (bl [.row 4 1 p96 n98 c97 vs94, .row 38 1 p78 n80 c79 vs76, .blk B32 (.cells #[.slice p_r13 r13.length c_r13, .slice p_r25 r25.length c_r25, .slice p_r46 r46.length c_r46, .slice p_r55 r55.length c_r55, .slice p78 n80 c79] 28 (0, 0)), .blk B2 (.cells #[.slice none 0 0, .slice none 0 0, .slice none 0 0, .slice none 0 0, .slice none 0 0] 28 (0, 0))]) w) H ⟨0, none, 0, [], ⟨rfl, rfl, rfl, rfl, rfl, rfl, rfl, rfl, rfl, rfl, rfl, rfl, trivial⟩, hO, hE90, hE77, h_r13, h_r25, h_r40, h_r46, h_r55, h_r64, hi86, hB⟩ ?_
  rintro X2 ⟨k2_92, d_93⟩ H hX2 σ w91 ⟨n98, p96, c97, vs94, hag, hO, hE95, hE77, h_r13, h_r25, h_r40, h_r46, h_r55, h_r64, hi86, hB⟩
  dsimp only at H
  refine Go1.keep [(2, .pointer (some ⟨B2, 0, none⟩)), (3, .pointer (some ⟨B32, 0, none⟩)), (4, .slice p_r40 r40.length c_r40), (5, .slice p_r64 r64.length c_r64), (7, .slice p84 ((ix r64 (k1_74 : Int)).length) c85), (8, .slice p96 n98 c97), (32, .slice p_r64 r64.length c_r64), (33, .int .i64 (r64.length : Int)), (34, .int .i64 (k1_74 : Int)), (38, .slice p_r64 r64.length c_r64), (39, .int .i64 (r64.length : Int)), (40, .int .i64 (k2_92 : Int))] hag ?_
  refine Go1.seq ?_
  refine Go1.region ?_
  by_cases h99 : (k2_92 : Int) < (r64.length : Int)
  ·replace H := ifp h99 H
   refine GoR.op ((fun w => opB (op_lss rfl rfl w) (decide_eq_true h99)) _) rfl rfl ?_
   refine GoR.nil ?_
   refine Go1.seq ?_
   refine Go1.condT rfl rfl ?_
   refine Go1.skip ?_
   refine Go1.seq ?_
   refine Go1.block ?_
   refine Go1.seq ?_
   refine Go1.region ?_
   obtain ⟨h100, H⟩ := H
   obtain ⟨h101, H⟩ := H
   refine GoR.op ((op_index Try.underlying22 ti25 rfl rfl h100 h101 (h_r64.some_ h100 h101)) _) rfl rfl ?_
   have hobt := ldSl h_r64 h100 h101
   obtain ⟨p102, c103, hi104, hl105⟩ := hobt
   refine GoR.op ((hl105 Try.underlying25 rfl rfl) _ (Same.refl _)) rfl rfl ?_
   refine GoR.op ((op_assign rfl) _) rfl rfl ?_
   refine GoR.nil ?_
   refine Go1.drawS 6 [(0, .pure), (1, .pure), (2, .pure), (3, .pure), (4, .stable), (5, .pure), (6, .stable), (7, .pure), (8, .pure), (9, .stable), (10, .pure), (11, .stable), (12, .loud), (13, .last), (14, .pure)] mixed (by kernel_rfl) ?_
   intro w106 hs107
   have hst108 := Stp.same hO hs107
   replace hE95 := hE95.ch hst108.ch
   replace hE77 := hE77.ch hst108.ch
   replace hO := hst108.own
   replace h_r13 := h_r13.ch hst108.ch
   replace h_r25 := h_r25.ch hst108.ch
   replace h_r40 := h_r40.ch hst108.ch
   replace h_r46 := h_r46.ch hst108.ch
   replace h_r55 := h_r55.ch hst108.ch
   replace h_r64 := h_r64.ch hst108.ch
   replace hi86 := hi86.ch hst108.ch
   replace hi104 := hi104.ch hst108.ch
   replace hB := hB.trans hst108.fr
   refine GoQ.pure rfl (op_move rfl) rfl rfl ?_
   refine GoQ.pure rfl (op_move rfl) rfl rfl ?_
   refine GoQ.pure rfl (op_move rfl) rfl rfl ?_
   obtain ⟨h109, H⟩ := H
   obtain ⟨h110, H⟩ := H
   refine GoQ.pure rfl (op_index Try.underlying25 ti3 rfl rfl h109 h110 (hi104.some_ h109 h110)) rfl rfl ?_
   refine GoQ.stable rfl (ldInt hi104 h109 h110 Try.underlying3 rfl rfl) rfl rfl ?_
   obtain ⟨h111, H⟩ := H
   obtain ⟨h112, H⟩ := H
   refine GoQ.pure rfl (op_index Try.underlying26 ti38 rfl rfl h111 h112 (h_r40.some_ h111 h112)) rfl rfl ?_
   have hobt := ldSl h_r40 h111 h112
   obtain ⟨p113, c114, hi115, hl116⟩ := hobt
   refine GoQ.stable rfl (hl116 Try.underlying38 rfl rfl) rfl rfl ?_
   refine GoQ.pure rfl (op_move rfl) rfl rfl ?_
   obtain ⟨h117, H⟩ := H
   obtain ⟨h118, H⟩ := H
   refine GoQ.pure rfl (op_index Try.underlying25 ti3 rfl rfl h117 h118 (hi86.some_ h117 h118)) rfl rfl ?_
   refine GoQ.stable rfl (ldInt hi86 h117 h118 Try.underlying3 rfl rfl) rfl rfl ?_
   obtain ⟨h119, H⟩ := H
   obtain ⟨h120, H⟩ := H
   refine GoQ.pure rfl (op_index Try.underlying38 ti4 rfl rfl h119 h120 (hi115.some_ h119 h120)) rfl rfl ?_
   by_cases h121 : ix (ix r40 (ix (ix r64 (k2_92 : Int)) (0 : Int))) (ix (ix r64 (k1_74 : Int)) (0 : Int)) = true
   ·replace H := ifp h121 H
    refine GoQ.stable rfl (fun w hw => opB ((ldBool hi115 h119 h120 Try.underlying4 rfl rfl) w hw) (h121)) rfl rfl ?_
    have hobt := obuild (r := Rp.bool) (n := 1) (parts := [(0, .bool true)]) (vs := [.bool true]) (xs := [true]) rfl Try.underlying38 ti4 hO (by decide) (by kernel_rfl) (Els.cons rfl rfl (Els.nil _ _ _) (by simp [mx])) rfl
    obtain ⟨w122, p123, hst124, hE125, hs126, hop127⟩ := hobt
    refine GoQ.loud rfl (hop127 rfl) hs126 rfl rfl ?_
    replace hE95 := hE95.ch hst124.ch
    replace hE77 := hE77.ch hst124.ch
    replace hO := hst124.own
    replace h_r13 := h_r13.ch hst124.ch
    replace h_r25 := h_r25.ch hst124.ch
    replace h_r40 := h_r40.ch hst124.ch
    replace h_r46 := h_r46.ch hst124.ch
    replace h_r55 := h_r55.ch hst124.ch
    replace h_r64 := h_r64.ch hst124.ch
    replace hi86 := hi86.ch hst124.ch
    replace hi104 := hi104.ch hst124.ch
    replace hi115 := hi115.ch hst124.ch
    replace hB := hB.trans hst124.fr
    have hobt := freeze 0 hO rfl hE125
    obtain ⟨hO1, hc131, hi129, hn130⟩ := hobt
    replace h_r13 := h_r13.ch hc131
    replace h_r25 := h_r25.ch hc131
    replace h_r40 := h_r40.ch hc131
    replace h_r46 := h_r46.ch hc131
    replace h_r55 := h_r55.ch hc131
    replace h_r64 := h_r64.ch hc131
    replace hi86 := hi86.ch hc131
    replace hi104 := hi104.ch hc131
    replace hi115 := hi115.ch hc131
    replace hE95 := hE95.ch hc131
    replace hE77 := hE77.ch hc131
    replace hB := hB.trans (Owns.dropFr _ _ 0)
    replace hO := hO1; clear hO1
    obtain ⟨h132, H⟩ := H
    have hobt := oapp Try.underlying38 ti4 rfl 0 hO rfl hE95 hi129 hn130 h132 (by decide)
    obtain ⟨w133, p134, c135, vs136, hst137, hE138, hop139⟩ := hobt
    refine GoQ.last rfl (hop139 rfl rfl) rfl rfl ?_
    replace hE77 := hE77.ch hst137.ch
    replace hO := hst137.own
    replace h_r13 := h_r13.ch hst137.ch
    replace h_r25 := h_r25.ch hst137.ch
    replace h_r40 := h_r40.ch hst137.ch
    replace h_r46 := h_r46.ch hst137.ch
    replace h_r55 := h_r55.ch hst137.ch
    replace h_r64 := h_r64.ch hst137.ch
    replace hi86 := hi86.ch hst137.ch
    replace hi104 := hi104.ch hst137.ch
    replace hi115 := hi115.ch hst137.ch
    replace hi129 := hi129.ch hst137.ch
    replace hB := hB.trans hst137.fr
    refine GoQ.pure rfl (op_assign rfl) rfl rfl ?_
    refine GoQ.nil ?_
    refine Go1.inBlock ?_
    refine Go1.region ?_
    refine GoR.op ((op_add rfl rfl (wrap_i64 (natbd h99 h_r64.bd))) _) rfl rfl ?_
    refine GoR.op ((op_move rfl) _) rfl rfl ?_
    refine GoR.nil ?_
    exact hX2 _ H _ _ ⟨n98 + 1, p134, c135, vs136, ⟨rfl, rfl, rfl, rfl, rfl, rfl, rfl, rfl, rfl, rfl, rfl, rfl, trivial⟩, hO, hE138, hE77, h_r13, h_r25, h_r40, h_r46, h_r55, h_r64, hi86, hB⟩
   ·replace H := ifn h121 H
    refine GoQ.stable rfl (fun w hw => opB ((ldBool hi115 h119 h120 Try.underlying4 rfl rfl) w hw) (Bool.eq_false_iff.2 h121)) rfl rfl ?_
    have hobt := obuild (r := Rp.bool) (n := 1) (parts := [(0, .bool false)]) (vs := [.bool false]) (xs := [false]) rfl Try.underlying38 ti4 hO (by decide) (by kernel_rfl) (Els.cons rfl rfl (Els.nil _ _ _) (by simp [mx])) rfl
    obtain ⟨w141, p142, hst143, hE144, hs145, hop146⟩ := hobt
    refine GoQ.loud rfl (hop146 rfl) hs145 rfl rfl ?_
    replace hE95 := hE95.ch hst143.ch
    replace hE77 := hE77.ch hst143.ch
    replace hO := hst143.own
    replace h_r13 := h_r13.ch hst143.ch
    replace h_r25 := h_r25.ch hst143.ch
    replace h_r40 := h_r40.ch hst143.ch
    replace h_r46 := h_r46.ch hst143.ch
    replace h_r55 := h_r55.ch hst143.ch
    replace h_r64 := h_r64.ch hst143.ch
    replace hi86 := hi86.ch hst143.ch
    replace hi104 := hi104.ch hst143.ch
    replace hi115 := hi115.ch hst143.ch
    replace hB := hB.trans hst143.fr
    have hobt := freeze 0 hO rfl hE144
    obtain ⟨hO1, hc150, hi148, hn149⟩ := hobt
    replace h_r13 := h_r13.ch hc150
    replace h_r25 := h_r25.ch hc150
    replace h_r40 := h_r40.ch hc150
    replace h_r46 := h_r46.ch hc150
    replace h_r55 := h_r55.ch hc150
    replace h_r64 := h_r64.ch hc150
    replace hi86 := hi86.ch hc150
    replace hi104 := hi104.ch hc150
    replace hi115 := hi115.ch hc150
    replace hE95 := hE95.ch hc150
    replace hE77 := hE77.ch hc150
    replace hB := hB.trans (Owns.dropFr _ _ 0)
    replace hO := hO1; clear hO1
    obtain ⟨h151, H⟩ := H
    have hobt := oapp Try.underlying38 ti4 rfl 0 hO rfl hE95 hi148 hn149 h151 (by decide)
    obtain ⟨w152, p153, c154, vs155, hst156, hE157, hop158⟩ := hobt
    refine GoQ.last rfl (hop158 rfl rfl) rfl rfl ?_
    replace hE77 := hE77.ch hst156.ch
    replace hO := hst156.own
    replace h_r13 := h_r13.ch hst156.ch
    replace h_r25 := h_r25.ch hst156.ch
    replace h_r40 := h_r40.ch hst156.ch
    replace h_r46 := h_r46.ch hst156.ch
    replace h_r55 := h_r55.ch hst156.ch
    replace h_r64 := h_r64.ch hst156.ch
    replace hi86 := hi86.ch hst156.ch
    replace hi104 := hi104.ch hst156.ch
    replace hi115 := hi115.ch hst156.ch
    replace hi148 := hi148.ch hst156.ch
    replace hB := hB.trans hst156.fr
    refine GoQ.pure rfl (op_assign rfl) rfl rfl ?_
    refine GoQ.nil ?_
    refine Go1.inBlock ?_
    refine Go1.region ?_
    refine GoR.op ((op_add rfl rfl (wrap_i64 (natbd h99 h_r64.bd))) _) rfl rfl ?_
    refine GoR.op ((op_move rfl) _) rfl rfl ?_
    refine GoR.nil ?_
    exact hX2 _ H _ _ ⟨n98 + 1, p153, c154, vs155, ⟨rfl, rfl, rfl, rfl, rfl, rfl, rfl, rfl, rfl, rfl, rfl, rfl, trivial⟩, hO, hE157, hE77, h_r13, h_r25, h_r40, h_r46, h_r55, h_r64, hi86, hB⟩
  ·replace H := ifn h99 H
   refine GoR.op ((fun w => opB (op_lss rfl rfl w) (decide_eq_false h99)) _) rfl rfl ?_
   refine GoR.nil ?_
   refine Go1.seq ?_
   refine Go1.condF rfl rfl ?_
   refine Go1.exit rfl ?_
   refine Go1.region ?_
   refine GoR.op ((op_fieldAddr Try.underlying28 rfl ti26 rfl (by decide)) _) rfl rfl ?_
   refine GoR.op ((oblk 2 hO rfl rfl Try.underlying26 rfl rfl) _ (Same.refl _)) rfl rfl ?_
   refine GoR.op ((op_move rfl) _) rfl rfl ?_
   have hobt := freeze 0 hO rfl hE95
   obtain ⟨hO1, hc162, hi160, hn161⟩ := hobt
   replace h_r13 := h_r13.ch hc162
   replace h_r25 := h_r25.ch hc162
   replace h_r40 := h_r40.ch hc162
   replace h_r46 := h_r46.ch hc162
   replace h_r55 := h_r55.ch hc162
   replace h_r64 := h_r64.ch hc162
   replace hi86 := hi86.ch hc162
   replace hE77 := hE77.ch hc162
   replace hB := hB.trans (Owns.dropFr _ _ 0)
   replace hO := hO1; clear hO1
   have hobt := obuild (r := Rp.sl (Rp.bool)) (n := 1) (parts := [(0, .slice p96 n98 c97)]) (vs := [.slice p96 n98 c97]) (xs := [d_93]) rfl Try.underlying26 ti38 hO (by decide) (by kernel_rfl) (Els.cons rfl ⟨p96, c97, congrArg some (congrArg (fun nn => Value.slice p96 nn c97) hn161), hi160⟩ (Els.nil _ _ _) (by simp [mx])) rfl
   obtain ⟨w163, p164, hst165, hE166, hs167, hop168⟩ := hobt
   refine GoR.op (hop168 rfl) rfl rfl ?_
   replace hE77 := hE77.ch hst165.ch
   replace hO := hst165.own
   replace h_r13 := h_r13.ch hst165.ch
   replace h_r25 := h_r25.ch hst165.ch
   replace h_r40 := h_r40.ch hst165.ch
   replace h_r46 := h_r46.ch hst165.ch
   replace h_r55 := h_r55.ch hst165.ch
   replace h_r64 := h_r64.ch hst165.ch
   replace hi86 := hi86.ch hst165.ch
   replace hi160 := hi160.ch hst165.ch
   replace hB := hB.trans hst165.fr
   have hobt := freeze 0 hO rfl hE166
   obtain ⟨hO1, hc172, hi170, hn171⟩ := hobt
   replace h_r13 := h_r13.ch hc172
   replace h_r25 := h_r25.ch hc172
   replace h_r40 := h_r40.ch hc172
   replace h_r46 := h_r46.ch hc172
   replace h_r55 := h_r55.ch hc172
   replace h_r64 := h_r64.ch hc172
   replace hi86 := hi86.ch hc172
   replace hi160 := hi160.ch hc172
   replace hE77 := hE77.ch hc172
   replace hB := hB.trans (Owns.dropFr _ _ 0)
   replace hO := hO1; clear hO1
   obtain ⟨h173, H⟩ := H
   have hobt := oapp Try.underlying26 ti38 rfl 0 hO rfl hE77 hi170 hn171 h173 (by decide)
   obtain ⟨w174, p175, c176, vs177, hst178, hE179, hop180⟩ := hobt
   refine GoR.op (hop180 rfl rfl) rfl rfl ?_
   replace hO := hst178.own
   replace h_r13 := h_r13.ch hst178.ch
   replace h_r25 := h_r25.ch hst178.ch
   replace h_r40 := h_r40.ch hst178.ch
   replace h_r46 := h_r46.ch hst178.ch
   replace h_r55 := h_r55.ch hst178.ch
   replace h_r64 := h_r64.ch hst178.ch
   replace hi86 := hi86.ch hst178.ch
   replace hi160 := hi160.ch hst178.ch
   replace hi170 := hi170.ch hst178.ch
   replace hB := hB.trans hst178.fr
   refine GoR.op ((op_fieldAddr Try.underlying28 rfl ti26 rfl (by decide)) _) rfl rfl ?_
   have hobt := oblkSt (v := .slice p175 (n80 + 1) c176) (i := 4) 1 hO rfl rfl rfl
   obtain ⟨w182, hst183, hop184⟩ := hobt
   refine GoR.op (hop184 Try.underlying26 rfl ti26 rfl rfl) rfl rfl ?_
   replace hE179 := hE179.ch hst183.ch
   replace hO := hst183.own
   replace h_r13 := h_r13.ch hst183.ch
   replace h_r25 := h_r25.ch hst183.ch
   replace h_r40 := h_r40.ch hst183.ch
   replace h_r46 := h_r46.ch hst183.ch
   replace h_r55 := h_r55.ch hst183.ch
   replace h_r64 := h_r64.ch hst183.ch
   replace hi86 := hi86.ch hst183.ch
   replace hi160 := hi160.ch hst183.ch
   replace hi170 := hi170.ch hst183.ch
   replace hB := hB.trans hst183.fr
   refine GoR.nil ?_
   refine Go1.inBlock ?_
   refine Go1.region ?_
   refine GoR.op ((op_add rfl rfl (wrap_i64 (natbd h81 h_r64.bd))) _) rfl rfl ?_
   refine GoR.op ((op_move rfl) _) rfl rfl ?_
   refine GoR.nil ?_
   exact hX1 _ H _ _ ⟨n80 + 1, p175, c176, vs177, ⟨rfl, rfl, rfl, rfl, rfl, rfl, rfl, trivial⟩, hO, hE179, h_r13, h_r25, h_r40, h_r46, h_r55, h_r64, hB⟩
 ·replace H := ifn h81 H
  refine GoR.op ((fun w => opB (op_lss rfl rfl w) (decide_eq_false h81)) _) rfl rfl ?_
  refine GoR.nil ?_
  refine Go1.seq ?_
  refine Go1.condF rfl rfl ?_
  refine Go1.exit rfl ?_
  refine Go1.seq ?_
  refine Go1.region ?_
  refine GoR.op ((oblkAgg (vs := [.slice p_r13 r13.length c_r13, .slice p_r25 r25.length c_r25, .slice p_r46 r46.length c_r46, .slice p_r55 r55.length c_r55, .slice p78 n80 c79]) 1 hO rfl rfl Try.underlying28 rfl ti28 rfl) _ (Same.refl _)) rfl rfl ?_
  have hobt := oblkStAgg (us := [.slice p_r13 r13.length c_r13, .slice p_r25 r25.length c_r25, .slice p_r46 r46.length c_r46, .slice p_r55 r55.length c_r55, .slice p78 n80 c79]) (o := 0) (cs' := #[.slice p_r13 r13.length c_r13, .slice p_r25 r25.length c_r25, .slice p_r46 r46.length c_r46, .slice p_r55 r55.length c_r55, .slice p78 n80 c79]) 2 hO rfl rfl (Nat.le_of_ble_eq_true rfl) rfl
  obtain ⟨w185, hst186, hop187⟩ := hobt
  refine GoR.op (hop187 ti28 rfl rfl rfl) rfl rfl ?_
  replace hE77 := hE77.ch hst186.ch
  replace hO := hst186.own
  replace h_r13 := h_r13.ch hst186.ch
  replace h_r25 := h_r25.ch hst186.ch
  replace h_r40 := h_r40.ch hst186.ch
  replace h_r46 := h_r46.ch hst186.ch
  replace h_r55 := h_r55.ch hst186.ch
  replace h_r64 := h_r64.ch hst186.ch
  replace hB := hB.trans hst186.fr
  refine GoR.nil ?_
  have hobt := freeze 0 hO rfl hE77
  obtain ⟨hO1, hc190, hi188, hn189⟩ := hobt
  replace h_r13 := h_r13.ch hc190
  replace h_r25 := h_r25.ch hc190
  replace h_r40 := h_r40.ch hc190
  replace h_r46 := h_r46.ch hc190
  replace h_r55 := h_r55.ch hc190
  replace h_r64 := h_r64.ch hc190
  replace hB := hB.trans (Owns.dropFr _ _ 0)
  replace hO := hO1; clear hO1
  refine Go1.retC1 Try.func18 rfl rfl (run_loadBlk (vs := [.slice p_r13 r13.length c_r13, .slice p_r25 r25.length c_r25, .slice p_r46 r46.length c_r46, .slice p_r55 r55.length c_r55, .slice p78 n80 c79]) 1 hO rfl rfl Try.underlying28 rfl ti28) ?_
  exact ⟨(⟨r13, r25, r46, r55, d_75⟩ : Green), p_r13, c_r13, p_r25, c_r25, p_r46, c_r46, p_r55, c_r55, p78, c79, (congrArg (fun l => Value.agg (List.toArray l)) (cons_eq rfl (cons_eq rfl (cons_eq rfl (cons_eq rfl (cons_eq (congrArg (fun nn => Value.slice p78 nn c79) hn189) rfl)))))), hB.same, (h_r13.ch (Ch.weak _ _ _)), (h_r25.ch (Ch.weak _ _ _)), (h_r46.ch (Ch.weak _ _ _)), (h_r55.ch (Ch.weak _ _ _)), (hi188.ch (Ch.weak _ _ _)), H⟩
theorem body3 : Body Try.prog 3 := ⟨Try.f3, Try.func3, rfl, by kernel_rfl⟩
theorem walk_law15_GreenClasses {A : List Nat} {w0 : World} {p_t : Option Addr} {c_t : Nat} {t : List (List Int)} (hA : ∀ b ∈ A, b < w0.heap.size) (h_t : ISl (Rp.sl (Rp.int .i64)) A w0 p_t c_t t) {K : Bool → Prop} (H : law15_GreenClasses t K) :
    CallsV Try.prog 3 #[.slice p_t t.length c_t] w0 (fun v w' => ∃ (r0 : Bool), v = .bool r0 ∧ Same w0 w' ∧ K r0) := by
 refine CallsV.of (l := [.slice p_t t.length c_t]) Try.func3 rfl Try.ntmps3 rfl ?_
 have hO := Owns.start hA
 have hB := Fr.refl (bl []) w0
 unfold law15_GreenClasses at H
 replace h_t := h_t.ch (Ch.start A w0)
 refine Go1.seq ?_
 refine Go1.region ?_
 refine GoR.op ((op_assign rfl) _) rfl rfl ?_
 refine GoR.nil ?_
 refine Go1.seq ?_
 refine Go1.seq ?_
 refine Go1.region ?_
 refine GoR.op ((op_move rfl) _) rfl rfl ?_
 refine GoR.call (op_call body13 rfl (walk_law15_large hO.lt h_t H)) rfl rfl ?_
 rintro v5 w2 ⟨r1, rfl, hs3, H⟩
 have hst6 := Stp.same hO hs3
 replace hO := hst6.own
 replace h_t := h_t.ch hst6.ch
 replace hB := hB.trans hst6.fr
 refine GoR.nil ?_
 cases r1
 ·replace H := ifn Bool.false_ne_true H
  refine Go1.condF rfl rfl ?_
  refine Go1.skip ?_
  refine Go1.seq ?_
  refine Go1.region ?_
  refine GoR.op ((op_move rfl) _) rfl rfl ?_
  refine GoR.call (op_call body15 rfl (walk_green_Classes hO.lt h_t H)) rfl rfl ?_
  rintro v11 w8 ⟨r7, p_r7_R, c_r7_R, p_r7_L, c_r7_L, p_r7_J, c_r7_J, p_r7_H, c_r7_H, p_r7_Below, c_r7_Below, rfl, hs9, h_r7_R, h_r7_L, h_r7_J, h_r7_H, h_r7_Below, H⟩
  have hst12 := Stp.same hO hs9
  replace hO := hst12.own
  replace h_t := h_t.ch hst12.ch
  replace hB := hB.trans hst12.fr
  have hobt := oalloc (t := 28) (cs := #[.slice none 0 0, .slice none 0 0, .slice none 0 0, .slice none 0 0, .slice none 0 0]) ti28 hO rfl
  obtain ⟨w13, B14, hst15, hs16, hop17⟩ := hobt
  refine GoR.op hop17 rfl rfl ?_
  replace hO := hst15.own
  replace h_t := h_t.ch hst15.ch
  replace h_r7_R := h_r7_R.ch hst15.ch
  replace h_r7_L := h_r7_L.ch hst15.ch
  replace h_r7_J := h_r7_J.ch hst15.ch
  replace h_r7_H := h_r7_H.ch hst15.ch
  replace h_r7_Below := h_r7_Below.ch hst15.ch
  replace hB := hB.trans hst15.fr
  have hobt := oblkStAgg (us := [.slice p_r7_R r7.R.length c_r7_R, .slice p_r7_L r7.L.length c_r7_L, .slice p_r7_J r7.J.length c_r7_J, .slice p_r7_H r7.H.length c_r7_H, .slice p_r7_Below r7.Below.length c_r7_Below]) (o := 0) (cs' := #[.slice p_r7_R r7.R.length c_r7_R, .slice p_r7_L r7.L.length c_r7_L, .slice p_r7_J r7.J.length c_r7_J, .slice p_r7_H r7.H.length c_r7_H, .slice p_r7_Below r7.Below.length c_r7_Below]) 0 hO rfl rfl (Nat.le_of_ble_eq_true rfl) rfl
  obtain ⟨w19, hst20, hop21⟩ := hobt
  refine GoR.op (hop21 ti28 rfl rfl rfl) rfl rfl ?_
  replace hO := hst20.own
  replace h_t := h_t.ch hst20.ch
  replace h_r7_R := h_r7_R.ch hst20.ch
  replace h_r7_L := h_r7_L.ch hst20.ch
  replace h_r7_J := h_r7_J.ch hst20.ch
  replace h_r7_H := h_r7_H.ch hst20.ch
  replace h_r7_Below := h_r7_Below.ch hst20.ch
  replace hB := hB.trans hst20.fr
  refine GoR.nil ?_
  refine Go1.seq ?_
  refine Go1.seq ?_
  refine Go1.region ?_
  refine GoR.op ((op_move rfl) _) rfl rfl ?_
  refine GoR.call (op_call body16 rfl (walk_ref14_Valid hO.lt h_t H)) rfl rfl ?_
  rintro v26 w23 ⟨r22, rfl, hs24, H⟩
  have hst27 := Stp.same hO hs24
  replace hO := hst27.own
  replace h_t := h_t.ch hst27.ch
  replace h_r7_R := h_r7_R.ch hst27.ch
  replace h_r7_L := h_r7_L.ch hst27.ch
  replace h_r7_J := h_r7_J.ch hst27.ch
  replace h_r7_H := h_r7_H.ch hst27.ch
  replace h_r7_Below := h_r7_Below.ch hst27.ch
  replace hB := hB.trans hst27.fr
  cases r22
  ·replace H := ifn Bool.false_ne_true H
   refine GoR.op ((op_not rfl) _) rfl rfl ?_
   refine GoR.nil ?_
   refine Go1.condT rfl rfl ?_
   refine Go1.seq ?_
   refine Go1.region ?_
   refine GoR.op ((oblkAgg (vs := [.slice p_r7_R r7.R.length c_r7_R, .slice p_r7_L r7.L.length c_r7_L, .slice p_r7_J r7.J.length c_r7_J, .slice p_r7_H r7.H.length c_r7_H, .slice p_r7_Below r7.Below.length c_r7_Below]) 0 hO rfl rfl Try.underlying28 rfl ti28 rfl) _ (Same.refl _)) rfl rfl ?_
   refine GoR.op ((op_build Try.underlying28 ti28 (pl := [(0, 1), (1, 1), (2, 1), (3, 1), (4, 1)]) (vs := []) (cs := #[.slice none 0 0, .slice none 0 0, .slice none 0 0, .slice none 0 0, .slice none 0 0]) (by kernel_rfl) rfl (by kernel_rfl)) _) rfl rfl ?_
   refine GoR.call (op_call body17 rfl (walk_ref15_Same (a0 := r7) (a1 := (⟨[], [], [], [], []⟩ : Green)) hO.lt h_r7_R h_r7_L h_r7_J h_r7_H h_r7_Below (ISl.null _ _ _) (ISl.null _ _ _) (ISl.null _ _ _) (ISl.null _ _ _) (ISl.null _ _ _) H)) rfl rfl ?_
   rintro v32 w29 ⟨r28, rfl, hs30, H⟩
   have hst33 := Stp.same hO hs30
   replace hO := hst33.own
   replace h_t := h_t.ch hst33.ch
   replace h_r7_R := h_r7_R.ch hst33.ch
   replace h_r7_L := h_r7_L.ch hst33.ch
   replace h_r7_J := h_r7_J.ch hst33.ch
   replace h_r7_H := h_r7_H.ch hst33.ch
   replace h_r7_Below := h_r7_Below.ch hst33.ch
   replace hB := hB.trans hst33.fr
   refine GoR.op ((op_move rfl) _) rfl rfl ?_
   cases r28
   ·replace H := ifn Bool.false_ne_true H
    refine GoR.pass rfl rfl ?_
    refine GoR.op ((op_pickF rfl rfl rfl) _) rfl rfl ?_
    refine GoR.op ((op_assign rfl) _) rfl rfl ?_
    refine GoR.nil ?_
    refine Go1.ret1 Try.func3 rfl ?_
    exact ⟨false, rfl, hB.same, H⟩
   ·replace H := ifp rfl H
    refine GoR.call (op_call body14 rfl (walk_law15_awake hO.lt H)) rfl rfl ?_
    rintro v38 w35 ⟨r34, rfl, hs36, H⟩
    have hst39 := Stp.same hO hs36
    replace hO := hst39.own
    replace h_t := h_t.ch hst39.ch
    replace h_r7_R := h_r7_R.ch hst39.ch
    replace h_r7_L := h_r7_L.ch hst39.ch
    replace h_r7_J := h_r7_J.ch hst39.ch
    replace h_r7_H := h_r7_H.ch hst39.ch
    replace h_r7_Below := h_r7_Below.ch hst39.ch
    replace hB := hB.trans hst39.fr
    refine GoR.op ((op_pickT rfl rfl rfl) _) rfl rfl ?_
    refine GoR.op ((op_assign rfl) _) rfl rfl ?_
    refine GoR.nil ?_
    refine Go1.ret1 Try.func3 rfl ?_
    exact ⟨r34, rfl, hB.same, H⟩
  ·replace H := ifp rfl H
   refine GoR.op ((op_not rfl) _) rfl rfl ?_
   refine GoR.nil ?_
   refine Go1.condF rfl rfl ?_
   refine Go1.skip ?_
   refine Go1.seq ?_
   refine Go1.drawS 0 [(0, .stable), (1, .pure), (2, .loud), (3, .loud), (4, .pure), (5, .loud), (6, .pure), (7, .pure)] mixed (by kernel_rfl) ?_
   intro w40 hs41
   have hst42 := Stp.same hO hs41
   replace hO := hst42.own
   replace h_t := h_t.ch hst42.ch
   replace h_r7_R := h_r7_R.ch hst42.ch
   replace h_r7_L := h_r7_L.ch hst42.ch
   replace h_r7_J := h_r7_J.ch hst42.ch
   replace h_r7_H := h_r7_H.ch hst42.ch
   replace h_r7_Below := h_r7_Below.ch hst42.ch
   replace hB := hB.trans hst42.fr
   refine GoQ.stable rfl (oblkAgg (vs := [.slice p_r7_R r7.R.length c_r7_R, .slice p_r7_L r7.L.length c_r7_L, .slice p_r7_J r7.J.length c_r7_J, .slice p_r7_H r7.H.length c_r7_H, .slice p_r7_Below r7.Below.length c_r7_Below]) 0 hO rfl rfl Try.underlying28 rfl ti28 rfl) rfl rfl ?_
   refine GoQ.pure rfl (op_move rfl) rfl rfl ?_
   refine GoQ.call rfl (op_call body18 rfl (walk_ref15_Classes hO.lt h_t H)) (fun v w hr => by obtain ⟨_, _, _, _, _, _, _, _, _, _, _, _, hs, _, _, _, _, _, _⟩ := hr; assumption) rfl rfl ?_
   rintro v47 w44 ⟨r43, p_r43_R, c_r43_R, p_r43_L, c_r43_L, p_r43_J, c_r43_J, p_r43_H, c_r43_H, p_r43_Below, c_r43_Below, rfl, hs45, h_r43_R, h_r43_L, h_r43_J, h_r43_H, h_r43_Below, H⟩
   have hst48 := Stp.same hO hs45
   replace hO := hst48.own
   replace h_t := h_t.ch hst48.ch
   replace h_r7_R := h_r7_R.ch hst48.ch
   replace h_r7_L := h_r7_L.ch hst48.ch
   replace h_r7_J := h_r7_J.ch hst48.ch
   replace h_r7_H := h_r7_H.ch hst48.ch
   replace h_r7_Below := h_r7_Below.ch hst48.ch
   replace hB := hB.trans hst48.fr
   refine GoQ.call rfl (op_call body17 rfl (walk_ref15_Same (a0 := r7) (a1 := r43) hO.lt h_r7_R h_r7_L h_r7_J h_r7_H h_r7_Below h_r43_R h_r43_L h_r43_J h_r43_H h_r43_Below H)) (fun v w hr => by obtain ⟨_, _, hs, _⟩ := hr; assumption) rfl rfl ?_
   rintro v53 w50 ⟨r49, rfl, hs51, H⟩
   have hst54 := Stp.same hO hs51
   replace hO := hst54.own
   replace h_t := h_t.ch hst54.ch
   replace h_r7_R := h_r7_R.ch hst54.ch
   replace h_r7_L := h_r7_L.ch hst54.ch
   replace h_r7_J := h_r7_J.ch hst54.ch
   replace h_r7_H := h_r7_H.ch hst54.ch
   replace h_r7_Below := h_r7_Below.ch hst54.ch
   replace h_r43_R := h_r43_R.ch hst54.ch
   replace h_r43_L := h_r43_L.ch hst54.ch
   replace h_r43_J := h_r43_J.ch hst54.ch
   replace h_r43_H := h_r43_H.ch hst54.ch
   replace h_r43_Below := h_r43_Below.ch hst54.ch
   replace hB := hB.trans hst54.fr
   refine GoQ.pure rfl (op_move rfl) rfl rfl ?_
   cases r49
   ·replace H := ifn Bool.false_ne_true H
    refine GoQ.pass rfl rfl rfl ?_
    refine GoQ.pure rfl (op_pickF rfl rfl rfl) rfl rfl ?_
    refine GoQ.pure rfl (op_assign rfl) rfl rfl ?_
    refine GoQ.nil ?_
    refine Go1.ret1 Try.func3 rfl ?_
    exact ⟨false, rfl, hB.same, H⟩
   ·replace H := ifp rfl H
    refine GoQ.call rfl (op_call body14 rfl (walk_law15_awake hO.lt H)) (fun v w hr => by obtain ⟨_, _, hs, _⟩ := hr; assumption) rfl rfl ?_
    rintro v59 w56 ⟨r55, rfl, hs57, H⟩
    have hst60 := Stp.same hO hs57
    replace hO := hst60.own
    replace h_t := h_t.ch hst60.ch
    replace h_r7_R := h_r7_R.ch hst60.ch
    replace h_r7_L := h_r7_L.ch hst60.ch
    replace h_r7_J := h_r7_J.ch hst60.ch
    replace h_r7_H := h_r7_H.ch hst60.ch
    replace h_r7_Below := h_r7_Below.ch hst60.ch
    replace h_r43_R := h_r43_R.ch hst60.ch
    replace h_r43_L := h_r43_L.ch hst60.ch
    replace h_r43_J := h_r43_J.ch hst60.ch
    replace h_r43_H := h_r43_H.ch hst60.ch
    replace h_r43_Below := h_r43_Below.ch hst60.ch
    replace hB := hB.trans hst60.fr
    refine GoQ.pure rfl (op_pickT rfl rfl rfl) rfl rfl ?_
    refine GoQ.pure rfl (op_assign rfl) rfl rfl ?_
    refine GoQ.nil ?_
    refine Go1.ret1 Try.func3 rfl ?_
    exact ⟨r55, rfl, hB.same, H⟩
 ·replace H := ifp rfl H
  refine Go1.condT rfl rfl ?_
  refine Go1.seq ?_
  refine Go1.region ?_
  refine GoR.call (op_call body14 rfl (walk_law15_awake hO.lt H)) rfl rfl ?_
  rintro v65 w62 ⟨r61, rfl, hs63, H⟩
  have hst66 := Stp.same hO hs63
  replace hO := hst66.own
  replace h_t := h_t.ch hst66.ch
  replace hB := hB.trans hst66.fr
  refine GoR.op ((op_assign rfl) _) rfl rfl ?_
  refine GoR.nil ?_
  refine Go1.ret1 Try.func3 rfl ?_
  exact ⟨r61, rfl, hB.same, H⟩
end Sg
