/- The walks: each call keeps to its plain transformer. Printed by walkgen.py. -/
import Derived.Test.YthobeabghciknaaTi
import Derived.Test.YthobeabghciknaaWGreenBelow
import Derived.Test.YthobeabghciknaaWGreenClasses
namespace Sg
open Go Go.RowKit Go.Proofs
set_option linter.unusedVariables false
set_option linter.unusedSimpArgs false
set_option maxRecDepth 100000
set_option maxHeartbeats 4000000
theorem body33 : Body Try.prog 33 := ⟨Try.f33, Try.func33, rfl, by kernel_rfl⟩
theorem walk_green_Regular {A : List Nat} {w0 : World} {p_t : Option Addr} {c_t : Nat} {t : List (List Int)} (hA : ∀ b ∈ A, b < w0.heap.size) (h_t : ISl (Rp.sl (Rp.int .i64)) A w0 p_t c_t t) {K : List Bool → Prop} (H : green_Regular t K) :
    CallsV Try.prog 33 #[.slice p_t t.length c_t] w0 (fun v w' => ∃ (r0 : List Bool), ∃ (p_r0 : Option Addr), ∃ (c_r0 : Nat), v = .slice p_r0 r0.length c_r0 ∧ Same w0 w' ∧ ISl (Rp.bool) A w' p_r0 c_r0 r0 ∧ K r0) := by
 refine CallsV.of (l := [.slice p_t t.length c_t]) Try.func33 rfl Try.ntmps33 rfl ?_
 have hO := Owns.start hA
 have hB := Fr.refl (bl []) w0
 unfold green_Regular at H
 replace h_t := h_t.ch (Ch.start A w0)
 refine Go1.seq ?_
 refine Go1.region ?_
 refine GoR.op ((op_assign rfl) _) rfl rfl ?_
 refine GoR.nil ?_
 refine Go1.seq ?_
 refine Go1.region ?_
 refine GoR.op ((op_move rfl) _) rfl rfl ?_
 refine GoR.call (op_call body15 rfl (walk_green_Classes hO.lt h_t H)) rfl rfl ?_
 rintro v5 w2 ⟨r1, p_r1_R, c_r1_R, p_r1_L, c_r1_L, p_r1_J, c_r1_J, p_r1_H, c_r1_H, p_r1_Below, c_r1_Below, rfl, hs3, h_r1_R, h_r1_L, h_r1_J, h_r1_H, h_r1_Below, H⟩
 have hst6 := Stp.same hO hs3
 replace hO := hst6.own
 replace h_t := h_t.ch hst6.ch
 replace hB := hB.trans hst6.fr
 have hobt := oalloc (t := 28) (cs := #[.slice none 0 0, .slice none 0 0, .slice none 0 0, .slice none 0 0, .slice none 0 0]) ti28 hO rfl
 obtain ⟨w7, B8, hst9, hs10, hop11⟩ := hobt
 refine GoR.op hop11 rfl rfl ?_
 replace hO := hst9.own
 replace h_t := h_t.ch hst9.ch
 replace h_r1_R := h_r1_R.ch hst9.ch
 replace h_r1_L := h_r1_L.ch hst9.ch
 replace h_r1_J := h_r1_J.ch hst9.ch
 replace h_r1_H := h_r1_H.ch hst9.ch
 replace h_r1_Below := h_r1_Below.ch hst9.ch
 replace hB := hB.trans hst9.fr
 have hobt := oblkStAgg (us := [.slice p_r1_R r1.R.length c_r1_R, .slice p_r1_L r1.L.length c_r1_L, .slice p_r1_J r1.J.length c_r1_J, .slice p_r1_H r1.H.length c_r1_H, .slice p_r1_Below r1.Below.length c_r1_Below]) (o := 0) (cs' := #[.slice p_r1_R r1.R.length c_r1_R, .slice p_r1_L r1.L.length c_r1_L, .slice p_r1_J r1.J.length c_r1_J, .slice p_r1_H r1.H.length c_r1_H, .slice p_r1_Below r1.Below.length c_r1_Below]) 0 hO rfl rfl (Nat.le_of_ble_eq_true rfl) rfl
 obtain ⟨w13, hst14, hop15⟩ := hobt
 refine GoR.op (hop15 ti28 rfl rfl rfl) rfl rfl ?_
 replace hO := hst14.own
 replace h_t := h_t.ch hst14.ch
 replace h_r1_R := h_r1_R.ch hst14.ch
 replace h_r1_L := h_r1_L.ch hst14.ch
 replace h_r1_J := h_r1_J.ch hst14.ch
 replace h_r1_H := h_r1_H.ch hst14.ch
 replace h_r1_Below := h_r1_Below.ch hst14.ch
 replace hB := hB.trans hst14.fr
 refine GoR.nil ?_
 refine Go1.seq ?_
 refine Go1.region ?_
 refine GoR.op ((op_fieldAddr Try.underlying28 rfl ti26 rfl (by decide)) _) rfl rfl ?_
 refine GoR.op ((oblk 0 hO rfl rfl Try.underlying26 rfl rfl) _ (Same.refl _)) rfl rfl ?_
 refine GoR.op ((op_len Try.underlying26 rfl) _) rfl rfl ?_
 replace H := H h_r1_Below.bd
 obtain ⟨h23, H⟩ := H
 obtain ⟨h24, H⟩ := H
 have hobt := omake (n := (r1.Below.length : Int)) (r := Rp.bool) (d := false) Try.underlying38 ti4 (fun _ _ => rfl) rfl hO h23 h24 (by decide)
 obtain ⟨w16, p17, vs18, hst19, hE20, hs21, hop22⟩ := hobt
 refine GoR.op (hop22 rfl rfl) rfl rfl ?_
 replace hO := hst19.own
 replace h_t := h_t.ch hst19.ch
 replace h_r1_R := h_r1_R.ch hst19.ch
 replace h_r1_L := h_r1_L.ch hst19.ch
 replace h_r1_J := h_r1_J.ch hst19.ch
 replace h_r1_H := h_r1_H.ch hst19.ch
 replace h_r1_Below := h_r1_Below.ch hst19.ch
 replace hB := hB.trans hst19.fr
 refine GoR.op ((op_assign rfl) _) rfl rfl ?_
 refine GoR.nil ?_
 refine Go1.seq ?_
 refine Go1.seq ?_
 refine Go1.region ?_
 refine GoR.op ((op_fieldAddr Try.underlying28 rfl ti25 rfl (by decide)) _) rfl rfl ?_
 refine GoR.op ((oblk 1 hO rfl rfl Try.underlying25 rfl rfl) _ (Same.refl _)) rfl rfl ?_
 refine GoR.op ((op_len Try.underlying25 rfl) _) rfl rfl ?_
 replace H := H h_r1_J.bd
 refine GoR.op ((op_move rfl) _) rfl rfl ?_
 refine GoR.nil ?_
 refine Go1.block ?_
 replace h_t := h_t.ch (Owns.dropCh _ _ 1)
 replace h_r1_R := h_r1_R.ch (Owns.dropCh _ _ 1)
 replace h_r1_L := h_r1_L.ch (Owns.dropCh _ _ 1)
 replace h_r1_J := h_r1_J.ch (Owns.dropCh _ _ 1)
 replace h_r1_H := h_r1_H.ch (Owns.dropCh _ _ 1)
 replace h_r1_Below := h_r1_Below.ch (Owns.dropCh _ _ 1)
 replace hE20 := hE20.ch (Owns.dropCh _ _ 1)
 replace hB := hB.trans (Owns.dropFr _ _ 1)
 replace hO := hO.drop 1
 refine Go1.loopW (S := Nat × List Bool) (fun s σ w => ∃ (vs29 : List Value), agrees σ [(0, .slice p_t t.length c_t), (4, .slice p17 r1.Below.length r1.Below.length), (14, .slice p_r1_J r1.J.length c_r1_J), (15, .int .i64 (r1.J.length : Int)), (16, .int .i64 ((s.1) : Int))] ∧ Owns w0.heap.size w [.row 4 1 p17 r1.Below.length r1.Below.length vs29] A ∧ Els (Rp.bool) (bl [.row 4 1 p17 r1.Below.length r1.Below.length vs29] ++ A) w vs29 (s.2) ∧ ISl (Rp.sl (Rp.int .i64)) (bl [.row 4 1 p17 r1.Below.length r1.Below.length vs29] ++ A) w p_t c_t t ∧ ISl (Rp.int .i64) (bl [.row 4 1 p17 r1.Below.length r1.Below.length vs29] ++ A) w p_r1_J c_r1_J r1.J ∧ Fr (bl []) w0 (bl [.row 4 1 p17 r1.Below.length r1.Below.length vs29]) w) H ⟨vs18, ⟨rfl, rfl, rfl, rfl, rfl, trivial⟩, hO, hE20, h_t, h_r1_J, hB⟩ ?_
 rintro X1 ⟨k1_27, regular1_28⟩ H hX1 σ w26 ⟨vs29, hag, hO, hE30, h_t, h_r1_J, hB⟩
 dsimp only at H
 refine Go1.keep [(0, .slice p_t t.length c_t), (4, .slice p17 r1.Below.length r1.Below.length), (14, .slice p_r1_J r1.J.length c_r1_J), (15, .int .i64 (r1.J.length : Int)), (16, .int .i64 (k1_27 : Int))] hag ?_
 refine Go1.seq ?_
 refine Go1.region ?_
 by_cases h31 : (k1_27 : Int) < (r1.J.length : Int)
 ·replace H := ifp h31 H
  refine GoR.op ((fun w => opB (op_lss rfl rfl w) (decide_eq_true h31)) _) rfl rfl ?_
  refine GoR.nil ?_
  refine Go1.seq ?_
  refine Go1.condT rfl rfl ?_
  refine Go1.skip ?_
  refine Go1.seq ?_
  refine Go1.block ?_
  refine Go1.seq ?_
  refine Go1.region ?_
  refine GoR.op ((op_move rfl) _) rfl rfl ?_
  obtain ⟨h32, H⟩ := H
  obtain ⟨h33, H⟩ := H
  refine GoR.op ((op_index Try.underlying25 ti3 rfl rfl h32 h33 (h_r1_J.some_ h32 h33)) _) rfl rfl ?_
  refine GoR.op ((ldInt h_r1_J h32 h33 Try.underlying3 rfl rfl) _ (Same.refl _)) rfl rfl ?_
  refine GoR.op ((op_assign rfl) _) rfl rfl ?_
  refine GoR.op ((op_assign rfl) _) rfl rfl ?_
  refine GoR.nil ?_
  refine Go1.seq ?_
  refine Go1.region ?_
  refine GoR.op ((op_move rfl) _) rfl rfl ?_
  refine GoR.op ((op_move rfl) _) rfl rfl ?_
  obtain ⟨h34, H⟩ := H
  obtain ⟨h35, H⟩ := H
  refine GoR.op ((op_index Try.underlying22 ti25 rfl rfl h34 h35 (h_t.some_ h34 h35)) _) rfl rfl ?_
  have hobt := ldSl h_t h34 h35
  obtain ⟨p36, c37, hi38, hl39⟩ := hobt
  refine GoR.op ((hl39 Try.underlying25 rfl rfl) _ (Same.refl _)) rfl rfl ?_
  refine GoR.op ((op_move rfl) _) rfl rfl ?_
  obtain ⟨h40, H⟩ := H
  obtain ⟨h41, H⟩ := H
  refine GoR.op ((op_index Try.underlying25 ti3 rfl rfl h40 h41 (hi38.some_ h40 h41)) _) rfl rfl ?_
  refine GoR.op ((ldInt hi38 h40 h41 Try.underlying3 rfl rfl) _ (Same.refl _)) rfl rfl ?_
  refine GoR.op ((op_move rfl) _) rfl rfl ?_
  by_cases h42 : (ix (ix t (k1_27 : Int)) (k1_27 : Int)) = (k1_27 : Int)
  ·replace H := ifp h42 H
   refine GoR.op ((fun w => opB (op_eql rfl rfl w) (decide_eq_true h42)) _) rfl rfl ?_
   refine GoR.nil ?_
   refine Go1.condT rfl rfl ?_
   refine Go1.region ?_
   refine GoR.op ((op_move rfl) _) rfl rfl ?_
   refine GoR.op ((op_move rfl) _) rfl rfl ?_
   obtain ⟨h43, H⟩ := H
   obtain ⟨h44, H⟩ := H
   refine GoR.op ((op_index Try.underlying38 ti4 rfl rfl h43 (ltn (hE30.neq hO 0 rfl) h44) (hE30.psome hO 0 rfl h43 h44)) _) rfl rfl ?_
   have hobt := ost (r := Rp.bool) rfl 0 hO rfl hE30 h43 h44 (v := .bool true) (u := true) rfl rfl
   obtain ⟨w45, vs46, hst47, hE48, hop49⟩ := hobt
   refine GoR.op (hop49 Try.underlying4 rfl ti4 rfl rfl) rfl rfl ?_
   replace hO := hst47.own
   replace h_t := h_t.ch hst47.ch
   replace h_r1_J := h_r1_J.ch hst47.ch
   replace hi38 := hi38.ch hst47.ch
   replace hB := hB.trans hst47.fr
   refine GoR.nil ?_
   refine Go1.inBlock ?_
   refine Go1.region ?_
   refine GoR.op ((op_add rfl rfl (wrap_i64 (natbd h31 h_r1_J.bd))) _) rfl rfl ?_
   refine GoR.op ((op_move rfl) _) rfl rfl ?_
   refine GoR.nil ?_
   exact hX1 _ H _ _ ⟨vs46, ⟨rfl, rfl, rfl, rfl, rfl, trivial⟩, hO, hE48, h_t, h_r1_J, hB⟩
  ·replace H := ifn h42 H
   refine GoR.op ((fun w => opB (op_eql rfl rfl w) (decide_eq_false h42)) _) rfl rfl ?_
   refine GoR.nil ?_
   refine Go1.condF rfl rfl ?_
   refine Go1.skip ?_
   refine Go1.inBlock ?_
   refine Go1.region ?_
   refine GoR.op ((op_add rfl rfl (wrap_i64 (natbd h31 h_r1_J.bd))) _) rfl rfl ?_
   refine GoR.op ((op_move rfl) _) rfl rfl ?_
   refine GoR.nil ?_
   exact hX1 _ H _ _ ⟨vs29, ⟨rfl, rfl, rfl, rfl, rfl, trivial⟩, hO, hE30, h_t, h_r1_J, hB⟩
 ·replace H := ifn h31 H
  refine GoR.op ((fun w => opB (op_lss rfl rfl w) (decide_eq_false h31)) _) rfl rfl ?_
  refine GoR.nil ?_
  refine Go1.seq ?_
  refine Go1.condF rfl rfl ?_
  refine Go1.exit rfl ?_
  refine Go1.seq ?_
  refine Go1.region ?_
  refine GoR.op ((op_move rfl) _) rfl rfl ?_
  refine GoR.op ((op_assign rfl) _) rfl rfl ?_
  refine GoR.nil ?_
  have hobt := freeze 0 hO rfl hE30
  obtain ⟨hO1, hc52, hi50, hn51⟩ := hobt
  replace h_t := h_t.ch hc52
  replace h_r1_J := h_r1_J.ch hc52
  replace hB := hB.trans (Owns.dropFr _ _ 0)
  replace hO := hO1; clear hO1
  refine Go1.ret1 Try.func33 rfl ?_
  exact ⟨regular1_28, p17, r1.Below.length, (congrArg (fun nn => Value.slice p17 nn r1.Below.length) hn51), hB.same, (hi50.ch (Ch.weak _ _ _)), H⟩
theorem body34 : Body Try.prog 34 := ⟨Try.f34, Try.func34, rfl, by kernel_rfl⟩
theorem walk_green_Inverses {A : List Nat} {w0 : World} {p_t : Option Addr} {c_t : Nat} {t : List (List Int)} {x : Int} (hA : ∀ b ∈ A, b < w0.heap.size) (h_t : ISl (Rp.sl (Rp.int .i64)) A w0 p_t c_t t) {K : List Int → Prop} (H : green_Inverses t x K) :
    CallsV Try.prog 34 #[.slice p_t t.length c_t, .int .i64 x] w0 (fun v w' => ∃ (r0 : List Int), ∃ (p_r0 : Option Addr), ∃ (c_r0 : Nat), v = .slice p_r0 r0.length c_r0 ∧ Same w0 w' ∧ ISl (Rp.int .i64) A w' p_r0 c_r0 r0 ∧ K r0) := by
 refine CallsV.of (l := [.slice p_t t.length c_t, .int .i64 x]) Try.func34 rfl Try.ntmps34 rfl ?_
 have hO := Owns.start hA
 have hB := Fr.refl (bl []) w0
 unfold green_Inverses at H
 replace h_t := h_t.ch (Ch.start A w0)
 refine Go1.seq ?_
 refine Go1.region ?_
 refine GoR.op ((op_assign rfl) _) rfl rfl ?_
 refine GoR.nil ?_
 refine Go1.seq ?_
 refine Go1.seq ?_
 refine Go1.region ?_
 refine GoR.op ((op_move rfl) _) rfl rfl ?_
 refine GoR.op ((op_move rfl) _) rfl rfl ?_
 refine GoR.op ((op_move rfl) _) rfl rfl ?_
 refine GoR.call (op_call body60 rfl (walk_green_areElements hO.lt h_t H)) rfl rfl ?_
 rintro v5 w2 ⟨r1, rfl, hs3, H⟩
 have hst6 := Stp.same hO hs3
 replace hO := hst6.own
 replace h_t := h_t.ch hst6.ch
 replace hB := hB.trans hst6.fr
 cases r1
 ·replace H := ifn Bool.false_ne_true H
  refine GoR.op ((op_not rfl) _) rfl rfl ?_
  refine GoR.nil ?_
  refine Go1.condT rfl rfl ?_
  refine Go1.seq ?_
  refine Go1.region ?_
  refine GoR.op ((op_assign rfl) _) rfl rfl ?_
  refine GoR.nil ?_
  refine Go1.ret1 Try.func34 rfl ?_
  exact ⟨([] : List Int), none, 0, rfl, hB.same, (ISl.null _ _ _), H⟩
 ·replace H := ifp rfl H
  refine GoR.op ((op_not rfl) _) rfl rfl ?_
  refine GoR.nil ?_
  refine Go1.condF rfl rfl ?_
  refine Go1.skip ?_
  refine Go1.seq ?_
  refine Go1.region ?_
  refine GoR.op ((op_assign rfl) _) rfl rfl ?_
  refine GoR.nil ?_
  refine Go1.seq ?_
  refine Go1.seq ?_
  refine Go1.region ?_
  refine GoR.op ((op_move rfl) _) rfl rfl ?_
  refine GoR.op ((op_len Try.underlying22 rfl) _) rfl rfl ?_
  replace H := H h_t.bd
  refine GoR.op ((op_move rfl) _) rfl rfl ?_
  refine GoR.nil ?_
  refine Go1.block ?_
  have hst8 := Stp.nil (e := 3) (r := 1) hO
  replace hO := hst8.own
  replace h_t := h_t.ch hst8.ch
  replace hB := hB.trans hst8.fr
  have hE9 := Els.nil (Rp.int .i64) (bl (.row 3 1 none 0 0 [] :: []) ++ A) w2
  refine Go1.loopW (S := Nat × List Int) (fun s σ w => ∃ (n17 : Nat), ∃ (p15 : Option Addr), ∃ (c16 : Nat), ∃ (vs13 : List Value), agrees σ [(0, .slice p_t t.length c_t), (1, .int .i64 x), (5, .slice p15 n17 c16), (13, .int .i64 (t.length : Int)), (14, .int .i64 ((s.1) : Int))] ∧ Owns w0.heap.size w [.row 3 1 p15 n17 c16 vs13] A ∧ Els (Rp.int .i64) (bl [.row 3 1 p15 n17 c16 vs13] ++ A) w vs13 (s.2) ∧ ISl (Rp.sl (Rp.int .i64)) (bl [.row 3 1 p15 n17 c16 vs13] ++ A) w p_t c_t t ∧ Fr (bl []) w0 (bl [.row 3 1 p15 n17 c16 vs13]) w) H ⟨0, none, 0, [], ⟨rfl, rfl, rfl, rfl, rfl, trivial⟩, hO, hE9, h_t, hB⟩ ?_
  rintro X1 ⟨k1_11, inverses1_12⟩ H hX1 σ w10 ⟨n17, p15, c16, vs13, hag, hO, hE14, h_t, hB⟩
  dsimp only at H
  refine Go1.keep [(0, .slice p_t t.length c_t), (1, .int .i64 x), (5, .slice p15 n17 c16), (13, .int .i64 (t.length : Int)), (14, .int .i64 (k1_11 : Int))] hag ?_
  refine Go1.seq ?_
  refine Go1.region ?_
  by_cases h18 : (k1_11 : Int) < (t.length : Int)
  ·replace H := ifp h18 H
   refine GoR.op ((fun w => opB (op_lss rfl rfl w) (decide_eq_true h18)) _) rfl rfl ?_
   refine GoR.nil ?_
   refine Go1.seq ?_
   refine Go1.condT rfl rfl ?_
   refine Go1.skip ?_
   refine Go1.seq ?_
   refine Go1.block ?_
   refine Go1.seq ?_
   refine Go1.region ?_
   refine GoR.op ((op_move rfl) _) rfl rfl ?_
   refine GoR.op ((op_assign rfl) _) rfl rfl ?_
   refine GoR.nil ?_
   refine Go1.seq ?_
   refine Go1.region ?_
   refine GoR.op ((op_move rfl) _) rfl rfl ?_
   refine GoR.op ((op_move rfl) _) rfl rfl ?_
   refine GoR.op ((op_move rfl) _) rfl rfl ?_
   obtain ⟨h19, H⟩ := H
   obtain ⟨h20, H⟩ := H
   refine GoR.op ((op_index Try.underlying22 ti25 rfl rfl h19 h20 (h_t.some_ h19 h20)) _) rfl rfl ?_
   have hobt := ldSl h_t h19 h20
   obtain ⟨p21, c22, hi23, hl24⟩ := hobt
   refine GoR.op ((hl24 Try.underlying25 rfl rfl) _ (Same.refl _)) rfl rfl ?_
   refine GoR.op ((op_move rfl) _) rfl rfl ?_
   obtain ⟨h25, H⟩ := H
   obtain ⟨h26, H⟩ := H
   refine GoR.op ((op_index Try.underlying25 ti3 rfl rfl h25 h26 (hi23.some_ h25 h26)) _) rfl rfl ?_
   refine GoR.op ((ldInt hi23 h25 h26 Try.underlying3 rfl rfl) _ (Same.refl _)) rfl rfl ?_
   obtain ⟨h27, H⟩ := H
   obtain ⟨h28, H⟩ := H
   refine GoR.op ((op_index Try.underlying22 ti25 rfl rfl h27 h28 (h_t.some_ h27 h28)) _) rfl rfl ?_
   have hobt := ldSl h_t h27 h28
   obtain ⟨p29, c30, hi31, hl32⟩ := hobt
   refine GoR.op ((hl32 Try.underlying25 rfl rfl) _ (Same.refl _)) rfl rfl ?_
   refine GoR.op ((op_move rfl) _) rfl rfl ?_
   obtain ⟨h33, H⟩ := H
   obtain ⟨h34, H⟩ := H
   refine GoR.op ((op_index Try.underlying25 ti3 rfl rfl h33 h34 (hi31.some_ h33 h34)) _) rfl rfl ?_
   refine GoR.op ((ldInt hi31 h33 h34 Try.underlying3 rfl rfl) _ (Same.refl _)) rfl rfl ?_
   refine GoR.op ((op_move rfl) _) rfl rfl ?_
   by_cases h35 : (ix (ix t (ix (ix t x) (k1_11 : Int))) x) = x
   ·replace H := ifp h35 H
    refine GoR.op ((fun w => opB (op_eql rfl rfl w) (decide_eq_true h35)) _) rfl rfl ?_
    refine GoR.op ((op_move rfl) _) rfl rfl ?_
    refine GoR.op ((op_move rfl) _) rfl rfl ?_
    refine GoR.op ((op_move rfl) _) rfl rfl ?_
    refine GoR.op ((op_move rfl) _) rfl rfl ?_
    obtain ⟨h36, H⟩ := H
    obtain ⟨h37, H⟩ := H
    refine GoR.op ((op_index Try.underlying22 ti25 rfl rfl h36 h37 (h_t.some_ h36 h37)) _) rfl rfl ?_
    have hobt := ldSl h_t h36 h37
    obtain ⟨p38, c39, hi40, hl41⟩ := hobt
    refine GoR.op ((hl41 Try.underlying25 rfl rfl) _ (Same.refl _)) rfl rfl ?_
    refine GoR.op ((op_move rfl) _) rfl rfl ?_
    obtain ⟨h42, H⟩ := H
    obtain ⟨h43, H⟩ := H
    refine GoR.op ((op_index Try.underlying25 ti3 rfl rfl h42 h43 (hi40.some_ h42 h43)) _) rfl rfl ?_
    refine GoR.op ((ldInt hi40 h42 h43 Try.underlying3 rfl rfl) _ (Same.refl _)) rfl rfl ?_
    obtain ⟨h44, H⟩ := H
    obtain ⟨h45, H⟩ := H
    refine GoR.op ((op_index Try.underlying22 ti25 rfl rfl h44 h45 (h_t.some_ h44 h45)) _) rfl rfl ?_
    have hobt := ldSl h_t h44 h45
    obtain ⟨p46, c47, hi48, hl49⟩ := hobt
    refine GoR.op ((hl49 Try.underlying25 rfl rfl) _ (Same.refl _)) rfl rfl ?_
    refine GoR.op ((op_move rfl) _) rfl rfl ?_
    obtain ⟨h50, H⟩ := H
    obtain ⟨h51, H⟩ := H
    refine GoR.op ((op_index Try.underlying25 ti3 rfl rfl h50 h51 (hi48.some_ h50 h51)) _) rfl rfl ?_
    refine GoR.op ((ldInt hi48 h50 h51 Try.underlying3 rfl rfl) _ (Same.refl _)) rfl rfl ?_
    refine GoR.op ((op_move rfl) _) rfl rfl ?_
    by_cases h52 : (ix (ix t (ix (ix t (k1_11 : Int)) x)) (k1_11 : Int)) = (k1_11 : Int)
    ·replace H := ifp h52 H
     refine GoR.op ((fun w => opB (op_eql rfl rfl w) (decide_eq_true h52)) _) rfl rfl ?_
     refine GoR.op ((op_pickT rfl rfl rfl) _) rfl rfl ?_
     refine GoR.nil ?_
     refine Go1.condT rfl rfl ?_
     refine Go1.region ?_
     refine GoR.op ((op_move rfl) _) rfl rfl ?_
     refine GoR.op ((op_move rfl) _) rfl rfl ?_
     have hobt := obuild (r := Rp.int .i64) (n := 1) (parts := [(0, .int .i64 (k1_11 : Int))]) (vs := [.int .i64 (k1_11 : Int)]) (xs := [(k1_11 : Int)]) rfl Try.underlying25 ti3 hO (by decide) (by kernel_rfl) (Els.cons rfl rfl (Els.nil _ _ _) (by simp [mx])) rfl
     obtain ⟨w53, p54, hst55, hE56, hs57, hop58⟩ := hobt
     refine GoR.op (hop58 rfl) rfl rfl ?_
     replace hE14 := hE14.ch hst55.ch
     replace hO := hst55.own
     replace h_t := h_t.ch hst55.ch
     replace hi23 := hi23.ch hst55.ch
     replace hi31 := hi31.ch hst55.ch
     replace hi40 := hi40.ch hst55.ch
     replace hi48 := hi48.ch hst55.ch
     replace hB := hB.trans hst55.fr
     have hobt := freeze 0 hO rfl hE56
     obtain ⟨hO1, hc62, hi60, hn61⟩ := hobt
     replace h_t := h_t.ch hc62
     replace hi23 := hi23.ch hc62
     replace hi31 := hi31.ch hc62
     replace hi40 := hi40.ch hc62
     replace hi48 := hi48.ch hc62
     replace hE14 := hE14.ch hc62
     replace hB := hB.trans (Owns.dropFr _ _ 0)
     replace hO := hO1; clear hO1
     obtain ⟨h63, H⟩ := H
     have hobt := oapp Try.underlying25 ti3 rfl 0 hO rfl hE14 hi60 hn61 h63 (by decide)
     obtain ⟨w64, p65, c66, vs67, hst68, hE69, hop70⟩ := hobt
     refine GoR.op (hop70 rfl rfl) rfl rfl ?_
     replace hO := hst68.own
     replace h_t := h_t.ch hst68.ch
     replace hi23 := hi23.ch hst68.ch
     replace hi31 := hi31.ch hst68.ch
     replace hi40 := hi40.ch hst68.ch
     replace hi48 := hi48.ch hst68.ch
     replace hi60 := hi60.ch hst68.ch
     replace hB := hB.trans hst68.fr
     refine GoR.op ((op_assign rfl) _) rfl rfl ?_
     refine GoR.nil ?_
     refine Go1.inBlock ?_
     refine Go1.region ?_
     refine GoR.op ((op_add rfl rfl (wrap_i64 (natbd h18 h_t.bd))) _) rfl rfl ?_
     refine GoR.op ((op_move rfl) _) rfl rfl ?_
     refine GoR.nil ?_
     exact hX1 _ H _ _ ⟨n17 + 1, p65, c66, vs67, ⟨rfl, rfl, rfl, rfl, rfl, trivial⟩, hO, hE69, h_t, hB⟩
    ·replace H := ifn h52 H
     refine GoR.op ((fun w => opB (op_eql rfl rfl w) (decide_eq_false h52)) _) rfl rfl ?_
     refine GoR.op ((op_pickT rfl rfl rfl) _) rfl rfl ?_
     refine GoR.nil ?_
     refine Go1.condF rfl rfl ?_
     refine Go1.skip ?_
     refine Go1.inBlock ?_
     refine Go1.region ?_
     refine GoR.op ((op_add rfl rfl (wrap_i64 (natbd h18 h_t.bd))) _) rfl rfl ?_
     refine GoR.op ((op_move rfl) _) rfl rfl ?_
     refine GoR.nil ?_
     exact hX1 _ H _ _ ⟨n17, p15, c16, vs13, ⟨rfl, rfl, rfl, rfl, rfl, trivial⟩, hO, hE14, h_t, hB⟩
   ·replace H := ifn h35 H
    refine GoR.op ((fun w => opB (op_eql rfl rfl w) (decide_eq_false h35)) _) rfl rfl ?_
    refine GoR.op ((op_move rfl) _) rfl rfl ?_
    refine GoR.pass rfl rfl ?_
    refine GoR.pass rfl rfl ?_
    refine GoR.pass rfl rfl ?_
    refine GoR.pass rfl rfl ?_
    refine GoR.pass rfl rfl ?_
    refine GoR.pass rfl rfl ?_
    refine GoR.pass rfl rfl ?_
    refine GoR.pass rfl rfl ?_
    refine GoR.pass rfl rfl ?_
    refine GoR.pass rfl rfl ?_
    refine GoR.pass rfl rfl ?_
    refine GoR.pass rfl rfl ?_
    refine GoR.pass rfl rfl ?_
    refine GoR.pass rfl rfl ?_
    refine GoR.pass rfl rfl ?_
    refine GoR.op ((op_pickF rfl rfl rfl) _) rfl rfl ?_
    refine GoR.nil ?_
    refine Go1.condF rfl rfl ?_
    refine Go1.skip ?_
    refine Go1.inBlock ?_
    refine Go1.region ?_
    refine GoR.op ((op_add rfl rfl (wrap_i64 (natbd h18 h_t.bd))) _) rfl rfl ?_
    refine GoR.op ((op_move rfl) _) rfl rfl ?_
    refine GoR.nil ?_
    exact hX1 _ H _ _ ⟨n17, p15, c16, vs13, ⟨rfl, rfl, rfl, rfl, rfl, trivial⟩, hO, hE14, h_t, hB⟩
  ·replace H := ifn h18 H
   refine GoR.op ((fun w => opB (op_lss rfl rfl w) (decide_eq_false h18)) _) rfl rfl ?_
   refine GoR.nil ?_
   refine Go1.seq ?_
   refine Go1.condF rfl rfl ?_
   refine Go1.exit rfl ?_
   refine Go1.seq ?_
   refine Go1.region ?_
   refine GoR.op ((op_move rfl) _) rfl rfl ?_
   refine GoR.op ((op_assign rfl) _) rfl rfl ?_
   refine GoR.nil ?_
   have hobt := freeze 0 hO rfl hE14
   obtain ⟨hO1, hc74, hi72, hn73⟩ := hobt
   replace h_t := h_t.ch hc74
   replace hB := hB.trans (Owns.dropFr _ _ 0)
   replace hO := hO1; clear hO1
   refine Go1.ret1 Try.func34 rfl ?_
   exact ⟨inverses1_12, p15, c16, (congrArg (fun nn => Value.slice p15 nn c16) hn73), hB.same, (hi72.ch (Ch.weak _ _ _)), H⟩
end Sg
