/- The walks: each call keeps to its plain transformer. Printed by walkgen.py. -/
import Derived.Test.YthobeabghciknaaTi
import Derived.Test.YthobeabghciknaaWGreenBelow
namespace Sg
open Go Go.RowKit Go.Proofs
set_option linter.unusedVariables false
set_option linter.unusedSimpArgs false
set_option maxRecDepth 100000
set_option maxHeartbeats 4000000
theorem body33 : Body Try.prog 33 := ⟨Try.f33, Try.func33, rfl, by kernel_rfl⟩
theorem walk_green_Regular {A : List Nat} {w0 : World} {p_t : Option Addr} {c_t : Nat} {t : List (List Int)} (hA : ∀ b ∈ A, b < w0.heap.size) (h_t : ISl (Rp.sl (Rp.int .i64)) A w0 p_t c_t t) {K : List Bool → Prop} (H : green_Regular t K) :
    CallsV Try.prog 33 #[.slice p_t t.length c_t] w0 (fun v w' => ∃ (r0 : List Bool), ∃ (p_r0 : Option Addr), ∃ (c_r0 : Nat), v = .slice p_r0 r0.length c_r0 ∧ Same w0 w' ∧ ISl (Rp.bool) A w' p_r0 c_r0 r0 ∧ K r0) := by
 refine CallsV.of (l := [.slice p_t t.length c_t]) Try.func33 rfl Try.ntmps33 rfl ?_
 have hO := Owns.start hA
 have hB := Fr.refl (bl []) w0
 unfold green_Regular at H
 replace h_t := h_t.ch (Ch.start A w0)
 refine Go1.seq ?_
 refine Go1.region ?_
 refine GoR.op ((op_assign rfl) _) rfl rfl ?_
 refine GoR.nil ?_
 refine Go1.seq ?_
 refine Go1.region ?_
 refine GoR.op ((op_move rfl) _) rfl rfl ?_
 refine GoR.call (op_call body15 rfl (walk_green_Classes hO.lt h_t H)) rfl rfl ?_
 rintro v5 w2 ⟨r1, p_r1_R, c_r1_R, p_r1_L, c_r1_L, p_r1_J, c_r1_J, p_r1_H, c_r1_H, p_r1_Below, c_r1_Below, rfl, hs3, h_r1_R, h_r1_L, h_r1_J, h_r1_H, h_r1_Below, H⟩
 have hst6 := Stp.same hO hs3
 replace hO := hst6.own
 replace h_t := h_t.ch hst6.ch
 replace hB := hB.trans hst6.fr
 have hobt := oalloc (t := 28) (cs := #[.slice none 0 0, .slice none 0 0, .slice none 0 0, .slice none 0 0, .slice none 0 0]) ti28 hO rfl
 obtain ⟨w7, B8, hst9, hs10, hop11⟩ := hobt
 refine GoR.op hop11 rfl rfl ?_
 replace hO := hst9.own
 replace h_t := h_t.ch hst9.ch
 replace h_r1_R := h_r1_R.ch hst9.ch
 replace h_r1_L := h_r1_L.ch hst9.ch
 replace h_r1_J := h_r1_J.ch hst9.ch
 replace h_r1_H := h_r1_H.ch hst9.ch
 replace h_r1_Below := h_r1_Below.ch hst9.ch
 replace hB := hB.trans hst9.fr
 have hobt := oblkStAgg (us := [.slice p_r1_R r1.R.length c_r1_R, .slice p_r1_L r1.L.length c_r1_L, .slice p_r1_J r1.J.length c_r1_J, .slice p_r1_H r1.H.length c_r1_H, .slice p_r1_Below r1.Below.length c_r1_Below]) (o := 0) (cs' := #[.slice p_r1_R r1.R.length c_r1_R, .slice p_r1_L r1.L.length c_r1_L, .slice p_r1_J r1.J.length c_r1_J, .slice p_r1_H r1.H.length c_r1_H, .slice p_r1_Below r1.Below.length c_r1_Below]) 0 hO rfl rfl (Nat.le_of_ble_eq_true rfl) rfl
 obtain ⟨w13, hst14, hop15⟩ := hobt
 refine GoR.op (hop15 ti28 rfl rfl rfl) rfl rfl ?_
 replace hO := hst14.own
 replace h_t := h_t.ch hst14.ch
 replace h_r1_R := h_r1_R.ch hst14.ch
 replace h_r1_L := h_r1_L.ch hst14.ch
 replace h_r1_J := h_r1_J.ch hst14.ch
 replace h_r1_H := h_r1_H.ch hst14.ch
 replace h_r1_Below := h_r1_Below.ch hst14.ch
 replace hB := hB.trans hst14.fr
 refine GoR.nil ?_
 refine Go1.seq ?_
 refine Go1.region ?_
 refine GoR.op ((op_fieldAddr Try.underlying28 rfl ti26 rfl (by decide)) _) rfl rfl ?_
 refine GoR.op ((oblk 0 hO rfl rfl Try.underlying26 rfl rfl) _ (Same.refl _)) rfl rfl ?_
 refine GoR.op ((op_len Try.underlying26 rfl) _) rfl rfl ?_
 replace H := H h_r1_Below.bd
 obtain ⟨h23, H⟩ := H
 obtain ⟨h24, H⟩ := H
 have hobt := omake (n := (r1.Below.length : Int)) (r := Rp.bool) (d := false) Try.underlying38 ti4 (fun _ _ => rfl) rfl hO h23 h24 (by decide)
 obtain ⟨w16, p17, vs18, hst19, hE20, hs21, hop22⟩ := hobt
 refine GoR.op (hop22 rfl rfl) rfl rfl ?_
 replace hO := hst19.own
 replace h_t := h_t.ch hst19.ch
 replace h_r1_R := h_r1_R.ch hst19.ch
 replace h_r1_L := h_r1_L.ch hst19.ch
 replace h_r1_J := h_r1_J.ch hst19.ch
 replace h_r1_H := h_r1_H.ch hst19.ch
 replace h_r1_Below := h_r1_Below.ch hst19.ch
 replace hB := hB.trans hst19.fr
 refine GoR.op ((op_assign rfl) _) rfl rfl ?_
 refine GoR.nil ?_
 refine Go1.seq ?_
 refine Go1.seq ?_
 refine Go1.region ?_
 refine GoR.op ((op_fieldAddr Try.underlying28 rfl ti25 rfl (by decide)) _) rfl rfl ?_
 refine GoR.op ((oblk 1 hO rfl rfl Try.underlying25 rfl rfl) _ (Same.refl _)) rfl rfl ?_
 refine GoR.op ((op_len Try.underlying25 rfl) _) rfl rfl ?_
 replace H := H h_r1_J.bd
 refine GoR.op ((op_move rfl) _) rfl rfl ?_
 refine GoR.nil ?_
 refine Go1.block ?_
 replace h_t := h_t.ch (Owns.dropCh _ _ 1)
 replace h_r1_R := h_r1_R.ch (Owns.dropCh _ _ 1)
 replace h_r1_L := h_r1_L.ch (Owns.dropCh _ _ 1)
 replace h_r1_J := h_r1_J.ch (Owns.dropCh _ _ 1)
 replace h_r1_H := h_r1_H.ch (Owns.dropCh _ _ 1)
 replace h_r1_Below := h_r1_Below.ch (Owns.dropCh _ _ 1)
 replace hE20 := hE20.ch (Owns.dropCh _ _ 1)
 replace hB := hB.trans (Owns.dropFr _ _ 1)
 replace hO := hO.drop 1
 refine Go1.loopW (S := Nat × List Bool) (fun s σ w => ∃ (vs29 : List Value), agrees σ [(0, .slice p_t t.length c_t), (4, .slice p17 r1.Below.length r1.Below.length), (14, .slice p_r1_J r1.J.length c_r1_J), (15, .int .i64 (r1.J.length : Int)), (16, .int .i64 ((s.1) : Int))] ∧ Owns w0.heap.size w [.row 4 1 p17 r1.Below.length r1.Below.length vs29] A ∧ Els (Rp.bool) (bl [.row 4 1 p17 r1.Below.length r1.Below.length vs29] ++ A) w vs29 (s.2) ∧ ISl (Rp.sl (Rp.int .i64)) (bl [.row 4 1 p17 r1.Below.length r1.Below.length vs29] ++ A) w p_t c_t t ∧ ISl (Rp.int .i64) (bl [.row 4 1 p17 r1.Below.length r1.Below.length vs29] ++ A) w p_r1_J c_r1_J r1.J ∧ Fr (bl []) w0 (bl [.row 4 1 p17 r1.Below.length r1.Below.length vs29]) w) H ⟨vs18, ⟨rfl, rfl, rfl, rfl, rfl, trivial⟩, hO, hE20, h_t, h_r1_J, hB⟩ ?_
 rintro X1 ⟨k1_27, regular1_28⟩ H hX1 σ w26 ⟨vs29, hag, hO, hE30, h_t, h_r1_J, hB⟩
 dsimp only at H
 refine Go1.keep [(0, .slice p_t t.length c_t), (4, .slice p17 r1.Below.length r1.Below.length), (14, .slice p_r1_J r1.J.length c_r1_J), (15, .int .i64 (r1.J.length : Int)), (16, .int .i64 (k1_27 : Int))] hag ?_
 refine Go1.seq ?_
 refine Go1.region ?_
 by_cases h31 : (k1_27 : Int) < (r1.J.length : Int)
 ·replace H := ifp h31 H
  refine GoR.op ((fun w => opB (op_lss rfl rfl w) (decide_eq_true h31)) _) rfl rfl ?_
  refine GoR.nil ?_
  refine Go1.seq ?_
  refine Go1.condT rfl rfl ?_
  refine Go1.skip ?_
  refine Go1.seq ?_
  refine Go1.block ?_
  refine Go1.seq ?_
  refine Go1.region ?_
  refine GoR.op ((op_move rfl) _) rfl rfl ?_
  obtain ⟨h32, H⟩ := H
  obtain ⟨h33, H⟩ := H
  refine GoR.op ((op_index Try.underlying25 ti3 rfl rfl h32 h33 (h_r1_J.some_ h32 h33)) _) rfl rfl ?_
  refine GoR.op ((ldInt h_r1_J h32 h33 Try.underlying3 rfl rfl) _ (Same.refl _)) rfl rfl ?_
  refine GoR.op ((op_assign rfl) _) rfl rfl ?_
  refine GoR.op ((op_assign rfl) _) rfl rfl ?_
  refine GoR.nil ?_
  refine Go1.seq ?_
  refine Go1.region ?_
  refine GoR.op ((op_move rfl) _) rfl rfl ?_
  refine GoR.op ((op_move rfl) _) rfl rfl ?_
  obtain ⟨h34, H⟩ := H
  obtain ⟨h35, H⟩ := H
  refine GoR.op ((op_index Try.underlying22 ti25 rfl rfl h34 h35 (h_t.some_ h34 h35)) _) rfl rfl ?_
  have hobt := ldSl h_t h34 h35
  obtain ⟨p36, c37, hi38, hl39⟩ := hobt
  refine GoR.op ((hl39 Try.underlying25 rfl rfl) _ (Same.refl _)) rfl rfl ?_
  refine GoR.op ((op_move rfl) _) rfl rfl ?_
  obtain ⟨h40, H⟩ := H
  obtain ⟨h41, H⟩ := H
  refine GoR.op ((op_index Try.underlying25 ti3 rfl rfl h40 h41 (hi38.some_ h40 h41)) _) rfl rfl ?_
  refine GoR.op ((ldInt hi38 h40 h41 Try.underlying3 rfl rfl) _ (Same.refl _)) rfl rfl ?_
  refine GoR.op ((op_move rfl) _) rfl rfl ?_
  by_cases h42 : (ix (ix t (k1_27 : Int)) (k1_27 : Int)) = (k1_27 : Int)
  ·replace H := ifp h42 H
   refine GoR.op ((fun w => opB (op_eql rfl rfl w) (decide_eq_true h42)) _) rfl rfl ?_
   refine GoR.nil ?_
   refine Go1.condT rfl rfl ?_
   refine Go1.region ?_
   refine GoR.op ((op_move rfl) _) rfl rfl ?_
   refine GoR.op ((op_move rfl) _) rfl rfl ?_
   obtain ⟨h43, H⟩ := H
   obtain ⟨h44, H⟩ := H
   refine GoR.op ((op_index Try.underlying38 ti4 rfl rfl h43 (ltn (hE30.neq hO 0 rfl) h44) (hE30.psome hO 0 rfl h43 h44)) _) rfl rfl ?_
   have hobt := ost (r := Rp.bool) rfl 0 hO rfl hE30 h43 h44 (v := .bool true) (u := true) rfl rfl
   obtain ⟨w45, vs46, hst47, hE48, hop49⟩ := hobt
   refine GoR.op (hop49 Try.underlying4 rfl ti4 rfl rfl) rfl rfl ?_
   replace hO := hst47.own
   replace h_t := h_t.ch hst47.ch
   replace h_r1_J := h_r1_J.ch hst47.ch
   replace hi38 := hi38.ch hst47.ch
   replace hB := hB.trans hst47.fr
   refine GoR.nil ?_
   refine Go1.inBlock ?_
   refine Go1.region ?_
   refine GoR.op ((op_add rfl rfl (wrap_i64 (natbd h31 h_r1_J.bd))) _) rfl rfl ?_
   refine GoR.op ((op_move rfl) _) rfl rfl ?_
   refine GoR.nil ?_
   exact hX1 _ H _ _ ⟨vs46, ⟨rfl, rfl, rfl, rfl, rfl, trivial⟩, hO, hE48, h_t, h_r1_J, hB⟩
  ·replace H := ifn h42 H
   refine GoR.op ((fun w => opB (op_eql rfl rfl w) (decide_eq_false h42)) _) rfl rfl ?_
   refine GoR.nil ?_
   refine Go1.condF rfl rfl ?_
   refine Go1.skip ?_
   refine Go1.inBlock ?_
   refine Go1.region ?_
   refine GoR.op ((op_add rfl rfl (wrap_i64 (natbd h31 h_r1_J.bd))) _) rfl rfl ?_
   refine GoR.op ((op_move rfl) _) rfl rfl ?_
   refine GoR.nil ?_
   exact hX1 _ H _ _ ⟨vs29, ⟨rfl, rfl, rfl, rfl, rfl, trivial⟩, hO, hE30, h_t, h_r1_J, hB⟩
 ·replace H := ifn h31 H
  refine GoR.op ((fun w => opB (op_lss rfl rfl w) (decide_eq_false h31)) _) rfl rfl ?_
  refine GoR.nil ?_
  refine Go1.seq ?_
  refine Go1.condF rfl rfl ?_
  refine Go1.exit rfl ?_
  refine Go1.seq ?_
  refine Go1.region ?_
  refine GoR.op ((op_move rfl) _) rfl rfl ?_
  refine GoR.op ((op_assign rfl) _) rfl rfl ?_
  refine GoR.nil ?_
  have hobt := freeze 0 hO rfl hE30
  obtain ⟨hO1, hc52, hi50, hn51⟩ := hobt
  replace h_t := h_t.ch hc52
  replace h_r1_J := h_r1_J.ch hc52
  replace hB := hB.trans (Owns.dropFr _ _ 0)
  replace hO := hO1; clear hO1
  refine Go1.ret1 Try.func33 rfl ?_
  exact ⟨regular1_28, p17, r1.Below.length, (congrArg (fun nn => Value.slice p17 nn r1.Below.length) hn51), hB.same, (hi50.ch (Ch.weak _ _ _)), H⟩
theorem body34 : Body Try.prog 34 := ⟨Try.f34, Try.func34, rfl, by kernel_rfl⟩
theorem walk_green_Inverses {A : List Nat} {w0 : World} {p_t : Option Addr} {c_t : Nat} {t : List (List Int)} {x : Int} (hA : ∀ b ∈ A, b < w0.heap.size) (h_t : ISl (Rp.sl (Rp.int .i64)) A w0 p_t c_t t) {K : List Int → Prop} (H : green_Inverses t x K) :
    CallsV Try.prog 34 #[.slice p_t t.length c_t, .int .i64 x] w0 (fun v w' => ∃ (r0 : List Int), ∃ (p_r0 : Option Addr), ∃ (c_r0 : Nat), v = .slice p_r0 r0.length c_r0 ∧ Same w0 w' ∧ ISl (Rp.int .i64) A w' p_r0 c_r0 r0 ∧ K r0) := by
 refine CallsV.of (l := [.slice p_t t.length c_t, .int .i64 x]) Try.func34 rfl Try.ntmps34 rfl ?_
 have hO := Owns.start hA
 have hB := Fr.refl (bl []) w0
 unfold green_Inverses at H
 replace h_t := h_t.ch (Ch.start A w0)
 refine Go1.seq ?_
 refine Go1.region ?_
 refine GoR.op ((op_assign rfl) _) rfl rfl ?_
 refine GoR.nil ?_
 refine Go1.seq ?_
 refine Go1.seq ?_
 refine Go1.region ?_
 refine GoR.op ((op_move rfl) _) rfl rfl ?_
 refine GoR.op ((op_move rfl) _) rfl rfl ?_
 refine GoR.op ((op_move rfl) _) rfl rfl ?_
 refine GoR.call (op_call body60 rfl (walk_green_areElements hO.lt h_t H)) rfl rfl ?_
 rintro v5 w2 ⟨r1, rfl, hs3, H⟩
 have hst6 := Stp.same hO hs3
 replace hO := hst6.own
 replace h_t := h_t.ch hst6.ch
 replace hB := hB.trans hst6.fr
 cases r1
 ·replace H := ifn Bool.false_ne_true H
  refine GoR.op ((op_not rfl) _) rfl rfl ?_
  refine GoR.nil ?_
  refine Go1.condT rfl rfl ?_
  refine Go1.seq ?_
  refine Go1.region ?_
  refine GoR.op ((op_assign rfl) _) rfl rfl ?_
  refine GoR.nil ?_
  refine Go1.ret1 Try.func34 rfl ?_
  exact ⟨([] : List Int), none, 0, rfl, hB.same, (ISl.null _ _ _), H⟩
 ·replace H := ifp rfl H
  refine GoR.op ((op_not rfl) _) rfl rfl ?_
  refine GoR.nil ?_
  refine Go1.condF rfl rfl ?_
  refine Go1.skip ?_
  refine Go1.seq ?_
  refine Go1.region ?_
  refine GoR.op ((op_assign rfl) _) rfl rfl ?_
  refine GoR.nil ?_
  refine Go1.seq ?_
  refine Go1.seq ?_
  refine Go1.region ?_
  refine GoR.op ((op_move rfl) _) rfl rfl ?_
  refine GoR.op ((op_len Try.underlying22 rfl) _) rfl rfl ?_
  replace H := H h_t.bd
  refine GoR.op ((op_move rfl) _) rfl rfl ?_
  refine GoR.nil ?_
  refine Go1.block ?_
  have hst8 := Stp.nil (e := 3) (r := 1) hO
  replace hO := hst8.own
  replace h_t := h_t.ch hst8.ch
  replace hB := hB.trans hst8.fr
  have hE9 := Els.nil (Rp.int .i64) (bl (.row 3 1 none 0 0 [] :: []) ++ A) w2
  refine Go1.loopW (S := Nat × List Int) (fun s σ w => ∃ (n17 : Nat), ∃ (p15 : Option Addr), ∃ (c16 : Nat), ∃ (vs13 : List Value), agrees σ [(0, .slice p_t t.length c_t), (1, .int .i64 x), (5, .slice p15 n17 c16), (13, .int .i64 (t.length : Int)), (14, .int .i64 ((s.1) : Int))] ∧ Owns w0.heap.size w [.row 3 1 p15 n17 c16 vs13] A ∧ Els (Rp.int .i64) (bl [.row 3 1 p15 n17 c16 vs13] ++ A) w vs13 (s.2) ∧ ISl (Rp.sl (Rp.int .i64)) (bl [.row 3 1 p15 n17 c16 vs13] ++ A) w p_t c_t t ∧ Fr (bl []) w0 (bl [.row 3 1 p15 n17 c16 vs13]) w) H ⟨0, none, 0, [], ⟨rfl, rfl, rfl, rfl, rfl, trivial⟩, hO, hE9, h_t, hB⟩ ?_
  rintro X1 ⟨k1_11, inverses1_12⟩ H hX1 σ w10 ⟨n17, p15, c16, vs13, hag, hO, hE14, h_t, hB⟩
  dsimp only at H
  refine Go1.keep [(0, .slice p_t t.length c_t), (1, .int .i64 x), (5, .slice p15 n17 c16), (13, .int .i64 (t.length : Int)), (14, .int .i64 (k1_11 : Int))] hag ?_
  refine Go1.seq ?_
  refine Go1.region ?_
  by_cases h18 : (k1_11 : Int) < (t.length : Int)
  ·replace H := ifp h18 H
   refine GoR.op ((fun w => opB (op_lss rfl rfl w) (decide_eq_true h18)) _) rfl rfl ?_
   refine GoR.nil ?_
   refine Go1.seq ?_
   refine Go1.condT rfl rfl ?_
   refine Go1.skip ?_
   refine Go1.seq ?_
   refine Go1.block ?_
   refine Go1.seq ?_
   refine Go1.region ?_
   refine GoR.op ((op_move rfl) _) rfl rfl ?_
   refine GoR.op ((op_assign rfl) _) rfl rfl ?_
   refine GoR.nil ?_
   refine Go1.seq ?_
   refine Go1.region ?_
   refine GoR.op ((op_move rfl) _) rfl rfl ?_
   refine GoR.op ((op_move rfl) _) rfl rfl ?_
   refine GoR.op ((op_move rfl) _) rfl rfl ?_
   obtain ⟨h19, H⟩ := H
   obtain ⟨h20, H⟩ := H
   refine GoR.op ((op_index Try.underlying22 ti25 rfl rfl h19 h20 (h_t.some_ h19 h20)) _) rfl rfl ?_
   have hobt := ldSl h_t h19 h20
   obtain ⟨p21, c22, hi23, hl24⟩ := hobt
   refine GoR.op ((hl24 Try.underlying25 rfl rfl) _ (Same.refl _)) rfl rfl ?_
   refine GoR.op ((op_move rfl) _) rfl rfl ?_
   obtain ⟨h25, H⟩ := H
   obtain ⟨h26, H⟩ := H
   refine GoR.op ((op_index Try.underlying25 ti3 rfl rfl h25 h26 (hi23.some_ h25 h26)) _) rfl rfl ?_
   refine GoR.op ((ldInt hi23 h25 h26 Try.underlying3 rfl rfl) _ (Same.refl _)) rfl rfl ?_
   obtain ⟨h27, H⟩ := H
   obtain ⟨h28, H⟩ := H
   refine GoR.op ((op_index Try.underlying22 ti25 rfl rfl h27 h28 (h_t.some_ h27 h28)) _) rfl rfl ?_
   have hobt := ldSl h_t h27 h28
   obtain ⟨p29, c30, hi31, hl32⟩ := hobt
   refine GoR.op ((hl32 Try.underlying25 rfl rfl) _ (Same.refl _)) rfl rfl ?_
   refine GoR.op ((op_move rfl) _) rfl rfl ?_
   obtain ⟨h33, H⟩ := H
   obtain ⟨h34, H⟩ := H
   refine GoR.op ((op_index Try.underlying25 ti3 rfl rfl h33 h34 (hi31.some_ h33 h34)) _) rfl rfl ?_
   refine GoR.op ((ldInt hi31 h33 h34 Try.underlying3 rfl rfl) _ (Same.refl _)) rfl rfl ?_
   refine GoR.op ((op_move rfl) _) rfl rfl ?_
   by_cases h35 : (ix (ix t (ix (ix t x) (k1_11 : Int))) x) = x
   ·replace H := ifp h35 H
    refine GoR.op ((fun w => opB (op_eql rfl rfl w) (decide_eq_true h35)) _) rfl rfl ?_
    refine GoR.op ((op_move rfl) _) rfl rfl ?_
    refine GoR.op ((op_move rfl) _) rfl rfl ?_
    refine GoR.op ((op_move rfl) _) rfl rfl ?_
    refine GoR.op ((op_move rfl) _) rfl rfl ?_
    obtain ⟨h36, H⟩ := H
    obtain ⟨h37, H⟩ := H
    refine GoR.op ((op_index Try.underlying22 ti25 rfl rfl h36 h37 (h_t.some_ h36 h37)) _) rfl rfl ?_
    have hobt := ldSl h_t h36 h37
    obtain ⟨p38, c39, hi40, hl41⟩ := hobt
    refine GoR.op ((hl41 Try.underlying25 rfl rfl) _ (Same.refl _)) rfl rfl ?_
    refine GoR.op ((op_move rfl) _) rfl rfl ?_
    obtain ⟨h42, H⟩ := H
    obtain ⟨h43, H⟩ := H
    refine GoR.op ((op_index Try.underlying25 ti3 rfl rfl h42 h43 (hi40.some_ h42 h43)) _) rfl rfl ?_
    refine GoR.op ((ldInt hi40 h42 h43 Try.underlying3 rfl rfl) _ (Same.refl _)) rfl rfl ?_
    obtain ⟨h44, H⟩ := H
    obtain ⟨h45, H⟩ := H
    refine GoR.op ((op_index Try.underlying22 ti25 rfl rfl h44 h45 (h_t.some_ h44 h45)) _) rfl rfl ?_
    have hobt := ldSl h_t h44 h45
    obtain ⟨p46, c47, hi48, hl49⟩ := hobt
    refine GoR.op ((hl49 Try.underlying25 rfl rfl) _ (Same.refl _)) rfl rfl ?_
    refine GoR.op ((op_move rfl) _) rfl rfl ?_
    obtain ⟨h50, H⟩ := H
    obtain ⟨h51, H⟩ := H
    refine GoR.op ((op_index Try.underlying25 ti3 rfl rfl h50 h51 (hi48.some_ h50 h51)) _) rfl rfl ?_
    refine GoR.op ((ldInt hi48 h50 h51 Try.underlying3 rfl rfl) _ (Same.refl _)) rfl rfl ?_
    refine GoR.op ((op_move rfl) _) rfl rfl ?_
    by_cases h52 : (ix (ix t (ix (ix t (k1_11 : Int)) x)) (k1_11 : Int)) = (k1_11 : Int)
    ·replace H := ifp h52 H
     refine GoR.op ((fun w => opB (op_eql rfl rfl w) (decide_eq_true h52)) _) rfl rfl ?_
     refine GoR.op ((op_pickT rfl rfl rfl) _) rfl rfl ?_
     refine GoR.nil ?_
     refine Go1.condT rfl rfl ?_
     refine Go1.region ?_
     refine GoR.op ((op_move rfl) _) rfl rfl ?_
     refine GoR.op ((op_move rfl) _) rfl rfl ?_
     have hobt := obuild (r := Rp.int .i64) (n := 1) (parts := [(0, .int .i64 (k1_11 : Int))]) (vs := [.int .i64 (k1_11 : Int)]) (xs := [(k1_11 : Int)]) rfl Try.underlying25 ti3 hO (by decide) (by kernel_rfl) (Els.cons rfl rfl (Els.nil _ _ _) (by simp [mx])) rfl
     obtain ⟨w53, p54, hst55, hE56, hs57, hop58⟩ := hobt
     refine GoR.op (hop58 rfl) rfl rfl ?_
     replace hE14 := hE14.ch hst55.ch
     replace hO := hst55.own
     replace h_t := h_t.ch hst55.ch
     replace hi23 := hi23.ch hst55.ch
     replace hi31 := hi31.ch hst55.ch
     replace hi40 := hi40.ch hst55.ch
     replace hi48 := hi48.ch hst55.ch
     replace hB := hB.trans hst55.fr
     have hobt := freeze 0 hO rfl hE56
     obtain ⟨hO1, hc62, hi60, hn61⟩ := hobt
     replace h_t := h_t.ch hc62
     replace hi23 := hi23.ch hc62
     replace hi31 := hi31.ch hc62
     replace hi40 := hi40.ch hc62
     replace hi48 := hi48.ch hc62
     replace hE14 := hE14.ch hc62
     replace hB := hB.trans (Owns.dropFr _ _ 0)
     replace hO := hO1; clear hO1
     obtain ⟨h63, H⟩ := H
     have hobt := oapp Try.underlying25 ti3 rfl 0 hO rfl hE14 hi60 hn61 h63 (by decide)
     obtain ⟨w64, p65, c66, vs67, hst68, hE69, hop70⟩ := hobt
     refine GoR.op (hop70 rfl rfl) rfl rfl ?_
     replace hO := hst68.own
     replace h_t := h_t.ch hst68.ch
     replace hi23 := hi23.ch hst68.ch
     replace hi31 := hi31.ch hst68.ch
     replace hi40 := hi40.ch hst68.ch
     replace hi48 := hi48.ch hst68.ch
     replace hi60 := hi60.ch hst68.ch
     replace hB := hB.trans hst68.fr
     refine GoR.op ((op_assign rfl) _) rfl rfl ?_
     refine GoR.nil ?_
     refine Go1.inBlock ?_
     refine Go1.region ?_
     refine GoR.op ((op_add rfl rfl (wrap_i64 (natbd h18 h_t.bd))) _) rfl rfl ?_
     refine GoR.op ((op_move rfl) _) rfl rfl ?_
     refine GoR.nil ?_
     exact hX1 _ H _ _ ⟨n17 + 1, p65, c66, vs67, ⟨rfl, rfl, rfl, rfl, rfl, trivial⟩, hO, hE69, h_t, hB⟩
    ·replace H := ifn h52 H
     refine GoR.op ((fun w => opB (op_eql rfl rfl w) (decide_eq_false h52)) _) rfl rfl ?_
     refine GoR.op ((op_pickT rfl rfl rfl) _) rfl rfl ?_
     refine GoR.nil ?_
     refine Go1.condF rfl rfl ?_
     refine Go1.skip ?_
     refine Go1.inBlock ?_
     refine Go1.region ?_
     refine GoR.op ((op_add rfl rfl (wrap_i64 (natbd h18 h_t.bd))) _) rfl rfl ?_
     refine GoR.op ((op_move rfl) _) rfl rfl ?_
     refine GoR.nil ?_
     exact hX1 _ H _ _ ⟨n17, p15, c16, vs13, ⟨rfl, rfl, rfl, rfl, rfl, trivial⟩, hO, hE14, h_t, hB⟩
   ·replace H := ifn h35 H
    refine GoR.op ((fun w => opB (op_eql rfl rfl w) (decide_eq_false h35)) _) rfl rfl ?_
    refine GoR.op ((op_move rfl) _) rfl rfl ?_
    refine GoR.pass rfl rfl ?_
    refine GoR.pass rfl rfl ?_
    refine GoR.pass rfl rfl ?_
    refine GoR.pass rfl rfl ?_
    refine GoR.pass rfl rfl ?_
    refine GoR.pass rfl rfl ?_
    refine GoR.pass rfl rfl ?_
    refine GoR.pass rfl rfl ?_
    refine GoR.pass rfl rfl ?_
    refine GoR.pass rfl rfl ?_
    refine GoR.pass rfl rfl ?_
    refine GoR.pass rfl rfl ?_
    refine GoR.pass rfl rfl ?_
    refine GoR.pass rfl rfl ?_
    refine GoR.pass rfl rfl ?_
    refine GoR.op ((op_pickF rfl rfl rfl) _) rfl rfl ?_
    refine GoR.nil ?_
    refine Go1.condF rfl rfl ?_
    refine Go1.skip ?_
    refine Go1.inBlock ?_
    refine Go1.region ?_
    refine GoR.op ((op_add rfl rfl (wrap_i64 (natbd h18 h_t.bd))) _) rfl rfl ?_
    refine GoR.op ((op_move rfl) _) rfl rfl ?_
    refine GoR.nil ?_
    exact hX1 _ H _ _ ⟨n17, p15, c16, vs13, ⟨rfl, rfl, rfl, rfl, rfl, trivial⟩, hO, hE14, h_t, hB⟩
  ·replace H := ifn h18 H
   refine GoR.op ((fun w => opB (op_lss rfl rfl w) (decide_eq_false h18)) _) rfl rfl ?_
   refine GoR.nil ?_
   refine Go1.seq ?_
   refine Go1.condF rfl rfl ?_
   refine Go1.exit rfl ?_
   refine Go1.seq ?_
   refine Go1.region ?_
   refine GoR.op ((op_move rfl) _) rfl rfl ?_
   refine GoR.op ((op_assign rfl) _) rfl rfl ?_
   refine GoR.nil ?_
   have hobt := freeze 0 hO rfl hE14
   obtain ⟨hO1, hc74, hi72, hn73⟩ := hobt
   replace h_t := h_t.ch hc74
   replace hB := hB.trans (Owns.dropFr _ _ 0)
   replace hO := hO1; clear hO1
   refine Go1.ret1 Try.func34 rfl ?_
   exact ⟨inverses1_12, p15, c16, (congrArg (fun nn => Value.slice p15 nn c16) hn73), hB.same, (hi72.ch (Ch.weak _ _ _)), H⟩
theorem body35 : Body Try.prog 35 := ⟨Try.f35, Try.func35, rfl, by kernel_rfl⟩
theorem walk_ref15_Regular {A : List Nat} {w0 : World} {p_t : Option Addr} {c_t : Nat} {t : List (List Int)} (hA : ∀ b ∈ A, b < w0.heap.size) (h_t : ISl (Rp.sl (Rp.int .i64)) A w0 p_t c_t t) {K : List Bool → Prop} (H : ref15_Regular t K) :
    CallsV Try.prog 35 #[.slice p_t t.length c_t] w0 (fun v w' => ∃ (r0 : List Bool), ∃ (p_r0 : Option Addr), ∃ (c_r0 : Nat), v = .slice p_r0 r0.length c_r0 ∧ Same w0 w' ∧ ISl (Rp.bool) A w' p_r0 c_r0 r0 ∧ K r0) := by
 refine CallsV.of (l := [.slice p_t t.length c_t]) Try.func35 rfl Try.ntmps35 rfl ?_
 have hO := Owns.start hA
 have hB := Fr.refl (bl []) w0
 unfold ref15_Regular at H
 replace h_t := h_t.ch (Ch.start A w0)
 refine Go1.seq ?_
 refine Go1.region ?_
 refine GoR.op ((op_assign rfl) _) rfl rfl ?_
 refine GoR.nil ?_
 refine Go1.seq ?_
 refine Go1.region ?_
 refine GoR.op ((op_assign rfl) _) rfl rfl ?_
 refine GoR.nil ?_
 refine Go1.seq ?_
 refine Go1.seq ?_
 refine Go1.region ?_
 refine GoR.op ((op_move rfl) _) rfl rfl ?_
 refine GoR.call (op_call body18 rfl (walk_ref15_Classes hO.lt h_t H)) rfl rfl ?_
 rintro v5 w2 ⟨r1, p_r1_R, c_r1_R, p_r1_L, c_r1_L, p_r1_J, c_r1_J, p_r1_H, c_r1_H, p_r1_Below, c_r1_Below, rfl, hs3, h_r1_R, h_r1_L, h_r1_J, h_r1_H, h_r1_Below, H⟩
 have hst6 := Stp.same hO hs3
 replace hO := hst6.own
 replace h_t := h_t.ch hst6.ch
 replace hB := hB.trans hst6.fr
 refine GoR.op ((op_field1 Try.underlying28 rfl Try.underlying25 rfl rfl rfl) _) rfl rfl ?_
 refine GoR.call (op_call body56 rfl (walk_ref03_Classes hO.lt h_r1_J H)) rfl rfl ?_
 rintro v11 w8 ⟨r7, p_r7, c_r7, rfl, hs9, h_r7, H⟩
 have hst12 := Stp.same hO hs9
 replace hO := hst12.own
 replace h_t := h_t.ch hst12.ch
 replace h_r1_R := h_r1_R.ch hst12.ch
 replace h_r1_L := h_r1_L.ch hst12.ch
 replace h_r1_J := h_r1_J.ch hst12.ch
 replace h_r1_H := h_r1_H.ch hst12.ch
 replace h_r1_Below := h_r1_Below.ch hst12.ch
 replace hB := hB.trans hst12.fr
 refine GoR.op ((op_len Try.underlying22 rfl) _) rfl rfl ?_
 replace H := H h_r7.bd
 refine GoR.op ((op_move rfl) _) rfl rfl ?_
 refine GoR.nil ?_
 refine Go1.block ?_
 have hst14 := Stp.nil (e := 4) (r := 1) hO
 replace hO := hst14.own
 replace h_t := h_t.ch hst14.ch
 replace h_r1_R := h_r1_R.ch hst14.ch
 replace h_r1_L := h_r1_L.ch hst14.ch
 replace h_r1_J := h_r1_J.ch hst14.ch
 replace h_r1_H := h_r1_H.ch hst14.ch
 replace h_r1_Below := h_r1_Below.ch hst14.ch
 replace h_r7 := h_r7.ch hst14.ch
 replace hB := hB.trans hst14.fr
 have hE15 := Els.nil (Rp.bool) (bl (.row 4 1 none 0 0 [] :: []) ++ A) w8
 refine Go1.loopW (S := Nat × List Bool) (fun s σ w => ∃ (n23 : Nat), ∃ (p21 : Option Addr), ∃ (c22 : Nat), ∃ (vs19 : List Value), agrees σ [(0, .slice p_t t.length c_t), (3, .slice p21 n23 c22), (12, .slice p_r7 r7.length c_r7), (13, .int .i64 (r7.length : Int)), (14, .int .i64 ((s.1) : Int))] ∧ Owns w0.heap.size w [.row 4 1 p21 n23 c22 vs19] A ∧ Els (Rp.bool) (bl [.row 4 1 p21 n23 c22 vs19] ++ A) w vs19 (s.2) ∧ ISl (Rp.sl (Rp.int .i64)) (bl [.row 4 1 p21 n23 c22 vs19] ++ A) w p_t c_t t ∧ ISl (Rp.sl (Rp.int .i64)) (bl [.row 4 1 p21 n23 c22 vs19] ++ A) w p_r7 c_r7 r7 ∧ Fr (bl []) w0 (bl [.row 4 1 p21 n23 c22 vs19]) w) H ⟨0, none, 0, [], ⟨rfl, rfl, rfl, rfl, rfl, trivial⟩, hO, hE15, h_t, h_r7, hB⟩ ?_
 rintro X1 ⟨k1_17, out1_18⟩ H hX1 σ w16 ⟨n23, p21, c22, vs19, hag, hO, hE20, h_t, h_r7, hB⟩
 dsimp only at H
 refine Go1.keep [(0, .slice p_t t.length c_t), (3, .slice p21 n23 c22), (12, .slice p_r7 r7.length c_r7), (13, .int .i64 (r7.length : Int)), (14, .int .i64 (k1_17 : Int))] hag ?_
 refine Go1.seq ?_
 refine Go1.region ?_
 by_cases h24 : (k1_17 : Int) < (r7.length : Int)
 ·replace H := ifp h24 H
  refine GoR.op ((fun w => opB (op_lss rfl rfl w) (decide_eq_true h24)) _) rfl rfl ?_
  refine GoR.nil ?_
  refine Go1.seq ?_
  refine Go1.condT rfl rfl ?_
  refine Go1.skip ?_
  refine Go1.seq ?_
  refine Go1.block ?_
  refine Go1.seq ?_
  refine Go1.region ?_
  obtain ⟨h25, H⟩ := H
  obtain ⟨h26, H⟩ := H
  refine GoR.op ((op_index Try.underlying22 ti25 rfl rfl h25 h26 (h_r7.some_ h25 h26)) _) rfl rfl ?_
  have hobt := ldSl h_r7 h25 h26
  obtain ⟨p27, c28, hi29, hl30⟩ := hobt
  refine GoR.op ((hl30 Try.underlying25 rfl rfl) _ (Same.refl _)) rfl rfl ?_
  refine GoR.op ((op_assign rfl) _) rfl rfl ?_
  refine GoR.nil ?_
  refine Go1.seq ?_
  refine Go1.region ?_
  refine GoR.op ((op_assign rfl) _) rfl rfl ?_
  refine GoR.nil ?_
  refine Go1.seq ?_
  refine Go1.seq ?_
  refine Go1.region ?_
  refine GoR.op ((op_move rfl) _) rfl rfl ?_
  refine GoR.op ((op_len Try.underlying25 rfl) _) rfl rfl ?_
  replace H := H hi29.bd
  refine GoR.op ((op_move rfl) _) rfl rfl ?_
  refine GoR.nil ?_
  refine Go1.block ?_
  refine Go1.loopW (S := Bool × Nat) (fun s σ w => agrees σ [(0, .slice p_t t.length c_t), (3, .slice p21 n23 c22), (6, .bool (s.1)), (12, .slice p_r7 r7.length c_r7), (13, .int .i64 (r7.length : Int)), (14, .int .i64 (k1_17 : Int)), (18, .slice p27 ((ix r7 (k1_17 : Int)).length) c28), (19, .int .i64 ((ix r7 (k1_17 : Int)).length : Int)), (20, .int .i64 ((s.2) : Int))] ∧ Owns w0.heap.size w [.row 4 1 p21 n23 c22 vs19] A ∧ Els (Rp.bool) (bl [.row 4 1 p21 n23 c22 vs19] ++ A) w vs19 out1_18 ∧ ISl (Rp.sl (Rp.int .i64)) (bl [.row 4 1 p21 n23 c22 vs19] ++ A) w p_t c_t t ∧ ISl (Rp.sl (Rp.int .i64)) (bl [.row 4 1 p21 n23 c22 vs19] ++ A) w p_r7 c_r7 r7 ∧ ISl (Rp.int .i64) (bl [.row 4 1 p21 n23 c22 vs19] ++ A) w p27 c28 (ix r7 (k1_17 : Int)) ∧ Fr (bl []) w0 (bl [.row 4 1 p21 n23 c22 vs19]) w) H ⟨⟨rfl, rfl, rfl, rfl, rfl, rfl, rfl, rfl, rfl, trivial⟩, hO, hE20, h_t, h_r7, hi29, hB⟩ ?_
  rintro X2 ⟨ok2_32, k2_33⟩ H hX2 σ w31 ⟨hag, hO, hE20, h_t, h_r7, hi29, hB⟩
  dsimp only at H
  refine Go1.keep [(0, .slice p_t t.length c_t), (3, .slice p21 n23 c22), (6, .bool ok2_32), (12, .slice p_r7 r7.length c_r7), (13, .int .i64 (r7.length : Int)), (14, .int .i64 (k1_17 : Int)), (18, .slice p27 ((ix r7 (k1_17 : Int)).length) c28), (19, .int .i64 ((ix r7 (k1_17 : Int)).length : Int)), (20, .int .i64 (k2_33 : Int))] hag ?_
  refine Go1.seq ?_
  refine Go1.region ?_
  by_cases h34 : (k2_33 : Int) < ((ix r7 (k1_17 : Int)).length : Int)
  ·replace H := ifp h34 H
   refine GoR.op ((fun w => opB (op_lss rfl rfl w) (decide_eq_true h34)) _) rfl rfl ?_
   refine GoR.nil ?_
   refine Go1.seq ?_
   refine Go1.condT rfl rfl ?_
   refine Go1.skip ?_
   refine Go1.seq ?_
   refine Go1.block ?_
   refine Go1.seq ?_
   refine Go1.region ?_
   obtain ⟨h35, H⟩ := H
   obtain ⟨h36, H⟩ := H
   refine GoR.op ((op_index Try.underlying25 ti3 rfl rfl h35 h36 (hi29.some_ h35 h36)) _) rfl rfl ?_
   refine GoR.op ((ldInt hi29 h35 h36 Try.underlying3 rfl rfl) _ (Same.refl _)) rfl rfl ?_
   refine GoR.op ((op_assign rfl) _) rfl rfl ?_
   refine GoR.nil ?_
   refine Go1.region ?_
   refine GoR.op ((op_move rfl) _) rfl rfl ?_
   refine GoR.op ((op_move rfl) _) rfl rfl ?_
   cases ok2_32
   ·replace H := ifn Bool.false_ne_true H
    refine GoR.op ((op_move rfl) _) rfl rfl ?_
    refine GoR.op ((op_move rfl) _) rfl rfl ?_
    obtain ⟨h37, H⟩ := H
    obtain ⟨h38, H⟩ := H
    refine GoR.op ((op_index Try.underlying22 ti25 rfl rfl h37 h38 (h_t.some_ h37 h38)) _) rfl rfl ?_
    have hobt := ldSl h_t h37 h38
    obtain ⟨p39, c40, hi41, hl42⟩ := hobt
    refine GoR.op ((hl42 Try.underlying25 rfl rfl) _ (Same.refl _)) rfl rfl ?_
    refine GoR.op ((op_move rfl) _) rfl rfl ?_
    obtain ⟨h43, H⟩ := H
    obtain ⟨h44, H⟩ := H
    refine GoR.op ((op_index Try.underlying25 ti3 rfl rfl h43 h44 (hi41.some_ h43 h44)) _) rfl rfl ?_
    refine GoR.op ((ldInt hi41 h43 h44 Try.underlying3 rfl rfl) _ (Same.refl _)) rfl rfl ?_
    refine GoR.op ((op_move rfl) _) rfl rfl ?_
    by_cases h45 : (ix (ix t (ix (ix r7 (k1_17 : Int)) (k2_33 : Int))) (ix (ix r7 (k1_17 : Int)) (k2_33 : Int))) = (ix (ix r7 (k1_17 : Int)) (k2_33 : Int))
    ·replace H := ifp h45 H
     refine GoR.op ((fun w => opB (op_eql rfl rfl w) (decide_eq_true h45)) _) rfl rfl ?_
     refine GoR.op ((op_pickF rfl rfl rfl) _) rfl rfl ?_
     refine GoR.op ((op_assign rfl) _) rfl rfl ?_
     refine GoR.nil ?_
     refine Go1.inBlock ?_
     refine Go1.region ?_
     refine GoR.op ((op_add rfl rfl (wrap_i64 (natbd h34 hi29.bd))) _) rfl rfl ?_
     refine GoR.op ((op_move rfl) _) rfl rfl ?_
     refine GoR.nil ?_
     exact hX2 _ H _ _ ⟨⟨rfl, rfl, rfl, rfl, rfl, rfl, rfl, rfl, rfl, trivial⟩, hO, hE20, h_t, h_r7, hi29, hB⟩
    ·replace H := ifn h45 H
     refine GoR.op ((fun w => opB (op_eql rfl rfl w) (decide_eq_false h45)) _) rfl rfl ?_
     refine GoR.op ((op_pickF rfl rfl rfl) _) rfl rfl ?_
     refine GoR.op ((op_assign rfl) _) rfl rfl ?_
     refine GoR.nil ?_
     refine Go1.inBlock ?_
     refine Go1.region ?_
     refine GoR.op ((op_add rfl rfl (wrap_i64 (natbd h34 hi29.bd))) _) rfl rfl ?_
     refine GoR.op ((op_move rfl) _) rfl rfl ?_
     refine GoR.nil ?_
     exact hX2 _ H _ _ ⟨⟨rfl, rfl, rfl, rfl, rfl, rfl, rfl, rfl, rfl, trivial⟩, hO, hE20, h_t, h_r7, hi29, hB⟩
   ·replace H := ifp rfl H
    refine GoR.pass rfl rfl ?_
    refine GoR.pass rfl rfl ?_
    refine GoR.pass rfl rfl ?_
    refine GoR.pass rfl rfl ?_
    refine GoR.pass rfl rfl ?_
    refine GoR.pass rfl rfl ?_
    refine GoR.pass rfl rfl ?_
    refine GoR.pass rfl rfl ?_
    refine GoR.pass rfl rfl ?_
    refine GoR.op ((op_pickT rfl rfl rfl) _) rfl rfl ?_
    refine GoR.op ((op_assign rfl) _) rfl rfl ?_
    refine GoR.nil ?_
    refine Go1.inBlock ?_
    refine Go1.region ?_
    refine GoR.op ((op_add rfl rfl (wrap_i64 (natbd h34 hi29.bd))) _) rfl rfl ?_
    refine GoR.op ((op_move rfl) _) rfl rfl ?_
    refine GoR.nil ?_
    exact hX2 _ H _ _ ⟨⟨rfl, rfl, rfl, rfl, rfl, rfl, rfl, rfl, rfl, trivial⟩, hO, hE20, h_t, h_r7, hi29, hB⟩
  ·replace H := ifn h34 H
   refine GoR.op ((fun w => opB (op_lss rfl rfl w) (decide_eq_false h34)) _) rfl rfl ?_
   refine GoR.nil ?_
   refine Go1.seq ?_
   refine Go1.condF rfl rfl ?_
   refine Go1.exit rfl ?_
   refine Go1.region ?_
   refine GoR.op ((op_move rfl) _) rfl rfl ?_
   refine GoR.op ((op_move rfl) _) rfl rfl ?_
   have hobt := obuild (r := Rp.bool) (n := 1) (parts := [(0, .bool ok2_32)]) (vs := [.bool ok2_32]) (xs := [ok2_32]) rfl Try.underlying38 ti4 hO (by decide) (by kernel_rfl) (Els.cons rfl rfl (Els.nil _ _ _) (by simp [mx])) rfl
   obtain ⟨w46, p47, hst48, hE49, hs50, hop51⟩ := hobt
   refine GoR.op (hop51 rfl) rfl rfl ?_
   replace hE20 := hE20.ch hst48.ch
   replace hO := hst48.own
   replace h_t := h_t.ch hst48.ch
   replace h_r7 := h_r7.ch hst48.ch
   replace hi29 := hi29.ch hst48.ch
   replace hB := hB.trans hst48.fr
   have hobt := freeze 0 hO rfl hE49
   obtain ⟨hO1, hc55, hi53, hn54⟩ := hobt
   replace h_t := h_t.ch hc55
   replace h_r7 := h_r7.ch hc55
   replace hi29 := hi29.ch hc55
   replace hE20 := hE20.ch hc55
   replace hB := hB.trans (Owns.dropFr _ _ 0)
   replace hO := hO1; clear hO1
   obtain ⟨h56, H⟩ := H
   have hobt := oapp Try.underlying38 ti4 rfl 0 hO rfl hE20 hi53 hn54 h56 (by decide)
   obtain ⟨w57, p58, c59, vs60, hst61, hE62, hop63⟩ := hobt
   refine GoR.op (hop63 rfl rfl) rfl rfl ?_
   replace hO := hst61.own
   replace h_t := h_t.ch hst61.ch
   replace h_r7 := h_r7.ch hst61.ch
   replace hi29 := hi29.ch hst61.ch
   replace hi53 := hi53.ch hst61.ch
   replace hB := hB.trans hst61.fr
   refine GoR.op ((op_assign rfl) _) rfl rfl ?_
   refine GoR.nil ?_
   refine Go1.inBlock ?_
   refine Go1.region ?_
   refine GoR.op ((op_add rfl rfl (wrap_i64 (natbd h24 h_r7.bd))) _) rfl rfl ?_
   refine GoR.op ((op_move rfl) _) rfl rfl ?_
   refine GoR.nil ?_
   exact hX1 _ H _ _ ⟨n23 + 1, p58, c59, vs60, ⟨rfl, rfl, rfl, rfl, rfl, trivial⟩, hO, hE62, h_t, h_r7, hB⟩
 ·replace H := ifn h24 H
  refine GoR.op ((fun w => opB (op_lss rfl rfl w) (decide_eq_false h24)) _) rfl rfl ?_
  refine GoR.nil ?_
  refine Go1.seq ?_
  refine Go1.condF rfl rfl ?_
  refine Go1.exit rfl ?_
  refine Go1.seq ?_
  refine Go1.region ?_
  refine GoR.op ((op_move rfl) _) rfl rfl ?_
  refine GoR.op ((op_assign rfl) _) rfl rfl ?_
  refine GoR.nil ?_
  have hobt := freeze 0 hO rfl hE20
  obtain ⟨hO1, hc67, hi65, hn66⟩ := hobt
  replace h_t := h_t.ch hc67
  replace h_r7 := h_r7.ch hc67
  replace hB := hB.trans (Owns.dropFr _ _ 0)
  replace hO := hO1; clear hO1
  refine Go1.ret1 Try.func35 rfl ?_
  exact ⟨out1_18, p21, c22, (congrArg (fun nn => Value.slice p21 nn c22) hn66), hB.same, (hi65.ch (Ch.weak _ _ _)), H⟩
theorem body36 : Body Try.prog 36 := ⟨Try.f36, Try.func36, rfl, by kernel_rfl⟩
theorem walk_ref15_Inverses {A : List Nat} {w0 : World} {p_t : Option Addr} {c_t : Nat} {t : List (List Int)} {x : Int} (hA : ∀ b ∈ A, b < w0.heap.size) (h_t : ISl (Rp.sl (Rp.int .i64)) A w0 p_t c_t t) {K : List Int → Prop} (H : ref15_Inverses t x K) :
    CallsV Try.prog 36 #[.slice p_t t.length c_t, .int .i64 x] w0 (fun v w' => ∃ (r0 : List Int), ∃ (p_r0 : Option Addr), ∃ (c_r0 : Nat), v = .slice p_r0 r0.length c_r0 ∧ Same w0 w' ∧ ISl (Rp.int .i64) A w' p_r0 c_r0 r0 ∧ K r0) := by
 refine CallsV.of (l := [.slice p_t t.length c_t, .int .i64 x]) Try.func36 rfl Try.ntmps36 rfl ?_
 have hO := Owns.start hA
 have hB := Fr.refl (bl []) w0
 unfold ref15_Inverses at H
 replace h_t := h_t.ch (Ch.start A w0)
 refine Go1.seq ?_
 refine Go1.region ?_
 refine GoR.op ((op_assign rfl) _) rfl rfl ?_
 refine GoR.nil ?_
 refine Go1.seq ?_
 refine Go1.region ?_
 refine GoR.op ((op_assign rfl) _) rfl rfl ?_
 refine GoR.nil ?_
 refine Go1.seq ?_
 refine Go1.seq ?_
 refine Go1.region ?_
 refine GoR.op ((op_move rfl) _) rfl rfl ?_
 refine GoR.op ((op_len Try.underlying22 rfl) _) rfl rfl ?_
 replace H := H h_t.bd
 refine GoR.op ((op_move rfl) _) rfl rfl ?_
 refine GoR.nil ?_
 refine Go1.block ?_
 have hst2 := Stp.nil (e := 3) (r := 1) hO
 replace hO := hst2.own
 replace h_t := h_t.ch hst2.ch
 replace hB := hB.trans hst2.fr
 have hE3 := Els.nil (Rp.int .i64) (bl (.row 3 1 none 0 0 [] :: []) ++ A) w0
 refine Go1.loopW (S := Nat × List Int) (fun s σ w => ∃ (n11 : Nat), ∃ (p9 : Option Addr), ∃ (c10 : Nat), ∃ (vs7 : List Value), agrees σ [(0, .slice p_t t.length c_t), (1, .int .i64 x), (5, .slice p9 n11 c10), (8, .int .i64 (t.length : Int)), (9, .int .i64 ((s.1) : Int))] ∧ Owns w0.heap.size w [.row 3 1 p9 n11 c10 vs7] A ∧ Els (Rp.int .i64) (bl [.row 3 1 p9 n11 c10 vs7] ++ A) w vs7 (s.2) ∧ ISl (Rp.sl (Rp.int .i64)) (bl [.row 3 1 p9 n11 c10 vs7] ++ A) w p_t c_t t ∧ Fr (bl []) w0 (bl [.row 3 1 p9 n11 c10 vs7]) w) H ⟨0, none, 0, [], ⟨rfl, rfl, rfl, rfl, rfl, trivial⟩, hO, hE3, h_t, hB⟩ ?_
 rintro X1 ⟨k1_5, out1_6⟩ H hX1 σ w4 ⟨n11, p9, c10, vs7, hag, hO, hE8, h_t, hB⟩
 dsimp only at H
 refine Go1.keep [(0, .slice p_t t.length c_t), (1, .int .i64 x), (5, .slice p9 n11 c10), (8, .int .i64 (t.length : Int)), (9, .int .i64 (k1_5 : Int))] hag ?_
 refine Go1.seq ?_
 refine Go1.region ?_
 by_cases h12 : (k1_5 : Int) < (t.length : Int)
 ·replace H := ifp h12 H
  refine GoR.op ((fun w => opB (op_lss rfl rfl w) (decide_eq_true h12)) _) rfl rfl ?_
  refine GoR.nil ?_
  refine Go1.seq ?_
  refine Go1.condT rfl rfl ?_
  refine Go1.skip ?_
  refine Go1.seq ?_
  refine Go1.block ?_
  refine Go1.seq ?_
  refine Go1.region ?_
  refine GoR.op ((op_move rfl) _) rfl rfl ?_
  refine GoR.op ((op_assign rfl) _) rfl rfl ?_
  refine GoR.nil ?_
  refine Go1.seq ?_
  refine Go1.region ?_
  refine GoR.op ((op_move rfl) _) rfl rfl ?_
  refine GoR.op ((op_move rfl) _) rfl rfl ?_
  refine GoR.op ((op_move rfl) _) rfl rfl ?_
  obtain ⟨h13, H⟩ := H
  obtain ⟨h14, H⟩ := H
  refine GoR.op ((op_index Try.underlying22 ti25 rfl rfl h13 h14 (h_t.some_ h13 h14)) _) rfl rfl ?_
  have hobt := ldSl h_t h13 h14
  obtain ⟨p15, c16, hi17, hl18⟩ := hobt
  refine GoR.op ((hl18 Try.underlying25 rfl rfl) _ (Same.refl _)) rfl rfl ?_
  refine GoR.op ((op_move rfl) _) rfl rfl ?_
  obtain ⟨h19, H⟩ := H
  obtain ⟨h20, H⟩ := H
  refine GoR.op ((op_index Try.underlying25 ti3 rfl rfl h19 h20 (hi17.some_ h19 h20)) _) rfl rfl ?_
  refine GoR.op ((ldInt hi17 h19 h20 Try.underlying3 rfl rfl) _ (Same.refl _)) rfl rfl ?_
  obtain ⟨h21, H⟩ := H
  obtain ⟨h22, H⟩ := H
  refine GoR.op ((op_index Try.underlying22 ti25 rfl rfl h21 h22 (h_t.some_ h21 h22)) _) rfl rfl ?_
  have hobt := ldSl h_t h21 h22
  obtain ⟨p23, c24, hi25, hl26⟩ := hobt
  refine GoR.op ((hl26 Try.underlying25 rfl rfl) _ (Same.refl _)) rfl rfl ?_
  refine GoR.op ((op_move rfl) _) rfl rfl ?_
  obtain ⟨h27, H⟩ := H
  obtain ⟨h28, H⟩ := H
  refine GoR.op ((op_index Try.underlying25 ti3 rfl rfl h27 h28 (hi25.some_ h27 h28)) _) rfl rfl ?_
  refine GoR.op ((ldInt hi25 h27 h28 Try.underlying3 rfl rfl) _ (Same.refl _)) rfl rfl ?_
  refine GoR.op ((op_move rfl) _) rfl rfl ?_
  by_cases h29 : (ix (ix t (ix (ix t x) (k1_5 : Int))) x) = x
  ·replace H := ifp h29 H
   refine GoR.op ((fun w => opB (op_eql rfl rfl w) (decide_eq_true h29)) _) rfl rfl ?_
   refine GoR.op ((op_move rfl) _) rfl rfl ?_
   refine GoR.op ((op_move rfl) _) rfl rfl ?_
   refine GoR.op ((op_move rfl) _) rfl rfl ?_
   refine GoR.op ((op_move rfl) _) rfl rfl ?_
   obtain ⟨h30, H⟩ := H
   obtain ⟨h31, H⟩ := H
   refine GoR.op ((op_index Try.underlying22 ti25 rfl rfl h30 h31 (h_t.some_ h30 h31)) _) rfl rfl ?_
   have hobt := ldSl h_t h30 h31
   obtain ⟨p32, c33, hi34, hl35⟩ := hobt
   refine GoR.op ((hl35 Try.underlying25 rfl rfl) _ (Same.refl _)) rfl rfl ?_
   refine GoR.op ((op_move rfl) _) rfl rfl ?_
   obtain ⟨h36, H⟩ := H
   obtain ⟨h37, H⟩ := H
   refine GoR.op ((op_index Try.underlying25 ti3 rfl rfl h36 h37 (hi34.some_ h36 h37)) _) rfl rfl ?_
   refine GoR.op ((ldInt hi34 h36 h37 Try.underlying3 rfl rfl) _ (Same.refl _)) rfl rfl ?_
   obtain ⟨h38, H⟩ := H
   obtain ⟨h39, H⟩ := H
   refine GoR.op ((op_index Try.underlying22 ti25 rfl rfl h38 h39 (h_t.some_ h38 h39)) _) rfl rfl ?_
   have hobt := ldSl h_t h38 h39
   obtain ⟨p40, c41, hi42, hl43⟩ := hobt
   refine GoR.op ((hl43 Try.underlying25 rfl rfl) _ (Same.refl _)) rfl rfl ?_
   refine GoR.op ((op_move rfl) _) rfl rfl ?_
   obtain ⟨h44, H⟩ := H
   obtain ⟨h45, H⟩ := H
   refine GoR.op ((op_index Try.underlying25 ti3 rfl rfl h44 h45 (hi42.some_ h44 h45)) _) rfl rfl ?_
   refine GoR.op ((ldInt hi42 h44 h45 Try.underlying3 rfl rfl) _ (Same.refl _)) rfl rfl ?_
   refine GoR.op ((op_move rfl) _) rfl rfl ?_
   by_cases h46 : (ix (ix t (ix (ix t (k1_5 : Int)) x)) (k1_5 : Int)) = (k1_5 : Int)
   ·replace H := ifp h46 H
    refine GoR.op ((fun w => opB (op_eql rfl rfl w) (decide_eq_true h46)) _) rfl rfl ?_
    refine GoR.op ((op_pickT rfl rfl rfl) _) rfl rfl ?_
    refine GoR.nil ?_
    refine Go1.condT rfl rfl ?_
    refine Go1.region ?_
    refine GoR.op ((op_move rfl) _) rfl rfl ?_
    refine GoR.op ((op_move rfl) _) rfl rfl ?_
    have hobt := obuild (r := Rp.int .i64) (n := 1) (parts := [(0, .int .i64 (k1_5 : Int))]) (vs := [.int .i64 (k1_5 : Int)]) (xs := [(k1_5 : Int)]) rfl Try.underlying25 ti3 hO (by decide) (by kernel_rfl) (Els.cons rfl rfl (Els.nil _ _ _) (by simp [mx])) rfl
    obtain ⟨w47, p48, hst49, hE50, hs51, hop52⟩ := hobt
    refine GoR.op (hop52 rfl) rfl rfl ?_
    replace hE8 := hE8.ch hst49.ch
    replace hO := hst49.own
    replace h_t := h_t.ch hst49.ch
    replace hi17 := hi17.ch hst49.ch
    replace hi25 := hi25.ch hst49.ch
    replace hi34 := hi34.ch hst49.ch
    replace hi42 := hi42.ch hst49.ch
    replace hB := hB.trans hst49.fr
    have hobt := freeze 0 hO rfl hE50
    obtain ⟨hO1, hc56, hi54, hn55⟩ := hobt
    replace h_t := h_t.ch hc56
    replace hi17 := hi17.ch hc56
    replace hi25 := hi25.ch hc56
    replace hi34 := hi34.ch hc56
    replace hi42 := hi42.ch hc56
    replace hE8 := hE8.ch hc56
    replace hB := hB.trans (Owns.dropFr _ _ 0)
    replace hO := hO1; clear hO1
    obtain ⟨h57, H⟩ := H
    have hobt := oapp Try.underlying25 ti3 rfl 0 hO rfl hE8 hi54 hn55 h57 (by decide)
    obtain ⟨w58, p59, c60, vs61, hst62, hE63, hop64⟩ := hobt
    refine GoR.op (hop64 rfl rfl) rfl rfl ?_
    replace hO := hst62.own
    replace h_t := h_t.ch hst62.ch
    replace hi17 := hi17.ch hst62.ch
    replace hi25 := hi25.ch hst62.ch
    replace hi34 := hi34.ch hst62.ch
    replace hi42 := hi42.ch hst62.ch
    replace hi54 := hi54.ch hst62.ch
    replace hB := hB.trans hst62.fr
    refine GoR.op ((op_assign rfl) _) rfl rfl ?_
    refine GoR.nil ?_
    refine Go1.inBlock ?_
    refine Go1.region ?_
    refine GoR.op ((op_add rfl rfl (wrap_i64 (natbd h12 h_t.bd))) _) rfl rfl ?_
    refine GoR.op ((op_move rfl) _) rfl rfl ?_
    refine GoR.nil ?_
    exact hX1 _ H _ _ ⟨n11 + 1, p59, c60, vs61, ⟨rfl, rfl, rfl, rfl, rfl, trivial⟩, hO, hE63, h_t, hB⟩
   ·replace H := ifn h46 H
    refine GoR.op ((fun w => opB (op_eql rfl rfl w) (decide_eq_false h46)) _) rfl rfl ?_
    refine GoR.op ((op_pickT rfl rfl rfl) _) rfl rfl ?_
    refine GoR.nil ?_
    refine Go1.condF rfl rfl ?_
    refine Go1.skip ?_
    refine Go1.inBlock ?_
    refine Go1.region ?_
    refine GoR.op ((op_add rfl rfl (wrap_i64 (natbd h12 h_t.bd))) _) rfl rfl ?_
    refine GoR.op ((op_move rfl) _) rfl rfl ?_
    refine GoR.nil ?_
    exact hX1 _ H _ _ ⟨n11, p9, c10, vs7, ⟨rfl, rfl, rfl, rfl, rfl, trivial⟩, hO, hE8, h_t, hB⟩
  ·replace H := ifn h29 H
   refine GoR.op ((fun w => opB (op_eql rfl rfl w) (decide_eq_false h29)) _) rfl rfl ?_
   refine GoR.op ((op_move rfl) _) rfl rfl ?_
   refine GoR.pass rfl rfl ?_
   refine GoR.pass rfl rfl ?_
   refine GoR.pass rfl rfl ?_
   refine GoR.pass rfl rfl ?_
   refine GoR.pass rfl rfl ?_
   refine GoR.pass rfl rfl ?_
   refine GoR.pass rfl rfl ?_
   refine GoR.pass rfl rfl ?_
   refine GoR.pass rfl rfl ?_
   refine GoR.pass rfl rfl ?_
   refine GoR.pass rfl rfl ?_
   refine GoR.pass rfl rfl ?_
   refine GoR.pass rfl rfl ?_
   refine GoR.pass rfl rfl ?_
   refine GoR.pass rfl rfl ?_
   refine GoR.op ((op_pickF rfl rfl rfl) _) rfl rfl ?_
   refine GoR.nil ?_
   refine Go1.condF rfl rfl ?_
   refine Go1.skip ?_
   refine Go1.inBlock ?_
   refine Go1.region ?_
   refine GoR.op ((op_add rfl rfl (wrap_i64 (natbd h12 h_t.bd))) _) rfl rfl ?_
   refine GoR.op ((op_move rfl) _) rfl rfl ?_
   refine GoR.nil ?_
   exact hX1 _ H _ _ ⟨n11, p9, c10, vs7, ⟨rfl, rfl, rfl, rfl, rfl, trivial⟩, hO, hE8, h_t, hB⟩
 ·replace H := ifn h12 H
  refine GoR.op ((fun w => opB (op_lss rfl rfl w) (decide_eq_false h12)) _) rfl rfl ?_
  refine GoR.nil ?_
  refine Go1.seq ?_
  refine Go1.condF rfl rfl ?_
  refine Go1.exit rfl ?_
  refine Go1.seq ?_
  refine Go1.region ?_
  refine GoR.op ((op_move rfl) _) rfl rfl ?_
  refine GoR.op ((op_assign rfl) _) rfl rfl ?_
  refine GoR.nil ?_
  have hobt := freeze 0 hO rfl hE8
  obtain ⟨hO1, hc68, hi66, hn67⟩ := hobt
  replace h_t := h_t.ch hc68
  replace hB := hB.trans (Owns.dropFr _ _ 0)
  replace hO := hO1; clear hO1
  refine Go1.ret1 Try.func36 rfl ?_
  exact ⟨out1_6, p9, c10, (congrArg (fun nn => Value.slice p9 nn c10) hn67), hB.same, (hi66.ch (Ch.weak _ _ _)), H⟩
theorem body9 : Body Try.prog 9 := ⟨Try.f9, Try.func9, rfl, by kernel_rfl⟩
theorem walk_law15_GreenRegular {A : List Nat} {w0 : World} {p_a0 : Option Addr} {c_a0 : Nat} {a0 : List (List Int)} {a1 : Int} (hA : ∀ b ∈ A, b < w0.heap.size) (h_a0 : ISl (Rp.sl (Rp.int .i64)) A w0 p_a0 c_a0 a0) {K : Bool → Prop} (H : law15_GreenRegular a0 a1 K) :
    CallsV Try.prog 9 #[.slice p_a0 a0.length c_a0, .int .i64 a1] w0 (fun v w' => ∃ (r0 : Bool), v = .bool r0 ∧ Same w0 w' ∧ K r0) := by
 refine CallsV.of (l := [.slice p_a0 a0.length c_a0, .int .i64 a1]) Try.func9 rfl Try.ntmps9 rfl ?_
 have hO := Owns.start hA
 have hB := Fr.refl (bl []) w0
 unfold law15_GreenRegular at H
 replace h_a0 := h_a0.ch (Ch.start A w0)
 refine Go1.seq ?_
 refine Go1.region ?_
 refine GoR.op ((op_assign rfl) _) rfl rfl ?_
 refine GoR.nil ?_
 refine Go1.seq ?_
 refine Go1.seq ?_
 refine Go1.region ?_
 refine GoR.op ((op_move rfl) _) rfl rfl ?_
 refine GoR.call (op_call body13 rfl (walk_law15_large hO.lt h_a0 H)) rfl rfl ?_
 rintro v5 w2 ⟨r1, rfl, hs3, H⟩
 have hst6 := Stp.same hO hs3
 replace hO := hst6.own
 replace h_a0 := h_a0.ch hst6.ch
 replace hB := hB.trans hst6.fr
 refine GoR.nil ?_
 cases r1
 ·replace H := ifn Bool.false_ne_true H
  refine Go1.condF rfl rfl ?_
  refine Go1.skip ?_
  refine Go1.seq ?_
  refine Go1.region ?_
  refine GoR.op ((op_move rfl) _) rfl rfl ?_
  refine GoR.call (op_call body33 rfl (walk_green_Regular hO.lt h_a0 H)) rfl rfl ?_
  rintro v11 w8 ⟨r7, p_r7, c_r7, rfl, hs9, h_r7, H⟩
  have hst12 := Stp.same hO hs9
  replace hO := hst12.own
  replace h_a0 := h_a0.ch hst12.ch
  replace hB := hB.trans hst12.fr
  refine GoR.op ((op_move rfl) _) rfl rfl ?_
  refine GoR.op ((op_move rfl) _) rfl rfl ?_
  refine GoR.call (op_call body34 rfl (walk_green_Inverses hO.lt h_a0 H)) rfl rfl ?_
  rintro v17 w14 ⟨r13, p_r13, c_r13, rfl, hs15, h_r13, H⟩
  have hst18 := Stp.same hO hs15
  replace hO := hst18.own
  replace h_a0 := h_a0.ch hst18.ch
  replace h_r7 := h_r7.ch hst18.ch
  replace hB := hB.trans hst18.fr
  refine GoR.op ((op_assign rfl) _) rfl rfl ?_
  refine GoR.op ((op_assign rfl) _) rfl rfl ?_
  refine GoR.nil ?_
  refine Go1.seq ?_
  refine Go1.seq ?_
  refine Go1.region ?_
  refine GoR.op ((op_move rfl) _) rfl rfl ?_
  refine GoR.call (op_call body16 rfl (walk_ref14_Valid hO.lt h_a0 H)) rfl rfl ?_
  rintro v23 w20 ⟨r19, rfl, hs21, H⟩
  have hst24 := Stp.same hO hs21
  replace hO := hst24.own
  replace h_a0 := h_a0.ch hst24.ch
  replace h_r7 := h_r7.ch hst24.ch
  replace h_r13 := h_r13.ch hst24.ch
  replace hB := hB.trans hst24.fr
  cases r19
  ·replace H := ifn Bool.false_ne_true H
   refine GoR.op ((op_not rfl) _) rfl rfl ?_
   refine GoR.nil ?_
   refine Go1.condT rfl rfl ?_
   refine Go1.seq ?_
   refine Go1.region ?_
   refine GoR.op ((op_move rfl) _) rfl rfl ?_
   refine GoR.op ((op_len Try.underlying38 rfl) _) rfl rfl ?_
   replace H := H h_r7.bd
   by_cases h25 : (r7.length : Int) = (0 : Int)
   ·replace H := ifp h25 H
    refine GoR.op ((fun w => opB (op_eql rfl rfl w) (decide_eq_true h25)) _) rfl rfl ?_
    refine GoR.op ((op_move rfl) _) rfl rfl ?_
    refine GoR.op ((op_move rfl) _) rfl rfl ?_
    refine GoR.op ((op_len Try.underlying25 rfl) _) rfl rfl ?_
    replace H := H h_r13.bd
    by_cases h26 : (r13.length : Int) = (0 : Int)
    ·replace H := ifp h26 H
     refine GoR.op ((fun w => opB (op_eql rfl rfl w) (decide_eq_true h26)) _) rfl rfl ?_
     refine GoR.op ((op_pickT rfl rfl rfl) _) rfl rfl ?_
     refine GoR.op ((op_move rfl) _) rfl rfl ?_
     refine GoR.call (op_call body14 rfl (walk_law15_awake hO.lt H)) rfl rfl ?_
     rintro v31 w28 ⟨r27, rfl, hs29, H⟩
     have hst32 := Stp.same hO hs29
     replace hO := hst32.own
     replace h_a0 := h_a0.ch hst32.ch
     replace h_r7 := h_r7.ch hst32.ch
     replace h_r13 := h_r13.ch hst32.ch
     replace hB := hB.trans hst32.fr
     refine GoR.op ((op_pickT rfl rfl rfl) _) rfl rfl ?_
     refine GoR.op ((op_assign rfl) _) rfl rfl ?_
     refine GoR.nil ?_
     refine Go1.ret1 Try.func9 rfl ?_
     exact ⟨r27, rfl, hB.same, H⟩
    ·replace H := ifn h26 H
     refine GoR.op ((fun w => opB (op_eql rfl rfl w) (decide_eq_false h26)) _) rfl rfl ?_
     refine GoR.op ((op_pickT rfl rfl rfl) _) rfl rfl ?_
     refine GoR.op ((op_move rfl) _) rfl rfl ?_
     refine GoR.pass rfl rfl ?_
     refine GoR.op ((op_pickF rfl rfl rfl) _) rfl rfl ?_
     refine GoR.op ((op_assign rfl) _) rfl rfl ?_
     refine GoR.nil ?_
     refine Go1.ret1 Try.func9 rfl ?_
     exact ⟨false, rfl, hB.same, H⟩
   ·replace H := ifn h25 H
    refine GoR.op ((fun w => opB (op_eql rfl rfl w) (decide_eq_false h25)) _) rfl rfl ?_
    refine GoR.op ((op_move rfl) _) rfl rfl ?_
    refine GoR.pass rfl rfl ?_
    refine GoR.pass rfl rfl ?_
    refine GoR.pass rfl rfl ?_
    refine GoR.op ((op_pickF rfl rfl rfl) _) rfl rfl ?_
    refine GoR.op ((op_move rfl) _) rfl rfl ?_
    refine GoR.pass rfl rfl ?_
    refine GoR.op ((op_pickF rfl rfl rfl) _) rfl rfl ?_
    refine GoR.op ((op_assign rfl) _) rfl rfl ?_
    refine GoR.nil ?_
    refine Go1.ret1 Try.func9 rfl ?_
    exact ⟨false, rfl, hB.same, H⟩
  ·replace H := ifp rfl H
   refine GoR.op ((op_not rfl) _) rfl rfl ?_
   refine GoR.nil ?_
   refine Go1.condF rfl rfl ?_
   refine Go1.skip ?_
   refine Go1.seq ?_
   refine Go1.region ?_
   refine GoR.op ((op_move rfl) _) rfl rfl ?_
   refine GoR.call (op_call body35 rfl (walk_ref15_Regular hO.lt h_a0 H)) rfl rfl ?_
   rintro v37 w34 ⟨r33, p_r33, c_r33, rfl, hs35, h_r33, H⟩
   have hst38 := Stp.same hO hs35
   replace hO := hst38.own
   replace h_a0 := h_a0.ch hst38.ch
   replace h_r7 := h_r7.ch hst38.ch
   replace h_r13 := h_r13.ch hst38.ch
   replace hB := hB.trans hst38.fr
   refine GoR.op ((op_assign rfl) _) rfl rfl ?_
   refine GoR.nil ?_
   refine Go1.seq ?_
   refine Go1.seq ?_
   refine Go1.region ?_
   refine GoR.op ((op_move rfl) _) rfl rfl ?_
   refine GoR.op ((op_len Try.underlying38 rfl) _) rfl rfl ?_
   replace H := H h_r7.bd
   refine GoR.op ((op_move rfl) _) rfl rfl ?_
   refine GoR.op ((op_len Try.underlying38 rfl) _) rfl rfl ?_
   replace H := H h_r33.bd
   by_cases h39 : (r7.length : Int) = (r33.length : Int)
   ·replace H := ifp h39 H
    refine GoR.op ((fun w => opB (op_neq rfl rfl w) (ndT h39)) _) rfl rfl ?_
    refine GoR.nil ?_
    refine Go1.condF rfl rfl ?_
    refine Go1.skip ?_
    refine Go1.seq ?_
    refine Go1.seq ?_
    refine Go1.region ?_
    refine GoR.op ((op_move rfl) _) rfl rfl ?_
    refine GoR.op ((op_len Try.underlying38 rfl) _) rfl rfl ?_
    refine GoR.op ((op_move rfl) _) rfl rfl ?_
    refine GoR.nil ?_
    refine Go1.block ?_
    refine Go1.loopW (S := Nat) (fun s σ w => agrees σ [(0, .slice p_a0 a0.length c_a0), (1, .int .i64 a1), (5, .slice p_r7 r7.length c_r7), (6, .slice p_r13 r13.length c_r13), (7, .slice p_r33 r33.length c_r33), (39, .int .i64 (r7.length : Int)), (40, .int .i64 (s : Int))] ∧ Owns w0.heap.size w [] A ∧ ISl (Rp.sl (Rp.int .i64)) (bl [] ++ A) w p_a0 c_a0 a0 ∧ ISl (Rp.bool) (bl [] ++ A) w p_r7 c_r7 r7 ∧ ISl (Rp.int .i64) (bl [] ++ A) w p_r13 c_r13 r13 ∧ ISl (Rp.bool) (bl [] ++ A) w p_r33 c_r33 r33 ∧ Fr (bl []) w0 (bl []) w) H ⟨⟨rfl, rfl, rfl, rfl, rfl, rfl, rfl, trivial⟩, hO, h_a0, h_r7, h_r13, h_r33, hB⟩ ?_
    rintro X1 k1_41 H hX1 σ w40 ⟨hag, hO, h_a0, h_r7, h_r13, h_r33, hB⟩
    refine Go1.keep [(0, .slice p_a0 a0.length c_a0), (1, .int .i64 a1), (5, .slice p_r7 r7.length c_r7), (6, .slice p_r13 r13.length c_r13), (7, .slice p_r33 r33.length c_r33), (39, .int .i64 (r7.length : Int)), (40, .int .i64 (k1_41 : Int))] hag ?_
    refine Go1.seq ?_
    refine Go1.region ?_
    by_cases h42 : (k1_41 : Int) < (r7.length : Int)
    ·replace H := ifp h42 H
     refine GoR.op ((fun w => opB (op_lss rfl rfl w) (decide_eq_true h42)) _) rfl rfl ?_
     refine GoR.nil ?_
     refine Go1.seq ?_
     refine Go1.condT rfl rfl ?_
     refine Go1.skip ?_
     refine Go1.seq ?_
     refine Go1.block ?_
     refine Go1.seq ?_
     refine Go1.region ?_
     refine GoR.op ((op_move rfl) _) rfl rfl ?_
     refine GoR.op ((op_assign rfl) _) rfl rfl ?_
     refine GoR.nil ?_
     refine Go1.seq ?_
     refine Go1.drawS 0 [(0, .pure), (1, .pure), (2, .pure), (3, .stable), (4, .pure), (5, .pure), (6, .pure), (7, .stable), (8, .pure)] mixed (by kernel_rfl) ?_
     intro w43 hs44
     have hst45 := Stp.same hO hs44
     replace hO := hst45.own
     replace h_a0 := h_a0.ch hst45.ch
     replace h_r7 := h_r7.ch hst45.ch
     replace h_r13 := h_r13.ch hst45.ch
     replace h_r33 := h_r33.ch hst45.ch
     replace hB := hB.trans hst45.fr
     refine GoQ.pure rfl (op_move rfl) rfl rfl ?_
     refine GoQ.pure rfl (op_move rfl) rfl rfl ?_
     obtain ⟨h46, H⟩ := H
     obtain ⟨h47, H⟩ := H
     refine GoQ.pure rfl (op_index Try.underlying38 ti4 rfl rfl h46 h47 (h_r7.some_ h46 h47)) rfl rfl ?_
     by_cases h48 : ix r7 (k1_41 : Int) = true
     ·replace H := ifp h48 H
      refine GoQ.stable rfl (fun w hw => opB ((ldBool h_r7 h46 h47 Try.underlying4 rfl rfl) w hw) (h48)) rfl rfl ?_
      refine GoQ.pure rfl (op_move rfl) rfl rfl ?_
      refine GoQ.pure rfl (op_move rfl) rfl rfl ?_
      obtain ⟨h49, H⟩ := H
      obtain ⟨h50, H⟩ := H
      refine GoQ.pure rfl (op_index Try.underlying38 ti4 rfl rfl h49 h50 (h_r33.some_ h49 h50)) rfl rfl ?_
      by_cases h51 : ix r33 (k1_41 : Int) = true
      ·replace H := ifp h51 H
       refine GoQ.stable rfl (fun w hw => opB ((ldBool h_r33 h49 h50 Try.underlying4 rfl rfl) w hw) (h51)) rfl rfl ?_
       refine GoQ.pure rfl (op_neqB Try.underlying4 rfl rfl) rfl rfl ?_
       refine GoQ.nil ?_
       refine Go1.condF rfl rfl ?_
       refine Go1.skip ?_
       refine Go1.inBlock ?_
       refine Go1.region ?_
       refine GoR.op ((op_add rfl rfl (wrap_i64 (natbd h42 h_r7.bd))) _) rfl rfl ?_
       refine GoR.op ((op_move rfl) _) rfl rfl ?_
       refine GoR.nil ?_
       exact hX1 _ H _ _ ⟨⟨rfl, rfl, rfl, rfl, rfl, rfl, rfl, trivial⟩, hO, h_a0, h_r7, h_r13, h_r33, hB⟩
      ·replace H := ifn h51 H
       refine GoQ.stable rfl (fun w hw => opB ((ldBool h_r33 h49 h50 Try.underlying4 rfl rfl) w hw) (Bool.eq_false_iff.2 h51)) rfl rfl ?_
       refine GoQ.pure rfl (op_neqB Try.underlying4 rfl rfl) rfl rfl ?_
       refine GoQ.nil ?_
       refine Go1.condT rfl rfl ?_
       refine Go1.seq ?_
       refine Go1.region ?_
       refine GoR.op ((op_assign rfl) _) rfl rfl ?_
       refine GoR.nil ?_
       refine Go1.ret1 Try.func9 rfl ?_
       exact ⟨false, rfl, hB.same, H⟩
     ·replace H := ifn h48 H
      refine GoQ.stable rfl (fun w hw => opB ((ldBool h_r7 h46 h47 Try.underlying4 rfl rfl) w hw) (Bool.eq_false_iff.2 h48)) rfl rfl ?_
      refine GoQ.pure rfl (op_move rfl) rfl rfl ?_
      refine GoQ.pure rfl (op_move rfl) rfl rfl ?_
      obtain ⟨h52, H⟩ := H
      obtain ⟨h53, H⟩ := H
      refine GoQ.pure rfl (op_index Try.underlying38 ti4 rfl rfl h52 h53 (h_r33.some_ h52 h53)) rfl rfl ?_
      by_cases h54 : ix r33 (k1_41 : Int) = true
      ·replace H := ifp h54 H
       refine GoQ.stable rfl (fun w hw => opB ((ldBool h_r33 h52 h53 Try.underlying4 rfl rfl) w hw) (h54)) rfl rfl ?_
       refine GoQ.pure rfl (op_neqB Try.underlying4 rfl rfl) rfl rfl ?_
       refine GoQ.nil ?_
       refine Go1.condT rfl rfl ?_
       refine Go1.seq ?_
       refine Go1.region ?_
       refine GoR.op ((op_assign rfl) _) rfl rfl ?_
       refine GoR.nil ?_
       refine Go1.ret1 Try.func9 rfl ?_
       exact ⟨false, rfl, hB.same, H⟩
      ·replace H := ifn h54 H
       refine GoQ.stable rfl (fun w hw => opB ((ldBool h_r33 h52 h53 Try.underlying4 rfl rfl) w hw) (Bool.eq_false_iff.2 h54)) rfl rfl ?_
       refine GoQ.pure rfl (op_neqB Try.underlying4 rfl rfl) rfl rfl ?_
       refine GoQ.nil ?_
       refine Go1.condF rfl rfl ?_
       refine Go1.skip ?_
       refine Go1.inBlock ?_
       refine Go1.region ?_
       refine GoR.op ((op_add rfl rfl (wrap_i64 (natbd h42 h_r7.bd))) _) rfl rfl ?_
       refine GoR.op ((op_move rfl) _) rfl rfl ?_
       refine GoR.nil ?_
       exact hX1 _ H _ _ ⟨⟨rfl, rfl, rfl, rfl, rfl, rfl, rfl, trivial⟩, hO, h_a0, h_r7, h_r13, h_r33, hB⟩
    ·replace H := ifn h42 H
     refine GoR.op ((fun w => opB (op_lss rfl rfl w) (decide_eq_false h42)) _) rfl rfl ?_
     refine GoR.nil ?_
     refine Go1.seq ?_
     refine Go1.condF rfl rfl ?_
     refine Go1.exit rfl ?_
     refine Go1.seq ?_
     refine Go1.seq ?_
     refine Go1.region ?_
     refine GoR.op ((op_move rfl) _) rfl rfl ?_
     refine GoR.op ((op_move rfl) _) rfl rfl ?_
     have hobt := obuild (r := Rp.int .i64) (n := 1) (parts := [(0, .int .i64 a1)]) (vs := [.int .i64 a1]) (xs := [a1]) rfl Try.underlying25 ti3 hO (by decide) (by kernel_rfl) (Els.cons rfl rfl (Els.nil _ _ _) (by simp [mx])) rfl
     obtain ⟨w55, p56, hst57, hE58, hs59, hop60⟩ := hobt
     refine GoR.op (hop60 rfl) rfl rfl ?_
     replace hO := hst57.own
     replace h_a0 := h_a0.ch hst57.ch
     replace h_r7 := h_r7.ch hst57.ch
     replace h_r13 := h_r13.ch hst57.ch
     replace h_r33 := h_r33.ch hst57.ch
     replace hB := hB.trans hst57.fr
     have hobt := rowlend 0 hO rfl hE58
     obtain ⟨hl62, hn63⟩ := hobt
     have hOc64 := hO.drop 0
     refine GoR.call (op_call body20 (show ([.slice p_a0 a0.length c_a0, .slice p56 1 1] : List Value) = [.slice p_a0 a0.length c_a0, .slice p56 ([a1]).length 1] from by rw [← hn63]) (walk_ref14_In hOc64.lt (h_a0.ch (Owns.dropCh _ _ 0)) hl62 H)) rfl rfl ?_
     rintro v69 w66 ⟨r65, rfl, hs67, H⟩
     have hst70 := Stp.same hO hs67
     replace hE58 := hE58.ch hst70.ch
     replace hO := hst70.own
     replace h_a0 := h_a0.ch hst70.ch
     replace h_r7 := h_r7.ch hst70.ch
     replace h_r13 := h_r13.ch hst70.ch
     replace h_r33 := h_r33.ch hst70.ch
     replace hB := hB.trans hst70.fr
     cases r65
     ·replace H := ifn Bool.false_ne_true H
      refine GoR.op ((op_not rfl) _) rfl rfl ?_
      refine GoR.nil ?_
      refine Go1.condT rfl rfl ?_
      refine Go1.seq ?_
      refine Go1.region ?_
      refine GoR.op ((op_move rfl) _) rfl rfl ?_
      refine GoR.op ((op_len Try.underlying25 rfl) _) rfl rfl ?_
      replace H := H h_r13.bd
      by_cases h71 : (r13.length : Int) = (0 : Int)
      ·replace H := ifp h71 H
       refine GoR.op ((fun w => opB (op_eql rfl rfl w) (decide_eq_true h71)) _) rfl rfl ?_
       refine GoR.op ((op_move rfl) _) rfl rfl ?_
       refine GoR.call (op_call body14 rfl (walk_law15_awake hO.lt H)) rfl rfl ?_
       rintro v76 w73 ⟨r72, rfl, hs74, H⟩
       have hst77 := Stp.same hO hs74
       replace hE58 := hE58.ch hst77.ch
       replace hO := hst77.own
       replace h_a0 := h_a0.ch hst77.ch
       replace h_r7 := h_r7.ch hst77.ch
       replace h_r13 := h_r13.ch hst77.ch
       replace h_r33 := h_r33.ch hst77.ch
       replace hB := hB.trans hst77.fr
       refine GoR.op ((op_pickT rfl rfl rfl) _) rfl rfl ?_
       refine GoR.op ((op_assign rfl) _) rfl rfl ?_
       refine GoR.nil ?_
       refine Go1.ret1 Try.func9 rfl ?_
       exact ⟨r72, rfl, hB.same, H⟩
      ·replace H := ifn h71 H
       refine GoR.op ((fun w => opB (op_eql rfl rfl w) (decide_eq_false h71)) _) rfl rfl ?_
       refine GoR.op ((op_move rfl) _) rfl rfl ?_
       refine GoR.pass rfl rfl ?_
       refine GoR.op ((op_pickF rfl rfl rfl) _) rfl rfl ?_
       refine GoR.op ((op_assign rfl) _) rfl rfl ?_
       refine GoR.nil ?_
       refine Go1.ret1 Try.func9 rfl ?_
       exact ⟨false, rfl, hB.same, H⟩
     ·replace H := ifp rfl H
      refine GoR.op ((op_not rfl) _) rfl rfl ?_
      refine GoR.nil ?_
      refine Go1.condF rfl rfl ?_
      refine Go1.skip ?_
      refine Go1.seq ?_
      refine Go1.region ?_
      refine GoR.op ((op_move rfl) _) rfl rfl ?_
      refine GoR.op ((op_move rfl) _) rfl rfl ?_
      refine GoR.op ((op_move rfl) _) rfl rfl ?_
      refine GoR.call (op_call body36 rfl (walk_ref15_Inverses hO.lt h_a0 H)) rfl rfl ?_
      rintro v82 w79 ⟨r78, p_r78, c_r78, rfl, hs80, h_r78, H⟩
      have hst83 := Stp.same hO hs80
      replace hE58 := hE58.ch hst83.ch
      replace hO := hst83.own
      replace h_a0 := h_a0.ch hst83.ch
      replace h_r7 := h_r7.ch hst83.ch
      replace h_r13 := h_r13.ch hst83.ch
      replace h_r33 := h_r33.ch hst83.ch
      replace hB := hB.trans hst83.fr
      refine GoR.call (op_call body22 rfl (walk_ref03_Same hO.lt h_r13 h_r78 H)) rfl rfl ?_
      rintro v88 w85 ⟨r84, rfl, hs86, H⟩
      have hst89 := Stp.same hO hs86
      replace hE58 := hE58.ch hst89.ch
      replace hO := hst89.own
      replace h_a0 := h_a0.ch hst89.ch
      replace h_r7 := h_r7.ch hst89.ch
      replace h_r13 := h_r13.ch hst89.ch
      replace h_r33 := h_r33.ch hst89.ch
      replace h_r78 := h_r78.ch hst89.ch
      replace hB := hB.trans hst89.fr
      refine GoR.op ((op_move rfl) _) rfl rfl ?_
      cases r84
      ·replace H := ifn Bool.false_ne_true H
       refine GoR.pass rfl rfl ?_
       refine GoR.op ((op_pickF rfl rfl rfl) _) rfl rfl ?_
       refine GoR.op ((op_assign rfl) _) rfl rfl ?_
       refine GoR.nil ?_
       refine Go1.ret1 Try.func9 rfl ?_
       exact ⟨false, rfl, hB.same, H⟩
      ·replace H := ifp rfl H
       refine GoR.call (op_call body14 rfl (walk_law15_awake hO.lt H)) rfl rfl ?_
       rintro v94 w91 ⟨r90, rfl, hs92, H⟩
       have hst95 := Stp.same hO hs92
       replace hE58 := hE58.ch hst95.ch
       replace hO := hst95.own
       replace h_a0 := h_a0.ch hst95.ch
       replace h_r7 := h_r7.ch hst95.ch
       replace h_r13 := h_r13.ch hst95.ch
       replace h_r33 := h_r33.ch hst95.ch
       replace h_r78 := h_r78.ch hst95.ch
       replace hB := hB.trans hst95.fr
       refine GoR.op ((op_pickT rfl rfl rfl) _) rfl rfl ?_
       refine GoR.op ((op_assign rfl) _) rfl rfl ?_
       refine GoR.nil ?_
       refine Go1.ret1 Try.func9 rfl ?_
       exact ⟨r90, rfl, hB.same, H⟩
   ·replace H := ifn h39 H
    refine GoR.op ((fun w => opB (op_neq rfl rfl w) (ndF h39)) _) rfl rfl ?_
    refine GoR.nil ?_
    refine Go1.condT rfl rfl ?_
    refine Go1.seq ?_
    refine Go1.region ?_
    refine GoR.op ((op_assign rfl) _) rfl rfl ?_
    refine GoR.nil ?_
    refine Go1.ret1 Try.func9 rfl ?_
    exact ⟨false, rfl, hB.same, H⟩
 ·replace H := ifp rfl H
  refine Go1.condT rfl rfl ?_
  refine Go1.seq ?_
  refine Go1.region ?_
  refine GoR.call (op_call body14 rfl (walk_law15_awake hO.lt H)) rfl rfl ?_
  rintro v100 w97 ⟨r96, rfl, hs98, H⟩
  have hst101 := Stp.same hO hs98
  replace hO := hst101.own
  replace h_a0 := h_a0.ch hst101.ch
  replace hB := hB.trans hst101.fr
  refine GoR.op ((op_assign rfl) _) rfl rfl ?_
  refine GoR.nil ?_
  refine Go1.ret1 Try.func9 rfl ?_
  exact ⟨r96, rfl, hB.same, H⟩
end Sg
