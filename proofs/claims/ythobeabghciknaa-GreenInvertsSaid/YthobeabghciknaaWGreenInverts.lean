/- The walks: each call keeps to its plain transformer. Printed by walkgen.py. -/
import Derived.Test.YthobeabghciknaaTi
import Derived.Test.YthobeabghciknaaWGreenClasses
import Derived.Test.YthobeabghciknaaWGreenClassesb
import Derived.Test.YthobeabghciknaaWGreenMirrors
import Derived.Test.YthobeabghciknaaWGreenRegular
import Derived.Test.YthobeabghciknaaWGreenStable
namespace Sg
open Go Go.RowKit Go.Proofs
set_option linter.unusedVariables false
set_option linter.unusedSimpArgs false
set_option maxRecDepth 100000
set_option maxHeartbeats 4000000
theorem body84 : Body Try.prog 84 := ⟨Try.f84, Try.func84, rfl, by kernel_rfl⟩
theorem walk_mult_elements {A : List Nat} {w0 : World} {p_t : Option Addr} {c_t : Nat} {t : List (List Int)} (hA : ∀ b ∈ A, b < w0.heap.size) (h_t : ISl (Rp.sl (Rp.int .i64)) A w0 p_t c_t t) {K : List Int → Prop} (H : mult_elements t K) :
    CallsV Try.prog 84 #[.slice p_t t.length c_t] w0 (fun v w' => ∃ (r0 : List Int), ∃ (n_r0 : Nat), ∃ (p_r0 : Option Addr), ∃ (c_r0 : Nat), ∃ (vs_r0 : List Value), v = .slice p_r0 n_r0 c_r0 ∧ Same w0 w' ∧ Owns w0.heap.size w' [.row 3 1 p_r0 n_r0 c_r0 vs_r0] A ∧ Els (Rp.int .i64) (bl [.row 3 1 p_r0 n_r0 c_r0 vs_r0] ++ A) w' vs_r0 r0 ∧ K r0) := by
 refine CallsV.of (l := [.slice p_t t.length c_t]) Try.func84 rfl Try.ntmps84 rfl ?_
 have hO := Owns.start hA
 have hB := Fr.refl (bl []) w0
 unfold mult_elements at H
 replace h_t := h_t.ch (Ch.start A w0)
 refine Go1.seq ?_
 refine Go1.region ?_
 refine GoR.op ((op_assign rfl) _) rfl rfl ?_
 refine GoR.nil ?_
 refine Go1.seq ?_
 refine Go1.region ?_
 refine GoR.op ((op_move rfl) _) rfl rfl ?_
 refine GoR.op ((op_len Try.underlying22 rfl) _) rfl rfl ?_
 replace H := H h_t.bd
 obtain ⟨h8, H⟩ := H
 obtain ⟨h9, H⟩ := H
 have hobt := omake (n := (t.length : Int)) (r := Rp.int .i64) (d := (0 : Int)) Try.underlying25 ti3 (fun _ _ => rfl) rfl hO h8 h9 (by decide)
 obtain ⟨w1, p2, vs3, hst4, hE5, hs6, hop7⟩ := hobt
 refine GoR.op (hop7 rfl rfl) rfl rfl ?_
 replace hO := hst4.own
 replace h_t := h_t.ch hst4.ch
 replace hB := hB.trans hst4.fr
 refine GoR.op ((op_assign rfl) _) rfl rfl ?_
 refine GoR.nil ?_
 refine Go1.seq ?_
 refine Go1.seq ?_
 refine Go1.region ?_
 refine GoR.op ((op_move rfl) _) rfl rfl ?_
 refine GoR.op ((op_lenN Try.underlying25 rfl (hE5.neq hO 0 rfl)) _) rfl rfl ?_
 refine GoR.op ((op_move rfl) _) rfl rfl ?_
 refine GoR.nil ?_
 refine Go1.block ?_
 refine Go1.loopW (S := Nat × List Int) (fun s σ w => ∃ (vs14 : List Value), agrees σ [(3, .slice p2 t.length t.length), (9, .int .i64 ((List.replicate t.length ((0 : Int))).length : Int)), (10, .int .i64 ((s.1) : Int))] ∧ Owns w0.heap.size w [.row 3 1 p2 t.length t.length vs14] A ∧ Els (Rp.int .i64) (bl [.row 3 1 p2 t.length t.length vs14] ++ A) w vs14 (s.2) ∧ Fr (bl []) w0 (bl [.row 3 1 p2 t.length t.length vs14]) w) H ⟨vs3, ⟨rfl, rfl, rfl, trivial⟩, hO, hE5, hB⟩ ?_
 rintro X1 ⟨k1_12, list1_13⟩ H hX1 σ w11 ⟨vs14, hag, hO, hE15, hB⟩
 dsimp only at H
 refine Go1.keep [(3, .slice p2 t.length t.length), (9, .int .i64 ((List.replicate t.length ((0 : Int))).length : Int)), (10, .int .i64 (k1_12 : Int))] hag ?_
 refine Go1.seq ?_
 refine Go1.region ?_
 by_cases h16 : (k1_12 : Int) < ((List.replicate t.length ((0 : Int))).length : Int)
 ·replace H := ifp h16 H
  refine GoR.op ((fun w => opB (op_lss rfl rfl w) (decide_eq_true h16)) _) rfl rfl ?_
  refine GoR.nil ?_
  refine Go1.seq ?_
  refine Go1.condT rfl rfl ?_
  refine Go1.skip ?_
  refine Go1.seq ?_
  refine Go1.block ?_
  refine Go1.seq ?_
  refine Go1.region ?_
  refine GoR.op ((op_move rfl) _) rfl rfl ?_
  refine GoR.op ((op_assign rfl) _) rfl rfl ?_
  refine GoR.nil ?_
  refine Go1.region ?_
  refine GoR.op ((op_move rfl) _) rfl rfl ?_
  refine GoR.op ((op_move rfl) _) rfl rfl ?_
  refine GoR.op ((op_move rfl) _) rfl rfl ?_
  obtain ⟨h17, H⟩ := H
  obtain ⟨h18, H⟩ := H
  refine GoR.op ((op_index Try.underlying25 ti3 rfl rfl h17 (ltn (hE15.neq hO 0 rfl) h18) (hE15.psome hO 0 rfl h17 h18)) _) rfl rfl ?_
  have hobt := ost (r := Rp.int .i64) rfl 0 hO rfl hE15 h17 h18 (v := .int .i64 (k1_12 : Int)) (u := (k1_12 : Int)) rfl rfl
  obtain ⟨w19, vs20, hst21, hE22, hop23⟩ := hobt
  refine GoR.op (hop23 Try.underlying3 rfl ti3 rfl rfl) rfl rfl ?_
  replace hO := hst21.own
  replace hB := hB.trans hst21.fr
  refine GoR.nil ?_
  refine Go1.inBlock ?_
  refine Go1.region ?_
  obtain ⟨h24, H⟩ := H
  refine GoR.op ((op_add rfl rfl (wrap_i64 h24)) _) rfl rfl ?_
  refine GoR.op ((op_move rfl) _) rfl rfl ?_
  refine GoR.nil ?_
  exact hX1 _ H _ _ ⟨vs20, ⟨rfl, rfl, rfl, trivial⟩, hO, hE22, hB⟩
 ·replace H := ifn h16 H
  refine GoR.op ((fun w => opB (op_lss rfl rfl w) (decide_eq_false h16)) _) rfl rfl ?_
  refine GoR.nil ?_
  refine Go1.seq ?_
  refine Go1.condF rfl rfl ?_
  refine Go1.exit rfl ?_
  refine Go1.seq ?_
  refine Go1.region ?_
  refine GoR.op ((op_move rfl) _) rfl rfl ?_
  refine GoR.op ((op_assign rfl) _) rfl rfl ?_
  refine GoR.nil ?_
  refine Go1.ret1 Try.func84 rfl ?_
  exact ⟨list1_13, t.length, p2, t.length, vs14, rfl, hB.same, hO, hE15, H⟩
theorem body63 : Body Try.prog 63 := ⟨Try.f63, Try.func63, rfl, by kernel_rfl⟩
theorem body85 : Body Try.prog 85 := ⟨Try.f85, Try.func85, rfl, by kernel_rfl⟩
theorem body93 : Body Try.prog 93 := ⟨Try.f93, Try.func93, rfl, by kernel_rfl⟩
theorem body83 : Body Try.prog 83 := ⟨Try.f83, Try.func83, rfl, by kernel_rfl⟩
theorem body62 : Body Try.prog 62 := ⟨Try.f62, Try.func62, rfl, by kernel_rfl⟩
theorem body37 : Body Try.prog 37 := ⟨Try.f37, Try.func37, rfl, by kernel_rfl⟩
theorem walk_mult_Idempotents {A : List Nat} {w0 : World} {p_t : Option Addr} {c_t : Nat} {t : List (List Int)} (hA : ∀ b ∈ A, b < w0.heap.size) (h_t : ISl (Rp.sl (Rp.int .i64)) A w0 p_t c_t t) {K : List Int → Prop} (H : mult_Idempotents t K) :
    CallsV Try.prog 37 #[.slice p_t t.length c_t] w0 (fun v w' => ∃ (r0 : List Int), ∃ (p_r0 : Option Addr), ∃ (c_r0 : Nat), v = .slice p_r0 r0.length c_r0 ∧ Same w0 w' ∧ ISl (Rp.int .i64) A w' p_r0 c_r0 r0 ∧ K r0) := by
 refine CallsV.of (l := [.slice p_t t.length c_t]) Try.func37 rfl Try.ntmps37 rfl ?_
 have hO := Owns.start hA
 have hB := Fr.refl (bl []) w0
 unfold mult_Idempotents at H
 replace h_t := h_t.ch (Ch.start A w0)
 refine Go1.seq ?_
 refine Go1.region ?_
 have hobt := obox (t := 22) (v := .slice p_t t.length c_t) (cs := #[.slice p_t t.length c_t]) hO rfl
 obtain ⟨w1, B2, hst3, hs4, hop5⟩ := hobt
 refine GoR.op (hop5 rfl) rfl rfl ?_
 replace hO := hst3.own
 replace h_t := h_t.ch hst3.ch
 replace hB := hB.trans hst3.fr
 refine GoR.op ((op_assign rfl) _) rfl rfl ?_
 refine GoR.nil ?_
 refine Go1.seq ?_
 refine Go1.region ?_
 refine GoR.op ((oblk 0 hO rfl rfl Try.underlying22 rfl rfl) _ (Same.refl _)) rfl rfl ?_
 refine GoR.op ((op_makeFunc (vs := [.pointer (some ⟨B2, 0, none⟩)]) rfl) _) rfl rfl ?_
 refine GoR.inl (vs := [.slice p_t t.length c_t, .func (.func 63) #[] #[.pointer (some ⟨B2, 0, none⟩)]]) (caps := []) rfl rfl body62 Try.func62 rfl Try.ntmps62 rfl rfl rfl ?_
 intro RhR7 hR7
 refine Go1.seq ?_
 refine Go1.region ?_
 have hobt := obox (t := 63) (v := .func (.func 63) #[] #[.pointer (some ⟨B2, 0, none⟩)]) (cs := #[.func (.func 63) #[] #[.pointer (some ⟨B2, 0, none⟩)]]) hO rfl
 obtain ⟨w8, B9, hst10, hs11, hop12⟩ := hobt
 refine GoR.op (hop12 rfl) rfl rfl ?_
 replace hO := hst10.own
 replace h_t := h_t.ch hst10.ch
 replace hB := hB.trans hst10.fr
 refine GoR.op ((op_assign rfl) _) rfl rfl ?_
 refine GoR.nil ?_
 refine Go1.seq ?_
 refine Go1.seq ?_
 refine Go1.region ?_
 refine GoR.op ((op_move rfl) _) rfl rfl ?_
 refine GoR.call (op_call body61 rfl (walk_mult_valid hO.lt h_t H)) rfl rfl ?_
 rintro v18 w15 ⟨r14, rfl, hs16, H⟩
 have hst19 := Stp.same hO hs16
 replace hO := hst19.own
 replace h_t := h_t.ch hst19.ch
 replace hB := hB.trans hst19.fr
 cases r14
 ·replace H := ifn Bool.false_ne_true H
  refine GoR.op ((op_not rfl) _) rfl rfl ?_
  refine GoR.nil ?_
  refine Go1.condT rfl rfl ?_
  refine Go1.seq ?_
  refine Go1.region ?_
  refine GoR.op ((op_assign rfl) _) rfl rfl ?_
  refine GoR.nil ?_
  refine Go1.ret1V Try.func62 rfl (show _ = .slice none 0 0 from rfl) ?_
  refine hR7 _ _ ?_
  refine GoR.op ((op_assign rfl) _) rfl rfl ?_
  refine GoR.nil ?_
  refine Go1.ret1 Try.func37 rfl ?_
  exact ⟨([] : List Int), none, 0, rfl, hB.same, (ISl.null _ _ _), H⟩
 ·replace H := ifp rfl H
  refine GoR.op ((op_not rfl) _) rfl rfl ?_
  refine GoR.nil ?_
  refine Go1.condF rfl rfl ?_
  refine Go1.skip ?_
  refine Go1.seq ?_
  refine Go1.region ?_
  refine GoR.op ((op_move rfl) _) rfl rfl ?_
  refine GoR.call (op_call body84 rfl (walk_mult_elements hO.lt h_t H)) rfl rfl ?_
  rintro v25 w22 ⟨r20, n_r20, p_r20, c_r20, vs_r20, rfl, hs23, hN24, hE21, H⟩
  have hst26 := Stp.more hO hs23 hN24
  replace hO := hst26.own
  replace h_t := h_t.ch hst26.ch
  replace hB := hB.trans hst26.fr
  replace hE21 := hE21.ch (Ch.assoc _ _ _ _)
  refine GoR.op ((op_makeFunc (vs := [.pointer (some ⟨B9, 0, none⟩)]) rfl) _) rfl rfl ?_
  refine GoR.inl (vs := [.slice p_r20 n_r20 c_r20, .func (.func 85) #[] #[.pointer (some ⟨B9, 0, none⟩)]]) (caps := []) rfl rfl body83 Try.func83 rfl Try.ntmps83 rfl rfl rfl ?_
  intro RhR28 hR28
  refine Go1.seq ?_
  refine Go1.region ?_
  refine GoR.op ((op_assign rfl) _) rfl rfl ?_
  refine GoR.nil ?_
  refine Go1.seq ?_
  refine Go1.region ?_
  refine GoR.op ((op_move rfl) _) rfl rfl ?_
  refine GoR.op ((op_move rfl) _) rfl rfl ?_
  refine GoR.inl (vs := [.slice p_r20 n_r20 c_r20, .func (.func 85) #[] #[.pointer (some ⟨B9, 0, none⟩)]]) (caps := []) rfl rfl body93 Try.func93 rfl Try.ntmps93 rfl rfl rfl ?_
  intro RhR29 hR29
  refine Go1.seq ?_
  refine Go1.region ?_
  refine GoR.op ((op_assign rfl) _) rfl rfl ?_
  refine GoR.nil ?_
  refine Go1.seq ?_
  refine Go1.seq ?_
  refine Go1.region ?_
  refine GoR.op ((op_move rfl) _) rfl rfl ?_
  refine GoR.op ((op_lenN Try.underlying25 rfl (hE21.neq hO 0 rfl)) _) rfl rfl ?_
  refine GoR.op ((op_move rfl) _) rfl rfl ?_
  refine GoR.nil ?_
  refine Go1.block ?_
  refine Go1.loopW (S := Nat) (fun s σ w => agrees σ [(0, .slice p_r20 n_r20 c_r20), (1, .func (.func 85) #[] #[.pointer (some ⟨B9, 0, none⟩)]), (7, .int .i64 (r20.length : Int)), (8, .int .i64 (s : Int))] ∧ Owns w0.heap.size w [.row 3 1 p_r20 n_r20 c_r20 vs_r20, .blk B9 (.cells #[.func (.func 63) #[] #[.pointer (some ⟨B2, 0, none⟩)]] 63 (0, 0)), .blk B2 (.cells #[.slice p_t t.length c_t] 22 (0, 0))] A ∧ Els (Rp.int .i64) (bl [.row 3 1 p_r20 n_r20 c_r20 vs_r20, .blk B9 (.cells #[.func (.func 63) #[] #[.pointer (some ⟨B2, 0, none⟩)]] 63 (0, 0)), .blk B2 (.cells #[.slice p_t t.length c_t] 22 (0, 0))] ++ A) w vs_r20 r20 ∧ ISl (Rp.sl (Rp.int .i64)) (bl [.row 3 1 p_r20 n_r20 c_r20 vs_r20, .blk B9 (.cells #[.func (.func 63) #[] #[.pointer (some ⟨B2, 0, none⟩)]] 63 (0, 0)), .blk B2 (.cells #[.slice p_t t.length c_t] 22 (0, 0))] ++ A) w p_t c_t t ∧ Fr (bl []) w0 (bl [.row 3 1 p_r20 n_r20 c_r20 vs_r20, .blk B9 (.cells #[.func (.func 63) #[] #[.pointer (some ⟨B2, 0, none⟩)]] 63 (0, 0)), .blk B2 (.cells #[.slice p_t t.length c_t] 22 (0, 0))]) w) H ⟨⟨rfl, rfl, rfl, rfl, trivial⟩, hO, hE21, h_t, hB⟩ ?_
  rintro X1 k1_31 H hX1 σ w30 ⟨hag, hO, hE21, h_t, hB⟩
  refine Go1.keep [(0, .slice p_r20 n_r20 c_r20), (1, .func (.func 85) #[] #[.pointer (some ⟨B9, 0, none⟩)]), (7, .int .i64 (r20.length : Int)), (8, .int .i64 (k1_31 : Int))] hag ?_
  refine Go1.seq ?_
  refine Go1.region ?_
  by_cases h32 : (k1_31 : Int) < (r20.length : Int)
  ·replace H := ifp h32 H
   refine GoR.op ((fun w => opB (op_lss rfl rfl w) (decide_eq_true h32)) _) rfl rfl ?_
   refine GoR.nil ?_
   refine Go1.seq ?_
   refine Go1.condT rfl rfl ?_
   refine Go1.skip ?_
   refine Go1.seq ?_
   refine Go1.block ?_
   refine Go1.seq ?_
   refine Go1.region ?_
   refine GoR.op ((op_move rfl) _) rfl rfl ?_
   refine GoR.op ((op_assign rfl) _) rfl rfl ?_
   refine GoR.nil ?_
   refine Go1.seq ?_
   refine Go1.region ?_
   refine GoR.op ((op_move rfl) _) rfl rfl ?_
   refine GoR.op ((op_move rfl) _) rfl rfl ?_
   refine GoR.op ((op_move rfl) _) rfl rfl ?_
   obtain ⟨h33, H⟩ := H
   obtain ⟨h34, H⟩ := H
   refine GoR.op ((op_index Try.underlying25 ti3 rfl rfl h33 (ltn (hE21.neq hO 0 rfl) h34) (hE21.psome hO 0 rfl h33 h34)) _) rfl rfl ?_
   refine GoR.op ((oldInt 0 hO rfl hE21 h33 h34 Try.underlying3 rfl rfl) _ (Same.refl _)) rfl rfl ?_
   refine GoR.inl (vs := [.int .i64 (ix r20 (k1_31 : Int))]) (caps := [.pointer (some ⟨B9, 0, none⟩)]) rfl rfl body85 Try.func85 rfl Try.ntmps85 rfl rfl rfl ?_
   intro RhR35 hR35
   refine Go1.seq ?_
   refine Go1.region ?_
   refine GoR.op ((op_assign rfl) _) rfl rfl ?_
   refine GoR.nil ?_
   refine Go1.seq ?_
   refine Go1.region ?_
   refine GoR.op ((oblk 1 hO rfl rfl Try.underlying63 rfl rfl) _ (Same.refl _)) rfl rfl ?_
   refine GoR.op ((op_move rfl) _) rfl rfl ?_
   refine GoR.inl (vs := [.int .i64 (ix r20 (k1_31 : Int))]) (caps := [.pointer (some ⟨B2, 0, none⟩)]) rfl rfl body63 Try.func63 rfl Try.ntmps63 rfl rfl rfl ?_
   intro RhR36 hR36
   refine Go1.seq ?_
   refine Go1.region ?_
   refine GoR.op ((op_assign rfl) _) rfl rfl ?_
   refine GoR.nil ?_
   refine Go1.seq ?_
   refine Go1.region ?_
   refine GoR.op ((oblk 2 hO rfl rfl Try.underlying22 rfl rfl) _ (Same.refl _)) rfl rfl ?_
   refine GoR.op ((op_move rfl) _) rfl rfl ?_
   obtain ⟨h37, H⟩ := H
   obtain ⟨h38, H⟩ := H
   refine GoR.op ((op_index Try.underlying22 ti25 rfl rfl h37 h38 (h_t.some_ h37 h38)) _) rfl rfl ?_
   have hobt := ldSl h_t h37 h38
   obtain ⟨p39, c40, hi41, hl42⟩ := hobt
   refine GoR.op ((hl42 Try.underlying25 rfl rfl) _ (Same.refl _)) rfl rfl ?_
   refine GoR.op ((op_move rfl) _) rfl rfl ?_
   obtain ⟨h43, H⟩ := H
   obtain ⟨h44, H⟩ := H
   refine GoR.op ((op_index Try.underlying25 ti3 rfl rfl h43 h44 (hi41.some_ h43 h44)) _) rfl rfl ?_
   refine GoR.op ((ldInt hi41 h43 h44 Try.underlying3 rfl rfl) _ (Same.refl _)) rfl rfl ?_
   refine GoR.op ((op_move rfl) _) rfl rfl ?_
   by_cases h45 : (ix (ix t (ix r20 (k1_31 : Int))) (ix r20 (k1_31 : Int))) = (ix r20 (k1_31 : Int))
   ·replace H := ifp h45 H
    refine GoR.op ((fun w => opB (op_eql rfl rfl w) (decide_eq_true h45)) _) rfl rfl ?_
    refine GoR.op ((op_assign rfl) _) rfl rfl ?_
    refine GoR.nil ?_
    refine Go1.ret1V Try.func63 rfl (show _ = .bool true from rfl) ?_
    refine hR36 _ _ ?_
    refine GoR.op ((op_not rfl) _) rfl rfl ?_
    refine GoR.op ((op_assign rfl) _) rfl rfl ?_
    refine GoR.nil ?_
    refine Go1.ret1V Try.func85 rfl (show _ = .bool false from rfl) ?_
    refine hR35 _ _ ?_
    refine GoR.nil ?_
    refine Go1.condF rfl rfl ?_
    refine Go1.skip ?_
    refine Go1.inBlock ?_
    refine Go1.region ?_
    refine GoR.op ((op_add rfl rfl (wrap_i64 (natbd h32 hE21.bd))) _) rfl rfl ?_
    refine GoR.op ((op_move rfl) _) rfl rfl ?_
    refine GoR.nil ?_
    exact hX1 _ H _ _ ⟨⟨rfl, rfl, rfl, rfl, trivial⟩, hO, hE21, h_t, hB⟩
   ·replace H := ifn h45 H
    refine GoR.op ((fun w => opB (op_eql rfl rfl w) (decide_eq_false h45)) _) rfl rfl ?_
    refine GoR.op ((op_assign rfl) _) rfl rfl ?_
    refine GoR.nil ?_
    refine Go1.ret1V Try.func63 rfl (show _ = .bool false from rfl) ?_
    refine hR36 _ _ ?_
    refine GoR.op ((op_not rfl) _) rfl rfl ?_
    refine GoR.op ((op_assign rfl) _) rfl rfl ?_
    refine GoR.nil ?_
    refine Go1.ret1V Try.func85 rfl (show _ = .bool true from rfl) ?_
    refine hR35 _ _ ?_
    refine GoR.nil ?_
    refine Go1.condT rfl rfl ?_
    refine Go1.seq ?_
    refine Go1.region ?_
    refine GoR.op ((op_move rfl) _) rfl rfl ?_
    refine GoR.op ((op_assign rfl) _) rfl rfl ?_
    refine GoR.nil ?_
    refine Go1.ret1V Try.func93 rfl (show _ = .int .i64 (k1_31 : Int) from rfl) ?_
    refine hR29 _ _ ?_
    refine GoR.op ((op_assign rfl) _) rfl rfl ?_
    refine GoR.nil ?_
    refine Go1.seq ?_
    refine Go1.seq ?_
    refine Go1.region ?_
    refine GoR.op ((op_move rfl) _) rfl rfl ?_
    by_cases h46 : (k1_31 : Int) = (-1 : Int)
    ·replace H := ifp h46 H
     refine GoR.op ((fun w => opB (op_eql rfl rfl w) (decide_eq_true h46)) _) rfl rfl ?_
     refine GoR.nil ?_
     refine Go1.condT rfl rfl ?_
     refine Go1.seq ?_
     refine Go1.region ?_
     refine GoR.op ((op_move rfl) _) rfl rfl ?_
     refine GoR.op ((op_assign rfl) _) rfl rfl ?_
     refine GoR.nil ?_
     refine Go1.ret1V Try.func83 rfl (show _ = .slice p_r20 n_r20 c_r20 from rfl) ?_
     refine hR28 _ _ ?_
     refine GoR.op ((op_assign rfl) _) rfl rfl ?_
     refine GoR.nil ?_
     refine Go1.ret1V Try.func62 rfl (show _ = .slice p_r20 n_r20 c_r20 from rfl) ?_
     refine hR7 _ _ ?_
     refine GoR.op ((op_assign rfl) _) rfl rfl ?_
     refine GoR.nil ?_
     have hobt := freeze 0 hO rfl hE21
     obtain ⟨hO1, hc49, hi47, hn48⟩ := hobt
     replace h_t := h_t.ch hc49
     replace hi41 := hi41.ch hc49
     replace hB := hB.trans (Owns.dropFr _ _ 0)
     replace hO := hO1; clear hO1
     refine Go1.ret1 Try.func37 rfl ?_
     exact ⟨r20, p_r20, c_r20, (congrArg (fun nn => Value.slice p_r20 nn c_r20) hn48), hB.same, (hi47.ch (Ch.weak _ _ _)), H⟩
    ·replace H := ifn h46 H
     refine GoR.op ((fun w => opB (op_eql rfl rfl w) (decide_eq_false h46)) _) rfl rfl ?_
     refine GoR.nil ?_
     refine Go1.condF rfl rfl ?_
     refine Go1.skip ?_
     refine Go1.seq ?_
     refine Go1.seq ?_
     refine Go1.region ?_
     refine GoR.op ((op_move rfl) _) rfl rfl ?_
     refine GoR.op ((op_add rfl rfl (wrap_i64 (natbd h32 hE21.bd))) _) rfl rfl ?_
     refine GoR.op ((op_assign rfl) _) rfl rfl ?_
     refine GoR.nil ?_
     refine Go1.block ?_
     refine Go1.loopW (S := Nat × Nat × List Int) (fun s σ w => ∃ (vs54 : List Value), agrees σ [(0, .slice p_r20 n_r20 c_r20), (1, .func (.func 85) #[] #[.pointer (some ⟨B9, 0, none⟩)]), (5, .int .i64 ((s.1) : Int)), (6, .int .i64 ((s.2.1) : Int))] ∧ Owns w0.heap.size w [.row 3 1 p_r20 n_r20 c_r20 vs54, .blk B9 (.cells #[.func (.func 63) #[] #[.pointer (some ⟨B2, 0, none⟩)]] 63 (0, 0)), .blk B2 (.cells #[.slice p_t t.length c_t] 22 (0, 0))] A ∧ Els (Rp.int .i64) (bl [.row 3 1 p_r20 n_r20 c_r20 vs54, .blk B9 (.cells #[.func (.func 63) #[] #[.pointer (some ⟨B2, 0, none⟩)]] 63 (0, 0)), .blk B2 (.cells #[.slice p_t t.length c_t] 22 (0, 0))] ++ A) w vs54 (s.2.2) ∧ ISl (Rp.sl (Rp.int .i64)) (bl [.row 3 1 p_r20 n_r20 c_r20 vs54, .blk B9 (.cells #[.func (.func 63) #[] #[.pointer (some ⟨B2, 0, none⟩)]] 63 (0, 0)), .blk B2 (.cells #[.slice p_t t.length c_t] 22 (0, 0))] ++ A) w p_t c_t t ∧ Fr (bl []) w0 (bl [.row 3 1 p_r20 n_r20 c_r20 vs54, .blk B9 (.cells #[.func (.func 63) #[] #[.pointer (some ⟨B2, 0, none⟩)]] 63 (0, 0)), .blk B2 (.cells #[.slice p_t t.length c_t] 22 (0, 0))]) w) H ⟨vs_r20, ⟨rfl, rfl, rfl, rfl, trivial⟩, hO, hE21, h_t, hB⟩ ?_
     rintro X2 ⟨i2_51, j2_52, s2_53⟩ H hX2 σ w50 ⟨vs54, hag, hO, hE55, h_t, hB⟩
     dsimp only at H
     refine Go1.keep [(0, .slice p_r20 n_r20 c_r20), (1, .func (.func 85) #[] #[.pointer (some ⟨B9, 0, none⟩)]), (5, .int .i64 (i2_51 : Int)), (6, .int .i64 (j2_52 : Int))] hag ?_
     refine Go1.seq ?_
     refine Go1.seq ?_
     refine Go1.region ?_
     refine GoR.op ((op_move rfl) _) rfl rfl ?_
     refine GoR.op ((op_move rfl) _) rfl rfl ?_
     refine GoR.op ((op_lenN Try.underlying25 rfl (hE55.neq hO 0 rfl)) _) rfl rfl ?_
     by_cases h56 : (j2_52 : Int) < (s2_53.length : Int)
     ·replace H := ifp h56 H
      refine GoR.op ((fun w => opB (op_lss rfl rfl w) (decide_eq_true h56)) _) rfl rfl ?_
      refine GoR.nil ?_
      refine Go1.condT rfl rfl ?_
      refine Go1.skip ?_
      refine Go1.seq ?_
      refine Go1.block ?_
      refine Go1.seq ?_
      refine Go1.region ?_
      refine GoR.op ((op_move rfl) _) rfl rfl ?_
      refine GoR.op ((op_move rfl) _) rfl rfl ?_
      obtain ⟨h57, H⟩ := H
      obtain ⟨h58, H⟩ := H
      refine GoR.op ((op_index Try.underlying25 ti3 rfl rfl h57 (ltn (hE55.neq hO 0 rfl) h58) (hE55.psome hO 0 rfl h57 h58)) _) rfl rfl ?_
      refine GoR.op ((oldInt 0 hO rfl hE55 h57 h58 Try.underlying3 rfl rfl) _ (Same.refl _)) rfl rfl ?_
      refine GoR.op ((op_assign rfl) _) rfl rfl ?_
      refine GoR.nil ?_
      refine Go1.seq ?_
      refine Go1.region ?_
      refine GoR.op ((op_move rfl) _) rfl rfl ?_
      refine GoR.op ((op_move rfl) _) rfl rfl ?_
      refine GoR.inl (vs := [.int .i64 (ix s2_53 (j2_52 : Int))]) (caps := [.pointer (some ⟨B9, 0, none⟩)]) rfl rfl body85 Try.func85 rfl Try.ntmps85 rfl rfl rfl ?_
      intro RhR59 hR59
      refine Go1.seq ?_
      refine Go1.region ?_
      refine GoR.op ((op_assign rfl) _) rfl rfl ?_
      refine GoR.nil ?_
      refine Go1.seq ?_
      refine Go1.region ?_
      refine GoR.op ((oblk 1 hO rfl rfl Try.underlying63 rfl rfl) _ (Same.refl _)) rfl rfl ?_
      refine GoR.op ((op_move rfl) _) rfl rfl ?_
      refine GoR.inl (vs := [.int .i64 (ix s2_53 (j2_52 : Int))]) (caps := [.pointer (some ⟨B2, 0, none⟩)]) rfl rfl body63 Try.func63 rfl Try.ntmps63 rfl rfl rfl ?_
      intro RhR60 hR60
      refine Go1.seq ?_
      refine Go1.region ?_
      refine GoR.op ((op_assign rfl) _) rfl rfl ?_
      refine GoR.nil ?_
      refine Go1.seq ?_
      refine Go1.region ?_
      refine GoR.op ((oblk 2 hO rfl rfl Try.underlying22 rfl rfl) _ (Same.refl _)) rfl rfl ?_
      refine GoR.op ((op_move rfl) _) rfl rfl ?_
      obtain ⟨h61, H⟩ := H
      obtain ⟨h62, H⟩ := H
      refine GoR.op ((op_index Try.underlying22 ti25 rfl rfl h61 h62 (h_t.some_ h61 h62)) _) rfl rfl ?_
      have hobt := ldSl h_t h61 h62
      obtain ⟨p63, c64, hi65, hl66⟩ := hobt
      refine GoR.op ((hl66 Try.underlying25 rfl rfl) _ (Same.refl _)) rfl rfl ?_
      refine GoR.op ((op_move rfl) _) rfl rfl ?_
      obtain ⟨h67, H⟩ := H
      obtain ⟨h68, H⟩ := H
      refine GoR.op ((op_index Try.underlying25 ti3 rfl rfl h67 h68 (hi65.some_ h67 h68)) _) rfl rfl ?_
      refine GoR.op ((ldInt hi65 h67 h68 Try.underlying3 rfl rfl) _ (Same.refl _)) rfl rfl ?_
      refine GoR.op ((op_move rfl) _) rfl rfl ?_
      by_cases h69 : (ix (ix t (ix s2_53 (j2_52 : Int))) (ix s2_53 (j2_52 : Int))) = (ix s2_53 (j2_52 : Int))
      ·replace H := ifp h69 H
       refine GoR.op ((fun w => opB (op_eql rfl rfl w) (decide_eq_true h69)) _) rfl rfl ?_
       refine GoR.op ((op_assign rfl) _) rfl rfl ?_
       refine GoR.nil ?_
       refine Go1.ret1V Try.func63 rfl (show _ = .bool true from rfl) ?_
       refine hR60 _ _ ?_
       refine GoR.op ((op_not rfl) _) rfl rfl ?_
       refine GoR.op ((op_assign rfl) _) rfl rfl ?_
       refine GoR.nil ?_
       refine Go1.ret1V Try.func85 rfl (show _ = .bool false from rfl) ?_
       refine hR59 _ _ ?_
       refine GoR.op ((op_not rfl) _) rfl rfl ?_
       refine GoR.nil ?_
       refine Go1.condT rfl rfl ?_
       refine Go1.seq ?_
       refine Go1.region ?_
       refine GoR.op ((op_move rfl) _) rfl rfl ?_
       refine GoR.op ((op_move rfl) _) rfl rfl ?_
       refine GoR.op ((op_move rfl) _) rfl rfl ?_
       obtain ⟨h70, H⟩ := H
       obtain ⟨h71, H⟩ := H
       refine GoR.op ((op_index Try.underlying25 ti3 rfl rfl h70 (ltn (hE55.neq hO 0 rfl) h71) (hE55.psome hO 0 rfl h70 h71)) _) rfl rfl ?_
       have hobt := ost (r := Rp.int .i64) rfl 0 hO rfl hE55 h70 h71 (v := .int .i64 (ix s2_53 (j2_52 : Int))) (u := (ix s2_53 (j2_52 : Int))) rfl rfl
       obtain ⟨w72, vs73, hst74, hE75, hop76⟩ := hobt
       refine GoR.op (hop76 Try.underlying3 rfl ti3 rfl rfl) rfl rfl ?_
       replace hO := hst74.own
       replace h_t := h_t.ch hst74.ch
       replace hi65 := hi65.ch hst74.ch
       replace hB := hB.trans hst74.fr
       refine GoR.nil ?_
       refine Go1.region ?_
       refine GoR.op ((op_move rfl) _) rfl rfl ?_
       obtain ⟨h77, H⟩ := H
       refine GoR.op ((op_add rfl rfl (wrap_i64 h77)) _) rfl rfl ?_
       refine GoR.op ((op_assign rfl) _) rfl rfl ?_
       refine GoR.nil ?_
       refine Go1.inBlock ?_
       refine Go1.region ?_
       refine GoR.op ((op_move rfl) _) rfl rfl ?_
       obtain ⟨h78, H⟩ := H
       refine GoR.op ((op_add rfl rfl (wrap_i64 h78)) _) rfl rfl ?_
       refine GoR.op ((op_assign rfl) _) rfl rfl ?_
       refine GoR.nil ?_
       exact hX2 _ H _ _ ⟨vs73, ⟨rfl, rfl, rfl, rfl, trivial⟩, hO, hE75, h_t, hB⟩
      ·replace H := ifn h69 H
       refine GoR.op ((fun w => opB (op_eql rfl rfl w) (decide_eq_false h69)) _) rfl rfl ?_
       refine GoR.op ((op_assign rfl) _) rfl rfl ?_
       refine GoR.nil ?_
       refine Go1.ret1V Try.func63 rfl (show _ = .bool false from rfl) ?_
       refine hR60 _ _ ?_
       refine GoR.op ((op_not rfl) _) rfl rfl ?_
       refine GoR.op ((op_assign rfl) _) rfl rfl ?_
       refine GoR.nil ?_
       refine Go1.ret1V Try.func85 rfl (show _ = .bool true from rfl) ?_
       refine hR59 _ _ ?_
       refine GoR.op ((op_not rfl) _) rfl rfl ?_
       refine GoR.nil ?_
       refine Go1.condF rfl rfl ?_
       refine Go1.skip ?_
       refine Go1.inBlock ?_
       refine Go1.region ?_
       refine GoR.op ((op_move rfl) _) rfl rfl ?_
       refine GoR.op ((op_add rfl rfl (wrap_i64 (natbd h56 hE55.bd))) _) rfl rfl ?_
       refine GoR.op ((op_assign rfl) _) rfl rfl ?_
       refine GoR.nil ?_
       exact hX2 _ H _ _ ⟨vs54, ⟨rfl, rfl, rfl, rfl, trivial⟩, hO, hE55, h_t, hB⟩
     ·replace H := ifn h56 H
      refine GoR.op ((fun w => opB (op_lss rfl rfl w) (decide_eq_false h56)) _) rfl rfl ?_
      refine GoR.nil ?_
      refine Go1.condF rfl rfl ?_
      refine Go1.exit rfl ?_
      refine Go1.seq ?_
      refine Go1.region ?_
      refine GoR.op ((op_move rfl) _) rfl rfl ?_
      refine GoR.op ((op_move rfl) _) rfl rfl ?_
      obtain ⟨h79, H⟩ := H
      obtain ⟨h80, H⟩ := H
      refine GoR.op ((op_sliceFrom Try.underlying25 ti3 rfl rfl h79 (lenle (hE55.neq hO 0 rfl) h80)) _) rfl rfl ?_
      have hobt := oclear (Fl.int .i64) rfl (d := (0 : Int)) Try.underlying25 ti3 rfl rfl (fun _ _ => rfl) 0 hO rfl hE55 h79 h80
      obtain ⟨w81, vs82, hst83, hE84, hop85⟩ := hobt
      refine GoR.op (hop85 rfl) rfl rfl ?_
      replace hO := hst83.own
      replace h_t := h_t.ch hst83.ch
      replace hB := hB.trans hst83.fr
      refine GoR.nil ?_
      refine Go1.seq ?_
      refine Go1.region ?_
      refine GoR.op ((op_move rfl) _) rfl rfl ?_
      refine GoR.op ((op_move rfl) _) rfl rfl ?_
      obtain ⟨h86, H⟩ := H
      obtain ⟨h87, H⟩ := H
      have hal88 := AL.start 0 hO rfl hE84 ((i2_51 : Int)).toNat
      refine GoR.op ((op_sliceTo Try.underlying25 ti3 rfl rfl h86 (Els.lec 0 hO rfl hE84 h87)) _) rfl rfl ?_
      refine GoR.op ((op_assign rfl) _) rfl rfl ?_
      refine GoR.nil ?_
      refine Go1.ret1V Try.func83 rfl (show _ = .slice p_r20 (((i2_51 : Int)).toNat) c_r20 from rfl) ?_
      refine hR28 _ _ ?_
      refine GoR.op ((op_assign rfl) _) rfl rfl ?_
      refine GoR.nil ?_
      refine Go1.ret1V Try.func62 rfl (show _ = .slice p_r20 (((i2_51 : Int)).toNat) c_r20 from rfl) ?_
      refine hR7 _ _ ?_
      refine GoR.op ((op_assign rfl) _) rfl rfl ?_
      refine GoR.nil ?_
      have hobt := freezeHead 0 hO rfl hE84 ((i2_51 : Int)).toNat
      obtain ⟨hO1, hc90, hi89⟩ := hobt
      replace h_t := h_t.ch hc90
      replace hB := hB.trans (Owns.dropFr _ _ 0)
      replace hO := hO1; clear hO1
      refine Go1.ret1 Try.func37 rfl ?_
      exact ⟨(s2_53.take (i2_51 : Int).toNat ++ List.replicate (s2_53.length - (i2_51 : Int).toNat) ((0 : Int))).take ((i2_51 : Int)).toNat, p_r20, c_r20, (congrArg (fun nn => Value.slice p_r20 nn c_r20) (takeLen h86 h87)), hB.same, (hi89.ch (Ch.weak _ _ _)), H⟩
  ·replace H := ifn h32 H
   refine GoR.op ((fun w => opB (op_lss rfl rfl w) (decide_eq_false h32)) _) rfl rfl ?_
   refine GoR.nil ?_
   refine Go1.seq ?_
   refine Go1.condF rfl rfl ?_
   refine Go1.exit rfl ?_
   refine Go1.seq ?_
   refine Go1.region ?_
   refine GoR.op ((op_assign rfl) _) rfl rfl ?_
   refine GoR.nil ?_
   refine Go1.ret1V Try.func93 rfl (show _ = .int .i64 (-1 : Int) from rfl) ?_
   refine hR29 _ _ ?_
   refine GoR.op ((op_assign rfl) _) rfl rfl ?_
   refine GoR.nil ?_
   refine Go1.seq ?_
   refine Go1.seq ?_
   refine Go1.region ?_
   refine GoR.op ((op_move rfl) _) rfl rfl ?_
   by_cases h91 : (-1 : Int) = (-1 : Int)
   ·replace H := ifp h91 H
    refine GoR.op ((fun w => opB (op_eql rfl rfl w) (decide_eq_true h91)) _) rfl rfl ?_
    refine GoR.nil ?_
    refine Go1.condT rfl rfl ?_
    refine Go1.seq ?_
    refine Go1.region ?_
    refine GoR.op ((op_move rfl) _) rfl rfl ?_
    refine GoR.op ((op_assign rfl) _) rfl rfl ?_
    refine GoR.nil ?_
    refine Go1.ret1V Try.func83 rfl (show _ = .slice p_r20 n_r20 c_r20 from rfl) ?_
    refine hR28 _ _ ?_
    refine GoR.op ((op_assign rfl) _) rfl rfl ?_
    refine GoR.nil ?_
    refine Go1.ret1V Try.func62 rfl (show _ = .slice p_r20 n_r20 c_r20 from rfl) ?_
    refine hR7 _ _ ?_
    refine GoR.op ((op_assign rfl) _) rfl rfl ?_
    refine GoR.nil ?_
    have hobt := freeze 0 hO rfl hE21
    obtain ⟨hO1, hc94, hi92, hn93⟩ := hobt
    replace h_t := h_t.ch hc94
    replace hB := hB.trans (Owns.dropFr _ _ 0)
    replace hO := hO1; clear hO1
    refine Go1.ret1 Try.func37 rfl ?_
    exact ⟨r20, p_r20, c_r20, (congrArg (fun nn => Value.slice p_r20 nn c_r20) hn93), hB.same, (hi92.ch (Ch.weak _ _ _)), H⟩
   ·replace H := ifn h91 H
    refine GoR.op ((fun w => opB (op_eql rfl rfl w) (decide_eq_false h91)) _) rfl rfl ?_
    refine GoR.nil ?_
    refine Go1.condF rfl rfl ?_
    refine Go1.skip ?_
    refine Go1.seq ?_
    refine Go1.seq ?_
    refine Go1.region ?_
    refine GoR.op ((op_move rfl) _) rfl rfl ?_
    obtain ⟨h95, H⟩ := H
    refine GoR.op ((op_add rfl rfl (wrap_i64 h95)) _) rfl rfl ?_
    refine GoR.op ((op_assign rfl) _) rfl rfl ?_
    refine GoR.nil ?_
    refine Go1.block ?_
    refine Go1.loopW (S := Int × Int × List Int) (fun s σ w => ∃ (vs100 : List Value), agrees σ [(0, .slice p_r20 n_r20 c_r20), (1, .func (.func 85) #[] #[.pointer (some ⟨B9, 0, none⟩)]), (5, .int .i64 (s.1)), (6, .int .i64 (s.2.1))] ∧ Owns w0.heap.size w [.row 3 1 p_r20 n_r20 c_r20 vs100, .blk B9 (.cells #[.func (.func 63) #[] #[.pointer (some ⟨B2, 0, none⟩)]] 63 (0, 0)), .blk B2 (.cells #[.slice p_t t.length c_t] 22 (0, 0))] A ∧ Els (Rp.int .i64) (bl [.row 3 1 p_r20 n_r20 c_r20 vs100, .blk B9 (.cells #[.func (.func 63) #[] #[.pointer (some ⟨B2, 0, none⟩)]] 63 (0, 0)), .blk B2 (.cells #[.slice p_t t.length c_t] 22 (0, 0))] ++ A) w vs100 (s.2.2) ∧ ISl (Rp.sl (Rp.int .i64)) (bl [.row 3 1 p_r20 n_r20 c_r20 vs100, .blk B9 (.cells #[.func (.func 63) #[] #[.pointer (some ⟨B2, 0, none⟩)]] 63 (0, 0)), .blk B2 (.cells #[.slice p_t t.length c_t] 22 (0, 0))] ++ A) w p_t c_t t ∧ Fr (bl []) w0 (bl [.row 3 1 p_r20 n_r20 c_r20 vs100, .blk B9 (.cells #[.func (.func 63) #[] #[.pointer (some ⟨B2, 0, none⟩)]] 63 (0, 0)), .blk B2 (.cells #[.slice p_t t.length c_t] 22 (0, 0))]) w) H ⟨vs_r20, ⟨rfl, rfl, rfl, rfl, trivial⟩, hO, hE21, h_t, hB⟩ ?_
    rintro X3 ⟨i3_97, j3_98, s3_99⟩ H hX3 σ w96 ⟨vs100, hag, hO, hE101, h_t, hB⟩
    dsimp only at H
    refine Go1.keep [(0, .slice p_r20 n_r20 c_r20), (1, .func (.func 85) #[] #[.pointer (some ⟨B9, 0, none⟩)]), (5, .int .i64 i3_97), (6, .int .i64 j3_98)] hag ?_
    refine Go1.seq ?_
    refine Go1.seq ?_
    refine Go1.region ?_
    refine GoR.op ((op_move rfl) _) rfl rfl ?_
    refine GoR.op ((op_move rfl) _) rfl rfl ?_
    refine GoR.op ((op_lenN Try.underlying25 rfl (hE101.neq hO 0 rfl)) _) rfl rfl ?_
    by_cases h102 : j3_98 < (s3_99.length : Int)
    ·replace H := ifp h102 H
     refine GoR.op ((fun w => opB (op_lss rfl rfl w) (decide_eq_true h102)) _) rfl rfl ?_
     refine GoR.nil ?_
     refine Go1.condT rfl rfl ?_
     refine Go1.skip ?_
     refine Go1.seq ?_
     refine Go1.block ?_
     refine Go1.seq ?_
     refine Go1.region ?_
     refine GoR.op ((op_move rfl) _) rfl rfl ?_
     refine GoR.op ((op_move rfl) _) rfl rfl ?_
     obtain ⟨h103, H⟩ := H
     obtain ⟨h104, H⟩ := H
     refine GoR.op ((op_index Try.underlying25 ti3 rfl rfl h103 (ltn (hE101.neq hO 0 rfl) h104) (hE101.psome hO 0 rfl h103 h104)) _) rfl rfl ?_
     refine GoR.op ((oldInt 0 hO rfl hE101 h103 h104 Try.underlying3 rfl rfl) _ (Same.refl _)) rfl rfl ?_
     refine GoR.op ((op_assign rfl) _) rfl rfl ?_
     refine GoR.nil ?_
     refine Go1.seq ?_
     refine Go1.region ?_
     refine GoR.op ((op_move rfl) _) rfl rfl ?_
     refine GoR.op ((op_move rfl) _) rfl rfl ?_
     refine GoR.inl (vs := [.int .i64 (ix s3_99 j3_98)]) (caps := [.pointer (some ⟨B9, 0, none⟩)]) rfl rfl body85 Try.func85 rfl Try.ntmps85 rfl rfl rfl ?_
     intro RhR105 hR105
     refine Go1.seq ?_
     refine Go1.region ?_
     refine GoR.op ((op_assign rfl) _) rfl rfl ?_
     refine GoR.nil ?_
     refine Go1.seq ?_
     refine Go1.region ?_
     refine GoR.op ((oblk 1 hO rfl rfl Try.underlying63 rfl rfl) _ (Same.refl _)) rfl rfl ?_
     refine GoR.op ((op_move rfl) _) rfl rfl ?_
     refine GoR.inl (vs := [.int .i64 (ix s3_99 j3_98)]) (caps := [.pointer (some ⟨B2, 0, none⟩)]) rfl rfl body63 Try.func63 rfl Try.ntmps63 rfl rfl rfl ?_
     intro RhR106 hR106
     refine Go1.seq ?_
     refine Go1.region ?_
     refine GoR.op ((op_assign rfl) _) rfl rfl ?_
     refine GoR.nil ?_
     refine Go1.seq ?_
     refine Go1.region ?_
     refine GoR.op ((oblk 2 hO rfl rfl Try.underlying22 rfl rfl) _ (Same.refl _)) rfl rfl ?_
     refine GoR.op ((op_move rfl) _) rfl rfl ?_
     obtain ⟨h107, H⟩ := H
     obtain ⟨h108, H⟩ := H
     refine GoR.op ((op_index Try.underlying22 ti25 rfl rfl h107 h108 (h_t.some_ h107 h108)) _) rfl rfl ?_
     have hobt := ldSl h_t h107 h108
     obtain ⟨p109, c110, hi111, hl112⟩ := hobt
     refine GoR.op ((hl112 Try.underlying25 rfl rfl) _ (Same.refl _)) rfl rfl ?_
     refine GoR.op ((op_move rfl) _) rfl rfl ?_
     obtain ⟨h113, H⟩ := H
     obtain ⟨h114, H⟩ := H
     refine GoR.op ((op_index Try.underlying25 ti3 rfl rfl h113 h114 (hi111.some_ h113 h114)) _) rfl rfl ?_
     refine GoR.op ((ldInt hi111 h113 h114 Try.underlying3 rfl rfl) _ (Same.refl _)) rfl rfl ?_
     refine GoR.op ((op_move rfl) _) rfl rfl ?_
     by_cases h115 : (ix (ix t (ix s3_99 j3_98)) (ix s3_99 j3_98)) = (ix s3_99 j3_98)
     ·replace H := ifp h115 H
      refine GoR.op ((fun w => opB (op_eql rfl rfl w) (decide_eq_true h115)) _) rfl rfl ?_
      refine GoR.op ((op_assign rfl) _) rfl rfl ?_
      refine GoR.nil ?_
      refine Go1.ret1V Try.func63 rfl (show _ = .bool true from rfl) ?_
      refine hR106 _ _ ?_
      refine GoR.op ((op_not rfl) _) rfl rfl ?_
      refine GoR.op ((op_assign rfl) _) rfl rfl ?_
      refine GoR.nil ?_
      refine Go1.ret1V Try.func85 rfl (show _ = .bool false from rfl) ?_
      refine hR105 _ _ ?_
      refine GoR.op ((op_not rfl) _) rfl rfl ?_
      refine GoR.nil ?_
      refine Go1.condT rfl rfl ?_
      refine Go1.seq ?_
      refine Go1.region ?_
      refine GoR.op ((op_move rfl) _) rfl rfl ?_
      refine GoR.op ((op_move rfl) _) rfl rfl ?_
      refine GoR.op ((op_move rfl) _) rfl rfl ?_
      obtain ⟨h116, H⟩ := H
      obtain ⟨h117, H⟩ := H
      refine GoR.op ((op_index Try.underlying25 ti3 rfl rfl h116 (ltn (hE101.neq hO 0 rfl) h117) (hE101.psome hO 0 rfl h116 h117)) _) rfl rfl ?_
      have hobt := ost (r := Rp.int .i64) rfl 0 hO rfl hE101 h116 h117 (v := .int .i64 (ix s3_99 j3_98)) (u := (ix s3_99 j3_98)) rfl rfl
      obtain ⟨w118, vs119, hst120, hE121, hop122⟩ := hobt
      refine GoR.op (hop122 Try.underlying3 rfl ti3 rfl rfl) rfl rfl ?_
      replace hO := hst120.own
      replace h_t := h_t.ch hst120.ch
      replace hi111 := hi111.ch hst120.ch
      replace hB := hB.trans hst120.fr
      refine GoR.nil ?_
      refine Go1.region ?_
      refine GoR.op ((op_move rfl) _) rfl rfl ?_
      obtain ⟨h123, H⟩ := H
      refine GoR.op ((op_add rfl rfl (wrap_i64 h123)) _) rfl rfl ?_
      refine GoR.op ((op_assign rfl) _) rfl rfl ?_
      refine GoR.nil ?_
      refine Go1.inBlock ?_
      refine Go1.region ?_
      refine GoR.op ((op_move rfl) _) rfl rfl ?_
      obtain ⟨h124, H⟩ := H
      refine GoR.op ((op_add rfl rfl (wrap_i64 h124)) _) rfl rfl ?_
      refine GoR.op ((op_assign rfl) _) rfl rfl ?_
      refine GoR.nil ?_
      exact hX3 _ H _ _ ⟨vs119, ⟨rfl, rfl, rfl, rfl, trivial⟩, hO, hE121, h_t, hB⟩
     ·replace H := ifn h115 H
      refine GoR.op ((fun w => opB (op_eql rfl rfl w) (decide_eq_false h115)) _) rfl rfl ?_
      refine GoR.op ((op_assign rfl) _) rfl rfl ?_
      refine GoR.nil ?_
      refine Go1.ret1V Try.func63 rfl (show _ = .bool false from rfl) ?_
      refine hR106 _ _ ?_
      refine GoR.op ((op_not rfl) _) rfl rfl ?_
      refine GoR.op ((op_assign rfl) _) rfl rfl ?_
      refine GoR.nil ?_
      refine Go1.ret1V Try.func85 rfl (show _ = .bool true from rfl) ?_
      refine hR105 _ _ ?_
      refine GoR.op ((op_not rfl) _) rfl rfl ?_
      refine GoR.nil ?_
      refine Go1.condF rfl rfl ?_
      refine Go1.skip ?_
      refine Go1.inBlock ?_
      refine Go1.region ?_
      refine GoR.op ((op_move rfl) _) rfl rfl ?_
      obtain ⟨h125, H⟩ := H
      refine GoR.op ((op_add rfl rfl (wrap_i64 h125)) _) rfl rfl ?_
      refine GoR.op ((op_assign rfl) _) rfl rfl ?_
      refine GoR.nil ?_
      exact hX3 _ H _ _ ⟨vs100, ⟨rfl, rfl, rfl, rfl, trivial⟩, hO, hE101, h_t, hB⟩
    ·replace H := ifn h102 H
     refine GoR.op ((fun w => opB (op_lss rfl rfl w) (decide_eq_false h102)) _) rfl rfl ?_
     refine GoR.nil ?_
     refine Go1.condF rfl rfl ?_
     refine Go1.exit rfl ?_
     refine Go1.seq ?_
     refine Go1.region ?_
     refine GoR.op ((op_move rfl) _) rfl rfl ?_
     refine GoR.op ((op_move rfl) _) rfl rfl ?_
     obtain ⟨h126, H⟩ := H
     obtain ⟨h127, H⟩ := H
     refine GoR.op ((op_sliceFrom Try.underlying25 ti3 rfl rfl h126 (lenle (hE101.neq hO 0 rfl) h127)) _) rfl rfl ?_
     have hobt := oclear (Fl.int .i64) rfl (d := (0 : Int)) Try.underlying25 ti3 rfl rfl (fun _ _ => rfl) 0 hO rfl hE101 h126 h127
     obtain ⟨w128, vs129, hst130, hE131, hop132⟩ := hobt
     refine GoR.op (hop132 rfl) rfl rfl ?_
     replace hO := hst130.own
     replace h_t := h_t.ch hst130.ch
     replace hB := hB.trans hst130.fr
     refine GoR.nil ?_
     refine Go1.seq ?_
     refine Go1.region ?_
     refine GoR.op ((op_move rfl) _) rfl rfl ?_
     refine GoR.op ((op_move rfl) _) rfl rfl ?_
     obtain ⟨h133, H⟩ := H
     obtain ⟨h134, H⟩ := H
     have hal135 := AL.start 0 hO rfl hE131 (i3_97).toNat
     refine GoR.op ((op_sliceTo Try.underlying25 ti3 rfl rfl h133 (Els.lec 0 hO rfl hE131 h134)) _) rfl rfl ?_
     refine GoR.op ((op_assign rfl) _) rfl rfl ?_
     refine GoR.nil ?_
     refine Go1.ret1V Try.func83 rfl (show _ = .slice p_r20 ((i3_97).toNat) c_r20 from rfl) ?_
     refine hR28 _ _ ?_
     refine GoR.op ((op_assign rfl) _) rfl rfl ?_
     refine GoR.nil ?_
     refine Go1.ret1V Try.func62 rfl (show _ = .slice p_r20 ((i3_97).toNat) c_r20 from rfl) ?_
     refine hR7 _ _ ?_
     refine GoR.op ((op_assign rfl) _) rfl rfl ?_
     refine GoR.nil ?_
     have hobt := freezeHead 0 hO rfl hE131 (i3_97).toNat
     obtain ⟨hO1, hc137, hi136⟩ := hobt
     replace h_t := h_t.ch hc137
     replace hB := hB.trans (Owns.dropFr _ _ 0)
     replace hO := hO1; clear hO1
     refine Go1.ret1 Try.func37 rfl ?_
     exact ⟨(s3_99.take i3_97.toNat ++ List.replicate (s3_99.length - i3_97.toNat) ((0 : Int))).take (i3_97).toNat, p_r20, c_r20, (congrArg (fun nn => Value.slice p_r20 nn c_r20) (takeLen h133 h134)), hB.same, (hi136.ch (Ch.weak _ _ _)), H⟩
theorem walk_law15_GreenInverts {A : List Nat} {w0 : World} {p_a0 : Option Addr} {c_a0 : Nat} {a0 : List (List Int)} {a1 : Int} (hA : ∀ b ∈ A, b < w0.heap.size) (h_a0 : ISl (Rp.sl (Rp.int .i64)) A w0 p_a0 c_a0 a0) {K : Bool → Prop} (H : law15_GreenInverts a0 a1 K) :
    CallsV Try.prog 10 #[.slice p_a0 a0.length c_a0, .int .i64 a1] w0 (fun v w' => ∃ (r0 : Bool), v = .bool r0 ∧ Same w0 w' ∧ K r0) := by
 refine CallsV.of (l := [.slice p_a0 a0.length c_a0, .int .i64 a1]) Try.func10 rfl Try.ntmps10 rfl ?_
 have hO := Owns.start hA
 have hB := Fr.refl (bl []) w0
 unfold law15_GreenInverts at H
 replace h_a0 := h_a0.ch (Ch.start A w0)
 refine Go1.seq ?_
 refine Go1.region ?_
 refine GoR.op ((op_assign rfl) _) rfl rfl ?_
 refine GoR.nil ?_
 refine Go1.seq ?_
 refine Go1.seq ?_
 refine Go1.region ?_
 refine GoR.op ((op_move rfl) _) rfl rfl ?_
 refine GoR.call (op_call body19 rfl (walk_law15_small hO.lt h_a0 H)) rfl rfl ?_
 rintro v5 w2 ⟨r1, rfl, hs3, H⟩
 have hst6 := Stp.same hO hs3
 replace hO := hst6.own
 replace h_a0 := h_a0.ch hst6.ch
 replace hB := hB.trans hst6.fr
 cases r1
 ·replace H := ifn Bool.false_ne_true H
  refine GoR.op ((op_not rfl) _) rfl rfl ?_
  refine GoR.op ((op_move rfl) _) rfl rfl ?_
  refine GoR.pass rfl rfl ?_
  refine GoR.pass rfl rfl ?_
  refine GoR.pass rfl rfl ?_
  refine GoR.pass rfl rfl ?_
  refine GoR.pass rfl rfl ?_
  refine GoR.op ((op_pickT rfl rfl rfl) _) rfl rfl ?_
  refine GoR.nil ?_
  refine Go1.condT rfl rfl ?_
  refine Go1.seq ?_
  refine Go1.region ?_
  refine GoR.call (op_call body14 rfl (walk_law15_awake hO.lt H)) rfl rfl ?_
  rintro v11 w8 ⟨r7, rfl, hs9, H⟩
  have hst12 := Stp.same hO hs9
  replace hO := hst12.own
  replace h_a0 := h_a0.ch hst12.ch
  replace hB := hB.trans hst12.fr
  refine GoR.op ((op_assign rfl) _) rfl rfl ?_
  refine GoR.nil ?_
  refine Go1.ret1 Try.func10 rfl ?_
  exact ⟨r7, rfl, hB.same, H⟩
 ·replace H := ifp rfl H
  refine GoR.op ((op_not rfl) _) rfl rfl ?_
  refine GoR.op ((op_move rfl) _) rfl rfl ?_
  refine GoR.op ((op_move rfl) _) rfl rfl ?_
  refine GoR.op ((op_move rfl) _) rfl rfl ?_
  have hobt := obuild (r := Rp.int .i64) (n := 1) (parts := [(0, .int .i64 a1)]) (vs := [.int .i64 a1]) (xs := [a1]) rfl Try.underlying25 ti3 hO (by decide) (by kernel_rfl) (Els.cons rfl rfl (Els.nil _ _ _) (by simp [mx])) rfl
  obtain ⟨w13, p14, hst15, hE16, hs17, hop18⟩ := hobt
  refine GoR.op (hop18 rfl) rfl rfl ?_
  replace hO := hst15.own
  replace h_a0 := h_a0.ch hst15.ch
  replace hB := hB.trans hst15.fr
  have hobt := rowlend 0 hO rfl hE16
  obtain ⟨hl20, hn21⟩ := hobt
  have hOc22 := hO.drop 0
  refine GoR.call (op_call body20 (show ([.slice p_a0 a0.length c_a0, .slice p14 1 1] : List Value) = [.slice p_a0 a0.length c_a0, .slice p14 ([a1]).length 1] from by rw [← hn21]) (walk_ref14_In hOc22.lt (h_a0.ch (Owns.dropCh _ _ 0)) hl20 H)) rfl rfl ?_
  rintro v27 w24 ⟨r23, rfl, hs25, H⟩
  have hst28 := Stp.same hO hs25
  replace hE16 := hE16.ch hst28.ch
  replace hO := hst28.own
  replace h_a0 := h_a0.ch hst28.ch
  replace hB := hB.trans hst28.fr
  cases r23
  ·replace H := ifn Bool.false_ne_true H
   refine GoR.op ((op_not rfl) _) rfl rfl ?_
   refine GoR.op ((op_pickF rfl rfl rfl) _) rfl rfl ?_
   refine GoR.nil ?_
   refine Go1.condT rfl rfl ?_
   refine Go1.seq ?_
   refine Go1.region ?_
   refine GoR.call (op_call body14 rfl (walk_law15_awake hO.lt H)) rfl rfl ?_
   rintro v33 w30 ⟨r29, rfl, hs31, H⟩
   have hst34 := Stp.same hO hs31
   replace hE16 := hE16.ch hst34.ch
   replace hO := hst34.own
   replace h_a0 := h_a0.ch hst34.ch
   replace hB := hB.trans hst34.fr
   refine GoR.op ((op_assign rfl) _) rfl rfl ?_
   refine GoR.nil ?_
   refine Go1.ret1 Try.func10 rfl ?_
   exact ⟨r29, rfl, hB.same, H⟩
  ·replace H := ifp rfl H
   refine GoR.op ((op_not rfl) _) rfl rfl ?_
   refine GoR.op ((op_pickF rfl rfl rfl) _) rfl rfl ?_
   refine GoR.nil ?_
   refine Go1.condF rfl rfl ?_
   refine Go1.skip ?_
   refine Go1.seq ?_
   refine Go1.region ?_
   refine GoR.op ((op_move rfl) _) rfl rfl ?_
   refine GoR.call (op_call body15 rfl (walk_green_Classes hO.lt h_a0 H)) rfl rfl ?_
   rintro v39 w36 ⟨r35, p_r35_R, c_r35_R, p_r35_L, c_r35_L, p_r35_J, c_r35_J, p_r35_H, c_r35_H, p_r35_Below, c_r35_Below, rfl, hs37, h_r35_R, h_r35_L, h_r35_J, h_r35_H, h_r35_Below, H⟩
   have hst40 := Stp.same hO hs37
   replace hE16 := hE16.ch hst40.ch
   replace hO := hst40.own
   replace h_a0 := h_a0.ch hst40.ch
   replace hB := hB.trans hst40.fr
   refine GoR.op ((op_move rfl) _) rfl rfl ?_
   refine GoR.call (op_call body33 rfl (walk_green_Regular hO.lt h_a0 H)) rfl rfl ?_
   rintro v45 w42 ⟨r41, p_r41, c_r41, rfl, hs43, h_r41, H⟩
   have hst46 := Stp.same hO hs43
   replace hE16 := hE16.ch hst46.ch
   replace hO := hst46.own
   replace h_a0 := h_a0.ch hst46.ch
   replace h_r35_R := h_r35_R.ch hst46.ch
   replace h_r35_L := h_r35_L.ch hst46.ch
   replace h_r35_J := h_r35_J.ch hst46.ch
   replace h_r35_H := h_r35_H.ch hst46.ch
   replace h_r35_Below := h_r35_Below.ch hst46.ch
   replace hB := hB.trans hst46.fr
   refine GoR.op ((op_move rfl) _) rfl rfl ?_
   refine GoR.op ((op_move rfl) _) rfl rfl ?_
   refine GoR.call (op_call body34 rfl (walk_green_Inverses hO.lt h_a0 H)) rfl rfl ?_
   rintro v51 w48 ⟨r47, p_r47, c_r47, rfl, hs49, h_r47, H⟩
   have hst52 := Stp.same hO hs49
   replace hE16 := hE16.ch hst52.ch
   replace hO := hst52.own
   replace h_a0 := h_a0.ch hst52.ch
   replace h_r35_R := h_r35_R.ch hst52.ch
   replace h_r35_L := h_r35_L.ch hst52.ch
   replace h_r35_J := h_r35_J.ch hst52.ch
   replace h_r35_H := h_r35_H.ch hst52.ch
   replace h_r35_Below := h_r35_Below.ch hst52.ch
   replace h_r41 := h_r41.ch hst52.ch
   replace hB := hB.trans hst52.fr
   have hobt := oalloc (t := 28) (cs := #[.slice none 0 0, .slice none 0 0, .slice none 0 0, .slice none 0 0, .slice none 0 0]) ti28 hO rfl
   obtain ⟨w53, B54, hst55, hs56, hop57⟩ := hobt
   refine GoR.op hop57 rfl rfl ?_
   replace hE16 := hE16.ch hst55.ch
   replace hO := hst55.own
   replace h_a0 := h_a0.ch hst55.ch
   replace h_r35_R := h_r35_R.ch hst55.ch
   replace h_r35_L := h_r35_L.ch hst55.ch
   replace h_r35_J := h_r35_J.ch hst55.ch
   replace h_r35_H := h_r35_H.ch hst55.ch
   replace h_r35_Below := h_r35_Below.ch hst55.ch
   replace h_r41 := h_r41.ch hst55.ch
   replace h_r47 := h_r47.ch hst55.ch
   replace hB := hB.trans hst55.fr
   have hobt := oblkStAgg (us := [.slice p_r35_R r35.R.length c_r35_R, .slice p_r35_L r35.L.length c_r35_L, .slice p_r35_J r35.J.length c_r35_J, .slice p_r35_H r35.H.length c_r35_H, .slice p_r35_Below r35.Below.length c_r35_Below]) (o := 0) (cs' := #[.slice p_r35_R r35.R.length c_r35_R, .slice p_r35_L r35.L.length c_r35_L, .slice p_r35_J r35.J.length c_r35_J, .slice p_r35_H r35.H.length c_r35_H, .slice p_r35_Below r35.Below.length c_r35_Below]) 0 hO rfl rfl (Nat.le_of_ble_eq_true rfl) rfl
   obtain ⟨w59, hst60, hop61⟩ := hobt
   refine GoR.op (hop61 ti28 rfl rfl rfl) rfl rfl ?_
   replace hE16 := hE16.ch hst60.ch
   replace hO := hst60.own
   replace h_a0 := h_a0.ch hst60.ch
   replace h_r35_R := h_r35_R.ch hst60.ch
   replace h_r35_L := h_r35_L.ch hst60.ch
   replace h_r35_J := h_r35_J.ch hst60.ch
   replace h_r35_H := h_r35_H.ch hst60.ch
   replace h_r35_Below := h_r35_Below.ch hst60.ch
   replace h_r41 := h_r41.ch hst60.ch
   replace h_r47 := h_r47.ch hst60.ch
   replace hB := hB.trans hst60.fr
   refine GoR.op ((op_assign rfl) _) rfl rfl ?_
   refine GoR.op ((op_assign rfl) _) rfl rfl ?_
   refine GoR.nil ?_
   refine Go1.seq ?_
   refine Go1.seq ?_
   refine Go1.region ?_
   refine GoR.op ((op_fieldAddr Try.underlying28 rfl ti25 rfl (by decide)) _) rfl rfl ?_
   refine GoR.op ((oblk 0 hO rfl rfl Try.underlying25 rfl rfl) _ (Same.refl _)) rfl rfl ?_
   refine GoR.op ((op_len Try.underlying25 rfl) _) rfl rfl ?_
   replace H := H h_r35_J.bd
   refine GoR.op ((op_move rfl) _) rfl rfl ?_
   refine GoR.op ((op_len Try.underlying22 rfl) _) rfl rfl ?_
   replace H := H h_a0.bd
   by_cases h62 : (r35.J.length : Int) = (a0.length : Int)
   ·replace H := ifp h62 H
    refine GoR.op ((fun w => opB (op_neq rfl rfl w) (ndT h62)) _) rfl rfl ?_
    refine GoR.op ((op_move rfl) _) rfl rfl ?_
    refine GoR.op ((op_fieldAddr Try.underlying28 rfl ti25 rfl (by decide)) _) rfl rfl ?_
    refine GoR.op ((oblk 0 hO rfl rfl Try.underlying25 rfl rfl) _ (Same.refl _)) rfl rfl ?_
    refine GoR.op ((op_move rfl) _) rfl rfl ?_
    obtain ⟨h63, H⟩ := H
    obtain ⟨h64, H⟩ := H
    refine GoR.op ((op_index Try.underlying25 ti3 rfl rfl h63 h64 (h_r35_J.some_ h63 h64)) _) rfl rfl ?_
    refine GoR.op ((ldInt h_r35_J h63 h64 Try.underlying3 rfl rfl) _ (Same.refl _)) rfl rfl ?_
    refine GoR.op ((op_move rfl) _) rfl rfl ?_
    refine GoR.op ((op_len Try.underlying38 rfl) _) rfl rfl ?_
    replace H := H h_r41.bd
    by_cases h65 : (r41.length : Int) ≤ (ix r35.J a1)
    ·replace H := ifp h65 H
     refine GoR.op ((fun w => opB (op_geq rfl rfl w) (decide_eq_true h65)) _) rfl rfl ?_
     refine GoR.op ((op_pickF rfl rfl rfl) _) rfl rfl ?_
     refine GoR.nil ?_
     refine Go1.condT rfl rfl ?_
     refine Go1.seq ?_
     refine Go1.region ?_
     refine GoR.op ((op_assign rfl) _) rfl rfl ?_
     refine GoR.nil ?_
     refine Go1.ret1 Try.func10 rfl ?_
     exact ⟨false, rfl, hB.same, H⟩
    ·replace H := ifn h65 H
     refine GoR.op ((fun w => opB (op_geq rfl rfl w) (decide_eq_false h65)) _) rfl rfl ?_
     refine GoR.op ((op_pickF rfl rfl rfl) _) rfl rfl ?_
     refine GoR.nil ?_
     refine Go1.condF rfl rfl ?_
     refine Go1.skip ?_
     refine Go1.seq ?_
     refine Go1.region ?_
     refine GoR.op ((op_assign rfl) _) rfl rfl ?_
     refine GoR.op ((op_assign rfl) _) rfl rfl ?_
     refine GoR.nil ?_
     refine Go1.seq ?_
     refine Go1.seq ?_
     refine Go1.region ?_
     refine GoR.op ((op_move rfl) _) rfl rfl ?_
     refine GoR.call (op_call body37 rfl (walk_mult_Idempotents hO.lt h_a0 H)) rfl rfl ?_
     rintro v70 w67 ⟨r66, p_r66, c_r66, rfl, hs68, h_r66, H⟩
     have hst71 := Stp.same hO hs68
     replace hE16 := hE16.ch hst71.ch
     replace hO := hst71.own
     replace h_a0 := h_a0.ch hst71.ch
     replace h_r35_R := h_r35_R.ch hst71.ch
     replace h_r35_L := h_r35_L.ch hst71.ch
     replace h_r35_J := h_r35_J.ch hst71.ch
     replace h_r35_H := h_r35_H.ch hst71.ch
     replace h_r35_Below := h_r35_Below.ch hst71.ch
     replace h_r41 := h_r41.ch hst71.ch
     replace h_r47 := h_r47.ch hst71.ch
     replace hB := hB.trans hst71.fr
     refine GoR.op ((op_len Try.underlying25 rfl) _) rfl rfl ?_
     replace H := H h_r66.bd
     refine GoR.op ((op_move rfl) _) rfl rfl ?_
     refine GoR.nil ?_
     refine Go1.block ?_
     replace h_a0 := h_a0.ch (Owns.dropCh _ _ 1)
     replace h_r35_R := h_r35_R.ch (Owns.dropCh _ _ 1)
     replace h_r35_L := h_r35_L.ch (Owns.dropCh _ _ 1)
     replace h_r35_J := h_r35_J.ch (Owns.dropCh _ _ 1)
     replace h_r35_H := h_r35_H.ch (Owns.dropCh _ _ 1)
     replace h_r35_Below := h_r35_Below.ch (Owns.dropCh _ _ 1)
     replace h_r41 := h_r41.ch (Owns.dropCh _ _ 1)
     replace h_r47 := h_r47.ch (Owns.dropCh _ _ 1)
     replace h_r66 := h_r66.ch (Owns.dropCh _ _ 1)
     replace hB := hB.trans (Owns.dropFr _ _ 1)
     replace hO := hO.drop 1
     refine Go1.loopW (S := Nat × Nat × Nat) (fun s σ w => agrees σ [(1, .int .i64 a1), (5, .pointer (some ⟨B54, 0, none⟩)), (6, .slice p_r41 r41.length c_r41), (7, .slice p_r47 r47.length c_r47), (8, .int .i64 ((s.1) : Int)), (9, .int .i64 ((s.2.1) : Int)), (47, .slice p_r66 r66.length c_r66), (48, .int .i64 (r66.length : Int)), (49, .int .i64 ((s.2.2) : Int))] ∧ Owns w0.heap.size w [.blk B54 (.cells #[.slice p_r35_R r35.R.length c_r35_R, .slice p_r35_L r35.L.length c_r35_L, .slice p_r35_J r35.J.length c_r35_J, .slice p_r35_H r35.H.length c_r35_H, .slice p_r35_Below r35.Below.length c_r35_Below] 28 (0, 0))] A ∧ ISl (Rp.int .i64) (bl [.blk B54 (.cells #[.slice p_r35_R r35.R.length c_r35_R, .slice p_r35_L r35.L.length c_r35_L, .slice p_r35_J r35.J.length c_r35_J, .slice p_r35_H r35.H.length c_r35_H, .slice p_r35_Below r35.Below.length c_r35_Below] 28 (0, 0))] ++ A) w p_r35_R c_r35_R r35.R ∧ ISl (Rp.int .i64) (bl [.blk B54 (.cells #[.slice p_r35_R r35.R.length c_r35_R, .slice p_r35_L r35.L.length c_r35_L, .slice p_r35_J r35.J.length c_r35_J, .slice p_r35_H r35.H.length c_r35_H, .slice p_r35_Below r35.Below.length c_r35_Below] 28 (0, 0))] ++ A) w p_r35_L c_r35_L r35.L ∧ ISl (Rp.int .i64) (bl [.blk B54 (.cells #[.slice p_r35_R r35.R.length c_r35_R, .slice p_r35_L r35.L.length c_r35_L, .slice p_r35_J r35.J.length c_r35_J, .slice p_r35_H r35.H.length c_r35_H, .slice p_r35_Below r35.Below.length c_r35_Below] 28 (0, 0))] ++ A) w p_r35_J c_r35_J r35.J ∧ ISl (Rp.int .i64) (bl [.blk B54 (.cells #[.slice p_r35_R r35.R.length c_r35_R, .slice p_r35_L r35.L.length c_r35_L, .slice p_r35_J r35.J.length c_r35_J, .slice p_r35_H r35.H.length c_r35_H, .slice p_r35_Below r35.Below.length c_r35_Below] 28 (0, 0))] ++ A) w p_r35_H c_r35_H r35.H ∧ ISl (Rp.sl (Rp.bool)) (bl [.blk B54 (.cells #[.slice p_r35_R r35.R.length c_r35_R, .slice p_r35_L r35.L.length c_r35_L, .slice p_r35_J r35.J.length c_r35_J, .slice p_r35_H r35.H.length c_r35_H, .slice p_r35_Below r35.Below.length c_r35_Below] 28 (0, 0))] ++ A) w p_r35_Below c_r35_Below r35.Below ∧ ISl (Rp.bool) (bl [.blk B54 (.cells #[.slice p_r35_R r35.R.length c_r35_R, .slice p_r35_L r35.L.length c_r35_L, .slice p_r35_J r35.J.length c_r35_J, .slice p_r35_H r35.H.length c_r35_H, .slice p_r35_Below r35.Below.length c_r35_Below] 28 (0, 0))] ++ A) w p_r41 c_r41 r41 ∧ ISl (Rp.int .i64) (bl [.blk B54 (.cells #[.slice p_r35_R r35.R.length c_r35_R, .slice p_r35_L r35.L.length c_r35_L, .slice p_r35_J r35.J.length c_r35_J, .slice p_r35_H r35.H.length c_r35_H, .slice p_r35_Below r35.Below.length c_r35_Below] 28 (0, 0))] ++ A) w p_r47 c_r47 r47 ∧ ISl (Rp.int .i64) (bl [.blk B54 (.cells #[.slice p_r35_R r35.R.length c_r35_R, .slice p_r35_L r35.L.length c_r35_L, .slice p_r35_J r35.J.length c_r35_J, .slice p_r35_H r35.H.length c_r35_H, .slice p_r35_Below r35.Below.length c_r35_Below] 28 (0, 0))] ++ A) w p_r66 c_r66 r66 ∧ Fr (bl []) w0 (bl [.blk B54 (.cells #[.slice p_r35_R r35.R.length c_r35_R, .slice p_r35_L r35.L.length c_r35_L, .slice p_r35_J r35.J.length c_r35_J, .slice p_r35_H r35.H.length c_r35_H, .slice p_r35_Below r35.Below.length c_r35_Below] 28 (0, 0))]) w) H ⟨⟨rfl, rfl, rfl, rfl, rfl, rfl, rfl, rfl, rfl, trivial⟩, hO, h_r35_R, h_r35_L, h_r35_J, h_r35_H, h_r35_Below, h_r41, h_r47, h_r66, hB⟩ ?_
     rintro X1 ⟨k1_73, k1_74, k1_75⟩ H hX1 σ w72 ⟨hag, hO, h_r35_R, h_r35_L, h_r35_J, h_r35_H, h_r35_Below, h_r41, h_r47, h_r66, hB⟩
     dsimp only at H
     refine Go1.keep [(1, .int .i64 a1), (5, .pointer (some ⟨B54, 0, none⟩)), (6, .slice p_r41 r41.length c_r41), (7, .slice p_r47 r47.length c_r47), (8, .int .i64 (k1_73 : Int)), (9, .int .i64 (k1_74 : Int)), (47, .slice p_r66 r66.length c_r66), (48, .int .i64 (r66.length : Int)), (49, .int .i64 (k1_75 : Int))] hag ?_
     refine Go1.seq ?_
     refine Go1.region ?_
     by_cases h76 : (k1_75 : Int) < (r66.length : Int)
     ·replace H := ifp h76 H
      refine GoR.op ((fun w => opB (op_lss rfl rfl w) (decide_eq_true h76)) _) rfl rfl ?_
      refine GoR.nil ?_
      refine Go1.seq ?_
      refine Go1.condT rfl rfl ?_
      refine Go1.skip ?_
      refine Go1.seq ?_
      refine Go1.block ?_
      refine Go1.seq ?_
      refine Go1.region ?_
      obtain ⟨h77, H⟩ := H
      obtain ⟨h78, H⟩ := H
      refine GoR.op ((op_index Try.underlying25 ti3 rfl rfl h77 h78 (h_r66.some_ h77 h78)) _) rfl rfl ?_
      refine GoR.op ((ldInt h_r66 h77 h78 Try.underlying3 rfl rfl) _ (Same.refl _)) rfl rfl ?_
      refine GoR.op ((op_assign rfl) _) rfl rfl ?_
      refine GoR.nil ?_
      refine Go1.seq ?_
      refine Go1.seq ?_
      refine Go1.drawS 0 [(0, .pure), (1, .stable), (2, .pure), (3, .pure), (4, .stable), (5, .pure), (6, .stable), (7, .pure), (8, .pure), (9, .stable), (10, .pure)] mixed (by kernel_rfl) ?_
      intro w79 hs80
      have hst81 := Stp.same hO hs80
      replace hO := hst81.own
      replace h_r35_R := h_r35_R.ch hst81.ch
      replace h_r35_L := h_r35_L.ch hst81.ch
      replace h_r35_J := h_r35_J.ch hst81.ch
      replace h_r35_H := h_r35_H.ch hst81.ch
      replace h_r35_Below := h_r35_Below.ch hst81.ch
      replace h_r41 := h_r41.ch hst81.ch
      replace h_r47 := h_r47.ch hst81.ch
      replace h_r66 := h_r66.ch hst81.ch
      replace hB := hB.trans hst81.fr
      refine GoQ.pure rfl (op_fieldAddr Try.underlying28 rfl ti25 rfl (by decide)) rfl rfl ?_
      refine GoQ.stable rfl (oblk 0 hO rfl rfl Try.underlying25 rfl rfl) rfl rfl ?_
      refine GoQ.pure rfl (op_move rfl) rfl rfl ?_
      obtain ⟨h82, H⟩ := H
      obtain ⟨h83, H⟩ := H
      refine GoQ.pure rfl (op_index Try.underlying25 ti3 rfl rfl h82 h83 (h_r35_L.some_ h82 h83)) rfl rfl ?_
      refine GoQ.stable rfl (ldInt h_r35_L h82 h83 Try.underlying3 rfl rfl) rfl rfl ?_
      refine GoQ.pure rfl (op_fieldAddr Try.underlying28 rfl ti25 rfl (by decide)) rfl rfl ?_
      refine GoQ.stable rfl (oblk 0 hO rfl rfl Try.underlying25 rfl rfl) rfl rfl ?_
      refine GoQ.pure rfl (op_move rfl) rfl rfl ?_
      obtain ⟨h84, H⟩ := H
      obtain ⟨h85, H⟩ := H
      refine GoQ.pure rfl (op_index Try.underlying25 ti3 rfl rfl h84 h85 (h_r35_L.some_ h84 h85)) rfl rfl ?_
      refine GoQ.stable rfl (ldInt h_r35_L h84 h85 Try.underlying3 rfl rfl) rfl rfl ?_
      by_cases h86 : (ix r35.L (ix r66 (k1_75 : Int))) = (ix r35.L a1)
      ·replace H := ifp h86 H
       refine GoQ.pure rfl (fun w => opB (op_eql rfl rfl w) (decide_eq_true h86)) rfl rfl ?_
       refine GoQ.nil ?_
       refine Go1.condT rfl rfl ?_
       refine Go1.region ?_
       refine GoR.op ((op_move rfl) _) rfl rfl ?_
       obtain ⟨h87, H⟩ := H
       refine GoR.op ((op_add rfl rfl (wrap_i64 h87)) _) rfl rfl ?_
       refine GoR.op ((op_assign rfl) _) rfl rfl ?_
       refine GoR.nil ?_
       refine Go1.seq ?_
       refine Go1.drawS 0 [(0, .pure), (1, .stable), (2, .pure), (3, .pure), (4, .stable), (5, .pure), (6, .stable), (7, .pure), (8, .pure), (9, .stable), (10, .pure)] mixed (by kernel_rfl) ?_
       intro w88 hs89
       have hst90 := Stp.same hO hs89
       replace hO := hst90.own
       replace h_r35_R := h_r35_R.ch hst90.ch
       replace h_r35_L := h_r35_L.ch hst90.ch
       replace h_r35_J := h_r35_J.ch hst90.ch
       replace h_r35_H := h_r35_H.ch hst90.ch
       replace h_r35_Below := h_r35_Below.ch hst90.ch
       replace h_r41 := h_r41.ch hst90.ch
       replace h_r47 := h_r47.ch hst90.ch
       replace h_r66 := h_r66.ch hst90.ch
       replace hB := hB.trans hst90.fr
       refine GoQ.pure rfl (op_fieldAddr Try.underlying28 rfl ti25 rfl (by decide)) rfl rfl ?_
       refine GoQ.stable rfl (oblk 0 hO rfl rfl Try.underlying25 rfl rfl) rfl rfl ?_
       refine GoQ.pure rfl (op_move rfl) rfl rfl ?_
       obtain ⟨h91, H⟩ := H
       obtain ⟨h92, H⟩ := H
       refine GoQ.pure rfl (op_index Try.underlying25 ti3 rfl rfl h91 h92 (h_r35_R.some_ h91 h92)) rfl rfl ?_
       refine GoQ.stable rfl (ldInt h_r35_R h91 h92 Try.underlying3 rfl rfl) rfl rfl ?_
       refine GoQ.pure rfl (op_fieldAddr Try.underlying28 rfl ti25 rfl (by decide)) rfl rfl ?_
       refine GoQ.stable rfl (oblk 0 hO rfl rfl Try.underlying25 rfl rfl) rfl rfl ?_
       refine GoQ.pure rfl (op_move rfl) rfl rfl ?_
       obtain ⟨h93, H⟩ := H
       obtain ⟨h94, H⟩ := H
       refine GoQ.pure rfl (op_index Try.underlying25 ti3 rfl rfl h93 h94 (h_r35_R.some_ h93 h94)) rfl rfl ?_
       refine GoQ.stable rfl (ldInt h_r35_R h93 h94 Try.underlying3 rfl rfl) rfl rfl ?_
       by_cases h95 : (ix r35.R (ix r66 (k1_75 : Int))) = (ix r35.R a1)
       ·replace H := ifp h95 H
        refine GoQ.pure rfl (fun w => opB (op_eql rfl rfl w) (decide_eq_true h95)) rfl rfl ?_
        refine GoQ.nil ?_
        refine Go1.condT rfl rfl ?_
        refine Go1.region ?_
        refine GoR.op ((op_move rfl) _) rfl rfl ?_
        obtain ⟨h96, H⟩ := H
        refine GoR.op ((op_add rfl rfl (wrap_i64 h96)) _) rfl rfl ?_
        refine GoR.op ((op_assign rfl) _) rfl rfl ?_
        refine GoR.nil ?_
        refine Go1.inBlock ?_
        refine Go1.region ?_
        refine GoR.op ((op_add rfl rfl (wrap_i64 (natbd h76 h_r66.bd))) _) rfl rfl ?_
        refine GoR.op ((op_move rfl) _) rfl rfl ?_
        refine GoR.nil ?_
        exact hX1 _ H _ _ ⟨⟨rfl, rfl, rfl, rfl, rfl, rfl, rfl, rfl, rfl, trivial⟩, hO, h_r35_R, h_r35_L, h_r35_J, h_r35_H, h_r35_Below, h_r41, h_r47, h_r66, hB⟩
       ·replace H := ifn h95 H
        refine GoQ.pure rfl (fun w => opB (op_eql rfl rfl w) (decide_eq_false h95)) rfl rfl ?_
        refine GoQ.nil ?_
        refine Go1.condF rfl rfl ?_
        refine Go1.skip ?_
        refine Go1.inBlock ?_
        refine Go1.region ?_
        refine GoR.op ((op_add rfl rfl (wrap_i64 (natbd h76 h_r66.bd))) _) rfl rfl ?_
        refine GoR.op ((op_move rfl) _) rfl rfl ?_
        refine GoR.nil ?_
        exact hX1 _ H _ _ ⟨⟨rfl, rfl, rfl, rfl, rfl, rfl, rfl, rfl, rfl, trivial⟩, hO, h_r35_R, h_r35_L, h_r35_J, h_r35_H, h_r35_Below, h_r41, h_r47, h_r66, hB⟩
      ·replace H := ifn h86 H
       refine GoQ.pure rfl (fun w => opB (op_eql rfl rfl w) (decide_eq_false h86)) rfl rfl ?_
       refine GoQ.nil ?_
       refine Go1.condF rfl rfl ?_
       refine Go1.skip ?_
       refine Go1.seq ?_
       refine Go1.drawS 0 [(0, .pure), (1, .stable), (2, .pure), (3, .pure), (4, .stable), (5, .pure), (6, .stable), (7, .pure), (8, .pure), (9, .stable), (10, .pure)] mixed (by kernel_rfl) ?_
       intro w97 hs98
       have hst99 := Stp.same hO hs98
       replace hO := hst99.own
       replace h_r35_R := h_r35_R.ch hst99.ch
       replace h_r35_L := h_r35_L.ch hst99.ch
       replace h_r35_J := h_r35_J.ch hst99.ch
       replace h_r35_H := h_r35_H.ch hst99.ch
       replace h_r35_Below := h_r35_Below.ch hst99.ch
       replace h_r41 := h_r41.ch hst99.ch
       replace h_r47 := h_r47.ch hst99.ch
       replace h_r66 := h_r66.ch hst99.ch
       replace hB := hB.trans hst99.fr
       refine GoQ.pure rfl (op_fieldAddr Try.underlying28 rfl ti25 rfl (by decide)) rfl rfl ?_
       refine GoQ.stable rfl (oblk 0 hO rfl rfl Try.underlying25 rfl rfl) rfl rfl ?_
       refine GoQ.pure rfl (op_move rfl) rfl rfl ?_
       obtain ⟨h100, H⟩ := H
       obtain ⟨h101, H⟩ := H
       refine GoQ.pure rfl (op_index Try.underlying25 ti3 rfl rfl h100 h101 (h_r35_R.some_ h100 h101)) rfl rfl ?_
       refine GoQ.stable rfl (ldInt h_r35_R h100 h101 Try.underlying3 rfl rfl) rfl rfl ?_
       refine GoQ.pure rfl (op_fieldAddr Try.underlying28 rfl ti25 rfl (by decide)) rfl rfl ?_
       refine GoQ.stable rfl (oblk 0 hO rfl rfl Try.underlying25 rfl rfl) rfl rfl ?_
       refine GoQ.pure rfl (op_move rfl) rfl rfl ?_
       obtain ⟨h102, H⟩ := H
       obtain ⟨h103, H⟩ := H
       refine GoQ.pure rfl (op_index Try.underlying25 ti3 rfl rfl h102 h103 (h_r35_R.some_ h102 h103)) rfl rfl ?_
       refine GoQ.stable rfl (ldInt h_r35_R h102 h103 Try.underlying3 rfl rfl) rfl rfl ?_
       by_cases h104 : (ix r35.R (ix r66 (k1_75 : Int))) = (ix r35.R a1)
       ·replace H := ifp h104 H
        refine GoQ.pure rfl (fun w => opB (op_eql rfl rfl w) (decide_eq_true h104)) rfl rfl ?_
        refine GoQ.nil ?_
        refine Go1.condT rfl rfl ?_
        refine Go1.region ?_
        refine GoR.op ((op_move rfl) _) rfl rfl ?_
        obtain ⟨h105, H⟩ := H
        refine GoR.op ((op_add rfl rfl (wrap_i64 h105)) _) rfl rfl ?_
        refine GoR.op ((op_assign rfl) _) rfl rfl ?_
        refine GoR.nil ?_
        refine Go1.inBlock ?_
        refine Go1.region ?_
        refine GoR.op ((op_add rfl rfl (wrap_i64 (natbd h76 h_r66.bd))) _) rfl rfl ?_
        refine GoR.op ((op_move rfl) _) rfl rfl ?_
        refine GoR.nil ?_
        exact hX1 _ H _ _ ⟨⟨rfl, rfl, rfl, rfl, rfl, rfl, rfl, rfl, rfl, trivial⟩, hO, h_r35_R, h_r35_L, h_r35_J, h_r35_H, h_r35_Below, h_r41, h_r47, h_r66, hB⟩
       ·replace H := ifn h104 H
        refine GoQ.pure rfl (fun w => opB (op_eql rfl rfl w) (decide_eq_false h104)) rfl rfl ?_
        refine GoQ.nil ?_
        refine Go1.condF rfl rfl ?_
        refine Go1.skip ?_
        refine Go1.inBlock ?_
        refine Go1.region ?_
        refine GoR.op ((op_add rfl rfl (wrap_i64 (natbd h76 h_r66.bd))) _) rfl rfl ?_
        refine GoR.op ((op_move rfl) _) rfl rfl ?_
        refine GoR.nil ?_
        exact hX1 _ H _ _ ⟨⟨rfl, rfl, rfl, rfl, rfl, rfl, rfl, rfl, rfl, trivial⟩, hO, h_r35_R, h_r35_L, h_r35_J, h_r35_H, h_r35_Below, h_r41, h_r47, h_r66, hB⟩
     ·replace H := ifn h76 H
      refine GoR.op ((fun w => opB (op_lss rfl rfl w) (decide_eq_false h76)) _) rfl rfl ?_
      refine GoR.nil ?_
      refine Go1.seq ?_
      refine Go1.condF rfl rfl ?_
      refine Go1.exit rfl ?_
      refine Go1.seq ?_
      refine Go1.region ?_
      refine GoR.op ((op_move rfl) _) rfl rfl ?_
      refine GoR.op ((op_len Try.underlying25 rfl) _) rfl rfl ?_
      replace H := H h_r47.bd
      refine GoR.op ((op_move rfl) _) rfl rfl ?_
      refine GoR.op ((op_move rfl) _) rfl rfl ?_
      obtain ⟨h106, H⟩ := H
      refine GoR.op ((op_mul rfl rfl (wrap_i64 h106)) _) rfl rfl ?_
      by_cases h107 : (r47.length : Int) = ((k1_73 : Int) * (k1_74 : Int))
      ·replace H := ifp h107 H
       refine GoR.op ((fun w => opB (op_eql rfl rfl w) (decide_eq_true h107)) _) rfl rfl ?_
       refine GoR.op ((op_move rfl) _) rfl rfl ?_
       refine GoR.op ((op_move rfl) _) rfl rfl ?_
       refine GoR.op ((op_len Try.underlying25 rfl) _) rfl rfl ?_
       by_cases h108 : (0 : Int) < (r47.length : Int)
       ·replace H := ifp h108 H
        refine GoR.op ((fun w => opB (op_gtr rfl rfl w) (decide_eq_true h108)) _) rfl rfl ?_
        refine GoR.op ((op_move rfl) _) rfl rfl ?_
        refine GoR.op ((op_fieldAddr Try.underlying28 rfl ti25 rfl (by decide)) _) rfl rfl ?_
        refine GoR.op ((oblk 0 hO rfl rfl Try.underlying25 rfl rfl) _ (Same.refl _)) rfl rfl ?_
        refine GoR.op ((op_move rfl) _) rfl rfl ?_
        obtain ⟨h109, H⟩ := H
        obtain ⟨h110, H⟩ := H
        refine GoR.op ((op_index Try.underlying25 ti3 rfl rfl h109 h110 (h_r35_J.some_ h109 h110)) _) rfl rfl ?_
        refine GoR.op ((ldInt h_r35_J h109 h110 Try.underlying3 rfl rfl) _ (Same.refl _)) rfl rfl ?_
        obtain ⟨h111, H⟩ := H
        obtain ⟨h112, H⟩ := H
        refine GoR.op ((op_index Try.underlying38 ti4 rfl rfl h111 h112 (h_r41.some_ h111 h112)) _) rfl rfl ?_
        by_cases h113 : ix r41 (ix r35.J a1) = true
        ·replace H := ifp h113 H
         refine GoR.op (opB ((ldBool h_r41 h111 h112 Try.underlying4 rfl rfl) _ (Same.refl _)) (h113)) rfl rfl ?_
         refine GoR.op ((op_eqlB Try.underlying4 rfl rfl) _) rfl rfl ?_
         refine GoR.op ((op_pickT rfl rfl rfl) _) rfl rfl ?_
         refine GoR.op ((op_move rfl) _) rfl rfl ?_
         refine GoR.call (op_call body14 rfl (walk_law15_awake hO.lt H)) rfl rfl ?_
         rintro v118 w115 ⟨r114, rfl, hs116, H⟩
         have hst119 := Stp.same hO hs116
         replace hO := hst119.own
         replace h_r35_R := h_r35_R.ch hst119.ch
         replace h_r35_L := h_r35_L.ch hst119.ch
         replace h_r35_J := h_r35_J.ch hst119.ch
         replace h_r35_H := h_r35_H.ch hst119.ch
         replace h_r35_Below := h_r35_Below.ch hst119.ch
         replace h_r41 := h_r41.ch hst119.ch
         replace h_r47 := h_r47.ch hst119.ch
         replace h_r66 := h_r66.ch hst119.ch
         replace hB := hB.trans hst119.fr
         refine GoR.op ((op_pickT rfl rfl rfl) _) rfl rfl ?_
         refine GoR.op ((op_assign rfl) _) rfl rfl ?_
         refine GoR.nil ?_
         refine Go1.ret1 Try.func10 rfl ?_
         exact ⟨r114, rfl, hB.same, H⟩
        ·replace H := ifn h113 H
         refine GoR.op (opB ((ldBool h_r41 h111 h112 Try.underlying4 rfl rfl) _ (Same.refl _)) (Bool.eq_false_iff.2 h113)) rfl rfl ?_
         refine GoR.op ((op_eqlB Try.underlying4 rfl rfl) _) rfl rfl ?_
         refine GoR.op ((op_pickT rfl rfl rfl) _) rfl rfl ?_
         refine GoR.op ((op_move rfl) _) rfl rfl ?_
         refine GoR.pass rfl rfl ?_
         refine GoR.op ((op_pickF rfl rfl rfl) _) rfl rfl ?_
         refine GoR.op ((op_assign rfl) _) rfl rfl ?_
         refine GoR.nil ?_
         refine Go1.ret1 Try.func10 rfl ?_
         exact ⟨false, rfl, hB.same, H⟩
       ·replace H := ifn h108 H
        refine GoR.op ((fun w => opB (op_gtr rfl rfl w) (decide_eq_false h108)) _) rfl rfl ?_
        refine GoR.op ((op_move rfl) _) rfl rfl ?_
        refine GoR.op ((op_fieldAddr Try.underlying28 rfl ti25 rfl (by decide)) _) rfl rfl ?_
        refine GoR.op ((oblk 0 hO rfl rfl Try.underlying25 rfl rfl) _ (Same.refl _)) rfl rfl ?_
        refine GoR.op ((op_move rfl) _) rfl rfl ?_
        obtain ⟨h120, H⟩ := H
        obtain ⟨h121, H⟩ := H
        refine GoR.op ((op_index Try.underlying25 ti3 rfl rfl h120 h121 (h_r35_J.some_ h120 h121)) _) rfl rfl ?_
        refine GoR.op ((ldInt h_r35_J h120 h121 Try.underlying3 rfl rfl) _ (Same.refl _)) rfl rfl ?_
        obtain ⟨h122, H⟩ := H
        obtain ⟨h123, H⟩ := H
        refine GoR.op ((op_index Try.underlying38 ti4 rfl rfl h122 h123 (h_r41.some_ h122 h123)) _) rfl rfl ?_
        by_cases h124 : ix r41 (ix r35.J a1) = true
        ·replace H := ifp h124 H
         refine GoR.op (opB ((ldBool h_r41 h122 h123 Try.underlying4 rfl rfl) _ (Same.refl _)) (h124)) rfl rfl ?_
         refine GoR.op ((op_eqlB Try.underlying4 rfl rfl) _) rfl rfl ?_
         refine GoR.op ((op_pickT rfl rfl rfl) _) rfl rfl ?_
         refine GoR.op ((op_move rfl) _) rfl rfl ?_
         refine GoR.pass rfl rfl ?_
         refine GoR.op ((op_pickF rfl rfl rfl) _) rfl rfl ?_
         refine GoR.op ((op_assign rfl) _) rfl rfl ?_
         refine GoR.nil ?_
         refine Go1.ret1 Try.func10 rfl ?_
         exact ⟨false, rfl, hB.same, H⟩
        ·replace H := ifn h124 H
         refine GoR.op (opB ((ldBool h_r41 h122 h123 Try.underlying4 rfl rfl) _ (Same.refl _)) (Bool.eq_false_iff.2 h124)) rfl rfl ?_
         refine GoR.op ((op_eqlB Try.underlying4 rfl rfl) _) rfl rfl ?_
         refine GoR.op ((op_pickT rfl rfl rfl) _) rfl rfl ?_
         refine GoR.op ((op_move rfl) _) rfl rfl ?_
         refine GoR.call (op_call body14 rfl (walk_law15_awake hO.lt H)) rfl rfl ?_
         rintro v129 w126 ⟨r125, rfl, hs127, H⟩
         have hst130 := Stp.same hO hs127
         replace hO := hst130.own
         replace h_r35_R := h_r35_R.ch hst130.ch
         replace h_r35_L := h_r35_L.ch hst130.ch
         replace h_r35_J := h_r35_J.ch hst130.ch
         replace h_r35_H := h_r35_H.ch hst130.ch
         replace h_r35_Below := h_r35_Below.ch hst130.ch
         replace h_r41 := h_r41.ch hst130.ch
         replace h_r47 := h_r47.ch hst130.ch
         replace h_r66 := h_r66.ch hst130.ch
         replace hB := hB.trans hst130.fr
         refine GoR.op ((op_pickT rfl rfl rfl) _) rfl rfl ?_
         refine GoR.op ((op_assign rfl) _) rfl rfl ?_
         refine GoR.nil ?_
         refine Go1.ret1 Try.func10 rfl ?_
         exact ⟨r125, rfl, hB.same, H⟩
      ·replace H := ifn h107 H
       refine GoR.op ((fun w => opB (op_eql rfl rfl w) (decide_eq_false h107)) _) rfl rfl ?_
       refine GoR.op ((op_move rfl) _) rfl rfl ?_
       refine GoR.pass rfl rfl ?_
       refine GoR.pass rfl rfl ?_
       refine GoR.pass rfl rfl ?_
       refine GoR.pass rfl rfl ?_
       refine GoR.pass rfl rfl ?_
       refine GoR.pass rfl rfl ?_
       refine GoR.pass rfl rfl ?_
       refine GoR.pass rfl rfl ?_
       refine GoR.pass rfl rfl ?_
       refine GoR.pass rfl rfl ?_
       refine GoR.pass rfl rfl ?_
       refine GoR.pass rfl rfl ?_
       refine GoR.op ((op_pickF rfl rfl rfl) _) rfl rfl ?_
       refine GoR.op ((op_move rfl) _) rfl rfl ?_
       refine GoR.pass rfl rfl ?_
       refine GoR.op ((op_pickF rfl rfl rfl) _) rfl rfl ?_
       refine GoR.op ((op_assign rfl) _) rfl rfl ?_
       refine GoR.nil ?_
       refine Go1.ret1 Try.func10 rfl ?_
       exact ⟨false, rfl, hB.same, H⟩
   ·replace H := ifn h62 H
    refine GoR.op ((fun w => opB (op_neq rfl rfl w) (ndF h62)) _) rfl rfl ?_
    refine GoR.op ((op_move rfl) _) rfl rfl ?_
    refine GoR.pass rfl rfl ?_
    refine GoR.pass rfl rfl ?_
    refine GoR.pass rfl rfl ?_
    refine GoR.pass rfl rfl ?_
    refine GoR.pass rfl rfl ?_
    refine GoR.pass rfl rfl ?_
    refine GoR.pass rfl rfl ?_
    refine GoR.pass rfl rfl ?_
    refine GoR.op ((op_pickT rfl rfl rfl) _) rfl rfl ?_
    refine GoR.nil ?_
    refine Go1.condT rfl rfl ?_
    refine Go1.seq ?_
    refine Go1.region ?_
    refine GoR.op ((op_assign rfl) _) rfl rfl ?_
    refine GoR.nil ?_
    refine Go1.ret1 Try.func10 rfl ?_
    exact ⟨false, rfl, hB.same, H⟩
end Sg
