/- The walks: each call keeps to its plain transformer. Printed by walkgen.py. -/
import Derived.Test.YtolobiljalelgaaWMultLimits
namespace Sg
open Go Go.RowKit Go.Proofs
set_option linter.unusedVariables false
set_option maxRecDepth 100000
set_option maxHeartbeats 4000000
theorem body77 : Body Try.prog 77 := ⟨Try.f77, Try.func77, rfl, by kernel_rfl⟩
theorem body90 : Body Try.prog 90 := ⟨Try.f90, Try.func90, rfl, by kernel_rfl⟩
theorem body89 : Body Try.prog 89 := ⟨Try.f89, Try.func89, rfl, by kernel_rfl⟩
theorem body76 : Body Try.prog 76 := ⟨Try.f76, Try.func76, rfl, by kernel_rfl⟩
theorem body37 : Body Try.prog 37 := ⟨Try.f37, Try.func37, rfl, by kernel_rfl⟩
theorem walk_mult_Idempotents {A : List Nat} {w0 : World} {p_t : Option Addr} {c_t : Nat} {t : List (List Int)} (hA : ∀ b ∈ A, b < w0.heap.size) (h_t : ISl (Rp.sl (Rp.int .i64)) A w0 p_t c_t t) {K : List Int → Prop} (H : mult_Idempotents t K) :
    CallsV Try.prog 37 #[.slice p_t t.length c_t] w0 (fun v w' => ∃ (r0 : List Int), ∃ (p_r0 : Option Addr), ∃ (c_r0 : Nat), v = .slice p_r0 r0.length c_r0 ∧ Same w0 w' ∧ ISl (Rp.int .i64) A w' p_r0 c_r0 r0 ∧ K r0) := by
 refine CallsV.of (l := [.slice p_t t.length c_t]) Try.func37 rfl Try.ntmps37 rfl ?_
 have hO := Owns.start hA
 have hB := Fr.refl (bl []) w0
 unfold mult_Idempotents at H
 replace h_t := h_t.ch (Ch.start A w0)
 refine Go1.seq ?_
 refine Go1.region ?_
 have hobt := obox (t := 22) (v := .slice p_t t.length c_t) (cs := #[.slice p_t t.length c_t]) hO rfl
 obtain ⟨w1, B2, hst3, hs4, hop5⟩ := hobt
 refine GoR.op (hop5 rfl) rfl rfl ?_
 replace hO := hst3.own
 replace h_t := h_t.ch hst3.ch
 replace hB := hB.trans hst3.fr
 refine GoR.op ((op_assign rfl) _) rfl rfl ?_
 refine GoR.nil ?_
 refine Go1.seq ?_
 refine Go1.region ?_
 refine GoR.op ((oblk 0 hO rfl rfl Try.underlying22 rfl rfl) _ (Same.refl _)) rfl rfl ?_
 refine GoR.op ((op_makeFunc (vs := [.pointer (some ⟨B2, 0, none⟩)]) rfl) _) rfl rfl ?_
 refine GoR.inl (vs := [.slice p_t t.length c_t, .func (.func 77) #[] #[.pointer (some ⟨B2, 0, none⟩)]]) (caps := []) rfl rfl body76 Try.func76 rfl Try.ntmps76 rfl rfl rfl ?_
 intro RhR7 hR7
 refine Go1.seq ?_
 refine Go1.region ?_
 have hobt := obox (t := 60) (v := .func (.func 77) #[] #[.pointer (some ⟨B2, 0, none⟩)]) (cs := #[.func (.func 77) #[] #[.pointer (some ⟨B2, 0, none⟩)]]) hO rfl
 obtain ⟨w8, B9, hst10, hs11, hop12⟩ := hobt
 refine GoR.op (hop12 rfl) rfl rfl ?_
 replace hO := hst10.own
 replace h_t := h_t.ch hst10.ch
 replace hB := hB.trans hst10.fr
 refine GoR.op ((op_assign rfl) _) rfl rfl ?_
 refine GoR.nil ?_
 refine Go1.seq ?_
 refine Go1.seq ?_
 refine Go1.region ?_
 refine GoR.op ((op_move rfl) _) rfl rfl ?_
 refine GoR.call (op_call body71 rfl (walk_mult_valid hO.lt h_t H)) rfl rfl ?_
 rintro v18 w15 ⟨r14, rfl, hs16, H⟩
 have hst19 := Stp.same hO hs16
 replace hO := hst19.own
 replace h_t := h_t.ch hst19.ch
 replace hB := hB.trans hst19.fr
 cases r14
 ·replace H := ifn Bool.false_ne_true H
  refine GoR.op ((op_not rfl) _) rfl rfl ?_
  refine GoR.nil ?_
  refine Go1.condT rfl rfl ?_
  refine Go1.seq ?_
  refine Go1.region ?_
  refine GoR.op ((op_assign rfl) _) rfl rfl ?_
  refine GoR.nil ?_
  refine Go1.ret1V Try.func76 rfl (show _ = .slice none 0 0 from rfl) ?_
  refine hR7 _ _ ?_
  refine GoR.op ((op_assign rfl) _) rfl rfl ?_
  refine GoR.nil ?_
  refine Go1.ret1 Try.func37 rfl ?_
  exact ⟨([] : List Int), none, 0, rfl, hB.same, (ISl.null _ _ _), H⟩
 ·replace H := ifp rfl H
  refine GoR.op ((op_not rfl) _) rfl rfl ?_
  refine GoR.nil ?_
  refine Go1.condF rfl rfl ?_
  refine Go1.skip ?_
  refine Go1.seq ?_
  refine Go1.region ?_
  refine GoR.op ((op_move rfl) _) rfl rfl ?_
  refine GoR.call (op_call body73 rfl (walk_mult_elements hO.lt h_t H)) rfl rfl ?_
  rintro v25 w22 ⟨r20, n_r20, p_r20, c_r20, vs_r20, rfl, hs23, hN24, hE21, H⟩
  have hst26 := Stp.more hO hs23 hN24
  replace hO := hst26.own
  replace h_t := h_t.ch hst26.ch
  replace hB := hB.trans hst26.fr
  replace hE21 := hE21.ch (Ch.assoc _ _ _ _)
  refine GoR.op ((op_makeFunc (vs := [.pointer (some ⟨B9, 0, none⟩)]) rfl) _) rfl rfl ?_
  refine GoR.inl (vs := [.slice p_r20 n_r20 c_r20, .func (.func 90) #[] #[.pointer (some ⟨B9, 0, none⟩)]]) (caps := []) rfl rfl body89 Try.func89 rfl Try.ntmps89 rfl rfl rfl ?_
  intro RhR28 hR28
  refine Go1.seq ?_
  refine Go1.region ?_
  refine GoR.op ((op_assign rfl) _) rfl rfl ?_
  refine GoR.nil ?_
  refine Go1.seq ?_
  refine Go1.region ?_
  refine GoR.op ((op_move rfl) _) rfl rfl ?_
  refine GoR.op ((op_move rfl) _) rfl rfl ?_
  refine GoR.inl (vs := [.slice p_r20 n_r20 c_r20, .func (.func 90) #[] #[.pointer (some ⟨B9, 0, none⟩)]]) (caps := []) rfl rfl body72 Try.func72 rfl Try.ntmps72 rfl rfl rfl ?_
  intro RhR29 hR29
  refine Go1.seq ?_
  refine Go1.region ?_
  refine GoR.op ((op_assign rfl) _) rfl rfl ?_
  refine GoR.nil ?_
  refine Go1.seq ?_
  refine Go1.seq ?_
  refine Go1.region ?_
  refine GoR.op ((op_move rfl) _) rfl rfl ?_
  refine GoR.op ((op_lenN Try.underlying23 rfl (hE21.neq hO 0 rfl)) _) rfl rfl ?_
  refine GoR.op ((op_move rfl) _) rfl rfl ?_
  refine GoR.nil ?_
  refine Go1.block ?_
  refine Go1.loopW (S := Nat) (fun s σ w => agrees σ [(0, .slice p_r20 n_r20 c_r20), (1, .func (.func 90) #[] #[.pointer (some ⟨B9, 0, none⟩)]), (7, .int .i64 (r20.length : Int)), (8, .int .i64 (s : Int))] ∧ Owns w0.heap.size w [.row 3 1 p_r20 n_r20 c_r20 vs_r20, .blk B9 (.cells #[.func (.func 77) #[] #[.pointer (some ⟨B2, 0, none⟩)]] 60 (0, 0)), .blk B2 (.cells #[.slice p_t t.length c_t] 22 (0, 0))] A ∧ Els (Rp.int .i64) (bl [.row 3 1 p_r20 n_r20 c_r20 vs_r20, .blk B9 (.cells #[.func (.func 77) #[] #[.pointer (some ⟨B2, 0, none⟩)]] 60 (0, 0)), .blk B2 (.cells #[.slice p_t t.length c_t] 22 (0, 0))] ++ A) w vs_r20 r20 ∧ ISl (Rp.sl (Rp.int .i64)) (bl [.row 3 1 p_r20 n_r20 c_r20 vs_r20, .blk B9 (.cells #[.func (.func 77) #[] #[.pointer (some ⟨B2, 0, none⟩)]] 60 (0, 0)), .blk B2 (.cells #[.slice p_t t.length c_t] 22 (0, 0))] ++ A) w p_t c_t t ∧ Fr (bl []) w0 (bl [.row 3 1 p_r20 n_r20 c_r20 vs_r20, .blk B9 (.cells #[.func (.func 77) #[] #[.pointer (some ⟨B2, 0, none⟩)]] 60 (0, 0)), .blk B2 (.cells #[.slice p_t t.length c_t] 22 (0, 0))]) w) H ⟨⟨rfl, rfl, rfl, rfl, trivial⟩, hO, hE21, h_t, hB⟩ ?_
  rintro X1 k1_31 H hX1 σ w30 ⟨hag, hO, hE21, h_t, hB⟩
  refine Go1.keep [(0, .slice p_r20 n_r20 c_r20), (1, .func (.func 90) #[] #[.pointer (some ⟨B9, 0, none⟩)]), (7, .int .i64 (r20.length : Int)), (8, .int .i64 (k1_31 : Int))] hag ?_
  refine Go1.seq ?_
  refine Go1.region ?_
  by_cases h32 : (k1_31 : Int) < (r20.length : Int)
  ·replace H := ifp h32 H
   refine GoR.op ((fun w => opB (op_lss rfl rfl w) (decide_eq_true h32)) _) rfl rfl ?_
   refine GoR.nil ?_
   refine Go1.seq ?_
   refine Go1.condT rfl rfl ?_
   refine Go1.skip ?_
   refine Go1.seq ?_
   refine Go1.block ?_
   refine Go1.seq ?_
   refine Go1.region ?_
   refine GoR.op ((op_move rfl) _) rfl rfl ?_
   refine GoR.op ((op_assign rfl) _) rfl rfl ?_
   refine GoR.nil ?_
   refine Go1.seq ?_
   refine Go1.region ?_
   refine GoR.op ((op_move rfl) _) rfl rfl ?_
   refine GoR.op ((op_move rfl) _) rfl rfl ?_
   refine GoR.op ((op_move rfl) _) rfl rfl ?_
   obtain ⟨h33, H⟩ := H
   obtain ⟨h34, H⟩ := H
   refine GoR.op ((op_index Try.underlying23 ti3 rfl rfl h33 (ltn (hE21.neq hO 0 rfl) h34) (hE21.psome hO 0 rfl h33 h34)) _) rfl rfl ?_
   refine GoR.op ((oldInt 0 hO rfl hE21 h33 h34 Try.underlying3 rfl rfl) _ (Same.refl _)) rfl rfl ?_
   refine GoR.inl (vs := [.int .i64 (ix r20 (k1_31 : Int))]) (caps := [.pointer (some ⟨B9, 0, none⟩)]) rfl rfl body90 Try.func90 rfl Try.ntmps90 rfl rfl rfl ?_
   intro RhR35 hR35
   refine Go1.seq ?_
   refine Go1.region ?_
   refine GoR.op ((op_assign rfl) _) rfl rfl ?_
   refine GoR.nil ?_
   refine Go1.seq ?_
   refine Go1.region ?_
   refine GoR.op ((oblk 1 hO rfl rfl Try.underlying60 rfl rfl) _ (Same.refl _)) rfl rfl ?_
   refine GoR.op ((op_move rfl) _) rfl rfl ?_
   refine GoR.inl (vs := [.int .i64 (ix r20 (k1_31 : Int))]) (caps := [.pointer (some ⟨B2, 0, none⟩)]) rfl rfl body77 Try.func77 rfl Try.ntmps77 rfl rfl rfl ?_
   intro RhR36 hR36
   refine Go1.seq ?_
   refine Go1.region ?_
   refine GoR.op ((op_assign rfl) _) rfl rfl ?_
   refine GoR.nil ?_
   refine Go1.seq ?_
   refine Go1.region ?_
   refine GoR.op ((oblk 2 hO rfl rfl Try.underlying22 rfl rfl) _ (Same.refl _)) rfl rfl ?_
   refine GoR.op ((op_move rfl) _) rfl rfl ?_
   obtain ⟨h37, H⟩ := H
   obtain ⟨h38, H⟩ := H
   refine GoR.op ((op_index Try.underlying22 ti23 rfl rfl h37 h38 (h_t.some_ h37 h38)) _) rfl rfl ?_
   have hobt := ldSl h_t h37 h38
   obtain ⟨p39, c40, hi41, hl42⟩ := hobt
   refine GoR.op ((hl42 Try.underlying23 rfl rfl) _ (Same.refl _)) rfl rfl ?_
   refine GoR.op ((op_move rfl) _) rfl rfl ?_
   obtain ⟨h43, H⟩ := H
   obtain ⟨h44, H⟩ := H
   refine GoR.op ((op_index Try.underlying23 ti3 rfl rfl h43 h44 (hi41.some_ h43 h44)) _) rfl rfl ?_
   refine GoR.op ((ldInt hi41 h43 h44 Try.underlying3 rfl rfl) _ (Same.refl _)) rfl rfl ?_
   refine GoR.op ((op_move rfl) _) rfl rfl ?_
   by_cases h45 : (ix (ix t (ix r20 (k1_31 : Int))) (ix r20 (k1_31 : Int))) = (ix r20 (k1_31 : Int))
   ·replace H := ifp h45 H
    refine GoR.op ((fun w => opB (op_eql rfl rfl w) (decide_eq_true h45)) _) rfl rfl ?_
    refine GoR.op ((op_assign rfl) _) rfl rfl ?_
    refine GoR.nil ?_
    refine Go1.ret1V Try.func77 rfl (show _ = .bool true from rfl) ?_
    refine hR36 _ _ ?_
    refine GoR.op ((op_not rfl) _) rfl rfl ?_
    refine GoR.op ((op_assign rfl) _) rfl rfl ?_
    refine GoR.nil ?_
    refine Go1.ret1V Try.func90 rfl (show _ = .bool false from rfl) ?_
    refine hR35 _ _ ?_
    refine GoR.nil ?_
    refine Go1.condF rfl rfl ?_
    refine Go1.skip ?_
    refine Go1.inBlock ?_
    refine Go1.region ?_
    refine GoR.op ((op_add rfl rfl (wrap_i64 (natbd h32 hE21.bd))) _) rfl rfl ?_
    refine GoR.op ((op_move rfl) _) rfl rfl ?_
    refine GoR.nil ?_
    exact hX1 _ H _ _ ⟨⟨rfl, rfl, rfl, rfl, trivial⟩, hO, hE21, h_t, hB⟩
   ·replace H := ifn h45 H
    refine GoR.op ((fun w => opB (op_eql rfl rfl w) (decide_eq_false h45)) _) rfl rfl ?_
    refine GoR.op ((op_assign rfl) _) rfl rfl ?_
    refine GoR.nil ?_
    refine Go1.ret1V Try.func77 rfl (show _ = .bool false from rfl) ?_
    refine hR36 _ _ ?_
    refine GoR.op ((op_not rfl) _) rfl rfl ?_
    refine GoR.op ((op_assign rfl) _) rfl rfl ?_
    refine GoR.nil ?_
    refine Go1.ret1V Try.func90 rfl (show _ = .bool true from rfl) ?_
    refine hR35 _ _ ?_
    refine GoR.nil ?_
    refine Go1.condT rfl rfl ?_
    refine Go1.seq ?_
    refine Go1.region ?_
    refine GoR.op ((op_move rfl) _) rfl rfl ?_
    refine GoR.op ((op_assign rfl) _) rfl rfl ?_
    refine GoR.nil ?_
    refine Go1.ret1V Try.func72 rfl (show _ = .int .i64 (k1_31 : Int) from rfl) ?_
    refine hR29 _ _ ?_
    refine GoR.op ((op_assign rfl) _) rfl rfl ?_
    refine GoR.nil ?_
    refine Go1.seq ?_
    refine Go1.seq ?_
    refine Go1.region ?_
    refine GoR.op ((op_move rfl) _) rfl rfl ?_
    by_cases h46 : (k1_31 : Int) = (-1 : Int)
    ·replace H := ifp h46 H
     refine GoR.op ((fun w => opB (op_eql rfl rfl w) (decide_eq_true h46)) _) rfl rfl ?_
     refine GoR.nil ?_
     refine Go1.condT rfl rfl ?_
     refine Go1.seq ?_
     refine Go1.region ?_
     refine GoR.op ((op_move rfl) _) rfl rfl ?_
     refine GoR.op ((op_assign rfl) _) rfl rfl ?_
     refine GoR.nil ?_
     refine Go1.ret1V Try.func89 rfl (show _ = .slice p_r20 n_r20 c_r20 from rfl) ?_
     refine hR28 _ _ ?_
     refine GoR.op ((op_assign rfl) _) rfl rfl ?_
     refine GoR.nil ?_
     refine Go1.ret1V Try.func76 rfl (show _ = .slice p_r20 n_r20 c_r20 from rfl) ?_
     refine hR7 _ _ ?_
     refine GoR.op ((op_assign rfl) _) rfl rfl ?_
     refine GoR.nil ?_
     have hobt := freeze 0 hO rfl hE21
     obtain ⟨hO1, hc49, hi47, hn48⟩ := hobt
     replace h_t := h_t.ch hc49
     replace hi41 := hi41.ch hc49
     replace hB := hB.trans (Owns.dropFr _ _ 0)
     replace hO := hO1; clear hO1
     refine Go1.ret1 Try.func37 rfl ?_
     exact ⟨r20, p_r20, c_r20, ((congrArg (fun nn => Value.slice p_r20 nn c_r20) hn48)), hB.same, (hi47.ch (Ch.weak _ _ _)), H⟩
    ·replace H := ifn h46 H
     refine GoR.op ((fun w => opB (op_eql rfl rfl w) (decide_eq_false h46)) _) rfl rfl ?_
     refine GoR.nil ?_
     refine Go1.condF rfl rfl ?_
     refine Go1.skip ?_
     refine Go1.seq ?_
     refine Go1.seq ?_
     refine Go1.region ?_
     refine GoR.op ((op_move rfl) _) rfl rfl ?_
     refine GoR.op ((op_add rfl rfl (wrap_i64 (natbd h32 hE21.bd))) _) rfl rfl ?_
     refine GoR.op ((op_assign rfl) _) rfl rfl ?_
     refine GoR.nil ?_
     refine Go1.block ?_
     refine Go1.loopW (S := Nat × Nat × List Int) (fun s σ w => ∃ (vs54 : List Value), agrees σ [(0, .slice p_r20 n_r20 c_r20), (1, .func (.func 90) #[] #[.pointer (some ⟨B9, 0, none⟩)]), (5, .int .i64 ((s.1) : Int)), (6, .int .i64 ((s.2.1) : Int))] ∧ Owns w0.heap.size w [.row 3 1 p_r20 n_r20 c_r20 vs54, .blk B9 (.cells #[.func (.func 77) #[] #[.pointer (some ⟨B2, 0, none⟩)]] 60 (0, 0)), .blk B2 (.cells #[.slice p_t t.length c_t] 22 (0, 0))] A ∧ Els (Rp.int .i64) (bl [.row 3 1 p_r20 n_r20 c_r20 vs54, .blk B9 (.cells #[.func (.func 77) #[] #[.pointer (some ⟨B2, 0, none⟩)]] 60 (0, 0)), .blk B2 (.cells #[.slice p_t t.length c_t] 22 (0, 0))] ++ A) w vs54 (s.2.2) ∧ ISl (Rp.sl (Rp.int .i64)) (bl [.row 3 1 p_r20 n_r20 c_r20 vs54, .blk B9 (.cells #[.func (.func 77) #[] #[.pointer (some ⟨B2, 0, none⟩)]] 60 (0, 0)), .blk B2 (.cells #[.slice p_t t.length c_t] 22 (0, 0))] ++ A) w p_t c_t t ∧ Fr (bl []) w0 (bl [.row 3 1 p_r20 n_r20 c_r20 vs54, .blk B9 (.cells #[.func (.func 77) #[] #[.pointer (some ⟨B2, 0, none⟩)]] 60 (0, 0)), .blk B2 (.cells #[.slice p_t t.length c_t] 22 (0, 0))]) w) H ⟨vs_r20, ⟨rfl, rfl, rfl, rfl, trivial⟩, hO, hE21, h_t, hB⟩ ?_
     rintro X2 ⟨i2_51, j2_52, s2_53⟩ H hX2 σ w50 ⟨vs54, hag, hO, hE55, h_t, hB⟩
     dsimp only at H
     refine Go1.keep [(0, .slice p_r20 n_r20 c_r20), (1, .func (.func 90) #[] #[.pointer (some ⟨B9, 0, none⟩)]), (5, .int .i64 (i2_51 : Int)), (6, .int .i64 (j2_52 : Int))] hag ?_
     refine Go1.seq ?_
     refine Go1.seq ?_
     refine Go1.region ?_
     refine GoR.op ((op_move rfl) _) rfl rfl ?_
     refine GoR.op ((op_move rfl) _) rfl rfl ?_
     refine GoR.op ((op_lenN Try.underlying23 rfl (hE55.neq hO 0 rfl)) _) rfl rfl ?_
     by_cases h56 : (j2_52 : Int) < (s2_53.length : Int)
     ·replace H := ifp h56 H
      refine GoR.op ((fun w => opB (op_lss rfl rfl w) (decide_eq_true h56)) _) rfl rfl ?_
      refine GoR.nil ?_
      refine Go1.condT rfl rfl ?_
      refine Go1.skip ?_
      refine Go1.seq ?_
      refine Go1.block ?_
      refine Go1.seq ?_
      refine Go1.region ?_
      refine GoR.op ((op_move rfl) _) rfl rfl ?_
      refine GoR.op ((op_move rfl) _) rfl rfl ?_
      obtain ⟨h57, H⟩ := H
      obtain ⟨h58, H⟩ := H
      refine GoR.op ((op_index Try.underlying23 ti3 rfl rfl h57 (ltn (hE55.neq hO 0 rfl) h58) (hE55.psome hO 0 rfl h57 h58)) _) rfl rfl ?_
      refine GoR.op ((oldInt 0 hO rfl hE55 h57 h58 Try.underlying3 rfl rfl) _ (Same.refl _)) rfl rfl ?_
      refine GoR.op ((op_assign rfl) _) rfl rfl ?_
      refine GoR.nil ?_
      refine Go1.seq ?_
      refine Go1.region ?_
      refine GoR.op ((op_move rfl) _) rfl rfl ?_
      refine GoR.op ((op_move rfl) _) rfl rfl ?_
      refine GoR.inl (vs := [.int .i64 (ix s2_53 (j2_52 : Int))]) (caps := [.pointer (some ⟨B9, 0, none⟩)]) rfl rfl body90 Try.func90 rfl Try.ntmps90 rfl rfl rfl ?_
      intro RhR59 hR59
      refine Go1.seq ?_
      refine Go1.region ?_
      refine GoR.op ((op_assign rfl) _) rfl rfl ?_
      refine GoR.nil ?_
      refine Go1.seq ?_
      refine Go1.region ?_
      refine GoR.op ((oblk 1 hO rfl rfl Try.underlying60 rfl rfl) _ (Same.refl _)) rfl rfl ?_
      refine GoR.op ((op_move rfl) _) rfl rfl ?_
      refine GoR.inl (vs := [.int .i64 (ix s2_53 (j2_52 : Int))]) (caps := [.pointer (some ⟨B2, 0, none⟩)]) rfl rfl body77 Try.func77 rfl Try.ntmps77 rfl rfl rfl ?_
      intro RhR60 hR60
      refine Go1.seq ?_
      refine Go1.region ?_
      refine GoR.op ((op_assign rfl) _) rfl rfl ?_
      refine GoR.nil ?_
      refine Go1.seq ?_
      refine Go1.region ?_
      refine GoR.op ((oblk 2 hO rfl rfl Try.underlying22 rfl rfl) _ (Same.refl _)) rfl rfl ?_
      refine GoR.op ((op_move rfl) _) rfl rfl ?_
      obtain ⟨h61, H⟩ := H
      obtain ⟨h62, H⟩ := H
      refine GoR.op ((op_index Try.underlying22 ti23 rfl rfl h61 h62 (h_t.some_ h61 h62)) _) rfl rfl ?_
      have hobt := ldSl h_t h61 h62
      obtain ⟨p63, c64, hi65, hl66⟩ := hobt
      refine GoR.op ((hl66 Try.underlying23 rfl rfl) _ (Same.refl _)) rfl rfl ?_
      refine GoR.op ((op_move rfl) _) rfl rfl ?_
      obtain ⟨h67, H⟩ := H
      obtain ⟨h68, H⟩ := H
      refine GoR.op ((op_index Try.underlying23 ti3 rfl rfl h67 h68 (hi65.some_ h67 h68)) _) rfl rfl ?_
      refine GoR.op ((ldInt hi65 h67 h68 Try.underlying3 rfl rfl) _ (Same.refl _)) rfl rfl ?_
      refine GoR.op ((op_move rfl) _) rfl rfl ?_
      by_cases h69 : (ix (ix t (ix s2_53 (j2_52 : Int))) (ix s2_53 (j2_52 : Int))) = (ix s2_53 (j2_52 : Int))
      ·replace H := ifp h69 H
       refine GoR.op ((fun w => opB (op_eql rfl rfl w) (decide_eq_true h69)) _) rfl rfl ?_
       refine GoR.op ((op_assign rfl) _) rfl rfl ?_
       refine GoR.nil ?_
       refine Go1.ret1V Try.func77 rfl (show _ = .bool true from rfl) ?_
       refine hR60 _ _ ?_
       refine GoR.op ((op_not rfl) _) rfl rfl ?_
       refine GoR.op ((op_assign rfl) _) rfl rfl ?_
       refine GoR.nil ?_
       refine Go1.ret1V Try.func90 rfl (show _ = .bool false from rfl) ?_
       refine hR59 _ _ ?_
       refine GoR.op ((op_not rfl) _) rfl rfl ?_
       refine GoR.nil ?_
       refine Go1.condT rfl rfl ?_
       refine Go1.seq ?_
       refine Go1.region ?_
       refine GoR.op ((op_move rfl) _) rfl rfl ?_
       refine GoR.op ((op_move rfl) _) rfl rfl ?_
       refine GoR.op ((op_move rfl) _) rfl rfl ?_
       obtain ⟨h70, H⟩ := H
       obtain ⟨h71, H⟩ := H
       refine GoR.op ((op_index Try.underlying23 ti3 rfl rfl h70 (ltn (hE55.neq hO 0 rfl) h71) (hE55.psome hO 0 rfl h70 h71)) _) rfl rfl ?_
       have hobt := ost (r := Rp.int .i64) rfl 0 hO rfl hE55 h70 h71 (v := .int .i64 (ix s2_53 (j2_52 : Int))) (u := (ix s2_53 (j2_52 : Int))) rfl rfl
       obtain ⟨w72, vs73, hst74, hE75, hop76⟩ := hobt
       refine GoR.op (hop76 Try.underlying3 rfl ti3 rfl rfl) rfl rfl ?_
       replace hO := hst74.own
       replace h_t := h_t.ch hst74.ch
       replace hi65 := hi65.ch hst74.ch
       replace hB := hB.trans hst74.fr
       refine GoR.nil ?_
       refine Go1.region ?_
       refine GoR.op ((op_move rfl) _) rfl rfl ?_
       obtain ⟨h77, H⟩ := H
       refine GoR.op ((op_add rfl rfl (wrap_i64 h77)) _) rfl rfl ?_
       refine GoR.op ((op_assign rfl) _) rfl rfl ?_
       refine GoR.nil ?_
       refine Go1.inBlock ?_
       refine Go1.region ?_
       refine GoR.op ((op_move rfl) _) rfl rfl ?_
       obtain ⟨h78, H⟩ := H
       refine GoR.op ((op_add rfl rfl (wrap_i64 h78)) _) rfl rfl ?_
       refine GoR.op ((op_assign rfl) _) rfl rfl ?_
       refine GoR.nil ?_
       exact hX2 _ H _ _ ⟨vs73, ⟨rfl, rfl, rfl, rfl, trivial⟩, hO, hE75, h_t, hB⟩
      ·replace H := ifn h69 H
       refine GoR.op ((fun w => opB (op_eql rfl rfl w) (decide_eq_false h69)) _) rfl rfl ?_
       refine GoR.op ((op_assign rfl) _) rfl rfl ?_
       refine GoR.nil ?_
       refine Go1.ret1V Try.func77 rfl (show _ = .bool false from rfl) ?_
       refine hR60 _ _ ?_
       refine GoR.op ((op_not rfl) _) rfl rfl ?_
       refine GoR.op ((op_assign rfl) _) rfl rfl ?_
       refine GoR.nil ?_
       refine Go1.ret1V Try.func90 rfl (show _ = .bool true from rfl) ?_
       refine hR59 _ _ ?_
       refine GoR.op ((op_not rfl) _) rfl rfl ?_
       refine GoR.nil ?_
       refine Go1.condF rfl rfl ?_
       refine Go1.skip ?_
       refine Go1.inBlock ?_
       refine Go1.region ?_
       refine GoR.op ((op_move rfl) _) rfl rfl ?_
       refine GoR.op ((op_add rfl rfl (wrap_i64 (natbd h56 hE55.bd))) _) rfl rfl ?_
       refine GoR.op ((op_assign rfl) _) rfl rfl ?_
       refine GoR.nil ?_
       exact hX2 _ H _ _ ⟨vs54, ⟨rfl, rfl, rfl, rfl, trivial⟩, hO, hE55, h_t, hB⟩
     ·replace H := ifn h56 H
      refine GoR.op ((fun w => opB (op_lss rfl rfl w) (decide_eq_false h56)) _) rfl rfl ?_
      refine GoR.nil ?_
      refine Go1.condF rfl rfl ?_
      refine Go1.exit rfl ?_
      refine Go1.seq ?_
      refine Go1.region ?_
      refine GoR.op ((op_move rfl) _) rfl rfl ?_
      refine GoR.op ((op_move rfl) _) rfl rfl ?_
      obtain ⟨h79, H⟩ := H
      obtain ⟨h80, H⟩ := H
      refine GoR.op ((op_sliceFrom Try.underlying23 ti3 rfl rfl h79 (lenle (hE55.neq hO 0 rfl) h80)) _) rfl rfl ?_
      have hobt := oclear (Fl.int .i64) rfl (d := (0 : Int)) Try.underlying23 ti3 rfl rfl (fun _ _ => rfl) 0 hO rfl hE55 h79 h80
      obtain ⟨w81, vs82, hst83, hE84, hop85⟩ := hobt
      refine GoR.op (hop85 rfl) rfl rfl ?_
      replace hO := hst83.own
      replace h_t := h_t.ch hst83.ch
      replace hB := hB.trans hst83.fr
      refine GoR.nil ?_
      refine Go1.seq ?_
      refine Go1.region ?_
      refine GoR.op ((op_move rfl) _) rfl rfl ?_
      refine GoR.op ((op_move rfl) _) rfl rfl ?_
      obtain ⟨h86, H⟩ := H
      obtain ⟨h87, H⟩ := H
      have hal88 := AL.start 0 hO rfl hE84 ((i2_51 : Int)).toNat
      refine GoR.op ((op_sliceTo Try.underlying23 ti3 rfl rfl h86 (Els.lec 0 hO rfl hE84 h87)) _) rfl rfl ?_
      refine GoR.op ((op_assign rfl) _) rfl rfl ?_
      refine GoR.nil ?_
      refine Go1.ret1V Try.func89 rfl (show _ = .slice p_r20 (((i2_51 : Int)).toNat) c_r20 from rfl) ?_
      refine hR28 _ _ ?_
      refine GoR.op ((op_assign rfl) _) rfl rfl ?_
      refine GoR.nil ?_
      refine Go1.ret1V Try.func76 rfl (show _ = .slice p_r20 (((i2_51 : Int)).toNat) c_r20 from rfl) ?_
      refine hR7 _ _ ?_
      refine GoR.op ((op_assign rfl) _) rfl rfl ?_
      refine GoR.nil ?_
      have hobt := freezeHead 0 hO rfl hE84 ((i2_51 : Int)).toNat
      obtain ⟨hO1, hc90, hi89⟩ := hobt
      replace h_t := h_t.ch hc90
      replace hB := hB.trans (Owns.dropFr _ _ 0)
      replace hO := hO1; clear hO1
      refine Go1.ret1 Try.func37 rfl ?_
      exact ⟨(s2_53.take (i2_51 : Int).toNat ++ List.replicate (s2_53.length - (i2_51 : Int).toNat) ((0 : Int))).take ((i2_51 : Int)).toNat, p_r20, c_r20, ((congrArg (fun nn => Value.slice p_r20 nn c_r20) (takeLen h86 h87))), hB.same, (hi89.ch (Ch.weak _ _ _)), H⟩
  ·replace H := ifn h32 H
   refine GoR.op ((fun w => opB (op_lss rfl rfl w) (decide_eq_false h32)) _) rfl rfl ?_
   refine GoR.nil ?_
   refine Go1.seq ?_
   refine Go1.condF rfl rfl ?_
   refine Go1.exit rfl ?_
   refine Go1.seq ?_
   refine Go1.region ?_
   refine GoR.op ((op_assign rfl) _) rfl rfl ?_
   refine GoR.nil ?_
   refine Go1.ret1V Try.func72 rfl (show _ = .int .i64 (-1 : Int) from rfl) ?_
   refine hR29 _ _ ?_
   refine GoR.op ((op_assign rfl) _) rfl rfl ?_
   refine GoR.nil ?_
   refine Go1.seq ?_
   refine Go1.seq ?_
   refine Go1.region ?_
   refine GoR.op ((op_move rfl) _) rfl rfl ?_
   by_cases h91 : (-1 : Int) = (-1 : Int)
   ·replace H := ifp h91 H
    refine GoR.op ((fun w => opB (op_eql rfl rfl w) (decide_eq_true h91)) _) rfl rfl ?_
    refine GoR.nil ?_
    refine Go1.condT rfl rfl ?_
    refine Go1.seq ?_
    refine Go1.region ?_
    refine GoR.op ((op_move rfl) _) rfl rfl ?_
    refine GoR.op ((op_assign rfl) _) rfl rfl ?_
    refine GoR.nil ?_
    refine Go1.ret1V Try.func89 rfl (show _ = .slice p_r20 n_r20 c_r20 from rfl) ?_
    refine hR28 _ _ ?_
    refine GoR.op ((op_assign rfl) _) rfl rfl ?_
    refine GoR.nil ?_
    refine Go1.ret1V Try.func76 rfl (show _ = .slice p_r20 n_r20 c_r20 from rfl) ?_
    refine hR7 _ _ ?_
    refine GoR.op ((op_assign rfl) _) rfl rfl ?_
    refine GoR.nil ?_
    have hobt := freeze 0 hO rfl hE21
    obtain ⟨hO1, hc94, hi92, hn93⟩ := hobt
    replace h_t := h_t.ch hc94
    replace hB := hB.trans (Owns.dropFr _ _ 0)
    replace hO := hO1; clear hO1
    refine Go1.ret1 Try.func37 rfl ?_
    exact ⟨r20, p_r20, c_r20, ((congrArg (fun nn => Value.slice p_r20 nn c_r20) hn93)), hB.same, (hi92.ch (Ch.weak _ _ _)), H⟩
   ·replace H := ifn h91 H
    refine GoR.op ((fun w => opB (op_eql rfl rfl w) (decide_eq_false h91)) _) rfl rfl ?_
    refine GoR.nil ?_
    refine Go1.condF rfl rfl ?_
    refine Go1.skip ?_
    refine Go1.seq ?_
    refine Go1.seq ?_
    refine Go1.region ?_
    refine GoR.op ((op_move rfl) _) rfl rfl ?_
    obtain ⟨h95, H⟩ := H
    refine GoR.op ((op_add rfl rfl (wrap_i64 h95)) _) rfl rfl ?_
    refine GoR.op ((op_assign rfl) _) rfl rfl ?_
    refine GoR.nil ?_
    refine Go1.block ?_
    refine Go1.loopW (S := Int × Int × List Int) (fun s σ w => ∃ (vs100 : List Value), agrees σ [(0, .slice p_r20 n_r20 c_r20), (1, .func (.func 90) #[] #[.pointer (some ⟨B9, 0, none⟩)]), (5, .int .i64 (s.1)), (6, .int .i64 (s.2.1))] ∧ Owns w0.heap.size w [.row 3 1 p_r20 n_r20 c_r20 vs100, .blk B9 (.cells #[.func (.func 77) #[] #[.pointer (some ⟨B2, 0, none⟩)]] 60 (0, 0)), .blk B2 (.cells #[.slice p_t t.length c_t] 22 (0, 0))] A ∧ Els (Rp.int .i64) (bl [.row 3 1 p_r20 n_r20 c_r20 vs100, .blk B9 (.cells #[.func (.func 77) #[] #[.pointer (some ⟨B2, 0, none⟩)]] 60 (0, 0)), .blk B2 (.cells #[.slice p_t t.length c_t] 22 (0, 0))] ++ A) w vs100 (s.2.2) ∧ ISl (Rp.sl (Rp.int .i64)) (bl [.row 3 1 p_r20 n_r20 c_r20 vs100, .blk B9 (.cells #[.func (.func 77) #[] #[.pointer (some ⟨B2, 0, none⟩)]] 60 (0, 0)), .blk B2 (.cells #[.slice p_t t.length c_t] 22 (0, 0))] ++ A) w p_t c_t t ∧ Fr (bl []) w0 (bl [.row 3 1 p_r20 n_r20 c_r20 vs100, .blk B9 (.cells #[.func (.func 77) #[] #[.pointer (some ⟨B2, 0, none⟩)]] 60 (0, 0)), .blk B2 (.cells #[.slice p_t t.length c_t] 22 (0, 0))]) w) H ⟨vs_r20, ⟨rfl, rfl, rfl, rfl, trivial⟩, hO, hE21, h_t, hB⟩ ?_
    rintro X3 ⟨i3_97, j3_98, s3_99⟩ H hX3 σ w96 ⟨vs100, hag, hO, hE101, h_t, hB⟩
    dsimp only at H
    refine Go1.keep [(0, .slice p_r20 n_r20 c_r20), (1, .func (.func 90) #[] #[.pointer (some ⟨B9, 0, none⟩)]), (5, .int .i64 i3_97), (6, .int .i64 j3_98)] hag ?_
    refine Go1.seq ?_
    refine Go1.seq ?_
    refine Go1.region ?_
    refine GoR.op ((op_move rfl) _) rfl rfl ?_
    refine GoR.op ((op_move rfl) _) rfl rfl ?_
    refine GoR.op ((op_lenN Try.underlying23 rfl (hE101.neq hO 0 rfl)) _) rfl rfl ?_
    by_cases h102 : j3_98 < (s3_99.length : Int)
    ·replace H := ifp h102 H
     refine GoR.op ((fun w => opB (op_lss rfl rfl w) (decide_eq_true h102)) _) rfl rfl ?_
     refine GoR.nil ?_
     refine Go1.condT rfl rfl ?_
     refine Go1.skip ?_
     refine Go1.seq ?_
     refine Go1.block ?_
     refine Go1.seq ?_
     refine Go1.region ?_
     refine GoR.op ((op_move rfl) _) rfl rfl ?_
     refine GoR.op ((op_move rfl) _) rfl rfl ?_
     obtain ⟨h103, H⟩ := H
     obtain ⟨h104, H⟩ := H
     refine GoR.op ((op_index Try.underlying23 ti3 rfl rfl h103 (ltn (hE101.neq hO 0 rfl) h104) (hE101.psome hO 0 rfl h103 h104)) _) rfl rfl ?_
     refine GoR.op ((oldInt 0 hO rfl hE101 h103 h104 Try.underlying3 rfl rfl) _ (Same.refl _)) rfl rfl ?_
     refine GoR.op ((op_assign rfl) _) rfl rfl ?_
     refine GoR.nil ?_
     refine Go1.seq ?_
     refine Go1.region ?_
     refine GoR.op ((op_move rfl) _) rfl rfl ?_
     refine GoR.op ((op_move rfl) _) rfl rfl ?_
     refine GoR.inl (vs := [.int .i64 (ix s3_99 j3_98)]) (caps := [.pointer (some ⟨B9, 0, none⟩)]) rfl rfl body90 Try.func90 rfl Try.ntmps90 rfl rfl rfl ?_
     intro RhR105 hR105
     refine Go1.seq ?_
     refine Go1.region ?_
     refine GoR.op ((op_assign rfl) _) rfl rfl ?_
     refine GoR.nil ?_
     refine Go1.seq ?_
     refine Go1.region ?_
     refine GoR.op ((oblk 1 hO rfl rfl Try.underlying60 rfl rfl) _ (Same.refl _)) rfl rfl ?_
     refine GoR.op ((op_move rfl) _) rfl rfl ?_
     refine GoR.inl (vs := [.int .i64 (ix s3_99 j3_98)]) (caps := [.pointer (some ⟨B2, 0, none⟩)]) rfl rfl body77 Try.func77 rfl Try.ntmps77 rfl rfl rfl ?_
     intro RhR106 hR106
     refine Go1.seq ?_
     refine Go1.region ?_
     refine GoR.op ((op_assign rfl) _) rfl rfl ?_
     refine GoR.nil ?_
     refine Go1.seq ?_
     refine Go1.region ?_
     refine GoR.op ((oblk 2 hO rfl rfl Try.underlying22 rfl rfl) _ (Same.refl _)) rfl rfl ?_
     refine GoR.op ((op_move rfl) _) rfl rfl ?_
     obtain ⟨h107, H⟩ := H
     obtain ⟨h108, H⟩ := H
     refine GoR.op ((op_index Try.underlying22 ti23 rfl rfl h107 h108 (h_t.some_ h107 h108)) _) rfl rfl ?_
     have hobt := ldSl h_t h107 h108
     obtain ⟨p109, c110, hi111, hl112⟩ := hobt
     refine GoR.op ((hl112 Try.underlying23 rfl rfl) _ (Same.refl _)) rfl rfl ?_
     refine GoR.op ((op_move rfl) _) rfl rfl ?_
     obtain ⟨h113, H⟩ := H
     obtain ⟨h114, H⟩ := H
     refine GoR.op ((op_index Try.underlying23 ti3 rfl rfl h113 h114 (hi111.some_ h113 h114)) _) rfl rfl ?_
     refine GoR.op ((ldInt hi111 h113 h114 Try.underlying3 rfl rfl) _ (Same.refl _)) rfl rfl ?_
     refine GoR.op ((op_move rfl) _) rfl rfl ?_
     by_cases h115 : (ix (ix t (ix s3_99 j3_98)) (ix s3_99 j3_98)) = (ix s3_99 j3_98)
     ·replace H := ifp h115 H
      refine GoR.op ((fun w => opB (op_eql rfl rfl w) (decide_eq_true h115)) _) rfl rfl ?_
      refine GoR.op ((op_assign rfl) _) rfl rfl ?_
      refine GoR.nil ?_
      refine Go1.ret1V Try.func77 rfl (show _ = .bool true from rfl) ?_
      refine hR106 _ _ ?_
      refine GoR.op ((op_not rfl) _) rfl rfl ?_
      refine GoR.op ((op_assign rfl) _) rfl rfl ?_
      refine GoR.nil ?_
      refine Go1.ret1V Try.func90 rfl (show _ = .bool false from rfl) ?_
      refine hR105 _ _ ?_
      refine GoR.op ((op_not rfl) _) rfl rfl ?_
      refine GoR.nil ?_
      refine Go1.condT rfl rfl ?_
      refine Go1.seq ?_
      refine Go1.region ?_
      refine GoR.op ((op_move rfl) _) rfl rfl ?_
      refine GoR.op ((op_move rfl) _) rfl rfl ?_
      refine GoR.op ((op_move rfl) _) rfl rfl ?_
      obtain ⟨h116, H⟩ := H
      obtain ⟨h117, H⟩ := H
      refine GoR.op ((op_index Try.underlying23 ti3 rfl rfl h116 (ltn (hE101.neq hO 0 rfl) h117) (hE101.psome hO 0 rfl h116 h117)) _) rfl rfl ?_
      have hobt := ost (r := Rp.int .i64) rfl 0 hO rfl hE101 h116 h117 (v := .int .i64 (ix s3_99 j3_98)) (u := (ix s3_99 j3_98)) rfl rfl
      obtain ⟨w118, vs119, hst120, hE121, hop122⟩ := hobt
      refine GoR.op (hop122 Try.underlying3 rfl ti3 rfl rfl) rfl rfl ?_
      replace hO := hst120.own
      replace h_t := h_t.ch hst120.ch
      replace hi111 := hi111.ch hst120.ch
      replace hB := hB.trans hst120.fr
      refine GoR.nil ?_
      refine Go1.region ?_
      refine GoR.op ((op_move rfl) _) rfl rfl ?_
      obtain ⟨h123, H⟩ := H
      refine GoR.op ((op_add rfl rfl (wrap_i64 h123)) _) rfl rfl ?_
      refine GoR.op ((op_assign rfl) _) rfl rfl ?_
      refine GoR.nil ?_
      refine Go1.inBlock ?_
      refine Go1.region ?_
      refine GoR.op ((op_move rfl) _) rfl rfl ?_
      obtain ⟨h124, H⟩ := H
      refine GoR.op ((op_add rfl rfl (wrap_i64 h124)) _) rfl rfl ?_
      refine GoR.op ((op_assign rfl) _) rfl rfl ?_
      refine GoR.nil ?_
      exact hX3 _ H _ _ ⟨vs119, ⟨rfl, rfl, rfl, rfl, trivial⟩, hO, hE121, h_t, hB⟩
     ·replace H := ifn h115 H
      refine GoR.op ((fun w => opB (op_eql rfl rfl w) (decide_eq_false h115)) _) rfl rfl ?_
      refine GoR.op ((op_assign rfl) _) rfl rfl ?_
      refine GoR.nil ?_
      refine Go1.ret1V Try.func77 rfl (show _ = .bool false from rfl) ?_
      refine hR106 _ _ ?_
      refine GoR.op ((op_not rfl) _) rfl rfl ?_
      refine GoR.op ((op_assign rfl) _) rfl rfl ?_
      refine GoR.nil ?_
      refine Go1.ret1V Try.func90 rfl (show _ = .bool true from rfl) ?_
      refine hR105 _ _ ?_
      refine GoR.op ((op_not rfl) _) rfl rfl ?_
      refine GoR.nil ?_
      refine Go1.condF rfl rfl ?_
      refine Go1.skip ?_
      refine Go1.inBlock ?_
      refine Go1.region ?_
      refine GoR.op ((op_move rfl) _) rfl rfl ?_
      obtain ⟨h125, H⟩ := H
      refine GoR.op ((op_add rfl rfl (wrap_i64 h125)) _) rfl rfl ?_
      refine GoR.op ((op_assign rfl) _) rfl rfl ?_
      refine GoR.nil ?_
      exact hX3 _ H _ _ ⟨vs100, ⟨rfl, rfl, rfl, rfl, trivial⟩, hO, hE101, h_t, hB⟩
    ·replace H := ifn h102 H
     refine GoR.op ((fun w => opB (op_lss rfl rfl w) (decide_eq_false h102)) _) rfl rfl ?_
     refine GoR.nil ?_
     refine Go1.condF rfl rfl ?_
     refine Go1.exit rfl ?_
     refine Go1.seq ?_
     refine Go1.region ?_
     refine GoR.op ((op_move rfl) _) rfl rfl ?_
     refine GoR.op ((op_move rfl) _) rfl rfl ?_
     obtain ⟨h126, H⟩ := H
     obtain ⟨h127, H⟩ := H
     refine GoR.op ((op_sliceFrom Try.underlying23 ti3 rfl rfl h126 (lenle (hE101.neq hO 0 rfl) h127)) _) rfl rfl ?_
     have hobt := oclear (Fl.int .i64) rfl (d := (0 : Int)) Try.underlying23 ti3 rfl rfl (fun _ _ => rfl) 0 hO rfl hE101 h126 h127
     obtain ⟨w128, vs129, hst130, hE131, hop132⟩ := hobt
     refine GoR.op (hop132 rfl) rfl rfl ?_
     replace hO := hst130.own
     replace h_t := h_t.ch hst130.ch
     replace hB := hB.trans hst130.fr
     refine GoR.nil ?_
     refine Go1.seq ?_
     refine Go1.region ?_
     refine GoR.op ((op_move rfl) _) rfl rfl ?_
     refine GoR.op ((op_move rfl) _) rfl rfl ?_
     obtain ⟨h133, H⟩ := H
     obtain ⟨h134, H⟩ := H
     have hal135 := AL.start 0 hO rfl hE131 (i3_97).toNat
     refine GoR.op ((op_sliceTo Try.underlying23 ti3 rfl rfl h133 (Els.lec 0 hO rfl hE131 h134)) _) rfl rfl ?_
     refine GoR.op ((op_assign rfl) _) rfl rfl ?_
     refine GoR.nil ?_
     refine Go1.ret1V Try.func89 rfl (show _ = .slice p_r20 ((i3_97).toNat) c_r20 from rfl) ?_
     refine hR28 _ _ ?_
     refine GoR.op ((op_assign rfl) _) rfl rfl ?_
     refine GoR.nil ?_
     refine Go1.ret1V Try.func76 rfl (show _ = .slice p_r20 ((i3_97).toNat) c_r20 from rfl) ?_
     refine hR7 _ _ ?_
     refine GoR.op ((op_assign rfl) _) rfl rfl ?_
     refine GoR.nil ?_
     have hobt := freezeHead 0 hO rfl hE131 (i3_97).toNat
     obtain ⟨hO1, hc137, hi136⟩ := hobt
     replace h_t := h_t.ch hc137
     replace hB := hB.trans (Owns.dropFr _ _ 0)
     replace hO := hO1; clear hO1
     refine Go1.ret1 Try.func37 rfl ?_
     exact ⟨(s3_99.take i3_97.toNat ++ List.replicate (s3_99.length - i3_97.toNat) ((0 : Int))).take (i3_97).toNat, p_r20, c_r20, ((congrArg (fun nn => Value.slice p_r20 nn c_r20) (takeLen h133 h134))), hB.same, (hi136.ch (Ch.weak _ _ _)), H⟩
theorem body38 : Body Try.prog 38 := ⟨Try.f38, Try.func38, rfl, by kernel_rfl⟩
theorem walk_ref14_Identity {A : List Nat} {w0 : World} {p_t : Option Addr} {c_t : Nat} {t : List (List Int)} (hA : ∀ b ∈ A, b < w0.heap.size) (h_t : ISl (Rp.sl (Rp.int .i64)) A w0 p_t c_t t) {K : Int → Prop} (H : ref14_Identity t K) :
    CallsV Try.prog 38 #[.slice p_t t.length c_t] w0 (fun v w' => ∃ (r0 : Int), v = .int .i64 r0 ∧ Same w0 w' ∧ K r0) := by
 refine CallsV.of (l := [.slice p_t t.length c_t]) Try.func38 rfl Try.ntmps38 rfl ?_
 have hO := Owns.start hA
 have hB := Fr.refl (bl []) w0
 unfold ref14_Identity at H
 replace h_t := h_t.ch (Ch.start A w0)
 refine Go1.seq ?_
 refine Go1.region ?_
 refine GoR.op ((op_assign rfl) _) rfl rfl ?_
 refine GoR.nil ?_
 refine Go1.seq ?_
 refine Go1.seq ?_
 refine Go1.region ?_
 refine GoR.op ((op_move rfl) _) rfl rfl ?_
 refine GoR.op ((op_len Try.underlying22 rfl) _) rfl rfl ?_
 replace H := H h_t.bd
 refine GoR.op ((op_move rfl) _) rfl rfl ?_
 refine GoR.nil ?_
 refine Go1.block ?_
 refine Go1.loopW (S := Nat) (fun s σ w => agrees σ [(0, .slice p_t t.length c_t), (7, .int .i64 (t.length : Int)), (8, .int .i64 (s : Int))] ∧ Owns w0.heap.size w [] A ∧ ISl (Rp.sl (Rp.int .i64)) (bl [] ++ A) w p_t c_t t ∧ Fr (bl []) w0 (bl []) w) H ⟨⟨rfl, rfl, rfl, trivial⟩, hO, h_t, hB⟩ ?_
 rintro X1 k1_2 H hX1 σ w1 ⟨hag, hO, h_t, hB⟩
 refine Go1.keep [(0, .slice p_t t.length c_t), (7, .int .i64 (t.length : Int)), (8, .int .i64 (k1_2 : Int))] hag ?_
 refine Go1.seq ?_
 refine Go1.region ?_
 by_cases h3 : (k1_2 : Int) < (t.length : Int)
 ·replace H := ifp h3 H
  refine GoR.op ((fun w => opB (op_lss rfl rfl w) (decide_eq_true h3)) _) rfl rfl ?_
  refine GoR.nil ?_
  refine Go1.seq ?_
  refine Go1.condT rfl rfl ?_
  refine Go1.skip ?_
  refine Go1.seq ?_
  refine Go1.block ?_
  refine Go1.seq ?_
  refine Go1.region ?_
  refine GoR.op ((op_move rfl) _) rfl rfl ?_
  refine GoR.op ((op_assign rfl) _) rfl rfl ?_
  refine GoR.nil ?_
  refine Go1.seq ?_
  refine Go1.region ?_
  refine GoR.op ((op_assign rfl) _) rfl rfl ?_
  refine GoR.nil ?_
  refine Go1.seq ?_
  refine Go1.seq ?_
  refine Go1.region ?_
  refine GoR.op ((op_move rfl) _) rfl rfl ?_
  refine GoR.op ((op_len Try.underlying22 rfl) _) rfl rfl ?_
  refine GoR.op ((op_move rfl) _) rfl rfl ?_
  refine GoR.nil ?_
  refine Go1.block ?_
  refine Go1.loopW (S := Bool × Nat) (fun s σ w => agrees σ [(0, .slice p_t t.length c_t), (3, .int .i64 (k1_2 : Int)), (4, .bool (s.1)), (7, .int .i64 (t.length : Int)), (8, .int .i64 (k1_2 : Int)), (12, .int .i64 (t.length : Int)), (13, .int .i64 ((s.2) : Int))] ∧ Owns w0.heap.size w [] A ∧ ISl (Rp.sl (Rp.int .i64)) (bl [] ++ A) w p_t c_t t ∧ Fr (bl []) w0 (bl []) w) H ⟨⟨rfl, rfl, rfl, rfl, rfl, rfl, rfl, trivial⟩, hO, h_t, hB⟩ ?_
  rintro X2 ⟨ok2_5, k2_6⟩ H hX2 σ w4 ⟨hag, hO, h_t, hB⟩
  dsimp only at H
  refine Go1.keep [(0, .slice p_t t.length c_t), (3, .int .i64 (k1_2 : Int)), (4, .bool ok2_5), (7, .int .i64 (t.length : Int)), (8, .int .i64 (k1_2 : Int)), (12, .int .i64 (t.length : Int)), (13, .int .i64 (k2_6 : Int))] hag ?_
  refine Go1.seq ?_
  refine Go1.region ?_
  by_cases h7 : (k2_6 : Int) < (t.length : Int)
  ·replace H := ifp h7 H
   refine GoR.op ((fun w => opB (op_lss rfl rfl w) (decide_eq_true h7)) _) rfl rfl ?_
   refine GoR.nil ?_
   refine Go1.seq ?_
   refine Go1.condT rfl rfl ?_
   refine Go1.skip ?_
   refine Go1.seq ?_
   refine Go1.block ?_
   refine Go1.seq ?_
   refine Go1.region ?_
   refine GoR.op ((op_move rfl) _) rfl rfl ?_
   refine GoR.op ((op_assign rfl) _) rfl rfl ?_
   refine GoR.nil ?_
   refine Go1.region ?_
   refine GoR.op ((op_move rfl) _) rfl rfl ?_
   refine GoR.op ((op_move rfl) _) rfl rfl ?_
   cases ok2_5
   ·replace H := ifn Bool.false_ne_true H
    refine GoR.pass rfl rfl ?_
    refine GoR.pass rfl rfl ?_
    refine GoR.pass rfl rfl ?_
    refine GoR.pass rfl rfl ?_
    refine GoR.pass rfl rfl ?_
    refine GoR.pass rfl rfl ?_
    refine GoR.pass rfl rfl ?_
    refine GoR.pass rfl rfl ?_
    refine GoR.pass rfl rfl ?_
    refine GoR.op ((op_pickF rfl rfl rfl) _) rfl rfl ?_
    refine GoR.op ((op_move rfl) _) rfl rfl ?_
    refine GoR.pass rfl rfl ?_
    refine GoR.pass rfl rfl ?_
    refine GoR.pass rfl rfl ?_
    refine GoR.pass rfl rfl ?_
    refine GoR.pass rfl rfl ?_
    refine GoR.pass rfl rfl ?_
    refine GoR.pass rfl rfl ?_
    refine GoR.pass rfl rfl ?_
    refine GoR.pass rfl rfl ?_
    refine GoR.op ((op_pickF rfl rfl rfl) _) rfl rfl ?_
    refine GoR.op ((op_assign rfl) _) rfl rfl ?_
    refine GoR.nil ?_
    refine Go1.inBlock ?_
    refine Go1.region ?_
    refine GoR.op ((op_add rfl rfl (wrap_i64 (natbd h7 h_t.bd))) _) rfl rfl ?_
    refine GoR.op ((op_move rfl) _) rfl rfl ?_
    refine GoR.nil ?_
    exact hX2 _ H _ _ ⟨⟨rfl, rfl, rfl, rfl, rfl, rfl, rfl, trivial⟩, hO, h_t, hB⟩
   ·replace H := ifp rfl H
    refine GoR.op ((op_move rfl) _) rfl rfl ?_
    refine GoR.op ((op_move rfl) _) rfl rfl ?_
    obtain ⟨h8, H⟩ := H
    obtain ⟨h9, H⟩ := H
    refine GoR.op ((op_index Try.underlying22 ti23 rfl rfl h8 h9 (h_t.some_ h8 h9)) _) rfl rfl ?_
    have hobt := ldSl h_t h8 h9
    obtain ⟨p10, c11, hi12, hl13⟩ := hobt
    refine GoR.op ((hl13 Try.underlying23 rfl rfl) _ (Same.refl _)) rfl rfl ?_
    refine GoR.op ((op_move rfl) _) rfl rfl ?_
    obtain ⟨h14, H⟩ := H
    obtain ⟨h15, H⟩ := H
    refine GoR.op ((op_index Try.underlying23 ti3 rfl rfl h14 h15 (hi12.some_ h14 h15)) _) rfl rfl ?_
    refine GoR.op ((ldInt hi12 h14 h15 Try.underlying3 rfl rfl) _ (Same.refl _)) rfl rfl ?_
    refine GoR.op ((op_move rfl) _) rfl rfl ?_
    by_cases h16 : (ix (ix t (k1_2 : Int)) (k2_6 : Int)) = (k2_6 : Int)
    ·replace H := ifp h16 H
     refine GoR.op ((fun w => opB (op_eql rfl rfl w) (decide_eq_true h16)) _) rfl rfl ?_
     refine GoR.op ((op_pickT rfl rfl rfl) _) rfl rfl ?_
     refine GoR.op ((op_move rfl) _) rfl rfl ?_
     refine GoR.op ((op_move rfl) _) rfl rfl ?_
     refine GoR.op ((op_move rfl) _) rfl rfl ?_
     obtain ⟨h17, H⟩ := H
     obtain ⟨h18, H⟩ := H
     refine GoR.op ((op_index Try.underlying22 ti23 rfl rfl h17 h18 (h_t.some_ h17 h18)) _) rfl rfl ?_
     have hobt := ldSl h_t h17 h18
     obtain ⟨p19, c20, hi21, hl22⟩ := hobt
     refine GoR.op ((hl22 Try.underlying23 rfl rfl) _ (Same.refl _)) rfl rfl ?_
     refine GoR.op ((op_move rfl) _) rfl rfl ?_
     obtain ⟨h23, H⟩ := H
     obtain ⟨h24, H⟩ := H
     refine GoR.op ((op_index Try.underlying23 ti3 rfl rfl h23 h24 (hi21.some_ h23 h24)) _) rfl rfl ?_
     refine GoR.op ((ldInt hi21 h23 h24 Try.underlying3 rfl rfl) _ (Same.refl _)) rfl rfl ?_
     refine GoR.op ((op_move rfl) _) rfl rfl ?_
     by_cases h25 : (ix (ix t (k2_6 : Int)) (k1_2 : Int)) = (k2_6 : Int)
     ·replace H := ifp h25 H
      refine GoR.op ((fun w => opB (op_eql rfl rfl w) (decide_eq_true h25)) _) rfl rfl ?_
      refine GoR.op ((op_pickT rfl rfl rfl) _) rfl rfl ?_
      refine GoR.op ((op_assign rfl) _) rfl rfl ?_
      refine GoR.nil ?_
      refine Go1.inBlock ?_
      refine Go1.region ?_
      refine GoR.op ((op_add rfl rfl (wrap_i64 (natbd h7 h_t.bd))) _) rfl rfl ?_
      refine GoR.op ((op_move rfl) _) rfl rfl ?_
      refine GoR.nil ?_
      exact hX2 _ H _ _ ⟨⟨rfl, rfl, rfl, rfl, rfl, rfl, rfl, trivial⟩, hO, h_t, hB⟩
     ·replace H := ifn h25 H
      refine GoR.op ((fun w => opB (op_eql rfl rfl w) (decide_eq_false h25)) _) rfl rfl ?_
      refine GoR.op ((op_pickT rfl rfl rfl) _) rfl rfl ?_
      refine GoR.op ((op_assign rfl) _) rfl rfl ?_
      refine GoR.nil ?_
      refine Go1.inBlock ?_
      refine Go1.region ?_
      refine GoR.op ((op_add rfl rfl (wrap_i64 (natbd h7 h_t.bd))) _) rfl rfl ?_
      refine GoR.op ((op_move rfl) _) rfl rfl ?_
      refine GoR.nil ?_
      exact hX2 _ H _ _ ⟨⟨rfl, rfl, rfl, rfl, rfl, rfl, rfl, trivial⟩, hO, h_t, hB⟩
    ·replace H := ifn h16 H
     refine GoR.op ((fun w => opB (op_eql rfl rfl w) (decide_eq_false h16)) _) rfl rfl ?_
     refine GoR.op ((op_pickT rfl rfl rfl) _) rfl rfl ?_
     refine GoR.op ((op_move rfl) _) rfl rfl ?_
     refine GoR.pass rfl rfl ?_
     refine GoR.pass rfl rfl ?_
     refine GoR.pass rfl rfl ?_
     refine GoR.pass rfl rfl ?_
     refine GoR.pass rfl rfl ?_
     refine GoR.pass rfl rfl ?_
     refine GoR.pass rfl rfl ?_
     refine GoR.pass rfl rfl ?_
     refine GoR.pass rfl rfl ?_
     refine GoR.op ((op_pickF rfl rfl rfl) _) rfl rfl ?_
     refine GoR.op ((op_assign rfl) _) rfl rfl ?_
     refine GoR.nil ?_
     refine Go1.inBlock ?_
     refine Go1.region ?_
     refine GoR.op ((op_add rfl rfl (wrap_i64 (natbd h7 h_t.bd))) _) rfl rfl ?_
     refine GoR.op ((op_move rfl) _) rfl rfl ?_
     refine GoR.nil ?_
     exact hX2 _ H _ _ ⟨⟨rfl, rfl, rfl, rfl, rfl, rfl, rfl, trivial⟩, hO, h_t, hB⟩
  ·replace H := ifn h7 H
   refine GoR.op ((fun w => opB (op_lss rfl rfl w) (decide_eq_false h7)) _) rfl rfl ?_
   refine GoR.nil ?_
   refine Go1.seq ?_
   refine Go1.condF rfl rfl ?_
   refine Go1.exit rfl ?_
   refine Go1.seq ?_
   refine Go1.region ?_
   refine GoR.op ((op_move rfl) _) rfl rfl ?_
   refine GoR.nil ?_
   cases ok2_5
   ·replace H := ifn Bool.false_ne_true H
    refine Go1.condF rfl rfl ?_
    refine Go1.skip ?_
    refine Go1.inBlock ?_
    refine Go1.region ?_
    refine GoR.op ((op_add rfl rfl (wrap_i64 (natbd h3 h_t.bd))) _) rfl rfl ?_
    refine GoR.op ((op_move rfl) _) rfl rfl ?_
    refine GoR.nil ?_
    exact hX1 _ H _ _ ⟨⟨rfl, rfl, rfl, trivial⟩, hO, h_t, hB⟩
   ·replace H := ifp rfl H
    refine Go1.condT rfl rfl ?_
    refine Go1.seq ?_
    refine Go1.region ?_
    refine GoR.op ((op_move rfl) _) rfl rfl ?_
    refine GoR.op ((op_assign rfl) _) rfl rfl ?_
    refine GoR.nil ?_
    refine Go1.ret1 Try.func38 rfl ?_
    exact ⟨(k1_2 : Int), rfl, hB.same, H⟩
 ·replace H := ifn h3 H
  refine GoR.op ((fun w => opB (op_lss rfl rfl w) (decide_eq_false h3)) _) rfl rfl ?_
  refine GoR.nil ?_
  refine Go1.seq ?_
  refine Go1.condF rfl rfl ?_
  refine Go1.exit rfl ?_
  refine Go1.seq ?_
  refine Go1.region ?_
  refine GoR.op ((op_assign rfl) _) rfl rfl ?_
  refine GoR.nil ?_
  refine Go1.ret1 Try.func38 rfl ?_
  exact ⟨(-1 : Int), rfl, hB.same, H⟩
theorem body39 : Body Try.prog 39 := ⟨Try.f39, Try.func39, rfl, by kernel_rfl⟩
theorem walk_ref14_Zero {A : List Nat} {w0 : World} {p_t : Option Addr} {c_t : Nat} {t : List (List Int)} (hA : ∀ b ∈ A, b < w0.heap.size) (h_t : ISl (Rp.sl (Rp.int .i64)) A w0 p_t c_t t) {K : Int → Prop} (H : ref14_Zero t K) :
    CallsV Try.prog 39 #[.slice p_t t.length c_t] w0 (fun v w' => ∃ (r0 : Int), v = .int .i64 r0 ∧ Same w0 w' ∧ K r0) := by
 refine CallsV.of (l := [.slice p_t t.length c_t]) Try.func39 rfl Try.ntmps39 rfl ?_
 have hO := Owns.start hA
 have hB := Fr.refl (bl []) w0
 unfold ref14_Zero at H
 replace h_t := h_t.ch (Ch.start A w0)
 refine Go1.seq ?_
 refine Go1.region ?_
 refine GoR.op ((op_assign rfl) _) rfl rfl ?_
 refine GoR.nil ?_
 refine Go1.seq ?_
 refine Go1.seq ?_
 refine Go1.region ?_
 refine GoR.op ((op_move rfl) _) rfl rfl ?_
 refine GoR.op ((op_len Try.underlying22 rfl) _) rfl rfl ?_
 replace H := H h_t.bd
 refine GoR.op ((op_move rfl) _) rfl rfl ?_
 refine GoR.nil ?_
 refine Go1.block ?_
 refine Go1.loopW (S := Nat) (fun s σ w => agrees σ [(0, .slice p_t t.length c_t), (7, .int .i64 (t.length : Int)), (8, .int .i64 (s : Int))] ∧ Owns w0.heap.size w [] A ∧ ISl (Rp.sl (Rp.int .i64)) (bl [] ++ A) w p_t c_t t ∧ Fr (bl []) w0 (bl []) w) H ⟨⟨rfl, rfl, rfl, trivial⟩, hO, h_t, hB⟩ ?_
 rintro X1 k1_2 H hX1 σ w1 ⟨hag, hO, h_t, hB⟩
 refine Go1.keep [(0, .slice p_t t.length c_t), (7, .int .i64 (t.length : Int)), (8, .int .i64 (k1_2 : Int))] hag ?_
 refine Go1.seq ?_
 refine Go1.region ?_
 by_cases h3 : (k1_2 : Int) < (t.length : Int)
 ·replace H := ifp h3 H
  refine GoR.op ((fun w => opB (op_lss rfl rfl w) (decide_eq_true h3)) _) rfl rfl ?_
  refine GoR.nil ?_
  refine Go1.seq ?_
  refine Go1.condT rfl rfl ?_
  refine Go1.skip ?_
  refine Go1.seq ?_
  refine Go1.block ?_
  refine Go1.seq ?_
  refine Go1.region ?_
  refine GoR.op ((op_move rfl) _) rfl rfl ?_
  refine GoR.op ((op_assign rfl) _) rfl rfl ?_
  refine GoR.nil ?_
  refine Go1.seq ?_
  refine Go1.region ?_
  refine GoR.op ((op_assign rfl) _) rfl rfl ?_
  refine GoR.nil ?_
  refine Go1.seq ?_
  refine Go1.seq ?_
  refine Go1.region ?_
  refine GoR.op ((op_move rfl) _) rfl rfl ?_
  refine GoR.op ((op_len Try.underlying22 rfl) _) rfl rfl ?_
  refine GoR.op ((op_move rfl) _) rfl rfl ?_
  refine GoR.nil ?_
  refine Go1.block ?_
  refine Go1.loopW (S := Bool × Nat) (fun s σ w => agrees σ [(0, .slice p_t t.length c_t), (3, .int .i64 (k1_2 : Int)), (4, .bool (s.1)), (7, .int .i64 (t.length : Int)), (8, .int .i64 (k1_2 : Int)), (12, .int .i64 (t.length : Int)), (13, .int .i64 ((s.2) : Int))] ∧ Owns w0.heap.size w [] A ∧ ISl (Rp.sl (Rp.int .i64)) (bl [] ++ A) w p_t c_t t ∧ Fr (bl []) w0 (bl []) w) H ⟨⟨rfl, rfl, rfl, rfl, rfl, rfl, rfl, trivial⟩, hO, h_t, hB⟩ ?_
  rintro X2 ⟨ok2_5, k2_6⟩ H hX2 σ w4 ⟨hag, hO, h_t, hB⟩
  dsimp only at H
  refine Go1.keep [(0, .slice p_t t.length c_t), (3, .int .i64 (k1_2 : Int)), (4, .bool ok2_5), (7, .int .i64 (t.length : Int)), (8, .int .i64 (k1_2 : Int)), (12, .int .i64 (t.length : Int)), (13, .int .i64 (k2_6 : Int))] hag ?_
  refine Go1.seq ?_
  refine Go1.region ?_
  by_cases h7 : (k2_6 : Int) < (t.length : Int)
  ·replace H := ifp h7 H
   refine GoR.op ((fun w => opB (op_lss rfl rfl w) (decide_eq_true h7)) _) rfl rfl ?_
   refine GoR.nil ?_
   refine Go1.seq ?_
   refine Go1.condT rfl rfl ?_
   refine Go1.skip ?_
   refine Go1.seq ?_
   refine Go1.block ?_
   refine Go1.seq ?_
   refine Go1.region ?_
   refine GoR.op ((op_move rfl) _) rfl rfl ?_
   refine GoR.op ((op_assign rfl) _) rfl rfl ?_
   refine GoR.nil ?_
   refine Go1.region ?_
   refine GoR.op ((op_move rfl) _) rfl rfl ?_
   refine GoR.op ((op_move rfl) _) rfl rfl ?_
   cases ok2_5
   ·replace H := ifn Bool.false_ne_true H
    refine GoR.pass rfl rfl ?_
    refine GoR.pass rfl rfl ?_
    refine GoR.pass rfl rfl ?_
    refine GoR.pass rfl rfl ?_
    refine GoR.pass rfl rfl ?_
    refine GoR.pass rfl rfl ?_
    refine GoR.pass rfl rfl ?_
    refine GoR.pass rfl rfl ?_
    refine GoR.pass rfl rfl ?_
    refine GoR.op ((op_pickF rfl rfl rfl) _) rfl rfl ?_
    refine GoR.op ((op_move rfl) _) rfl rfl ?_
    refine GoR.pass rfl rfl ?_
    refine GoR.pass rfl rfl ?_
    refine GoR.pass rfl rfl ?_
    refine GoR.pass rfl rfl ?_
    refine GoR.pass rfl rfl ?_
    refine GoR.pass rfl rfl ?_
    refine GoR.pass rfl rfl ?_
    refine GoR.pass rfl rfl ?_
    refine GoR.pass rfl rfl ?_
    refine GoR.op ((op_pickF rfl rfl rfl) _) rfl rfl ?_
    refine GoR.op ((op_assign rfl) _) rfl rfl ?_
    refine GoR.nil ?_
    refine Go1.inBlock ?_
    refine Go1.region ?_
    refine GoR.op ((op_add rfl rfl (wrap_i64 (natbd h7 h_t.bd))) _) rfl rfl ?_
    refine GoR.op ((op_move rfl) _) rfl rfl ?_
    refine GoR.nil ?_
    exact hX2 _ H _ _ ⟨⟨rfl, rfl, rfl, rfl, rfl, rfl, rfl, trivial⟩, hO, h_t, hB⟩
   ·replace H := ifp rfl H
    refine GoR.op ((op_move rfl) _) rfl rfl ?_
    refine GoR.op ((op_move rfl) _) rfl rfl ?_
    obtain ⟨h8, H⟩ := H
    obtain ⟨h9, H⟩ := H
    refine GoR.op ((op_index Try.underlying22 ti23 rfl rfl h8 h9 (h_t.some_ h8 h9)) _) rfl rfl ?_
    have hobt := ldSl h_t h8 h9
    obtain ⟨p10, c11, hi12, hl13⟩ := hobt
    refine GoR.op ((hl13 Try.underlying23 rfl rfl) _ (Same.refl _)) rfl rfl ?_
    refine GoR.op ((op_move rfl) _) rfl rfl ?_
    obtain ⟨h14, H⟩ := H
    obtain ⟨h15, H⟩ := H
    refine GoR.op ((op_index Try.underlying23 ti3 rfl rfl h14 h15 (hi12.some_ h14 h15)) _) rfl rfl ?_
    refine GoR.op ((ldInt hi12 h14 h15 Try.underlying3 rfl rfl) _ (Same.refl _)) rfl rfl ?_
    refine GoR.op ((op_move rfl) _) rfl rfl ?_
    by_cases h16 : (ix (ix t (k1_2 : Int)) (k2_6 : Int)) = (k1_2 : Int)
    ·replace H := ifp h16 H
     refine GoR.op ((fun w => opB (op_eql rfl rfl w) (decide_eq_true h16)) _) rfl rfl ?_
     refine GoR.op ((op_pickT rfl rfl rfl) _) rfl rfl ?_
     refine GoR.op ((op_move rfl) _) rfl rfl ?_
     refine GoR.op ((op_move rfl) _) rfl rfl ?_
     refine GoR.op ((op_move rfl) _) rfl rfl ?_
     obtain ⟨h17, H⟩ := H
     obtain ⟨h18, H⟩ := H
     refine GoR.op ((op_index Try.underlying22 ti23 rfl rfl h17 h18 (h_t.some_ h17 h18)) _) rfl rfl ?_
     have hobt := ldSl h_t h17 h18
     obtain ⟨p19, c20, hi21, hl22⟩ := hobt
     refine GoR.op ((hl22 Try.underlying23 rfl rfl) _ (Same.refl _)) rfl rfl ?_
     refine GoR.op ((op_move rfl) _) rfl rfl ?_
     obtain ⟨h23, H⟩ := H
     obtain ⟨h24, H⟩ := H
     refine GoR.op ((op_index Try.underlying23 ti3 rfl rfl h23 h24 (hi21.some_ h23 h24)) _) rfl rfl ?_
     refine GoR.op ((ldInt hi21 h23 h24 Try.underlying3 rfl rfl) _ (Same.refl _)) rfl rfl ?_
     refine GoR.op ((op_move rfl) _) rfl rfl ?_
     by_cases h25 : (ix (ix t (k2_6 : Int)) (k1_2 : Int)) = (k1_2 : Int)
     ·replace H := ifp h25 H
      refine GoR.op ((fun w => opB (op_eql rfl rfl w) (decide_eq_true h25)) _) rfl rfl ?_
      refine GoR.op ((op_pickT rfl rfl rfl) _) rfl rfl ?_
      refine GoR.op ((op_assign rfl) _) rfl rfl ?_
      refine GoR.nil ?_
      refine Go1.inBlock ?_
      refine Go1.region ?_
      refine GoR.op ((op_add rfl rfl (wrap_i64 (natbd h7 h_t.bd))) _) rfl rfl ?_
      refine GoR.op ((op_move rfl) _) rfl rfl ?_
      refine GoR.nil ?_
      exact hX2 _ H _ _ ⟨⟨rfl, rfl, rfl, rfl, rfl, rfl, rfl, trivial⟩, hO, h_t, hB⟩
     ·replace H := ifn h25 H
      refine GoR.op ((fun w => opB (op_eql rfl rfl w) (decide_eq_false h25)) _) rfl rfl ?_
      refine GoR.op ((op_pickT rfl rfl rfl) _) rfl rfl ?_
      refine GoR.op ((op_assign rfl) _) rfl rfl ?_
      refine GoR.nil ?_
      refine Go1.inBlock ?_
      refine Go1.region ?_
      refine GoR.op ((op_add rfl rfl (wrap_i64 (natbd h7 h_t.bd))) _) rfl rfl ?_
      refine GoR.op ((op_move rfl) _) rfl rfl ?_
      refine GoR.nil ?_
      exact hX2 _ H _ _ ⟨⟨rfl, rfl, rfl, rfl, rfl, rfl, rfl, trivial⟩, hO, h_t, hB⟩
    ·replace H := ifn h16 H
     refine GoR.op ((fun w => opB (op_eql rfl rfl w) (decide_eq_false h16)) _) rfl rfl ?_
     refine GoR.op ((op_pickT rfl rfl rfl) _) rfl rfl ?_
     refine GoR.op ((op_move rfl) _) rfl rfl ?_
     refine GoR.pass rfl rfl ?_
     refine GoR.pass rfl rfl ?_
     refine GoR.pass rfl rfl ?_
     refine GoR.pass rfl rfl ?_
     refine GoR.pass rfl rfl ?_
     refine GoR.pass rfl rfl ?_
     refine GoR.pass rfl rfl ?_
     refine GoR.pass rfl rfl ?_
     refine GoR.pass rfl rfl ?_
     refine GoR.op ((op_pickF rfl rfl rfl) _) rfl rfl ?_
     refine GoR.op ((op_assign rfl) _) rfl rfl ?_
     refine GoR.nil ?_
     refine Go1.inBlock ?_
     refine Go1.region ?_
     refine GoR.op ((op_add rfl rfl (wrap_i64 (natbd h7 h_t.bd))) _) rfl rfl ?_
     refine GoR.op ((op_move rfl) _) rfl rfl ?_
     refine GoR.nil ?_
     exact hX2 _ H _ _ ⟨⟨rfl, rfl, rfl, rfl, rfl, rfl, rfl, trivial⟩, hO, h_t, hB⟩
  ·replace H := ifn h7 H
   refine GoR.op ((fun w => opB (op_lss rfl rfl w) (decide_eq_false h7)) _) rfl rfl ?_
   refine GoR.nil ?_
   refine Go1.seq ?_
   refine Go1.condF rfl rfl ?_
   refine Go1.exit rfl ?_
   refine Go1.seq ?_
   refine Go1.region ?_
   refine GoR.op ((op_move rfl) _) rfl rfl ?_
   refine GoR.nil ?_
   cases ok2_5
   ·replace H := ifn Bool.false_ne_true H
    refine Go1.condF rfl rfl ?_
    refine Go1.skip ?_
    refine Go1.inBlock ?_
    refine Go1.region ?_
    refine GoR.op ((op_add rfl rfl (wrap_i64 (natbd h3 h_t.bd))) _) rfl rfl ?_
    refine GoR.op ((op_move rfl) _) rfl rfl ?_
    refine GoR.nil ?_
    exact hX1 _ H _ _ ⟨⟨rfl, rfl, rfl, trivial⟩, hO, h_t, hB⟩
   ·replace H := ifp rfl H
    refine Go1.condT rfl rfl ?_
    refine Go1.seq ?_
    refine Go1.region ?_
    refine GoR.op ((op_move rfl) _) rfl rfl ?_
    refine GoR.op ((op_assign rfl) _) rfl rfl ?_
    refine GoR.nil ?_
    refine Go1.ret1 Try.func39 rfl ?_
    exact ⟨(k1_2 : Int), rfl, hB.same, H⟩
 ·replace H := ifn h3 H
  refine GoR.op ((fun w => opB (op_lss rfl rfl w) (decide_eq_false h3)) _) rfl rfl ?_
  refine GoR.nil ?_
  refine Go1.seq ?_
  refine Go1.condF rfl rfl ?_
  refine Go1.exit rfl ?_
  refine Go1.seq ?_
  refine Go1.region ?_
  refine GoR.op ((op_assign rfl) _) rfl rfl ?_
  refine GoR.nil ?_
  refine Go1.ret1 Try.func39 rfl ?_
  exact ⟨(-1 : Int), rfl, hB.same, H⟩
theorem body41 : Body Try.prog 41 := ⟨Try.f41, Try.func41, rfl, by kernel_rfl⟩
theorem walk_ref14_Idempotents {A : List Nat} {w0 : World} {p_t : Option Addr} {c_t : Nat} {t : List (List Int)} (hA : ∀ b ∈ A, b < w0.heap.size) (h_t : ISl (Rp.sl (Rp.int .i64)) A w0 p_t c_t t) {K : List Int → Prop} (H : ref14_Idempotents t K) :
    CallsV Try.prog 41 #[.slice p_t t.length c_t] w0 (fun v w' => ∃ (r0 : List Int), ∃ (p_r0 : Option Addr), ∃ (c_r0 : Nat), v = .slice p_r0 r0.length c_r0 ∧ Same w0 w' ∧ ISl (Rp.int .i64) A w' p_r0 c_r0 r0 ∧ K r0) := by
 refine CallsV.of (l := [.slice p_t t.length c_t]) Try.func41 rfl Try.ntmps41 rfl ?_
 have hO := Owns.start hA
 have hB := Fr.refl (bl []) w0
 unfold ref14_Idempotents at H
 replace h_t := h_t.ch (Ch.start A w0)
 refine Go1.seq ?_
 refine Go1.region ?_
 refine GoR.op ((op_assign rfl) _) rfl rfl ?_
 refine GoR.nil ?_
 refine Go1.seq ?_
 refine Go1.region ?_
 refine GoR.op ((op_assign rfl) _) rfl rfl ?_
 refine GoR.nil ?_
 refine Go1.seq ?_
 refine Go1.seq ?_
 refine Go1.region ?_
 refine GoR.op ((op_move rfl) _) rfl rfl ?_
 refine GoR.op ((op_len Try.underlying22 rfl) _) rfl rfl ?_
 replace H := H h_t.bd
 refine GoR.op ((op_move rfl) _) rfl rfl ?_
 refine GoR.nil ?_
 refine Go1.block ?_
 have hst2 := Stp.nil (e := 3) (r := 1) hO
 replace hO := hst2.own
 replace h_t := h_t.ch hst2.ch
 replace hB := hB.trans hst2.fr
 have hE3 := Els.nil (Rp.int .i64) (bl (.row 3 1 none 0 0 [] :: []) ++ A) w0
 refine Go1.loopW (S := Nat × List Int) (fun s σ w => ∃ (n11 : Nat), ∃ (p9 : Option Addr), ∃ (c10 : Nat), ∃ (vs7 : List Value), agrees σ [(0, .slice p_t t.length c_t), (3, .slice p9 n11 c10), (6, .int .i64 (t.length : Int)), (7, .int .i64 ((s.1) : Int))] ∧ Owns w0.heap.size w [.row 3 1 p9 n11 c10 vs7] A ∧ Els (Rp.int .i64) (bl [.row 3 1 p9 n11 c10 vs7] ++ A) w vs7 (s.2) ∧ ISl (Rp.sl (Rp.int .i64)) (bl [.row 3 1 p9 n11 c10 vs7] ++ A) w p_t c_t t ∧ Fr (bl []) w0 (bl [.row 3 1 p9 n11 c10 vs7]) w) H ⟨0, none, 0, [], ⟨rfl, rfl, rfl, rfl, trivial⟩, hO, hE3, h_t, hB⟩ ?_
 rintro X1 ⟨k1_5, out1_6⟩ H hX1 σ w4 ⟨n11, p9, c10, vs7, hag, hO, hE8, h_t, hB⟩
 dsimp only at H
 refine Go1.keep [(0, .slice p_t t.length c_t), (3, .slice p9 n11 c10), (6, .int .i64 (t.length : Int)), (7, .int .i64 (k1_5 : Int))] hag ?_
 refine Go1.seq ?_
 refine Go1.region ?_
 by_cases h12 : (k1_5 : Int) < (t.length : Int)
 ·replace H := ifp h12 H
  refine GoR.op ((fun w => opB (op_lss rfl rfl w) (decide_eq_true h12)) _) rfl rfl ?_
  refine GoR.nil ?_
  refine Go1.seq ?_
  refine Go1.condT rfl rfl ?_
  refine Go1.skip ?_
  refine Go1.seq ?_
  refine Go1.block ?_
  refine Go1.seq ?_
  refine Go1.region ?_
  refine GoR.op ((op_move rfl) _) rfl rfl ?_
  refine GoR.op ((op_assign rfl) _) rfl rfl ?_
  refine GoR.nil ?_
  refine Go1.seq ?_
  refine Go1.region ?_
  refine GoR.op ((op_move rfl) _) rfl rfl ?_
  refine GoR.op ((op_move rfl) _) rfl rfl ?_
  obtain ⟨h13, H⟩ := H
  obtain ⟨h14, H⟩ := H
  refine GoR.op ((op_index Try.underlying22 ti23 rfl rfl h13 h14 (h_t.some_ h13 h14)) _) rfl rfl ?_
  have hobt := ldSl h_t h13 h14
  obtain ⟨p15, c16, hi17, hl18⟩ := hobt
  refine GoR.op ((hl18 Try.underlying23 rfl rfl) _ (Same.refl _)) rfl rfl ?_
  refine GoR.op ((op_move rfl) _) rfl rfl ?_
  obtain ⟨h19, H⟩ := H
  obtain ⟨h20, H⟩ := H
  refine GoR.op ((op_index Try.underlying23 ti3 rfl rfl h19 h20 (hi17.some_ h19 h20)) _) rfl rfl ?_
  refine GoR.op ((ldInt hi17 h19 h20 Try.underlying3 rfl rfl) _ (Same.refl _)) rfl rfl ?_
  refine GoR.op ((op_move rfl) _) rfl rfl ?_
  by_cases h21 : (ix (ix t (k1_5 : Int)) (k1_5 : Int)) = (k1_5 : Int)
  ·replace H := ifp h21 H
   refine GoR.op ((fun w => opB (op_eql rfl rfl w) (decide_eq_true h21)) _) rfl rfl ?_
   refine GoR.nil ?_
   refine Go1.condT rfl rfl ?_
   refine Go1.region ?_
   refine GoR.op ((op_move rfl) _) rfl rfl ?_
   refine GoR.op ((op_move rfl) _) rfl rfl ?_
   have hobt := obuild (r := Rp.int .i64) (n := 1) (parts := [(0, .int .i64 (k1_5 : Int))]) (vs := [.int .i64 (k1_5 : Int)]) (xs := [(k1_5 : Int)]) rfl Try.underlying23 ti3 hO (by decide) (by kernel_rfl) (Els.cons rfl rfl (Els.nil _ _ _) (by simp [mx])) rfl
   obtain ⟨w22, p23, hst24, hE25, hs26, hop27⟩ := hobt
   refine GoR.op (hop27 rfl) rfl rfl ?_
   replace hE8 := hE8.ch hst24.ch
   replace hO := hst24.own
   replace h_t := h_t.ch hst24.ch
   replace hi17 := hi17.ch hst24.ch
   replace hB := hB.trans hst24.fr
   have hobt := freeze 0 hO rfl hE25
   obtain ⟨hO1, hc31, hi29, hn30⟩ := hobt
   replace h_t := h_t.ch hc31
   replace hi17 := hi17.ch hc31
   replace hE8 := hE8.ch hc31
   replace hB := hB.trans (Owns.dropFr _ _ 0)
   replace hO := hO1; clear hO1
   obtain ⟨h32, H⟩ := H
   have hobt := oapp Try.underlying23 ti3 rfl 0 hO rfl hE8 hi29 hn30 h32 (by decide)
   obtain ⟨w33, p34, c35, vs36, hst37, hE38, hop39⟩ := hobt
   refine GoR.op (hop39 rfl rfl) rfl rfl ?_
   replace hO := hst37.own
   replace h_t := h_t.ch hst37.ch
   replace hi17 := hi17.ch hst37.ch
   replace hi29 := hi29.ch hst37.ch
   replace hB := hB.trans hst37.fr
   refine GoR.op ((op_assign rfl) _) rfl rfl ?_
   refine GoR.nil ?_
   refine Go1.inBlock ?_
   refine Go1.region ?_
   refine GoR.op ((op_add rfl rfl (wrap_i64 (natbd h12 h_t.bd))) _) rfl rfl ?_
   refine GoR.op ((op_move rfl) _) rfl rfl ?_
   refine GoR.nil ?_
   exact hX1 _ H _ _ ⟨n11 + 1, p34, c35, vs36, ⟨rfl, rfl, rfl, rfl, trivial⟩, hO, hE38, h_t, hB⟩
  ·replace H := ifn h21 H
   refine GoR.op ((fun w => opB (op_eql rfl rfl w) (decide_eq_false h21)) _) rfl rfl ?_
   refine GoR.nil ?_
   refine Go1.condF rfl rfl ?_
   refine Go1.skip ?_
   refine Go1.inBlock ?_
   refine Go1.region ?_
   refine GoR.op ((op_add rfl rfl (wrap_i64 (natbd h12 h_t.bd))) _) rfl rfl ?_
   refine GoR.op ((op_move rfl) _) rfl rfl ?_
   refine GoR.nil ?_
   exact hX1 _ H _ _ ⟨n11, p9, c10, vs7, ⟨rfl, rfl, rfl, rfl, trivial⟩, hO, hE8, h_t, hB⟩
 ·replace H := ifn h12 H
  refine GoR.op ((fun w => opB (op_lss rfl rfl w) (decide_eq_false h12)) _) rfl rfl ?_
  refine GoR.nil ?_
  refine Go1.seq ?_
  refine Go1.condF rfl rfl ?_
  refine Go1.exit rfl ?_
  refine Go1.seq ?_
  refine Go1.region ?_
  refine GoR.op ((op_move rfl) _) rfl rfl ?_
  refine GoR.op ((op_assign rfl) _) rfl rfl ?_
  refine GoR.nil ?_
  have hobt := freeze 0 hO rfl hE8
  obtain ⟨hO1, hc43, hi41, hn42⟩ := hobt
  replace h_t := h_t.ch hc43
  replace hB := hB.trans (Owns.dropFr _ _ 0)
  replace hO := hO1; clear hO1
  refine Go1.ret1 Try.func41 rfl ?_
  exact ⟨out1_6, p9, c10, ((congrArg (fun nn => Value.slice p9 nn c10) hn42)), hB.same, (hi41.ch (Ch.weak _ _ _)), H⟩
theorem body40 : Body Try.prog 40 := ⟨Try.f40, Try.func40, rfl, by kernel_rfl⟩
theorem walk_ref03_Same {A : List Nat} {w0 : World} {p_a : Option Addr} {c_a : Nat} {p_b : Option Addr} {c_b : Nat} {a : List Int} {b : List Int} (hA : ∀ b ∈ A, b < w0.heap.size) (h_a : ISl (Rp.int .i64) A w0 p_a c_a a) (h_b : ISl (Rp.int .i64) A w0 p_b c_b b) {K : Bool → Prop} (H : ref03_Same a b K) :
    CallsV Try.prog 40 #[.slice p_a a.length c_a, .slice p_b b.length c_b] w0 (fun v w' => ∃ (r0 : Bool), v = .bool r0 ∧ Same w0 w' ∧ K r0) := by
 refine CallsV.of (l := [.slice p_a a.length c_a, .slice p_b b.length c_b]) Try.func40 rfl Try.ntmps40 rfl ?_
 have hO := Owns.start hA
 have hB := Fr.refl (bl []) w0
 unfold ref03_Same at H
 replace h_a := h_a.ch (Ch.start A w0)
 replace h_b := h_b.ch (Ch.start A w0)
 refine Go1.seq ?_
 refine Go1.region ?_
 refine GoR.op ((op_assign rfl) _) rfl rfl ?_
 refine GoR.nil ?_
 refine Go1.seq ?_
 refine Go1.seq ?_
 refine Go1.region ?_
 refine GoR.op ((op_move rfl) _) rfl rfl ?_
 refine GoR.op ((op_len Try.underlying23 rfl) _) rfl rfl ?_
 replace H := H h_a.bd
 refine GoR.op ((op_move rfl) _) rfl rfl ?_
 refine GoR.op ((op_len Try.underlying23 rfl) _) rfl rfl ?_
 replace H := H h_b.bd
 by_cases h1 : (a.length : Int) = (b.length : Int)
 ·replace H := ifp h1 H
  refine GoR.op ((fun w => opB (op_neq rfl rfl w) (ndT h1)) _) rfl rfl ?_
  refine GoR.nil ?_
  refine Go1.condF rfl rfl ?_
  refine Go1.skip ?_
  refine Go1.seq ?_
  refine Go1.seq ?_
  refine Go1.region ?_
  refine GoR.op ((op_move rfl) _) rfl rfl ?_
  refine GoR.op ((op_len Try.underlying23 rfl) _) rfl rfl ?_
  refine GoR.op ((op_move rfl) _) rfl rfl ?_
  refine GoR.nil ?_
  refine Go1.block ?_
  refine Go1.loopW (S := Nat) (fun s σ w => agrees σ [(0, .slice p_a a.length c_a), (1, .slice p_b b.length c_b), (12, .int .i64 (a.length : Int)), (13, .int .i64 (s : Int))] ∧ Owns w0.heap.size w [] A ∧ ISl (Rp.int .i64) (bl [] ++ A) w p_a c_a a ∧ ISl (Rp.int .i64) (bl [] ++ A) w p_b c_b b ∧ Fr (bl []) w0 (bl []) w) H ⟨⟨rfl, rfl, rfl, rfl, trivial⟩, hO, h_a, h_b, hB⟩ ?_
  rintro X1 k1_3 H hX1 σ w2 ⟨hag, hO, h_a, h_b, hB⟩
  refine Go1.keep [(0, .slice p_a a.length c_a), (1, .slice p_b b.length c_b), (12, .int .i64 (a.length : Int)), (13, .int .i64 (k1_3 : Int))] hag ?_
  refine Go1.seq ?_
  refine Go1.region ?_
  by_cases h4 : (k1_3 : Int) < (a.length : Int)
  ·replace H := ifp h4 H
   refine GoR.op ((fun w => opB (op_lss rfl rfl w) (decide_eq_true h4)) _) rfl rfl ?_
   refine GoR.nil ?_
   refine Go1.seq ?_
   refine Go1.condT rfl rfl ?_
   refine Go1.skip ?_
   refine Go1.seq ?_
   refine Go1.block ?_
   refine Go1.seq ?_
   refine Go1.region ?_
   refine GoR.op ((op_move rfl) _) rfl rfl ?_
   refine GoR.op ((op_assign rfl) _) rfl rfl ?_
   refine GoR.nil ?_
   refine Go1.seq ?_
   refine Go1.drawS 0 [(0, .pure), (1, .pure), (2, .pure), (3, .stable), (4, .pure), (5, .pure), (6, .pure), (7, .stable), (8, .pure)] mixed (by kernel_rfl) ?_
   intro w5 hs6
   have hst7 := Stp.same hO hs6
   replace hO := hst7.own
   replace h_a := h_a.ch hst7.ch
   replace h_b := h_b.ch hst7.ch
   replace hB := hB.trans hst7.fr
   refine GoQ.pure rfl (op_move rfl) rfl rfl ?_
   refine GoQ.pure rfl (op_move rfl) rfl rfl ?_
   obtain ⟨h8, H⟩ := H
   obtain ⟨h9, H⟩ := H
   refine GoQ.pure rfl (op_index Try.underlying23 ti3 rfl rfl h8 h9 (h_a.some_ h8 h9)) rfl rfl ?_
   refine GoQ.stable rfl (ldInt h_a h8 h9 Try.underlying3 rfl rfl) rfl rfl ?_
   refine GoQ.pure rfl (op_move rfl) rfl rfl ?_
   refine GoQ.pure rfl (op_move rfl) rfl rfl ?_
   obtain ⟨h10, H⟩ := H
   obtain ⟨h11, H⟩ := H
   refine GoQ.pure rfl (op_index Try.underlying23 ti3 rfl rfl h10 h11 (h_b.some_ h10 h11)) rfl rfl ?_
   refine GoQ.stable rfl (ldInt h_b h10 h11 Try.underlying3 rfl rfl) rfl rfl ?_
   by_cases h12 : (ix a (k1_3 : Int)) = (ix b (k1_3 : Int))
   ·replace H := ifp h12 H
    refine GoQ.pure rfl (fun w => opB (op_neq rfl rfl w) (ndT h12)) rfl rfl ?_
    refine GoQ.nil ?_
    refine Go1.condF rfl rfl ?_
    refine Go1.skip ?_
    refine Go1.inBlock ?_
    refine Go1.region ?_
    refine GoR.op ((op_add rfl rfl (wrap_i64 (natbd h4 h_a.bd))) _) rfl rfl ?_
    refine GoR.op ((op_move rfl) _) rfl rfl ?_
    refine GoR.nil ?_
    exact hX1 _ H _ _ ⟨⟨rfl, rfl, rfl, rfl, trivial⟩, hO, h_a, h_b, hB⟩
   ·replace H := ifn h12 H
    refine GoQ.pure rfl (fun w => opB (op_neq rfl rfl w) (ndF h12)) rfl rfl ?_
    refine GoQ.nil ?_
    refine Go1.condT rfl rfl ?_
    refine Go1.seq ?_
    refine Go1.region ?_
    refine GoR.op ((op_assign rfl) _) rfl rfl ?_
    refine GoR.nil ?_
    refine Go1.ret1 Try.func40 rfl ?_
    exact ⟨false, rfl, hB.same, H⟩
  ·replace H := ifn h4 H
   refine GoR.op ((fun w => opB (op_lss rfl rfl w) (decide_eq_false h4)) _) rfl rfl ?_
   refine GoR.nil ?_
   refine Go1.seq ?_
   refine Go1.condF rfl rfl ?_
   refine Go1.exit rfl ?_
   refine Go1.seq ?_
   refine Go1.region ?_
   refine GoR.op ((op_assign rfl) _) rfl rfl ?_
   refine GoR.nil ?_
   refine Go1.ret1 Try.func40 rfl ?_
   exact ⟨true, rfl, hB.same, H⟩
 ·replace H := ifn h1 H
  refine GoR.op ((fun w => opB (op_neq rfl rfl w) (ndF h1)) _) rfl rfl ?_
  refine GoR.nil ?_
  refine Go1.condT rfl rfl ?_
  refine Go1.seq ?_
  refine Go1.region ?_
  refine GoR.op ((op_assign rfl) _) rfl rfl ?_
  refine GoR.nil ?_
  refine Go1.ret1 Try.func40 rfl ?_
  exact ⟨false, rfl, hB.same, H⟩
theorem body8 : Body Try.prog 8 := ⟨Try.f8, Try.func8, rfl, by kernel_rfl⟩
theorem walk_law14_MultSpecial {A : List Nat} {w0 : World} {p_t : Option Addr} {c_t : Nat} {t : List (List Int)} (hA : ∀ b ∈ A, b < w0.heap.size) (h_t : ISl (Rp.sl (Rp.int .i64)) A w0 p_t c_t t) {K : Bool → Prop} (H : law14_MultSpecial t K) :
    CallsV Try.prog 8 #[.slice p_t t.length c_t] w0 (fun v w' => ∃ (r0 : Bool), v = .bool r0 ∧ Same w0 w' ∧ K r0) := by
 refine CallsV.of (l := [.slice p_t t.length c_t]) Try.func8 rfl Try.ntmps8 rfl ?_
 have hO := Owns.start hA
 have hB := Fr.refl (bl []) w0
 unfold law14_MultSpecial at H
 replace h_t := h_t.ch (Ch.start A w0)
 refine Go1.seq ?_
 refine Go1.region ?_
 refine GoR.op ((op_assign rfl) _) rfl rfl ?_
 refine GoR.nil ?_
 refine Go1.seq ?_
 refine Go1.region ?_
 refine GoR.op ((op_move rfl) _) rfl rfl ?_
 refine GoR.call (op_call body35 rfl (walk_mult_Identity hO.lt h_t H)) rfl rfl ?_
 rintro v5 w2 ⟨r1, rfl, hs3, H⟩
 have hst6 := Stp.same hO hs3
 replace hO := hst6.own
 replace h_t := h_t.ch hst6.ch
 replace hB := hB.trans hst6.fr
 refine GoR.op ((op_move rfl) _) rfl rfl ?_
 refine GoR.call (op_call body36 rfl (walk_mult_Zero hO.lt h_t H)) rfl rfl ?_
 rintro v11 w8 ⟨r7, rfl, hs9, H⟩
 have hst12 := Stp.same hO hs9
 replace hO := hst12.own
 replace h_t := h_t.ch hst12.ch
 replace hB := hB.trans hst12.fr
 refine GoR.op ((op_move rfl) _) rfl rfl ?_
 refine GoR.call (op_call body37 rfl (walk_mult_Idempotents hO.lt h_t H)) rfl rfl ?_
 rintro v17 w14 ⟨r13, p_r13, c_r13, rfl, hs15, h_r13, H⟩
 have hst18 := Stp.same hO hs15
 replace hO := hst18.own
 replace h_t := h_t.ch hst18.ch
 replace hB := hB.trans hst18.fr
 refine GoR.op ((op_assign rfl) _) rfl rfl ?_
 refine GoR.op ((op_assign rfl) _) rfl rfl ?_
 refine GoR.op ((op_assign rfl) _) rfl rfl ?_
 refine GoR.nil ?_
 refine Go1.seq ?_
 refine Go1.seq ?_
 refine Go1.region ?_
 refine GoR.op ((op_move rfl) _) rfl rfl ?_
 refine GoR.call (op_call body19 rfl (walk_ref14_Shape hO.lt h_t H)) rfl rfl ?_
 rintro v23 w20 ⟨r19, rfl, hs21, H⟩
 have hst24 := Stp.same hO hs21
 replace hO := hst24.own
 replace h_t := h_t.ch hst24.ch
 replace h_r13 := h_r13.ch hst24.ch
 replace hB := hB.trans hst24.fr
 by_cases h25 : r19 = (0 : Int)
 ·replace H := ifp h25 H
  refine GoR.op ((fun w => opB (op_eql rfl rfl w) (decide_eq_true h25)) _) rfl rfl ?_
  refine GoR.op ((op_move rfl) _) rfl rfl ?_
  refine GoR.op ((op_move rfl) _) rfl rfl ?_
  refine GoR.op ((op_len Try.underlying22 rfl) _) rfl rfl ?_
  replace H := H h_t.bd
  by_cases h26 : (30 : Int) < (t.length : Int)
  ·replace H := ifp h26 H
   refine GoR.op ((fun w => opB (op_gtr rfl rfl w) (decide_eq_true h26)) _) rfl rfl ?_
   refine GoR.op ((op_pickT rfl rfl rfl) _) rfl rfl ?_
   refine GoR.nil ?_
   refine Go1.condT rfl rfl ?_
   refine Go1.seq ?_
   refine Go1.region ?_
   refine GoR.call (op_call body16 rfl (walk_law14_awake hO.lt H)) rfl rfl ?_
   rintro v31 w28 ⟨r27, rfl, hs29, H⟩
   have hst32 := Stp.same hO hs29
   replace hO := hst32.own
   replace h_t := h_t.ch hst32.ch
   replace h_r13 := h_r13.ch hst32.ch
   replace hB := hB.trans hst32.fr
   refine GoR.op ((op_assign rfl) _) rfl rfl ?_
   refine GoR.nil ?_
   refine Go1.ret1 Try.func8 rfl ?_
   exact ⟨r27, rfl, hB.same, H⟩
  ·replace H := ifn h26 H
   refine GoR.op ((fun w => opB (op_gtr rfl rfl w) (decide_eq_false h26)) _) rfl rfl ?_
   refine GoR.op ((op_pickT rfl rfl rfl) _) rfl rfl ?_
   refine GoR.nil ?_
   refine Go1.condF rfl rfl ?_
   refine Go1.skip ?_
   refine Go1.seq ?_
   refine Go1.seq ?_
   refine Go1.region ?_
   refine GoR.op ((op_move rfl) _) rfl rfl ?_
   refine GoR.call (op_call body26 rfl (walk_ref14_Valid hO.lt h_t H)) rfl rfl ?_
   rintro v37 w34 ⟨r33, rfl, hs35, H⟩
   have hst38 := Stp.same hO hs35
   replace hO := hst38.own
   replace h_t := h_t.ch hst38.ch
   replace h_r13 := h_r13.ch hst38.ch
   replace hB := hB.trans hst38.fr
   cases r33
   ·replace H := ifn Bool.false_ne_true H
    refine GoR.op ((op_not rfl) _) rfl rfl ?_
    refine GoR.nil ?_
    refine Go1.condT rfl rfl ?_
    refine Go1.seq ?_
    refine Go1.region ?_
    refine GoR.op ((op_move rfl) _) rfl rfl ?_
    by_cases h39 : r1 = (-1 : Int)
    ·replace H := ifp h39 H
     refine GoR.op ((fun w => opB (op_eql rfl rfl w) (decide_eq_true h39)) _) rfl rfl ?_
     refine GoR.op ((op_move rfl) _) rfl rfl ?_
     refine GoR.op ((op_move rfl) _) rfl rfl ?_
     by_cases h40 : r7 = (-1 : Int)
     ·replace H := ifp h40 H
      refine GoR.op ((fun w => opB (op_eql rfl rfl w) (decide_eq_true h40)) _) rfl rfl ?_
      refine GoR.op ((op_pickT rfl rfl rfl) _) rfl rfl ?_
      refine GoR.op ((op_move rfl) _) rfl rfl ?_
      refine GoR.op ((op_move rfl) _) rfl rfl ?_
      refine GoR.op ((op_len Try.underlying23 rfl) _) rfl rfl ?_
      replace H := H h_r13.bd
      by_cases h41 : (r13.length : Int) = (0 : Int)
      ·replace H := ifp h41 H
       refine GoR.op ((fun w => opB (op_eql rfl rfl w) (decide_eq_true h41)) _) rfl rfl ?_
       refine GoR.op ((op_pickT rfl rfl rfl) _) rfl rfl ?_
       refine GoR.op ((op_move rfl) _) rfl rfl ?_
       refine GoR.call (op_call body16 rfl (walk_law14_awake hO.lt H)) rfl rfl ?_
       rintro v46 w43 ⟨r42, rfl, hs44, H⟩
       have hst47 := Stp.same hO hs44
       replace hO := hst47.own
       replace h_t := h_t.ch hst47.ch
       replace h_r13 := h_r13.ch hst47.ch
       replace hB := hB.trans hst47.fr
       refine GoR.op ((op_pickT rfl rfl rfl) _) rfl rfl ?_
       refine GoR.op ((op_assign rfl) _) rfl rfl ?_
       refine GoR.nil ?_
       refine Go1.ret1 Try.func8 rfl ?_
       exact ⟨r42, rfl, hB.same, H⟩
      ·replace H := ifn h41 H
       refine GoR.op ((fun w => opB (op_eql rfl rfl w) (decide_eq_false h41)) _) rfl rfl ?_
       refine GoR.op ((op_pickT rfl rfl rfl) _) rfl rfl ?_
       refine GoR.op ((op_move rfl) _) rfl rfl ?_
       refine GoR.pass rfl rfl ?_
       refine GoR.op ((op_pickF rfl rfl rfl) _) rfl rfl ?_
       refine GoR.op ((op_assign rfl) _) rfl rfl ?_
       refine GoR.nil ?_
       refine Go1.ret1 Try.func8 rfl ?_
       exact ⟨false, rfl, hB.same, H⟩
     ·replace H := ifn h40 H
      refine GoR.op ((fun w => opB (op_eql rfl rfl w) (decide_eq_false h40)) _) rfl rfl ?_
      refine GoR.op ((op_pickT rfl rfl rfl) _) rfl rfl ?_
      refine GoR.op ((op_move rfl) _) rfl rfl ?_
      refine GoR.pass rfl rfl ?_
      refine GoR.pass rfl rfl ?_
      refine GoR.pass rfl rfl ?_
      refine GoR.op ((op_pickF rfl rfl rfl) _) rfl rfl ?_
      refine GoR.op ((op_move rfl) _) rfl rfl ?_
      refine GoR.pass rfl rfl ?_
      refine GoR.op ((op_pickF rfl rfl rfl) _) rfl rfl ?_
      refine GoR.op ((op_assign rfl) _) rfl rfl ?_
      refine GoR.nil ?_
      refine Go1.ret1 Try.func8 rfl ?_
      exact ⟨false, rfl, hB.same, H⟩
    ·replace H := ifn h39 H
     refine GoR.op ((fun w => opB (op_eql rfl rfl w) (decide_eq_false h39)) _) rfl rfl ?_
     refine GoR.op ((op_move rfl) _) rfl rfl ?_
     refine GoR.pass rfl rfl ?_
     refine GoR.pass rfl rfl ?_
     refine GoR.op ((op_pickF rfl rfl rfl) _) rfl rfl ?_
     refine GoR.op ((op_move rfl) _) rfl rfl ?_
     refine GoR.pass rfl rfl ?_
     refine GoR.pass rfl rfl ?_
     refine GoR.pass rfl rfl ?_
     refine GoR.op ((op_pickF rfl rfl rfl) _) rfl rfl ?_
     refine GoR.op ((op_move rfl) _) rfl rfl ?_
     refine GoR.pass rfl rfl ?_
     refine GoR.op ((op_pickF rfl rfl rfl) _) rfl rfl ?_
     refine GoR.op ((op_assign rfl) _) rfl rfl ?_
     refine GoR.nil ?_
     refine Go1.ret1 Try.func8 rfl ?_
     exact ⟨false, rfl, hB.same, H⟩
   ·replace H := ifp rfl H
    refine GoR.op ((op_not rfl) _) rfl rfl ?_
    refine GoR.nil ?_
    refine Go1.condF rfl rfl ?_
    refine Go1.skip ?_
    refine Go1.seq ?_
    refine Go1.region ?_
    refine GoR.op ((op_move rfl) _) rfl rfl ?_
    refine GoR.op ((op_move rfl) _) rfl rfl ?_
    refine GoR.call (op_call body38 rfl (walk_ref14_Identity hO.lt h_t H)) rfl rfl ?_
    rintro v52 w49 ⟨r48, rfl, hs50, H⟩
    have hst53 := Stp.same hO hs50
    replace hO := hst53.own
    replace h_t := h_t.ch hst53.ch
    replace h_r13 := h_r13.ch hst53.ch
    replace hB := hB.trans hst53.fr
    by_cases h54 : r1 = r48
    ·replace H := ifp h54 H
     refine GoR.op ((fun w => opB (op_eql rfl rfl w) (decide_eq_true h54)) _) rfl rfl ?_
     refine GoR.op ((op_move rfl) _) rfl rfl ?_
     refine GoR.op ((op_move rfl) _) rfl rfl ?_
     refine GoR.op ((op_move rfl) _) rfl rfl ?_
     refine GoR.call (op_call body39 rfl (walk_ref14_Zero hO.lt h_t H)) rfl rfl ?_
     rintro v59 w56 ⟨r55, rfl, hs57, H⟩
     have hst60 := Stp.same hO hs57
     replace hO := hst60.own
     replace h_t := h_t.ch hst60.ch
     replace h_r13 := h_r13.ch hst60.ch
     replace hB := hB.trans hst60.fr
     by_cases h61 : r7 = r55
     ·replace H := ifp h61 H
      refine GoR.op ((fun w => opB (op_eql rfl rfl w) (decide_eq_true h61)) _) rfl rfl ?_
      refine GoR.op ((op_pickT rfl rfl rfl) _) rfl rfl ?_
      refine GoR.op ((op_move rfl) _) rfl rfl ?_
      refine GoR.op ((op_move rfl) _) rfl rfl ?_
      refine GoR.op ((op_move rfl) _) rfl rfl ?_
      refine GoR.call (op_call body41 rfl (walk_ref14_Idempotents hO.lt h_t H)) rfl rfl ?_
      rintro v66 w63 ⟨r62, p_r62, c_r62, rfl, hs64, h_r62, H⟩
      have hst67 := Stp.same hO hs64
      replace hO := hst67.own
      replace h_t := h_t.ch hst67.ch
      replace h_r13 := h_r13.ch hst67.ch
      replace hB := hB.trans hst67.fr
      refine GoR.call (op_call body40 rfl (walk_ref03_Same hO.lt h_r13 h_r62 H)) rfl rfl ?_
      rintro v72 w69 ⟨r68, rfl, hs70, H⟩
      have hst73 := Stp.same hO hs70
      replace hO := hst73.own
      replace h_t := h_t.ch hst73.ch
      replace h_r13 := h_r13.ch hst73.ch
      replace h_r62 := h_r62.ch hst73.ch
      replace hB := hB.trans hst73.fr
      refine GoR.op ((op_pickT rfl rfl rfl) _) rfl rfl ?_
      refine GoR.op ((op_move rfl) _) rfl rfl ?_
      cases r68
      ·replace H := ifn Bool.false_ne_true H
       refine GoR.pass rfl rfl ?_
       refine GoR.pass rfl rfl ?_
       refine GoR.pass rfl rfl ?_
       refine GoR.op ((op_pickF rfl rfl rfl) _) rfl rfl ?_
       refine GoR.op ((op_move rfl) _) rfl rfl ?_
       refine GoR.pass rfl rfl ?_
       refine GoR.op ((op_pickF rfl rfl rfl) _) rfl rfl ?_
       refine GoR.op ((op_assign rfl) _) rfl rfl ?_
       refine GoR.nil ?_
       refine Go1.ret1 Try.func8 rfl ?_
       exact ⟨false, rfl, hB.same, H⟩
      ·replace H := ifp rfl H
       refine GoR.op ((op_move rfl) _) rfl rfl ?_
       refine GoR.op ((op_len Try.underlying23 rfl) _) rfl rfl ?_
       replace H := H h_r13.bd
       by_cases h74 : (0 : Int) < (r13.length : Int)
       ·replace H := ifp h74 H
        refine GoR.op ((fun w => opB (op_gtr rfl rfl w) (decide_eq_true h74)) _) rfl rfl ?_
        refine GoR.op ((op_pickT rfl rfl rfl) _) rfl rfl ?_
        refine GoR.op ((op_move rfl) _) rfl rfl ?_
        refine GoR.call (op_call body16 rfl (walk_law14_awake hO.lt H)) rfl rfl ?_
        rintro v79 w76 ⟨r75, rfl, hs77, H⟩
        have hst80 := Stp.same hO hs77
        replace hO := hst80.own
        replace h_t := h_t.ch hst80.ch
        replace h_r13 := h_r13.ch hst80.ch
        replace h_r62 := h_r62.ch hst80.ch
        replace hB := hB.trans hst80.fr
        refine GoR.op ((op_pickT rfl rfl rfl) _) rfl rfl ?_
        refine GoR.op ((op_assign rfl) _) rfl rfl ?_
        refine GoR.nil ?_
        refine Go1.ret1 Try.func8 rfl ?_
        exact ⟨r75, rfl, hB.same, H⟩
       ·replace H := ifn h74 H
        refine GoR.op ((fun w => opB (op_gtr rfl rfl w) (decide_eq_false h74)) _) rfl rfl ?_
        refine GoR.op ((op_pickT rfl rfl rfl) _) rfl rfl ?_
        refine GoR.op ((op_move rfl) _) rfl rfl ?_
        refine GoR.pass rfl rfl ?_
        refine GoR.op ((op_pickF rfl rfl rfl) _) rfl rfl ?_
        refine GoR.op ((op_assign rfl) _) rfl rfl ?_
        refine GoR.nil ?_
        refine Go1.ret1 Try.func8 rfl ?_
        exact ⟨false, rfl, hB.same, H⟩
     ·replace H := ifn h61 H
      refine GoR.op ((fun w => opB (op_eql rfl rfl w) (decide_eq_false h61)) _) rfl rfl ?_
      refine GoR.op ((op_pickT rfl rfl rfl) _) rfl rfl ?_
      refine GoR.op ((op_move rfl) _) rfl rfl ?_
      refine GoR.pass rfl rfl ?_
      refine GoR.pass rfl rfl ?_
      refine GoR.pass rfl rfl ?_
      refine GoR.pass rfl rfl ?_
      refine GoR.op ((op_pickF rfl rfl rfl) _) rfl rfl ?_
      refine GoR.op ((op_move rfl) _) rfl rfl ?_
      refine GoR.pass rfl rfl ?_
      refine GoR.pass rfl rfl ?_
      refine GoR.pass rfl rfl ?_
      refine GoR.op ((op_pickF rfl rfl rfl) _) rfl rfl ?_
      refine GoR.op ((op_move rfl) _) rfl rfl ?_
      refine GoR.pass rfl rfl ?_
      refine GoR.op ((op_pickF rfl rfl rfl) _) rfl rfl ?_
      refine GoR.op ((op_assign rfl) _) rfl rfl ?_
      refine GoR.nil ?_
      refine Go1.ret1 Try.func8 rfl ?_
      exact ⟨false, rfl, hB.same, H⟩
    ·replace H := ifn h54 H
     refine GoR.op ((fun w => opB (op_eql rfl rfl w) (decide_eq_false h54)) _) rfl rfl ?_
     refine GoR.op ((op_move rfl) _) rfl rfl ?_
     refine GoR.pass rfl rfl ?_
     refine GoR.pass rfl rfl ?_
     refine GoR.pass rfl rfl ?_
     refine GoR.pass rfl rfl ?_
     refine GoR.op ((op_pickF rfl rfl rfl) _) rfl rfl ?_
     refine GoR.op ((op_move rfl) _) rfl rfl ?_
     refine GoR.pass rfl rfl ?_
     refine GoR.pass rfl rfl ?_
     refine GoR.pass rfl rfl ?_
     refine GoR.pass rfl rfl ?_
     refine GoR.op ((op_pickF rfl rfl rfl) _) rfl rfl ?_
     refine GoR.op ((op_move rfl) _) rfl rfl ?_
     refine GoR.pass rfl rfl ?_
     refine GoR.pass rfl rfl ?_
     refine GoR.pass rfl rfl ?_
     refine GoR.op ((op_pickF rfl rfl rfl) _) rfl rfl ?_
     refine GoR.op ((op_move rfl) _) rfl rfl ?_
     refine GoR.pass rfl rfl ?_
     refine GoR.op ((op_pickF rfl rfl rfl) _) rfl rfl ?_
     refine GoR.op ((op_assign rfl) _) rfl rfl ?_
     refine GoR.nil ?_
     refine Go1.ret1 Try.func8 rfl ?_
     exact ⟨false, rfl, hB.same, H⟩
 ·replace H := ifn h25 H
  refine GoR.op ((fun w => opB (op_eql rfl rfl w) (decide_eq_false h25)) _) rfl rfl ?_
  refine GoR.op ((op_move rfl) _) rfl rfl ?_
  refine GoR.pass rfl rfl ?_
  refine GoR.pass rfl rfl ?_
  refine GoR.pass rfl rfl ?_
  refine GoR.op ((op_pickF rfl rfl rfl) _) rfl rfl ?_
  refine GoR.nil ?_
  refine Go1.condF rfl rfl ?_
  refine Go1.skip ?_
  refine Go1.seq ?_
  refine Go1.seq ?_
  refine Go1.region ?_
  refine GoR.op ((op_move rfl) _) rfl rfl ?_
  refine GoR.call (op_call body26 rfl (walk_ref14_Valid hO.lt h_t H)) rfl rfl ?_
  rintro v85 w82 ⟨r81, rfl, hs83, H⟩
  have hst86 := Stp.same hO hs83
  replace hO := hst86.own
  replace h_t := h_t.ch hst86.ch
  replace h_r13 := h_r13.ch hst86.ch
  replace hB := hB.trans hst86.fr
  cases r81
  ·replace H := ifn Bool.false_ne_true H
   refine GoR.op ((op_not rfl) _) rfl rfl ?_
   refine GoR.nil ?_
   refine Go1.condT rfl rfl ?_
   refine Go1.seq ?_
   refine Go1.region ?_
   refine GoR.op ((op_move rfl) _) rfl rfl ?_
   by_cases h87 : r1 = (-1 : Int)
   ·replace H := ifp h87 H
    refine GoR.op ((fun w => opB (op_eql rfl rfl w) (decide_eq_true h87)) _) rfl rfl ?_
    refine GoR.op ((op_move rfl) _) rfl rfl ?_
    refine GoR.op ((op_move rfl) _) rfl rfl ?_
    by_cases h88 : r7 = (-1 : Int)
    ·replace H := ifp h88 H
     refine GoR.op ((fun w => opB (op_eql rfl rfl w) (decide_eq_true h88)) _) rfl rfl ?_
     refine GoR.op ((op_pickT rfl rfl rfl) _) rfl rfl ?_
     refine GoR.op ((op_move rfl) _) rfl rfl ?_
     refine GoR.op ((op_move rfl) _) rfl rfl ?_
     refine GoR.op ((op_len Try.underlying23 rfl) _) rfl rfl ?_
     replace H := H h_r13.bd
     by_cases h89 : (r13.length : Int) = (0 : Int)
     ·replace H := ifp h89 H
      refine GoR.op ((fun w => opB (op_eql rfl rfl w) (decide_eq_true h89)) _) rfl rfl ?_
      refine GoR.op ((op_pickT rfl rfl rfl) _) rfl rfl ?_
      refine GoR.op ((op_move rfl) _) rfl rfl ?_
      refine GoR.call (op_call body16 rfl (walk_law14_awake hO.lt H)) rfl rfl ?_
      rintro v94 w91 ⟨r90, rfl, hs92, H⟩
      have hst95 := Stp.same hO hs92
      replace hO := hst95.own
      replace h_t := h_t.ch hst95.ch
      replace h_r13 := h_r13.ch hst95.ch
      replace hB := hB.trans hst95.fr
      refine GoR.op ((op_pickT rfl rfl rfl) _) rfl rfl ?_
      refine GoR.op ((op_assign rfl) _) rfl rfl ?_
      refine GoR.nil ?_
      refine Go1.ret1 Try.func8 rfl ?_
      exact ⟨r90, rfl, hB.same, H⟩
     ·replace H := ifn h89 H
      refine GoR.op ((fun w => opB (op_eql rfl rfl w) (decide_eq_false h89)) _) rfl rfl ?_
      refine GoR.op ((op_pickT rfl rfl rfl) _) rfl rfl ?_
      refine GoR.op ((op_move rfl) _) rfl rfl ?_
      refine GoR.pass rfl rfl ?_
      refine GoR.op ((op_pickF rfl rfl rfl) _) rfl rfl ?_
      refine GoR.op ((op_assign rfl) _) rfl rfl ?_
      refine GoR.nil ?_
      refine Go1.ret1 Try.func8 rfl ?_
      exact ⟨false, rfl, hB.same, H⟩
    ·replace H := ifn h88 H
     refine GoR.op ((fun w => opB (op_eql rfl rfl w) (decide_eq_false h88)) _) rfl rfl ?_
     refine GoR.op ((op_pickT rfl rfl rfl) _) rfl rfl ?_
     refine GoR.op ((op_move rfl) _) rfl rfl ?_
     refine GoR.pass rfl rfl ?_
     refine GoR.pass rfl rfl ?_
     refine GoR.pass rfl rfl ?_
     refine GoR.op ((op_pickF rfl rfl rfl) _) rfl rfl ?_
     refine GoR.op ((op_move rfl) _) rfl rfl ?_
     refine GoR.pass rfl rfl ?_
     refine GoR.op ((op_pickF rfl rfl rfl) _) rfl rfl ?_
     refine GoR.op ((op_assign rfl) _) rfl rfl ?_
     refine GoR.nil ?_
     refine Go1.ret1 Try.func8 rfl ?_
     exact ⟨false, rfl, hB.same, H⟩
   ·replace H := ifn h87 H
    refine GoR.op ((fun w => opB (op_eql rfl rfl w) (decide_eq_false h87)) _) rfl rfl ?_
    refine GoR.op ((op_move rfl) _) rfl rfl ?_
    refine GoR.pass rfl rfl ?_
    refine GoR.pass rfl rfl ?_
    refine GoR.op ((op_pickF rfl rfl rfl) _) rfl rfl ?_
    refine GoR.op ((op_move rfl) _) rfl rfl ?_
    refine GoR.pass rfl rfl ?_
    refine GoR.pass rfl rfl ?_
    refine GoR.pass rfl rfl ?_
    refine GoR.op ((op_pickF rfl rfl rfl) _) rfl rfl ?_
    refine GoR.op ((op_move rfl) _) rfl rfl ?_
    refine GoR.pass rfl rfl ?_
    refine GoR.op ((op_pickF rfl rfl rfl) _) rfl rfl ?_
    refine GoR.op ((op_assign rfl) _) rfl rfl ?_
    refine GoR.nil ?_
    refine Go1.ret1 Try.func8 rfl ?_
    exact ⟨false, rfl, hB.same, H⟩
  ·replace H := ifp rfl H
   refine GoR.op ((op_not rfl) _) rfl rfl ?_
   refine GoR.nil ?_
   refine Go1.condF rfl rfl ?_
   refine Go1.skip ?_
   refine Go1.seq ?_
   refine Go1.region ?_
   refine GoR.op ((op_move rfl) _) rfl rfl ?_
   refine GoR.op ((op_move rfl) _) rfl rfl ?_
   refine GoR.call (op_call body38 rfl (walk_ref14_Identity hO.lt h_t H)) rfl rfl ?_
   rintro v100 w97 ⟨r96, rfl, hs98, H⟩
   have hst101 := Stp.same hO hs98
   replace hO := hst101.own
   replace h_t := h_t.ch hst101.ch
   replace h_r13 := h_r13.ch hst101.ch
   replace hB := hB.trans hst101.fr
   by_cases h102 : r1 = r96
   ·replace H := ifp h102 H
    refine GoR.op ((fun w => opB (op_eql rfl rfl w) (decide_eq_true h102)) _) rfl rfl ?_
    refine GoR.op ((op_move rfl) _) rfl rfl ?_
    refine GoR.op ((op_move rfl) _) rfl rfl ?_
    refine GoR.op ((op_move rfl) _) rfl rfl ?_
    refine GoR.call (op_call body39 rfl (walk_ref14_Zero hO.lt h_t H)) rfl rfl ?_
    rintro v107 w104 ⟨r103, rfl, hs105, H⟩
    have hst108 := Stp.same hO hs105
    replace hO := hst108.own
    replace h_t := h_t.ch hst108.ch
    replace h_r13 := h_r13.ch hst108.ch
    replace hB := hB.trans hst108.fr
    by_cases h109 : r7 = r103
    ·replace H := ifp h109 H
     refine GoR.op ((fun w => opB (op_eql rfl rfl w) (decide_eq_true h109)) _) rfl rfl ?_
     refine GoR.op ((op_pickT rfl rfl rfl) _) rfl rfl ?_
     refine GoR.op ((op_move rfl) _) rfl rfl ?_
     refine GoR.op ((op_move rfl) _) rfl rfl ?_
     refine GoR.op ((op_move rfl) _) rfl rfl ?_
     refine GoR.call (op_call body41 rfl (walk_ref14_Idempotents hO.lt h_t H)) rfl rfl ?_
     rintro v114 w111 ⟨r110, p_r110, c_r110, rfl, hs112, h_r110, H⟩
     have hst115 := Stp.same hO hs112
     replace hO := hst115.own
     replace h_t := h_t.ch hst115.ch
     replace h_r13 := h_r13.ch hst115.ch
     replace hB := hB.trans hst115.fr
     refine GoR.call (op_call body40 rfl (walk_ref03_Same hO.lt h_r13 h_r110 H)) rfl rfl ?_
     rintro v120 w117 ⟨r116, rfl, hs118, H⟩
     have hst121 := Stp.same hO hs118
     replace hO := hst121.own
     replace h_t := h_t.ch hst121.ch
     replace h_r13 := h_r13.ch hst121.ch
     replace h_r110 := h_r110.ch hst121.ch
     replace hB := hB.trans hst121.fr
     refine GoR.op ((op_pickT rfl rfl rfl) _) rfl rfl ?_
     refine GoR.op ((op_move rfl) _) rfl rfl ?_
     cases r116
     ·replace H := ifn Bool.false_ne_true H
      refine GoR.pass rfl rfl ?_
      refine GoR.pass rfl rfl ?_
      refine GoR.pass rfl rfl ?_
      refine GoR.op ((op_pickF rfl rfl rfl) _) rfl rfl ?_
      refine GoR.op ((op_move rfl) _) rfl rfl ?_
      refine GoR.pass rfl rfl ?_
      refine GoR.op ((op_pickF rfl rfl rfl) _) rfl rfl ?_
      refine GoR.op ((op_assign rfl) _) rfl rfl ?_
      refine GoR.nil ?_
      refine Go1.ret1 Try.func8 rfl ?_
      exact ⟨false, rfl, hB.same, H⟩
     ·replace H := ifp rfl H
      refine GoR.op ((op_move rfl) _) rfl rfl ?_
      refine GoR.op ((op_len Try.underlying23 rfl) _) rfl rfl ?_
      replace H := H h_r13.bd
      by_cases h122 : (0 : Int) < (r13.length : Int)
      ·replace H := ifp h122 H
       refine GoR.op ((fun w => opB (op_gtr rfl rfl w) (decide_eq_true h122)) _) rfl rfl ?_
       refine GoR.op ((op_pickT rfl rfl rfl) _) rfl rfl ?_
       refine GoR.op ((op_move rfl) _) rfl rfl ?_
       refine GoR.call (op_call body16 rfl (walk_law14_awake hO.lt H)) rfl rfl ?_
       rintro v127 w124 ⟨r123, rfl, hs125, H⟩
       have hst128 := Stp.same hO hs125
       replace hO := hst128.own
       replace h_t := h_t.ch hst128.ch
       replace h_r13 := h_r13.ch hst128.ch
       replace h_r110 := h_r110.ch hst128.ch
       replace hB := hB.trans hst128.fr
       refine GoR.op ((op_pickT rfl rfl rfl) _) rfl rfl ?_
       refine GoR.op ((op_assign rfl) _) rfl rfl ?_
       refine GoR.nil ?_
       refine Go1.ret1 Try.func8 rfl ?_
       exact ⟨r123, rfl, hB.same, H⟩
      ·replace H := ifn h122 H
       refine GoR.op ((fun w => opB (op_gtr rfl rfl w) (decide_eq_false h122)) _) rfl rfl ?_
       refine GoR.op ((op_pickT rfl rfl rfl) _) rfl rfl ?_
       refine GoR.op ((op_move rfl) _) rfl rfl ?_
       refine GoR.pass rfl rfl ?_
       refine GoR.op ((op_pickF rfl rfl rfl) _) rfl rfl ?_
       refine GoR.op ((op_assign rfl) _) rfl rfl ?_
       refine GoR.nil ?_
       refine Go1.ret1 Try.func8 rfl ?_
       exact ⟨false, rfl, hB.same, H⟩
    ·replace H := ifn h109 H
     refine GoR.op ((fun w => opB (op_eql rfl rfl w) (decide_eq_false h109)) _) rfl rfl ?_
     refine GoR.op ((op_pickT rfl rfl rfl) _) rfl rfl ?_
     refine GoR.op ((op_move rfl) _) rfl rfl ?_
     refine GoR.pass rfl rfl ?_
     refine GoR.pass rfl rfl ?_
     refine GoR.pass rfl rfl ?_
     refine GoR.pass rfl rfl ?_
     refine GoR.op ((op_pickF rfl rfl rfl) _) rfl rfl ?_
     refine GoR.op ((op_move rfl) _) rfl rfl ?_
     refine GoR.pass rfl rfl ?_
     refine GoR.pass rfl rfl ?_
     refine GoR.pass rfl rfl ?_
     refine GoR.op ((op_pickF rfl rfl rfl) _) rfl rfl ?_
     refine GoR.op ((op_move rfl) _) rfl rfl ?_
     refine GoR.pass rfl rfl ?_
     refine GoR.op ((op_pickF rfl rfl rfl) _) rfl rfl ?_
     refine GoR.op ((op_assign rfl) _) rfl rfl ?_
     refine GoR.nil ?_
     refine Go1.ret1 Try.func8 rfl ?_
     exact ⟨false, rfl, hB.same, H⟩
   ·replace H := ifn h102 H
    refine GoR.op ((fun w => opB (op_eql rfl rfl w) (decide_eq_false h102)) _) rfl rfl ?_
    refine GoR.op ((op_move rfl) _) rfl rfl ?_
    refine GoR.pass rfl rfl ?_
    refine GoR.pass rfl rfl ?_
    refine GoR.pass rfl rfl ?_
    refine GoR.pass rfl rfl ?_
    refine GoR.op ((op_pickF rfl rfl rfl) _) rfl rfl ?_
    refine GoR.op ((op_move rfl) _) rfl rfl ?_
    refine GoR.pass rfl rfl ?_
    refine GoR.pass rfl rfl ?_
    refine GoR.pass rfl rfl ?_
    refine GoR.pass rfl rfl ?_
    refine GoR.op ((op_pickF rfl rfl rfl) _) rfl rfl ?_
    refine GoR.op ((op_move rfl) _) rfl rfl ?_
    refine GoR.pass rfl rfl ?_
    refine GoR.pass rfl rfl ?_
    refine GoR.pass rfl rfl ?_
    refine GoR.op ((op_pickF rfl rfl rfl) _) rfl rfl ?_
    refine GoR.op ((op_move rfl) _) rfl rfl ?_
    refine GoR.pass rfl rfl ?_
    refine GoR.op ((op_pickF rfl rfl rfl) _) rfl rfl ?_
    refine GoR.op ((op_assign rfl) _) rfl rfl ?_
    refine GoR.nil ?_
    refine Go1.ret1 Try.func8 rfl ?_
    exact ⟨false, rfl, hB.same, H⟩
end Sg
