/- The walks: each call keeps to its plain transformer. Printed by walkgen.py. -/
import Derived.Test.YthobeabghciknaaTi
namespace Sg
open Go Go.RowKit Go.Proofs
set_option linter.unusedVariables false
set_option linter.unusedSimpArgs false
set_option maxRecDepth 100000
set_option maxHeartbeats 4000000
theorem body43 : Body Try.prog 43 := ⟨Try.f43, Try.func43, rfl, by kernel_rfl⟩
theorem walk_ref14_Shape {A : List Nat} {w0 : World} {p_t : Option Addr} {c_t : Nat} {t : List (List Int)} (hA : ∀ b ∈ A, b < w0.heap.size) (h_t : ISl (Rp.sl (Rp.int .i64)) A w0 p_t c_t t) {K : Int → Prop} (H : ref14_Shape t K) :
    CallsV Try.prog 43 #[.slice p_t t.length c_t] w0 (fun v w' => ∃ (r0 : Int), v = .int .i64 r0 ∧ Same w0 w' ∧ K r0) := by
 refine CallsV.of (l := [.slice p_t t.length c_t]) Try.func43 rfl Try.ntmps43 rfl ?_
 have hO := Owns.start hA
 have hB := Fr.refl (bl []) w0
 unfold ref14_Shape at H
 replace h_t := h_t.ch (Ch.start A w0)
 refine Go1.seq ?_
 refine Go1.region ?_
 refine GoR.op ((op_assign rfl) _) rfl rfl ?_
 refine GoR.nil ?_
 refine Go1.seq ?_
 refine Go1.seq ?_
 refine Go1.region ?_
 refine GoR.op ((op_move rfl) _) rfl rfl ?_
 refine GoR.op ((op_len Try.underlying22 rfl) _) rfl rfl ?_
 replace H := H h_t.bd
 by_cases h1 : (400 : Int) < (t.length : Int)
 ·replace H := ifp h1 H
  refine GoR.op ((fun w => opB (op_gtr rfl rfl w) (decide_eq_true h1)) _) rfl rfl ?_
  refine GoR.nil ?_
  refine Go1.condT rfl rfl ?_
  refine Go1.seq ?_
  refine Go1.region ?_
  refine GoR.op ((op_assign rfl) _) rfl rfl ?_
  refine GoR.nil ?_
  refine Go1.ret1 Try.func43 rfl ?_
  exact ⟨(3 : Int), rfl, hB.same, H⟩
 ·replace H := ifn h1 H
  refine GoR.op ((fun w => opB (op_gtr rfl rfl w) (decide_eq_false h1)) _) rfl rfl ?_
  refine GoR.nil ?_
  refine Go1.condF rfl rfl ?_
  refine Go1.skip ?_
  refine Go1.seq ?_
  refine Go1.seq ?_
  refine Go1.region ?_
  refine GoR.op ((op_move rfl) _) rfl rfl ?_
  refine GoR.op ((op_len Try.underlying22 rfl) _) rfl rfl ?_
  by_cases h2 : (t.length : Int) = (0 : Int)
  ·replace H := ifp h2 H
   refine GoR.op ((fun w => opB (op_eql rfl rfl w) (decide_eq_true h2)) _) rfl rfl ?_
   refine GoR.nil ?_
   refine Go1.condT rfl rfl ?_
   refine Go1.seq ?_
   refine Go1.region ?_
   refine GoR.op ((op_assign rfl) _) rfl rfl ?_
   refine GoR.nil ?_
   refine Go1.ret1 Try.func43 rfl ?_
   exact ⟨(4 : Int), rfl, hB.same, H⟩
  ·replace H := ifn h2 H
   refine GoR.op ((fun w => opB (op_eql rfl rfl w) (decide_eq_false h2)) _) rfl rfl ?_
   refine GoR.nil ?_
   refine Go1.condF rfl rfl ?_
   refine Go1.skip ?_
   refine Go1.seq ?_
   refine Go1.seq ?_
   refine Go1.region ?_
   refine GoR.op ((op_move rfl) _) rfl rfl ?_
   refine GoR.op ((op_len Try.underlying22 rfl) _) rfl rfl ?_
   refine GoR.op ((op_move rfl) _) rfl rfl ?_
   refine GoR.nil ?_
   refine Go1.block ?_
   refine Go1.loopW (S := Nat) (fun s σ w => agrees σ [(0, .slice p_t t.length c_t), (13, .slice p_t t.length c_t), (14, .int .i64 (t.length : Int)), (15, .int .i64 (s : Int))] ∧ Owns w0.heap.size w [] A ∧ ISl (Rp.sl (Rp.int .i64)) (bl [] ++ A) w p_t c_t t ∧ Fr (bl []) w0 (bl []) w) H ⟨⟨rfl, rfl, rfl, rfl, trivial⟩, hO, h_t, hB⟩ ?_
   rintro X1 k1_4 H hX1 σ w3 ⟨hag, hO, h_t, hB⟩
   refine Go1.keep [(0, .slice p_t t.length c_t), (13, .slice p_t t.length c_t), (14, .int .i64 (t.length : Int)), (15, .int .i64 (k1_4 : Int))] hag ?_
   refine Go1.seq ?_
   refine Go1.region ?_
   by_cases h5 : (k1_4 : Int) < (t.length : Int)
   ·replace H := ifp h5 H
    refine GoR.op ((fun w => opB (op_lss rfl rfl w) (decide_eq_true h5)) _) rfl rfl ?_
    refine GoR.nil ?_
    refine Go1.seq ?_
    refine Go1.condT rfl rfl ?_
    refine Go1.skip ?_
    refine Go1.seq ?_
    refine Go1.block ?_
    refine Go1.seq ?_
    refine Go1.region ?_
    obtain ⟨h6, H⟩ := H
    obtain ⟨h7, H⟩ := H
    refine GoR.op ((op_index Try.underlying22 ti25 rfl rfl h6 h7 (h_t.some_ h6 h7)) _) rfl rfl ?_
    have hobt := ldSl h_t h6 h7
    obtain ⟨p8, c9, hi10, hl11⟩ := hobt
    refine GoR.op ((hl11 Try.underlying25 rfl rfl) _ (Same.refl _)) rfl rfl ?_
    refine GoR.op ((op_assign rfl) _) rfl rfl ?_
    refine GoR.nil ?_
    refine Go1.seq ?_
    refine Go1.seq ?_
    refine Go1.region ?_
    refine GoR.op ((op_move rfl) _) rfl rfl ?_
    refine GoR.op ((op_len Try.underlying25 rfl) _) rfl rfl ?_
    replace H := H hi10.bd
    refine GoR.op ((op_move rfl) _) rfl rfl ?_
    refine GoR.op ((op_len Try.underlying22 rfl) _) rfl rfl ?_
    by_cases h12 : ((ix t (k1_4 : Int)).length : Int) = (t.length : Int)
    ·replace H := ifp h12 H
     refine GoR.op ((fun w => opB (op_neq rfl rfl w) (ndT h12)) _) rfl rfl ?_
     refine GoR.nil ?_
     refine Go1.condF rfl rfl ?_
     refine Go1.skip ?_
     refine Go1.seq ?_
     refine Go1.region ?_
     refine GoR.op ((op_move rfl) _) rfl rfl ?_
     refine GoR.op ((op_len Try.underlying25 rfl) _) rfl rfl ?_
     refine GoR.op ((op_move rfl) _) rfl rfl ?_
     refine GoR.nil ?_
     refine Go1.block ?_
     refine Go1.loopW (S := Nat) (fun s σ w => agrees σ [(0, .slice p_t t.length c_t), (13, .slice p_t t.length c_t), (14, .int .i64 (t.length : Int)), (15, .int .i64 (k1_4 : Int)), (24, .slice p8 ((ix t (k1_4 : Int)).length) c9), (25, .int .i64 ((ix t (k1_4 : Int)).length : Int)), (26, .int .i64 (s : Int))] ∧ Owns w0.heap.size w [] A ∧ ISl (Rp.sl (Rp.int .i64)) (bl [] ++ A) w p_t c_t t ∧ ISl (Rp.int .i64) (bl [] ++ A) w p8 c9 (ix t (k1_4 : Int)) ∧ Fr (bl []) w0 (bl []) w) H ⟨⟨rfl, rfl, rfl, rfl, rfl, rfl, rfl, trivial⟩, hO, h_t, hi10, hB⟩ ?_
     rintro X2 k2_14 H hX2 σ w13 ⟨hag, hO, h_t, hi10, hB⟩
     refine Go1.keep [(0, .slice p_t t.length c_t), (13, .slice p_t t.length c_t), (14, .int .i64 (t.length : Int)), (15, .int .i64 (k1_4 : Int)), (24, .slice p8 ((ix t (k1_4 : Int)).length) c9), (25, .int .i64 ((ix t (k1_4 : Int)).length : Int)), (26, .int .i64 (k2_14 : Int))] hag ?_
     refine Go1.seq ?_
     refine Go1.region ?_
     by_cases h15 : (k2_14 : Int) < ((ix t (k1_4 : Int)).length : Int)
     ·replace H := ifp h15 H
      refine GoR.op ((fun w => opB (op_lss rfl rfl w) (decide_eq_true h15)) _) rfl rfl ?_
      refine GoR.nil ?_
      refine Go1.seq ?_
      refine Go1.condT rfl rfl ?_
      refine Go1.skip ?_
      refine Go1.seq ?_
      refine Go1.block ?_
      refine Go1.seq ?_
      refine Go1.region ?_
      obtain ⟨h16, H⟩ := H
      obtain ⟨h17, H⟩ := H
      refine GoR.op ((op_index Try.underlying25 ti3 rfl rfl h16 h17 (hi10.some_ h16 h17)) _) rfl rfl ?_
      refine GoR.op ((ldInt hi10 h16 h17 Try.underlying3 rfl rfl) _ (Same.refl _)) rfl rfl ?_
      refine GoR.op ((op_assign rfl) _) rfl rfl ?_
      refine GoR.nil ?_
      refine Go1.seq ?_
      refine Go1.region ?_
      refine GoR.op ((op_move rfl) _) rfl rfl ?_
      by_cases h18 : (ix (ix t (k1_4 : Int)) (k2_14 : Int)) < (0 : Int)
      ·replace H := ifp h18 H
       refine GoR.op ((fun w => opB (op_lss rfl rfl w) (decide_eq_true h18)) _) rfl rfl ?_
       refine GoR.op ((op_move rfl) _) rfl rfl ?_
       refine GoR.pass rfl rfl ?_
       refine GoR.pass rfl rfl ?_
       refine GoR.pass rfl rfl ?_
       refine GoR.pass rfl rfl ?_
       refine GoR.op ((op_pickT rfl rfl rfl) _) rfl rfl ?_
       refine GoR.nil ?_
       refine Go1.condT rfl rfl ?_
       refine Go1.seq ?_
       refine Go1.region ?_
       refine GoR.op ((op_assign rfl) _) rfl rfl ?_
       refine GoR.nil ?_
       refine Go1.ret1 Try.func43 rfl ?_
       exact ⟨(4 : Int), rfl, hB.same, H⟩
      ·replace H := ifn h18 H
       refine GoR.op ((fun w => opB (op_lss rfl rfl w) (decide_eq_false h18)) _) rfl rfl ?_
       refine GoR.op ((op_move rfl) _) rfl rfl ?_
       refine GoR.op ((op_move rfl) _) rfl rfl ?_
       refine GoR.op ((op_move rfl) _) rfl rfl ?_
       refine GoR.op ((op_len Try.underlying22 rfl) _) rfl rfl ?_
       by_cases h19 : (t.length : Int) ≤ (ix (ix t (k1_4 : Int)) (k2_14 : Int))
       ·replace H := ifp h19 H
        refine GoR.op ((fun w => opB (op_geq rfl rfl w) (decide_eq_true h19)) _) rfl rfl ?_
        refine GoR.op ((op_pickF rfl rfl rfl) _) rfl rfl ?_
        refine GoR.nil ?_
        refine Go1.condT rfl rfl ?_
        refine Go1.seq ?_
        refine Go1.region ?_
        refine GoR.op ((op_assign rfl) _) rfl rfl ?_
        refine GoR.nil ?_
        refine Go1.ret1 Try.func43 rfl ?_
        exact ⟨(4 : Int), rfl, hB.same, H⟩
       ·replace H := ifn h19 H
        refine GoR.op ((fun w => opB (op_geq rfl rfl w) (decide_eq_false h19)) _) rfl rfl ?_
        refine GoR.op ((op_pickF rfl rfl rfl) _) rfl rfl ?_
        refine GoR.nil ?_
        refine Go1.condF rfl rfl ?_
        refine Go1.skip ?_
        refine Go1.inBlock ?_
        refine Go1.region ?_
        refine GoR.op ((op_add rfl rfl (wrap_i64 (natbd h15 hi10.bd))) _) rfl rfl ?_
        refine GoR.op ((op_move rfl) _) rfl rfl ?_
        refine GoR.nil ?_
        exact hX2 _ H _ _ ⟨⟨rfl, rfl, rfl, rfl, rfl, rfl, rfl, trivial⟩, hO, h_t, hi10, hB⟩
     ·replace H := ifn h15 H
      refine GoR.op ((fun w => opB (op_lss rfl rfl w) (decide_eq_false h15)) _) rfl rfl ?_
      refine GoR.nil ?_
      refine Go1.seq ?_
      refine Go1.condF rfl rfl ?_
      refine Go1.exit rfl ?_
      refine Go1.inBlock ?_
      refine Go1.region ?_
      refine GoR.op ((op_add rfl rfl (wrap_i64 (natbd h5 h_t.bd))) _) rfl rfl ?_
      refine GoR.op ((op_move rfl) _) rfl rfl ?_
      refine GoR.nil ?_
      exact hX1 _ H _ _ ⟨⟨rfl, rfl, rfl, rfl, trivial⟩, hO, h_t, hB⟩
    ·replace H := ifn h12 H
     refine GoR.op ((fun w => opB (op_neq rfl rfl w) (ndF h12)) _) rfl rfl ?_
     refine GoR.nil ?_
     refine Go1.condT rfl rfl ?_
     refine Go1.seq ?_
     refine Go1.region ?_
     refine GoR.op ((op_assign rfl) _) rfl rfl ?_
     refine GoR.nil ?_
     refine Go1.ret1 Try.func43 rfl ?_
     exact ⟨(4 : Int), rfl, hB.same, H⟩
   ·replace H := ifn h5 H
    refine GoR.op ((fun w => opB (op_lss rfl rfl w) (decide_eq_false h5)) _) rfl rfl ?_
    refine GoR.nil ?_
    refine Go1.seq ?_
    refine Go1.condF rfl rfl ?_
    refine Go1.exit rfl ?_
    refine Go1.seq ?_
    refine Go1.region ?_
    refine GoR.op ((op_assign rfl) _) rfl rfl ?_
    refine GoR.nil ?_
    refine Go1.ret1 Try.func43 rfl ?_
    exact ⟨(0 : Int), rfl, hB.same, H⟩
theorem body44 : Body Try.prog 44 := ⟨Try.f44, Try.func44, rfl, by kernel_rfl⟩
theorem walk_law15_flip {A : List Nat} {w0 : World} (hA : ∀ b ∈ A, b < w0.heap.size) {K : List (List Int) → Prop} (H : law15_flip  K) :
    CallsV Try.prog 44 #[] w0 (fun v w' => ∃ (r0 : List (List Int)), ∃ (p_r0 : Option Addr), ∃ (c_r0 : Nat), v = .slice p_r0 r0.length c_r0 ∧ Same w0 w' ∧ ISl (Rp.sl (Rp.int .i64)) A w' p_r0 c_r0 r0 ∧ K r0) := by
 refine CallsV.of (l := []) Try.func44 rfl Try.ntmps44 rfl ?_
 have hO := Owns.start hA
 have hB := Fr.refl (bl []) w0
 unfold law15_flip at H
 refine Go1.seq ?_
 refine Go1.region ?_
 refine GoR.op ((op_assign rfl) _) rfl rfl ?_
 refine GoR.nil ?_
 refine Go1.seq ?_
 refine Go1.region ?_
 have hobt := obuild (r := Rp.int .i64) (n := 3) (parts := [(0, .int .i64 (0 : Int)), (1, .int .i64 (1 : Int)), (2, .int .i64 (2 : Int))]) (vs := [.int .i64 (0 : Int), .int .i64 (1 : Int), .int .i64 (2 : Int)]) (xs := [(0 : Int), (1 : Int), (2 : Int)]) rfl Try.underlying25 ti3 hO (by decide) (by kernel_rfl) (Els.cons rfl rfl (Els.cons rfl rfl (Els.cons rfl rfl (Els.nil _ _ _) (by simp [mx])) (by simp [mx])) (by simp [mx])) rfl
 obtain ⟨w1, p2, hst3, hE4, hs5, hop6⟩ := hobt
 refine GoR.op (hop6 rfl) rfl rfl ?_
 replace hO := hst3.own
 replace hB := hB.trans hst3.fr
 have hobt := obuild (r := Rp.int .i64) (n := 3) (parts := [(0, .int .i64 (1 : Int)), (1, .int .i64 (0 : Int)), (2, .int .i64 (2 : Int))]) (vs := [.int .i64 (1 : Int), .int .i64 (0 : Int), .int .i64 (2 : Int)]) (xs := [(1 : Int), (0 : Int), (2 : Int)]) rfl Try.underlying25 ti3 hO (by decide) (by kernel_rfl) (Els.cons rfl rfl (Els.cons rfl rfl (Els.cons rfl rfl (Els.nil _ _ _) (by simp [mx])) (by simp [mx])) (by simp [mx])) rfl
 obtain ⟨w8, p9, hst10, hE11, hs12, hop13⟩ := hobt
 refine GoR.op (hop13 rfl) rfl rfl ?_
 replace hE4 := hE4.ch hst10.ch
 replace hO := hst10.own
 replace hB := hB.trans hst10.fr
 have hobt := obuild (r := Rp.int .i64) (n := 3) (parts := [(0, .int .i64 (2 : Int)), (1, .int .i64 (2 : Int)), (2, .int .i64 (2 : Int))]) (vs := [.int .i64 (2 : Int), .int .i64 (2 : Int), .int .i64 (2 : Int)]) (xs := [(2 : Int), (2 : Int), (2 : Int)]) rfl Try.underlying25 ti3 hO (by decide) (by kernel_rfl) (Els.cons rfl rfl (Els.cons rfl rfl (Els.cons rfl rfl (Els.nil _ _ _) (by simp [mx])) (by simp [mx])) (by simp [mx])) rfl
 obtain ⟨w15, p16, hst17, hE18, hs19, hop20⟩ := hobt
 refine GoR.op (hop20 rfl) rfl rfl ?_
 replace hE11 := hE11.ch hst17.ch
 replace hE4 := hE4.ch hst17.ch
 replace hO := hst17.own
 replace hB := hB.trans hst17.fr
 have hobt := freeze 2 hO rfl hE4
 obtain ⟨hO1, hc24, hi22, hn23⟩ := hobt
 replace hE18 := hE18.ch hc24
 replace hE11 := hE11.ch hc24
 replace hB := hB.trans (Owns.dropFr _ _ 2)
 replace hO := hO1; clear hO1
 have hobt := freeze 1 hO rfl hE11
 obtain ⟨hO1, hc27, hi25, hn26⟩ := hobt
 replace hi22 := hi22.ch hc27
 replace hE18 := hE18.ch hc27
 replace hB := hB.trans (Owns.dropFr _ _ 1)
 replace hO := hO1; clear hO1
 have hobt := freeze 0 hO rfl hE18
 obtain ⟨hO1, hc30, hi28, hn29⟩ := hobt
 replace hi22 := hi22.ch hc30
 replace hi25 := hi25.ch hc30
 replace hB := hB.trans (Owns.dropFr _ _ 0)
 replace hO := hO1; clear hO1
 have hobt := obuild (r := Rp.sl (Rp.int .i64)) (n := 3) (parts := [(0, .slice p2 3 3), (1, .slice p9 3 3), (2, .slice p16 3 3)]) (vs := [.slice p2 3 3, .slice p9 3 3, .slice p16 3 3]) (xs := [[(0 : Int), (1 : Int), (2 : Int)], [(1 : Int), (0 : Int), (2 : Int)], [(2 : Int), (2 : Int), (2 : Int)]]) rfl Try.underlying22 ti25 hO (by decide) (by kernel_rfl) (Els.cons rfl ⟨p2, 3, congrArg some (congrArg (fun nn => Value.slice p2 nn 3) hn23), hi22⟩ (Els.cons rfl ⟨p9, 3, congrArg some (congrArg (fun nn => Value.slice p9 nn 3) hn26), hi25⟩ (Els.cons rfl ⟨p16, 3, congrArg some (congrArg (fun nn => Value.slice p16 nn 3) hn29), hi28⟩ (Els.nil _ _ _) (by simp [mx])) (by simp [mx])) (by simp [mx])) rfl
 obtain ⟨w31, p32, hst33, hE34, hs35, hop36⟩ := hobt
 refine GoR.op (hop36 rfl) rfl rfl ?_
 replace hO := hst33.own
 replace hi22 := hi22.ch hst33.ch
 replace hi25 := hi25.ch hst33.ch
 replace hi28 := hi28.ch hst33.ch
 replace hB := hB.trans hst33.fr
 refine GoR.op ((op_assign rfl) _) rfl rfl ?_
 refine GoR.nil ?_
 have hobt := freeze 0 hO rfl hE34
 obtain ⟨hO1, hc40, hi38, hn39⟩ := hobt
 replace hi22 := hi22.ch hc40
 replace hi25 := hi25.ch hc40
 replace hi28 := hi28.ch hc40
 replace hB := hB.trans (Owns.dropFr _ _ 0)
 replace hO := hO1; clear hO1
 refine Go1.ret1 Try.func44 rfl ?_
 exact ⟨[[(0 : Int), (1 : Int), (2 : Int)], [(1 : Int), (0 : Int), (2 : Int)], [(2 : Int), (2 : Int), (2 : Int)]], p32, 3, (congrArg (fun nn => Value.slice p32 nn 3) hn39), hB.same, (hi38.ch (Ch.weak _ _ _)), H⟩
theorem body71 : Body Try.prog 71 := ⟨Try.f71, Try.func71, rfl, by kernel_rfl⟩
theorem walk_mult_shape {A : List Nat} {w0 : World} {p_t : Option Addr} {c_t : Nat} {t : List (List Int)} (hA : ∀ b ∈ A, b < w0.heap.size) (h_t : ISl (Rp.sl (Rp.int .i64)) A w0 p_t c_t t) {K : Int → Prop} (H : mult_shape t K) :
    CallsV Try.prog 71 #[.slice p_t t.length c_t] w0 (fun v w' => ∃ (r0 : Int), v = .int .i64 r0 ∧ Same w0 w' ∧ K r0) := by
 refine CallsV.of (l := [.slice p_t t.length c_t]) Try.func71 rfl Try.ntmps71 rfl ?_
 have hO := Owns.start hA
 have hB := Fr.refl (bl []) w0
 unfold mult_shape at H
 replace h_t := h_t.ch (Ch.start A w0)
 refine Go1.seq ?_
 refine Go1.region ?_
 refine GoR.op ((op_assign rfl) _) rfl rfl ?_
 refine GoR.nil ?_
 refine Go1.seq ?_
 refine Go1.seq ?_
 refine Go1.region ?_
 refine GoR.op ((op_move rfl) _) rfl rfl ?_
 refine GoR.op ((op_len Try.underlying22 rfl) _) rfl rfl ?_
 replace H := H h_t.bd
 by_cases h1 : (400 : Int) < (t.length : Int)
 ·replace H := ifp h1 H
  refine GoR.op ((fun w => opB (op_gtr rfl rfl w) (decide_eq_true h1)) _) rfl rfl ?_
  refine GoR.nil ?_
  refine Go1.condT rfl rfl ?_
  refine Go1.seq ?_
  refine Go1.region ?_
  refine GoR.op ((op_assign rfl) _) rfl rfl ?_
  refine GoR.nil ?_
  refine Go1.ret1 Try.func71 rfl ?_
  exact ⟨(3 : Int), rfl, hB.same, H⟩
 ·replace H := ifn h1 H
  refine GoR.op ((fun w => opB (op_gtr rfl rfl w) (decide_eq_false h1)) _) rfl rfl ?_
  refine GoR.nil ?_
  refine Go1.condF rfl rfl ?_
  refine Go1.skip ?_
  refine Go1.seq ?_
  refine Go1.seq ?_
  refine Go1.region ?_
  refine GoR.op ((op_move rfl) _) rfl rfl ?_
  refine GoR.op ((op_len Try.underlying22 rfl) _) rfl rfl ?_
  by_cases h2 : (t.length : Int) = (0 : Int)
  ·replace H := ifp h2 H
   refine GoR.op ((fun w => opB (op_eql rfl rfl w) (decide_eq_true h2)) _) rfl rfl ?_
   refine GoR.nil ?_
   refine Go1.condT rfl rfl ?_
   refine Go1.seq ?_
   refine Go1.region ?_
   refine GoR.op ((op_assign rfl) _) rfl rfl ?_
   refine GoR.nil ?_
   refine Go1.ret1 Try.func71 rfl ?_
   exact ⟨(4 : Int), rfl, hB.same, H⟩
  ·replace H := ifn h2 H
   refine GoR.op ((fun w => opB (op_eql rfl rfl w) (decide_eq_false h2)) _) rfl rfl ?_
   refine GoR.nil ?_
   refine Go1.condF rfl rfl ?_
   refine Go1.skip ?_
   refine Go1.seq ?_
   refine Go1.seq ?_
   refine Go1.region ?_
   refine GoR.op ((op_move rfl) _) rfl rfl ?_
   refine GoR.op ((op_len Try.underlying22 rfl) _) rfl rfl ?_
   refine GoR.op ((op_move rfl) _) rfl rfl ?_
   refine GoR.nil ?_
   refine Go1.block ?_
   refine Go1.loopW (S := Nat) (fun s σ w => agrees σ [(0, .slice p_t t.length c_t), (13, .slice p_t t.length c_t), (14, .int .i64 (t.length : Int)), (15, .int .i64 (s : Int))] ∧ Owns w0.heap.size w [] A ∧ ISl (Rp.sl (Rp.int .i64)) (bl [] ++ A) w p_t c_t t ∧ Fr (bl []) w0 (bl []) w) H ⟨⟨rfl, rfl, rfl, rfl, trivial⟩, hO, h_t, hB⟩ ?_
   rintro X1 k1_4 H hX1 σ w3 ⟨hag, hO, h_t, hB⟩
   refine Go1.keep [(0, .slice p_t t.length c_t), (13, .slice p_t t.length c_t), (14, .int .i64 (t.length : Int)), (15, .int .i64 (k1_4 : Int))] hag ?_
   refine Go1.seq ?_
   refine Go1.region ?_
   by_cases h5 : (k1_4 : Int) < (t.length : Int)
   ·replace H := ifp h5 H
    refine GoR.op ((fun w => opB (op_lss rfl rfl w) (decide_eq_true h5)) _) rfl rfl ?_
    refine GoR.nil ?_
    refine Go1.seq ?_
    refine Go1.condT rfl rfl ?_
    refine Go1.skip ?_
    refine Go1.seq ?_
    refine Go1.block ?_
    refine Go1.seq ?_
    refine Go1.region ?_
    obtain ⟨h6, H⟩ := H
    obtain ⟨h7, H⟩ := H
    refine GoR.op ((op_index Try.underlying22 ti25 rfl rfl h6 h7 (h_t.some_ h6 h7)) _) rfl rfl ?_
    have hobt := ldSl h_t h6 h7
    obtain ⟨p8, c9, hi10, hl11⟩ := hobt
    refine GoR.op ((hl11 Try.underlying25 rfl rfl) _ (Same.refl _)) rfl rfl ?_
    refine GoR.op ((op_assign rfl) _) rfl rfl ?_
    refine GoR.nil ?_
    refine Go1.seq ?_
    refine Go1.seq ?_
    refine Go1.region ?_
    refine GoR.op ((op_move rfl) _) rfl rfl ?_
    refine GoR.op ((op_len Try.underlying25 rfl) _) rfl rfl ?_
    replace H := H hi10.bd
    refine GoR.op ((op_move rfl) _) rfl rfl ?_
    refine GoR.op ((op_len Try.underlying22 rfl) _) rfl rfl ?_
    by_cases h12 : ((ix t (k1_4 : Int)).length : Int) = (t.length : Int)
    ·replace H := ifp h12 H
     refine GoR.op ((fun w => opB (op_neq rfl rfl w) (ndT h12)) _) rfl rfl ?_
     refine GoR.nil ?_
     refine Go1.condF rfl rfl ?_
     refine Go1.skip ?_
     refine Go1.seq ?_
     refine Go1.region ?_
     refine GoR.op ((op_move rfl) _) rfl rfl ?_
     refine GoR.op ((op_len Try.underlying25 rfl) _) rfl rfl ?_
     refine GoR.op ((op_move rfl) _) rfl rfl ?_
     refine GoR.nil ?_
     refine Go1.block ?_
     refine Go1.loopW (S := Nat) (fun s σ w => agrees σ [(0, .slice p_t t.length c_t), (13, .slice p_t t.length c_t), (14, .int .i64 (t.length : Int)), (15, .int .i64 (k1_4 : Int)), (24, .slice p8 ((ix t (k1_4 : Int)).length) c9), (25, .int .i64 ((ix t (k1_4 : Int)).length : Int)), (26, .int .i64 (s : Int))] ∧ Owns w0.heap.size w [] A ∧ ISl (Rp.sl (Rp.int .i64)) (bl [] ++ A) w p_t c_t t ∧ ISl (Rp.int .i64) (bl [] ++ A) w p8 c9 (ix t (k1_4 : Int)) ∧ Fr (bl []) w0 (bl []) w) H ⟨⟨rfl, rfl, rfl, rfl, rfl, rfl, rfl, trivial⟩, hO, h_t, hi10, hB⟩ ?_
     rintro X2 k2_14 H hX2 σ w13 ⟨hag, hO, h_t, hi10, hB⟩
     refine Go1.keep [(0, .slice p_t t.length c_t), (13, .slice p_t t.length c_t), (14, .int .i64 (t.length : Int)), (15, .int .i64 (k1_4 : Int)), (24, .slice p8 ((ix t (k1_4 : Int)).length) c9), (25, .int .i64 ((ix t (k1_4 : Int)).length : Int)), (26, .int .i64 (k2_14 : Int))] hag ?_
     refine Go1.seq ?_
     refine Go1.region ?_
     by_cases h15 : (k2_14 : Int) < ((ix t (k1_4 : Int)).length : Int)
     ·replace H := ifp h15 H
      refine GoR.op ((fun w => opB (op_lss rfl rfl w) (decide_eq_true h15)) _) rfl rfl ?_
      refine GoR.nil ?_
      refine Go1.seq ?_
      refine Go1.condT rfl rfl ?_
      refine Go1.skip ?_
      refine Go1.seq ?_
      refine Go1.block ?_
      refine Go1.seq ?_
      refine Go1.region ?_
      obtain ⟨h16, H⟩ := H
      obtain ⟨h17, H⟩ := H
      refine GoR.op ((op_index Try.underlying25 ti3 rfl rfl h16 h17 (hi10.some_ h16 h17)) _) rfl rfl ?_
      refine GoR.op ((ldInt hi10 h16 h17 Try.underlying3 rfl rfl) _ (Same.refl _)) rfl rfl ?_
      refine GoR.op ((op_assign rfl) _) rfl rfl ?_
      refine GoR.nil ?_
      refine Go1.seq ?_
      refine Go1.region ?_
      refine GoR.op ((op_move rfl) _) rfl rfl ?_
      by_cases h18 : (ix (ix t (k1_4 : Int)) (k2_14 : Int)) < (0 : Int)
      ·replace H := ifp h18 H
       refine GoR.op ((fun w => opB (op_lss rfl rfl w) (decide_eq_true h18)) _) rfl rfl ?_
       refine GoR.op ((op_move rfl) _) rfl rfl ?_
       refine GoR.pass rfl rfl ?_
       refine GoR.pass rfl rfl ?_
       refine GoR.pass rfl rfl ?_
       refine GoR.pass rfl rfl ?_
       refine GoR.op ((op_pickT rfl rfl rfl) _) rfl rfl ?_
       refine GoR.nil ?_
       refine Go1.condT rfl rfl ?_
       refine Go1.seq ?_
       refine Go1.region ?_
       refine GoR.op ((op_assign rfl) _) rfl rfl ?_
       refine GoR.nil ?_
       refine Go1.ret1 Try.func71 rfl ?_
       exact ⟨(4 : Int), rfl, hB.same, H⟩
      ·replace H := ifn h18 H
       refine GoR.op ((fun w => opB (op_lss rfl rfl w) (decide_eq_false h18)) _) rfl rfl ?_
       refine GoR.op ((op_move rfl) _) rfl rfl ?_
       refine GoR.op ((op_move rfl) _) rfl rfl ?_
       refine GoR.op ((op_move rfl) _) rfl rfl ?_
       refine GoR.op ((op_len Try.underlying22 rfl) _) rfl rfl ?_
       by_cases h19 : (t.length : Int) ≤ (ix (ix t (k1_4 : Int)) (k2_14 : Int))
       ·replace H := ifp h19 H
        refine GoR.op ((fun w => opB (op_geq rfl rfl w) (decide_eq_true h19)) _) rfl rfl ?_
        refine GoR.op ((op_pickF rfl rfl rfl) _) rfl rfl ?_
        refine GoR.nil ?_
        refine Go1.condT rfl rfl ?_
        refine Go1.seq ?_
        refine Go1.region ?_
        refine GoR.op ((op_assign rfl) _) rfl rfl ?_
        refine GoR.nil ?_
        refine Go1.ret1 Try.func71 rfl ?_
        exact ⟨(4 : Int), rfl, hB.same, H⟩
       ·replace H := ifn h19 H
        refine GoR.op ((fun w => opB (op_geq rfl rfl w) (decide_eq_false h19)) _) rfl rfl ?_
        refine GoR.op ((op_pickF rfl rfl rfl) _) rfl rfl ?_
        refine GoR.nil ?_
        refine Go1.condF rfl rfl ?_
        refine Go1.skip ?_
        refine Go1.inBlock ?_
        refine Go1.region ?_
        refine GoR.op ((op_add rfl rfl (wrap_i64 (natbd h15 hi10.bd))) _) rfl rfl ?_
        refine GoR.op ((op_move rfl) _) rfl rfl ?_
        refine GoR.nil ?_
        exact hX2 _ H _ _ ⟨⟨rfl, rfl, rfl, rfl, rfl, rfl, rfl, trivial⟩, hO, h_t, hi10, hB⟩
     ·replace H := ifn h15 H
      refine GoR.op ((fun w => opB (op_lss rfl rfl w) (decide_eq_false h15)) _) rfl rfl ?_
      refine GoR.nil ?_
      refine Go1.seq ?_
      refine Go1.condF rfl rfl ?_
      refine Go1.exit rfl ?_
      refine Go1.inBlock ?_
      refine Go1.region ?_
      refine GoR.op ((op_add rfl rfl (wrap_i64 (natbd h5 h_t.bd))) _) rfl rfl ?_
      refine GoR.op ((op_move rfl) _) rfl rfl ?_
      refine GoR.nil ?_
      exact hX1 _ H _ _ ⟨⟨rfl, rfl, rfl, rfl, trivial⟩, hO, h_t, hB⟩
    ·replace H := ifn h12 H
     refine GoR.op ((fun w => opB (op_neq rfl rfl w) (ndF h12)) _) rfl rfl ?_
     refine GoR.nil ?_
     refine Go1.condT rfl rfl ?_
     refine Go1.seq ?_
     refine Go1.region ?_
     refine GoR.op ((op_assign rfl) _) rfl rfl ?_
     refine GoR.nil ?_
     refine Go1.ret1 Try.func71 rfl ?_
     exact ⟨(4 : Int), rfl, hB.same, H⟩
   ·replace H := ifn h5 H
    refine GoR.op ((fun w => opB (op_lss rfl rfl w) (decide_eq_false h5)) _) rfl rfl ?_
    refine GoR.nil ?_
    refine Go1.seq ?_
    refine Go1.condF rfl rfl ?_
    refine Go1.exit rfl ?_
    refine Go1.seq ?_
    refine Go1.region ?_
    refine GoR.op ((op_assign rfl) _) rfl rfl ?_
    refine GoR.nil ?_
    refine Go1.ret1 Try.func71 rfl ?_
    exact ⟨(0 : Int), rfl, hB.same, H⟩
theorem body91 : Body Try.prog 91 := ⟨Try.f91, Try.func91, rfl, by kernel_rfl⟩
theorem body73 : Body Try.prog 73 := ⟨Try.f73, Try.func73, rfl, by kernel_rfl⟩
theorem walk_mult_spanning {A : List Nat} {w0 : World} {p_a0 : Option Addr} {c_a0 : Nat} {a0 : List (List Int)} (hA : ∀ b ∈ A, b < w0.heap.size) (h_a0 : ISl (Rp.sl (Rp.int .i64)) A w0 p_a0 c_a0 a0) {K : List Int → Prop} (H : mult_spanning a0 K) :
    CallsV Try.prog 73 #[.slice p_a0 a0.length c_a0] w0 (fun v w' => ∃ (r0 : List Int), ∃ (p_r0 : Option Addr), ∃ (c_r0 : Nat), v = .slice p_r0 r0.length c_r0 ∧ Same w0 w' ∧ ISl (Rp.int .i64) A w' p_r0 c_r0 r0 ∧ K r0) := by
 refine CallsV.of (l := [.slice p_a0 a0.length c_a0]) Try.func73 rfl Try.ntmps73 rfl ?_
 have hO := Owns.start hA
 have hB := Fr.refl (bl []) w0
 unfold mult_spanning at H
 replace h_a0 := h_a0.ch (Ch.start A w0)
 refine Go1.seq ?_
 refine Go1.region ?_
 refine GoR.op ((op_assign rfl) _) rfl rfl ?_
 refine GoR.nil ?_
 refine Go1.seq ?_
 refine Go1.region ?_
 refine GoR.op ((op_assign rfl) _) rfl rfl ?_
 have hobt := oalloc (t := 25) (cs := #[.slice none 0 0]) ti25 hO rfl
 obtain ⟨w1, B2, hst3, hs4, hop5⟩ := hobt
 refine GoR.op hop5 rfl rfl ?_
 replace hO := hst3.own
 replace h_a0 := h_a0.ch hst3.ch
 replace hB := hB.trans hst3.fr
 refine GoR.nil ?_
 refine Go1.seq ?_
 refine Go1.region ?_
 refine GoR.op ((op_move rfl) _) rfl rfl ?_
 refine GoR.op ((op_len Try.underlying22 rfl) _) rfl rfl ?_
 replace H := H h_a0.bd
 obtain ⟨h14, H⟩ := H
 obtain ⟨h15, H⟩ := H
 have hobt := omake (n := (a0.length : Int)) (r := Rp.bool) (d := false) Try.underlying38 ti4 (fun _ _ => rfl) rfl hO h14 h15 (by decide)
 obtain ⟨w7, p8, vs9, hst10, hE11, hs12, hop13⟩ := hobt
 refine GoR.op (hop13 rfl rfl) rfl rfl ?_
 replace hO := hst10.own
 replace h_a0 := h_a0.ch hst10.ch
 replace hB := hB.trans hst10.fr
 have hobt := oalloc (t := 38) (cs := #[.slice none 0 0]) ti38 hO rfl
 obtain ⟨w17, B18, hst19, hs20, hop21⟩ := hobt
 refine GoR.op hop21 rfl rfl ?_
 replace hE11 := hE11.ch hst19.ch
 replace hO := hst19.own
 replace h_a0 := h_a0.ch hst19.ch
 replace hB := hB.trans hst19.fr
 have hobt := oblkSt (v := .slice p8 a0.length a0.length) (i := 0) 0 hO rfl rfl rfl
 obtain ⟨w23, hst24, hop25⟩ := hobt
 refine GoR.op (hop25 Try.underlying38 rfl ti38 rfl rfl) rfl rfl ?_
 replace hE11 := hE11.ch hst24.ch
 replace hO := hst24.own
 replace h_a0 := h_a0.ch hst24.ch
 replace hB := hB.trans hst24.fr
 refine GoR.nil ?_
 refine Go1.seq ?_
 refine Go1.region ?_
 refine GoR.op ((op_makeFunc (vs := [.pointer (some ⟨B18, 0, none⟩), .pointer (some ⟨B2, 0, none⟩)]) rfl) _) rfl rfl ?_
 refine GoR.op ((op_assign rfl) _) rfl rfl ?_
 refine GoR.nil ?_
 refine Go1.seq ?_
 refine Go1.region ?_
 refine GoR.op ((op_assign rfl) _) rfl rfl ?_
 refine GoR.nil ?_
 refine Go1.seq ?_
 refine Go1.seq ?_
 refine Go1.region ?_
 refine GoR.op ((op_move rfl) _) rfl rfl ?_
 refine GoR.op ((op_len Try.underlying22 rfl) _) rfl rfl ?_
 refine GoR.op ((op_move rfl) _) rfl rfl ?_
 refine GoR.nil ?_
 refine Go1.block ?_
 have hst27 := Stp.nil (e := 3) (r := 1) hO
 replace hE11 := hE11.ch hst27.ch
 replace hO := hst27.own
 replace h_a0 := h_a0.ch hst27.ch
 replace hB := hB.trans hst27.fr
 have hE28 := Els.nil (Rp.int .i64) (bl (.row 3 1 none 0 0 [] :: [.blk B18 (.cells #[.slice p8 a0.length a0.length] 38 (0, 0)), .row 4 1 p8 a0.length a0.length vs9, .blk B2 (.cells #[.slice none 0 0] 25 (0, 0))]) ++ A) w23
 have hst30 := Stp.nil (e := 3) (r := 1) hO
 replace hE28 := hE28.ch hst30.ch
 replace hE11 := hE11.ch hst30.ch
 replace hO := hst30.own
 replace h_a0 := h_a0.ch hst30.ch
 replace hB := hB.trans hst30.fr
 have hE31 := Els.nil (Rp.int .i64) (bl (.row 3 1 none 0 0 [] :: [.row 3 1 none 0 0 [], .blk B18 (.cells #[.slice p8 a0.length a0.length] 38 (0, 0)), .row 4 1 p8 a0.length a0.length vs9, .blk B2 (.cells #[.slice none 0 0] 25 (0, 0))]) ++ A) w23
 refine Go1.loopW (S := Nat × Nat × List Int × List Int × List Bool) (fun s σ w => ∃ (n40 : Nat), ∃ (p38 : Option Addr), ∃ (c39 : Nat), ∃ (vs36 : List Value), ∃ (n46 : Nat), ∃ (p44 : Option Addr), ∃ (c45 : Nat), ∃ (vs42 : List Value), ∃ (vs48 : List Value), agrees σ [(0, .slice p_a0 a0.length c_a0), (3, .slice p44 n46 c45), (4, .pointer (some ⟨B2, 0, none⟩)), (5, .pointer (some ⟨B18, 0, none⟩)), (6, .func (.func 91) #[] #[.pointer (some ⟨B18, 0, none⟩), .pointer (some ⟨B2, 0, none⟩)]), (7, .int .i64 ((s.1) : Int)), (17, .int .i64 (a0.length : Int)), (18, .int .i64 ((s.2.1) : Int))] ∧ Owns w0.heap.size w [.row 3 1 p38 n40 c39 vs36, .row 3 1 p44 n46 c45 vs42, .blk B18 (.cells #[.slice p8 a0.length a0.length] 38 (0, 0)), .row 4 1 p8 a0.length a0.length vs48, .blk B2 (.cells #[.slice p38 n40 c39] 25 (0, 0))] A ∧ Els (Rp.int .i64) (bl [.row 3 1 p38 n40 c39 vs36, .row 3 1 p44 n46 c45 vs42, .blk B18 (.cells #[.slice p8 a0.length a0.length] 38 (0, 0)), .row 4 1 p8 a0.length a0.length vs48, .blk B2 (.cells #[.slice p38 n40 c39] 25 (0, 0))] ++ A) w vs36 (s.2.2.1) ∧ Els (Rp.int .i64) (bl [.row 3 1 p38 n40 c39 vs36, .row 3 1 p44 n46 c45 vs42, .blk B18 (.cells #[.slice p8 a0.length a0.length] 38 (0, 0)), .row 4 1 p8 a0.length a0.length vs48, .blk B2 (.cells #[.slice p38 n40 c39] 25 (0, 0))] ++ A) w vs42 (s.2.2.2.1) ∧ Els (Rp.bool) (bl [.row 3 1 p38 n40 c39 vs36, .row 3 1 p44 n46 c45 vs42, .blk B18 (.cells #[.slice p8 a0.length a0.length] 38 (0, 0)), .row 4 1 p8 a0.length a0.length vs48, .blk B2 (.cells #[.slice p38 n40 c39] 25 (0, 0))] ++ A) w vs48 (s.2.2.2.2) ∧ ISl (Rp.sl (Rp.int .i64)) (bl [.row 3 1 p38 n40 c39 vs36, .row 3 1 p44 n46 c45 vs42, .blk B18 (.cells #[.slice p8 a0.length a0.length] 38 (0, 0)), .row 4 1 p8 a0.length a0.length vs48, .blk B2 (.cells #[.slice p38 n40 c39] 25 (0, 0))] ++ A) w p_a0 c_a0 a0 ∧ Fr (bl []) w0 (bl [.row 3 1 p38 n40 c39 vs36, .row 3 1 p44 n46 c45 vs42, .blk B18 (.cells #[.slice p8 a0.length a0.length] 38 (0, 0)), .row 4 1 p8 a0.length a0.length vs48, .blk B2 (.cells #[.slice p38 n40 c39] 25 (0, 0))]) w) H ⟨0, none, 0, [], 0, none, 0, [], vs9, ⟨rfl, rfl, rfl, rfl, rfl, rfl, rfl, rfl, trivial⟩, hO, hE31, hE28, hE11, h_a0, hB⟩ ?_
 rintro X1 ⟨k1_33, k1_34, d_35, d_41, d_47⟩ H hX1 σ w32 ⟨n40, p38, c39, vs36, n46, p44, c45, vs42, vs48, hag, hO, hE37, hE43, hE49, h_a0, hB⟩
 dsimp only at H
 refine Go1.keep [(0, .slice p_a0 a0.length c_a0), (3, .slice p44 n46 c45), (4, .pointer (some ⟨B2, 0, none⟩)), (5, .pointer (some ⟨B18, 0, none⟩)), (6, .func (.func 91) #[] #[.pointer (some ⟨B18, 0, none⟩), .pointer (some ⟨B2, 0, none⟩)]), (7, .int .i64 (k1_33 : Int)), (17, .int .i64 (a0.length : Int)), (18, .int .i64 (k1_34 : Int))] hag ?_
 refine Go1.seq ?_
 refine Go1.region ?_
 by_cases h50 : (k1_34 : Int) < (a0.length : Int)
 ·replace H := ifp h50 H
  refine GoR.op ((fun w => opB (op_lss rfl rfl w) (decide_eq_true h50)) _) rfl rfl ?_
  refine GoR.nil ?_
  refine Go1.seq ?_
  refine Go1.condT rfl rfl ?_
  refine Go1.skip ?_
  refine Go1.seq ?_
  refine Go1.block ?_
  refine Go1.seq ?_
  refine Go1.region ?_
  refine GoR.op ((op_move rfl) _) rfl rfl ?_
  refine GoR.op ((op_assign rfl) _) rfl rfl ?_
  refine GoR.nil ?_
  refine Go1.seq ?_
  refine Go1.seq ?_
  refine Go1.region ?_
  refine GoR.op ((oblk 2 hO rfl rfl Try.underlying38 rfl rfl) _ (Same.refl _)) rfl rfl ?_
  refine GoR.op ((op_move rfl) _) rfl rfl ?_
  obtain ⟨h51, H⟩ := H
  obtain ⟨h52, H⟩ := H
  refine GoR.op ((op_index Try.underlying38 ti4 rfl rfl h51 (ltn (hE49.neq hO 3 rfl) h52) (hE49.psome hO 3 rfl h51 h52)) _) rfl rfl ?_
  by_cases h53 : ix d_47 (k1_34 : Int) = true
  ·replace H := ifp h53 H
   refine GoR.op (opB ((oldBool 3 hO rfl hE49 h51 h52 Try.underlying4 rfl rfl) _ (Same.refl _)) (h53)) rfl rfl ?_
   refine GoR.nil ?_
   refine Go1.condT rfl rfl ?_
   refine Go1.exit rfl ?_
   refine Go1.region ?_
   refine GoR.op ((op_add rfl rfl (wrap_i64 (natbd h50 h_a0.bd))) _) rfl rfl ?_
   refine GoR.op ((op_move rfl) _) rfl rfl ?_
   refine GoR.nil ?_
   exact hX1 _ H _ _ ⟨n40, p38, c39, vs36, n46, p44, c45, vs42, vs48, ⟨rfl, rfl, rfl, rfl, rfl, rfl, rfl, rfl, trivial⟩, hO, hE37, hE43, hE49, h_a0, hB⟩
  ·replace H := ifn h53 H
   refine GoR.op (opB ((oldBool 3 hO rfl hE49 h51 h52 Try.underlying4 rfl rfl) _ (Same.refl _)) (Bool.eq_false_iff.2 h53)) rfl rfl ?_
   refine GoR.nil ?_
   refine Go1.condF rfl rfl ?_
   refine Go1.skip ?_
   refine Go1.seq ?_
   refine Go1.region ?_
   refine GoR.op ((op_move rfl) _) rfl rfl ?_
   refine GoR.op ((op_move rfl) _) rfl rfl ?_
   have hobt := obuild (r := Rp.int .i64) (n := 1) (parts := [(0, .int .i64 (k1_34 : Int))]) (vs := [.int .i64 (k1_34 : Int)]) (xs := [(k1_34 : Int)]) rfl Try.underlying25 ti3 hO (by decide) (by kernel_rfl) (Els.cons rfl rfl (Els.nil _ _ _) (by simp [mx])) rfl
   obtain ⟨w54, p55, hst56, hE57, hs58, hop59⟩ := hobt
   refine GoR.op (hop59 rfl) rfl rfl ?_
   replace hE37 := hE37.ch hst56.ch
   replace hE43 := hE43.ch hst56.ch
   replace hE49 := hE49.ch hst56.ch
   replace hO := hst56.own
   replace h_a0 := h_a0.ch hst56.ch
   replace hB := hB.trans hst56.fr
   have hobt := freeze 0 hO rfl hE57
   obtain ⟨hO1, hc63, hi61, hn62⟩ := hobt
   replace h_a0 := h_a0.ch hc63
   replace hE37 := hE37.ch hc63
   replace hE43 := hE43.ch hc63
   replace hE49 := hE49.ch hc63
   replace hB := hB.trans (Owns.dropFr _ _ 0)
   replace hO := hO1; clear hO1
   obtain ⟨h64, H⟩ := H
   have hobt := oapp Try.underlying25 ti3 rfl 1 hO rfl hE43 hi61 hn62 h64 (by decide)
   obtain ⟨w65, p66, c67, vs68, hst69, hE70, hop71⟩ := hobt
   refine GoR.op (hop71 rfl rfl) rfl rfl ?_
   replace hE37 := hE37.ch hst69.ch
   replace hE49 := hE49.ch hst69.ch
   replace hO := hst69.own
   replace h_a0 := h_a0.ch hst69.ch
   replace hi61 := hi61.ch hst69.ch
   replace hB := hB.trans hst69.fr
   refine GoR.op ((op_assign rfl) _) rfl rfl ?_
   refine GoR.nil ?_
   refine Go1.seq ?_
   refine Go1.region ?_
   refine GoR.op ((op_move rfl) _) rfl rfl ?_
   refine GoR.op ((op_move rfl) _) rfl rfl ?_
   refine GoR.inl (vs := [.int .i64 (k1_34 : Int)]) (caps := [.pointer (some ⟨B18, 0, none⟩), .pointer (some ⟨B2, 0, none⟩)]) rfl rfl body91 Try.func91 rfl Try.ntmps91 rfl rfl rfl ?_
   intro RhR73 hR73
   refine Go1.seq ?_
   refine Go1.region ?_
   refine GoR.op ((oblk 2 hO rfl rfl Try.underlying38 rfl rfl) _ (Same.refl _)) rfl rfl ?_
   refine GoR.op ((op_move rfl) _) rfl rfl ?_
   obtain ⟨h74, H⟩ := H
   obtain ⟨h75, H⟩ := H
   refine GoR.op ((op_index Try.underlying38 ti4 rfl rfl h74 (ltn (hE49.neq hO 3 rfl) h75) (hE49.psome hO 3 rfl h74 h75)) _) rfl rfl ?_
   refine GoR.op (opB ((oldBool 3 hO rfl hE49 h74 h75 Try.underlying4 rfl rfl) _ (Same.refl _)) (Bool.eq_false_iff.2 h53)) rfl rfl ?_
   refine GoR.op ((op_not rfl) _) rfl rfl ?_
   refine GoR.nil ?_
   refine Go1.condT rfl rfl ?_
   refine Go1.seq ?_
   refine Go1.region ?_
   refine GoR.op ((oblk 2 hO rfl rfl Try.underlying38 rfl rfl) _ (Same.refl _)) rfl rfl ?_
   refine GoR.op ((op_move rfl) _) rfl rfl ?_
   obtain ⟨h76, H⟩ := H
   obtain ⟨h77, H⟩ := H
   refine GoR.op ((op_index Try.underlying38 ti4 rfl rfl h76 (ltn (hE49.neq hO 3 rfl) h77) (hE49.psome hO 3 rfl h76 h77)) _) rfl rfl ?_
   have hobt := ost (r := Rp.bool) rfl 3 hO rfl hE49 h76 h77 (v := .bool true) (u := true) rfl rfl
   obtain ⟨w78, vs79, hst80, hE81, hop82⟩ := hobt
   refine GoR.op (hop82 Try.underlying4 rfl ti4 rfl rfl) rfl rfl ?_
   replace hE37 := hE37.ch hst80.ch
   replace hE70 := hE70.ch hst80.ch
   replace hO := hst80.own
   replace h_a0 := h_a0.ch hst80.ch
   replace hi61 := hi61.ch hst80.ch
   replace hB := hB.trans hst80.fr
   refine GoR.nil ?_
   refine Go1.region ?_
   refine GoR.op ((oblk 4 hO rfl rfl Try.underlying25 rfl rfl) _ (Same.refl _)) rfl rfl ?_
   refine GoR.op ((op_move rfl) _) rfl rfl ?_
   have hobt := obuild (r := Rp.int .i64) (n := 1) (parts := [(0, .int .i64 (k1_34 : Int))]) (vs := [.int .i64 (k1_34 : Int)]) (xs := [(k1_34 : Int)]) rfl Try.underlying25 ti3 hO (by decide) (by kernel_rfl) (Els.cons rfl rfl (Els.nil _ _ _) (by simp [mx])) rfl
   obtain ⟨w83, p84, hst85, hE86, hs87, hop88⟩ := hobt
   refine GoR.op (hop88 rfl) rfl rfl ?_
   replace hE37 := hE37.ch hst85.ch
   replace hE70 := hE70.ch hst85.ch
   replace hE81 := hE81.ch hst85.ch
   replace hO := hst85.own
   replace h_a0 := h_a0.ch hst85.ch
   replace hi61 := hi61.ch hst85.ch
   replace hB := hB.trans hst85.fr
   have hobt := freeze 0 hO rfl hE86
   obtain ⟨hO1, hc92, hi90, hn91⟩ := hobt
   replace h_a0 := h_a0.ch hc92
   replace hi61 := hi61.ch hc92
   replace hE37 := hE37.ch hc92
   replace hE70 := hE70.ch hc92
   replace hE81 := hE81.ch hc92
   replace hB := hB.trans (Owns.dropFr _ _ 0)
   replace hO := hO1; clear hO1
   obtain ⟨h93, H⟩ := H
   have hobt := oapp Try.underlying25 ti3 rfl 0 hO rfl hE37 hi90 hn91 h93 (by decide)
   obtain ⟨w94, p95, c96, vs97, hst98, hE99, hop100⟩ := hobt
   refine GoR.op (hop100 rfl rfl) rfl rfl ?_
   replace hE70 := hE70.ch hst98.ch
   replace hE81 := hE81.ch hst98.ch
   replace hO := hst98.own
   replace h_a0 := h_a0.ch hst98.ch
   replace hi61 := hi61.ch hst98.ch
   replace hi90 := hi90.ch hst98.ch
   replace hB := hB.trans hst98.fr
   have hobt := oblkSt (v := .slice p95 (n40 + 1) c96) (i := 0) 4 hO rfl rfl rfl
   obtain ⟨w102, hst103, hop104⟩ := hobt
   refine GoR.op (hop104 Try.underlying25 rfl ti25 rfl rfl) rfl rfl ?_
   replace hE99 := hE99.ch hst103.ch
   replace hE70 := hE70.ch hst103.ch
   replace hE81 := hE81.ch hst103.ch
   replace hO := hst103.own
   replace h_a0 := h_a0.ch hst103.ch
   replace hi61 := hi61.ch hst103.ch
   replace hi90 := hi90.ch hst103.ch
   replace hB := hB.trans hst103.fr
   refine GoR.nil ?_
   refine Go1.fin0V Try.func91 rfl ?_
   refine hR73 _ _ ?_
   refine GoR.nil ?_
   refine Go1.block ?_
   refine Go1.loopW (S := Nat × List Int × List Bool) (fun s σ w => ∃ (n112 : Nat), ∃ (p110 : Option Addr), ∃ (c111 : Nat), ∃ (vs108 : List Value), ∃ (vs114 : List Value), agrees σ [(0, .slice p_a0 a0.length c_a0), (3, .slice p66 (n46 + 1) c67), (4, .pointer (some ⟨B2, 0, none⟩)), (5, .pointer (some ⟨B18, 0, none⟩)), (6, .func (.func 91) #[] #[.pointer (some ⟨B18, 0, none⟩), .pointer (some ⟨B2, 0, none⟩)]), (7, .int .i64 ((s.1) : Int)), (17, .int .i64 (a0.length : Int)), (18, .int .i64 (k1_34 : Int))] ∧ Owns w0.heap.size w [.row 3 1 p110 n112 c111 vs108, .row 3 1 p66 (n46 + 1) c67 vs68, .blk B18 (.cells #[.slice p8 a0.length a0.length] 38 (0, 0)), .row 4 1 p8 a0.length a0.length vs114, .blk B2 (.cells #[.slice p110 n112 c111] 25 (0, 0))] A ∧ Els (Rp.int .i64) (bl [.row 3 1 p110 n112 c111 vs108, .row 3 1 p66 (n46 + 1) c67 vs68, .blk B18 (.cells #[.slice p8 a0.length a0.length] 38 (0, 0)), .row 4 1 p8 a0.length a0.length vs114, .blk B2 (.cells #[.slice p110 n112 c111] 25 (0, 0))] ++ A) w vs108 (s.2.1) ∧ Els (Rp.int .i64) (bl [.row 3 1 p110 n112 c111 vs108, .row 3 1 p66 (n46 + 1) c67 vs68, .blk B18 (.cells #[.slice p8 a0.length a0.length] 38 (0, 0)), .row 4 1 p8 a0.length a0.length vs114, .blk B2 (.cells #[.slice p110 n112 c111] 25 (0, 0))] ++ A) w vs68 (d_41 ++ ([(k1_34 : Int)])) ∧ Els (Rp.bool) (bl [.row 3 1 p110 n112 c111 vs108, .row 3 1 p66 (n46 + 1) c67 vs68, .blk B18 (.cells #[.slice p8 a0.length a0.length] 38 (0, 0)), .row 4 1 p8 a0.length a0.length vs114, .blk B2 (.cells #[.slice p110 n112 c111] 25 (0, 0))] ++ A) w vs114 (s.2.2) ∧ ISl (Rp.sl (Rp.int .i64)) (bl [.row 3 1 p110 n112 c111 vs108, .row 3 1 p66 (n46 + 1) c67 vs68, .blk B18 (.cells #[.slice p8 a0.length a0.length] 38 (0, 0)), .row 4 1 p8 a0.length a0.length vs114, .blk B2 (.cells #[.slice p110 n112 c111] 25 (0, 0))] ++ A) w p_a0 c_a0 a0 ∧ Fr (bl []) w0 (bl [.row 3 1 p110 n112 c111 vs108, .row 3 1 p66 (n46 + 1) c67 vs68, .blk B18 (.cells #[.slice p8 a0.length a0.length] 38 (0, 0)), .row 4 1 p8 a0.length a0.length vs114, .blk B2 (.cells #[.slice p110 n112 c111] 25 (0, 0))]) w) H ⟨n40 + 1, p95, c96, vs97, vs79, ⟨rfl, rfl, rfl, rfl, rfl, rfl, rfl, rfl, trivial⟩, hO, hE99, hE70, hE81, h_a0, hB⟩ ?_
   rintro X2 ⟨k2_106, d_107, d_113⟩ H hX2 σ w105 ⟨n112, p110, c111, vs108, vs114, hag, hO, hE109, hE70, hE115, h_a0, hB⟩
   dsimp only at H
   refine Go1.keep [(0, .slice p_a0 a0.length c_a0), (3, .slice p66 (n46 + 1) c67), (4, .pointer (some ⟨B2, 0, none⟩)), (5, .pointer (some ⟨B18, 0, none⟩)), (6, .func (.func 91) #[] #[.pointer (some ⟨B18, 0, none⟩), .pointer (some ⟨B2, 0, none⟩)]), (7, .int .i64 (k2_106 : Int)), (17, .int .i64 (a0.length : Int)), (18, .int .i64 (k1_34 : Int))] hag ?_
   refine Go1.seq ?_
   refine Go1.seq ?_
   refine Go1.region ?_
   refine GoR.op ((op_move rfl) _) rfl rfl ?_
   refine GoR.op ((oblk 4 hO rfl rfl Try.underlying25 rfl rfl) _ (Same.refl _)) rfl rfl ?_
   refine GoR.op ((op_lenN Try.underlying25 rfl (hE109.neq hO 0 rfl)) _) rfl rfl ?_
   by_cases h116 : (k2_106 : Int) < (d_107.length : Int)
   ·replace H := ifp h116 H
    refine GoR.op ((fun w => opB (op_lss rfl rfl w) (decide_eq_true h116)) _) rfl rfl ?_
    refine GoR.nil ?_
    refine Go1.condT rfl rfl ?_
    refine Go1.skip ?_
    refine Go1.seq ?_
    refine Go1.block ?_
    refine Go1.seq ?_
    refine Go1.region ?_
    refine GoR.op ((oblk 4 hO rfl rfl Try.underlying25 rfl rfl) _ (Same.refl _)) rfl rfl ?_
    refine GoR.op ((op_move rfl) _) rfl rfl ?_
    obtain ⟨h117, H⟩ := H
    obtain ⟨h118, H⟩ := H
    refine GoR.op ((op_index Try.underlying25 ti3 rfl rfl h117 (ltn (hE109.neq hO 0 rfl) h118) (hE109.psome hO 0 rfl h117 h118)) _) rfl rfl ?_
    refine GoR.op ((oldInt 0 hO rfl hE109 h117 h118 Try.underlying3 rfl rfl) _ (Same.refl _)) rfl rfl ?_
    refine GoR.op ((op_assign rfl) _) rfl rfl ?_
    refine GoR.nil ?_
    refine Go1.seq ?_
    refine Go1.region ?_
    refine GoR.op ((oblk 4 hO rfl rfl Try.underlying25 rfl rfl) _ (Same.refl _)) rfl rfl ?_
    refine GoR.op ((op_move rfl) _) rfl rfl ?_
    refine GoR.op ((op_add rfl rfl (wrap_i64 (natbd h116 hE109.bd))) _) rfl rfl ?_
    obtain ⟨h119, H⟩ := H
    obtain ⟨h120, H⟩ := H
    have hal121 := AL.start 0 hO rfl hE109 ((k2_106 + 1 : Int)).toNat
    refine GoR.op ((op_sliceTo Try.underlying25 ti3 rfl rfl h119 (Els.lec 0 hO rfl hE109 h120)) _) rfl rfl ?_
    refine GoR.op ((op_lenN Try.underlying25 rfl (takeLen h119 h120)) _) rfl rfl ?_
    refine GoR.op ((op_move rfl) _) rfl rfl ?_
    refine GoR.nil ?_
    refine Go1.block ?_
    refine Go1.loopW (S := Nat × List Int × List Bool) (fun s σ w => ∃ (n129 : Nat), ∃ (p127 : Option Addr), ∃ (c128 : Nat), ∃ (vs125 : List Value), ∃ (vs131 : List Value), agrees σ [(0, .slice p_a0 a0.length c_a0), (3, .slice p66 (n46 + 1) c67), (4, .pointer (some ⟨B2, 0, none⟩)), (5, .pointer (some ⟨B18, 0, none⟩)), (6, .func (.func 91) #[] #[.pointer (some ⟨B18, 0, none⟩), .pointer (some ⟨B2, 0, none⟩)]), (7, .int .i64 (k2_106 : Int)), (9, .int .i64 (ix d_107 (k2_106 : Int))), (17, .int .i64 (a0.length : Int)), (18, .int .i64 (k1_34 : Int)), (45, .slice p110 (((k2_106 + 1 : Int)).toNat) c111), (46, .int .i64 ((d_107.take ((k2_106 + 1 : Int)).toNat).length : Int)), (47, .int .i64 ((s.1) : Int))] ∧ Owns w0.heap.size w [.row 3 1 p127 n129 c128 vs125, .row 3 1 p66 (n46 + 1) c67 vs68, .blk B18 (.cells #[.slice p8 a0.length a0.length] 38 (0, 0)), .row 4 1 p8 a0.length a0.length vs131, .blk B2 (.cells #[.slice p127 n129 c128] 25 (0, 0))] A ∧ Els (Rp.int .i64) (bl [.row 3 1 p127 n129 c128 vs125, .row 3 1 p66 (n46 + 1) c67 vs68, .blk B18 (.cells #[.slice p8 a0.length a0.length] 38 (0, 0)), .row 4 1 p8 a0.length a0.length vs131, .blk B2 (.cells #[.slice p127 n129 c128] 25 (0, 0))] ++ A) w vs125 (s.2.1) ∧ Els (Rp.int .i64) (bl [.row 3 1 p127 n129 c128 vs125, .row 3 1 p66 (n46 + 1) c67 vs68, .blk B18 (.cells #[.slice p8 a0.length a0.length] 38 (0, 0)), .row 4 1 p8 a0.length a0.length vs131, .blk B2 (.cells #[.slice p127 n129 c128] 25 (0, 0))] ++ A) w vs68 (d_41 ++ ([(k1_34 : Int)])) ∧ Els (Rp.bool) (bl [.row 3 1 p127 n129 c128 vs125, .row 3 1 p66 (n46 + 1) c67 vs68, .blk B18 (.cells #[.slice p8 a0.length a0.length] 38 (0, 0)), .row 4 1 p8 a0.length a0.length vs131, .blk B2 (.cells #[.slice p127 n129 c128] 25 (0, 0))] ++ A) w vs131 (s.2.2) ∧ AL (Rp.int .i64) (bl [.row 3 1 p127 n129 c128 vs125, .row 3 1 p66 (n46 + 1) c67 vs68, .blk B18 (.cells #[.slice p8 a0.length a0.length] 38 (0, 0)), .row 4 1 p8 a0.length a0.length vs131, .blk B2 (.cells #[.slice p127 n129 c128] 25 (0, 0))] ++ A) w p127 (s.2.1) p110 c111 (d_107.take ((k2_106 + 1 : Int)).toNat) ∧ ISl (Rp.sl (Rp.int .i64)) (bl [.row 3 1 p127 n129 c128 vs125, .row 3 1 p66 (n46 + 1) c67 vs68, .blk B18 (.cells #[.slice p8 a0.length a0.length] 38 (0, 0)), .row 4 1 p8 a0.length a0.length vs131, .blk B2 (.cells #[.slice p127 n129 c128] 25 (0, 0))] ++ A) w p_a0 c_a0 a0 ∧ Fr (bl []) w0 (bl [.row 3 1 p127 n129 c128 vs125, .row 3 1 p66 (n46 + 1) c67 vs68, .blk B18 (.cells #[.slice p8 a0.length a0.length] 38 (0, 0)), .row 4 1 p8 a0.length a0.length vs131, .blk B2 (.cells #[.slice p127 n129 c128] 25 (0, 0))]) w) H ⟨n112, p110, c111, vs108, vs114, ⟨rfl, rfl, rfl, rfl, rfl, rfl, rfl, rfl, rfl, rfl, rfl, rfl, trivial⟩, hO, hE109, hE70, hE115, hal121, h_a0, hB⟩ ?_
    rintro X3 ⟨k3_123, d_124, d_130⟩ H hX3 σ w122 ⟨n129, p127, c128, vs125, vs131, hag, hO, hE126, hE70, hE132, hal121, h_a0, hB⟩
    dsimp only at H
    refine Go1.keep [(0, .slice p_a0 a0.length c_a0), (3, .slice p66 (n46 + 1) c67), (4, .pointer (some ⟨B2, 0, none⟩)), (5, .pointer (some ⟨B18, 0, none⟩)), (6, .func (.func 91) #[] #[.pointer (some ⟨B18, 0, none⟩), .pointer (some ⟨B2, 0, none⟩)]), (7, .int .i64 (k2_106 : Int)), (9, .int .i64 (ix d_107 (k2_106 : Int))), (17, .int .i64 (a0.length : Int)), (18, .int .i64 (k1_34 : Int)), (45, .slice p110 (((k2_106 + 1 : Int)).toNat) c111), (46, .int .i64 ((d_107.take ((k2_106 + 1 : Int)).toNat).length : Int)), (47, .int .i64 (k3_123 : Int))] hag ?_
    refine Go1.seq ?_
    refine Go1.region ?_
    by_cases h133 : (k3_123 : Int) < ((d_107.take ((k2_106 + 1 : Int)).toNat).length : Int)
    ·replace H := ifp h133 H
     refine GoR.op ((fun w => opB (op_lss rfl rfl w) (decide_eq_true h133)) _) rfl rfl ?_
     refine GoR.nil ?_
     refine Go1.seq ?_
     refine Go1.condT rfl rfl ?_
     refine Go1.skip ?_
     refine Go1.seq ?_
     refine Go1.block ?_
     refine Go1.seq ?_
     refine Go1.region ?_
     obtain ⟨h134, H⟩ := H
     obtain ⟨h135, H⟩ := H
     refine GoR.op ((op_index Try.underlying25 ti3 rfl rfl h134 (ltn (takeLen h119 h120) h135) (hal121.some_ h134 h135)) _) rfl rfl ?_
     refine GoR.op ((AL.int 0 hO rfl hE126 hal121 h134 h135 Try.underlying3 rfl rfl) _ (Same.refl _)) rfl rfl ?_
     refine GoR.op ((op_assign rfl) _) rfl rfl ?_
     refine GoR.nil ?_
     refine Go1.seq ?_
     refine Go1.region ?_
     refine GoR.op ((op_move rfl) _) rfl rfl ?_
     refine GoR.op ((op_move rfl) _) rfl rfl ?_
     refine GoR.op ((op_move rfl) _) rfl rfl ?_
     obtain ⟨h136, H⟩ := H
     obtain ⟨h137, H⟩ := H
     refine GoR.op ((op_index Try.underlying22 ti25 rfl rfl h136 h137 (h_a0.some_ h136 h137)) _) rfl rfl ?_
     have hobt := ldSl h_a0 h136 h137
     obtain ⟨p138, c139, hi140, hl141⟩ := hobt
     refine GoR.op ((hl141 Try.underlying25 rfl rfl) _ (Same.refl _)) rfl rfl ?_
     refine GoR.op ((op_move rfl) _) rfl rfl ?_
     obtain ⟨h142, H⟩ := H
     obtain ⟨h143, H⟩ := H
     refine GoR.op ((op_index Try.underlying25 ti3 rfl rfl h142 h143 (hi140.some_ h142 h143)) _) rfl rfl ?_
     refine GoR.op ((ldInt hi140 h142 h143 Try.underlying3 rfl rfl) _ (Same.refl _)) rfl rfl ?_
     refine GoR.inl (vs := [.int .i64 (ix (ix a0 (ix d_107 (k2_106 : Int))) (ix (d_107.take ((k2_106 + 1 : Int)).toNat) (k3_123 : Int)))]) (caps := [.pointer (some ⟨B18, 0, none⟩), .pointer (some ⟨B2, 0, none⟩)]) rfl rfl body91 Try.func91 rfl Try.ntmps91 rfl rfl rfl ?_
     intro RhR144 hR144
     refine Go1.seq ?_
     refine Go1.region ?_
     refine GoR.op ((oblk 2 hO rfl rfl Try.underlying38 rfl rfl) _ (Same.refl _)) rfl rfl ?_
     refine GoR.op ((op_move rfl) _) rfl rfl ?_
     obtain ⟨h145, H⟩ := H
     obtain ⟨h146, H⟩ := H
     refine GoR.op ((op_index Try.underlying38 ti4 rfl rfl h145 (ltn (hE132.neq hO 3 rfl) h146) (hE132.psome hO 3 rfl h145 h146)) _) rfl rfl ?_
     by_cases h147 : ix d_130 (ix (ix a0 (ix d_107 (k2_106 : Int))) (ix (d_107.take ((k2_106 + 1 : Int)).toNat) (k3_123 : Int))) = true
     ·replace H := ifp h147 H
      refine GoR.op (opB ((oldBool 3 hO rfl hE132 h145 h146 Try.underlying4 rfl rfl) _ (Same.refl _)) (h147)) rfl rfl ?_
      refine GoR.op ((op_not rfl) _) rfl rfl ?_
      refine GoR.nil ?_
      refine Go1.condF rfl rfl ?_
      refine Go1.skip ?_
      refine Go1.fin0V Try.func91 rfl ?_
      refine hR144 _ _ ?_
      refine GoR.nil ?_
      refine Go1.region ?_
      refine GoR.op ((op_move rfl) _) rfl rfl ?_
      refine GoR.op ((op_move rfl) _) rfl rfl ?_
      refine GoR.op ((op_move rfl) _) rfl rfl ?_
      obtain ⟨h148, H⟩ := H
      obtain ⟨h149, H⟩ := H
      refine GoR.op ((op_index Try.underlying22 ti25 rfl rfl h148 h149 (h_a0.some_ h148 h149)) _) rfl rfl ?_
      have hobt := ldSl h_a0 h148 h149
      obtain ⟨p150, c151, hi152, hl153⟩ := hobt
      refine GoR.op ((hl153 Try.underlying25 rfl rfl) _ (Same.refl _)) rfl rfl ?_
      refine GoR.op ((op_move rfl) _) rfl rfl ?_
      obtain ⟨h154, H⟩ := H
      obtain ⟨h155, H⟩ := H
      refine GoR.op ((op_index Try.underlying25 ti3 rfl rfl h154 h155 (hi152.some_ h154 h155)) _) rfl rfl ?_
      refine GoR.op ((ldInt hi152 h154 h155 Try.underlying3 rfl rfl) _ (Same.refl _)) rfl rfl ?_
      refine GoR.inl (vs := [.int .i64 (ix (ix a0 (ix (d_107.take ((k2_106 + 1 : Int)).toNat) (k3_123 : Int))) (ix d_107 (k2_106 : Int)))]) (caps := [.pointer (some ⟨B18, 0, none⟩), .pointer (some ⟨B2, 0, none⟩)]) rfl rfl body91 Try.func91 rfl Try.ntmps91 rfl rfl rfl ?_
      intro RhR156 hR156
      refine Go1.seq ?_
      refine Go1.region ?_
      refine GoR.op ((oblk 2 hO rfl rfl Try.underlying38 rfl rfl) _ (Same.refl _)) rfl rfl ?_
      refine GoR.op ((op_move rfl) _) rfl rfl ?_
      obtain ⟨h157, H⟩ := H
      obtain ⟨h158, H⟩ := H
      refine GoR.op ((op_index Try.underlying38 ti4 rfl rfl h157 (ltn (hE132.neq hO 3 rfl) h158) (hE132.psome hO 3 rfl h157 h158)) _) rfl rfl ?_
      by_cases h159 : ix d_130 (ix (ix a0 (ix (d_107.take ((k2_106 + 1 : Int)).toNat) (k3_123 : Int))) (ix d_107 (k2_106 : Int))) = true
      ·replace H := ifp h159 H
       refine GoR.op (opB ((oldBool 3 hO rfl hE132 h157 h158 Try.underlying4 rfl rfl) _ (Same.refl _)) (h159)) rfl rfl ?_
       refine GoR.op ((op_not rfl) _) rfl rfl ?_
       refine GoR.nil ?_
       refine Go1.condF rfl rfl ?_
       refine Go1.skip ?_
       refine Go1.fin0V Try.func91 rfl ?_
       refine hR156 _ _ ?_
       refine GoR.nil ?_
       refine Go1.inBlock ?_
       refine Go1.region ?_
       obtain ⟨h160, H⟩ := H
       refine GoR.op ((op_add rfl rfl (wrap_i64 h160)) _) rfl rfl ?_
       refine GoR.op ((op_move rfl) _) rfl rfl ?_
       refine GoR.nil ?_
       exact hX3 _ H _ _ ⟨n129, p127, c128, vs125, vs131, ⟨rfl, rfl, rfl, rfl, rfl, rfl, rfl, rfl, rfl, rfl, rfl, rfl, trivial⟩, hO, hE126, hE70, hE132, hal121, h_a0, hB⟩
      ·replace H := ifn h159 H
       refine GoR.op (opB ((oldBool 3 hO rfl hE132 h157 h158 Try.underlying4 rfl rfl) _ (Same.refl _)) (Bool.eq_false_iff.2 h159)) rfl rfl ?_
       refine GoR.op ((op_not rfl) _) rfl rfl ?_
       refine GoR.nil ?_
       refine Go1.condT rfl rfl ?_
       refine Go1.seq ?_
       refine Go1.region ?_
       refine GoR.op ((oblk 2 hO rfl rfl Try.underlying38 rfl rfl) _ (Same.refl _)) rfl rfl ?_
       refine GoR.op ((op_move rfl) _) rfl rfl ?_
       obtain ⟨h161, H⟩ := H
       obtain ⟨h162, H⟩ := H
       refine GoR.op ((op_index Try.underlying38 ti4 rfl rfl h161 (ltn (hE132.neq hO 3 rfl) h162) (hE132.psome hO 3 rfl h161 h162)) _) rfl rfl ?_
       have hobt := ost (r := Rp.bool) rfl 3 hO rfl hE132 h161 h162 (v := .bool true) (u := true) rfl rfl
       obtain ⟨w163, vs164, hst165, hE166, hop167⟩ := hobt
       refine GoR.op (hop167 Try.underlying4 rfl ti4 rfl rfl) rfl rfl ?_
       replace hE126 := hE126.ch hst165.ch
       replace hE70 := hE70.ch hst165.ch
       replace hal121 := hal121.ch hst165.ch
       replace hO := hst165.own
       replace h_a0 := h_a0.ch hst165.ch
       replace hi140 := hi140.ch hst165.ch
       replace hi152 := hi152.ch hst165.ch
       replace hB := hB.trans hst165.fr
       refine GoR.nil ?_
       refine Go1.region ?_
       refine GoR.op ((oblk 4 hO rfl rfl Try.underlying25 rfl rfl) _ (Same.refl _)) rfl rfl ?_
       refine GoR.op ((op_move rfl) _) rfl rfl ?_
       have hobt := obuild (r := Rp.int .i64) (n := 1) (parts := [(0, .int .i64 (ix (ix a0 (ix (d_107.take ((k2_106 + 1 : Int)).toNat) (k3_123 : Int))) (ix d_107 (k2_106 : Int))))]) (vs := [.int .i64 (ix (ix a0 (ix (d_107.take ((k2_106 + 1 : Int)).toNat) (k3_123 : Int))) (ix d_107 (k2_106 : Int)))]) (xs := [(ix (ix a0 (ix (d_107.take ((k2_106 + 1 : Int)).toNat) (k3_123 : Int))) (ix d_107 (k2_106 : Int)))]) rfl Try.underlying25 ti3 hO (by decide) (by kernel_rfl) (Els.cons rfl rfl (Els.nil _ _ _) (by simp [mx])) rfl
       obtain ⟨w168, p169, hst170, hE171, hs172, hop173⟩ := hobt
       refine GoR.op (hop173 rfl) rfl rfl ?_
       replace hE126 := hE126.ch hst170.ch
       replace hE70 := hE70.ch hst170.ch
       replace hE166 := hE166.ch hst170.ch
       replace hal121 := hal121.ch hst170.ch
       replace hO := hst170.own
       replace h_a0 := h_a0.ch hst170.ch
       replace hi140 := hi140.ch hst170.ch
       replace hi152 := hi152.ch hst170.ch
       replace hB := hB.trans hst170.fr
       have hobt := freeze 0 hO rfl hE171
       obtain ⟨hO1, hc177, hi175, hn176⟩ := hobt
       replace h_a0 := h_a0.ch hc177
       replace hi140 := hi140.ch hc177
       replace hi152 := hi152.ch hc177
       replace hE126 := hE126.ch hc177
       replace hE70 := hE70.ch hc177
       replace hE166 := hE166.ch hc177
       replace hal121 := hal121.ch hc177
       replace hB := hB.trans (Owns.dropFr _ _ 0)
       replace hO := hO1; clear hO1
       obtain ⟨h178, H⟩ := H
       have hobt := oapp2 Try.underlying25 ti3 rfl 0 hO rfl hE126 hi175 hn176 h178 (by decide)
       obtain ⟨w179, p180, c181, vs182, hst183, hE184, hold186, hop185⟩ := hobt
       refine GoR.op (hop185 rfl rfl) rfl rfl ?_
       replace hE70 := hE70.ch hst183.ch
       replace hE166 := hE166.ch hst183.ch
       replace hal121 := hal121.app (us := [(ix (ix a0 (ix (d_107.take ((k2_106 + 1 : Int)).toNat) (k3_123 : Int))) (ix d_107 (k2_106 : Int)))]) hst183.ch hold186
       replace hO := hst183.own
       replace h_a0 := h_a0.ch hst183.ch
       replace hi140 := hi140.ch hst183.ch
       replace hi152 := hi152.ch hst183.ch
       replace hi175 := hi175.ch hst183.ch
       replace hB := hB.trans hst183.fr
       have hobt := oblkSt (v := .slice p180 (n129 + 1) c181) (i := 0) 4 hO rfl rfl rfl
       obtain ⟨w187, hst188, hop189⟩ := hobt
       refine GoR.op (hop189 Try.underlying25 rfl ti25 rfl rfl) rfl rfl ?_
       replace hE184 := hE184.ch hst188.ch
       replace hE70 := hE70.ch hst188.ch
       replace hE166 := hE166.ch hst188.ch
       replace hal121 := hal121.ch hst188.ch
       replace hO := hst188.own
       replace h_a0 := h_a0.ch hst188.ch
       replace hi140 := hi140.ch hst188.ch
       replace hi152 := hi152.ch hst188.ch
       replace hi175 := hi175.ch hst188.ch
       replace hB := hB.trans hst188.fr
       refine GoR.nil ?_
       refine Go1.fin0V Try.func91 rfl ?_
       refine hR156 _ _ ?_
       refine GoR.nil ?_
       refine Go1.inBlock ?_
       refine Go1.region ?_
       obtain ⟨h190, H⟩ := H
       refine GoR.op ((op_add rfl rfl (wrap_i64 h190)) _) rfl rfl ?_
       refine GoR.op ((op_move rfl) _) rfl rfl ?_
       refine GoR.nil ?_
       exact hX3 _ H _ _ ⟨n129 + 1, p180, c181, vs182, vs164, ⟨rfl, rfl, rfl, rfl, rfl, rfl, rfl, rfl, rfl, rfl, rfl, rfl, trivial⟩, hO, hE184, hE70, hE166, hal121, h_a0, hB⟩
     ·replace H := ifn h147 H
      refine GoR.op (opB ((oldBool 3 hO rfl hE132 h145 h146 Try.underlying4 rfl rfl) _ (Same.refl _)) (Bool.eq_false_iff.2 h147)) rfl rfl ?_
      refine GoR.op ((op_not rfl) _) rfl rfl ?_
      refine GoR.nil ?_
      refine Go1.condT rfl rfl ?_
      refine Go1.seq ?_
      refine Go1.region ?_
      refine GoR.op ((oblk 2 hO rfl rfl Try.underlying38 rfl rfl) _ (Same.refl _)) rfl rfl ?_
      refine GoR.op ((op_move rfl) _) rfl rfl ?_
      obtain ⟨h191, H⟩ := H
      obtain ⟨h192, H⟩ := H
      refine GoR.op ((op_index Try.underlying38 ti4 rfl rfl h191 (ltn (hE132.neq hO 3 rfl) h192) (hE132.psome hO 3 rfl h191 h192)) _) rfl rfl ?_
      have hobt := ost (r := Rp.bool) rfl 3 hO rfl hE132 h191 h192 (v := .bool true) (u := true) rfl rfl
      obtain ⟨w193, vs194, hst195, hE196, hop197⟩ := hobt
      refine GoR.op (hop197 Try.underlying4 rfl ti4 rfl rfl) rfl rfl ?_
      replace hE126 := hE126.ch hst195.ch
      replace hE70 := hE70.ch hst195.ch
      replace hal121 := hal121.ch hst195.ch
      replace hO := hst195.own
      replace h_a0 := h_a0.ch hst195.ch
      replace hi140 := hi140.ch hst195.ch
      replace hB := hB.trans hst195.fr
      refine GoR.nil ?_
      refine Go1.region ?_
      refine GoR.op ((oblk 4 hO rfl rfl Try.underlying25 rfl rfl) _ (Same.refl _)) rfl rfl ?_
      refine GoR.op ((op_move rfl) _) rfl rfl ?_
      have hobt := obuild (r := Rp.int .i64) (n := 1) (parts := [(0, .int .i64 (ix (ix a0 (ix d_107 (k2_106 : Int))) (ix (d_107.take ((k2_106 + 1 : Int)).toNat) (k3_123 : Int))))]) (vs := [.int .i64 (ix (ix a0 (ix d_107 (k2_106 : Int))) (ix (d_107.take ((k2_106 + 1 : Int)).toNat) (k3_123 : Int)))]) (xs := [(ix (ix a0 (ix d_107 (k2_106 : Int))) (ix (d_107.take ((k2_106 + 1 : Int)).toNat) (k3_123 : Int)))]) rfl Try.underlying25 ti3 hO (by decide) (by kernel_rfl) (Els.cons rfl rfl (Els.nil _ _ _) (by simp [mx])) rfl
      obtain ⟨w198, p199, hst200, hE201, hs202, hop203⟩ := hobt
      refine GoR.op (hop203 rfl) rfl rfl ?_
      replace hE126 := hE126.ch hst200.ch
      replace hE70 := hE70.ch hst200.ch
      replace hE196 := hE196.ch hst200.ch
      replace hal121 := hal121.ch hst200.ch
      replace hO := hst200.own
      replace h_a0 := h_a0.ch hst200.ch
      replace hi140 := hi140.ch hst200.ch
      replace hB := hB.trans hst200.fr
      have hobt := freeze 0 hO rfl hE201
      obtain ⟨hO1, hc207, hi205, hn206⟩ := hobt
      replace h_a0 := h_a0.ch hc207
      replace hi140 := hi140.ch hc207
      replace hE126 := hE126.ch hc207
      replace hE70 := hE70.ch hc207
      replace hE196 := hE196.ch hc207
      replace hal121 := hal121.ch hc207
      replace hB := hB.trans (Owns.dropFr _ _ 0)
      replace hO := hO1; clear hO1
      obtain ⟨h208, H⟩ := H
      have hobt := oapp2 Try.underlying25 ti3 rfl 0 hO rfl hE126 hi205 hn206 h208 (by decide)
      obtain ⟨w209, p210, c211, vs212, hst213, hE214, hold216, hop215⟩ := hobt
      refine GoR.op (hop215 rfl rfl) rfl rfl ?_
      replace hE70 := hE70.ch hst213.ch
      replace hE196 := hE196.ch hst213.ch
      replace hal121 := hal121.app (us := [(ix (ix a0 (ix d_107 (k2_106 : Int))) (ix (d_107.take ((k2_106 + 1 : Int)).toNat) (k3_123 : Int)))]) hst213.ch hold216
      replace hO := hst213.own
      replace h_a0 := h_a0.ch hst213.ch
      replace hi140 := hi140.ch hst213.ch
      replace hi205 := hi205.ch hst213.ch
      replace hB := hB.trans hst213.fr
      have hobt := oblkSt (v := .slice p210 (n129 + 1) c211) (i := 0) 4 hO rfl rfl rfl
      obtain ⟨w217, hst218, hop219⟩ := hobt
      refine GoR.op (hop219 Try.underlying25 rfl ti25 rfl rfl) rfl rfl ?_
      replace hE214 := hE214.ch hst218.ch
      replace hE70 := hE70.ch hst218.ch
      replace hE196 := hE196.ch hst218.ch
      replace hal121 := hal121.ch hst218.ch
      replace hO := hst218.own
      replace h_a0 := h_a0.ch hst218.ch
      replace hi140 := hi140.ch hst218.ch
      replace hi205 := hi205.ch hst218.ch
      replace hB := hB.trans hst218.fr
      refine GoR.nil ?_
      refine Go1.fin0V Try.func91 rfl ?_
      refine hR144 _ _ ?_
      refine GoR.nil ?_
      refine Go1.region ?_
      refine GoR.op ((op_move rfl) _) rfl rfl ?_
      refine GoR.op ((op_move rfl) _) rfl rfl ?_
      refine GoR.op ((op_move rfl) _) rfl rfl ?_
      obtain ⟨h220, H⟩ := H
      obtain ⟨h221, H⟩ := H
      refine GoR.op ((op_index Try.underlying22 ti25 rfl rfl h220 h221 (h_a0.some_ h220 h221)) _) rfl rfl ?_
      have hobt := ldSl h_a0 h220 h221
      obtain ⟨p222, c223, hi224, hl225⟩ := hobt
      refine GoR.op ((hl225 Try.underlying25 rfl rfl) _ (Same.refl _)) rfl rfl ?_
      refine GoR.op ((op_move rfl) _) rfl rfl ?_
      obtain ⟨h226, H⟩ := H
      obtain ⟨h227, H⟩ := H
      refine GoR.op ((op_index Try.underlying25 ti3 rfl rfl h226 h227 (hi224.some_ h226 h227)) _) rfl rfl ?_
      refine GoR.op ((ldInt hi224 h226 h227 Try.underlying3 rfl rfl) _ (Same.refl _)) rfl rfl ?_
      refine GoR.inl (vs := [.int .i64 (ix (ix a0 (ix (d_107.take ((k2_106 + 1 : Int)).toNat) (k3_123 : Int))) (ix d_107 (k2_106 : Int)))]) (caps := [.pointer (some ⟨B18, 0, none⟩), .pointer (some ⟨B2, 0, none⟩)]) rfl rfl body91 Try.func91 rfl Try.ntmps91 rfl rfl rfl ?_
      intro RhR228 hR228
      refine Go1.seq ?_
      refine Go1.region ?_
      refine GoR.op ((oblk 2 hO rfl rfl Try.underlying38 rfl rfl) _ (Same.refl _)) rfl rfl ?_
      refine GoR.op ((op_move rfl) _) rfl rfl ?_
      obtain ⟨h229, H⟩ := H
      obtain ⟨h230, H⟩ := H
      refine GoR.op ((op_index Try.underlying38 ti4 rfl rfl h229 (ltn (hE196.neq hO 3 rfl) h230) (hE196.psome hO 3 rfl h229 h230)) _) rfl rfl ?_
      by_cases h231 : ix (st d_130 (ix (ix a0 (ix d_107 (k2_106 : Int))) (ix (d_107.take ((k2_106 + 1 : Int)).toNat) (k3_123 : Int))) true) (ix (ix a0 (ix (d_107.take ((k2_106 + 1 : Int)).toNat) (k3_123 : Int))) (ix d_107 (k2_106 : Int))) = true
      ·replace H := ifp h231 H
       refine GoR.op (opB ((oldBool 3 hO rfl hE196 h229 h230 Try.underlying4 rfl rfl) _ (Same.refl _)) (h231)) rfl rfl ?_
       refine GoR.op ((op_not rfl) _) rfl rfl ?_
       refine GoR.nil ?_
       refine Go1.condF rfl rfl ?_
       refine Go1.skip ?_
       refine Go1.fin0V Try.func91 rfl ?_
       refine hR228 _ _ ?_
       refine GoR.nil ?_
       refine Go1.inBlock ?_
       refine Go1.region ?_
       obtain ⟨h232, H⟩ := H
       refine GoR.op ((op_add rfl rfl (wrap_i64 h232)) _) rfl rfl ?_
       refine GoR.op ((op_move rfl) _) rfl rfl ?_
       refine GoR.nil ?_
       exact hX3 _ H _ _ ⟨n129 + 1, p210, c211, vs212, vs194, ⟨rfl, rfl, rfl, rfl, rfl, rfl, rfl, rfl, rfl, rfl, rfl, rfl, trivial⟩, hO, hE214, hE70, hE196, hal121, h_a0, hB⟩
      ·replace H := ifn h231 H
       refine GoR.op (opB ((oldBool 3 hO rfl hE196 h229 h230 Try.underlying4 rfl rfl) _ (Same.refl _)) (Bool.eq_false_iff.2 h231)) rfl rfl ?_
       refine GoR.op ((op_not rfl) _) rfl rfl ?_
       refine GoR.nil ?_
       refine Go1.condT rfl rfl ?_
       refine Go1.seq ?_
       refine Go1.region ?_
       refine GoR.op ((oblk 2 hO rfl rfl Try.underlying38 rfl rfl) _ (Same.refl _)) rfl rfl ?_
       refine GoR.op ((op_move rfl) _) rfl rfl ?_
       obtain ⟨h233, H⟩ := H
       obtain ⟨h234, H⟩ := H
       refine GoR.op ((op_index Try.underlying38 ti4 rfl rfl h233 (ltn (hE196.neq hO 3 rfl) h234) (hE196.psome hO 3 rfl h233 h234)) _) rfl rfl ?_
       have hobt := ost (r := Rp.bool) rfl 3 hO rfl hE196 h233 h234 (v := .bool true) (u := true) rfl rfl
       obtain ⟨w235, vs236, hst237, hE238, hop239⟩ := hobt
       refine GoR.op (hop239 Try.underlying4 rfl ti4 rfl rfl) rfl rfl ?_
       replace hE214 := hE214.ch hst237.ch
       replace hE70 := hE70.ch hst237.ch
       replace hal121 := hal121.ch hst237.ch
       replace hO := hst237.own
       replace h_a0 := h_a0.ch hst237.ch
       replace hi140 := hi140.ch hst237.ch
       replace hi205 := hi205.ch hst237.ch
       replace hi224 := hi224.ch hst237.ch
       replace hB := hB.trans hst237.fr
       refine GoR.nil ?_
       refine Go1.region ?_
       refine GoR.op ((oblk 4 hO rfl rfl Try.underlying25 rfl rfl) _ (Same.refl _)) rfl rfl ?_
       refine GoR.op ((op_move rfl) _) rfl rfl ?_
       have hobt := obuild (r := Rp.int .i64) (n := 1) (parts := [(0, .int .i64 (ix (ix a0 (ix (d_107.take ((k2_106 + 1 : Int)).toNat) (k3_123 : Int))) (ix d_107 (k2_106 : Int))))]) (vs := [.int .i64 (ix (ix a0 (ix (d_107.take ((k2_106 + 1 : Int)).toNat) (k3_123 : Int))) (ix d_107 (k2_106 : Int)))]) (xs := [(ix (ix a0 (ix (d_107.take ((k2_106 + 1 : Int)).toNat) (k3_123 : Int))) (ix d_107 (k2_106 : Int)))]) rfl Try.underlying25 ti3 hO (by decide) (by kernel_rfl) (Els.cons rfl rfl (Els.nil _ _ _) (by simp [mx])) rfl
       obtain ⟨w240, p241, hst242, hE243, hs244, hop245⟩ := hobt
       refine GoR.op (hop245 rfl) rfl rfl ?_
       replace hE214 := hE214.ch hst242.ch
       replace hE70 := hE70.ch hst242.ch
       replace hE238 := hE238.ch hst242.ch
       replace hal121 := hal121.ch hst242.ch
       replace hO := hst242.own
       replace h_a0 := h_a0.ch hst242.ch
       replace hi140 := hi140.ch hst242.ch
       replace hi205 := hi205.ch hst242.ch
       replace hi224 := hi224.ch hst242.ch
       replace hB := hB.trans hst242.fr
       have hobt := freeze 0 hO rfl hE243
       obtain ⟨hO1, hc249, hi247, hn248⟩ := hobt
       replace h_a0 := h_a0.ch hc249
       replace hi140 := hi140.ch hc249
       replace hi205 := hi205.ch hc249
       replace hi224 := hi224.ch hc249
       replace hE214 := hE214.ch hc249
       replace hE70 := hE70.ch hc249
       replace hE238 := hE238.ch hc249
       replace hal121 := hal121.ch hc249
       replace hB := hB.trans (Owns.dropFr _ _ 0)
       replace hO := hO1; clear hO1
       obtain ⟨h250, H⟩ := H
       have hobt := oapp2 Try.underlying25 ti3 rfl 0 hO rfl hE214 hi247 hn248 h250 (by decide)
       obtain ⟨w251, p252, c253, vs254, hst255, hE256, hold258, hop257⟩ := hobt
       refine GoR.op (hop257 rfl rfl) rfl rfl ?_
       replace hE70 := hE70.ch hst255.ch
       replace hE238 := hE238.ch hst255.ch
       replace hal121 := hal121.app (us := [(ix (ix a0 (ix (d_107.take ((k2_106 + 1 : Int)).toNat) (k3_123 : Int))) (ix d_107 (k2_106 : Int)))]) hst255.ch hold258
       replace hO := hst255.own
       replace h_a0 := h_a0.ch hst255.ch
       replace hi140 := hi140.ch hst255.ch
       replace hi205 := hi205.ch hst255.ch
       replace hi224 := hi224.ch hst255.ch
       replace hi247 := hi247.ch hst255.ch
       replace hB := hB.trans hst255.fr
       have hobt := oblkSt (v := .slice p252 ((n129 + 1) + 1) c253) (i := 0) 4 hO rfl rfl rfl
       obtain ⟨w259, hst260, hop261⟩ := hobt
       refine GoR.op (hop261 Try.underlying25 rfl ti25 rfl rfl) rfl rfl ?_
       replace hE256 := hE256.ch hst260.ch
       replace hE70 := hE70.ch hst260.ch
       replace hE238 := hE238.ch hst260.ch
       replace hal121 := hal121.ch hst260.ch
       replace hO := hst260.own
       replace h_a0 := h_a0.ch hst260.ch
       replace hi140 := hi140.ch hst260.ch
       replace hi205 := hi205.ch hst260.ch
       replace hi224 := hi224.ch hst260.ch
       replace hi247 := hi247.ch hst260.ch
       replace hB := hB.trans hst260.fr
       refine GoR.nil ?_
       refine Go1.fin0V Try.func91 rfl ?_
       refine hR228 _ _ ?_
       refine GoR.nil ?_
       refine Go1.inBlock ?_
       refine Go1.region ?_
       obtain ⟨h262, H⟩ := H
       refine GoR.op ((op_add rfl rfl (wrap_i64 h262)) _) rfl rfl ?_
       refine GoR.op ((op_move rfl) _) rfl rfl ?_
       refine GoR.nil ?_
       exact hX3 _ H _ _ ⟨(n129 + 1) + 1, p252, c253, vs254, vs236, ⟨rfl, rfl, rfl, rfl, rfl, rfl, rfl, rfl, rfl, rfl, rfl, rfl, trivial⟩, hO, hE256, hE70, hE238, hal121, h_a0, hB⟩
    ·replace H := ifn h133 H
     refine GoR.op ((fun w => opB (op_lss rfl rfl w) (decide_eq_false h133)) _) rfl rfl ?_
     refine GoR.nil ?_
     refine Go1.seq ?_
     refine Go1.condF rfl rfl ?_
     refine Go1.exit rfl ?_
     refine Go1.inBlock ?_
     refine Go1.region ?_
     refine GoR.op ((op_move rfl) _) rfl rfl ?_
     obtain ⟨h263, H⟩ := H
     refine GoR.op ((op_add rfl rfl (wrap_i64 h263)) _) rfl rfl ?_
     refine GoR.op ((op_assign rfl) _) rfl rfl ?_
     refine GoR.nil ?_
     exact hX2 _ H _ _ ⟨n129, p127, c128, vs125, vs131, ⟨rfl, rfl, rfl, rfl, rfl, rfl, rfl, rfl, trivial⟩, hO, hE126, hE70, hE132, h_a0, hB⟩
   ·replace H := ifn h116 H
    refine GoR.op ((fun w => opB (op_lss rfl rfl w) (decide_eq_false h116)) _) rfl rfl ?_
    refine GoR.nil ?_
    refine Go1.condF rfl rfl ?_
    refine Go1.exit rfl ?_
    refine Go1.inBlock ?_
    refine Go1.region ?_
    refine GoR.op ((op_add rfl rfl (wrap_i64 (natbd h50 h_a0.bd))) _) rfl rfl ?_
    refine GoR.op ((op_move rfl) _) rfl rfl ?_
    refine GoR.nil ?_
    exact hX1 _ H _ _ ⟨n112, p110, c111, vs108, n46 + 1, p66, c67, vs68, vs114, ⟨rfl, rfl, rfl, rfl, rfl, rfl, rfl, rfl, trivial⟩, hO, hE109, hE70, hE115, h_a0, hB⟩
 ·replace H := ifn h50 H
  refine GoR.op ((fun w => opB (op_lss rfl rfl w) (decide_eq_false h50)) _) rfl rfl ?_
  refine GoR.nil ?_
  refine Go1.seq ?_
  refine Go1.condF rfl rfl ?_
  refine Go1.exit rfl ?_
  refine Go1.seq ?_
  refine Go1.region ?_
  refine GoR.op ((op_move rfl) _) rfl rfl ?_
  refine GoR.op ((op_assign rfl) _) rfl rfl ?_
  refine GoR.nil ?_
  have hobt := freeze 1 hO rfl hE43
  obtain ⟨hO1, hc266, hi264, hn265⟩ := hobt
  replace h_a0 := h_a0.ch hc266
  replace hE37 := hE37.ch hc266
  replace hE49 := hE49.ch hc266
  replace hB := hB.trans (Owns.dropFr _ _ 1)
  replace hO := hO1; clear hO1
  refine Go1.ret1 Try.func73 rfl ?_
  exact ⟨d_41, p44, c45, (congrArg (fun nn => Value.slice p44 nn c45) hn265), hB.same, (hi264.ch (Ch.weak _ _ _)), H⟩
theorem body72 : Body Try.prog 72 := ⟨Try.f72, Try.func72, rfl, by kernel_rfl⟩
theorem walk_mult_associates {A : List Nat} {w0 : World} {p_t : Option Addr} {c_t : Nat} {p_gens : Option Addr} {c_gens : Nat} {t : List (List Int)} {gens : List Int} (hA : ∀ b ∈ A, b < w0.heap.size) (h_t : ISl (Rp.sl (Rp.int .i64)) A w0 p_t c_t t) (h_gens : ISl (Rp.int .i64) A w0 p_gens c_gens gens) {K : Bool → Prop} (H : mult_associates t gens K) :
    CallsV Try.prog 72 #[.slice p_t t.length c_t, .slice p_gens gens.length c_gens] w0 (fun v w' => ∃ (r0 : Bool), v = .bool r0 ∧ Same w0 w' ∧ K r0) := by
 refine CallsV.of (l := [.slice p_t t.length c_t, .slice p_gens gens.length c_gens]) Try.func72 rfl Try.ntmps72 rfl ?_
 have hO := Owns.start hA
 have hB := Fr.refl (bl []) w0
 unfold mult_associates at H
 replace h_t := h_t.ch (Ch.start A w0)
 replace h_gens := h_gens.ch (Ch.start A w0)
 refine Go1.seq ?_
 refine Go1.region ?_
 refine GoR.op ((op_assign rfl) _) rfl rfl ?_
 refine GoR.nil ?_
 refine Go1.seq ?_
 refine Go1.region ?_
 refine GoR.op ((op_move rfl) _) rfl rfl ?_
 refine GoR.op ((op_len Try.underlying22 rfl) _) rfl rfl ?_
 replace H := H h_t.bd
 obtain ⟨h8, H⟩ := H
 obtain ⟨h9, H⟩ := H
 have hobt := omake (n := (t.length : Int)) (r := Rp.bool) (d := false) Try.underlying38 ti4 (fun _ _ => rfl) rfl hO h8 h9 (by decide)
 obtain ⟨w1, p2, vs3, hst4, hE5, hs6, hop7⟩ := hobt
 refine GoR.op (hop7 rfl rfl) rfl rfl ?_
 replace hO := hst4.own
 replace h_t := h_t.ch hst4.ch
 replace h_gens := h_gens.ch hst4.ch
 replace hB := hB.trans hst4.fr
 refine GoR.op ((op_assign rfl) _) rfl rfl ?_
 refine GoR.nil ?_
 refine Go1.seq ?_
 refine Go1.seq ?_
 refine Go1.region ?_
 refine GoR.op ((op_move rfl) _) rfl rfl ?_
 refine GoR.op ((op_len Try.underlying25 rfl) _) rfl rfl ?_
 replace H := H h_gens.bd
 refine GoR.op ((op_move rfl) _) rfl rfl ?_
 refine GoR.nil ?_
 refine Go1.block ?_
 refine Go1.loopW (S := Nat × List Bool) (fun s σ w => ∃ (vs14 : List Value), agrees σ [(0, .slice p_t t.length c_t), (5, .slice p2 t.length t.length), (16, .slice p_gens gens.length c_gens), (17, .int .i64 (gens.length : Int)), (18, .int .i64 ((s.1) : Int))] ∧ Owns w0.heap.size w [.row 4 1 p2 t.length t.length vs14] A ∧ Els (Rp.bool) (bl [.row 4 1 p2 t.length t.length vs14] ++ A) w vs14 (s.2) ∧ ISl (Rp.sl (Rp.int .i64)) (bl [.row 4 1 p2 t.length t.length vs14] ++ A) w p_t c_t t ∧ ISl (Rp.int .i64) (bl [.row 4 1 p2 t.length t.length vs14] ++ A) w p_gens c_gens gens ∧ Fr (bl []) w0 (bl [.row 4 1 p2 t.length t.length vs14]) w) H ⟨vs3, ⟨rfl, rfl, rfl, rfl, rfl, trivial⟩, hO, hE5, h_t, h_gens, hB⟩ ?_
 rintro X1 ⟨k1_12, tried1_13⟩ H hX1 σ w11 ⟨vs14, hag, hO, hE15, h_t, h_gens, hB⟩
 dsimp only at H
 refine Go1.keep [(0, .slice p_t t.length c_t), (5, .slice p2 t.length t.length), (16, .slice p_gens gens.length c_gens), (17, .int .i64 (gens.length : Int)), (18, .int .i64 (k1_12 : Int))] hag ?_
 refine Go1.seq ?_
 refine Go1.region ?_
 by_cases h16 : (k1_12 : Int) < (gens.length : Int)
 ·replace H := ifp h16 H
  refine GoR.op ((fun w => opB (op_lss rfl rfl w) (decide_eq_true h16)) _) rfl rfl ?_
  refine GoR.nil ?_
  refine Go1.seq ?_
  refine Go1.condT rfl rfl ?_
  refine Go1.skip ?_
  refine Go1.seq ?_
  refine Go1.block ?_
  refine Go1.seq ?_
  refine Go1.region ?_
  obtain ⟨h17, H⟩ := H
  obtain ⟨h18, H⟩ := H
  refine GoR.op ((op_index Try.underlying25 ti3 rfl rfl h17 h18 (h_gens.some_ h17 h18)) _) rfl rfl ?_
  refine GoR.op ((ldInt h_gens h17 h18 Try.underlying3 rfl rfl) _ (Same.refl _)) rfl rfl ?_
  refine GoR.op ((op_assign rfl) _) rfl rfl ?_
  refine GoR.nil ?_
  refine Go1.seq ?_
  refine Go1.seq ?_
  refine Go1.region ?_
  refine GoR.op ((op_move rfl) _) rfl rfl ?_
  refine GoR.op ((op_move rfl) _) rfl rfl ?_
  obtain ⟨h19, H⟩ := H
  obtain ⟨h20, H⟩ := H
  refine GoR.op ((op_index Try.underlying38 ti4 rfl rfl h19 (ltn (hE15.neq hO 0 rfl) h20) (hE15.psome hO 0 rfl h19 h20)) _) rfl rfl ?_
  by_cases h21 : ix tried1_13 (ix gens (k1_12 : Int)) = true
  ·replace H := ifp h21 H
   refine GoR.op (opB ((oldBool 0 hO rfl hE15 h19 h20 Try.underlying4 rfl rfl) _ (Same.refl _)) (h21)) rfl rfl ?_
   refine GoR.nil ?_
   refine Go1.condT rfl rfl ?_
   refine Go1.exit rfl ?_
   refine Go1.region ?_
   refine GoR.op ((op_add rfl rfl (wrap_i64 (natbd h16 h_gens.bd))) _) rfl rfl ?_
   refine GoR.op ((op_move rfl) _) rfl rfl ?_
   refine GoR.nil ?_
   exact hX1 _ H _ _ ⟨vs14, ⟨rfl, rfl, rfl, rfl, rfl, trivial⟩, hO, hE15, h_t, h_gens, hB⟩
  ·replace H := ifn h21 H
   refine GoR.op (opB ((oldBool 0 hO rfl hE15 h19 h20 Try.underlying4 rfl rfl) _ (Same.refl _)) (Bool.eq_false_iff.2 h21)) rfl rfl ?_
   refine GoR.nil ?_
   refine Go1.condF rfl rfl ?_
   refine Go1.skip ?_
   refine Go1.seq ?_
   refine Go1.region ?_
   refine GoR.op ((op_move rfl) _) rfl rfl ?_
   refine GoR.op ((op_move rfl) _) rfl rfl ?_
   obtain ⟨h22, H⟩ := H
   obtain ⟨h23, H⟩ := H
   refine GoR.op ((op_index Try.underlying38 ti4 rfl rfl h22 (ltn (hE15.neq hO 0 rfl) h23) (hE15.psome hO 0 rfl h22 h23)) _) rfl rfl ?_
   have hobt := ost (r := Rp.bool) rfl 0 hO rfl hE15 h22 h23 (v := .bool true) (u := true) rfl rfl
   obtain ⟨w24, vs25, hst26, hE27, hop28⟩ := hobt
   refine GoR.op (hop28 Try.underlying4 rfl ti4 rfl rfl) rfl rfl ?_
   replace hO := hst26.own
   replace h_t := h_t.ch hst26.ch
   replace h_gens := h_gens.ch hst26.ch
   replace hB := hB.trans hst26.fr
   refine GoR.nil ?_
   refine Go1.seq ?_
   refine Go1.region ?_
   refine GoR.op ((op_move rfl) _) rfl rfl ?_
   refine GoR.op ((op_len Try.underlying22 rfl) _) rfl rfl ?_
   refine GoR.op ((op_move rfl) _) rfl rfl ?_
   refine GoR.nil ?_
   refine Go1.block ?_
   refine Go1.loopW (S := Nat) (fun s σ w => agrees σ [(0, .slice p_t t.length c_t), (5, .slice p2 t.length t.length), (7, .int .i64 (ix gens (k1_12 : Int))), (16, .slice p_gens gens.length c_gens), (17, .int .i64 (gens.length : Int)), (18, .int .i64 (k1_12 : Int)), (29, .slice p_t t.length c_t), (30, .int .i64 (t.length : Int)), (31, .int .i64 (s : Int))] ∧ Owns w0.heap.size w [.row 4 1 p2 t.length t.length vs25] A ∧ Els (Rp.bool) (bl [.row 4 1 p2 t.length t.length vs25] ++ A) w vs25 (st tried1_13 (ix gens (k1_12 : Int)) true) ∧ ISl (Rp.sl (Rp.int .i64)) (bl [.row 4 1 p2 t.length t.length vs25] ++ A) w p_t c_t t ∧ ISl (Rp.int .i64) (bl [.row 4 1 p2 t.length t.length vs25] ++ A) w p_gens c_gens gens ∧ Fr (bl []) w0 (bl [.row 4 1 p2 t.length t.length vs25]) w) H ⟨⟨rfl, rfl, rfl, rfl, rfl, rfl, rfl, rfl, rfl, trivial⟩, hO, hE27, h_t, h_gens, hB⟩ ?_
   rintro X2 k2_30 H hX2 σ w29 ⟨hag, hO, hE27, h_t, h_gens, hB⟩
   refine Go1.keep [(0, .slice p_t t.length c_t), (5, .slice p2 t.length t.length), (7, .int .i64 (ix gens (k1_12 : Int))), (16, .slice p_gens gens.length c_gens), (17, .int .i64 (gens.length : Int)), (18, .int .i64 (k1_12 : Int)), (29, .slice p_t t.length c_t), (30, .int .i64 (t.length : Int)), (31, .int .i64 (k2_30 : Int))] hag ?_
   refine Go1.seq ?_
   refine Go1.region ?_
   by_cases h31 : (k2_30 : Int) < (t.length : Int)
   ·replace H := ifp h31 H
    refine GoR.op ((fun w => opB (op_lss rfl rfl w) (decide_eq_true h31)) _) rfl rfl ?_
    refine GoR.nil ?_
    refine Go1.seq ?_
    refine Go1.condT rfl rfl ?_
    refine Go1.skip ?_
    refine Go1.seq ?_
    refine Go1.block ?_
    refine Go1.seq ?_
    refine Go1.region ?_
    obtain ⟨h32, H⟩ := H
    obtain ⟨h33, H⟩ := H
    refine GoR.op ((op_index Try.underlying22 ti25 rfl rfl h32 h33 (h_t.some_ h32 h33)) _) rfl rfl ?_
    have hobt := ldSl h_t h32 h33
    obtain ⟨p34, c35, hi36, hl37⟩ := hobt
    refine GoR.op ((hl37 Try.underlying25 rfl rfl) _ (Same.refl _)) rfl rfl ?_
    refine GoR.op ((op_assign rfl) _) rfl rfl ?_
    refine GoR.nil ?_
    refine Go1.seq ?_
    refine Go1.region ?_
    refine GoR.op ((op_move rfl) _) rfl rfl ?_
    refine GoR.op ((op_move rfl) _) rfl rfl ?_
    refine GoR.op ((op_move rfl) _) rfl rfl ?_
    obtain ⟨h38, H⟩ := H
    obtain ⟨h39, H⟩ := H
    refine GoR.op ((op_index Try.underlying25 ti3 rfl rfl h38 h39 (hi36.some_ h38 h39)) _) rfl rfl ?_
    refine GoR.op ((ldInt hi36 h38 h39 Try.underlying3 rfl rfl) _ (Same.refl _)) rfl rfl ?_
    obtain ⟨h40, H⟩ := H
    obtain ⟨h41, H⟩ := H
    refine GoR.op ((op_index Try.underlying22 ti25 rfl rfl h40 h41 (h_t.some_ h40 h41)) _) rfl rfl ?_
    have hobt := ldSl h_t h40 h41
    obtain ⟨p42, c43, hi44, hl45⟩ := hobt
    refine GoR.op ((hl45 Try.underlying25 rfl rfl) _ (Same.refl _)) rfl rfl ?_
    refine GoR.op ((op_assign rfl) _) rfl rfl ?_
    refine GoR.nil ?_
    refine Go1.seq ?_
    refine Go1.region ?_
    refine GoR.op ((op_move rfl) _) rfl rfl ?_
    refine GoR.op ((op_move rfl) _) rfl rfl ?_
    obtain ⟨h46, H⟩ := H
    obtain ⟨h47, H⟩ := H
    refine GoR.op ((op_index Try.underlying22 ti25 rfl rfl h46 h47 (h_t.some_ h46 h47)) _) rfl rfl ?_
    have hobt := ldSl h_t h46 h47
    obtain ⟨p48, c49, hi50, hl51⟩ := hobt
    refine GoR.op ((hl51 Try.underlying25 rfl rfl) _ (Same.refl _)) rfl rfl ?_
    refine GoR.op ((op_len Try.underlying25 rfl) _) rfl rfl ?_
    replace H := H hi50.bd
    refine GoR.op ((op_move rfl) _) rfl rfl ?_
    refine GoR.nil ?_
    refine Go1.block ?_
    refine Go1.loopW (S := Nat) (fun s σ w => agrees σ [(0, .slice p_t t.length c_t), (5, .slice p2 t.length t.length), (7, .int .i64 (ix gens (k1_12 : Int))), (9, .slice p34 ((ix t (k2_30 : Int)).length) c35), (10, .slice p42 ((ix t (ix (ix t (k2_30 : Int)) (ix gens (k1_12 : Int)))).length) c43), (16, .slice p_gens gens.length c_gens), (17, .int .i64 (gens.length : Int)), (18, .int .i64 (k1_12 : Int)), (29, .slice p_t t.length c_t), (30, .int .i64 (t.length : Int)), (31, .int .i64 (k2_30 : Int)), (45, .slice p48 ((ix t (ix gens (k1_12 : Int))).length) c49), (46, .int .i64 ((ix t (ix gens (k1_12 : Int))).length : Int)), (47, .int .i64 (s : Int))] ∧ Owns w0.heap.size w [.row 4 1 p2 t.length t.length vs25] A ∧ Els (Rp.bool) (bl [.row 4 1 p2 t.length t.length vs25] ++ A) w vs25 (st tried1_13 (ix gens (k1_12 : Int)) true) ∧ ISl (Rp.sl (Rp.int .i64)) (bl [.row 4 1 p2 t.length t.length vs25] ++ A) w p_t c_t t ∧ ISl (Rp.int .i64) (bl [.row 4 1 p2 t.length t.length vs25] ++ A) w p_gens c_gens gens ∧ ISl (Rp.int .i64) (bl [.row 4 1 p2 t.length t.length vs25] ++ A) w p34 c35 (ix t (k2_30 : Int)) ∧ ISl (Rp.int .i64) (bl [.row 4 1 p2 t.length t.length vs25] ++ A) w p42 c43 (ix t (ix (ix t (k2_30 : Int)) (ix gens (k1_12 : Int)))) ∧ ISl (Rp.int .i64) (bl [.row 4 1 p2 t.length t.length vs25] ++ A) w p48 c49 (ix t (ix gens (k1_12 : Int))) ∧ Fr (bl []) w0 (bl [.row 4 1 p2 t.length t.length vs25]) w) H ⟨⟨rfl, rfl, rfl, rfl, rfl, rfl, rfl, rfl, rfl, rfl, rfl, rfl, rfl, rfl, trivial⟩, hO, hE27, h_t, h_gens, hi36, hi44, hi50, hB⟩ ?_
    rintro X3 k3_53 H hX3 σ w52 ⟨hag, hO, hE27, h_t, h_gens, hi36, hi44, hi50, hB⟩
    refine Go1.keep [(0, .slice p_t t.length c_t), (5, .slice p2 t.length t.length), (7, .int .i64 (ix gens (k1_12 : Int))), (9, .slice p34 ((ix t (k2_30 : Int)).length) c35), (10, .slice p42 ((ix t (ix (ix t (k2_30 : Int)) (ix gens (k1_12 : Int)))).length) c43), (16, .slice p_gens gens.length c_gens), (17, .int .i64 (gens.length : Int)), (18, .int .i64 (k1_12 : Int)), (29, .slice p_t t.length c_t), (30, .int .i64 (t.length : Int)), (31, .int .i64 (k2_30 : Int)), (45, .slice p48 ((ix t (ix gens (k1_12 : Int))).length) c49), (46, .int .i64 ((ix t (ix gens (k1_12 : Int))).length : Int)), (47, .int .i64 (k3_53 : Int))] hag ?_
    refine Go1.seq ?_
    refine Go1.region ?_
    by_cases h54 : (k3_53 : Int) < ((ix t (ix gens (k1_12 : Int))).length : Int)
    ·replace H := ifp h54 H
     refine GoR.op ((fun w => opB (op_lss rfl rfl w) (decide_eq_true h54)) _) rfl rfl ?_
     refine GoR.nil ?_
     refine Go1.seq ?_
     refine Go1.condT rfl rfl ?_
     refine Go1.skip ?_
     refine Go1.seq ?_
     refine Go1.block ?_
     refine Go1.seq ?_
     refine Go1.region ?_
     refine GoR.op ((op_move rfl) _) rfl rfl ?_
     obtain ⟨h55, H⟩ := H
     obtain ⟨h56, H⟩ := H
     refine GoR.op ((op_index Try.underlying25 ti3 rfl rfl h55 h56 (hi50.some_ h55 h56)) _) rfl rfl ?_
     refine GoR.op ((ldInt hi50 h55 h56 Try.underlying3 rfl rfl) _ (Same.refl _)) rfl rfl ?_
     refine GoR.op ((op_assign rfl) _) rfl rfl ?_
     refine GoR.op ((op_assign rfl) _) rfl rfl ?_
     refine GoR.nil ?_
     refine Go1.seq ?_
     refine Go1.drawS 0 [(0, .pure), (1, .pure), (2, .pure), (3, .stable), (4, .pure), (5, .pure), (6, .pure), (7, .stable), (8, .pure)] mixed (by kernel_rfl) ?_
     intro w57 hs58
     have hst59 := Stp.same hO hs58
     replace hE27 := hE27.ch hst59.ch
     replace hO := hst59.own
     replace h_t := h_t.ch hst59.ch
     replace h_gens := h_gens.ch hst59.ch
     replace hi36 := hi36.ch hst59.ch
     replace hi44 := hi44.ch hst59.ch
     replace hi50 := hi50.ch hst59.ch
     replace hB := hB.trans hst59.fr
     refine GoQ.pure rfl (op_move rfl) rfl rfl ?_
     refine GoQ.pure rfl (op_move rfl) rfl rfl ?_
     obtain ⟨h60, H⟩ := H
     obtain ⟨h61, H⟩ := H
     refine GoQ.pure rfl (op_index Try.underlying25 ti3 rfl rfl h60 h61 (hi44.some_ h60 h61)) rfl rfl ?_
     refine GoQ.stable rfl (ldInt hi44 h60 h61 Try.underlying3 rfl rfl) rfl rfl ?_
     refine GoQ.pure rfl (op_move rfl) rfl rfl ?_
     refine GoQ.pure rfl (op_move rfl) rfl rfl ?_
     obtain ⟨h62, H⟩ := H
     obtain ⟨h63, H⟩ := H
     refine GoQ.pure rfl (op_index Try.underlying25 ti3 rfl rfl h62 h63 (hi36.some_ h62 h63)) rfl rfl ?_
     refine GoQ.stable rfl (ldInt hi36 h62 h63 Try.underlying3 rfl rfl) rfl rfl ?_
     by_cases h64 : (ix (ix t (ix (ix t (k2_30 : Int)) (ix gens (k1_12 : Int)))) (k3_53 : Int)) = (ix (ix t (k2_30 : Int)) (ix (ix t (ix gens (k1_12 : Int))) (k3_53 : Int)))
     ·replace H := ifp h64 H
      refine GoQ.pure rfl (fun w => opB (op_neq rfl rfl w) (ndT h64)) rfl rfl ?_
      refine GoQ.nil ?_
      refine Go1.condF rfl rfl ?_
      refine Go1.skip ?_
      refine Go1.inBlock ?_
      refine Go1.region ?_
      refine GoR.op ((op_add rfl rfl (wrap_i64 (natbd h54 hi50.bd))) _) rfl rfl ?_
      refine GoR.op ((op_move rfl) _) rfl rfl ?_
      refine GoR.nil ?_
      exact hX3 _ H _ _ ⟨⟨rfl, rfl, rfl, rfl, rfl, rfl, rfl, rfl, rfl, rfl, rfl, rfl, rfl, rfl, trivial⟩, hO, hE27, h_t, h_gens, hi36, hi44, hi50, hB⟩
     ·replace H := ifn h64 H
      refine GoQ.pure rfl (fun w => opB (op_neq rfl rfl w) (ndF h64)) rfl rfl ?_
      refine GoQ.nil ?_
      refine Go1.condT rfl rfl ?_
      refine Go1.seq ?_
      refine Go1.region ?_
      refine GoR.op ((op_assign rfl) _) rfl rfl ?_
      refine GoR.nil ?_
      refine Go1.ret1 Try.func72 rfl ?_
      exact ⟨false, rfl, hB.same, H⟩
    ·replace H := ifn h54 H
     refine GoR.op ((fun w => opB (op_lss rfl rfl w) (decide_eq_false h54)) _) rfl rfl ?_
     refine GoR.nil ?_
     refine Go1.seq ?_
     refine Go1.condF rfl rfl ?_
     refine Go1.exit rfl ?_
     refine Go1.inBlock ?_
     refine Go1.region ?_
     refine GoR.op ((op_add rfl rfl (wrap_i64 (natbd h31 h_t.bd))) _) rfl rfl ?_
     refine GoR.op ((op_move rfl) _) rfl rfl ?_
     refine GoR.nil ?_
     exact hX2 _ H _ _ ⟨⟨rfl, rfl, rfl, rfl, rfl, rfl, rfl, rfl, rfl, trivial⟩, hO, hE27, h_t, h_gens, hB⟩
   ·replace H := ifn h31 H
    refine GoR.op ((fun w => opB (op_lss rfl rfl w) (decide_eq_false h31)) _) rfl rfl ?_
    refine GoR.nil ?_
    refine Go1.seq ?_
    refine Go1.condF rfl rfl ?_
    refine Go1.exit rfl ?_
    refine Go1.inBlock ?_
    refine Go1.region ?_
    refine GoR.op ((op_add rfl rfl (wrap_i64 (natbd h16 h_gens.bd))) _) rfl rfl ?_
    refine GoR.op ((op_move rfl) _) rfl rfl ?_
    refine GoR.nil ?_
    exact hX1 _ H _ _ ⟨vs25, ⟨rfl, rfl, rfl, rfl, rfl, trivial⟩, hO, hE27, h_t, h_gens, hB⟩
 ·replace H := ifn h16 H
  refine GoR.op ((fun w => opB (op_lss rfl rfl w) (decide_eq_false h16)) _) rfl rfl ?_
  refine GoR.nil ?_
  refine Go1.seq ?_
  refine Go1.condF rfl rfl ?_
  refine Go1.exit rfl ?_
  refine Go1.seq ?_
  refine Go1.region ?_
  refine GoR.op ((op_assign rfl) _) rfl rfl ?_
  refine GoR.nil ?_
  refine Go1.ret1 Try.func72 rfl ?_
  exact ⟨true, rfl, hB.same, H⟩
theorem body45 : Body Try.prog 45 := ⟨Try.f45, Try.func45, rfl, by kernel_rfl⟩
theorem walk_mult_Validate {A : List Nat} {w0 : World} {p_t : Option Addr} {c_t : Nat} {t : List (List Int)} (hA : ∀ b ∈ A, b < w0.heap.size) (h_t : ISl (Rp.sl (Rp.int .i64)) A w0 p_t c_t t) {K : Int → Prop} (H : mult_Validate t K) :
    CallsV Try.prog 45 #[.slice p_t t.length c_t] w0 (fun v w' => ∃ (r0 : Int), v = .int .i64 r0 ∧ Same w0 w' ∧ K r0) := by
 refine CallsV.of (l := [.slice p_t t.length c_t]) Try.func45 rfl Try.ntmps45 rfl ?_
 have hO := Owns.start hA
 have hB := Fr.refl (bl []) w0
 unfold mult_Validate at H
 replace h_t := h_t.ch (Ch.start A w0)
 refine Go1.seq ?_
 refine Go1.region ?_
 refine GoR.op ((op_assign rfl) _) rfl rfl ?_
 refine GoR.nil ?_
 refine Go1.seq ?_
 refine Go1.seq ?_
 refine Go1.region ?_
 refine GoR.op ((op_move rfl) _) rfl rfl ?_
 refine GoR.call (op_call body71 rfl (walk_mult_shape hO.lt h_t H)) rfl rfl ?_
 rintro v5 w2 ⟨r1, rfl, hs3, H⟩
 have hst6 := Stp.same hO hs3
 replace hO := hst6.own
 replace h_t := h_t.ch hst6.ch
 replace hB := hB.trans hst6.fr
 refine GoR.op ((op_assign rfl) _) rfl rfl ?_
 refine GoR.nil ?_
 refine Go1.seq ?_
 refine Go1.region ?_
 refine GoR.op ((op_move rfl) _) rfl rfl ?_
 by_cases h7 : r1 = (0 : Int)
 ·replace H := ifp h7 H
  refine GoR.op ((fun w => opB (op_neq rfl rfl w) (ndT h7)) _) rfl rfl ?_
  refine GoR.nil ?_
  refine Go1.condF rfl rfl ?_
  refine Go1.skip ?_
  refine Go1.seq ?_
  refine Go1.seq ?_
  refine Go1.region ?_
  refine GoR.op ((op_move rfl) _) rfl rfl ?_
  refine GoR.op ((op_move rfl) _) rfl rfl ?_
  refine GoR.call (op_call body73 rfl (walk_mult_spanning hO.lt h_t H)) rfl rfl ?_
  rintro v12 w9 ⟨r8, p_r8, c_r8, rfl, hs10, h_r8, H⟩
  have hst13 := Stp.same hO hs10
  replace hO := hst13.own
  replace h_t := h_t.ch hst13.ch
  replace hB := hB.trans hst13.fr
  refine GoR.call (op_call body72 rfl (walk_mult_associates hO.lt h_t h_r8 H)) rfl rfl ?_
  rintro v18 w15 ⟨r14, rfl, hs16, H⟩
  have hst19 := Stp.same hO hs16
  replace hO := hst19.own
  replace h_t := h_t.ch hst19.ch
  replace h_r8 := h_r8.ch hst19.ch
  replace hB := hB.trans hst19.fr
  cases r14
  ·replace H := ifn Bool.false_ne_true H
   refine GoR.op ((op_not rfl) _) rfl rfl ?_
   refine GoR.nil ?_
   refine Go1.condT rfl rfl ?_
   refine Go1.seq ?_
   refine Go1.region ?_
   refine GoR.op ((op_assign rfl) _) rfl rfl ?_
   refine GoR.nil ?_
   refine Go1.ret1 Try.func45 rfl ?_
   exact ⟨(5 : Int), rfl, hB.same, H⟩
  ·replace H := ifp rfl H
   refine GoR.op ((op_not rfl) _) rfl rfl ?_
   refine GoR.nil ?_
   refine Go1.condF rfl rfl ?_
   refine Go1.skip ?_
   refine Go1.seq ?_
   refine Go1.region ?_
   refine GoR.op ((op_assign rfl) _) rfl rfl ?_
   refine GoR.nil ?_
   refine Go1.ret1 Try.func45 rfl ?_
   exact ⟨(0 : Int), rfl, hB.same, H⟩
 ·replace H := ifn h7 H
  refine GoR.op ((fun w => opB (op_neq rfl rfl w) (ndF h7)) _) rfl rfl ?_
  refine GoR.nil ?_
  refine Go1.condT rfl rfl ?_
  refine Go1.seq ?_
  refine Go1.region ?_
  refine GoR.op ((op_move rfl) _) rfl rfl ?_
  refine GoR.op ((op_assign rfl) _) rfl rfl ?_
  refine GoR.nil ?_
  refine Go1.ret1 Try.func45 rfl ?_
  exact ⟨r1, rfl, hB.same, H⟩
theorem body74 : Body Try.prog 74 := ⟨Try.f74, Try.func74, rfl, by kernel_rfl⟩
theorem walk_green_newIdeal {A : List Nat} {w0 : World} {n : Int} (hA : ∀ b ∈ A, b < w0.heap.size) {K : List Int → Prop} (H : green_newIdeal n K) :
    CallsV Try.prog 74 #[.int .i64 n] w0 (fun v w' => ∃ (r0 : List Int), ∃ (n_r0 : Nat), ∃ (p_r0 : Option Addr), ∃ (c_r0 : Nat), ∃ (vs_r0 : List Value), v = .slice p_r0 n_r0 c_r0 ∧ Same w0 w' ∧ Owns w0.heap.size w' [.row 84 1 p_r0 n_r0 c_r0 vs_r0] A ∧ Els (Rp.int .u64) (bl [.row 84 1 p_r0 n_r0 c_r0 vs_r0] ++ A) w' vs_r0 r0 ∧ K r0) := by
 refine CallsV.of (l := [.int .i64 n]) Try.func74 rfl Try.ntmps74 rfl ?_
 have hO := Owns.start hA
 have hB := Fr.refl (bl []) w0
 unfold green_newIdeal at H
 refine Go1.seq ?_
 refine Go1.region ?_
 refine GoR.op ((op_assign rfl) _) rfl rfl ?_
 refine GoR.nil ?_
 refine Go1.seq ?_
 refine Go1.region ?_
 refine GoR.op ((op_move rfl) _) rfl rfl ?_
 obtain ⟨h1, H⟩ := H
 refine GoR.op ((op_add rfl rfl (wrap_i64 h1)) _) rfl rfl ?_
 obtain ⟨h2, H⟩ := H
 refine GoR.op ((op_quo rfl rfl (by decide) (wrap_i64 h2)) _) rfl rfl ?_
 obtain ⟨h10, H⟩ := H
 obtain ⟨h11, H⟩ := H
 have hobt := omake (n := ((n + (63 : Int)).tdiv (64 : Int))) (r := Rp.int .u64) (d := (0 : Int)) Try.underlying62 ti84 (fun _ _ => rfl) rfl hO h10 h11 (by decide)
 obtain ⟨w3, p4, vs5, hst6, hE7, hs8, hop9⟩ := hobt
 refine GoR.op (hop9 rfl rfl) rfl rfl ?_
 replace hO := hst6.own
 replace hB := hB.trans hst6.fr
 refine GoR.op ((op_assign rfl) _) rfl rfl ?_
 refine GoR.nil ?_
 refine Go1.ret1 Try.func74 rfl ?_
 exact ⟨(List.replicate (((n + (63 : Int)).tdiv (64 : Int)).toNat) ((0 : Int))), (((n + (63 : Int)).tdiv (64 : Int)).toNat), p4, (((n + (63 : Int)).tdiv (64 : Int)).toNat), vs5, rfl, hB.same, hO, hE7, H⟩
theorem body75 : Body Try.prog 75 := ⟨Try.f75, Try.func75, rfl, by kernel_rfl⟩
theorem body46 : Body Try.prog 46 := ⟨Try.f46, Try.func46, rfl, by kernel_rfl⟩
theorem walk_green_rightIdeals {A : List Nat} {w0 : World} {p_t : Option Addr} {c_t : Nat} {t : List (List Int)} (hA : ∀ b ∈ A, b < w0.heap.size) (h_t : ISl (Rp.sl (Rp.int .i64)) A w0 p_t c_t t) {K : List (List Int) → Prop} (H : green_rightIdeals t K) :
    CallsV Try.prog 46 #[.slice p_t t.length c_t] w0 (fun v w' => ∃ (r0 : List (List Int)), ∃ (p_r0 : Option Addr), ∃ (c_r0 : Nat), v = .slice p_r0 r0.length c_r0 ∧ Same w0 w' ∧ ISl (Rp.sl (Rp.int .u64)) A w' p_r0 c_r0 r0 ∧ K r0) := by
 refine CallsV.of (l := [.slice p_t t.length c_t]) Try.func46 rfl Try.ntmps46 rfl ?_
 have hO := Owns.start hA
 have hB := Fr.refl (bl []) w0
 unfold green_rightIdeals at H
 replace h_t := h_t.ch (Ch.start A w0)
 refine Go1.seq ?_
 refine Go1.region ?_
 refine GoR.op ((op_assign rfl) _) rfl rfl ?_
 refine GoR.nil ?_
 refine Go1.seq ?_
 refine Go1.region ?_
 refine GoR.op ((op_move rfl) _) rfl rfl ?_
 refine GoR.op ((op_len Try.underlying22 rfl) _) rfl rfl ?_
 replace H := H h_t.bd
 obtain ⟨h8, H⟩ := H
 obtain ⟨h9, H⟩ := H
 have hobt := t2make (m := (t.length : Int)) (e' := 84) (Fl.int .u64) Try.underlying56 ti62 hO h8 h9 (by decide)
 obtain ⟨w1, p2, hst4, hs6, hop7⟩ := hobt
 refine GoR.op (hop7 rfl rfl) rfl rfl ?_
 replace hO := hst4.own
 replace h_t := h_t.ch hst4.ch
 replace hB := hB.trans hst4.fr
 refine GoR.op ((op_assign rfl) _) rfl rfl ?_
 refine GoR.nil ?_
 refine Go1.seq ?_
 refine Go1.seq ?_
 refine Go1.region ?_
 refine GoR.op ((op_move rfl) _) rfl rfl ?_
 refine GoR.op ((op_len Try.underlying22 rfl) _) rfl rfl ?_
 refine GoR.op ((op_move rfl) _) rfl rfl ?_
 refine GoR.nil ?_
 refine Go1.block ?_
 refine Go1.loopW (S := Nat × List (List Int)) (fun s σ w => ∃ (n16 : Nat), ∃ (p14 : Option Addr), ∃ (c15 : Nat), ∃ (hs17 : Hd), agrees σ [(0, .slice p_t t.length c_t), (3, .slice p14 n16 c15), (11, .slice p_t t.length c_t), (12, .int .i64 (t.length : Int)), (13, .int .i64 ((s.1) : Int))] ∧ Owns w0.heap.size w [t2 (Fl.int .u64) 62 84 p14 n16 c15 hs17 (s.2)] A ∧ ISl (Rp.sl (Rp.int .i64)) (bl [t2 (Fl.int .u64) 62 84 p14 n16 c15 hs17 (s.2)] ++ A) w p_t c_t t ∧ Fr (bl []) w0 (bl [t2 (Fl.int .u64) 62 84 p14 n16 c15 hs17 (s.2)]) w) H ⟨t.length, p2, t.length, (fun _ => (none, 0)), ⟨rfl, rfl, rfl, rfl, rfl, trivial⟩, hO, h_t, hB⟩ ?_
 rintro X1 ⟨k1_12, ideals1_13⟩ H hX1 σ w11 ⟨n16, p14, c15, hs17, hag, hO, h_t, hB⟩
 dsimp only at H
 refine Go1.keep [(0, .slice p_t t.length c_t), (3, .slice p14 n16 c15), (11, .slice p_t t.length c_t), (12, .int .i64 (t.length : Int)), (13, .int .i64 (k1_12 : Int))] hag ?_
 refine Go1.seq ?_
 refine Go1.region ?_
 by_cases h18 : (k1_12 : Int) < (t.length : Int)
 ·replace H := ifp h18 H
  refine GoR.op ((fun w => opB (op_lss rfl rfl w) (decide_eq_true h18)) _) rfl rfl ?_
  refine GoR.nil ?_
  refine Go1.seq ?_
  refine Go1.condT rfl rfl ?_
  refine Go1.skip ?_
  refine Go1.seq ?_
  refine Go1.block ?_
  refine Go1.seq ?_
  refine Go1.region ?_
  refine GoR.op ((op_move rfl) _) rfl rfl ?_
  obtain ⟨h19, H⟩ := H
  obtain ⟨h20, H⟩ := H
  refine GoR.op ((op_index Try.underlying22 ti25 rfl rfl h19 h20 (h_t.some_ h19 h20)) _) rfl rfl ?_
  have hobt := ldSl h_t h19 h20
  obtain ⟨p21, c22, hi23, hl24⟩ := hobt
  refine GoR.op ((hl24 Try.underlying25 rfl rfl) _ (Same.refl _)) rfl rfl ?_
  refine GoR.op ((op_assign rfl) _) rfl rfl ?_
  refine GoR.op ((op_assign rfl) _) rfl rfl ?_
  refine GoR.nil ?_
  refine Go1.seq ?_
  refine Go1.region ?_
  refine GoR.op ((op_move rfl) _) rfl rfl ?_
  refine GoR.op ((op_move rfl) _) rfl rfl ?_
  refine GoR.op ((op_move rfl) _) rfl rfl ?_
  refine GoR.op ((op_len Try.underlying22 rfl) _) rfl rfl ?_
  refine GoR.call (op_call body74 rfl (walk_green_newIdeal hO.lt H)) rfl rfl ?_
  rintro v30 w27 ⟨r25, n_r25, p_r25, c_r25, vs_r25, rfl, hs28, hN29, hE26, H⟩
  have hst31 := Stp.more hO hs28 hN29
  replace hO := hst31.own
  replace h_t := h_t.ch hst31.ch
  replace hi23 := hi23.ch hst31.ch
  replace hB := hB.trans hst31.fr
  replace hE26 := hE26.ch (Ch.assoc _ _ _ _)
  obtain ⟨h33, H⟩ := H
  obtain ⟨h34, H⟩ := H
  refine GoR.op ((op_index Try.underlying56 ti62 rfl rfl h33 (ltn (t2neq 1 hO rfl) h34) (t2some 1 hO rfl h33 h34)) _) rfl rfl ?_
  have hst35 := Stp.front 1 hO rfl
  replace hE26 := hE26.ch hst35.ch
  replace hO := hst35.own
  replace h_t := h_t.ch hst35.ch
  replace hi23 := hi23.ch hst35.ch
  replace hB := hB.trans hst35.fr
  have hst36 := Stp.front 1 hO rfl
  replace hE26 := hE26.ch hst36.ch
  replace hO := hst36.own
  replace h_t := h_t.ch hst36.ch
  replace hi23 := hi23.ch hst36.ch
  replace hB := hB.trans hst36.fr
  have hobt := t2put (hf := (Fl.int .u64)) hO hE26 h33 h34
  obtain ⟨w37, hst38, hop39⟩ := hobt
  refine GoR.op (hop39 Try.underlying62 rfl ti62 rfl rfl) rfl rfl ?_
  replace hO := hst38.own
  replace h_t := h_t.ch hst38.ch
  replace hi23 := hi23.ch hst38.ch
  replace hB := hB.trans hst38.fr
  refine GoR.nil ?_
  refine Go1.seq ?_
  refine Go1.region ?_
  refine GoR.op ((op_move rfl) _) rfl rfl ?_
  refine GoR.op ((op_move rfl) _) rfl rfl ?_
  obtain ⟨h40, H⟩ := H
  obtain ⟨h41, H⟩ := H
  refine GoR.op ((op_index Try.underlying56 ti62 rfl rfl h40 (ltn (t2neq 0 hO rfl) h41) (t2some 0 hO rfl h40 h41)) _) rfl rfl ?_
  refine GoR.op ((t2head 0 hO rfl h40 h41 Try.underlying62 rfl rfl) _ (Same.refl _)) rfl rfl ?_
  refine GoR.op ((op_move rfl) _) rfl rfl ?_
  refine GoR.inl (vs := [.slice ((hup hs17 (k1_12 : Int).toNat (p_r25, c_r25)) (k1_12 : Int).toNat).1 ((ix (st ideals1_13 (k1_12 : Int) r25) (k1_12 : Int)).length) ((hup hs17 (k1_12 : Int).toNat (p_r25, c_r25)) (k1_12 : Int).toNat).2, .int .i64 (k1_12 : Int)]) (caps := []) rfl rfl body75 Try.func75 rfl Try.ntmps75 rfl rfl rfl ?_
  intro RhR42 hR42
  refine Go1.drawS 1 [(0, .pure), (1, .pure), (2, .pure), (3, .pure), (4, .stable), (5, .pure), (6, .pure), (7, .pure), (8, .pure), (9, .pure), (10, .last)] mixed (by kernel_rfl) ?_
  intro w43 hs44
  have hst45 := Stp.same hO hs44
  replace hO := hst45.own
  replace h_t := h_t.ch hst45.ch
  replace hi23 := hi23.ch hst45.ch
  replace hB := hB.trans hst45.fr
  refine GoQ.pure rfl (op_move rfl) rfl rfl ?_
  refine GoQ.pure rfl (op_move rfl) rfl rfl ?_
  refine GoQ.pure rfl (op_shr rfl rfl (by decide) rfl) rfl rfl ?_
  obtain ⟨h46, H⟩ := H
  obtain ⟨h47, H⟩ := H
  refine GoQ.pure rfl (op_index Try.underlying62 ti84 rfl rfl h46 h47 (t2isome 0 hO rfl h40 h41 h46 h47)) rfl rfl ?_
  refine GoQ.stable rfl (t2Int 0 hO rfl h40 h41 h46 h47 Try.underlying84 rfl rfl) rfl rfl ?_
  refine GoQ.pure rfl (op_move rfl) rfl rfl ?_
  refine GoQ.pure rfl (op_and rfl rfl) rfl rfl ?_
  obtain ⟨h48, H⟩ := H
  refine GoQ.pure rfl (op_shl rfl rfl h48 rfl) rfl rfl ?_
  refine GoQ.pure rfl (op_or rfl rfl) rfl rfl ?_
  obtain ⟨h49, H⟩ := H
  obtain ⟨h50, H⟩ := H
  refine GoQ.pure rfl (op_index Try.underlying62 ti84 rfl rfl h49 h50 (t2isome 0 hO rfl h40 h41 h49 h50)) rfl rfl ?_
  have hobt := t2st (r := Rp.int .u64) (hf := (Fl.int .u64)) rfl 0 hO rfl h40 h41 h49 h50 (v := .int .u64 (bits .or .u64 (ix (ix (st ideals1_13 (k1_12 : Int) r25) (k1_12 : Int)) (shrK .i64 (k1_12 : Int) (6 : Int))) (shlK .u64 (1 : Int) (bits .and .i64 (k1_12 : Int) (63 : Int))))) (u := (bits .or .u64 (ix (ix (st ideals1_13 (k1_12 : Int) r25) (k1_12 : Int)) (shrK .i64 (k1_12 : Int) (6 : Int))) (shlK .u64 (1 : Int) (bits .and .i64 (k1_12 : Int) (63 : Int))))) rfl rfl
  obtain ⟨w51, hst52, hop53⟩ := hobt
  refine GoQ.last rfl (hop53 Try.underlying84 rfl ti84 rfl rfl) rfl rfl ?_
  replace hO := hst52.own
  replace h_t := h_t.ch hst52.ch
  replace hi23 := hi23.ch hst52.ch
  replace hB := hB.trans hst52.fr
  refine GoQ.nil ?_
  refine Go1.fin0V Try.func75 rfl ?_
  refine hR42 _ _ ?_
  refine GoR.nil ?_
  refine Go1.seq ?_
  refine Go1.region ?_
  refine GoR.op ((op_move rfl) _) rfl rfl ?_
  refine GoR.op ((op_len Try.underlying25 rfl) _) rfl rfl ?_
  replace H := H hi23.bd
  refine GoR.op ((op_move rfl) _) rfl rfl ?_
  refine GoR.nil ?_
  refine Go1.block ?_
  refine Go1.loopW (S := Nat × List (List Int)) (fun s σ w => agrees σ [(0, .slice p_t t.length c_t), (3, .slice p14 n16 c15), (4, .int .i64 (k1_12 : Int)), (11, .slice p_t t.length c_t), (12, .int .i64 (t.length : Int)), (13, .int .i64 (k1_12 : Int)), (30, .slice p21 ((ix t (k1_12 : Int)).length) c22), (31, .int .i64 ((ix t (k1_12 : Int)).length : Int)), (32, .int .i64 ((s.1) : Int))] ∧ Owns w0.heap.size w [t2 (Fl.int .u64) 62 84 p14 n16 c15 (hup hs17 (k1_12 : Int).toNat (p_r25, c_r25)) (s.2)] A ∧ ISl (Rp.sl (Rp.int .i64)) (bl [t2 (Fl.int .u64) 62 84 p14 n16 c15 (hup hs17 (k1_12 : Int).toNat (p_r25, c_r25)) (s.2)] ++ A) w p_t c_t t ∧ ISl (Rp.int .i64) (bl [t2 (Fl.int .u64) 62 84 p14 n16 c15 (hup hs17 (k1_12 : Int).toNat (p_r25, c_r25)) (s.2)] ++ A) w p21 c22 (ix t (k1_12 : Int)) ∧ Fr (bl []) w0 (bl [t2 (Fl.int .u64) 62 84 p14 n16 c15 (hup hs17 (k1_12 : Int).toNat (p_r25, c_r25)) (s.2)]) w) H ⟨⟨rfl, rfl, rfl, rfl, rfl, rfl, rfl, rfl, rfl, trivial⟩, hO, h_t, hi23, hB⟩ ?_
  rintro X2 ⟨k2_55, ideals2_56⟩ H hX2 σ w54 ⟨hag, hO, h_t, hi23, hB⟩
  dsimp only at H
  refine Go1.keep [(0, .slice p_t t.length c_t), (3, .slice p14 n16 c15), (4, .int .i64 (k1_12 : Int)), (11, .slice p_t t.length c_t), (12, .int .i64 (t.length : Int)), (13, .int .i64 (k1_12 : Int)), (30, .slice p21 ((ix t (k1_12 : Int)).length) c22), (31, .int .i64 ((ix t (k1_12 : Int)).length : Int)), (32, .int .i64 (k2_55 : Int))] hag ?_
  refine Go1.seq ?_
  refine Go1.region ?_
  by_cases h57 : (k2_55 : Int) < ((ix t (k1_12 : Int)).length : Int)
  ·replace H := ifp h57 H
   refine GoR.op ((fun w => opB (op_lss rfl rfl w) (decide_eq_true h57)) _) rfl rfl ?_
   refine GoR.nil ?_
   refine Go1.seq ?_
   refine Go1.condT rfl rfl ?_
   refine Go1.skip ?_
   refine Go1.seq ?_
   refine Go1.block ?_
   refine Go1.seq ?_
   refine Go1.region ?_
   obtain ⟨h58, H⟩ := H
   obtain ⟨h59, H⟩ := H
   refine GoR.op ((op_index Try.underlying25 ti3 rfl rfl h58 h59 (hi23.some_ h58 h59)) _) rfl rfl ?_
   refine GoR.op ((ldInt hi23 h58 h59 Try.underlying3 rfl rfl) _ (Same.refl _)) rfl rfl ?_
   refine GoR.op ((op_assign rfl) _) rfl rfl ?_
   refine GoR.nil ?_
   refine Go1.region ?_
   refine GoR.op ((op_move rfl) _) rfl rfl ?_
   refine GoR.op ((op_move rfl) _) rfl rfl ?_
   obtain ⟨h60, H⟩ := H
   obtain ⟨h61, H⟩ := H
   refine GoR.op ((op_index Try.underlying56 ti62 rfl rfl h60 (ltn (t2neq 0 hO rfl) h61) (t2some 0 hO rfl h60 h61)) _) rfl rfl ?_
   refine GoR.op ((t2head 0 hO rfl h60 h61 Try.underlying62 rfl rfl) _ (Same.refl _)) rfl rfl ?_
   refine GoR.op ((op_move rfl) _) rfl rfl ?_
   refine GoR.inl (vs := [.slice ((hup hs17 (k1_12 : Int).toNat (p_r25, c_r25)) (k1_12 : Int).toNat).1 ((ix ideals2_56 (k1_12 : Int)).length) ((hup hs17 (k1_12 : Int).toNat (p_r25, c_r25)) (k1_12 : Int).toNat).2, .int .i64 (ix (ix t (k1_12 : Int)) (k2_55 : Int))]) (caps := []) rfl rfl body75 Try.func75 rfl Try.ntmps75 rfl rfl rfl ?_
   intro RhR62 hR62
   refine Go1.drawS 1 [(0, .pure), (1, .pure), (2, .pure), (3, .pure), (4, .stable), (5, .pure), (6, .pure), (7, .pure), (8, .pure), (9, .pure), (10, .last)] mixed (by kernel_rfl) ?_
   intro w63 hs64
   have hst65 := Stp.same hO hs64
   replace hO := hst65.own
   replace h_t := h_t.ch hst65.ch
   replace hi23 := hi23.ch hst65.ch
   replace hB := hB.trans hst65.fr
   refine GoQ.pure rfl (op_move rfl) rfl rfl ?_
   refine GoQ.pure rfl (op_move rfl) rfl rfl ?_
   refine GoQ.pure rfl (op_shr rfl rfl (by decide) rfl) rfl rfl ?_
   obtain ⟨h66, H⟩ := H
   obtain ⟨h67, H⟩ := H
   refine GoQ.pure rfl (op_index Try.underlying62 ti84 rfl rfl h66 h67 (t2isome 0 hO rfl h60 h61 h66 h67)) rfl rfl ?_
   refine GoQ.stable rfl (t2Int 0 hO rfl h60 h61 h66 h67 Try.underlying84 rfl rfl) rfl rfl ?_
   refine GoQ.pure rfl (op_move rfl) rfl rfl ?_
   refine GoQ.pure rfl (op_and rfl rfl) rfl rfl ?_
   obtain ⟨h68, H⟩ := H
   refine GoQ.pure rfl (op_shl rfl rfl h68 rfl) rfl rfl ?_
   refine GoQ.pure rfl (op_or rfl rfl) rfl rfl ?_
   obtain ⟨h69, H⟩ := H
   obtain ⟨h70, H⟩ := H
   refine GoQ.pure rfl (op_index Try.underlying62 ti84 rfl rfl h69 h70 (t2isome 0 hO rfl h60 h61 h69 h70)) rfl rfl ?_
   have hobt := t2st (r := Rp.int .u64) (hf := (Fl.int .u64)) rfl 0 hO rfl h60 h61 h69 h70 (v := .int .u64 (bits .or .u64 (ix (ix ideals2_56 (k1_12 : Int)) (shrK .i64 (ix (ix t (k1_12 : Int)) (k2_55 : Int)) (6 : Int))) (shlK .u64 (1 : Int) (bits .and .i64 (ix (ix t (k1_12 : Int)) (k2_55 : Int)) (63 : Int))))) (u := (bits .or .u64 (ix (ix ideals2_56 (k1_12 : Int)) (shrK .i64 (ix (ix t (k1_12 : Int)) (k2_55 : Int)) (6 : Int))) (shlK .u64 (1 : Int) (bits .and .i64 (ix (ix t (k1_12 : Int)) (k2_55 : Int)) (63 : Int))))) rfl rfl
   obtain ⟨w71, hst72, hop73⟩ := hobt
   refine GoQ.last rfl (hop73 Try.underlying84 rfl ti84 rfl rfl) rfl rfl ?_
   replace hO := hst72.own
   replace h_t := h_t.ch hst72.ch
   replace hi23 := hi23.ch hst72.ch
   replace hB := hB.trans hst72.fr
   refine GoQ.nil ?_
   refine Go1.fin0V Try.func75 rfl ?_
   refine hR62 _ _ ?_
   refine GoR.nil ?_
   refine Go1.inBlock ?_
   refine Go1.region ?_
   refine GoR.op ((op_add rfl rfl (wrap_i64 (natbd h57 hi23.bd))) _) rfl rfl ?_
   refine GoR.op ((op_move rfl) _) rfl rfl ?_
   refine GoR.nil ?_
   exact hX2 _ H _ _ ⟨⟨rfl, rfl, rfl, rfl, rfl, rfl, rfl, rfl, rfl, trivial⟩, hO, h_t, hi23, hB⟩
  ·replace H := ifn h57 H
   refine GoR.op ((fun w => opB (op_lss rfl rfl w) (decide_eq_false h57)) _) rfl rfl ?_
   refine GoR.nil ?_
   refine Go1.seq ?_
   refine Go1.condF rfl rfl ?_
   refine Go1.exit rfl ?_
   refine Go1.inBlock ?_
   refine Go1.region ?_
   refine GoR.op ((op_add rfl rfl (wrap_i64 (natbd h18 h_t.bd))) _) rfl rfl ?_
   refine GoR.op ((op_move rfl) _) rfl rfl ?_
   refine GoR.nil ?_
   exact hX1 _ H _ _ ⟨n16, p14, c15, hup hs17 (k1_12 : Int).toNat (p_r25, c_r25), ⟨rfl, rfl, rfl, rfl, rfl, trivial⟩, hO, h_t, hB⟩
 ·replace H := ifn h18 H
  refine GoR.op ((fun w => opB (op_lss rfl rfl w) (decide_eq_false h18)) _) rfl rfl ?_
  refine GoR.nil ?_
  refine Go1.seq ?_
  refine Go1.condF rfl rfl ?_
  refine Go1.exit rfl ?_
  refine Go1.seq ?_
  refine Go1.region ?_
  refine GoR.op ((op_move rfl) _) rfl rfl ?_
  refine GoR.op ((op_assign rfl) _) rfl rfl ?_
  refine GoR.nil ?_
  have hobt := t2freezeA 0 hO rfl
  obtain ⟨hO1, hc76, hi74, hn75⟩ := hobt
  replace h_t := h_t.ch hc76
  replace hB := hB.trans (Owns.dropFr _ _ 0)
  replace hO := hO1; clear hO1
  refine Go1.ret1 Try.func46 rfl ?_
  exact ⟨ideals1_13, p14, c15, (congrArg (fun nn => Value.slice p14 nn c15) hn75), hB.same, (hi74.ch (Ch.weak _ _ _)), H⟩
theorem body47 : Body Try.prog 47 := ⟨Try.f47, Try.func47, rfl, by kernel_rfl⟩
theorem walk_green_leftIdeals {A : List Nat} {w0 : World} {p_t : Option Addr} {c_t : Nat} {t : List (List Int)} (hA : ∀ b ∈ A, b < w0.heap.size) (h_t : ISl (Rp.sl (Rp.int .i64)) A w0 p_t c_t t) {K : List (List Int) → Prop} (H : green_leftIdeals t K) :
    CallsV Try.prog 47 #[.slice p_t t.length c_t] w0 (fun v w' => ∃ (r0 : List (List Int)), ∃ (p_r0 : Option Addr), ∃ (c_r0 : Nat), v = .slice p_r0 r0.length c_r0 ∧ Same w0 w' ∧ ISl (Rp.sl (Rp.int .u64)) A w' p_r0 c_r0 r0 ∧ K r0) := by
 refine CallsV.of (l := [.slice p_t t.length c_t]) Try.func47 rfl Try.ntmps47 rfl ?_
 have hO := Owns.start hA
 have hB := Fr.refl (bl []) w0
 unfold green_leftIdeals at H
 replace h_t := h_t.ch (Ch.start A w0)
 refine Go1.seq ?_
 refine Go1.region ?_
 refine GoR.op ((op_assign rfl) _) rfl rfl ?_
 refine GoR.nil ?_
 refine Go1.seq ?_
 refine Go1.region ?_
 refine GoR.op ((op_move rfl) _) rfl rfl ?_
 refine GoR.op ((op_len Try.underlying22 rfl) _) rfl rfl ?_
 replace H := H h_t.bd
 obtain ⟨h8, H⟩ := H
 obtain ⟨h9, H⟩ := H
 have hobt := t2make (m := (t.length : Int)) (e' := 84) (Fl.int .u64) Try.underlying56 ti62 hO h8 h9 (by decide)
 obtain ⟨w1, p2, hst4, hs6, hop7⟩ := hobt
 refine GoR.op (hop7 rfl rfl) rfl rfl ?_
 replace hO := hst4.own
 replace h_t := h_t.ch hst4.ch
 replace hB := hB.trans hst4.fr
 refine GoR.op ((op_assign rfl) _) rfl rfl ?_
 refine GoR.nil ?_
 refine Go1.seq ?_
 refine Go1.seq ?_
 refine Go1.region ?_
 refine GoR.op ((op_move rfl) _) rfl rfl ?_
 refine GoR.op ((op_len Try.underlying22 rfl) _) rfl rfl ?_
 refine GoR.op ((op_move rfl) _) rfl rfl ?_
 refine GoR.nil ?_
 refine Go1.block ?_
 refine Go1.loopW (S := Nat × List (List Int)) (fun s σ w => ∃ (n16 : Nat), ∃ (p14 : Option Addr), ∃ (c15 : Nat), ∃ (hs17 : Hd), agrees σ [(0, .slice p_t t.length c_t), (3, .slice p14 n16 c15), (11, .int .i64 (t.length : Int)), (12, .int .i64 ((s.1) : Int))] ∧ Owns w0.heap.size w [t2 (Fl.int .u64) 62 84 p14 n16 c15 hs17 (s.2)] A ∧ ISl (Rp.sl (Rp.int .i64)) (bl [t2 (Fl.int .u64) 62 84 p14 n16 c15 hs17 (s.2)] ++ A) w p_t c_t t ∧ Fr (bl []) w0 (bl [t2 (Fl.int .u64) 62 84 p14 n16 c15 hs17 (s.2)]) w) H ⟨t.length, p2, t.length, (fun _ => (none, 0)), ⟨rfl, rfl, rfl, rfl, trivial⟩, hO, h_t, hB⟩ ?_
 rintro X1 ⟨k1_12, ideals1_13⟩ H hX1 σ w11 ⟨n16, p14, c15, hs17, hag, hO, h_t, hB⟩
 dsimp only at H
 refine Go1.keep [(0, .slice p_t t.length c_t), (3, .slice p14 n16 c15), (11, .int .i64 (t.length : Int)), (12, .int .i64 (k1_12 : Int))] hag ?_
 refine Go1.seq ?_
 refine Go1.region ?_
 by_cases h18 : (k1_12 : Int) < (t.length : Int)
 ·replace H := ifp h18 H
  refine GoR.op ((fun w => opB (op_lss rfl rfl w) (decide_eq_true h18)) _) rfl rfl ?_
  refine GoR.nil ?_
  refine Go1.seq ?_
  refine Go1.condT rfl rfl ?_
  refine Go1.skip ?_
  refine Go1.seq ?_
  refine Go1.block ?_
  refine Go1.seq ?_
  refine Go1.region ?_
  refine GoR.op ((op_move rfl) _) rfl rfl ?_
  refine GoR.op ((op_assign rfl) _) rfl rfl ?_
  refine GoR.nil ?_
  refine Go1.seq ?_
  refine Go1.region ?_
  refine GoR.op ((op_move rfl) _) rfl rfl ?_
  refine GoR.op ((op_move rfl) _) rfl rfl ?_
  refine GoR.op ((op_move rfl) _) rfl rfl ?_
  refine GoR.op ((op_len Try.underlying22 rfl) _) rfl rfl ?_
  refine GoR.call (op_call body74 rfl (walk_green_newIdeal hO.lt H)) rfl rfl ?_
  rintro v24 w21 ⟨r19, n_r19, p_r19, c_r19, vs_r19, rfl, hs22, hN23, hE20, H⟩
  have hst25 := Stp.more hO hs22 hN23
  replace hO := hst25.own
  replace h_t := h_t.ch hst25.ch
  replace hB := hB.trans hst25.fr
  replace hE20 := hE20.ch (Ch.assoc _ _ _ _)
  obtain ⟨h27, H⟩ := H
  obtain ⟨h28, H⟩ := H
  refine GoR.op ((op_index Try.underlying56 ti62 rfl rfl h27 (ltn (t2neq 1 hO rfl) h28) (t2some 1 hO rfl h27 h28)) _) rfl rfl ?_
  have hst29 := Stp.front 1 hO rfl
  replace hE20 := hE20.ch hst29.ch
  replace hO := hst29.own
  replace h_t := h_t.ch hst29.ch
  replace hB := hB.trans hst29.fr
  have hst30 := Stp.front 1 hO rfl
  replace hE20 := hE20.ch hst30.ch
  replace hO := hst30.own
  replace h_t := h_t.ch hst30.ch
  replace hB := hB.trans hst30.fr
  have hobt := t2put (hf := (Fl.int .u64)) hO hE20 h27 h28
  obtain ⟨w31, hst32, hop33⟩ := hobt
  refine GoR.op (hop33 Try.underlying62 rfl ti62 rfl rfl) rfl rfl ?_
  replace hO := hst32.own
  replace h_t := h_t.ch hst32.ch
  replace hB := hB.trans hst32.fr
  refine GoR.nil ?_
  refine Go1.seq ?_
  refine Go1.region ?_
  refine GoR.op ((op_move rfl) _) rfl rfl ?_
  refine GoR.op ((op_move rfl) _) rfl rfl ?_
  obtain ⟨h34, H⟩ := H
  obtain ⟨h35, H⟩ := H
  refine GoR.op ((op_index Try.underlying56 ti62 rfl rfl h34 (ltn (t2neq 0 hO rfl) h35) (t2some 0 hO rfl h34 h35)) _) rfl rfl ?_
  refine GoR.op ((t2head 0 hO rfl h34 h35 Try.underlying62 rfl rfl) _ (Same.refl _)) rfl rfl ?_
  refine GoR.op ((op_move rfl) _) rfl rfl ?_
  refine GoR.inl (vs := [.slice ((hup hs17 (k1_12 : Int).toNat (p_r19, c_r19)) (k1_12 : Int).toNat).1 ((ix (st ideals1_13 (k1_12 : Int) r19) (k1_12 : Int)).length) ((hup hs17 (k1_12 : Int).toNat (p_r19, c_r19)) (k1_12 : Int).toNat).2, .int .i64 (k1_12 : Int)]) (caps := []) rfl rfl body75 Try.func75 rfl Try.ntmps75 rfl rfl rfl ?_
  intro RhR36 hR36
  refine Go1.drawS 1 [(0, .pure), (1, .pure), (2, .pure), (3, .pure), (4, .stable), (5, .pure), (6, .pure), (7, .pure), (8, .pure), (9, .pure), (10, .last)] mixed (by kernel_rfl) ?_
  intro w37 hs38
  have hst39 := Stp.same hO hs38
  replace hO := hst39.own
  replace h_t := h_t.ch hst39.ch
  replace hB := hB.trans hst39.fr
  refine GoQ.pure rfl (op_move rfl) rfl rfl ?_
  refine GoQ.pure rfl (op_move rfl) rfl rfl ?_
  refine GoQ.pure rfl (op_shr rfl rfl (by decide) rfl) rfl rfl ?_
  obtain ⟨h40, H⟩ := H
  obtain ⟨h41, H⟩ := H
  refine GoQ.pure rfl (op_index Try.underlying62 ti84 rfl rfl h40 h41 (t2isome 0 hO rfl h34 h35 h40 h41)) rfl rfl ?_
  refine GoQ.stable rfl (t2Int 0 hO rfl h34 h35 h40 h41 Try.underlying84 rfl rfl) rfl rfl ?_
  refine GoQ.pure rfl (op_move rfl) rfl rfl ?_
  refine GoQ.pure rfl (op_and rfl rfl) rfl rfl ?_
  obtain ⟨h42, H⟩ := H
  refine GoQ.pure rfl (op_shl rfl rfl h42 rfl) rfl rfl ?_
  refine GoQ.pure rfl (op_or rfl rfl) rfl rfl ?_
  obtain ⟨h43, H⟩ := H
  obtain ⟨h44, H⟩ := H
  refine GoQ.pure rfl (op_index Try.underlying62 ti84 rfl rfl h43 h44 (t2isome 0 hO rfl h34 h35 h43 h44)) rfl rfl ?_
  have hobt := t2st (r := Rp.int .u64) (hf := (Fl.int .u64)) rfl 0 hO rfl h34 h35 h43 h44 (v := .int .u64 (bits .or .u64 (ix (ix (st ideals1_13 (k1_12 : Int) r19) (k1_12 : Int)) (shrK .i64 (k1_12 : Int) (6 : Int))) (shlK .u64 (1 : Int) (bits .and .i64 (k1_12 : Int) (63 : Int))))) (u := (bits .or .u64 (ix (ix (st ideals1_13 (k1_12 : Int) r19) (k1_12 : Int)) (shrK .i64 (k1_12 : Int) (6 : Int))) (shlK .u64 (1 : Int) (bits .and .i64 (k1_12 : Int) (63 : Int))))) rfl rfl
  obtain ⟨w45, hst46, hop47⟩ := hobt
  refine GoQ.last rfl (hop47 Try.underlying84 rfl ti84 rfl rfl) rfl rfl ?_
  replace hO := hst46.own
  replace h_t := h_t.ch hst46.ch
  replace hB := hB.trans hst46.fr
  refine GoQ.nil ?_
  refine Go1.fin0V Try.func75 rfl ?_
  refine hR36 _ _ ?_
  refine GoR.nil ?_
  refine Go1.seq ?_
  refine Go1.region ?_
  refine GoR.op ((op_move rfl) _) rfl rfl ?_
  refine GoR.op ((op_len Try.underlying22 rfl) _) rfl rfl ?_
  refine GoR.op ((op_move rfl) _) rfl rfl ?_
  refine GoR.nil ?_
  refine Go1.block ?_
  refine Go1.loopW (S := Nat × List (List Int)) (fun s σ w => agrees σ [(0, .slice p_t t.length c_t), (3, .slice p14 n16 c15), (4, .int .i64 (k1_12 : Int)), (11, .int .i64 (t.length : Int)), (12, .int .i64 (k1_12 : Int)), (27, .slice p_t t.length c_t), (28, .int .i64 (t.length : Int)), (29, .int .i64 ((s.1) : Int))] ∧ Owns w0.heap.size w [t2 (Fl.int .u64) 62 84 p14 n16 c15 (hup hs17 (k1_12 : Int).toNat (p_r19, c_r19)) (s.2)] A ∧ ISl (Rp.sl (Rp.int .i64)) (bl [t2 (Fl.int .u64) 62 84 p14 n16 c15 (hup hs17 (k1_12 : Int).toNat (p_r19, c_r19)) (s.2)] ++ A) w p_t c_t t ∧ Fr (bl []) w0 (bl [t2 (Fl.int .u64) 62 84 p14 n16 c15 (hup hs17 (k1_12 : Int).toNat (p_r19, c_r19)) (s.2)]) w) H ⟨⟨rfl, rfl, rfl, rfl, rfl, rfl, rfl, rfl, trivial⟩, hO, h_t, hB⟩ ?_
  rintro X2 ⟨k2_49, ideals2_50⟩ H hX2 σ w48 ⟨hag, hO, h_t, hB⟩
  dsimp only at H
  refine Go1.keep [(0, .slice p_t t.length c_t), (3, .slice p14 n16 c15), (4, .int .i64 (k1_12 : Int)), (11, .int .i64 (t.length : Int)), (12, .int .i64 (k1_12 : Int)), (27, .slice p_t t.length c_t), (28, .int .i64 (t.length : Int)), (29, .int .i64 (k2_49 : Int))] hag ?_
  refine Go1.seq ?_
  refine Go1.region ?_
  by_cases h51 : (k2_49 : Int) < (t.length : Int)
  ·replace H := ifp h51 H
   refine GoR.op ((fun w => opB (op_lss rfl rfl w) (decide_eq_true h51)) _) rfl rfl ?_
   refine GoR.nil ?_
   refine Go1.seq ?_
   refine Go1.condT rfl rfl ?_
   refine Go1.skip ?_
   refine Go1.seq ?_
   refine Go1.block ?_
   refine Go1.seq ?_
   refine Go1.region ?_
   obtain ⟨h52, H⟩ := H
   obtain ⟨h53, H⟩ := H
   refine GoR.op ((op_index Try.underlying22 ti25 rfl rfl h52 h53 (h_t.some_ h52 h53)) _) rfl rfl ?_
   have hobt := ldSl h_t h52 h53
   obtain ⟨p54, c55, hi56, hl57⟩ := hobt
   refine GoR.op ((hl57 Try.underlying25 rfl rfl) _ (Same.refl _)) rfl rfl ?_
   refine GoR.op ((op_assign rfl) _) rfl rfl ?_
   refine GoR.nil ?_
   refine Go1.drawS 1 [(0, .pure), (1, .pure), (2, .pure), (3, .stable), (4, .pure), (5, .pure), (6, .pure), (7, .stable), (8, .last)] mixed (by kernel_rfl) ?_
   intro w58 hs59
   have hst60 := Stp.same hO hs59
   replace hO := hst60.own
   replace h_t := h_t.ch hst60.ch
   replace hi56 := hi56.ch hst60.ch
   replace hB := hB.trans hst60.fr
   refine GoQ.pure rfl (op_move rfl) rfl rfl ?_
   refine GoQ.pure rfl (op_move rfl) rfl rfl ?_
   obtain ⟨h61, H⟩ := H
   obtain ⟨h62, H⟩ := H
   refine GoQ.pure rfl (op_index Try.underlying56 ti62 rfl rfl h61 (ltn (t2neq 0 hO rfl) h62) (t2some 0 hO rfl h61 h62)) rfl rfl ?_
   refine GoQ.stable rfl (t2head 0 hO rfl h61 h62 Try.underlying62 rfl rfl) rfl rfl ?_
   refine GoQ.pure rfl (op_move rfl) rfl rfl ?_
   refine GoQ.pure rfl (op_move rfl) rfl rfl ?_
   obtain ⟨h63, H⟩ := H
   obtain ⟨h64, H⟩ := H
   refine GoQ.pure rfl (op_index Try.underlying25 ti3 rfl rfl h63 h64 (hi56.some_ h63 h64)) rfl rfl ?_
   refine GoQ.stable rfl (ldInt hi56 h63 h64 Try.underlying3 rfl rfl) rfl rfl ?_
   refine GoQ.inl (vs := [.slice ((hup hs17 (k1_12 : Int).toNat (p_r19, c_r19)) (k1_12 : Int).toNat).1 ((ix ideals2_50 (k1_12 : Int)).length) ((hup hs17 (k1_12 : Int).toNat (p_r19, c_r19)) (k1_12 : Int).toNat).2, .int .i64 (ix (ix t (k2_49 : Int)) (k1_12 : Int))]) (caps := []) rfl rfl rfl body75 Try.func75 rfl Try.ntmps75 rfl rfl rfl ?_
   intro RhR65 hR65
   refine Go1.drawS 1 [(0, .pure), (1, .pure), (2, .pure), (3, .pure), (4, .stable), (5, .pure), (6, .pure), (7, .pure), (8, .pure), (9, .pure), (10, .last)] mixed (by kernel_rfl) ?_
   intro w66 hs67
   have hst68 := Stp.same hO hs67
   replace hO := hst68.own
   replace h_t := h_t.ch hst68.ch
   replace hi56 := hi56.ch hst68.ch
   replace hB := hB.trans hst68.fr
   refine GoQ.pure rfl (op_move rfl) rfl rfl ?_
   refine GoQ.pure rfl (op_move rfl) rfl rfl ?_
   refine GoQ.pure rfl (op_shr rfl rfl (by decide) rfl) rfl rfl ?_
   obtain ⟨h69, H⟩ := H
   obtain ⟨h70, H⟩ := H
   refine GoQ.pure rfl (op_index Try.underlying62 ti84 rfl rfl h69 h70 (t2isome 0 hO rfl h61 h62 h69 h70)) rfl rfl ?_
   refine GoQ.stable rfl (t2Int 0 hO rfl h61 h62 h69 h70 Try.underlying84 rfl rfl) rfl rfl ?_
   refine GoQ.pure rfl (op_move rfl) rfl rfl ?_
   refine GoQ.pure rfl (op_and rfl rfl) rfl rfl ?_
   obtain ⟨h71, H⟩ := H
   refine GoQ.pure rfl (op_shl rfl rfl h71 rfl) rfl rfl ?_
   refine GoQ.pure rfl (op_or rfl rfl) rfl rfl ?_
   obtain ⟨h72, H⟩ := H
   obtain ⟨h73, H⟩ := H
   refine GoQ.pure rfl (op_index Try.underlying62 ti84 rfl rfl h72 h73 (t2isome 0 hO rfl h61 h62 h72 h73)) rfl rfl ?_
   have hobt := t2st (r := Rp.int .u64) (hf := (Fl.int .u64)) rfl 0 hO rfl h61 h62 h72 h73 (v := .int .u64 (bits .or .u64 (ix (ix ideals2_50 (k1_12 : Int)) (shrK .i64 (ix (ix t (k2_49 : Int)) (k1_12 : Int)) (6 : Int))) (shlK .u64 (1 : Int) (bits .and .i64 (ix (ix t (k2_49 : Int)) (k1_12 : Int)) (63 : Int))))) (u := (bits .or .u64 (ix (ix ideals2_50 (k1_12 : Int)) (shrK .i64 (ix (ix t (k2_49 : Int)) (k1_12 : Int)) (6 : Int))) (shlK .u64 (1 : Int) (bits .and .i64 (ix (ix t (k2_49 : Int)) (k1_12 : Int)) (63 : Int))))) rfl rfl
   obtain ⟨w74, hst75, hop76⟩ := hobt
   refine GoQ.last rfl (hop76 Try.underlying84 rfl ti84 rfl rfl) rfl rfl ?_
   replace hO := hst75.own
   replace h_t := h_t.ch hst75.ch
   replace hi56 := hi56.ch hst75.ch
   replace hB := hB.trans hst75.fr
   refine GoQ.nil ?_
   refine Go1.fin0V Try.func75 rfl ?_
   refine hR65 _ _ ?_
   refine GoQ.nil ?_
   refine Go1.inBlock ?_
   refine Go1.region ?_
   refine GoR.op ((op_add rfl rfl (wrap_i64 (natbd h51 h_t.bd))) _) rfl rfl ?_
   refine GoR.op ((op_move rfl) _) rfl rfl ?_
   refine GoR.nil ?_
   exact hX2 _ H _ _ ⟨⟨rfl, rfl, rfl, rfl, rfl, rfl, rfl, rfl, trivial⟩, hO, h_t, hB⟩
  ·replace H := ifn h51 H
   refine GoR.op ((fun w => opB (op_lss rfl rfl w) (decide_eq_false h51)) _) rfl rfl ?_
   refine GoR.nil ?_
   refine Go1.seq ?_
   refine Go1.condF rfl rfl ?_
   refine Go1.exit rfl ?_
   refine Go1.inBlock ?_
   refine Go1.region ?_
   refine GoR.op ((op_add rfl rfl (wrap_i64 (natbd h18 h_t.bd))) _) rfl rfl ?_
   refine GoR.op ((op_move rfl) _) rfl rfl ?_
   refine GoR.nil ?_
   exact hX1 _ H _ _ ⟨n16, p14, c15, hup hs17 (k1_12 : Int).toNat (p_r19, c_r19), ⟨rfl, rfl, rfl, rfl, trivial⟩, hO, h_t, hB⟩
 ·replace H := ifn h18 H
  refine GoR.op ((fun w => opB (op_lss rfl rfl w) (decide_eq_false h18)) _) rfl rfl ?_
  refine GoR.nil ?_
  refine Go1.seq ?_
  refine Go1.condF rfl rfl ?_
  refine Go1.exit rfl ?_
  refine Go1.seq ?_
  refine Go1.region ?_
  refine GoR.op ((op_move rfl) _) rfl rfl ?_
  refine GoR.op ((op_assign rfl) _) rfl rfl ?_
  refine GoR.nil ?_
  have hobt := t2freezeA 0 hO rfl
  obtain ⟨hO1, hc79, hi77, hn78⟩ := hobt
  replace h_t := h_t.ch hc79
  replace hB := hB.trans (Owns.dropFr _ _ 0)
  replace hO := hO1; clear hO1
  refine Go1.ret1 Try.func47 rfl ?_
  exact ⟨ideals1_13, p14, c15, (congrArg (fun nn => Value.slice p14 nn c15) hn78), hB.same, (hi77.ch (Ch.weak _ _ _)), H⟩
theorem body52 : Body Try.prog 52 := ⟨Try.f52, Try.func52, rfl, by kernel_rfl⟩
theorem walk_green_ideal_has {A : List Nat} {w0 : World} {p_s : Option Addr} {c_s : Nat} {s : List Int} {x : Int} (hA : ∀ b ∈ A, b < w0.heap.size) (h_s : ISl (Rp.int .u64) A w0 p_s c_s s) {K : Bool → Prop} (H : green_ideal_has s x K) :
    CallsV Try.prog 52 #[.slice p_s s.length c_s, .int .i64 x] w0 (fun v w' => ∃ (r0 : Bool), v = .bool r0 ∧ Same w0 w' ∧ K r0) := by
 refine CallsV.of (l := [.slice p_s s.length c_s, .int .i64 x]) Try.func52 rfl Try.ntmps52 rfl ?_
 have hO := Owns.start hA
 have hB := Fr.refl (bl []) w0
 unfold green_ideal_has at H
 replace h_s := h_s.ch (Ch.start A w0)
 refine Go1.seq ?_
 refine Go1.region ?_
 refine GoR.op ((op_assign rfl) _) rfl rfl ?_
 refine GoR.nil ?_
 refine Go1.seq ?_
 refine Go1.region ?_
 refine GoR.op ((op_move rfl) _) rfl rfl ?_
 refine GoR.op ((op_move rfl) _) rfl rfl ?_
 refine GoR.op ((op_shr rfl rfl (by decide) rfl) _) rfl rfl ?_
 obtain ⟨h1, H⟩ := H
 obtain ⟨h2, H⟩ := H
 refine GoR.op ((op_index Try.underlying62 ti84 rfl rfl h1 h2 (h_s.some_ h1 h2)) _) rfl rfl ?_
 refine GoR.op ((ldInt h_s h1 h2 Try.underlying84 rfl rfl) _ (Same.refl _)) rfl rfl ?_
 refine GoR.op ((op_move rfl) _) rfl rfl ?_
 refine GoR.op ((op_and rfl rfl) _) rfl rfl ?_
 obtain ⟨h3, H⟩ := H
 refine GoR.op ((op_shr rfl rfl h3 rfl) _) rfl rfl ?_
 refine GoR.op ((op_and rfl rfl) _) rfl rfl ?_
 by_cases h4 : (bits .and .u64 (shrK .u64 (ix s (shrK .i64 x (6 : Int))) (bits .and .i64 x (63 : Int))) (1 : Int)) = (1 : Int)
 ·replace H := ifp h4 H
  refine GoR.op ((fun w => opB (op_eql rfl rfl w) (decide_eq_true h4)) _) rfl rfl ?_
  refine GoR.op ((op_assign rfl) _) rfl rfl ?_
  refine GoR.nil ?_
  refine Go1.ret1 Try.func52 rfl ?_
  exact ⟨true, rfl, hB.same, H⟩
 ·replace H := ifn h4 H
  refine GoR.op ((fun w => opB (op_eql rfl rfl w) (decide_eq_false h4)) _) rfl rfl ?_
  refine GoR.op ((op_assign rfl) _) rfl rfl ?_
  refine GoR.nil ?_
  refine Go1.ret1 Try.func52 rfl ?_
  exact ⟨false, rfl, hB.same, H⟩
theorem body76 : Body Try.prog 76 := ⟨Try.f76, Try.func76, rfl, by kernel_rfl⟩
theorem body48 : Body Try.prog 48 := ⟨Try.f48, Try.func48, rfl, by kernel_rfl⟩
theorem walk_green_twoSided {A : List Nat} {w0 : World} {p_right : Option Addr} {c_right : Nat} {p_left : Option Addr} {c_left : Nat} {right : List (List Int)} {left : List (List Int)} (hA : ∀ b ∈ A, b < w0.heap.size) (h_right : ISl (Rp.sl (Rp.int .u64)) A w0 p_right c_right right) (h_left : ISl (Rp.sl (Rp.int .u64)) A w0 p_left c_left left) {K : List (List Int) → Prop} (H : green_twoSided right left K) :
    CallsV Try.prog 48 #[.slice p_right right.length c_right, .slice p_left left.length c_left] w0 (fun v w' => ∃ (r0 : List (List Int)), ∃ (p_r0 : Option Addr), ∃ (c_r0 : Nat), v = .slice p_r0 r0.length c_r0 ∧ Same w0 w' ∧ ISl (Rp.sl (Rp.int .u64)) A w' p_r0 c_r0 r0 ∧ K r0) := by
 refine CallsV.of (l := [.slice p_right right.length c_right, .slice p_left left.length c_left]) Try.func48 rfl Try.ntmps48 rfl ?_
 have hO := Owns.start hA
 have hB := Fr.refl (bl []) w0
 unfold green_twoSided at H
 replace h_right := h_right.ch (Ch.start A w0)
 replace h_left := h_left.ch (Ch.start A w0)
 refine Go1.seq ?_
 refine Go1.region ?_
 refine GoR.op ((op_assign rfl) _) rfl rfl ?_
 refine GoR.nil ?_
 refine Go1.seq ?_
 refine Go1.region ?_
 refine GoR.op ((op_move rfl) _) rfl rfl ?_
 refine GoR.op ((op_len Try.underlying56 rfl) _) rfl rfl ?_
 replace H := H h_right.bd
 obtain ⟨h8, H⟩ := H
 obtain ⟨h9, H⟩ := H
 have hobt := t2make (m := (right.length : Int)) (e' := 84) (Fl.int .u64) Try.underlying56 ti62 hO h8 h9 (by decide)
 obtain ⟨w1, p2, hst4, hs6, hop7⟩ := hobt
 refine GoR.op (hop7 rfl rfl) rfl rfl ?_
 replace hO := hst4.own
 replace h_right := h_right.ch hst4.ch
 replace h_left := h_left.ch hst4.ch
 replace hB := hB.trans hst4.fr
 refine GoR.op ((op_assign rfl) _) rfl rfl ?_
 refine GoR.nil ?_
 refine Go1.seq ?_
 refine Go1.seq ?_
 refine Go1.region ?_
 refine GoR.op ((op_move rfl) _) rfl rfl ?_
 refine GoR.op ((op_lenN Try.underlying56 rfl (t2neq 0 hO rfl)) _) rfl rfl ?_
 refine GoR.op ((op_move rfl) _) rfl rfl ?_
 refine GoR.nil ?_
 refine Go1.block ?_
 refine Go1.loopW (S := Nat × List (List Int)) (fun s σ w => ∃ (n16 : Nat), ∃ (p14 : Option Addr), ∃ (c15 : Nat), ∃ (hs17 : Hd), agrees σ [(0, .slice p_right right.length c_right), (1, .slice p_left left.length c_left), (5, .slice p14 n16 c15), (12, .int .i64 ((List.replicate right.length ([] : List Int)).length : Int)), (13, .int .i64 ((s.1) : Int))] ∧ Owns w0.heap.size w [t2 (Fl.int .u64) 62 84 p14 n16 c15 hs17 (s.2)] A ∧ ISl (Rp.sl (Rp.int .u64)) (bl [t2 (Fl.int .u64) 62 84 p14 n16 c15 hs17 (s.2)] ++ A) w p_right c_right right ∧ ISl (Rp.sl (Rp.int .u64)) (bl [t2 (Fl.int .u64) 62 84 p14 n16 c15 hs17 (s.2)] ++ A) w p_left c_left left ∧ Fr (bl []) w0 (bl [t2 (Fl.int .u64) 62 84 p14 n16 c15 hs17 (s.2)]) w) H ⟨right.length, p2, right.length, (fun _ => (none, 0)), ⟨rfl, rfl, rfl, rfl, rfl, trivial⟩, hO, h_right, h_left, hB⟩ ?_
 rintro X1 ⟨k1_12, ideals1_13⟩ H hX1 σ w11 ⟨n16, p14, c15, hs17, hag, hO, h_right, h_left, hB⟩
 dsimp only at H
 refine Go1.keep [(0, .slice p_right right.length c_right), (1, .slice p_left left.length c_left), (5, .slice p14 n16 c15), (12, .int .i64 ((List.replicate right.length ([] : List Int)).length : Int)), (13, .int .i64 (k1_12 : Int))] hag ?_
 refine Go1.seq ?_
 refine Go1.region ?_
 by_cases h18 : (k1_12 : Int) < ((List.replicate right.length ([] : List Int)).length : Int)
 ·replace H := ifp h18 H
  refine GoR.op ((fun w => opB (op_lss rfl rfl w) (decide_eq_true h18)) _) rfl rfl ?_
  refine GoR.nil ?_
  refine Go1.seq ?_
  refine Go1.condT rfl rfl ?_
  refine Go1.skip ?_
  refine Go1.seq ?_
  refine Go1.block ?_
  refine Go1.seq ?_
  refine Go1.region ?_
  refine GoR.op ((op_move rfl) _) rfl rfl ?_
  refine GoR.op ((op_assign rfl) _) rfl rfl ?_
  refine GoR.nil ?_
  refine Go1.seq ?_
  refine Go1.region ?_
  refine GoR.op ((op_move rfl) _) rfl rfl ?_
  refine GoR.op ((op_move rfl) _) rfl rfl ?_
  refine GoR.op ((op_move rfl) _) rfl rfl ?_
  refine GoR.op ((op_len Try.underlying56 rfl) _) rfl rfl ?_
  refine GoR.call (op_call body74 rfl (walk_green_newIdeal hO.lt H)) rfl rfl ?_
  rintro v24 w21 ⟨r19, n_r19, p_r19, c_r19, vs_r19, rfl, hs22, hN23, hE20, H⟩
  have hst25 := Stp.more hO hs22 hN23
  replace hO := hst25.own
  replace h_right := h_right.ch hst25.ch
  replace h_left := h_left.ch hst25.ch
  replace hB := hB.trans hst25.fr
  replace hE20 := hE20.ch (Ch.assoc _ _ _ _)
  obtain ⟨h27, H⟩ := H
  obtain ⟨h28, H⟩ := H
  refine GoR.op ((op_index Try.underlying56 ti62 rfl rfl h27 (ltn (t2neq 1 hO rfl) h28) (t2some 1 hO rfl h27 h28)) _) rfl rfl ?_
  have hst29 := Stp.front 1 hO rfl
  replace hE20 := hE20.ch hst29.ch
  replace hO := hst29.own
  replace h_right := h_right.ch hst29.ch
  replace h_left := h_left.ch hst29.ch
  replace hB := hB.trans hst29.fr
  have hst30 := Stp.front 1 hO rfl
  replace hE20 := hE20.ch hst30.ch
  replace hO := hst30.own
  replace h_right := h_right.ch hst30.ch
  replace h_left := h_left.ch hst30.ch
  replace hB := hB.trans hst30.fr
  have hobt := t2put (hf := (Fl.int .u64)) hO hE20 h27 h28
  obtain ⟨w31, hst32, hop33⟩ := hobt
  refine GoR.op (hop33 Try.underlying62 rfl ti62 rfl rfl) rfl rfl ?_
  replace hO := hst32.own
  replace h_right := h_right.ch hst32.ch
  replace h_left := h_left.ch hst32.ch
  replace hB := hB.trans hst32.fr
  refine GoR.nil ?_
  refine Go1.seq ?_
  refine Go1.region ?_
  refine GoR.op ((op_move rfl) _) rfl rfl ?_
  refine GoR.op ((op_len Try.underlying56 rfl) _) rfl rfl ?_
  refine GoR.op ((op_move rfl) _) rfl rfl ?_
  refine GoR.nil ?_
  refine Go1.block ?_
  refine Go1.loopW (S := Nat × List (List Int)) (fun s σ w => agrees σ [(0, .slice p_right right.length c_right), (1, .slice p_left left.length c_left), (5, .slice p14 n16 c15), (6, .int .i64 (k1_12 : Int)), (12, .int .i64 ((List.replicate right.length ([] : List Int)).length : Int)), (13, .int .i64 (k1_12 : Int)), (23, .int .i64 (right.length : Int)), (24, .int .i64 ((s.1) : Int))] ∧ Owns w0.heap.size w [t2 (Fl.int .u64) 62 84 p14 n16 c15 (hup hs17 (k1_12 : Int).toNat (p_r19, c_r19)) (s.2)] A ∧ ISl (Rp.sl (Rp.int .u64)) (bl [t2 (Fl.int .u64) 62 84 p14 n16 c15 (hup hs17 (k1_12 : Int).toNat (p_r19, c_r19)) (s.2)] ++ A) w p_right c_right right ∧ ISl (Rp.sl (Rp.int .u64)) (bl [t2 (Fl.int .u64) 62 84 p14 n16 c15 (hup hs17 (k1_12 : Int).toNat (p_r19, c_r19)) (s.2)] ++ A) w p_left c_left left ∧ Fr (bl []) w0 (bl [t2 (Fl.int .u64) 62 84 p14 n16 c15 (hup hs17 (k1_12 : Int).toNat (p_r19, c_r19)) (s.2)]) w) H ⟨⟨rfl, rfl, rfl, rfl, rfl, rfl, rfl, rfl, trivial⟩, hO, h_right, h_left, hB⟩ ?_
  rintro X2 ⟨k2_35, ideals2_36⟩ H hX2 σ w34 ⟨hag, hO, h_right, h_left, hB⟩
  dsimp only at H
  refine Go1.keep [(0, .slice p_right right.length c_right), (1, .slice p_left left.length c_left), (5, .slice p14 n16 c15), (6, .int .i64 (k1_12 : Int)), (12, .int .i64 ((List.replicate right.length ([] : List Int)).length : Int)), (13, .int .i64 (k1_12 : Int)), (23, .int .i64 (right.length : Int)), (24, .int .i64 (k2_35 : Int))] hag ?_
  refine Go1.seq ?_
  refine Go1.region ?_
  by_cases h37 : (k2_35 : Int) < (right.length : Int)
  ·replace H := ifp h37 H
   refine GoR.op ((fun w => opB (op_lss rfl rfl w) (decide_eq_true h37)) _) rfl rfl ?_
   refine GoR.nil ?_
   refine Go1.seq ?_
   refine Go1.condT rfl rfl ?_
   refine Go1.skip ?_
   refine Go1.seq ?_
   refine Go1.block ?_
   refine Go1.seq ?_
   refine Go1.region ?_
   refine GoR.op ((op_move rfl) _) rfl rfl ?_
   refine GoR.op ((op_assign rfl) _) rfl rfl ?_
   refine GoR.nil ?_
   refine Go1.seq ?_
   refine Go1.region ?_
   refine GoR.op ((op_move rfl) _) rfl rfl ?_
   refine GoR.op ((op_move rfl) _) rfl rfl ?_
   obtain ⟨h38, H⟩ := H
   obtain ⟨h39, H⟩ := H
   refine GoR.op ((op_index Try.underlying56 ti62 rfl rfl h38 h39 (h_left.some_ h38 h39)) _) rfl rfl ?_
   have hobt := ldSl h_left h38 h39
   obtain ⟨p40, c41, hi42, hl43⟩ := hobt
   refine GoR.op ((hl43 Try.underlying62 rfl rfl) _ (Same.refl _)) rfl rfl ?_
   refine GoR.op ((op_move rfl) _) rfl rfl ?_
   refine GoR.call (op_call body52 rfl (walk_green_ideal_has hO.lt hi42 H)) rfl rfl ?_
   rintro v48 w45 ⟨r44, rfl, hs46, H⟩
   have hst49 := Stp.same hO hs46
   replace hO := hst49.own
   replace h_right := h_right.ch hst49.ch
   replace h_left := h_left.ch hst49.ch
   replace hi42 := hi42.ch hst49.ch
   replace hB := hB.trans hst49.fr
   refine GoR.nil ?_
   cases r44
   ·replace H := ifn Bool.false_ne_true H
    refine Go1.condF rfl rfl ?_
    refine Go1.skip ?_
    refine Go1.inBlock ?_
    refine Go1.region ?_
    refine GoR.op ((op_add rfl rfl (wrap_i64 (natbd h37 h_right.bd))) _) rfl rfl ?_
    refine GoR.op ((op_move rfl) _) rfl rfl ?_
    refine GoR.nil ?_
    exact hX2 _ H _ _ ⟨⟨rfl, rfl, rfl, rfl, rfl, rfl, rfl, rfl, trivial⟩, hO, h_right, h_left, hB⟩
   ·replace H := ifp rfl H
    refine Go1.condT rfl rfl ?_
    refine Go1.drawS 1 [(0, .pure), (1, .pure), (2, .pure), (3, .stable), (4, .pure), (5, .pure), (6, .pure), (7, .stable), (8, .last)] mixed (by kernel_rfl) ?_
    intro w50 hs51
    have hst52 := Stp.same hO hs51
    replace hO := hst52.own
    replace h_right := h_right.ch hst52.ch
    replace h_left := h_left.ch hst52.ch
    replace hi42 := hi42.ch hst52.ch
    replace hB := hB.trans hst52.fr
    refine GoQ.pure rfl (op_move rfl) rfl rfl ?_
    refine GoQ.pure rfl (op_move rfl) rfl rfl ?_
    obtain ⟨h53, H⟩ := H
    obtain ⟨h54, H⟩ := H
    refine GoQ.pure rfl (op_index Try.underlying56 ti62 rfl rfl h53 (ltn (t2neq 0 hO rfl) h54) (t2some 0 hO rfl h53 h54)) rfl rfl ?_
    refine GoQ.stable rfl (t2head 0 hO rfl h53 h54 Try.underlying62 rfl rfl) rfl rfl ?_
    refine GoQ.pure rfl (op_move rfl) rfl rfl ?_
    refine GoQ.pure rfl (op_move rfl) rfl rfl ?_
    obtain ⟨h55, H⟩ := H
    obtain ⟨h56, H⟩ := H
    refine GoQ.pure rfl (op_index Try.underlying56 ti62 rfl rfl h55 h56 (h_right.some_ h55 h56)) rfl rfl ?_
    have hobt := ldSl h_right h55 h56
    obtain ⟨p57, c58, hi59, hl60⟩ := hobt
    refine GoQ.stable rfl (hl60 Try.underlying62 rfl rfl) rfl rfl ?_
    refine GoQ.inl (vs := [.slice ((hup hs17 (k1_12 : Int).toNat (p_r19, c_r19)) (k1_12 : Int).toNat).1 ((ix ideals2_36 (k1_12 : Int)).length) ((hup hs17 (k1_12 : Int).toNat (p_r19, c_r19)) (k1_12 : Int).toNat).2, .slice p57 ((ix right (k2_35 : Int)).length) c58]) (caps := []) rfl rfl rfl body76 Try.func76 rfl Try.ntmps76 rfl rfl rfl ?_
    intro RhR61 hR61
    refine Go1.seq ?_
    refine Go1.region ?_
    refine GoR.op ((op_move rfl) _) rfl rfl ?_
    refine GoR.op ((op_len Try.underlying62 rfl) _) rfl rfl ?_
    refine GoR.op ((op_move rfl) _) rfl rfl ?_
    refine GoR.nil ?_
    refine Go1.block ?_
    refine Go1.loopW (S := Nat × List (List Int)) (fun s σ w => agrees σ [(0, .slice ((hup hs17 (k1_12 : Int).toNat (p_r19, c_r19)) (k1_12 : Int).toNat).1 ((ix ideals2_36 (k1_12 : Int)).length) ((hup hs17 (k1_12 : Int).toNat (p_r19, c_r19)) (k1_12 : Int).toNat).2), (1, .slice p57 ((ix right (k2_35 : Int)).length) c58), (6, .int .i64 ((ix ideals2_36 (k1_12 : Int)).length : Int)), (7, .int .i64 ((s.1) : Int))] ∧ Owns w0.heap.size w [t2 (Fl.int .u64) 62 84 p14 n16 c15 (hup hs17 (k1_12 : Int).toNat (p_r19, c_r19)) (s.2)] A ∧ ISl (Rp.sl (Rp.int .u64)) (bl [t2 (Fl.int .u64) 62 84 p14 n16 c15 (hup hs17 (k1_12 : Int).toNat (p_r19, c_r19)) (s.2)] ++ A) w p_right c_right right ∧ ISl (Rp.sl (Rp.int .u64)) (bl [t2 (Fl.int .u64) 62 84 p14 n16 c15 (hup hs17 (k1_12 : Int).toNat (p_r19, c_r19)) (s.2)] ++ A) w p_left c_left left ∧ ISl (Rp.int .u64) (bl [t2 (Fl.int .u64) 62 84 p14 n16 c15 (hup hs17 (k1_12 : Int).toNat (p_r19, c_r19)) (s.2)] ++ A) w p57 c58 (ix right (k2_35 : Int)) ∧ Fr (bl []) w0 (bl [t2 (Fl.int .u64) 62 84 p14 n16 c15 (hup hs17 (k1_12 : Int).toNat (p_r19, c_r19)) (s.2)]) w) H ⟨⟨rfl, rfl, rfl, rfl, trivial⟩, hO, h_right, h_left, hi59, hB⟩ ?_
    rintro X3 ⟨k3_63, d_64⟩ H hX3 σ w62 ⟨hag, hO, h_right, h_left, hi59, hB⟩
    dsimp only at H
    refine Go1.keep [(0, .slice ((hup hs17 (k1_12 : Int).toNat (p_r19, c_r19)) (k1_12 : Int).toNat).1 ((ix ideals2_36 (k1_12 : Int)).length) ((hup hs17 (k1_12 : Int).toNat (p_r19, c_r19)) (k1_12 : Int).toNat).2), (1, .slice p57 ((ix right (k2_35 : Int)).length) c58), (6, .int .i64 ((ix ideals2_36 (k1_12 : Int)).length : Int)), (7, .int .i64 (k3_63 : Int))] hag ?_
    refine Go1.seq ?_
    refine Go1.region ?_
    by_cases h65 : (k3_63 : Int) < ((ix ideals2_36 (k1_12 : Int)).length : Int)
    ·replace H := ifp h65 H
     refine GoR.op ((fun w => opB (op_lss rfl rfl w) (decide_eq_true h65)) _) rfl rfl ?_
     refine GoR.nil ?_
     refine Go1.seq ?_
     refine Go1.condT rfl rfl ?_
     refine Go1.skip ?_
     refine Go1.seq ?_
     refine Go1.block ?_
     refine Go1.seq ?_
     refine Go1.region ?_
     refine GoR.op ((op_move rfl) _) rfl rfl ?_
     refine GoR.op ((op_assign rfl) _) rfl rfl ?_
     refine GoR.nil ?_
     refine Go1.drawS 1 [(0, .pure), (1, .pure), (2, .pure), (3, .stable), (4, .pure), (5, .pure), (6, .pure), (7, .stable), (8, .pure), (9, .pure), (10, .last)] mixed (by kernel_rfl) ?_
     intro w66 hs67
     have hst68 := Stp.same hO hs67
     replace hO := hst68.own
     replace h_right := h_right.ch hst68.ch
     replace h_left := h_left.ch hst68.ch
     replace hi59 := hi59.ch hst68.ch
     replace hB := hB.trans hst68.fr
     refine GoQ.pure rfl (op_move rfl) rfl rfl ?_
     refine GoQ.pure rfl (op_move rfl) rfl rfl ?_
     obtain ⟨h69, H⟩ := H
     obtain ⟨h70, H⟩ := H
     obtain ⟨h71, H⟩ := H
     obtain ⟨h72, H⟩ := H
     refine GoQ.pure rfl (op_index Try.underlying62 ti84 rfl rfl h69 h70 (t2isome 0 hO rfl h53 h71 h69 h72)) rfl rfl ?_
     refine GoQ.stable rfl (t2Int 0 hO rfl h53 h71 h69 h72 Try.underlying84 rfl rfl) rfl rfl ?_
     refine GoQ.pure rfl (op_move rfl) rfl rfl ?_
     refine GoQ.pure rfl (op_move rfl) rfl rfl ?_
     obtain ⟨h73, H⟩ := H
     obtain ⟨h74, H⟩ := H
     refine GoQ.pure rfl (op_index Try.underlying62 ti84 rfl rfl h73 h74 (hi59.some_ h73 h74)) rfl rfl ?_
     refine GoQ.stable rfl (ldInt hi59 h73 h74 Try.underlying84 rfl rfl) rfl rfl ?_
     refine GoQ.pure rfl (op_or rfl rfl) rfl rfl ?_
     obtain ⟨h75, H⟩ := H
     obtain ⟨h76, H⟩ := H
     obtain ⟨h77, H⟩ := H
     obtain ⟨h78, H⟩ := H
     refine GoQ.pure rfl (op_index Try.underlying62 ti84 rfl rfl h75 h76 (t2isome 0 hO rfl h53 h77 h75 h78)) rfl rfl ?_
     have hobt := t2st (r := Rp.int .u64) (hf := (Fl.int .u64)) rfl 0 hO rfl h53 h77 h75 h78 (v := .int .u64 (bits .or .u64 (ix (ix d_64 (k1_12 : Int)) (k3_63 : Int)) (ix (ix right (k2_35 : Int)) (k3_63 : Int)))) (u := (bits .or .u64 (ix (ix d_64 (k1_12 : Int)) (k3_63 : Int)) (ix (ix right (k2_35 : Int)) (k3_63 : Int)))) rfl rfl
     obtain ⟨w79, hst80, hop81⟩ := hobt
     refine GoQ.last rfl (hop81 Try.underlying84 rfl ti84 rfl rfl) rfl rfl ?_
     replace hO := hst80.own
     replace h_right := h_right.ch hst80.ch
     replace h_left := h_left.ch hst80.ch
     replace hi59 := hi59.ch hst80.ch
     replace hB := hB.trans hst80.fr
     refine GoQ.nil ?_
     refine Go1.inBlock ?_
     refine Go1.region ?_
     obtain ⟨h82, H⟩ := H
     refine GoR.op ((op_add rfl rfl (wrap_i64 h82)) _) rfl rfl ?_
     refine GoR.op ((op_move rfl) _) rfl rfl ?_
     refine GoR.nil ?_
     exact hX3 _ H _ _ ⟨⟨rfl, rfl, rfl, rfl, trivial⟩, hO, h_right, h_left, hi59, hB⟩
    ·replace H := ifn h65 H
     refine GoR.op ((fun w => opB (op_lss rfl rfl w) (decide_eq_false h65)) _) rfl rfl ?_
     refine GoR.nil ?_
     refine Go1.seq ?_
     refine Go1.condF rfl rfl ?_
     refine Go1.exit rfl ?_
     refine Go1.fin0V Try.func76 rfl ?_
     refine hR61 _ _ ?_
     refine GoQ.nil ?_
     refine Go1.inBlock ?_
     refine Go1.region ?_
     refine GoR.op ((op_add rfl rfl (wrap_i64 (natbd h37 h_right.bd))) _) rfl rfl ?_
     refine GoR.op ((op_move rfl) _) rfl rfl ?_
     refine GoR.nil ?_
     exact hX2 _ H _ _ ⟨⟨rfl, rfl, rfl, rfl, rfl, rfl, rfl, rfl, trivial⟩, hO, h_right, h_left, hB⟩
  ·replace H := ifn h37 H
   refine GoR.op ((fun w => opB (op_lss rfl rfl w) (decide_eq_false h37)) _) rfl rfl ?_
   refine GoR.nil ?_
   refine Go1.seq ?_
   refine Go1.condF rfl rfl ?_
   refine Go1.exit rfl ?_
   refine Go1.inBlock ?_
   refine Go1.region ?_
   obtain ⟨h83, H⟩ := H
   refine GoR.op ((op_add rfl rfl (wrap_i64 h83)) _) rfl rfl ?_
   refine GoR.op ((op_move rfl) _) rfl rfl ?_
   refine GoR.nil ?_
   exact hX1 _ H _ _ ⟨n16, p14, c15, hup hs17 (k1_12 : Int).toNat (p_r19, c_r19), ⟨rfl, rfl, rfl, rfl, rfl, trivial⟩, hO, h_right, h_left, hB⟩
 ·replace H := ifn h18 H
  refine GoR.op ((fun w => opB (op_lss rfl rfl w) (decide_eq_false h18)) _) rfl rfl ?_
  refine GoR.nil ?_
  refine Go1.seq ?_
  refine Go1.condF rfl rfl ?_
  refine Go1.exit rfl ?_
  refine Go1.seq ?_
  refine Go1.region ?_
  refine GoR.op ((op_move rfl) _) rfl rfl ?_
  refine GoR.op ((op_assign rfl) _) rfl rfl ?_
  refine GoR.nil ?_
  have hobt := t2freezeA 0 hO rfl
  obtain ⟨hO1, hc86, hi84, hn85⟩ := hobt
  replace h_right := h_right.ch hc86
  replace h_left := h_left.ch hc86
  replace hB := hB.trans (Owns.dropFr _ _ 0)
  replace hO := hO1; clear hO1
  refine Go1.ret1 Try.func48 rfl ?_
  exact ⟨ideals1_13, p14, c15, (congrArg (fun nn => Value.slice p14 nn c15) hn85), hB.same, (hi84.ch (Ch.weak _ _ _)), H⟩
theorem body92 : Body Try.prog 92 := ⟨Try.f92, Try.func92, rfl, by kernel_rfl⟩
theorem walk_partition_canonical_int {A : List Nat} {w0 : World} {p_l : Option Addr} {c_l : Nat} {l : List Int} (hA : ∀ b ∈ A, b < w0.heap.size) (h_l : ISl (Rp.int .i64) A w0 p_l c_l l) {K : List Int → Prop} (H : partition_canonical_int l K) :
    CallsV Try.prog 92 #[.slice p_l l.length c_l] w0 (fun v w' => ∃ (r0 : List Int), ∃ (p_r0 : Option Addr), ∃ (c_r0 : Nat), v = .slice p_r0 r0.length c_r0 ∧ Same w0 w' ∧ ISl (Rp.int .i64) A w' p_r0 c_r0 r0 ∧ K r0) := by
 refine CallsV.of (l := [.slice p_l l.length c_l]) Try.func92 rfl Try.ntmps92 rfl ?_
 have hO := Owns.start hA
 have hB := Fr.refl (bl []) w0
 unfold partition_canonical_int at H
 replace h_l := h_l.ch (Ch.start A w0)
 refine Go1.seq ?_
 refine Go1.region ?_
 refine GoR.op ((op_assign rfl) _) rfl rfl ?_
 refine GoR.nil ?_
 refine Go1.seq ?_
 refine Go1.region ?_
 refine GoR.op ((op_move rfl) _) rfl rfl ?_
 refine GoR.op ((op_len Try.underlying25 rfl) _) rfl rfl ?_
 replace H := H h_l.bd
 obtain ⟨h8, H⟩ := H
 obtain ⟨h9, H⟩ := H
 have hobt := omake (n := (l.length : Int)) (r := Rp.int .i64) (d := (0 : Int)) Try.underlying25 ti3 (fun _ _ => rfl) rfl hO h8 h9 (by decide)
 obtain ⟨w1, p2, vs3, hst4, hE5, hs6, hop7⟩ := hobt
 refine GoR.op (hop7 rfl rfl) rfl rfl ?_
 replace hO := hst4.own
 replace h_l := h_l.ch hst4.ch
 replace hB := hB.trans hst4.fr
 refine GoR.op ((op_assign rfl) _) rfl rfl ?_
 refine GoR.nil ?_
 refine Go1.seq ?_
 refine Go1.region ?_
 have hobt := omakeMap (fun a : Int => Value.int .i64 a) (fun a : Int => Value.int .i64 a) hO
 obtain ⟨w11, B12, hst13, hs14, hop15⟩ := hobt
 refine GoR.op hop15 rfl rfl ?_
 replace hE5 := hE5.ch hst13.ch
 replace hO := hst13.own
 replace h_l := h_l.ch hst13.ch
 replace hB := hB.trans hst13.fr
 refine GoR.op ((op_assign rfl) _) rfl rfl ?_
 refine GoR.nil ?_
 refine Go1.seq ?_
 refine Go1.seq ?_
 refine Go1.region ?_
 refine GoR.op ((op_move rfl) _) rfl rfl ?_
 refine GoR.op ((op_len Try.underlying25 rfl) _) rfl rfl ?_
 refine GoR.op ((op_move rfl) _) rfl rfl ?_
 refine GoR.nil ?_
 refine Go1.block ?_
 refine Go1.loopW (S := Nat × (List (Int × Int)) × List Int) (fun s σ w => ∃ (vs21 : List Value), agrees σ [(3, .slice p2 l.length l.length), (4, .map (some B12)), (13, .slice p_l l.length c_l), (14, .int .i64 (l.length : Int)), (15, .int .i64 ((s.1) : Int))] ∧ Owns w0.heap.size w [.any (mapE (fun a : Int => Value.int .i64 a) (fun a : Int => Value.int .i64 a) B12 (s.2.1)), .row 3 1 p2 l.length l.length vs21] A ∧ Els (Rp.int .i64) (bl [.any (mapE (fun a : Int => Value.int .i64 a) (fun a : Int => Value.int .i64 a) B12 (s.2.1)), .row 3 1 p2 l.length l.length vs21] ++ A) w vs21 (s.2.2) ∧ ISl (Rp.int .i64) (bl [.any (mapE (fun a : Int => Value.int .i64 a) (fun a : Int => Value.int .i64 a) B12 (s.2.1)), .row 3 1 p2 l.length l.length vs21] ++ A) w p_l c_l l ∧ Fr (bl []) w0 (bl [.any (mapE (fun a : Int => Value.int .i64 a) (fun a : Int => Value.int .i64 a) B12 (s.2.1)), .row 3 1 p2 l.length l.length vs21]) w) H ⟨vs3, ⟨rfl, rfl, rfl, rfl, rfl, trivial⟩, hO, hE5, h_l, hB⟩ ?_
 rintro X1 ⟨k1_18, m1_19, p1_20⟩ H hX1 σ w17 ⟨vs21, hag, hO, hE22, h_l, hB⟩
 dsimp only at H
 refine Go1.keep [(3, .slice p2 l.length l.length), (4, .map (some B12)), (13, .slice p_l l.length c_l), (14, .int .i64 (l.length : Int)), (15, .int .i64 (k1_18 : Int))] hag ?_
 refine Go1.seq ?_
 refine Go1.region ?_
 by_cases h23 : (k1_18 : Int) < (l.length : Int)
 ·replace H := ifp h23 H
  refine GoR.op ((fun w => opB (op_lss rfl rfl w) (decide_eq_true h23)) _) rfl rfl ?_
  refine GoR.nil ?_
  refine Go1.seq ?_
  refine Go1.condT rfl rfl ?_
  refine Go1.skip ?_
  refine Go1.seq ?_
  refine Go1.block ?_
  refine Go1.seq ?_
  refine Go1.region ?_
  refine GoR.op ((op_move rfl) _) rfl rfl ?_
  obtain ⟨h24, H⟩ := H
  obtain ⟨h25, H⟩ := H
  refine GoR.op ((op_index Try.underlying25 ti3 rfl rfl h24 h25 (h_l.some_ h24 h25)) _) rfl rfl ?_
  refine GoR.op ((ldInt h_l h24 h25 Try.underlying3 rfl rfl) _ (Same.refl _)) rfl rfl ?_
  refine GoR.op ((op_assign rfl) _) rfl rfl ?_
  refine GoR.op ((op_assign rfl) _) rfl rfl ?_
  refine GoR.nil ?_
  refine Go1.seq ?_
  refine Go1.region ?_
  refine GoR.op ((op_move rfl) _) rfl rfl ?_
  refine GoR.op ((op_move rfl) _) rfl rfl ?_
  by_cases h26 : mhas m1_19 ((ix l (k1_18 : Int))) = true
  ·replace H := ifp h26 H
   refine GoR.op ((olookT (a := (ix l (k1_18 : Int))) (MK.int Try.underlying3) 0 hO rfl Try.underlying86 rfl rfl h26) _ (Same.refl _)) rfl rfl ?_
   refine GoR.op ((op_move rfl) _) rfl rfl ?_
   refine GoR.op ((op_extract rfl rfl) _) rfl rfl ?_
   refine GoR.op ((op_extract rfl rfl) _) rfl rfl ?_
   refine GoR.op ((op_assign rfl) _) rfl rfl ?_
   refine GoR.op ((op_assign rfl) _) rfl rfl ?_
   refine GoR.nil ?_
   refine Go1.seq ?_
   refine Go1.seq ?_
   refine Go1.region ?_
   refine GoR.op ((op_move rfl) _) rfl rfl ?_
   refine GoR.op ((op_not rfl) _) rfl rfl ?_
   refine GoR.nil ?_
   refine Go1.condF rfl rfl ?_
   refine Go1.skip ?_
   refine Go1.region ?_
   refine GoR.op ((op_move rfl) _) rfl rfl ?_
   refine GoR.op ((op_move rfl) _) rfl rfl ?_
   refine GoR.op ((op_move rfl) _) rfl rfl ?_
   obtain ⟨h27, H⟩ := H
   obtain ⟨h28, H⟩ := H
   refine GoR.op ((op_index Try.underlying25 ti3 rfl rfl h27 (ltn (hE22.neq hO 1 rfl) h28) (hE22.psome hO 1 rfl h27 h28)) _) rfl rfl ?_
   have hobt := ost (r := Rp.int .i64) rfl 1 hO rfl hE22 h27 h28 (v := .int .i64 (mgt m1_19 ((ix l (k1_18 : Int))))) (u := (mgt m1_19 ((ix l (k1_18 : Int))))) rfl rfl
   obtain ⟨w29, vs30, hst31, hE32, hop33⟩ := hobt
   refine GoR.op (hop33 Try.underlying3 rfl ti3 rfl rfl) rfl rfl ?_
   replace hO := hst31.own
   replace h_l := h_l.ch hst31.ch
   replace hB := hB.trans hst31.fr
   refine GoR.nil ?_
   refine Go1.inBlock ?_
   refine Go1.region ?_
   refine GoR.op ((op_add rfl rfl (wrap_i64 (natbd h23 h_l.bd))) _) rfl rfl ?_
   refine GoR.op ((op_move rfl) _) rfl rfl ?_
   refine GoR.nil ?_
   exact hX1 _ H _ _ ⟨vs30, ⟨rfl, rfl, rfl, rfl, rfl, trivial⟩, hO, hE32, h_l, hB⟩
  ·replace H := ifn h26 H
   refine GoR.op ((olookF (a := (ix l (k1_18 : Int))) (MK.int Try.underlying3) 0 hO rfl Try.underlying86 ti3 rfl rfl h26) _ (Same.refl _)) rfl rfl ?_
   refine GoR.op ((op_move rfl) _) rfl rfl ?_
   refine GoR.op ((op_extract rfl rfl) _) rfl rfl ?_
   refine GoR.op ((op_extract rfl rfl) _) rfl rfl ?_
   refine GoR.op ((op_assign rfl) _) rfl rfl ?_
   refine GoR.op ((op_assign rfl) _) rfl rfl ?_
   refine GoR.nil ?_
   refine Go1.seq ?_
   refine Go1.seq ?_
   refine Go1.region ?_
   refine GoR.op ((op_move rfl) _) rfl rfl ?_
   refine GoR.op ((op_not rfl) _) rfl rfl ?_
   refine GoR.nil ?_
   refine Go1.condT rfl rfl ?_
   refine Go1.seq ?_
   refine Go1.region ?_
   refine GoR.op ((op_move rfl) _) rfl rfl ?_
   refine GoR.op ((omapLen 0 hO rfl Try.underlying86 rfl) _ (Same.refl _)) rfl rfl ?_
   refine GoR.op ((op_assign rfl) _) rfl rfl ?_
   refine GoR.nil ?_
   refine Go1.region ?_
   refine GoR.op ((op_move rfl) _) rfl rfl ?_
   refine GoR.op ((op_move rfl) _) rfl rfl ?_
   refine GoR.op ((op_move rfl) _) rfl rfl ?_
   have hobt := omapUpd (MK.int Try.underlying3) 0 hO rfl Try.underlying86 (ix l (k1_18 : Int)) (m1_19.length : Int)
   obtain ⟨w34, hst35, hop36⟩ := hobt
   refine GoR.op (hop36 rfl rfl rfl) rfl rfl ?_
   replace hE22 := hE22.ch hst35.ch
   replace hO := hst35.own
   replace h_l := h_l.ch hst35.ch
   replace hB := hB.trans hst35.fr
   refine GoR.nil ?_
   refine Go1.region ?_
   refine GoR.op ((op_move rfl) _) rfl rfl ?_
   refine GoR.op ((op_move rfl) _) rfl rfl ?_
   refine GoR.op ((op_move rfl) _) rfl rfl ?_
   obtain ⟨h37, H⟩ := H
   obtain ⟨h38, H⟩ := H
   refine GoR.op ((op_index Try.underlying25 ti3 rfl rfl h37 (ltn (hE22.neq hO 1 rfl) h38) (hE22.psome hO 1 rfl h37 h38)) _) rfl rfl ?_
   have hobt := ost (r := Rp.int .i64) rfl 1 hO rfl hE22 h37 h38 (v := .int .i64 (m1_19.length : Int)) (u := (m1_19.length : Int)) rfl rfl
   obtain ⟨w39, vs40, hst41, hE42, hop43⟩ := hobt
   refine GoR.op (hop43 Try.underlying3 rfl ti3 rfl rfl) rfl rfl ?_
   replace hO := hst41.own
   replace h_l := h_l.ch hst41.ch
   replace hB := hB.trans hst41.fr
   refine GoR.nil ?_
   refine Go1.inBlock ?_
   refine Go1.region ?_
   refine GoR.op ((op_add rfl rfl (wrap_i64 (natbd h23 h_l.bd))) _) rfl rfl ?_
   refine GoR.op ((op_move rfl) _) rfl rfl ?_
   refine GoR.nil ?_
   exact hX1 _ H _ _ ⟨vs40, ⟨rfl, rfl, rfl, rfl, rfl, trivial⟩, hO, hE42, h_l, hB⟩
 ·replace H := ifn h23 H
  refine GoR.op ((fun w => opB (op_lss rfl rfl w) (decide_eq_false h23)) _) rfl rfl ?_
  refine GoR.nil ?_
  refine Go1.seq ?_
  refine Go1.condF rfl rfl ?_
  refine Go1.exit rfl ?_
  refine Go1.seq ?_
  refine Go1.region ?_
  refine GoR.op ((op_move rfl) _) rfl rfl ?_
  refine GoR.op ((op_assign rfl) _) rfl rfl ?_
  refine GoR.nil ?_
  have hobt := freeze 1 hO rfl hE22
  obtain ⟨hO1, hc46, hi44, hn45⟩ := hobt
  replace h_l := h_l.ch hc46
  replace hB := hB.trans (Owns.dropFr _ _ 1)
  replace hO := hO1; clear hO1
  refine Go1.ret1 Try.func92 rfl ?_
  exact ⟨p1_20, p2, l.length, (congrArg (fun nn => Value.slice p2 nn l.length) hn45), hB.same, (hi44.ch (Ch.weak _ _ _)), H⟩
theorem body77 : Body Try.prog 77 := ⟨Try.f77, Try.func77, rfl, by kernel_rfl⟩
theorem walk_partition_Canonical {A : List Nat} {w0 : World} {p_l : Option Addr} {c_l : Nat} {l : List Int} (hA : ∀ b ∈ A, b < w0.heap.size) (h_l : ISl (Rp.int .i64) A w0 p_l c_l l) {K : List Int → Prop} (H : partition_Canonical l K) :
    CallsV Try.prog 77 #[.slice p_l l.length c_l] w0 (fun v w' => ∃ (r0 : List Int), ∃ (p_r0 : Option Addr), ∃ (c_r0 : Nat), v = .slice p_r0 r0.length c_r0 ∧ Same w0 w' ∧ ISl (Rp.int .i64) A w' p_r0 c_r0 r0 ∧ K r0) := by
 refine CallsV.of (l := [.slice p_l l.length c_l]) Try.func77 rfl Try.ntmps77 rfl ?_
 have hO := Owns.start hA
 have hB := Fr.refl (bl []) w0
 unfold partition_Canonical at H
 replace h_l := h_l.ch (Ch.start A w0)
 refine Go1.seq ?_
 refine Go1.region ?_
 refine GoR.op ((op_assign rfl) _) rfl rfl ?_
 refine GoR.nil ?_
 refine Go1.seq ?_
 refine Go1.seq ?_
 refine Go1.region ?_
 refine GoR.op ((op_move rfl) _) rfl rfl ?_
 refine GoR.op ((op_len Try.underlying25 rfl) _) rfl rfl ?_
 replace H := H h_l.bd
 by_cases h1 : (4096 : Int) < (l.length : Int)
 ·replace H := ifp h1 H
  refine GoR.op ((fun w => opB (op_gtr rfl rfl w) (decide_eq_true h1)) _) rfl rfl ?_
  refine GoR.nil ?_
  refine Go1.condT rfl rfl ?_
  refine Go1.seq ?_
  refine Go1.region ?_
  refine GoR.op ((op_assign rfl) _) rfl rfl ?_
  refine GoR.nil ?_
  refine Go1.ret1 Try.func77 rfl ?_
  exact ⟨([] : List Int), none, 0, rfl, hB.same, (ISl.null _ _ _), H⟩
 ·replace H := ifn h1 H
  refine GoR.op ((fun w => opB (op_gtr rfl rfl w) (decide_eq_false h1)) _) rfl rfl ?_
  refine GoR.nil ?_
  refine Go1.condF rfl rfl ?_
  refine Go1.skip ?_
  refine Go1.seq ?_
  refine Go1.region ?_
  refine GoR.op ((op_move rfl) _) rfl rfl ?_
  refine GoR.call (op_call body92 rfl (walk_partition_canonical_int hO.lt h_l H)) rfl rfl ?_
  rintro v6 w3 ⟨r2, p_r2, c_r2, rfl, hs4, h_r2, H⟩
  have hst7 := Stp.same hO hs4
  replace hO := hst7.own
  replace h_l := h_l.ch hst7.ch
  replace hB := hB.trans hst7.fr
  refine GoR.op ((op_assign rfl) _) rfl rfl ?_
  refine GoR.nil ?_
  refine Go1.ret1 Try.func77 rfl ?_
  exact ⟨r2, p_r2, c_r2, rfl, hB.same, (h_r2.ch (Ch.weak _ _ _)), H⟩
theorem body49 : Body Try.prog 49 := ⟨Try.f49, Try.func49, rfl, by kernel_rfl⟩
theorem walk_green_mutual {A : List Nat} {w0 : World} {p_ideals : Option Addr} {c_ideals : Nat} {ideals : List (List Int)} (hA : ∀ b ∈ A, b < w0.heap.size) (h_ideals : ISl (Rp.sl (Rp.int .u64)) A w0 p_ideals c_ideals ideals) {K : List Int → Prop} (H : green_mutual ideals K) :
    CallsV Try.prog 49 #[.slice p_ideals ideals.length c_ideals] w0 (fun v w' => ∃ (r0 : List Int), ∃ (p_r0 : Option Addr), ∃ (c_r0 : Nat), v = .slice p_r0 r0.length c_r0 ∧ Same w0 w' ∧ ISl (Rp.int .i64) A w' p_r0 c_r0 r0 ∧ K r0) := by
 refine CallsV.of (l := [.slice p_ideals ideals.length c_ideals]) Try.func49 rfl Try.ntmps49 rfl ?_
 have hO := Owns.start hA
 have hB := Fr.refl (bl []) w0
 unfold green_mutual at H
 replace h_ideals := h_ideals.ch (Ch.start A w0)
 refine Go1.seq ?_
 refine Go1.region ?_
 refine GoR.op ((op_assign rfl) _) rfl rfl ?_
 refine GoR.nil ?_
 refine Go1.seq ?_
 refine Go1.region ?_
 refine GoR.op ((op_move rfl) _) rfl rfl ?_
 refine GoR.op ((op_len Try.underlying56 rfl) _) rfl rfl ?_
 replace H := H h_ideals.bd
 obtain ⟨h8, H⟩ := H
 obtain ⟨h9, H⟩ := H
 have hobt := omake (n := (ideals.length : Int)) (r := Rp.int .i64) (d := (0 : Int)) Try.underlying25 ti3 (fun _ _ => rfl) rfl hO h8 h9 (by decide)
 obtain ⟨w1, p2, vs3, hst4, hE5, hs6, hop7⟩ := hobt
 refine GoR.op (hop7 rfl rfl) rfl rfl ?_
 replace hO := hst4.own
 replace h_ideals := h_ideals.ch hst4.ch
 replace hB := hB.trans hst4.fr
 refine GoR.op ((op_assign rfl) _) rfl rfl ?_
 refine GoR.nil ?_
 refine Go1.seq ?_
 refine Go1.seq ?_
 refine Go1.region ?_
 refine GoR.op ((op_move rfl) _) rfl rfl ?_
 refine GoR.op ((op_len Try.underlying56 rfl) _) rfl rfl ?_
 refine GoR.op ((op_move rfl) _) rfl rfl ?_
 refine GoR.nil ?_
 refine Go1.block ?_
 refine Go1.loopW (S := Nat × List Int) (fun s σ w => ∃ (vs14 : List Value), agrees σ [(0, .slice p_ideals ideals.length c_ideals), (3, .slice p2 ideals.length ideals.length), (10, .int .i64 (ideals.length : Int)), (11, .int .i64 ((s.1) : Int))] ∧ Owns w0.heap.size w [.row 3 1 p2 ideals.length ideals.length vs14] A ∧ Els (Rp.int .i64) (bl [.row 3 1 p2 ideals.length ideals.length vs14] ++ A) w vs14 (s.2) ∧ ISl (Rp.sl (Rp.int .u64)) (bl [.row 3 1 p2 ideals.length ideals.length vs14] ++ A) w p_ideals c_ideals ideals ∧ Fr (bl []) w0 (bl [.row 3 1 p2 ideals.length ideals.length vs14]) w) H ⟨vs3, ⟨rfl, rfl, rfl, rfl, trivial⟩, hO, hE5, h_ideals, hB⟩ ?_
 rintro X1 ⟨k1_12, class1_13⟩ H hX1 σ w11 ⟨vs14, hag, hO, hE15, h_ideals, hB⟩
 dsimp only at H
 refine Go1.keep [(0, .slice p_ideals ideals.length c_ideals), (3, .slice p2 ideals.length ideals.length), (10, .int .i64 (ideals.length : Int)), (11, .int .i64 (k1_12 : Int))] hag ?_
 refine Go1.seq ?_
 refine Go1.region ?_
 by_cases h16 : (k1_12 : Int) < (ideals.length : Int)
 ·replace H := ifp h16 H
  refine GoR.op ((fun w => opB (op_lss rfl rfl w) (decide_eq_true h16)) _) rfl rfl ?_
  refine GoR.nil ?_
  refine Go1.seq ?_
  refine Go1.condT rfl rfl ?_
  refine Go1.skip ?_
  refine Go1.seq ?_
  refine Go1.block ?_
  refine Go1.seq ?_
  refine Go1.region ?_
  refine GoR.op ((op_move rfl) _) rfl rfl ?_
  refine GoR.op ((op_assign rfl) _) rfl rfl ?_
  refine GoR.nil ?_
  refine Go1.seq ?_
  refine Go1.region ?_
  refine GoR.op ((op_move rfl) _) rfl rfl ?_
  refine GoR.op ((op_move rfl) _) rfl rfl ?_
  refine GoR.op ((op_move rfl) _) rfl rfl ?_
  obtain ⟨h17, H⟩ := H
  obtain ⟨h18, H⟩ := H
  refine GoR.op ((op_index Try.underlying25 ti3 rfl rfl h17 (ltn (hE15.neq hO 0 rfl) h18) (hE15.psome hO 0 rfl h17 h18)) _) rfl rfl ?_
  have hobt := ost (r := Rp.int .i64) rfl 0 hO rfl hE15 h17 h18 (v := .int .i64 (k1_12 : Int)) (u := (k1_12 : Int)) rfl rfl
  obtain ⟨w19, vs20, hst21, hE22, hop23⟩ := hobt
  refine GoR.op (hop23 Try.underlying3 rfl ti3 rfl rfl) rfl rfl ?_
  replace hO := hst21.own
  replace h_ideals := h_ideals.ch hst21.ch
  replace hB := hB.trans hst21.fr
  refine GoR.nil ?_
  refine Go1.seq ?_
  refine Go1.region ?_
  refine GoR.op ((op_move rfl) _) rfl rfl ?_
  refine GoR.op ((op_move rfl) _) rfl rfl ?_
  refine GoR.nil ?_
  refine Go1.block ?_
  refine Go1.loopW (S := Nat) (fun s σ w => agrees σ [(0, .slice p_ideals ideals.length c_ideals), (3, .slice p2 ideals.length ideals.length), (4, .int .i64 (k1_12 : Int)), (10, .int .i64 (ideals.length : Int)), (11, .int .i64 (k1_12 : Int)), (18, .int .i64 (k1_12 : Int)), (19, .int .i64 (s : Int))] ∧ Owns w0.heap.size w [.row 3 1 p2 ideals.length ideals.length vs20] A ∧ Els (Rp.int .i64) (bl [.row 3 1 p2 ideals.length ideals.length vs20] ++ A) w vs20 (st class1_13 (k1_12 : Int) (k1_12 : Int)) ∧ ISl (Rp.sl (Rp.int .u64)) (bl [.row 3 1 p2 ideals.length ideals.length vs20] ++ A) w p_ideals c_ideals ideals ∧ Fr (bl []) w0 (bl [.row 3 1 p2 ideals.length ideals.length vs20]) w) H ⟨⟨rfl, rfl, rfl, rfl, rfl, rfl, rfl, trivial⟩, hO, hE22, h_ideals, hB⟩ ?_
  rintro X2 k2_25 H hX2 σ w24 ⟨hag, hO, hE22, h_ideals, hB⟩
  refine Go1.keep [(0, .slice p_ideals ideals.length c_ideals), (3, .slice p2 ideals.length ideals.length), (4, .int .i64 (k1_12 : Int)), (10, .int .i64 (ideals.length : Int)), (11, .int .i64 (k1_12 : Int)), (18, .int .i64 (k1_12 : Int)), (19, .int .i64 (k2_25 : Int))] hag ?_
  refine Go1.seq ?_
  refine Go1.region ?_
  by_cases h26 : (k2_25 : Int) < (k1_12 : Int)
  ·replace H := ifp h26 H
   refine GoR.op ((fun w => opB (op_lss rfl rfl w) (decide_eq_true h26)) _) rfl rfl ?_
   refine GoR.nil ?_
   refine Go1.seq ?_
   refine Go1.condT rfl rfl ?_
   refine Go1.skip ?_
   refine Go1.seq ?_
   refine Go1.block ?_
   refine Go1.seq ?_
   refine Go1.region ?_
   refine GoR.op ((op_move rfl) _) rfl rfl ?_
   refine GoR.op ((op_assign rfl) _) rfl rfl ?_
   refine GoR.nil ?_
   refine Go1.seq ?_
   refine Go1.region ?_
   refine GoR.op ((op_move rfl) _) rfl rfl ?_
   refine GoR.op ((op_move rfl) _) rfl rfl ?_
   obtain ⟨h27, H⟩ := H
   obtain ⟨h28, H⟩ := H
   refine GoR.op ((op_index Try.underlying56 ti62 rfl rfl h27 h28 (h_ideals.some_ h27 h28)) _) rfl rfl ?_
   have hobt := ldSl h_ideals h27 h28
   obtain ⟨p29, c30, hi31, hl32⟩ := hobt
   refine GoR.op ((hl32 Try.underlying62 rfl rfl) _ (Same.refl _)) rfl rfl ?_
   refine GoR.op ((op_move rfl) _) rfl rfl ?_
   refine GoR.call (op_call body52 rfl (walk_green_ideal_has hO.lt hi31 H)) rfl rfl ?_
   rintro v37 w34 ⟨r33, rfl, hs35, H⟩
   have hst38 := Stp.same hO hs35
   replace hE22 := hE22.ch hst38.ch
   replace hO := hst38.own
   replace h_ideals := h_ideals.ch hst38.ch
   replace hi31 := hi31.ch hst38.ch
   replace hB := hB.trans hst38.fr
   refine GoR.op ((op_move rfl) _) rfl rfl ?_
   cases r33
   ·replace H := ifn Bool.false_ne_true H
    refine GoR.pass rfl rfl ?_
    refine GoR.pass rfl rfl ?_
    refine GoR.pass rfl rfl ?_
    refine GoR.pass rfl rfl ?_
    refine GoR.pass rfl rfl ?_
    refine GoR.pass rfl rfl ?_
    refine GoR.op ((op_pickF rfl rfl rfl) _) rfl rfl ?_
    refine GoR.nil ?_
    refine Go1.condF rfl rfl ?_
    refine Go1.skip ?_
    refine Go1.inBlock ?_
    refine Go1.region ?_
    obtain ⟨h39, H⟩ := H
    refine GoR.op ((op_add rfl rfl (wrap_i64 h39)) _) rfl rfl ?_
    refine GoR.op ((op_move rfl) _) rfl rfl ?_
    refine GoR.nil ?_
    exact hX2 _ H _ _ ⟨⟨rfl, rfl, rfl, rfl, rfl, rfl, rfl, trivial⟩, hO, hE22, h_ideals, hB⟩
   ·replace H := ifp rfl H
    refine GoR.op ((op_move rfl) _) rfl rfl ?_
    refine GoR.op ((op_move rfl) _) rfl rfl ?_
    obtain ⟨h40, H⟩ := H
    obtain ⟨h41, H⟩ := H
    refine GoR.op ((op_index Try.underlying56 ti62 rfl rfl h40 h41 (h_ideals.some_ h40 h41)) _) rfl rfl ?_
    have hobt := ldSl h_ideals h40 h41
    obtain ⟨p42, c43, hi44, hl45⟩ := hobt
    refine GoR.op ((hl45 Try.underlying62 rfl rfl) _ (Same.refl _)) rfl rfl ?_
    refine GoR.op ((op_move rfl) _) rfl rfl ?_
    refine GoR.call (op_call body52 rfl (walk_green_ideal_has hO.lt hi44 H)) rfl rfl ?_
    rintro v50 w47 ⟨r46, rfl, hs48, H⟩
    have hst51 := Stp.same hO hs48
    replace hE22 := hE22.ch hst51.ch
    replace hO := hst51.own
    replace h_ideals := h_ideals.ch hst51.ch
    replace hi31 := hi31.ch hst51.ch
    replace hi44 := hi44.ch hst51.ch
    replace hB := hB.trans hst51.fr
    refine GoR.op ((op_pickT rfl rfl rfl) _) rfl rfl ?_
    refine GoR.nil ?_
    cases r46
    ·replace H := ifn Bool.false_ne_true H
     refine Go1.condF rfl rfl ?_
     refine Go1.skip ?_
     refine Go1.inBlock ?_
     refine Go1.region ?_
     obtain ⟨h52, H⟩ := H
     refine GoR.op ((op_add rfl rfl (wrap_i64 h52)) _) rfl rfl ?_
     refine GoR.op ((op_move rfl) _) rfl rfl ?_
     refine GoR.nil ?_
     exact hX2 _ H _ _ ⟨⟨rfl, rfl, rfl, rfl, rfl, rfl, rfl, trivial⟩, hO, hE22, h_ideals, hB⟩
    ·replace H := ifp rfl H
     refine Go1.condT rfl rfl ?_
     refine Go1.seq ?_
     refine Go1.region ?_
     refine GoR.op ((op_move rfl) _) rfl rfl ?_
     refine GoR.op ((op_move rfl) _) rfl rfl ?_
     refine GoR.op ((op_move rfl) _) rfl rfl ?_
     obtain ⟨h53, H⟩ := H
     obtain ⟨h54, H⟩ := H
     refine GoR.op ((op_index Try.underlying25 ti3 rfl rfl h53 (ltn (hE22.neq hO 0 rfl) h54) (hE22.psome hO 0 rfl h53 h54)) _) rfl rfl ?_
     have hobt := ost (r := Rp.int .i64) rfl 0 hO rfl hE22 h53 h54 (v := .int .i64 (k2_25 : Int)) (u := (k2_25 : Int)) rfl rfl
     obtain ⟨w55, vs56, hst57, hE58, hop59⟩ := hobt
     refine GoR.op (hop59 Try.underlying3 rfl ti3 rfl rfl) rfl rfl ?_
     replace hO := hst57.own
     replace h_ideals := h_ideals.ch hst57.ch
     replace hi31 := hi31.ch hst57.ch
     replace hi44 := hi44.ch hst57.ch
     replace hB := hB.trans hst57.fr
     refine GoR.nil ?_
     refine Go1.exit rfl ?_
     refine Go1.inBlock ?_
     refine Go1.region ?_
     refine GoR.op ((op_add rfl rfl (wrap_i64 (natbd h16 h_ideals.bd))) _) rfl rfl ?_
     refine GoR.op ((op_move rfl) _) rfl rfl ?_
     refine GoR.nil ?_
     exact hX1 _ H _ _ ⟨vs56, ⟨rfl, rfl, rfl, rfl, trivial⟩, hO, hE58, h_ideals, hB⟩
  ·replace H := ifn h26 H
   refine GoR.op ((fun w => opB (op_lss rfl rfl w) (decide_eq_false h26)) _) rfl rfl ?_
   refine GoR.nil ?_
   refine Go1.seq ?_
   refine Go1.condF rfl rfl ?_
   refine Go1.exit rfl ?_
   refine Go1.inBlock ?_
   refine Go1.region ?_
   refine GoR.op ((op_add rfl rfl (wrap_i64 (natbd h16 h_ideals.bd))) _) rfl rfl ?_
   refine GoR.op ((op_move rfl) _) rfl rfl ?_
   refine GoR.nil ?_
   exact hX1 _ H _ _ ⟨vs20, ⟨rfl, rfl, rfl, rfl, trivial⟩, hO, hE22, h_ideals, hB⟩
 ·replace H := ifn h16 H
  refine GoR.op ((fun w => opB (op_lss rfl rfl w) (decide_eq_false h16)) _) rfl rfl ?_
  refine GoR.nil ?_
  refine Go1.seq ?_
  refine Go1.condF rfl rfl ?_
  refine Go1.exit rfl ?_
  refine Go1.seq ?_
  refine Go1.region ?_
  refine GoR.op ((op_move rfl) _) rfl rfl ?_
  have hobt := freeze 0 hO rfl hE15
  obtain ⟨hO1, hc62, hi60, hn61⟩ := hobt
  replace h_ideals := h_ideals.ch hc62
  replace hB := hB.trans (Owns.dropFr _ _ 0)
  replace hO := hO1; clear hO1
  refine GoR.call (op_call body77 (show ([.slice p2 ideals.length ideals.length] : List Value) = [.slice p2 class1_13.length ideals.length] from by rw [← hn61]) (walk_partition_Canonical hO.lt hi60 H)) rfl rfl ?_
  rintro v67 w64 ⟨r63, p_r63, c_r63, rfl, hs65, h_r63, H⟩
  have hst68 := Stp.same hO hs65
  replace hO := hst68.own
  replace h_ideals := h_ideals.ch hst68.ch
  replace hi60 := hi60.ch hst68.ch
  replace hB := hB.trans hst68.fr
  refine GoR.op ((op_assign rfl) _) rfl rfl ?_
  refine GoR.nil ?_
  refine Go1.ret1 Try.func49 rfl ?_
  exact ⟨r63, p_r63, c_r63, rfl, hB.same, (h_r63.ch (Ch.weak _ _ _)), H⟩
theorem body80 : Body Try.prog 80 := ⟨Try.f80, Try.func80, rfl, by kernel_rfl⟩
theorem walk_partition_Valid {A : List Nat} {w0 : World} {p_p : Option Addr} {c_p : Nat} {p : List Int} (hA : ∀ b ∈ A, b < w0.heap.size) (h_p : ISl (Rp.int .i64) A w0 p_p c_p p) {K : Bool → Prop} (H : partition_Valid p K) :
    CallsV Try.prog 80 #[.slice p_p p.length c_p] w0 (fun v w' => ∃ (r0 : Bool), v = .bool r0 ∧ Same w0 w' ∧ K r0) := by
 refine CallsV.of (l := [.slice p_p p.length c_p]) Try.func80 rfl Try.ntmps80 rfl ?_
 have hO := Owns.start hA
 have hB := Fr.refl (bl []) w0
 unfold partition_Valid at H
 replace h_p := h_p.ch (Ch.start A w0)
 refine Go1.seq ?_
 refine Go1.region ?_
 refine GoR.op ((op_assign rfl) _) rfl rfl ?_
 refine GoR.nil ?_
 refine Go1.seq ?_
 refine Go1.seq ?_
 refine Go1.region ?_
 refine GoR.op ((op_move rfl) _) rfl rfl ?_
 refine GoR.op ((op_len Try.underlying25 rfl) _) rfl rfl ?_
 replace H := H h_p.bd
 by_cases h1 : (4096 : Int) < (p.length : Int)
 ·replace H := ifp h1 H
  refine GoR.op ((fun w => opB (op_gtr rfl rfl w) (decide_eq_true h1)) _) rfl rfl ?_
  refine GoR.nil ?_
  refine Go1.condT rfl rfl ?_
  refine Go1.seq ?_
  refine Go1.region ?_
  refine GoR.op ((op_assign rfl) _) rfl rfl ?_
  refine GoR.nil ?_
  refine Go1.ret1 Try.func80 rfl ?_
  exact ⟨false, rfl, hB.same, H⟩
 ·replace H := ifn h1 H
  refine GoR.op ((fun w => opB (op_gtr rfl rfl w) (decide_eq_false h1)) _) rfl rfl ?_
  refine GoR.nil ?_
  refine Go1.condF rfl rfl ?_
  refine Go1.skip ?_
  refine Go1.seq ?_
  refine Go1.region ?_
  refine GoR.op ((op_assign rfl) _) rfl rfl ?_
  refine GoR.nil ?_
  refine Go1.seq ?_
  refine Go1.seq ?_
  refine Go1.region ?_
  refine GoR.op ((op_move rfl) _) rfl rfl ?_
  refine GoR.op ((op_len Try.underlying25 rfl) _) rfl rfl ?_
  refine GoR.op ((op_move rfl) _) rfl rfl ?_
  refine GoR.nil ?_
  refine Go1.block ?_
  refine Go1.loopW (S := Nat × Nat) (fun s σ w => agrees σ [(3, .int .i64 ((s.1) : Int)), (9, .slice p_p p.length c_p), (10, .int .i64 (p.length : Int)), (11, .int .i64 ((s.2) : Int))] ∧ Owns w0.heap.size w [] A ∧ ISl (Rp.int .i64) (bl [] ++ A) w p_p c_p p ∧ Fr (bl []) w0 (bl []) w) H ⟨⟨rfl, rfl, rfl, rfl, trivial⟩, hO, h_p, hB⟩ ?_
  rintro X1 ⟨count1_3, k1_4⟩ H hX1 σ w2 ⟨hag, hO, h_p, hB⟩
  dsimp only at H
  refine Go1.keep [(3, .int .i64 (count1_3 : Int)), (9, .slice p_p p.length c_p), (10, .int .i64 (p.length : Int)), (11, .int .i64 (k1_4 : Int))] hag ?_
  refine Go1.seq ?_
  refine Go1.region ?_
  by_cases h5 : (k1_4 : Int) < (p.length : Int)
  ·replace H := ifp h5 H
   refine GoR.op ((fun w => opB (op_lss rfl rfl w) (decide_eq_true h5)) _) rfl rfl ?_
   refine GoR.nil ?_
   refine Go1.seq ?_
   refine Go1.condT rfl rfl ?_
   refine Go1.skip ?_
   refine Go1.seq ?_
   refine Go1.block ?_
   refine Go1.seq ?_
   refine Go1.region ?_
   obtain ⟨h6, H⟩ := H
   obtain ⟨h7, H⟩ := H
   refine GoR.op ((op_index Try.underlying25 ti3 rfl rfl h6 h7 (h_p.some_ h6 h7)) _) rfl rfl ?_
   refine GoR.op ((ldInt h_p h6 h7 Try.underlying3 rfl rfl) _ (Same.refl _)) rfl rfl ?_
   refine GoR.op ((op_assign rfl) _) rfl rfl ?_
   refine GoR.nil ?_
   refine Go1.seq ?_
   refine Go1.seq ?_
   refine Go1.region ?_
   refine GoR.op ((op_move rfl) _) rfl rfl ?_
   by_cases h8 : (ix p (k1_4 : Int)) < (0 : Int)
   ·replace H := ifp h8 H
    refine GoR.op ((fun w => opB (op_lss rfl rfl w) (decide_eq_true h8)) _) rfl rfl ?_
    refine GoR.op ((op_move rfl) _) rfl rfl ?_
    refine GoR.pass rfl rfl ?_
    refine GoR.pass rfl rfl ?_
    refine GoR.pass rfl rfl ?_
    refine GoR.op ((op_pickT rfl rfl rfl) _) rfl rfl ?_
    refine GoR.nil ?_
    refine Go1.condT rfl rfl ?_
    refine Go1.seq ?_
    refine Go1.region ?_
    refine GoR.op ((op_assign rfl) _) rfl rfl ?_
    refine GoR.nil ?_
    refine Go1.ret1 Try.func80 rfl ?_
    exact ⟨false, rfl, hB.same, H⟩
   ·replace H := ifn h8 H
    refine GoR.op ((fun w => opB (op_lss rfl rfl w) (decide_eq_false h8)) _) rfl rfl ?_
    refine GoR.op ((op_move rfl) _) rfl rfl ?_
    refine GoR.op ((op_move rfl) _) rfl rfl ?_
    refine GoR.op ((op_move rfl) _) rfl rfl ?_
    by_cases h9 : (count1_3 : Int) < (ix p (k1_4 : Int))
    ·replace H := ifp h9 H
     refine GoR.op ((fun w => opB (op_gtr rfl rfl w) (decide_eq_true h9)) _) rfl rfl ?_
     refine GoR.op ((op_pickF rfl rfl rfl) _) rfl rfl ?_
     refine GoR.nil ?_
     refine Go1.condT rfl rfl ?_
     refine Go1.seq ?_
     refine Go1.region ?_
     refine GoR.op ((op_assign rfl) _) rfl rfl ?_
     refine GoR.nil ?_
     refine Go1.ret1 Try.func80 rfl ?_
     exact ⟨false, rfl, hB.same, H⟩
    ·replace H := ifn h9 H
     refine GoR.op ((fun w => opB (op_gtr rfl rfl w) (decide_eq_false h9)) _) rfl rfl ?_
     refine GoR.op ((op_pickF rfl rfl rfl) _) rfl rfl ?_
     refine GoR.nil ?_
     refine Go1.condF rfl rfl ?_
     refine Go1.skip ?_
     refine Go1.seq ?_
     refine Go1.region ?_
     refine GoR.op ((op_move rfl) _) rfl rfl ?_
     refine GoR.op ((op_move rfl) _) rfl rfl ?_
     by_cases h10 : (ix p (k1_4 : Int)) = (count1_3 : Int)
     ·replace H := ifp h10 H
      refine GoR.op ((fun w => opB (op_eql rfl rfl w) (decide_eq_true h10)) _) rfl rfl ?_
      refine GoR.nil ?_
      refine Go1.condT rfl rfl ?_
      refine Go1.region ?_
      refine GoR.op ((op_move rfl) _) rfl rfl ?_
      obtain ⟨h11, H⟩ := H
      refine GoR.op ((op_add rfl rfl (wrap_i64 h11)) _) rfl rfl ?_
      refine GoR.op ((op_assign rfl) _) rfl rfl ?_
      refine GoR.nil ?_
      refine Go1.inBlock ?_
      refine Go1.region ?_
      refine GoR.op ((op_add rfl rfl (wrap_i64 (natbd h5 h_p.bd))) _) rfl rfl ?_
      refine GoR.op ((op_move rfl) _) rfl rfl ?_
      refine GoR.nil ?_
      exact hX1 _ H _ _ ⟨⟨rfl, rfl, rfl, rfl, trivial⟩, hO, h_p, hB⟩
     ·replace H := ifn h10 H
      refine GoR.op ((fun w => opB (op_eql rfl rfl w) (decide_eq_false h10)) _) rfl rfl ?_
      refine GoR.nil ?_
      refine Go1.condF rfl rfl ?_
      refine Go1.skip ?_
      refine Go1.inBlock ?_
      refine Go1.region ?_
      refine GoR.op ((op_add rfl rfl (wrap_i64 (natbd h5 h_p.bd))) _) rfl rfl ?_
      refine GoR.op ((op_move rfl) _) rfl rfl ?_
      refine GoR.nil ?_
      exact hX1 _ H _ _ ⟨⟨rfl, rfl, rfl, rfl, trivial⟩, hO, h_p, hB⟩
  ·replace H := ifn h5 H
   refine GoR.op ((fun w => opB (op_lss rfl rfl w) (decide_eq_false h5)) _) rfl rfl ?_
   refine GoR.nil ?_
   refine Go1.seq ?_
   refine Go1.condF rfl rfl ?_
   refine Go1.exit rfl ?_
   refine Go1.seq ?_
   refine Go1.region ?_
   refine GoR.op ((op_assign rfl) _) rfl rfl ?_
   refine GoR.nil ?_
   refine Go1.ret1 Try.func80 rfl ?_
   exact ⟨true, rfl, hB.same, H⟩
theorem body78 : Body Try.prog 78 := ⟨Try.f78, Try.func78, rfl, by kernel_rfl⟩
theorem walk_partition_matching {A : List Nat} {w0 : World} {p_p : Option Addr} {c_p : Nat} {p_q : Option Addr} {c_q : Nat} {p : List Int} {q : List Int} (hA : ∀ b ∈ A, b < w0.heap.size) (h_p : ISl (Rp.int .i64) A w0 p_p c_p p) (h_q : ISl (Rp.int .i64) A w0 p_q c_q q) {K : Bool → Prop} (H : partition_matching p q K) :
    CallsV Try.prog 78 #[.slice p_p p.length c_p, .slice p_q q.length c_q] w0 (fun v w' => ∃ (r0 : Bool), v = .bool r0 ∧ Same w0 w' ∧ K r0) := by
 refine CallsV.of (l := [.slice p_p p.length c_p, .slice p_q q.length c_q]) Try.func78 rfl Try.ntmps78 rfl ?_
 have hO := Owns.start hA
 have hB := Fr.refl (bl []) w0
 unfold partition_matching at H
 replace h_p := h_p.ch (Ch.start A w0)
 replace h_q := h_q.ch (Ch.start A w0)
 refine Go1.seq ?_
 refine Go1.region ?_
 refine GoR.op ((op_assign rfl) _) rfl rfl ?_
 refine GoR.nil ?_
 refine Go1.seq ?_
 refine Go1.region ?_
 refine GoR.op ((op_move rfl) _) rfl rfl ?_
 refine GoR.op ((op_len Try.underlying25 rfl) _) rfl rfl ?_
 replace H := H h_p.bd
 refine GoR.op ((op_move rfl) _) rfl rfl ?_
 refine GoR.op ((op_len Try.underlying25 rfl) _) rfl rfl ?_
 replace H := H h_q.bd
 by_cases h1 : (p.length : Int) = (q.length : Int)
 ·replace H := ifp h1 H
  refine GoR.op ((fun w => opB (op_eql rfl rfl w) (decide_eq_true h1)) _) rfl rfl ?_
  refine GoR.op ((op_move rfl) _) rfl rfl ?_
  refine GoR.op ((op_move rfl) _) rfl rfl ?_
  refine GoR.call (op_call body80 rfl (walk_partition_Valid hO.lt h_p H)) rfl rfl ?_
  rintro v6 w3 ⟨r2, rfl, hs4, H⟩
  have hst7 := Stp.same hO hs4
  replace hO := hst7.own
  replace h_p := h_p.ch hst7.ch
  replace h_q := h_q.ch hst7.ch
  replace hB := hB.trans hst7.fr
  refine GoR.op ((op_pickT rfl rfl rfl) _) rfl rfl ?_
  refine GoR.op ((op_move rfl) _) rfl rfl ?_
  cases r2
  ·replace H := ifn Bool.false_ne_true H
   refine GoR.pass rfl rfl ?_
   refine GoR.pass rfl rfl ?_
   refine GoR.op ((op_pickF rfl rfl rfl) _) rfl rfl ?_
   refine GoR.op ((op_assign rfl) _) rfl rfl ?_
   refine GoR.nil ?_
   refine Go1.ret1 Try.func78 rfl ?_
   exact ⟨false, rfl, hB.same, H⟩
  ·replace H := ifp rfl H
   refine GoR.op ((op_move rfl) _) rfl rfl ?_
   refine GoR.call (op_call body80 rfl (walk_partition_Valid hO.lt h_q H)) rfl rfl ?_
   rintro v12 w9 ⟨r8, rfl, hs10, H⟩
   have hst13 := Stp.same hO hs10
   replace hO := hst13.own
   replace h_p := h_p.ch hst13.ch
   replace h_q := h_q.ch hst13.ch
   replace hB := hB.trans hst13.fr
   refine GoR.op ((op_pickT rfl rfl rfl) _) rfl rfl ?_
   refine GoR.op ((op_assign rfl) _) rfl rfl ?_
   refine GoR.nil ?_
   refine Go1.ret1 Try.func78 rfl ?_
   exact ⟨r8, rfl, hB.same, H⟩
 ·replace H := ifn h1 H
  refine GoR.op ((fun w => opB (op_eql rfl rfl w) (decide_eq_false h1)) _) rfl rfl ?_
  refine GoR.op ((op_move rfl) _) rfl rfl ?_
  refine GoR.pass rfl rfl ?_
  refine GoR.pass rfl rfl ?_
  refine GoR.op ((op_pickF rfl rfl rfl) _) rfl rfl ?_
  refine GoR.op ((op_move rfl) _) rfl rfl ?_
  refine GoR.pass rfl rfl ?_
  refine GoR.pass rfl rfl ?_
  refine GoR.op ((op_pickF rfl rfl rfl) _) rfl rfl ?_
  refine GoR.op ((op_assign rfl) _) rfl rfl ?_
  refine GoR.nil ?_
  refine Go1.ret1 Try.func78 rfl ?_
  exact ⟨false, rfl, hB.same, H⟩
theorem body79 : Body Try.prog 79 := ⟨Try.f79, Try.func79, rfl, by kernel_rfl⟩
theorem walk_partition_canonical_2_int {A : List Nat} {w0 : World} {p_l : Option Addr} {c_l : Nat} {l : List (Int × Int)} (hA : ∀ b ∈ A, b < w0.heap.size) (h_l : ISl (rpP2 .i64) A w0 p_l c_l l) {K : List Int → Prop} (H : partition_canonical_2_int l K) :
    CallsV Try.prog 79 #[.slice p_l l.length c_l] w0 (fun v w' => ∃ (r0 : List Int), ∃ (p_r0 : Option Addr), ∃ (c_r0 : Nat), v = .slice p_r0 r0.length c_r0 ∧ Same w0 w' ∧ ISl (Rp.int .i64) A w' p_r0 c_r0 r0 ∧ K r0) := by
 refine CallsV.of (l := [.slice p_l l.length c_l]) Try.func79 rfl Try.ntmps79 rfl ?_
 have hO := Owns.start hA
 have hB := Fr.refl (bl []) w0
 unfold partition_canonical_2_int at H
 replace h_l := h_l.ch (Ch.start A w0)
 refine Go1.seq ?_
 refine Go1.region ?_
 refine GoR.op ((op_assign rfl) _) rfl rfl ?_
 refine GoR.nil ?_
 refine Go1.seq ?_
 refine Go1.region ?_
 refine GoR.op ((op_move rfl) _) rfl rfl ?_
 refine GoR.op ((op_len Try.underlying80 rfl) _) rfl rfl ?_
 replace H := H h_l.bd
 obtain ⟨h8, H⟩ := H
 obtain ⟨h9, H⟩ := H
 have hobt := omake (n := (l.length : Int)) (r := Rp.int .i64) (d := (0 : Int)) Try.underlying25 ti3 (fun _ _ => rfl) rfl hO h8 h9 (by decide)
 obtain ⟨w1, p2, vs3, hst4, hE5, hs6, hop7⟩ := hobt
 refine GoR.op (hop7 rfl rfl) rfl rfl ?_
 replace hO := hst4.own
 replace h_l := h_l.ch hst4.ch
 replace hB := hB.trans hst4.fr
 refine GoR.op ((op_assign rfl) _) rfl rfl ?_
 refine GoR.nil ?_
 refine Go1.seq ?_
 refine Go1.region ?_
 have hobt := omakeMap (fun a : Int × Int => Value.agg #[.int .i64 a.1, .int .i64 a.2]) (fun a : Int => Value.int .i64 a) hO
 obtain ⟨w11, B12, hst13, hs14, hop15⟩ := hobt
 refine GoR.op hop15 rfl rfl ?_
 replace hE5 := hE5.ch hst13.ch
 replace hO := hst13.own
 replace h_l := h_l.ch hst13.ch
 replace hB := hB.trans hst13.fr
 refine GoR.op ((op_assign rfl) _) rfl rfl ?_
 refine GoR.nil ?_
 refine Go1.seq ?_
 refine Go1.seq ?_
 refine Go1.region ?_
 refine GoR.op ((op_move rfl) _) rfl rfl ?_
 refine GoR.op ((op_len Try.underlying80 rfl) _) rfl rfl ?_
 refine GoR.op ((op_move rfl) _) rfl rfl ?_
 refine GoR.nil ?_
 refine Go1.block ?_
 refine Go1.loopW (S := Nat × (List ((Int × Int) × Int)) × List Int) (fun s σ w => ∃ (vs21 : List Value), agrees σ [(3, .slice p2 l.length l.length), (4, .map (some B12)), (13, .slice p_l l.length c_l), (14, .int .i64 (l.length : Int)), (15, .int .i64 ((s.1) : Int))] ∧ Owns w0.heap.size w [.any (mapE (fun a : Int × Int => Value.agg #[.int .i64 a.1, .int .i64 a.2]) (fun a : Int => Value.int .i64 a) B12 (s.2.1)), .row 3 1 p2 l.length l.length vs21] A ∧ Els (Rp.int .i64) (bl [.any (mapE (fun a : Int × Int => Value.agg #[.int .i64 a.1, .int .i64 a.2]) (fun a : Int => Value.int .i64 a) B12 (s.2.1)), .row 3 1 p2 l.length l.length vs21] ++ A) w vs21 (s.2.2) ∧ ISl (rpP2 .i64) (bl [.any (mapE (fun a : Int × Int => Value.agg #[.int .i64 a.1, .int .i64 a.2]) (fun a : Int => Value.int .i64 a) B12 (s.2.1)), .row 3 1 p2 l.length l.length vs21] ++ A) w p_l c_l l ∧ Fr (bl []) w0 (bl [.any (mapE (fun a : Int × Int => Value.agg #[.int .i64 a.1, .int .i64 a.2]) (fun a : Int => Value.int .i64 a) B12 (s.2.1)), .row 3 1 p2 l.length l.length vs21]) w) H ⟨vs3, ⟨rfl, rfl, rfl, rfl, rfl, trivial⟩, hO, hE5, h_l, hB⟩ ?_
 rintro X1 ⟨k1_18, m1_19, p1_20⟩ H hX1 σ w17 ⟨vs21, hag, hO, hE22, h_l, hB⟩
 dsimp only at H
 refine Go1.keep [(3, .slice p2 l.length l.length), (4, .map (some B12)), (13, .slice p_l l.length c_l), (14, .int .i64 (l.length : Int)), (15, .int .i64 (k1_18 : Int))] hag ?_
 refine Go1.seq ?_
 refine Go1.region ?_
 by_cases h23 : (k1_18 : Int) < (l.length : Int)
 ·replace H := ifp h23 H
  refine GoR.op ((fun w => opB (op_lss rfl rfl w) (decide_eq_true h23)) _) rfl rfl ?_
  refine GoR.nil ?_
  refine Go1.seq ?_
  refine Go1.condT rfl rfl ?_
  refine Go1.skip ?_
  refine Go1.seq ?_
  refine Go1.block ?_
  refine Go1.seq ?_
  refine Go1.region ?_
  refine GoR.op ((op_move rfl) _) rfl rfl ?_
  obtain ⟨h24, H⟩ := H
  obtain ⟨h25, H⟩ := H
  refine GoR.op ((op_index Try.underlying80 ti81 rfl rfl h24 h25 (h_l.some_ h24 h25)) _) rfl rfl ?_
  refine GoR.op ((ldFlat h_l h24 h25 Try.underlying81 rfl ti81 rfl) _ (Same.refl _)) rfl rfl ?_
  have hobt := oalloc (t := 81) (cs := #[.int .i64 (0 : Int), .int .i64 (0 : Int)]) ti81 hO rfl
  obtain ⟨w26, B27, hst28, hs29, hop30⟩ := hobt
  refine GoR.op hop30 rfl rfl ?_
  replace hE22 := hE22.ch hst28.ch
  replace hO := hst28.own
  replace h_l := h_l.ch hst28.ch
  replace hB := hB.trans hst28.fr
  refine GoR.op ((op_assign rfl) _) rfl rfl ?_
  have hobt := oblkStAgg (us := [.int .i64 ((ix l (k1_18 : Int)).1), .int .i64 ((ix l (k1_18 : Int)).2)]) (o := 0) (cs' := #[.int .i64 ((ix l (k1_18 : Int)).1), .int .i64 ((ix l (k1_18 : Int)).2)]) 0 hO rfl rfl (Nat.le_of_ble_eq_true rfl) rfl
  obtain ⟨w32, hst33, hop34⟩ := hobt
  refine GoR.op (hop34 ti81 rfl rfl rfl) rfl rfl ?_
  replace hE22 := hE22.ch hst33.ch
  replace hO := hst33.own
  replace h_l := h_l.ch hst33.ch
  replace hB := hB.trans hst33.fr
  refine GoR.nil ?_
  refine Go1.seq ?_
  refine Go1.region ?_
  refine GoR.op ((op_move rfl) _) rfl rfl ?_
  refine GoR.op ((oblkAgg (vs := [.int .i64 ((ix l (k1_18 : Int)).1), .int .i64 ((ix l (k1_18 : Int)).2)]) 0 hO rfl rfl Try.underlying81 rfl ti81 rfl) _ (Same.refl _)) rfl rfl ?_
  by_cases h35 : mhas m1_19 ((ix l (k1_18 : Int))) = true
  ·replace H := ifp h35 H
   refine GoR.op ((olookT (a := (ix l (k1_18 : Int))) (MK.arr2 Try.underlying81 Try.underlying3 ti3) 1 hO rfl Try.underlying92 rfl rfl h35) _ (Same.refl _)) rfl rfl ?_
   refine GoR.op ((op_move rfl) _) rfl rfl ?_
   refine GoR.op ((op_extract rfl rfl) _) rfl rfl ?_
   refine GoR.op ((op_extract rfl rfl) _) rfl rfl ?_
   refine GoR.op ((op_assign rfl) _) rfl rfl ?_
   refine GoR.op ((op_assign rfl) _) rfl rfl ?_
   refine GoR.nil ?_
   refine Go1.seq ?_
   refine Go1.seq ?_
   refine Go1.region ?_
   refine GoR.op ((op_move rfl) _) rfl rfl ?_
   refine GoR.op ((op_not rfl) _) rfl rfl ?_
   refine GoR.nil ?_
   refine Go1.condF rfl rfl ?_
   refine Go1.skip ?_
   refine Go1.region ?_
   refine GoR.op ((op_move rfl) _) rfl rfl ?_
   refine GoR.op ((op_move rfl) _) rfl rfl ?_
   refine GoR.op ((op_move rfl) _) rfl rfl ?_
   obtain ⟨h36, H⟩ := H
   obtain ⟨h37, H⟩ := H
   refine GoR.op ((op_index Try.underlying25 ti3 rfl rfl h36 (ltn (hE22.neq hO 2 rfl) h37) (hE22.psome hO 2 rfl h36 h37)) _) rfl rfl ?_
   have hobt := ost (r := Rp.int .i64) rfl 2 hO rfl hE22 h36 h37 (v := .int .i64 (mgt m1_19 ((ix l (k1_18 : Int))))) (u := (mgt m1_19 ((ix l (k1_18 : Int))))) rfl rfl
   obtain ⟨w38, vs39, hst40, hE41, hop42⟩ := hobt
   refine GoR.op (hop42 Try.underlying3 rfl ti3 rfl rfl) rfl rfl ?_
   replace hO := hst40.own
   replace h_l := h_l.ch hst40.ch
   replace hB := hB.trans hst40.fr
   refine GoR.nil ?_
   refine Go1.inBlock ?_
   refine Go1.region ?_
   refine GoR.op ((op_add rfl rfl (wrap_i64 (natbd h23 h_l.bd))) _) rfl rfl ?_
   refine GoR.op ((op_move rfl) _) rfl rfl ?_
   refine GoR.nil ?_
   replace h_l := h_l.ch (Owns.dropCh _ _ 0)
   replace hE41 := hE41.ch (Owns.dropCh _ _ 0)
   replace hB := hB.trans (Owns.dropFr _ _ 0)
   replace hO := hO.drop 0
   exact hX1 _ H _ _ ⟨vs39, ⟨rfl, rfl, rfl, rfl, rfl, trivial⟩, hO, hE41, h_l, hB⟩
  ·replace H := ifn h35 H
   refine GoR.op ((olookF (a := (ix l (k1_18 : Int))) (MK.arr2 Try.underlying81 Try.underlying3 ti3) 1 hO rfl Try.underlying92 ti3 rfl rfl h35) _ (Same.refl _)) rfl rfl ?_
   refine GoR.op ((op_move rfl) _) rfl rfl ?_
   refine GoR.op ((op_extract rfl rfl) _) rfl rfl ?_
   refine GoR.op ((op_extract rfl rfl) _) rfl rfl ?_
   refine GoR.op ((op_assign rfl) _) rfl rfl ?_
   refine GoR.op ((op_assign rfl) _) rfl rfl ?_
   refine GoR.nil ?_
   refine Go1.seq ?_
   refine Go1.seq ?_
   refine Go1.region ?_
   refine GoR.op ((op_move rfl) _) rfl rfl ?_
   refine GoR.op ((op_not rfl) _) rfl rfl ?_
   refine GoR.nil ?_
   refine Go1.condT rfl rfl ?_
   refine Go1.seq ?_
   refine Go1.region ?_
   refine GoR.op ((op_move rfl) _) rfl rfl ?_
   refine GoR.op ((omapLen 1 hO rfl Try.underlying92 rfl) _ (Same.refl _)) rfl rfl ?_
   refine GoR.op ((op_assign rfl) _) rfl rfl ?_
   refine GoR.nil ?_
   refine Go1.region ?_
   refine GoR.op ((op_move rfl) _) rfl rfl ?_
   refine GoR.op ((oblkAgg (vs := [.int .i64 ((ix l (k1_18 : Int)).1), .int .i64 ((ix l (k1_18 : Int)).2)]) 0 hO rfl rfl Try.underlying81 rfl ti81 rfl) _ (Same.refl _)) rfl rfl ?_
   refine GoR.op ((op_move rfl) _) rfl rfl ?_
   have hobt := omapUpd (MK.arr2 Try.underlying81 Try.underlying3 ti3) 1 hO rfl Try.underlying92 (ix l (k1_18 : Int)) (m1_19.length : Int)
   obtain ⟨w43, hst44, hop45⟩ := hobt
   refine GoR.op (hop45 rfl rfl rfl) rfl rfl ?_
   replace hE22 := hE22.ch hst44.ch
   replace hO := hst44.own
   replace h_l := h_l.ch hst44.ch
   replace hB := hB.trans hst44.fr
   refine GoR.nil ?_
   refine Go1.region ?_
   refine GoR.op ((op_move rfl) _) rfl rfl ?_
   refine GoR.op ((op_move rfl) _) rfl rfl ?_
   refine GoR.op ((op_move rfl) _) rfl rfl ?_
   obtain ⟨h46, H⟩ := H
   obtain ⟨h47, H⟩ := H
   refine GoR.op ((op_index Try.underlying25 ti3 rfl rfl h46 (ltn (hE22.neq hO 2 rfl) h47) (hE22.psome hO 2 rfl h46 h47)) _) rfl rfl ?_
   have hobt := ost (r := Rp.int .i64) rfl 2 hO rfl hE22 h46 h47 (v := .int .i64 (m1_19.length : Int)) (u := (m1_19.length : Int)) rfl rfl
   obtain ⟨w48, vs49, hst50, hE51, hop52⟩ := hobt
   refine GoR.op (hop52 Try.underlying3 rfl ti3 rfl rfl) rfl rfl ?_
   replace hO := hst50.own
   replace h_l := h_l.ch hst50.ch
   replace hB := hB.trans hst50.fr
   refine GoR.nil ?_
   refine Go1.inBlock ?_
   refine Go1.region ?_
   refine GoR.op ((op_add rfl rfl (wrap_i64 (natbd h23 h_l.bd))) _) rfl rfl ?_
   refine GoR.op ((op_move rfl) _) rfl rfl ?_
   refine GoR.nil ?_
   replace h_l := h_l.ch (Owns.dropCh _ _ 0)
   replace hE51 := hE51.ch (Owns.dropCh _ _ 0)
   replace hB := hB.trans (Owns.dropFr _ _ 0)
   replace hO := hO.drop 0
   exact hX1 _ H _ _ ⟨vs49, ⟨rfl, rfl, rfl, rfl, rfl, trivial⟩, hO, hE51, h_l, hB⟩
 ·replace H := ifn h23 H
  refine GoR.op ((fun w => opB (op_lss rfl rfl w) (decide_eq_false h23)) _) rfl rfl ?_
  refine GoR.nil ?_
  refine Go1.seq ?_
  refine Go1.condF rfl rfl ?_
  refine Go1.exit rfl ?_
  refine Go1.seq ?_
  refine Go1.region ?_
  refine GoR.op ((op_move rfl) _) rfl rfl ?_
  refine GoR.op ((op_assign rfl) _) rfl rfl ?_
  refine GoR.nil ?_
  have hobt := freeze 1 hO rfl hE22
  obtain ⟨hO1, hc55, hi53, hn54⟩ := hobt
  replace h_l := h_l.ch hc55
  replace hB := hB.trans (Owns.dropFr _ _ 1)
  replace hO := hO1; clear hO1
  refine Go1.ret1 Try.func79 rfl ?_
  exact ⟨p1_20, p2, l.length, (congrArg (fun nn => Value.slice p2 nn l.length) hn54), hB.same, (hi53.ch (Ch.weak _ _ _)), H⟩
theorem body50 : Body Try.prog 50 := ⟨Try.f50, Try.func50, rfl, by kernel_rfl⟩
theorem walk_partition_Meet {A : List Nat} {w0 : World} {p_p : Option Addr} {c_p : Nat} {p_q : Option Addr} {c_q : Nat} {p : List Int} {q : List Int} (hA : ∀ b ∈ A, b < w0.heap.size) (h_p : ISl (Rp.int .i64) A w0 p_p c_p p) (h_q : ISl (Rp.int .i64) A w0 p_q c_q q) {K : List Int → Prop} (H : partition_Meet p q K) :
    CallsV Try.prog 50 #[.slice p_p p.length c_p, .slice p_q q.length c_q] w0 (fun v w' => ∃ (r0 : List Int), ∃ (p_r0 : Option Addr), ∃ (c_r0 : Nat), v = .slice p_r0 r0.length c_r0 ∧ Same w0 w' ∧ ISl (Rp.int .i64) A w' p_r0 c_r0 r0 ∧ K r0) := by
 refine CallsV.of (l := [.slice p_p p.length c_p, .slice p_q q.length c_q]) Try.func50 rfl Try.ntmps50 rfl ?_
 have hO := Owns.start hA
 have hB := Fr.refl (bl []) w0
 unfold partition_Meet at H
 replace h_p := h_p.ch (Ch.start A w0)
 replace h_q := h_q.ch (Ch.start A w0)
 refine Go1.seq ?_
 refine Go1.region ?_
 refine GoR.op ((op_assign rfl) _) rfl rfl ?_
 refine GoR.nil ?_
 refine Go1.seq ?_
 refine Go1.seq ?_
 refine Go1.region ?_
 refine GoR.op ((op_move rfl) _) rfl rfl ?_
 refine GoR.op ((op_move rfl) _) rfl rfl ?_
 refine GoR.call (op_call body78 rfl (walk_partition_matching hO.lt h_p h_q H)) rfl rfl ?_
 rintro v5 w2 ⟨r1, rfl, hs3, H⟩
 have hst6 := Stp.same hO hs3
 replace hO := hst6.own
 replace h_p := h_p.ch hst6.ch
 replace h_q := h_q.ch hst6.ch
 replace hB := hB.trans hst6.fr
 cases r1
 ·replace H := ifn Bool.false_ne_true H
  refine GoR.op ((op_not rfl) _) rfl rfl ?_
  refine GoR.nil ?_
  refine Go1.condT rfl rfl ?_
  refine Go1.seq ?_
  refine Go1.region ?_
  refine GoR.op ((op_assign rfl) _) rfl rfl ?_
  refine GoR.nil ?_
  refine Go1.ret1 Try.func50 rfl ?_
  exact ⟨([] : List Int), none, 0, rfl, hB.same, (ISl.null _ _ _), H⟩
 ·replace H := ifp rfl H
  refine GoR.op ((op_not rfl) _) rfl rfl ?_
  refine GoR.nil ?_
  refine Go1.condF rfl rfl ?_
  refine Go1.skip ?_
  refine Go1.seq ?_
  refine Go1.region ?_
  refine GoR.op ((op_move rfl) _) rfl rfl ?_
  refine GoR.op ((op_len Try.underlying25 rfl) _) rfl rfl ?_
  replace H := H h_p.bd
  obtain ⟨h14, H⟩ := H
  obtain ⟨h15, H⟩ := H
  have hobt := omake (n := (p.length : Int)) (r := rpP2 .i64) (d := ((0, 0) : Int × Int)) Try.underlying80 ti81 (fun _ _ => ⟨trivial, fun ii _ => cells_agg ii⟩) rfl hO h14 h15 (by decide)
  obtain ⟨w7, p8, vs9, hst10, hE11, hs12, hop13⟩ := hobt
  refine GoR.op (hop13 rfl rfl) rfl rfl ?_
  replace hO := hst10.own
  replace h_p := h_p.ch hst10.ch
  replace h_q := h_q.ch hst10.ch
  replace hB := hB.trans hst10.fr
  refine GoR.op ((op_assign rfl) _) rfl rfl ?_
  refine GoR.nil ?_
  refine Go1.seq ?_
  refine Go1.seq ?_
  refine Go1.region ?_
  refine GoR.op ((op_move rfl) _) rfl rfl ?_
  refine GoR.op ((op_len Try.underlying25 rfl) _) rfl rfl ?_
  refine GoR.op ((op_move rfl) _) rfl rfl ?_
  refine GoR.nil ?_
  refine Go1.block ?_
  refine Go1.loopW (S := Nat × (List (Int × Int))) (fun s σ w => ∃ (vs20 : List Value), agrees σ [(0, .slice p_p p.length c_p), (1, .slice p_q q.length c_q), (5, .slice p8 p.length p.length), (15, .int .i64 (p.length : Int)), (16, .int .i64 ((s.1) : Int))] ∧ Owns w0.heap.size w [.row 81 2 p8 p.length p.length vs20] A ∧ Els (rpP2 .i64) (bl [.row 81 2 p8 p.length p.length vs20] ++ A) w vs20 (s.2) ∧ ISl (Rp.int .i64) (bl [.row 81 2 p8 p.length p.length vs20] ++ A) w p_p c_p p ∧ ISl (Rp.int .i64) (bl [.row 81 2 p8 p.length p.length vs20] ++ A) w p_q c_q q ∧ Fr (bl []) w0 (bl [.row 81 2 p8 p.length p.length vs20]) w) H ⟨vs9, ⟨rfl, rfl, rfl, rfl, rfl, trivial⟩, hO, hE11, h_p, h_q, hB⟩ ?_
  rintro X1 ⟨k1_18, pairs1_19⟩ H hX1 σ w17 ⟨vs20, hag, hO, hE21, h_p, h_q, hB⟩
  dsimp only at H
  refine Go1.keep [(0, .slice p_p p.length c_p), (1, .slice p_q q.length c_q), (5, .slice p8 p.length p.length), (15, .int .i64 (p.length : Int)), (16, .int .i64 (k1_18 : Int))] hag ?_
  refine Go1.seq ?_
  refine Go1.region ?_
  by_cases h22 : (k1_18 : Int) < (p.length : Int)
  ·replace H := ifp h22 H
   refine GoR.op ((fun w => opB (op_lss rfl rfl w) (decide_eq_true h22)) _) rfl rfl ?_
   refine GoR.nil ?_
   refine Go1.seq ?_
   refine Go1.condT rfl rfl ?_
   refine Go1.skip ?_
   refine Go1.seq ?_
   refine Go1.block ?_
   refine Go1.seq ?_
   refine Go1.region ?_
   refine GoR.op ((op_move rfl) _) rfl rfl ?_
   refine GoR.op ((op_assign rfl) _) rfl rfl ?_
   refine GoR.nil ?_
   refine Go1.drawS 1 [(0, .pure), (1, .pure), (2, .pure), (3, .pure), (4, .pure), (5, .stable), (6, .pure), (7, .pure), (8, .pure), (9, .stable), (10, .pure), (11, .pure), (12, .last)] mixed (by kernel_rfl) ?_
   intro w23 hs24
   have hst25 := Stp.same hO hs24
   replace hE21 := hE21.ch hst25.ch
   replace hO := hst25.own
   replace h_p := h_p.ch hst25.ch
   replace h_q := h_q.ch hst25.ch
   replace hB := hB.trans hst25.fr
   refine GoQ.pure rfl (op_move rfl) rfl rfl ?_
   refine GoQ.pure rfl (op_move rfl) rfl rfl ?_
   refine GoQ.pure rfl (op_move rfl) rfl rfl ?_
   refine GoQ.pure rfl (op_move rfl) rfl rfl ?_
   obtain ⟨h26, H⟩ := H
   obtain ⟨h27, H⟩ := H
   refine GoQ.pure rfl (op_index Try.underlying25 ti3 rfl rfl h26 h27 (h_p.some_ h26 h27)) rfl rfl ?_
   refine GoQ.stable rfl (ldInt h_p h26 h27 Try.underlying3 rfl rfl) rfl rfl ?_
   refine GoQ.pure rfl (op_move rfl) rfl rfl ?_
   refine GoQ.pure rfl (op_move rfl) rfl rfl ?_
   obtain ⟨h28, H⟩ := H
   obtain ⟨h29, H⟩ := H
   refine GoQ.pure rfl (op_index Try.underlying25 ti3 rfl rfl h28 h29 (h_q.some_ h28 h29)) rfl rfl ?_
   refine GoQ.stable rfl (ldInt h_q h28 h29 Try.underlying3 rfl rfl) rfl rfl ?_
   refine GoQ.pure rfl (op_buildArr Try.underlying81 ti81 ti3 (vs := [(0, .int .i64 (ix p (k1_18 : Int))), (1, .int .i64 (ix q (k1_18 : Int)))]) (cs := #[.int .i64 (ix p (k1_18 : Int)), .int .i64 (ix q (k1_18 : Int))]) rfl (by kernel_rfl)) rfl rfl ?_
   obtain ⟨h30, H⟩ := H
   obtain ⟨h31, H⟩ := H
   refine GoQ.pure rfl (op_index Try.underlying80 ti81 rfl rfl h30 (ltn (hE21.neq hO 0 rfl) h31) (hE21.psome hO 0 rfl h30 h31)) rfl rfl ?_
   have hobt := ostFlat 0 hO rfl hE21 h30 h31 ((ix p (k1_18 : Int)), (ix q (k1_18 : Int))) trivial
   obtain ⟨w32, vs33, hst34, hE35, hop36⟩ := hobt
   refine GoQ.last rfl (hop36 ti81 rfl rfl rfl) rfl rfl ?_
   replace hO := hst34.own
   replace h_p := h_p.ch hst34.ch
   replace h_q := h_q.ch hst34.ch
   replace hB := hB.trans hst34.fr
   refine GoQ.nil ?_
   refine Go1.inBlock ?_
   refine Go1.region ?_
   refine GoR.op ((op_add rfl rfl (wrap_i64 (natbd h22 h_p.bd))) _) rfl rfl ?_
   refine GoR.op ((op_move rfl) _) rfl rfl ?_
   refine GoR.nil ?_
   exact hX1 _ H _ _ ⟨vs33, ⟨rfl, rfl, rfl, rfl, rfl, trivial⟩, hO, hE35, h_p, h_q, hB⟩
  ·replace H := ifn h22 H
   refine GoR.op ((fun w => opB (op_lss rfl rfl w) (decide_eq_false h22)) _) rfl rfl ?_
   refine GoR.nil ?_
   refine Go1.seq ?_
   refine Go1.condF rfl rfl ?_
   refine Go1.exit rfl ?_
   refine Go1.seq ?_
   refine Go1.region ?_
   refine GoR.op ((op_move rfl) _) rfl rfl ?_
   have hobt := freeze 0 hO rfl hE21
   obtain ⟨hO1, hc39, hi37, hn38⟩ := hobt
   replace h_p := h_p.ch hc39
   replace h_q := h_q.ch hc39
   replace hB := hB.trans (Owns.dropFr _ _ 0)
   replace hO := hO1; clear hO1
   refine GoR.call (op_call body79 (show ([.slice p8 p.length p.length] : List Value) = [.slice p8 pairs1_19.length p.length] from by rw [← hn38]) (walk_partition_canonical_2_int hO.lt hi37 H)) rfl rfl ?_
   rintro v44 w41 ⟨r40, p_r40, c_r40, rfl, hs42, h_r40, H⟩
   have hst45 := Stp.same hO hs42
   replace hO := hst45.own
   replace h_p := h_p.ch hst45.ch
   replace h_q := h_q.ch hst45.ch
   replace hi37 := hi37.ch hst45.ch
   replace hB := hB.trans hst45.fr
   refine GoR.op ((op_assign rfl) _) rfl rfl ?_
   refine GoR.nil ?_
   refine Go1.ret1 Try.func50 rfl ?_
   exact ⟨r40, p_r40, c_r40, rfl, hB.same, (h_r40.ch (Ch.weak _ _ _)), H⟩
theorem body81 : Body Try.prog 81 := ⟨Try.f81, Try.func81, rfl, by kernel_rfl⟩
theorem walk_partition_Count {A : List Nat} {w0 : World} {p_p : Option Addr} {c_p : Nat} {p : List Int} (hA : ∀ b ∈ A, b < w0.heap.size) (h_p : ISl (Rp.int .i64) A w0 p_p c_p p) {K : Int → Prop} (H : partition_Count p K) :
    CallsV Try.prog 81 #[.slice p_p p.length c_p] w0 (fun v w' => ∃ (r0 : Int), v = .int .i64 r0 ∧ Same w0 w' ∧ K r0) := by
 refine CallsV.of (l := [.slice p_p p.length c_p]) Try.func81 rfl Try.ntmps81 rfl ?_
 have hO := Owns.start hA
 have hB := Fr.refl (bl []) w0
 unfold partition_Count at H
 replace h_p := h_p.ch (Ch.start A w0)
 refine Go1.seq ?_
 refine Go1.region ?_
 refine GoR.op ((op_assign rfl) _) rfl rfl ?_
 refine GoR.nil ?_
 refine Go1.seq ?_
 refine Go1.seq ?_
 refine Go1.region ?_
 refine GoR.op ((op_move rfl) _) rfl rfl ?_
 refine GoR.call (op_call body80 rfl (walk_partition_Valid hO.lt h_p H)) rfl rfl ?_
 rintro v5 w2 ⟨r1, rfl, hs3, H⟩
 have hst6 := Stp.same hO hs3
 replace hO := hst6.own
 replace h_p := h_p.ch hst6.ch
 replace hB := hB.trans hst6.fr
 cases r1
 ·replace H := ifn Bool.false_ne_true H
  refine GoR.op ((op_not rfl) _) rfl rfl ?_
  refine GoR.nil ?_
  refine Go1.condT rfl rfl ?_
  refine Go1.seq ?_
  refine Go1.region ?_
  refine GoR.op ((op_assign rfl) _) rfl rfl ?_
  refine GoR.nil ?_
  refine Go1.ret1 Try.func81 rfl ?_
  exact ⟨(0 : Int), rfl, hB.same, H⟩
 ·replace H := ifp rfl H
  refine GoR.op ((op_not rfl) _) rfl rfl ?_
  refine GoR.nil ?_
  refine Go1.condF rfl rfl ?_
  refine Go1.skip ?_
  refine Go1.seq ?_
  refine Go1.region ?_
  refine GoR.op ((op_assign rfl) _) rfl rfl ?_
  refine GoR.nil ?_
  refine Go1.seq ?_
  refine Go1.seq ?_
  refine Go1.region ?_
  refine GoR.op ((op_move rfl) _) rfl rfl ?_
  refine GoR.op ((op_len Try.underlying25 rfl) _) rfl rfl ?_
  replace H := H h_p.bd
  refine GoR.op ((op_move rfl) _) rfl rfl ?_
  refine GoR.nil ?_
  refine Go1.block ?_
  refine Go1.loopW (S := Int × Nat) (fun s σ w => agrees σ [(3, .int .i64 (s.1)), (9, .slice p_p p.length c_p), (10, .int .i64 (p.length : Int)), (11, .int .i64 ((s.2) : Int))] ∧ Owns w0.heap.size w [] A ∧ ISl (Rp.int .i64) (bl [] ++ A) w p_p c_p p ∧ Fr (bl []) w0 (bl []) w) H ⟨⟨rfl, rfl, rfl, rfl, trivial⟩, hO, h_p, hB⟩ ?_
  rintro X1 ⟨count1_8, k1_9⟩ H hX1 σ w7 ⟨hag, hO, h_p, hB⟩
  dsimp only at H
  refine Go1.keep [(3, .int .i64 count1_8), (9, .slice p_p p.length c_p), (10, .int .i64 (p.length : Int)), (11, .int .i64 (k1_9 : Int))] hag ?_
  refine Go1.seq ?_
  refine Go1.region ?_
  by_cases h10 : (k1_9 : Int) < (p.length : Int)
  ·replace H := ifp h10 H
   refine GoR.op ((fun w => opB (op_lss rfl rfl w) (decide_eq_true h10)) _) rfl rfl ?_
   refine GoR.nil ?_
   refine Go1.seq ?_
   refine Go1.condT rfl rfl ?_
   refine Go1.skip ?_
   refine Go1.seq ?_
   refine Go1.block ?_
   refine Go1.seq ?_
   refine Go1.region ?_
   obtain ⟨h11, H⟩ := H
   obtain ⟨h12, H⟩ := H
   refine GoR.op ((op_index Try.underlying25 ti3 rfl rfl h11 h12 (h_p.some_ h11 h12)) _) rfl rfl ?_
   refine GoR.op ((ldInt h_p h11 h12 Try.underlying3 rfl rfl) _ (Same.refl _)) rfl rfl ?_
   refine GoR.op ((op_assign rfl) _) rfl rfl ?_
   refine GoR.nil ?_
   refine Go1.region ?_
   refine GoR.op ((op_move rfl) _) rfl rfl ?_
   refine GoR.op ((op_move rfl) _) rfl rfl ?_
   obtain ⟨h13, H⟩ := H
   refine GoR.op ((op_add rfl rfl (wrap_i64 h13)) _) rfl rfl ?_
   by_cases h14 : count1_8 < ((ix p (k1_9 : Int)) + (1 : Int))
   ·replace H := ifp h14 H
    refine GoR.op ((op_maxT rfl rfl h14) _) rfl rfl ?_
    refine GoR.op ((op_assign rfl) _) rfl rfl ?_
    refine GoR.nil ?_
    refine Go1.inBlock ?_
    refine Go1.region ?_
    refine GoR.op ((op_add rfl rfl (wrap_i64 (natbd h10 h_p.bd))) _) rfl rfl ?_
    refine GoR.op ((op_move rfl) _) rfl rfl ?_
    refine GoR.nil ?_
    exact hX1 _ H _ _ ⟨⟨rfl, rfl, rfl, rfl, trivial⟩, hO, h_p, hB⟩
   ·replace H := ifn h14 H
    refine GoR.op ((op_maxF rfl rfl h14) _) rfl rfl ?_
    refine GoR.op ((op_assign rfl) _) rfl rfl ?_
    refine GoR.nil ?_
    refine Go1.inBlock ?_
    refine Go1.region ?_
    refine GoR.op ((op_add rfl rfl (wrap_i64 (natbd h10 h_p.bd))) _) rfl rfl ?_
    refine GoR.op ((op_move rfl) _) rfl rfl ?_
    refine GoR.nil ?_
    exact hX1 _ H _ _ ⟨⟨rfl, rfl, rfl, rfl, trivial⟩, hO, h_p, hB⟩
  ·replace H := ifn h10 H
   refine GoR.op ((fun w => opB (op_lss rfl rfl w) (decide_eq_false h10)) _) rfl rfl ?_
   refine GoR.nil ?_
   refine Go1.seq ?_
   refine Go1.condF rfl rfl ?_
   refine Go1.exit rfl ?_
   refine Go1.seq ?_
   refine Go1.region ?_
   refine GoR.op ((op_move rfl) _) rfl rfl ?_
   refine GoR.op ((op_assign rfl) _) rfl rfl ?_
   refine GoR.nil ?_
   refine Go1.ret1 Try.func81 rfl ?_
   exact ⟨count1_8, rfl, hB.same, H⟩
theorem body51 : Body Try.prog 51 := ⟨Try.f51, Try.func51, rfl, by kernel_rfl⟩
theorem walk_partition_Classes {A : List Nat} {w0 : World} {p_p : Option Addr} {c_p : Nat} {p : List Int} (hA : ∀ b ∈ A, b < w0.heap.size) (h_p : ISl (Rp.int .i64) A w0 p_p c_p p) {K : List (List Int) → Prop} (H : partition_Classes p K) :
    CallsV Try.prog 51 #[.slice p_p p.length c_p] w0 (fun v w' => ∃ (r0 : List (List Int)), ∃ (p_r0 : Option Addr), ∃ (c_r0 : Nat), v = .slice p_r0 r0.length c_r0 ∧ Same w0 w' ∧ ISl (Rp.sl (Rp.int .i64)) A w' p_r0 c_r0 r0 ∧ K r0) := by
 refine CallsV.of (l := [.slice p_p p.length c_p]) Try.func51 rfl Try.ntmps51 rfl ?_
 have hO := Owns.start hA
 have hB := Fr.refl (bl []) w0
 unfold partition_Classes at H
 replace h_p := h_p.ch (Ch.start A w0)
 refine Go1.seq ?_
 refine Go1.region ?_
 refine GoR.op ((op_assign rfl) _) rfl rfl ?_
 refine GoR.nil ?_
 refine Go1.seq ?_
 refine Go1.seq ?_
 refine Go1.region ?_
 refine GoR.op ((op_move rfl) _) rfl rfl ?_
 refine GoR.call (op_call body80 rfl (walk_partition_Valid hO.lt h_p H)) rfl rfl ?_
 rintro v5 w2 ⟨r1, rfl, hs3, H⟩
 have hst6 := Stp.same hO hs3
 replace hO := hst6.own
 replace h_p := h_p.ch hst6.ch
 replace hB := hB.trans hst6.fr
 cases r1
 ·replace H := ifn Bool.false_ne_true H
  refine GoR.op ((op_not rfl) _) rfl rfl ?_
  refine GoR.nil ?_
  refine Go1.condT rfl rfl ?_
  refine Go1.seq ?_
  refine Go1.region ?_
  refine GoR.op ((op_assign rfl) _) rfl rfl ?_
  refine GoR.nil ?_
  refine Go1.ret1 Try.func51 rfl ?_
  exact ⟨([] : List (List Int)), none, 0, rfl, hB.same, (ISl.null _ _ _), H⟩
 ·replace H := ifp rfl H
  refine GoR.op ((op_not rfl) _) rfl rfl ?_
  refine GoR.nil ?_
  refine Go1.condF rfl rfl ?_
  refine Go1.skip ?_
  refine Go1.seq ?_
  refine Go1.region ?_
  refine GoR.op ((op_move rfl) _) rfl rfl ?_
  refine GoR.call (op_call body81 rfl (walk_partition_Count hO.lt h_p H)) rfl rfl ?_
  rintro v11 w8 ⟨r7, rfl, hs9, H⟩
  have hst12 := Stp.same hO hs9
  replace hO := hst12.own
  replace h_p := h_p.ch hst12.ch
  replace hB := hB.trans hst12.fr
  obtain ⟨h20, H⟩ := H
  obtain ⟨h21, H⟩ := H
  have hobt := t2make (m := r7) (e' := 3) (Fl.int .i64) Try.underlying22 ti25 hO h20 h21 (by decide)
  obtain ⟨w13, p14, hst16, hs18, hop19⟩ := hobt
  refine GoR.op (hop19 rfl rfl) rfl rfl ?_
  replace hO := hst16.own
  replace h_p := h_p.ch hst16.ch
  replace hB := hB.trans hst16.fr
  refine GoR.op ((op_assign rfl) _) rfl rfl ?_
  refine GoR.nil ?_
  refine Go1.seq ?_
  refine Go1.seq ?_
  refine Go1.region ?_
  refine GoR.op ((op_move rfl) _) rfl rfl ?_
  refine GoR.op ((op_len Try.underlying25 rfl) _) rfl rfl ?_
  replace H := H h_p.bd
  refine GoR.op ((op_move rfl) _) rfl rfl ?_
  refine GoR.nil ?_
  refine Go1.block ?_
  refine Go1.loopW (S := Nat × List (List Int)) (fun s σ w => ∃ (n28 : Nat), ∃ (p26 : Option Addr), ∃ (c27 : Nat), ∃ (hs29 : Hd), agrees σ [(3, .slice p26 n28 c27), (12, .slice p_p p.length c_p), (13, .int .i64 (p.length : Int)), (14, .int .i64 ((s.1) : Int))] ∧ Owns w0.heap.size w [t2 (Fl.int .i64) 25 3 p26 n28 c27 hs29 (s.2)] A ∧ ISl (Rp.int .i64) (bl [t2 (Fl.int .i64) 25 3 p26 n28 c27 hs29 (s.2)] ++ A) w p_p c_p p ∧ Fr (bl []) w0 (bl [t2 (Fl.int .i64) 25 3 p26 n28 c27 hs29 (s.2)]) w) H ⟨r7.toNat, p14, r7.toNat, (fun _ => (none, 0)), ⟨rfl, rfl, rfl, rfl, trivial⟩, hO, h_p, hB⟩ ?_
  rintro X1 ⟨k1_24, classes1_25⟩ H hX1 σ w23 ⟨n28, p26, c27, hs29, hag, hO, h_p, hB⟩
  dsimp only at H
  refine Go1.keep [(3, .slice p26 n28 c27), (12, .slice p_p p.length c_p), (13, .int .i64 (p.length : Int)), (14, .int .i64 (k1_24 : Int))] hag ?_
  refine Go1.seq ?_
  refine Go1.region ?_
  by_cases h30 : (k1_24 : Int) < (p.length : Int)
  ·replace H := ifp h30 H
   refine GoR.op ((fun w => opB (op_lss rfl rfl w) (decide_eq_true h30)) _) rfl rfl ?_
   refine GoR.nil ?_
   refine Go1.seq ?_
   refine Go1.condT rfl rfl ?_
   refine Go1.skip ?_
   refine Go1.seq ?_
   refine Go1.block ?_
   refine Go1.seq ?_
   refine Go1.region ?_
   refine GoR.op ((op_move rfl) _) rfl rfl ?_
   obtain ⟨h31, H⟩ := H
   obtain ⟨h32, H⟩ := H
   refine GoR.op ((op_index Try.underlying25 ti3 rfl rfl h31 h32 (h_p.some_ h31 h32)) _) rfl rfl ?_
   refine GoR.op ((ldInt h_p h31 h32 Try.underlying3 rfl rfl) _ (Same.refl _)) rfl rfl ?_
   refine GoR.op ((op_assign rfl) _) rfl rfl ?_
   refine GoR.op ((op_assign rfl) _) rfl rfl ?_
   refine GoR.nil ?_
   refine Go1.region ?_
   refine GoR.op ((op_move rfl) _) rfl rfl ?_
   refine GoR.op ((op_move rfl) _) rfl rfl ?_
   refine GoR.op ((op_move rfl) _) rfl rfl ?_
   refine GoR.op ((op_move rfl) _) rfl rfl ?_
   obtain ⟨h33, H⟩ := H
   obtain ⟨h34, H⟩ := H
   refine GoR.op ((op_index Try.underlying22 ti25 rfl rfl h33 (ltn (t2neq 0 hO rfl) h34) (t2some 0 hO rfl h33 h34)) _) rfl rfl ?_
   refine GoR.op ((t2head 0 hO rfl h33 h34 Try.underlying25 rfl rfl) _ (Same.refl _)) rfl rfl ?_
   refine GoR.op ((op_move rfl) _) rfl rfl ?_
   have hobt := obuild (r := Rp.int .i64) (n := 1) (parts := [(0, .int .i64 (k1_24 : Int))]) (vs := [.int .i64 (k1_24 : Int)]) (xs := [(k1_24 : Int)]) rfl Try.underlying25 ti3 hO (by decide) (by kernel_rfl) (Els.cons rfl rfl (Els.nil _ _ _) (by simp [mx])) rfl
   obtain ⟨w35, p36, hst37, hE38, hs39, hop40⟩ := hobt
   refine GoR.op (hop40 rfl) rfl rfl ?_
   replace hO := hst37.own
   replace h_p := h_p.ch hst37.ch
   replace hB := hB.trans hst37.fr
   have hst42 := Stp.front 1 hO rfl
   replace hE38 := hE38.ch hst42.ch
   replace hO := hst42.own
   replace h_p := h_p.ch hst42.ch
   replace hB := hB.trans hst42.fr
   have hobt := t2take (hf := (Fl.int .i64)) hO h33 h34
   obtain ⟨vs43, hst44, hE45⟩ := hobt
   replace hE38 := hE38.ch hst44.ch
   replace hO := hst44.own
   replace h_p := h_p.ch hst44.ch
   replace hB := hB.trans hst44.fr
   have hE47 := hE45 (bl [.row 3 1 (hs29 (ix p (k1_24 : Int)).toNat).1 ((ix classes1_25 (ix p (k1_24 : Int))).length) ((hs29 (ix p (k1_24 : Int)).toNat).2) vs43, t2h (Fl.int .i64) 25 3 p26 n28 c27 hs29 classes1_25 (ix p (k1_24 : Int)).toNat, .row 3 1 p36 1 1 [.int .i64 (k1_24 : Int)]] ++ A)
   have hobt := freeze 2 hO rfl hE38
   obtain ⟨hO1, hc50, hi48, hn49⟩ := hobt
   replace h_p := h_p.ch hc50
   replace hE47 := hE47.ch hc50
   replace hB := hB.trans (Owns.dropFr _ _ 2)
   replace hO := hO1; clear hO1
   obtain ⟨h51, H⟩ := H
   have hobt := oapp Try.underlying25 ti3 rfl 0 hO rfl hE47 hi48 hn49 h51 (by decide)
   obtain ⟨w52, p53, c54, vs55, hst56, hE57, hop58⟩ := hobt
   refine GoR.op (hop58 rfl rfl) rfl rfl ?_
   replace hO := hst56.own
   replace h_p := h_p.ch hst56.ch
   replace hi48 := hi48.ch hst56.ch
   replace hB := hB.trans hst56.fr
   obtain ⟨h60, H⟩ := H
   obtain ⟨h61, H⟩ := H
   refine GoR.op ((op_index Try.underlying22 ti25 rfl rfl h60 (ltn (t2neqH 1 hO rfl) h61) (t2someH 1 hO rfl h60 h61)) _) rfl rfl ?_
   have hst62 := Stp.front 1 hO rfl
   replace hE57 := hE57.ch hst62.ch
   replace hO := hst62.own
   replace h_p := h_p.ch hst62.ch
   replace hi48 := hi48.ch hst62.ch
   replace hB := hB.trans hst62.fr
   have hst63 := Stp.front 1 hO rfl
   replace hE57 := hE57.ch hst63.ch
   replace hO := hst63.own
   replace h_p := h_p.ch hst63.ch
   replace hi48 := hi48.ch hst63.ch
   replace hB := hB.trans hst63.fr
   have hobt := t2fix (hf := (Fl.int .i64)) hO hE57 h60 h61 rfl
   obtain ⟨w64, hst65, hop66⟩ := hobt
   refine GoR.op (hop66 Try.underlying25 rfl ti25 rfl rfl) rfl rfl ?_
   replace hO := hst65.own
   replace h_p := h_p.ch hst65.ch
   replace hi48 := hi48.ch hst65.ch
   replace hB := hB.trans hst65.fr
   refine GoR.nil ?_
   refine Go1.inBlock ?_
   refine Go1.region ?_
   refine GoR.op ((op_add rfl rfl (wrap_i64 (natbd h30 h_p.bd))) _) rfl rfl ?_
   refine GoR.op ((op_move rfl) _) rfl rfl ?_
   refine GoR.nil ?_
   exact hX1 _ H _ _ ⟨n28, p26, c27, hup hs29 (ix p (k1_24 : Int)).toNat (p53, c54), ⟨rfl, rfl, rfl, rfl, trivial⟩, hO, h_p, hB⟩
  ·replace H := ifn h30 H
   refine GoR.op ((fun w => opB (op_lss rfl rfl w) (decide_eq_false h30)) _) rfl rfl ?_
   refine GoR.nil ?_
   refine Go1.seq ?_
   refine Go1.condF rfl rfl ?_
   refine Go1.exit rfl ?_
   refine Go1.seq ?_
   refine Go1.region ?_
   refine GoR.op ((op_move rfl) _) rfl rfl ?_
   refine GoR.op ((op_assign rfl) _) rfl rfl ?_
   refine GoR.nil ?_
   have hobt := t2freezeA 0 hO rfl
   obtain ⟨hO1, hc69, hi67, hn68⟩ := hobt
   replace h_p := h_p.ch hc69
   replace hB := hB.trans (Owns.dropFr _ _ 0)
   replace hO := hO1; clear hO1
   refine Go1.ret1 Try.func51 rfl ?_
   exact ⟨classes1_25, p26, c27, (congrArg (fun nn => Value.slice p26 nn c27) hn68), hB.same, (hi67.ch (Ch.weak _ _ _)), H⟩
theorem body15 : Body Try.prog 15 := ⟨Try.f15, Try.func15, rfl, by kernel_rfl⟩
theorem walk_green_Classes {A : List Nat} {w0 : World} {p_a0 : Option Addr} {c_a0 : Nat} {a0 : List (List Int)} (hA : ∀ b ∈ A, b < w0.heap.size) (h_a0 : ISl (Rp.sl (Rp.int .i64)) A w0 p_a0 c_a0 a0) {K : Green → Prop} (H : green_Classes a0 K) :
    CallsV Try.prog 15 #[.slice p_a0 a0.length c_a0] w0 (fun v w' => ∃ (r0 : Green), ∃ (p_r0_R : Option Addr), ∃ (c_r0_R : Nat), ∃ (p_r0_L : Option Addr), ∃ (c_r0_L : Nat), ∃ (p_r0_J : Option Addr), ∃ (c_r0_J : Nat), ∃ (p_r0_H : Option Addr), ∃ (c_r0_H : Nat), ∃ (p_r0_Below : Option Addr), ∃ (c_r0_Below : Nat), v = .agg #[.slice p_r0_R r0.R.length c_r0_R, .slice p_r0_L r0.L.length c_r0_L, .slice p_r0_J r0.J.length c_r0_J, .slice p_r0_H r0.H.length c_r0_H, .slice p_r0_Below r0.Below.length c_r0_Below] ∧ Same w0 w' ∧ ISl (Rp.int .i64) A w' p_r0_R c_r0_R r0.R ∧ ISl (Rp.int .i64) A w' p_r0_L c_r0_L r0.L ∧ ISl (Rp.int .i64) A w' p_r0_J c_r0_J r0.J ∧ ISl (Rp.int .i64) A w' p_r0_H c_r0_H r0.H ∧ ISl (Rp.sl (Rp.bool)) A w' p_r0_Below c_r0_Below r0.Below ∧ K r0) := by
 refine CallsV.of (l := [.slice p_a0 a0.length c_a0]) Try.func15 rfl Try.ntmps15 rfl ?_
 have hO := Owns.start hA
 have hB := Fr.refl (bl []) w0
 unfold green_Classes at H
 replace h_a0 := h_a0.ch (Ch.start A w0)
 refine Go1.seq ?_
 refine Go1.region ?_
 have hobt := oalloc (t := 28) (cs := #[.slice none 0 0, .slice none 0 0, .slice none 0 0, .slice none 0 0, .slice none 0 0]) ti28 hO rfl
 obtain ⟨w1, B2, hst3, hs4, hop5⟩ := hobt
 refine GoR.op hop5 rfl rfl ?_
 replace hO := hst3.own
 replace h_a0 := h_a0.ch hst3.ch
 replace hB := hB.trans hst3.fr
 refine GoR.nil ?_
 refine Go1.seq ?_
 refine Go1.seq ?_
 refine Go1.region ?_
 refine GoR.op ((op_move rfl) _) rfl rfl ?_
 refine GoR.call (op_call body45 rfl (walk_mult_Validate hO.lt h_a0 H)) rfl rfl ?_
 rintro v11 w8 ⟨r7, rfl, hs9, H⟩
 have hst12 := Stp.same hO hs9
 replace hO := hst12.own
 replace h_a0 := h_a0.ch hst12.ch
 replace hB := hB.trans hst12.fr
 by_cases h13 : r7 = (0 : Int)
 ·replace H := ifp h13 H
  refine GoR.op ((fun w => opB (op_neq rfl rfl w) (ndT h13)) _) rfl rfl ?_
  refine GoR.nil ?_
  refine Go1.condF rfl rfl ?_
  refine Go1.skip ?_
  refine Go1.seq ?_
  refine Go1.region ?_
  refine GoR.op ((op_move rfl) _) rfl rfl ?_
  refine GoR.call (op_call body46 rfl (walk_green_rightIdeals hO.lt h_a0 H)) rfl rfl ?_
  rintro v18 w15 ⟨r14, p_r14, c_r14, rfl, hs16, h_r14, H⟩
  have hst19 := Stp.same hO hs16
  replace hO := hst19.own
  replace h_a0 := h_a0.ch hst19.ch
  replace hB := hB.trans hst19.fr
  refine GoR.op ((op_move rfl) _) rfl rfl ?_
  refine GoR.call (op_call body47 rfl (walk_green_leftIdeals hO.lt h_a0 H)) rfl rfl ?_
  rintro v24 w21 ⟨r20, p_r20, c_r20, rfl, hs22, h_r20, H⟩
  have hst25 := Stp.same hO hs22
  replace hO := hst25.own
  replace h_a0 := h_a0.ch hst25.ch
  replace h_r14 := h_r14.ch hst25.ch
  replace hB := hB.trans hst25.fr
  refine GoR.op ((op_assign rfl) _) rfl rfl ?_
  refine GoR.op ((op_assign rfl) _) rfl rfl ?_
  refine GoR.nil ?_
  refine Go1.seq ?_
  refine Go1.region ?_
  refine GoR.op ((op_move rfl) _) rfl rfl ?_
  refine GoR.op ((op_move rfl) _) rfl rfl ?_
  refine GoR.call (op_call body48 rfl (walk_green_twoSided hO.lt h_r14 h_r20 H)) rfl rfl ?_
  rintro v30 w27 ⟨r26, p_r26, c_r26, rfl, hs28, h_r26, H⟩
  have hst31 := Stp.same hO hs28
  replace hO := hst31.own
  replace h_a0 := h_a0.ch hst31.ch
  replace h_r14 := h_r14.ch hst31.ch
  replace h_r20 := h_r20.ch hst31.ch
  replace hB := hB.trans hst31.fr
  refine GoR.op ((op_assign rfl) _) rfl rfl ?_
  refine GoR.nil ?_
  refine Go1.seq ?_
  refine Go1.region ?_
  refine GoR.op ((op_move rfl) _) rfl rfl ?_
  refine GoR.call (op_call body49 rfl (walk_green_mutual hO.lt h_r14 H)) rfl rfl ?_
  rintro v36 w33 ⟨r32, p_r32, c_r32, rfl, hs34, h_r32, H⟩
  have hst37 := Stp.same hO hs34
  replace hO := hst37.own
  replace h_a0 := h_a0.ch hst37.ch
  replace h_r14 := h_r14.ch hst37.ch
  replace h_r20 := h_r20.ch hst37.ch
  replace h_r26 := h_r26.ch hst37.ch
  replace hB := hB.trans hst37.fr
  refine GoR.op ((op_move rfl) _) rfl rfl ?_
  refine GoR.call (op_call body49 rfl (walk_green_mutual hO.lt h_r20 H)) rfl rfl ?_
  rintro v42 w39 ⟨r38, p_r38, c_r38, rfl, hs40, h_r38, H⟩
  have hst43 := Stp.same hO hs40
  replace hO := hst43.own
  replace h_a0 := h_a0.ch hst43.ch
  replace h_r14 := h_r14.ch hst43.ch
  replace h_r20 := h_r20.ch hst43.ch
  replace h_r26 := h_r26.ch hst43.ch
  replace h_r32 := h_r32.ch hst43.ch
  replace hB := hB.trans hst43.fr
  refine GoR.op ((op_move rfl) _) rfl rfl ?_
  refine GoR.call (op_call body49 rfl (walk_green_mutual hO.lt h_r26 H)) rfl rfl ?_
  rintro v48 w45 ⟨r44, p_r44, c_r44, rfl, hs46, h_r44, H⟩
  have hst49 := Stp.same hO hs46
  replace hO := hst49.own
  replace h_a0 := h_a0.ch hst49.ch
  replace h_r14 := h_r14.ch hst49.ch
  replace h_r20 := h_r20.ch hst49.ch
  replace h_r26 := h_r26.ch hst49.ch
  replace h_r32 := h_r32.ch hst49.ch
  replace h_r38 := h_r38.ch hst49.ch
  replace hB := hB.trans hst49.fr
  refine GoR.op ((op_build Try.underlying28 ti28 (pl := [(0, 1), (1, 1), (2, 1), (3, 1), (4, 1)]) (vs := [(0, .slice p_r32 r32.length c_r32), (1, .slice p_r38 r38.length c_r38), (2, .slice p_r44 r44.length c_r44)]) (cs := #[.slice p_r32 r32.length c_r32, .slice p_r38 r38.length c_r38, .slice p_r44 r44.length c_r44, .slice none 0 0, .slice none 0 0]) (by kernel_rfl) rfl (by kernel_rfl)) _) rfl rfl ?_
  have hobt := oalloc (t := 28) (cs := #[.slice none 0 0, .slice none 0 0, .slice none 0 0, .slice none 0 0, .slice none 0 0]) ti28 hO rfl
  obtain ⟨w50, B51, hst52, hs53, hop54⟩ := hobt
  refine GoR.op hop54 rfl rfl ?_
  replace hO := hst52.own
  replace h_a0 := h_a0.ch hst52.ch
  replace h_r14 := h_r14.ch hst52.ch
  replace h_r20 := h_r20.ch hst52.ch
  replace h_r26 := h_r26.ch hst52.ch
  replace h_r32 := h_r32.ch hst52.ch
  replace h_r38 := h_r38.ch hst52.ch
  replace h_r44 := h_r44.ch hst52.ch
  replace hB := hB.trans hst52.fr
  have hobt := oblkStAgg (us := [.slice p_r32 r32.length c_r32, .slice p_r38 r38.length c_r38, .slice p_r44 r44.length c_r44, .slice none 0 0, .slice none 0 0]) (o := 0) (cs' := #[.slice p_r32 r32.length c_r32, .slice p_r38 r38.length c_r38, .slice p_r44 r44.length c_r44, .slice none 0 0, .slice none 0 0]) 0 hO rfl rfl (Nat.le_of_ble_eq_true rfl) rfl
  obtain ⟨w56, hst57, hop58⟩ := hobt
  refine GoR.op (hop58 ti28 rfl rfl rfl) rfl rfl ?_
  replace hO := hst57.own
  replace h_a0 := h_a0.ch hst57.ch
  replace h_r14 := h_r14.ch hst57.ch
  replace h_r20 := h_r20.ch hst57.ch
  replace h_r26 := h_r26.ch hst57.ch
  replace h_r32 := h_r32.ch hst57.ch
  replace h_r38 := h_r38.ch hst57.ch
  replace h_r44 := h_r44.ch hst57.ch
  replace hB := hB.trans hst57.fr
  refine GoR.nil ?_
  refine Go1.seq ?_
  refine Go1.region ?_
  refine GoR.op ((op_fieldAddr Try.underlying28 rfl ti25 rfl (by decide)) _) rfl rfl ?_
  refine GoR.op ((oblk 0 hO rfl rfl Try.underlying25 rfl rfl) _ (Same.refl _)) rfl rfl ?_
  refine GoR.op ((op_fieldAddr Try.underlying28 rfl ti25 rfl (by decide)) _) rfl rfl ?_
  refine GoR.op ((oblk 0 hO rfl rfl Try.underlying25 rfl rfl) _ (Same.refl _)) rfl rfl ?_
  refine GoR.call (op_call body50 rfl (walk_partition_Meet hO.lt h_r32 h_r38 H)) rfl rfl ?_
  rintro v63 w60 ⟨r59, p_r59, c_r59, rfl, hs61, h_r59, H⟩
  have hst64 := Stp.same hO hs61
  replace hO := hst64.own
  replace h_a0 := h_a0.ch hst64.ch
  replace h_r14 := h_r14.ch hst64.ch
  replace h_r20 := h_r20.ch hst64.ch
  replace h_r26 := h_r26.ch hst64.ch
  replace h_r32 := h_r32.ch hst64.ch
  replace h_r38 := h_r38.ch hst64.ch
  replace h_r44 := h_r44.ch hst64.ch
  replace hB := hB.trans hst64.fr
  refine GoR.op ((op_fieldAddr Try.underlying28 rfl ti25 rfl (by decide)) _) rfl rfl ?_
  have hobt := oblkSt (v := .slice p_r59 r59.length c_r59) (i := 3) 0 hO rfl rfl rfl
  obtain ⟨w65, hst66, hop67⟩ := hobt
  refine GoR.op (hop67 Try.underlying25 rfl ti25 rfl rfl) rfl rfl ?_
  replace hO := hst66.own
  replace h_a0 := h_a0.ch hst66.ch
  replace h_r14 := h_r14.ch hst66.ch
  replace h_r20 := h_r20.ch hst66.ch
  replace h_r26 := h_r26.ch hst66.ch
  replace h_r32 := h_r32.ch hst66.ch
  replace h_r38 := h_r38.ch hst66.ch
  replace h_r44 := h_r44.ch hst66.ch
  replace h_r59 := h_r59.ch hst66.ch
  replace hB := hB.trans hst66.fr
  refine GoR.nil ?_
  refine Go1.seq ?_
  refine Go1.region ?_
  refine GoR.op ((op_fieldAddr Try.underlying28 rfl ti25 rfl (by decide)) _) rfl rfl ?_
  refine GoR.op ((oblk 0 hO rfl rfl Try.underlying25 rfl rfl) _ (Same.refl _)) rfl rfl ?_
  refine GoR.call (op_call body51 rfl (walk_partition_Classes hO.lt h_r44 H)) rfl rfl ?_
  rintro v72 w69 ⟨r68, p_r68, c_r68, rfl, hs70, h_r68, H⟩
  have hst73 := Stp.same hO hs70
  replace hO := hst73.own
  replace h_a0 := h_a0.ch hst73.ch
  replace h_r14 := h_r14.ch hst73.ch
  replace h_r20 := h_r20.ch hst73.ch
  replace h_r26 := h_r26.ch hst73.ch
  replace h_r32 := h_r32.ch hst73.ch
  replace h_r38 := h_r38.ch hst73.ch
  replace h_r44 := h_r44.ch hst73.ch
  replace h_r59 := h_r59.ch hst73.ch
  replace hB := hB.trans hst73.fr
  refine GoR.op ((op_assign rfl) _) rfl rfl ?_
  refine GoR.nil ?_
  refine Go1.seq ?_
  refine Go1.region ?_
  refine GoR.op ((op_move rfl) _) rfl rfl ?_
  refine GoR.op ((op_len Try.underlying22 rfl) _) rfl rfl ?_
  replace H := H h_r68.bd
  obtain ⟨h81, H⟩ := H
  obtain ⟨h82, H⟩ := H
  have hobt := t2make (m := (r68.length : Int)) (e' := 4) Fl.bool Try.underlying26 ti38 hO h81 h82 (by decide)
  obtain ⟨w74, p75, hst77, hs79, hop80⟩ := hobt
  refine GoR.op (hop80 rfl rfl) rfl rfl ?_
  replace hO := hst77.own
  replace h_a0 := h_a0.ch hst77.ch
  replace h_r14 := h_r14.ch hst77.ch
  replace h_r20 := h_r20.ch hst77.ch
  replace h_r26 := h_r26.ch hst77.ch
  replace h_r32 := h_r32.ch hst77.ch
  replace h_r38 := h_r38.ch hst77.ch
  replace h_r44 := h_r44.ch hst77.ch
  replace h_r59 := h_r59.ch hst77.ch
  replace h_r68 := h_r68.ch hst77.ch
  replace hB := hB.trans hst77.fr
  refine GoR.op ((op_fieldAddr Try.underlying28 rfl ti26 rfl (by decide)) _) rfl rfl ?_
  have hobt := oblkSt (v := .slice p75 r68.length r68.length) (i := 4) 1 hO rfl rfl rfl
  obtain ⟨w84, hst85, hop86⟩ := hobt
  refine GoR.op (hop86 Try.underlying26 rfl ti26 rfl rfl) rfl rfl ?_
  replace hO := hst85.own
  replace h_a0 := h_a0.ch hst85.ch
  replace h_r14 := h_r14.ch hst85.ch
  replace h_r20 := h_r20.ch hst85.ch
  replace h_r26 := h_r26.ch hst85.ch
  replace h_r32 := h_r32.ch hst85.ch
  replace h_r38 := h_r38.ch hst85.ch
  replace h_r44 := h_r44.ch hst85.ch
  replace h_r59 := h_r59.ch hst85.ch
  replace h_r68 := h_r68.ch hst85.ch
  replace hB := hB.trans hst85.fr
  refine GoR.nil ?_
  refine Go1.seq ?_
  refine Go1.seq ?_
  refine Go1.region ?_
  refine GoR.op ((op_move rfl) _) rfl rfl ?_
  refine GoR.op ((op_len Try.underlying22 rfl) _) rfl rfl ?_
  refine GoR.op ((op_move rfl) _) rfl rfl ?_
  refine GoR.nil ?_
  refine Go1.block ?_
  refine Go1.loopW (S := Nat × List (List Bool)) (fun s σ w => ∃ (n92 : Nat), ∃ (p90 : Option Addr), ∃ (c91 : Nat), ∃ (hs93 : Hd), agrees σ [(2, .pointer (some ⟨B2, 0, none⟩)), (5, .slice p_r26 r26.length c_r26), (6, .pointer (some ⟨B51, 0, none⟩)), (7, .slice p_r68 r68.length c_r68), (43, .slice p_r68 r68.length c_r68), (44, .int .i64 (r68.length : Int)), (45, .int .i64 ((s.1) : Int))] ∧ Owns w0.heap.size w [t2 Fl.bool 38 4 p90 n92 c91 hs93 (s.2), .blk B51 (.cells #[.slice p_r32 r32.length c_r32, .slice p_r38 r38.length c_r38, .slice p_r44 r44.length c_r44, .slice p_r59 r59.length c_r59, .slice p90 n92 c91] 28 (0, 0)), .blk B2 (.cells #[.slice none 0 0, .slice none 0 0, .slice none 0 0, .slice none 0 0, .slice none 0 0] 28 (0, 0))] A ∧ ISl (Rp.sl (Rp.int .u64)) (bl [t2 Fl.bool 38 4 p90 n92 c91 hs93 (s.2), .blk B51 (.cells #[.slice p_r32 r32.length c_r32, .slice p_r38 r38.length c_r38, .slice p_r44 r44.length c_r44, .slice p_r59 r59.length c_r59, .slice p90 n92 c91] 28 (0, 0)), .blk B2 (.cells #[.slice none 0 0, .slice none 0 0, .slice none 0 0, .slice none 0 0, .slice none 0 0] 28 (0, 0))] ++ A) w p_r26 c_r26 r26 ∧ ISl (Rp.int .i64) (bl [t2 Fl.bool 38 4 p90 n92 c91 hs93 (s.2), .blk B51 (.cells #[.slice p_r32 r32.length c_r32, .slice p_r38 r38.length c_r38, .slice p_r44 r44.length c_r44, .slice p_r59 r59.length c_r59, .slice p90 n92 c91] 28 (0, 0)), .blk B2 (.cells #[.slice none 0 0, .slice none 0 0, .slice none 0 0, .slice none 0 0, .slice none 0 0] 28 (0, 0))] ++ A) w p_r32 c_r32 r32 ∧ ISl (Rp.int .i64) (bl [t2 Fl.bool 38 4 p90 n92 c91 hs93 (s.2), .blk B51 (.cells #[.slice p_r32 r32.length c_r32, .slice p_r38 r38.length c_r38, .slice p_r44 r44.length c_r44, .slice p_r59 r59.length c_r59, .slice p90 n92 c91] 28 (0, 0)), .blk B2 (.cells #[.slice none 0 0, .slice none 0 0, .slice none 0 0, .slice none 0 0, .slice none 0 0] 28 (0, 0))] ++ A) w p_r38 c_r38 r38 ∧ ISl (Rp.int .i64) (bl [t2 Fl.bool 38 4 p90 n92 c91 hs93 (s.2), .blk B51 (.cells #[.slice p_r32 r32.length c_r32, .slice p_r38 r38.length c_r38, .slice p_r44 r44.length c_r44, .slice p_r59 r59.length c_r59, .slice p90 n92 c91] 28 (0, 0)), .blk B2 (.cells #[.slice none 0 0, .slice none 0 0, .slice none 0 0, .slice none 0 0, .slice none 0 0] 28 (0, 0))] ++ A) w p_r44 c_r44 r44 ∧ ISl (Rp.int .i64) (bl [t2 Fl.bool 38 4 p90 n92 c91 hs93 (s.2), .blk B51 (.cells #[.slice p_r32 r32.length c_r32, .slice p_r38 r38.length c_r38, .slice p_r44 r44.length c_r44, .slice p_r59 r59.length c_r59, .slice p90 n92 c91] 28 (0, 0)), .blk B2 (.cells #[.slice none 0 0, .slice none 0 0, .slice none 0 0, .slice none 0 0, .slice none 0 0] 28 (0, 0))] ++ A) w p_r59 c_r59 r59 ∧ ISl (Rp.sl (Rp.int .i64)) (bl [t2 Fl.bool 38 4 p90 n92 c91 hs93 (s.2), .blk B51 (.cells #[.slice p_r32 r32.length c_r32, .slice p_r38 r38.length c_r38, .slice p_r44 r44.length c_r44, .slice p_r59 r59.length c_r59, .slice p90 n92 c91] 28 (0, 0)), .blk B2 (.cells #[.slice none 0 0, .slice none 0 0, .slice none 0 0, .slice none 0 0, .slice none 0 0] 28 (0, 0))] ++ A) w p_r68 c_r68 r68 ∧ Fr (bl []) w0 (bl [t2 Fl.bool 38 4 p90 n92 c91 hs93 (s.2), .blk B51 (.cells #[.slice p_r32 r32.length c_r32, .slice p_r38 r38.length c_r38, .slice p_r44 r44.length c_r44, .slice p_r59 r59.length c_r59, .slice p90 n92 c91] 28 (0, 0)), .blk B2 (.cells #[.slice none 0 0, .slice none 0 0, .slice none 0 0, .slice none 0 0, .slice none 0 0] 28 (0, 0))]) w) H ⟨r68.length, p75, r68.length, (fun _ => (none, 0)), ⟨rfl, rfl, rfl, rfl, rfl, rfl, rfl, trivial⟩, hO, h_r26, h_r32, h_r38, h_r44, h_r59, h_r68, hB⟩ ?_
  rintro X1 ⟨k1_88, d_89⟩ H hX1 σ w87 ⟨n92, p90, c91, hs93, hag, hO, h_r26, h_r32, h_r38, h_r44, h_r59, h_r68, hB⟩
  dsimp only at H
  refine Go1.keep [(2, .pointer (some ⟨B2, 0, none⟩)), (5, .slice p_r26 r26.length c_r26), (6, .pointer (some ⟨B51, 0, none⟩)), (7, .slice p_r68 r68.length c_r68), (43, .slice p_r68 r68.length c_r68), (44, .int .i64 (r68.length : Int)), (45, .int .i64 (k1_88 : Int))] hag ?_
  refine Go1.seq ?_
  refine Go1.region ?_
  by_cases h94 : (k1_88 : Int) < (r68.length : Int)
  ·replace H := ifp h94 H
   refine GoR.op ((fun w => opB (op_lss rfl rfl w) (decide_eq_true h94)) _) rfl rfl ?_
   refine GoR.nil ?_
   refine Go1.seq ?_
   refine Go1.condT rfl rfl ?_
   refine Go1.skip ?_
   refine Go1.seq ?_
   refine Go1.block ?_
   refine Go1.seq ?_
   refine Go1.region ?_
   refine GoR.op ((op_move rfl) _) rfl rfl ?_
   obtain ⟨h95, H⟩ := H
   obtain ⟨h96, H⟩ := H
   refine GoR.op ((op_index Try.underlying22 ti25 rfl rfl h95 h96 (h_r68.some_ h95 h96)) _) rfl rfl ?_
   have hobt := ldSl h_r68 h95 h96
   obtain ⟨p97, c98, hi99, hl100⟩ := hobt
   refine GoR.op ((hl100 Try.underlying25 rfl rfl) _ (Same.refl _)) rfl rfl ?_
   refine GoR.op ((op_assign rfl) _) rfl rfl ?_
   refine GoR.op ((op_assign rfl) _) rfl rfl ?_
   refine GoR.nil ?_
   refine Go1.seq ?_
   refine Go1.drawS 1 [(0, .pure), (1, .stable), (2, .pure), (3, .pure), (4, .pure), (5, .loud), (6, .pure), (7, .last)] mixed (by kernel_rfl) ?_
   intro w101 hs102
   have hst103 := Stp.same hO hs102
   replace hO := hst103.own
   replace h_r26 := h_r26.ch hst103.ch
   replace h_r32 := h_r32.ch hst103.ch
   replace h_r38 := h_r38.ch hst103.ch
   replace h_r44 := h_r44.ch hst103.ch
   replace h_r59 := h_r59.ch hst103.ch
   replace h_r68 := h_r68.ch hst103.ch
   replace hi99 := hi99.ch hst103.ch
   replace hB := hB.trans hst103.fr
   refine GoQ.pure rfl (op_fieldAddr Try.underlying28 rfl ti26 rfl (by decide)) rfl rfl ?_
   refine GoQ.stable rfl (oblk 1 hO rfl rfl Try.underlying26 rfl rfl) rfl rfl ?_
   refine GoQ.pure rfl (op_move rfl) rfl rfl ?_
   refine GoQ.pure rfl (op_move rfl) rfl rfl ?_
   refine GoQ.pure rfl (op_len Try.underlying22 rfl) rfl rfl ?_
   obtain ⟨h111, H⟩ := H
   obtain ⟨h112, H⟩ := H
   have hobt := omake (n := (r68.length : Int)) (r := Rp.bool) (d := false) Try.underlying38 ti4 (fun _ _ => rfl) rfl hO h111 h112 (by decide)
   obtain ⟨w104, p105, vs106, hst107, hE108, hs109, hop110⟩ := hobt
   refine GoQ.loud rfl (hop110 rfl rfl) hs109 rfl rfl ?_
   replace hO := hst107.own
   replace h_r26 := h_r26.ch hst107.ch
   replace h_r32 := h_r32.ch hst107.ch
   replace h_r38 := h_r38.ch hst107.ch
   replace h_r44 := h_r44.ch hst107.ch
   replace h_r59 := h_r59.ch hst107.ch
   replace h_r68 := h_r68.ch hst107.ch
   replace hi99 := hi99.ch hst107.ch
   replace hB := hB.trans hst107.fr
   obtain ⟨h114, H⟩ := H
   obtain ⟨h115, H⟩ := H
   refine GoQ.pure rfl (op_index Try.underlying26 ti38 rfl rfl h114 (ltn (t2neq 1 hO rfl) h115) (t2some 1 hO rfl h114 h115)) rfl rfl ?_
   have hst116 := Stp.front 1 hO rfl
   replace hE108 := hE108.ch hst116.ch
   replace hO := hst116.own
   replace h_r26 := h_r26.ch hst116.ch
   replace h_r32 := h_r32.ch hst116.ch
   replace h_r38 := h_r38.ch hst116.ch
   replace h_r44 := h_r44.ch hst116.ch
   replace h_r59 := h_r59.ch hst116.ch
   replace h_r68 := h_r68.ch hst116.ch
   replace hi99 := hi99.ch hst116.ch
   replace hB := hB.trans hst116.fr
   have hst117 := Stp.front 1 hO rfl
   replace hE108 := hE108.ch hst117.ch
   replace hO := hst117.own
   replace h_r26 := h_r26.ch hst117.ch
   replace h_r32 := h_r32.ch hst117.ch
   replace h_r38 := h_r38.ch hst117.ch
   replace h_r44 := h_r44.ch hst117.ch
   replace h_r59 := h_r59.ch hst117.ch
   replace h_r68 := h_r68.ch hst117.ch
   replace hi99 := hi99.ch hst117.ch
   replace hB := hB.trans hst117.fr
   have hobt := t2put (hf := Fl.bool) hO hE108 h114 h115
   obtain ⟨w118, hst119, hop120⟩ := hobt
   refine GoQ.last rfl (hop120 Try.underlying38 rfl ti38 rfl rfl) rfl rfl ?_
   replace hO := hst119.own
   replace h_r26 := h_r26.ch hst119.ch
   replace h_r32 := h_r32.ch hst119.ch
   replace h_r38 := h_r38.ch hst119.ch
   replace h_r44 := h_r44.ch hst119.ch
   replace h_r59 := h_r59.ch hst119.ch
   replace h_r68 := h_r68.ch hst119.ch
   replace hi99 := hi99.ch hst119.ch
   replace hB := hB.trans hst119.fr
   refine GoQ.nil ?_
   refine Go1.seq ?_
   refine Go1.region ?_
   refine GoR.op ((op_move rfl) _) rfl rfl ?_
   refine GoR.op ((op_len Try.underlying22 rfl) _) rfl rfl ?_
   refine GoR.op ((op_move rfl) _) rfl rfl ?_
   refine GoR.nil ?_
   refine Go1.block ?_
   refine Go1.loopW (S := Nat × List (List Bool)) (fun s σ w => agrees σ [(2, .pointer (some ⟨B2, 0, none⟩)), (5, .slice p_r26 r26.length c_r26), (6, .pointer (some ⟨B51, 0, none⟩)), (7, .slice p_r68 r68.length c_r68), (8, .int .i64 (k1_88 : Int)), (9, .slice p97 ((ix r68 (k1_88 : Int)).length) c98), (43, .slice p_r68 r68.length c_r68), (44, .int .i64 (r68.length : Int)), (45, .int .i64 (k1_88 : Int)), (57, .slice p_r68 r68.length c_r68), (58, .int .i64 (r68.length : Int)), (59, .int .i64 ((s.1) : Int))] ∧ Owns w0.heap.size w [t2 Fl.bool 38 4 p90 n92 c91 (hup hs93 (k1_88 : Int).toNat (p105, r68.length)) (s.2), .blk B51 (.cells #[.slice p_r32 r32.length c_r32, .slice p_r38 r38.length c_r38, .slice p_r44 r44.length c_r44, .slice p_r59 r59.length c_r59, .slice p90 n92 c91] 28 (0, 0)), .blk B2 (.cells #[.slice none 0 0, .slice none 0 0, .slice none 0 0, .slice none 0 0, .slice none 0 0] 28 (0, 0))] A ∧ ISl (Rp.sl (Rp.int .u64)) (bl [t2 Fl.bool 38 4 p90 n92 c91 (hup hs93 (k1_88 : Int).toNat (p105, r68.length)) (s.2), .blk B51 (.cells #[.slice p_r32 r32.length c_r32, .slice p_r38 r38.length c_r38, .slice p_r44 r44.length c_r44, .slice p_r59 r59.length c_r59, .slice p90 n92 c91] 28 (0, 0)), .blk B2 (.cells #[.slice none 0 0, .slice none 0 0, .slice none 0 0, .slice none 0 0, .slice none 0 0] 28 (0, 0))] ++ A) w p_r26 c_r26 r26 ∧ ISl (Rp.int .i64) (bl [t2 Fl.bool 38 4 p90 n92 c91 (hup hs93 (k1_88 : Int).toNat (p105, r68.length)) (s.2), .blk B51 (.cells #[.slice p_r32 r32.length c_r32, .slice p_r38 r38.length c_r38, .slice p_r44 r44.length c_r44, .slice p_r59 r59.length c_r59, .slice p90 n92 c91] 28 (0, 0)), .blk B2 (.cells #[.slice none 0 0, .slice none 0 0, .slice none 0 0, .slice none 0 0, .slice none 0 0] 28 (0, 0))] ++ A) w p_r32 c_r32 r32 ∧ ISl (Rp.int .i64) (bl [t2 Fl.bool 38 4 p90 n92 c91 (hup hs93 (k1_88 : Int).toNat (p105, r68.length)) (s.2), .blk B51 (.cells #[.slice p_r32 r32.length c_r32, .slice p_r38 r38.length c_r38, .slice p_r44 r44.length c_r44, .slice p_r59 r59.length c_r59, .slice p90 n92 c91] 28 (0, 0)), .blk B2 (.cells #[.slice none 0 0, .slice none 0 0, .slice none 0 0, .slice none 0 0, .slice none 0 0] 28 (0, 0))] ++ A) w p_r38 c_r38 r38 ∧ ISl (Rp.int .i64) (bl [t2 Fl.bool 38 4 p90 n92 c91 (hup hs93 (k1_88 : Int).toNat (p105, r68.length)) (s.2), .blk B51 (.cells #[.slice p_r32 r32.length c_r32, .slice p_r38 r38.length c_r38, .slice p_r44 r44.length c_r44, .slice p_r59 r59.length c_r59, .slice p90 n92 c91] 28 (0, 0)), .blk B2 (.cells #[.slice none 0 0, .slice none 0 0, .slice none 0 0, .slice none 0 0, .slice none 0 0] 28 (0, 0))] ++ A) w p_r44 c_r44 r44 ∧ ISl (Rp.int .i64) (bl [t2 Fl.bool 38 4 p90 n92 c91 (hup hs93 (k1_88 : Int).toNat (p105, r68.length)) (s.2), .blk B51 (.cells #[.slice p_r32 r32.length c_r32, .slice p_r38 r38.length c_r38, .slice p_r44 r44.length c_r44, .slice p_r59 r59.length c_r59, .slice p90 n92 c91] 28 (0, 0)), .blk B2 (.cells #[.slice none 0 0, .slice none 0 0, .slice none 0 0, .slice none 0 0, .slice none 0 0] 28 (0, 0))] ++ A) w p_r59 c_r59 r59 ∧ ISl (Rp.sl (Rp.int .i64)) (bl [t2 Fl.bool 38 4 p90 n92 c91 (hup hs93 (k1_88 : Int).toNat (p105, r68.length)) (s.2), .blk B51 (.cells #[.slice p_r32 r32.length c_r32, .slice p_r38 r38.length c_r38, .slice p_r44 r44.length c_r44, .slice p_r59 r59.length c_r59, .slice p90 n92 c91] 28 (0, 0)), .blk B2 (.cells #[.slice none 0 0, .slice none 0 0, .slice none 0 0, .slice none 0 0, .slice none 0 0] 28 (0, 0))] ++ A) w p_r68 c_r68 r68 ∧ ISl (Rp.int .i64) (bl [t2 Fl.bool 38 4 p90 n92 c91 (hup hs93 (k1_88 : Int).toNat (p105, r68.length)) (s.2), .blk B51 (.cells #[.slice p_r32 r32.length c_r32, .slice p_r38 r38.length c_r38, .slice p_r44 r44.length c_r44, .slice p_r59 r59.length c_r59, .slice p90 n92 c91] 28 (0, 0)), .blk B2 (.cells #[.slice none 0 0, .slice none 0 0, .slice none 0 0, .slice none 0 0, .slice none 0 0] 28 (0, 0))] ++ A) w p97 c98 (ix r68 (k1_88 : Int)) ∧ Fr (bl []) w0 (bl [t2 Fl.bool 38 4 p90 n92 c91 (hup hs93 (k1_88 : Int).toNat (p105, r68.length)) (s.2), .blk B51 (.cells #[.slice p_r32 r32.length c_r32, .slice p_r38 r38.length c_r38, .slice p_r44 r44.length c_r44, .slice p_r59 r59.length c_r59, .slice p90 n92 c91] 28 (0, 0)), .blk B2 (.cells #[.slice none 0 0, .slice none 0 0, .slice none 0 0, .slice none 0 0, .slice none 0 0] 28 (0, 0))]) w) H ⟨⟨rfl, rfl, rfl, rfl, rfl, rfl, rfl, rfl, rfl, rfl, rfl, rfl, trivial⟩, hO, h_r26, h_r32, h_r38, h_r44, h_r59, h_r68, hi99, hB⟩ ?_
   rintro X2 ⟨k2_122, d_123⟩ H hX2 σ w121 ⟨hag, hO, h_r26, h_r32, h_r38, h_r44, h_r59, h_r68, hi99, hB⟩
   dsimp only at H
   refine Go1.keep [(2, .pointer (some ⟨B2, 0, none⟩)), (5, .slice p_r26 r26.length c_r26), (6, .pointer (some ⟨B51, 0, none⟩)), (7, .slice p_r68 r68.length c_r68), (8, .int .i64 (k1_88 : Int)), (9, .slice p97 ((ix r68 (k1_88 : Int)).length) c98), (43, .slice p_r68 r68.length c_r68), (44, .int .i64 (r68.length : Int)), (45, .int .i64 (k1_88 : Int)), (57, .slice p_r68 r68.length c_r68), (58, .int .i64 (r68.length : Int)), (59, .int .i64 (k2_122 : Int))] hag ?_
   refine Go1.seq ?_
   refine Go1.region ?_
   by_cases h124 : (k2_122 : Int) < (r68.length : Int)
   ·replace H := ifp h124 H
    refine GoR.op ((fun w => opB (op_lss rfl rfl w) (decide_eq_true h124)) _) rfl rfl ?_
    refine GoR.nil ?_
    refine Go1.seq ?_
    refine Go1.condT rfl rfl ?_
    refine Go1.skip ?_
    refine Go1.seq ?_
    refine Go1.block ?_
    refine Go1.seq ?_
    refine Go1.region ?_
    refine GoR.op ((op_move rfl) _) rfl rfl ?_
    obtain ⟨h125, H⟩ := H
    obtain ⟨h126, H⟩ := H
    refine GoR.op ((op_index Try.underlying22 ti25 rfl rfl h125 h126 (h_r68.some_ h125 h126)) _) rfl rfl ?_
    have hobt := ldSl h_r68 h125 h126
    obtain ⟨p127, c128, hi129, hl130⟩ := hobt
    refine GoR.op ((hl130 Try.underlying25 rfl rfl) _ (Same.refl _)) rfl rfl ?_
    refine GoR.op ((op_assign rfl) _) rfl rfl ?_
    refine GoR.op ((op_assign rfl) _) rfl rfl ?_
    refine GoR.nil ?_
    refine Go1.drawS 1 [(0, .pure), (1, .stable), (2, .pure), (3, .pure), (4, .stable), (5, .pure), (6, .pure), (7, .pure), (8, .pure), (9, .stable), (10, .pure), (11, .stable), (12, .pure), (13, .pure), (14, .stable), (15, .loud), (16, .pure), (17, .last)] mixed (by kernel_rfl) ?_
    intro w131 hs132
    have hst133 := Stp.same hO hs132
    replace hO := hst133.own
    replace h_r26 := h_r26.ch hst133.ch
    replace h_r32 := h_r32.ch hst133.ch
    replace h_r38 := h_r38.ch hst133.ch
    replace h_r44 := h_r44.ch hst133.ch
    replace h_r59 := h_r59.ch hst133.ch
    replace h_r68 := h_r68.ch hst133.ch
    replace hi99 := hi99.ch hst133.ch
    replace hi129 := hi129.ch hst133.ch
    replace hB := hB.trans hst133.fr
    refine GoQ.pure rfl (op_fieldAddr Try.underlying28 rfl ti26 rfl (by decide)) rfl rfl ?_
    refine GoQ.stable rfl (oblk 1 hO rfl rfl Try.underlying26 rfl rfl) rfl rfl ?_
    refine GoQ.pure rfl (op_move rfl) rfl rfl ?_
    obtain ⟨h134, H⟩ := H
    obtain ⟨h135, H⟩ := H
    refine GoQ.pure rfl (op_index Try.underlying26 ti38 rfl rfl h134 (ltn (t2neq 0 hO rfl) h135) (t2some 0 hO rfl h134 h135)) rfl rfl ?_
    refine GoQ.stable rfl (t2head 0 hO rfl h134 h135 Try.underlying38 rfl rfl) rfl rfl ?_
    refine GoQ.pure rfl (op_move rfl) rfl rfl ?_
    refine GoQ.pure rfl (op_move rfl) rfl rfl ?_
    refine GoQ.pure rfl (op_move rfl) rfl rfl ?_
    obtain ⟨h136, H⟩ := H
    obtain ⟨h137, H⟩ := H
    refine GoQ.pure rfl (op_index Try.underlying25 ti3 rfl rfl h136 h137 (hi129.some_ h136 h137)) rfl rfl ?_
    refine GoQ.stable rfl (ldInt hi129 h136 h137 Try.underlying3 rfl rfl) rfl rfl ?_
    obtain ⟨h138, H⟩ := H
    obtain ⟨h139, H⟩ := H
    refine GoQ.pure rfl (op_index Try.underlying56 ti62 rfl rfl h138 h139 (h_r26.some_ h138 h139)) rfl rfl ?_
    have hobt := ldSl h_r26 h138 h139
    obtain ⟨p140, c141, hi142, hl143⟩ := hobt
    refine GoQ.stable rfl (hl143 Try.underlying62 rfl rfl) rfl rfl ?_
    refine GoQ.pure rfl (op_move rfl) rfl rfl ?_
    obtain ⟨h144, H⟩ := H
    obtain ⟨h145, H⟩ := H
    refine GoQ.pure rfl (op_index Try.underlying25 ti3 rfl rfl h144 h145 (hi99.some_ h144 h145)) rfl rfl ?_
    refine GoQ.stable rfl (ldInt hi99 h144 h145 Try.underlying3 rfl rfl) rfl rfl ?_
    refine GoQ.call rfl (op_call body52 rfl (walk_green_ideal_has hO.lt hi142 H)) (fun v w hr => by obtain ⟨_, _, hs, _⟩ := hr; assumption) rfl rfl ?_
    rintro v150 w147 ⟨r146, rfl, hs148, H⟩
    have hst151 := Stp.same hO hs148
    replace hO := hst151.own
    replace h_r26 := h_r26.ch hst151.ch
    replace h_r32 := h_r32.ch hst151.ch
    replace h_r38 := h_r38.ch hst151.ch
    replace h_r44 := h_r44.ch hst151.ch
    replace h_r59 := h_r59.ch hst151.ch
    replace h_r68 := h_r68.ch hst151.ch
    replace hi99 := hi99.ch hst151.ch
    replace hi129 := hi129.ch hst151.ch
    replace hi142 := hi142.ch hst151.ch
    replace hB := hB.trans hst151.fr
    obtain ⟨h152, H⟩ := H
    obtain ⟨h153, H⟩ := H
    refine GoQ.pure rfl (op_index Try.underlying38 ti4 rfl rfl h152 h153 (t2isome 0 hO rfl h134 h135 h152 h153)) rfl rfl ?_
    have hobt := t2st (r := Rp.bool) (hf := Fl.bool) rfl 0 hO rfl h134 h135 h152 h153 (v := .bool r146) (u := r146) rfl rfl
    obtain ⟨w154, hst155, hop156⟩ := hobt
    refine GoQ.last rfl (hop156 Try.underlying4 rfl ti4 rfl rfl) rfl rfl ?_
    replace hO := hst155.own
    replace h_r26 := h_r26.ch hst155.ch
    replace h_r32 := h_r32.ch hst155.ch
    replace h_r38 := h_r38.ch hst155.ch
    replace h_r44 := h_r44.ch hst155.ch
    replace h_r59 := h_r59.ch hst155.ch
    replace h_r68 := h_r68.ch hst155.ch
    replace hi99 := hi99.ch hst155.ch
    replace hi129 := hi129.ch hst155.ch
    replace hi142 := hi142.ch hst155.ch
    replace hB := hB.trans hst155.fr
    refine GoQ.nil ?_
    refine Go1.inBlock ?_
    refine Go1.region ?_
    refine GoR.op ((op_add rfl rfl (wrap_i64 (natbd h124 h_r68.bd))) _) rfl rfl ?_
    refine GoR.op ((op_move rfl) _) rfl rfl ?_
    refine GoR.nil ?_
    exact hX2 _ H _ _ ⟨⟨rfl, rfl, rfl, rfl, rfl, rfl, rfl, rfl, rfl, rfl, rfl, rfl, trivial⟩, hO, h_r26, h_r32, h_r38, h_r44, h_r59, h_r68, hi99, hB⟩
   ·replace H := ifn h124 H
    refine GoR.op ((fun w => opB (op_lss rfl rfl w) (decide_eq_false h124)) _) rfl rfl ?_
    refine GoR.nil ?_
    refine Go1.seq ?_
    refine Go1.condF rfl rfl ?_
    refine Go1.exit rfl ?_
    refine Go1.inBlock ?_
    refine Go1.region ?_
    refine GoR.op ((op_add rfl rfl (wrap_i64 (natbd h94 h_r68.bd))) _) rfl rfl ?_
    refine GoR.op ((op_move rfl) _) rfl rfl ?_
    refine GoR.nil ?_
    exact hX1 _ H _ _ ⟨n92, p90, c91, hup hs93 (k1_88 : Int).toNat (p105, r68.length), ⟨rfl, rfl, rfl, rfl, rfl, rfl, rfl, trivial⟩, hO, h_r26, h_r32, h_r38, h_r44, h_r59, h_r68, hB⟩
  ·replace H := ifn h94 H
   refine GoR.op ((fun w => opB (op_lss rfl rfl w) (decide_eq_false h94)) _) rfl rfl ?_
   refine GoR.nil ?_
   refine Go1.seq ?_
   refine Go1.condF rfl rfl ?_
   refine Go1.exit rfl ?_
   refine Go1.seq ?_
   refine Go1.region ?_
   refine GoR.op ((oblkAgg (vs := [.slice p_r32 r32.length c_r32, .slice p_r38 r38.length c_r38, .slice p_r44 r44.length c_r44, .slice p_r59 r59.length c_r59, .slice p90 n92 c91]) 1 hO rfl rfl Try.underlying28 rfl ti28 rfl) _ (Same.refl _)) rfl rfl ?_
   have hobt := oblkStAgg (us := [.slice p_r32 r32.length c_r32, .slice p_r38 r38.length c_r38, .slice p_r44 r44.length c_r44, .slice p_r59 r59.length c_r59, .slice p90 n92 c91]) (o := 0) (cs' := #[.slice p_r32 r32.length c_r32, .slice p_r38 r38.length c_r38, .slice p_r44 r44.length c_r44, .slice p_r59 r59.length c_r59, .slice p90 n92 c91]) 2 hO rfl rfl (Nat.le_of_ble_eq_true rfl) rfl
   obtain ⟨w157, hst158, hop159⟩ := hobt
   refine GoR.op (hop159 ti28 rfl rfl rfl) rfl rfl ?_
   replace hO := hst158.own
   replace h_r26 := h_r26.ch hst158.ch
   replace h_r32 := h_r32.ch hst158.ch
   replace h_r38 := h_r38.ch hst158.ch
   replace h_r44 := h_r44.ch hst158.ch
   replace h_r59 := h_r59.ch hst158.ch
   replace h_r68 := h_r68.ch hst158.ch
   replace hB := hB.trans hst158.fr
   refine GoR.nil ?_
   have hobt := t2freezeA 0 hO rfl
   obtain ⟨hO1, hc162, hi160, hn161⟩ := hobt
   replace h_r26 := h_r26.ch hc162
   replace h_r32 := h_r32.ch hc162
   replace h_r38 := h_r38.ch hc162
   replace h_r44 := h_r44.ch hc162
   replace h_r59 := h_r59.ch hc162
   replace h_r68 := h_r68.ch hc162
   replace hB := hB.trans (Owns.dropFr _ _ 0)
   replace hO := hO1; clear hO1
   refine Go1.retC1 Try.func15 rfl rfl (run_loadBlk (vs := [.slice p_r32 r32.length c_r32, .slice p_r38 r38.length c_r38, .slice p_r44 r44.length c_r44, .slice p_r59 r59.length c_r59, .slice p90 n92 c91]) 1 hO rfl rfl Try.underlying28 rfl ti28) ?_
   exact ⟨(⟨r32, r38, r44, r59, d_89⟩ : Green), p_r32, c_r32, p_r38, c_r38, p_r44, c_r44, p_r59, c_r59, p90, c91, (congrArg (fun l => Value.agg (List.toArray l)) (cons_eq rfl (cons_eq rfl (cons_eq rfl (cons_eq rfl (cons_eq (congrArg (fun nn => Value.slice p90 nn c91) hn161) rfl)))))), hB.same, (h_r32.ch (Ch.weak _ _ _)), (h_r38.ch (Ch.weak _ _ _)), (h_r44.ch (Ch.weak _ _ _)), (h_r59.ch (Ch.weak _ _ _)), (hi160.ch (Ch.weak _ _ _)), H⟩
 ·replace H := ifn h13 H
  refine GoR.op ((fun w => opB (op_neq rfl rfl w) (ndF h13)) _) rfl rfl ?_
  refine GoR.nil ?_
  refine Go1.condT rfl rfl ?_
  refine Go1.seq ?_
  refine Go1.region ?_
  refine GoR.op ((op_build Try.underlying28 ti28 (pl := [(0, 1), (1, 1), (2, 1), (3, 1), (4, 1)]) (vs := []) (cs := #[.slice none 0 0, .slice none 0 0, .slice none 0 0, .slice none 0 0, .slice none 0 0]) (by kernel_rfl) rfl (by kernel_rfl)) _) rfl rfl ?_
  have hobt := oblkStAgg (us := [.slice none 0 0, .slice none 0 0, .slice none 0 0, .slice none 0 0, .slice none 0 0]) (o := 0) (cs' := #[.slice none 0 0, .slice none 0 0, .slice none 0 0, .slice none 0 0, .slice none 0 0]) 0 hO rfl rfl (Nat.le_of_ble_eq_true rfl) rfl
  obtain ⟨w163, hst164, hop165⟩ := hobt
  refine GoR.op (hop165 ti28 rfl rfl rfl) rfl rfl ?_
  replace hO := hst164.own
  replace h_a0 := h_a0.ch hst164.ch
  replace hB := hB.trans hst164.fr
  refine GoR.nil ?_
  refine Go1.retC1 Try.func15 rfl rfl (run_loadBlk (vs := [.slice none 0 0, .slice none 0 0, .slice none 0 0, .slice none 0 0, .slice none 0 0]) 0 hO rfl rfl Try.underlying28 rfl ti28) ?_
  exact ⟨(⟨([] : List Int), ([] : List Int), ([] : List Int), ([] : List Int), ([] : List (List Bool))⟩ : Green), none, 0, none, 0, none, 0, none, 0, none, 0, rfl, hB.same, (ISl.null _ _ _), (ISl.null _ _ _), (ISl.null _ _ _), (ISl.null _ _ _), (ISl.null _ _ _), H⟩
theorem body22 : Body Try.prog 22 := ⟨Try.f22, Try.func22, rfl, by kernel_rfl⟩
theorem walk_ref03_Same {A : List Nat} {w0 : World} {p_a : Option Addr} {c_a : Nat} {p_b : Option Addr} {c_b : Nat} {a : List Int} {b : List Int} (hA : ∀ b ∈ A, b < w0.heap.size) (h_a : ISl (Rp.int .i64) A w0 p_a c_a a) (h_b : ISl (Rp.int .i64) A w0 p_b c_b b) {K : Bool → Prop} (H : ref03_Same a b K) :
    CallsV Try.prog 22 #[.slice p_a a.length c_a, .slice p_b b.length c_b] w0 (fun v w' => ∃ (r0 : Bool), v = .bool r0 ∧ Same w0 w' ∧ K r0) := by
 refine CallsV.of (l := [.slice p_a a.length c_a, .slice p_b b.length c_b]) Try.func22 rfl Try.ntmps22 rfl ?_
 have hO := Owns.start hA
 have hB := Fr.refl (bl []) w0
 unfold ref03_Same at H
 replace h_a := h_a.ch (Ch.start A w0)
 replace h_b := h_b.ch (Ch.start A w0)
 refine Go1.seq ?_
 refine Go1.region ?_
 refine GoR.op ((op_assign rfl) _) rfl rfl ?_
 refine GoR.nil ?_
 refine Go1.seq ?_
 refine Go1.seq ?_
 refine Go1.region ?_
 refine GoR.op ((op_move rfl) _) rfl rfl ?_
 refine GoR.op ((op_len Try.underlying25 rfl) _) rfl rfl ?_
 replace H := H h_a.bd
 refine GoR.op ((op_move rfl) _) rfl rfl ?_
 refine GoR.op ((op_len Try.underlying25 rfl) _) rfl rfl ?_
 replace H := H h_b.bd
 by_cases h1 : (a.length : Int) = (b.length : Int)
 ·replace H := ifp h1 H
  refine GoR.op ((fun w => opB (op_neq rfl rfl w) (ndT h1)) _) rfl rfl ?_
  refine GoR.nil ?_
  refine Go1.condF rfl rfl ?_
  refine Go1.skip ?_
  refine Go1.seq ?_
  refine Go1.seq ?_
  refine Go1.region ?_
  refine GoR.op ((op_move rfl) _) rfl rfl ?_
  refine GoR.op ((op_len Try.underlying25 rfl) _) rfl rfl ?_
  refine GoR.op ((op_move rfl) _) rfl rfl ?_
  refine GoR.nil ?_
  refine Go1.block ?_
  refine Go1.loopW (S := Nat) (fun s σ w => agrees σ [(0, .slice p_a a.length c_a), (1, .slice p_b b.length c_b), (12, .int .i64 (a.length : Int)), (13, .int .i64 (s : Int))] ∧ Owns w0.heap.size w [] A ∧ ISl (Rp.int .i64) (bl [] ++ A) w p_a c_a a ∧ ISl (Rp.int .i64) (bl [] ++ A) w p_b c_b b ∧ Fr (bl []) w0 (bl []) w) H ⟨⟨rfl, rfl, rfl, rfl, trivial⟩, hO, h_a, h_b, hB⟩ ?_
  rintro X1 k1_3 H hX1 σ w2 ⟨hag, hO, h_a, h_b, hB⟩
  refine Go1.keep [(0, .slice p_a a.length c_a), (1, .slice p_b b.length c_b), (12, .int .i64 (a.length : Int)), (13, .int .i64 (k1_3 : Int))] hag ?_
  refine Go1.seq ?_
  refine Go1.region ?_
  by_cases h4 : (k1_3 : Int) < (a.length : Int)
  ·replace H := ifp h4 H
   refine GoR.op ((fun w => opB (op_lss rfl rfl w) (decide_eq_true h4)) _) rfl rfl ?_
   refine GoR.nil ?_
   refine Go1.seq ?_
   refine Go1.condT rfl rfl ?_
   refine Go1.skip ?_
   refine Go1.seq ?_
   refine Go1.block ?_
   refine Go1.seq ?_
   refine Go1.region ?_
   refine GoR.op ((op_move rfl) _) rfl rfl ?_
   refine GoR.op ((op_assign rfl) _) rfl rfl ?_
   refine GoR.nil ?_
   refine Go1.seq ?_
   refine Go1.drawS 0 [(0, .pure), (1, .pure), (2, .pure), (3, .stable), (4, .pure), (5, .pure), (6, .pure), (7, .stable), (8, .pure)] mixed (by kernel_rfl) ?_
   intro w5 hs6
   have hst7 := Stp.same hO hs6
   replace hO := hst7.own
   replace h_a := h_a.ch hst7.ch
   replace h_b := h_b.ch hst7.ch
   replace hB := hB.trans hst7.fr
   refine GoQ.pure rfl (op_move rfl) rfl rfl ?_
   refine GoQ.pure rfl (op_move rfl) rfl rfl ?_
   obtain ⟨h8, H⟩ := H
   obtain ⟨h9, H⟩ := H
   refine GoQ.pure rfl (op_index Try.underlying25 ti3 rfl rfl h8 h9 (h_a.some_ h8 h9)) rfl rfl ?_
   refine GoQ.stable rfl (ldInt h_a h8 h9 Try.underlying3 rfl rfl) rfl rfl ?_
   refine GoQ.pure rfl (op_move rfl) rfl rfl ?_
   refine GoQ.pure rfl (op_move rfl) rfl rfl ?_
   obtain ⟨h10, H⟩ := H
   obtain ⟨h11, H⟩ := H
   refine GoQ.pure rfl (op_index Try.underlying25 ti3 rfl rfl h10 h11 (h_b.some_ h10 h11)) rfl rfl ?_
   refine GoQ.stable rfl (ldInt h_b h10 h11 Try.underlying3 rfl rfl) rfl rfl ?_
   by_cases h12 : (ix a (k1_3 : Int)) = (ix b (k1_3 : Int))
   ·replace H := ifp h12 H
    refine GoQ.pure rfl (fun w => opB (op_neq rfl rfl w) (ndT h12)) rfl rfl ?_
    refine GoQ.nil ?_
    refine Go1.condF rfl rfl ?_
    refine Go1.skip ?_
    refine Go1.inBlock ?_
    refine Go1.region ?_
    refine GoR.op ((op_add rfl rfl (wrap_i64 (natbd h4 h_a.bd))) _) rfl rfl ?_
    refine GoR.op ((op_move rfl) _) rfl rfl ?_
    refine GoR.nil ?_
    exact hX1 _ H _ _ ⟨⟨rfl, rfl, rfl, rfl, trivial⟩, hO, h_a, h_b, hB⟩
   ·replace H := ifn h12 H
    refine GoQ.pure rfl (fun w => opB (op_neq rfl rfl w) (ndF h12)) rfl rfl ?_
    refine GoQ.nil ?_
    refine Go1.condT rfl rfl ?_
    refine Go1.seq ?_
    refine Go1.region ?_
    refine GoR.op ((op_assign rfl) _) rfl rfl ?_
    refine GoR.nil ?_
    refine Go1.ret1 Try.func22 rfl ?_
    exact ⟨false, rfl, hB.same, H⟩
  ·replace H := ifn h4 H
   refine GoR.op ((fun w => opB (op_lss rfl rfl w) (decide_eq_false h4)) _) rfl rfl ?_
   refine GoR.nil ?_
   refine Go1.seq ?_
   refine Go1.condF rfl rfl ?_
   refine Go1.exit rfl ?_
   refine Go1.seq ?_
   refine Go1.region ?_
   refine GoR.op ((op_assign rfl) _) rfl rfl ?_
   refine GoR.nil ?_
   refine Go1.ret1 Try.func22 rfl ?_
   exact ⟨true, rfl, hB.same, H⟩
 ·replace H := ifn h1 H
  refine GoR.op ((fun w => opB (op_neq rfl rfl w) (ndF h1)) _) rfl rfl ?_
  refine GoR.nil ?_
  refine Go1.condT rfl rfl ?_
  refine Go1.seq ?_
  refine Go1.region ?_
  refine GoR.op ((op_assign rfl) _) rfl rfl ?_
  refine GoR.nil ?_
  refine Go1.ret1 Try.func22 rfl ?_
  exact ⟨false, rfl, hB.same, H⟩
end Sg
