/- The walks: each call keeps to its plain transformer. Printed by walkgen.py. -/
import Derived.Test.YtolobiljalelgaaWMultValidates
namespace Sg
open Go Go.RowKit Go.Proofs
set_option linter.unusedVariables false
set_option maxRecDepth 100000
set_option maxHeartbeats 4000000
theorem body34 : Body Try.prog 34 := ⟨Try.f34, Try.func34, rfl, by kernel_rfl⟩
theorem walk_law14_zeros {A : List Nat} {w0 : World} {n : Int} (hA : ∀ b ∈ A, b < w0.heap.size) {K : List (List Int) → Prop} (H : law14_zeros n K) :
    CallsV Try.prog 34 #[.int .i64 n] w0 (fun v w' => ∃ (r0 : List (List Int)), ∃ (p_r0 : Option Addr), ∃ (c_r0 : Nat), v = .slice p_r0 r0.length c_r0 ∧ Same w0 w' ∧ ISl (Rp.sl (Rp.int .i64)) A w' p_r0 c_r0 r0 ∧ K r0) := by
 refine CallsV.of (l := [.int .i64 n]) Try.func34 rfl Try.ntmps34 rfl ?_
 have hO := Owns.start hA
 have hB := Fr.refl (bl []) w0
 unfold law14_zeros at H
 refine Go1.seq ?_
 refine Go1.region ?_
 refine GoR.op ((op_assign rfl) _) rfl rfl ?_
 refine GoR.nil ?_
 refine Go1.seq ?_
 refine Go1.region ?_
 refine GoR.op ((op_assign rfl) _) rfl rfl ?_
 refine GoR.nil ?_
 refine Go1.seq ?_
 refine Go1.seq ?_
 refine Go1.region ?_
 refine GoR.op ((op_assign rfl) _) rfl rfl ?_
 refine GoR.nil ?_
 refine Go1.block ?_
 have hst2 := Stp.nil (e := 23) (r := 1) hO
 replace hO := hst2.own
 replace hB := hB.trans hst2.fr
 have hE3 := Els.nil (Rp.sl (Rp.int .i64)) (bl (.row 23 1 none 0 0 [] :: []) ++ A) w0
 refine Go1.loopW (S := Nat × List (List Int)) (fun s σ w => ∃ (n11 : Nat), ∃ (p9 : Option Addr), ∃ (c10 : Nat), ∃ (vs7 : List Value), agrees σ [(0, .int .i64 n), (3, .slice p9 n11 c10), (4, .int .i64 ((s.1) : Int))] ∧ Owns w0.heap.size w [.row 23 1 p9 n11 c10 vs7] A ∧ Els (Rp.sl (Rp.int .i64)) (bl [.row 23 1 p9 n11 c10 vs7] ++ A) w vs7 (s.2) ∧ Fr (bl []) w0 (bl [.row 23 1 p9 n11 c10 vs7]) w) H ⟨0, none, 0, [], ⟨rfl, rfl, rfl, trivial⟩, hO, hE3, hB⟩ ?_
 rintro X1 ⟨i1_5, t1_6⟩ H hX1 σ w4 ⟨n11, p9, c10, vs7, hag, hO, hE8, hB⟩
 dsimp only at H
 refine Go1.keep [(0, .int .i64 n), (3, .slice p9 n11 c10), (4, .int .i64 (i1_5 : Int))] hag ?_
 refine Go1.seq ?_
 refine Go1.seq ?_
 refine Go1.region ?_
 refine GoR.op ((op_move rfl) _) rfl rfl ?_
 refine GoR.op ((op_move rfl) _) rfl rfl ?_
 by_cases h12 : (i1_5 : Int) < n
 ·replace H := ifp h12 H
  refine GoR.op ((fun w => opB (op_lss rfl rfl w) (decide_eq_true h12)) _) rfl rfl ?_
  refine GoR.nil ?_
  refine Go1.condT rfl rfl ?_
  refine Go1.skip ?_
  refine Go1.seq ?_
  refine Go1.block ?_
  refine Go1.region ?_
  refine GoR.op ((op_move rfl) _) rfl rfl ?_
  refine GoR.op ((op_move rfl) _) rfl rfl ?_
  obtain ⟨h20, H⟩ := H
  obtain ⟨h21, H⟩ := H
  have hobt := omake (n := n) (r := Rp.int .i64) (d := (0 : Int)) Try.underlying23 ti3 (fun _ _ => rfl) rfl hO h20 h21 (by decide)
  obtain ⟨w13, p14, vs15, hst16, hE17, hs18, hop19⟩ := hobt
  refine GoR.op (hop19 rfl rfl) rfl rfl ?_
  replace hE8 := hE8.ch hst16.ch
  replace hO := hst16.own
  replace hB := hB.trans hst16.fr
  have hobt := freeze 0 hO rfl hE17
  obtain ⟨hO1, hc25, hi23, hn24⟩ := hobt
  replace hE8 := hE8.ch hc25
  replace hB := hB.trans (Owns.dropFr _ _ 0)
  replace hO := hO1; clear hO1
  have hobt := obuild (r := Rp.sl (Rp.int .i64)) (n := 1) (parts := [(0, .slice p14 n.toNat n.toNat)]) (vs := [.slice p14 n.toNat n.toNat]) (xs := [List.replicate n.toNat ((0 : Int))]) rfl Try.underlying22 ti23 hO (by decide) (by kernel_rfl) (Els.cons rfl ⟨p14, n.toNat, congrArg some (congrArg (fun nn => Value.slice p14 nn n.toNat) hn24), hi23⟩ (Els.nil _ _ _) (by simp [mx])) rfl
  obtain ⟨w26, p27, hst28, hE29, hs30, hop31⟩ := hobt
  refine GoR.op (hop31 rfl) rfl rfl ?_
  replace hE8 := hE8.ch hst28.ch
  replace hO := hst28.own
  replace hi23 := hi23.ch hst28.ch
  replace hB := hB.trans hst28.fr
  have hobt := freeze 0 hO rfl hE29
  obtain ⟨hO1, hc35, hi33, hn34⟩ := hobt
  replace hi23 := hi23.ch hc35
  replace hE8 := hE8.ch hc35
  replace hB := hB.trans (Owns.dropFr _ _ 0)
  replace hO := hO1; clear hO1
  obtain ⟨h36, H⟩ := H
  have hobt := oapp Try.underlying22 ti23 rfl 0 hO rfl hE8 hi33 hn34 h36 (by decide)
  obtain ⟨w37, p38, c39, vs40, hst41, hE42, hop43⟩ := hobt
  refine GoR.op (hop43 rfl rfl) rfl rfl ?_
  replace hO := hst41.own
  replace hi23 := hi23.ch hst41.ch
  replace hi33 := hi33.ch hst41.ch
  replace hB := hB.trans hst41.fr
  refine GoR.op ((op_assign rfl) _) rfl rfl ?_
  refine GoR.nil ?_
  refine Go1.inBlock ?_
  refine Go1.region ?_
  refine GoR.op ((op_move rfl) _) rfl rfl ?_
  obtain ⟨h45, H⟩ := H
  refine GoR.op ((op_add rfl rfl (wrap_i64 h45)) _) rfl rfl ?_
  refine GoR.op ((op_assign rfl) _) rfl rfl ?_
  refine GoR.nil ?_
  exact hX1 _ H _ _ ⟨n11 + 1, p38, c39, vs40, ⟨rfl, rfl, rfl, trivial⟩, hO, hE42, hB⟩
 ·replace H := ifn h12 H
  refine GoR.op ((fun w => opB (op_lss rfl rfl w) (decide_eq_false h12)) _) rfl rfl ?_
  refine GoR.nil ?_
  refine Go1.condF rfl rfl ?_
  refine Go1.exit rfl ?_
  refine Go1.seq ?_
  refine Go1.region ?_
  refine GoR.op ((op_move rfl) _) rfl rfl ?_
  refine GoR.op ((op_assign rfl) _) rfl rfl ?_
  refine GoR.nil ?_
  have hobt := freeze 0 hO rfl hE8
  obtain ⟨hO1, hc48, hi46, hn47⟩ := hobt
  replace hB := hB.trans (Owns.dropFr _ _ 0)
  replace hO := hO1; clear hO1
  refine Go1.ret1 Try.func34 rfl ?_
  exact ⟨t1_6, p9, c10, ((congrArg (fun nn => Value.slice p9 nn c10) hn47)), hB.same, (hi46.ch (Ch.weak _ _ _)), H⟩
theorem body33 : Body Try.prog 33 := ⟨Try.f33, Try.func33, rfl, by kernel_rfl⟩
theorem walk_mult_Direct {A : List Nat} {w0 : World} {p_a0 : Option Addr} {c_a0 : Nat} {p_a1 : Option Addr} {c_a1 : Nat} {a0 : List (List Int)} {a1 : List (List Int)} (hA : ∀ b ∈ A, b < w0.heap.size) (h_a0 : ISl (Rp.sl (Rp.int .i64)) A w0 p_a0 c_a0 a0) (h_a1 : ISl (Rp.sl (Rp.int .i64)) A w0 p_a1 c_a1 a1) {K : List (List Int) → Prop} (H : mult_Direct a0 a1 K) :
    CallsV Try.prog 33 #[.slice p_a0 a0.length c_a0, .slice p_a1 a1.length c_a1] w0 (fun v w' => ∃ (r0 : List (List Int)), ∃ (p_r0 : Option Addr), ∃ (c_r0 : Nat), v = .slice p_r0 r0.length c_r0 ∧ Same w0 w' ∧ ISl (Rp.sl (Rp.int .i64)) A w' p_r0 c_r0 r0 ∧ K r0) := by
 refine CallsV.of (l := [.slice p_a0 a0.length c_a0, .slice p_a1 a1.length c_a1]) Try.func33 rfl Try.ntmps33 rfl ?_
 have hO := Owns.start hA
 have hB := Fr.refl (bl []) w0
 unfold mult_Direct at H
 replace h_a0 := h_a0.ch (Ch.start A w0)
 replace h_a1 := h_a1.ch (Ch.start A w0)
 refine Go1.seq ?_
 refine Go1.region ?_
 refine GoR.op ((op_assign rfl) _) rfl rfl ?_
 refine GoR.nil ?_
 refine Go1.seq ?_
 refine Go1.seq ?_
 refine Go1.region ?_
 refine GoR.op ((op_move rfl) _) rfl rfl ?_
 refine GoR.call (op_call body71 rfl (walk_mult_valid hO.lt h_a0 H)) rfl rfl ?_
 rintro v5 w2 ⟨r1, rfl, hs3, H⟩
 have hst6 := Stp.same hO hs3
 replace hO := hst6.own
 replace h_a0 := h_a0.ch hst6.ch
 replace h_a1 := h_a1.ch hst6.ch
 replace hB := hB.trans hst6.fr
 cases r1
 ·replace H := ifn Bool.false_ne_true H
  refine GoR.op ((op_not rfl) _) rfl rfl ?_
  refine GoR.op ((op_move rfl) _) rfl rfl ?_
  refine GoR.pass rfl rfl ?_
  refine GoR.pass rfl rfl ?_
  refine GoR.pass rfl rfl ?_
  refine GoR.op ((op_pickT rfl rfl rfl) _) rfl rfl ?_
  refine GoR.op ((op_move rfl) _) rfl rfl ?_
  refine GoR.pass rfl rfl ?_
  refine GoR.pass rfl rfl ?_
  refine GoR.pass rfl rfl ?_
  refine GoR.pass rfl rfl ?_
  refine GoR.pass rfl rfl ?_
  refine GoR.pass rfl rfl ?_
  refine GoR.op ((op_pickT rfl rfl rfl) _) rfl rfl ?_
  refine GoR.nil ?_
  refine Go1.condT rfl rfl ?_
  refine Go1.seq ?_
  refine Go1.region ?_
  refine GoR.op ((op_assign rfl) _) rfl rfl ?_
  refine GoR.nil ?_
  refine Go1.ret1 Try.func33 rfl ?_
  exact ⟨([] : List (List Int)), none, 0, rfl, hB.same, (ISl.null _ _ _), H⟩
 ·replace H := ifp rfl H
  refine GoR.op ((op_not rfl) _) rfl rfl ?_
  refine GoR.op ((op_move rfl) _) rfl rfl ?_
  refine GoR.op ((op_move rfl) _) rfl rfl ?_
  refine GoR.call (op_call body71 rfl (walk_mult_valid hO.lt h_a1 H)) rfl rfl ?_
  rintro v11 w8 ⟨r7, rfl, hs9, H⟩
  have hst12 := Stp.same hO hs9
  replace hO := hst12.own
  replace h_a0 := h_a0.ch hst12.ch
  replace h_a1 := h_a1.ch hst12.ch
  replace hB := hB.trans hst12.fr
  cases r7
  ·replace H := ifn Bool.false_ne_true H
   refine GoR.op ((op_not rfl) _) rfl rfl ?_
   refine GoR.op ((op_pickF rfl rfl rfl) _) rfl rfl ?_
   refine GoR.op ((op_move rfl) _) rfl rfl ?_
   refine GoR.pass rfl rfl ?_
   refine GoR.pass rfl rfl ?_
   refine GoR.pass rfl rfl ?_
   refine GoR.pass rfl rfl ?_
   refine GoR.pass rfl rfl ?_
   refine GoR.pass rfl rfl ?_
   refine GoR.op ((op_pickT rfl rfl rfl) _) rfl rfl ?_
   refine GoR.nil ?_
   refine Go1.condT rfl rfl ?_
   refine Go1.seq ?_
   refine Go1.region ?_
   refine GoR.op ((op_assign rfl) _) rfl rfl ?_
   refine GoR.nil ?_
   refine Go1.ret1 Try.func33 rfl ?_
   exact ⟨([] : List (List Int)), none, 0, rfl, hB.same, (ISl.null _ _ _), H⟩
  ·replace H := ifp rfl H
   refine GoR.op ((op_not rfl) _) rfl rfl ?_
   refine GoR.op ((op_pickF rfl rfl rfl) _) rfl rfl ?_
   refine GoR.op ((op_move rfl) _) rfl rfl ?_
   refine GoR.op ((op_move rfl) _) rfl rfl ?_
   refine GoR.op ((op_len Try.underlying22 rfl) _) rfl rfl ?_
   replace H := H h_a0.bd
   refine GoR.op ((op_move rfl) _) rfl rfl ?_
   refine GoR.op ((op_len Try.underlying22 rfl) _) rfl rfl ?_
   replace H := H h_a1.bd
   obtain ⟨h13, H⟩ := H
   refine GoR.op ((op_mul rfl rfl (wrap_i64 h13)) _) rfl rfl ?_
   by_cases h14 : (400 : Int) < ((a0.length : Int) * (a1.length : Int))
   ·replace H := ifp h14 H
    refine GoR.op ((fun w => opB (op_gtr rfl rfl w) (decide_eq_true h14)) _) rfl rfl ?_
    refine GoR.op ((op_pickF rfl rfl rfl) _) rfl rfl ?_
    refine GoR.nil ?_
    refine Go1.condT rfl rfl ?_
    refine Go1.seq ?_
    refine Go1.region ?_
    refine GoR.op ((op_assign rfl) _) rfl rfl ?_
    refine GoR.nil ?_
    refine Go1.ret1 Try.func33 rfl ?_
    exact ⟨([] : List (List Int)), none, 0, rfl, hB.same, (ISl.null _ _ _), H⟩
   ·replace H := ifn h14 H
    refine GoR.op ((fun w => opB (op_gtr rfl rfl w) (decide_eq_false h14)) _) rfl rfl ?_
    refine GoR.op ((op_pickF rfl rfl rfl) _) rfl rfl ?_
    refine GoR.nil ?_
    refine Go1.condF rfl rfl ?_
    refine Go1.skip ?_
    refine Go1.seq ?_
    refine Go1.region ?_
    refine GoR.op ((op_move rfl) _) rfl rfl ?_
    refine GoR.op ((op_len Try.underlying22 rfl) _) rfl rfl ?_
    refine GoR.op ((op_move rfl) _) rfl rfl ?_
    refine GoR.op ((op_len Try.underlying22 rfl) _) rfl rfl ?_
    obtain ⟨h15, H⟩ := H
    refine GoR.op ((op_mul rfl rfl (wrap_i64 h15)) _) rfl rfl ?_
    obtain ⟨h23, H⟩ := H
    obtain ⟨h24, H⟩ := H
    have hobt := omake0 (n := ((a0.length : Int) * (a1.length : Int))) (r := Rp.sl (Rp.int .i64)) Try.underlying22 ti23 hO h23 h24 (by decide)
    obtain ⟨w16, p17, hst19, hE20, hs21, hop22⟩ := hobt
    refine GoR.op (hop22 rfl rfl) rfl rfl ?_
    replace hO := hst19.own
    replace h_a0 := h_a0.ch hst19.ch
    replace h_a1 := h_a1.ch hst19.ch
    replace hB := hB.trans hst19.fr
    refine GoR.op ((op_assign rfl) _) rfl rfl ?_
    refine GoR.nil ?_
    refine Go1.seq ?_
    refine Go1.seq ?_
    refine Go1.region ?_
    refine GoR.op ((op_move rfl) _) rfl rfl ?_
    refine GoR.op ((op_len Try.underlying22 rfl) _) rfl rfl ?_
    refine GoR.op ((op_move rfl) _) rfl rfl ?_
    refine GoR.nil ?_
    refine Go1.block ?_
    refine Go1.loopW (S := Nat × List (List Int)) (fun s σ w => ∃ (n33 : Nat), ∃ (p31 : Option Addr), ∃ (c32 : Nat), ∃ (vs29 : List Value), agrees σ [(1, .slice p_a1 a1.length c_a1), (5, .slice p31 n33 c32), (37, .slice p_a0 a0.length c_a0), (38, .int .i64 (a0.length : Int)), (39, .int .i64 ((s.1) : Int))] ∧ Owns w0.heap.size w [.row 23 1 p31 n33 c32 vs29] A ∧ Els (Rp.sl (Rp.int .i64)) (bl [.row 23 1 p31 n33 c32 vs29] ++ A) w vs29 (s.2) ∧ ISl (Rp.sl (Rp.int .i64)) (bl [.row 23 1 p31 n33 c32 vs29] ++ A) w p_a0 c_a0 a0 ∧ ISl (Rp.sl (Rp.int .i64)) (bl [.row 23 1 p31 n33 c32 vs29] ++ A) w p_a1 c_a1 a1 ∧ Fr (bl []) w0 (bl [.row 23 1 p31 n33 c32 vs29]) w) H ⟨0, p17, ((a0.length : Int) * (a1.length : Int)).toNat, [], ⟨rfl, rfl, rfl, rfl, rfl, trivial⟩, hO, hE20, h_a0, h_a1, hB⟩ ?_
    rintro X1 ⟨k1_27, d_28⟩ H hX1 σ w26 ⟨n33, p31, c32, vs29, hag, hO, hE30, h_a0, h_a1, hB⟩
    dsimp only at H
    refine Go1.keep [(1, .slice p_a1 a1.length c_a1), (5, .slice p31 n33 c32), (37, .slice p_a0 a0.length c_a0), (38, .int .i64 (a0.length : Int)), (39, .int .i64 (k1_27 : Int))] hag ?_
    refine Go1.seq ?_
    refine Go1.region ?_
    by_cases h34 : (k1_27 : Int) < (a0.length : Int)
    ·replace H := ifp h34 H
     refine GoR.op ((fun w => opB (op_lss rfl rfl w) (decide_eq_true h34)) _) rfl rfl ?_
     refine GoR.nil ?_
     refine Go1.seq ?_
     refine Go1.condT rfl rfl ?_
     refine Go1.skip ?_
     refine Go1.seq ?_
     refine Go1.block ?_
     refine Go1.seq ?_
     refine Go1.region ?_
     obtain ⟨h35, H⟩ := H
     obtain ⟨h36, H⟩ := H
     refine GoR.op ((op_index Try.underlying22 ti23 rfl rfl h35 h36 (h_a0.some_ h35 h36)) _) rfl rfl ?_
     have hobt := ldSl h_a0 h35 h36
     obtain ⟨p37, c38, hi39, hl40⟩ := hobt
     refine GoR.op ((hl40 Try.underlying23 rfl rfl) _ (Same.refl _)) rfl rfl ?_
     refine GoR.op ((op_assign rfl) _) rfl rfl ?_
     refine GoR.nil ?_
     refine Go1.seq ?_
     refine Go1.region ?_
     refine GoR.op ((op_move rfl) _) rfl rfl ?_
     refine GoR.op ((op_len Try.underlying22 rfl) _) rfl rfl ?_
     refine GoR.op ((op_move rfl) _) rfl rfl ?_
     refine GoR.nil ?_
     refine Go1.block ?_
     refine Go1.loopW (S := Nat × List (List Int)) (fun s σ w => ∃ (n48 : Nat), ∃ (p46 : Option Addr), ∃ (c47 : Nat), ∃ (vs44 : List Value), agrees σ [(1, .slice p_a1 a1.length c_a1), (5, .slice p46 n48 c47), (7, .slice p37 ((ix a0 (k1_27 : Int)).length) c38), (37, .slice p_a0 a0.length c_a0), (38, .int .i64 (a0.length : Int)), (39, .int .i64 (k1_27 : Int)), (43, .slice p_a1 a1.length c_a1), (44, .int .i64 (a1.length : Int)), (45, .int .i64 ((s.1) : Int))] ∧ Owns w0.heap.size w [.row 23 1 p46 n48 c47 vs44] A ∧ Els (Rp.sl (Rp.int .i64)) (bl [.row 23 1 p46 n48 c47 vs44] ++ A) w vs44 (s.2) ∧ ISl (Rp.sl (Rp.int .i64)) (bl [.row 23 1 p46 n48 c47 vs44] ++ A) w p_a0 c_a0 a0 ∧ ISl (Rp.sl (Rp.int .i64)) (bl [.row 23 1 p46 n48 c47 vs44] ++ A) w p_a1 c_a1 a1 ∧ ISl (Rp.int .i64) (bl [.row 23 1 p46 n48 c47 vs44] ++ A) w p37 c38 (ix a0 (k1_27 : Int)) ∧ Fr (bl []) w0 (bl [.row 23 1 p46 n48 c47 vs44]) w) H ⟨n33, p31, c32, vs29, ⟨rfl, rfl, rfl, rfl, rfl, rfl, rfl, rfl, rfl, trivial⟩, hO, hE30, h_a0, h_a1, hi39, hB⟩ ?_
     rintro X2 ⟨k2_42, d_43⟩ H hX2 σ w41 ⟨n48, p46, c47, vs44, hag, hO, hE45, h_a0, h_a1, hi39, hB⟩
     dsimp only at H
     refine Go1.keep [(1, .slice p_a1 a1.length c_a1), (5, .slice p46 n48 c47), (7, .slice p37 ((ix a0 (k1_27 : Int)).length) c38), (37, .slice p_a0 a0.length c_a0), (38, .int .i64 (a0.length : Int)), (39, .int .i64 (k1_27 : Int)), (43, .slice p_a1 a1.length c_a1), (44, .int .i64 (a1.length : Int)), (45, .int .i64 (k2_42 : Int))] hag ?_
     refine Go1.seq ?_
     refine Go1.region ?_
     by_cases h49 : (k2_42 : Int) < (a1.length : Int)
     ·replace H := ifp h49 H
      refine GoR.op ((fun w => opB (op_lss rfl rfl w) (decide_eq_true h49)) _) rfl rfl ?_
      refine GoR.nil ?_
      refine Go1.seq ?_
      refine Go1.condT rfl rfl ?_
      refine Go1.skip ?_
      refine Go1.seq ?_
      refine Go1.block ?_
      refine Go1.seq ?_
      refine Go1.region ?_
      obtain ⟨h50, H⟩ := H
      obtain ⟨h51, H⟩ := H
      refine GoR.op ((op_index Try.underlying22 ti23 rfl rfl h50 h51 (h_a1.some_ h50 h51)) _) rfl rfl ?_
      have hobt := ldSl h_a1 h50 h51
      obtain ⟨p52, c53, hi54, hl55⟩ := hobt
      refine GoR.op ((hl55 Try.underlying23 rfl rfl) _ (Same.refl _)) rfl rfl ?_
      refine GoR.op ((op_assign rfl) _) rfl rfl ?_
      refine GoR.nil ?_
      refine Go1.seq ?_
      refine Go1.region ?_
      refine GoR.op ((op_assign rfl) _) rfl rfl ?_
      refine GoR.nil ?_
      refine Go1.seq ?_
      refine Go1.seq ?_
      refine Go1.region ?_
      refine GoR.op ((op_move rfl) _) rfl rfl ?_
      refine GoR.op ((op_len Try.underlying23 rfl) _) rfl rfl ?_
      replace H := H hi39.bd
      refine GoR.op ((op_move rfl) _) rfl rfl ?_
      refine GoR.nil ?_
      refine Go1.block ?_
      have hst57 := Stp.nil (e := 3) (r := 1) hO
      replace hE45 := hE45.ch hst57.ch
      replace hO := hst57.own
      replace h_a0 := h_a0.ch hst57.ch
      replace h_a1 := h_a1.ch hst57.ch
      replace hi39 := hi39.ch hst57.ch
      replace hi54 := hi54.ch hst57.ch
      replace hB := hB.trans hst57.fr
      have hE58 := Els.nil (Rp.int .i64) (bl (.row 3 1 none 0 0 [] :: [.row 23 1 p46 n48 c47 vs44]) ++ A) w41
      refine Go1.loopW (S := Nat × List Int) (fun s σ w => ∃ (n66 : Nat), ∃ (p64 : Option Addr), ∃ (c65 : Nat), ∃ (vs62 : List Value), agrees σ [(1, .slice p_a1 a1.length c_a1), (5, .slice p46 n48 c47), (7, .slice p37 ((ix a0 (k1_27 : Int)).length) c38), (9, .slice p52 ((ix a1 (k2_42 : Int)).length) c53), (10, .slice p64 n66 c65), (37, .slice p_a0 a0.length c_a0), (38, .int .i64 (a0.length : Int)), (39, .int .i64 (k1_27 : Int)), (43, .slice p_a1 a1.length c_a1), (44, .int .i64 (a1.length : Int)), (45, .int .i64 (k2_42 : Int)), (49, .slice p37 ((ix a0 (k1_27 : Int)).length) c38), (50, .int .i64 ((ix a0 (k1_27 : Int)).length : Int)), (51, .int .i64 ((s.1) : Int))] ∧ Owns w0.heap.size w [.row 3 1 p64 n66 c65 vs62, .row 23 1 p46 n48 c47 vs44] A ∧ Els (Rp.int .i64) (bl [.row 3 1 p64 n66 c65 vs62, .row 23 1 p46 n48 c47 vs44] ++ A) w vs62 (s.2) ∧ Els (Rp.sl (Rp.int .i64)) (bl [.row 3 1 p64 n66 c65 vs62, .row 23 1 p46 n48 c47 vs44] ++ A) w vs44 d_43 ∧ ISl (Rp.sl (Rp.int .i64)) (bl [.row 3 1 p64 n66 c65 vs62, .row 23 1 p46 n48 c47 vs44] ++ A) w p_a0 c_a0 a0 ∧ ISl (Rp.sl (Rp.int .i64)) (bl [.row 3 1 p64 n66 c65 vs62, .row 23 1 p46 n48 c47 vs44] ++ A) w p_a1 c_a1 a1 ∧ ISl (Rp.int .i64) (bl [.row 3 1 p64 n66 c65 vs62, .row 23 1 p46 n48 c47 vs44] ++ A) w p37 c38 (ix a0 (k1_27 : Int)) ∧ ISl (Rp.int .i64) (bl [.row 3 1 p64 n66 c65 vs62, .row 23 1 p46 n48 c47 vs44] ++ A) w p52 c53 (ix a1 (k2_42 : Int)) ∧ Fr (bl []) w0 (bl [.row 3 1 p64 n66 c65 vs62, .row 23 1 p46 n48 c47 vs44]) w) H ⟨0, none, 0, [], ⟨rfl, rfl, rfl, rfl, rfl, rfl, rfl, rfl, rfl, rfl, rfl, rfl, rfl, rfl, trivial⟩, hO, hE58, hE45, h_a0, h_a1, hi39, hi54, hB⟩ ?_
      rintro X3 ⟨k3_60, d_61⟩ H hX3 σ w59 ⟨n66, p64, c65, vs62, hag, hO, hE63, hE45, h_a0, h_a1, hi39, hi54, hB⟩
      dsimp only at H
      refine Go1.keep [(1, .slice p_a1 a1.length c_a1), (5, .slice p46 n48 c47), (7, .slice p37 ((ix a0 (k1_27 : Int)).length) c38), (9, .slice p52 ((ix a1 (k2_42 : Int)).length) c53), (10, .slice p64 n66 c65), (37, .slice p_a0 a0.length c_a0), (38, .int .i64 (a0.length : Int)), (39, .int .i64 (k1_27 : Int)), (43, .slice p_a1 a1.length c_a1), (44, .int .i64 (a1.length : Int)), (45, .int .i64 (k2_42 : Int)), (49, .slice p37 ((ix a0 (k1_27 : Int)).length) c38), (50, .int .i64 ((ix a0 (k1_27 : Int)).length : Int)), (51, .int .i64 (k3_60 : Int))] hag ?_
      refine Go1.seq ?_
      refine Go1.region ?_
      by_cases h67 : (k3_60 : Int) < ((ix a0 (k1_27 : Int)).length : Int)
      ·replace H := ifp h67 H
       refine GoR.op ((fun w => opB (op_lss rfl rfl w) (decide_eq_true h67)) _) rfl rfl ?_
       refine GoR.nil ?_
       refine Go1.seq ?_
       refine Go1.condT rfl rfl ?_
       refine Go1.skip ?_
       refine Go1.seq ?_
       refine Go1.block ?_
       refine Go1.seq ?_
       refine Go1.region ?_
       obtain ⟨h68, H⟩ := H
       obtain ⟨h69, H⟩ := H
       refine GoR.op ((op_index Try.underlying23 ti3 rfl rfl h68 h69 (hi39.some_ h68 h69)) _) rfl rfl ?_
       refine GoR.op ((ldInt hi39 h68 h69 Try.underlying3 rfl rfl) _ (Same.refl _)) rfl rfl ?_
       refine GoR.op ((op_assign rfl) _) rfl rfl ?_
       refine GoR.nil ?_
       refine Go1.seq ?_
       refine Go1.region ?_
       refine GoR.op ((op_move rfl) _) rfl rfl ?_
       refine GoR.op ((op_len Try.underlying23 rfl) _) rfl rfl ?_
       replace H := H hi54.bd
       refine GoR.op ((op_move rfl) _) rfl rfl ?_
       refine GoR.nil ?_
       refine Go1.block ?_
       refine Go1.loopW (S := Nat × List Int) (fun s σ w => ∃ (n77 : Nat), ∃ (p75 : Option Addr), ∃ (c76 : Nat), ∃ (vs73 : List Value), agrees σ [(1, .slice p_a1 a1.length c_a1), (5, .slice p46 n48 c47), (7, .slice p37 ((ix a0 (k1_27 : Int)).length) c38), (9, .slice p52 ((ix a1 (k2_42 : Int)).length) c53), (10, .slice p75 n77 c76), (12, .int .i64 (ix (ix a0 (k1_27 : Int)) (k3_60 : Int))), (37, .slice p_a0 a0.length c_a0), (38, .int .i64 (a0.length : Int)), (39, .int .i64 (k1_27 : Int)), (43, .slice p_a1 a1.length c_a1), (44, .int .i64 (a1.length : Int)), (45, .int .i64 (k2_42 : Int)), (49, .slice p37 ((ix a0 (k1_27 : Int)).length) c38), (50, .int .i64 ((ix a0 (k1_27 : Int)).length : Int)), (51, .int .i64 (k3_60 : Int)), (55, .slice p52 ((ix a1 (k2_42 : Int)).length) c53), (56, .int .i64 ((ix a1 (k2_42 : Int)).length : Int)), (57, .int .i64 ((s.1) : Int))] ∧ Owns w0.heap.size w [.row 3 1 p75 n77 c76 vs73, .row 23 1 p46 n48 c47 vs44] A ∧ Els (Rp.int .i64) (bl [.row 3 1 p75 n77 c76 vs73, .row 23 1 p46 n48 c47 vs44] ++ A) w vs73 (s.2) ∧ Els (Rp.sl (Rp.int .i64)) (bl [.row 3 1 p75 n77 c76 vs73, .row 23 1 p46 n48 c47 vs44] ++ A) w vs44 d_43 ∧ ISl (Rp.sl (Rp.int .i64)) (bl [.row 3 1 p75 n77 c76 vs73, .row 23 1 p46 n48 c47 vs44] ++ A) w p_a0 c_a0 a0 ∧ ISl (Rp.sl (Rp.int .i64)) (bl [.row 3 1 p75 n77 c76 vs73, .row 23 1 p46 n48 c47 vs44] ++ A) w p_a1 c_a1 a1 ∧ ISl (Rp.int .i64) (bl [.row 3 1 p75 n77 c76 vs73, .row 23 1 p46 n48 c47 vs44] ++ A) w p37 c38 (ix a0 (k1_27 : Int)) ∧ ISl (Rp.int .i64) (bl [.row 3 1 p75 n77 c76 vs73, .row 23 1 p46 n48 c47 vs44] ++ A) w p52 c53 (ix a1 (k2_42 : Int)) ∧ Fr (bl []) w0 (bl [.row 3 1 p75 n77 c76 vs73, .row 23 1 p46 n48 c47 vs44]) w) H ⟨n66, p64, c65, vs62, ⟨rfl, rfl, rfl, rfl, rfl, rfl, rfl, rfl, rfl, rfl, rfl, rfl, rfl, rfl, rfl, rfl, rfl, rfl, trivial⟩, hO, hE63, hE45, h_a0, h_a1, hi39, hi54, hB⟩ ?_
       rintro X4 ⟨k4_71, d_72⟩ H hX4 σ w70 ⟨n77, p75, c76, vs73, hag, hO, hE74, hE45, h_a0, h_a1, hi39, hi54, hB⟩
       dsimp only at H
       refine Go1.keep [(1, .slice p_a1 a1.length c_a1), (5, .slice p46 n48 c47), (7, .slice p37 ((ix a0 (k1_27 : Int)).length) c38), (9, .slice p52 ((ix a1 (k2_42 : Int)).length) c53), (10, .slice p75 n77 c76), (12, .int .i64 (ix (ix a0 (k1_27 : Int)) (k3_60 : Int))), (37, .slice p_a0 a0.length c_a0), (38, .int .i64 (a0.length : Int)), (39, .int .i64 (k1_27 : Int)), (43, .slice p_a1 a1.length c_a1), (44, .int .i64 (a1.length : Int)), (45, .int .i64 (k2_42 : Int)), (49, .slice p37 ((ix a0 (k1_27 : Int)).length) c38), (50, .int .i64 ((ix a0 (k1_27 : Int)).length : Int)), (51, .int .i64 (k3_60 : Int)), (55, .slice p52 ((ix a1 (k2_42 : Int)).length) c53), (56, .int .i64 ((ix a1 (k2_42 : Int)).length : Int)), (57, .int .i64 (k4_71 : Int))] hag ?_
       refine Go1.seq ?_
       refine Go1.region ?_
       by_cases h78 : (k4_71 : Int) < ((ix a1 (k2_42 : Int)).length : Int)
       ·replace H := ifp h78 H
        refine GoR.op ((fun w => opB (op_lss rfl rfl w) (decide_eq_true h78)) _) rfl rfl ?_
        refine GoR.nil ?_
        refine Go1.seq ?_
        refine Go1.condT rfl rfl ?_
        refine Go1.skip ?_
        refine Go1.seq ?_
        refine Go1.block ?_
        refine Go1.seq ?_
        refine Go1.region ?_
        obtain ⟨h79, H⟩ := H
        obtain ⟨h80, H⟩ := H
        refine GoR.op ((op_index Try.underlying23 ti3 rfl rfl h79 h80 (hi54.some_ h79 h80)) _) rfl rfl ?_
        refine GoR.op ((ldInt hi54 h79 h80 Try.underlying3 rfl rfl) _ (Same.refl _)) rfl rfl ?_
        refine GoR.op ((op_assign rfl) _) rfl rfl ?_
        refine GoR.nil ?_
        refine Go1.region ?_
        refine GoR.op ((op_move rfl) _) rfl rfl ?_
        refine GoR.op ((op_move rfl) _) rfl rfl ?_
        refine GoR.op ((op_move rfl) _) rfl rfl ?_
        refine GoR.op ((op_len Try.underlying22 rfl) _) rfl rfl ?_
        obtain ⟨h81, H⟩ := H
        refine GoR.op ((op_mul rfl rfl (wrap_i64 h81)) _) rfl rfl ?_
        refine GoR.op ((op_move rfl) _) rfl rfl ?_
        obtain ⟨h82, H⟩ := H
        refine GoR.op ((op_add rfl rfl (wrap_i64 h82)) _) rfl rfl ?_
        have hobt := obuild (r := Rp.int .i64) (n := 1) (parts := [(0, .int .i64 (((ix (ix a0 (k1_27 : Int)) (k3_60 : Int)) * (a1.length : Int)) + (ix (ix a1 (k2_42 : Int)) (k4_71 : Int))))]) (vs := [.int .i64 (((ix (ix a0 (k1_27 : Int)) (k3_60 : Int)) * (a1.length : Int)) + (ix (ix a1 (k2_42 : Int)) (k4_71 : Int)))]) (xs := [(((ix (ix a0 (k1_27 : Int)) (k3_60 : Int)) * (a1.length : Int)) + (ix (ix a1 (k2_42 : Int)) (k4_71 : Int)))]) rfl Try.underlying23 ti3 hO (by decide) (by kernel_rfl) (Els.cons rfl rfl (Els.nil _ _ _) (by simp [mx])) rfl
        obtain ⟨w83, p84, hst85, hE86, hs87, hop88⟩ := hobt
        refine GoR.op (hop88 rfl) rfl rfl ?_
        replace hE74 := hE74.ch hst85.ch
        replace hE45 := hE45.ch hst85.ch
        replace hO := hst85.own
        replace h_a0 := h_a0.ch hst85.ch
        replace h_a1 := h_a1.ch hst85.ch
        replace hi39 := hi39.ch hst85.ch
        replace hi54 := hi54.ch hst85.ch
        replace hB := hB.trans hst85.fr
        have hobt := freeze 0 hO rfl hE86
        obtain ⟨hO1, hc92, hi90, hn91⟩ := hobt
        replace h_a0 := h_a0.ch hc92
        replace h_a1 := h_a1.ch hc92
        replace hi39 := hi39.ch hc92
        replace hi54 := hi54.ch hc92
        replace hE74 := hE74.ch hc92
        replace hE45 := hE45.ch hc92
        replace hB := hB.trans (Owns.dropFr _ _ 0)
        replace hO := hO1; clear hO1
        obtain ⟨h93, H⟩ := H
        have hobt := oapp Try.underlying23 ti3 rfl 0 hO rfl hE74 hi90 hn91 h93 (by decide)
        obtain ⟨w94, p95, c96, vs97, hst98, hE99, hop100⟩ := hobt
        refine GoR.op (hop100 rfl rfl) rfl rfl ?_
        replace hE45 := hE45.ch hst98.ch
        replace hO := hst98.own
        replace h_a0 := h_a0.ch hst98.ch
        replace h_a1 := h_a1.ch hst98.ch
        replace hi39 := hi39.ch hst98.ch
        replace hi54 := hi54.ch hst98.ch
        replace hi90 := hi90.ch hst98.ch
        replace hB := hB.trans hst98.fr
        refine GoR.op ((op_assign rfl) _) rfl rfl ?_
        refine GoR.nil ?_
        refine Go1.inBlock ?_
        refine Go1.region ?_
        refine GoR.op ((op_add rfl rfl (wrap_i64 (natbd h78 hi54.bd))) _) rfl rfl ?_
        refine GoR.op ((op_move rfl) _) rfl rfl ?_
        refine GoR.nil ?_
        exact hX4 _ H _ _ ⟨n77 + 1, p95, c96, vs97, ⟨rfl, rfl, rfl, rfl, rfl, rfl, rfl, rfl, rfl, rfl, rfl, rfl, rfl, rfl, rfl, rfl, rfl, rfl, trivial⟩, hO, hE99, hE45, h_a0, h_a1, hi39, hi54, hB⟩
       ·replace H := ifn h78 H
        refine GoR.op ((fun w => opB (op_lss rfl rfl w) (decide_eq_false h78)) _) rfl rfl ?_
        refine GoR.nil ?_
        refine Go1.seq ?_
        refine Go1.condF rfl rfl ?_
        refine Go1.exit rfl ?_
        refine Go1.inBlock ?_
        refine Go1.region ?_
        refine GoR.op ((op_add rfl rfl (wrap_i64 (natbd h67 hi39.bd))) _) rfl rfl ?_
        refine GoR.op ((op_move rfl) _) rfl rfl ?_
        refine GoR.nil ?_
        exact hX3 _ H _ _ ⟨n77, p75, c76, vs73, ⟨rfl, rfl, rfl, rfl, rfl, rfl, rfl, rfl, rfl, rfl, rfl, rfl, rfl, rfl, trivial⟩, hO, hE74, hE45, h_a0, h_a1, hi39, hi54, hB⟩
      ·replace H := ifn h67 H
       refine GoR.op ((fun w => opB (op_lss rfl rfl w) (decide_eq_false h67)) _) rfl rfl ?_
       refine GoR.nil ?_
       refine Go1.seq ?_
       refine Go1.condF rfl rfl ?_
       refine Go1.exit rfl ?_
       refine Go1.region ?_
       refine GoR.op ((op_move rfl) _) rfl rfl ?_
       refine GoR.op ((op_move rfl) _) rfl rfl ?_
       have hobt := freeze 0 hO rfl hE63
       obtain ⟨hO1, hc104, hi102, hn103⟩ := hobt
       replace h_a0 := h_a0.ch hc104
       replace h_a1 := h_a1.ch hc104
       replace hi39 := hi39.ch hc104
       replace hi54 := hi54.ch hc104
       replace hE45 := hE45.ch hc104
       replace hB := hB.trans (Owns.dropFr _ _ 0)
       replace hO := hO1; clear hO1
       have hobt := obuild (r := Rp.sl (Rp.int .i64)) (n := 1) (parts := [(0, .slice p64 n66 c65)]) (vs := [.slice p64 n66 c65]) (xs := [d_61]) rfl Try.underlying22 ti23 hO (by decide) (by kernel_rfl) (Els.cons rfl ⟨p64, c65, congrArg some (congrArg (fun nn => Value.slice p64 nn c65) hn103), hi102⟩ (Els.nil _ _ _) (by simp [mx])) rfl
       obtain ⟨w105, p106, hst107, hE108, hs109, hop110⟩ := hobt
       refine GoR.op (hop110 rfl) rfl rfl ?_
       replace hE45 := hE45.ch hst107.ch
       replace hO := hst107.own
       replace h_a0 := h_a0.ch hst107.ch
       replace h_a1 := h_a1.ch hst107.ch
       replace hi39 := hi39.ch hst107.ch
       replace hi54 := hi54.ch hst107.ch
       replace hi102 := hi102.ch hst107.ch
       replace hB := hB.trans hst107.fr
       have hobt := freeze 0 hO rfl hE108
       obtain ⟨hO1, hc114, hi112, hn113⟩ := hobt
       replace h_a0 := h_a0.ch hc114
       replace h_a1 := h_a1.ch hc114
       replace hi39 := hi39.ch hc114
       replace hi54 := hi54.ch hc114
       replace hi102 := hi102.ch hc114
       replace hE45 := hE45.ch hc114
       replace hB := hB.trans (Owns.dropFr _ _ 0)
       replace hO := hO1; clear hO1
       obtain ⟨h115, H⟩ := H
       have hobt := oapp Try.underlying22 ti23 rfl 0 hO rfl hE45 hi112 hn113 h115 (by decide)
       obtain ⟨w116, p117, c118, vs119, hst120, hE121, hop122⟩ := hobt
       refine GoR.op (hop122 rfl rfl) rfl rfl ?_
       replace hO := hst120.own
       replace h_a0 := h_a0.ch hst120.ch
       replace h_a1 := h_a1.ch hst120.ch
       replace hi39 := hi39.ch hst120.ch
       replace hi54 := hi54.ch hst120.ch
       replace hi102 := hi102.ch hst120.ch
       replace hi112 := hi112.ch hst120.ch
       replace hB := hB.trans hst120.fr
       refine GoR.op ((op_assign rfl) _) rfl rfl ?_
       refine GoR.nil ?_
       refine Go1.inBlock ?_
       refine Go1.region ?_
       refine GoR.op ((op_add rfl rfl (wrap_i64 (natbd h49 h_a1.bd))) _) rfl rfl ?_
       refine GoR.op ((op_move rfl) _) rfl rfl ?_
       refine GoR.nil ?_
       exact hX2 _ H _ _ ⟨n48 + 1, p117, c118, vs119, ⟨rfl, rfl, rfl, rfl, rfl, rfl, rfl, rfl, rfl, trivial⟩, hO, hE121, h_a0, h_a1, hi39, hB⟩
     ·replace H := ifn h49 H
      refine GoR.op ((fun w => opB (op_lss rfl rfl w) (decide_eq_false h49)) _) rfl rfl ?_
      refine GoR.nil ?_
      refine Go1.seq ?_
      refine Go1.condF rfl rfl ?_
      refine Go1.exit rfl ?_
      refine Go1.inBlock ?_
      refine Go1.region ?_
      refine GoR.op ((op_add rfl rfl (wrap_i64 (natbd h34 h_a0.bd))) _) rfl rfl ?_
      refine GoR.op ((op_move rfl) _) rfl rfl ?_
      refine GoR.nil ?_
      exact hX1 _ H _ _ ⟨n48, p46, c47, vs44, ⟨rfl, rfl, rfl, rfl, rfl, trivial⟩, hO, hE45, h_a0, h_a1, hB⟩
    ·replace H := ifn h34 H
     refine GoR.op ((fun w => opB (op_lss rfl rfl w) (decide_eq_false h34)) _) rfl rfl ?_
     refine GoR.nil ?_
     refine Go1.seq ?_
     refine Go1.condF rfl rfl ?_
     refine Go1.exit rfl ?_
     refine Go1.seq ?_
     refine Go1.region ?_
     refine GoR.op ((op_move rfl) _) rfl rfl ?_
     refine GoR.op ((op_assign rfl) _) rfl rfl ?_
     refine GoR.nil ?_
     have hobt := freeze 0 hO rfl hE30
     obtain ⟨hO1, hc126, hi124, hn125⟩ := hobt
     replace h_a0 := h_a0.ch hc126
     replace h_a1 := h_a1.ch hc126
     replace hB := hB.trans (Owns.dropFr _ _ 0)
     replace hO := hO1; clear hO1
     refine Go1.ret1 Try.func33 rfl ?_
     exact ⟨d_28, p31, c32, ((congrArg (fun nn => Value.slice p31 nn c32) hn125)), hB.same, (hi124.ch (Ch.weak _ _ _)), H⟩
theorem body7 : Body Try.prog 7 := ⟨Try.f7, Try.func7, rfl, by kernel_rfl⟩
theorem walk_law14_MultLimits {A : List Nat} {w0 : World} {n : Int} {m : Int} (hA : ∀ b ∈ A, b < w0.heap.size) {K : Bool → Prop} (H : law14_MultLimits n m K) :
    CallsV Try.prog 7 #[.int .u8 n, .int .u8 m] w0 (fun v w' => ∃ (r0 : Bool), v = .bool r0 ∧ Same w0 w' ∧ K r0) := by
 refine CallsV.of (l := [.int .u8 n, .int .u8 m]) Try.func7 rfl Try.ntmps7 rfl ?_
 have hO := Owns.start hA
 have hB := Fr.refl (bl []) w0
 unfold law14_MultLimits at H
 refine Go1.seq ?_
 refine Go1.region ?_
 refine GoR.op ((op_assign rfl) _) rfl rfl ?_
 refine GoR.nil ?_
 refine Go1.seq ?_
 refine Go1.region ?_
 refine GoR.op ((op_move rfl) _) rfl rfl ?_
 refine GoR.op ((op_conv Try.underlying5 Try.underlying3 rfl rfl) _) rfl rfl ?_
 refine GoR.op ((op_rem rfl rfl (by decide) rfl) _) rfl rfl ?_
 obtain ⟨h1, H⟩ := H
 refine GoR.op ((op_add rfl rfl (wrap_i64 h1)) _) rfl rfl ?_
 refine GoR.op ((op_move rfl) _) rfl rfl ?_
 refine GoR.op ((op_conv Try.underlying5 Try.underlying3 rfl rfl) _) rfl rfl ?_
 refine GoR.op ((op_rem rfl rfl (by decide) rfl) _) rfl rfl ?_
 obtain ⟨h2, H⟩ := H
 refine GoR.op ((op_add rfl rfl (wrap_i64 h2)) _) rfl rfl ?_
 refine GoR.op ((op_assign rfl) _) rfl rfl ?_
 refine GoR.op ((op_assign rfl) _) rfl rfl ?_
 refine GoR.nil ?_
 refine Go1.seq ?_
 refine Go1.region ?_
 refine GoR.op ((op_move rfl) _) rfl rfl ?_
 refine GoR.call (op_call body34 rfl (walk_law14_zeros hO.lt H)) rfl rfl ?_
 rintro v7 w4 ⟨r3, p_r3, c_r3, rfl, hs5, h_r3, H⟩
 have hst8 := Stp.same hO hs5
 replace hO := hst8.own
 replace hB := hB.trans hst8.fr
 refine GoR.op ((op_move rfl) _) rfl rfl ?_
 refine GoR.call (op_call body34 rfl (walk_law14_zeros hO.lt H)) rfl rfl ?_
 rintro v13 w10 ⟨r9, p_r9, c_r9, rfl, hs11, h_r9, H⟩
 have hst14 := Stp.same hO hs11
 replace hO := hst14.own
 replace h_r3 := h_r3.ch hst14.ch
 replace hB := hB.trans hst14.fr
 refine GoR.call (op_call body33 rfl (walk_mult_Direct hO.lt h_r3 h_r9 H)) rfl rfl ?_
 rintro v19 w16 ⟨r15, p_r15, c_r15, rfl, hs17, h_r15, H⟩
 have hst20 := Stp.same hO hs17
 replace hO := hst20.own
 replace h_r3 := h_r3.ch hst20.ch
 replace h_r9 := h_r9.ch hst20.ch
 replace hB := hB.trans hst20.fr
 refine GoR.op ((op_assign rfl) _) rfl rfl ?_
 refine GoR.nil ?_
 refine Go1.seq ?_
 refine Go1.seq ?_
 refine Go1.region ?_
 refine GoR.op ((op_move rfl) _) rfl rfl ?_
 refine GoR.op ((op_move rfl) _) rfl rfl ?_
 obtain ⟨h21, H⟩ := H
 refine GoR.op ((op_mul rfl rfl (wrap_i64 h21)) _) rfl rfl ?_
 by_cases h22 : (400 : Int) < ((((IntKind.i64.wrap n).tmod (30 : Int)) + (1 : Int)) * (((IntKind.i64.wrap m).tmod (30 : Int)) + (1 : Int)))
 ·replace H := ifp h22 H
  refine GoR.op ((fun w => opB (op_gtr rfl rfl w) (decide_eq_true h22)) _) rfl rfl ?_
  refine GoR.nil ?_
  refine Go1.condT rfl rfl ?_
  refine Go1.seq ?_
  refine Go1.region ?_
  refine GoR.op ((op_move rfl) _) rfl rfl ?_
  refine GoR.op ((op_len Try.underlying22 rfl) _) rfl rfl ?_
  replace H := H h_r15.bd
  by_cases h23 : (r15.length : Int) = (0 : Int)
  ·replace H := ifp h23 H
   refine GoR.op ((fun w => opB (op_eql rfl rfl w) (decide_eq_true h23)) _) rfl rfl ?_
   refine GoR.op ((op_move rfl) _) rfl rfl ?_
   refine GoR.call (op_call body16 rfl (walk_law14_awake hO.lt H)) rfl rfl ?_
   rintro v28 w25 ⟨r24, rfl, hs26, H⟩
   have hst29 := Stp.same hO hs26
   replace hO := hst29.own
   replace h_r3 := h_r3.ch hst29.ch
   replace h_r9 := h_r9.ch hst29.ch
   replace h_r15 := h_r15.ch hst29.ch
   replace hB := hB.trans hst29.fr
   refine GoR.op ((op_pickT rfl rfl rfl) _) rfl rfl ?_
   refine GoR.op ((op_assign rfl) _) rfl rfl ?_
   refine GoR.nil ?_
   refine Go1.ret1 Try.func7 rfl ?_
   exact ⟨r24, rfl, hB.same, H⟩
  ·replace H := ifn h23 H
   refine GoR.op ((fun w => opB (op_eql rfl rfl w) (decide_eq_false h23)) _) rfl rfl ?_
   refine GoR.op ((op_move rfl) _) rfl rfl ?_
   refine GoR.pass rfl rfl ?_
   refine GoR.op ((op_pickF rfl rfl rfl) _) rfl rfl ?_
   refine GoR.op ((op_assign rfl) _) rfl rfl ?_
   refine GoR.nil ?_
   refine Go1.ret1 Try.func7 rfl ?_
   exact ⟨false, rfl, hB.same, H⟩
 ·replace H := ifn h22 H
  refine GoR.op ((fun w => opB (op_gtr rfl rfl w) (decide_eq_false h22)) _) rfl rfl ?_
  refine GoR.nil ?_
  refine Go1.condF rfl rfl ?_
  refine Go1.skip ?_
  refine Go1.seq ?_
  refine Go1.region ?_
  refine GoR.op ((op_move rfl) _) rfl rfl ?_
  refine GoR.op ((op_len Try.underlying22 rfl) _) rfl rfl ?_
  replace H := H h_r15.bd
  refine GoR.op ((op_move rfl) _) rfl rfl ?_
  refine GoR.op ((op_move rfl) _) rfl rfl ?_
  obtain ⟨h30, H⟩ := H
  refine GoR.op ((op_mul rfl rfl (wrap_i64 h30)) _) rfl rfl ?_
  by_cases h31 : (r15.length : Int) = ((((IntKind.i64.wrap n).tmod (30 : Int)) + (1 : Int)) * (((IntKind.i64.wrap m).tmod (30 : Int)) + (1 : Int)))
  ·replace H := ifp h31 H
   refine GoR.op ((fun w => opB (op_eql rfl rfl w) (decide_eq_true h31)) _) rfl rfl ?_
   refine GoR.op ((op_move rfl) _) rfl rfl ?_
   refine GoR.call (op_call body16 rfl (walk_law14_awake hO.lt H)) rfl rfl ?_
   rintro v36 w33 ⟨r32, rfl, hs34, H⟩
   have hst37 := Stp.same hO hs34
   replace hO := hst37.own
   replace h_r3 := h_r3.ch hst37.ch
   replace h_r9 := h_r9.ch hst37.ch
   replace h_r15 := h_r15.ch hst37.ch
   replace hB := hB.trans hst37.fr
   refine GoR.op ((op_pickT rfl rfl rfl) _) rfl rfl ?_
   refine GoR.op ((op_assign rfl) _) rfl rfl ?_
   refine GoR.nil ?_
   refine Go1.ret1 Try.func7 rfl ?_
   exact ⟨r32, rfl, hB.same, H⟩
  ·replace H := ifn h31 H
   refine GoR.op ((fun w => opB (op_eql rfl rfl w) (decide_eq_false h31)) _) rfl rfl ?_
   refine GoR.op ((op_move rfl) _) rfl rfl ?_
   refine GoR.pass rfl rfl ?_
   refine GoR.op ((op_pickF rfl rfl rfl) _) rfl rfl ?_
   refine GoR.op ((op_assign rfl) _) rfl rfl ?_
   refine GoR.nil ?_
   refine Go1.ret1 Try.func7 rfl ?_
   exact ⟨false, rfl, hB.same, H⟩
end Sg
