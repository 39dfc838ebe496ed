/- The walks: each call keeps to its plain transformer. Printed by walkgen.py. -/
import Derived.Test.YtjegmdkaiddokaaWTransLetters
namespace Sg
open Go Go.RowKit Go.Proofs
set_option linter.unusedVariables false
set_option maxRecDepth 100000
set_option maxHeartbeats 4000000
theorem body39 : Body Try.prog 39 := ⟨Try.f39, Try.func39, rfl, by kernel_rfl⟩
theorem walk_trans_Cycles {A : List Nat} {w0 : World} {p_f : Option Addr} {c_f : Nat} {f : List Int} (hA : ∀ b ∈ A, b < w0.heap.size) (h_f : ISl (Rp.int .i64) A w0 p_f c_f f) {K : List (List Int) → Prop} (H : trans_Cycles f K) :
    CallsV Try.prog 39 #[.slice p_f f.length c_f] w0 (fun v w' => ∃ (r0 : List (List Int)), ∃ (p_r0 : Option Addr), ∃ (c_r0 : Nat), v = .slice p_r0 r0.length c_r0 ∧ Same w0 w' ∧ ISl (Rp.sl (Rp.int .i64)) A w' p_r0 c_r0 r0 ∧ K r0) := by
 refine CallsV.of (l := [.slice p_f f.length c_f]) Try.func39 rfl Try.ntmps39 rfl ?_
 have hO := Owns.start hA
 have hB := Fr.refl (bl []) w0
 unfold trans_Cycles at H
 replace h_f := h_f.ch (Ch.start A w0)
 refine Go1.seq ?_
 refine Go1.region ?_
 refine GoR.op ((op_assign rfl) _) rfl rfl ?_
 refine GoR.nil ?_
 refine Go1.seq ?_
 refine Go1.seq ?_
 refine Go1.region ?_
 refine GoR.op ((op_move rfl) _) rfl rfl ?_
 refine GoR.call (op_call body21 rfl (walk_trans_Valid hO.lt h_f H)) rfl rfl ?_
 rintro v5 w2 ⟨r1, rfl, hs3, H⟩
 have hst6 := Stp.same hO hs3
 replace hO := hst6.own
 replace h_f := h_f.ch hst6.ch
 replace hB := hB.trans hst6.fr
 cases r1
 ·replace H := ifn Bool.false_ne_true H
  refine GoR.op ((op_not rfl) _) rfl rfl ?_
  refine GoR.nil ?_
  refine Go1.condT rfl rfl ?_
  refine Go1.seq ?_
  refine Go1.region ?_
  refine GoR.op ((op_assign rfl) _) rfl rfl ?_
  refine GoR.nil ?_
  refine Go1.ret1 Try.func39 rfl ?_
  exact ⟨([] : List (List Int)), none, 0, rfl, hB.same, (ISl.null _ _ _), H⟩
 ·replace H := ifp rfl H
  refine GoR.op ((op_not rfl) _) rfl rfl ?_
  refine GoR.nil ?_
  refine Go1.condF rfl rfl ?_
  refine Go1.skip ?_
  refine Go1.seq ?_
  refine Go1.region ?_
  refine GoR.op ((op_assign rfl) _) rfl rfl ?_
  refine GoR.nil ?_
  refine Go1.seq ?_
  refine Go1.seq ?_
  refine Go1.region ?_
  refine GoR.op ((op_move rfl) _) rfl rfl ?_
  refine GoR.op ((op_len Try.underlying22 rfl) _) rfl rfl ?_
  replace H := H h_f.bd
  refine GoR.op ((op_move rfl) _) rfl rfl ?_
  refine GoR.nil ?_
  refine Go1.block ?_
  have hst8 := Stp.nil (e := 22) (r := 1) hO
  replace hO := hst8.own
  replace h_f := h_f.ch hst8.ch
  replace hB := hB.trans hst8.fr
  have hE9 := Els.nil (Rp.sl (Rp.int .i64)) (bl (.row 22 1 none 0 0 [] :: []) ++ A) w2
  refine Go1.loopW (S := Nat × List (List Int)) (fun s σ w => ∃ (n17 : Nat), ∃ (p15 : Option Addr), ∃ (c16 : Nat), ∃ (vs13 : List Value), agrees σ [(0, .slice p_f f.length c_f), (3, .slice p15 n17 c16), (11, .int .i64 (f.length : Int)), (12, .int .i64 ((s.1) : Int))] ∧ Owns w0.heap.size w [.row 22 1 p15 n17 c16 vs13] A ∧ Els (Rp.sl (Rp.int .i64)) (bl [.row 22 1 p15 n17 c16 vs13] ++ A) w vs13 (s.2) ∧ ISl (Rp.int .i64) (bl [.row 22 1 p15 n17 c16 vs13] ++ A) w p_f c_f f ∧ Fr (bl []) w0 (bl [.row 22 1 p15 n17 c16 vs13]) w) H ⟨0, none, 0, [], ⟨rfl, rfl, rfl, rfl, trivial⟩, hO, hE9, h_f, hB⟩ ?_
  rintro X1 ⟨k1_11, cycles1_12⟩ H hX1 σ w10 ⟨n17, p15, c16, vs13, hag, hO, hE14, h_f, hB⟩
  dsimp only at H
  refine Go1.keep [(0, .slice p_f f.length c_f), (3, .slice p15 n17 c16), (11, .int .i64 (f.length : Int)), (12, .int .i64 (k1_11 : Int))] hag ?_
  refine Go1.seq ?_
  refine Go1.region ?_
  by_cases h18 : (k1_11 : Int) < (f.length : Int)
  ·replace H := ifp h18 H
   refine GoR.op ((fun w => opB (op_lss rfl rfl w) (decide_eq_true h18)) _) rfl rfl ?_
   refine GoR.nil ?_
   refine Go1.seq ?_
   refine Go1.condT rfl rfl ?_
   refine Go1.skip ?_
   refine Go1.seq ?_
   refine Go1.block ?_
   refine Go1.seq ?_
   refine Go1.region ?_
   refine GoR.op ((op_move rfl) _) rfl rfl ?_
   refine GoR.op ((op_assign rfl) _) rfl rfl ?_
   refine GoR.nil ?_
   refine Go1.seq ?_
   refine Go1.region ?_
   refine GoR.op ((op_move rfl) _) rfl rfl ?_
   have hobt := obuild (r := Rp.int .i64) (n := 1) (parts := [(0, .int .i64 (k1_11 : Int))]) (vs := [.int .i64 (k1_11 : Int)]) (xs := [(k1_11 : Int)]) rfl Try.underlying22 ti3 hO (by decide) (by kernel_rfl) (Els.cons rfl rfl (Els.nil _ _ _) (by decide)) rfl
   obtain ⟨w19, p20, hst21, hE22, hs23, hop24⟩ := hobt
   refine GoR.op (hop24 rfl) rfl rfl ?_
   replace hE14 := hE14.ch hst21.ch
   replace hO := hst21.own
   replace h_f := h_f.ch hst21.ch
   replace hB := hB.trans hst21.fr
   refine GoR.op ((op_assign rfl) _) rfl rfl ?_
   refine GoR.nil ?_
   refine Go1.seq ?_
   refine Go1.region ?_
   refine GoR.op ((op_move rfl) _) rfl rfl ?_
   refine GoR.op ((op_move rfl) _) rfl rfl ?_
   obtain ⟨h26, H⟩ := H
   obtain ⟨h27, H⟩ := H
   refine GoR.op ((op_index Try.underlying22 ti3 rfl rfl h26 h27 (h_f.some_ h26 h27)) _) rfl rfl ?_
   refine GoR.op ((ldInt h_f h26 h27 Try.underlying3 rfl rfl) _ (Same.refl _)) rfl rfl ?_
   refine GoR.op ((op_assign rfl) _) rfl rfl ?_
   refine GoR.nil ?_
   refine Go1.seq ?_
   refine Go1.block ?_
   refine Go1.loopW (S := Int × List Int) (fun s σ w => ∃ (n35 : Nat), ∃ (p33 : Option Addr), ∃ (c34 : Nat), ∃ (vs31 : List Value), agrees σ [(0, .slice p_f f.length c_f), (3, .slice p15 n17 c16), (4, .int .i64 (k1_11 : Int)), (5, .slice p33 n35 c34), (6, .int .i64 (s.1)), (11, .int .i64 (f.length : Int)), (12, .int .i64 (k1_11 : Int))] ∧ Owns w0.heap.size w [.row 3 1 p33 n35 c34 vs31, .row 22 1 p15 n17 c16 vs13] A ∧ Els (Rp.int .i64) (bl [.row 3 1 p33 n35 c34 vs31, .row 22 1 p15 n17 c16 vs13] ++ A) w vs31 (s.2) ∧ Els (Rp.sl (Rp.int .i64)) (bl [.row 3 1 p33 n35 c34 vs31, .row 22 1 p15 n17 c16 vs13] ++ A) w vs13 cycles1_12 ∧ ISl (Rp.int .i64) (bl [.row 3 1 p33 n35 c34 vs31, .row 22 1 p15 n17 c16 vs13] ++ A) w p_f c_f f ∧ Fr (bl []) w0 (bl [.row 3 1 p33 n35 c34 vs31, .row 22 1 p15 n17 c16 vs13]) w) H ⟨1, p20, 1, [.int .i64 (k1_11 : Int)], ⟨rfl, rfl, rfl, rfl, rfl, rfl, rfl, trivial⟩, hO, hE22, hE14, h_f, hB⟩ ?_
   rintro X2 ⟨j2_29, cycle2_30⟩ H hX2 σ w28 ⟨n35, p33, c34, vs31, hag, hO, hE32, hE14, h_f, hB⟩
   dsimp only at H
   refine Go1.keep [(0, .slice p_f f.length c_f), (3, .slice p15 n17 c16), (4, .int .i64 (k1_11 : Int)), (5, .slice p33 n35 c34), (6, .int .i64 j2_29), (11, .int .i64 (f.length : Int)), (12, .int .i64 (k1_11 : Int))] hag ?_
   refine Go1.seq ?_
   refine Go1.seq ?_
   refine Go1.region ?_
   refine GoR.op ((op_move rfl) _) rfl rfl ?_
   refine GoR.op ((op_move rfl) _) rfl rfl ?_
   by_cases h36 : (k1_11 : Int) < j2_29
   ·replace H := ifp h36 H
    refine GoR.op ((fun w => opB (op_gtr rfl rfl w) (decide_eq_true h36)) _) rfl rfl ?_
    refine GoR.op ((op_move rfl) _) rfl rfl ?_
    refine GoR.op ((op_move rfl) _) rfl rfl ?_
    refine GoR.op ((op_lenN Try.underlying22 rfl (hE32.neq hO 0 rfl)) _) rfl rfl ?_
    refine GoR.op ((op_move rfl) _) rfl rfl ?_
    refine GoR.op ((op_len Try.underlying22 rfl) _) rfl rfl ?_
    by_cases h37 : (cycle2_30.length : Int) < (f.length : Int)
    ·replace H := ifp h37 H
     refine GoR.op ((fun w => opB (op_lss rfl rfl w) (decide_eq_true h37)) _) rfl rfl ?_
     refine GoR.op ((op_pickT rfl rfl rfl) _) rfl rfl ?_
     refine GoR.nil ?_
     refine Go1.condT rfl rfl ?_
     refine Go1.skip ?_
     refine Go1.seq ?_
     refine Go1.block ?_
     refine Go1.region ?_
     refine GoR.op ((op_move rfl) _) rfl rfl ?_
     refine GoR.op ((op_move rfl) _) rfl rfl ?_
     have hobt := obuild (r := Rp.int .i64) (n := 1) (parts := [(0, .int .i64 j2_29)]) (vs := [.int .i64 j2_29]) (xs := [j2_29]) rfl Try.underlying22 ti3 hO (by decide) (by kernel_rfl) (Els.cons rfl rfl (Els.nil _ _ _) (by decide)) rfl
     obtain ⟨w38, p39, hst40, hE41, hs42, hop43⟩ := hobt
     refine GoR.op (hop43 rfl) rfl rfl ?_
     replace hE32 := hE32.ch hst40.ch
     replace hE14 := hE14.ch hst40.ch
     replace hO := hst40.own
     replace h_f := h_f.ch hst40.ch
     replace hB := hB.trans hst40.fr
     have hobt := freeze 0 hO rfl hE41
     obtain ⟨hO1, hc47, hi45, hn46⟩ := hobt
     replace h_f := h_f.ch hc47
     replace hE32 := hE32.ch hc47
     replace hE14 := hE14.ch hc47
     replace hB := hB.trans (Owns.dropFr _ _ 0)
     replace hO := hO1; clear hO1
     obtain ⟨h48, H⟩ := H
     have hobt := oapp Try.underlying22 ti3 rfl 0 hO rfl hE32 hi45 hn46 h48 (by decide)
     obtain ⟨w49, p50, c51, vs52, hst53, hE54, hop55⟩ := hobt
     refine GoR.op (hop55 rfl rfl) rfl rfl ?_
     replace hE14 := hE14.ch hst53.ch
     replace hO := hst53.own
     replace h_f := h_f.ch hst53.ch
     replace hi45 := hi45.ch hst53.ch
     replace hB := hB.trans hst53.fr
     refine GoR.op ((op_assign rfl) _) rfl rfl ?_
     refine GoR.nil ?_
     refine Go1.inBlock ?_
     refine Go1.region ?_
     refine GoR.op ((op_move rfl) _) rfl rfl ?_
     refine GoR.op ((op_move rfl) _) rfl rfl ?_
     obtain ⟨h57, H⟩ := H
     obtain ⟨h58, H⟩ := H
     refine GoR.op ((op_index Try.underlying22 ti3 rfl rfl h57 h58 (h_f.some_ h57 h58)) _) rfl rfl ?_
     refine GoR.op ((ldInt h_f h57 h58 Try.underlying3 rfl rfl) _ (Same.refl _)) rfl rfl ?_
     refine GoR.op ((op_assign rfl) _) rfl rfl ?_
     refine GoR.nil ?_
     exact hX2 _ H _ _ ⟨n35 + 1, p50, c51, vs52, ⟨rfl, rfl, rfl, rfl, rfl, rfl, rfl, trivial⟩, hO, hE54, hE14, h_f, hB⟩
    ·replace H := ifn h37 H
     refine GoR.op ((fun w => opB (op_lss rfl rfl w) (decide_eq_false h37)) _) rfl rfl ?_
     refine GoR.op ((op_pickT rfl rfl rfl) _) rfl rfl ?_
     refine GoR.nil ?_
     refine Go1.condF rfl rfl ?_
     refine Go1.exit rfl ?_
     refine Go1.seq ?_
     refine Go1.region ?_
     refine GoR.op ((op_move rfl) _) rfl rfl ?_
     refine GoR.op ((op_move rfl) _) rfl rfl ?_
     by_cases h59 : j2_29 = (k1_11 : Int)
     ·replace H := ifp h59 H
      refine GoR.op ((fun w => opB (op_eql rfl rfl w) (decide_eq_true h59)) _) rfl rfl ?_
      refine GoR.nil ?_
      refine Go1.condT rfl rfl ?_
      refine Go1.region ?_
      refine GoR.op ((op_move rfl) _) rfl rfl ?_
      refine GoR.op ((op_move rfl) _) rfl rfl ?_
      have hobt := freeze 0 hO rfl hE32
      obtain ⟨hO1, hc62, hi60, hn61⟩ := hobt
      replace h_f := h_f.ch hc62
      replace hE14 := hE14.ch hc62
      replace hB := hB.trans (Owns.dropFr _ _ 0)
      replace hO := hO1; clear hO1
      have hobt := obuild (r := Rp.sl (Rp.int .i64)) (n := 1) (parts := [(0, .slice p33 n35 c34)]) (vs := [.slice p33 n35 c34]) (xs := [cycle2_30]) rfl Try.underlying35 ti22 hO (by decide) (by kernel_rfl) (Els.cons rfl ⟨p33, c34, congrArg some (congrArg (fun nn => Value.slice p33 nn c34) hn61), hi60⟩ (Els.nil _ _ _) (by decide)) rfl
      obtain ⟨w63, p64, hst65, hE66, hs67, hop68⟩ := hobt
      refine GoR.op (hop68 rfl) rfl rfl ?_
      replace hE14 := hE14.ch hst65.ch
      replace hO := hst65.own
      replace h_f := h_f.ch hst65.ch
      replace hi60 := hi60.ch hst65.ch
      replace hB := hB.trans hst65.fr
      have hobt := freeze 0 hO rfl hE66
      obtain ⟨hO1, hc72, hi70, hn71⟩ := hobt
      replace h_f := h_f.ch hc72
      replace hi60 := hi60.ch hc72
      replace hE14 := hE14.ch hc72
      replace hB := hB.trans (Owns.dropFr _ _ 0)
      replace hO := hO1; clear hO1
      obtain ⟨h73, H⟩ := H
      have hobt := oapp Try.underlying35 ti22 rfl 0 hO rfl hE14 hi70 hn71 h73 (by decide)
      obtain ⟨w74, p75, c76, vs77, hst78, hE79, hop80⟩ := hobt
      refine GoR.op (hop80 rfl rfl) rfl rfl ?_
      replace hO := hst78.own
      replace h_f := h_f.ch hst78.ch
      replace hi60 := hi60.ch hst78.ch
      replace hi70 := hi70.ch hst78.ch
      replace hB := hB.trans hst78.fr
      refine GoR.op ((op_assign rfl) _) rfl rfl ?_
      refine GoR.nil ?_
      refine Go1.inBlock ?_
      refine Go1.region ?_
      refine GoR.op ((op_add rfl rfl (wrap_i64 (natbd h18 h_f.bd))) _) rfl rfl ?_
      refine GoR.op ((op_move rfl) _) rfl rfl ?_
      refine GoR.nil ?_
      exact hX1 _ H _ _ ⟨n17 + 1, p75, c76, vs77, ⟨rfl, rfl, rfl, rfl, trivial⟩, hO, hE79, h_f, hB⟩
     ·replace H := ifn h59 H
      refine GoR.op ((fun w => opB (op_eql rfl rfl w) (decide_eq_false h59)) _) rfl rfl ?_
      refine GoR.nil ?_
      refine Go1.condF rfl rfl ?_
      refine Go1.skip ?_
      refine Go1.inBlock ?_
      refine Go1.region ?_
      refine GoR.op ((op_add rfl rfl (wrap_i64 (natbd h18 h_f.bd))) _) rfl rfl ?_
      refine GoR.op ((op_move rfl) _) rfl rfl ?_
      refine GoR.nil ?_
      replace h_f := h_f.ch (Owns.dropCh _ _ 0)
      replace hE14 := hE14.ch (Owns.dropCh _ _ 0)
      replace hB := hB.trans (Owns.dropFr _ _ 0)
      replace hO := hO.drop 0
      exact hX1 _ H _ _ ⟨n17, p15, c16, vs13, ⟨rfl, rfl, rfl, rfl, trivial⟩, hO, hE14, h_f, hB⟩
   ·replace H := ifn h36 H
    refine GoR.op ((fun w => opB (op_gtr rfl rfl w) (decide_eq_false h36)) _) rfl rfl ?_
    refine GoR.op ((op_move rfl) _) rfl rfl ?_
    refine GoR.pass rfl rfl ?_
    refine GoR.pass rfl rfl ?_
    refine GoR.pass rfl rfl ?_
    refine GoR.pass rfl rfl ?_
    refine GoR.pass rfl rfl ?_
    refine GoR.op ((op_pickF rfl rfl rfl) _) rfl rfl ?_
    refine GoR.nil ?_
    refine Go1.condF rfl rfl ?_
    refine Go1.exit rfl ?_
    refine Go1.seq ?_
    refine Go1.region ?_
    refine GoR.op ((op_move rfl) _) rfl rfl ?_
    refine GoR.op ((op_move rfl) _) rfl rfl ?_
    by_cases h82 : j2_29 = (k1_11 : Int)
    ·replace H := ifp h82 H
     refine GoR.op ((fun w => opB (op_eql rfl rfl w) (decide_eq_true h82)) _) rfl rfl ?_
     refine GoR.nil ?_
     refine Go1.condT rfl rfl ?_
     refine Go1.region ?_
     refine GoR.op ((op_move rfl) _) rfl rfl ?_
     refine GoR.op ((op_move rfl) _) rfl rfl ?_
     have hobt := freeze 0 hO rfl hE32
     obtain ⟨hO1, hc85, hi83, hn84⟩ := hobt
     replace h_f := h_f.ch hc85
     replace hE14 := hE14.ch hc85
     replace hB := hB.trans (Owns.dropFr _ _ 0)
     replace hO := hO1; clear hO1
     have hobt := obuild (r := Rp.sl (Rp.int .i64)) (n := 1) (parts := [(0, .slice p33 n35 c34)]) (vs := [.slice p33 n35 c34]) (xs := [cycle2_30]) rfl Try.underlying35 ti22 hO (by decide) (by kernel_rfl) (Els.cons rfl ⟨p33, c34, congrArg some (congrArg (fun nn => Value.slice p33 nn c34) hn84), hi83⟩ (Els.nil _ _ _) (by decide)) rfl
     obtain ⟨w86, p87, hst88, hE89, hs90, hop91⟩ := hobt
     refine GoR.op (hop91 rfl) rfl rfl ?_
     replace hE14 := hE14.ch hst88.ch
     replace hO := hst88.own
     replace h_f := h_f.ch hst88.ch
     replace hi83 := hi83.ch hst88.ch
     replace hB := hB.trans hst88.fr
     have hobt := freeze 0 hO rfl hE89
     obtain ⟨hO1, hc95, hi93, hn94⟩ := hobt
     replace h_f := h_f.ch hc95
     replace hi83 := hi83.ch hc95
     replace hE14 := hE14.ch hc95
     replace hB := hB.trans (Owns.dropFr _ _ 0)
     replace hO := hO1; clear hO1
     obtain ⟨h96, H⟩ := H
     have hobt := oapp Try.underlying35 ti22 rfl 0 hO rfl hE14 hi93 hn94 h96 (by decide)
     obtain ⟨w97, p98, c99, vs100, hst101, hE102, hop103⟩ := hobt
     refine GoR.op (hop103 rfl rfl) rfl rfl ?_
     replace hO := hst101.own
     replace h_f := h_f.ch hst101.ch
     replace hi83 := hi83.ch hst101.ch
     replace hi93 := hi93.ch hst101.ch
     replace hB := hB.trans hst101.fr
     refine GoR.op ((op_assign rfl) _) rfl rfl ?_
     refine GoR.nil ?_
     refine Go1.inBlock ?_
     refine Go1.region ?_
     refine GoR.op ((op_add rfl rfl (wrap_i64 (natbd h18 h_f.bd))) _) rfl rfl ?_
     refine GoR.op ((op_move rfl) _) rfl rfl ?_
     refine GoR.nil ?_
     exact hX1 _ H _ _ ⟨n17 + 1, p98, c99, vs100, ⟨rfl, rfl, rfl, rfl, trivial⟩, hO, hE102, h_f, hB⟩
    ·replace H := ifn h82 H
     refine GoR.op ((fun w => opB (op_eql rfl rfl w) (decide_eq_false h82)) _) rfl rfl ?_
     refine GoR.nil ?_
     refine Go1.condF rfl rfl ?_
     refine Go1.skip ?_
     refine Go1.inBlock ?_
     refine Go1.region ?_
     refine GoR.op ((op_add rfl rfl (wrap_i64 (natbd h18 h_f.bd))) _) rfl rfl ?_
     refine GoR.op ((op_move rfl) _) rfl rfl ?_
     refine GoR.nil ?_
     replace h_f := h_f.ch (Owns.dropCh _ _ 0)
     replace hE14 := hE14.ch (Owns.dropCh _ _ 0)
     replace hB := hB.trans (Owns.dropFr _ _ 0)
     replace hO := hO.drop 0
     exact hX1 _ H _ _ ⟨n17, p15, c16, vs13, ⟨rfl, rfl, rfl, rfl, trivial⟩, hO, hE14, h_f, hB⟩
  ·replace H := ifn h18 H
   refine GoR.op ((fun w => opB (op_lss rfl rfl w) (decide_eq_false h18)) _) rfl rfl ?_
   refine GoR.nil ?_
   refine Go1.seq ?_
   refine Go1.condF rfl rfl ?_
   refine Go1.exit rfl ?_
   refine Go1.seq ?_
   refine Go1.region ?_
   refine GoR.op ((op_move rfl) _) rfl rfl ?_
   refine GoR.op ((op_assign rfl) _) rfl rfl ?_
   refine GoR.nil ?_
   have hobt := freeze 0 hO rfl hE14
   obtain ⟨hO1, hc107, hi105, hn106⟩ := hobt
   replace h_f := h_f.ch hc107
   replace hB := hB.trans (Owns.dropFr _ _ 0)
   replace hO := hO1; clear hO1
   refine Go1.ret1 Try.func39 rfl ?_
   exact ⟨cycles1_12, p15, c16, ((congrArg (fun nn => Value.slice p15 nn c16) hn106)), hB.same, (hi105.ch (Ch.weak _ _ _)), H⟩
theorem body57 : Body Try.prog 57 := ⟨Try.f57, Try.func57, rfl, by kernel_rfl⟩
theorem walk_trans_divisor {A : List Nat} {w0 : World} {a : Int} {b : Int} (hA : ∀ b ∈ A, b < w0.heap.size) {K : Int → Prop} (H : trans_divisor a b K) :
    CallsV Try.prog 57 #[.int .i64 a, .int .i64 b] w0 (fun v w' => ∃ (r0 : Int), v = .int .i64 r0 ∧ Same w0 w' ∧ K r0) := by
 refine CallsV.of (l := [.int .i64 a, .int .i64 b]) Try.func57 rfl Try.ntmps57 rfl ?_
 have hO := Owns.start hA
 have hB := Fr.refl (bl []) w0
 unfold trans_divisor at H
 refine Go1.seq ?_
 refine Go1.region ?_
 refine GoR.op ((op_assign rfl) _) rfl rfl ?_
 refine GoR.nil ?_
 refine Go1.seq ?_
 refine Go1.block ?_
 refine Go1.loopW (S := Int × Int) (fun s σ w => agrees σ [(0, .int .i64 (s.1)), (1, .int .i64 (s.2))] ∧ Owns w0.heap.size w [] A ∧ Fr (bl []) w0 (bl []) w) H ⟨⟨rfl, rfl, trivial⟩, hO, hB⟩ ?_
 rintro X1 ⟨a1_2, b1_3⟩ H hX1 σ w1 ⟨hag, hO, hB⟩
 dsimp only at H
 refine Go1.keep [(0, .int .i64 a1_2), (1, .int .i64 b1_3)] hag ?_
 refine Go1.seq ?_
 refine Go1.seq ?_
 refine Go1.region ?_
 refine GoR.op ((op_move rfl) _) rfl rfl ?_
 by_cases h4 : (0 : Int) < b1_3
 ·replace H := ifp h4 H
  refine GoR.op ((fun w => opB (op_gtr rfl rfl w) (decide_eq_true h4)) _) rfl rfl ?_
  refine GoR.nil ?_
  refine Go1.condT rfl rfl ?_
  refine Go1.skip ?_
  refine Go1.block ?_
  refine Go1.drawS 0 [(0, .pure), (1, .pure), (2, .pure), (3, .pure), (4, .pure), (5, .pure)] mixed (by kernel_rfl) ?_
  intro w5 hs6
  have hst7 := Stp.same hO hs6
  replace hO := hst7.own
  replace hB := hB.trans hst7.fr
  refine GoQ.pure rfl (op_move rfl) rfl rfl ?_
  refine GoQ.pure rfl (op_move rfl) rfl rfl ?_
  refine GoQ.pure rfl (op_move rfl) rfl rfl ?_
  obtain ⟨h8, H⟩ := H
  refine GoQ.pure rfl (op_rem rfl rfl h8 rfl) rfl rfl ?_
  refine GoQ.pure rfl (op_assign rfl) rfl rfl ?_
  refine GoQ.pure rfl (op_assign rfl) rfl rfl ?_
  refine GoQ.nil ?_
  refine Go1.inBlock ?_
  exact hX1 _ H _ _ ⟨⟨rfl, rfl, trivial⟩, hO, hB⟩
 ·replace H := ifn h4 H
  refine GoR.op ((fun w => opB (op_gtr rfl rfl w) (decide_eq_false h4)) _) rfl rfl ?_
  refine GoR.nil ?_
  refine Go1.condF rfl rfl ?_
  refine Go1.exit rfl ?_
  refine Go1.seq ?_
  refine Go1.region ?_
  refine GoR.op ((op_move rfl) _) rfl rfl ?_
  refine GoR.op ((op_assign rfl) _) rfl rfl ?_
  refine GoR.nil ?_
  refine Go1.ret1 Try.func57 rfl ?_
  exact ⟨a1_2, rfl, hB.same, H⟩
theorem body37 : Body Try.prog 37 := ⟨Try.f37, Try.func37, rfl, by kernel_rfl⟩
theorem walk_trans_IndexPeriod {A : List Nat} {w0 : World} {p_a0 : Option Addr} {c_a0 : Nat} {a0 : List Int} (hA : ∀ b ∈ A, b < w0.heap.size) (h_a0 : ISl (Rp.int .i64) A w0 p_a0 c_a0 a0) {K : Int → Int → Prop} (H : trans_IndexPeriod a0 K) :
    CallsV Try.prog 37 #[.slice p_a0 a0.length c_a0] w0 (fun v w' => ∃ (r0 : Int), ∃ (r1 : Int), v = .tuple #[.int .i64 r0, .int .i64 r1] ∧ Same w0 w' ∧ K r0 r1) := by
 refine CallsV.of (l := [.slice p_a0 a0.length c_a0]) Try.func37 rfl Try.ntmps37 rfl ?_
 have hO := Owns.start hA
 have hB := Fr.refl (bl []) w0
 unfold trans_IndexPeriod at H
 replace h_a0 := h_a0.ch (Ch.start A w0)
 refine Go1.seq ?_
 refine Go1.region ?_
 refine GoR.op ((op_assign rfl) _) rfl rfl ?_
 refine GoR.op ((op_assign rfl) _) rfl rfl ?_
 refine GoR.nil ?_
 refine Go1.seq ?_
 refine Go1.seq ?_
 refine Go1.region ?_
 refine GoR.op ((op_move rfl) _) rfl rfl ?_
 refine GoR.call (op_call body21 rfl (walk_trans_Valid hO.lt h_a0 H)) rfl rfl ?_
 rintro v5 w2 ⟨r1, rfl, hs3, H⟩
 have hst6 := Stp.same hO hs3
 replace hO := hst6.own
 replace h_a0 := h_a0.ch hst6.ch
 replace hB := hB.trans hst6.fr
 cases r1
 ·replace H := ifn Bool.false_ne_true H
  refine GoR.op ((op_not rfl) _) rfl rfl ?_
  refine GoR.nil ?_
  refine Go1.condT rfl rfl ?_
  refine Go1.seq ?_
  refine Go1.region ?_
  refine GoR.op ((op_assign rfl) _) rfl rfl ?_
  refine GoR.op ((op_assign rfl) _) rfl rfl ?_
  refine GoR.nil ?_
  refine Go1.ret2 Try.func37 rfl ?_
  exact ⟨(0 : Int), (0 : Int), rfl, hB.same, H⟩
 ·replace H := ifp rfl H
  refine GoR.op ((op_not rfl) _) rfl rfl ?_
  refine GoR.nil ?_
  refine Go1.condF rfl rfl ?_
  refine Go1.skip ?_
  refine Go1.seq ?_
  refine Go1.region ?_
  refine GoR.op ((op_move rfl) _) rfl rfl ?_
  refine GoR.op ((op_len Try.underlying22 rfl) _) rfl rfl ?_
  replace H := H h_a0.bd
  obtain ⟨h14, H⟩ := H
  obtain ⟨h15, H⟩ := H
  have hobt := omake (n := (a0.length : Int)) (r := Rp.bool) (d := false) Try.underlying40 ti4 (fun _ _ => rfl) rfl hO h14 h15 (by decide)
  obtain ⟨w7, p8, vs9, hst10, hE11, hs12, hop13⟩ := hobt
  refine GoR.op (hop13 rfl rfl) rfl rfl ?_
  replace hO := hst10.own
  replace h_a0 := h_a0.ch hst10.ch
  replace hB := hB.trans hst10.fr
  refine GoR.op ((op_assign rfl) _) rfl rfl ?_
  refine GoR.nil ?_
  refine Go1.seq ?_
  refine Go1.region ?_
  refine GoR.op ((op_assign rfl) _) rfl rfl ?_
  refine GoR.nil ?_
  refine Go1.seq ?_
  refine Go1.seq ?_
  refine Go1.region ?_
  refine GoR.op ((op_move rfl) _) rfl rfl ?_
  refine GoR.call (op_call body39 rfl (walk_trans_Cycles hO.lt h_a0 H)) rfl rfl ?_
  rintro v21 w18 ⟨r17, p_r17, c_r17, rfl, hs19, h_r17, H⟩
  have hst22 := Stp.same hO hs19
  replace hE11 := hE11.ch hst22.ch
  replace hO := hst22.own
  replace h_a0 := h_a0.ch hst22.ch
  replace hB := hB.trans hst22.fr
  refine GoR.op ((op_len Try.underlying35 rfl) _) rfl rfl ?_
  replace H := H h_r17.bd
  refine GoR.op ((op_move rfl) _) rfl rfl ?_
  refine GoR.nil ?_
  refine Go1.block ?_
  refine Go1.loopW (S := Int × Nat × List Bool) (fun s σ w => ∃ (vs27 : List Value), agrees σ [(0, .slice p_a0 a0.length c_a0), (4, .slice p8 a0.length a0.length), (5, .int .i64 (s.1)), (21, .slice p_r17 r17.length c_r17), (22, .int .i64 (r17.length : Int)), (23, .int .i64 ((s.2.1) : Int))] ∧ Owns w0.heap.size w [.row 4 1 p8 a0.length a0.length vs27] A ∧ Els (Rp.bool) (bl [.row 4 1 p8 a0.length a0.length vs27] ++ A) w vs27 (s.2.2) ∧ ISl (Rp.int .i64) (bl [.row 4 1 p8 a0.length a0.length vs27] ++ A) w p_a0 c_a0 a0 ∧ ISl (Rp.sl (Rp.int .i64)) (bl [.row 4 1 p8 a0.length a0.length vs27] ++ A) w p_r17 c_r17 r17 ∧ Fr (bl []) w0 (bl [.row 4 1 p8 a0.length a0.length vs27]) w) H ⟨vs9, ⟨rfl, rfl, rfl, rfl, rfl, rfl, trivial⟩, hO, hE11, h_a0, h_r17, hB⟩ ?_
  rintro X1 ⟨k1_24, k1_25, d_26⟩ H hX1 σ w23 ⟨vs27, hag, hO, hE28, h_a0, h_r17, hB⟩
  dsimp only at H
  refine Go1.keep [(0, .slice p_a0 a0.length c_a0), (4, .slice p8 a0.length a0.length), (5, .int .i64 k1_24), (21, .slice p_r17 r17.length c_r17), (22, .int .i64 (r17.length : Int)), (23, .int .i64 (k1_25 : Int))] hag ?_
  refine Go1.seq ?_
  refine Go1.region ?_
  by_cases h29 : (k1_25 : Int) < (r17.length : Int)
  ·replace H := ifp h29 H
   refine GoR.op ((fun w => opB (op_lss rfl rfl w) (decide_eq_true h29)) _) rfl rfl ?_
   refine GoR.nil ?_
   refine Go1.seq ?_
   refine Go1.condT rfl rfl ?_
   refine Go1.skip ?_
   refine Go1.seq ?_
   refine Go1.block ?_
   refine Go1.seq ?_
   refine Go1.region ?_
   obtain ⟨h30, H⟩ := H
   obtain ⟨h31, H⟩ := H
   refine GoR.op ((op_index Try.underlying35 ti22 rfl rfl h30 h31 (h_r17.some_ h30 h31)) _) rfl rfl ?_
   have hobt := ldSl h_r17 h30 h31
   obtain ⟨p32, c33, hi34, hl35⟩ := hobt
   refine GoR.op ((hl35 Try.underlying22 rfl rfl) _ (Same.refl _)) rfl rfl ?_
   refine GoR.op ((op_assign rfl) _) rfl rfl ?_
   refine GoR.nil ?_
   refine Go1.seq ?_
   refine Go1.seq ?_
   refine Go1.region ?_
   refine GoR.op ((op_move rfl) _) rfl rfl ?_
   refine GoR.op ((op_len Try.underlying22 rfl) _) rfl rfl ?_
   replace H := H hi34.bd
   refine GoR.op ((op_move rfl) _) rfl rfl ?_
   refine GoR.nil ?_
   refine Go1.block ?_
   refine Go1.loopW (S := Nat × List Bool) (fun s σ w => ∃ (vs39 : List Value), agrees σ [(0, .slice p_a0 a0.length c_a0), (4, .slice p8 a0.length a0.length), (5, .int .i64 k1_24), (7, .slice p32 ((ix r17 (k1_25 : Int)).length) c33), (21, .slice p_r17 r17.length c_r17), (22, .int .i64 (r17.length : Int)), (23, .int .i64 (k1_25 : Int)), (27, .slice p32 ((ix r17 (k1_25 : Int)).length) c33), (28, .int .i64 ((ix r17 (k1_25 : Int)).length : Int)), (29, .int .i64 ((s.1) : Int))] ∧ Owns w0.heap.size w [.row 4 1 p8 a0.length a0.length vs39] A ∧ Els (Rp.bool) (bl [.row 4 1 p8 a0.length a0.length vs39] ++ A) w vs39 (s.2) ∧ ISl (Rp.int .i64) (bl [.row 4 1 p8 a0.length a0.length vs39] ++ A) w p_a0 c_a0 a0 ∧ ISl (Rp.sl (Rp.int .i64)) (bl [.row 4 1 p8 a0.length a0.length vs39] ++ A) w p_r17 c_r17 r17 ∧ ISl (Rp.int .i64) (bl [.row 4 1 p8 a0.length a0.length vs39] ++ A) w p32 c33 (ix r17 (k1_25 : Int)) ∧ Fr (bl []) w0 (bl [.row 4 1 p8 a0.length a0.length vs39]) w) H ⟨vs27, ⟨rfl, rfl, rfl, rfl, rfl, rfl, rfl, rfl, rfl, rfl, trivial⟩, hO, hE28, h_a0, h_r17, hi34, hB⟩ ?_
   rintro X2 ⟨k2_37, d_38⟩ H hX2 σ w36 ⟨vs39, hag, hO, hE40, h_a0, h_r17, hi34, hB⟩
   dsimp only at H
   refine Go1.keep [(0, .slice p_a0 a0.length c_a0), (4, .slice p8 a0.length a0.length), (5, .int .i64 k1_24), (7, .slice p32 ((ix r17 (k1_25 : Int)).length) c33), (21, .slice p_r17 r17.length c_r17), (22, .int .i64 (r17.length : Int)), (23, .int .i64 (k1_25 : Int)), (27, .slice p32 ((ix r17 (k1_25 : Int)).length) c33), (28, .int .i64 ((ix r17 (k1_25 : Int)).length : Int)), (29, .int .i64 (k2_37 : Int))] hag ?_
   refine Go1.seq ?_
   refine Go1.region ?_
   by_cases h41 : (k2_37 : Int) < ((ix r17 (k1_25 : Int)).length : Int)
   ·replace H := ifp h41 H
    refine GoR.op ((fun w => opB (op_lss rfl rfl w) (decide_eq_true h41)) _) rfl rfl ?_
    refine GoR.nil ?_
    refine Go1.seq ?_
    refine Go1.condT rfl rfl ?_
    refine Go1.skip ?_
    refine Go1.seq ?_
    refine Go1.block ?_
    refine Go1.seq ?_
    refine Go1.region ?_
    obtain ⟨h42, H⟩ := H
    obtain ⟨h43, H⟩ := H
    refine GoR.op ((op_index Try.underlying22 ti3 rfl rfl h42 h43 (hi34.some_ h42 h43)) _) rfl rfl ?_
    refine GoR.op ((ldInt hi34 h42 h43 Try.underlying3 rfl rfl) _ (Same.refl _)) rfl rfl ?_
    refine GoR.op ((op_assign rfl) _) rfl rfl ?_
    refine GoR.nil ?_
    refine Go1.region ?_
    refine GoR.op ((op_move rfl) _) rfl rfl ?_
    refine GoR.op ((op_move rfl) _) rfl rfl ?_
    obtain ⟨h44, H⟩ := H
    obtain ⟨h45, H⟩ := H
    refine GoR.op ((op_index Try.underlying40 ti4 rfl rfl h44 (ltn (hE40.neq hO 0 rfl) h45) (hE40.psome hO 0 rfl h44 h45)) _) rfl rfl ?_
    have hobt := ost (r := Rp.bool) rfl 0 hO rfl hE40 h44 h45 (v := .bool true) (u := true) rfl rfl
    obtain ⟨w46, vs47, hst48, hE49, hop50⟩ := hobt
    refine GoR.op (hop50 Try.underlying4 rfl ti4 rfl rfl) rfl rfl ?_
    replace hO := hst48.own
    replace h_a0 := h_a0.ch hst48.ch
    replace h_r17 := h_r17.ch hst48.ch
    replace hi34 := hi34.ch hst48.ch
    replace hB := hB.trans hst48.fr
    refine GoR.nil ?_
    refine Go1.inBlock ?_
    refine Go1.region ?_
    refine GoR.op ((op_add rfl rfl (wrap_i64 (natbd h41 hi34.bd))) _) rfl rfl ?_
    refine GoR.op ((op_move rfl) _) rfl rfl ?_
    refine GoR.nil ?_
    exact hX2 _ H _ _ ⟨vs47, ⟨rfl, rfl, rfl, rfl, rfl, rfl, rfl, rfl, rfl, rfl, trivial⟩, hO, hE49, h_a0, h_r17, hi34, hB⟩
   ·replace H := ifn h41 H
    refine GoR.op ((fun w => opB (op_lss rfl rfl w) (decide_eq_false h41)) _) rfl rfl ?_
    refine GoR.nil ?_
    refine Go1.seq ?_
    refine Go1.condF rfl rfl ?_
    refine Go1.exit rfl ?_
    refine Go1.region ?_
    refine GoR.op ((op_move rfl) _) rfl rfl ?_
    refine GoR.op ((op_move rfl) _) rfl rfl ?_
    refine GoR.op ((op_move rfl) _) rfl rfl ?_
    refine GoR.op ((op_len Try.underlying22 rfl) _) rfl rfl ?_
    refine GoR.call (op_call body57 rfl (walk_trans_divisor hO.lt H)) rfl rfl ?_
    rintro v55 w52 ⟨r51, rfl, hs53, H⟩
    have hst56 := Stp.same hO hs53
    replace hE40 := hE40.ch hst56.ch
    replace hO := hst56.own
    replace h_a0 := h_a0.ch hst56.ch
    replace h_r17 := h_r17.ch hst56.ch
    replace hi34 := hi34.ch hst56.ch
    replace hB := hB.trans hst56.fr
    obtain ⟨h57, H⟩ := H
    obtain ⟨h58, H⟩ := H
    refine GoR.op ((op_quo rfl rfl h57 (wrap_i64 h58)) _) rfl rfl ?_
    refine GoR.op ((op_move rfl) _) rfl rfl ?_
    refine GoR.op ((op_len Try.underlying22 rfl) _) rfl rfl ?_
    obtain ⟨h59, H⟩ := H
    refine GoR.op ((op_mul rfl rfl (wrap_i64 h59)) _) rfl rfl ?_
    refine GoR.op ((op_assign rfl) _) rfl rfl ?_
    refine GoR.nil ?_
    refine Go1.inBlock ?_
    refine Go1.region ?_
    refine GoR.op ((op_add rfl rfl (wrap_i64 (natbd h29 h_r17.bd))) _) rfl rfl ?_
    refine GoR.op ((op_move rfl) _) rfl rfl ?_
    refine GoR.nil ?_
    exact hX1 _ H _ _ ⟨vs39, ⟨rfl, rfl, rfl, rfl, rfl, rfl, trivial⟩, hO, hE40, h_a0, h_r17, hB⟩
  ·replace H := ifn h29 H
   refine GoR.op ((fun w => opB (op_lss rfl rfl w) (decide_eq_false h29)) _) rfl rfl ?_
   refine GoR.nil ?_
   refine Go1.seq ?_
   refine Go1.condF rfl rfl ?_
   refine Go1.exit rfl ?_
   refine Go1.seq ?_
   refine Go1.region ?_
   refine GoR.op ((op_assign rfl) _) rfl rfl ?_
   refine GoR.nil ?_
   refine Go1.seq ?_
   refine Go1.seq ?_
   refine Go1.region ?_
   refine GoR.op ((op_move rfl) _) rfl rfl ?_
   refine GoR.op ((op_len Try.underlying22 rfl) _) rfl rfl ?_
   refine GoR.op ((op_move rfl) _) rfl rfl ?_
   refine GoR.nil ?_
   refine Go1.block ?_
   refine Go1.loopW (S := Int × Nat) (fun s σ w => agrees σ [(0, .slice p_a0 a0.length c_a0), (4, .slice p8 a0.length a0.length), (5, .int .i64 k1_24), (10, .int .i64 (s.1)), (48, .int .i64 (a0.length : Int)), (49, .int .i64 ((s.2) : Int))] ∧ Owns w0.heap.size w [.row 4 1 p8 a0.length a0.length vs27] A ∧ Els (Rp.bool) (bl [.row 4 1 p8 a0.length a0.length vs27] ++ A) w vs27 d_26 ∧ ISl (Rp.int .i64) (bl [.row 4 1 p8 a0.length a0.length vs27] ++ A) w p_a0 c_a0 a0 ∧ Fr (bl []) w0 (bl [.row 4 1 p8 a0.length a0.length vs27]) w) H ⟨⟨rfl, rfl, rfl, rfl, rfl, rfl, trivial⟩, hO, hE28, h_a0, hB⟩ ?_
   rintro X3 ⟨k3_61, k3_62⟩ H hX3 σ w60 ⟨hag, hO, hE28, h_a0, hB⟩
   dsimp only at H
   refine Go1.keep [(0, .slice p_a0 a0.length c_a0), (4, .slice p8 a0.length a0.length), (5, .int .i64 k1_24), (10, .int .i64 k3_61), (48, .int .i64 (a0.length : Int)), (49, .int .i64 (k3_62 : Int))] hag ?_
   refine Go1.seq ?_
   refine Go1.region ?_
   by_cases h63 : (k3_62 : Int) < (a0.length : Int)
   ·replace H := ifp h63 H
    refine GoR.op ((fun w => opB (op_lss rfl rfl w) (decide_eq_true h63)) _) rfl rfl ?_
    refine GoR.nil ?_
    refine Go1.seq ?_
    refine Go1.condT rfl rfl ?_
    refine Go1.skip ?_
    refine Go1.seq ?_
    refine Go1.block ?_
    refine Go1.seq ?_
    refine Go1.region ?_
    refine GoR.op ((op_move rfl) _) rfl rfl ?_
    refine GoR.op ((op_assign rfl) _) rfl rfl ?_
    refine GoR.nil ?_
    refine Go1.seq ?_
    refine Go1.region ?_
    refine GoR.op ((op_assign rfl) _) rfl rfl ?_
    refine GoR.nil ?_
    refine Go1.seq ?_
    refine Go1.seq ?_
    refine Go1.region ?_
    refine GoR.op ((op_move rfl) _) rfl rfl ?_
    refine GoR.op ((op_assign rfl) _) rfl rfl ?_
    refine GoR.nil ?_
    refine Go1.block ?_
    refine Go1.loopW (S := Nat × Int) (fun s σ w => agrees σ [(0, .slice p_a0 a0.length c_a0), (4, .slice p8 a0.length a0.length), (5, .int .i64 k1_24), (10, .int .i64 k3_61), (12, .int .i64 ((s.1) : Int)), (13, .int .i64 (s.2)), (48, .int .i64 (a0.length : Int)), (49, .int .i64 (k3_62 : Int))] ∧ Owns w0.heap.size w [.row 4 1 p8 a0.length a0.length vs27] A ∧ Els (Rp.bool) (bl [.row 4 1 p8 a0.length a0.length vs27] ++ A) w vs27 d_26 ∧ ISl (Rp.int .i64) (bl [.row 4 1 p8 a0.length a0.length vs27] ++ A) w p_a0 c_a0 a0 ∧ Fr (bl []) w0 (bl [.row 4 1 p8 a0.length a0.length vs27]) w) H ⟨⟨rfl, rfl, rfl, rfl, rfl, rfl, rfl, rfl, trivial⟩, hO, hE28, h_a0, hB⟩ ?_
    rintro X4 ⟨k4_65, k4_66⟩ H hX4 σ w64 ⟨hag, hO, hE28, h_a0, hB⟩
    dsimp only at H
    refine Go1.keep [(0, .slice p_a0 a0.length c_a0), (4, .slice p8 a0.length a0.length), (5, .int .i64 k1_24), (10, .int .i64 k3_61), (12, .int .i64 (k4_65 : Int)), (13, .int .i64 k4_66), (48, .int .i64 (a0.length : Int)), (49, .int .i64 (k3_62 : Int))] hag ?_
    refine Go1.seq ?_
    refine Go1.seq ?_
    refine Go1.region ?_
    refine GoR.op ((op_move rfl) _) rfl rfl ?_
    refine GoR.op ((op_move rfl) _) rfl rfl ?_
    obtain ⟨h67, H⟩ := H
    obtain ⟨h68, H⟩ := H
    refine GoR.op ((op_index Try.underlying40 ti4 rfl rfl h67 (ltn (hE28.neq hO 0 rfl) h68) (hE28.psome hO 0 rfl h67 h68)) _) rfl rfl ?_
    by_cases h69 : ix d_26 k4_66 = true
    ·replace H := ifp h69 H
     refine GoR.op (opB ((oldBool 0 hO rfl hE28 h67 h68 Try.underlying4 rfl rfl) _ (Same.refl _)) (h69)) rfl rfl ?_
     refine GoR.op ((op_not rfl) _) rfl rfl ?_
     refine GoR.nil ?_
     refine Go1.condF rfl rfl ?_
     refine Go1.exit rfl ?_
     refine Go1.region ?_
     refine GoR.op ((op_move rfl) _) rfl rfl ?_
     refine GoR.op ((op_move rfl) _) rfl rfl ?_
     by_cases h70 : k3_61 < (k4_65 : Int)
     ·replace H := ifp h70 H
      refine GoR.op ((op_maxT rfl rfl h70) _) rfl rfl ?_
      refine GoR.op ((op_assign rfl) _) rfl rfl ?_
      refine GoR.nil ?_
      refine Go1.inBlock ?_
      refine Go1.region ?_
      refine GoR.op ((op_add rfl rfl (wrap_i64 (natbd h63 h_a0.bd))) _) rfl rfl ?_
      refine GoR.op ((op_move rfl) _) rfl rfl ?_
      refine GoR.nil ?_
      exact hX3 _ H _ _ ⟨⟨rfl, rfl, rfl, rfl, rfl, rfl, trivial⟩, hO, hE28, h_a0, hB⟩
     ·replace H := ifn h70 H
      refine GoR.op ((op_maxF rfl rfl h70) _) rfl rfl ?_
      refine GoR.op ((op_assign rfl) _) rfl rfl ?_
      refine GoR.nil ?_
      refine Go1.inBlock ?_
      refine Go1.region ?_
      refine GoR.op ((op_add rfl rfl (wrap_i64 (natbd h63 h_a0.bd))) _) rfl rfl ?_
      refine GoR.op ((op_move rfl) _) rfl rfl ?_
      refine GoR.nil ?_
      exact hX3 _ H _ _ ⟨⟨rfl, rfl, rfl, rfl, rfl, rfl, trivial⟩, hO, hE28, h_a0, hB⟩
    ·replace H := ifn h69 H
     refine GoR.op (opB ((oldBool 0 hO rfl hE28 h67 h68 Try.underlying4 rfl rfl) _ (Same.refl _)) (Bool.eq_false_iff.2 h69)) rfl rfl ?_
     refine GoR.op ((op_not rfl) _) rfl rfl ?_
     refine GoR.nil ?_
     refine Go1.condT rfl rfl ?_
     refine Go1.skip ?_
     refine Go1.seq ?_
     refine Go1.block ?_
     refine Go1.region ?_
     refine GoR.op ((op_move rfl) _) rfl rfl ?_
     obtain ⟨h71, H⟩ := H
     refine GoR.op ((op_add rfl rfl (wrap_i64 h71)) _) rfl rfl ?_
     refine GoR.op ((op_assign rfl) _) rfl rfl ?_
     refine GoR.nil ?_
     refine Go1.inBlock ?_
     refine Go1.region ?_
     refine GoR.op ((op_move rfl) _) rfl rfl ?_
     refine GoR.op ((op_move rfl) _) rfl rfl ?_
     obtain ⟨h72, H⟩ := H
     obtain ⟨h73, H⟩ := H
     refine GoR.op ((op_index Try.underlying22 ti3 rfl rfl h72 h73 (h_a0.some_ h72 h73)) _) rfl rfl ?_
     refine GoR.op ((ldInt h_a0 h72 h73 Try.underlying3 rfl rfl) _ (Same.refl _)) rfl rfl ?_
     refine GoR.op ((op_assign rfl) _) rfl rfl ?_
     refine GoR.nil ?_
     exact hX4 _ H _ _ ⟨⟨rfl, rfl, rfl, rfl, rfl, rfl, rfl, rfl, trivial⟩, hO, hE28, h_a0, hB⟩
   ·replace H := ifn h63 H
    refine GoR.op ((fun w => opB (op_lss rfl rfl w) (decide_eq_false h63)) _) rfl rfl ?_
    refine GoR.nil ?_
    refine Go1.seq ?_
    refine Go1.condF rfl rfl ?_
    refine Go1.exit rfl ?_
    refine Go1.seq ?_
    refine Go1.region ?_
    refine GoR.op ((op_move rfl) _) rfl rfl ?_
    refine GoR.op ((op_move rfl) _) rfl rfl ?_
    refine GoR.op ((op_assign rfl) _) rfl rfl ?_
    refine GoR.op ((op_assign rfl) _) rfl rfl ?_
    refine GoR.nil ?_
    refine Go1.ret2 Try.func37 rfl ?_
    exact ⟨k3_61, k1_24, rfl, hB.same, H⟩
theorem body38 : Body Try.prog 38 := ⟨Try.f38, Try.func38, rfl, by kernel_rfl⟩
theorem walk_trans_Omega {A : List Nat} {w0 : World} {p_f : Option Addr} {c_f : Nat} {f : List Int} (hA : ∀ b ∈ A, b < w0.heap.size) (h_f : ISl (Rp.int .i64) A w0 p_f c_f f) {K : List Int → Prop} (H : trans_Omega f K) :
    CallsV Try.prog 38 #[.slice p_f f.length c_f] w0 (fun v w' => ∃ (r0 : List Int), ∃ (p_r0 : Option Addr), ∃ (c_r0 : Nat), v = .slice p_r0 r0.length c_r0 ∧ Same w0 w' ∧ ISl (Rp.int .i64) A w' p_r0 c_r0 r0 ∧ K r0) := by
 refine CallsV.of (l := [.slice p_f f.length c_f]) Try.func38 rfl Try.ntmps38 rfl ?_
 have hO := Owns.start hA
 have hB := Fr.refl (bl []) w0
 unfold trans_Omega at H
 replace h_f := h_f.ch (Ch.start A w0)
 refine Go1.seq ?_
 refine Go1.region ?_
 refine GoR.op ((op_assign rfl) _) rfl rfl ?_
 refine GoR.nil ?_
 refine Go1.seq ?_
 refine Go1.seq ?_
 refine Go1.region ?_
 refine GoR.op ((op_move rfl) _) rfl rfl ?_
 refine GoR.call (op_call body21 rfl (walk_trans_Valid hO.lt h_f H)) rfl rfl ?_
 rintro v5 w2 ⟨r1, rfl, hs3, H⟩
 have hst6 := Stp.same hO hs3
 replace hO := hst6.own
 replace h_f := h_f.ch hst6.ch
 replace hB := hB.trans hst6.fr
 cases r1
 ·replace H := ifn Bool.false_ne_true H
  refine GoR.op ((op_not rfl) _) rfl rfl ?_
  refine GoR.nil ?_
  refine Go1.condT rfl rfl ?_
  refine Go1.seq ?_
  refine Go1.region ?_
  refine GoR.op ((op_assign rfl) _) rfl rfl ?_
  refine GoR.nil ?_
  refine Go1.ret1 Try.func38 rfl ?_
  exact ⟨([] : List Int), none, 0, rfl, hB.same, (ISl.null _ _ _), H⟩
 ·replace H := ifp rfl H
  refine GoR.op ((op_not rfl) _) rfl rfl ?_
  refine GoR.nil ?_
  refine Go1.condF rfl rfl ?_
  refine Go1.skip ?_
  refine Go1.seq ?_
  refine Go1.region ?_
  refine GoR.op ((op_move rfl) _) rfl rfl ?_
  refine GoR.call (op_call body37 rfl (walk_trans_IndexPeriod hO.lt h_f H)) rfl rfl ?_
  rintro v12 w9 ⟨r7, r8, rfl, hs10, H⟩
  have hst13 := Stp.same hO hs10
  replace hO := hst13.own
  replace h_f := h_f.ch hst13.ch
  replace hB := hB.trans hst13.fr
  refine GoR.op ((op_move rfl) _) rfl rfl ?_
  refine GoR.op ((op_extract rfl rfl) _) rfl rfl ?_
  refine GoR.op ((op_extract rfl rfl) _) rfl rfl ?_
  refine GoR.op ((op_assign rfl) _) rfl rfl ?_
  refine GoR.op ((op_assign rfl) _) rfl rfl ?_
  refine GoR.nil ?_
  refine Go1.seq ?_
  refine Go1.region ?_
  refine GoR.op ((op_move rfl) _) rfl rfl ?_
  refine GoR.op ((op_move rfl) _) rfl rfl ?_
  refine GoR.op ((op_move rfl) _) rfl rfl ?_
  obtain ⟨h14, H⟩ := H
  refine GoR.op ((op_add rfl rfl (wrap_i64 h14)) _) rfl rfl ?_
  obtain ⟨h15, H⟩ := H
  refine GoR.op ((op_sub rfl rfl (wrap_i64 h15)) _) rfl rfl ?_
  refine GoR.op ((op_move rfl) _) rfl rfl ?_
  obtain ⟨h16, H⟩ := H
  obtain ⟨h17, H⟩ := H
  refine GoR.op ((op_quo rfl rfl h16 (wrap_i64 h17)) _) rfl rfl ?_
  refine GoR.op ((op_move rfl) _) rfl rfl ?_
  obtain ⟨h18, H⟩ := H
  refine GoR.op ((op_mul rfl rfl (wrap_i64 h18)) _) rfl rfl ?_
  refine GoR.call (op_call body27 rfl (walk_trans_Power hO.lt h_f H)) rfl rfl ?_
  rintro v23 w20 ⟨r19, p_r19, c_r19, rfl, hs21, h_r19, H⟩
  have hst24 := Stp.same hO hs21
  replace hO := hst24.own
  replace h_f := h_f.ch hst24.ch
  replace hB := hB.trans hst24.fr
  refine GoR.op ((op_assign rfl) _) rfl rfl ?_
  refine GoR.nil ?_
  refine Go1.ret1 Try.func38 rfl ?_
  exact ⟨r19, p_r19, c_r19, rfl, hB.same, (h_r19.ch (Ch.weak _ _ _)), H⟩
theorem body40 : Body Try.prog 40 := ⟨Try.f40, Try.func40, rfl, by kernel_rfl⟩
theorem walk_ref11_Cycles {A : List Nat} {w0 : World} {p_f : Option Addr} {c_f : Nat} {f : List Int} (hA : ∀ b ∈ A, b < w0.heap.size) (h_f : ISl (Rp.int .i64) A w0 p_f c_f f) {K : List (List Int) → Prop} (H : ref11_Cycles f K) :
    CallsV Try.prog 40 #[.slice p_f f.length c_f] w0 (fun v w' => ∃ (r0 : List (List Int)), ∃ (p_r0 : Option Addr), ∃ (c_r0 : Nat), v = .slice p_r0 r0.length c_r0 ∧ Same w0 w' ∧ ISl (Rp.sl (Rp.int .i64)) A w' p_r0 c_r0 r0 ∧ K r0) := by
 refine CallsV.of (l := [.slice p_f f.length c_f]) Try.func40 rfl Try.ntmps40 rfl ?_
 have hO := Owns.start hA
 have hB := Fr.refl (bl []) w0
 unfold ref11_Cycles at H
 replace h_f := h_f.ch (Ch.start A w0)
 refine Go1.seq ?_
 refine Go1.region ?_
 refine GoR.op ((op_assign rfl) _) rfl rfl ?_
 refine GoR.nil ?_
 refine Go1.seq ?_
 refine Go1.region ?_
 refine GoR.op ((op_assign rfl) _) rfl rfl ?_
 refine GoR.nil ?_
 refine Go1.seq ?_
 refine Go1.seq ?_
 refine Go1.region ?_
 refine GoR.op ((op_move rfl) _) rfl rfl ?_
 refine GoR.op ((op_len Try.underlying22 rfl) _) rfl rfl ?_
 replace H := H h_f.bd
 refine GoR.op ((op_move rfl) _) rfl rfl ?_
 refine GoR.nil ?_
 refine Go1.block ?_
 have hst2 := Stp.nil (e := 22) (r := 1) hO
 replace hO := hst2.own
 replace h_f := h_f.ch hst2.ch
 replace hB := hB.trans hst2.fr
 have hE3 := Els.nil (Rp.sl (Rp.int .i64)) (bl (.row 22 1 none 0 0 [] :: []) ++ A) w0
 refine Go1.loopW (S := Nat × List (List Int)) (fun s σ w => ∃ (n11 : Nat), ∃ (p9 : Option Addr), ∃ (c10 : Nat), ∃ (vs7 : List Value), agrees σ [(0, .slice p_f f.length c_f), (3, .slice p9 n11 c10), (8, .int .i64 (f.length : Int)), (9, .int .i64 ((s.1) : Int))] ∧ Owns w0.heap.size w [.row 22 1 p9 n11 c10 vs7] A ∧ Els (Rp.sl (Rp.int .i64)) (bl [.row 22 1 p9 n11 c10 vs7] ++ A) w vs7 (s.2) ∧ ISl (Rp.int .i64) (bl [.row 22 1 p9 n11 c10 vs7] ++ A) w p_f c_f f ∧ Fr (bl []) w0 (bl [.row 22 1 p9 n11 c10 vs7]) w) H ⟨0, none, 0, [], ⟨rfl, rfl, rfl, rfl, trivial⟩, hO, hE3, h_f, hB⟩ ?_
 rintro X1 ⟨k1_5, out1_6⟩ H hX1 σ w4 ⟨n11, p9, c10, vs7, hag, hO, hE8, h_f, hB⟩
 dsimp only at H
 refine Go1.keep [(0, .slice p_f f.length c_f), (3, .slice p9 n11 c10), (8, .int .i64 (f.length : Int)), (9, .int .i64 (k1_5 : Int))] hag ?_
 refine Go1.seq ?_
 refine Go1.region ?_
 by_cases h12 : (k1_5 : Int) < (f.length : Int)
 ·replace H := ifp h12 H
  refine GoR.op ((fun w => opB (op_lss rfl rfl w) (decide_eq_true h12)) _) rfl rfl ?_
  refine GoR.nil ?_
  refine Go1.seq ?_
  refine Go1.condT rfl rfl ?_
  refine Go1.skip ?_
  refine Go1.seq ?_
  refine Go1.block ?_
  refine Go1.seq ?_
  refine Go1.region ?_
  refine GoR.op ((op_move rfl) _) rfl rfl ?_
  refine GoR.op ((op_assign rfl) _) rfl rfl ?_
  refine GoR.nil ?_
  refine Go1.seq ?_
  refine Go1.region ?_
  refine GoR.op ((op_move rfl) _) rfl rfl ?_
  have hobt := obuild (r := Rp.int .i64) (n := 1) (parts := [(0, .int .i64 (k1_5 : Int))]) (vs := [.int .i64 (k1_5 : Int)]) (xs := [(k1_5 : Int)]) rfl Try.underlying22 ti3 hO (by decide) (by kernel_rfl) (Els.cons rfl rfl (Els.nil _ _ _) (by decide)) rfl
  obtain ⟨w13, p14, hst15, hE16, hs17, hop18⟩ := hobt
  refine GoR.op (hop18 rfl) rfl rfl ?_
  replace hE8 := hE8.ch hst15.ch
  replace hO := hst15.own
  replace h_f := h_f.ch hst15.ch
  replace hB := hB.trans hst15.fr
  refine GoR.op ((op_assign rfl) _) rfl rfl ?_
  refine GoR.nil ?_
  refine Go1.seq ?_
  refine Go1.seq ?_
  refine Go1.region ?_
  refine GoR.op ((op_move rfl) _) rfl rfl ?_
  refine GoR.op ((op_move rfl) _) rfl rfl ?_
  obtain ⟨h20, H⟩ := H
  obtain ⟨h21, H⟩ := H
  refine GoR.op ((op_index Try.underlying22 ti3 rfl rfl h20 h21 (h_f.some_ h20 h21)) _) rfl rfl ?_
  refine GoR.op ((ldInt h_f h20 h21 Try.underlying3 rfl rfl) _ (Same.refl _)) rfl rfl ?_
  refine GoR.op ((op_assign rfl) _) rfl rfl ?_
  refine GoR.nil ?_
  refine Go1.block ?_
  refine Go1.loopW (S := Int × List Int) (fun s σ w => ∃ (n29 : Nat), ∃ (p27 : Option Addr), ∃ (c28 : Nat), ∃ (vs25 : List Value), agrees σ [(0, .slice p_f f.length c_f), (3, .slice p9 n11 c10), (4, .int .i64 (k1_5 : Int)), (5, .slice p27 n29 c28), (6, .int .i64 (s.1)), (8, .int .i64 (f.length : Int)), (9, .int .i64 (k1_5 : Int))] ∧ Owns w0.heap.size w [.row 3 1 p27 n29 c28 vs25, .row 22 1 p9 n11 c10 vs7] A ∧ Els (Rp.int .i64) (bl [.row 3 1 p27 n29 c28 vs25, .row 22 1 p9 n11 c10 vs7] ++ A) w vs25 (s.2) ∧ Els (Rp.sl (Rp.int .i64)) (bl [.row 3 1 p27 n29 c28 vs25, .row 22 1 p9 n11 c10 vs7] ++ A) w vs7 out1_6 ∧ ISl (Rp.int .i64) (bl [.row 3 1 p27 n29 c28 vs25, .row 22 1 p9 n11 c10 vs7] ++ A) w p_f c_f f ∧ Fr (bl []) w0 (bl [.row 3 1 p27 n29 c28 vs25, .row 22 1 p9 n11 c10 vs7]) w) H ⟨1, p14, 1, [.int .i64 (k1_5 : Int)], ⟨rfl, rfl, rfl, rfl, rfl, rfl, rfl, trivial⟩, hO, hE16, hE8, h_f, hB⟩ ?_
  rintro X2 ⟨x2_23, c2_24⟩ H hX2 σ w22 ⟨n29, p27, c28, vs25, hag, hO, hE26, hE8, h_f, hB⟩
  dsimp only at H
  refine Go1.keep [(0, .slice p_f f.length c_f), (3, .slice p9 n11 c10), (4, .int .i64 (k1_5 : Int)), (5, .slice p27 n29 c28), (6, .int .i64 x2_23), (8, .int .i64 (f.length : Int)), (9, .int .i64 (k1_5 : Int))] hag ?_
  refine Go1.seq ?_
  refine Go1.seq ?_
  refine Go1.region ?_
  refine GoR.op ((op_move rfl) _) rfl rfl ?_
  refine GoR.op ((op_move rfl) _) rfl rfl ?_
  by_cases h30 : (k1_5 : Int) < x2_23
  ·replace H := ifp h30 H
   refine GoR.op ((fun w => opB (op_gtr rfl rfl w) (decide_eq_true h30)) _) rfl rfl ?_
   refine GoR.op ((op_move rfl) _) rfl rfl ?_
   refine GoR.op ((op_move rfl) _) rfl rfl ?_
   refine GoR.op ((op_lenN Try.underlying22 rfl (hE26.neq hO 0 rfl)) _) rfl rfl ?_
   refine GoR.op ((op_move rfl) _) rfl rfl ?_
   refine GoR.op ((op_len Try.underlying22 rfl) _) rfl rfl ?_
   by_cases h31 : (c2_24.length : Int) ≤ (f.length : Int)
   ·replace H := ifp h31 H
    refine GoR.op ((fun w => opB (op_leq rfl rfl w) (decide_eq_true h31)) _) rfl rfl ?_
    refine GoR.op ((op_pickT rfl rfl rfl) _) rfl rfl ?_
    refine GoR.nil ?_
    refine Go1.condT rfl rfl ?_
    refine Go1.skip ?_
    refine Go1.seq ?_
    refine Go1.block ?_
    refine Go1.region ?_
    refine GoR.op ((op_move rfl) _) rfl rfl ?_
    refine GoR.op ((op_move rfl) _) rfl rfl ?_
    have hobt := obuild (r := Rp.int .i64) (n := 1) (parts := [(0, .int .i64 x2_23)]) (vs := [.int .i64 x2_23]) (xs := [x2_23]) rfl Try.underlying22 ti3 hO (by decide) (by kernel_rfl) (Els.cons rfl rfl (Els.nil _ _ _) (by decide)) rfl
    obtain ⟨w32, p33, hst34, hE35, hs36, hop37⟩ := hobt
    refine GoR.op (hop37 rfl) rfl rfl ?_
    replace hE26 := hE26.ch hst34.ch
    replace hE8 := hE8.ch hst34.ch
    replace hO := hst34.own
    replace h_f := h_f.ch hst34.ch
    replace hB := hB.trans hst34.fr
    have hobt := freeze 0 hO rfl hE35
    obtain ⟨hO1, hc41, hi39, hn40⟩ := hobt
    replace h_f := h_f.ch hc41
    replace hE26 := hE26.ch hc41
    replace hE8 := hE8.ch hc41
    replace hB := hB.trans (Owns.dropFr _ _ 0)
    replace hO := hO1; clear hO1
    obtain ⟨h42, H⟩ := H
    have hobt := oapp Try.underlying22 ti3 rfl 0 hO rfl hE26 hi39 hn40 h42 (by decide)
    obtain ⟨w43, p44, c45, vs46, hst47, hE48, hop49⟩ := hobt
    refine GoR.op (hop49 rfl rfl) rfl rfl ?_
    replace hE8 := hE8.ch hst47.ch
    replace hO := hst47.own
    replace h_f := h_f.ch hst47.ch
    replace hi39 := hi39.ch hst47.ch
    replace hB := hB.trans hst47.fr
    refine GoR.op ((op_assign rfl) _) rfl rfl ?_
    refine GoR.nil ?_
    refine Go1.inBlock ?_
    refine Go1.region ?_
    refine GoR.op ((op_move rfl) _) rfl rfl ?_
    refine GoR.op ((op_move rfl) _) rfl rfl ?_
    obtain ⟨h51, H⟩ := H
    obtain ⟨h52, H⟩ := H
    refine GoR.op ((op_index Try.underlying22 ti3 rfl rfl h51 h52 (h_f.some_ h51 h52)) _) rfl rfl ?_
    refine GoR.op ((ldInt h_f h51 h52 Try.underlying3 rfl rfl) _ (Same.refl _)) rfl rfl ?_
    refine GoR.op ((op_assign rfl) _) rfl rfl ?_
    refine GoR.nil ?_
    exact hX2 _ H _ _ ⟨n29 + 1, p44, c45, vs46, ⟨rfl, rfl, rfl, rfl, rfl, rfl, rfl, trivial⟩, hO, hE48, hE8, h_f, hB⟩
   ·replace H := ifn h31 H
    refine GoR.op ((fun w => opB (op_leq rfl rfl w) (decide_eq_false h31)) _) rfl rfl ?_
    refine GoR.op ((op_pickT rfl rfl rfl) _) rfl rfl ?_
    refine GoR.nil ?_
    refine Go1.condF rfl rfl ?_
    refine Go1.exit rfl ?_
    refine Go1.seq ?_
    refine Go1.region ?_
    refine GoR.op ((op_move rfl) _) rfl rfl ?_
    refine GoR.op ((op_move rfl) _) rfl rfl ?_
    refine GoR.op ((op_move rfl) _) rfl rfl ?_
    refine GoR.op ((op_lenN Try.underlying22 rfl (hE26.neq hO 0 rfl)) _) rfl rfl ?_
    obtain ⟨h53, H⟩ := H
    refine GoR.op ((op_sub rfl rfl (wrap_i64 h53)) _) rfl rfl ?_
    obtain ⟨h54, H⟩ := H
    obtain ⟨h55, H⟩ := H
    refine GoR.op ((op_index Try.underlying22 ti3 rfl rfl h54 (ltn (hE26.neq hO 0 rfl) h55) (hE26.psome hO 0 rfl h54 h55)) _) rfl rfl ?_
    refine GoR.op ((oldInt 0 hO rfl hE26 h54 h55 Try.underlying3 rfl rfl) _ (Same.refl _)) rfl rfl ?_
    obtain ⟨h56, H⟩ := H
    obtain ⟨h57, H⟩ := H
    refine GoR.op ((op_index Try.underlying22 ti3 rfl rfl h56 h57 (h_f.some_ h56 h57)) _) rfl rfl ?_
    refine GoR.op ((ldInt h_f h56 h57 Try.underlying3 rfl rfl) _ (Same.refl _)) rfl rfl ?_
    refine GoR.op ((op_move rfl) _) rfl rfl ?_
    by_cases h58 : (ix f (ix c2_24 ((c2_24.length : Int) - (1 : Int)))) = (k1_5 : Int)
    ·replace H := ifp h58 H
     refine GoR.op ((fun w => opB (op_eql rfl rfl w) (decide_eq_true h58)) _) rfl rfl ?_
     refine GoR.nil ?_
     refine Go1.condT rfl rfl ?_
     refine Go1.region ?_
     refine GoR.op ((op_move rfl) _) rfl rfl ?_
     refine GoR.op ((op_move rfl) _) rfl rfl ?_
     have hobt := freeze 0 hO rfl hE26
     obtain ⟨hO1, hc61, hi59, hn60⟩ := hobt
     replace h_f := h_f.ch hc61
     replace hE8 := hE8.ch hc61
     replace hB := hB.trans (Owns.dropFr _ _ 0)
     replace hO := hO1; clear hO1
     have hobt := obuild (r := Rp.sl (Rp.int .i64)) (n := 1) (parts := [(0, .slice p27 n29 c28)]) (vs := [.slice p27 n29 c28]) (xs := [c2_24]) rfl Try.underlying35 ti22 hO (by decide) (by kernel_rfl) (Els.cons rfl ⟨p27, c28, congrArg some (congrArg (fun nn => Value.slice p27 nn c28) hn60), hi59⟩ (Els.nil _ _ _) (by decide)) rfl
     obtain ⟨w62, p63, hst64, hE65, hs66, hop67⟩ := hobt
     refine GoR.op (hop67 rfl) rfl rfl ?_
     replace hE8 := hE8.ch hst64.ch
     replace hO := hst64.own
     replace h_f := h_f.ch hst64.ch
     replace hi59 := hi59.ch hst64.ch
     replace hB := hB.trans hst64.fr
     have hobt := freeze 0 hO rfl hE65
     obtain ⟨hO1, hc71, hi69, hn70⟩ := hobt
     replace h_f := h_f.ch hc71
     replace hi59 := hi59.ch hc71
     replace hE8 := hE8.ch hc71
     replace hB := hB.trans (Owns.dropFr _ _ 0)
     replace hO := hO1; clear hO1
     obtain ⟨h72, H⟩ := H
     have hobt := oapp Try.underlying35 ti22 rfl 0 hO rfl hE8 hi69 hn70 h72 (by decide)
     obtain ⟨w73, p74, c75, vs76, hst77, hE78, hop79⟩ := hobt
     refine GoR.op (hop79 rfl rfl) rfl rfl ?_
     replace hO := hst77.own
     replace h_f := h_f.ch hst77.ch
     replace hi59 := hi59.ch hst77.ch
     replace hi69 := hi69.ch hst77.ch
     replace hB := hB.trans hst77.fr
     refine GoR.op ((op_assign rfl) _) rfl rfl ?_
     refine GoR.nil ?_
     refine Go1.inBlock ?_
     refine Go1.region ?_
     refine GoR.op ((op_add rfl rfl (wrap_i64 (natbd h12 h_f.bd))) _) rfl rfl ?_
     refine GoR.op ((op_move rfl) _) rfl rfl ?_
     refine GoR.nil ?_
     exact hX1 _ H _ _ ⟨n11 + 1, p74, c75, vs76, ⟨rfl, rfl, rfl, rfl, trivial⟩, hO, hE78, h_f, hB⟩
    ·replace H := ifn h58 H
     refine GoR.op ((fun w => opB (op_eql rfl rfl w) (decide_eq_false h58)) _) rfl rfl ?_
     refine GoR.nil ?_
     refine Go1.condF rfl rfl ?_
     refine Go1.skip ?_
     refine Go1.inBlock ?_
     refine Go1.region ?_
     refine GoR.op ((op_add rfl rfl (wrap_i64 (natbd h12 h_f.bd))) _) rfl rfl ?_
     refine GoR.op ((op_move rfl) _) rfl rfl ?_
     refine GoR.nil ?_
     replace h_f := h_f.ch (Owns.dropCh _ _ 0)
     replace hE8 := hE8.ch (Owns.dropCh _ _ 0)
     replace hB := hB.trans (Owns.dropFr _ _ 0)
     replace hO := hO.drop 0
     exact hX1 _ H _ _ ⟨n11, p9, c10, vs7, ⟨rfl, rfl, rfl, rfl, trivial⟩, hO, hE8, h_f, hB⟩
  ·replace H := ifn h30 H
   refine GoR.op ((fun w => opB (op_gtr rfl rfl w) (decide_eq_false h30)) _) rfl rfl ?_
   refine GoR.op ((op_move rfl) _) rfl rfl ?_
   refine GoR.pass rfl rfl ?_
   refine GoR.pass rfl rfl ?_
   refine GoR.pass rfl rfl ?_
   refine GoR.pass rfl rfl ?_
   refine GoR.pass rfl rfl ?_
   refine GoR.op ((op_pickF rfl rfl rfl) _) rfl rfl ?_
   refine GoR.nil ?_
   refine Go1.condF rfl rfl ?_
   refine Go1.exit rfl ?_
   refine Go1.seq ?_
   refine Go1.region ?_
   refine GoR.op ((op_move rfl) _) rfl rfl ?_
   refine GoR.op ((op_move rfl) _) rfl rfl ?_
   refine GoR.op ((op_move rfl) _) rfl rfl ?_
   refine GoR.op ((op_lenN Try.underlying22 rfl (hE26.neq hO 0 rfl)) _) rfl rfl ?_
   obtain ⟨h81, H⟩ := H
   refine GoR.op ((op_sub rfl rfl (wrap_i64 h81)) _) rfl rfl ?_
   obtain ⟨h82, H⟩ := H
   obtain ⟨h83, H⟩ := H
   refine GoR.op ((op_index Try.underlying22 ti3 rfl rfl h82 (ltn (hE26.neq hO 0 rfl) h83) (hE26.psome hO 0 rfl h82 h83)) _) rfl rfl ?_
   refine GoR.op ((oldInt 0 hO rfl hE26 h82 h83 Try.underlying3 rfl rfl) _ (Same.refl _)) rfl rfl ?_
   obtain ⟨h84, H⟩ := H
   obtain ⟨h85, H⟩ := H
   refine GoR.op ((op_index Try.underlying22 ti3 rfl rfl h84 h85 (h_f.some_ h84 h85)) _) rfl rfl ?_
   refine GoR.op ((ldInt h_f h84 h85 Try.underlying3 rfl rfl) _ (Same.refl _)) rfl rfl ?_
   refine GoR.op ((op_move rfl) _) rfl rfl ?_
   by_cases h86 : (ix f (ix c2_24 ((c2_24.length : Int) - (1 : Int)))) = (k1_5 : Int)
   ·replace H := ifp h86 H
    refine GoR.op ((fun w => opB (op_eql rfl rfl w) (decide_eq_true h86)) _) rfl rfl ?_
    refine GoR.nil ?_
    refine Go1.condT rfl rfl ?_
    refine Go1.region ?_
    refine GoR.op ((op_move rfl) _) rfl rfl ?_
    refine GoR.op ((op_move rfl) _) rfl rfl ?_
    have hobt := freeze 0 hO rfl hE26
    obtain ⟨hO1, hc89, hi87, hn88⟩ := hobt
    replace h_f := h_f.ch hc89
    replace hE8 := hE8.ch hc89
    replace hB := hB.trans (Owns.dropFr _ _ 0)
    replace hO := hO1; clear hO1
    have hobt := obuild (r := Rp.sl (Rp.int .i64)) (n := 1) (parts := [(0, .slice p27 n29 c28)]) (vs := [.slice p27 n29 c28]) (xs := [c2_24]) rfl Try.underlying35 ti22 hO (by decide) (by kernel_rfl) (Els.cons rfl ⟨p27, c28, congrArg some (congrArg (fun nn => Value.slice p27 nn c28) hn88), hi87⟩ (Els.nil _ _ _) (by decide)) rfl
    obtain ⟨w90, p91, hst92, hE93, hs94, hop95⟩ := hobt
    refine GoR.op (hop95 rfl) rfl rfl ?_
    replace hE8 := hE8.ch hst92.ch
    replace hO := hst92.own
    replace h_f := h_f.ch hst92.ch
    replace hi87 := hi87.ch hst92.ch
    replace hB := hB.trans hst92.fr
    have hobt := freeze 0 hO rfl hE93
    obtain ⟨hO1, hc99, hi97, hn98⟩ := hobt
    replace h_f := h_f.ch hc99
    replace hi87 := hi87.ch hc99
    replace hE8 := hE8.ch hc99
    replace hB := hB.trans (Owns.dropFr _ _ 0)
    replace hO := hO1; clear hO1
    obtain ⟨h100, H⟩ := H
    have hobt := oapp Try.underlying35 ti22 rfl 0 hO rfl hE8 hi97 hn98 h100 (by decide)
    obtain ⟨w101, p102, c103, vs104, hst105, hE106, hop107⟩ := hobt
    refine GoR.op (hop107 rfl rfl) rfl rfl ?_
    replace hO := hst105.own
    replace h_f := h_f.ch hst105.ch
    replace hi87 := hi87.ch hst105.ch
    replace hi97 := hi97.ch hst105.ch
    replace hB := hB.trans hst105.fr
    refine GoR.op ((op_assign rfl) _) rfl rfl ?_
    refine GoR.nil ?_
    refine Go1.inBlock ?_
    refine Go1.region ?_
    refine GoR.op ((op_add rfl rfl (wrap_i64 (natbd h12 h_f.bd))) _) rfl rfl ?_
    refine GoR.op ((op_move rfl) _) rfl rfl ?_
    refine GoR.nil ?_
    exact hX1 _ H _ _ ⟨n11 + 1, p102, c103, vs104, ⟨rfl, rfl, rfl, rfl, trivial⟩, hO, hE106, h_f, hB⟩
   ·replace H := ifn h86 H
    refine GoR.op ((fun w => opB (op_eql rfl rfl w) (decide_eq_false h86)) _) rfl rfl ?_
    refine GoR.nil ?_
    refine Go1.condF rfl rfl ?_
    refine Go1.skip ?_
    refine Go1.inBlock ?_
    refine Go1.region ?_
    refine GoR.op ((op_add rfl rfl (wrap_i64 (natbd h12 h_f.bd))) _) rfl rfl ?_
    refine GoR.op ((op_move rfl) _) rfl rfl ?_
    refine GoR.nil ?_
    replace h_f := h_f.ch (Owns.dropCh _ _ 0)
    replace hE8 := hE8.ch (Owns.dropCh _ _ 0)
    replace hB := hB.trans (Owns.dropFr _ _ 0)
    replace hO := hO.drop 0
    exact hX1 _ H _ _ ⟨n11, p9, c10, vs7, ⟨rfl, rfl, rfl, rfl, trivial⟩, hO, hE8, h_f, hB⟩
 ·replace H := ifn h12 H
  refine GoR.op ((fun w => opB (op_lss rfl rfl w) (decide_eq_false h12)) _) rfl rfl ?_
  refine GoR.nil ?_
  refine Go1.seq ?_
  refine Go1.condF rfl rfl ?_
  refine Go1.exit rfl ?_
  refine Go1.seq ?_
  refine Go1.region ?_
  refine GoR.op ((op_move rfl) _) rfl rfl ?_
  refine GoR.op ((op_assign rfl) _) rfl rfl ?_
  refine GoR.nil ?_
  have hobt := freeze 0 hO rfl hE8
  obtain ⟨hO1, hc111, hi109, hn110⟩ := hobt
  replace h_f := h_f.ch hc111
  replace hB := hB.trans (Owns.dropFr _ _ 0)
  replace hO := hO1; clear hO1
  refine Go1.ret1 Try.func40 rfl ?_
  exact ⟨out1_6, p9, c10, ((congrArg (fun nn => Value.slice p9 nn c10) hn110)), hB.same, (hi109.ch (Ch.weak _ _ _)), H⟩
theorem body58 : Body Try.prog 58 := ⟨Try.f58, Try.func58, rfl, by kernel_rfl⟩
theorem walk_ref11_Powers {A : List Nat} {w0 : World} {p_f : Option Addr} {c_f : Nat} {f : List Int} (hA : ∀ b ∈ A, b < w0.heap.size) (h_f : ISl (Rp.int .i64) A w0 p_f c_f f) {K : List (List Int) → Int → Prop} (H : ref11_Powers f K) :
    CallsV Try.prog 58 #[.slice p_f f.length c_f] w0 (fun v w' => ∃ (r0 : List (List Int)), ∃ (r1 : Int), ∃ (p_r0 : Option Addr), ∃ (c_r0 : Nat), v = .tuple #[.slice p_r0 r0.length c_r0, .int .i64 r1] ∧ Same w0 w' ∧ ISl (Rp.sl (Rp.int .i64)) A w' p_r0 c_r0 r0 ∧ K r0 r1) := by
 refine CallsV.of (l := [.slice p_f f.length c_f]) Try.func58 rfl Try.ntmps58 rfl ?_
 have hO := Owns.start hA
 have hB := Fr.refl (bl []) w0
 unfold ref11_Powers at H
 replace h_f := h_f.ch (Ch.start A w0)
 refine Go1.seq ?_
 refine Go1.region ?_
 refine GoR.op ((op_assign rfl) _) rfl rfl ?_
 refine GoR.op ((op_assign rfl) _) rfl rfl ?_
 refine GoR.nil ?_
 refine Go1.seq ?_
 refine Go1.region ?_
 refine GoR.op ((op_move rfl) _) rfl rfl ?_
 have hobt := obuild (r := Rp.sl (Rp.int .i64)) (n := 1) (parts := [(0, .slice p_f f.length c_f)]) (vs := [.slice p_f f.length c_f]) (xs := [f]) rfl Try.underlying35 ti22 hO (by decide) (by kernel_rfl) (Els.cons rfl ⟨p_f, c_f, rfl, h_f⟩ (Els.nil _ _ _) (by decide)) rfl
 obtain ⟨w1, p2, hst3, hE4, hs5, hop6⟩ := hobt
 refine GoR.op (hop6 rfl) rfl rfl ?_
 replace hO := hst3.own
 replace h_f := h_f.ch hst3.ch
 replace hB := hB.trans hst3.fr
 refine GoR.op ((op_assign rfl) _) rfl rfl ?_
 refine GoR.nil ?_
 refine Go1.block ?_
 refine Go1.loopW (S := List (List Int)) (fun s σ w => ∃ (n14 : Nat), ∃ (p12 : Option Addr), ∃ (c13 : Nat), ∃ (vs10 : List Value), agrees σ [(0, .slice p_f f.length c_f), (4, .slice p12 n14 c13)] ∧ Owns w0.heap.size w [.row 22 1 p12 n14 c13 vs10] A ∧ Els (Rp.sl (Rp.int .i64)) (bl [.row 22 1 p12 n14 c13 vs10] ++ A) w vs10 s ∧ ISl (Rp.int .i64) (bl [.row 22 1 p12 n14 c13 vs10] ++ A) w p_f c_f f ∧ Fr (bl []) w0 (bl [.row 22 1 p12 n14 c13 vs10]) w) H ⟨1, p2, 1, [.slice p_f f.length c_f], ⟨rfl, rfl, trivial⟩, hO, hE4, h_f, hB⟩ ?_
 rintro X1 l1_9 H hX1 σ w8 ⟨n14, p12, c13, vs10, hag, hO, hE11, h_f, hB⟩
 refine Go1.keep [(0, .slice p_f f.length c_f), (4, .slice p12 n14 c13)] hag ?_
 refine Go1.block ?_
 refine Go1.seq ?_
 refine Go1.region ?_
 refine GoR.op ((op_move rfl) _) rfl rfl ?_
 refine GoR.op ((op_move rfl) _) rfl rfl ?_
 refine GoR.op ((op_lenN Try.underlying35 rfl (hE11.neq hO 0 rfl)) _) rfl rfl ?_
 obtain ⟨h15, H⟩ := H
 refine GoR.op ((op_sub rfl rfl (wrap_i64 h15)) _) rfl rfl ?_
 obtain ⟨h16, H⟩ := H
 obtain ⟨h17, H⟩ := H
 refine GoR.op ((op_index Try.underlying35 ti22 rfl rfl h16 (ltn (hE11.neq hO 0 rfl) h17) (hE11.psome hO 0 rfl h16 h17)) _) rfl rfl ?_
 have hobt := oldSl 0 hO rfl hE11 h16 h17
 obtain ⟨p18, c19, hi20, hl21⟩ := hobt
 refine GoR.op ((hl21 Try.underlying22 rfl rfl) _ (Same.refl _)) rfl rfl ?_
 refine GoR.op ((op_move rfl) _) rfl rfl ?_
 refine GoR.call (op_call body19 rfl (walk_ref11_Compose hO.lt hi20 h_f H)) rfl rfl ?_
 rintro v26 w23 ⟨r22, p_r22, c_r22, rfl, hs24, h_r22, H⟩
 have hst27 := Stp.same hO hs24
 replace hE11 := hE11.ch hst27.ch
 replace hO := hst27.own
 replace h_f := h_f.ch hst27.ch
 replace hi20 := hi20.ch hst27.ch
 replace hB := hB.trans hst27.fr
 refine GoR.op ((op_assign rfl) _) rfl rfl ?_
 refine GoR.nil ?_
 refine Go1.seq ?_
 refine Go1.seq ?_
 refine Go1.region ?_
 refine GoR.op ((op_move rfl) _) rfl rfl ?_
 refine GoR.op ((op_lenN Try.underlying35 rfl (hE11.neq hO 0 rfl)) _) rfl rfl ?_
 refine GoR.op ((op_move rfl) _) rfl rfl ?_
 refine GoR.nil ?_
 refine Go1.block ?_
 refine Go1.loopW (S := Nat) (fun s σ w => agrees σ [(0, .slice p_f f.length c_f), (4, .slice p12 n14 c13), (5, .slice p_r22 r22.length c_r22), (18, .int .i64 (l1_9.length : Int)), (19, .int .i64 (s : Int))] ∧ Owns w0.heap.size w [.row 22 1 p12 n14 c13 vs10] A ∧ Els (Rp.sl (Rp.int .i64)) (bl [.row 22 1 p12 n14 c13 vs10] ++ A) w vs10 l1_9 ∧ ISl (Rp.int .i64) (bl [.row 22 1 p12 n14 c13 vs10] ++ A) w p_f c_f f ∧ ISl (Rp.int .i64) (bl [.row 22 1 p12 n14 c13 vs10] ++ A) w p_r22 c_r22 r22 ∧ Fr (bl []) w0 (bl [.row 22 1 p12 n14 c13 vs10]) w) H ⟨⟨rfl, rfl, rfl, rfl, rfl, trivial⟩, hO, hE11, h_f, h_r22, hB⟩ ?_
 rintro X2 k2_29 H hX2 σ w28 ⟨hag, hO, hE11, h_f, h_r22, hB⟩
 refine Go1.keep [(0, .slice p_f f.length c_f), (4, .slice p12 n14 c13), (5, .slice p_r22 r22.length c_r22), (18, .int .i64 (l1_9.length : Int)), (19, .int .i64 (k2_29 : Int))] hag ?_
 refine Go1.seq ?_
 refine Go1.region ?_
 by_cases h30 : (k2_29 : Int) < (l1_9.length : Int)
 ·replace H := ifp h30 H
  refine GoR.op ((fun w => opB (op_lss rfl rfl w) (decide_eq_true h30)) _) rfl rfl ?_
  refine GoR.nil ?_
  refine Go1.seq ?_
  refine Go1.condT rfl rfl ?_
  refine Go1.skip ?_
  refine Go1.seq ?_
  refine Go1.block ?_
  refine Go1.seq ?_
  refine Go1.region ?_
  refine GoR.op ((op_move rfl) _) rfl rfl ?_
  refine GoR.op ((op_assign rfl) _) rfl rfl ?_
  refine GoR.nil ?_
  refine Go1.seq ?_
  refine Go1.region ?_
  refine GoR.op ((op_move rfl) _) rfl rfl ?_
  refine GoR.op ((op_move rfl) _) rfl rfl ?_
  obtain ⟨h31, H⟩ := H
  obtain ⟨h32, H⟩ := H
  refine GoR.op ((op_index Try.underlying35 ti22 rfl rfl h31 (ltn (hE11.neq hO 0 rfl) h32) (hE11.psome hO 0 rfl h31 h32)) _) rfl rfl ?_
  have hobt := oldSl 0 hO rfl hE11 h31 h32
  obtain ⟨p33, c34, hi35, hl36⟩ := hobt
  refine GoR.op ((hl36 Try.underlying22 rfl rfl) _ (Same.refl _)) rfl rfl ?_
  refine GoR.op ((op_move rfl) _) rfl rfl ?_
  refine GoR.call (op_call body18 rfl (walk_ref03_Same hO.lt hi35 h_r22 H)) rfl rfl ?_
  rintro v41 w38 ⟨r37, rfl, hs39, H⟩
  have hst42 := Stp.same hO hs39
  replace hE11 := hE11.ch hst42.ch
  replace hO := hst42.own
  replace h_f := h_f.ch hst42.ch
  replace h_r22 := h_r22.ch hst42.ch
  replace hi35 := hi35.ch hst42.ch
  replace hB := hB.trans hst42.fr
  refine GoR.nil ?_
  cases r37
  ·replace H := ifn Bool.false_ne_true H
   refine Go1.condF rfl rfl ?_
   refine Go1.skip ?_
   refine Go1.inBlock ?_
   refine Go1.region ?_
   refine GoR.op ((op_add rfl rfl (wrap_i64 (natbd h30 hE11.bd))) _) rfl rfl ?_
   refine GoR.op ((op_move rfl) _) rfl rfl ?_
   refine GoR.nil ?_
   exact hX2 _ H _ _ ⟨⟨rfl, rfl, rfl, rfl, rfl, trivial⟩, hO, hE11, h_f, h_r22, hB⟩
  ·replace H := ifp rfl H
   refine Go1.condT rfl rfl ?_
   refine Go1.seq ?_
   refine Go1.region ?_
   refine GoR.op ((op_move rfl) _) rfl rfl ?_
   refine GoR.op ((op_move rfl) _) rfl rfl ?_
   refine GoR.op ((op_assign rfl) _) rfl rfl ?_
   refine GoR.op ((op_assign rfl) _) rfl rfl ?_
   refine GoR.nil ?_
   have hobt := freeze 0 hO rfl hE11
   obtain ⟨hO1, hc45, hi43, hn44⟩ := hobt
   replace h_f := h_f.ch hc45
   replace h_r22 := h_r22.ch hc45
   replace hi35 := hi35.ch hc45
   replace hB := hB.trans (Owns.dropFr _ _ 0)
   replace hO := hO1; clear hO1
   refine Go1.ret2 Try.func58 rfl ?_
   exact ⟨l1_9, (k2_29 : Int), p12, c13, (by show Value.tuple #[.slice p12 n14 c13, .int .i64 (k2_29 : Int)] = _; rw [hn44]), hB.same, (hi43.ch (Ch.weak _ _ _)), H⟩
 ·replace H := ifn h30 H
  refine GoR.op ((fun w => opB (op_lss rfl rfl w) (decide_eq_false h30)) _) rfl rfl ?_
  refine GoR.nil ?_
  refine Go1.seq ?_
  refine Go1.condF rfl rfl ?_
  refine Go1.exit rfl ?_
  refine Go1.region ?_
  refine GoR.op ((op_move rfl) _) rfl rfl ?_
  refine GoR.op ((op_move rfl) _) rfl rfl ?_
  have hobt := obuild (r := Rp.sl (Rp.int .i64)) (n := 1) (parts := [(0, .slice p_r22 r22.length c_r22)]) (vs := [.slice p_r22 r22.length c_r22]) (xs := [r22]) rfl Try.underlying35 ti22 hO (by decide) (by kernel_rfl) (Els.cons rfl ⟨p_r22, c_r22, rfl, h_r22⟩ (Els.nil _ _ _) (by decide)) rfl
  obtain ⟨w46, p47, hst48, hE49, hs50, hop51⟩ := hobt
  refine GoR.op (hop51 rfl) rfl rfl ?_
  replace hE11 := hE11.ch hst48.ch
  replace hO := hst48.own
  replace h_f := h_f.ch hst48.ch
  replace h_r22 := h_r22.ch hst48.ch
  replace hB := hB.trans hst48.fr
  have hobt := freeze 0 hO rfl hE49
  obtain ⟨hO1, hc55, hi53, hn54⟩ := hobt
  replace h_f := h_f.ch hc55
  replace h_r22 := h_r22.ch hc55
  replace hE11 := hE11.ch hc55
  replace hB := hB.trans (Owns.dropFr _ _ 0)
  replace hO := hO1; clear hO1
  obtain ⟨h56, H⟩ := H
  have hobt := oapp Try.underlying35 ti22 rfl 0 hO rfl hE11 hi53 hn54 h56 (by decide)
  obtain ⟨w57, p58, c59, vs60, hst61, hE62, hop63⟩ := hobt
  refine GoR.op (hop63 rfl rfl) rfl rfl ?_
  replace hO := hst61.own
  replace h_f := h_f.ch hst61.ch
  replace h_r22 := h_r22.ch hst61.ch
  replace hi53 := hi53.ch hst61.ch
  replace hB := hB.trans hst61.fr
  refine GoR.op ((op_assign rfl) _) rfl rfl ?_
  refine GoR.nil ?_
  refine Go1.inBlock ?_
  exact hX1 _ H _ _ ⟨n14 + 1, p58, c59, vs60, ⟨rfl, rfl, trivial⟩, hO, hE62, h_f, hB⟩
theorem body41 : Body Try.prog 41 := ⟨Try.f41, Try.func41, rfl, by kernel_rfl⟩
theorem walk_ref11_IndexPeriod {A : List Nat} {w0 : World} {p_f : Option Addr} {c_f : Nat} {f : List Int} (hA : ∀ b ∈ A, b < w0.heap.size) (h_f : ISl (Rp.int .i64) A w0 p_f c_f f) {K : Int → Int → Prop} (H : ref11_IndexPeriod f K) :
    CallsV Try.prog 41 #[.slice p_f f.length c_f] w0 (fun v w' => ∃ (r0 : Int), ∃ (r1 : Int), v = .tuple #[.int .i64 r0, .int .i64 r1] ∧ Same w0 w' ∧ K r0 r1) := by
 refine CallsV.of (l := [.slice p_f f.length c_f]) Try.func41 rfl Try.ntmps41 rfl ?_
 have hO := Owns.start hA
 have hB := Fr.refl (bl []) w0
 unfold ref11_IndexPeriod at H
 replace h_f := h_f.ch (Ch.start A w0)
 refine Go1.seq ?_
 refine Go1.region ?_
 refine GoR.op ((op_assign rfl) _) rfl rfl ?_
 refine GoR.op ((op_assign rfl) _) rfl rfl ?_
 refine GoR.nil ?_
 refine Go1.seq ?_
 refine Go1.region ?_
 refine GoR.op ((op_move rfl) _) rfl rfl ?_
 refine GoR.call (op_call body58 rfl (walk_ref11_Powers hO.lt h_f H)) rfl rfl ?_
 rintro v6 w3 ⟨r1, r2, p_r1, c_r1, rfl, hs4, h_r1, H⟩
 have hst7 := Stp.same hO hs4
 replace hO := hst7.own
 replace h_f := h_f.ch hst7.ch
 replace hB := hB.trans hst7.fr
 refine GoR.op ((op_move rfl) _) rfl rfl ?_
 refine GoR.op ((op_extract rfl rfl) _) rfl rfl ?_
 refine GoR.op ((op_extract rfl rfl) _) rfl rfl ?_
 refine GoR.op ((op_assign rfl) _) rfl rfl ?_
 refine GoR.op ((op_assign rfl) _) rfl rfl ?_
 refine GoR.nil ?_
 refine Go1.seq ?_
 refine Go1.region ?_
 refine GoR.op ((op_move rfl) _) rfl rfl ?_
 obtain ⟨h8, H⟩ := H
 refine GoR.op ((op_add rfl rfl (wrap_i64 h8)) _) rfl rfl ?_
 refine GoR.op ((op_move rfl) _) rfl rfl ?_
 refine GoR.op ((op_len Try.underlying35 rfl) _) rfl rfl ?_
 replace H := H h_r1.bd
 refine GoR.op ((op_move rfl) _) rfl rfl ?_
 obtain ⟨h9, H⟩ := H
 refine GoR.op ((op_sub rfl rfl (wrap_i64 h9)) _) rfl rfl ?_
 refine GoR.op ((op_assign rfl) _) rfl rfl ?_
 refine GoR.op ((op_assign rfl) _) rfl rfl ?_
 refine GoR.nil ?_
 refine Go1.ret2 Try.func41 rfl ?_
 exact ⟨(r2 + (1 : Int)), ((r1.length : Int) - r2), rfl, hB.same, H⟩
theorem body42 : Body Try.prog 42 := ⟨Try.f42, Try.func42, rfl, by kernel_rfl⟩
theorem walk_ref11_Omega {A : List Nat} {w0 : World} {p_f : Option Addr} {c_f : Nat} {f : List Int} (hA : ∀ b ∈ A, b < w0.heap.size) (h_f : ISl (Rp.int .i64) A w0 p_f c_f f) {K : List Int → Prop} (H : ref11_Omega f K) :
    CallsV Try.prog 42 #[.slice p_f f.length c_f] w0 (fun v w' => ∃ (r0 : List Int), ∃ (p_r0 : Option Addr), ∃ (c_r0 : Nat), v = .slice p_r0 r0.length c_r0 ∧ Same w0 w' ∧ ISl (Rp.int .i64) A w' p_r0 c_r0 r0 ∧ K r0) := by
 refine CallsV.of (l := [.slice p_f f.length c_f]) Try.func42 rfl Try.ntmps42 rfl ?_
 have hO := Owns.start hA
 have hB := Fr.refl (bl []) w0
 unfold ref11_Omega at H
 replace h_f := h_f.ch (Ch.start A w0)
 refine Go1.seq ?_
 refine Go1.region ?_
 refine GoR.op ((op_assign rfl) _) rfl rfl ?_
 refine GoR.nil ?_
 refine Go1.seq ?_
 refine Go1.region ?_
 refine GoR.op ((op_move rfl) _) rfl rfl ?_
 refine GoR.call (op_call body58 rfl (walk_ref11_Powers hO.lt h_f H)) rfl rfl ?_
 rintro v6 w3 ⟨r1, r2, p_r1, c_r1, rfl, hs4, h_r1, H⟩
 have hst7 := Stp.same hO hs4
 replace hO := hst7.own
 replace h_f := h_f.ch hst7.ch
 replace hB := hB.trans hst7.fr
 refine GoR.op ((op_move rfl) _) rfl rfl ?_
 refine GoR.op ((op_extract rfl rfl) _) rfl rfl ?_
 refine GoR.op ((op_extract rfl rfl) _) rfl rfl ?_
 refine GoR.op ((op_assign rfl) _) rfl rfl ?_
 refine GoR.op ((op_assign rfl) _) rfl rfl ?_
 refine GoR.nil ?_
 refine Go1.seq ?_
 refine Go1.seq ?_
 refine Go1.region ?_
 refine GoR.op ((op_move rfl) _) rfl rfl ?_
 refine GoR.op ((op_len Try.underlying35 rfl) _) rfl rfl ?_
 replace H := H h_r1.bd
 refine GoR.op ((op_move rfl) _) rfl rfl ?_
 refine GoR.nil ?_
 refine Go1.block ?_
 refine Go1.loopW (S := Nat) (fun s σ w => agrees σ [(12, .slice p_r1 r1.length c_r1), (13, .int .i64 (r1.length : Int)), (14, .int .i64 (s : Int))] ∧ Owns w0.heap.size w [] A ∧ ISl (Rp.sl (Rp.int .i64)) (bl [] ++ A) w p_r1 c_r1 r1 ∧ Fr (bl []) w0 (bl []) w) H ⟨⟨rfl, rfl, rfl, trivial⟩, hO, h_r1, hB⟩ ?_
 rintro X1 k1_9 H hX1 σ w8 ⟨hag, hO, h_r1, hB⟩
 refine Go1.keep [(12, .slice p_r1 r1.length c_r1), (13, .int .i64 (r1.length : Int)), (14, .int .i64 (k1_9 : Int))] hag ?_
 refine Go1.seq ?_
 refine Go1.region ?_
 by_cases h10 : (k1_9 : Int) < (r1.length : Int)
 ·replace H := ifp h10 H
  refine GoR.op ((fun w => opB (op_lss rfl rfl w) (decide_eq_true h10)) _) rfl rfl ?_
  refine GoR.nil ?_
  refine Go1.seq ?_
  refine Go1.condT rfl rfl ?_
  refine Go1.skip ?_
  refine Go1.seq ?_
  refine Go1.block ?_
  refine Go1.seq ?_
  refine Go1.region ?_
  obtain ⟨h11, H⟩ := H
  obtain ⟨h12, H⟩ := H
  refine GoR.op ((op_index Try.underlying35 ti22 rfl rfl h11 h12 (h_r1.some_ h11 h12)) _) rfl rfl ?_
  have hobt := ldSl h_r1 h11 h12
  obtain ⟨p13, c14, hi15, hl16⟩ := hobt
  refine GoR.op ((hl16 Try.underlying22 rfl rfl) _ (Same.refl _)) rfl rfl ?_
  refine GoR.op ((op_assign rfl) _) rfl rfl ?_
  refine GoR.nil ?_
  refine Go1.seq ?_
  refine Go1.region ?_
  refine GoR.op ((op_move rfl) _) rfl rfl ?_
  refine GoR.op ((op_move rfl) _) rfl rfl ?_
  refine GoR.call (op_call body19 rfl (walk_ref11_Compose hO.lt hi15 hi15 H)) rfl rfl ?_
  rintro v21 w18 ⟨r17, p_r17, c_r17, rfl, hs19, h_r17, H⟩
  have hst22 := Stp.same hO hs19
  replace hO := hst22.own
  replace h_r1 := h_r1.ch hst22.ch
  replace hi15 := hi15.ch hst22.ch
  replace hB := hB.trans hst22.fr
  refine GoR.op ((op_move rfl) _) rfl rfl ?_
  refine GoR.call (op_call body18 rfl (walk_ref03_Same hO.lt h_r17 hi15 H)) rfl rfl ?_
  rintro v27 w24 ⟨r23, rfl, hs25, H⟩
  have hst28 := Stp.same hO hs25
  replace hO := hst28.own
  replace h_r1 := h_r1.ch hst28.ch
  replace hi15 := hi15.ch hst28.ch
  replace h_r17 := h_r17.ch hst28.ch
  replace hB := hB.trans hst28.fr
  refine GoR.nil ?_
  cases r23
  ·replace H := ifn Bool.false_ne_true H
   refine Go1.condF rfl rfl ?_
   refine Go1.skip ?_
   refine Go1.inBlock ?_
   refine Go1.region ?_
   refine GoR.op ((op_add rfl rfl (wrap_i64 (natbd h10 h_r1.bd))) _) rfl rfl ?_
   refine GoR.op ((op_move rfl) _) rfl rfl ?_
   refine GoR.nil ?_
   exact hX1 _ H _ _ ⟨⟨rfl, rfl, rfl, trivial⟩, hO, h_r1, hB⟩
  ·replace H := ifp rfl H
   refine Go1.condT rfl rfl ?_
   refine Go1.seq ?_
   refine Go1.region ?_
   refine GoR.op ((op_move rfl) _) rfl rfl ?_
   refine GoR.op ((op_assign rfl) _) rfl rfl ?_
   refine GoR.nil ?_
   refine Go1.ret1 Try.func42 rfl ?_
   exact ⟨ix r1 (k1_9 : Int), p13, c14, rfl, hB.same, (hi15.ch (Ch.weak _ _ _)), H⟩
 ·replace H := ifn h10 H
  refine GoR.op ((fun w => opB (op_lss rfl rfl w) (decide_eq_false h10)) _) rfl rfl ?_
  refine GoR.nil ?_
  refine Go1.seq ?_
  refine Go1.condF rfl rfl ?_
  refine Go1.exit rfl ?_
  refine Go1.seq ?_
  refine Go1.region ?_
  refine GoR.op ((op_assign rfl) _) rfl rfl ?_
  refine GoR.nil ?_
  refine Go1.ret1 Try.func42 rfl ?_
  exact ⟨([] : List Int), none, 0, rfl, hB.same, (ISl.null _ _ _), H⟩
theorem body9 : Body Try.prog 9 := ⟨Try.f9, Try.func9, rfl, by kernel_rfl⟩
theorem walk_law11_TransCycles {A : List Nat} {w0 : World} {p_a0 : Option Addr} {c_a0 : Nat} {a0 : List Int} (hA : ∀ b ∈ A, b < w0.heap.size) (h_a0 : ISl (Rp.int .i64) A w0 p_a0 c_a0 a0) {K : Bool → Prop} (H : law11_TransCycles a0 K) :
    CallsV Try.prog 9 #[.slice p_a0 a0.length c_a0] w0 (fun v w' => ∃ (r0 : Bool), v = .bool r0 ∧ Same w0 w' ∧ K r0) := by
 refine CallsV.of (l := [.slice p_a0 a0.length c_a0]) Try.func9 rfl Try.ntmps9 rfl ?_
 have hO := Owns.start hA
 have hB := Fr.refl (bl []) w0
 unfold law11_TransCycles at H
 replace h_a0 := h_a0.ch (Ch.start A w0)
 refine Go1.seq ?_
 refine Go1.region ?_
 refine GoR.op ((op_assign rfl) _) rfl rfl ?_
 refine GoR.nil ?_
 refine Go1.seq ?_
 refine Go1.region ?_
 refine GoR.op ((op_move rfl) _) rfl rfl ?_
 refine GoR.call (op_call body37 rfl (walk_trans_IndexPeriod hO.lt h_a0 H)) rfl rfl ?_
 rintro v6 w3 ⟨r1, r2, rfl, hs4, H⟩
 have hst7 := Stp.same hO hs4
 replace hO := hst7.own
 replace h_a0 := h_a0.ch hst7.ch
 replace hB := hB.trans hst7.fr
 refine GoR.op ((op_move rfl) _) rfl rfl ?_
 refine GoR.op ((op_extract rfl rfl) _) rfl rfl ?_
 refine GoR.op ((op_extract rfl rfl) _) rfl rfl ?_
 refine GoR.op ((op_assign rfl) _) rfl rfl ?_
 refine GoR.op ((op_assign rfl) _) rfl rfl ?_
 refine GoR.nil ?_
 refine Go1.seq ?_
 refine Go1.region ?_
 refine GoR.op ((op_move rfl) _) rfl rfl ?_
 refine GoR.call (op_call body38 rfl (walk_trans_Omega hO.lt h_a0 H)) rfl rfl ?_
 rintro v12 w9 ⟨r8, p_r8, c_r8, rfl, hs10, h_r8, H⟩
 have hst13 := Stp.same hO hs10
 replace hO := hst13.own
 replace h_a0 := h_a0.ch hst13.ch
 replace hB := hB.trans hst13.fr
 refine GoR.op ((op_move rfl) _) rfl rfl ?_
 refine GoR.call (op_call body39 rfl (walk_trans_Cycles hO.lt h_a0 H)) rfl rfl ?_
 rintro v18 w15 ⟨r14, p_r14, c_r14, rfl, hs16, h_r14, H⟩
 have hst19 := Stp.same hO hs16
 replace hO := hst19.own
 replace h_a0 := h_a0.ch hst19.ch
 replace h_r8 := h_r8.ch hst19.ch
 replace hB := hB.trans hst19.fr
 refine GoR.op ((op_assign rfl) _) rfl rfl ?_
 refine GoR.op ((op_assign rfl) _) rfl rfl ?_
 refine GoR.nil ?_
 refine Go1.seq ?_
 refine Go1.seq ?_
 refine Go1.region ?_
 refine GoR.op ((op_move rfl) _) rfl rfl ?_
 refine GoR.call (op_call body22 rfl (walk_ref11_Valid hO.lt h_a0 H)) rfl rfl ?_
 rintro v24 w21 ⟨r20, rfl, hs22, H⟩
 have hst25 := Stp.same hO hs22
 replace hO := hst25.own
 replace h_a0 := h_a0.ch hst25.ch
 replace h_r8 := h_r8.ch hst25.ch
 replace h_r14 := h_r14.ch hst25.ch
 replace hB := hB.trans hst25.fr
 cases r20
 ·replace H := ifn Bool.false_ne_true H
  refine GoR.op ((op_not rfl) _) rfl rfl ?_
  refine GoR.nil ?_
  refine Go1.condT rfl rfl ?_
  refine Go1.seq ?_
  refine Go1.region ?_
  refine GoR.op ((op_move rfl) _) rfl rfl ?_
  by_cases h26 : r1 = (0 : Int)
  ·replace H := ifp h26 H
   refine GoR.op ((fun w => opB (op_eql rfl rfl w) (decide_eq_true h26)) _) rfl rfl ?_
   refine GoR.op ((op_move rfl) _) rfl rfl ?_
   refine GoR.op ((op_move rfl) _) rfl rfl ?_
   by_cases h27 : r2 = (0 : Int)
   ·replace H := ifp h27 H
    refine GoR.op ((fun w => opB (op_eql rfl rfl w) (decide_eq_true h27)) _) rfl rfl ?_
    refine GoR.op ((op_pickT rfl rfl rfl) _) rfl rfl ?_
    refine GoR.op ((op_move rfl) _) rfl rfl ?_
    refine GoR.op ((op_move rfl) _) rfl rfl ?_
    refine GoR.op ((op_len Try.underlying22 rfl) _) rfl rfl ?_
    replace H := H h_r8.bd
    by_cases h28 : (r8.length : Int) = (0 : Int)
    ·replace H := ifp h28 H
     refine GoR.op ((fun w => opB (op_eql rfl rfl w) (decide_eq_true h28)) _) rfl rfl ?_
     refine GoR.op ((op_pickT rfl rfl rfl) _) rfl rfl ?_
     refine GoR.op ((op_move rfl) _) rfl rfl ?_
     refine GoR.op ((op_move rfl) _) rfl rfl ?_
     refine GoR.op ((op_len Try.underlying35 rfl) _) rfl rfl ?_
     replace H := H h_r14.bd
     by_cases h29 : (r14.length : Int) = (0 : Int)
     ·replace H := ifp h29 H
      refine GoR.op ((fun w => opB (op_eql rfl rfl w) (decide_eq_true h29)) _) rfl rfl ?_
      refine GoR.op ((op_pickT rfl rfl rfl) _) rfl rfl ?_
      refine GoR.op ((op_move rfl) _) rfl rfl ?_
      refine GoR.call (op_call body17 rfl (walk_law11_awake hO.lt H)) rfl rfl ?_
      rintro v34 w31 ⟨r30, rfl, hs32, H⟩
      have hst35 := Stp.same hO hs32
      replace hO := hst35.own
      replace h_a0 := h_a0.ch hst35.ch
      replace h_r8 := h_r8.ch hst35.ch
      replace h_r14 := h_r14.ch hst35.ch
      replace hB := hB.trans hst35.fr
      refine GoR.op ((op_pickT rfl rfl rfl) _) rfl rfl ?_
      refine GoR.op ((op_assign rfl) _) rfl rfl ?_
      refine GoR.nil ?_
      refine Go1.ret1 Try.func9 rfl ?_
      exact ⟨r30, rfl, hB.same, H⟩
     ·replace H := ifn h29 H
      refine GoR.op ((fun w => opB (op_eql rfl rfl w) (decide_eq_false h29)) _) rfl rfl ?_
      refine GoR.op ((op_pickT rfl rfl rfl) _) rfl rfl ?_
      refine GoR.op ((op_move rfl) _) rfl rfl ?_
      refine GoR.pass rfl rfl ?_
      refine GoR.op ((op_pickF rfl rfl rfl) _) rfl rfl ?_
      refine GoR.op ((op_assign rfl) _) rfl rfl ?_
      refine GoR.nil ?_
      refine Go1.ret1 Try.func9 rfl ?_
      exact ⟨false, rfl, hB.same, H⟩
    ·replace H := ifn h28 H
     refine GoR.op ((fun w => opB (op_eql rfl rfl w) (decide_eq_false h28)) _) rfl rfl ?_
     refine GoR.op ((op_pickT rfl rfl rfl) _) rfl rfl ?_
     refine GoR.op ((op_move rfl) _) rfl rfl ?_
     refine GoR.pass rfl rfl ?_
     refine GoR.pass rfl rfl ?_
     refine GoR.pass rfl rfl ?_
     refine GoR.op ((op_pickF rfl rfl rfl) _) rfl rfl ?_
     refine GoR.op ((op_move rfl) _) rfl rfl ?_
     refine GoR.pass rfl rfl ?_
     refine GoR.op ((op_pickF rfl rfl rfl) _) rfl rfl ?_
     refine GoR.op ((op_assign rfl) _) rfl rfl ?_
     refine GoR.nil ?_
     refine Go1.ret1 Try.func9 rfl ?_
     exact ⟨false, rfl, hB.same, H⟩
   ·replace H := ifn h27 H
    refine GoR.op ((fun w => opB (op_eql rfl rfl w) (decide_eq_false h27)) _) rfl rfl ?_
    refine GoR.op ((op_pickT rfl rfl rfl) _) rfl rfl ?_
    refine GoR.op ((op_move rfl) _) rfl rfl ?_
    refine GoR.pass rfl rfl ?_
    refine GoR.pass rfl rfl ?_
    refine GoR.pass rfl rfl ?_
    refine GoR.op ((op_pickF rfl rfl rfl) _) rfl rfl ?_
    refine GoR.op ((op_move rfl) _) rfl rfl ?_
    refine GoR.pass rfl rfl ?_
    refine GoR.pass rfl rfl ?_
    refine GoR.pass rfl rfl ?_
    refine GoR.op ((op_pickF rfl rfl rfl) _) rfl rfl ?_
    refine GoR.op ((op_move rfl) _) rfl rfl ?_
    refine GoR.pass rfl rfl ?_
    refine GoR.op ((op_pickF rfl rfl rfl) _) rfl rfl ?_
    refine GoR.op ((op_assign rfl) _) rfl rfl ?_
    refine GoR.nil ?_
    refine Go1.ret1 Try.func9 rfl ?_
    exact ⟨false, rfl, hB.same, H⟩
  ·replace H := ifn h26 H
   refine GoR.op ((fun w => opB (op_eql rfl rfl w) (decide_eq_false h26)) _) rfl rfl ?_
   refine GoR.op ((op_move rfl) _) rfl rfl ?_
   refine GoR.pass rfl rfl ?_
   refine GoR.pass rfl rfl ?_
   refine GoR.op ((op_pickF rfl rfl rfl) _) rfl rfl ?_
   refine GoR.op ((op_move rfl) _) rfl rfl ?_
   refine GoR.pass rfl rfl ?_
   refine GoR.pass rfl rfl ?_
   refine GoR.pass rfl rfl ?_
   refine GoR.op ((op_pickF rfl rfl rfl) _) rfl rfl ?_
   refine GoR.op ((op_move rfl) _) rfl rfl ?_
   refine GoR.pass rfl rfl ?_
   refine GoR.pass rfl rfl ?_
   refine GoR.pass rfl rfl ?_
   refine GoR.op ((op_pickF rfl rfl rfl) _) rfl rfl ?_
   refine GoR.op ((op_move rfl) _) rfl rfl ?_
   refine GoR.pass rfl rfl ?_
   refine GoR.op ((op_pickF rfl rfl rfl) _) rfl rfl ?_
   refine GoR.op ((op_assign rfl) _) rfl rfl ?_
   refine GoR.nil ?_
   refine Go1.ret1 Try.func9 rfl ?_
   exact ⟨false, rfl, hB.same, H⟩
 ·replace H := ifp rfl H
  refine GoR.op ((op_not rfl) _) rfl rfl ?_
  refine GoR.nil ?_
  refine Go1.condF rfl rfl ?_
  refine Go1.skip ?_
  refine Go1.seq ?_
  refine Go1.seq ?_
  refine Go1.region ?_
  refine GoR.op ((op_move rfl) _) rfl rfl ?_
  refine GoR.op ((op_len Try.underlying22 rfl) _) rfl rfl ?_
  replace H := H h_a0.bd
  by_cases h36 : (16 : Int) < (a0.length : Int)
  ·replace H := ifp h36 H
   refine GoR.op ((fun w => opB (op_gtr rfl rfl w) (decide_eq_true h36)) _) rfl rfl ?_
   refine GoR.nil ?_
   refine Go1.condT rfl rfl ?_
   refine Go1.seq ?_
   refine Go1.region ?_
   refine GoR.op ((op_move rfl) _) rfl rfl ?_
   refine GoR.op ((op_move rfl) _) rfl rfl ?_
   refine GoR.call (op_call body40 rfl (walk_ref11_Cycles hO.lt h_a0 H)) rfl rfl ?_
   rintro v41 w38 ⟨r37, p_r37, c_r37, rfl, hs39, h_r37, H⟩
   have hst42 := Stp.same hO hs39
   replace hO := hst42.own
   replace h_a0 := h_a0.ch hst42.ch
   replace h_r8 := h_r8.ch hst42.ch
   replace h_r14 := h_r14.ch hst42.ch
   replace hB := hB.trans hst42.fr
   refine GoR.call (op_call body35 rfl (walk_ref03_SameRows hO.lt h_r14 h_r37 H)) rfl rfl ?_
   rintro v47 w44 ⟨r43, rfl, hs45, H⟩
   have hst48 := Stp.same hO hs45
   replace hO := hst48.own
   replace h_a0 := h_a0.ch hst48.ch
   replace h_r8 := h_r8.ch hst48.ch
   replace h_r14 := h_r14.ch hst48.ch
   replace h_r37 := h_r37.ch hst48.ch
   replace hB := hB.trans hst48.fr
   refine GoR.op ((op_move rfl) _) rfl rfl ?_
   cases r43
   ·replace H := ifn Bool.false_ne_true H
    refine GoR.pass rfl rfl ?_
    refine GoR.op ((op_pickF rfl rfl rfl) _) rfl rfl ?_
    refine GoR.op ((op_assign rfl) _) rfl rfl ?_
    refine GoR.nil ?_
    refine Go1.ret1 Try.func9 rfl ?_
    exact ⟨false, rfl, hB.same, H⟩
   ·replace H := ifp rfl H
    refine GoR.call (op_call body17 rfl (walk_law11_awake hO.lt H)) rfl rfl ?_
    rintro v53 w50 ⟨r49, rfl, hs51, H⟩
    have hst54 := Stp.same hO hs51
    replace hO := hst54.own
    replace h_a0 := h_a0.ch hst54.ch
    replace h_r8 := h_r8.ch hst54.ch
    replace h_r14 := h_r14.ch hst54.ch
    replace h_r37 := h_r37.ch hst54.ch
    replace hB := hB.trans hst54.fr
    refine GoR.op ((op_pickT rfl rfl rfl) _) rfl rfl ?_
    refine GoR.op ((op_assign rfl) _) rfl rfl ?_
    refine GoR.nil ?_
    refine Go1.ret1 Try.func9 rfl ?_
    exact ⟨r49, rfl, hB.same, H⟩
  ·replace H := ifn h36 H
   refine GoR.op ((fun w => opB (op_gtr rfl rfl w) (decide_eq_false h36)) _) rfl rfl ?_
   refine GoR.nil ?_
   refine Go1.condF rfl rfl ?_
   refine Go1.skip ?_
   refine Go1.seq ?_
   refine Go1.region ?_
   refine GoR.op ((op_move rfl) _) rfl rfl ?_
   refine GoR.call (op_call body41 rfl (walk_ref11_IndexPeriod hO.lt h_a0 H)) rfl rfl ?_
   rintro v60 w57 ⟨r55, r56, rfl, hs58, H⟩
   have hst61 := Stp.same hO hs58
   replace hO := hst61.own
   replace h_a0 := h_a0.ch hst61.ch
   replace h_r8 := h_r8.ch hst61.ch
   replace h_r14 := h_r14.ch hst61.ch
   replace hB := hB.trans hst61.fr
   refine GoR.op ((op_move rfl) _) rfl rfl ?_
   refine GoR.op ((op_extract rfl rfl) _) rfl rfl ?_
   refine GoR.op ((op_extract rfl rfl) _) rfl rfl ?_
   refine GoR.op ((op_assign rfl) _) rfl rfl ?_
   refine GoR.op ((op_assign rfl) _) rfl rfl ?_
   refine GoR.nil ?_
   refine Go1.seq ?_
   refine Go1.region ?_
   refine GoR.op ((op_move rfl) _) rfl rfl ?_
   refine GoR.op ((op_move rfl) _) rfl rfl ?_
   by_cases h62 : r1 = r55
   ·replace H := ifp h62 H
    refine GoR.op ((fun w => opB (op_eql rfl rfl w) (decide_eq_true h62)) _) rfl rfl ?_
    refine GoR.op ((op_move rfl) _) rfl rfl ?_
    refine GoR.op ((op_move rfl) _) rfl rfl ?_
    refine GoR.op ((op_move rfl) _) rfl rfl ?_
    by_cases h63 : r2 = r56
    ·replace H := ifp h63 H
     refine GoR.op ((fun w => opB (op_eql rfl rfl w) (decide_eq_true h63)) _) rfl rfl ?_
     refine GoR.op ((op_pickT rfl rfl rfl) _) rfl rfl ?_
     refine GoR.op ((op_move rfl) _) rfl rfl ?_
     refine GoR.op ((op_move rfl) _) rfl rfl ?_
     refine GoR.op ((op_move rfl) _) rfl rfl ?_
     refine GoR.call (op_call body42 rfl (walk_ref11_Omega hO.lt h_a0 H)) rfl rfl ?_
     rintro v68 w65 ⟨r64, p_r64, c_r64, rfl, hs66, h_r64, H⟩
     have hst69 := Stp.same hO hs66
     replace hO := hst69.own
     replace h_a0 := h_a0.ch hst69.ch
     replace h_r8 := h_r8.ch hst69.ch
     replace h_r14 := h_r14.ch hst69.ch
     replace hB := hB.trans hst69.fr
     refine GoR.call (op_call body18 rfl (walk_ref03_Same hO.lt h_r8 h_r64 H)) rfl rfl ?_
     rintro v74 w71 ⟨r70, rfl, hs72, H⟩
     have hst75 := Stp.same hO hs72
     replace hO := hst75.own
     replace h_a0 := h_a0.ch hst75.ch
     replace h_r8 := h_r8.ch hst75.ch
     replace h_r14 := h_r14.ch hst75.ch
     replace h_r64 := h_r64.ch hst75.ch
     replace hB := hB.trans hst75.fr
     refine GoR.op ((op_pickT rfl rfl rfl) _) rfl rfl ?_
     refine GoR.op ((op_move rfl) _) rfl rfl ?_
     cases r70
     ·replace H := ifn Bool.false_ne_true H
      refine GoR.pass rfl rfl ?_
      refine GoR.pass rfl rfl ?_
      refine GoR.pass rfl rfl ?_
      refine GoR.pass rfl rfl ?_
      refine GoR.op ((op_pickF rfl rfl rfl) _) rfl rfl ?_
      refine GoR.op ((op_move rfl) _) rfl rfl ?_
      refine GoR.pass rfl rfl ?_
      refine GoR.op ((op_pickF rfl rfl rfl) _) rfl rfl ?_
      refine GoR.op ((op_assign rfl) _) rfl rfl ?_
      refine GoR.nil ?_
      refine Go1.ret1 Try.func9 rfl ?_
      exact ⟨false, rfl, hB.same, H⟩
     ·replace H := ifp rfl H
      refine GoR.op ((op_move rfl) _) rfl rfl ?_
      refine GoR.op ((op_move rfl) _) rfl rfl ?_
      refine GoR.call (op_call body40 rfl (walk_ref11_Cycles hO.lt h_a0 H)) rfl rfl ?_
      rintro v80 w77 ⟨r76, p_r76, c_r76, rfl, hs78, h_r76, H⟩
      have hst81 := Stp.same hO hs78
      replace hO := hst81.own
      replace h_a0 := h_a0.ch hst81.ch
      replace h_r8 := h_r8.ch hst81.ch
      replace h_r14 := h_r14.ch hst81.ch
      replace h_r64 := h_r64.ch hst81.ch
      replace hB := hB.trans hst81.fr
      refine GoR.call (op_call body35 rfl (walk_ref03_SameRows hO.lt h_r14 h_r76 H)) rfl rfl ?_
      rintro v86 w83 ⟨r82, rfl, hs84, H⟩
      have hst87 := Stp.same hO hs84
      replace hO := hst87.own
      replace h_a0 := h_a0.ch hst87.ch
      replace h_r8 := h_r8.ch hst87.ch
      replace h_r14 := h_r14.ch hst87.ch
      replace h_r64 := h_r64.ch hst87.ch
      replace h_r76 := h_r76.ch hst87.ch
      replace hB := hB.trans hst87.fr
      refine GoR.op ((op_pickT rfl rfl rfl) _) rfl rfl ?_
      refine GoR.op ((op_move rfl) _) rfl rfl ?_
      cases r82
      ·replace H := ifn Bool.false_ne_true H
       refine GoR.pass rfl rfl ?_
       refine GoR.op ((op_pickF rfl rfl rfl) _) rfl rfl ?_
       refine GoR.op ((op_assign rfl) _) rfl rfl ?_
       refine GoR.nil ?_
       refine Go1.ret1 Try.func9 rfl ?_
       exact ⟨false, rfl, hB.same, H⟩
      ·replace H := ifp rfl H
       refine GoR.call (op_call body17 rfl (walk_law11_awake hO.lt H)) rfl rfl ?_
       rintro v92 w89 ⟨r88, rfl, hs90, H⟩
       have hst93 := Stp.same hO hs90
       replace hO := hst93.own
       replace h_a0 := h_a0.ch hst93.ch
       replace h_r8 := h_r8.ch hst93.ch
       replace h_r14 := h_r14.ch hst93.ch
       replace h_r64 := h_r64.ch hst93.ch
       replace h_r76 := h_r76.ch hst93.ch
       replace hB := hB.trans hst93.fr
       refine GoR.op ((op_pickT rfl rfl rfl) _) rfl rfl ?_
       refine GoR.op ((op_assign rfl) _) rfl rfl ?_
       refine GoR.nil ?_
       refine Go1.ret1 Try.func9 rfl ?_
       exact ⟨r88, rfl, hB.same, H⟩
    ·replace H := ifn h63 H
     refine GoR.op ((fun w => opB (op_eql rfl rfl w) (decide_eq_false h63)) _) rfl rfl ?_
     refine GoR.op ((op_pickT rfl rfl rfl) _) rfl rfl ?_
     refine GoR.op ((op_move rfl) _) rfl rfl ?_
     refine GoR.pass rfl rfl ?_
     refine GoR.pass rfl rfl ?_
     refine GoR.pass rfl rfl ?_
     refine GoR.pass rfl rfl ?_
     refine GoR.op ((op_pickF rfl rfl rfl) _) rfl rfl ?_
     refine GoR.op ((op_move rfl) _) rfl rfl ?_
     refine GoR.pass rfl rfl ?_
     refine GoR.pass rfl rfl ?_
     refine GoR.pass rfl rfl ?_
     refine GoR.pass rfl rfl ?_
     refine GoR.op ((op_pickF rfl rfl rfl) _) rfl rfl ?_
     refine GoR.op ((op_move rfl) _) rfl rfl ?_
     refine GoR.pass rfl rfl ?_
     refine GoR.op ((op_pickF rfl rfl rfl) _) rfl rfl ?_
     refine GoR.op ((op_assign rfl) _) rfl rfl ?_
     refine GoR.nil ?_
     refine Go1.ret1 Try.func9 rfl ?_
     exact ⟨false, rfl, hB.same, H⟩
   ·replace H := ifn h62 H
    refine GoR.op ((fun w => opB (op_eql rfl rfl w) (decide_eq_false h62)) _) rfl rfl ?_
    refine GoR.op ((op_move rfl) _) rfl rfl ?_
    refine GoR.pass rfl rfl ?_
    refine GoR.pass rfl rfl ?_
    refine GoR.pass rfl rfl ?_
    refine GoR.op ((op_pickF rfl rfl rfl) _) rfl rfl ?_
    refine GoR.op ((op_move rfl) _) rfl rfl ?_
    refine GoR.pass rfl rfl ?_
    refine GoR.pass rfl rfl ?_
    refine GoR.pass rfl rfl ?_
    refine GoR.pass rfl rfl ?_
    refine GoR.op ((op_pickF rfl rfl rfl) _) rfl rfl ?_
    refine GoR.op ((op_move rfl) _) rfl rfl ?_
    refine GoR.pass rfl rfl ?_
    refine GoR.pass rfl rfl ?_
    refine GoR.pass rfl rfl ?_
    refine GoR.pass rfl rfl ?_
    refine GoR.op ((op_pickF rfl rfl rfl) _) rfl rfl ?_
    refine GoR.op ((op_move rfl) _) rfl rfl ?_
    refine GoR.pass rfl rfl ?_
    refine GoR.op ((op_pickF rfl rfl rfl) _) rfl rfl ?_
    refine GoR.op ((op_assign rfl) _) rfl rfl ?_
    refine GoR.nil ?_
    refine Go1.ret1 Try.func9 rfl ?_
    exact ⟨false, rfl, hB.same, H⟩
end Sg
