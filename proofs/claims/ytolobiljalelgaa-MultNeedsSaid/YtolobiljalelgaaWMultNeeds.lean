/- The walks: each call keeps to its plain transformer. Printed by walkgen.py. -/
import Derived.Test.YtolobiljalelgaaTi
import Derived.Test.YtolobiljalelgaaWMultCloses
namespace Sg
open Go Go.RowKit Go.Proofs
set_option linter.unusedVariables false
set_option maxRecDepth 100000
set_option maxHeartbeats 4000000
theorem body51 : Body Try.prog 51 := ⟨Try.f51, Try.func51, rfl, by kernel_rfl⟩
theorem walk_mult_Generators {A : List Nat} {w0 : World} {p_t : Option Addr} {c_t : Nat} {t : List (List Int)} (hA : ∀ b ∈ A, b < w0.heap.size) (h_t : ISl (Rp.sl (Rp.int .i64)) A w0 p_t c_t t) {K : List Int → Prop} (H : mult_Generators t K) :
    CallsV Try.prog 51 #[.slice p_t t.length c_t] w0 (fun v w' => ∃ (r0 : List Int), ∃ (p_r0 : Option Addr), ∃ (c_r0 : Nat), v = .slice p_r0 r0.length c_r0 ∧ Same w0 w' ∧ ISl (Rp.int .i64) A w' p_r0 c_r0 r0 ∧ K r0) := by
 refine CallsV.of (l := [.slice p_t t.length c_t]) Try.func51 rfl Try.ntmps51 rfl ?_
 have hO := Owns.start hA
 have hB := Fr.refl (bl []) w0
 unfold mult_Generators at H
 replace h_t := h_t.ch (Ch.start A w0)
 refine Go1.seq ?_
 refine Go1.region ?_
 refine GoR.op ((op_assign rfl) _) rfl rfl ?_
 refine GoR.nil ?_
 refine Go1.seq ?_
 refine Go1.seq ?_
 refine Go1.region ?_
 refine GoR.op ((op_move rfl) _) rfl rfl ?_
 refine GoR.call (op_call body71 rfl (walk_mult_valid hO.lt h_t H)) rfl rfl ?_
 rintro v5 w2 ⟨r1, rfl, hs3, H⟩
 have hst6 := Stp.same hO hs3
 replace hO := hst6.own
 replace h_t := h_t.ch hst6.ch
 replace hB := hB.trans hst6.fr
 cases r1
 ·replace H := ifn Bool.false_ne_true H
  refine GoR.op ((op_not rfl) _) rfl rfl ?_
  refine GoR.nil ?_
  refine Go1.condT rfl rfl ?_
  refine Go1.seq ?_
  refine Go1.region ?_
  refine GoR.op ((op_assign rfl) _) rfl rfl ?_
  refine GoR.nil ?_
  refine Go1.ret1 Try.func51 rfl ?_
  exact ⟨([] : List Int), none, 0, rfl, hB.same, (ISl.null _ _ _), H⟩
 ·replace H := ifp rfl H
  refine GoR.op ((op_not rfl) _) rfl rfl ?_
  refine GoR.nil ?_
  refine Go1.condF rfl rfl ?_
  refine Go1.skip ?_
  refine Go1.seq ?_
  refine Go1.region ?_
  refine GoR.op ((op_move rfl) _) rfl rfl ?_
  refine GoR.inl (vs := [.slice p_t t.length c_t]) (caps := []) rfl rfl body82 Try.func82 rfl Try.ntmps82 rfl rfl rfl ?_
  intro RhR7 hR7
  refine Go1.seq ?_
  refine Go1.region ?_
  refine GoR.op ((op_assign rfl) _) rfl rfl ?_
  refine GoR.nil ?_
  refine Go1.seq ?_
  refine Go1.region ?_
  refine GoR.op ((op_move rfl) _) rfl rfl ?_
  refine GoR.op ((op_move rfl) _) rfl rfl ?_
  refine GoR.op ((op_len Try.underlying22 rfl) _) rfl rfl ?_
  replace H := H h_t.bd
  obtain ⟨h15, H⟩ := H
  obtain ⟨h16, H⟩ := H
  have hobt := omake (n := (t.length : Int)) (r := Rp.bool) (d := false) Try.underlying54 ti4 (fun _ _ => rfl) rfl hO h15 h16 (by decide)
  obtain ⟨w8, p9, vs10, hst11, hE12, hs13, hop14⟩ := hobt
  refine GoR.op (hop14 rfl rfl) rfl rfl ?_
  replace hO := hst11.own
  replace h_t := h_t.ch hst11.ch
  replace hB := hB.trans hst11.fr
  refine GoR.op ((op_build Try.underlying67 ti67 (pl := [(0, 1), (1, 1), (2, 1), (3, 1)]) (vs := [(0, .slice p_t t.length c_t), (2, .slice p9 t.length t.length)]) (cs := #[.slice p_t t.length c_t, .slice none 0 0, .slice p9 t.length t.length, .slice none 0 0]) (by kernel_rfl) rfl (by kernel_rfl)) _) rfl rfl ?_
  have hobt := obox (t := 67) (v := .agg #[.slice p_t t.length c_t, .slice none 0 0, .slice p9 t.length t.length, .slice none 0 0]) (cs := #[.slice p_t t.length c_t, .slice none 0 0, .slice p9 t.length t.length, .slice none 0 0]) hO rfl
  obtain ⟨w18, B19, hst20, hs21, hop22⟩ := hobt
  refine GoR.op (hop22 rfl) rfl rfl ?_
  replace hE12 := hE12.ch hst20.ch
  replace hO := hst20.own
  replace h_t := h_t.ch hst20.ch
  replace hB := hB.trans hst20.fr
  refine GoR.op ((op_assign rfl) _) rfl rfl ?_
  refine GoR.nil ?_
  refine Go1.ret1V Try.func82 rfl (show _ = .pointer (some ⟨B19, 0, none⟩) from rfl) ?_
  refine hR7 _ _ ?_
  refine GoR.op ((op_assign rfl) _) rfl rfl ?_
  refine GoR.nil ?_
  refine Go1.seq ?_
  refine Go1.seq ?_
  refine Go1.region ?_
  refine GoR.op ((op_move rfl) _) rfl rfl ?_
  refine GoR.op ((op_len Try.underlying22 rfl) _) rfl rfl ?_
  refine GoR.op ((op_move rfl) _) rfl rfl ?_
  refine GoR.nil ?_
  refine Go1.block ?_
  have hst25 := Stp.nil (e := 3) (r := 1) hO
  replace hE12 := hE12.ch hst25.ch
  replace hO := hst25.own
  replace h_t := h_t.ch hst25.ch
  replace hB := hB.trans hst25.fr
  have hE26 := Els.nil (Rp.int .i64) (bl (.row 3 1 none 0 0 [] :: [.blk B19 (.cells #[.slice p_t t.length c_t, .slice none 0 0, .slice p9 t.length t.length, .slice none 0 0] 67 (0, 0)), .row 4 1 p9 t.length t.length vs10]) ++ A) w18
  have hst28 := Stp.nil (e := 3) (r := 1) hO
  replace hE26 := hE26.ch hst28.ch
  replace hE12 := hE12.ch hst28.ch
  replace hO := hst28.own
  replace h_t := h_t.ch hst28.ch
  replace hB := hB.trans hst28.fr
  have hE29 := Els.nil (Rp.int .i64) (bl (.row 3 1 none 0 0 [] :: [.row 3 1 none 0 0 [], .blk B19 (.cells #[.slice p_t t.length c_t, .slice none 0 0, .slice p9 t.length t.length, .slice none 0 0] 67 (0, 0)), .row 4 1 p9 t.length t.length vs10]) ++ A) w18
  refine Go1.loopW (S := Nat × List Int × List Int × List Bool) (fun s σ w => ∃ (n37 : Nat), ∃ (p35 : Option Addr), ∃ (c36 : Nat), ∃ (vs33 : List Value), ∃ (n43 : Nat), ∃ (p41 : Option Addr), ∃ (c42 : Nat), ∃ (vs39 : List Value), ∃ (vs45 : List Value), agrees σ [(3, .pointer (some ⟨B19, 0, none⟩)), (11, .int .i64 (t.length : Int)), (12, .int .i64 ((s.1) : Int))] ∧ Owns w0.heap.size w [.row 3 1 p35 n37 c36 vs33, .row 3 1 p41 n43 c42 vs39, .blk B19 (.cells #[.slice p_t t.length c_t, .slice p41 n43 c42, .slice p9 t.length t.length, .slice p35 n37 c36] 67 (0, 0)), .row 4 1 p9 t.length t.length vs45] A ∧ Els (Rp.int .i64) (bl [.row 3 1 p35 n37 c36 vs33, .row 3 1 p41 n43 c42 vs39, .blk B19 (.cells #[.slice p_t t.length c_t, .slice p41 n43 c42, .slice p9 t.length t.length, .slice p35 n37 c36] 67 (0, 0)), .row 4 1 p9 t.length t.length vs45] ++ A) w vs33 (s.2.1) ∧ Els (Rp.int .i64) (bl [.row 3 1 p35 n37 c36 vs33, .row 3 1 p41 n43 c42 vs39, .blk B19 (.cells #[.slice p_t t.length c_t, .slice p41 n43 c42, .slice p9 t.length t.length, .slice p35 n37 c36] 67 (0, 0)), .row 4 1 p9 t.length t.length vs45] ++ A) w vs39 (s.2.2.1) ∧ Els (Rp.bool) (bl [.row 3 1 p35 n37 c36 vs33, .row 3 1 p41 n43 c42 vs39, .blk B19 (.cells #[.slice p_t t.length c_t, .slice p41 n43 c42, .slice p9 t.length t.length, .slice p35 n37 c36] 67 (0, 0)), .row 4 1 p9 t.length t.length vs45] ++ A) w vs45 (s.2.2.2) ∧ ISl (Rp.sl (Rp.int .i64)) (bl [.row 3 1 p35 n37 c36 vs33, .row 3 1 p41 n43 c42 vs39, .blk B19 (.cells #[.slice p_t t.length c_t, .slice p41 n43 c42, .slice p9 t.length t.length, .slice p35 n37 c36] 67 (0, 0)), .row 4 1 p9 t.length t.length vs45] ++ A) w p_t c_t t ∧ Fr (bl []) w0 (bl [.row 3 1 p35 n37 c36 vs33, .row 3 1 p41 n43 c42 vs39, .blk B19 (.cells #[.slice p_t t.length c_t, .slice p41 n43 c42, .slice p9 t.length t.length, .slice p35 n37 c36] 67 (0, 0)), .row 4 1 p9 t.length t.length vs45]) w) H ⟨0, none, 0, [], 0, none, 0, [], vs10, ⟨rfl, rfl, rfl, trivial⟩, hO, hE29, hE26, hE12, h_t, hB⟩ ?_
  rintro X1 ⟨k1_31, d_32, d_38, d_44⟩ H hX1 σ w30 ⟨n37, p35, c36, vs33, n43, p41, c42, vs39, vs45, hag, hO, hE34, hE40, hE46, h_t, hB⟩
  dsimp only at H
  refine Go1.keep [(3, .pointer (some ⟨B19, 0, none⟩)), (11, .int .i64 (t.length : Int)), (12, .int .i64 (k1_31 : Int))] hag ?_
  refine Go1.seq ?_
  refine Go1.region ?_
  by_cases h47 : (k1_31 : Int) < (t.length : Int)
  ·replace H := ifp h47 H
   refine GoR.op ((fun w => opB (op_lss rfl rfl w) (decide_eq_true h47)) _) rfl rfl ?_
   refine GoR.nil ?_
   refine Go1.seq ?_
   refine Go1.condT rfl rfl ?_
   refine Go1.skip ?_
   refine Go1.seq ?_
   refine Go1.block ?_
   refine Go1.seq ?_
   refine Go1.region ?_
   refine GoR.op ((op_move rfl) _) rfl rfl ?_
   refine GoR.op ((op_assign rfl) _) rfl rfl ?_
   refine GoR.nil ?_
   refine Go1.region ?_
   refine GoR.op ((op_move rfl) _) rfl rfl ?_
   refine GoR.op ((op_move rfl) _) rfl rfl ?_
   refine GoR.inl (vs := [.pointer (some ⟨B19, 0, none⟩), .int .i64 (k1_31 : Int)]) (caps := []) rfl rfl body83 Try.func83 rfl Try.ntmps83 rfl rfl rfl ?_
   intro RhR48 hR48
   refine Go1.seq ?_
   refine Go1.seq ?_
   refine Go1.region ?_
   refine GoR.op ((op_move rfl) _) rfl rfl ?_
   refine GoR.op ((op_nilCheck rfl) _) rfl rfl ?_
   refine GoR.op ((op_fieldAddr Try.underlying67 rfl ti54 rfl (by decide)) _) rfl rfl ?_
   refine GoR.op ((oblk 2 hO rfl rfl Try.underlying54 rfl rfl) _ (Same.refl _)) rfl rfl ?_
   refine GoR.op ((op_move rfl) _) rfl rfl ?_
   obtain ⟨h49, H⟩ := H
   obtain ⟨h50, H⟩ := H
   refine GoR.op ((op_index Try.underlying54 ti4 rfl rfl h49 (ltn (hE46.neq hO 3 rfl) h50) (hE46.psome hO 3 rfl h49 h50)) _) rfl rfl ?_
   by_cases h51 : ix d_44 (k1_31 : Int) = true
   ·replace H := ifp h51 H
    refine GoR.op (opB ((oldBool 3 hO rfl hE46 h49 h50 Try.underlying4 rfl rfl) _ (Same.refl _)) (h51)) rfl rfl ?_
    refine GoR.nil ?_
    refine Go1.condT rfl rfl ?_
    refine Go1.ret0V Try.func83 rfl ?_
    refine hR48 _ _ ?_
    refine GoR.nil ?_
    refine Go1.inBlock ?_
    refine Go1.region ?_
    refine GoR.op ((op_add rfl rfl (wrap_i64 (natbd h47 h_t.bd))) _) rfl rfl ?_
    refine GoR.op ((op_move rfl) _) rfl rfl ?_
    refine GoR.nil ?_
    exact hX1 _ H _ _ ⟨n37, p35, c36, vs33, n43, p41, c42, vs39, vs45, ⟨rfl, rfl, rfl, trivial⟩, hO, hE34, hE40, hE46, h_t, hB⟩
   ·replace H := ifn h51 H
    refine GoR.op (opB ((oldBool 3 hO rfl hE46 h49 h50 Try.underlying4 rfl rfl) _ (Same.refl _)) (Bool.eq_false_iff.2 h51)) rfl rfl ?_
    refine GoR.nil ?_
    refine Go1.condF rfl rfl ?_
    refine Go1.skip ?_
    refine Go1.seq ?_
    refine Go1.region ?_
    refine GoR.op ((op_move rfl) _) rfl rfl ?_
    refine GoR.op ((op_nilCheck rfl) _) rfl rfl ?_
    refine GoR.op ((op_fieldAddr Try.underlying67 rfl ti23 rfl (by decide)) _) rfl rfl ?_
    refine GoR.op ((oblk 2 hO rfl rfl Try.underlying23 rfl rfl) _ (Same.refl _)) rfl rfl ?_
    refine GoR.op ((op_lenN Try.underlying23 rfl (hE34.neq hO 0 rfl)) _) rfl rfl ?_
    refine GoR.op ((op_assign rfl) _) rfl rfl ?_
    refine GoR.nil ?_
    refine Go1.seq ?_
    refine Go1.region ?_
    refine GoR.op ((op_move rfl) _) rfl rfl ?_
    refine GoR.op ((op_move rfl) _) rfl rfl ?_
    refine GoR.op ((op_nilCheck rfl) _) rfl rfl ?_
    refine GoR.op ((op_fieldAddr Try.underlying67 rfl ti23 rfl (by decide)) _) rfl rfl ?_
    refine GoR.op ((oblk 2 hO rfl rfl Try.underlying23 rfl rfl) _ (Same.refl _)) rfl rfl ?_
    refine GoR.op ((op_move rfl) _) rfl rfl ?_
    have hobt := obuild (r := Rp.int .i64) (n := 1) (parts := [(0, .int .i64 (k1_31 : Int))]) (vs := [.int .i64 (k1_31 : Int)]) (xs := [(k1_31 : Int)]) rfl Try.underlying23 ti3 hO (by decide) (by kernel_rfl) (Els.cons rfl rfl (Els.nil _ _ _) (by simp [mx])) rfl
    obtain ⟨w52, p53, hst54, hE55, hs56, hop57⟩ := hobt
    refine GoR.op (hop57 rfl) rfl rfl ?_
    replace hE34 := hE34.ch hst54.ch
    replace hE40 := hE40.ch hst54.ch
    replace hE46 := hE46.ch hst54.ch
    replace hO := hst54.own
    replace h_t := h_t.ch hst54.ch
    replace hB := hB.trans hst54.fr
    have hobt := freeze 0 hO rfl hE55
    obtain ⟨hO1, hc61, hi59, hn60⟩ := hobt
    replace h_t := h_t.ch hc61
    replace hE34 := hE34.ch hc61
    replace hE40 := hE40.ch hc61
    replace hE46 := hE46.ch hc61
    replace hB := hB.trans (Owns.dropFr _ _ 0)
    replace hO := hO1; clear hO1
    obtain ⟨h62, H⟩ := H
    have hobt := oapp Try.underlying23 ti3 rfl 1 hO rfl hE40 hi59 hn60 h62 (by decide)
    obtain ⟨w63, p64, c65, vs66, hst67, hE68, hop69⟩ := hobt
    refine GoR.op (hop69 rfl rfl) rfl rfl ?_
    replace hE34 := hE34.ch hst67.ch
    replace hE46 := hE46.ch hst67.ch
    replace hO := hst67.own
    replace h_t := h_t.ch hst67.ch
    replace hi59 := hi59.ch hst67.ch
    replace hB := hB.trans hst67.fr
    refine GoR.op ((op_nilCheck rfl) _) rfl rfl ?_
    refine GoR.op ((op_fieldAddr Try.underlying67 rfl ti23 rfl (by decide)) _) rfl rfl ?_
    have hobt := oblkSt (v := .slice p64 (n43 + 1) c65) (i := 1) 2 hO rfl rfl rfl
    obtain ⟨w71, hst72, hop73⟩ := hobt
    refine GoR.op (hop73 Try.underlying23 rfl ti23 rfl rfl) rfl rfl ?_
    replace hE34 := hE34.ch hst72.ch
    replace hE68 := hE68.ch hst72.ch
    replace hE46 := hE46.ch hst72.ch
    replace hO := hst72.own
    replace h_t := h_t.ch hst72.ch
    replace hi59 := hi59.ch hst72.ch
    replace hB := hB.trans hst72.fr
    refine GoR.nil ?_
    refine Go1.seq ?_
    refine Go1.region ?_
    refine GoR.op ((op_move rfl) _) rfl rfl ?_
    refine GoR.op ((op_move rfl) _) rfl rfl ?_
    refine GoR.inl (vs := [.pointer (some ⟨B19, 0, none⟩), .int .i64 (k1_31 : Int)]) (caps := []) rfl rfl body91 Try.func91 rfl Try.ntmps91 rfl rfl rfl ?_
    intro RhR74 hR74
    refine Go1.seq ?_
    refine Go1.region ?_
    refine GoR.op ((op_move rfl) _) rfl rfl ?_
    refine GoR.op ((op_nilCheck rfl) _) rfl rfl ?_
    refine GoR.op ((op_fieldAddr Try.underlying67 rfl ti54 rfl (by decide)) _) rfl rfl ?_
    refine GoR.op ((oblk 2 hO rfl rfl Try.underlying54 rfl rfl) _ (Same.refl _)) rfl rfl ?_
    refine GoR.op ((op_move rfl) _) rfl rfl ?_
    obtain ⟨h75, H⟩ := H
    obtain ⟨h76, H⟩ := H
    refine GoR.op ((op_index Try.underlying54 ti4 rfl rfl h75 (ltn (hE46.neq hO 3 rfl) h76) (hE46.psome hO 3 rfl h75 h76)) _) rfl rfl ?_
    refine GoR.op (opB ((oldBool 3 hO rfl hE46 h75 h76 Try.underlying4 rfl rfl) _ (Same.refl _)) (Bool.eq_false_iff.2 h51)) rfl rfl ?_
    refine GoR.op ((op_not rfl) _) rfl rfl ?_
    refine GoR.nil ?_
    refine Go1.condT rfl rfl ?_
    refine Go1.seq ?_
    refine Go1.region ?_
    refine GoR.op ((op_move rfl) _) rfl rfl ?_
    refine GoR.op ((op_nilCheck rfl) _) rfl rfl ?_
    refine GoR.op ((op_fieldAddr Try.underlying67 rfl ti54 rfl (by decide)) _) rfl rfl ?_
    refine GoR.op ((oblk 2 hO rfl rfl Try.underlying54 rfl rfl) _ (Same.refl _)) rfl rfl ?_
    refine GoR.op ((op_move rfl) _) rfl rfl ?_
    obtain ⟨h77, H⟩ := H
    obtain ⟨h78, H⟩ := H
    refine GoR.op ((op_index Try.underlying54 ti4 rfl rfl h77 (ltn (hE46.neq hO 3 rfl) h78) (hE46.psome hO 3 rfl h77 h78)) _) rfl rfl ?_
    have hobt := ost (r := Rp.bool) rfl 3 hO rfl hE46 h77 h78 (v := .bool true) (u := true) rfl rfl
    obtain ⟨w79, vs80, hst81, hE82, hop83⟩ := hobt
    refine GoR.op (hop83 Try.underlying4 rfl ti4 rfl rfl) rfl rfl ?_
    replace hE34 := hE34.ch hst81.ch
    replace hE68 := hE68.ch hst81.ch
    replace hO := hst81.own
    replace h_t := h_t.ch hst81.ch
    replace hi59 := hi59.ch hst81.ch
    replace hB := hB.trans hst81.fr
    refine GoR.nil ?_
    refine Go1.region ?_
    refine GoR.op ((op_move rfl) _) rfl rfl ?_
    refine GoR.op ((op_move rfl) _) rfl rfl ?_
    refine GoR.op ((op_nilCheck rfl) _) rfl rfl ?_
    refine GoR.op ((op_fieldAddr Try.underlying67 rfl ti23 rfl (by decide)) _) rfl rfl ?_
    refine GoR.op ((oblk 2 hO rfl rfl Try.underlying23 rfl rfl) _ (Same.refl _)) rfl rfl ?_
    refine GoR.op ((op_move rfl) _) rfl rfl ?_
    have hobt := obuild (r := Rp.int .i64) (n := 1) (parts := [(0, .int .i64 (k1_31 : Int))]) (vs := [.int .i64 (k1_31 : Int)]) (xs := [(k1_31 : Int)]) rfl Try.underlying23 ti3 hO (by decide) (by kernel_rfl) (Els.cons rfl rfl (Els.nil _ _ _) (by simp [mx])) rfl
    obtain ⟨w84, p85, hst86, hE87, hs88, hop89⟩ := hobt
    refine GoR.op (hop89 rfl) rfl rfl ?_
    replace hE34 := hE34.ch hst86.ch
    replace hE68 := hE68.ch hst86.ch
    replace hE82 := hE82.ch hst86.ch
    replace hO := hst86.own
    replace h_t := h_t.ch hst86.ch
    replace hi59 := hi59.ch hst86.ch
    replace hB := hB.trans hst86.fr
    have hobt := freeze 0 hO rfl hE87
    obtain ⟨hO1, hc93, hi91, hn92⟩ := hobt
    replace h_t := h_t.ch hc93
    replace hi59 := hi59.ch hc93
    replace hE34 := hE34.ch hc93
    replace hE68 := hE68.ch hc93
    replace hE82 := hE82.ch hc93
    replace hB := hB.trans (Owns.dropFr _ _ 0)
    replace hO := hO1; clear hO1
    obtain ⟨h94, H⟩ := H
    have hobt := oapp Try.underlying23 ti3 rfl 0 hO rfl hE34 hi91 hn92 h94 (by decide)
    obtain ⟨w95, p96, c97, vs98, hst99, hE100, hop101⟩ := hobt
    refine GoR.op (hop101 rfl rfl) rfl rfl ?_
    replace hE68 := hE68.ch hst99.ch
    replace hE82 := hE82.ch hst99.ch
    replace hO := hst99.own
    replace h_t := h_t.ch hst99.ch
    replace hi59 := hi59.ch hst99.ch
    replace hi91 := hi91.ch hst99.ch
    replace hB := hB.trans hst99.fr
    refine GoR.op ((op_nilCheck rfl) _) rfl rfl ?_
    refine GoR.op ((op_fieldAddr Try.underlying67 rfl ti23 rfl (by decide)) _) rfl rfl ?_
    have hobt := oblkSt (v := .slice p96 (n37 + 1) c97) (i := 3) 2 hO rfl rfl rfl
    obtain ⟨w103, hst104, hop105⟩ := hobt
    refine GoR.op (hop105 Try.underlying23 rfl ti23 rfl rfl) rfl rfl ?_
    replace hE100 := hE100.ch hst104.ch
    replace hE68 := hE68.ch hst104.ch
    replace hE82 := hE82.ch hst104.ch
    replace hO := hst104.own
    replace h_t := h_t.ch hst104.ch
    replace hi59 := hi59.ch hst104.ch
    replace hi91 := hi91.ch hst104.ch
    replace hB := hB.trans hst104.fr
    refine GoR.nil ?_
    refine Go1.fin0V Try.func91 rfl ?_
    refine hR74 _ _ ?_
    refine GoR.nil ?_
    refine Go1.seq ?_
    refine Go1.region ?_
    refine GoR.op ((op_assign rfl) _) rfl rfl ?_
    refine GoR.nil ?_
    refine Go1.block ?_
    refine Go1.loopW (S := Nat × List Int × List Bool) (fun s σ w => ∃ (n113 : Nat), ∃ (p111 : Option Addr), ∃ (c112 : Nat), ∃ (vs109 : List Value), ∃ (vs115 : List Value), agrees σ [(0, .pointer (some ⟨B19, 0, none⟩)), (1, .int .i64 (k1_31 : Int)), (4, .int .i64 (d_32.length : Int)), (5, .int .i64 ((s.1) : Int))] ∧ Owns w0.heap.size w [.row 3 1 p111 n113 c112 vs109, .row 3 1 p64 (n43 + 1) c65 vs66, .blk B19 (.cells #[.slice p_t t.length c_t, .slice p64 (n43 + 1) c65, .slice p9 t.length t.length, .slice p111 n113 c112] 67 (0, 0)), .row 4 1 p9 t.length t.length vs115] A ∧ Els (Rp.int .i64) (bl [.row 3 1 p111 n113 c112 vs109, .row 3 1 p64 (n43 + 1) c65 vs66, .blk B19 (.cells #[.slice p_t t.length c_t, .slice p64 (n43 + 1) c65, .slice p9 t.length t.length, .slice p111 n113 c112] 67 (0, 0)), .row 4 1 p9 t.length t.length vs115] ++ A) w vs109 (s.2.1) ∧ Els (Rp.int .i64) (bl [.row 3 1 p111 n113 c112 vs109, .row 3 1 p64 (n43 + 1) c65 vs66, .blk B19 (.cells #[.slice p_t t.length c_t, .slice p64 (n43 + 1) c65, .slice p9 t.length t.length, .slice p111 n113 c112] 67 (0, 0)), .row 4 1 p9 t.length t.length vs115] ++ A) w vs66 (d_38 ++ ([(k1_31 : Int)])) ∧ Els (Rp.bool) (bl [.row 3 1 p111 n113 c112 vs109, .row 3 1 p64 (n43 + 1) c65 vs66, .blk B19 (.cells #[.slice p_t t.length c_t, .slice p64 (n43 + 1) c65, .slice p9 t.length t.length, .slice p111 n113 c112] 67 (0, 0)), .row 4 1 p9 t.length t.length vs115] ++ A) w vs115 (s.2.2) ∧ ISl (Rp.sl (Rp.int .i64)) (bl [.row 3 1 p111 n113 c112 vs109, .row 3 1 p64 (n43 + 1) c65 vs66, .blk B19 (.cells #[.slice p_t t.length c_t, .slice p64 (n43 + 1) c65, .slice p9 t.length t.length, .slice p111 n113 c112] 67 (0, 0)), .row 4 1 p9 t.length t.length vs115] ++ A) w p_t c_t t ∧ Fr (bl []) w0 (bl [.row 3 1 p111 n113 c112 vs109, .row 3 1 p64 (n43 + 1) c65 vs66, .blk B19 (.cells #[.slice p_t t.length c_t, .slice p64 (n43 + 1) c65, .slice p9 t.length t.length, .slice p111 n113 c112] 67 (0, 0)), .row 4 1 p9 t.length t.length vs115]) w) H ⟨n37 + 1, p96, c97, vs98, vs80, ⟨rfl, rfl, rfl, rfl, trivial⟩, hO, hE100, hE68, hE82, h_t, hB⟩ ?_
    rintro X2 ⟨k2_107, d_108, d_114⟩ H hX2 σ w106 ⟨n113, p111, c112, vs109, vs115, hag, hO, hE110, hE68, hE116, h_t, hB⟩
    dsimp only at H
    refine Go1.keep [(0, .pointer (some ⟨B19, 0, none⟩)), (1, .int .i64 (k1_31 : Int)), (4, .int .i64 (d_32.length : Int)), (5, .int .i64 (k2_107 : Int))] hag ?_
    refine Go1.seq ?_
    refine Go1.seq ?_
    refine Go1.region ?_
    refine GoR.op ((op_move rfl) _) rfl rfl ?_
    refine GoR.op ((op_move rfl) _) rfl rfl ?_
    refine GoR.op ((op_nilCheck rfl) _) rfl rfl ?_
    refine GoR.op ((op_fieldAddr Try.underlying67 rfl ti23 rfl (by decide)) _) rfl rfl ?_
    refine GoR.op ((oblk 2 hO rfl rfl Try.underlying23 rfl rfl) _ (Same.refl _)) rfl rfl ?_
    refine GoR.op ((op_lenN Try.underlying23 rfl (hE110.neq hO 0 rfl)) _) rfl rfl ?_
    by_cases h117 : (k2_107 : Int) < (d_108.length : Int)
    ·replace H := ifp h117 H
     refine GoR.op ((fun w => opB (op_lss rfl rfl w) (decide_eq_true h117)) _) rfl rfl ?_
     refine GoR.nil ?_
     refine Go1.condT rfl rfl ?_
     refine Go1.skip ?_
     refine Go1.seq ?_
     refine Go1.block ?_
     refine Go1.seq ?_
     refine Go1.seq ?_
     refine Go1.region ?_
     refine GoR.op ((op_move rfl) _) rfl rfl ?_
     refine GoR.op ((op_move rfl) _) rfl rfl ?_
     by_cases h118 : (k2_107 : Int) < (d_32.length : Int)
     ·replace H := ifp h118 H
      refine GoR.op ((fun w => opB (op_lss rfl rfl w) (decide_eq_true h118)) _) rfl rfl ?_
      refine GoR.nil ?_
      refine Go1.condT rfl rfl ?_
      refine Go1.seq ?_
      refine Go1.drawS 7 [(0, .pure), (1, .pure), (2, .pure), (3, .pure), (4, .stable), (5, .pure), (6, .pure), (7, .pure), (8, .stable), (9, .pure), (10, .pure), (11, .stable), (12, .pure), (13, .stable), (14, .pure), (15, .pure), (16, .stable), (17, .last)] mixed (by kernel_rfl) ?_
      intro w119 hs120
      have hst121 := Stp.same hO hs120
      replace hE110 := hE110.ch hst121.ch
      replace hE68 := hE68.ch hst121.ch
      replace hE116 := hE116.ch hst121.ch
      replace hO := hst121.own
      replace h_t := h_t.ch hst121.ch
      replace hB := hB.trans hst121.fr
      refine GoQ.pure rfl (op_move rfl) rfl rfl ?_
      refine GoQ.pure rfl (op_move rfl) rfl rfl ?_
      refine GoQ.pure rfl (op_nilCheck rfl) rfl rfl ?_
      refine GoQ.pure rfl (op_fieldAddr Try.underlying67 rfl ti22 rfl (by decide)) rfl rfl ?_
      refine GoQ.stable rfl (oblk 2 hO rfl rfl Try.underlying22 rfl rfl) rfl rfl ?_
      refine GoQ.pure rfl (op_move rfl) rfl rfl ?_
      refine GoQ.pure rfl (op_nilCheck rfl) rfl rfl ?_
      refine GoQ.pure rfl (op_fieldAddr Try.underlying67 rfl ti23 rfl (by decide)) rfl rfl ?_
      refine GoQ.stable rfl (oblk 2 hO rfl rfl Try.underlying23 rfl rfl) rfl rfl ?_
      refine GoQ.pure rfl (op_move rfl) rfl rfl ?_
      obtain ⟨h122, H⟩ := H
      obtain ⟨h123, H⟩ := H
      refine GoQ.pure rfl (op_index Try.underlying23 ti3 rfl rfl h122 (ltn (hE110.neq hO 0 rfl) h123) (hE110.psome hO 0 rfl h122 h123)) rfl rfl ?_
      refine GoQ.stable rfl (oldInt 0 hO rfl hE110 h122 h123 Try.underlying3 rfl rfl) rfl rfl ?_
      obtain ⟨h124, H⟩ := H
      obtain ⟨h125, H⟩ := H
      refine GoQ.pure rfl (op_index Try.underlying22 ti23 rfl rfl h124 h125 (h_t.some_ h124 h125)) rfl rfl ?_
      have hobt := ldSl h_t h124 h125
      obtain ⟨p126, c127, hi128, hl129⟩ := hobt
      refine GoQ.stable rfl (hl129 Try.underlying23 rfl rfl) rfl rfl ?_
      refine GoQ.pure rfl (op_move rfl) rfl rfl ?_
      obtain ⟨h130, H⟩ := H
      obtain ⟨h131, H⟩ := H
      refine GoQ.pure rfl (op_index Try.underlying23 ti3 rfl rfl h130 h131 (hi128.some_ h130 h131)) rfl rfl ?_
      refine GoQ.stable rfl (ldInt hi128 h130 h131 Try.underlying3 rfl rfl) rfl rfl ?_
      refine GoQ.inl (vs := [.pointer (some ⟨B19, 0, none⟩), .int .i64 (ix (ix t (ix d_108 (k2_107 : Int))) (k1_31 : Int))]) (caps := []) rfl rfl rfl body91 Try.func91 rfl Try.ntmps91 rfl rfl rfl ?_
      intro RhR132 hR132
      refine Go1.seq ?_
      refine Go1.region ?_
      refine GoR.op ((op_move rfl) _) rfl rfl ?_
      refine GoR.op ((op_nilCheck rfl) _) rfl rfl ?_
      refine GoR.op ((op_fieldAddr Try.underlying67 rfl ti54 rfl (by decide)) _) rfl rfl ?_
      refine GoR.op ((oblk 2 hO rfl rfl Try.underlying54 rfl rfl) _ (Same.refl _)) rfl rfl ?_
      refine GoR.op ((op_move rfl) _) rfl rfl ?_
      obtain ⟨h133, H⟩ := H
      obtain ⟨h134, H⟩ := H
      refine GoR.op ((op_index Try.underlying54 ti4 rfl rfl h133 (ltn (hE116.neq hO 3 rfl) h134) (hE116.psome hO 3 rfl h133 h134)) _) rfl rfl ?_
      by_cases h135 : ix d_114 (ix (ix t (ix d_108 (k2_107 : Int))) (k1_31 : Int)) = true
      ·replace H := ifp h135 H
       refine GoR.op (opB ((oldBool 3 hO rfl hE116 h133 h134 Try.underlying4 rfl rfl) _ (Same.refl _)) (h135)) rfl rfl ?_
       refine GoR.op ((op_not rfl) _) rfl rfl ?_
       refine GoR.nil ?_
       refine Go1.condF rfl rfl ?_
       refine Go1.skip ?_
       refine Go1.fin0V Try.func91 rfl ?_
       refine hR132 _ _ ?_
       refine GoQ.nil ?_
       refine Go1.exit rfl ?_
       refine Go1.region ?_
       refine GoR.op ((op_move rfl) _) rfl rfl ?_
       refine GoR.op ((op_add rfl rfl (wrap_i64 (natbd h117 hE110.bd))) _) rfl rfl ?_
       refine GoR.op ((op_assign rfl) _) rfl rfl ?_
       refine GoR.nil ?_
       exact hX2 _ H _ _ ⟨n113, p111, c112, vs109, vs115, ⟨rfl, rfl, rfl, rfl, trivial⟩, hO, hE110, hE68, hE116, h_t, hB⟩
      ·replace H := ifn h135 H
       refine GoR.op (opB ((oldBool 3 hO rfl hE116 h133 h134 Try.underlying4 rfl rfl) _ (Same.refl _)) (Bool.eq_false_iff.2 h135)) rfl rfl ?_
       refine GoR.op ((op_not rfl) _) rfl rfl ?_
       refine GoR.nil ?_
       refine Go1.condT rfl rfl ?_
       refine Go1.seq ?_
       refine Go1.region ?_
       refine GoR.op ((op_move rfl) _) rfl rfl ?_
       refine GoR.op ((op_nilCheck rfl) _) rfl rfl ?_
       refine GoR.op ((op_fieldAddr Try.underlying67 rfl ti54 rfl (by decide)) _) rfl rfl ?_
       refine GoR.op ((oblk 2 hO rfl rfl Try.underlying54 rfl rfl) _ (Same.refl _)) rfl rfl ?_
       refine GoR.op ((op_move rfl) _) rfl rfl ?_
       obtain ⟨h136, H⟩ := H
       obtain ⟨h137, H⟩ := H
       refine GoR.op ((op_index Try.underlying54 ti4 rfl rfl h136 (ltn (hE116.neq hO 3 rfl) h137) (hE116.psome hO 3 rfl h136 h137)) _) rfl rfl ?_
       have hobt := ost (r := Rp.bool) rfl 3 hO rfl hE116 h136 h137 (v := .bool true) (u := true) rfl rfl
       obtain ⟨w138, vs139, hst140, hE141, hop142⟩ := hobt
       refine GoR.op (hop142 Try.underlying4 rfl ti4 rfl rfl) rfl rfl ?_
       replace hE110 := hE110.ch hst140.ch
       replace hE68 := hE68.ch hst140.ch
       replace hO := hst140.own
       replace h_t := h_t.ch hst140.ch
       replace hi128 := hi128.ch hst140.ch
       replace hB := hB.trans hst140.fr
       refine GoR.nil ?_
       refine Go1.region ?_
       refine GoR.op ((op_move rfl) _) rfl rfl ?_
       refine GoR.op ((op_move rfl) _) rfl rfl ?_
       refine GoR.op ((op_nilCheck rfl) _) rfl rfl ?_
       refine GoR.op ((op_fieldAddr Try.underlying67 rfl ti23 rfl (by decide)) _) rfl rfl ?_
       refine GoR.op ((oblk 2 hO rfl rfl Try.underlying23 rfl rfl) _ (Same.refl _)) rfl rfl ?_
       refine GoR.op ((op_move rfl) _) rfl rfl ?_
       have hobt := obuild (r := Rp.int .i64) (n := 1) (parts := [(0, .int .i64 (ix (ix t (ix d_108 (k2_107 : Int))) (k1_31 : Int)))]) (vs := [.int .i64 (ix (ix t (ix d_108 (k2_107 : Int))) (k1_31 : Int))]) (xs := [(ix (ix t (ix d_108 (k2_107 : Int))) (k1_31 : Int))]) rfl Try.underlying23 ti3 hO (by decide) (by kernel_rfl) (Els.cons rfl rfl (Els.nil _ _ _) (by simp [mx])) rfl
       obtain ⟨w143, p144, hst145, hE146, hs147, hop148⟩ := hobt
       refine GoR.op (hop148 rfl) rfl rfl ?_
       replace hE110 := hE110.ch hst145.ch
       replace hE68 := hE68.ch hst145.ch
       replace hE141 := hE141.ch hst145.ch
       replace hO := hst145.own
       replace h_t := h_t.ch hst145.ch
       replace hi128 := hi128.ch hst145.ch
       replace hB := hB.trans hst145.fr
       have hobt := freeze 0 hO rfl hE146
       obtain ⟨hO1, hc152, hi150, hn151⟩ := hobt
       replace h_t := h_t.ch hc152
       replace hi128 := hi128.ch hc152
       replace hE110 := hE110.ch hc152
       replace hE68 := hE68.ch hc152
       replace hE141 := hE141.ch hc152
       replace hB := hB.trans (Owns.dropFr _ _ 0)
       replace hO := hO1; clear hO1
       obtain ⟨h153, H⟩ := H
       have hobt := oapp Try.underlying23 ti3 rfl 0 hO rfl hE110 hi150 hn151 h153 (by decide)
       obtain ⟨w154, p155, c156, vs157, hst158, hE159, hop160⟩ := hobt
       refine GoR.op (hop160 rfl rfl) rfl rfl ?_
       replace hE68 := hE68.ch hst158.ch
       replace hE141 := hE141.ch hst158.ch
       replace hO := hst158.own
       replace h_t := h_t.ch hst158.ch
       replace hi128 := hi128.ch hst158.ch
       replace hi150 := hi150.ch hst158.ch
       replace hB := hB.trans hst158.fr
       refine GoR.op ((op_nilCheck rfl) _) rfl rfl ?_
       refine GoR.op ((op_fieldAddr Try.underlying67 rfl ti23 rfl (by decide)) _) rfl rfl ?_
       have hobt := oblkSt (v := .slice p155 (n113 + 1) c156) (i := 3) 2 hO rfl rfl rfl
       obtain ⟨w162, hst163, hop164⟩ := hobt
       refine GoR.op (hop164 Try.underlying23 rfl ti23 rfl rfl) rfl rfl ?_
       replace hE159 := hE159.ch hst163.ch
       replace hE68 := hE68.ch hst163.ch
       replace hE141 := hE141.ch hst163.ch
       replace hO := hst163.own
       replace h_t := h_t.ch hst163.ch
       replace hi128 := hi128.ch hst163.ch
       replace hi150 := hi150.ch hst163.ch
       replace hB := hB.trans hst163.fr
       refine GoR.nil ?_
       refine Go1.fin0V Try.func91 rfl ?_
       refine hR132 _ _ ?_
       refine GoQ.nil ?_
       refine Go1.exit rfl ?_
       refine Go1.region ?_
       refine GoR.op ((op_move rfl) _) rfl rfl ?_
       obtain ⟨h165, H⟩ := H
       refine GoR.op ((op_add rfl rfl (wrap_i64 h165)) _) rfl rfl ?_
       refine GoR.op ((op_assign rfl) _) rfl rfl ?_
       refine GoR.nil ?_
       exact hX2 _ H _ _ ⟨n113 + 1, p155, c156, vs157, vs139, ⟨rfl, rfl, rfl, rfl, trivial⟩, hO, hE159, hE68, hE141, h_t, hB⟩
     ·replace H := ifn h118 H
      refine GoR.op ((fun w => opB (op_lss rfl rfl w) (decide_eq_false h118)) _) rfl rfl ?_
      refine GoR.nil ?_
      refine Go1.condF rfl rfl ?_
      refine Go1.skip ?_
      refine Go1.seq ?_
      refine Go1.region ?_
      refine GoR.op ((op_move rfl) _) rfl rfl ?_
      refine GoR.op ((op_nilCheck rfl) _) rfl rfl ?_
      refine GoR.op ((op_fieldAddr Try.underlying67 rfl ti23 rfl (by decide)) _) rfl rfl ?_
      refine GoR.op ((oblk 2 hO rfl rfl Try.underlying23 rfl rfl) _ (Same.refl _)) rfl rfl ?_
      refine GoR.op ((op_lenN Try.underlying23 rfl (hE68.neq hO 1 rfl)) _) rfl rfl ?_
      refine GoR.op ((op_move rfl) _) rfl rfl ?_
      refine GoR.nil ?_
      refine Go1.block ?_
      refine Go1.loopW (S := Nat × List Int × List Bool) (fun s σ w => ∃ (n173 : Nat), ∃ (p171 : Option Addr), ∃ (c172 : Nat), ∃ (vs169 : List Value), ∃ (vs175 : List Value), agrees σ [(0, .pointer (some ⟨B19, 0, none⟩)), (1, .int .i64 (k1_31 : Int)), (4, .int .i64 (d_32.length : Int)), (5, .int .i64 (k2_107 : Int)), (66, .slice p64 (n43 + 1) c65), (67, .int .i64 ((d_38 ++ ([(k1_31 : Int)])).length : Int)), (68, .int .i64 ((s.1) : Int))] ∧ Owns w0.heap.size w [.row 3 1 p171 n173 c172 vs169, .row 3 1 p64 (n43 + 1) c65 vs66, .blk B19 (.cells #[.slice p_t t.length c_t, .slice p64 (n43 + 1) c65, .slice p9 t.length t.length, .slice p171 n173 c172] 67 (0, 0)), .row 4 1 p9 t.length t.length vs175] A ∧ Els (Rp.int .i64) (bl [.row 3 1 p171 n173 c172 vs169, .row 3 1 p64 (n43 + 1) c65 vs66, .blk B19 (.cells #[.slice p_t t.length c_t, .slice p64 (n43 + 1) c65, .slice p9 t.length t.length, .slice p171 n173 c172] 67 (0, 0)), .row 4 1 p9 t.length t.length vs175] ++ A) w vs169 (s.2.1) ∧ Els (Rp.int .i64) (bl [.row 3 1 p171 n173 c172 vs169, .row 3 1 p64 (n43 + 1) c65 vs66, .blk B19 (.cells #[.slice p_t t.length c_t, .slice p64 (n43 + 1) c65, .slice p9 t.length t.length, .slice p171 n173 c172] 67 (0, 0)), .row 4 1 p9 t.length t.length vs175] ++ A) w vs66 (d_38 ++ ([(k1_31 : Int)])) ∧ Els (Rp.bool) (bl [.row 3 1 p171 n173 c172 vs169, .row 3 1 p64 (n43 + 1) c65 vs66, .blk B19 (.cells #[.slice p_t t.length c_t, .slice p64 (n43 + 1) c65, .slice p9 t.length t.length, .slice p171 n173 c172] 67 (0, 0)), .row 4 1 p9 t.length t.length vs175] ++ A) w vs175 (s.2.2) ∧ ISl (Rp.sl (Rp.int .i64)) (bl [.row 3 1 p171 n173 c172 vs169, .row 3 1 p64 (n43 + 1) c65 vs66, .blk B19 (.cells #[.slice p_t t.length c_t, .slice p64 (n43 + 1) c65, .slice p9 t.length t.length, .slice p171 n173 c172] 67 (0, 0)), .row 4 1 p9 t.length t.length vs175] ++ A) w p_t c_t t ∧ Fr (bl []) w0 (bl [.row 3 1 p171 n173 c172 vs169, .row 3 1 p64 (n43 + 1) c65 vs66, .blk B19 (.cells #[.slice p_t t.length c_t, .slice p64 (n43 + 1) c65, .slice p9 t.length t.length, .slice p171 n173 c172] 67 (0, 0)), .row 4 1 p9 t.length t.length vs175]) w) H ⟨n113, p111, c112, vs109, vs115, ⟨rfl, rfl, rfl, rfl, rfl, rfl, rfl, trivial⟩, hO, hE110, hE68, hE116, h_t, hB⟩ ?_
      rintro X3 ⟨k3_167, d_168, d_174⟩ H hX3 σ w166 ⟨n173, p171, c172, vs169, vs175, hag, hO, hE170, hE68, hE176, h_t, hB⟩
      dsimp only at H
      refine Go1.keep [(0, .pointer (some ⟨B19, 0, none⟩)), (1, .int .i64 (k1_31 : Int)), (4, .int .i64 (d_32.length : Int)), (5, .int .i64 (k2_107 : Int)), (66, .slice p64 (n43 + 1) c65), (67, .int .i64 ((d_38 ++ ([(k1_31 : Int)])).length : Int)), (68, .int .i64 (k3_167 : Int))] hag ?_
      refine Go1.seq ?_
      refine Go1.region ?_
      by_cases h177 : (k3_167 : Int) < ((d_38 ++ ([(k1_31 : Int)])).length : Int)
      ·replace H := ifp h177 H
       refine GoR.op ((fun w => opB (op_lss rfl rfl w) (decide_eq_true h177)) _) rfl rfl ?_
       refine GoR.nil ?_
       refine Go1.seq ?_
       refine Go1.condT rfl rfl ?_
       refine Go1.skip ?_
       refine Go1.seq ?_
       refine Go1.block ?_
       refine Go1.seq ?_
       refine Go1.region ?_
       obtain ⟨h178, H⟩ := H
       obtain ⟨h179, H⟩ := H
       refine GoR.op ((op_index Try.underlying23 ti3 rfl rfl h178 (ltn (hE68.neq hO 1 rfl) h179) (hE68.psome hO 1 rfl h178 h179)) _) rfl rfl ?_
       refine GoR.op ((oldInt 1 hO rfl hE68 h178 h179 Try.underlying3 rfl rfl) _ (Same.refl _)) rfl rfl ?_
       refine GoR.op ((op_assign rfl) _) rfl rfl ?_
       refine GoR.nil ?_
       refine Go1.drawS 7 [(0, .pure), (1, .pure), (2, .pure), (3, .pure), (4, .stable), (5, .pure), (6, .pure), (7, .pure), (8, .stable), (9, .pure), (10, .pure), (11, .stable), (12, .pure), (13, .stable), (14, .pure), (15, .pure), (16, .stable), (17, .last)] mixed (by kernel_rfl) ?_
       intro w180 hs181
       have hst182 := Stp.same hO hs181
       replace hE170 := hE170.ch hst182.ch
       replace hE68 := hE68.ch hst182.ch
       replace hE176 := hE176.ch hst182.ch
       replace hO := hst182.own
       replace h_t := h_t.ch hst182.ch
       replace hB := hB.trans hst182.fr
       refine GoQ.pure rfl (op_move rfl) rfl rfl ?_
       refine GoQ.pure rfl (op_move rfl) rfl rfl ?_
       refine GoQ.pure rfl (op_nilCheck rfl) rfl rfl ?_
       refine GoQ.pure rfl (op_fieldAddr Try.underlying67 rfl ti22 rfl (by decide)) rfl rfl ?_
       refine GoQ.stable rfl (oblk 2 hO rfl rfl Try.underlying22 rfl rfl) rfl rfl ?_
       refine GoQ.pure rfl (op_move rfl) rfl rfl ?_
       refine GoQ.pure rfl (op_nilCheck rfl) rfl rfl ?_
       refine GoQ.pure rfl (op_fieldAddr Try.underlying67 rfl ti23 rfl (by decide)) rfl rfl ?_
       refine GoQ.stable rfl (oblk 2 hO rfl rfl Try.underlying23 rfl rfl) rfl rfl ?_
       refine GoQ.pure rfl (op_move rfl) rfl rfl ?_
       obtain ⟨h183, H⟩ := H
       obtain ⟨h184, H⟩ := H
       refine GoQ.pure rfl (op_index Try.underlying23 ti3 rfl rfl h183 (ltn (hE170.neq hO 0 rfl) h184) (hE170.psome hO 0 rfl h183 h184)) rfl rfl ?_
       refine GoQ.stable rfl (oldInt 0 hO rfl hE170 h183 h184 Try.underlying3 rfl rfl) rfl rfl ?_
       obtain ⟨h185, H⟩ := H
       obtain ⟨h186, H⟩ := H
       refine GoQ.pure rfl (op_index Try.underlying22 ti23 rfl rfl h185 h186 (h_t.some_ h185 h186)) rfl rfl ?_
       have hobt := ldSl h_t h185 h186
       obtain ⟨p187, c188, hi189, hl190⟩ := hobt
       refine GoQ.stable rfl (hl190 Try.underlying23 rfl rfl) rfl rfl ?_
       refine GoQ.pure rfl (op_move rfl) rfl rfl ?_
       obtain ⟨h191, H⟩ := H
       obtain ⟨h192, H⟩ := H
       refine GoQ.pure rfl (op_index Try.underlying23 ti3 rfl rfl h191 h192 (hi189.some_ h191 h192)) rfl rfl ?_
       refine GoQ.stable rfl (ldInt hi189 h191 h192 Try.underlying3 rfl rfl) rfl rfl ?_
       refine GoQ.inl (vs := [.pointer (some ⟨B19, 0, none⟩), .int .i64 (ix (ix t (ix d_168 (k2_107 : Int))) (ix (d_38 ++ ([(k1_31 : Int)])) (k3_167 : Int)))]) (caps := []) rfl rfl rfl body91 Try.func91 rfl Try.ntmps91 rfl rfl rfl ?_
       intro RhR193 hR193
       refine Go1.seq ?_
       refine Go1.region ?_
       refine GoR.op ((op_move rfl) _) rfl rfl ?_
       refine GoR.op ((op_nilCheck rfl) _) rfl rfl ?_
       refine GoR.op ((op_fieldAddr Try.underlying67 rfl ti54 rfl (by decide)) _) rfl rfl ?_
       refine GoR.op ((oblk 2 hO rfl rfl Try.underlying54 rfl rfl) _ (Same.refl _)) rfl rfl ?_
       refine GoR.op ((op_move rfl) _) rfl rfl ?_
       obtain ⟨h194, H⟩ := H
       obtain ⟨h195, H⟩ := H
       refine GoR.op ((op_index Try.underlying54 ti4 rfl rfl h194 (ltn (hE176.neq hO 3 rfl) h195) (hE176.psome hO 3 rfl h194 h195)) _) rfl rfl ?_
       by_cases h196 : ix d_174 (ix (ix t (ix d_168 (k2_107 : Int))) (ix (d_38 ++ ([(k1_31 : Int)])) (k3_167 : Int))) = true
       ·replace H := ifp h196 H
        refine GoR.op (opB ((oldBool 3 hO rfl hE176 h194 h195 Try.underlying4 rfl rfl) _ (Same.refl _)) (h196)) rfl rfl ?_
        refine GoR.op ((op_not rfl) _) rfl rfl ?_
        refine GoR.nil ?_
        refine Go1.condF rfl rfl ?_
        refine Go1.skip ?_
        refine Go1.fin0V Try.func91 rfl ?_
        refine hR193 _ _ ?_
        refine GoQ.nil ?_
        refine Go1.inBlock ?_
        refine Go1.region ?_
        refine GoR.op ((op_add rfl rfl (wrap_i64 (natbd h177 hE68.bd))) _) rfl rfl ?_
        refine GoR.op ((op_move rfl) _) rfl rfl ?_
        refine GoR.nil ?_
        exact hX3 _ H _ _ ⟨n173, p171, c172, vs169, vs175, ⟨rfl, rfl, rfl, rfl, rfl, rfl, rfl, trivial⟩, hO, hE170, hE68, hE176, h_t, hB⟩
       ·replace H := ifn h196 H
        refine GoR.op (opB ((oldBool 3 hO rfl hE176 h194 h195 Try.underlying4 rfl rfl) _ (Same.refl _)) (Bool.eq_false_iff.2 h196)) rfl rfl ?_
        refine GoR.op ((op_not rfl) _) rfl rfl ?_
        refine GoR.nil ?_
        refine Go1.condT rfl rfl ?_
        refine Go1.seq ?_
        refine Go1.region ?_
        refine GoR.op ((op_move rfl) _) rfl rfl ?_
        refine GoR.op ((op_nilCheck rfl) _) rfl rfl ?_
        refine GoR.op ((op_fieldAddr Try.underlying67 rfl ti54 rfl (by decide)) _) rfl rfl ?_
        refine GoR.op ((oblk 2 hO rfl rfl Try.underlying54 rfl rfl) _ (Same.refl _)) rfl rfl ?_
        refine GoR.op ((op_move rfl) _) rfl rfl ?_
        obtain ⟨h197, H⟩ := H
        obtain ⟨h198, H⟩ := H
        refine GoR.op ((op_index Try.underlying54 ti4 rfl rfl h197 (ltn (hE176.neq hO 3 rfl) h198) (hE176.psome hO 3 rfl h197 h198)) _) rfl rfl ?_
        have hobt := ost (r := Rp.bool) rfl 3 hO rfl hE176 h197 h198 (v := .bool true) (u := true) rfl rfl
        obtain ⟨w199, vs200, hst201, hE202, hop203⟩ := hobt
        refine GoR.op (hop203 Try.underlying4 rfl ti4 rfl rfl) rfl rfl ?_
        replace hE170 := hE170.ch hst201.ch
        replace hE68 := hE68.ch hst201.ch
        replace hO := hst201.own
        replace h_t := h_t.ch hst201.ch
        replace hi189 := hi189.ch hst201.ch
        replace hB := hB.trans hst201.fr
        refine GoR.nil ?_
        refine Go1.region ?_
        refine GoR.op ((op_move rfl) _) rfl rfl ?_
        refine GoR.op ((op_move rfl) _) rfl rfl ?_
        refine GoR.op ((op_nilCheck rfl) _) rfl rfl ?_
        refine GoR.op ((op_fieldAddr Try.underlying67 rfl ti23 rfl (by decide)) _) rfl rfl ?_
        refine GoR.op ((oblk 2 hO rfl rfl Try.underlying23 rfl rfl) _ (Same.refl _)) rfl rfl ?_
        refine GoR.op ((op_move rfl) _) rfl rfl ?_
        have hobt := obuild (r := Rp.int .i64) (n := 1) (parts := [(0, .int .i64 (ix (ix t (ix d_168 (k2_107 : Int))) (ix (d_38 ++ ([(k1_31 : Int)])) (k3_167 : Int))))]) (vs := [.int .i64 (ix (ix t (ix d_168 (k2_107 : Int))) (ix (d_38 ++ ([(k1_31 : Int)])) (k3_167 : Int)))]) (xs := [(ix (ix t (ix d_168 (k2_107 : Int))) (ix (d_38 ++ ([(k1_31 : Int)])) (k3_167 : Int)))]) rfl Try.underlying23 ti3 hO (by decide) (by kernel_rfl) (Els.cons rfl rfl (Els.nil _ _ _) (by simp [mx])) rfl
        obtain ⟨w204, p205, hst206, hE207, hs208, hop209⟩ := hobt
        refine GoR.op (hop209 rfl) rfl rfl ?_
        replace hE170 := hE170.ch hst206.ch
        replace hE68 := hE68.ch hst206.ch
        replace hE202 := hE202.ch hst206.ch
        replace hO := hst206.own
        replace h_t := h_t.ch hst206.ch
        replace hi189 := hi189.ch hst206.ch
        replace hB := hB.trans hst206.fr
        have hobt := freeze 0 hO rfl hE207
        obtain ⟨hO1, hc213, hi211, hn212⟩ := hobt
        replace h_t := h_t.ch hc213
        replace hi189 := hi189.ch hc213
        replace hE170 := hE170.ch hc213
        replace hE68 := hE68.ch hc213
        replace hE202 := hE202.ch hc213
        replace hB := hB.trans (Owns.dropFr _ _ 0)
        replace hO := hO1; clear hO1
        obtain ⟨h214, H⟩ := H
        have hobt := oapp Try.underlying23 ti3 rfl 0 hO rfl hE170 hi211 hn212 h214 (by decide)
        obtain ⟨w215, p216, c217, vs218, hst219, hE220, hop221⟩ := hobt
        refine GoR.op (hop221 rfl rfl) rfl rfl ?_
        replace hE68 := hE68.ch hst219.ch
        replace hE202 := hE202.ch hst219.ch
        replace hO := hst219.own
        replace h_t := h_t.ch hst219.ch
        replace hi189 := hi189.ch hst219.ch
        replace hi211 := hi211.ch hst219.ch
        replace hB := hB.trans hst219.fr
        refine GoR.op ((op_nilCheck rfl) _) rfl rfl ?_
        refine GoR.op ((op_fieldAddr Try.underlying67 rfl ti23 rfl (by decide)) _) rfl rfl ?_
        have hobt := oblkSt (v := .slice p216 (n173 + 1) c217) (i := 3) 2 hO rfl rfl rfl
        obtain ⟨w223, hst224, hop225⟩ := hobt
        refine GoR.op (hop225 Try.underlying23 rfl ti23 rfl rfl) rfl rfl ?_
        replace hE220 := hE220.ch hst224.ch
        replace hE68 := hE68.ch hst224.ch
        replace hE202 := hE202.ch hst224.ch
        replace hO := hst224.own
        replace h_t := h_t.ch hst224.ch
        replace hi189 := hi189.ch hst224.ch
        replace hi211 := hi211.ch hst224.ch
        replace hB := hB.trans hst224.fr
        refine GoR.nil ?_
        refine Go1.fin0V Try.func91 rfl ?_
        refine hR193 _ _ ?_
        refine GoQ.nil ?_
        refine Go1.inBlock ?_
        refine Go1.region ?_
        refine GoR.op ((op_add rfl rfl (wrap_i64 (natbd h177 hE68.bd))) _) rfl rfl ?_
        refine GoR.op ((op_move rfl) _) rfl rfl ?_
        refine GoR.nil ?_
        exact hX3 _ H _ _ ⟨n173 + 1, p216, c217, vs218, vs200, ⟨rfl, rfl, rfl, rfl, rfl, rfl, rfl, trivial⟩, hO, hE220, hE68, hE202, h_t, hB⟩
      ·replace H := ifn h177 H
       refine GoR.op ((fun w => opB (op_lss rfl rfl w) (decide_eq_false h177)) _) rfl rfl ?_
       refine GoR.nil ?_
       refine Go1.seq ?_
       refine Go1.condF rfl rfl ?_
       refine Go1.exit rfl ?_
       refine Go1.inBlock ?_
       refine Go1.region ?_
       refine GoR.op ((op_move rfl) _) rfl rfl ?_
       obtain ⟨h226, H⟩ := H
       refine GoR.op ((op_add rfl rfl (wrap_i64 h226)) _) rfl rfl ?_
       refine GoR.op ((op_assign rfl) _) rfl rfl ?_
       refine GoR.nil ?_
       exact hX2 _ H _ _ ⟨n173, p171, c172, vs169, vs175, ⟨rfl, rfl, rfl, rfl, trivial⟩, hO, hE170, hE68, hE176, h_t, hB⟩
    ·replace H := ifn h117 H
     refine GoR.op ((fun w => opB (op_lss rfl rfl w) (decide_eq_false h117)) _) rfl rfl ?_
     refine GoR.nil ?_
     refine Go1.condF rfl rfl ?_
     refine Go1.exit rfl ?_
     refine Go1.fin0V Try.func83 rfl ?_
     refine hR48 _ _ ?_
     refine GoR.nil ?_
     refine Go1.inBlock ?_
     refine Go1.region ?_
     refine GoR.op ((op_add rfl rfl (wrap_i64 (natbd h47 h_t.bd))) _) rfl rfl ?_
     refine GoR.op ((op_move rfl) _) rfl rfl ?_
     refine GoR.nil ?_
     exact hX1 _ H _ _ ⟨n113, p111, c112, vs109, n43 + 1, p64, c65, vs66, vs115, ⟨rfl, rfl, rfl, trivial⟩, hO, hE110, hE68, hE116, h_t, hB⟩
  ·replace H := ifn h47 H
   refine GoR.op ((fun w => opB (op_lss rfl rfl w) (decide_eq_false h47)) _) rfl rfl ?_
   refine GoR.nil ?_
   refine Go1.seq ?_
   refine Go1.condF rfl rfl ?_
   refine Go1.exit rfl ?_
   refine Go1.seq ?_
   refine Go1.region ?_
   refine GoR.op ((op_move rfl) _) rfl rfl ?_
   refine GoR.op ((op_nilCheck rfl) _) rfl rfl ?_
   refine GoR.op ((op_fieldAddr Try.underlying67 rfl ti23 rfl (by decide)) _) rfl rfl ?_
   refine GoR.op ((oblk 2 hO rfl rfl Try.underlying23 rfl rfl) _ (Same.refl _)) rfl rfl ?_
   refine GoR.op ((op_assign rfl) _) rfl rfl ?_
   refine GoR.nil ?_
   have hobt := freeze 1 hO rfl hE40
   obtain ⟨hO1, hc229, hi227, hn228⟩ := hobt
   replace h_t := h_t.ch hc229
   replace hE34 := hE34.ch hc229
   replace hE46 := hE46.ch hc229
   replace hB := hB.trans (Owns.dropFr _ _ 1)
   replace hO := hO1; clear hO1
   refine Go1.ret1 Try.func51 rfl ?_
   exact ⟨d_38, p41, c42, ((congrArg (fun nn => Value.slice p41 nn c42) hn228)), hB.same, (hi227.ch (Ch.weak _ _ _)), H⟩
theorem body84 : Body Try.prog 84 := ⟨Try.f84, Try.func84, rfl, by kernel_rfl⟩
theorem body90 : Body Try.prog 90 := ⟨Try.f90, Try.func90, rfl, by kernel_rfl⟩
theorem body89 : Body Try.prog 89 := ⟨Try.f89, Try.func89, rfl, by kernel_rfl⟩
theorem body76 : Body Try.prog 76 := ⟨Try.f76, Try.func76, rfl, by kernel_rfl⟩
theorem body52 : Body Try.prog 52 := ⟨Try.f52, Try.func52, rfl, by kernel_rfl⟩
theorem walk_mult_Indecomposable {A : List Nat} {w0 : World} {p_t : Option Addr} {c_t : Nat} {t : List (List Int)} (hA : ∀ b ∈ A, b < w0.heap.size) (h_t : ISl (Rp.sl (Rp.int .i64)) A w0 p_t c_t t) {K : List Int → Prop} (H : mult_Indecomposable t K) :
    CallsV Try.prog 52 #[.slice p_t t.length c_t] w0 (fun v w' => ∃ (r0 : List Int), ∃ (p_r0 : Option Addr), ∃ (c_r0 : Nat), v = .slice p_r0 r0.length c_r0 ∧ Same w0 w' ∧ ISl (Rp.int .i64) A w' p_r0 c_r0 r0 ∧ K r0) := by
 refine CallsV.of (l := [.slice p_t t.length c_t]) Try.func52 rfl Try.ntmps52 rfl ?_
 have hO := Owns.start hA
 have hB := Fr.refl (bl []) w0
 unfold mult_Indecomposable at H
 replace h_t := h_t.ch (Ch.start A w0)
 refine Go1.seq ?_
 refine Go1.region ?_
 refine GoR.op ((op_assign rfl) _) rfl rfl ?_
 refine GoR.nil ?_
 refine Go1.seq ?_
 refine Go1.seq ?_
 refine Go1.region ?_
 refine GoR.op ((op_move rfl) _) rfl rfl ?_
 refine GoR.call (op_call body71 rfl (walk_mult_valid hO.lt h_t H)) rfl rfl ?_
 rintro v5 w2 ⟨r1, rfl, hs3, H⟩
 have hst6 := Stp.same hO hs3
 replace hO := hst6.own
 replace h_t := h_t.ch hst6.ch
 replace hB := hB.trans hst6.fr
 cases r1
 ·replace H := ifn Bool.false_ne_true H
  refine GoR.op ((op_not rfl) _) rfl rfl ?_
  refine GoR.nil ?_
  refine Go1.condT rfl rfl ?_
  refine Go1.seq ?_
  refine Go1.region ?_
  refine GoR.op ((op_assign rfl) _) rfl rfl ?_
  refine GoR.nil ?_
  refine Go1.ret1 Try.func52 rfl ?_
  exact ⟨([] : List Int), none, 0, rfl, hB.same, (ISl.null _ _ _), H⟩
 ·replace H := ifp rfl H
  refine GoR.op ((op_not rfl) _) rfl rfl ?_
  refine GoR.nil ?_
  refine Go1.condF rfl rfl ?_
  refine Go1.skip ?_
  refine Go1.seq ?_
  refine Go1.region ?_
  refine GoR.op ((op_move rfl) _) rfl rfl ?_
  refine GoR.op ((op_len Try.underlying22 rfl) _) rfl rfl ?_
  replace H := H h_t.bd
  obtain ⟨h14, H⟩ := H
  obtain ⟨h15, H⟩ := H
  have hobt := omake (n := (t.length : Int)) (r := Rp.bool) (d := false) Try.underlying54 ti4 (fun _ _ => rfl) rfl hO h14 h15 (by decide)
  obtain ⟨w7, p8, vs9, hst10, hE11, hs12, hop13⟩ := hobt
  refine GoR.op (hop13 rfl rfl) rfl rfl ?_
  replace hO := hst10.own
  replace h_t := h_t.ch hst10.ch
  replace hB := hB.trans hst10.fr
  have hobt := oalloc (t := 54) (cs := #[.slice none 0 0]) ti54 hO rfl
  obtain ⟨w17, B18, hst19, hs20, hop21⟩ := hobt
  refine GoR.op hop21 rfl rfl ?_
  replace hE11 := hE11.ch hst19.ch
  replace hO := hst19.own
  replace h_t := h_t.ch hst19.ch
  replace hB := hB.trans hst19.fr
  have hobt := oblkSt (v := .slice p8 t.length t.length) (i := 0) 0 hO rfl rfl rfl
  obtain ⟨w23, hst24, hop25⟩ := hobt
  refine GoR.op (hop25 Try.underlying54 rfl ti54 rfl rfl) rfl rfl ?_
  replace hE11 := hE11.ch hst24.ch
  replace hO := hst24.own
  replace h_t := h_t.ch hst24.ch
  replace hB := hB.trans hst24.fr
  refine GoR.nil ?_
  refine Go1.seq ?_
  refine Go1.seq ?_
  refine Go1.region ?_
  refine GoR.op ((op_move rfl) _) rfl rfl ?_
  refine GoR.op ((op_len Try.underlying22 rfl) _) rfl rfl ?_
  refine GoR.op ((op_move rfl) _) rfl rfl ?_
  refine GoR.nil ?_
  refine Go1.block ?_
  refine Go1.loopW (S := Nat × List Bool) (fun s σ w => ∃ (vs29 : List Value), agrees σ [(0, .slice p_t t.length c_t), (3, .pointer (some ⟨B18, 0, none⟩)), (14, .slice p_t t.length c_t), (15, .int .i64 (t.length : Int)), (16, .int .i64 ((s.1) : Int))] ∧ Owns w0.heap.size w [.blk B18 (.cells #[.slice p8 t.length t.length] 54 (0, 0)), .row 4 1 p8 t.length t.length vs29] A ∧ Els (Rp.bool) (bl [.blk B18 (.cells #[.slice p8 t.length t.length] 54 (0, 0)), .row 4 1 p8 t.length t.length vs29] ++ A) w vs29 (s.2) ∧ ISl (Rp.sl (Rp.int .i64)) (bl [.blk B18 (.cells #[.slice p8 t.length t.length] 54 (0, 0)), .row 4 1 p8 t.length t.length vs29] ++ A) w p_t c_t t ∧ Fr (bl []) w0 (bl [.blk B18 (.cells #[.slice p8 t.length t.length] 54 (0, 0)), .row 4 1 p8 t.length t.length vs29]) w) H ⟨vs9, ⟨rfl, rfl, rfl, rfl, rfl, trivial⟩, hO, hE11, h_t, hB⟩ ?_
  rintro X1 ⟨k1_27, d_28⟩ H hX1 σ w26 ⟨vs29, hag, hO, hE30, h_t, hB⟩
  dsimp only at H
  refine Go1.keep [(0, .slice p_t t.length c_t), (3, .pointer (some ⟨B18, 0, none⟩)), (14, .slice p_t t.length c_t), (15, .int .i64 (t.length : Int)), (16, .int .i64 (k1_27 : Int))] hag ?_
  refine Go1.seq ?_
  refine Go1.region ?_
  by_cases h31 : (k1_27 : Int) < (t.length : Int)
  ·replace H := ifp h31 H
   refine GoR.op ((fun w => opB (op_lss rfl rfl w) (decide_eq_true h31)) _) rfl rfl ?_
   refine GoR.nil ?_
   refine Go1.seq ?_
   refine Go1.condT rfl rfl ?_
   refine Go1.skip ?_
   refine Go1.seq ?_
   refine Go1.block ?_
   refine Go1.seq ?_
   refine Go1.region ?_
   obtain ⟨h32, H⟩ := H
   obtain ⟨h33, H⟩ := H
   refine GoR.op ((op_index Try.underlying22 ti23 rfl rfl h32 h33 (h_t.some_ h32 h33)) _) rfl rfl ?_
   have hobt := ldSl h_t h32 h33
   obtain ⟨p34, c35, hi36, hl37⟩ := hobt
   refine GoR.op ((hl37 Try.underlying23 rfl rfl) _ (Same.refl _)) rfl rfl ?_
   refine GoR.op ((op_assign rfl) _) rfl rfl ?_
   refine GoR.nil ?_
   refine Go1.seq ?_
   refine Go1.region ?_
   refine GoR.op ((op_move rfl) _) rfl rfl ?_
   refine GoR.op ((op_len Try.underlying23 rfl) _) rfl rfl ?_
   replace H := H hi36.bd
   refine GoR.op ((op_move rfl) _) rfl rfl ?_
   refine GoR.nil ?_
   refine Go1.block ?_
   refine Go1.loopW (S := Nat × List Bool) (fun s σ w => ∃ (vs41 : List Value), agrees σ [(0, .slice p_t t.length c_t), (3, .pointer (some ⟨B18, 0, none⟩)), (14, .slice p_t t.length c_t), (15, .int .i64 (t.length : Int)), (16, .int .i64 (k1_27 : Int)), (20, .slice p34 ((ix t (k1_27 : Int)).length) c35), (21, .int .i64 ((ix t (k1_27 : Int)).length : Int)), (22, .int .i64 ((s.1) : Int))] ∧ Owns w0.heap.size w [.blk B18 (.cells #[.slice p8 t.length t.length] 54 (0, 0)), .row 4 1 p8 t.length t.length vs41] A ∧ Els (Rp.bool) (bl [.blk B18 (.cells #[.slice p8 t.length t.length] 54 (0, 0)), .row 4 1 p8 t.length t.length vs41] ++ A) w vs41 (s.2) ∧ ISl (Rp.sl (Rp.int .i64)) (bl [.blk B18 (.cells #[.slice p8 t.length t.length] 54 (0, 0)), .row 4 1 p8 t.length t.length vs41] ++ A) w p_t c_t t ∧ ISl (Rp.int .i64) (bl [.blk B18 (.cells #[.slice p8 t.length t.length] 54 (0, 0)), .row 4 1 p8 t.length t.length vs41] ++ A) w p34 c35 (ix t (k1_27 : Int)) ∧ Fr (bl []) w0 (bl [.blk B18 (.cells #[.slice p8 t.length t.length] 54 (0, 0)), .row 4 1 p8 t.length t.length vs41]) w) H ⟨vs29, ⟨rfl, rfl, rfl, rfl, rfl, rfl, rfl, rfl, trivial⟩, hO, hE30, h_t, hi36, hB⟩ ?_
   rintro X2 ⟨k2_39, d_40⟩ H hX2 σ w38 ⟨vs41, hag, hO, hE42, h_t, hi36, hB⟩
   dsimp only at H
   refine Go1.keep [(0, .slice p_t t.length c_t), (3, .pointer (some ⟨B18, 0, none⟩)), (14, .slice p_t t.length c_t), (15, .int .i64 (t.length : Int)), (16, .int .i64 (k1_27 : Int)), (20, .slice p34 ((ix t (k1_27 : Int)).length) c35), (21, .int .i64 ((ix t (k1_27 : Int)).length : Int)), (22, .int .i64 (k2_39 : Int))] hag ?_
   refine Go1.seq ?_
   refine Go1.region ?_
   by_cases h43 : (k2_39 : Int) < ((ix t (k1_27 : Int)).length : Int)
   ·replace H := ifp h43 H
    refine GoR.op ((fun w => opB (op_lss rfl rfl w) (decide_eq_true h43)) _) rfl rfl ?_
    refine GoR.nil ?_
    refine Go1.seq ?_
    refine Go1.condT rfl rfl ?_
    refine Go1.skip ?_
    refine Go1.seq ?_
    refine Go1.block ?_
    refine Go1.seq ?_
    refine Go1.region ?_
    obtain ⟨h44, H⟩ := H
    obtain ⟨h45, H⟩ := H
    refine GoR.op ((op_index Try.underlying23 ti3 rfl rfl h44 h45 (hi36.some_ h44 h45)) _) rfl rfl ?_
    refine GoR.op ((ldInt hi36 h44 h45 Try.underlying3 rfl rfl) _ (Same.refl _)) rfl rfl ?_
    refine GoR.op ((op_assign rfl) _) rfl rfl ?_
    refine GoR.nil ?_
    refine Go1.region ?_
    refine GoR.op ((oblk 0 hO rfl rfl Try.underlying54 rfl rfl) _ (Same.refl _)) rfl rfl ?_
    refine GoR.op ((op_move rfl) _) rfl rfl ?_
    obtain ⟨h46, H⟩ := H
    obtain ⟨h47, H⟩ := H
    refine GoR.op ((op_index Try.underlying54 ti4 rfl rfl h46 (ltn (hE42.neq hO 1 rfl) h47) (hE42.psome hO 1 rfl h46 h47)) _) rfl rfl ?_
    have hobt := ost (r := Rp.bool) rfl 1 hO rfl hE42 h46 h47 (v := .bool true) (u := true) rfl rfl
    obtain ⟨w48, vs49, hst50, hE51, hop52⟩ := hobt
    refine GoR.op (hop52 Try.underlying4 rfl ti4 rfl rfl) rfl rfl ?_
    replace hO := hst50.own
    replace h_t := h_t.ch hst50.ch
    replace hi36 := hi36.ch hst50.ch
    replace hB := hB.trans hst50.fr
    refine GoR.nil ?_
    refine Go1.inBlock ?_
    refine Go1.region ?_
    refine GoR.op ((op_add rfl rfl (wrap_i64 (natbd h43 hi36.bd))) _) rfl rfl ?_
    refine GoR.op ((op_move rfl) _) rfl rfl ?_
    refine GoR.nil ?_
    exact hX2 _ H _ _ ⟨vs49, ⟨rfl, rfl, rfl, rfl, rfl, rfl, rfl, rfl, trivial⟩, hO, hE51, h_t, hi36, hB⟩
   ·replace H := ifn h43 H
    refine GoR.op ((fun w => opB (op_lss rfl rfl w) (decide_eq_false h43)) _) rfl rfl ?_
    refine GoR.nil ?_
    refine Go1.seq ?_
    refine Go1.condF rfl rfl ?_
    refine Go1.exit rfl ?_
    refine Go1.inBlock ?_
    refine Go1.region ?_
    refine GoR.op ((op_add rfl rfl (wrap_i64 (natbd h31 h_t.bd))) _) rfl rfl ?_
    refine GoR.op ((op_move rfl) _) rfl rfl ?_
    refine GoR.nil ?_
    exact hX1 _ H _ _ ⟨vs41, ⟨rfl, rfl, rfl, rfl, rfl, trivial⟩, hO, hE42, h_t, hB⟩
  ·replace H := ifn h31 H
   refine GoR.op ((fun w => opB (op_lss rfl rfl w) (decide_eq_false h31)) _) rfl rfl ?_
   refine GoR.nil ?_
   refine Go1.seq ?_
   refine Go1.condF rfl rfl ?_
   refine Go1.exit rfl ?_
   refine Go1.seq ?_
   refine Go1.region ?_
   refine GoR.op ((op_move rfl) _) rfl rfl ?_
   refine GoR.op ((op_makeFunc (vs := [.pointer (some ⟨B18, 0, none⟩)]) rfl) _) rfl rfl ?_
   refine GoR.inl (vs := [.slice p_t t.length c_t, .func (.func 84) #[] #[.pointer (some ⟨B18, 0, none⟩)]]) (caps := []) rfl rfl body76 Try.func76 rfl Try.ntmps76 rfl rfl rfl ?_
   intro RhR53 hR53
   refine Go1.seq ?_
   refine Go1.region ?_
   have hobt := obox (t := 60) (v := .func (.func 84) #[] #[.pointer (some ⟨B18, 0, none⟩)]) (cs := #[.func (.func 84) #[] #[.pointer (some ⟨B18, 0, none⟩)]]) hO rfl
   obtain ⟨w54, B55, hst56, hs57, hop58⟩ := hobt
   refine GoR.op (hop58 rfl) rfl rfl ?_
   replace hE30 := hE30.ch hst56.ch
   replace hO := hst56.own
   replace h_t := h_t.ch hst56.ch
   replace hB := hB.trans hst56.fr
   refine GoR.op ((op_assign rfl) _) rfl rfl ?_
   refine GoR.nil ?_
   refine Go1.seq ?_
   refine Go1.seq ?_
   refine Go1.region ?_
   refine GoR.op ((op_move rfl) _) rfl rfl ?_
   refine GoR.call (op_call body71 rfl (walk_mult_valid hO.lt h_t H)) rfl rfl ?_
   rintro v64 w61 ⟨r60, rfl, hs62, H⟩
   have hst65 := Stp.same hO hs62
   replace hE30 := hE30.ch hst65.ch
   replace hO := hst65.own
   replace h_t := h_t.ch hst65.ch
   replace hB := hB.trans hst65.fr
   cases r60
   ·replace H := ifn Bool.false_ne_true H
    refine GoR.op ((op_not rfl) _) rfl rfl ?_
    refine GoR.nil ?_
    refine Go1.condT rfl rfl ?_
    refine Go1.seq ?_
    refine Go1.region ?_
    refine GoR.op ((op_assign rfl) _) rfl rfl ?_
    refine GoR.nil ?_
    refine Go1.ret1V Try.func76 rfl (show _ = .slice none 0 0 from rfl) ?_
    refine hR53 _ _ ?_
    refine GoR.op ((op_assign rfl) _) rfl rfl ?_
    refine GoR.nil ?_
    refine Go1.ret1 Try.func52 rfl ?_
    exact ⟨([] : List Int), none, 0, rfl, hB.same, (ISl.null _ _ _), H⟩
   ·replace H := ifp rfl H
    refine GoR.op ((op_not rfl) _) rfl rfl ?_
    refine GoR.nil ?_
    refine Go1.condF rfl rfl ?_
    refine Go1.skip ?_
    refine Go1.seq ?_
    refine Go1.region ?_
    refine GoR.op ((op_move rfl) _) rfl rfl ?_
    refine GoR.call (op_call body73 rfl (walk_mult_elements hO.lt h_t H)) rfl rfl ?_
    rintro v71 w68 ⟨r66, n_r66, p_r66, c_r66, vs_r66, rfl, hs69, hN70, hE67, H⟩
    have hst72 := Stp.more hO hs69 hN70
    replace hE30 := hE30.ch hst72.ch
    replace hO := hst72.own
    replace h_t := h_t.ch hst72.ch
    replace hB := hB.trans hst72.fr
    replace hE67 := hE67.ch (Ch.assoc _ _ _ _)
    refine GoR.op ((op_makeFunc (vs := [.pointer (some ⟨B55, 0, none⟩)]) rfl) _) rfl rfl ?_
    refine GoR.inl (vs := [.slice p_r66 n_r66 c_r66, .func (.func 90) #[] #[.pointer (some ⟨B55, 0, none⟩)]]) (caps := []) rfl rfl body89 Try.func89 rfl Try.ntmps89 rfl rfl rfl ?_
    intro RhR74 hR74
    refine Go1.seq ?_
    refine Go1.region ?_
    refine GoR.op ((op_assign rfl) _) rfl rfl ?_
    refine GoR.nil ?_
    refine Go1.seq ?_
    refine Go1.region ?_
    refine GoR.op ((op_move rfl) _) rfl rfl ?_
    refine GoR.op ((op_move rfl) _) rfl rfl ?_
    refine GoR.inl (vs := [.slice p_r66 n_r66 c_r66, .func (.func 90) #[] #[.pointer (some ⟨B55, 0, none⟩)]]) (caps := []) rfl rfl body72 Try.func72 rfl Try.ntmps72 rfl rfl rfl ?_
    intro RhR75 hR75
    refine Go1.seq ?_
    refine Go1.region ?_
    refine GoR.op ((op_assign rfl) _) rfl rfl ?_
    refine GoR.nil ?_
    refine Go1.seq ?_
    refine Go1.seq ?_
    refine Go1.region ?_
    refine GoR.op ((op_move rfl) _) rfl rfl ?_
    refine GoR.op ((op_lenN Try.underlying23 rfl (hE67.neq hO 0 rfl)) _) rfl rfl ?_
    refine GoR.op ((op_move rfl) _) rfl rfl ?_
    refine GoR.nil ?_
    refine Go1.block ?_
    refine Go1.loopW (S := Nat) (fun s σ w => agrees σ [(0, .slice p_r66 n_r66 c_r66), (1, .func (.func 90) #[] #[.pointer (some ⟨B55, 0, none⟩)]), (7, .int .i64 (r66.length : Int)), (8, .int .i64 (s : Int))] ∧ Owns w0.heap.size w [.row 3 1 p_r66 n_r66 c_r66 vs_r66, .blk B55 (.cells #[.func (.func 84) #[] #[.pointer (some ⟨B18, 0, none⟩)]] 60 (0, 0)), .blk B18 (.cells #[.slice p8 t.length t.length] 54 (0, 0)), .row 4 1 p8 t.length t.length vs29] A ∧ Els (Rp.int .i64) (bl [.row 3 1 p_r66 n_r66 c_r66 vs_r66, .blk B55 (.cells #[.func (.func 84) #[] #[.pointer (some ⟨B18, 0, none⟩)]] 60 (0, 0)), .blk B18 (.cells #[.slice p8 t.length t.length] 54 (0, 0)), .row 4 1 p8 t.length t.length vs29] ++ A) w vs_r66 r66 ∧ Els (Rp.bool) (bl [.row 3 1 p_r66 n_r66 c_r66 vs_r66, .blk B55 (.cells #[.func (.func 84) #[] #[.pointer (some ⟨B18, 0, none⟩)]] 60 (0, 0)), .blk B18 (.cells #[.slice p8 t.length t.length] 54 (0, 0)), .row 4 1 p8 t.length t.length vs29] ++ A) w vs29 d_28 ∧ Fr (bl []) w0 (bl [.row 3 1 p_r66 n_r66 c_r66 vs_r66, .blk B55 (.cells #[.func (.func 84) #[] #[.pointer (some ⟨B18, 0, none⟩)]] 60 (0, 0)), .blk B18 (.cells #[.slice p8 t.length t.length] 54 (0, 0)), .row 4 1 p8 t.length t.length vs29]) w) H ⟨⟨rfl, rfl, rfl, rfl, trivial⟩, hO, hE67, hE30, hB⟩ ?_
    rintro X3 k3_77 H hX3 σ w76 ⟨hag, hO, hE67, hE30, hB⟩
    refine Go1.keep [(0, .slice p_r66 n_r66 c_r66), (1, .func (.func 90) #[] #[.pointer (some ⟨B55, 0, none⟩)]), (7, .int .i64 (r66.length : Int)), (8, .int .i64 (k3_77 : Int))] hag ?_
    refine Go1.seq ?_
    refine Go1.region ?_
    by_cases h78 : (k3_77 : Int) < (r66.length : Int)
    ·replace H := ifp h78 H
     refine GoR.op ((fun w => opB (op_lss rfl rfl w) (decide_eq_true h78)) _) rfl rfl ?_
     refine GoR.nil ?_
     refine Go1.seq ?_
     refine Go1.condT rfl rfl ?_
     refine Go1.skip ?_
     refine Go1.seq ?_
     refine Go1.block ?_
     refine Go1.seq ?_
     refine Go1.region ?_
     refine GoR.op ((op_move rfl) _) rfl rfl ?_
     refine GoR.op ((op_assign rfl) _) rfl rfl ?_
     refine GoR.nil ?_
     refine Go1.seq ?_
     refine Go1.region ?_
     refine GoR.op ((op_move rfl) _) rfl rfl ?_
     refine GoR.op ((op_move rfl) _) rfl rfl ?_
     refine GoR.op ((op_move rfl) _) rfl rfl ?_
     obtain ⟨h79, H⟩ := H
     obtain ⟨h80, H⟩ := H
     refine GoR.op ((op_index Try.underlying23 ti3 rfl rfl h79 (ltn (hE67.neq hO 0 rfl) h80) (hE67.psome hO 0 rfl h79 h80)) _) rfl rfl ?_
     refine GoR.op ((oldInt 0 hO rfl hE67 h79 h80 Try.underlying3 rfl rfl) _ (Same.refl _)) rfl rfl ?_
     refine GoR.inl (vs := [.int .i64 (ix r66 (k3_77 : Int))]) (caps := [.pointer (some ⟨B55, 0, none⟩)]) rfl rfl body90 Try.func90 rfl Try.ntmps90 rfl rfl rfl ?_
     intro RhR81 hR81
     refine Go1.seq ?_
     refine Go1.region ?_
     refine GoR.op ((op_assign rfl) _) rfl rfl ?_
     refine GoR.nil ?_
     refine Go1.seq ?_
     refine Go1.region ?_
     refine GoR.op ((oblk 1 hO rfl rfl Try.underlying60 rfl rfl) _ (Same.refl _)) rfl rfl ?_
     refine GoR.op ((op_move rfl) _) rfl rfl ?_
     refine GoR.inl (vs := [.int .i64 (ix r66 (k3_77 : Int))]) (caps := [.pointer (some ⟨B18, 0, none⟩)]) rfl rfl body84 Try.func84 rfl Try.ntmps84 rfl rfl rfl ?_
     intro RhR82 hR82
     refine Go1.seq ?_
     refine Go1.region ?_
     refine GoR.op ((op_assign rfl) _) rfl rfl ?_
     refine GoR.nil ?_
     refine Go1.seq ?_
     refine Go1.region ?_
     refine GoR.op ((oblk 2 hO rfl rfl Try.underlying54 rfl rfl) _ (Same.refl _)) rfl rfl ?_
     refine GoR.op ((op_move rfl) _) rfl rfl ?_
     obtain ⟨h83, H⟩ := H
     obtain ⟨h84, H⟩ := H
     refine GoR.op ((op_index Try.underlying54 ti4 rfl rfl h83 (ltn (hE30.neq hO 3 rfl) h84) (hE30.psome hO 3 rfl h83 h84)) _) rfl rfl ?_
     by_cases h85 : ix d_28 (ix r66 (k3_77 : Int)) = true
     ·replace H := ifp h85 H
      refine GoR.op (opB ((oldBool 3 hO rfl hE30 h83 h84 Try.underlying4 rfl rfl) _ (Same.refl _)) (h85)) rfl rfl ?_
      refine GoR.op ((op_not rfl) _) rfl rfl ?_
      refine GoR.op ((op_assign rfl) _) rfl rfl ?_
      refine GoR.nil ?_
      refine Go1.ret1V Try.func84 rfl (show _ = .bool false from rfl) ?_
      refine hR82 _ _ ?_
      refine GoR.op ((op_not rfl) _) rfl rfl ?_
      refine GoR.op ((op_assign rfl) _) rfl rfl ?_
      refine GoR.nil ?_
      refine Go1.ret1V Try.func90 rfl (show _ = .bool true from rfl) ?_
      refine hR81 _ _ ?_
      refine GoR.nil ?_
      refine Go1.condT rfl rfl ?_
      refine Go1.seq ?_
      refine Go1.region ?_
      refine GoR.op ((op_move rfl) _) rfl rfl ?_
      refine GoR.op ((op_assign rfl) _) rfl rfl ?_
      refine GoR.nil ?_
      refine Go1.ret1V Try.func72 rfl (show _ = .int .i64 (k3_77 : Int) from rfl) ?_
      refine hR75 _ _ ?_
      refine GoR.op ((op_assign rfl) _) rfl rfl ?_
      refine GoR.nil ?_
      refine Go1.seq ?_
      refine Go1.seq ?_
      refine Go1.region ?_
      refine GoR.op ((op_move rfl) _) rfl rfl ?_
      by_cases h86 : (k3_77 : Int) = (-1 : Int)
      ·replace H := ifp h86 H
       refine GoR.op ((fun w => opB (op_eql rfl rfl w) (decide_eq_true h86)) _) rfl rfl ?_
       refine GoR.nil ?_
       refine Go1.condT rfl rfl ?_
       refine Go1.seq ?_
       refine Go1.region ?_
       refine GoR.op ((op_move rfl) _) rfl rfl ?_
       refine GoR.op ((op_assign rfl) _) rfl rfl ?_
       refine GoR.nil ?_
       refine Go1.ret1V Try.func89 rfl (show _ = .slice p_r66 n_r66 c_r66 from rfl) ?_
       refine hR74 _ _ ?_
       refine GoR.op ((op_assign rfl) _) rfl rfl ?_
       refine GoR.nil ?_
       refine Go1.ret1V Try.func76 rfl (show _ = .slice p_r66 n_r66 c_r66 from rfl) ?_
       refine hR53 _ _ ?_
       refine GoR.op ((op_assign rfl) _) rfl rfl ?_
       refine GoR.nil ?_
       have hobt := freeze 0 hO rfl hE67
       obtain ⟨hO1, hc89, hi87, hn88⟩ := hobt
       replace hE30 := hE30.ch hc89
       replace hB := hB.trans (Owns.dropFr _ _ 0)
       replace hO := hO1; clear hO1
       refine Go1.ret1 Try.func52 rfl ?_
       exact ⟨r66, p_r66, c_r66, ((congrArg (fun nn => Value.slice p_r66 nn c_r66) hn88)), hB.same, (hi87.ch (Ch.weak _ _ _)), H⟩
      ·replace H := ifn h86 H
       refine GoR.op ((fun w => opB (op_eql rfl rfl w) (decide_eq_false h86)) _) rfl rfl ?_
       refine GoR.nil ?_
       refine Go1.condF rfl rfl ?_
       refine Go1.skip ?_
       refine Go1.seq ?_
       refine Go1.seq ?_
       refine Go1.region ?_
       refine GoR.op ((op_move rfl) _) rfl rfl ?_
       refine GoR.op ((op_add rfl rfl (wrap_i64 (natbd h78 hE67.bd))) _) rfl rfl ?_
       refine GoR.op ((op_assign rfl) _) rfl rfl ?_
       refine GoR.nil ?_
       refine Go1.block ?_
       refine Go1.loopW (S := Nat × Nat × List Int) (fun s σ w => ∃ (vs94 : List Value), agrees σ [(0, .slice p_r66 n_r66 c_r66), (1, .func (.func 90) #[] #[.pointer (some ⟨B55, 0, none⟩)]), (5, .int .i64 ((s.1) : Int)), (6, .int .i64 ((s.2.1) : Int))] ∧ Owns w0.heap.size w [.row 3 1 p_r66 n_r66 c_r66 vs94, .blk B55 (.cells #[.func (.func 84) #[] #[.pointer (some ⟨B18, 0, none⟩)]] 60 (0, 0)), .blk B18 (.cells #[.slice p8 t.length t.length] 54 (0, 0)), .row 4 1 p8 t.length t.length vs29] A ∧ Els (Rp.int .i64) (bl [.row 3 1 p_r66 n_r66 c_r66 vs94, .blk B55 (.cells #[.func (.func 84) #[] #[.pointer (some ⟨B18, 0, none⟩)]] 60 (0, 0)), .blk B18 (.cells #[.slice p8 t.length t.length] 54 (0, 0)), .row 4 1 p8 t.length t.length vs29] ++ A) w vs94 (s.2.2) ∧ Els (Rp.bool) (bl [.row 3 1 p_r66 n_r66 c_r66 vs94, .blk B55 (.cells #[.func (.func 84) #[] #[.pointer (some ⟨B18, 0, none⟩)]] 60 (0, 0)), .blk B18 (.cells #[.slice p8 t.length t.length] 54 (0, 0)), .row 4 1 p8 t.length t.length vs29] ++ A) w vs29 d_28 ∧ Fr (bl []) w0 (bl [.row 3 1 p_r66 n_r66 c_r66 vs94, .blk B55 (.cells #[.func (.func 84) #[] #[.pointer (some ⟨B18, 0, none⟩)]] 60 (0, 0)), .blk B18 (.cells #[.slice p8 t.length t.length] 54 (0, 0)), .row 4 1 p8 t.length t.length vs29]) w) H ⟨vs_r66, ⟨rfl, rfl, rfl, rfl, trivial⟩, hO, hE67, hE30, hB⟩ ?_
       rintro X4 ⟨i4_91, j4_92, s4_93⟩ H hX4 σ w90 ⟨vs94, hag, hO, hE95, hE30, hB⟩
       dsimp only at H
       refine Go1.keep [(0, .slice p_r66 n_r66 c_r66), (1, .func (.func 90) #[] #[.pointer (some ⟨B55, 0, none⟩)]), (5, .int .i64 (i4_91 : Int)), (6, .int .i64 (j4_92 : Int))] hag ?_
       refine Go1.seq ?_
       refine Go1.seq ?_
       refine Go1.region ?_
       refine GoR.op ((op_move rfl) _) rfl rfl ?_
       refine GoR.op ((op_move rfl) _) rfl rfl ?_
       refine GoR.op ((op_lenN Try.underlying23 rfl (hE95.neq hO 0 rfl)) _) rfl rfl ?_
       by_cases h96 : (j4_92 : Int) < (s4_93.length : Int)
       ·replace H := ifp h96 H
        refine GoR.op ((fun w => opB (op_lss rfl rfl w) (decide_eq_true h96)) _) rfl rfl ?_
        refine GoR.nil ?_
        refine Go1.condT rfl rfl ?_
        refine Go1.skip ?_
        refine Go1.seq ?_
        refine Go1.block ?_
        refine Go1.seq ?_
        refine Go1.region ?_
        refine GoR.op ((op_move rfl) _) rfl rfl ?_
        refine GoR.op ((op_move rfl) _) rfl rfl ?_
        obtain ⟨h97, H⟩ := H
        obtain ⟨h98, H⟩ := H
        refine GoR.op ((op_index Try.underlying23 ti3 rfl rfl h97 (ltn (hE95.neq hO 0 rfl) h98) (hE95.psome hO 0 rfl h97 h98)) _) rfl rfl ?_
        refine GoR.op ((oldInt 0 hO rfl hE95 h97 h98 Try.underlying3 rfl rfl) _ (Same.refl _)) rfl rfl ?_
        refine GoR.op ((op_assign rfl) _) rfl rfl ?_
        refine GoR.nil ?_
        refine Go1.seq ?_
        refine Go1.region ?_
        refine GoR.op ((op_move rfl) _) rfl rfl ?_
        refine GoR.op ((op_move rfl) _) rfl rfl ?_
        refine GoR.inl (vs := [.int .i64 (ix s4_93 (j4_92 : Int))]) (caps := [.pointer (some ⟨B55, 0, none⟩)]) rfl rfl body90 Try.func90 rfl Try.ntmps90 rfl rfl rfl ?_
        intro RhR99 hR99
        refine Go1.seq ?_
        refine Go1.region ?_
        refine GoR.op ((op_assign rfl) _) rfl rfl ?_
        refine GoR.nil ?_
        refine Go1.seq ?_
        refine Go1.region ?_
        refine GoR.op ((oblk 1 hO rfl rfl Try.underlying60 rfl rfl) _ (Same.refl _)) rfl rfl ?_
        refine GoR.op ((op_move rfl) _) rfl rfl ?_
        refine GoR.inl (vs := [.int .i64 (ix s4_93 (j4_92 : Int))]) (caps := [.pointer (some ⟨B18, 0, none⟩)]) rfl rfl body84 Try.func84 rfl Try.ntmps84 rfl rfl rfl ?_
        intro RhR100 hR100
        refine Go1.seq ?_
        refine Go1.region ?_
        refine GoR.op ((op_assign rfl) _) rfl rfl ?_
        refine GoR.nil ?_
        refine Go1.seq ?_
        refine Go1.region ?_
        refine GoR.op ((oblk 2 hO rfl rfl Try.underlying54 rfl rfl) _ (Same.refl _)) rfl rfl ?_
        refine GoR.op ((op_move rfl) _) rfl rfl ?_
        obtain ⟨h101, H⟩ := H
        obtain ⟨h102, H⟩ := H
        refine GoR.op ((op_index Try.underlying54 ti4 rfl rfl h101 (ltn (hE30.neq hO 3 rfl) h102) (hE30.psome hO 3 rfl h101 h102)) _) rfl rfl ?_
        by_cases h103 : ix d_28 (ix s4_93 (j4_92 : Int)) = true
        ·replace H := ifp h103 H
         refine GoR.op (opB ((oldBool 3 hO rfl hE30 h101 h102 Try.underlying4 rfl rfl) _ (Same.refl _)) (h103)) rfl rfl ?_
         refine GoR.op ((op_not rfl) _) rfl rfl ?_
         refine GoR.op ((op_assign rfl) _) rfl rfl ?_
         refine GoR.nil ?_
         refine Go1.ret1V Try.func84 rfl (show _ = .bool false from rfl) ?_
         refine hR100 _ _ ?_
         refine GoR.op ((op_not rfl) _) rfl rfl ?_
         refine GoR.op ((op_assign rfl) _) rfl rfl ?_
         refine GoR.nil ?_
         refine Go1.ret1V Try.func90 rfl (show _ = .bool true from rfl) ?_
         refine hR99 _ _ ?_
         refine GoR.op ((op_not rfl) _) rfl rfl ?_
         refine GoR.nil ?_
         refine Go1.condF rfl rfl ?_
         refine Go1.skip ?_
         refine Go1.inBlock ?_
         refine Go1.region ?_
         refine GoR.op ((op_move rfl) _) rfl rfl ?_
         refine GoR.op ((op_add rfl rfl (wrap_i64 (natbd h96 hE95.bd))) _) rfl rfl ?_
         refine GoR.op ((op_assign rfl) _) rfl rfl ?_
         refine GoR.nil ?_
         exact hX4 _ H _ _ ⟨vs94, ⟨rfl, rfl, rfl, rfl, trivial⟩, hO, hE95, hE30, hB⟩
        ·replace H := ifn h103 H
         refine GoR.op (opB ((oldBool 3 hO rfl hE30 h101 h102 Try.underlying4 rfl rfl) _ (Same.refl _)) (Bool.eq_false_iff.2 h103)) rfl rfl ?_
         refine GoR.op ((op_not rfl) _) rfl rfl ?_
         refine GoR.op ((op_assign rfl) _) rfl rfl ?_
         refine GoR.nil ?_
         refine Go1.ret1V Try.func84 rfl (show _ = .bool true from rfl) ?_
         refine hR100 _ _ ?_
         refine GoR.op ((op_not rfl) _) rfl rfl ?_
         refine GoR.op ((op_assign rfl) _) rfl rfl ?_
         refine GoR.nil ?_
         refine Go1.ret1V Try.func90 rfl (show _ = .bool false from rfl) ?_
         refine hR99 _ _ ?_
         refine GoR.op ((op_not rfl) _) rfl rfl ?_
         refine GoR.nil ?_
         refine Go1.condT rfl rfl ?_
         refine Go1.seq ?_
         refine Go1.region ?_
         refine GoR.op ((op_move rfl) _) rfl rfl ?_
         refine GoR.op ((op_move rfl) _) rfl rfl ?_
         refine GoR.op ((op_move rfl) _) rfl rfl ?_
         obtain ⟨h104, H⟩ := H
         obtain ⟨h105, H⟩ := H
         refine GoR.op ((op_index Try.underlying23 ti3 rfl rfl h104 (ltn (hE95.neq hO 0 rfl) h105) (hE95.psome hO 0 rfl h104 h105)) _) rfl rfl ?_
         have hobt := ost (r := Rp.int .i64) rfl 0 hO rfl hE95 h104 h105 (v := .int .i64 (ix s4_93 (j4_92 : Int))) (u := (ix s4_93 (j4_92 : Int))) rfl rfl
         obtain ⟨w106, vs107, hst108, hE109, hop110⟩ := hobt
         refine GoR.op (hop110 Try.underlying3 rfl ti3 rfl rfl) rfl rfl ?_
         replace hE30 := hE30.ch hst108.ch
         replace hO := hst108.own
         replace hB := hB.trans hst108.fr
         refine GoR.nil ?_
         refine Go1.region ?_
         refine GoR.op ((op_move rfl) _) rfl rfl ?_
         obtain ⟨h111, H⟩ := H
         refine GoR.op ((op_add rfl rfl (wrap_i64 h111)) _) rfl rfl ?_
         refine GoR.op ((op_assign rfl) _) rfl rfl ?_
         refine GoR.nil ?_
         refine Go1.inBlock ?_
         refine Go1.region ?_
         refine GoR.op ((op_move rfl) _) rfl rfl ?_
         obtain ⟨h112, H⟩ := H
         refine GoR.op ((op_add rfl rfl (wrap_i64 h112)) _) rfl rfl ?_
         refine GoR.op ((op_assign rfl) _) rfl rfl ?_
         refine GoR.nil ?_
         exact hX4 _ H _ _ ⟨vs107, ⟨rfl, rfl, rfl, rfl, trivial⟩, hO, hE109, hE30, hB⟩
       ·replace H := ifn h96 H
        refine GoR.op ((fun w => opB (op_lss rfl rfl w) (decide_eq_false h96)) _) rfl rfl ?_
        refine GoR.nil ?_
        refine Go1.condF rfl rfl ?_
        refine Go1.exit rfl ?_
        refine Go1.seq ?_
        refine Go1.region ?_
        refine GoR.op ((op_move rfl) _) rfl rfl ?_
        refine GoR.op ((op_move rfl) _) rfl rfl ?_
        obtain ⟨h113, H⟩ := H
        obtain ⟨h114, H⟩ := H
        refine GoR.op ((op_sliceFrom Try.underlying23 ti3 rfl rfl h113 (lenle (hE95.neq hO 0 rfl) h114)) _) rfl rfl ?_
        have hobt := oclear (Fl.int .i64) rfl (d := (0 : Int)) Try.underlying23 ti3 rfl rfl (fun _ _ => rfl) 0 hO rfl hE95 h113 h114
        obtain ⟨w115, vs116, hst117, hE118, hop119⟩ := hobt
        refine GoR.op (hop119 rfl) rfl rfl ?_
        replace hE30 := hE30.ch hst117.ch
        replace hO := hst117.own
        replace hB := hB.trans hst117.fr
        refine GoR.nil ?_
        refine Go1.seq ?_
        refine Go1.region ?_
        refine GoR.op ((op_move rfl) _) rfl rfl ?_
        refine GoR.op ((op_move rfl) _) rfl rfl ?_
        obtain ⟨h120, H⟩ := H
        obtain ⟨h121, H⟩ := H
        have hal122 := AL.start 0 hO rfl hE118 ((i4_91 : Int)).toNat
        refine GoR.op ((op_sliceTo Try.underlying23 ti3 rfl rfl h120 (Els.lec 0 hO rfl hE118 h121)) _) rfl rfl ?_
        refine GoR.op ((op_assign rfl) _) rfl rfl ?_
        refine GoR.nil ?_
        refine Go1.ret1V Try.func89 rfl (show _ = .slice p_r66 (((i4_91 : Int)).toNat) c_r66 from rfl) ?_
        refine hR74 _ _ ?_
        refine GoR.op ((op_assign rfl) _) rfl rfl ?_
        refine GoR.nil ?_
        refine Go1.ret1V Try.func76 rfl (show _ = .slice p_r66 (((i4_91 : Int)).toNat) c_r66 from rfl) ?_
        refine hR53 _ _ ?_
        refine GoR.op ((op_assign rfl) _) rfl rfl ?_
        refine GoR.nil ?_
        have hobt := freezeHead 0 hO rfl hE118 ((i4_91 : Int)).toNat
        obtain ⟨hO1, hc124, hi123⟩ := hobt
        replace hE30 := hE30.ch hc124
        replace hB := hB.trans (Owns.dropFr _ _ 0)
        replace hO := hO1; clear hO1
        refine Go1.ret1 Try.func52 rfl ?_
        exact ⟨(s4_93.take (i4_91 : Int).toNat ++ List.replicate (s4_93.length - (i4_91 : Int).toNat) ((0 : Int))).take ((i4_91 : Int)).toNat, p_r66, c_r66, ((congrArg (fun nn => Value.slice p_r66 nn c_r66) (takeLen h120 h121))), hB.same, (hi123.ch (Ch.weak _ _ _)), H⟩
     ·replace H := ifn h85 H
      refine GoR.op (opB ((oldBool 3 hO rfl hE30 h83 h84 Try.underlying4 rfl rfl) _ (Same.refl _)) (Bool.eq_false_iff.2 h85)) rfl rfl ?_
      refine GoR.op ((op_not rfl) _) rfl rfl ?_
      refine GoR.op ((op_assign rfl) _) rfl rfl ?_
      refine GoR.nil ?_
      refine Go1.ret1V Try.func84 rfl (show _ = .bool true from rfl) ?_
      refine hR82 _ _ ?_
      refine GoR.op ((op_not rfl) _) rfl rfl ?_
      refine GoR.op ((op_assign rfl) _) rfl rfl ?_
      refine GoR.nil ?_
      refine Go1.ret1V Try.func90 rfl (show _ = .bool false from rfl) ?_
      refine hR81 _ _ ?_
      refine GoR.nil ?_
      refine Go1.condF rfl rfl ?_
      refine Go1.skip ?_
      refine Go1.inBlock ?_
      refine Go1.region ?_
      refine GoR.op ((op_add rfl rfl (wrap_i64 (natbd h78 hE67.bd))) _) rfl rfl ?_
      refine GoR.op ((op_move rfl) _) rfl rfl ?_
      refine GoR.nil ?_
      exact hX3 _ H _ _ ⟨⟨rfl, rfl, rfl, rfl, trivial⟩, hO, hE67, hE30, hB⟩
    ·replace H := ifn h78 H
     refine GoR.op ((fun w => opB (op_lss rfl rfl w) (decide_eq_false h78)) _) rfl rfl ?_
     refine GoR.nil ?_
     refine Go1.seq ?_
     refine Go1.condF rfl rfl ?_
     refine Go1.exit rfl ?_
     refine Go1.seq ?_
     refine Go1.region ?_
     refine GoR.op ((op_assign rfl) _) rfl rfl ?_
     refine GoR.nil ?_
     refine Go1.ret1V Try.func72 rfl (show _ = .int .i64 (-1 : Int) from rfl) ?_
     refine hR75 _ _ ?_
     refine GoR.op ((op_assign rfl) _) rfl rfl ?_
     refine GoR.nil ?_
     refine Go1.seq ?_
     refine Go1.seq ?_
     refine Go1.region ?_
     refine GoR.op ((op_move rfl) _) rfl rfl ?_
     by_cases h125 : (-1 : Int) = (-1 : Int)
     ·replace H := ifp h125 H
      refine GoR.op ((fun w => opB (op_eql rfl rfl w) (decide_eq_true h125)) _) rfl rfl ?_
      refine GoR.nil ?_
      refine Go1.condT rfl rfl ?_
      refine Go1.seq ?_
      refine Go1.region ?_
      refine GoR.op ((op_move rfl) _) rfl rfl ?_
      refine GoR.op ((op_assign rfl) _) rfl rfl ?_
      refine GoR.nil ?_
      refine Go1.ret1V Try.func89 rfl (show _ = .slice p_r66 n_r66 c_r66 from rfl) ?_
      refine hR74 _ _ ?_
      refine GoR.op ((op_assign rfl) _) rfl rfl ?_
      refine GoR.nil ?_
      refine Go1.ret1V Try.func76 rfl (show _ = .slice p_r66 n_r66 c_r66 from rfl) ?_
      refine hR53 _ _ ?_
      refine GoR.op ((op_assign rfl) _) rfl rfl ?_
      refine GoR.nil ?_
      have hobt := freeze 0 hO rfl hE67
      obtain ⟨hO1, hc128, hi126, hn127⟩ := hobt
      replace hE30 := hE30.ch hc128
      replace hB := hB.trans (Owns.dropFr _ _ 0)
      replace hO := hO1; clear hO1
      refine Go1.ret1 Try.func52 rfl ?_
      exact ⟨r66, p_r66, c_r66, ((congrArg (fun nn => Value.slice p_r66 nn c_r66) hn127)), hB.same, (hi126.ch (Ch.weak _ _ _)), H⟩
     ·replace H := ifn h125 H
      refine GoR.op ((fun w => opB (op_eql rfl rfl w) (decide_eq_false h125)) _) rfl rfl ?_
      refine GoR.nil ?_
      refine Go1.condF rfl rfl ?_
      refine Go1.skip ?_
      refine Go1.seq ?_
      refine Go1.seq ?_
      refine Go1.region ?_
      refine GoR.op ((op_move rfl) _) rfl rfl ?_
      obtain ⟨h129, H⟩ := H
      refine GoR.op ((op_add rfl rfl (wrap_i64 h129)) _) rfl rfl ?_
      refine GoR.op ((op_assign rfl) _) rfl rfl ?_
      refine GoR.nil ?_
      refine Go1.block ?_
      refine Go1.loopW (S := Int × Int × List Int) (fun s σ w => ∃ (vs134 : List Value), agrees σ [(0, .slice p_r66 n_r66 c_r66), (1, .func (.func 90) #[] #[.pointer (some ⟨B55, 0, none⟩)]), (5, .int .i64 (s.1)), (6, .int .i64 (s.2.1))] ∧ Owns w0.heap.size w [.row 3 1 p_r66 n_r66 c_r66 vs134, .blk B55 (.cells #[.func (.func 84) #[] #[.pointer (some ⟨B18, 0, none⟩)]] 60 (0, 0)), .blk B18 (.cells #[.slice p8 t.length t.length] 54 (0, 0)), .row 4 1 p8 t.length t.length vs29] A ∧ Els (Rp.int .i64) (bl [.row 3 1 p_r66 n_r66 c_r66 vs134, .blk B55 (.cells #[.func (.func 84) #[] #[.pointer (some ⟨B18, 0, none⟩)]] 60 (0, 0)), .blk B18 (.cells #[.slice p8 t.length t.length] 54 (0, 0)), .row 4 1 p8 t.length t.length vs29] ++ A) w vs134 (s.2.2) ∧ Els (Rp.bool) (bl [.row 3 1 p_r66 n_r66 c_r66 vs134, .blk B55 (.cells #[.func (.func 84) #[] #[.pointer (some ⟨B18, 0, none⟩)]] 60 (0, 0)), .blk B18 (.cells #[.slice p8 t.length t.length] 54 (0, 0)), .row 4 1 p8 t.length t.length vs29] ++ A) w vs29 d_28 ∧ Fr (bl []) w0 (bl [.row 3 1 p_r66 n_r66 c_r66 vs134, .blk B55 (.cells #[.func (.func 84) #[] #[.pointer (some ⟨B18, 0, none⟩)]] 60 (0, 0)), .blk B18 (.cells #[.slice p8 t.length t.length] 54 (0, 0)), .row 4 1 p8 t.length t.length vs29]) w) H ⟨vs_r66, ⟨rfl, rfl, rfl, rfl, trivial⟩, hO, hE67, hE30, hB⟩ ?_
      rintro X5 ⟨i5_131, j5_132, s5_133⟩ H hX5 σ w130 ⟨vs134, hag, hO, hE135, hE30, hB⟩
      dsimp only at H
      refine Go1.keep [(0, .slice p_r66 n_r66 c_r66), (1, .func (.func 90) #[] #[.pointer (some ⟨B55, 0, none⟩)]), (5, .int .i64 i5_131), (6, .int .i64 j5_132)] hag ?_
      refine Go1.seq ?_
      refine Go1.seq ?_
      refine Go1.region ?_
      refine GoR.op ((op_move rfl) _) rfl rfl ?_
      refine GoR.op ((op_move rfl) _) rfl rfl ?_
      refine GoR.op ((op_lenN Try.underlying23 rfl (hE135.neq hO 0 rfl)) _) rfl rfl ?_
      by_cases h136 : j5_132 < (s5_133.length : Int)
      ·replace H := ifp h136 H
       refine GoR.op ((fun w => opB (op_lss rfl rfl w) (decide_eq_true h136)) _) rfl rfl ?_
       refine GoR.nil ?_
       refine Go1.condT rfl rfl ?_
       refine Go1.skip ?_
       refine Go1.seq ?_
       refine Go1.block ?_
       refine Go1.seq ?_
       refine Go1.region ?_
       refine GoR.op ((op_move rfl) _) rfl rfl ?_
       refine GoR.op ((op_move rfl) _) rfl rfl ?_
       obtain ⟨h137, H⟩ := H
       obtain ⟨h138, H⟩ := H
       refine GoR.op ((op_index Try.underlying23 ti3 rfl rfl h137 (ltn (hE135.neq hO 0 rfl) h138) (hE135.psome hO 0 rfl h137 h138)) _) rfl rfl ?_
       refine GoR.op ((oldInt 0 hO rfl hE135 h137 h138 Try.underlying3 rfl rfl) _ (Same.refl _)) rfl rfl ?_
       refine GoR.op ((op_assign rfl) _) rfl rfl ?_
       refine GoR.nil ?_
       refine Go1.seq ?_
       refine Go1.region ?_
       refine GoR.op ((op_move rfl) _) rfl rfl ?_
       refine GoR.op ((op_move rfl) _) rfl rfl ?_
       refine GoR.inl (vs := [.int .i64 (ix s5_133 j5_132)]) (caps := [.pointer (some ⟨B55, 0, none⟩)]) rfl rfl body90 Try.func90 rfl Try.ntmps90 rfl rfl rfl ?_
       intro RhR139 hR139
       refine Go1.seq ?_
       refine Go1.region ?_
       refine GoR.op ((op_assign rfl) _) rfl rfl ?_
       refine GoR.nil ?_
       refine Go1.seq ?_
       refine Go1.region ?_
       refine GoR.op ((oblk 1 hO rfl rfl Try.underlying60 rfl rfl) _ (Same.refl _)) rfl rfl ?_
       refine GoR.op ((op_move rfl) _) rfl rfl ?_
       refine GoR.inl (vs := [.int .i64 (ix s5_133 j5_132)]) (caps := [.pointer (some ⟨B18, 0, none⟩)]) rfl rfl body84 Try.func84 rfl Try.ntmps84 rfl rfl rfl ?_
       intro RhR140 hR140
       refine Go1.seq ?_
       refine Go1.region ?_
       refine GoR.op ((op_assign rfl) _) rfl rfl ?_
       refine GoR.nil ?_
       refine Go1.seq ?_
       refine Go1.region ?_
       refine GoR.op ((oblk 2 hO rfl rfl Try.underlying54 rfl rfl) _ (Same.refl _)) rfl rfl ?_
       refine GoR.op ((op_move rfl) _) rfl rfl ?_
       obtain ⟨h141, H⟩ := H
       obtain ⟨h142, H⟩ := H
       refine GoR.op ((op_index Try.underlying54 ti4 rfl rfl h141 (ltn (hE30.neq hO 3 rfl) h142) (hE30.psome hO 3 rfl h141 h142)) _) rfl rfl ?_
       by_cases h143 : ix d_28 (ix s5_133 j5_132) = true
       ·replace H := ifp h143 H
        refine GoR.op (opB ((oldBool 3 hO rfl hE30 h141 h142 Try.underlying4 rfl rfl) _ (Same.refl _)) (h143)) rfl rfl ?_
        refine GoR.op ((op_not rfl) _) rfl rfl ?_
        refine GoR.op ((op_assign rfl) _) rfl rfl ?_
        refine GoR.nil ?_
        refine Go1.ret1V Try.func84 rfl (show _ = .bool false from rfl) ?_
        refine hR140 _ _ ?_
        refine GoR.op ((op_not rfl) _) rfl rfl ?_
        refine GoR.op ((op_assign rfl) _) rfl rfl ?_
        refine GoR.nil ?_
        refine Go1.ret1V Try.func90 rfl (show _ = .bool true from rfl) ?_
        refine hR139 _ _ ?_
        refine GoR.op ((op_not rfl) _) rfl rfl ?_
        refine GoR.nil ?_
        refine Go1.condF rfl rfl ?_
        refine Go1.skip ?_
        refine Go1.inBlock ?_
        refine Go1.region ?_
        refine GoR.op ((op_move rfl) _) rfl rfl ?_
        obtain ⟨h144, H⟩ := H
        refine GoR.op ((op_add rfl rfl (wrap_i64 h144)) _) rfl rfl ?_
        refine GoR.op ((op_assign rfl) _) rfl rfl ?_
        refine GoR.nil ?_
        exact hX5 _ H _ _ ⟨vs134, ⟨rfl, rfl, rfl, rfl, trivial⟩, hO, hE135, hE30, hB⟩
       ·replace H := ifn h143 H
        refine GoR.op (opB ((oldBool 3 hO rfl hE30 h141 h142 Try.underlying4 rfl rfl) _ (Same.refl _)) (Bool.eq_false_iff.2 h143)) rfl rfl ?_
        refine GoR.op ((op_not rfl) _) rfl rfl ?_
        refine GoR.op ((op_assign rfl) _) rfl rfl ?_
        refine GoR.nil ?_
        refine Go1.ret1V Try.func84 rfl (show _ = .bool true from rfl) ?_
        refine hR140 _ _ ?_
        refine GoR.op ((op_not rfl) _) rfl rfl ?_
        refine GoR.op ((op_assign rfl) _) rfl rfl ?_
        refine GoR.nil ?_
        refine Go1.ret1V Try.func90 rfl (show _ = .bool false from rfl) ?_
        refine hR139 _ _ ?_
        refine GoR.op ((op_not rfl) _) rfl rfl ?_
        refine GoR.nil ?_
        refine Go1.condT rfl rfl ?_
        refine Go1.seq ?_
        refine Go1.region ?_
        refine GoR.op ((op_move rfl) _) rfl rfl ?_
        refine GoR.op ((op_move rfl) _) rfl rfl ?_
        refine GoR.op ((op_move rfl) _) rfl rfl ?_
        obtain ⟨h145, H⟩ := H
        obtain ⟨h146, H⟩ := H
        refine GoR.op ((op_index Try.underlying23 ti3 rfl rfl h145 (ltn (hE135.neq hO 0 rfl) h146) (hE135.psome hO 0 rfl h145 h146)) _) rfl rfl ?_
        have hobt := ost (r := Rp.int .i64) rfl 0 hO rfl hE135 h145 h146 (v := .int .i64 (ix s5_133 j5_132)) (u := (ix s5_133 j5_132)) rfl rfl
        obtain ⟨w147, vs148, hst149, hE150, hop151⟩ := hobt
        refine GoR.op (hop151 Try.underlying3 rfl ti3 rfl rfl) rfl rfl ?_
        replace hE30 := hE30.ch hst149.ch
        replace hO := hst149.own
        replace hB := hB.trans hst149.fr
        refine GoR.nil ?_
        refine Go1.region ?_
        refine GoR.op ((op_move rfl) _) rfl rfl ?_
        obtain ⟨h152, H⟩ := H
        refine GoR.op ((op_add rfl rfl (wrap_i64 h152)) _) rfl rfl ?_
        refine GoR.op ((op_assign rfl) _) rfl rfl ?_
        refine GoR.nil ?_
        refine Go1.inBlock ?_
        refine Go1.region ?_
        refine GoR.op ((op_move rfl) _) rfl rfl ?_
        obtain ⟨h153, H⟩ := H
        refine GoR.op ((op_add rfl rfl (wrap_i64 h153)) _) rfl rfl ?_
        refine GoR.op ((op_assign rfl) _) rfl rfl ?_
        refine GoR.nil ?_
        exact hX5 _ H _ _ ⟨vs148, ⟨rfl, rfl, rfl, rfl, trivial⟩, hO, hE150, hE30, hB⟩
      ·replace H := ifn h136 H
       refine GoR.op ((fun w => opB (op_lss rfl rfl w) (decide_eq_false h136)) _) rfl rfl ?_
       refine GoR.nil ?_
       refine Go1.condF rfl rfl ?_
       refine Go1.exit rfl ?_
       refine Go1.seq ?_
       refine Go1.region ?_
       refine GoR.op ((op_move rfl) _) rfl rfl ?_
       refine GoR.op ((op_move rfl) _) rfl rfl ?_
       obtain ⟨h154, H⟩ := H
       obtain ⟨h155, H⟩ := H
       refine GoR.op ((op_sliceFrom Try.underlying23 ti3 rfl rfl h154 (lenle (hE135.neq hO 0 rfl) h155)) _) rfl rfl ?_
       have hobt := oclear (Fl.int .i64) rfl (d := (0 : Int)) Try.underlying23 ti3 rfl rfl (fun _ _ => rfl) 0 hO rfl hE135 h154 h155
       obtain ⟨w156, vs157, hst158, hE159, hop160⟩ := hobt
       refine GoR.op (hop160 rfl) rfl rfl ?_
       replace hE30 := hE30.ch hst158.ch
       replace hO := hst158.own
       replace hB := hB.trans hst158.fr
       refine GoR.nil ?_
       refine Go1.seq ?_
       refine Go1.region ?_
       refine GoR.op ((op_move rfl) _) rfl rfl ?_
       refine GoR.op ((op_move rfl) _) rfl rfl ?_
       obtain ⟨h161, H⟩ := H
       obtain ⟨h162, H⟩ := H
       have hal163 := AL.start 0 hO rfl hE159 (i5_131).toNat
       refine GoR.op ((op_sliceTo Try.underlying23 ti3 rfl rfl h161 (Els.lec 0 hO rfl hE159 h162)) _) rfl rfl ?_
       refine GoR.op ((op_assign rfl) _) rfl rfl ?_
       refine GoR.nil ?_
       refine Go1.ret1V Try.func89 rfl (show _ = .slice p_r66 ((i5_131).toNat) c_r66 from rfl) ?_
       refine hR74 _ _ ?_
       refine GoR.op ((op_assign rfl) _) rfl rfl ?_
       refine GoR.nil ?_
       refine Go1.ret1V Try.func76 rfl (show _ = .slice p_r66 ((i5_131).toNat) c_r66 from rfl) ?_
       refine hR53 _ _ ?_
       refine GoR.op ((op_assign rfl) _) rfl rfl ?_
       refine GoR.nil ?_
       have hobt := freezeHead 0 hO rfl hE159 (i5_131).toNat
       obtain ⟨hO1, hc165, hi164⟩ := hobt
       replace hE30 := hE30.ch hc165
       replace hB := hB.trans (Owns.dropFr _ _ 0)
       replace hO := hO1; clear hO1
       refine Go1.ret1 Try.func52 rfl ?_
       exact ⟨(s5_133.take i5_131.toNat ++ List.replicate (s5_133.length - i5_131.toNat) ((0 : Int))).take (i5_131).toNat, p_r66, c_r66, ((congrArg (fun nn => Value.slice p_r66 nn c_r66) (takeLen h161 h162))), hB.same, (hi164.ch (Ch.weak _ _ _)), H⟩
theorem body15 : Body Try.prog 15 := ⟨Try.f15, Try.func15, rfl, by kernel_rfl⟩
theorem walk_law14_MultNeeds {A : List Nat} {w0 : World} {p_a0 : Option Addr} {c_a0 : Nat} {p_a1 : Option Addr} {c_a1 : Nat} {a0 : List (List Int)} {a1 : List Int} (hA : ∀ b ∈ A, b < w0.heap.size) (h_a0 : ISl (Rp.sl (Rp.int .i64)) A w0 p_a0 c_a0 a0) (h_a1 : ISl (Rp.int .i64) A w0 p_a1 c_a1 a1) {K : Bool → Prop} (H : law14_MultNeeds a0 a1 K) :
    CallsV Try.prog 15 #[.slice p_a0 a0.length c_a0, .slice p_a1 a1.length c_a1] w0 (fun v w' => ∃ (r0 : Bool), v = .bool r0 ∧ Same w0 w' ∧ K r0) := by
 refine CallsV.of (l := [.slice p_a0 a0.length c_a0, .slice p_a1 a1.length c_a1]) Try.func15 rfl Try.ntmps15 rfl ?_
 have hO := Owns.start hA
 have hB := Fr.refl (bl []) w0
 unfold law14_MultNeeds at H
 replace h_a0 := h_a0.ch (Ch.start A w0)
 replace h_a1 := h_a1.ch (Ch.start A w0)
 refine Go1.seq ?_
 refine Go1.region ?_
 refine GoR.op ((op_assign rfl) _) rfl rfl ?_
 refine GoR.nil ?_
 refine Go1.seq ?_
 refine Go1.seq ?_
 refine Go1.region ?_
 refine GoR.op ((op_move rfl) _) rfl rfl ?_
 refine GoR.call (op_call body30 rfl (walk_law14_small hO.lt h_a0 H)) rfl rfl ?_
 rintro v5 w2 ⟨r1, rfl, hs3, H⟩
 have hst6 := Stp.same hO hs3
 replace hO := hst6.own
 replace h_a0 := h_a0.ch hst6.ch
 replace h_a1 := h_a1.ch hst6.ch
 replace hB := hB.trans hst6.fr
 cases r1
 ·replace H := ifn Bool.false_ne_true H
  refine GoR.op ((op_not rfl) _) rfl rfl ?_
  refine GoR.op ((op_move rfl) _) rfl rfl ?_
  refine GoR.pass rfl rfl ?_
  refine GoR.pass rfl rfl ?_
  refine GoR.pass rfl rfl ?_
  refine GoR.pass rfl rfl ?_
  refine GoR.op ((op_pickT rfl rfl rfl) _) rfl rfl ?_
  refine GoR.nil ?_
  refine Go1.condT rfl rfl ?_
  refine Go1.seq ?_
  refine Go1.region ?_
  refine GoR.call (op_call body16 rfl (walk_law14_awake hO.lt H)) rfl rfl ?_
  rintro v11 w8 ⟨r7, rfl, hs9, H⟩
  have hst12 := Stp.same hO hs9
  replace hO := hst12.own
  replace h_a0 := h_a0.ch hst12.ch
  replace h_a1 := h_a1.ch hst12.ch
  replace hB := hB.trans hst12.fr
  refine GoR.op ((op_assign rfl) _) rfl rfl ?_
  refine GoR.nil ?_
  refine Go1.ret1 Try.func15 rfl ?_
  exact ⟨r7, rfl, hB.same, H⟩
 ·replace H := ifp rfl H
  refine GoR.op ((op_not rfl) _) rfl rfl ?_
  refine GoR.op ((op_move rfl) _) rfl rfl ?_
  refine GoR.op ((op_move rfl) _) rfl rfl ?_
  refine GoR.op ((op_move rfl) _) rfl rfl ?_
  refine GoR.call (op_call body20 rfl (walk_ref14_In hO.lt h_a0 h_a1 H)) rfl rfl ?_
  rintro v17 w14 ⟨r13, rfl, hs15, H⟩
  have hst18 := Stp.same hO hs15
  replace hO := hst18.own
  replace h_a0 := h_a0.ch hst18.ch
  replace h_a1 := h_a1.ch hst18.ch
  replace hB := hB.trans hst18.fr
  cases r13
  ·replace H := ifn Bool.false_ne_true H
   refine GoR.op ((op_not rfl) _) rfl rfl ?_
   refine GoR.op ((op_pickF rfl rfl rfl) _) rfl rfl ?_
   refine GoR.nil ?_
   refine Go1.condT rfl rfl ?_
   refine Go1.seq ?_
   refine Go1.region ?_
   refine GoR.call (op_call body16 rfl (walk_law14_awake hO.lt H)) rfl rfl ?_
   rintro v23 w20 ⟨r19, rfl, hs21, H⟩
   have hst24 := Stp.same hO hs21
   replace hO := hst24.own
   replace h_a0 := h_a0.ch hst24.ch
   replace h_a1 := h_a1.ch hst24.ch
   replace hB := hB.trans hst24.fr
   refine GoR.op ((op_assign rfl) _) rfl rfl ?_
   refine GoR.nil ?_
   refine Go1.ret1 Try.func15 rfl ?_
   exact ⟨r19, rfl, hB.same, H⟩
  ·replace H := ifp rfl H
   refine GoR.op ((op_not rfl) _) rfl rfl ?_
   refine GoR.op ((op_pickF rfl rfl rfl) _) rfl rfl ?_
   refine GoR.nil ?_
   refine Go1.condF rfl rfl ?_
   refine Go1.skip ?_
   refine Go1.seq ?_
   refine Go1.region ?_
   refine GoR.op ((op_move rfl) _) rfl rfl ?_
   refine GoR.call (op_call body51 rfl (walk_mult_Generators hO.lt h_a0 H)) rfl rfl ?_
   rintro v29 w26 ⟨r25, p_r25, c_r25, rfl, hs27, h_r25, H⟩
   have hst30 := Stp.same hO hs27
   replace hO := hst30.own
   replace h_a0 := h_a0.ch hst30.ch
   replace h_a1 := h_a1.ch hst30.ch
   replace hB := hB.trans hst30.fr
   refine GoR.op ((op_assign rfl) _) rfl rfl ?_
   refine GoR.nil ?_
   refine Go1.seq ?_
   refine Go1.seq ?_
   refine Go1.region ?_
   refine GoR.op ((op_move rfl) _) rfl rfl ?_
   refine GoR.op ((op_move rfl) _) rfl rfl ?_
   refine GoR.call (op_call body58 rfl (walk_mult_Generated hO.lt h_a0 h_r25 H)) rfl rfl ?_
   rintro v35 w32 ⟨r31, p_r31, c_r31, rfl, hs33, h_r31, H⟩
   have hst36 := Stp.same hO hs33
   replace hO := hst36.own
   replace h_a0 := h_a0.ch hst36.ch
   replace h_a1 := h_a1.ch hst36.ch
   replace h_r25 := h_r25.ch hst36.ch
   replace hB := hB.trans hst36.fr
   refine GoR.op ((op_len Try.underlying23 rfl) _) rfl rfl ?_
   replace H := H h_r31.bd
   refine GoR.op ((op_move rfl) _) rfl rfl ?_
   refine GoR.op ((op_len Try.underlying22 rfl) _) rfl rfl ?_
   replace H := H h_a0.bd
   by_cases h37 : (r31.length : Int) = (a0.length : Int)
   ·replace H := ifp h37 H
    refine GoR.op ((fun w => opB (op_neq rfl rfl w) (ndT h37)) _) rfl rfl ?_
    refine GoR.nil ?_
    refine Go1.condF rfl rfl ?_
    refine Go1.skip ?_
    refine Go1.seq ?_
    refine Go1.region ?_
    refine GoR.op ((op_move rfl) _) rfl rfl ?_
    refine GoR.op ((op_move rfl) _) rfl rfl ?_
    refine GoR.call (op_call body58 rfl (walk_mult_Generated hO.lt h_a0 h_a1 H)) rfl rfl ?_
    rintro v42 w39 ⟨r38, p_r38, c_r38, rfl, hs40, h_r38, H⟩
    have hst43 := Stp.same hO hs40
    replace hO := hst43.own
    replace h_a0 := h_a0.ch hst43.ch
    replace h_a1 := h_a1.ch hst43.ch
    replace h_r25 := h_r25.ch hst43.ch
    replace h_r31 := h_r31.ch hst43.ch
    replace hB := hB.trans hst43.fr
    refine GoR.op ((op_len Try.underlying23 rfl) _) rfl rfl ?_
    replace H := H h_r38.bd
    refine GoR.op ((op_move rfl) _) rfl rfl ?_
    refine GoR.op ((op_len Try.underlying22 rfl) _) rfl rfl ?_
    by_cases h44 : (r38.length : Int) = (a0.length : Int)
    ·replace H := ifp h44 H
     refine GoR.op ((fun w => opB (op_eql rfl rfl w) (decide_eq_true h44)) _) rfl rfl ?_
     refine GoR.op ((op_assign rfl) _) rfl rfl ?_
     refine GoR.nil ?_
     refine Go1.seq ?_
     refine Go1.region ?_
     refine GoR.op ((op_move rfl) _) rfl rfl ?_
     refine GoR.op ((op_move rfl) _) rfl rfl ?_
     refine GoR.op ((op_len Try.underlying22 rfl) _) rfl rfl ?_
     refine GoR.call (op_call body61 rfl (walk_ref03_Set hO.lt h_r25 H)) rfl rfl ?_
     rintro v50 w47 ⟨r45, n_r45, p_r45, c_r45, vs_r45, rfl, hs48, hN49, hE46, H⟩
     have hst51 := Stp.more hO hs48 hN49
     replace hO := hst51.own
     replace h_a0 := h_a0.ch hst51.ch
     replace h_a1 := h_a1.ch hst51.ch
     replace h_r25 := h_r25.ch hst51.ch
     replace h_r31 := h_r31.ch hst51.ch
     replace h_r38 := h_r38.ch hst51.ch
     replace hB := hB.trans hst51.fr
     replace hE46 := hE46.ch (Ch.assoc _ _ _ _)
     refine GoR.op ((op_move rfl) _) rfl rfl ?_
     refine GoR.op ((op_move rfl) _) rfl rfl ?_
     refine GoR.op ((op_len Try.underlying22 rfl) _) rfl rfl ?_
     refine GoR.call (op_call body61 rfl (walk_ref03_Set hO.lt h_a1 H)) rfl rfl ?_
     rintro v58 w55 ⟨r53, n_r53, p_r53, c_r53, vs_r53, rfl, hs56, hN57, hE54, H⟩
     have hst59 := Stp.more hO hs56 hN57
     replace hE46 := hE46.ch hst59.ch
     replace hO := hst59.own
     replace h_a0 := h_a0.ch hst59.ch
     replace h_a1 := h_a1.ch hst59.ch
     replace h_r25 := h_r25.ch hst59.ch
     replace h_r31 := h_r31.ch hst59.ch
     replace h_r38 := h_r38.ch hst59.ch
     replace hB := hB.trans hst59.fr
     replace hE54 := hE54.ch (Ch.assoc _ _ _ _)
     refine GoR.op ((op_assign rfl) _) rfl rfl ?_
     refine GoR.op ((op_assign rfl) _) rfl rfl ?_
     refine GoR.nil ?_
     refine Go1.seq ?_
     refine Go1.seq ?_
     refine Go1.region ?_
     refine GoR.op ((op_move rfl) _) rfl rfl ?_
     refine GoR.call (op_call body52 rfl (walk_mult_Indecomposable hO.lt h_a0 H)) rfl rfl ?_
     rintro v65 w62 ⟨r61, p_r61, c_r61, rfl, hs63, h_r61, H⟩
     have hst66 := Stp.same hO hs63
     replace hE54 := hE54.ch hst66.ch
     replace hE46 := hE46.ch hst66.ch
     replace hO := hst66.own
     replace h_a0 := h_a0.ch hst66.ch
     replace h_a1 := h_a1.ch hst66.ch
     replace h_r25 := h_r25.ch hst66.ch
     replace h_r31 := h_r31.ch hst66.ch
     replace h_r38 := h_r38.ch hst66.ch
     replace hB := hB.trans hst66.fr
     refine GoR.op ((op_len Try.underlying23 rfl) _) rfl rfl ?_
     replace H := H h_r61.bd
     refine GoR.op ((op_move rfl) _) rfl rfl ?_
     refine GoR.nil ?_
     refine Go1.block ?_
     refine Go1.loopW (S := Nat) (fun s σ w => agrees σ [(6, .bool true), (7, .slice p_r45 n_r45 c_r45), (8, .slice p_r53 n_r53 c_r53), (46, .slice p_r61 r61.length c_r61), (47, .int .i64 (r61.length : Int)), (48, .int .i64 (s : Int))] ∧ Owns w0.heap.size w [.row 4 1 p_r53 n_r53 c_r53 vs_r53, .row 4 1 p_r45 n_r45 c_r45 vs_r45] A ∧ Els (Rp.bool) (bl [.row 4 1 p_r53 n_r53 c_r53 vs_r53, .row 4 1 p_r45 n_r45 c_r45 vs_r45] ++ A) w vs_r53 r53 ∧ Els (Rp.bool) (bl [.row 4 1 p_r53 n_r53 c_r53 vs_r53, .row 4 1 p_r45 n_r45 c_r45 vs_r45] ++ A) w vs_r45 r45 ∧ ISl (Rp.int .i64) (bl [.row 4 1 p_r53 n_r53 c_r53 vs_r53, .row 4 1 p_r45 n_r45 c_r45 vs_r45] ++ A) w p_r61 c_r61 r61 ∧ Fr (bl []) w0 (bl [.row 4 1 p_r53 n_r53 c_r53 vs_r53, .row 4 1 p_r45 n_r45 c_r45 vs_r45]) w) H ⟨⟨rfl, rfl, rfl, rfl, rfl, rfl, trivial⟩, hO, hE54, hE46, h_r61, hB⟩ ?_
     rintro X1 k1_68 H hX1 σ w67 ⟨hag, hO, hE54, hE46, h_r61, hB⟩
     refine Go1.keep [(6, .bool true), (7, .slice p_r45 n_r45 c_r45), (8, .slice p_r53 n_r53 c_r53), (46, .slice p_r61 r61.length c_r61), (47, .int .i64 (r61.length : Int)), (48, .int .i64 (k1_68 : Int))] hag ?_
     refine Go1.seq ?_
     refine Go1.region ?_
     by_cases h69 : (k1_68 : Int) < (r61.length : Int)
     ·replace H := ifp h69 H
      refine GoR.op ((fun w => opB (op_lss rfl rfl w) (decide_eq_true h69)) _) rfl rfl ?_
      refine GoR.nil ?_
      refine Go1.seq ?_
      refine Go1.condT rfl rfl ?_
      refine Go1.skip ?_
      refine Go1.seq ?_
      refine Go1.block ?_
      refine Go1.seq ?_
      refine Go1.region ?_
      obtain ⟨h70, H⟩ := H
      obtain ⟨h71, H⟩ := H
      refine GoR.op ((op_index Try.underlying23 ti3 rfl rfl h70 h71 (h_r61.some_ h70 h71)) _) rfl rfl ?_
      refine GoR.op ((ldInt h_r61 h70 h71 Try.underlying3 rfl rfl) _ (Same.refl _)) rfl rfl ?_
      refine GoR.op ((op_assign rfl) _) rfl rfl ?_
      refine GoR.nil ?_
      refine Go1.seq ?_
      refine Go1.region ?_
      refine GoR.op ((op_move rfl) _) rfl rfl ?_
      refine GoR.op ((op_move rfl) _) rfl rfl ?_
      obtain ⟨h72, H⟩ := H
      obtain ⟨h73, H⟩ := H
      refine GoR.op ((op_index Try.underlying54 ti4 rfl rfl h72 (ltn (hE46.neq hO 1 rfl) h73) (hE46.psome hO 1 rfl h72 h73)) _) rfl rfl ?_
      by_cases h74 : ix r45 (ix r61 (k1_68 : Int)) = true
      ·replace H := ifp h74 H
       refine GoR.op (opB ((oldBool 1 hO rfl hE46 h72 h73 Try.underlying4 rfl rfl) _ (Same.refl _)) (h74)) rfl rfl ?_
       refine GoR.op ((op_not rfl) _) rfl rfl ?_
       refine GoR.op ((op_move rfl) _) rfl rfl ?_
       refine GoR.op ((op_move rfl) _) rfl rfl ?_
       refine GoR.op ((op_move rfl) _) rfl rfl ?_
       refine GoR.op ((op_move rfl) _) rfl rfl ?_
       refine GoR.op ((op_move rfl) _) rfl rfl ?_
       obtain ⟨h75, H⟩ := H
       obtain ⟨h76, H⟩ := H
       refine GoR.op ((op_index Try.underlying54 ti4 rfl rfl h75 (ltn (hE54.neq hO 0 rfl) h76) (hE54.psome hO 0 rfl h75 h76)) _) rfl rfl ?_
       by_cases h77 : ix r53 (ix r61 (k1_68 : Int)) = true
       ·replace H := ifp h77 H
        refine GoR.op (opB ((oldBool 0 hO rfl hE54 h75 h76 Try.underlying4 rfl rfl) _ (Same.refl _)) (h77)) rfl rfl ?_
        refine GoR.op ((op_not rfl) _) rfl rfl ?_
        refine GoR.op ((op_pickT rfl rfl rfl) _) rfl rfl ?_
        refine GoR.op ((op_pickF rfl rfl rfl) _) rfl rfl ?_
        refine GoR.nil ?_
        refine Go1.condF rfl rfl ?_
        refine Go1.skip ?_
        refine Go1.inBlock ?_
        refine Go1.region ?_
        refine GoR.op ((op_add rfl rfl (wrap_i64 (natbd h69 h_r61.bd))) _) rfl rfl ?_
        refine GoR.op ((op_move rfl) _) rfl rfl ?_
        refine GoR.nil ?_
        exact hX1 _ H _ _ ⟨⟨rfl, rfl, rfl, rfl, rfl, rfl, trivial⟩, hO, hE54, hE46, h_r61, hB⟩
       ·replace H := ifn h77 H
        refine GoR.op (opB ((oldBool 0 hO rfl hE54 h75 h76 Try.underlying4 rfl rfl) _ (Same.refl _)) (Bool.eq_false_iff.2 h77)) rfl rfl ?_
        refine GoR.op ((op_not rfl) _) rfl rfl ?_
        refine GoR.op ((op_pickT rfl rfl rfl) _) rfl rfl ?_
        refine GoR.op ((op_pickF rfl rfl rfl) _) rfl rfl ?_
        refine GoR.nil ?_
        refine Go1.condT rfl rfl ?_
        refine Go1.seq ?_
        refine Go1.region ?_
        refine GoR.op ((op_assign rfl) _) rfl rfl ?_
        refine GoR.nil ?_
        refine Go1.ret1 Try.func15 rfl ?_
        exact ⟨false, rfl, hB.same, H⟩
      ·replace H := ifn h74 H
       refine GoR.op (opB ((oldBool 1 hO rfl hE46 h72 h73 Try.underlying4 rfl rfl) _ (Same.refl _)) (Bool.eq_false_iff.2 h74)) rfl rfl ?_
       refine GoR.op ((op_not rfl) _) rfl rfl ?_
       refine GoR.op ((op_move rfl) _) rfl rfl ?_
       refine GoR.pass rfl rfl ?_
       refine GoR.pass rfl rfl ?_
       refine GoR.pass rfl rfl ?_
       refine GoR.pass rfl rfl ?_
       refine GoR.pass rfl rfl ?_
       refine GoR.pass rfl rfl ?_
       refine GoR.pass rfl rfl ?_
       refine GoR.pass rfl rfl ?_
       refine GoR.op ((op_pickT rfl rfl rfl) _) rfl rfl ?_
       refine GoR.nil ?_
       refine Go1.condT rfl rfl ?_
       refine Go1.seq ?_
       refine Go1.region ?_
       refine GoR.op ((op_assign rfl) _) rfl rfl ?_
       refine GoR.nil ?_
       refine Go1.ret1 Try.func15 rfl ?_
       exact ⟨false, rfl, hB.same, H⟩
     ·replace H := ifn h69 H
      refine GoR.op ((fun w => opB (op_lss rfl rfl w) (decide_eq_false h69)) _) rfl rfl ?_
      refine GoR.nil ?_
      refine Go1.seq ?_
      refine Go1.condF rfl rfl ?_
      refine Go1.exit rfl ?_
      refine Go1.seq ?_
      refine Go1.region ?_
      refine GoR.call (op_call body16 rfl (walk_law14_awake hO.lt H)) rfl rfl ?_
      rintro v82 w79 ⟨r78, rfl, hs80, H⟩
      have hst83 := Stp.same hO hs80
      replace hE54 := hE54.ch hst83.ch
      replace hE46 := hE46.ch hst83.ch
      replace hO := hst83.own
      replace h_r61 := h_r61.ch hst83.ch
      replace hB := hB.trans hst83.fr
      refine GoR.op ((op_assign rfl) _) rfl rfl ?_
      refine GoR.nil ?_
      refine Go1.ret1 Try.func15 rfl ?_
      exact ⟨r78, rfl, hB.same, H⟩
    ·replace H := ifn h44 H
     refine GoR.op ((fun w => opB (op_eql rfl rfl w) (decide_eq_false h44)) _) rfl rfl ?_
     refine GoR.op ((op_assign rfl) _) rfl rfl ?_
     refine GoR.nil ?_
     refine Go1.seq ?_
     refine Go1.region ?_
     refine GoR.op ((op_move rfl) _) rfl rfl ?_
     refine GoR.op ((op_move rfl) _) rfl rfl ?_
     refine GoR.op ((op_len Try.underlying22 rfl) _) rfl rfl ?_
     refine GoR.call (op_call body61 rfl (walk_ref03_Set hO.lt h_r25 H)) rfl rfl ?_
     rintro v89 w86 ⟨r84, n_r84, p_r84, c_r84, vs_r84, rfl, hs87, hN88, hE85, H⟩
     have hst90 := Stp.more hO hs87 hN88
     replace hO := hst90.own
     replace h_a0 := h_a0.ch hst90.ch
     replace h_a1 := h_a1.ch hst90.ch
     replace h_r25 := h_r25.ch hst90.ch
     replace h_r31 := h_r31.ch hst90.ch
     replace h_r38 := h_r38.ch hst90.ch
     replace hB := hB.trans hst90.fr
     replace hE85 := hE85.ch (Ch.assoc _ _ _ _)
     refine GoR.op ((op_move rfl) _) rfl rfl ?_
     refine GoR.op ((op_move rfl) _) rfl rfl ?_
     refine GoR.op ((op_len Try.underlying22 rfl) _) rfl rfl ?_
     refine GoR.call (op_call body61 rfl (walk_ref03_Set hO.lt h_a1 H)) rfl rfl ?_
     rintro v97 w94 ⟨r92, n_r92, p_r92, c_r92, vs_r92, rfl, hs95, hN96, hE93, H⟩
     have hst98 := Stp.more hO hs95 hN96
     replace hE85 := hE85.ch hst98.ch
     replace hO := hst98.own
     replace h_a0 := h_a0.ch hst98.ch
     replace h_a1 := h_a1.ch hst98.ch
     replace h_r25 := h_r25.ch hst98.ch
     replace h_r31 := h_r31.ch hst98.ch
     replace h_r38 := h_r38.ch hst98.ch
     replace hB := hB.trans hst98.fr
     replace hE93 := hE93.ch (Ch.assoc _ _ _ _)
     refine GoR.op ((op_assign rfl) _) rfl rfl ?_
     refine GoR.op ((op_assign rfl) _) rfl rfl ?_
     refine GoR.nil ?_
     refine Go1.seq ?_
     refine Go1.seq ?_
     refine Go1.region ?_
     refine GoR.op ((op_move rfl) _) rfl rfl ?_
     refine GoR.call (op_call body52 rfl (walk_mult_Indecomposable hO.lt h_a0 H)) rfl rfl ?_
     rintro v104 w101 ⟨r100, p_r100, c_r100, rfl, hs102, h_r100, H⟩
     have hst105 := Stp.same hO hs102
     replace hE93 := hE93.ch hst105.ch
     replace hE85 := hE85.ch hst105.ch
     replace hO := hst105.own
     replace h_a0 := h_a0.ch hst105.ch
     replace h_a1 := h_a1.ch hst105.ch
     replace h_r25 := h_r25.ch hst105.ch
     replace h_r31 := h_r31.ch hst105.ch
     replace h_r38 := h_r38.ch hst105.ch
     replace hB := hB.trans hst105.fr
     refine GoR.op ((op_len Try.underlying23 rfl) _) rfl rfl ?_
     replace H := H h_r100.bd
     refine GoR.op ((op_move rfl) _) rfl rfl ?_
     refine GoR.nil ?_
     refine Go1.block ?_
     refine Go1.loopW (S := Nat) (fun s σ w => agrees σ [(6, .bool false), (7, .slice p_r84 n_r84 c_r84), (8, .slice p_r92 n_r92 c_r92), (46, .slice p_r100 r100.length c_r100), (47, .int .i64 (r100.length : Int)), (48, .int .i64 (s : Int))] ∧ Owns w0.heap.size w [.row 4 1 p_r92 n_r92 c_r92 vs_r92, .row 4 1 p_r84 n_r84 c_r84 vs_r84] A ∧ Els (Rp.bool) (bl [.row 4 1 p_r92 n_r92 c_r92 vs_r92, .row 4 1 p_r84 n_r84 c_r84 vs_r84] ++ A) w vs_r92 r92 ∧ Els (Rp.bool) (bl [.row 4 1 p_r92 n_r92 c_r92 vs_r92, .row 4 1 p_r84 n_r84 c_r84 vs_r84] ++ A) w vs_r84 r84 ∧ ISl (Rp.int .i64) (bl [.row 4 1 p_r92 n_r92 c_r92 vs_r92, .row 4 1 p_r84 n_r84 c_r84 vs_r84] ++ A) w p_r100 c_r100 r100 ∧ Fr (bl []) w0 (bl [.row 4 1 p_r92 n_r92 c_r92 vs_r92, .row 4 1 p_r84 n_r84 c_r84 vs_r84]) w) H ⟨⟨rfl, rfl, rfl, rfl, rfl, rfl, trivial⟩, hO, hE93, hE85, h_r100, hB⟩ ?_
     rintro X2 k2_107 H hX2 σ w106 ⟨hag, hO, hE93, hE85, h_r100, hB⟩
     refine Go1.keep [(6, .bool false), (7, .slice p_r84 n_r84 c_r84), (8, .slice p_r92 n_r92 c_r92), (46, .slice p_r100 r100.length c_r100), (47, .int .i64 (r100.length : Int)), (48, .int .i64 (k2_107 : Int))] hag ?_
     refine Go1.seq ?_
     refine Go1.region ?_
     by_cases h108 : (k2_107 : Int) < (r100.length : Int)
     ·replace H := ifp h108 H
      refine GoR.op ((fun w => opB (op_lss rfl rfl w) (decide_eq_true h108)) _) rfl rfl ?_
      refine GoR.nil ?_
      refine Go1.seq ?_
      refine Go1.condT rfl rfl ?_
      refine Go1.skip ?_
      refine Go1.seq ?_
      refine Go1.block ?_
      refine Go1.seq ?_
      refine Go1.region ?_
      obtain ⟨h109, H⟩ := H
      obtain ⟨h110, H⟩ := H
      refine GoR.op ((op_index Try.underlying23 ti3 rfl rfl h109 h110 (h_r100.some_ h109 h110)) _) rfl rfl ?_
      refine GoR.op ((ldInt h_r100 h109 h110 Try.underlying3 rfl rfl) _ (Same.refl _)) rfl rfl ?_
      refine GoR.op ((op_assign rfl) _) rfl rfl ?_
      refine GoR.nil ?_
      refine Go1.seq ?_
      refine Go1.region ?_
      refine GoR.op ((op_move rfl) _) rfl rfl ?_
      refine GoR.op ((op_move rfl) _) rfl rfl ?_
      obtain ⟨h111, H⟩ := H
      obtain ⟨h112, H⟩ := H
      refine GoR.op ((op_index Try.underlying54 ti4 rfl rfl h111 (ltn (hE85.neq hO 1 rfl) h112) (hE85.psome hO 1 rfl h111 h112)) _) rfl rfl ?_
      by_cases h113 : ix r84 (ix r100 (k2_107 : Int)) = true
      ·replace H := ifp h113 H
       refine GoR.op (opB ((oldBool 1 hO rfl hE85 h111 h112 Try.underlying4 rfl rfl) _ (Same.refl _)) (h113)) rfl rfl ?_
       refine GoR.op ((op_not rfl) _) rfl rfl ?_
       refine GoR.op ((op_move rfl) _) rfl rfl ?_
       refine GoR.op ((op_move rfl) _) rfl rfl ?_
       refine GoR.op ((op_move rfl) _) rfl rfl ?_
       refine GoR.pass rfl rfl ?_
       refine GoR.pass rfl rfl ?_
       refine GoR.pass rfl rfl ?_
       refine GoR.pass rfl rfl ?_
       refine GoR.pass rfl rfl ?_
       refine GoR.op ((op_pickF rfl rfl rfl) _) rfl rfl ?_
       refine GoR.op ((op_pickF rfl rfl rfl) _) rfl rfl ?_
       refine GoR.nil ?_
       refine Go1.condF rfl rfl ?_
       refine Go1.skip ?_
       refine Go1.inBlock ?_
       refine Go1.region ?_
       refine GoR.op ((op_add rfl rfl (wrap_i64 (natbd h108 h_r100.bd))) _) rfl rfl ?_
       refine GoR.op ((op_move rfl) _) rfl rfl ?_
       refine GoR.nil ?_
       exact hX2 _ H _ _ ⟨⟨rfl, rfl, rfl, rfl, rfl, rfl, trivial⟩, hO, hE93, hE85, h_r100, hB⟩
      ·replace H := ifn h113 H
       refine GoR.op (opB ((oldBool 1 hO rfl hE85 h111 h112 Try.underlying4 rfl rfl) _ (Same.refl _)) (Bool.eq_false_iff.2 h113)) rfl rfl ?_
       refine GoR.op ((op_not rfl) _) rfl rfl ?_
       refine GoR.op ((op_move rfl) _) rfl rfl ?_
       refine GoR.pass rfl rfl ?_
       refine GoR.pass rfl rfl ?_
       refine GoR.pass rfl rfl ?_
       refine GoR.pass rfl rfl ?_
       refine GoR.pass rfl rfl ?_
       refine GoR.pass rfl rfl ?_
       refine GoR.pass rfl rfl ?_
       refine GoR.pass rfl rfl ?_
       refine GoR.op ((op_pickT rfl rfl rfl) _) rfl rfl ?_
       refine GoR.nil ?_
       refine Go1.condT rfl rfl ?_
       refine Go1.seq ?_
       refine Go1.region ?_
       refine GoR.op ((op_assign rfl) _) rfl rfl ?_
       refine GoR.nil ?_
       refine Go1.ret1 Try.func15 rfl ?_
       exact ⟨false, rfl, hB.same, H⟩
     ·replace H := ifn h108 H
      refine GoR.op ((fun w => opB (op_lss rfl rfl w) (decide_eq_false h108)) _) rfl rfl ?_
      refine GoR.nil ?_
      refine Go1.seq ?_
      refine Go1.condF rfl rfl ?_
      refine Go1.exit rfl ?_
      refine Go1.seq ?_
      refine Go1.region ?_
      refine GoR.call (op_call body16 rfl (walk_law14_awake hO.lt H)) rfl rfl ?_
      rintro v118 w115 ⟨r114, rfl, hs116, H⟩
      have hst119 := Stp.same hO hs116
      replace hE93 := hE93.ch hst119.ch
      replace hE85 := hE85.ch hst119.ch
      replace hO := hst119.own
      replace h_r100 := h_r100.ch hst119.ch
      replace hB := hB.trans hst119.fr
      refine GoR.op ((op_assign rfl) _) rfl rfl ?_
      refine GoR.nil ?_
      refine Go1.ret1 Try.func15 rfl ?_
      exact ⟨r114, rfl, hB.same, H⟩
   ·replace H := ifn h37 H
    refine GoR.op ((fun w => opB (op_neq rfl rfl w) (ndF h37)) _) rfl rfl ?_
    refine GoR.nil ?_
    refine Go1.condT rfl rfl ?_
    refine Go1.seq ?_
    refine Go1.region ?_
    refine GoR.op ((op_assign rfl) _) rfl rfl ?_
    refine GoR.nil ?_
    refine Go1.ret1 Try.func15 rfl ?_
    exact ⟨false, rfl, hB.same, H⟩
end Sg
