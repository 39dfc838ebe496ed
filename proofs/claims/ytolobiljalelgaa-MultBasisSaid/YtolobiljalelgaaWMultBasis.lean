/- The walks: each call keeps to its plain transformer. Printed by walkgen.py. -/
import Derived.Test.YtolobiljalelgaaWMultInherits
namespace Sg
open Go Go.RowKit Go.Proofs
set_option linter.unusedVariables false
set_option maxRecDepth 100000
set_option maxHeartbeats 4000000
theorem body91 : Body Try.prog 91 := ⟨Try.f91, Try.func91, rfl, by kernel_rfl⟩
theorem body83 : Body Try.prog 83 := ⟨Try.f83, Try.func83, rfl, by kernel_rfl⟩
theorem body82 : Body Try.prog 82 := ⟨Try.f82, Try.func82, rfl, by kernel_rfl⟩
theorem body51 : Body Try.prog 51 := ⟨Try.f51, Try.func51, rfl, by kernel_rfl⟩
theorem walk_mult_Generators {A : List Nat} {w0 : World} {p_t : Option Addr} {c_t : Nat} {t : List (List Int)} (hA : ∀ b ∈ A, b < w0.heap.size) (h_t : ISl (Rp.sl (Rp.int .i64)) A w0 p_t c_t t) {K : List Int → Prop} (H : mult_Generators t K) :
    CallsV Try.prog 51 #[.slice p_t t.length c_t] w0 (fun v w' => ∃ (r0 : List Int), ∃ (p_r0 : Option Addr), ∃ (c_r0 : Nat), v = .slice p_r0 r0.length c_r0 ∧ Same w0 w' ∧ ISl (Rp.int .i64) A w' p_r0 c_r0 r0 ∧ K r0) := by
 refine CallsV.of (l := [.slice p_t t.length c_t]) Try.func51 rfl Try.ntmps51 rfl ?_
 have hO := Owns.start hA
 have hB := Fr.refl (bl []) w0
 unfold mult_Generators at H
 replace h_t := h_t.ch (Ch.start A w0)
 refine Go1.seq ?_
 refine Go1.region ?_
 refine GoR.op ((op_assign rfl) _) rfl rfl ?_
 refine GoR.nil ?_
 refine Go1.seq ?_
 refine Go1.seq ?_
 refine Go1.region ?_
 refine GoR.op ((op_move rfl) _) rfl rfl ?_
 refine GoR.call (op_call body71 rfl (walk_mult_valid hO.lt h_t H)) rfl rfl ?_
 rintro v5 w2 ⟨r1, rfl, hs3, H⟩
 have hst6 := Stp.same hO hs3
 replace hO := hst6.own
 replace h_t := h_t.ch hst6.ch
 replace hB := hB.trans hst6.fr
 cases r1
 ·replace H := ifn Bool.false_ne_true H
  refine GoR.op ((op_not rfl) _) rfl rfl ?_
  refine GoR.nil ?_
  refine Go1.condT rfl rfl ?_
  refine Go1.seq ?_
  refine Go1.region ?_
  refine GoR.op ((op_assign rfl) _) rfl rfl ?_
  refine GoR.nil ?_
  refine Go1.ret1 Try.func51 rfl ?_
  exact ⟨([] : List Int), none, 0, rfl, hB.same, (ISl.null _ _ _), H⟩
 ·replace H := ifp rfl H
  refine GoR.op ((op_not rfl) _) rfl rfl ?_
  refine GoR.nil ?_
  refine Go1.condF rfl rfl ?_
  refine Go1.skip ?_
  refine Go1.seq ?_
  refine Go1.region ?_
  refine GoR.op ((op_move rfl) _) rfl rfl ?_
  refine GoR.inl (vs := [.slice p_t t.length c_t]) (caps := []) rfl rfl body82 Try.func82 rfl Try.ntmps82 rfl rfl rfl ?_
  intro RhR7 hR7
  refine Go1.seq ?_
  refine Go1.region ?_
  refine GoR.op ((op_assign rfl) _) rfl rfl ?_
  refine GoR.nil ?_
  refine Go1.seq ?_
  refine Go1.region ?_
  refine GoR.op ((op_move rfl) _) rfl rfl ?_
  refine GoR.op ((op_move rfl) _) rfl rfl ?_
  refine GoR.op ((op_len Try.underlying22 rfl) _) rfl rfl ?_
  replace H := H h_t.bd
  obtain ⟨h15, H⟩ := H
  obtain ⟨h16, H⟩ := H
  have hobt := omake (n := (t.length : Int)) (r := Rp.bool) (d := false) Try.underlying54 ti4 (fun _ _ => rfl) rfl hO h15 h16 (by decide)
  obtain ⟨w8, p9, vs10, hst11, hE12, hs13, hop14⟩ := hobt
  refine GoR.op (hop14 rfl rfl) rfl rfl ?_
  replace hO := hst11.own
  replace h_t := h_t.ch hst11.ch
  replace hB := hB.trans hst11.fr
  refine GoR.op ((op_build Try.underlying67 ti67 (pl := [(0, 1), (1, 1), (2, 1), (3, 1)]) (vs := [(0, .slice p_t t.length c_t), (2, .slice p9 t.length t.length)]) (cs := #[.slice p_t t.length c_t, .slice none 0 0, .slice p9 t.length t.length, .slice none 0 0]) (by kernel_rfl) rfl (by kernel_rfl)) _) rfl rfl ?_
  have hobt := obox (t := 67) (v := .agg #[.slice p_t t.length c_t, .slice none 0 0, .slice p9 t.length t.length, .slice none 0 0]) (cs := #[.slice p_t t.length c_t, .slice none 0 0, .slice p9 t.length t.length, .slice none 0 0]) hO rfl
  obtain ⟨w18, B19, hst20, hs21, hop22⟩ := hobt
  refine GoR.op (hop22 rfl) rfl rfl ?_
  replace hE12 := hE12.ch hst20.ch
  replace hO := hst20.own
  replace h_t := h_t.ch hst20.ch
  replace hB := hB.trans hst20.fr
  refine GoR.op ((op_assign rfl) _) rfl rfl ?_
  refine GoR.nil ?_
  refine Go1.ret1V Try.func82 rfl (show _ = .pointer (some ⟨B19, 0, none⟩) from rfl) ?_
  refine hR7 _ _ ?_
  refine GoR.op ((op_assign rfl) _) rfl rfl ?_
  refine GoR.nil ?_
  refine Go1.seq ?_
  refine Go1.seq ?_
  refine Go1.region ?_
  refine GoR.op ((op_move rfl) _) rfl rfl ?_
  refine GoR.op ((op_len Try.underlying22 rfl) _) rfl rfl ?_
  refine GoR.op ((op_move rfl) _) rfl rfl ?_
  refine GoR.nil ?_
  refine Go1.block ?_
  have hst25 := Stp.nil (e := 3) (r := 1) hO
  replace hE12 := hE12.ch hst25.ch
  replace hO := hst25.own
  replace h_t := h_t.ch hst25.ch
  replace hB := hB.trans hst25.fr
  have hE26 := Els.nil (Rp.int .i64) (bl (.row 3 1 none 0 0 [] :: [.blk B19 (.cells #[.slice p_t t.length c_t, .slice none 0 0, .slice p9 t.length t.length, .slice none 0 0] 67 (0, 0)), .row 4 1 p9 t.length t.length vs10]) ++ A) w18
  have hst28 := Stp.nil (e := 3) (r := 1) hO
  replace hE26 := hE26.ch hst28.ch
  replace hE12 := hE12.ch hst28.ch
  replace hO := hst28.own
  replace h_t := h_t.ch hst28.ch
  replace hB := hB.trans hst28.fr
  have hE29 := Els.nil (Rp.int .i64) (bl (.row 3 1 none 0 0 [] :: [.row 3 1 none 0 0 [], .blk B19 (.cells #[.slice p_t t.length c_t, .slice none 0 0, .slice p9 t.length t.length, .slice none 0 0] 67 (0, 0)), .row 4 1 p9 t.length t.length vs10]) ++ A) w18
  refine Go1.loopW (S := Nat × List Int × List Int × List Bool) (fun s σ w => ∃ (n37 : Nat), ∃ (p35 : Option Addr), ∃ (c36 : Nat), ∃ (vs33 : List Value), ∃ (n43 : Nat), ∃ (p41 : Option Addr), ∃ (c42 : Nat), ∃ (vs39 : List Value), ∃ (vs45 : List Value), agrees σ [(3, .pointer (some ⟨B19, 0, none⟩)), (11, .int .i64 (t.length : Int)), (12, .int .i64 ((s.1) : Int))] ∧ Owns w0.heap.size w [.row 3 1 p35 n37 c36 vs33, .row 3 1 p41 n43 c42 vs39, .blk B19 (.cells #[.slice p_t t.length c_t, .slice p41 n43 c42, .slice p9 t.length t.length, .slice p35 n37 c36] 67 (0, 0)), .row 4 1 p9 t.length t.length vs45] A ∧ Els (Rp.int .i64) (bl [.row 3 1 p35 n37 c36 vs33, .row 3 1 p41 n43 c42 vs39, .blk B19 (.cells #[.slice p_t t.length c_t, .slice p41 n43 c42, .slice p9 t.length t.length, .slice p35 n37 c36] 67 (0, 0)), .row 4 1 p9 t.length t.length vs45] ++ A) w vs33 (s.2.1) ∧ Els (Rp.int .i64) (bl [.row 3 1 p35 n37 c36 vs33, .row 3 1 p41 n43 c42 vs39, .blk B19 (.cells #[.slice p_t t.length c_t, .slice p41 n43 c42, .slice p9 t.length t.length, .slice p35 n37 c36] 67 (0, 0)), .row 4 1 p9 t.length t.length vs45] ++ A) w vs39 (s.2.2.1) ∧ Els (Rp.bool) (bl [.row 3 1 p35 n37 c36 vs33, .row 3 1 p41 n43 c42 vs39, .blk B19 (.cells #[.slice p_t t.length c_t, .slice p41 n43 c42, .slice p9 t.length t.length, .slice p35 n37 c36] 67 (0, 0)), .row 4 1 p9 t.length t.length vs45] ++ A) w vs45 (s.2.2.2) ∧ ISl (Rp.sl (Rp.int .i64)) (bl [.row 3 1 p35 n37 c36 vs33, .row 3 1 p41 n43 c42 vs39, .blk B19 (.cells #[.slice p_t t.length c_t, .slice p41 n43 c42, .slice p9 t.length t.length, .slice p35 n37 c36] 67 (0, 0)), .row 4 1 p9 t.length t.length vs45] ++ A) w p_t c_t t ∧ Fr (bl []) w0 (bl [.row 3 1 p35 n37 c36 vs33, .row 3 1 p41 n43 c42 vs39, .blk B19 (.cells #[.slice p_t t.length c_t, .slice p41 n43 c42, .slice p9 t.length t.length, .slice p35 n37 c36] 67 (0, 0)), .row 4 1 p9 t.length t.length vs45]) w) H ⟨0, none, 0, [], 0, none, 0, [], vs10, ⟨rfl, rfl, rfl, trivial⟩, hO, hE29, hE26, hE12, h_t, hB⟩ ?_
  rintro X1 ⟨k1_31, d_32, d_38, d_44⟩ H hX1 σ w30 ⟨n37, p35, c36, vs33, n43, p41, c42, vs39, vs45, hag, hO, hE34, hE40, hE46, h_t, hB⟩
  dsimp only at H
  refine Go1.keep [(3, .pointer (some ⟨B19, 0, none⟩)), (11, .int .i64 (t.length : Int)), (12, .int .i64 (k1_31 : Int))] hag ?_
  refine Go1.seq ?_
  refine Go1.region ?_
  by_cases h47 : (k1_31 : Int) < (t.length : Int)
  ·replace H := ifp h47 H
   refine GoR.op ((fun w => opB (op_lss rfl rfl w) (decide_eq_true h47)) _) rfl rfl ?_
   refine GoR.nil ?_
   refine Go1.seq ?_
   refine Go1.condT rfl rfl ?_
   refine Go1.skip ?_
   refine Go1.seq ?_
   refine Go1.block ?_
   refine Go1.seq ?_
   refine Go1.region ?_
   refine GoR.op ((op_move rfl) _) rfl rfl ?_
   refine GoR.op ((op_assign rfl) _) rfl rfl ?_
   refine GoR.nil ?_
   refine Go1.region ?_
   refine GoR.op ((op_move rfl) _) rfl rfl ?_
   refine GoR.op ((op_move rfl) _) rfl rfl ?_
   refine GoR.inl (vs := [.pointer (some ⟨B19, 0, none⟩), .int .i64 (k1_31 : Int)]) (caps := []) rfl rfl body83 Try.func83 rfl Try.ntmps83 rfl rfl rfl ?_
   intro RhR48 hR48
   refine Go1.seq ?_
   refine Go1.seq ?_
   refine Go1.region ?_
   refine GoR.op ((op_move rfl) _) rfl rfl ?_
   refine GoR.op ((op_nilCheck rfl) _) rfl rfl ?_
   refine GoR.op ((op_fieldAddr Try.underlying67 rfl ti54 rfl (by decide)) _) rfl rfl ?_
   refine GoR.op ((oblk 2 hO rfl rfl Try.underlying54 rfl rfl) _ (Same.refl _)) rfl rfl ?_
   refine GoR.op ((op_move rfl) _) rfl rfl ?_
   obtain ⟨h49, H⟩ := H
   obtain ⟨h50, H⟩ := H
   refine GoR.op ((op_index Try.underlying54 ti4 rfl rfl h49 (ltn (hE46.neq hO 3 rfl) h50) (hE46.psome hO 3 rfl h49 h50)) _) rfl rfl ?_
   by_cases h51 : ix d_44 (k1_31 : Int) = true
   ·replace H := ifp h51 H
    refine GoR.op (opB ((oldBool 3 hO rfl hE46 h49 h50 Try.underlying4 rfl rfl) _ (Same.refl _)) (h51)) rfl rfl ?_
    refine GoR.nil ?_
    refine Go1.condT rfl rfl ?_
    refine Go1.ret0V Try.func83 rfl ?_
    refine hR48 _ _ ?_
    refine GoR.nil ?_
    refine Go1.inBlock ?_
    refine Go1.region ?_
    refine GoR.op ((op_add rfl rfl (wrap_i64 (natbd h47 h_t.bd))) _) rfl rfl ?_
    refine GoR.op ((op_move rfl) _) rfl rfl ?_
    refine GoR.nil ?_
    exact hX1 _ H _ _ ⟨n37, p35, c36, vs33, n43, p41, c42, vs39, vs45, ⟨rfl, rfl, rfl, trivial⟩, hO, hE34, hE40, hE46, h_t, hB⟩
   ·replace H := ifn h51 H
    refine GoR.op (opB ((oldBool 3 hO rfl hE46 h49 h50 Try.underlying4 rfl rfl) _ (Same.refl _)) (Bool.eq_false_iff.2 h51)) rfl rfl ?_
    refine GoR.nil ?_
    refine Go1.condF rfl rfl ?_
    refine Go1.skip ?_
    refine Go1.seq ?_
    refine Go1.region ?_
    refine GoR.op ((op_move rfl) _) rfl rfl ?_
    refine GoR.op ((op_nilCheck rfl) _) rfl rfl ?_
    refine GoR.op ((op_fieldAddr Try.underlying67 rfl ti23 rfl (by decide)) _) rfl rfl ?_
    refine GoR.op ((oblk 2 hO rfl rfl Try.underlying23 rfl rfl) _ (Same.refl _)) rfl rfl ?_
    refine GoR.op ((op_lenN Try.underlying23 rfl (hE34.neq hO 0 rfl)) _) rfl rfl ?_
    refine GoR.op ((op_assign rfl) _) rfl rfl ?_
    refine GoR.nil ?_
    refine Go1.seq ?_
    refine Go1.region ?_
    refine GoR.op ((op_move rfl) _) rfl rfl ?_
    refine GoR.op ((op_move rfl) _) rfl rfl ?_
    refine GoR.op ((op_nilCheck rfl) _) rfl rfl ?_
    refine GoR.op ((op_fieldAddr Try.underlying67 rfl ti23 rfl (by decide)) _) rfl rfl ?_
    refine GoR.op ((oblk 2 hO rfl rfl Try.underlying23 rfl rfl) _ (Same.refl _)) rfl rfl ?_
    refine GoR.op ((op_move rfl) _) rfl rfl ?_
    have hobt := obuild (r := Rp.int .i64) (n := 1) (parts := [(0, .int .i64 (k1_31 : Int))]) (vs := [.int .i64 (k1_31 : Int)]) (xs := [(k1_31 : Int)]) rfl Try.underlying23 ti3 hO (by decide) (by kernel_rfl) (Els.cons rfl rfl (Els.nil _ _ _) (by simp [mx])) rfl
    obtain ⟨w52, p53, hst54, hE55, hs56, hop57⟩ := hobt
    refine GoR.op (hop57 rfl) rfl rfl ?_
    replace hE34 := hE34.ch hst54.ch
    replace hE40 := hE40.ch hst54.ch
    replace hE46 := hE46.ch hst54.ch
    replace hO := hst54.own
    replace h_t := h_t.ch hst54.ch
    replace hB := hB.trans hst54.fr
    have hobt := freeze 0 hO rfl hE55
    obtain ⟨hO1, hc61, hi59, hn60⟩ := hobt
    replace h_t := h_t.ch hc61
    replace hE34 := hE34.ch hc61
    replace hE40 := hE40.ch hc61
    replace hE46 := hE46.ch hc61
    replace hB := hB.trans (Owns.dropFr _ _ 0)
    replace hO := hO1; clear hO1
    obtain ⟨h62, H⟩ := H
    have hobt := oapp Try.underlying23 ti3 rfl 1 hO rfl hE40 hi59 hn60 h62 (by decide)
    obtain ⟨w63, p64, c65, vs66, hst67, hE68, hop69⟩ := hobt
    refine GoR.op (hop69 rfl rfl) rfl rfl ?_
    replace hE34 := hE34.ch hst67.ch
    replace hE46 := hE46.ch hst67.ch
    replace hO := hst67.own
    replace h_t := h_t.ch hst67.ch
    replace hi59 := hi59.ch hst67.ch
    replace hB := hB.trans hst67.fr
    refine GoR.op ((op_nilCheck rfl) _) rfl rfl ?_
    refine GoR.op ((op_fieldAddr Try.underlying67 rfl ti23 rfl (by decide)) _) rfl rfl ?_
    have hobt := oblkSt (v := .slice p64 (n43 + 1) c65) (i := 1) 2 hO rfl rfl rfl
    obtain ⟨w71, hst72, hop73⟩ := hobt
    refine GoR.op (hop73 Try.underlying23 rfl ti23 rfl rfl) rfl rfl ?_
    replace hE34 := hE34.ch hst72.ch
    replace hE68 := hE68.ch hst72.ch
    replace hE46 := hE46.ch hst72.ch
    replace hO := hst72.own
    replace h_t := h_t.ch hst72.ch
    replace hi59 := hi59.ch hst72.ch
    replace hB := hB.trans hst72.fr
    refine GoR.nil ?_
    refine Go1.seq ?_
    refine Go1.region ?_
    refine GoR.op ((op_move rfl) _) rfl rfl ?_
    refine GoR.op ((op_move rfl) _) rfl rfl ?_
    refine GoR.inl (vs := [.pointer (some ⟨B19, 0, none⟩), .int .i64 (k1_31 : Int)]) (caps := []) rfl rfl body91 Try.func91 rfl Try.ntmps91 rfl rfl rfl ?_
    intro RhR74 hR74
    refine Go1.seq ?_
    refine Go1.region ?_
    refine GoR.op ((op_move rfl) _) rfl rfl ?_
    refine GoR.op ((op_nilCheck rfl) _) rfl rfl ?_
    refine GoR.op ((op_fieldAddr Try.underlying67 rfl ti54 rfl (by decide)) _) rfl rfl ?_
    refine GoR.op ((oblk 2 hO rfl rfl Try.underlying54 rfl rfl) _ (Same.refl _)) rfl rfl ?_
    refine GoR.op ((op_move rfl) _) rfl rfl ?_
    obtain ⟨h75, H⟩ := H
    obtain ⟨h76, H⟩ := H
    refine GoR.op ((op_index Try.underlying54 ti4 rfl rfl h75 (ltn (hE46.neq hO 3 rfl) h76) (hE46.psome hO 3 rfl h75 h76)) _) rfl rfl ?_
    refine GoR.op (opB ((oldBool 3 hO rfl hE46 h75 h76 Try.underlying4 rfl rfl) _ (Same.refl _)) (Bool.eq_false_iff.2 h51)) rfl rfl ?_
    refine GoR.op ((op_not rfl) _) rfl rfl ?_
    refine GoR.nil ?_
    refine Go1.condT rfl rfl ?_
    refine Go1.seq ?_
    refine Go1.region ?_
    refine GoR.op ((op_move rfl) _) rfl rfl ?_
    refine GoR.op ((op_nilCheck rfl) _) rfl rfl ?_
    refine GoR.op ((op_fieldAddr Try.underlying67 rfl ti54 rfl (by decide)) _) rfl rfl ?_
    refine GoR.op ((oblk 2 hO rfl rfl Try.underlying54 rfl rfl) _ (Same.refl _)) rfl rfl ?_
    refine GoR.op ((op_move rfl) _) rfl rfl ?_
    obtain ⟨h77, H⟩ := H
    obtain ⟨h78, H⟩ := H
    refine GoR.op ((op_index Try.underlying54 ti4 rfl rfl h77 (ltn (hE46.neq hO 3 rfl) h78) (hE46.psome hO 3 rfl h77 h78)) _) rfl rfl ?_
    have hobt := ost (r := Rp.bool) rfl 3 hO rfl hE46 h77 h78 (v := .bool true) (u := true) rfl rfl
    obtain ⟨w79, vs80, hst81, hE82, hop83⟩ := hobt
    refine GoR.op (hop83 Try.underlying4 rfl ti4 rfl rfl) rfl rfl ?_
    replace hE34 := hE34.ch hst81.ch
    replace hE68 := hE68.ch hst81.ch
    replace hO := hst81.own
    replace h_t := h_t.ch hst81.ch
    replace hi59 := hi59.ch hst81.ch
    replace hB := hB.trans hst81.fr
    refine GoR.nil ?_
    refine Go1.region ?_
    refine GoR.op ((op_move rfl) _) rfl rfl ?_
    refine GoR.op ((op_move rfl) _) rfl rfl ?_
    refine GoR.op ((op_nilCheck rfl) _) rfl rfl ?_
    refine GoR.op ((op_fieldAddr Try.underlying67 rfl ti23 rfl (by decide)) _) rfl rfl ?_
    refine GoR.op ((oblk 2 hO rfl rfl Try.underlying23 rfl rfl) _ (Same.refl _)) rfl rfl ?_
    refine GoR.op ((op_move rfl) _) rfl rfl ?_
    have hobt := obuild (r := Rp.int .i64) (n := 1) (parts := [(0, .int .i64 (k1_31 : Int))]) (vs := [.int .i64 (k1_31 : Int)]) (xs := [(k1_31 : Int)]) rfl Try.underlying23 ti3 hO (by decide) (by kernel_rfl) (Els.cons rfl rfl (Els.nil _ _ _) (by simp [mx])) rfl
    obtain ⟨w84, p85, hst86, hE87, hs88, hop89⟩ := hobt
    refine GoR.op (hop89 rfl) rfl rfl ?_
    replace hE34 := hE34.ch hst86.ch
    replace hE68 := hE68.ch hst86.ch
    replace hE82 := hE82.ch hst86.ch
    replace hO := hst86.own
    replace h_t := h_t.ch hst86.ch
    replace hi59 := hi59.ch hst86.ch
    replace hB := hB.trans hst86.fr
    have hobt := freeze 0 hO rfl hE87
    obtain ⟨hO1, hc93, hi91, hn92⟩ := hobt
    replace h_t := h_t.ch hc93
    replace hi59 := hi59.ch hc93
    replace hE34 := hE34.ch hc93
    replace hE68 := hE68.ch hc93
    replace hE82 := hE82.ch hc93
    replace hB := hB.trans (Owns.dropFr _ _ 0)
    replace hO := hO1; clear hO1
    obtain ⟨h94, H⟩ := H
    have hobt := oapp Try.underlying23 ti3 rfl 0 hO rfl hE34 hi91 hn92 h94 (by decide)
    obtain ⟨w95, p96, c97, vs98, hst99, hE100, hop101⟩ := hobt
    refine GoR.op (hop101 rfl rfl) rfl rfl ?_
    replace hE68 := hE68.ch hst99.ch
    replace hE82 := hE82.ch hst99.ch
    replace hO := hst99.own
    replace h_t := h_t.ch hst99.ch
    replace hi59 := hi59.ch hst99.ch
    replace hi91 := hi91.ch hst99.ch
    replace hB := hB.trans hst99.fr
    refine GoR.op ((op_nilCheck rfl) _) rfl rfl ?_
    refine GoR.op ((op_fieldAddr Try.underlying67 rfl ti23 rfl (by decide)) _) rfl rfl ?_
    have hobt := oblkSt (v := .slice p96 (n37 + 1) c97) (i := 3) 2 hO rfl rfl rfl
    obtain ⟨w103, hst104, hop105⟩ := hobt
    refine GoR.op (hop105 Try.underlying23 rfl ti23 rfl rfl) rfl rfl ?_
    replace hE100 := hE100.ch hst104.ch
    replace hE68 := hE68.ch hst104.ch
    replace hE82 := hE82.ch hst104.ch
    replace hO := hst104.own
    replace h_t := h_t.ch hst104.ch
    replace hi59 := hi59.ch hst104.ch
    replace hi91 := hi91.ch hst104.ch
    replace hB := hB.trans hst104.fr
    refine GoR.nil ?_
    refine Go1.fin0V Try.func91 rfl ?_
    refine hR74 _ _ ?_
    refine GoR.nil ?_
    refine Go1.seq ?_
    refine Go1.region ?_
    refine GoR.op ((op_assign rfl) _) rfl rfl ?_
    refine GoR.nil ?_
    refine Go1.block ?_
    refine Go1.loopW (S := Nat × List Int × List Bool) (fun s σ w => ∃ (n113 : Nat), ∃ (p111 : Option Addr), ∃ (c112 : Nat), ∃ (vs109 : List Value), ∃ (vs115 : List Value), agrees σ [(0, .pointer (some ⟨B19, 0, none⟩)), (1, .int .i64 (k1_31 : Int)), (4, .int .i64 (d_32.length : Int)), (5, .int .i64 ((s.1) : Int))] ∧ Owns w0.heap.size w [.row 3 1 p111 n113 c112 vs109, .row 3 1 p64 (n43 + 1) c65 vs66, .blk B19 (.cells #[.slice p_t t.length c_t, .slice p64 (n43 + 1) c65, .slice p9 t.length t.length, .slice p111 n113 c112] 67 (0, 0)), .row 4 1 p9 t.length t.length vs115] A ∧ Els (Rp.int .i64) (bl [.row 3 1 p111 n113 c112 vs109, .row 3 1 p64 (n43 + 1) c65 vs66, .blk B19 (.cells #[.slice p_t t.length c_t, .slice p64 (n43 + 1) c65, .slice p9 t.length t.length, .slice p111 n113 c112] 67 (0, 0)), .row 4 1 p9 t.length t.length vs115] ++ A) w vs109 (s.2.1) ∧ Els (Rp.int .i64) (bl [.row 3 1 p111 n113 c112 vs109, .row 3 1 p64 (n43 + 1) c65 vs66, .blk B19 (.cells #[.slice p_t t.length c_t, .slice p64 (n43 + 1) c65, .slice p9 t.length t.length, .slice p111 n113 c112] 67 (0, 0)), .row 4 1 p9 t.length t.length vs115] ++ A) w vs66 (d_38 ++ ([(k1_31 : Int)])) ∧ Els (Rp.bool) (bl [.row 3 1 p111 n113 c112 vs109, .row 3 1 p64 (n43 + 1) c65 vs66, .blk B19 (.cells #[.slice p_t t.length c_t, .slice p64 (n43 + 1) c65, .slice p9 t.length t.length, .slice p111 n113 c112] 67 (0, 0)), .row 4 1 p9 t.length t.length vs115] ++ A) w vs115 (s.2.2) ∧ ISl (Rp.sl (Rp.int .i64)) (bl [.row 3 1 p111 n113 c112 vs109, .row 3 1 p64 (n43 + 1) c65 vs66, .blk B19 (.cells #[.slice p_t t.length c_t, .slice p64 (n43 + 1) c65, .slice p9 t.length t.length, .slice p111 n113 c112] 67 (0, 0)), .row 4 1 p9 t.length t.length vs115] ++ A) w p_t c_t t ∧ Fr (bl []) w0 (bl [.row 3 1 p111 n113 c112 vs109, .row 3 1 p64 (n43 + 1) c65 vs66, .blk B19 (.cells #[.slice p_t t.length c_t, .slice p64 (n43 + 1) c65, .slice p9 t.length t.length, .slice p111 n113 c112] 67 (0, 0)), .row 4 1 p9 t.length t.length vs115]) w) H ⟨n37 + 1, p96, c97, vs98, vs80, ⟨rfl, rfl, rfl, rfl, trivial⟩, hO, hE100, hE68, hE82, h_t, hB⟩ ?_
    rintro X2 ⟨k2_107, d_108, d_114⟩ H hX2 σ w106 ⟨n113, p111, c112, vs109, vs115, hag, hO, hE110, hE68, hE116, h_t, hB⟩
    dsimp only at H
    refine Go1.keep [(0, .pointer (some ⟨B19, 0, none⟩)), (1, .int .i64 (k1_31 : Int)), (4, .int .i64 (d_32.length : Int)), (5, .int .i64 (k2_107 : Int))] hag ?_
    refine Go1.seq ?_
    refine Go1.seq ?_
    refine Go1.region ?_
    refine GoR.op ((op_move rfl) _) rfl rfl ?_
    refine GoR.op ((op_move rfl) _) rfl rfl ?_
    refine GoR.op ((op_nilCheck rfl) _) rfl rfl ?_
    refine GoR.op ((op_fieldAddr Try.underlying67 rfl ti23 rfl (by decide)) _) rfl rfl ?_
    refine GoR.op ((oblk 2 hO rfl rfl Try.underlying23 rfl rfl) _ (Same.refl _)) rfl rfl ?_
    refine GoR.op ((op_lenN Try.underlying23 rfl (hE110.neq hO 0 rfl)) _) rfl rfl ?_
    by_cases h117 : (k2_107 : Int) < (d_108.length : Int)
    ·replace H := ifp h117 H
     refine GoR.op ((fun w => opB (op_lss rfl rfl w) (decide_eq_true h117)) _) rfl rfl ?_
     refine GoR.nil ?_
     refine Go1.condT rfl rfl ?_
     refine Go1.skip ?_
     refine Go1.seq ?_
     refine Go1.block ?_
     refine Go1.seq ?_
     refine Go1.seq ?_
     refine Go1.region ?_
     refine GoR.op ((op_move rfl) _) rfl rfl ?_
     refine GoR.op ((op_move rfl) _) rfl rfl ?_
     by_cases h118 : (k2_107 : Int) < (d_32.length : Int)
     ·replace H := ifp h118 H
      refine GoR.op ((fun w => opB (op_lss rfl rfl w) (decide_eq_true h118)) _) rfl rfl ?_
      refine GoR.nil ?_
      refine Go1.condT rfl rfl ?_
      refine Go1.seq ?_
      refine Go1.drawS 7 [(0, .pure), (1, .pure), (2, .pure), (3, .pure), (4, .stable), (5, .pure), (6, .pure), (7, .pure), (8, .stable), (9, .pure), (10, .pure), (11, .stable), (12, .pure), (13, .stable), (14, .pure), (15, .pure), (16, .stable), (17, .last)] mixed (by kernel_rfl) ?_
      intro w119 hs120
      have hst121 := Stp.same hO hs120
      replace hE110 := hE110.ch hst121.ch
      replace hE68 := hE68.ch hst121.ch
      replace hE116 := hE116.ch hst121.ch
      replace hO := hst121.own
      replace h_t := h_t.ch hst121.ch
      replace hB := hB.trans hst121.fr
      refine GoQ.pure rfl (op_move rfl) rfl rfl ?_
      refine GoQ.pure rfl (op_move rfl) rfl rfl ?_
      refine GoQ.pure rfl (op_nilCheck rfl) rfl rfl ?_
      refine GoQ.pure rfl (op_fieldAddr Try.underlying67 rfl ti22 rfl (by decide)) rfl rfl ?_
      refine GoQ.stable rfl (oblk 2 hO rfl rfl Try.underlying22 rfl rfl) rfl rfl ?_
      refine GoQ.pure rfl (op_move rfl) rfl rfl ?_
      refine GoQ.pure rfl (op_nilCheck rfl) rfl rfl ?_
      refine GoQ.pure rfl (op_fieldAddr Try.underlying67 rfl ti23 rfl (by decide)) rfl rfl ?_
      refine GoQ.stable rfl (oblk 2 hO rfl rfl Try.underlying23 rfl rfl) rfl rfl ?_
      refine GoQ.pure rfl (op_move rfl) rfl rfl ?_
      obtain ⟨h122, H⟩ := H
      obtain ⟨h123, H⟩ := H
      refine GoQ.pure rfl (op_index Try.underlying23 ti3 rfl rfl h122 (ltn (hE110.neq hO 0 rfl) h123) (hE110.psome hO 0 rfl h122 h123)) rfl rfl ?_
      refine GoQ.stable rfl (oldInt 0 hO rfl hE110 h122 h123 Try.underlying3 rfl rfl) rfl rfl ?_
      obtain ⟨h124, H⟩ := H
      obtain ⟨h125, H⟩ := H
      refine GoQ.pure rfl (op_index Try.underlying22 ti23 rfl rfl h124 h125 (h_t.some_ h124 h125)) rfl rfl ?_
      have hobt := ldSl h_t h124 h125
      obtain ⟨p126, c127, hi128, hl129⟩ := hobt
      refine GoQ.stable rfl (hl129 Try.underlying23 rfl rfl) rfl rfl ?_
      refine GoQ.pure rfl (op_move rfl) rfl rfl ?_
      obtain ⟨h130, H⟩ := H
      obtain ⟨h131, H⟩ := H
      refine GoQ.pure rfl (op_index Try.underlying23 ti3 rfl rfl h130 h131 (hi128.some_ h130 h131)) rfl rfl ?_
      refine GoQ.stable rfl (ldInt hi128 h130 h131 Try.underlying3 rfl rfl) rfl rfl ?_
      refine GoQ.inl (vs := [.pointer (some ⟨B19, 0, none⟩), .int .i64 (ix (ix t (ix d_108 (k2_107 : Int))) (k1_31 : Int))]) (caps := []) rfl rfl rfl body91 Try.func91 rfl Try.ntmps91 rfl rfl rfl ?_
      intro RhR132 hR132
      refine Go1.seq ?_
      refine Go1.region ?_
      refine GoR.op ((op_move rfl) _) rfl rfl ?_
      refine GoR.op ((op_nilCheck rfl) _) rfl rfl ?_
      refine GoR.op ((op_fieldAddr Try.underlying67 rfl ti54 rfl (by decide)) _) rfl rfl ?_
      refine GoR.op ((oblk 2 hO rfl rfl Try.underlying54 rfl rfl) _ (Same.refl _)) rfl rfl ?_
      refine GoR.op ((op_move rfl) _) rfl rfl ?_
      obtain ⟨h133, H⟩ := H
      obtain ⟨h134, H⟩ := H
      refine GoR.op ((op_index Try.underlying54 ti4 rfl rfl h133 (ltn (hE116.neq hO 3 rfl) h134) (hE116.psome hO 3 rfl h133 h134)) _) rfl rfl ?_
      by_cases h135 : ix d_114 (ix (ix t (ix d_108 (k2_107 : Int))) (k1_31 : Int)) = true
      ·replace H := ifp h135 H
       refine GoR.op (opB ((oldBool 3 hO rfl hE116 h133 h134 Try.underlying4 rfl rfl) _ (Same.refl _)) (h135)) rfl rfl ?_
       refine GoR.op ((op_not rfl) _) rfl rfl ?_
       refine GoR.nil ?_
       refine Go1.condF rfl rfl ?_
       refine Go1.skip ?_
       refine Go1.fin0V Try.func91 rfl ?_
       refine hR132 _ _ ?_
       refine GoQ.nil ?_
       refine Go1.exit rfl ?_
       refine Go1.region ?_
       refine GoR.op ((op_move rfl) _) rfl rfl ?_
       refine GoR.op ((op_add rfl rfl (wrap_i64 (natbd h117 hE110.bd))) _) rfl rfl ?_
       refine GoR.op ((op_assign rfl) _) rfl rfl ?_
       refine GoR.nil ?_
       exact hX2 _ H _ _ ⟨n113, p111, c112, vs109, vs115, ⟨rfl, rfl, rfl, rfl, trivial⟩, hO, hE110, hE68, hE116, h_t, hB⟩
      ·replace H := ifn h135 H
       refine GoR.op (opB ((oldBool 3 hO rfl hE116 h133 h134 Try.underlying4 rfl rfl) _ (Same.refl _)) (Bool.eq_false_iff.2 h135)) rfl rfl ?_
       refine GoR.op ((op_not rfl) _) rfl rfl ?_
       refine GoR.nil ?_
       refine Go1.condT rfl rfl ?_
       refine Go1.seq ?_
       refine Go1.region ?_
       refine GoR.op ((op_move rfl) _) rfl rfl ?_
       refine GoR.op ((op_nilCheck rfl) _) rfl rfl ?_
       refine GoR.op ((op_fieldAddr Try.underlying67 rfl ti54 rfl (by decide)) _) rfl rfl ?_
       refine GoR.op ((oblk 2 hO rfl rfl Try.underlying54 rfl rfl) _ (Same.refl _)) rfl rfl ?_
       refine GoR.op ((op_move rfl) _) rfl rfl ?_
       obtain ⟨h136, H⟩ := H
       obtain ⟨h137, H⟩ := H
       refine GoR.op ((op_index Try.underlying54 ti4 rfl rfl h136 (ltn (hE116.neq hO 3 rfl) h137) (hE116.psome hO 3 rfl h136 h137)) _) rfl rfl ?_
       have hobt := ost (r := Rp.bool) rfl 3 hO rfl hE116 h136 h137 (v := .bool true) (u := true) rfl rfl
       obtain ⟨w138, vs139, hst140, hE141, hop142⟩ := hobt
       refine GoR.op (hop142 Try.underlying4 rfl ti4 rfl rfl) rfl rfl ?_
       replace hE110 := hE110.ch hst140.ch
       replace hE68 := hE68.ch hst140.ch
       replace hO := hst140.own
       replace h_t := h_t.ch hst140.ch
       replace hi128 := hi128.ch hst140.ch
       replace hB := hB.trans hst140.fr
       refine GoR.nil ?_
       refine Go1.region ?_
       refine GoR.op ((op_move rfl) _) rfl rfl ?_
       refine GoR.op ((op_move rfl) _) rfl rfl ?_
       refine GoR.op ((op_nilCheck rfl) _) rfl rfl ?_
       refine GoR.op ((op_fieldAddr Try.underlying67 rfl ti23 rfl (by decide)) _) rfl rfl ?_
       refine GoR.op ((oblk 2 hO rfl rfl Try.underlying23 rfl rfl) _ (Same.refl _)) rfl rfl ?_
       refine GoR.op ((op_move rfl) _) rfl rfl ?_
       have hobt := obuild (r := Rp.int .i64) (n := 1) (parts := [(0, .int .i64 (ix (ix t (ix d_108 (k2_107 : Int))) (k1_31 : Int)))]) (vs := [.int .i64 (ix (ix t (ix d_108 (k2_107 : Int))) (k1_31 : Int))]) (xs := [(ix (ix t (ix d_108 (k2_107 : Int))) (k1_31 : Int))]) rfl Try.underlying23 ti3 hO (by decide) (by kernel_rfl) (Els.cons rfl rfl (Els.nil _ _ _) (by simp [mx])) rfl
       obtain ⟨w143, p144, hst145, hE146, hs147, hop148⟩ := hobt
       refine GoR.op (hop148 rfl) rfl rfl ?_
       replace hE110 := hE110.ch hst145.ch
       replace hE68 := hE68.ch hst145.ch
       replace hE141 := hE141.ch hst145.ch
       replace hO := hst145.own
       replace h_t := h_t.ch hst145.ch
       replace hi128 := hi128.ch hst145.ch
       replace hB := hB.trans hst145.fr
       have hobt := freeze 0 hO rfl hE146
       obtain ⟨hO1, hc152, hi150, hn151⟩ := hobt
       replace h_t := h_t.ch hc152
       replace hi128 := hi128.ch hc152
       replace hE110 := hE110.ch hc152
       replace hE68 := hE68.ch hc152
       replace hE141 := hE141.ch hc152
       replace hB := hB.trans (Owns.dropFr _ _ 0)
       replace hO := hO1; clear hO1
       obtain ⟨h153, H⟩ := H
       have hobt := oapp Try.underlying23 ti3 rfl 0 hO rfl hE110 hi150 hn151 h153 (by decide)
       obtain ⟨w154, p155, c156, vs157, hst158, hE159, hop160⟩ := hobt
       refine GoR.op (hop160 rfl rfl) rfl rfl ?_
       replace hE68 := hE68.ch hst158.ch
       replace hE141 := hE141.ch hst158.ch
       replace hO := hst158.own
       replace h_t := h_t.ch hst158.ch
       replace hi128 := hi128.ch hst158.ch
       replace hi150 := hi150.ch hst158.ch
       replace hB := hB.trans hst158.fr
       refine GoR.op ((op_nilCheck rfl) _) rfl rfl ?_
       refine GoR.op ((op_fieldAddr Try.underlying67 rfl ti23 rfl (by decide)) _) rfl rfl ?_
       have hobt := oblkSt (v := .slice p155 (n113 + 1) c156) (i := 3) 2 hO rfl rfl rfl
       obtain ⟨w162, hst163, hop164⟩ := hobt
       refine GoR.op (hop164 Try.underlying23 rfl ti23 rfl rfl) rfl rfl ?_
       replace hE159 := hE159.ch hst163.ch
       replace hE68 := hE68.ch hst163.ch
       replace hE141 := hE141.ch hst163.ch
       replace hO := hst163.own
       replace h_t := h_t.ch hst163.ch
       replace hi128 := hi128.ch hst163.ch
       replace hi150 := hi150.ch hst163.ch
       replace hB := hB.trans hst163.fr
       refine GoR.nil ?_
       refine Go1.fin0V Try.func91 rfl ?_
       refine hR132 _ _ ?_
       refine GoQ.nil ?_
       refine Go1.exit rfl ?_
       refine Go1.region ?_
       refine GoR.op ((op_move rfl) _) rfl rfl ?_
       obtain ⟨h165, H⟩ := H
       refine GoR.op ((op_add rfl rfl (wrap_i64 h165)) _) rfl rfl ?_
       refine GoR.op ((op_assign rfl) _) rfl rfl ?_
       refine GoR.nil ?_
       exact hX2 _ H _ _ ⟨n113 + 1, p155, c156, vs157, vs139, ⟨rfl, rfl, rfl, rfl, trivial⟩, hO, hE159, hE68, hE141, h_t, hB⟩
     ·replace H := ifn h118 H
      refine GoR.op ((fun w => opB (op_lss rfl rfl w) (decide_eq_false h118)) _) rfl rfl ?_
      refine GoR.nil ?_
      refine Go1.condF rfl rfl ?_
      refine Go1.skip ?_
      refine Go1.seq ?_
      refine Go1.region ?_
      refine GoR.op ((op_move rfl) _) rfl rfl ?_
      refine GoR.op ((op_nilCheck rfl) _) rfl rfl ?_
      refine GoR.op ((op_fieldAddr Try.underlying67 rfl ti23 rfl (by decide)) _) rfl rfl ?_
      refine GoR.op ((oblk 2 hO rfl rfl Try.underlying23 rfl rfl) _ (Same.refl _)) rfl rfl ?_
      refine GoR.op ((op_lenN Try.underlying23 rfl (hE68.neq hO 1 rfl)) _) rfl rfl ?_
      refine GoR.op ((op_move rfl) _) rfl rfl ?_
      refine GoR.nil ?_
      refine Go1.block ?_
      refine Go1.loopW (S := Nat × List Int × List Bool) (fun s σ w => ∃ (n173 : Nat), ∃ (p171 : Option Addr), ∃ (c172 : Nat), ∃ (vs169 : List Value), ∃ (vs175 : List Value), agrees σ [(0, .pointer (some ⟨B19, 0, none⟩)), (1, .int .i64 (k1_31 : Int)), (4, .int .i64 (d_32.length : Int)), (5, .int .i64 (k2_107 : Int)), (66, .slice p64 (n43 + 1) c65), (67, .int .i64 ((d_38 ++ ([(k1_31 : Int)])).length : Int)), (68, .int .i64 ((s.1) : Int))] ∧ Owns w0.heap.size w [.row 3 1 p171 n173 c172 vs169, .row 3 1 p64 (n43 + 1) c65 vs66, .blk B19 (.cells #[.slice p_t t.length c_t, .slice p64 (n43 + 1) c65, .slice p9 t.length t.length, .slice p171 n173 c172] 67 (0, 0)), .row 4 1 p9 t.length t.length vs175] A ∧ Els (Rp.int .i64) (bl [.row 3 1 p171 n173 c172 vs169, .row 3 1 p64 (n43 + 1) c65 vs66, .blk B19 (.cells #[.slice p_t t.length c_t, .slice p64 (n43 + 1) c65, .slice p9 t.length t.length, .slice p171 n173 c172] 67 (0, 0)), .row 4 1 p9 t.length t.length vs175] ++ A) w vs169 (s.2.1) ∧ Els (Rp.int .i64) (bl [.row 3 1 p171 n173 c172 vs169, .row 3 1 p64 (n43 + 1) c65 vs66, .blk B19 (.cells #[.slice p_t t.length c_t, .slice p64 (n43 + 1) c65, .slice p9 t.length t.length, .slice p171 n173 c172] 67 (0, 0)), .row 4 1 p9 t.length t.length vs175] ++ A) w vs66 (d_38 ++ ([(k1_31 : Int)])) ∧ Els (Rp.bool) (bl [.row 3 1 p171 n173 c172 vs169, .row 3 1 p64 (n43 + 1) c65 vs66, .blk B19 (.cells #[.slice p_t t.length c_t, .slice p64 (n43 + 1) c65, .slice p9 t.length t.length, .slice p171 n173 c172] 67 (0, 0)), .row 4 1 p9 t.length t.length vs175] ++ A) w vs175 (s.2.2) ∧ ISl (Rp.sl (Rp.int .i64)) (bl [.row 3 1 p171 n173 c172 vs169, .row 3 1 p64 (n43 + 1) c65 vs66, .blk B19 (.cells #[.slice p_t t.length c_t, .slice p64 (n43 + 1) c65, .slice p9 t.length t.length, .slice p171 n173 c172] 67 (0, 0)), .row 4 1 p9 t.length t.length vs175] ++ A) w p_t c_t t ∧ Fr (bl []) w0 (bl [.row 3 1 p171 n173 c172 vs169, .row 3 1 p64 (n43 + 1) c65 vs66, .blk B19 (.cells #[.slice p_t t.length c_t, .slice p64 (n43 + 1) c65, .slice p9 t.length t.length, .slice p171 n173 c172] 67 (0, 0)), .row 4 1 p9 t.length t.length vs175]) w) H ⟨n113, p111, c112, vs109, vs115, ⟨rfl, rfl, rfl, rfl, rfl, rfl, rfl, trivial⟩, hO, hE110, hE68, hE116, h_t, hB⟩ ?_
      rintro X3 ⟨k3_167, d_168, d_174⟩ H hX3 σ w166 ⟨n173, p171, c172, vs169, vs175, hag, hO, hE170, hE68, hE176, h_t, hB⟩
      dsimp only at H
      refine Go1.keep [(0, .pointer (some ⟨B19, 0, none⟩)), (1, .int .i64 (k1_31 : Int)), (4, .int .i64 (d_32.length : Int)), (5, .int .i64 (k2_107 : Int)), (66, .slice p64 (n43 + 1) c65), (67, .int .i64 ((d_38 ++ ([(k1_31 : Int)])).length : Int)), (68, .int .i64 (k3_167 : Int))] hag ?_
      refine Go1.seq ?_
      refine Go1.region ?_
      by_cases h177 : (k3_167 : Int) < ((d_38 ++ ([(k1_31 : Int)])).length : Int)
      ·replace H := ifp h177 H
       refine GoR.op ((fun w => opB (op_lss rfl rfl w) (decide_eq_true h177)) _) rfl rfl ?_
       refine GoR.nil ?_
       refine Go1.seq ?_
       refine Go1.condT rfl rfl ?_
       refine Go1.skip ?_
       refine Go1.seq ?_
       refine Go1.block ?_
       refine Go1.seq ?_
       refine Go1.region ?_
       obtain ⟨h178, H⟩ := H
       obtain ⟨h179, H⟩ := H
       refine GoR.op ((op_index Try.underlying23 ti3 rfl rfl h178 (ltn (hE68.neq hO 1 rfl) h179) (hE68.psome hO 1 rfl h178 h179)) _) rfl rfl ?_
       refine GoR.op ((oldInt 1 hO rfl hE68 h178 h179 Try.underlying3 rfl rfl) _ (Same.refl _)) rfl rfl ?_
       refine GoR.op ((op_assign rfl) _) rfl rfl ?_
       refine GoR.nil ?_
       refine Go1.drawS 7 [(0, .pure), (1, .pure), (2, .pure), (3, .pure), (4, .stable), (5, .pure), (6, .pure), (7, .pure), (8, .stable), (9, .pure), (10, .pure), (11, .stable), (12, .pure), (13, .stable), (14, .pure), (15, .pure), (16, .stable), (17, .last)] mixed (by kernel_rfl) ?_
       intro w180 hs181
       have hst182 := Stp.same hO hs181
       replace hE170 := hE170.ch hst182.ch
       replace hE68 := hE68.ch hst182.ch
       replace hE176 := hE176.ch hst182.ch
       replace hO := hst182.own
       replace h_t := h_t.ch hst182.ch
       replace hB := hB.trans hst182.fr
       refine GoQ.pure rfl (op_move rfl) rfl rfl ?_
       refine GoQ.pure rfl (op_move rfl) rfl rfl ?_
       refine GoQ.pure rfl (op_nilCheck rfl) rfl rfl ?_
       refine GoQ.pure rfl (op_fieldAddr Try.underlying67 rfl ti22 rfl (by decide)) rfl rfl ?_
       refine GoQ.stable rfl (oblk 2 hO rfl rfl Try.underlying22 rfl rfl) rfl rfl ?_
       refine GoQ.pure rfl (op_move rfl) rfl rfl ?_
       refine GoQ.pure rfl (op_nilCheck rfl) rfl rfl ?_
       refine GoQ.pure rfl (op_fieldAddr Try.underlying67 rfl ti23 rfl (by decide)) rfl rfl ?_
       refine GoQ.stable rfl (oblk 2 hO rfl rfl Try.underlying23 rfl rfl) rfl rfl ?_
       refine GoQ.pure rfl (op_move rfl) rfl rfl ?_
       obtain ⟨h183, H⟩ := H
       obtain ⟨h184, H⟩ := H
       refine GoQ.pure rfl (op_index Try.underlying23 ti3 rfl rfl h183 (ltn (hE170.neq hO 0 rfl) h184) (hE170.psome hO 0 rfl h183 h184)) rfl rfl ?_
       refine GoQ.stable rfl (oldInt 0 hO rfl hE170 h183 h184 Try.underlying3 rfl rfl) rfl rfl ?_
       obtain ⟨h185, H⟩ := H
       obtain ⟨h186, H⟩ := H
       refine GoQ.pure rfl (op_index Try.underlying22 ti23 rfl rfl h185 h186 (h_t.some_ h185 h186)) rfl rfl ?_
       have hobt := ldSl h_t h185 h186
       obtain ⟨p187, c188, hi189, hl190⟩ := hobt
       refine GoQ.stable rfl (hl190 Try.underlying23 rfl rfl) rfl rfl ?_
       refine GoQ.pure rfl (op_move rfl) rfl rfl ?_
       obtain ⟨h191, H⟩ := H
       obtain ⟨h192, H⟩ := H
       refine GoQ.pure rfl (op_index Try.underlying23 ti3 rfl rfl h191 h192 (hi189.some_ h191 h192)) rfl rfl ?_
       refine GoQ.stable rfl (ldInt hi189 h191 h192 Try.underlying3 rfl rfl) rfl rfl ?_
       refine GoQ.inl (vs := [.pointer (some ⟨B19, 0, none⟩), .int .i64 (ix (ix t (ix d_168 (k2_107 : Int))) (ix (d_38 ++ ([(k1_31 : Int)])) (k3_167 : Int)))]) (caps := []) rfl rfl rfl body91 Try.func91 rfl Try.ntmps91 rfl rfl rfl ?_
       intro RhR193 hR193
       refine Go1.seq ?_
       refine Go1.region ?_
       refine GoR.op ((op_move rfl) _) rfl rfl ?_
       refine GoR.op ((op_nilCheck rfl) _) rfl rfl ?_
       refine GoR.op ((op_fieldAddr Try.underlying67 rfl ti54 rfl (by decide)) _) rfl rfl ?_
       refine GoR.op ((oblk 2 hO rfl rfl Try.underlying54 rfl rfl) _ (Same.refl _)) rfl rfl ?_
       refine GoR.op ((op_move rfl) _) rfl rfl ?_
       obtain ⟨h194, H⟩ := H
       obtain ⟨h195, H⟩ := H
       refine GoR.op ((op_index Try.underlying54 ti4 rfl rfl h194 (ltn (hE176.neq hO 3 rfl) h195) (hE176.psome hO 3 rfl h194 h195)) _) rfl rfl ?_
       by_cases h196 : ix d_174 (ix (ix t (ix d_168 (k2_107 : Int))) (ix (d_38 ++ ([(k1_31 : Int)])) (k3_167 : Int))) = true
       ·replace H := ifp h196 H
        refine GoR.op (opB ((oldBool 3 hO rfl hE176 h194 h195 Try.underlying4 rfl rfl) _ (Same.refl _)) (h196)) rfl rfl ?_
        refine GoR.op ((op_not rfl) _) rfl rfl ?_
        refine GoR.nil ?_
        refine Go1.condF rfl rfl ?_
        refine Go1.skip ?_
        refine Go1.fin0V Try.func91 rfl ?_
        refine hR193 _ _ ?_
        refine GoQ.nil ?_
        refine Go1.inBlock ?_
        refine Go1.region ?_
        refine GoR.op ((op_add rfl rfl (wrap_i64 (natbd h177 hE68.bd))) _) rfl rfl ?_
        refine GoR.op ((op_move rfl) _) rfl rfl ?_
        refine GoR.nil ?_
        exact hX3 _ H _ _ ⟨n173, p171, c172, vs169, vs175, ⟨rfl, rfl, rfl, rfl, rfl, rfl, rfl, trivial⟩, hO, hE170, hE68, hE176, h_t, hB⟩
       ·replace H := ifn h196 H
        refine GoR.op (opB ((oldBool 3 hO rfl hE176 h194 h195 Try.underlying4 rfl rfl) _ (Same.refl _)) (Bool.eq_false_iff.2 h196)) rfl rfl ?_
        refine GoR.op ((op_not rfl) _) rfl rfl ?_
        refine GoR.nil ?_
        refine Go1.condT rfl rfl ?_
        refine Go1.seq ?_
        refine Go1.region ?_
        refine GoR.op ((op_move rfl) _) rfl rfl ?_
        refine GoR.op ((op_nilCheck rfl) _) rfl rfl ?_
        refine GoR.op ((op_fieldAddr Try.underlying67 rfl ti54 rfl (by decide)) _) rfl rfl ?_
        refine GoR.op ((oblk 2 hO rfl rfl Try.underlying54 rfl rfl) _ (Same.refl _)) rfl rfl ?_
        refine GoR.op ((op_move rfl) _) rfl rfl ?_
        obtain ⟨h197, H⟩ := H
        obtain ⟨h198, H⟩ := H
        refine GoR.op ((op_index Try.underlying54 ti4 rfl rfl h197 (ltn (hE176.neq hO 3 rfl) h198) (hE176.psome hO 3 rfl h197 h198)) _) rfl rfl ?_
        have hobt := ost (r := Rp.bool) rfl 3 hO rfl hE176 h197 h198 (v := .bool true) (u := true) rfl rfl
        obtain ⟨w199, vs200, hst201, hE202, hop203⟩ := hobt
        refine GoR.op (hop203 Try.underlying4 rfl ti4 rfl rfl) rfl rfl ?_
        replace hE170 := hE170.ch hst201.ch
        replace hE68 := hE68.ch hst201.ch
        replace hO := hst201.own
        replace h_t := h_t.ch hst201.ch
        replace hi189 := hi189.ch hst201.ch
        replace hB := hB.trans hst201.fr
        refine GoR.nil ?_
        refine Go1.region ?_
        refine GoR.op ((op_move rfl) _) rfl rfl ?_
        refine GoR.op ((op_move rfl) _) rfl rfl ?_
        refine GoR.op ((op_nilCheck rfl) _) rfl rfl ?_
        refine GoR.op ((op_fieldAddr Try.underlying67 rfl ti23 rfl (by decide)) _) rfl rfl ?_
        refine GoR.op ((oblk 2 hO rfl rfl Try.underlying23 rfl rfl) _ (Same.refl _)) rfl rfl ?_
        refine GoR.op ((op_move rfl) _) rfl rfl ?_
        have hobt := obuild (r := Rp.int .i64) (n := 1) (parts := [(0, .int .i64 (ix (ix t (ix d_168 (k2_107 : Int))) (ix (d_38 ++ ([(k1_31 : Int)])) (k3_167 : Int))))]) (vs := [.int .i64 (ix (ix t (ix d_168 (k2_107 : Int))) (ix (d_38 ++ ([(k1_31 : Int)])) (k3_167 : Int)))]) (xs := [(ix (ix t (ix d_168 (k2_107 : Int))) (ix (d_38 ++ ([(k1_31 : Int)])) (k3_167 : Int)))]) rfl Try.underlying23 ti3 hO (by decide) (by kernel_rfl) (Els.cons rfl rfl (Els.nil _ _ _) (by simp [mx])) rfl
        obtain ⟨w204, p205, hst206, hE207, hs208, hop209⟩ := hobt
        refine GoR.op (hop209 rfl) rfl rfl ?_
        replace hE170 := hE170.ch hst206.ch
        replace hE68 := hE68.ch hst206.ch
        replace hE202 := hE202.ch hst206.ch
        replace hO := hst206.own
        replace h_t := h_t.ch hst206.ch
        replace hi189 := hi189.ch hst206.ch
        replace hB := hB.trans hst206.fr
        have hobt := freeze 0 hO rfl hE207
        obtain ⟨hO1, hc213, hi211, hn212⟩ := hobt
        replace h_t := h_t.ch hc213
        replace hi189 := hi189.ch hc213
        replace hE170 := hE170.ch hc213
        replace hE68 := hE68.ch hc213
        replace hE202 := hE202.ch hc213
        replace hB := hB.trans (Owns.dropFr _ _ 0)
        replace hO := hO1; clear hO1
        obtain ⟨h214, H⟩ := H
        have hobt := oapp Try.underlying23 ti3 rfl 0 hO rfl hE170 hi211 hn212 h214 (by decide)
        obtain ⟨w215, p216, c217, vs218, hst219, hE220, hop221⟩ := hobt
        refine GoR.op (hop221 rfl rfl) rfl rfl ?_
        replace hE68 := hE68.ch hst219.ch
        replace hE202 := hE202.ch hst219.ch
        replace hO := hst219.own
        replace h_t := h_t.ch hst219.ch
        replace hi189 := hi189.ch hst219.ch
        replace hi211 := hi211.ch hst219.ch
        replace hB := hB.trans hst219.fr
        refine GoR.op ((op_nilCheck rfl) _) rfl rfl ?_
        refine GoR.op ((op_fieldAddr Try.underlying67 rfl ti23 rfl (by decide)) _) rfl rfl ?_
        have hobt := oblkSt (v := .slice p216 (n173 + 1) c217) (i := 3) 2 hO rfl rfl rfl
        obtain ⟨w223, hst224, hop225⟩ := hobt
        refine GoR.op (hop225 Try.underlying23 rfl ti23 rfl rfl) rfl rfl ?_
        replace hE220 := hE220.ch hst224.ch
        replace hE68 := hE68.ch hst224.ch
        replace hE202 := hE202.ch hst224.ch
        replace hO := hst224.own
        replace h_t := h_t.ch hst224.ch
        replace hi189 := hi189.ch hst224.ch
        replace hi211 := hi211.ch hst224.ch
        replace hB := hB.trans hst224.fr
        refine GoR.nil ?_
        refine Go1.fin0V Try.func91 rfl ?_
        refine hR193 _ _ ?_
        refine GoQ.nil ?_
        refine Go1.inBlock ?_
        refine Go1.region ?_
        refine GoR.op ((op_add rfl rfl (wrap_i64 (natbd h177 hE68.bd))) _) rfl rfl ?_
        refine GoR.op ((op_move rfl) _) rfl rfl ?_
        refine GoR.nil ?_
        exact hX3 _ H _ _ ⟨n173 + 1, p216, c217, vs218, vs200, ⟨rfl, rfl, rfl, rfl, rfl, rfl, rfl, trivial⟩, hO, hE220, hE68, hE202, h_t, hB⟩
      ·replace H := ifn h177 H
       refine GoR.op ((fun w => opB (op_lss rfl rfl w) (decide_eq_false h177)) _) rfl rfl ?_
       refine GoR.nil ?_
       refine Go1.seq ?_
       refine Go1.condF rfl rfl ?_
       refine Go1.exit rfl ?_
       refine Go1.inBlock ?_
       refine Go1.region ?_
       refine GoR.op ((op_move rfl) _) rfl rfl ?_
       obtain ⟨h226, H⟩ := H
       refine GoR.op ((op_add rfl rfl (wrap_i64 h226)) _) rfl rfl ?_
       refine GoR.op ((op_assign rfl) _) rfl rfl ?_
       refine GoR.nil ?_
       exact hX2 _ H _ _ ⟨n173, p171, c172, vs169, vs175, ⟨rfl, rfl, rfl, rfl, trivial⟩, hO, hE170, hE68, hE176, h_t, hB⟩
    ·replace H := ifn h117 H
     refine GoR.op ((fun w => opB (op_lss rfl rfl w) (decide_eq_false h117)) _) rfl rfl ?_
     refine GoR.nil ?_
     refine Go1.condF rfl rfl ?_
     refine Go1.exit rfl ?_
     refine Go1.fin0V Try.func83 rfl ?_
     refine hR48 _ _ ?_
     refine GoR.nil ?_
     refine Go1.inBlock ?_
     refine Go1.region ?_
     refine GoR.op ((op_add rfl rfl (wrap_i64 (natbd h47 h_t.bd))) _) rfl rfl ?_
     refine GoR.op ((op_move rfl) _) rfl rfl ?_
     refine GoR.nil ?_
     exact hX1 _ H _ _ ⟨n113, p111, c112, vs109, n43 + 1, p64, c65, vs66, vs115, ⟨rfl, rfl, rfl, trivial⟩, hO, hE110, hE68, hE116, h_t, hB⟩
  ·replace H := ifn h47 H
   refine GoR.op ((fun w => opB (op_lss rfl rfl w) (decide_eq_false h47)) _) rfl rfl ?_
   refine GoR.nil ?_
   refine Go1.seq ?_
   refine Go1.condF rfl rfl ?_
   refine Go1.exit rfl ?_
   refine Go1.seq ?_
   refine Go1.region ?_
   refine GoR.op ((op_move rfl) _) rfl rfl ?_
   refine GoR.op ((op_nilCheck rfl) _) rfl rfl ?_
   refine GoR.op ((op_fieldAddr Try.underlying67 rfl ti23 rfl (by decide)) _) rfl rfl ?_
   refine GoR.op ((oblk 2 hO rfl rfl Try.underlying23 rfl rfl) _ (Same.refl _)) rfl rfl ?_
   refine GoR.op ((op_assign rfl) _) rfl rfl ?_
   refine GoR.nil ?_
   have hobt := freeze 1 hO rfl hE40
   obtain ⟨hO1, hc229, hi227, hn228⟩ := hobt
   replace h_t := h_t.ch hc229
   replace hE34 := hE34.ch hc229
   replace hE46 := hE46.ch hc229
   replace hB := hB.trans (Owns.dropFr _ _ 1)
   replace hO := hO1; clear hO1
   refine Go1.ret1 Try.func51 rfl ?_
   exact ⟨d_38, p41, c42, ((congrArg (fun nn => Value.slice p41 nn c42) hn228)), hB.same, (hi227.ch (Ch.weak _ _ _)), H⟩
theorem body84 : Body Try.prog 84 := ⟨Try.f84, Try.func84, rfl, by kernel_rfl⟩
theorem body52 : Body Try.prog 52 := ⟨Try.f52, Try.func52, rfl, by kernel_rfl⟩
theorem walk_mult_Indecomposable {A : List Nat} {w0 : World} {p_t : Option Addr} {c_t : Nat} {t : List (List Int)} (hA : ∀ b ∈ A, b < w0.heap.size) (h_t : ISl (Rp.sl (Rp.int .i64)) A w0 p_t c_t t) {K : List Int → Prop} (H : mult_Indecomposable t K) :
    CallsV Try.prog 52 #[.slice p_t t.length c_t] w0 (fun v w' => ∃ (r0 : List Int), ∃ (p_r0 : Option Addr), ∃ (c_r0 : Nat), v = .slice p_r0 r0.length c_r0 ∧ Same w0 w' ∧ ISl (Rp.int .i64) A w' p_r0 c_r0 r0 ∧ K r0) := by
 refine CallsV.of (l := [.slice p_t t.length c_t]) Try.func52 rfl Try.ntmps52 rfl ?_
 have hO := Owns.start hA
 have hB := Fr.refl (bl []) w0
 unfold mult_Indecomposable at H
 replace h_t := h_t.ch (Ch.start A w0)
 refine Go1.seq ?_
 refine Go1.region ?_
 refine GoR.op ((op_assign rfl) _) rfl rfl ?_
 refine GoR.nil ?_
 refine Go1.seq ?_
 refine Go1.seq ?_
 refine Go1.region ?_
 refine GoR.op ((op_move rfl) _) rfl rfl ?_
 refine GoR.call (op_call body71 rfl (walk_mult_valid hO.lt h_t H)) rfl rfl ?_
 rintro v5 w2 ⟨r1, rfl, hs3, H⟩
 have hst6 := Stp.same hO hs3
 replace hO := hst6.own
 replace h_t := h_t.ch hst6.ch
 replace hB := hB.trans hst6.fr
 cases r1
 ·replace H := ifn Bool.false_ne_true H
  refine GoR.op ((op_not rfl) _) rfl rfl ?_
  refine GoR.nil ?_
  refine Go1.condT rfl rfl ?_
  refine Go1.seq ?_
  refine Go1.region ?_
  refine GoR.op ((op_assign rfl) _) rfl rfl ?_
  refine GoR.nil ?_
  refine Go1.ret1 Try.func52 rfl ?_
  exact ⟨([] : List Int), none, 0, rfl, hB.same, (ISl.null _ _ _), H⟩
 ·replace H := ifp rfl H
  refine GoR.op ((op_not rfl) _) rfl rfl ?_
  refine GoR.nil ?_
  refine Go1.condF rfl rfl ?_
  refine Go1.skip ?_
  refine Go1.seq ?_
  refine Go1.region ?_
  refine GoR.op ((op_move rfl) _) rfl rfl ?_
  refine GoR.op ((op_len Try.underlying22 rfl) _) rfl rfl ?_
  replace H := H h_t.bd
  obtain ⟨h14, H⟩ := H
  obtain ⟨h15, H⟩ := H
  have hobt := omake (n := (t.length : Int)) (r := Rp.bool) (d := false) Try.underlying54 ti4 (fun _ _ => rfl) rfl hO h14 h15 (by decide)
  obtain ⟨w7, p8, vs9, hst10, hE11, hs12, hop13⟩ := hobt
  refine GoR.op (hop13 rfl rfl) rfl rfl ?_
  replace hO := hst10.own
  replace h_t := h_t.ch hst10.ch
  replace hB := hB.trans hst10.fr
  have hobt := oalloc (t := 54) (cs := #[.slice none 0 0]) ti54 hO rfl
  obtain ⟨w17, B18, hst19, hs20, hop21⟩ := hobt
  refine GoR.op hop21 rfl rfl ?_
  replace hE11 := hE11.ch hst19.ch
  replace hO := hst19.own
  replace h_t := h_t.ch hst19.ch
  replace hB := hB.trans hst19.fr
  have hobt := oblkSt (v := .slice p8 t.length t.length) (i := 0) 0 hO rfl rfl rfl
  obtain ⟨w23, hst24, hop25⟩ := hobt
  refine GoR.op (hop25 Try.underlying54 rfl ti54 rfl rfl) rfl rfl ?_
  replace hE11 := hE11.ch hst24.ch
  replace hO := hst24.own
  replace h_t := h_t.ch hst24.ch
  replace hB := hB.trans hst24.fr
  refine GoR.nil ?_
  refine Go1.seq ?_
  refine Go1.seq ?_
  refine Go1.region ?_
  refine GoR.op ((op_move rfl) _) rfl rfl ?_
  refine GoR.op ((op_len Try.underlying22 rfl) _) rfl rfl ?_
  refine GoR.op ((op_move rfl) _) rfl rfl ?_
  refine GoR.nil ?_
  refine Go1.block ?_
  refine Go1.loopW (S := Nat × List Bool) (fun s σ w => ∃ (vs29 : List Value), agrees σ [(0, .slice p_t t.length c_t), (3, .pointer (some ⟨B18, 0, none⟩)), (14, .slice p_t t.length c_t), (15, .int .i64 (t.length : Int)), (16, .int .i64 ((s.1) : Int))] ∧ Owns w0.heap.size w [.blk B18 (.cells #[.slice p8 t.length t.length] 54 (0, 0)), .row 4 1 p8 t.length t.length vs29] A ∧ Els (Rp.bool) (bl [.blk B18 (.cells #[.slice p8 t.length t.length] 54 (0, 0)), .row 4 1 p8 t.length t.length vs29] ++ A) w vs29 (s.2) ∧ ISl (Rp.sl (Rp.int .i64)) (bl [.blk B18 (.cells #[.slice p8 t.length t.length] 54 (0, 0)), .row 4 1 p8 t.length t.length vs29] ++ A) w p_t c_t t ∧ Fr (bl []) w0 (bl [.blk B18 (.cells #[.slice p8 t.length t.length] 54 (0, 0)), .row 4 1 p8 t.length t.length vs29]) w) H ⟨vs9, ⟨rfl, rfl, rfl, rfl, rfl, trivial⟩, hO, hE11, h_t, hB⟩ ?_
  rintro X1 ⟨k1_27, d_28⟩ H hX1 σ w26 ⟨vs29, hag, hO, hE30, h_t, hB⟩
  dsimp only at H
  refine Go1.keep [(0, .slice p_t t.length c_t), (3, .pointer (some ⟨B18, 0, none⟩)), (14, .slice p_t t.length c_t), (15, .int .i64 (t.length : Int)), (16, .int .i64 (k1_27 : Int))] hag ?_
  refine Go1.seq ?_
  refine Go1.region ?_
  by_cases h31 : (k1_27 : Int) < (t.length : Int)
  ·replace H := ifp h31 H
   refine GoR.op ((fun w => opB (op_lss rfl rfl w) (decide_eq_true h31)) _) rfl rfl ?_
   refine GoR.nil ?_
   refine Go1.seq ?_
   refine Go1.condT rfl rfl ?_
   refine Go1.skip ?_
   refine Go1.seq ?_
   refine Go1.block ?_
   refine Go1.seq ?_
   refine Go1.region ?_
   obtain ⟨h32, H⟩ := H
   obtain ⟨h33, H⟩ := H
   refine GoR.op ((op_index Try.underlying22 ti23 rfl rfl h32 h33 (h_t.some_ h32 h33)) _) rfl rfl ?_
   have hobt := ldSl h_t h32 h33
   obtain ⟨p34, c35, hi36, hl37⟩ := hobt
   refine GoR.op ((hl37 Try.underlying23 rfl rfl) _ (Same.refl _)) rfl rfl ?_
   refine GoR.op ((op_assign rfl) _) rfl rfl ?_
   refine GoR.nil ?_
   refine Go1.seq ?_
   refine Go1.region ?_
   refine GoR.op ((op_move rfl) _) rfl rfl ?_
   refine GoR.op ((op_len Try.underlying23 rfl) _) rfl rfl ?_
   replace H := H hi36.bd
   refine GoR.op ((op_move rfl) _) rfl rfl ?_
   refine GoR.nil ?_
   refine Go1.block ?_
   refine Go1.loopW (S := Nat × List Bool) (fun s σ w => ∃ (vs41 : List Value), agrees σ [(0, .slice p_t t.length c_t), (3, .pointer (some ⟨B18, 0, none⟩)), (14, .slice p_t t.length c_t), (15, .int .i64 (t.length : Int)), (16, .int .i64 (k1_27 : Int)), (20, .slice p34 ((ix t (k1_27 : Int)).length) c35), (21, .int .i64 ((ix t (k1_27 : Int)).length : Int)), (22, .int .i64 ((s.1) : Int))] ∧ Owns w0.heap.size w [.blk B18 (.cells #[.slice p8 t.length t.length] 54 (0, 0)), .row 4 1 p8 t.length t.length vs41] A ∧ Els (Rp.bool) (bl [.blk B18 (.cells #[.slice p8 t.length t.length] 54 (0, 0)), .row 4 1 p8 t.length t.length vs41] ++ A) w vs41 (s.2) ∧ ISl (Rp.sl (Rp.int .i64)) (bl [.blk B18 (.cells #[.slice p8 t.length t.length] 54 (0, 0)), .row 4 1 p8 t.length t.length vs41] ++ A) w p_t c_t t ∧ ISl (Rp.int .i64) (bl [.blk B18 (.cells #[.slice p8 t.length t.length] 54 (0, 0)), .row 4 1 p8 t.length t.length vs41] ++ A) w p34 c35 (ix t (k1_27 : Int)) ∧ Fr (bl []) w0 (bl [.blk B18 (.cells #[.slice p8 t.length t.length] 54 (0, 0)), .row 4 1 p8 t.length t.length vs41]) w) H ⟨vs29, ⟨rfl, rfl, rfl, rfl, rfl, rfl, rfl, rfl, trivial⟩, hO, hE30, h_t, hi36, hB⟩ ?_
   rintro X2 ⟨k2_39, d_40⟩ H hX2 σ w38 ⟨vs41, hag, hO, hE42, h_t, hi36, hB⟩
   dsimp only at H
   refine Go1.keep [(0, .slice p_t t.length c_t), (3, .pointer (some ⟨B18, 0, none⟩)), (14, .slice p_t t.length c_t), (15, .int .i64 (t.length : Int)), (16, .int .i64 (k1_27 : Int)), (20, .slice p34 ((ix t (k1_27 : Int)).length) c35), (21, .int .i64 ((ix t (k1_27 : Int)).length : Int)), (22, .int .i64 (k2_39 : Int))] hag ?_
   refine Go1.seq ?_
   refine Go1.region ?_
   by_cases h43 : (k2_39 : Int) < ((ix t (k1_27 : Int)).length : Int)
   ·replace H := ifp h43 H
    refine GoR.op ((fun w => opB (op_lss rfl rfl w) (decide_eq_true h43)) _) rfl rfl ?_
    refine GoR.nil ?_
    refine Go1.seq ?_
    refine Go1.condT rfl rfl ?_
    refine Go1.skip ?_
    refine Go1.seq ?_
    refine Go1.block ?_
    refine Go1.seq ?_
    refine Go1.region ?_
    obtain ⟨h44, H⟩ := H
    obtain ⟨h45, H⟩ := H
    refine GoR.op ((op_index Try.underlying23 ti3 rfl rfl h44 h45 (hi36.some_ h44 h45)) _) rfl rfl ?_
    refine GoR.op ((ldInt hi36 h44 h45 Try.underlying3 rfl rfl) _ (Same.refl _)) rfl rfl ?_
    refine GoR.op ((op_assign rfl) _) rfl rfl ?_
    refine GoR.nil ?_
    refine Go1.region ?_
    refine GoR.op ((oblk 0 hO rfl rfl Try.underlying54 rfl rfl) _ (Same.refl _)) rfl rfl ?_
    refine GoR.op ((op_move rfl) _) rfl rfl ?_
    obtain ⟨h46, H⟩ := H
    obtain ⟨h47, H⟩ := H
    refine GoR.op ((op_index Try.underlying54 ti4 rfl rfl h46 (ltn (hE42.neq hO 1 rfl) h47) (hE42.psome hO 1 rfl h46 h47)) _) rfl rfl ?_
    have hobt := ost (r := Rp.bool) rfl 1 hO rfl hE42 h46 h47 (v := .bool true) (u := true) rfl rfl
    obtain ⟨w48, vs49, hst50, hE51, hop52⟩ := hobt
    refine GoR.op (hop52 Try.underlying4 rfl ti4 rfl rfl) rfl rfl ?_
    replace hO := hst50.own
    replace h_t := h_t.ch hst50.ch
    replace hi36 := hi36.ch hst50.ch
    replace hB := hB.trans hst50.fr
    refine GoR.nil ?_
    refine Go1.inBlock ?_
    refine Go1.region ?_
    refine GoR.op ((op_add rfl rfl (wrap_i64 (natbd h43 hi36.bd))) _) rfl rfl ?_
    refine GoR.op ((op_move rfl) _) rfl rfl ?_
    refine GoR.nil ?_
    exact hX2 _ H _ _ ⟨vs49, ⟨rfl, rfl, rfl, rfl, rfl, rfl, rfl, rfl, trivial⟩, hO, hE51, h_t, hi36, hB⟩
   ·replace H := ifn h43 H
    refine GoR.op ((fun w => opB (op_lss rfl rfl w) (decide_eq_false h43)) _) rfl rfl ?_
    refine GoR.nil ?_
    refine Go1.seq ?_
    refine Go1.condF rfl rfl ?_
    refine Go1.exit rfl ?_
    refine Go1.inBlock ?_
    refine Go1.region ?_
    refine GoR.op ((op_add rfl rfl (wrap_i64 (natbd h31 h_t.bd))) _) rfl rfl ?_
    refine GoR.op ((op_move rfl) _) rfl rfl ?_
    refine GoR.nil ?_
    exact hX1 _ H _ _ ⟨vs41, ⟨rfl, rfl, rfl, rfl, rfl, trivial⟩, hO, hE42, h_t, hB⟩
  ·replace H := ifn h31 H
   refine GoR.op ((fun w => opB (op_lss rfl rfl w) (decide_eq_false h31)) _) rfl rfl ?_
   refine GoR.nil ?_
   refine Go1.seq ?_
   refine Go1.condF rfl rfl ?_
   refine Go1.exit rfl ?_
   refine Go1.seq ?_
   refine Go1.region ?_
   refine GoR.op ((op_move rfl) _) rfl rfl ?_
   refine GoR.op ((op_makeFunc (vs := [.pointer (some ⟨B18, 0, none⟩)]) rfl) _) rfl rfl ?_
   refine GoR.inl (vs := [.slice p_t t.length c_t, .func (.func 84) #[] #[.pointer (some ⟨B18, 0, none⟩)]]) (caps := []) rfl rfl body76 Try.func76 rfl Try.ntmps76 rfl rfl rfl ?_
   intro RhR53 hR53
   refine Go1.seq ?_
   refine Go1.region ?_
   have hobt := obox (t := 60) (v := .func (.func 84) #[] #[.pointer (some ⟨B18, 0, none⟩)]) (cs := #[.func (.func 84) #[] #[.pointer (some ⟨B18, 0, none⟩)]]) hO rfl
   obtain ⟨w54, B55, hst56, hs57, hop58⟩ := hobt
   refine GoR.op (hop58 rfl) rfl rfl ?_
   replace hE30 := hE30.ch hst56.ch
   replace hO := hst56.own
   replace h_t := h_t.ch hst56.ch
   replace hB := hB.trans hst56.fr
   refine GoR.op ((op_assign rfl) _) rfl rfl ?_
   refine GoR.nil ?_
   refine Go1.seq ?_
   refine Go1.seq ?_
   refine Go1.region ?_
   refine GoR.op ((op_move rfl) _) rfl rfl ?_
   refine GoR.call (op_call body71 rfl (walk_mult_valid hO.lt h_t H)) rfl rfl ?_
   rintro v64 w61 ⟨r60, rfl, hs62, H⟩
   have hst65 := Stp.same hO hs62
   replace hE30 := hE30.ch hst65.ch
   replace hO := hst65.own
   replace h_t := h_t.ch hst65.ch
   replace hB := hB.trans hst65.fr
   cases r60
   ·replace H := ifn Bool.false_ne_true H
    refine GoR.op ((op_not rfl) _) rfl rfl ?_
    refine GoR.nil ?_
    refine Go1.condT rfl rfl ?_
    refine Go1.seq ?_
    refine Go1.region ?_
    refine GoR.op ((op_assign rfl) _) rfl rfl ?_
    refine GoR.nil ?_
    refine Go1.ret1V Try.func76 rfl (show _ = .slice none 0 0 from rfl) ?_
    refine hR53 _ _ ?_
    refine GoR.op ((op_assign rfl) _) rfl rfl ?_
    refine GoR.nil ?_
    refine Go1.ret1 Try.func52 rfl ?_
    exact ⟨([] : List Int), none, 0, rfl, hB.same, (ISl.null _ _ _), H⟩
   ·replace H := ifp rfl H
    refine GoR.op ((op_not rfl) _) rfl rfl ?_
    refine GoR.nil ?_
    refine Go1.condF rfl rfl ?_
    refine Go1.skip ?_
    refine Go1.seq ?_
    refine Go1.region ?_
    refine GoR.op ((op_move rfl) _) rfl rfl ?_
    refine GoR.call (op_call body73 rfl (walk_mult_elements hO.lt h_t H)) rfl rfl ?_
    rintro v71 w68 ⟨r66, n_r66, p_r66, c_r66, vs_r66, rfl, hs69, hN70, hE67, H⟩
    have hst72 := Stp.more hO hs69 hN70
    replace hE30 := hE30.ch hst72.ch
    replace hO := hst72.own
    replace h_t := h_t.ch hst72.ch
    replace hB := hB.trans hst72.fr
    replace hE67 := hE67.ch (Ch.assoc _ _ _ _)
    refine GoR.op ((op_makeFunc (vs := [.pointer (some ⟨B55, 0, none⟩)]) rfl) _) rfl rfl ?_
    refine GoR.inl (vs := [.slice p_r66 n_r66 c_r66, .func (.func 90) #[] #[.pointer (some ⟨B55, 0, none⟩)]]) (caps := []) rfl rfl body89 Try.func89 rfl Try.ntmps89 rfl rfl rfl ?_
    intro RhR74 hR74
    refine Go1.seq ?_
    refine Go1.region ?_
    refine GoR.op ((op_assign rfl) _) rfl rfl ?_
    refine GoR.nil ?_
    refine Go1.seq ?_
    refine Go1.region ?_
    refine GoR.op ((op_move rfl) _) rfl rfl ?_
    refine GoR.op ((op_move rfl) _) rfl rfl ?_
    refine GoR.inl (vs := [.slice p_r66 n_r66 c_r66, .func (.func 90) #[] #[.pointer (some ⟨B55, 0, none⟩)]]) (caps := []) rfl rfl body72 Try.func72 rfl Try.ntmps72 rfl rfl rfl ?_
    intro RhR75 hR75
    refine Go1.seq ?_
    refine Go1.region ?_
    refine GoR.op ((op_assign rfl) _) rfl rfl ?_
    refine GoR.nil ?_
    refine Go1.seq ?_
    refine Go1.seq ?_
    refine Go1.region ?_
    refine GoR.op ((op_move rfl) _) rfl rfl ?_
    refine GoR.op ((op_lenN Try.underlying23 rfl (hE67.neq hO 0 rfl)) _) rfl rfl ?_
    refine GoR.op ((op_move rfl) _) rfl rfl ?_
    refine GoR.nil ?_
    refine Go1.block ?_
    refine Go1.loopW (S := Nat) (fun s σ w => agrees σ [(0, .slice p_r66 n_r66 c_r66), (1, .func (.func 90) #[] #[.pointer (some ⟨B55, 0, none⟩)]), (7, .int .i64 (r66.length : Int)), (8, .int .i64 (s : Int))] ∧ Owns w0.heap.size w [.row 3 1 p_r66 n_r66 c_r66 vs_r66, .blk B55 (.cells #[.func (.func 84) #[] #[.pointer (some ⟨B18, 0, none⟩)]] 60 (0, 0)), .blk B18 (.cells #[.slice p8 t.length t.length] 54 (0, 0)), .row 4 1 p8 t.length t.length vs29] A ∧ Els (Rp.int .i64) (bl [.row 3 1 p_r66 n_r66 c_r66 vs_r66, .blk B55 (.cells #[.func (.func 84) #[] #[.pointer (some ⟨B18, 0, none⟩)]] 60 (0, 0)), .blk B18 (.cells #[.slice p8 t.length t.length] 54 (0, 0)), .row 4 1 p8 t.length t.length vs29] ++ A) w vs_r66 r66 ∧ Els (Rp.bool) (bl [.row 3 1 p_r66 n_r66 c_r66 vs_r66, .blk B55 (.cells #[.func (.func 84) #[] #[.pointer (some ⟨B18, 0, none⟩)]] 60 (0, 0)), .blk B18 (.cells #[.slice p8 t.length t.length] 54 (0, 0)), .row 4 1 p8 t.length t.length vs29] ++ A) w vs29 d_28 ∧ Fr (bl []) w0 (bl [.row 3 1 p_r66 n_r66 c_r66 vs_r66, .blk B55 (.cells #[.func (.func 84) #[] #[.pointer (some ⟨B18, 0, none⟩)]] 60 (0, 0)), .blk B18 (.cells #[.slice p8 t.length t.length] 54 (0, 0)), .row 4 1 p8 t.length t.length vs29]) w) H ⟨⟨rfl, rfl, rfl, rfl, trivial⟩, hO, hE67, hE30, hB⟩ ?_
    rintro X3 k3_77 H hX3 σ w76 ⟨hag, hO, hE67, hE30, hB⟩
    refine Go1.keep [(0, .slice p_r66 n_r66 c_r66), (1, .func (.func 90) #[] #[.pointer (some ⟨B55, 0, none⟩)]), (7, .int .i64 (r66.length : Int)), (8, .int .i64 (k3_77 : Int))] hag ?_
    refine Go1.seq ?_
    refine Go1.region ?_
    by_cases h78 : (k3_77 : Int) < (r66.length : Int)
    ·replace H := ifp h78 H
     refine GoR.op ((fun w => opB (op_lss rfl rfl w) (decide_eq_true h78)) _) rfl rfl ?_
     refine GoR.nil ?_
     refine Go1.seq ?_
     refine Go1.condT rfl rfl ?_
     refine Go1.skip ?_
     refine Go1.seq ?_
     refine Go1.block ?_
     refine Go1.seq ?_
     refine Go1.region ?_
     refine GoR.op ((op_move rfl) _) rfl rfl ?_
     refine GoR.op ((op_assign rfl) _) rfl rfl ?_
     refine GoR.nil ?_
     refine Go1.seq ?_
     refine Go1.region ?_
     refine GoR.op ((op_move rfl) _) rfl rfl ?_
     refine GoR.op ((op_move rfl) _) rfl rfl ?_
     refine GoR.op ((op_move rfl) _) rfl rfl ?_
     obtain ⟨h79, H⟩ := H
     obtain ⟨h80, H⟩ := H
     refine GoR.op ((op_index Try.underlying23 ti3 rfl rfl h79 (ltn (hE67.neq hO 0 rfl) h80) (hE67.psome hO 0 rfl h79 h80)) _) rfl rfl ?_
     refine GoR.op ((oldInt 0 hO rfl hE67 h79 h80 Try.underlying3 rfl rfl) _ (Same.refl _)) rfl rfl ?_
     refine GoR.inl (vs := [.int .i64 (ix r66 (k3_77 : Int))]) (caps := [.pointer (some ⟨B55, 0, none⟩)]) rfl rfl body90 Try.func90 rfl Try.ntmps90 rfl rfl rfl ?_
     intro RhR81 hR81
     refine Go1.seq ?_
     refine Go1.region ?_
     refine GoR.op ((op_assign rfl) _) rfl rfl ?_
     refine GoR.nil ?_
     refine Go1.seq ?_
     refine Go1.region ?_
     refine GoR.op ((oblk 1 hO rfl rfl Try.underlying60 rfl rfl) _ (Same.refl _)) rfl rfl ?_
     refine GoR.op ((op_move rfl) _) rfl rfl ?_
     refine GoR.inl (vs := [.int .i64 (ix r66 (k3_77 : Int))]) (caps := [.pointer (some ⟨B18, 0, none⟩)]) rfl rfl body84 Try.func84 rfl Try.ntmps84 rfl rfl rfl ?_
     intro RhR82 hR82
     refine Go1.seq ?_
     refine Go1.region ?_
     refine GoR.op ((op_assign rfl) _) rfl rfl ?_
     refine GoR.nil ?_
     refine Go1.seq ?_
     refine Go1.region ?_
     refine GoR.op ((oblk 2 hO rfl rfl Try.underlying54 rfl rfl) _ (Same.refl _)) rfl rfl ?_
     refine GoR.op ((op_move rfl) _) rfl rfl ?_
     obtain ⟨h83, H⟩ := H
     obtain ⟨h84, H⟩ := H
     refine GoR.op ((op_index Try.underlying54 ti4 rfl rfl h83 (ltn (hE30.neq hO 3 rfl) h84) (hE30.psome hO 3 rfl h83 h84)) _) rfl rfl ?_
     by_cases h85 : ix d_28 (ix r66 (k3_77 : Int)) = true
     ·replace H := ifp h85 H
      refine GoR.op (opB ((oldBool 3 hO rfl hE30 h83 h84 Try.underlying4 rfl rfl) _ (Same.refl _)) (h85)) rfl rfl ?_
      refine GoR.op ((op_not rfl) _) rfl rfl ?_
      refine GoR.op ((op_assign rfl) _) rfl rfl ?_
      refine GoR.nil ?_
      refine Go1.ret1V Try.func84 rfl (show _ = .bool false from rfl) ?_
      refine hR82 _ _ ?_
      refine GoR.op ((op_not rfl) _) rfl rfl ?_
      refine GoR.op ((op_assign rfl) _) rfl rfl ?_
      refine GoR.nil ?_
      refine Go1.ret1V Try.func90 rfl (show _ = .bool true from rfl) ?_
      refine hR81 _ _ ?_
      refine GoR.nil ?_
      refine Go1.condT rfl rfl ?_
      refine Go1.seq ?_
      refine Go1.region ?_
      refine GoR.op ((op_move rfl) _) rfl rfl ?_
      refine GoR.op ((op_assign rfl) _) rfl rfl ?_
      refine GoR.nil ?_
      refine Go1.ret1V Try.func72 rfl (show _ = .int .i64 (k3_77 : Int) from rfl) ?_
      refine hR75 _ _ ?_
      refine GoR.op ((op_assign rfl) _) rfl rfl ?_
      refine GoR.nil ?_
      refine Go1.seq ?_
      refine Go1.seq ?_
      refine Go1.region ?_
      refine GoR.op ((op_move rfl) _) rfl rfl ?_
      by_cases h86 : (k3_77 : Int) = (-1 : Int)
      ·replace H := ifp h86 H
       refine GoR.op ((fun w => opB (op_eql rfl rfl w) (decide_eq_true h86)) _) rfl rfl ?_
       refine GoR.nil ?_
       refine Go1.condT rfl rfl ?_
       refine Go1.seq ?_
       refine Go1.region ?_
       refine GoR.op ((op_move rfl) _) rfl rfl ?_
       refine GoR.op ((op_assign rfl) _) rfl rfl ?_
       refine GoR.nil ?_
       refine Go1.ret1V Try.func89 rfl (show _ = .slice p_r66 n_r66 c_r66 from rfl) ?_
       refine hR74 _ _ ?_
       refine GoR.op ((op_assign rfl) _) rfl rfl ?_
       refine GoR.nil ?_
       refine Go1.ret1V Try.func76 rfl (show _ = .slice p_r66 n_r66 c_r66 from rfl) ?_
       refine hR53 _ _ ?_
       refine GoR.op ((op_assign rfl) _) rfl rfl ?_
       refine GoR.nil ?_
       have hobt := freeze 0 hO rfl hE67
       obtain ⟨hO1, hc89, hi87, hn88⟩ := hobt
       replace hE30 := hE30.ch hc89
       replace hB := hB.trans (Owns.dropFr _ _ 0)
       replace hO := hO1; clear hO1
       refine Go1.ret1 Try.func52 rfl ?_
       exact ⟨r66, p_r66, c_r66, ((congrArg (fun nn => Value.slice p_r66 nn c_r66) hn88)), hB.same, (hi87.ch (Ch.weak _ _ _)), H⟩
      ·replace H := ifn h86 H
       refine GoR.op ((fun w => opB (op_eql rfl rfl w) (decide_eq_false h86)) _) rfl rfl ?_
       refine GoR.nil ?_
       refine Go1.condF rfl rfl ?_
       refine Go1.skip ?_
       refine Go1.seq ?_
       refine Go1.seq ?_
       refine Go1.region ?_
       refine GoR.op ((op_move rfl) _) rfl rfl ?_
       refine GoR.op ((op_add rfl rfl (wrap_i64 (natbd h78 hE67.bd))) _) rfl rfl ?_
       refine GoR.op ((op_assign rfl) _) rfl rfl ?_
       refine GoR.nil ?_
       refine Go1.block ?_
       refine Go1.loopW (S := Nat × Nat × List Int) (fun s σ w => ∃ (vs94 : List Value), agrees σ [(0, .slice p_r66 n_r66 c_r66), (1, .func (.func 90) #[] #[.pointer (some ⟨B55, 0, none⟩)]), (5, .int .i64 ((s.1) : Int)), (6, .int .i64 ((s.2.1) : Int))] ∧ Owns w0.heap.size w [.row 3 1 p_r66 n_r66 c_r66 vs94, .blk B55 (.cells #[.func (.func 84) #[] #[.pointer (some ⟨B18, 0, none⟩)]] 60 (0, 0)), .blk B18 (.cells #[.slice p8 t.length t.length] 54 (0, 0)), .row 4 1 p8 t.length t.length vs29] A ∧ Els (Rp.int .i64) (bl [.row 3 1 p_r66 n_r66 c_r66 vs94, .blk B55 (.cells #[.func (.func 84) #[] #[.pointer (some ⟨B18, 0, none⟩)]] 60 (0, 0)), .blk B18 (.cells #[.slice p8 t.length t.length] 54 (0, 0)), .row 4 1 p8 t.length t.length vs29] ++ A) w vs94 (s.2.2) ∧ Els (Rp.bool) (bl [.row 3 1 p_r66 n_r66 c_r66 vs94, .blk B55 (.cells #[.func (.func 84) #[] #[.pointer (some ⟨B18, 0, none⟩)]] 60 (0, 0)), .blk B18 (.cells #[.slice p8 t.length t.length] 54 (0, 0)), .row 4 1 p8 t.length t.length vs29] ++ A) w vs29 d_28 ∧ Fr (bl []) w0 (bl [.row 3 1 p_r66 n_r66 c_r66 vs94, .blk B55 (.cells #[.func (.func 84) #[] #[.pointer (some ⟨B18, 0, none⟩)]] 60 (0, 0)), .blk B18 (.cells #[.slice p8 t.length t.length] 54 (0, 0)), .row 4 1 p8 t.length t.length vs29]) w) H ⟨vs_r66, ⟨rfl, rfl, rfl, rfl, trivial⟩, hO, hE67, hE30, hB⟩ ?_
       rintro X4 ⟨i4_91, j4_92, s4_93⟩ H hX4 σ w90 ⟨vs94, hag, hO, hE95, hE30, hB⟩
       dsimp only at H
       refine Go1.keep [(0, .slice p_r66 n_r66 c_r66), (1, .func (.func 90) #[] #[.pointer (some ⟨B55, 0, none⟩)]), (5, .int .i64 (i4_91 : Int)), (6, .int .i64 (j4_92 : Int))] hag ?_
       refine Go1.seq ?_
       refine Go1.seq ?_
       refine Go1.region ?_
       refine GoR.op ((op_move rfl) _) rfl rfl ?_
       refine GoR.op ((op_move rfl) _) rfl rfl ?_
       refine GoR.op ((op_lenN Try.underlying23 rfl (hE95.neq hO 0 rfl)) _) rfl rfl ?_
       by_cases h96 : (j4_92 : Int) < (s4_93.length : Int)
       ·replace H := ifp h96 H
        refine GoR.op ((fun w => opB (op_lss rfl rfl w) (decide_eq_true h96)) _) rfl rfl ?_
        refine GoR.nil ?_
        refine Go1.condT rfl rfl ?_
        refine Go1.skip ?_
        refine Go1.seq ?_
        refine Go1.block ?_
        refine Go1.seq ?_
        refine Go1.region ?_
        refine GoR.op ((op_move rfl) _) rfl rfl ?_
        refine GoR.op ((op_move rfl) _) rfl rfl ?_
        obtain ⟨h97, H⟩ := H
        obtain ⟨h98, H⟩ := H
        refine GoR.op ((op_index Try.underlying23 ti3 rfl rfl h97 (ltn (hE95.neq hO 0 rfl) h98) (hE95.psome hO 0 rfl h97 h98)) _) rfl rfl ?_
        refine GoR.op ((oldInt 0 hO rfl hE95 h97 h98 Try.underlying3 rfl rfl) _ (Same.refl _)) rfl rfl ?_
        refine GoR.op ((op_assign rfl) _) rfl rfl ?_
        refine GoR.nil ?_
        refine Go1.seq ?_
        refine Go1.region ?_
        refine GoR.op ((op_move rfl) _) rfl rfl ?_
        refine GoR.op ((op_move rfl) _) rfl rfl ?_
        refine GoR.inl (vs := [.int .i64 (ix s4_93 (j4_92 : Int))]) (caps := [.pointer (some ⟨B55, 0, none⟩)]) rfl rfl body90 Try.func90 rfl Try.ntmps90 rfl rfl rfl ?_
        intro RhR99 hR99
        refine Go1.seq ?_
        refine Go1.region ?_
        refine GoR.op ((op_assign rfl) _) rfl rfl ?_
        refine GoR.nil ?_
        refine Go1.seq ?_
        refine Go1.region ?_
        refine GoR.op ((oblk 1 hO rfl rfl Try.underlying60 rfl rfl) _ (Same.refl _)) rfl rfl ?_
        refine GoR.op ((op_move rfl) _) rfl rfl ?_
        refine GoR.inl (vs := [.int .i64 (ix s4_93 (j4_92 : Int))]) (caps := [.pointer (some ⟨B18, 0, none⟩)]) rfl rfl body84 Try.func84 rfl Try.ntmps84 rfl rfl rfl ?_
        intro RhR100 hR100
        refine Go1.seq ?_
        refine Go1.region ?_
        refine GoR.op ((op_assign rfl) _) rfl rfl ?_
        refine GoR.nil ?_
        refine Go1.seq ?_
        refine Go1.region ?_
        refine GoR.op ((oblk 2 hO rfl rfl Try.underlying54 rfl rfl) _ (Same.refl _)) rfl rfl ?_
        refine GoR.op ((op_move rfl) _) rfl rfl ?_
        obtain ⟨h101, H⟩ := H
        obtain ⟨h102, H⟩ := H
        refine GoR.op ((op_index Try.underlying54 ti4 rfl rfl h101 (ltn (hE30.neq hO 3 rfl) h102) (hE30.psome hO 3 rfl h101 h102)) _) rfl rfl ?_
        by_cases h103 : ix d_28 (ix s4_93 (j4_92 : Int)) = true
        ·replace H := ifp h103 H
         refine GoR.op (opB ((oldBool 3 hO rfl hE30 h101 h102 Try.underlying4 rfl rfl) _ (Same.refl _)) (h103)) rfl rfl ?_
         refine GoR.op ((op_not rfl) _) rfl rfl ?_
         refine GoR.op ((op_assign rfl) _) rfl rfl ?_
         refine GoR.nil ?_
         refine Go1.ret1V Try.func84 rfl (show _ = .bool false from rfl) ?_
         refine hR100 _ _ ?_
         refine GoR.op ((op_not rfl) _) rfl rfl ?_
         refine GoR.op ((op_assign rfl) _) rfl rfl ?_
         refine GoR.nil ?_
         refine Go1.ret1V Try.func90 rfl (show _ = .bool true from rfl) ?_
         refine hR99 _ _ ?_
         refine GoR.op ((op_not rfl) _) rfl rfl ?_
         refine GoR.nil ?_
         refine Go1.condF rfl rfl ?_
         refine Go1.skip ?_
         refine Go1.inBlock ?_
         refine Go1.region ?_
         refine GoR.op ((op_move rfl) _) rfl rfl ?_
         refine GoR.op ((op_add rfl rfl (wrap_i64 (natbd h96 hE95.bd))) _) rfl rfl ?_
         refine GoR.op ((op_assign rfl) _) rfl rfl ?_
         refine GoR.nil ?_
         exact hX4 _ H _ _ ⟨vs94, ⟨rfl, rfl, rfl, rfl, trivial⟩, hO, hE95, hE30, hB⟩
        ·replace H := ifn h103 H
         refine GoR.op (opB ((oldBool 3 hO rfl hE30 h101 h102 Try.underlying4 rfl rfl) _ (Same.refl _)) (Bool.eq_false_iff.2 h103)) rfl rfl ?_
         refine GoR.op ((op_not rfl) _) rfl rfl ?_
         refine GoR.op ((op_assign rfl) _) rfl rfl ?_
         refine GoR.nil ?_
         refine Go1.ret1V Try.func84 rfl (show _ = .bool true from rfl) ?_
         refine hR100 _ _ ?_
         refine GoR.op ((op_not rfl) _) rfl rfl ?_
         refine GoR.op ((op_assign rfl) _) rfl rfl ?_
         refine GoR.nil ?_
         refine Go1.ret1V Try.func90 rfl (show _ = .bool false from rfl) ?_
         refine hR99 _ _ ?_
         refine GoR.op ((op_not rfl) _) rfl rfl ?_
         refine GoR.nil ?_
         refine Go1.condT rfl rfl ?_
         refine Go1.seq ?_
         refine Go1.region ?_
         refine GoR.op ((op_move rfl) _) rfl rfl ?_
         refine GoR.op ((op_move rfl) _) rfl rfl ?_
         refine GoR.op ((op_move rfl) _) rfl rfl ?_
         obtain ⟨h104, H⟩ := H
         obtain ⟨h105, H⟩ := H
         refine GoR.op ((op_index Try.underlying23 ti3 rfl rfl h104 (ltn (hE95.neq hO 0 rfl) h105) (hE95.psome hO 0 rfl h104 h105)) _) rfl rfl ?_
         have hobt := ost (r := Rp.int .i64) rfl 0 hO rfl hE95 h104 h105 (v := .int .i64 (ix s4_93 (j4_92 : Int))) (u := (ix s4_93 (j4_92 : Int))) rfl rfl
         obtain ⟨w106, vs107, hst108, hE109, hop110⟩ := hobt
         refine GoR.op (hop110 Try.underlying3 rfl ti3 rfl rfl) rfl rfl ?_
         replace hE30 := hE30.ch hst108.ch
         replace hO := hst108.own
         replace hB := hB.trans hst108.fr
         refine GoR.nil ?_
         refine Go1.region ?_
         refine GoR.op ((op_move rfl) _) rfl rfl ?_
         obtain ⟨h111, H⟩ := H
         refine GoR.op ((op_add rfl rfl (wrap_i64 h111)) _) rfl rfl ?_
         refine GoR.op ((op_assign rfl) _) rfl rfl ?_
         refine GoR.nil ?_
         refine Go1.inBlock ?_
         refine Go1.region ?_
         refine GoR.op ((op_move rfl) _) rfl rfl ?_
         obtain ⟨h112, H⟩ := H
         refine GoR.op ((op_add rfl rfl (wrap_i64 h112)) _) rfl rfl ?_
         refine GoR.op ((op_assign rfl) _) rfl rfl ?_
         refine GoR.nil ?_
         exact hX4 _ H _ _ ⟨vs107, ⟨rfl, rfl, rfl, rfl, trivial⟩, hO, hE109, hE30, hB⟩
       ·replace H := ifn h96 H
        refine GoR.op ((fun w => opB (op_lss rfl rfl w) (decide_eq_false h96)) _) rfl rfl ?_
        refine GoR.nil ?_
        refine Go1.condF rfl rfl ?_
        refine Go1.exit rfl ?_
        refine Go1.seq ?_
        refine Go1.region ?_
        refine GoR.op ((op_move rfl) _) rfl rfl ?_
        refine GoR.op ((op_move rfl) _) rfl rfl ?_
        obtain ⟨h113, H⟩ := H
        obtain ⟨h114, H⟩ := H
        refine GoR.op ((op_sliceFrom Try.underlying23 ti3 rfl rfl h113 (lenle (hE95.neq hO 0 rfl) h114)) _) rfl rfl ?_
        have hobt := oclear (Fl.int .i64) rfl (d := (0 : Int)) Try.underlying23 ti3 rfl rfl (fun _ _ => rfl) 0 hO rfl hE95 h113 h114
        obtain ⟨w115, vs116, hst117, hE118, hop119⟩ := hobt
        refine GoR.op (hop119 rfl) rfl rfl ?_
        replace hE30 := hE30.ch hst117.ch
        replace hO := hst117.own
        replace hB := hB.trans hst117.fr
        refine GoR.nil ?_
        refine Go1.seq ?_
        refine Go1.region ?_
        refine GoR.op ((op_move rfl) _) rfl rfl ?_
        refine GoR.op ((op_move rfl) _) rfl rfl ?_
        obtain ⟨h120, H⟩ := H
        obtain ⟨h121, H⟩ := H
        have hal122 := AL.start 0 hO rfl hE118 ((i4_91 : Int)).toNat
        refine GoR.op ((op_sliceTo Try.underlying23 ti3 rfl rfl h120 (Els.lec 0 hO rfl hE118 h121)) _) rfl rfl ?_
        refine GoR.op ((op_assign rfl) _) rfl rfl ?_
        refine GoR.nil ?_
        refine Go1.ret1V Try.func89 rfl (show _ = .slice p_r66 (((i4_91 : Int)).toNat) c_r66 from rfl) ?_
        refine hR74 _ _ ?_
        refine GoR.op ((op_assign rfl) _) rfl rfl ?_
        refine GoR.nil ?_
        refine Go1.ret1V Try.func76 rfl (show _ = .slice p_r66 (((i4_91 : Int)).toNat) c_r66 from rfl) ?_
        refine hR53 _ _ ?_
        refine GoR.op ((op_assign rfl) _) rfl rfl ?_
        refine GoR.nil ?_
        have hobt := freezeHead 0 hO rfl hE118 ((i4_91 : Int)).toNat
        obtain ⟨hO1, hc124, hi123⟩ := hobt
        replace hE30 := hE30.ch hc124
        replace hB := hB.trans (Owns.dropFr _ _ 0)
        replace hO := hO1; clear hO1
        refine Go1.ret1 Try.func52 rfl ?_
        exact ⟨(s4_93.take (i4_91 : Int).toNat ++ List.replicate (s4_93.length - (i4_91 : Int).toNat) ((0 : Int))).take ((i4_91 : Int)).toNat, p_r66, c_r66, ((congrArg (fun nn => Value.slice p_r66 nn c_r66) (takeLen h120 h121))), hB.same, (hi123.ch (Ch.weak _ _ _)), H⟩
     ·replace H := ifn h85 H
      refine GoR.op (opB ((oldBool 3 hO rfl hE30 h83 h84 Try.underlying4 rfl rfl) _ (Same.refl _)) (Bool.eq_false_iff.2 h85)) rfl rfl ?_
      refine GoR.op ((op_not rfl) _) rfl rfl ?_
      refine GoR.op ((op_assign rfl) _) rfl rfl ?_
      refine GoR.nil ?_
      refine Go1.ret1V Try.func84 rfl (show _ = .bool true from rfl) ?_
      refine hR82 _ _ ?_
      refine GoR.op ((op_not rfl) _) rfl rfl ?_
      refine GoR.op ((op_assign rfl) _) rfl rfl ?_
      refine GoR.nil ?_
      refine Go1.ret1V Try.func90 rfl (show _ = .bool false from rfl) ?_
      refine hR81 _ _ ?_
      refine GoR.nil ?_
      refine Go1.condF rfl rfl ?_
      refine Go1.skip ?_
      refine Go1.inBlock ?_
      refine Go1.region ?_
      refine GoR.op ((op_add rfl rfl (wrap_i64 (natbd h78 hE67.bd))) _) rfl rfl ?_
      refine GoR.op ((op_move rfl) _) rfl rfl ?_
      refine GoR.nil ?_
      exact hX3 _ H _ _ ⟨⟨rfl, rfl, rfl, rfl, trivial⟩, hO, hE67, hE30, hB⟩
    ·replace H := ifn h78 H
     refine GoR.op ((fun w => opB (op_lss rfl rfl w) (decide_eq_false h78)) _) rfl rfl ?_
     refine GoR.nil ?_
     refine Go1.seq ?_
     refine Go1.condF rfl rfl ?_
     refine Go1.exit rfl ?_
     refine Go1.seq ?_
     refine Go1.region ?_
     refine GoR.op ((op_assign rfl) _) rfl rfl ?_
     refine GoR.nil ?_
     refine Go1.ret1V Try.func72 rfl (show _ = .int .i64 (-1 : Int) from rfl) ?_
     refine hR75 _ _ ?_
     refine GoR.op ((op_assign rfl) _) rfl rfl ?_
     refine GoR.nil ?_
     refine Go1.seq ?_
     refine Go1.seq ?_
     refine Go1.region ?_
     refine GoR.op ((op_move rfl) _) rfl rfl ?_
     by_cases h125 : (-1 : Int) = (-1 : Int)
     ·replace H := ifp h125 H
      refine GoR.op ((fun w => opB (op_eql rfl rfl w) (decide_eq_true h125)) _) rfl rfl ?_
      refine GoR.nil ?_
      refine Go1.condT rfl rfl ?_
      refine Go1.seq ?_
      refine Go1.region ?_
      refine GoR.op ((op_move rfl) _) rfl rfl ?_
      refine GoR.op ((op_assign rfl) _) rfl rfl ?_
      refine GoR.nil ?_
      refine Go1.ret1V Try.func89 rfl (show _ = .slice p_r66 n_r66 c_r66 from rfl) ?_
      refine hR74 _ _ ?_
      refine GoR.op ((op_assign rfl) _) rfl rfl ?_
      refine GoR.nil ?_
      refine Go1.ret1V Try.func76 rfl (show _ = .slice p_r66 n_r66 c_r66 from rfl) ?_
      refine hR53 _ _ ?_
      refine GoR.op ((op_assign rfl) _) rfl rfl ?_
      refine GoR.nil ?_
      have hobt := freeze 0 hO rfl hE67
      obtain ⟨hO1, hc128, hi126, hn127⟩ := hobt
      replace hE30 := hE30.ch hc128
      replace hB := hB.trans (Owns.dropFr _ _ 0)
      replace hO := hO1; clear hO1
      refine Go1.ret1 Try.func52 rfl ?_
      exact ⟨r66, p_r66, c_r66, ((congrArg (fun nn => Value.slice p_r66 nn c_r66) hn127)), hB.same, (hi126.ch (Ch.weak _ _ _)), H⟩
     ·replace H := ifn h125 H
      refine GoR.op ((fun w => opB (op_eql rfl rfl w) (decide_eq_false h125)) _) rfl rfl ?_
      refine GoR.nil ?_
      refine Go1.condF rfl rfl ?_
      refine Go1.skip ?_
      refine Go1.seq ?_
      refine Go1.seq ?_
      refine Go1.region ?_
      refine GoR.op ((op_move rfl) _) rfl rfl ?_
      obtain ⟨h129, H⟩ := H
      refine GoR.op ((op_add rfl rfl (wrap_i64 h129)) _) rfl rfl ?_
      refine GoR.op ((op_assign rfl) _) rfl rfl ?_
      refine GoR.nil ?_
      refine Go1.block ?_
      refine Go1.loopW (S := Int × Int × List Int) (fun s σ w => ∃ (vs134 : List Value), agrees σ [(0, .slice p_r66 n_r66 c_r66), (1, .func (.func 90) #[] #[.pointer (some ⟨B55, 0, none⟩)]), (5, .int .i64 (s.1)), (6, .int .i64 (s.2.1))] ∧ Owns w0.heap.size w [.row 3 1 p_r66 n_r66 c_r66 vs134, .blk B55 (.cells #[.func (.func 84) #[] #[.pointer (some ⟨B18, 0, none⟩)]] 60 (0, 0)), .blk B18 (.cells #[.slice p8 t.length t.length] 54 (0, 0)), .row 4 1 p8 t.length t.length vs29] A ∧ Els (Rp.int .i64) (bl [.row 3 1 p_r66 n_r66 c_r66 vs134, .blk B55 (.cells #[.func (.func 84) #[] #[.pointer (some ⟨B18, 0, none⟩)]] 60 (0, 0)), .blk B18 (.cells #[.slice p8 t.length t.length] 54 (0, 0)), .row 4 1 p8 t.length t.length vs29] ++ A) w vs134 (s.2.2) ∧ Els (Rp.bool) (bl [.row 3 1 p_r66 n_r66 c_r66 vs134, .blk B55 (.cells #[.func (.func 84) #[] #[.pointer (some ⟨B18, 0, none⟩)]] 60 (0, 0)), .blk B18 (.cells #[.slice p8 t.length t.length] 54 (0, 0)), .row 4 1 p8 t.length t.length vs29] ++ A) w vs29 d_28 ∧ Fr (bl []) w0 (bl [.row 3 1 p_r66 n_r66 c_r66 vs134, .blk B55 (.cells #[.func (.func 84) #[] #[.pointer (some ⟨B18, 0, none⟩)]] 60 (0, 0)), .blk B18 (.cells #[.slice p8 t.length t.length] 54 (0, 0)), .row 4 1 p8 t.length t.length vs29]) w) H ⟨vs_r66, ⟨rfl, rfl, rfl, rfl, trivial⟩, hO, hE67, hE30, hB⟩ ?_
      rintro X5 ⟨i5_131, j5_132, s5_133⟩ H hX5 σ w130 ⟨vs134, hag, hO, hE135, hE30, hB⟩
      dsimp only at H
      refine Go1.keep [(0, .slice p_r66 n_r66 c_r66), (1, .func (.func 90) #[] #[.pointer (some ⟨B55, 0, none⟩)]), (5, .int .i64 i5_131), (6, .int .i64 j5_132)] hag ?_
      refine Go1.seq ?_
      refine Go1.seq ?_
      refine Go1.region ?_
      refine GoR.op ((op_move rfl) _) rfl rfl ?_
      refine GoR.op ((op_move rfl) _) rfl rfl ?_
      refine GoR.op ((op_lenN Try.underlying23 rfl (hE135.neq hO 0 rfl)) _) rfl rfl ?_
      by_cases h136 : j5_132 < (s5_133.length : Int)
      ·replace H := ifp h136 H
       refine GoR.op ((fun w => opB (op_lss rfl rfl w) (decide_eq_true h136)) _) rfl rfl ?_
       refine GoR.nil ?_
       refine Go1.condT rfl rfl ?_
       refine Go1.skip ?_
       refine Go1.seq ?_
       refine Go1.block ?_
       refine Go1.seq ?_
       refine Go1.region ?_
       refine GoR.op ((op_move rfl) _) rfl rfl ?_
       refine GoR.op ((op_move rfl) _) rfl rfl ?_
       obtain ⟨h137, H⟩ := H
       obtain ⟨h138, H⟩ := H
       refine GoR.op ((op_index Try.underlying23 ti3 rfl rfl h137 (ltn (hE135.neq hO 0 rfl) h138) (hE135.psome hO 0 rfl h137 h138)) _) rfl rfl ?_
       refine GoR.op ((oldInt 0 hO rfl hE135 h137 h138 Try.underlying3 rfl rfl) _ (Same.refl _)) rfl rfl ?_
       refine GoR.op ((op_assign rfl) _) rfl rfl ?_
       refine GoR.nil ?_
       refine Go1.seq ?_
       refine Go1.region ?_
       refine GoR.op ((op_move rfl) _) rfl rfl ?_
       refine GoR.op ((op_move rfl) _) rfl rfl ?_
       refine GoR.inl (vs := [.int .i64 (ix s5_133 j5_132)]) (caps := [.pointer (some ⟨B55, 0, none⟩)]) rfl rfl body90 Try.func90 rfl Try.ntmps90 rfl rfl rfl ?_
       intro RhR139 hR139
       refine Go1.seq ?_
       refine Go1.region ?_
       refine GoR.op ((op_assign rfl) _) rfl rfl ?_
       refine GoR.nil ?_
       refine Go1.seq ?_
       refine Go1.region ?_
       refine GoR.op ((oblk 1 hO rfl rfl Try.underlying60 rfl rfl) _ (Same.refl _)) rfl rfl ?_
       refine GoR.op ((op_move rfl) _) rfl rfl ?_
       refine GoR.inl (vs := [.int .i64 (ix s5_133 j5_132)]) (caps := [.pointer (some ⟨B18, 0, none⟩)]) rfl rfl body84 Try.func84 rfl Try.ntmps84 rfl rfl rfl ?_
       intro RhR140 hR140
       refine Go1.seq ?_
       refine Go1.region ?_
       refine GoR.op ((op_assign rfl) _) rfl rfl ?_
       refine GoR.nil ?_
       refine Go1.seq ?_
       refine Go1.region ?_
       refine GoR.op ((oblk 2 hO rfl rfl Try.underlying54 rfl rfl) _ (Same.refl _)) rfl rfl ?_
       refine GoR.op ((op_move rfl) _) rfl rfl ?_
       obtain ⟨h141, H⟩ := H
       obtain ⟨h142, H⟩ := H
       refine GoR.op ((op_index Try.underlying54 ti4 rfl rfl h141 (ltn (hE30.neq hO 3 rfl) h142) (hE30.psome hO 3 rfl h141 h142)) _) rfl rfl ?_
       by_cases h143 : ix d_28 (ix s5_133 j5_132) = true
       ·replace H := ifp h143 H
        refine GoR.op (opB ((oldBool 3 hO rfl hE30 h141 h142 Try.underlying4 rfl rfl) _ (Same.refl _)) (h143)) rfl rfl ?_
        refine GoR.op ((op_not rfl) _) rfl rfl ?_
        refine GoR.op ((op_assign rfl) _) rfl rfl ?_
        refine GoR.nil ?_
        refine Go1.ret1V Try.func84 rfl (show _ = .bool false from rfl) ?_
        refine hR140 _ _ ?_
        refine GoR.op ((op_not rfl) _) rfl rfl ?_
        refine GoR.op ((op_assign rfl) _) rfl rfl ?_
        refine GoR.nil ?_
        refine Go1.ret1V Try.func90 rfl (show _ = .bool true from rfl) ?_
        refine hR139 _ _ ?_
        refine GoR.op ((op_not rfl) _) rfl rfl ?_
        refine GoR.nil ?_
        refine Go1.condF rfl rfl ?_
        refine Go1.skip ?_
        refine Go1.inBlock ?_
        refine Go1.region ?_
        refine GoR.op ((op_move rfl) _) rfl rfl ?_
        obtain ⟨h144, H⟩ := H
        refine GoR.op ((op_add rfl rfl (wrap_i64 h144)) _) rfl rfl ?_
        refine GoR.op ((op_assign rfl) _) rfl rfl ?_
        refine GoR.nil ?_
        exact hX5 _ H _ _ ⟨vs134, ⟨rfl, rfl, rfl, rfl, trivial⟩, hO, hE135, hE30, hB⟩
       ·replace H := ifn h143 H
        refine GoR.op (opB ((oldBool 3 hO rfl hE30 h141 h142 Try.underlying4 rfl rfl) _ (Same.refl _)) (Bool.eq_false_iff.2 h143)) rfl rfl ?_
        refine GoR.op ((op_not rfl) _) rfl rfl ?_
        refine GoR.op ((op_assign rfl) _) rfl rfl ?_
        refine GoR.nil ?_
        refine Go1.ret1V Try.func84 rfl (show _ = .bool true from rfl) ?_
        refine hR140 _ _ ?_
        refine GoR.op ((op_not rfl) _) rfl rfl ?_
        refine GoR.op ((op_assign rfl) _) rfl rfl ?_
        refine GoR.nil ?_
        refine Go1.ret1V Try.func90 rfl (show _ = .bool false from rfl) ?_
        refine hR139 _ _ ?_
        refine GoR.op ((op_not rfl) _) rfl rfl ?_
        refine GoR.nil ?_
        refine Go1.condT rfl rfl ?_
        refine Go1.seq ?_
        refine Go1.region ?_
        refine GoR.op ((op_move rfl) _) rfl rfl ?_
        refine GoR.op ((op_move rfl) _) rfl rfl ?_
        refine GoR.op ((op_move rfl) _) rfl rfl ?_
        obtain ⟨h145, H⟩ := H
        obtain ⟨h146, H⟩ := H
        refine GoR.op ((op_index Try.underlying23 ti3 rfl rfl h145 (ltn (hE135.neq hO 0 rfl) h146) (hE135.psome hO 0 rfl h145 h146)) _) rfl rfl ?_
        have hobt := ost (r := Rp.int .i64) rfl 0 hO rfl hE135 h145 h146 (v := .int .i64 (ix s5_133 j5_132)) (u := (ix s5_133 j5_132)) rfl rfl
        obtain ⟨w147, vs148, hst149, hE150, hop151⟩ := hobt
        refine GoR.op (hop151 Try.underlying3 rfl ti3 rfl rfl) rfl rfl ?_
        replace hE30 := hE30.ch hst149.ch
        replace hO := hst149.own
        replace hB := hB.trans hst149.fr
        refine GoR.nil ?_
        refine Go1.region ?_
        refine GoR.op ((op_move rfl) _) rfl rfl ?_
        obtain ⟨h152, H⟩ := H
        refine GoR.op ((op_add rfl rfl (wrap_i64 h152)) _) rfl rfl ?_
        refine GoR.op ((op_assign rfl) _) rfl rfl ?_
        refine GoR.nil ?_
        refine Go1.inBlock ?_
        refine Go1.region ?_
        refine GoR.op ((op_move rfl) _) rfl rfl ?_
        obtain ⟨h153, H⟩ := H
        refine GoR.op ((op_add rfl rfl (wrap_i64 h153)) _) rfl rfl ?_
        refine GoR.op ((op_assign rfl) _) rfl rfl ?_
        refine GoR.nil ?_
        exact hX5 _ H _ _ ⟨vs148, ⟨rfl, rfl, rfl, rfl, trivial⟩, hO, hE150, hE30, hB⟩
      ·replace H := ifn h136 H
       refine GoR.op ((fun w => opB (op_lss rfl rfl w) (decide_eq_false h136)) _) rfl rfl ?_
       refine GoR.nil ?_
       refine Go1.condF rfl rfl ?_
       refine Go1.exit rfl ?_
       refine Go1.seq ?_
       refine Go1.region ?_
       refine GoR.op ((op_move rfl) _) rfl rfl ?_
       refine GoR.op ((op_move rfl) _) rfl rfl ?_
       obtain ⟨h154, H⟩ := H
       obtain ⟨h155, H⟩ := H
       refine GoR.op ((op_sliceFrom Try.underlying23 ti3 rfl rfl h154 (lenle (hE135.neq hO 0 rfl) h155)) _) rfl rfl ?_
       have hobt := oclear (Fl.int .i64) rfl (d := (0 : Int)) Try.underlying23 ti3 rfl rfl (fun _ _ => rfl) 0 hO rfl hE135 h154 h155
       obtain ⟨w156, vs157, hst158, hE159, hop160⟩ := hobt
       refine GoR.op (hop160 rfl) rfl rfl ?_
       replace hE30 := hE30.ch hst158.ch
       replace hO := hst158.own
       replace hB := hB.trans hst158.fr
       refine GoR.nil ?_
       refine Go1.seq ?_
       refine Go1.region ?_
       refine GoR.op ((op_move rfl) _) rfl rfl ?_
       refine GoR.op ((op_move rfl) _) rfl rfl ?_
       obtain ⟨h161, H⟩ := H
       obtain ⟨h162, H⟩ := H
       have hal163 := AL.start 0 hO rfl hE159 (i5_131).toNat
       refine GoR.op ((op_sliceTo Try.underlying23 ti3 rfl rfl h161 (Els.lec 0 hO rfl hE159 h162)) _) rfl rfl ?_
       refine GoR.op ((op_assign rfl) _) rfl rfl ?_
       refine GoR.nil ?_
       refine Go1.ret1V Try.func89 rfl (show _ = .slice p_r66 ((i5_131).toNat) c_r66 from rfl) ?_
       refine hR74 _ _ ?_
       refine GoR.op ((op_assign rfl) _) rfl rfl ?_
       refine GoR.nil ?_
       refine Go1.ret1V Try.func76 rfl (show _ = .slice p_r66 ((i5_131).toNat) c_r66 from rfl) ?_
       refine hR53 _ _ ?_
       refine GoR.op ((op_assign rfl) _) rfl rfl ?_
       refine GoR.nil ?_
       have hobt := freezeHead 0 hO rfl hE159 (i5_131).toNat
       obtain ⟨hO1, hc165, hi164⟩ := hobt
       replace hE30 := hE30.ch hc165
       replace hB := hB.trans (Owns.dropFr _ _ 0)
       replace hO := hO1; clear hO1
       refine Go1.ret1 Try.func52 rfl ?_
       exact ⟨(s5_133.take i5_131.toNat ++ List.replicate (s5_133.length - i5_131.toNat) ((0 : Int))).take (i5_131).toNat, p_r66, c_r66, ((congrArg (fun nn => Value.slice p_r66 nn c_r66) (takeLen h161 h162))), hB.same, (hi164.ch (Ch.weak _ _ _)), H⟩
theorem body85 : Body Try.prog 85 := ⟨Try.f85, Try.func85, rfl, by kernel_rfl⟩
theorem body53 : Body Try.prog 53 := ⟨Try.f53, Try.func53, rfl, by kernel_rfl⟩
theorem walk_mult_Center {A : List Nat} {w0 : World} {p_t : Option Addr} {c_t : Nat} {t : List (List Int)} (hA : ∀ b ∈ A, b < w0.heap.size) (h_t : ISl (Rp.sl (Rp.int .i64)) A w0 p_t c_t t) {K : List Int → Prop} (H : mult_Center t K) :
    CallsV Try.prog 53 #[.slice p_t t.length c_t] w0 (fun v w' => ∃ (r0 : List Int), ∃ (p_r0 : Option Addr), ∃ (c_r0 : Nat), v = .slice p_r0 r0.length c_r0 ∧ Same w0 w' ∧ ISl (Rp.int .i64) A w' p_r0 c_r0 r0 ∧ K r0) := by
 refine CallsV.of (l := [.slice p_t t.length c_t]) Try.func53 rfl Try.ntmps53 rfl ?_
 have hO := Owns.start hA
 have hB := Fr.refl (bl []) w0
 unfold mult_Center at H
 replace h_t := h_t.ch (Ch.start A w0)
 refine Go1.seq ?_
 refine Go1.region ?_
 have hobt := obox (t := 22) (v := .slice p_t t.length c_t) (cs := #[.slice p_t t.length c_t]) hO rfl
 obtain ⟨w1, B2, hst3, hs4, hop5⟩ := hobt
 refine GoR.op (hop5 rfl) rfl rfl ?_
 replace hO := hst3.own
 replace h_t := h_t.ch hst3.ch
 replace hB := hB.trans hst3.fr
 refine GoR.op ((op_assign rfl) _) rfl rfl ?_
 refine GoR.nil ?_
 refine Go1.seq ?_
 refine Go1.region ?_
 refine GoR.op ((oblk 0 hO rfl rfl Try.underlying22 rfl rfl) _ (Same.refl _)) rfl rfl ?_
 refine GoR.op ((op_makeFunc (vs := [.pointer (some ⟨B2, 0, none⟩)]) rfl) _) rfl rfl ?_
 refine GoR.inl (vs := [.slice p_t t.length c_t, .func (.func 85) #[] #[.pointer (some ⟨B2, 0, none⟩)]]) (caps := []) rfl rfl body76 Try.func76 rfl Try.ntmps76 rfl rfl rfl ?_
 intro RhR7 hR7
 refine Go1.seq ?_
 refine Go1.region ?_
 have hobt := obox (t := 60) (v := .func (.func 85) #[] #[.pointer (some ⟨B2, 0, none⟩)]) (cs := #[.func (.func 85) #[] #[.pointer (some ⟨B2, 0, none⟩)]]) hO rfl
 obtain ⟨w8, B9, hst10, hs11, hop12⟩ := hobt
 refine GoR.op (hop12 rfl) rfl rfl ?_
 replace hO := hst10.own
 replace h_t := h_t.ch hst10.ch
 replace hB := hB.trans hst10.fr
 refine GoR.op ((op_assign rfl) _) rfl rfl ?_
 refine GoR.nil ?_
 refine Go1.seq ?_
 refine Go1.seq ?_
 refine Go1.region ?_
 refine GoR.op ((op_move rfl) _) rfl rfl ?_
 refine GoR.call (op_call body71 rfl (walk_mult_valid hO.lt h_t H)) rfl rfl ?_
 rintro v18 w15 ⟨r14, rfl, hs16, H⟩
 have hst19 := Stp.same hO hs16
 replace hO := hst19.own
 replace h_t := h_t.ch hst19.ch
 replace hB := hB.trans hst19.fr
 cases r14
 ·replace H := ifn Bool.false_ne_true H
  refine GoR.op ((op_not rfl) _) rfl rfl ?_
  refine GoR.nil ?_
  refine Go1.condT rfl rfl ?_
  refine Go1.seq ?_
  refine Go1.region ?_
  refine GoR.op ((op_assign rfl) _) rfl rfl ?_
  refine GoR.nil ?_
  refine Go1.ret1V Try.func76 rfl (show _ = .slice none 0 0 from rfl) ?_
  refine hR7 _ _ ?_
  refine GoR.op ((op_assign rfl) _) rfl rfl ?_
  refine GoR.nil ?_
  refine Go1.ret1 Try.func53 rfl ?_
  exact ⟨([] : List Int), none, 0, rfl, hB.same, (ISl.null _ _ _), H⟩
 ·replace H := ifp rfl H
  refine GoR.op ((op_not rfl) _) rfl rfl ?_
  refine GoR.nil ?_
  refine Go1.condF rfl rfl ?_
  refine Go1.skip ?_
  refine Go1.seq ?_
  refine Go1.region ?_
  refine GoR.op ((op_move rfl) _) rfl rfl ?_
  refine GoR.call (op_call body73 rfl (walk_mult_elements hO.lt h_t H)) rfl rfl ?_
  rintro v25 w22 ⟨r20, n_r20, p_r20, c_r20, vs_r20, rfl, hs23, hN24, hE21, H⟩
  have hst26 := Stp.more hO hs23 hN24
  replace hO := hst26.own
  replace h_t := h_t.ch hst26.ch
  replace hB := hB.trans hst26.fr
  replace hE21 := hE21.ch (Ch.assoc _ _ _ _)
  refine GoR.op ((op_makeFunc (vs := [.pointer (some ⟨B9, 0, none⟩)]) rfl) _) rfl rfl ?_
  refine GoR.inl (vs := [.slice p_r20 n_r20 c_r20, .func (.func 90) #[] #[.pointer (some ⟨B9, 0, none⟩)]]) (caps := []) rfl rfl body89 Try.func89 rfl Try.ntmps89 rfl rfl rfl ?_
  intro RhR28 hR28
  refine Go1.seq ?_
  refine Go1.region ?_
  refine GoR.op ((op_assign rfl) _) rfl rfl ?_
  refine GoR.nil ?_
  refine Go1.seq ?_
  refine Go1.region ?_
  refine GoR.op ((op_move rfl) _) rfl rfl ?_
  refine GoR.op ((op_move rfl) _) rfl rfl ?_
  refine GoR.inl (vs := [.slice p_r20 n_r20 c_r20, .func (.func 90) #[] #[.pointer (some ⟨B9, 0, none⟩)]]) (caps := []) rfl rfl body72 Try.func72 rfl Try.ntmps72 rfl rfl rfl ?_
  intro RhR29 hR29
  refine Go1.seq ?_
  refine Go1.region ?_
  refine GoR.op ((op_assign rfl) _) rfl rfl ?_
  refine GoR.nil ?_
  refine Go1.seq ?_
  refine Go1.seq ?_
  refine Go1.region ?_
  refine GoR.op ((op_move rfl) _) rfl rfl ?_
  refine GoR.op ((op_lenN Try.underlying23 rfl (hE21.neq hO 0 rfl)) _) rfl rfl ?_
  refine GoR.op ((op_move rfl) _) rfl rfl ?_
  refine GoR.nil ?_
  refine Go1.block ?_
  refine Go1.loopW (S := Nat) (fun s σ w => agrees σ [(0, .slice p_r20 n_r20 c_r20), (1, .func (.func 90) #[] #[.pointer (some ⟨B9, 0, none⟩)]), (7, .int .i64 (r20.length : Int)), (8, .int .i64 (s : Int))] ∧ Owns w0.heap.size w [.row 3 1 p_r20 n_r20 c_r20 vs_r20, .blk B9 (.cells #[.func (.func 85) #[] #[.pointer (some ⟨B2, 0, none⟩)]] 60 (0, 0)), .blk B2 (.cells #[.slice p_t t.length c_t] 22 (0, 0))] A ∧ Els (Rp.int .i64) (bl [.row 3 1 p_r20 n_r20 c_r20 vs_r20, .blk B9 (.cells #[.func (.func 85) #[] #[.pointer (some ⟨B2, 0, none⟩)]] 60 (0, 0)), .blk B2 (.cells #[.slice p_t t.length c_t] 22 (0, 0))] ++ A) w vs_r20 r20 ∧ ISl (Rp.sl (Rp.int .i64)) (bl [.row 3 1 p_r20 n_r20 c_r20 vs_r20, .blk B9 (.cells #[.func (.func 85) #[] #[.pointer (some ⟨B2, 0, none⟩)]] 60 (0, 0)), .blk B2 (.cells #[.slice p_t t.length c_t] 22 (0, 0))] ++ A) w p_t c_t t ∧ Fr (bl []) w0 (bl [.row 3 1 p_r20 n_r20 c_r20 vs_r20, .blk B9 (.cells #[.func (.func 85) #[] #[.pointer (some ⟨B2, 0, none⟩)]] 60 (0, 0)), .blk B2 (.cells #[.slice p_t t.length c_t] 22 (0, 0))]) w) H ⟨⟨rfl, rfl, rfl, rfl, trivial⟩, hO, hE21, h_t, hB⟩ ?_
  rintro X1 k1_31 H hX1 σ w30 ⟨hag, hO, hE21, h_t, hB⟩
  refine Go1.keep [(0, .slice p_r20 n_r20 c_r20), (1, .func (.func 90) #[] #[.pointer (some ⟨B9, 0, none⟩)]), (7, .int .i64 (r20.length : Int)), (8, .int .i64 (k1_31 : Int))] hag ?_
  refine Go1.seq ?_
  refine Go1.region ?_
  by_cases h32 : (k1_31 : Int) < (r20.length : Int)
  ·replace H := ifp h32 H
   refine GoR.op ((fun w => opB (op_lss rfl rfl w) (decide_eq_true h32)) _) rfl rfl ?_
   refine GoR.nil ?_
   refine Go1.seq ?_
   refine Go1.condT rfl rfl ?_
   refine Go1.skip ?_
   refine Go1.seq ?_
   refine Go1.block ?_
   refine Go1.seq ?_
   refine Go1.region ?_
   refine GoR.op ((op_move rfl) _) rfl rfl ?_
   refine GoR.op ((op_assign rfl) _) rfl rfl ?_
   refine GoR.nil ?_
   refine Go1.seq ?_
   refine Go1.region ?_
   refine GoR.op ((op_move rfl) _) rfl rfl ?_
   refine GoR.op ((op_move rfl) _) rfl rfl ?_
   refine GoR.op ((op_move rfl) _) rfl rfl ?_
   obtain ⟨h33, H⟩ := H
   obtain ⟨h34, H⟩ := H
   refine GoR.op ((op_index Try.underlying23 ti3 rfl rfl h33 (ltn (hE21.neq hO 0 rfl) h34) (hE21.psome hO 0 rfl h33 h34)) _) rfl rfl ?_
   refine GoR.op ((oldInt 0 hO rfl hE21 h33 h34 Try.underlying3 rfl rfl) _ (Same.refl _)) rfl rfl ?_
   refine GoR.inl (vs := [.int .i64 (ix r20 (k1_31 : Int))]) (caps := [.pointer (some ⟨B9, 0, none⟩)]) rfl rfl body90 Try.func90 rfl Try.ntmps90 rfl rfl rfl ?_
   intro RhR35 hR35
   refine Go1.seq ?_
   refine Go1.region ?_
   refine GoR.op ((op_assign rfl) _) rfl rfl ?_
   refine GoR.nil ?_
   refine Go1.seq ?_
   refine Go1.region ?_
   refine GoR.op ((oblk 1 hO rfl rfl Try.underlying60 rfl rfl) _ (Same.refl _)) rfl rfl ?_
   refine GoR.op ((op_move rfl) _) rfl rfl ?_
   refine GoR.inl (vs := [.int .i64 (ix r20 (k1_31 : Int))]) (caps := [.pointer (some ⟨B2, 0, none⟩)]) rfl rfl body85 Try.func85 rfl Try.ntmps85 rfl rfl rfl ?_
   intro RhR36 hR36
   refine Go1.seq ?_
   refine Go1.region ?_
   refine GoR.op ((op_assign rfl) _) rfl rfl ?_
   refine GoR.nil ?_
   refine Go1.seq ?_
   refine Go1.seq ?_
   refine Go1.region ?_
   refine GoR.op ((oblk 2 hO rfl rfl Try.underlying22 rfl rfl) _ (Same.refl _)) rfl rfl ?_
   refine GoR.op ((op_len Try.underlying22 rfl) _) rfl rfl ?_
   replace H := H h_t.bd
   refine GoR.op ((op_move rfl) _) rfl rfl ?_
   refine GoR.nil ?_
   refine Go1.block ?_
   refine Go1.loopW (S := Nat) (fun s σ w => agrees σ [(0, .int .i64 (ix r20 (k1_31 : Int))), (1, .pointer (some ⟨B2, 0, none⟩)), (6, .int .i64 (t.length : Int)), (7, .int .i64 (s : Int))] ∧ Owns w0.heap.size w [.row 3 1 p_r20 n_r20 c_r20 vs_r20, .blk B9 (.cells #[.func (.func 85) #[] #[.pointer (some ⟨B2, 0, none⟩)]] 60 (0, 0)), .blk B2 (.cells #[.slice p_t t.length c_t] 22 (0, 0))] A ∧ Els (Rp.int .i64) (bl [.row 3 1 p_r20 n_r20 c_r20 vs_r20, .blk B9 (.cells #[.func (.func 85) #[] #[.pointer (some ⟨B2, 0, none⟩)]] 60 (0, 0)), .blk B2 (.cells #[.slice p_t t.length c_t] 22 (0, 0))] ++ A) w vs_r20 r20 ∧ ISl (Rp.sl (Rp.int .i64)) (bl [.row 3 1 p_r20 n_r20 c_r20 vs_r20, .blk B9 (.cells #[.func (.func 85) #[] #[.pointer (some ⟨B2, 0, none⟩)]] 60 (0, 0)), .blk B2 (.cells #[.slice p_t t.length c_t] 22 (0, 0))] ++ A) w p_t c_t t ∧ Fr (bl []) w0 (bl [.row 3 1 p_r20 n_r20 c_r20 vs_r20, .blk B9 (.cells #[.func (.func 85) #[] #[.pointer (some ⟨B2, 0, none⟩)]] 60 (0, 0)), .blk B2 (.cells #[.slice p_t t.length c_t] 22 (0, 0))]) w) H ⟨⟨rfl, rfl, rfl, rfl, trivial⟩, hO, hE21, h_t, hB⟩ ?_
   rintro X2 k2_38 H hX2 σ w37 ⟨hag, hO, hE21, h_t, hB⟩
   refine Go1.keep [(0, .int .i64 (ix r20 (k1_31 : Int))), (1, .pointer (some ⟨B2, 0, none⟩)), (6, .int .i64 (t.length : Int)), (7, .int .i64 (k2_38 : Int))] hag ?_
   refine Go1.seq ?_
   refine Go1.region ?_
   by_cases h39 : (k2_38 : Int) < (t.length : Int)
   ·replace H := ifp h39 H
    refine GoR.op ((fun w => opB (op_lss rfl rfl w) (decide_eq_true h39)) _) rfl rfl ?_
    refine GoR.nil ?_
    refine Go1.seq ?_
    refine Go1.condT rfl rfl ?_
    refine Go1.skip ?_
    refine Go1.seq ?_
    refine Go1.block ?_
    refine Go1.seq ?_
    refine Go1.region ?_
    refine GoR.op ((op_move rfl) _) rfl rfl ?_
    refine GoR.op ((op_assign rfl) _) rfl rfl ?_
    refine GoR.nil ?_
    refine Go1.seq ?_
    refine Go1.drawS 0 [(0, .stable), (1, .pure), (2, .pure), (3, .stable), (4, .pure), (5, .pure), (6, .stable), (7, .stable), (8, .pure), (9, .pure), (10, .stable), (11, .pure), (12, .pure), (13, .stable), (14, .pure)] mixed (by kernel_rfl) ?_
    intro w40 hs41
    have hst42 := Stp.same hO hs41
    replace hE21 := hE21.ch hst42.ch
    replace hO := hst42.own
    replace h_t := h_t.ch hst42.ch
    replace hB := hB.trans hst42.fr
    refine GoQ.stable rfl (oblk 2 hO rfl rfl Try.underlying22 rfl rfl) rfl rfl ?_
    refine GoQ.pure rfl (op_move rfl) rfl rfl ?_
    obtain ⟨h43, H⟩ := H
    obtain ⟨h44, H⟩ := H
    refine GoQ.pure rfl (op_index Try.underlying22 ti23 rfl rfl h43 h44 (h_t.some_ h43 h44)) rfl rfl ?_
    have hobt := ldSl h_t h43 h44
    obtain ⟨p45, c46, hi47, hl48⟩ := hobt
    refine GoQ.stable rfl (hl48 Try.underlying23 rfl rfl) rfl rfl ?_
    refine GoQ.pure rfl (op_move rfl) rfl rfl ?_
    obtain ⟨h49, H⟩ := H
    obtain ⟨h50, H⟩ := H
    refine GoQ.pure rfl (op_index Try.underlying23 ti3 rfl rfl h49 h50 (hi47.some_ h49 h50)) rfl rfl ?_
    refine GoQ.stable rfl (ldInt hi47 h49 h50 Try.underlying3 rfl rfl) rfl rfl ?_
    refine GoQ.stable rfl (oblk 2 hO rfl rfl Try.underlying22 rfl rfl) rfl rfl ?_
    refine GoQ.pure rfl (op_move rfl) rfl rfl ?_
    obtain ⟨h51, H⟩ := H
    obtain ⟨h52, H⟩ := H
    refine GoQ.pure rfl (op_index Try.underlying22 ti23 rfl rfl h51 h52 (h_t.some_ h51 h52)) rfl rfl ?_
    have hobt := ldSl h_t h51 h52
    obtain ⟨p53, c54, hi55, hl56⟩ := hobt
    refine GoQ.stable rfl (hl56 Try.underlying23 rfl rfl) rfl rfl ?_
    refine GoQ.pure rfl (op_move rfl) rfl rfl ?_
    obtain ⟨h57, H⟩ := H
    obtain ⟨h58, H⟩ := H
    refine GoQ.pure rfl (op_index Try.underlying23 ti3 rfl rfl h57 h58 (hi55.some_ h57 h58)) rfl rfl ?_
    refine GoQ.stable rfl (ldInt hi55 h57 h58 Try.underlying3 rfl rfl) rfl rfl ?_
    by_cases h59 : (ix (ix t (ix r20 (k1_31 : Int))) (k2_38 : Int)) = (ix (ix t (k2_38 : Int)) (ix r20 (k1_31 : Int)))
    ·replace H := ifp h59 H
     refine GoQ.pure rfl (fun w => opB (op_neq rfl rfl w) (ndT h59)) rfl rfl ?_
     refine GoQ.nil ?_
     refine Go1.condF rfl rfl ?_
     refine Go1.skip ?_
     refine Go1.inBlock ?_
     refine Go1.region ?_
     refine GoR.op ((op_add rfl rfl (wrap_i64 (natbd h39 h_t.bd))) _) rfl rfl ?_
     refine GoR.op ((op_move rfl) _) rfl rfl ?_
     refine GoR.nil ?_
     exact hX2 _ H _ _ ⟨⟨rfl, rfl, rfl, rfl, trivial⟩, hO, hE21, h_t, hB⟩
    ·replace H := ifn h59 H
     refine GoQ.pure rfl (fun w => opB (op_neq rfl rfl w) (ndF h59)) rfl rfl ?_
     refine GoQ.nil ?_
     refine Go1.condT rfl rfl ?_
     refine Go1.seq ?_
     refine Go1.region ?_
     refine GoR.op ((op_assign rfl) _) rfl rfl ?_
     refine GoR.nil ?_
     refine Go1.ret1V Try.func85 rfl (show _ = .bool false from rfl) ?_
     refine hR36 _ _ ?_
     refine GoR.op ((op_not rfl) _) rfl rfl ?_
     refine GoR.op ((op_assign rfl) _) rfl rfl ?_
     refine GoR.nil ?_
     refine Go1.ret1V Try.func90 rfl (show _ = .bool true from rfl) ?_
     refine hR35 _ _ ?_
     refine GoR.nil ?_
     refine Go1.condT rfl rfl ?_
     refine Go1.seq ?_
     refine Go1.region ?_
     refine GoR.op ((op_move rfl) _) rfl rfl ?_
     refine GoR.op ((op_assign rfl) _) rfl rfl ?_
     refine GoR.nil ?_
     refine Go1.ret1V Try.func72 rfl (show _ = .int .i64 (k1_31 : Int) from rfl) ?_
     refine hR29 _ _ ?_
     refine GoR.op ((op_assign rfl) _) rfl rfl ?_
     refine GoR.nil ?_
     refine Go1.seq ?_
     refine Go1.seq ?_
     refine Go1.region ?_
     refine GoR.op ((op_move rfl) _) rfl rfl ?_
     by_cases h60 : (k1_31 : Int) = (-1 : Int)
     ·replace H := ifp h60 H
      refine GoR.op ((fun w => opB (op_eql rfl rfl w) (decide_eq_true h60)) _) rfl rfl ?_
      refine GoR.nil ?_
      refine Go1.condT rfl rfl ?_
      refine Go1.seq ?_
      refine Go1.region ?_
      refine GoR.op ((op_move rfl) _) rfl rfl ?_
      refine GoR.op ((op_assign rfl) _) rfl rfl ?_
      refine GoR.nil ?_
      refine Go1.ret1V Try.func89 rfl (show _ = .slice p_r20 n_r20 c_r20 from rfl) ?_
      refine hR28 _ _ ?_
      refine GoR.op ((op_assign rfl) _) rfl rfl ?_
      refine GoR.nil ?_
      refine Go1.ret1V Try.func76 rfl (show _ = .slice p_r20 n_r20 c_r20 from rfl) ?_
      refine hR7 _ _ ?_
      refine GoR.op ((op_assign rfl) _) rfl rfl ?_
      refine GoR.nil ?_
      have hobt := freeze 0 hO rfl hE21
      obtain ⟨hO1, hc63, hi61, hn62⟩ := hobt
      replace h_t := h_t.ch hc63
      replace hi47 := hi47.ch hc63
      replace hi55 := hi55.ch hc63
      replace hB := hB.trans (Owns.dropFr _ _ 0)
      replace hO := hO1; clear hO1
      refine Go1.ret1 Try.func53 rfl ?_
      exact ⟨r20, p_r20, c_r20, ((congrArg (fun nn => Value.slice p_r20 nn c_r20) hn62)), hB.same, (hi61.ch (Ch.weak _ _ _)), H⟩
     ·replace H := ifn h60 H
      refine GoR.op ((fun w => opB (op_eql rfl rfl w) (decide_eq_false h60)) _) rfl rfl ?_
      refine GoR.nil ?_
      refine Go1.condF rfl rfl ?_
      refine Go1.skip ?_
      refine Go1.seq ?_
      refine Go1.seq ?_
      refine Go1.region ?_
      refine GoR.op ((op_move rfl) _) rfl rfl ?_
      refine GoR.op ((op_add rfl rfl (wrap_i64 (natbd h32 hE21.bd))) _) rfl rfl ?_
      refine GoR.op ((op_assign rfl) _) rfl rfl ?_
      refine GoR.nil ?_
      refine Go1.block ?_
      refine Go1.loopW (S := Nat × Nat × List Int) (fun s σ w => ∃ (vs68 : List Value), agrees σ [(0, .slice p_r20 n_r20 c_r20), (1, .func (.func 90) #[] #[.pointer (some ⟨B9, 0, none⟩)]), (5, .int .i64 ((s.1) : Int)), (6, .int .i64 ((s.2.1) : Int))] ∧ Owns w0.heap.size w [.row 3 1 p_r20 n_r20 c_r20 vs68, .blk B9 (.cells #[.func (.func 85) #[] #[.pointer (some ⟨B2, 0, none⟩)]] 60 (0, 0)), .blk B2 (.cells #[.slice p_t t.length c_t] 22 (0, 0))] A ∧ Els (Rp.int .i64) (bl [.row 3 1 p_r20 n_r20 c_r20 vs68, .blk B9 (.cells #[.func (.func 85) #[] #[.pointer (some ⟨B2, 0, none⟩)]] 60 (0, 0)), .blk B2 (.cells #[.slice p_t t.length c_t] 22 (0, 0))] ++ A) w vs68 (s.2.2) ∧ ISl (Rp.sl (Rp.int .i64)) (bl [.row 3 1 p_r20 n_r20 c_r20 vs68, .blk B9 (.cells #[.func (.func 85) #[] #[.pointer (some ⟨B2, 0, none⟩)]] 60 (0, 0)), .blk B2 (.cells #[.slice p_t t.length c_t] 22 (0, 0))] ++ A) w p_t c_t t ∧ Fr (bl []) w0 (bl [.row 3 1 p_r20 n_r20 c_r20 vs68, .blk B9 (.cells #[.func (.func 85) #[] #[.pointer (some ⟨B2, 0, none⟩)]] 60 (0, 0)), .blk B2 (.cells #[.slice p_t t.length c_t] 22 (0, 0))]) w) H ⟨vs_r20, ⟨rfl, rfl, rfl, rfl, trivial⟩, hO, hE21, h_t, hB⟩ ?_
      rintro X3 ⟨i3_65, j3_66, s3_67⟩ H hX3 σ w64 ⟨vs68, hag, hO, hE69, h_t, hB⟩
      dsimp only at H
      refine Go1.keep [(0, .slice p_r20 n_r20 c_r20), (1, .func (.func 90) #[] #[.pointer (some ⟨B9, 0, none⟩)]), (5, .int .i64 (i3_65 : Int)), (6, .int .i64 (j3_66 : Int))] hag ?_
      refine Go1.seq ?_
      refine Go1.seq ?_
      refine Go1.region ?_
      refine GoR.op ((op_move rfl) _) rfl rfl ?_
      refine GoR.op ((op_move rfl) _) rfl rfl ?_
      refine GoR.op ((op_lenN Try.underlying23 rfl (hE69.neq hO 0 rfl)) _) rfl rfl ?_
      by_cases h70 : (j3_66 : Int) < (s3_67.length : Int)
      ·replace H := ifp h70 H
       refine GoR.op ((fun w => opB (op_lss rfl rfl w) (decide_eq_true h70)) _) rfl rfl ?_
       refine GoR.nil ?_
       refine Go1.condT rfl rfl ?_
       refine Go1.skip ?_
       refine Go1.seq ?_
       refine Go1.block ?_
       refine Go1.seq ?_
       refine Go1.region ?_
       refine GoR.op ((op_move rfl) _) rfl rfl ?_
       refine GoR.op ((op_move rfl) _) rfl rfl ?_
       obtain ⟨h71, H⟩ := H
       obtain ⟨h72, H⟩ := H
       refine GoR.op ((op_index Try.underlying23 ti3 rfl rfl h71 (ltn (hE69.neq hO 0 rfl) h72) (hE69.psome hO 0 rfl h71 h72)) _) rfl rfl ?_
       refine GoR.op ((oldInt 0 hO rfl hE69 h71 h72 Try.underlying3 rfl rfl) _ (Same.refl _)) rfl rfl ?_
       refine GoR.op ((op_assign rfl) _) rfl rfl ?_
       refine GoR.nil ?_
       refine Go1.seq ?_
       refine Go1.region ?_
       refine GoR.op ((op_move rfl) _) rfl rfl ?_
       refine GoR.op ((op_move rfl) _) rfl rfl ?_
       refine GoR.inl (vs := [.int .i64 (ix s3_67 (j3_66 : Int))]) (caps := [.pointer (some ⟨B9, 0, none⟩)]) rfl rfl body90 Try.func90 rfl Try.ntmps90 rfl rfl rfl ?_
       intro RhR73 hR73
       refine Go1.seq ?_
       refine Go1.region ?_
       refine GoR.op ((op_assign rfl) _) rfl rfl ?_
       refine GoR.nil ?_
       refine Go1.seq ?_
       refine Go1.region ?_
       refine GoR.op ((oblk 1 hO rfl rfl Try.underlying60 rfl rfl) _ (Same.refl _)) rfl rfl ?_
       refine GoR.op ((op_move rfl) _) rfl rfl ?_
       refine GoR.inl (vs := [.int .i64 (ix s3_67 (j3_66 : Int))]) (caps := [.pointer (some ⟨B2, 0, none⟩)]) rfl rfl body85 Try.func85 rfl Try.ntmps85 rfl rfl rfl ?_
       intro RhR74 hR74
       refine Go1.seq ?_
       refine Go1.region ?_
       refine GoR.op ((op_assign rfl) _) rfl rfl ?_
       refine GoR.nil ?_
       refine Go1.seq ?_
       refine Go1.seq ?_
       refine Go1.region ?_
       refine GoR.op ((oblk 2 hO rfl rfl Try.underlying22 rfl rfl) _ (Same.refl _)) rfl rfl ?_
       refine GoR.op ((op_len Try.underlying22 rfl) _) rfl rfl ?_
       refine GoR.op ((op_move rfl) _) rfl rfl ?_
       refine GoR.nil ?_
       refine Go1.block ?_
       refine Go1.loopW (S := Nat) (fun s σ w => agrees σ [(0, .int .i64 (ix s3_67 (j3_66 : Int))), (1, .pointer (some ⟨B2, 0, none⟩)), (6, .int .i64 (t.length : Int)), (7, .int .i64 (s : Int))] ∧ Owns w0.heap.size w [.row 3 1 p_r20 n_r20 c_r20 vs68, .blk B9 (.cells #[.func (.func 85) #[] #[.pointer (some ⟨B2, 0, none⟩)]] 60 (0, 0)), .blk B2 (.cells #[.slice p_t t.length c_t] 22 (0, 0))] A ∧ Els (Rp.int .i64) (bl [.row 3 1 p_r20 n_r20 c_r20 vs68, .blk B9 (.cells #[.func (.func 85) #[] #[.pointer (some ⟨B2, 0, none⟩)]] 60 (0, 0)), .blk B2 (.cells #[.slice p_t t.length c_t] 22 (0, 0))] ++ A) w vs68 s3_67 ∧ ISl (Rp.sl (Rp.int .i64)) (bl [.row 3 1 p_r20 n_r20 c_r20 vs68, .blk B9 (.cells #[.func (.func 85) #[] #[.pointer (some ⟨B2, 0, none⟩)]] 60 (0, 0)), .blk B2 (.cells #[.slice p_t t.length c_t] 22 (0, 0))] ++ A) w p_t c_t t ∧ Fr (bl []) w0 (bl [.row 3 1 p_r20 n_r20 c_r20 vs68, .blk B9 (.cells #[.func (.func 85) #[] #[.pointer (some ⟨B2, 0, none⟩)]] 60 (0, 0)), .blk B2 (.cells #[.slice p_t t.length c_t] 22 (0, 0))]) w) H ⟨⟨rfl, rfl, rfl, rfl, trivial⟩, hO, hE69, h_t, hB⟩ ?_
       rintro X4 k4_76 H hX4 σ w75 ⟨hag, hO, hE69, h_t, hB⟩
       refine Go1.keep [(0, .int .i64 (ix s3_67 (j3_66 : Int))), (1, .pointer (some ⟨B2, 0, none⟩)), (6, .int .i64 (t.length : Int)), (7, .int .i64 (k4_76 : Int))] hag ?_
       refine Go1.seq ?_
       refine Go1.region ?_
       by_cases h77 : (k4_76 : Int) < (t.length : Int)
       ·replace H := ifp h77 H
        refine GoR.op ((fun w => opB (op_lss rfl rfl w) (decide_eq_true h77)) _) rfl rfl ?_
        refine GoR.nil ?_
        refine Go1.seq ?_
        refine Go1.condT rfl rfl ?_
        refine Go1.skip ?_
        refine Go1.seq ?_
        refine Go1.block ?_
        refine Go1.seq ?_
        refine Go1.region ?_
        refine GoR.op ((op_move rfl) _) rfl rfl ?_
        refine GoR.op ((op_assign rfl) _) rfl rfl ?_
        refine GoR.nil ?_
        refine Go1.seq ?_
        refine Go1.drawS 0 [(0, .stable), (1, .pure), (2, .pure), (3, .stable), (4, .pure), (5, .pure), (6, .stable), (7, .stable), (8, .pure), (9, .pure), (10, .stable), (11, .pure), (12, .pure), (13, .stable), (14, .pure)] mixed (by kernel_rfl) ?_
        intro w78 hs79
        have hst80 := Stp.same hO hs79
        replace hE69 := hE69.ch hst80.ch
        replace hO := hst80.own
        replace h_t := h_t.ch hst80.ch
        replace hB := hB.trans hst80.fr
        refine GoQ.stable rfl (oblk 2 hO rfl rfl Try.underlying22 rfl rfl) rfl rfl ?_
        refine GoQ.pure rfl (op_move rfl) rfl rfl ?_
        obtain ⟨h81, H⟩ := H
        obtain ⟨h82, H⟩ := H
        refine GoQ.pure rfl (op_index Try.underlying22 ti23 rfl rfl h81 h82 (h_t.some_ h81 h82)) rfl rfl ?_
        have hobt := ldSl h_t h81 h82
        obtain ⟨p83, c84, hi85, hl86⟩ := hobt
        refine GoQ.stable rfl (hl86 Try.underlying23 rfl rfl) rfl rfl ?_
        refine GoQ.pure rfl (op_move rfl) rfl rfl ?_
        obtain ⟨h87, H⟩ := H
        obtain ⟨h88, H⟩ := H
        refine GoQ.pure rfl (op_index Try.underlying23 ti3 rfl rfl h87 h88 (hi85.some_ h87 h88)) rfl rfl ?_
        refine GoQ.stable rfl (ldInt hi85 h87 h88 Try.underlying3 rfl rfl) rfl rfl ?_
        refine GoQ.stable rfl (oblk 2 hO rfl rfl Try.underlying22 rfl rfl) rfl rfl ?_
        refine GoQ.pure rfl (op_move rfl) rfl rfl ?_
        obtain ⟨h89, H⟩ := H
        obtain ⟨h90, H⟩ := H
        refine GoQ.pure rfl (op_index Try.underlying22 ti23 rfl rfl h89 h90 (h_t.some_ h89 h90)) rfl rfl ?_
        have hobt := ldSl h_t h89 h90
        obtain ⟨p91, c92, hi93, hl94⟩ := hobt
        refine GoQ.stable rfl (hl94 Try.underlying23 rfl rfl) rfl rfl ?_
        refine GoQ.pure rfl (op_move rfl) rfl rfl ?_
        obtain ⟨h95, H⟩ := H
        obtain ⟨h96, H⟩ := H
        refine GoQ.pure rfl (op_index Try.underlying23 ti3 rfl rfl h95 h96 (hi93.some_ h95 h96)) rfl rfl ?_
        refine GoQ.stable rfl (ldInt hi93 h95 h96 Try.underlying3 rfl rfl) rfl rfl ?_
        by_cases h97 : (ix (ix t (ix s3_67 (j3_66 : Int))) (k4_76 : Int)) = (ix (ix t (k4_76 : Int)) (ix s3_67 (j3_66 : Int)))
        ·replace H := ifp h97 H
         refine GoQ.pure rfl (fun w => opB (op_neq rfl rfl w) (ndT h97)) rfl rfl ?_
         refine GoQ.nil ?_
         refine Go1.condF rfl rfl ?_
         refine Go1.skip ?_
         refine Go1.inBlock ?_
         refine Go1.region ?_
         refine GoR.op ((op_add rfl rfl (wrap_i64 (natbd h77 h_t.bd))) _) rfl rfl ?_
         refine GoR.op ((op_move rfl) _) rfl rfl ?_
         refine GoR.nil ?_
         exact hX4 _ H _ _ ⟨⟨rfl, rfl, rfl, rfl, trivial⟩, hO, hE69, h_t, hB⟩
        ·replace H := ifn h97 H
         refine GoQ.pure rfl (fun w => opB (op_neq rfl rfl w) (ndF h97)) rfl rfl ?_
         refine GoQ.nil ?_
         refine Go1.condT rfl rfl ?_
         refine Go1.seq ?_
         refine Go1.region ?_
         refine GoR.op ((op_assign rfl) _) rfl rfl ?_
         refine GoR.nil ?_
         refine Go1.ret1V Try.func85 rfl (show _ = .bool false from rfl) ?_
         refine hR74 _ _ ?_
         refine GoR.op ((op_not rfl) _) rfl rfl ?_
         refine GoR.op ((op_assign rfl) _) rfl rfl ?_
         refine GoR.nil ?_
         refine Go1.ret1V Try.func90 rfl (show _ = .bool true from rfl) ?_
         refine hR73 _ _ ?_
         refine GoR.op ((op_not rfl) _) rfl rfl ?_
         refine GoR.nil ?_
         refine Go1.condF rfl rfl ?_
         refine Go1.skip ?_
         refine Go1.inBlock ?_
         refine Go1.region ?_
         refine GoR.op ((op_move rfl) _) rfl rfl ?_
         refine GoR.op ((op_add rfl rfl (wrap_i64 (natbd h70 hE69.bd))) _) rfl rfl ?_
         refine GoR.op ((op_assign rfl) _) rfl rfl ?_
         refine GoR.nil ?_
         exact hX3 _ H _ _ ⟨vs68, ⟨rfl, rfl, rfl, rfl, trivial⟩, hO, hE69, h_t, hB⟩
       ·replace H := ifn h77 H
        refine GoR.op ((fun w => opB (op_lss rfl rfl w) (decide_eq_false h77)) _) rfl rfl ?_
        refine GoR.nil ?_
        refine Go1.seq ?_
        refine Go1.condF rfl rfl ?_
        refine Go1.exit rfl ?_
        refine Go1.seq ?_
        refine Go1.region ?_
        refine GoR.op ((op_assign rfl) _) rfl rfl ?_
        refine GoR.nil ?_
        refine Go1.ret1V Try.func85 rfl (show _ = .bool true from rfl) ?_
        refine hR74 _ _ ?_
        refine GoR.op ((op_not rfl) _) rfl rfl ?_
        refine GoR.op ((op_assign rfl) _) rfl rfl ?_
        refine GoR.nil ?_
        refine Go1.ret1V Try.func90 rfl (show _ = .bool false from rfl) ?_
        refine hR73 _ _ ?_
        refine GoR.op ((op_not rfl) _) rfl rfl ?_
        refine GoR.nil ?_
        refine Go1.condT rfl rfl ?_
        refine Go1.seq ?_
        refine Go1.region ?_
        refine GoR.op ((op_move rfl) _) rfl rfl ?_
        refine GoR.op ((op_move rfl) _) rfl rfl ?_
        refine GoR.op ((op_move rfl) _) rfl rfl ?_
        obtain ⟨h98, H⟩ := H
        obtain ⟨h99, H⟩ := H
        refine GoR.op ((op_index Try.underlying23 ti3 rfl rfl h98 (ltn (hE69.neq hO 0 rfl) h99) (hE69.psome hO 0 rfl h98 h99)) _) rfl rfl ?_
        have hobt := ost (r := Rp.int .i64) rfl 0 hO rfl hE69 h98 h99 (v := .int .i64 (ix s3_67 (j3_66 : Int))) (u := (ix s3_67 (j3_66 : Int))) rfl rfl
        obtain ⟨w100, vs101, hst102, hE103, hop104⟩ := hobt
        refine GoR.op (hop104 Try.underlying3 rfl ti3 rfl rfl) rfl rfl ?_
        replace hO := hst102.own
        replace h_t := h_t.ch hst102.ch
        replace hB := hB.trans hst102.fr
        refine GoR.nil ?_
        refine Go1.region ?_
        refine GoR.op ((op_move rfl) _) rfl rfl ?_
        obtain ⟨h105, H⟩ := H
        refine GoR.op ((op_add rfl rfl (wrap_i64 h105)) _) rfl rfl ?_
        refine GoR.op ((op_assign rfl) _) rfl rfl ?_
        refine GoR.nil ?_
        refine Go1.inBlock ?_
        refine Go1.region ?_
        refine GoR.op ((op_move rfl) _) rfl rfl ?_
        obtain ⟨h106, H⟩ := H
        refine GoR.op ((op_add rfl rfl (wrap_i64 h106)) _) rfl rfl ?_
        refine GoR.op ((op_assign rfl) _) rfl rfl ?_
        refine GoR.nil ?_
        exact hX3 _ H _ _ ⟨vs101, ⟨rfl, rfl, rfl, rfl, trivial⟩, hO, hE103, h_t, hB⟩
      ·replace H := ifn h70 H
       refine GoR.op ((fun w => opB (op_lss rfl rfl w) (decide_eq_false h70)) _) rfl rfl ?_
       refine GoR.nil ?_
       refine Go1.condF rfl rfl ?_
       refine Go1.exit rfl ?_
       refine Go1.seq ?_
       refine Go1.region ?_
       refine GoR.op ((op_move rfl) _) rfl rfl ?_
       refine GoR.op ((op_move rfl) _) rfl rfl ?_
       obtain ⟨h107, H⟩ := H
       obtain ⟨h108, H⟩ := H
       refine GoR.op ((op_sliceFrom Try.underlying23 ti3 rfl rfl h107 (lenle (hE69.neq hO 0 rfl) h108)) _) rfl rfl ?_
       have hobt := oclear (Fl.int .i64) rfl (d := (0 : Int)) Try.underlying23 ti3 rfl rfl (fun _ _ => rfl) 0 hO rfl hE69 h107 h108
       obtain ⟨w109, vs110, hst111, hE112, hop113⟩ := hobt
       refine GoR.op (hop113 rfl) rfl rfl ?_
       replace hO := hst111.own
       replace h_t := h_t.ch hst111.ch
       replace hB := hB.trans hst111.fr
       refine GoR.nil ?_
       refine Go1.seq ?_
       refine Go1.region ?_
       refine GoR.op ((op_move rfl) _) rfl rfl ?_
       refine GoR.op ((op_move rfl) _) rfl rfl ?_
       obtain ⟨h114, H⟩ := H
       obtain ⟨h115, H⟩ := H
       have hal116 := AL.start 0 hO rfl hE112 ((i3_65 : Int)).toNat
       refine GoR.op ((op_sliceTo Try.underlying23 ti3 rfl rfl h114 (Els.lec 0 hO rfl hE112 h115)) _) rfl rfl ?_
       refine GoR.op ((op_assign rfl) _) rfl rfl ?_
       refine GoR.nil ?_
       refine Go1.ret1V Try.func89 rfl (show _ = .slice p_r20 (((i3_65 : Int)).toNat) c_r20 from rfl) ?_
       refine hR28 _ _ ?_
       refine GoR.op ((op_assign rfl) _) rfl rfl ?_
       refine GoR.nil ?_
       refine Go1.ret1V Try.func76 rfl (show _ = .slice p_r20 (((i3_65 : Int)).toNat) c_r20 from rfl) ?_
       refine hR7 _ _ ?_
       refine GoR.op ((op_assign rfl) _) rfl rfl ?_
       refine GoR.nil ?_
       have hobt := freezeHead 0 hO rfl hE112 ((i3_65 : Int)).toNat
       obtain ⟨hO1, hc118, hi117⟩ := hobt
       replace h_t := h_t.ch hc118
       replace hB := hB.trans (Owns.dropFr _ _ 0)
       replace hO := hO1; clear hO1
       refine Go1.ret1 Try.func53 rfl ?_
       exact ⟨(s3_67.take (i3_65 : Int).toNat ++ List.replicate (s3_67.length - (i3_65 : Int).toNat) ((0 : Int))).take ((i3_65 : Int)).toNat, p_r20, c_r20, ((congrArg (fun nn => Value.slice p_r20 nn c_r20) (takeLen h114 h115))), hB.same, (hi117.ch (Ch.weak _ _ _)), H⟩
   ·replace H := ifn h39 H
    refine GoR.op ((fun w => opB (op_lss rfl rfl w) (decide_eq_false h39)) _) rfl rfl ?_
    refine GoR.nil ?_
    refine Go1.seq ?_
    refine Go1.condF rfl rfl ?_
    refine Go1.exit rfl ?_
    refine Go1.seq ?_
    refine Go1.region ?_
    refine GoR.op ((op_assign rfl) _) rfl rfl ?_
    refine GoR.nil ?_
    refine Go1.ret1V Try.func85 rfl (show _ = .bool true from rfl) ?_
    refine hR36 _ _ ?_
    refine GoR.op ((op_not rfl) _) rfl rfl ?_
    refine GoR.op ((op_assign rfl) _) rfl rfl ?_
    refine GoR.nil ?_
    refine Go1.ret1V Try.func90 rfl (show _ = .bool false from rfl) ?_
    refine hR35 _ _ ?_
    refine GoR.nil ?_
    refine Go1.condF rfl rfl ?_
    refine Go1.skip ?_
    refine Go1.inBlock ?_
    refine Go1.region ?_
    refine GoR.op ((op_add rfl rfl (wrap_i64 (natbd h32 hE21.bd))) _) rfl rfl ?_
    refine GoR.op ((op_move rfl) _) rfl rfl ?_
    refine GoR.nil ?_
    exact hX1 _ H _ _ ⟨⟨rfl, rfl, rfl, rfl, trivial⟩, hO, hE21, h_t, hB⟩
  ·replace H := ifn h32 H
   refine GoR.op ((fun w => opB (op_lss rfl rfl w) (decide_eq_false h32)) _) rfl rfl ?_
   refine GoR.nil ?_
   refine Go1.seq ?_
   refine Go1.condF rfl rfl ?_
   refine Go1.exit rfl ?_
   refine Go1.seq ?_
   refine Go1.region ?_
   refine GoR.op ((op_assign rfl) _) rfl rfl ?_
   refine GoR.nil ?_
   refine Go1.ret1V Try.func72 rfl (show _ = .int .i64 (-1 : Int) from rfl) ?_
   refine hR29 _ _ ?_
   refine GoR.op ((op_assign rfl) _) rfl rfl ?_
   refine GoR.nil ?_
   refine Go1.seq ?_
   refine Go1.seq ?_
   refine Go1.region ?_
   refine GoR.op ((op_move rfl) _) rfl rfl ?_
   by_cases h119 : (-1 : Int) = (-1 : Int)
   ·replace H := ifp h119 H
    refine GoR.op ((fun w => opB (op_eql rfl rfl w) (decide_eq_true h119)) _) rfl rfl ?_
    refine GoR.nil ?_
    refine Go1.condT rfl rfl ?_
    refine Go1.seq ?_
    refine Go1.region ?_
    refine GoR.op ((op_move rfl) _) rfl rfl ?_
    refine GoR.op ((op_assign rfl) _) rfl rfl ?_
    refine GoR.nil ?_
    refine Go1.ret1V Try.func89 rfl (show _ = .slice p_r20 n_r20 c_r20 from rfl) ?_
    refine hR28 _ _ ?_
    refine GoR.op ((op_assign rfl) _) rfl rfl ?_
    refine GoR.nil ?_
    refine Go1.ret1V Try.func76 rfl (show _ = .slice p_r20 n_r20 c_r20 from rfl) ?_
    refine hR7 _ _ ?_
    refine GoR.op ((op_assign rfl) _) rfl rfl ?_
    refine GoR.nil ?_
    have hobt := freeze 0 hO rfl hE21
    obtain ⟨hO1, hc122, hi120, hn121⟩ := hobt
    replace h_t := h_t.ch hc122
    replace hB := hB.trans (Owns.dropFr _ _ 0)
    replace hO := hO1; clear hO1
    refine Go1.ret1 Try.func53 rfl ?_
    exact ⟨r20, p_r20, c_r20, ((congrArg (fun nn => Value.slice p_r20 nn c_r20) hn121)), hB.same, (hi120.ch (Ch.weak _ _ _)), H⟩
   ·replace H := ifn h119 H
    refine GoR.op ((fun w => opB (op_eql rfl rfl w) (decide_eq_false h119)) _) rfl rfl ?_
    refine GoR.nil ?_
    refine Go1.condF rfl rfl ?_
    refine Go1.skip ?_
    refine Go1.seq ?_
    refine Go1.seq ?_
    refine Go1.region ?_
    refine GoR.op ((op_move rfl) _) rfl rfl ?_
    obtain ⟨h123, H⟩ := H
    refine GoR.op ((op_add rfl rfl (wrap_i64 h123)) _) rfl rfl ?_
    refine GoR.op ((op_assign rfl) _) rfl rfl ?_
    refine GoR.nil ?_
    refine Go1.block ?_
    refine Go1.loopW (S := Int × Int × List Int) (fun s σ w => ∃ (vs128 : List Value), agrees σ [(0, .slice p_r20 n_r20 c_r20), (1, .func (.func 90) #[] #[.pointer (some ⟨B9, 0, none⟩)]), (5, .int .i64 (s.1)), (6, .int .i64 (s.2.1))] ∧ Owns w0.heap.size w [.row 3 1 p_r20 n_r20 c_r20 vs128, .blk B9 (.cells #[.func (.func 85) #[] #[.pointer (some ⟨B2, 0, none⟩)]] 60 (0, 0)), .blk B2 (.cells #[.slice p_t t.length c_t] 22 (0, 0))] A ∧ Els (Rp.int .i64) (bl [.row 3 1 p_r20 n_r20 c_r20 vs128, .blk B9 (.cells #[.func (.func 85) #[] #[.pointer (some ⟨B2, 0, none⟩)]] 60 (0, 0)), .blk B2 (.cells #[.slice p_t t.length c_t] 22 (0, 0))] ++ A) w vs128 (s.2.2) ∧ ISl (Rp.sl (Rp.int .i64)) (bl [.row 3 1 p_r20 n_r20 c_r20 vs128, .blk B9 (.cells #[.func (.func 85) #[] #[.pointer (some ⟨B2, 0, none⟩)]] 60 (0, 0)), .blk B2 (.cells #[.slice p_t t.length c_t] 22 (0, 0))] ++ A) w p_t c_t t ∧ Fr (bl []) w0 (bl [.row 3 1 p_r20 n_r20 c_r20 vs128, .blk B9 (.cells #[.func (.func 85) #[] #[.pointer (some ⟨B2, 0, none⟩)]] 60 (0, 0)), .blk B2 (.cells #[.slice p_t t.length c_t] 22 (0, 0))]) w) H ⟨vs_r20, ⟨rfl, rfl, rfl, rfl, trivial⟩, hO, hE21, h_t, hB⟩ ?_
    rintro X5 ⟨i5_125, j5_126, s5_127⟩ H hX5 σ w124 ⟨vs128, hag, hO, hE129, h_t, hB⟩
    dsimp only at H
    refine Go1.keep [(0, .slice p_r20 n_r20 c_r20), (1, .func (.func 90) #[] #[.pointer (some ⟨B9, 0, none⟩)]), (5, .int .i64 i5_125), (6, .int .i64 j5_126)] hag ?_
    refine Go1.seq ?_
    refine Go1.seq ?_
    refine Go1.region ?_
    refine GoR.op ((op_move rfl) _) rfl rfl ?_
    refine GoR.op ((op_move rfl) _) rfl rfl ?_
    refine GoR.op ((op_lenN Try.underlying23 rfl (hE129.neq hO 0 rfl)) _) rfl rfl ?_
    by_cases h130 : j5_126 < (s5_127.length : Int)
    ·replace H := ifp h130 H
     refine GoR.op ((fun w => opB (op_lss rfl rfl w) (decide_eq_true h130)) _) rfl rfl ?_
     refine GoR.nil ?_
     refine Go1.condT rfl rfl ?_
     refine Go1.skip ?_
     refine Go1.seq ?_
     refine Go1.block ?_
     refine Go1.seq ?_
     refine Go1.region ?_
     refine GoR.op ((op_move rfl) _) rfl rfl ?_
     refine GoR.op ((op_move rfl) _) rfl rfl ?_
     obtain ⟨h131, H⟩ := H
     obtain ⟨h132, H⟩ := H
     refine GoR.op ((op_index Try.underlying23 ti3 rfl rfl h131 (ltn (hE129.neq hO 0 rfl) h132) (hE129.psome hO 0 rfl h131 h132)) _) rfl rfl ?_
     refine GoR.op ((oldInt 0 hO rfl hE129 h131 h132 Try.underlying3 rfl rfl) _ (Same.refl _)) rfl rfl ?_
     refine GoR.op ((op_assign rfl) _) rfl rfl ?_
     refine GoR.nil ?_
     refine Go1.seq ?_
     refine Go1.region ?_
     refine GoR.op ((op_move rfl) _) rfl rfl ?_
     refine GoR.op ((op_move rfl) _) rfl rfl ?_
     refine GoR.inl (vs := [.int .i64 (ix s5_127 j5_126)]) (caps := [.pointer (some ⟨B9, 0, none⟩)]) rfl rfl body90 Try.func90 rfl Try.ntmps90 rfl rfl rfl ?_
     intro RhR133 hR133
     refine Go1.seq ?_
     refine Go1.region ?_
     refine GoR.op ((op_assign rfl) _) rfl rfl ?_
     refine GoR.nil ?_
     refine Go1.seq ?_
     refine Go1.region ?_
     refine GoR.op ((oblk 1 hO rfl rfl Try.underlying60 rfl rfl) _ (Same.refl _)) rfl rfl ?_
     refine GoR.op ((op_move rfl) _) rfl rfl ?_
     refine GoR.inl (vs := [.int .i64 (ix s5_127 j5_126)]) (caps := [.pointer (some ⟨B2, 0, none⟩)]) rfl rfl body85 Try.func85 rfl Try.ntmps85 rfl rfl rfl ?_
     intro RhR134 hR134
     refine Go1.seq ?_
     refine Go1.region ?_
     refine GoR.op ((op_assign rfl) _) rfl rfl ?_
     refine GoR.nil ?_
     refine Go1.seq ?_
     refine Go1.seq ?_
     refine Go1.region ?_
     refine GoR.op ((oblk 2 hO rfl rfl Try.underlying22 rfl rfl) _ (Same.refl _)) rfl rfl ?_
     refine GoR.op ((op_len Try.underlying22 rfl) _) rfl rfl ?_
     replace H := H h_t.bd
     refine GoR.op ((op_move rfl) _) rfl rfl ?_
     refine GoR.nil ?_
     refine Go1.block ?_
     refine Go1.loopW (S := Nat) (fun s σ w => agrees σ [(0, .int .i64 (ix s5_127 j5_126)), (1, .pointer (some ⟨B2, 0, none⟩)), (6, .int .i64 (t.length : Int)), (7, .int .i64 (s : Int))] ∧ Owns w0.heap.size w [.row 3 1 p_r20 n_r20 c_r20 vs128, .blk B9 (.cells #[.func (.func 85) #[] #[.pointer (some ⟨B2, 0, none⟩)]] 60 (0, 0)), .blk B2 (.cells #[.slice p_t t.length c_t] 22 (0, 0))] A ∧ Els (Rp.int .i64) (bl [.row 3 1 p_r20 n_r20 c_r20 vs128, .blk B9 (.cells #[.func (.func 85) #[] #[.pointer (some ⟨B2, 0, none⟩)]] 60 (0, 0)), .blk B2 (.cells #[.slice p_t t.length c_t] 22 (0, 0))] ++ A) w vs128 s5_127 ∧ ISl (Rp.sl (Rp.int .i64)) (bl [.row 3 1 p_r20 n_r20 c_r20 vs128, .blk B9 (.cells #[.func (.func 85) #[] #[.pointer (some ⟨B2, 0, none⟩)]] 60 (0, 0)), .blk B2 (.cells #[.slice p_t t.length c_t] 22 (0, 0))] ++ A) w p_t c_t t ∧ Fr (bl []) w0 (bl [.row 3 1 p_r20 n_r20 c_r20 vs128, .blk B9 (.cells #[.func (.func 85) #[] #[.pointer (some ⟨B2, 0, none⟩)]] 60 (0, 0)), .blk B2 (.cells #[.slice p_t t.length c_t] 22 (0, 0))]) w) H ⟨⟨rfl, rfl, rfl, rfl, trivial⟩, hO, hE129, h_t, hB⟩ ?_
     rintro X6 k6_136 H hX6 σ w135 ⟨hag, hO, hE129, h_t, hB⟩
     refine Go1.keep [(0, .int .i64 (ix s5_127 j5_126)), (1, .pointer (some ⟨B2, 0, none⟩)), (6, .int .i64 (t.length : Int)), (7, .int .i64 (k6_136 : Int))] hag ?_
     refine Go1.seq ?_
     refine Go1.region ?_
     by_cases h137 : (k6_136 : Int) < (t.length : Int)
     ·replace H := ifp h137 H
      refine GoR.op ((fun w => opB (op_lss rfl rfl w) (decide_eq_true h137)) _) rfl rfl ?_
      refine GoR.nil ?_
      refine Go1.seq ?_
      refine Go1.condT rfl rfl ?_
      refine Go1.skip ?_
      refine Go1.seq ?_
      refine Go1.block ?_
      refine Go1.seq ?_
      refine Go1.region ?_
      refine GoR.op ((op_move rfl) _) rfl rfl ?_
      refine GoR.op ((op_assign rfl) _) rfl rfl ?_
      refine GoR.nil ?_
      refine Go1.seq ?_
      refine Go1.drawS 0 [(0, .stable), (1, .pure), (2, .pure), (3, .stable), (4, .pure), (5, .pure), (6, .stable), (7, .stable), (8, .pure), (9, .pure), (10, .stable), (11, .pure), (12, .pure), (13, .stable), (14, .pure)] mixed (by kernel_rfl) ?_
      intro w138 hs139
      have hst140 := Stp.same hO hs139
      replace hE129 := hE129.ch hst140.ch
      replace hO := hst140.own
      replace h_t := h_t.ch hst140.ch
      replace hB := hB.trans hst140.fr
      refine GoQ.stable rfl (oblk 2 hO rfl rfl Try.underlying22 rfl rfl) rfl rfl ?_
      refine GoQ.pure rfl (op_move rfl) rfl rfl ?_
      obtain ⟨h141, H⟩ := H
      obtain ⟨h142, H⟩ := H
      refine GoQ.pure rfl (op_index Try.underlying22 ti23 rfl rfl h141 h142 (h_t.some_ h141 h142)) rfl rfl ?_
      have hobt := ldSl h_t h141 h142
      obtain ⟨p143, c144, hi145, hl146⟩ := hobt
      refine GoQ.stable rfl (hl146 Try.underlying23 rfl rfl) rfl rfl ?_
      refine GoQ.pure rfl (op_move rfl) rfl rfl ?_
      obtain ⟨h147, H⟩ := H
      obtain ⟨h148, H⟩ := H
      refine GoQ.pure rfl (op_index Try.underlying23 ti3 rfl rfl h147 h148 (hi145.some_ h147 h148)) rfl rfl ?_
      refine GoQ.stable rfl (ldInt hi145 h147 h148 Try.underlying3 rfl rfl) rfl rfl ?_
      refine GoQ.stable rfl (oblk 2 hO rfl rfl Try.underlying22 rfl rfl) rfl rfl ?_
      refine GoQ.pure rfl (op_move rfl) rfl rfl ?_
      obtain ⟨h149, H⟩ := H
      obtain ⟨h150, H⟩ := H
      refine GoQ.pure rfl (op_index Try.underlying22 ti23 rfl rfl h149 h150 (h_t.some_ h149 h150)) rfl rfl ?_
      have hobt := ldSl h_t h149 h150
      obtain ⟨p151, c152, hi153, hl154⟩ := hobt
      refine GoQ.stable rfl (hl154 Try.underlying23 rfl rfl) rfl rfl ?_
      refine GoQ.pure rfl (op_move rfl) rfl rfl ?_
      obtain ⟨h155, H⟩ := H
      obtain ⟨h156, H⟩ := H
      refine GoQ.pure rfl (op_index Try.underlying23 ti3 rfl rfl h155 h156 (hi153.some_ h155 h156)) rfl rfl ?_
      refine GoQ.stable rfl (ldInt hi153 h155 h156 Try.underlying3 rfl rfl) rfl rfl ?_
      by_cases h157 : (ix (ix t (ix s5_127 j5_126)) (k6_136 : Int)) = (ix (ix t (k6_136 : Int)) (ix s5_127 j5_126))
      ·replace H := ifp h157 H
       refine GoQ.pure rfl (fun w => opB (op_neq rfl rfl w) (ndT h157)) rfl rfl ?_
       refine GoQ.nil ?_
       refine Go1.condF rfl rfl ?_
       refine Go1.skip ?_
       refine Go1.inBlock ?_
       refine Go1.region ?_
       refine GoR.op ((op_add rfl rfl (wrap_i64 (natbd h137 h_t.bd))) _) rfl rfl ?_
       refine GoR.op ((op_move rfl) _) rfl rfl ?_
       refine GoR.nil ?_
       exact hX6 _ H _ _ ⟨⟨rfl, rfl, rfl, rfl, trivial⟩, hO, hE129, h_t, hB⟩
      ·replace H := ifn h157 H
       refine GoQ.pure rfl (fun w => opB (op_neq rfl rfl w) (ndF h157)) rfl rfl ?_
       refine GoQ.nil ?_
       refine Go1.condT rfl rfl ?_
       refine Go1.seq ?_
       refine Go1.region ?_
       refine GoR.op ((op_assign rfl) _) rfl rfl ?_
       refine GoR.nil ?_
       refine Go1.ret1V Try.func85 rfl (show _ = .bool false from rfl) ?_
       refine hR134 _ _ ?_
       refine GoR.op ((op_not rfl) _) rfl rfl ?_
       refine GoR.op ((op_assign rfl) _) rfl rfl ?_
       refine GoR.nil ?_
       refine Go1.ret1V Try.func90 rfl (show _ = .bool true from rfl) ?_
       refine hR133 _ _ ?_
       refine GoR.op ((op_not rfl) _) rfl rfl ?_
       refine GoR.nil ?_
       refine Go1.condF rfl rfl ?_
       refine Go1.skip ?_
       refine Go1.inBlock ?_
       refine Go1.region ?_
       refine GoR.op ((op_move rfl) _) rfl rfl ?_
       obtain ⟨h158, H⟩ := H
       refine GoR.op ((op_add rfl rfl (wrap_i64 h158)) _) rfl rfl ?_
       refine GoR.op ((op_assign rfl) _) rfl rfl ?_
       refine GoR.nil ?_
       exact hX5 _ H _ _ ⟨vs128, ⟨rfl, rfl, rfl, rfl, trivial⟩, hO, hE129, h_t, hB⟩
     ·replace H := ifn h137 H
      refine GoR.op ((fun w => opB (op_lss rfl rfl w) (decide_eq_false h137)) _) rfl rfl ?_
      refine GoR.nil ?_
      refine Go1.seq ?_
      refine Go1.condF rfl rfl ?_
      refine Go1.exit rfl ?_
      refine Go1.seq ?_
      refine Go1.region ?_
      refine GoR.op ((op_assign rfl) _) rfl rfl ?_
      refine GoR.nil ?_
      refine Go1.ret1V Try.func85 rfl (show _ = .bool true from rfl) ?_
      refine hR134 _ _ ?_
      refine GoR.op ((op_not rfl) _) rfl rfl ?_
      refine GoR.op ((op_assign rfl) _) rfl rfl ?_
      refine GoR.nil ?_
      refine Go1.ret1V Try.func90 rfl (show _ = .bool false from rfl) ?_
      refine hR133 _ _ ?_
      refine GoR.op ((op_not rfl) _) rfl rfl ?_
      refine GoR.nil ?_
      refine Go1.condT rfl rfl ?_
      refine Go1.seq ?_
      refine Go1.region ?_
      refine GoR.op ((op_move rfl) _) rfl rfl ?_
      refine GoR.op ((op_move rfl) _) rfl rfl ?_
      refine GoR.op ((op_move rfl) _) rfl rfl ?_
      obtain ⟨h159, H⟩ := H
      obtain ⟨h160, H⟩ := H
      refine GoR.op ((op_index Try.underlying23 ti3 rfl rfl h159 (ltn (hE129.neq hO 0 rfl) h160) (hE129.psome hO 0 rfl h159 h160)) _) rfl rfl ?_
      have hobt := ost (r := Rp.int .i64) rfl 0 hO rfl hE129 h159 h160 (v := .int .i64 (ix s5_127 j5_126)) (u := (ix s5_127 j5_126)) rfl rfl
      obtain ⟨w161, vs162, hst163, hE164, hop165⟩ := hobt
      refine GoR.op (hop165 Try.underlying3 rfl ti3 rfl rfl) rfl rfl ?_
      replace hO := hst163.own
      replace h_t := h_t.ch hst163.ch
      replace hB := hB.trans hst163.fr
      refine GoR.nil ?_
      refine Go1.region ?_
      refine GoR.op ((op_move rfl) _) rfl rfl ?_
      obtain ⟨h166, H⟩ := H
      refine GoR.op ((op_add rfl rfl (wrap_i64 h166)) _) rfl rfl ?_
      refine GoR.op ((op_assign rfl) _) rfl rfl ?_
      refine GoR.nil ?_
      refine Go1.inBlock ?_
      refine Go1.region ?_
      refine GoR.op ((op_move rfl) _) rfl rfl ?_
      obtain ⟨h167, H⟩ := H
      refine GoR.op ((op_add rfl rfl (wrap_i64 h167)) _) rfl rfl ?_
      refine GoR.op ((op_assign rfl) _) rfl rfl ?_
      refine GoR.nil ?_
      exact hX5 _ H _ _ ⟨vs162, ⟨rfl, rfl, rfl, rfl, trivial⟩, hO, hE164, h_t, hB⟩
    ·replace H := ifn h130 H
     refine GoR.op ((fun w => opB (op_lss rfl rfl w) (decide_eq_false h130)) _) rfl rfl ?_
     refine GoR.nil ?_
     refine Go1.condF rfl rfl ?_
     refine Go1.exit rfl ?_
     refine Go1.seq ?_
     refine Go1.region ?_
     refine GoR.op ((op_move rfl) _) rfl rfl ?_
     refine GoR.op ((op_move rfl) _) rfl rfl ?_
     obtain ⟨h168, H⟩ := H
     obtain ⟨h169, H⟩ := H
     refine GoR.op ((op_sliceFrom Try.underlying23 ti3 rfl rfl h168 (lenle (hE129.neq hO 0 rfl) h169)) _) rfl rfl ?_
     have hobt := oclear (Fl.int .i64) rfl (d := (0 : Int)) Try.underlying23 ti3 rfl rfl (fun _ _ => rfl) 0 hO rfl hE129 h168 h169
     obtain ⟨w170, vs171, hst172, hE173, hop174⟩ := hobt
     refine GoR.op (hop174 rfl) rfl rfl ?_
     replace hO := hst172.own
     replace h_t := h_t.ch hst172.ch
     replace hB := hB.trans hst172.fr
     refine GoR.nil ?_
     refine Go1.seq ?_
     refine Go1.region ?_
     refine GoR.op ((op_move rfl) _) rfl rfl ?_
     refine GoR.op ((op_move rfl) _) rfl rfl ?_
     obtain ⟨h175, H⟩ := H
     obtain ⟨h176, H⟩ := H
     have hal177 := AL.start 0 hO rfl hE173 (i5_125).toNat
     refine GoR.op ((op_sliceTo Try.underlying23 ti3 rfl rfl h175 (Els.lec 0 hO rfl hE173 h176)) _) rfl rfl ?_
     refine GoR.op ((op_assign rfl) _) rfl rfl ?_
     refine GoR.nil ?_
     refine Go1.ret1V Try.func89 rfl (show _ = .slice p_r20 ((i5_125).toNat) c_r20 from rfl) ?_
     refine hR28 _ _ ?_
     refine GoR.op ((op_assign rfl) _) rfl rfl ?_
     refine GoR.nil ?_
     refine Go1.ret1V Try.func76 rfl (show _ = .slice p_r20 ((i5_125).toNat) c_r20 from rfl) ?_
     refine hR7 _ _ ?_
     refine GoR.op ((op_assign rfl) _) rfl rfl ?_
     refine GoR.nil ?_
     have hobt := freezeHead 0 hO rfl hE173 (i5_125).toNat
     obtain ⟨hO1, hc179, hi178⟩ := hobt
     replace h_t := h_t.ch hc179
     replace hB := hB.trans (Owns.dropFr _ _ 0)
     replace hO := hO1; clear hO1
     refine Go1.ret1 Try.func53 rfl ?_
     exact ⟨(s5_127.take i5_125.toNat ++ List.replicate (s5_127.length - i5_125.toNat) ((0 : Int))).take (i5_125).toNat, p_r20, c_r20, ((congrArg (fun nn => Value.slice p_r20 nn c_r20) (takeLen h175 h176))), hB.same, (hi178.ch (Ch.weak _ _ _)), H⟩
theorem body54 : Body Try.prog 54 := ⟨Try.f54, Try.func54, rfl, by kernel_rfl⟩
theorem walk_mult_Commutative {A : List Nat} {w0 : World} {p_t : Option Addr} {c_t : Nat} {t : List (List Int)} (hA : ∀ b ∈ A, b < w0.heap.size) (h_t : ISl (Rp.sl (Rp.int .i64)) A w0 p_t c_t t) {K : Bool → Prop} (H : mult_Commutative t K) :
    CallsV Try.prog 54 #[.slice p_t t.length c_t] w0 (fun v w' => ∃ (r0 : Bool), v = .bool r0 ∧ Same w0 w' ∧ K r0) := by
 refine CallsV.of (l := [.slice p_t t.length c_t]) Try.func54 rfl Try.ntmps54 rfl ?_
 have hO := Owns.start hA
 have hB := Fr.refl (bl []) w0
 unfold mult_Commutative at H
 replace h_t := h_t.ch (Ch.start A w0)
 refine Go1.seq ?_
 refine Go1.region ?_
 refine GoR.op ((op_assign rfl) _) rfl rfl ?_
 refine GoR.nil ?_
 refine Go1.seq ?_
 refine Go1.region ?_
 refine GoR.op ((op_move rfl) _) rfl rfl ?_
 refine GoR.call (op_call body71 rfl (walk_mult_valid hO.lt h_t H)) rfl rfl ?_
 rintro v5 w2 ⟨r1, rfl, hs3, H⟩
 have hst6 := Stp.same hO hs3
 replace hO := hst6.own
 replace h_t := h_t.ch hst6.ch
 replace hB := hB.trans hst6.fr
 refine GoR.op ((op_move rfl) _) rfl rfl ?_
 cases r1
 ·replace H := ifn Bool.false_ne_true H
  refine GoR.pass rfl rfl ?_
  refine GoR.pass rfl rfl ?_
  refine GoR.pass rfl rfl ?_
  refine GoR.pass rfl rfl ?_
  refine GoR.pass rfl rfl ?_
  refine GoR.pass rfl rfl ?_
  refine GoR.op ((op_pickF rfl rfl rfl) _) rfl rfl ?_
  refine GoR.op ((op_assign rfl) _) rfl rfl ?_
  refine GoR.nil ?_
  refine Go1.ret1 Try.func54 rfl ?_
  exact ⟨false, rfl, hB.same, H⟩
 ·replace H := ifp rfl H
  refine GoR.op ((op_move rfl) _) rfl rfl ?_
  refine GoR.call (op_call body53 rfl (walk_mult_Center hO.lt h_t H)) rfl rfl ?_
  rintro v11 w8 ⟨r7, p_r7, c_r7, rfl, hs9, h_r7, H⟩
  have hst12 := Stp.same hO hs9
  replace hO := hst12.own
  replace h_t := h_t.ch hst12.ch
  replace hB := hB.trans hst12.fr
  refine GoR.op ((op_len Try.underlying23 rfl) _) rfl rfl ?_
  replace H := H h_r7.bd
  refine GoR.op ((op_move rfl) _) rfl rfl ?_
  refine GoR.op ((op_len Try.underlying22 rfl) _) rfl rfl ?_
  replace H := H h_t.bd
  by_cases h13 : (r7.length : Int) = (t.length : Int)
  ·replace H := ifp h13 H
   refine GoR.op ((fun w => opB (op_eql rfl rfl w) (decide_eq_true h13)) _) rfl rfl ?_
   refine GoR.op ((op_pickT rfl rfl rfl) _) rfl rfl ?_
   refine GoR.op ((op_assign rfl) _) rfl rfl ?_
   refine GoR.nil ?_
   refine Go1.ret1 Try.func54 rfl ?_
   exact ⟨true, rfl, hB.same, H⟩
  ·replace H := ifn h13 H
   refine GoR.op ((fun w => opB (op_eql rfl rfl w) (decide_eq_false h13)) _) rfl rfl ?_
   refine GoR.op ((op_pickT rfl rfl rfl) _) rfl rfl ?_
   refine GoR.op ((op_assign rfl) _) rfl rfl ?_
   refine GoR.nil ?_
   refine Go1.ret1 Try.func54 rfl ?_
   exact ⟨false, rfl, hB.same, H⟩
theorem body55 : Body Try.prog 55 := ⟨Try.f55, Try.func55, rfl, by kernel_rfl⟩
theorem walk_ref14_Generators {A : List Nat} {w0 : World} {p_t : Option Addr} {c_t : Nat} {t : List (List Int)} (hA : ∀ b ∈ A, b < w0.heap.size) (h_t : ISl (Rp.sl (Rp.int .i64)) A w0 p_t c_t t) {K : List Int → Prop} (H : ref14_Generators t K) :
    CallsV Try.prog 55 #[.slice p_t t.length c_t] w0 (fun v w' => ∃ (r0 : List Int), ∃ (p_r0 : Option Addr), ∃ (c_r0 : Nat), v = .slice p_r0 r0.length c_r0 ∧ Same w0 w' ∧ ISl (Rp.int .i64) A w' p_r0 c_r0 r0 ∧ K r0) := by
 refine CallsV.of (l := [.slice p_t t.length c_t]) Try.func55 rfl Try.ntmps55 rfl ?_
 have hO := Owns.start hA
 have hB := Fr.refl (bl []) w0
 unfold ref14_Generators at H
 replace h_t := h_t.ch (Ch.start A w0)
 refine Go1.seq ?_
 refine Go1.region ?_
 refine GoR.op ((op_assign rfl) _) rfl rfl ?_
 refine GoR.nil ?_
 refine Go1.seq ?_
 refine Go1.region ?_
 refine GoR.op ((op_assign rfl) _) rfl rfl ?_
 refine GoR.nil ?_
 refine Go1.seq ?_
 refine Go1.seq ?_
 refine Go1.region ?_
 refine GoR.op ((op_move rfl) _) rfl rfl ?_
 refine GoR.op ((op_len Try.underlying22 rfl) _) rfl rfl ?_
 replace H := H h_t.bd
 refine GoR.op ((op_move rfl) _) rfl rfl ?_
 refine GoR.nil ?_
 refine Go1.block ?_
 have hst2 := Stp.nil (e := 3) (r := 1) hO
 replace hO := hst2.own
 replace h_t := h_t.ch hst2.ch
 replace hB := hB.trans hst2.fr
 have hE3 := Els.nil (Rp.int .i64) (bl (.row 3 1 none 0 0 [] :: []) ++ A) w0
 refine Go1.loopW (S := Nat × List Int) (fun s σ w => ∃ (n11 : Nat), ∃ (p9 : Option Addr), ∃ (c10 : Nat), ∃ (vs7 : List Value), agrees σ [(0, .slice p_t t.length c_t), (3, .slice p9 n11 c10), (9, .int .i64 (t.length : Int)), (10, .int .i64 ((s.1) : Int))] ∧ Owns w0.heap.size w [.row 3 1 p9 n11 c10 vs7] A ∧ Els (Rp.int .i64) (bl [.row 3 1 p9 n11 c10 vs7] ++ A) w vs7 (s.2) ∧ ISl (Rp.sl (Rp.int .i64)) (bl [.row 3 1 p9 n11 c10 vs7] ++ A) w p_t c_t t ∧ Fr (bl []) w0 (bl [.row 3 1 p9 n11 c10 vs7]) w) H ⟨0, none, 0, [], ⟨rfl, rfl, rfl, rfl, trivial⟩, hO, hE3, h_t, hB⟩ ?_
 rintro X1 ⟨k1_5, out1_6⟩ H hX1 σ w4 ⟨n11, p9, c10, vs7, hag, hO, hE8, h_t, hB⟩
 dsimp only at H
 refine Go1.keep [(0, .slice p_t t.length c_t), (3, .slice p9 n11 c10), (9, .int .i64 (t.length : Int)), (10, .int .i64 (k1_5 : Int))] hag ?_
 refine Go1.seq ?_
 refine Go1.region ?_
 by_cases h12 : (k1_5 : Int) < (t.length : Int)
 ·replace H := ifp h12 H
  refine GoR.op ((fun w => opB (op_lss rfl rfl w) (decide_eq_true h12)) _) rfl rfl ?_
  refine GoR.nil ?_
  refine Go1.seq ?_
  refine Go1.condT rfl rfl ?_
  refine Go1.skip ?_
  refine Go1.seq ?_
  refine Go1.block ?_
  refine Go1.seq ?_
  refine Go1.region ?_
  refine GoR.op ((op_move rfl) _) rfl rfl ?_
  refine GoR.op ((op_assign rfl) _) rfl rfl ?_
  refine GoR.nil ?_
  refine Go1.seq ?_
  refine Go1.region ?_
  refine GoR.op ((op_assign rfl) _) rfl rfl ?_
  refine GoR.nil ?_
  refine Go1.seq ?_
  refine Go1.seq ?_
  refine Go1.region ?_
  refine GoR.op ((op_move rfl) _) rfl rfl ?_
  refine GoR.op ((op_move rfl) _) rfl rfl ?_
  have hobt := rowlend 0 hO rfl hE8
  obtain ⟨hl13, hn14⟩ := hobt
  have hOc15 := hO.drop 0
  refine GoR.call (op_call body21 (show ([.slice p_t t.length c_t, .slice p9 n11 c10] : List Value) = [.slice p_t t.length c_t, .slice p9 out1_6.length c10] from by rw [← hn14]) (walk_ref14_Generated hOc15.lt (h_t.ch (Owns.dropCh _ _ 0)) hl13 H)) rfl rfl ?_
  rintro v21 w18 ⟨r16, n_r16, p_r16, c_r16, vs_r16, rfl, hs19, hN20, hE17, H⟩
  have hst22 := Stp.more hO hs19 hN20
  replace hE8 := hE8.ch hst22.ch
  replace hO := hst22.own
  replace h_t := h_t.ch hst22.ch
  replace hB := hB.trans hst22.fr
  replace hE17 := Els.flO hO (Fl.int .i64) hE17
  refine GoR.op ((op_lenN Try.underlying23 rfl (hE17.neq hO 0 rfl)) _) rfl rfl ?_
  refine GoR.op ((op_move rfl) _) rfl rfl ?_
  refine GoR.nil ?_
  refine Go1.block ?_
  refine Go1.loopW (S := Bool × Nat) (fun s σ w => agrees σ [(0, .slice p_t t.length c_t), (3, .slice p9 n11 c10), (4, .int .i64 (k1_5 : Int)), (5, .bool (s.1)), (9, .int .i64 (t.length : Int)), (10, .int .i64 (k1_5 : Int)), (15, .slice p_r16 n_r16 c_r16), (16, .int .i64 (r16.length : Int)), (17, .int .i64 ((s.2) : Int))] ∧ Owns w0.heap.size w [.row 3 1 p_r16 n_r16 c_r16 vs_r16, .row 3 1 p9 n11 c10 vs7] A ∧ Els (Rp.int .i64) (bl [.row 3 1 p_r16 n_r16 c_r16 vs_r16, .row 3 1 p9 n11 c10 vs7] ++ A) w vs_r16 r16 ∧ Els (Rp.int .i64) (bl [.row 3 1 p_r16 n_r16 c_r16 vs_r16, .row 3 1 p9 n11 c10 vs7] ++ A) w vs7 out1_6 ∧ ISl (Rp.sl (Rp.int .i64)) (bl [.row 3 1 p_r16 n_r16 c_r16 vs_r16, .row 3 1 p9 n11 c10 vs7] ++ A) w p_t c_t t ∧ Fr (bl []) w0 (bl [.row 3 1 p_r16 n_r16 c_r16 vs_r16, .row 3 1 p9 n11 c10 vs7]) w) H ⟨⟨rfl, rfl, rfl, rfl, rfl, rfl, rfl, rfl, rfl, trivial⟩, hO, hE17, hE8, h_t, hB⟩ ?_
  rintro X2 ⟨in2_25, k2_26⟩ H hX2 σ w24 ⟨hag, hO, hE17, hE8, h_t, hB⟩
  dsimp only at H
  refine Go1.keep [(0, .slice p_t t.length c_t), (3, .slice p9 n11 c10), (4, .int .i64 (k1_5 : Int)), (5, .bool in2_25), (9, .int .i64 (t.length : Int)), (10, .int .i64 (k1_5 : Int)), (15, .slice p_r16 n_r16 c_r16), (16, .int .i64 (r16.length : Int)), (17, .int .i64 (k2_26 : Int))] hag ?_
  refine Go1.seq ?_
  refine Go1.region ?_
  by_cases h27 : (k2_26 : Int) < (r16.length : Int)
  ·replace H := ifp h27 H
   refine GoR.op ((fun w => opB (op_lss rfl rfl w) (decide_eq_true h27)) _) rfl rfl ?_
   refine GoR.nil ?_
   refine Go1.seq ?_
   refine Go1.condT rfl rfl ?_
   refine Go1.skip ?_
   refine Go1.seq ?_
   refine Go1.block ?_
   refine Go1.seq ?_
   refine Go1.region ?_
   obtain ⟨h28, H⟩ := H
   obtain ⟨h29, H⟩ := H
   refine GoR.op ((op_index Try.underlying23 ti3 rfl rfl h28 (ltn (hE17.neq hO 0 rfl) h29) (hE17.psome hO 0 rfl h28 h29)) _) rfl rfl ?_
   refine GoR.op ((oldInt 0 hO rfl hE17 h28 h29 Try.underlying3 rfl rfl) _ (Same.refl _)) rfl rfl ?_
   refine GoR.op ((op_assign rfl) _) rfl rfl ?_
   refine GoR.nil ?_
   refine Go1.region ?_
   refine GoR.op ((op_move rfl) _) rfl rfl ?_
   refine GoR.op ((op_move rfl) _) rfl rfl ?_
   cases in2_25
   ·replace H := ifn Bool.false_ne_true H
    refine GoR.op ((op_move rfl) _) rfl rfl ?_
    refine GoR.op ((op_move rfl) _) rfl rfl ?_
    by_cases h30 : (k1_5 : Int) = (ix r16 (k2_26 : Int))
    ·replace H := ifp h30 H
     refine GoR.op ((fun w => opB (op_eql rfl rfl w) (decide_eq_true h30)) _) rfl rfl ?_
     refine GoR.op ((op_pickF rfl rfl rfl) _) rfl rfl ?_
     refine GoR.op ((op_assign rfl) _) rfl rfl ?_
     refine GoR.nil ?_
     refine Go1.inBlock ?_
     refine Go1.region ?_
     refine GoR.op ((op_add rfl rfl (wrap_i64 (natbd h27 hE17.bd))) _) rfl rfl ?_
     refine GoR.op ((op_move rfl) _) rfl rfl ?_
     refine GoR.nil ?_
     exact hX2 _ H _ _ ⟨⟨rfl, rfl, rfl, rfl, rfl, rfl, rfl, rfl, rfl, trivial⟩, hO, hE17, hE8, h_t, hB⟩
    ·replace H := ifn h30 H
     refine GoR.op ((fun w => opB (op_eql rfl rfl w) (decide_eq_false h30)) _) rfl rfl ?_
     refine GoR.op ((op_pickF rfl rfl rfl) _) rfl rfl ?_
     refine GoR.op ((op_assign rfl) _) rfl rfl ?_
     refine GoR.nil ?_
     refine Go1.inBlock ?_
     refine Go1.region ?_
     refine GoR.op ((op_add rfl rfl (wrap_i64 (natbd h27 hE17.bd))) _) rfl rfl ?_
     refine GoR.op ((op_move rfl) _) rfl rfl ?_
     refine GoR.nil ?_
     exact hX2 _ H _ _ ⟨⟨rfl, rfl, rfl, rfl, rfl, rfl, rfl, rfl, rfl, trivial⟩, hO, hE17, hE8, h_t, hB⟩
   ·replace H := ifp rfl H
    refine GoR.pass rfl rfl ?_
    refine GoR.pass rfl rfl ?_
    refine GoR.pass rfl rfl ?_
    refine GoR.op ((op_pickT rfl rfl rfl) _) rfl rfl ?_
    refine GoR.op ((op_assign rfl) _) rfl rfl ?_
    refine GoR.nil ?_
    refine Go1.inBlock ?_
    refine Go1.region ?_
    refine GoR.op ((op_add rfl rfl (wrap_i64 (natbd h27 hE17.bd))) _) rfl rfl ?_
    refine GoR.op ((op_move rfl) _) rfl rfl ?_
    refine GoR.nil ?_
    exact hX2 _ H _ _ ⟨⟨rfl, rfl, rfl, rfl, rfl, rfl, rfl, rfl, rfl, trivial⟩, hO, hE17, hE8, h_t, hB⟩
  ·replace H := ifn h27 H
   refine GoR.op ((fun w => opB (op_lss rfl rfl w) (decide_eq_false h27)) _) rfl rfl ?_
   refine GoR.nil ?_
   refine Go1.seq ?_
   refine Go1.condF rfl rfl ?_
   refine Go1.exit rfl ?_
   refine Go1.seq ?_
   refine Go1.region ?_
   refine GoR.op ((op_move rfl) _) rfl rfl ?_
   cases in2_25
   ·replace H := ifn Bool.false_ne_true H
    refine GoR.op ((op_not rfl) _) rfl rfl ?_
    refine GoR.nil ?_
    refine Go1.condT rfl rfl ?_
    refine Go1.region ?_
    refine GoR.op ((op_move rfl) _) rfl rfl ?_
    refine GoR.op ((op_move rfl) _) rfl rfl ?_
    have hobt := obuild (r := Rp.int .i64) (n := 1) (parts := [(0, .int .i64 (k1_5 : Int))]) (vs := [.int .i64 (k1_5 : Int)]) (xs := [(k1_5 : Int)]) rfl Try.underlying23 ti3 hO (by decide) (by kernel_rfl) (Els.cons rfl rfl (Els.nil _ _ _) (by simp [mx])) rfl
    obtain ⟨w31, p32, hst33, hE34, hs35, hop36⟩ := hobt
    refine GoR.op (hop36 rfl) rfl rfl ?_
    replace hE17 := hE17.ch hst33.ch
    replace hE8 := hE8.ch hst33.ch
    replace hO := hst33.own
    replace h_t := h_t.ch hst33.ch
    replace hB := hB.trans hst33.fr
    have hobt := freeze 0 hO rfl hE34
    obtain ⟨hO1, hc40, hi38, hn39⟩ := hobt
    replace h_t := h_t.ch hc40
    replace hE17 := hE17.ch hc40
    replace hE8 := hE8.ch hc40
    replace hB := hB.trans (Owns.dropFr _ _ 0)
    replace hO := hO1; clear hO1
    obtain ⟨h41, H⟩ := H
    have hobt := oapp Try.underlying23 ti3 rfl 1 hO rfl hE8 hi38 hn39 h41 (by decide)
    obtain ⟨w42, p43, c44, vs45, hst46, hE47, hop48⟩ := hobt
    refine GoR.op (hop48 rfl rfl) rfl rfl ?_
    replace hE17 := hE17.ch hst46.ch
    replace hO := hst46.own
    replace h_t := h_t.ch hst46.ch
    replace hi38 := hi38.ch hst46.ch
    replace hB := hB.trans hst46.fr
    refine GoR.op ((op_assign rfl) _) rfl rfl ?_
    refine GoR.nil ?_
    refine Go1.inBlock ?_
    refine Go1.region ?_
    refine GoR.op ((op_add rfl rfl (wrap_i64 (natbd h12 h_t.bd))) _) rfl rfl ?_
    refine GoR.op ((op_move rfl) _) rfl rfl ?_
    refine GoR.nil ?_
    replace h_t := h_t.ch (Owns.dropCh _ _ 0)
    replace hi38 := hi38.ch (Owns.dropCh _ _ 0)
    replace hE47 := hE47.ch (Owns.dropCh _ _ 0)
    replace hB := hB.trans (Owns.dropFr _ _ 0)
    replace hO := hO.drop 0
    exact hX1 _ H _ _ ⟨n11 + 1, p43, c44, vs45, ⟨rfl, rfl, rfl, rfl, trivial⟩, hO, hE47, h_t, hB⟩
   ·replace H := ifp rfl H
    refine GoR.op ((op_not rfl) _) rfl rfl ?_
    refine GoR.nil ?_
    refine Go1.condF rfl rfl ?_
    refine Go1.skip ?_
    refine Go1.inBlock ?_
    refine Go1.region ?_
    refine GoR.op ((op_add rfl rfl (wrap_i64 (natbd h12 h_t.bd))) _) rfl rfl ?_
    refine GoR.op ((op_move rfl) _) rfl rfl ?_
    refine GoR.nil ?_
    replace h_t := h_t.ch (Owns.dropCh _ _ 0)
    replace hE8 := hE8.ch (Owns.dropCh _ _ 0)
    replace hB := hB.trans (Owns.dropFr _ _ 0)
    replace hO := hO.drop 0
    exact hX1 _ H _ _ ⟨n11, p9, c10, vs7, ⟨rfl, rfl, rfl, rfl, trivial⟩, hO, hE8, h_t, hB⟩
 ·replace H := ifn h12 H
  refine GoR.op ((fun w => opB (op_lss rfl rfl w) (decide_eq_false h12)) _) rfl rfl ?_
  refine GoR.nil ?_
  refine Go1.seq ?_
  refine Go1.condF rfl rfl ?_
  refine Go1.exit rfl ?_
  refine Go1.seq ?_
  refine Go1.region ?_
  refine GoR.op ((op_move rfl) _) rfl rfl ?_
  refine GoR.op ((op_assign rfl) _) rfl rfl ?_
  refine GoR.nil ?_
  have hobt := freeze 0 hO rfl hE8
  obtain ⟨hO1, hc52, hi50, hn51⟩ := hobt
  replace h_t := h_t.ch hc52
  replace hB := hB.trans (Owns.dropFr _ _ 0)
  replace hO := hO1; clear hO1
  refine Go1.ret1 Try.func55 rfl ?_
  exact ⟨out1_6, p9, c10, ((congrArg (fun nn => Value.slice p9 nn c10) hn51)), hB.same, (hi50.ch (Ch.weak _ _ _)), H⟩
theorem body56 : Body Try.prog 56 := ⟨Try.f56, Try.func56, rfl, by kernel_rfl⟩
theorem walk_ref14_Indecomposable {A : List Nat} {w0 : World} {p_t : Option Addr} {c_t : Nat} {t : List (List Int)} (hA : ∀ b ∈ A, b < w0.heap.size) (h_t : ISl (Rp.sl (Rp.int .i64)) A w0 p_t c_t t) {K : List Int → Prop} (H : ref14_Indecomposable t K) :
    CallsV Try.prog 56 #[.slice p_t t.length c_t] w0 (fun v w' => ∃ (r0 : List Int), ∃ (p_r0 : Option Addr), ∃ (c_r0 : Nat), v = .slice p_r0 r0.length c_r0 ∧ Same w0 w' ∧ ISl (Rp.int .i64) A w' p_r0 c_r0 r0 ∧ K r0) := by
 refine CallsV.of (l := [.slice p_t t.length c_t]) Try.func56 rfl Try.ntmps56 rfl ?_
 have hO := Owns.start hA
 have hB := Fr.refl (bl []) w0
 unfold ref14_Indecomposable at H
 replace h_t := h_t.ch (Ch.start A w0)
 refine Go1.seq ?_
 refine Go1.region ?_
 refine GoR.op ((op_assign rfl) _) rfl rfl ?_
 refine GoR.nil ?_
 refine Go1.seq ?_
 refine Go1.region ?_
 refine GoR.op ((op_move rfl) _) rfl rfl ?_
 refine GoR.op ((op_len Try.underlying22 rfl) _) rfl rfl ?_
 replace H := H h_t.bd
 obtain ⟨h8, H⟩ := H
 obtain ⟨h9, H⟩ := H
 have hobt := omake (n := (t.length : Int)) (r := Rp.bool) (d := false) Try.underlying54 ti4 (fun _ _ => rfl) rfl hO h8 h9 (by decide)
 obtain ⟨w1, p2, vs3, hst4, hE5, hs6, hop7⟩ := hobt
 refine GoR.op (hop7 rfl rfl) rfl rfl ?_
 replace hO := hst4.own
 replace h_t := h_t.ch hst4.ch
 replace hB := hB.trans hst4.fr
 refine GoR.op ((op_assign rfl) _) rfl rfl ?_
 refine GoR.nil ?_
 refine Go1.seq ?_
 refine Go1.seq ?_
 refine Go1.region ?_
 refine GoR.op ((op_move rfl) _) rfl rfl ?_
 refine GoR.op ((op_len Try.underlying22 rfl) _) rfl rfl ?_
 refine GoR.op ((op_move rfl) _) rfl rfl ?_
 refine GoR.nil ?_
 refine Go1.block ?_
 refine Go1.loopW (S := Nat × List Bool) (fun s σ w => ∃ (vs14 : List Value), agrees σ [(0, .slice p_t t.length c_t), (3, .slice p2 t.length t.length), (11, .int .i64 (t.length : Int)), (12, .int .i64 ((s.1) : Int))] ∧ Owns w0.heap.size w [.row 4 1 p2 t.length t.length vs14] A ∧ Els (Rp.bool) (bl [.row 4 1 p2 t.length t.length vs14] ++ A) w vs14 (s.2) ∧ ISl (Rp.sl (Rp.int .i64)) (bl [.row 4 1 p2 t.length t.length vs14] ++ A) w p_t c_t t ∧ Fr (bl []) w0 (bl [.row 4 1 p2 t.length t.length vs14]) w) H ⟨vs3, ⟨rfl, rfl, rfl, rfl, trivial⟩, hO, hE5, h_t, hB⟩ ?_
 rintro X1 ⟨k1_12, in1_13⟩ H hX1 σ w11 ⟨vs14, hag, hO, hE15, h_t, hB⟩
 dsimp only at H
 refine Go1.keep [(0, .slice p_t t.length c_t), (3, .slice p2 t.length t.length), (11, .int .i64 (t.length : Int)), (12, .int .i64 (k1_12 : Int))] hag ?_
 refine Go1.seq ?_
 refine Go1.region ?_
 by_cases h16 : (k1_12 : Int) < (t.length : Int)
 ·replace H := ifp h16 H
  refine GoR.op ((fun w => opB (op_lss rfl rfl w) (decide_eq_true h16)) _) rfl rfl ?_
  refine GoR.nil ?_
  refine Go1.seq ?_
  refine Go1.condT rfl rfl ?_
  refine Go1.skip ?_
  refine Go1.seq ?_
  refine Go1.block ?_
  refine Go1.seq ?_
  refine Go1.region ?_
  refine GoR.op ((op_move rfl) _) rfl rfl ?_
  refine GoR.op ((op_assign rfl) _) rfl rfl ?_
  refine GoR.nil ?_
  refine Go1.region ?_
  refine GoR.op ((op_move rfl) _) rfl rfl ?_
  refine GoR.op ((op_move rfl) _) rfl rfl ?_
  obtain ⟨h17, H⟩ := H
  obtain ⟨h18, H⟩ := H
  refine GoR.op ((op_index Try.underlying54 ti4 rfl rfl h17 (ltn (hE15.neq hO 0 rfl) h18) (hE15.psome hO 0 rfl h17 h18)) _) rfl rfl ?_
  have hobt := ost (r := Rp.bool) rfl 0 hO rfl hE15 h17 h18 (v := .bool true) (u := true) rfl rfl
  obtain ⟨w19, vs20, hst21, hE22, hop23⟩ := hobt
  refine GoR.op (hop23 Try.underlying4 rfl ti4 rfl rfl) rfl rfl ?_
  replace hO := hst21.own
  replace h_t := h_t.ch hst21.ch
  replace hB := hB.trans hst21.fr
  refine GoR.nil ?_
  refine Go1.inBlock ?_
  refine Go1.region ?_
  refine GoR.op ((op_add rfl rfl (wrap_i64 (natbd h16 h_t.bd))) _) rfl rfl ?_
  refine GoR.op ((op_move rfl) _) rfl rfl ?_
  refine GoR.nil ?_
  exact hX1 _ H _ _ ⟨vs20, ⟨rfl, rfl, rfl, rfl, trivial⟩, hO, hE22, h_t, hB⟩
 ·replace H := ifn h16 H
  refine GoR.op ((fun w => opB (op_lss rfl rfl w) (decide_eq_false h16)) _) rfl rfl ?_
  refine GoR.nil ?_
  refine Go1.seq ?_
  refine Go1.condF rfl rfl ?_
  refine Go1.exit rfl ?_
  refine Go1.seq ?_
  refine Go1.seq ?_
  refine Go1.region ?_
  refine GoR.op ((op_move rfl) _) rfl rfl ?_
  refine GoR.op ((op_len Try.underlying22 rfl) _) rfl rfl ?_
  refine GoR.op ((op_move rfl) _) rfl rfl ?_
  refine GoR.nil ?_
  refine Go1.block ?_
  refine Go1.loopW (S := Nat × List Bool) (fun s σ w => ∃ (vs27 : List Value), agrees σ [(0, .slice p_t t.length c_t), (3, .slice p2 t.length t.length), (20, .int .i64 (t.length : Int)), (21, .int .i64 ((s.1) : Int))] ∧ Owns w0.heap.size w [.row 4 1 p2 t.length t.length vs27] A ∧ Els (Rp.bool) (bl [.row 4 1 p2 t.length t.length vs27] ++ A) w vs27 (s.2) ∧ ISl (Rp.sl (Rp.int .i64)) (bl [.row 4 1 p2 t.length t.length vs27] ++ A) w p_t c_t t ∧ Fr (bl []) w0 (bl [.row 4 1 p2 t.length t.length vs27]) w) H ⟨vs14, ⟨rfl, rfl, rfl, rfl, trivial⟩, hO, hE15, h_t, hB⟩ ?_
  rintro X2 ⟨k2_25, in2_26⟩ H hX2 σ w24 ⟨vs27, hag, hO, hE28, h_t, hB⟩
  dsimp only at H
  refine Go1.keep [(0, .slice p_t t.length c_t), (3, .slice p2 t.length t.length), (20, .int .i64 (t.length : Int)), (21, .int .i64 (k2_25 : Int))] hag ?_
  refine Go1.seq ?_
  refine Go1.region ?_
  by_cases h29 : (k2_25 : Int) < (t.length : Int)
  ·replace H := ifp h29 H
   refine GoR.op ((fun w => opB (op_lss rfl rfl w) (decide_eq_true h29)) _) rfl rfl ?_
   refine GoR.nil ?_
   refine Go1.seq ?_
   refine Go1.condT rfl rfl ?_
   refine Go1.skip ?_
   refine Go1.seq ?_
   refine Go1.block ?_
   refine Go1.seq ?_
   refine Go1.region ?_
   refine GoR.op ((op_move rfl) _) rfl rfl ?_
   refine GoR.op ((op_assign rfl) _) rfl rfl ?_
   refine GoR.nil ?_
   refine Go1.seq ?_
   refine Go1.region ?_
   refine GoR.op ((op_move rfl) _) rfl rfl ?_
   refine GoR.op ((op_len Try.underlying22 rfl) _) rfl rfl ?_
   refine GoR.op ((op_move rfl) _) rfl rfl ?_
   refine GoR.nil ?_
   refine Go1.block ?_
   refine Go1.loopW (S := Nat × List Bool) (fun s σ w => ∃ (vs33 : List Value), agrees σ [(0, .slice p_t t.length c_t), (3, .slice p2 t.length t.length), (5, .int .i64 (k2_25 : Int)), (20, .int .i64 (t.length : Int)), (21, .int .i64 (k2_25 : Int)), (25, .int .i64 (t.length : Int)), (26, .int .i64 ((s.1) : Int))] ∧ Owns w0.heap.size w [.row 4 1 p2 t.length t.length vs33] A ∧ Els (Rp.bool) (bl [.row 4 1 p2 t.length t.length vs33] ++ A) w vs33 (s.2) ∧ ISl (Rp.sl (Rp.int .i64)) (bl [.row 4 1 p2 t.length t.length vs33] ++ A) w p_t c_t t ∧ Fr (bl []) w0 (bl [.row 4 1 p2 t.length t.length vs33]) w) H ⟨vs27, ⟨rfl, rfl, rfl, rfl, rfl, rfl, rfl, trivial⟩, hO, hE28, h_t, hB⟩ ?_
   rintro X3 ⟨k3_31, in3_32⟩ H hX3 σ w30 ⟨vs33, hag, hO, hE34, h_t, hB⟩
   dsimp only at H
   refine Go1.keep [(0, .slice p_t t.length c_t), (3, .slice p2 t.length t.length), (5, .int .i64 (k2_25 : Int)), (20, .int .i64 (t.length : Int)), (21, .int .i64 (k2_25 : Int)), (25, .int .i64 (t.length : Int)), (26, .int .i64 (k3_31 : Int))] hag ?_
   refine Go1.seq ?_
   refine Go1.region ?_
   by_cases h35 : (k3_31 : Int) < (t.length : Int)
   ·replace H := ifp h35 H
    refine GoR.op ((fun w => opB (op_lss rfl rfl w) (decide_eq_true h35)) _) rfl rfl ?_
    refine GoR.nil ?_
    refine Go1.seq ?_
    refine Go1.condT rfl rfl ?_
    refine Go1.skip ?_
    refine Go1.seq ?_
    refine Go1.block ?_
    refine Go1.seq ?_
    refine Go1.region ?_
    refine GoR.op ((op_move rfl) _) rfl rfl ?_
    refine GoR.op ((op_assign rfl) _) rfl rfl ?_
    refine GoR.nil ?_
    refine Go1.region ?_
    refine GoR.op ((op_move rfl) _) rfl rfl ?_
    refine GoR.op ((op_move rfl) _) rfl rfl ?_
    refine GoR.op ((op_move rfl) _) rfl rfl ?_
    obtain ⟨h36, H⟩ := H
    obtain ⟨h37, H⟩ := H
    refine GoR.op ((op_index Try.underlying22 ti23 rfl rfl h36 h37 (h_t.some_ h36 h37)) _) rfl rfl ?_
    have hobt := ldSl h_t h36 h37
    obtain ⟨p38, c39, hi40, hl41⟩ := hobt
    refine GoR.op ((hl41 Try.underlying23 rfl rfl) _ (Same.refl _)) rfl rfl ?_
    refine GoR.op ((op_move rfl) _) rfl rfl ?_
    obtain ⟨h42, H⟩ := H
    obtain ⟨h43, H⟩ := H
    refine GoR.op ((op_index Try.underlying23 ti3 rfl rfl h42 h43 (hi40.some_ h42 h43)) _) rfl rfl ?_
    refine GoR.op ((ldInt hi40 h42 h43 Try.underlying3 rfl rfl) _ (Same.refl _)) rfl rfl ?_
    obtain ⟨h44, H⟩ := H
    obtain ⟨h45, H⟩ := H
    refine GoR.op ((op_index Try.underlying54 ti4 rfl rfl h44 (ltn (hE34.neq hO 0 rfl) h45) (hE34.psome hO 0 rfl h44 h45)) _) rfl rfl ?_
    have hobt := ost (r := Rp.bool) rfl 0 hO rfl hE34 h44 h45 (v := .bool false) (u := false) rfl rfl
    obtain ⟨w46, vs47, hst48, hE49, hop50⟩ := hobt
    refine GoR.op (hop50 Try.underlying4 rfl ti4 rfl rfl) rfl rfl ?_
    replace hO := hst48.own
    replace h_t := h_t.ch hst48.ch
    replace hi40 := hi40.ch hst48.ch
    replace hB := hB.trans hst48.fr
    refine GoR.nil ?_
    refine Go1.inBlock ?_
    refine Go1.region ?_
    refine GoR.op ((op_add rfl rfl (wrap_i64 (natbd h35 h_t.bd))) _) rfl rfl ?_
    refine GoR.op ((op_move rfl) _) rfl rfl ?_
    refine GoR.nil ?_
    exact hX3 _ H _ _ ⟨vs47, ⟨rfl, rfl, rfl, rfl, rfl, rfl, rfl, trivial⟩, hO, hE49, h_t, hB⟩
   ·replace H := ifn h35 H
    refine GoR.op ((fun w => opB (op_lss rfl rfl w) (decide_eq_false h35)) _) rfl rfl ?_
    refine GoR.nil ?_
    refine Go1.seq ?_
    refine Go1.condF rfl rfl ?_
    refine Go1.exit rfl ?_
    refine Go1.inBlock ?_
    refine Go1.region ?_
    refine GoR.op ((op_add rfl rfl (wrap_i64 (natbd h29 h_t.bd))) _) rfl rfl ?_
    refine GoR.op ((op_move rfl) _) rfl rfl ?_
    refine GoR.nil ?_
    exact hX2 _ H _ _ ⟨vs33, ⟨rfl, rfl, rfl, rfl, trivial⟩, hO, hE34, h_t, hB⟩
  ·replace H := ifn h29 H
   refine GoR.op ((fun w => opB (op_lss rfl rfl w) (decide_eq_false h29)) _) rfl rfl ?_
   refine GoR.nil ?_
   refine Go1.seq ?_
   refine Go1.condF rfl rfl ?_
   refine Go1.exit rfl ?_
   refine Go1.seq ?_
   refine Go1.region ?_
   refine GoR.op ((op_move rfl) _) rfl rfl ?_
   have hobt := rowlend 0 hO rfl hE28
   obtain ⟨hl51, hn52⟩ := hobt
   have hOc53 := hO.drop 0
   refine GoR.call (op_call body65 (show ([.slice p2 t.length t.length] : List Value) = [.slice p2 in2_26.length t.length] from by rw [← hn52]) (walk_ref03_Members hOc53.lt hl51 H)) rfl rfl ?_
   rintro v59 w56 ⟨r54, n_r54, p_r54, c_r54, vs_r54, rfl, hs57, hN58, hE55, H⟩
   have hst60 := Stp.more hO hs57 hN58
   replace hE28 := hE28.ch hst60.ch
   replace hO := hst60.own
   replace h_t := h_t.ch hst60.ch
   replace hB := hB.trans hst60.fr
   replace hE55 := Els.flO hO (Fl.int .i64) hE55
   refine GoR.op ((op_assign rfl) _) rfl rfl ?_
   refine GoR.nil ?_
   have hobt := freeze 0 hO rfl hE55
   obtain ⟨hO1, hc64, hi62, hn63⟩ := hobt
   replace h_t := h_t.ch hc64
   replace hE28 := hE28.ch hc64
   replace hB := hB.trans (Owns.dropFr _ _ 0)
   replace hO := hO1; clear hO1
   refine Go1.ret1 Try.func56 rfl ?_
   exact ⟨r54, p_r54, c_r54, ((congrArg (fun nn => Value.slice p_r54 nn c_r54) hn63)), hB.same, (hi62.ch (Ch.weak _ _ _)), H⟩
theorem body57 : Body Try.prog 57 := ⟨Try.f57, Try.func57, rfl, by kernel_rfl⟩
theorem walk_ref14_Center {A : List Nat} {w0 : World} {p_t : Option Addr} {c_t : Nat} {t : List (List Int)} (hA : ∀ b ∈ A, b < w0.heap.size) (h_t : ISl (Rp.sl (Rp.int .i64)) A w0 p_t c_t t) {K : List Int → Prop} (H : ref14_Center t K) :
    CallsV Try.prog 57 #[.slice p_t t.length c_t] w0 (fun v w' => ∃ (r0 : List Int), ∃ (p_r0 : Option Addr), ∃ (c_r0 : Nat), v = .slice p_r0 r0.length c_r0 ∧ Same w0 w' ∧ ISl (Rp.int .i64) A w' p_r0 c_r0 r0 ∧ K r0) := by
 refine CallsV.of (l := [.slice p_t t.length c_t]) Try.func57 rfl Try.ntmps57 rfl ?_
 have hO := Owns.start hA
 have hB := Fr.refl (bl []) w0
 unfold ref14_Center at H
 replace h_t := h_t.ch (Ch.start A w0)
 refine Go1.seq ?_
 refine Go1.region ?_
 refine GoR.op ((op_assign rfl) _) rfl rfl ?_
 refine GoR.nil ?_
 refine Go1.seq ?_
 refine Go1.region ?_
 refine GoR.op ((op_assign rfl) _) rfl rfl ?_
 refine GoR.nil ?_
 refine Go1.seq ?_
 refine Go1.seq ?_
 refine Go1.region ?_
 refine GoR.op ((op_move rfl) _) rfl rfl ?_
 refine GoR.op ((op_len Try.underlying22 rfl) _) rfl rfl ?_
 replace H := H h_t.bd
 refine GoR.op ((op_move rfl) _) rfl rfl ?_
 refine GoR.nil ?_
 refine Go1.block ?_
 have hst2 := Stp.nil (e := 3) (r := 1) hO
 replace hO := hst2.own
 replace h_t := h_t.ch hst2.ch
 replace hB := hB.trans hst2.fr
 have hE3 := Els.nil (Rp.int .i64) (bl (.row 3 1 none 0 0 [] :: []) ++ A) w0
 refine Go1.loopW (S := Nat × List Int) (fun s σ w => ∃ (n11 : Nat), ∃ (p9 : Option Addr), ∃ (c10 : Nat), ∃ (vs7 : List Value), agrees σ [(0, .slice p_t t.length c_t), (3, .slice p9 n11 c10), (8, .int .i64 (t.length : Int)), (9, .int .i64 ((s.1) : Int))] ∧ Owns w0.heap.size w [.row 3 1 p9 n11 c10 vs7] A ∧ Els (Rp.int .i64) (bl [.row 3 1 p9 n11 c10 vs7] ++ A) w vs7 (s.2) ∧ ISl (Rp.sl (Rp.int .i64)) (bl [.row 3 1 p9 n11 c10 vs7] ++ A) w p_t c_t t ∧ Fr (bl []) w0 (bl [.row 3 1 p9 n11 c10 vs7]) w) H ⟨0, none, 0, [], ⟨rfl, rfl, rfl, rfl, trivial⟩, hO, hE3, h_t, hB⟩ ?_
 rintro X1 ⟨k1_5, out1_6⟩ H hX1 σ w4 ⟨n11, p9, c10, vs7, hag, hO, hE8, h_t, hB⟩
 dsimp only at H
 refine Go1.keep [(0, .slice p_t t.length c_t), (3, .slice p9 n11 c10), (8, .int .i64 (t.length : Int)), (9, .int .i64 (k1_5 : Int))] hag ?_
 refine Go1.seq ?_
 refine Go1.region ?_
 by_cases h12 : (k1_5 : Int) < (t.length : Int)
 ·replace H := ifp h12 H
  refine GoR.op ((fun w => opB (op_lss rfl rfl w) (decide_eq_true h12)) _) rfl rfl ?_
  refine GoR.nil ?_
  refine Go1.seq ?_
  refine Go1.condT rfl rfl ?_
  refine Go1.skip ?_
  refine Go1.seq ?_
  refine Go1.block ?_
  refine Go1.seq ?_
  refine Go1.region ?_
  refine GoR.op ((op_move rfl) _) rfl rfl ?_
  refine GoR.op ((op_assign rfl) _) rfl rfl ?_
  refine GoR.nil ?_
  refine Go1.seq ?_
  refine Go1.region ?_
  refine GoR.op ((op_assign rfl) _) rfl rfl ?_
  refine GoR.nil ?_
  refine Go1.seq ?_
  refine Go1.seq ?_
  refine Go1.region ?_
  refine GoR.op ((op_move rfl) _) rfl rfl ?_
  refine GoR.op ((op_len Try.underlying22 rfl) _) rfl rfl ?_
  refine GoR.op ((op_move rfl) _) rfl rfl ?_
  refine GoR.nil ?_
  refine Go1.block ?_
  refine Go1.loopW (S := Bool × Nat) (fun s σ w => agrees σ [(0, .slice p_t t.length c_t), (3, .slice p9 n11 c10), (4, .int .i64 (k1_5 : Int)), (5, .bool (s.1)), (8, .int .i64 (t.length : Int)), (9, .int .i64 (k1_5 : Int)), (13, .int .i64 (t.length : Int)), (14, .int .i64 ((s.2) : Int))] ∧ Owns w0.heap.size w [.row 3 1 p9 n11 c10 vs7] A ∧ Els (Rp.int .i64) (bl [.row 3 1 p9 n11 c10 vs7] ++ A) w vs7 out1_6 ∧ ISl (Rp.sl (Rp.int .i64)) (bl [.row 3 1 p9 n11 c10 vs7] ++ A) w p_t c_t t ∧ Fr (bl []) w0 (bl [.row 3 1 p9 n11 c10 vs7]) w) H ⟨⟨rfl, rfl, rfl, rfl, rfl, rfl, rfl, rfl, trivial⟩, hO, hE8, h_t, hB⟩ ?_
  rintro X2 ⟨ok2_14, k2_15⟩ H hX2 σ w13 ⟨hag, hO, hE8, h_t, hB⟩
  dsimp only at H
  refine Go1.keep [(0, .slice p_t t.length c_t), (3, .slice p9 n11 c10), (4, .int .i64 (k1_5 : Int)), (5, .bool ok2_14), (8, .int .i64 (t.length : Int)), (9, .int .i64 (k1_5 : Int)), (13, .int .i64 (t.length : Int)), (14, .int .i64 (k2_15 : Int))] hag ?_
  refine Go1.seq ?_
  refine Go1.region ?_
  by_cases h16 : (k2_15 : Int) < (t.length : Int)
  ·replace H := ifp h16 H
   refine GoR.op ((fun w => opB (op_lss rfl rfl w) (decide_eq_true h16)) _) rfl rfl ?_
   refine GoR.nil ?_
   refine Go1.seq ?_
   refine Go1.condT rfl rfl ?_
   refine Go1.skip ?_
   refine Go1.seq ?_
   refine Go1.block ?_
   refine Go1.seq ?_
   refine Go1.region ?_
   refine GoR.op ((op_move rfl) _) rfl rfl ?_
   refine GoR.op ((op_assign rfl) _) rfl rfl ?_
   refine GoR.nil ?_
   refine Go1.drawS 0 [(0, .pure), (1, .pure), (2, .pure), (3, .pure), (4, .pure), (5, .stable), (6, .pure), (7, .pure), (8, .stable), (9, .pure), (10, .pure), (11, .pure), (12, .stable), (13, .pure), (14, .pure), (15, .stable), (16, .pure), (17, .pure), (18, .pure)] mixed (by kernel_rfl) ?_
   intro w17 hs18
   have hst19 := Stp.same hO hs18
   replace hE8 := hE8.ch hst19.ch
   replace hO := hst19.own
   replace h_t := h_t.ch hst19.ch
   replace hB := hB.trans hst19.fr
   refine GoQ.pure rfl (op_move rfl) rfl rfl ?_
   refine GoQ.pure rfl (op_move rfl) rfl rfl ?_
   cases ok2_14
   ·replace H := ifn Bool.false_ne_true H
    refine GoQ.pass rfl rfl rfl ?_
    refine GoQ.pass rfl rfl rfl ?_
    refine GoQ.pass rfl rfl rfl ?_
    refine GoQ.pass rfl rfl rfl ?_
    refine GoQ.pass rfl rfl rfl ?_
    refine GoQ.pass rfl rfl rfl ?_
    refine GoQ.pass rfl rfl rfl ?_
    refine GoQ.pass rfl rfl rfl ?_
    refine GoQ.pass rfl rfl rfl ?_
    refine GoQ.pass rfl rfl rfl ?_
    refine GoQ.pass rfl rfl rfl ?_
    refine GoQ.pass rfl rfl rfl ?_
    refine GoQ.pass rfl rfl rfl ?_
    refine GoQ.pass rfl rfl rfl ?_
    refine GoQ.pass rfl rfl rfl ?_
    refine GoQ.pure rfl (op_pickF rfl rfl rfl) rfl rfl ?_
    refine GoQ.pure rfl (op_assign rfl) rfl rfl ?_
    refine GoQ.nil ?_
    refine Go1.inBlock ?_
    refine Go1.region ?_
    refine GoR.op ((op_add rfl rfl (wrap_i64 (natbd h16 h_t.bd))) _) rfl rfl ?_
    refine GoR.op ((op_move rfl) _) rfl rfl ?_
    refine GoR.nil ?_
    exact hX2 _ H _ _ ⟨⟨rfl, rfl, rfl, rfl, rfl, rfl, rfl, rfl, trivial⟩, hO, hE8, h_t, hB⟩
   ·replace H := ifp rfl H
    refine GoQ.pure rfl (op_move rfl) rfl rfl ?_
    refine GoQ.pure rfl (op_move rfl) rfl rfl ?_
    obtain ⟨h20, H⟩ := H
    obtain ⟨h21, H⟩ := H
    refine GoQ.pure rfl (op_index Try.underlying22 ti23 rfl rfl h20 h21 (h_t.some_ h20 h21)) rfl rfl ?_
    have hobt := ldSl h_t h20 h21
    obtain ⟨p22, c23, hi24, hl25⟩ := hobt
    refine GoQ.stable rfl (hl25 Try.underlying23 rfl rfl) rfl rfl ?_
    refine GoQ.pure rfl (op_move rfl) rfl rfl ?_
    obtain ⟨h26, H⟩ := H
    obtain ⟨h27, H⟩ := H
    refine GoQ.pure rfl (op_index Try.underlying23 ti3 rfl rfl h26 h27 (hi24.some_ h26 h27)) rfl rfl ?_
    refine GoQ.stable rfl (ldInt hi24 h26 h27 Try.underlying3 rfl rfl) rfl rfl ?_
    refine GoQ.pure rfl (op_move rfl) rfl rfl ?_
    refine GoQ.pure rfl (op_move rfl) rfl rfl ?_
    obtain ⟨h28, H⟩ := H
    obtain ⟨h29, H⟩ := H
    refine GoQ.pure rfl (op_index Try.underlying22 ti23 rfl rfl h28 h29 (h_t.some_ h28 h29)) rfl rfl ?_
    have hobt := ldSl h_t h28 h29
    obtain ⟨p30, c31, hi32, hl33⟩ := hobt
    refine GoQ.stable rfl (hl33 Try.underlying23 rfl rfl) rfl rfl ?_
    refine GoQ.pure rfl (op_move rfl) rfl rfl ?_
    obtain ⟨h34, H⟩ := H
    obtain ⟨h35, H⟩ := H
    refine GoQ.pure rfl (op_index Try.underlying23 ti3 rfl rfl h34 h35 (hi32.some_ h34 h35)) rfl rfl ?_
    refine GoQ.stable rfl (ldInt hi32 h34 h35 Try.underlying3 rfl rfl) rfl rfl ?_
    by_cases h36 : (ix (ix t (k1_5 : Int)) (k2_15 : Int)) = (ix (ix t (k2_15 : Int)) (k1_5 : Int))
    ·replace H := ifp h36 H
     refine GoQ.pure rfl (fun w => opB (op_eql rfl rfl w) (decide_eq_true h36)) rfl rfl ?_
     refine GoQ.pure rfl (op_pickT rfl rfl rfl) rfl rfl ?_
     refine GoQ.pure rfl (op_assign rfl) rfl rfl ?_
     refine GoQ.nil ?_
     refine Go1.inBlock ?_
     refine Go1.region ?_
     refine GoR.op ((op_add rfl rfl (wrap_i64 (natbd h16 h_t.bd))) _) rfl rfl ?_
     refine GoR.op ((op_move rfl) _) rfl rfl ?_
     refine GoR.nil ?_
     exact hX2 _ H _ _ ⟨⟨rfl, rfl, rfl, rfl, rfl, rfl, rfl, rfl, trivial⟩, hO, hE8, h_t, hB⟩
    ·replace H := ifn h36 H
     refine GoQ.pure rfl (fun w => opB (op_eql rfl rfl w) (decide_eq_false h36)) rfl rfl ?_
     refine GoQ.pure rfl (op_pickT rfl rfl rfl) rfl rfl ?_
     refine GoQ.pure rfl (op_assign rfl) rfl rfl ?_
     refine GoQ.nil ?_
     refine Go1.inBlock ?_
     refine Go1.region ?_
     refine GoR.op ((op_add rfl rfl (wrap_i64 (natbd h16 h_t.bd))) _) rfl rfl ?_
     refine GoR.op ((op_move rfl) _) rfl rfl ?_
     refine GoR.nil ?_
     exact hX2 _ H _ _ ⟨⟨rfl, rfl, rfl, rfl, rfl, rfl, rfl, rfl, trivial⟩, hO, hE8, h_t, hB⟩
  ·replace H := ifn h16 H
   refine GoR.op ((fun w => opB (op_lss rfl rfl w) (decide_eq_false h16)) _) rfl rfl ?_
   refine GoR.nil ?_
   refine Go1.seq ?_
   refine Go1.condF rfl rfl ?_
   refine Go1.exit rfl ?_
   refine Go1.seq ?_
   refine Go1.region ?_
   refine GoR.op ((op_move rfl) _) rfl rfl ?_
   refine GoR.nil ?_
   cases ok2_14
   ·replace H := ifn Bool.false_ne_true H
    refine Go1.condF rfl rfl ?_
    refine Go1.skip ?_
    refine Go1.inBlock ?_
    refine Go1.region ?_
    refine GoR.op ((op_add rfl rfl (wrap_i64 (natbd h12 h_t.bd))) _) rfl rfl ?_
    refine GoR.op ((op_move rfl) _) rfl rfl ?_
    refine GoR.nil ?_
    exact hX1 _ H _ _ ⟨n11, p9, c10, vs7, ⟨rfl, rfl, rfl, rfl, trivial⟩, hO, hE8, h_t, hB⟩
   ·replace H := ifp rfl H
    refine Go1.condT rfl rfl ?_
    refine Go1.region ?_
    refine GoR.op ((op_move rfl) _) rfl rfl ?_
    refine GoR.op ((op_move rfl) _) rfl rfl ?_
    have hobt := obuild (r := Rp.int .i64) (n := 1) (parts := [(0, .int .i64 (k1_5 : Int))]) (vs := [.int .i64 (k1_5 : Int)]) (xs := [(k1_5 : Int)]) rfl Try.underlying23 ti3 hO (by decide) (by kernel_rfl) (Els.cons rfl rfl (Els.nil _ _ _) (by simp [mx])) rfl
    obtain ⟨w37, p38, hst39, hE40, hs41, hop42⟩ := hobt
    refine GoR.op (hop42 rfl) rfl rfl ?_
    replace hE8 := hE8.ch hst39.ch
    replace hO := hst39.own
    replace h_t := h_t.ch hst39.ch
    replace hB := hB.trans hst39.fr
    have hobt := freeze 0 hO rfl hE40
    obtain ⟨hO1, hc46, hi44, hn45⟩ := hobt
    replace h_t := h_t.ch hc46
    replace hE8 := hE8.ch hc46
    replace hB := hB.trans (Owns.dropFr _ _ 0)
    replace hO := hO1; clear hO1
    obtain ⟨h47, H⟩ := H
    have hobt := oapp Try.underlying23 ti3 rfl 0 hO rfl hE8 hi44 hn45 h47 (by decide)
    obtain ⟨w48, p49, c50, vs51, hst52, hE53, hop54⟩ := hobt
    refine GoR.op (hop54 rfl rfl) rfl rfl ?_
    replace hO := hst52.own
    replace h_t := h_t.ch hst52.ch
    replace hi44 := hi44.ch hst52.ch
    replace hB := hB.trans hst52.fr
    refine GoR.op ((op_assign rfl) _) rfl rfl ?_
    refine GoR.nil ?_
    refine Go1.inBlock ?_
    refine Go1.region ?_
    refine GoR.op ((op_add rfl rfl (wrap_i64 (natbd h12 h_t.bd))) _) rfl rfl ?_
    refine GoR.op ((op_move rfl) _) rfl rfl ?_
    refine GoR.nil ?_
    exact hX1 _ H _ _ ⟨n11 + 1, p49, c50, vs51, ⟨rfl, rfl, rfl, rfl, trivial⟩, hO, hE53, h_t, hB⟩
 ·replace H := ifn h12 H
  refine GoR.op ((fun w => opB (op_lss rfl rfl w) (decide_eq_false h12)) _) rfl rfl ?_
  refine GoR.nil ?_
  refine Go1.seq ?_
  refine Go1.condF rfl rfl ?_
  refine Go1.exit rfl ?_
  refine Go1.seq ?_
  refine Go1.region ?_
  refine GoR.op ((op_move rfl) _) rfl rfl ?_
  refine GoR.op ((op_assign rfl) _) rfl rfl ?_
  refine GoR.nil ?_
  have hobt := freeze 0 hO rfl hE8
  obtain ⟨hO1, hc58, hi56, hn57⟩ := hobt
  replace h_t := h_t.ch hc58
  replace hB := hB.trans (Owns.dropFr _ _ 0)
  replace hO := hO1; clear hO1
  refine Go1.ret1 Try.func57 rfl ?_
  exact ⟨out1_6, p9, c10, ((congrArg (fun nn => Value.slice p9 nn c10) hn57)), hB.same, (hi56.ch (Ch.weak _ _ _)), H⟩
theorem body12 : Body Try.prog 12 := ⟨Try.f12, Try.func12, rfl, by kernel_rfl⟩
theorem walk_law14_MultBasis {A : List Nat} {w0 : World} {p_a0 : Option Addr} {c_a0 : Nat} {a0 : List (List Int)} (hA : ∀ b ∈ A, b < w0.heap.size) (h_a0 : ISl (Rp.sl (Rp.int .i64)) A w0 p_a0 c_a0 a0) {K : Bool → Prop} (H : law14_MultBasis a0 K) :
    CallsV Try.prog 12 #[.slice p_a0 a0.length c_a0] w0 (fun v w' => ∃ (r0 : Bool), v = .bool r0 ∧ Same w0 w' ∧ K r0) := by
 refine CallsV.of (l := [.slice p_a0 a0.length c_a0]) Try.func12 rfl Try.ntmps12 rfl ?_
 have hO := Owns.start hA
 have hB := Fr.refl (bl []) w0
 unfold law14_MultBasis at H
 replace h_a0 := h_a0.ch (Ch.start A w0)
 refine Go1.seq ?_
 refine Go1.region ?_
 refine GoR.op ((op_assign rfl) _) rfl rfl ?_
 refine GoR.nil ?_
 refine Go1.seq ?_
 refine Go1.seq ?_
 refine Go1.region ?_
 refine GoR.op ((op_move rfl) _) rfl rfl ?_
 refine GoR.call (op_call body19 rfl (walk_ref14_Shape hO.lt h_a0 H)) rfl rfl ?_
 rintro v5 w2 ⟨r1, rfl, hs3, H⟩
 have hst6 := Stp.same hO hs3
 replace hO := hst6.own
 replace h_a0 := h_a0.ch hst6.ch
 replace hB := hB.trans hst6.fr
 by_cases h7 : r1 = (0 : Int)
 ·replace H := ifp h7 H
  refine GoR.op ((fun w => opB (op_eql rfl rfl w) (decide_eq_true h7)) _) rfl rfl ?_
  refine GoR.op ((op_move rfl) _) rfl rfl ?_
  refine GoR.op ((op_move rfl) _) rfl rfl ?_
  refine GoR.op ((op_len Try.underlying22 rfl) _) rfl rfl ?_
  replace H := H h_a0.bd
  by_cases h8 : (20 : Int) < (a0.length : Int)
  ·replace H := ifp h8 H
   refine GoR.op ((fun w => opB (op_gtr rfl rfl w) (decide_eq_true h8)) _) rfl rfl ?_
   refine GoR.op ((op_pickT rfl rfl rfl) _) rfl rfl ?_
   refine GoR.nil ?_
   refine Go1.condT rfl rfl ?_
   refine Go1.seq ?_
   refine Go1.region ?_
   refine GoR.call (op_call body16 rfl (walk_law14_awake hO.lt H)) rfl rfl ?_
   rintro v13 w10 ⟨r9, rfl, hs11, H⟩
   have hst14 := Stp.same hO hs11
   replace hO := hst14.own
   replace h_a0 := h_a0.ch hst14.ch
   replace hB := hB.trans hst14.fr
   refine GoR.op ((op_assign rfl) _) rfl rfl ?_
   refine GoR.nil ?_
   refine Go1.ret1 Try.func12 rfl ?_
   exact ⟨r9, rfl, hB.same, H⟩
  ·replace H := ifn h8 H
   refine GoR.op ((fun w => opB (op_gtr rfl rfl w) (decide_eq_false h8)) _) rfl rfl ?_
   refine GoR.op ((op_pickT rfl rfl rfl) _) rfl rfl ?_
   refine GoR.nil ?_
   refine Go1.condF rfl rfl ?_
   refine Go1.skip ?_
   refine Go1.seq ?_
   refine Go1.region ?_
   refine GoR.op ((op_move rfl) _) rfl rfl ?_
   refine GoR.call (op_call body51 rfl (walk_mult_Generators hO.lt h_a0 H)) rfl rfl ?_
   rintro v19 w16 ⟨r15, p_r15, c_r15, rfl, hs17, h_r15, H⟩
   have hst20 := Stp.same hO hs17
   replace hO := hst20.own
   replace h_a0 := h_a0.ch hst20.ch
   replace hB := hB.trans hst20.fr
   refine GoR.op ((op_move rfl) _) rfl rfl ?_
   refine GoR.call (op_call body52 rfl (walk_mult_Indecomposable hO.lt h_a0 H)) rfl rfl ?_
   rintro v25 w22 ⟨r21, p_r21, c_r21, rfl, hs23, h_r21, H⟩
   have hst26 := Stp.same hO hs23
   replace hO := hst26.own
   replace h_a0 := h_a0.ch hst26.ch
   replace h_r15 := h_r15.ch hst26.ch
   replace hB := hB.trans hst26.fr
   refine GoR.op ((op_move rfl) _) rfl rfl ?_
   refine GoR.call (op_call body53 rfl (walk_mult_Center hO.lt h_a0 H)) rfl rfl ?_
   rintro v31 w28 ⟨r27, p_r27, c_r27, rfl, hs29, h_r27, H⟩
   have hst32 := Stp.same hO hs29
   replace hO := hst32.own
   replace h_a0 := h_a0.ch hst32.ch
   replace h_r15 := h_r15.ch hst32.ch
   replace h_r21 := h_r21.ch hst32.ch
   replace hB := hB.trans hst32.fr
   refine GoR.op ((op_assign rfl) _) rfl rfl ?_
   refine GoR.op ((op_assign rfl) _) rfl rfl ?_
   refine GoR.op ((op_assign rfl) _) rfl rfl ?_
   refine GoR.nil ?_
   refine Go1.seq ?_
   refine Go1.region ?_
   refine GoR.op ((op_move rfl) _) rfl rfl ?_
   refine GoR.call (op_call body54 rfl (walk_mult_Commutative hO.lt h_a0 H)) rfl rfl ?_
   rintro v37 w34 ⟨r33, rfl, hs35, H⟩
   have hst38 := Stp.same hO hs35
   replace hO := hst38.own
   replace h_a0 := h_a0.ch hst38.ch
   replace h_r15 := h_r15.ch hst38.ch
   replace h_r21 := h_r21.ch hst38.ch
   replace h_r27 := h_r27.ch hst38.ch
   replace hB := hB.trans hst38.fr
   refine GoR.op ((op_assign rfl) _) rfl rfl ?_
   refine GoR.nil ?_
   refine Go1.seq ?_
   refine Go1.seq ?_
   refine Go1.region ?_
   refine GoR.op ((op_move rfl) _) rfl rfl ?_
   refine GoR.call (op_call body26 rfl (walk_ref14_Valid hO.lt h_a0 H)) rfl rfl ?_
   rintro v43 w40 ⟨r39, rfl, hs41, H⟩
   have hst44 := Stp.same hO hs41
   replace hO := hst44.own
   replace h_a0 := h_a0.ch hst44.ch
   replace h_r15 := h_r15.ch hst44.ch
   replace h_r21 := h_r21.ch hst44.ch
   replace h_r27 := h_r27.ch hst44.ch
   replace hB := hB.trans hst44.fr
   cases r39
   ·replace H := ifn Bool.false_ne_true H
    refine GoR.op ((op_not rfl) _) rfl rfl ?_
    refine GoR.nil ?_
    refine Go1.condT rfl rfl ?_
    refine Go1.seq ?_
    refine Go1.region ?_
    refine GoR.op ((op_move rfl) _) rfl rfl ?_
    refine GoR.op ((op_len Try.underlying23 rfl) _) rfl rfl ?_
    replace H := H h_r15.bd
    by_cases h45 : (r15.length : Int) = (0 : Int)
    ·replace H := ifp h45 H
     refine GoR.op ((fun w => opB (op_eql rfl rfl w) (decide_eq_true h45)) _) rfl rfl ?_
     refine GoR.op ((op_move rfl) _) rfl rfl ?_
     refine GoR.op ((op_move rfl) _) rfl rfl ?_
     refine GoR.op ((op_len Try.underlying23 rfl) _) rfl rfl ?_
     replace H := H h_r21.bd
     by_cases h46 : (r21.length : Int) = (0 : Int)
     ·replace H := ifp h46 H
      refine GoR.op ((fun w => opB (op_eql rfl rfl w) (decide_eq_true h46)) _) rfl rfl ?_
      refine GoR.op ((op_pickT rfl rfl rfl) _) rfl rfl ?_
      refine GoR.op ((op_move rfl) _) rfl rfl ?_
      refine GoR.op ((op_move rfl) _) rfl rfl ?_
      refine GoR.op ((op_len Try.underlying23 rfl) _) rfl rfl ?_
      replace H := H h_r27.bd
      by_cases h47 : (r27.length : Int) = (0 : Int)
      ·replace H := ifp h47 H
       refine GoR.op ((fun w => opB (op_eql rfl rfl w) (decide_eq_true h47)) _) rfl rfl ?_
       refine GoR.op ((op_pickT rfl rfl rfl) _) rfl rfl ?_
       refine GoR.op ((op_move rfl) _) rfl rfl ?_
       refine GoR.op ((op_move rfl) _) rfl rfl ?_
       cases r33
       ·replace H := ifn Bool.false_ne_true H
        refine GoR.op ((op_not rfl) _) rfl rfl ?_
        refine GoR.op ((op_pickT rfl rfl rfl) _) rfl rfl ?_
        refine GoR.op ((op_move rfl) _) rfl rfl ?_
        refine GoR.call (op_call body16 rfl (walk_law14_awake hO.lt H)) rfl rfl ?_
        rintro v52 w49 ⟨r48, rfl, hs50, H⟩
        have hst53 := Stp.same hO hs50
        replace hO := hst53.own
        replace h_a0 := h_a0.ch hst53.ch
        replace h_r15 := h_r15.ch hst53.ch
        replace h_r21 := h_r21.ch hst53.ch
        replace h_r27 := h_r27.ch hst53.ch
        replace hB := hB.trans hst53.fr
        refine GoR.op ((op_pickT rfl rfl rfl) _) rfl rfl ?_
        refine GoR.op ((op_assign rfl) _) rfl rfl ?_
        refine GoR.nil ?_
        refine Go1.ret1 Try.func12 rfl ?_
        exact ⟨r48, rfl, hB.same, H⟩
       ·replace H := ifp rfl H
        refine GoR.op ((op_not rfl) _) rfl rfl ?_
        refine GoR.op ((op_pickT rfl rfl rfl) _) rfl rfl ?_
        refine GoR.op ((op_move rfl) _) rfl rfl ?_
        refine GoR.pass rfl rfl ?_
        refine GoR.op ((op_pickF rfl rfl rfl) _) rfl rfl ?_
        refine GoR.op ((op_assign rfl) _) rfl rfl ?_
        refine GoR.nil ?_
        refine Go1.ret1 Try.func12 rfl ?_
        exact ⟨false, rfl, hB.same, H⟩
      ·replace H := ifn h47 H
       refine GoR.op ((fun w => opB (op_eql rfl rfl w) (decide_eq_false h47)) _) rfl rfl ?_
       refine GoR.op ((op_pickT rfl rfl rfl) _) rfl rfl ?_
       refine GoR.op ((op_move rfl) _) rfl rfl ?_
       refine GoR.pass rfl rfl ?_
       refine GoR.pass rfl rfl ?_
       refine GoR.op ((op_pickF rfl rfl rfl) _) rfl rfl ?_
       refine GoR.op ((op_move rfl) _) rfl rfl ?_
       refine GoR.pass rfl rfl ?_
       refine GoR.op ((op_pickF rfl rfl rfl) _) rfl rfl ?_
       refine GoR.op ((op_assign rfl) _) rfl rfl ?_
       refine GoR.nil ?_
       refine Go1.ret1 Try.func12 rfl ?_
       exact ⟨false, rfl, hB.same, H⟩
     ·replace H := ifn h46 H
      refine GoR.op ((fun w => opB (op_eql rfl rfl w) (decide_eq_false h46)) _) rfl rfl ?_
      refine GoR.op ((op_pickT rfl rfl rfl) _) rfl rfl ?_
      refine GoR.op ((op_move rfl) _) rfl rfl ?_
      refine GoR.pass rfl rfl ?_
      refine GoR.pass rfl rfl ?_
      refine GoR.pass rfl rfl ?_
      refine GoR.op ((op_pickF rfl rfl rfl) _) rfl rfl ?_
      refine GoR.op ((op_move rfl) _) rfl rfl ?_
      refine GoR.pass rfl rfl ?_
      refine GoR.pass rfl rfl ?_
      refine GoR.op ((op_pickF rfl rfl rfl) _) rfl rfl ?_
      refine GoR.op ((op_move rfl) _) rfl rfl ?_
      refine GoR.pass rfl rfl ?_
      refine GoR.op ((op_pickF rfl rfl rfl) _) rfl rfl ?_
      refine GoR.op ((op_assign rfl) _) rfl rfl ?_
      refine GoR.nil ?_
      refine Go1.ret1 Try.func12 rfl ?_
      exact ⟨false, rfl, hB.same, H⟩
    ·replace H := ifn h45 H
     refine GoR.op ((fun w => opB (op_eql rfl rfl w) (decide_eq_false h45)) _) rfl rfl ?_
     refine GoR.op ((op_move rfl) _) rfl rfl ?_
     refine GoR.pass rfl rfl ?_
     refine GoR.pass rfl rfl ?_
     refine GoR.pass rfl rfl ?_
     refine GoR.op ((op_pickF rfl rfl rfl) _) rfl rfl ?_
     refine GoR.op ((op_move rfl) _) rfl rfl ?_
     refine GoR.pass rfl rfl ?_
     refine GoR.pass rfl rfl ?_
     refine GoR.pass rfl rfl ?_
     refine GoR.op ((op_pickF rfl rfl rfl) _) rfl rfl ?_
     refine GoR.op ((op_move rfl) _) rfl rfl ?_
     refine GoR.pass rfl rfl ?_
     refine GoR.pass rfl rfl ?_
     refine GoR.op ((op_pickF rfl rfl rfl) _) rfl rfl ?_
     refine GoR.op ((op_move rfl) _) rfl rfl ?_
     refine GoR.pass rfl rfl ?_
     refine GoR.op ((op_pickF rfl rfl rfl) _) rfl rfl ?_
     refine GoR.op ((op_assign rfl) _) rfl rfl ?_
     refine GoR.nil ?_
     refine Go1.ret1 Try.func12 rfl ?_
     exact ⟨false, rfl, hB.same, H⟩
   ·replace H := ifp rfl H
    refine GoR.op ((op_not rfl) _) rfl rfl ?_
    refine GoR.nil ?_
    refine Go1.condF rfl rfl ?_
    refine Go1.skip ?_
    refine Go1.seq ?_
    refine Go1.region ?_
    refine GoR.op ((op_move rfl) _) rfl rfl ?_
    refine GoR.op ((op_move rfl) _) rfl rfl ?_
    refine GoR.call (op_call body55 rfl (walk_ref14_Generators hO.lt h_a0 H)) rfl rfl ?_
    rintro v58 w55 ⟨r54, p_r54, c_r54, rfl, hs56, h_r54, H⟩
    have hst59 := Stp.same hO hs56
    replace hO := hst59.own
    replace h_a0 := h_a0.ch hst59.ch
    replace h_r15 := h_r15.ch hst59.ch
    replace h_r21 := h_r21.ch hst59.ch
    replace h_r27 := h_r27.ch hst59.ch
    replace hB := hB.trans hst59.fr
    refine GoR.call (op_call body40 rfl (walk_ref03_Same hO.lt h_r15 h_r54 H)) rfl rfl ?_
    rintro v64 w61 ⟨r60, rfl, hs62, H⟩
    have hst65 := Stp.same hO hs62
    replace hO := hst65.own
    replace h_a0 := h_a0.ch hst65.ch
    replace h_r15 := h_r15.ch hst65.ch
    replace h_r21 := h_r21.ch hst65.ch
    replace h_r27 := h_r27.ch hst65.ch
    replace h_r54 := h_r54.ch hst65.ch
    replace hB := hB.trans hst65.fr
    refine GoR.op ((op_move rfl) _) rfl rfl ?_
    cases r60
    ·replace H := ifn Bool.false_ne_true H
     refine GoR.pass rfl rfl ?_
     refine GoR.pass rfl rfl ?_
     refine GoR.pass rfl rfl ?_
     refine GoR.pass rfl rfl ?_
     refine GoR.op ((op_pickF rfl rfl rfl) _) rfl rfl ?_
     refine GoR.op ((op_move rfl) _) rfl rfl ?_
     refine GoR.pass rfl rfl ?_
     refine GoR.pass rfl rfl ?_
     refine GoR.pass rfl rfl ?_
     refine GoR.pass rfl rfl ?_
     refine GoR.op ((op_pickF rfl rfl rfl) _) rfl rfl ?_
     refine GoR.op ((op_move rfl) _) rfl rfl ?_
     refine GoR.pass rfl rfl ?_
     refine GoR.pass rfl rfl ?_
     refine GoR.pass rfl rfl ?_
     refine GoR.pass rfl rfl ?_
     refine GoR.pass rfl rfl ?_
     refine GoR.pass rfl rfl ?_
     refine GoR.pass rfl rfl ?_
     refine GoR.op ((op_pickF rfl rfl rfl) _) rfl rfl ?_
     refine GoR.op ((op_move rfl) _) rfl rfl ?_
     refine GoR.pass rfl rfl ?_
     refine GoR.op ((op_pickF rfl rfl rfl) _) rfl rfl ?_
     refine GoR.op ((op_assign rfl) _) rfl rfl ?_
     refine GoR.nil ?_
     refine Go1.ret1 Try.func12 rfl ?_
     exact ⟨false, rfl, hB.same, H⟩
    ·replace H := ifp rfl H
     refine GoR.op ((op_move rfl) _) rfl rfl ?_
     refine GoR.op ((op_move rfl) _) rfl rfl ?_
     refine GoR.call (op_call body56 rfl (walk_ref14_Indecomposable hO.lt h_a0 H)) rfl rfl ?_
     rintro v70 w67 ⟨r66, p_r66, c_r66, rfl, hs68, h_r66, H⟩
     have hst71 := Stp.same hO hs68
     replace hO := hst71.own
     replace h_a0 := h_a0.ch hst71.ch
     replace h_r15 := h_r15.ch hst71.ch
     replace h_r21 := h_r21.ch hst71.ch
     replace h_r27 := h_r27.ch hst71.ch
     replace h_r54 := h_r54.ch hst71.ch
     replace hB := hB.trans hst71.fr
     refine GoR.call (op_call body40 rfl (walk_ref03_Same hO.lt h_r21 h_r66 H)) rfl rfl ?_
     rintro v76 w73 ⟨r72, rfl, hs74, H⟩
     have hst77 := Stp.same hO hs74
     replace hO := hst77.own
     replace h_a0 := h_a0.ch hst77.ch
     replace h_r15 := h_r15.ch hst77.ch
     replace h_r21 := h_r21.ch hst77.ch
     replace h_r27 := h_r27.ch hst77.ch
     replace h_r54 := h_r54.ch hst77.ch
     replace h_r66 := h_r66.ch hst77.ch
     replace hB := hB.trans hst77.fr
     refine GoR.op ((op_pickT rfl rfl rfl) _) rfl rfl ?_
     refine GoR.op ((op_move rfl) _) rfl rfl ?_
     cases r72
     ·replace H := ifn Bool.false_ne_true H
      refine GoR.pass rfl rfl ?_
      refine GoR.pass rfl rfl ?_
      refine GoR.pass rfl rfl ?_
      refine GoR.pass rfl rfl ?_
      refine GoR.op ((op_pickF rfl rfl rfl) _) rfl rfl ?_
      refine GoR.op ((op_move rfl) _) rfl rfl ?_
      refine GoR.pass rfl rfl ?_
      refine GoR.pass rfl rfl ?_
      refine GoR.pass rfl rfl ?_
      refine GoR.pass rfl rfl ?_
      refine GoR.pass rfl rfl ?_
      refine GoR.pass rfl rfl ?_
      refine GoR.pass rfl rfl ?_
      refine GoR.op ((op_pickF rfl rfl rfl) _) rfl rfl ?_
      refine GoR.op ((op_move rfl) _) rfl rfl ?_
      refine GoR.pass rfl rfl ?_
      refine GoR.op ((op_pickF rfl rfl rfl) _) rfl rfl ?_
      refine GoR.op ((op_assign rfl) _) rfl rfl ?_
      refine GoR.nil ?_
      refine Go1.ret1 Try.func12 rfl ?_
      exact ⟨false, rfl, hB.same, H⟩
     ·replace H := ifp rfl H
      refine GoR.op ((op_move rfl) _) rfl rfl ?_
      refine GoR.op ((op_move rfl) _) rfl rfl ?_
      refine GoR.call (op_call body57 rfl (walk_ref14_Center hO.lt h_a0 H)) rfl rfl ?_
      rintro v82 w79 ⟨r78, p_r78, c_r78, rfl, hs80, h_r78, H⟩
      have hst83 := Stp.same hO hs80
      replace hO := hst83.own
      replace h_a0 := h_a0.ch hst83.ch
      replace h_r15 := h_r15.ch hst83.ch
      replace h_r21 := h_r21.ch hst83.ch
      replace h_r27 := h_r27.ch hst83.ch
      replace h_r54 := h_r54.ch hst83.ch
      replace h_r66 := h_r66.ch hst83.ch
      replace hB := hB.trans hst83.fr
      refine GoR.call (op_call body40 rfl (walk_ref03_Same hO.lt h_r27 h_r78 H)) rfl rfl ?_
      rintro v88 w85 ⟨r84, rfl, hs86, H⟩
      have hst89 := Stp.same hO hs86
      replace hO := hst89.own
      replace h_a0 := h_a0.ch hst89.ch
      replace h_r15 := h_r15.ch hst89.ch
      replace h_r21 := h_r21.ch hst89.ch
      replace h_r27 := h_r27.ch hst89.ch
      replace h_r54 := h_r54.ch hst89.ch
      replace h_r66 := h_r66.ch hst89.ch
      replace h_r78 := h_r78.ch hst89.ch
      replace hB := hB.trans hst89.fr
      refine GoR.op ((op_pickT rfl rfl rfl) _) rfl rfl ?_
      refine GoR.op ((op_move rfl) _) rfl rfl ?_
      cases r84
      ·replace H := ifn Bool.false_ne_true H
       refine GoR.pass rfl rfl ?_
       refine GoR.pass rfl rfl ?_
       refine GoR.pass rfl rfl ?_
       refine GoR.pass rfl rfl ?_
       refine GoR.pass rfl rfl ?_
       refine GoR.pass rfl rfl ?_
       refine GoR.pass rfl rfl ?_
       refine GoR.op ((op_pickF rfl rfl rfl) _) rfl rfl ?_
       refine GoR.op ((op_move rfl) _) rfl rfl ?_
       refine GoR.pass rfl rfl ?_
       refine GoR.op ((op_pickF rfl rfl rfl) _) rfl rfl ?_
       refine GoR.op ((op_assign rfl) _) rfl rfl ?_
       refine GoR.nil ?_
       refine Go1.ret1 Try.func12 rfl ?_
       exact ⟨false, rfl, hB.same, H⟩
      ·replace H := ifp rfl H
       refine GoR.op ((op_move rfl) _) rfl rfl ?_
       refine GoR.op ((op_move rfl) _) rfl rfl ?_
       refine GoR.op ((op_len Try.underlying23 rfl) _) rfl rfl ?_
       replace H := H h_r27.bd
       refine GoR.op ((op_move rfl) _) rfl rfl ?_
       refine GoR.op ((op_len Try.underlying22 rfl) _) rfl rfl ?_
       by_cases h90 : (r27.length : Int) = (a0.length : Int)
       ·replace H := ifp h90 H
        refine GoR.op ((fun w => opB (op_eql rfl rfl w) (decide_eq_true h90)) _) rfl rfl ?_
        cases r33
        ·replace H := ifn Bool.false_ne_true H
         refine GoR.op ((op_eqlB Try.underlying4 rfl rfl) _) rfl rfl ?_
         refine GoR.op ((op_pickT rfl rfl rfl) _) rfl rfl ?_
         refine GoR.op ((op_move rfl) _) rfl rfl ?_
         refine GoR.pass rfl rfl ?_
         refine GoR.op ((op_pickF rfl rfl rfl) _) rfl rfl ?_
         refine GoR.op ((op_assign rfl) _) rfl rfl ?_
         refine GoR.nil ?_
         refine Go1.ret1 Try.func12 rfl ?_
         exact ⟨false, rfl, hB.same, H⟩
        ·replace H := ifp rfl H
         refine GoR.op ((op_eqlB Try.underlying4 rfl rfl) _) rfl rfl ?_
         refine GoR.op ((op_pickT rfl rfl rfl) _) rfl rfl ?_
         refine GoR.op ((op_move rfl) _) rfl rfl ?_
         refine GoR.call (op_call body16 rfl (walk_law14_awake hO.lt H)) rfl rfl ?_
         rintro v95 w92 ⟨r91, rfl, hs93, H⟩
         have hst96 := Stp.same hO hs93
         replace hO := hst96.own
         replace h_a0 := h_a0.ch hst96.ch
         replace h_r15 := h_r15.ch hst96.ch
         replace h_r21 := h_r21.ch hst96.ch
         replace h_r27 := h_r27.ch hst96.ch
         replace h_r54 := h_r54.ch hst96.ch
         replace h_r66 := h_r66.ch hst96.ch
         replace h_r78 := h_r78.ch hst96.ch
         replace hB := hB.trans hst96.fr
         refine GoR.op ((op_pickT rfl rfl rfl) _) rfl rfl ?_
         refine GoR.op ((op_assign rfl) _) rfl rfl ?_
         refine GoR.nil ?_
         refine Go1.ret1 Try.func12 rfl ?_
         exact ⟨r91, rfl, hB.same, H⟩
       ·replace H := ifn h90 H
        refine GoR.op ((fun w => opB (op_eql rfl rfl w) (decide_eq_false h90)) _) rfl rfl ?_
        cases r33
        ·replace H := ifn Bool.false_ne_true H
         refine GoR.op ((op_eqlB Try.underlying4 rfl rfl) _) rfl rfl ?_
         refine GoR.op ((op_pickT rfl rfl rfl) _) rfl rfl ?_
         refine GoR.op ((op_move rfl) _) rfl rfl ?_
         refine GoR.call (op_call body16 rfl (walk_law14_awake hO.lt H)) rfl rfl ?_
         rintro v101 w98 ⟨r97, rfl, hs99, H⟩
         have hst102 := Stp.same hO hs99
         replace hO := hst102.own
         replace h_a0 := h_a0.ch hst102.ch
         replace h_r15 := h_r15.ch hst102.ch
         replace h_r21 := h_r21.ch hst102.ch
         replace h_r27 := h_r27.ch hst102.ch
         replace h_r54 := h_r54.ch hst102.ch
         replace h_r66 := h_r66.ch hst102.ch
         replace h_r78 := h_r78.ch hst102.ch
         replace hB := hB.trans hst102.fr
         refine GoR.op ((op_pickT rfl rfl rfl) _) rfl rfl ?_
         refine GoR.op ((op_assign rfl) _) rfl rfl ?_
         refine GoR.nil ?_
         refine Go1.ret1 Try.func12 rfl ?_
         exact ⟨r97, rfl, hB.same, H⟩
        ·replace H := ifp rfl H
         refine GoR.op ((op_eqlB Try.underlying4 rfl rfl) _) rfl rfl ?_
         refine GoR.op ((op_pickT rfl rfl rfl) _) rfl rfl ?_
         refine GoR.op ((op_move rfl) _) rfl rfl ?_
         refine GoR.pass rfl rfl ?_
         refine GoR.op ((op_pickF rfl rfl rfl) _) rfl rfl ?_
         refine GoR.op ((op_assign rfl) _) rfl rfl ?_
         refine GoR.nil ?_
         refine Go1.ret1 Try.func12 rfl ?_
         exact ⟨false, rfl, hB.same, H⟩
 ·replace H := ifn h7 H
  refine GoR.op ((fun w => opB (op_eql rfl rfl w) (decide_eq_false h7)) _) rfl rfl ?_
  refine GoR.op ((op_move rfl) _) rfl rfl ?_
  refine GoR.pass rfl rfl ?_
  refine GoR.pass rfl rfl ?_
  refine GoR.pass rfl rfl ?_
  refine GoR.op ((op_pickF rfl rfl rfl) _) rfl rfl ?_
  refine GoR.nil ?_
  refine Go1.condF rfl rfl ?_
  refine Go1.skip ?_
  refine Go1.seq ?_
  refine Go1.region ?_
  refine GoR.op ((op_move rfl) _) rfl rfl ?_
  refine GoR.call (op_call body51 rfl (walk_mult_Generators hO.lt h_a0 H)) rfl rfl ?_
  rintro v107 w104 ⟨r103, p_r103, c_r103, rfl, hs105, h_r103, H⟩
  have hst108 := Stp.same hO hs105
  replace hO := hst108.own
  replace h_a0 := h_a0.ch hst108.ch
  replace hB := hB.trans hst108.fr
  refine GoR.op ((op_move rfl) _) rfl rfl ?_
  refine GoR.call (op_call body52 rfl (walk_mult_Indecomposable hO.lt h_a0 H)) rfl rfl ?_
  rintro v113 w110 ⟨r109, p_r109, c_r109, rfl, hs111, h_r109, H⟩
  have hst114 := Stp.same hO hs111
  replace hO := hst114.own
  replace h_a0 := h_a0.ch hst114.ch
  replace h_r103 := h_r103.ch hst114.ch
  replace hB := hB.trans hst114.fr
  refine GoR.op ((op_move rfl) _) rfl rfl ?_
  refine GoR.call (op_call body53 rfl (walk_mult_Center hO.lt h_a0 H)) rfl rfl ?_
  rintro v119 w116 ⟨r115, p_r115, c_r115, rfl, hs117, h_r115, H⟩
  have hst120 := Stp.same hO hs117
  replace hO := hst120.own
  replace h_a0 := h_a0.ch hst120.ch
  replace h_r103 := h_r103.ch hst120.ch
  replace h_r109 := h_r109.ch hst120.ch
  replace hB := hB.trans hst120.fr
  refine GoR.op ((op_assign rfl) _) rfl rfl ?_
  refine GoR.op ((op_assign rfl) _) rfl rfl ?_
  refine GoR.op ((op_assign rfl) _) rfl rfl ?_
  refine GoR.nil ?_
  refine Go1.seq ?_
  refine Go1.region ?_
  refine GoR.op ((op_move rfl) _) rfl rfl ?_
  refine GoR.call (op_call body54 rfl (walk_mult_Commutative hO.lt h_a0 H)) rfl rfl ?_
  rintro v125 w122 ⟨r121, rfl, hs123, H⟩
  have hst126 := Stp.same hO hs123
  replace hO := hst126.own
  replace h_a0 := h_a0.ch hst126.ch
  replace h_r103 := h_r103.ch hst126.ch
  replace h_r109 := h_r109.ch hst126.ch
  replace h_r115 := h_r115.ch hst126.ch
  replace hB := hB.trans hst126.fr
  refine GoR.op ((op_assign rfl) _) rfl rfl ?_
  refine GoR.nil ?_
  refine Go1.seq ?_
  refine Go1.seq ?_
  refine Go1.region ?_
  refine GoR.op ((op_move rfl) _) rfl rfl ?_
  refine GoR.call (op_call body26 rfl (walk_ref14_Valid hO.lt h_a0 H)) rfl rfl ?_
  rintro v131 w128 ⟨r127, rfl, hs129, H⟩
  have hst132 := Stp.same hO hs129
  replace hO := hst132.own
  replace h_a0 := h_a0.ch hst132.ch
  replace h_r103 := h_r103.ch hst132.ch
  replace h_r109 := h_r109.ch hst132.ch
  replace h_r115 := h_r115.ch hst132.ch
  replace hB := hB.trans hst132.fr
  cases r127
  ·replace H := ifn Bool.false_ne_true H
   refine GoR.op ((op_not rfl) _) rfl rfl ?_
   refine GoR.nil ?_
   refine Go1.condT rfl rfl ?_
   refine Go1.seq ?_
   refine Go1.region ?_
   refine GoR.op ((op_move rfl) _) rfl rfl ?_
   refine GoR.op ((op_len Try.underlying23 rfl) _) rfl rfl ?_
   replace H := H h_r103.bd
   by_cases h133 : (r103.length : Int) = (0 : Int)
   ·replace H := ifp h133 H
    refine GoR.op ((fun w => opB (op_eql rfl rfl w) (decide_eq_true h133)) _) rfl rfl ?_
    refine GoR.op ((op_move rfl) _) rfl rfl ?_
    refine GoR.op ((op_move rfl) _) rfl rfl ?_
    refine GoR.op ((op_len Try.underlying23 rfl) _) rfl rfl ?_
    replace H := H h_r109.bd
    by_cases h134 : (r109.length : Int) = (0 : Int)
    ·replace H := ifp h134 H
     refine GoR.op ((fun w => opB (op_eql rfl rfl w) (decide_eq_true h134)) _) rfl rfl ?_
     refine GoR.op ((op_pickT rfl rfl rfl) _) rfl rfl ?_
     refine GoR.op ((op_move rfl) _) rfl rfl ?_
     refine GoR.op ((op_move rfl) _) rfl rfl ?_
     refine GoR.op ((op_len Try.underlying23 rfl) _) rfl rfl ?_
     replace H := H h_r115.bd
     by_cases h135 : (r115.length : Int) = (0 : Int)
     ·replace H := ifp h135 H
      refine GoR.op ((fun w => opB (op_eql rfl rfl w) (decide_eq_true h135)) _) rfl rfl ?_
      refine GoR.op ((op_pickT rfl rfl rfl) _) rfl rfl ?_
      refine GoR.op ((op_move rfl) _) rfl rfl ?_
      refine GoR.op ((op_move rfl) _) rfl rfl ?_
      cases r121
      ·replace H := ifn Bool.false_ne_true H
       refine GoR.op ((op_not rfl) _) rfl rfl ?_
       refine GoR.op ((op_pickT rfl rfl rfl) _) rfl rfl ?_
       refine GoR.op ((op_move rfl) _) rfl rfl ?_
       refine GoR.call (op_call body16 rfl (walk_law14_awake hO.lt H)) rfl rfl ?_
       rintro v140 w137 ⟨r136, rfl, hs138, H⟩
       have hst141 := Stp.same hO hs138
       replace hO := hst141.own
       replace h_a0 := h_a0.ch hst141.ch
       replace h_r103 := h_r103.ch hst141.ch
       replace h_r109 := h_r109.ch hst141.ch
       replace h_r115 := h_r115.ch hst141.ch
       replace hB := hB.trans hst141.fr
       refine GoR.op ((op_pickT rfl rfl rfl) _) rfl rfl ?_
       refine GoR.op ((op_assign rfl) _) rfl rfl ?_
       refine GoR.nil ?_
       refine Go1.ret1 Try.func12 rfl ?_
       exact ⟨r136, rfl, hB.same, H⟩
      ·replace H := ifp rfl H
       refine GoR.op ((op_not rfl) _) rfl rfl ?_
       refine GoR.op ((op_pickT rfl rfl rfl) _) rfl rfl ?_
       refine GoR.op ((op_move rfl) _) rfl rfl ?_
       refine GoR.pass rfl rfl ?_
       refine GoR.op ((op_pickF rfl rfl rfl) _) rfl rfl ?_
       refine GoR.op ((op_assign rfl) _) rfl rfl ?_
       refine GoR.nil ?_
       refine Go1.ret1 Try.func12 rfl ?_
       exact ⟨false, rfl, hB.same, H⟩
     ·replace H := ifn h135 H
      refine GoR.op ((fun w => opB (op_eql rfl rfl w) (decide_eq_false h135)) _) rfl rfl ?_
      refine GoR.op ((op_pickT rfl rfl rfl) _) rfl rfl ?_
      refine GoR.op ((op_move rfl) _) rfl rfl ?_
      refine GoR.pass rfl rfl ?_
      refine GoR.pass rfl rfl ?_
      refine GoR.op ((op_pickF rfl rfl rfl) _) rfl rfl ?_
      refine GoR.op ((op_move rfl) _) rfl rfl ?_
      refine GoR.pass rfl rfl ?_
      refine GoR.op ((op_pickF rfl rfl rfl) _) rfl rfl ?_
      refine GoR.op ((op_assign rfl) _) rfl rfl ?_
      refine GoR.nil ?_
      refine Go1.ret1 Try.func12 rfl ?_
      exact ⟨false, rfl, hB.same, H⟩
    ·replace H := ifn h134 H
     refine GoR.op ((fun w => opB (op_eql rfl rfl w) (decide_eq_false h134)) _) rfl rfl ?_
     refine GoR.op ((op_pickT rfl rfl rfl) _) rfl rfl ?_
     refine GoR.op ((op_move rfl) _) rfl rfl ?_
     refine GoR.pass rfl rfl ?_
     refine GoR.pass rfl rfl ?_
     refine GoR.pass rfl rfl ?_
     refine GoR.op ((op_pickF rfl rfl rfl) _) rfl rfl ?_
     refine GoR.op ((op_move rfl) _) rfl rfl ?_
     refine GoR.pass rfl rfl ?_
     refine GoR.pass rfl rfl ?_
     refine GoR.op ((op_pickF rfl rfl rfl) _) rfl rfl ?_
     refine GoR.op ((op_move rfl) _) rfl rfl ?_
     refine GoR.pass rfl rfl ?_
     refine GoR.op ((op_pickF rfl rfl rfl) _) rfl rfl ?_
     refine GoR.op ((op_assign rfl) _) rfl rfl ?_
     refine GoR.nil ?_
     refine Go1.ret1 Try.func12 rfl ?_
     exact ⟨false, rfl, hB.same, H⟩
   ·replace H := ifn h133 H
    refine GoR.op ((fun w => opB (op_eql rfl rfl w) (decide_eq_false h133)) _) rfl rfl ?_
    refine GoR.op ((op_move rfl) _) rfl rfl ?_
    refine GoR.pass rfl rfl ?_
    refine GoR.pass rfl rfl ?_
    refine GoR.pass rfl rfl ?_
    refine GoR.op ((op_pickF rfl rfl rfl) _) rfl rfl ?_
    refine GoR.op ((op_move rfl) _) rfl rfl ?_
    refine GoR.pass rfl rfl ?_
    refine GoR.pass rfl rfl ?_
    refine GoR.pass rfl rfl ?_
    refine GoR.op ((op_pickF rfl rfl rfl) _) rfl rfl ?_
    refine GoR.op ((op_move rfl) _) rfl rfl ?_
    refine GoR.pass rfl rfl ?_
    refine GoR.pass rfl rfl ?_
    refine GoR.op ((op_pickF rfl rfl rfl) _) rfl rfl ?_
    refine GoR.op ((op_move rfl) _) rfl rfl ?_
    refine GoR.pass rfl rfl ?_
    refine GoR.op ((op_pickF rfl rfl rfl) _) rfl rfl ?_
    refine GoR.op ((op_assign rfl) _) rfl rfl ?_
    refine GoR.nil ?_
    refine Go1.ret1 Try.func12 rfl ?_
    exact ⟨false, rfl, hB.same, H⟩
  ·replace H := ifp rfl H
   refine GoR.op ((op_not rfl) _) rfl rfl ?_
   refine GoR.nil ?_
   refine Go1.condF rfl rfl ?_
   refine Go1.skip ?_
   refine Go1.seq ?_
   refine Go1.region ?_
   refine GoR.op ((op_move rfl) _) rfl rfl ?_
   refine GoR.op ((op_move rfl) _) rfl rfl ?_
   refine GoR.call (op_call body55 rfl (walk_ref14_Generators hO.lt h_a0 H)) rfl rfl ?_
   rintro v146 w143 ⟨r142, p_r142, c_r142, rfl, hs144, h_r142, H⟩
   have hst147 := Stp.same hO hs144
   replace hO := hst147.own
   replace h_a0 := h_a0.ch hst147.ch
   replace h_r103 := h_r103.ch hst147.ch
   replace h_r109 := h_r109.ch hst147.ch
   replace h_r115 := h_r115.ch hst147.ch
   replace hB := hB.trans hst147.fr
   refine GoR.call (op_call body40 rfl (walk_ref03_Same hO.lt h_r103 h_r142 H)) rfl rfl ?_
   rintro v152 w149 ⟨r148, rfl, hs150, H⟩
   have hst153 := Stp.same hO hs150
   replace hO := hst153.own
   replace h_a0 := h_a0.ch hst153.ch
   replace h_r103 := h_r103.ch hst153.ch
   replace h_r109 := h_r109.ch hst153.ch
   replace h_r115 := h_r115.ch hst153.ch
   replace h_r142 := h_r142.ch hst153.ch
   replace hB := hB.trans hst153.fr
   refine GoR.op ((op_move rfl) _) rfl rfl ?_
   cases r148
   ·replace H := ifn Bool.false_ne_true H
    refine GoR.pass rfl rfl ?_
    refine GoR.pass rfl rfl ?_
    refine GoR.pass rfl rfl ?_
    refine GoR.pass rfl rfl ?_
    refine GoR.op ((op_pickF rfl rfl rfl) _) rfl rfl ?_
    refine GoR.op ((op_move rfl) _) rfl rfl ?_
    refine GoR.pass rfl rfl ?_
    refine GoR.pass rfl rfl ?_
    refine GoR.pass rfl rfl ?_
    refine GoR.pass rfl rfl ?_
    refine GoR.op ((op_pickF rfl rfl rfl) _) rfl rfl ?_
    refine GoR.op ((op_move rfl) _) rfl rfl ?_
    refine GoR.pass rfl rfl ?_
    refine GoR.pass rfl rfl ?_
    refine GoR.pass rfl rfl ?_
    refine GoR.pass rfl rfl ?_
    refine GoR.pass rfl rfl ?_
    refine GoR.pass rfl rfl ?_
    refine GoR.pass rfl rfl ?_
    refine GoR.op ((op_pickF rfl rfl rfl) _) rfl rfl ?_
    refine GoR.op ((op_move rfl) _) rfl rfl ?_
    refine GoR.pass rfl rfl ?_
    refine GoR.op ((op_pickF rfl rfl rfl) _) rfl rfl ?_
    refine GoR.op ((op_assign rfl) _) rfl rfl ?_
    refine GoR.nil ?_
    refine Go1.ret1 Try.func12 rfl ?_
    exact ⟨false, rfl, hB.same, H⟩
   ·replace H := ifp rfl H
    refine GoR.op ((op_move rfl) _) rfl rfl ?_
    refine GoR.op ((op_move rfl) _) rfl rfl ?_
    refine GoR.call (op_call body56 rfl (walk_ref14_Indecomposable hO.lt h_a0 H)) rfl rfl ?_
    rintro v158 w155 ⟨r154, p_r154, c_r154, rfl, hs156, h_r154, H⟩
    have hst159 := Stp.same hO hs156
    replace hO := hst159.own
    replace h_a0 := h_a0.ch hst159.ch
    replace h_r103 := h_r103.ch hst159.ch
    replace h_r109 := h_r109.ch hst159.ch
    replace h_r115 := h_r115.ch hst159.ch
    replace h_r142 := h_r142.ch hst159.ch
    replace hB := hB.trans hst159.fr
    refine GoR.call (op_call body40 rfl (walk_ref03_Same hO.lt h_r109 h_r154 H)) rfl rfl ?_
    rintro v164 w161 ⟨r160, rfl, hs162, H⟩
    have hst165 := Stp.same hO hs162
    replace hO := hst165.own
    replace h_a0 := h_a0.ch hst165.ch
    replace h_r103 := h_r103.ch hst165.ch
    replace h_r109 := h_r109.ch hst165.ch
    replace h_r115 := h_r115.ch hst165.ch
    replace h_r142 := h_r142.ch hst165.ch
    replace h_r154 := h_r154.ch hst165.ch
    replace hB := hB.trans hst165.fr
    refine GoR.op ((op_pickT rfl rfl rfl) _) rfl rfl ?_
    refine GoR.op ((op_move rfl) _) rfl rfl ?_
    cases r160
    ·replace H := ifn Bool.false_ne_true H
     refine GoR.pass rfl rfl ?_
     refine GoR.pass rfl rfl ?_
     refine GoR.pass rfl rfl ?_
     refine GoR.pass rfl rfl ?_
     refine GoR.op ((op_pickF rfl rfl rfl) _) rfl rfl ?_
     refine GoR.op ((op_move rfl) _) rfl rfl ?_
     refine GoR.pass rfl rfl ?_
     refine GoR.pass rfl rfl ?_
     refine GoR.pass rfl rfl ?_
     refine GoR.pass rfl rfl ?_
     refine GoR.pass rfl rfl ?_
     refine GoR.pass rfl rfl ?_
     refine GoR.pass rfl rfl ?_
     refine GoR.op ((op_pickF rfl rfl rfl) _) rfl rfl ?_
     refine GoR.op ((op_move rfl) _) rfl rfl ?_
     refine GoR.pass rfl rfl ?_
     refine GoR.op ((op_pickF rfl rfl rfl) _) rfl rfl ?_
     refine GoR.op ((op_assign rfl) _) rfl rfl ?_
     refine GoR.nil ?_
     refine Go1.ret1 Try.func12 rfl ?_
     exact ⟨false, rfl, hB.same, H⟩
    ·replace H := ifp rfl H
     refine GoR.op ((op_move rfl) _) rfl rfl ?_
     refine GoR.op ((op_move rfl) _) rfl rfl ?_
     refine GoR.call (op_call body57 rfl (walk_ref14_Center hO.lt h_a0 H)) rfl rfl ?_
     rintro v170 w167 ⟨r166, p_r166, c_r166, rfl, hs168, h_r166, H⟩
     have hst171 := Stp.same hO hs168
     replace hO := hst171.own
     replace h_a0 := h_a0.ch hst171.ch
     replace h_r103 := h_r103.ch hst171.ch
     replace h_r109 := h_r109.ch hst171.ch
     replace h_r115 := h_r115.ch hst171.ch
     replace h_r142 := h_r142.ch hst171.ch
     replace h_r154 := h_r154.ch hst171.ch
     replace hB := hB.trans hst171.fr
     refine GoR.call (op_call body40 rfl (walk_ref03_Same hO.lt h_r115 h_r166 H)) rfl rfl ?_
     rintro v176 w173 ⟨r172, rfl, hs174, H⟩
     have hst177 := Stp.same hO hs174
     replace hO := hst177.own
     replace h_a0 := h_a0.ch hst177.ch
     replace h_r103 := h_r103.ch hst177.ch
     replace h_r109 := h_r109.ch hst177.ch
     replace h_r115 := h_r115.ch hst177.ch
     replace h_r142 := h_r142.ch hst177.ch
     replace h_r154 := h_r154.ch hst177.ch
     replace h_r166 := h_r166.ch hst177.ch
     replace hB := hB.trans hst177.fr
     refine GoR.op ((op_pickT rfl rfl rfl) _) rfl rfl ?_
     refine GoR.op ((op_move rfl) _) rfl rfl ?_
     cases r172
     ·replace H := ifn Bool.false_ne_true H
      refine GoR.pass rfl rfl ?_
      refine GoR.pass rfl rfl ?_
      refine GoR.pass rfl rfl ?_
      refine GoR.pass rfl rfl ?_
      refine GoR.pass rfl rfl ?_
      refine GoR.pass rfl rfl ?_
      refine GoR.pass rfl rfl ?_
      refine GoR.op ((op_pickF rfl rfl rfl) _) rfl rfl ?_
      refine GoR.op ((op_move rfl) _) rfl rfl ?_
      refine GoR.pass rfl rfl ?_
      refine GoR.op ((op_pickF rfl rfl rfl) _) rfl rfl ?_
      refine GoR.op ((op_assign rfl) _) rfl rfl ?_
      refine GoR.nil ?_
      refine Go1.ret1 Try.func12 rfl ?_
      exact ⟨false, rfl, hB.same, H⟩
     ·replace H := ifp rfl H
      refine GoR.op ((op_move rfl) _) rfl rfl ?_
      refine GoR.op ((op_move rfl) _) rfl rfl ?_
      refine GoR.op ((op_len Try.underlying23 rfl) _) rfl rfl ?_
      replace H := H h_r115.bd
      refine GoR.op ((op_move rfl) _) rfl rfl ?_
      refine GoR.op ((op_len Try.underlying22 rfl) _) rfl rfl ?_
      replace H := H h_a0.bd
      by_cases h178 : (r115.length : Int) = (a0.length : Int)
      ·replace H := ifp h178 H
       refine GoR.op ((fun w => opB (op_eql rfl rfl w) (decide_eq_true h178)) _) rfl rfl ?_
       cases r121
       ·replace H := ifn Bool.false_ne_true H
        refine GoR.op ((op_eqlB Try.underlying4 rfl rfl) _) rfl rfl ?_
        refine GoR.op ((op_pickT rfl rfl rfl) _) rfl rfl ?_
        refine GoR.op ((op_move rfl) _) rfl rfl ?_
        refine GoR.pass rfl rfl ?_
        refine GoR.op ((op_pickF rfl rfl rfl) _) rfl rfl ?_
        refine GoR.op ((op_assign rfl) _) rfl rfl ?_
        refine GoR.nil ?_
        refine Go1.ret1 Try.func12 rfl ?_
        exact ⟨false, rfl, hB.same, H⟩
       ·replace H := ifp rfl H
        refine GoR.op ((op_eqlB Try.underlying4 rfl rfl) _) rfl rfl ?_
        refine GoR.op ((op_pickT rfl rfl rfl) _) rfl rfl ?_
        refine GoR.op ((op_move rfl) _) rfl rfl ?_
        refine GoR.call (op_call body16 rfl (walk_law14_awake hO.lt H)) rfl rfl ?_
        rintro v183 w180 ⟨r179, rfl, hs181, H⟩
        have hst184 := Stp.same hO hs181
        replace hO := hst184.own
        replace h_a0 := h_a0.ch hst184.ch
        replace h_r103 := h_r103.ch hst184.ch
        replace h_r109 := h_r109.ch hst184.ch
        replace h_r115 := h_r115.ch hst184.ch
        replace h_r142 := h_r142.ch hst184.ch
        replace h_r154 := h_r154.ch hst184.ch
        replace h_r166 := h_r166.ch hst184.ch
        replace hB := hB.trans hst184.fr
        refine GoR.op ((op_pickT rfl rfl rfl) _) rfl rfl ?_
        refine GoR.op ((op_assign rfl) _) rfl rfl ?_
        refine GoR.nil ?_
        refine Go1.ret1 Try.func12 rfl ?_
        exact ⟨r179, rfl, hB.same, H⟩
      ·replace H := ifn h178 H
       refine GoR.op ((fun w => opB (op_eql rfl rfl w) (decide_eq_false h178)) _) rfl rfl ?_
       cases r121
       ·replace H := ifn Bool.false_ne_true H
        refine GoR.op ((op_eqlB Try.underlying4 rfl rfl) _) rfl rfl ?_
        refine GoR.op ((op_pickT rfl rfl rfl) _) rfl rfl ?_
        refine GoR.op ((op_move rfl) _) rfl rfl ?_
        refine GoR.call (op_call body16 rfl (walk_law14_awake hO.lt H)) rfl rfl ?_
        rintro v189 w186 ⟨r185, rfl, hs187, H⟩
        have hst190 := Stp.same hO hs187
        replace hO := hst190.own
        replace h_a0 := h_a0.ch hst190.ch
        replace h_r103 := h_r103.ch hst190.ch
        replace h_r109 := h_r109.ch hst190.ch
        replace h_r115 := h_r115.ch hst190.ch
        replace h_r142 := h_r142.ch hst190.ch
        replace h_r154 := h_r154.ch hst190.ch
        replace h_r166 := h_r166.ch hst190.ch
        replace hB := hB.trans hst190.fr
        refine GoR.op ((op_pickT rfl rfl rfl) _) rfl rfl ?_
        refine GoR.op ((op_assign rfl) _) rfl rfl ?_
        refine GoR.nil ?_
        refine Go1.ret1 Try.func12 rfl ?_
        exact ⟨r185, rfl, hB.same, H⟩
       ·replace H := ifp rfl H
        refine GoR.op ((op_eqlB Try.underlying4 rfl rfl) _) rfl rfl ?_
        refine GoR.op ((op_pickT rfl rfl rfl) _) rfl rfl ?_
        refine GoR.op ((op_move rfl) _) rfl rfl ?_
        refine GoR.pass rfl rfl ?_
        refine GoR.op ((op_pickF rfl rfl rfl) _) rfl rfl ?_
        refine GoR.op ((op_assign rfl) _) rfl rfl ?_
        refine GoR.nil ?_
        refine Go1.ret1 Try.func12 rfl ?_
        exact ⟨false, rfl, hB.same, H⟩
end Sg
