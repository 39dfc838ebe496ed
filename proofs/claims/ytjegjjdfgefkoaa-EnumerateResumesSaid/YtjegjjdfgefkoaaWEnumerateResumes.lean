/- The walks: each call keeps to its plain transformer. Printed by walkgen.py. -/
import Derived.Test.YtjegjjdfgefkoaaTi
import Derived.Test.YtjegjjdfgefkoaaWEnumerateBuilds
import Derived.Test.YtjegjjdfgefkoaaWEnumerateBuildsb
import Derived.Test.YtjegjjdfgefkoaaWEnumerateBuildsc
import Derived.Test.YtjegjjdfgefkoaaWEnumerateBuildsd
import Derived.Test.YtjegjjdfgefkoaaWEnumerateStarts
namespace Sg
open Go Go.RowKit Go.Proofs
set_option linter.unusedVariables false
set_option linter.unusedSimpArgs false
set_option maxRecDepth 100000
set_option maxHeartbeats 4000000
theorem body26 : Body Try.prog 26 := ⟨Try.f26, Try.func26, rfl, by kernel_rfl⟩
theorem walk_enumerate_Step {A : List Nat} {w0 : World} {aY : Option Addr} {aZ : Nat} {az : Option Addr} {aA : Nat} {ao : Option Addr} {ap : Nat} {aW : Option Addr} {aX : Nat} {aB : Option Addr} {aC : Nat} {aD : Option Addr} {aE : Nat} {e : Enum} {budget : Int} (hA : ∀ b ∈ A, b < w0.heap.size) (ah : ISl (Rp.sl (Rp.int .i64)) A w0 aY aZ e.Gens) (ae : ISl (Rp.sl (Rp.int .i64)) A w0 az aA e.Elems) (ad : ISl (Rp.int .i64) A w0 ao ap e.Prefix) (ai : ISl (Rp.int .i64) A w0 aW aX e.Last) (af : ISl (Rp.sl (Rp.int .i64)) A w0 aB aC e.Right) (ag : ISl (rpRule) A w0 aD aE e.Rules) {K : Enum → Int → Prop} (H : enumerate_Step e budget K) :
    CallsV Try.prog 26 #[.agg #[.int .i64 e.Points, .bool e.Monoid, .slice aY e.Gens.length aZ, .slice az e.Elems.length aA, .slice ao e.Prefix.length ap, .slice aW e.Last.length aX, .slice aB e.Right.length aC, .slice aD e.Rules.length aE, .int .i64 e.Done], .int .i64 budget] w0 (fun v w' => ∃ (r0 : Enum), ∃ (r1 : Int), ∃ (rp : Option Addr), ∃ (rq : Nat), ∃ (qi : Option Addr), ∃ (qj : Nat), ∃ (o5 : Option Addr), ∃ (o6 : Nat), ∃ (rs : Option Addr), ∃ (ru : Nat), ∃ (qk : Option Addr), ∃ (ql : Nat), ∃ (qm : Option Addr), ∃ (qn : Nat), v = .tuple #[.agg #[.int .i64 r0.Points, .bool r0.Monoid, .slice rp r0.Gens.length rq, .slice qi r0.Elems.length qj, .slice o5 r0.Prefix.length o6, .slice rs r0.Last.length ru, .slice qk r0.Right.length ql, .slice qm r0.Rules.length qn, .int .i64 r0.Done], .int .i64 r1] ∧ Same w0 w' ∧ ISl (Rp.sl (Rp.int .i64)) A w' rp rq r0.Gens ∧ ISl (Rp.sl (Rp.int .i64)) A w' qi qj r0.Elems ∧ ISl (Rp.int .i64) A w' o5 o6 r0.Prefix ∧ ISl (Rp.int .i64) A w' rs ru r0.Last ∧ ISl (Rp.sl (Rp.int .i64)) A w' qk ql r0.Right ∧ ISl (rpRule) A w' qm qn r0.Rules ∧ K r0 r1) := by
 refine CallsV.of (l := [.agg #[.int .i64 e.Points, .bool e.Monoid, .slice aY e.Gens.length aZ, .slice az e.Elems.length aA, .slice ao e.Prefix.length ap, .slice aW e.Last.length aX, .slice aB e.Right.length aC, .slice aD e.Rules.length aE, .int .i64 e.Done], .int .i64 budget]) Try.func26 rfl Try.ntmps26 rfl ?_
 have hO := Owns.start hA
 have hB := Fr.refl (bl []) w0
 unfold enumerate_Step at H
 replace ah := ah.ch (Ch.start A w0)
 replace ae := ae.ch (Ch.start A w0)
 replace ad := ad.ch (Ch.start A w0)
 replace ai := ai.ch (Ch.start A w0)
 replace af := af.ch (Ch.start A w0)
 replace ag := ag.ch (Ch.start A w0)
 refine Go1.seq ?_
 refine Go1.region ?_
 have hobt := obox (t := 29) (v := .agg #[.int .i64 e.Points, .bool e.Monoid, .slice aY e.Gens.length aZ, .slice az e.Elems.length aA, .slice ao e.Prefix.length ap, .slice aW e.Last.length aX, .slice aB e.Right.length aC, .slice aD e.Rules.length aE, .int .i64 e.Done]) (cs := #[.int .i64 e.Points, .bool e.Monoid, .slice aY e.Gens.length aZ, .slice az e.Elems.length aA, .slice ao e.Prefix.length ap, .slice aW e.Last.length aX, .slice aB e.Right.length aC, .slice aD e.Rules.length aE, .int .i64 e.Done]) hO rfl
 obtain ⟨w1, B2, fE, hs4, wb⟩ := hobt
 refine GoR.op (wb rfl) rfl rfl ?_
 replace hO := fE.own
 replace ah := ah.ch fE.ch
 replace ae := ae.ch fE.ch
 replace ad := ad.ch fE.ch
 replace ai := ai.ch fE.ch
 replace af := af.ch fE.ch
 replace ag := ag.ch fE.ch
 replace hB := hB.trans fE.fr
 have hobt := oalloc (t := 29) (cs := #[.int .i64 (0 : Int), .bool false, .slice none 0 0, .slice none 0 0, .slice none 0 0, .slice none 0 0, .slice none 0 0, .slice none 0 0, .int .i64 (0 : Int)]) ti29 hO rfl
 obtain ⟨w7, B8, pM, BG, zH⟩ := hobt
 refine GoR.op zH rfl rfl ?_
 replace hO := pM.own
 replace ah := ah.ch pM.ch
 replace ae := ae.ch pM.ch
 replace ad := ad.ch pM.ch
 replace ai := ai.ch pM.ch
 replace af := af.ch pM.ch
 replace ag := ag.ch pM.ch
 replace hB := hB.trans pM.fr
 refine GoR.op ((op_assign rfl) _) rfl rfl ?_
 refine GoR.nil ?_
 refine Go1.seq ?_
 refine Go1.region ?_
 refine GoR.op ((oblkAgg (vs := [.int .i64 e.Points, .bool e.Monoid, .slice aY e.Gens.length aZ, .slice az e.Elems.length aA, .slice ao e.Prefix.length ap, .slice aW e.Last.length aX, .slice aB e.Right.length aC, .slice aD e.Rules.length aE, .int .i64 e.Done]) (i := 0) 1 hO rfl rfl Try.underlying29 rfl ti29 rfl) _ (Same.refl _)) rfl rfl ?_
 refine GoR.call (op_call body53 rfl (walk_enumerate_replay (e := e) hO.lt ah ae ad ai af ag H)) rfl rfl ?_
 intro v15 w16 hcase19
 refine Or.elim hcase19 ?_ ?_
 ·refine exE fun r14 => andE fun hv20 => andE fun D5 => fun H => ?_
  subst hv20
  clear hcase19
  replace H := oElimN H
  have kG := Stp.same hO D5
  replace hO := kG.own
  replace ah := ah.ch kG.ch
  replace ae := ae.ch kG.ch
  replace ad := ad.ch kG.ch
  replace ai := ai.ch kG.ch
  replace af := af.ch kG.ch
  replace ag := ag.ch kG.ch
  replace hB := hB.trans kG.fr
  refine GoR.op ((op_move rfl) _) rfl rfl ?_
  refine GoR.op ((op_extract rfl rfl) _) rfl rfl ?_
  refine GoR.op ((op_extract rfl rfl) _) rfl rfl ?_
  refine GoR.op ((op_assign rfl) _) rfl rfl ?_
  refine GoR.op ((op_assign rfl) _) rfl rfl ?_
  refine GoR.nil ?_
  refine Go1.seq ?_
  refine Go1.seq ?_
  refine Go1.region ?_
  refine GoR.op ((op_move rfl) _) rfl rfl ?_
  cases r14
  ·replace H := ifn Bool.false_ne_true H
   refine GoR.op ((op_not rfl) _) rfl rfl ?_
   refine GoR.nil ?_
   refine Go1.condT rfl rfl ?_
   refine Go1.seq ?_
   refine Go1.region ?_
   refine GoR.op ((op_build Try.underlying29 ti29 (pl := [(0, 1), (1, 1), (2, 1), (3, 1), (4, 1), (5, 1), (6, 1), (7, 1), (8, 1)]) (vs := []) (cs := #[.int .i64 (0 : Int), .bool false, .slice none 0 0, .slice none 0 0, .slice none 0 0, .slice none 0 0, .slice none 0 0, .slice none 0 0, .int .i64 (0 : Int)]) (by kernel_rfl) rfl (by kernel_rfl)) _) rfl rfl ?_
   have hobt := oblkStAgg (us := [.int .i64 (0 : Int), .bool false, .slice none 0 0, .slice none 0 0, .slice none 0 0, .slice none 0 0, .slice none 0 0, .slice none 0 0, .int .i64 (0 : Int)]) (o := 0) (cs' := #[.int .i64 (0 : Int), .bool false, .slice none 0 0, .slice none 0 0, .slice none 0 0, .slice none 0 0, .slice none 0 0, .slice none 0 0, .int .i64 (0 : Int)]) 0 hO rfl rfl (Nat.le_of_ble_eq_true rfl) rfl
   obtain ⟨w22, gS, zM⟩ := hobt
   refine GoR.op (zM ti29 (by exact rfl) (by exact rfl) rfl) rfl rfl ?_
   replace hO := gS.own
   replace ah := ah.ch gS.ch
   replace ae := ae.ch gS.ch
   replace ad := ad.ch gS.ch
   replace ai := ai.ch gS.ch
   replace af := af.ch gS.ch
   replace ag := ag.ch gS.ch
   replace hB := hB.trans gS.fr
   refine GoR.op ((op_assign rfl) _) rfl rfl ?_
   refine GoR.nil ?_
   refine Go1.retC2 Try.func26 rfl rfl (run_loadBlk (vs := [.int .i64 (0 : Int), .bool false, .slice none 0 0, .slice none 0 0, .slice none 0 0, .slice none 0 0, .slice none 0 0, .slice none 0 0, .int .i64 (0 : Int)]) 0 hO rfl rfl Try.underlying29 rfl ti29) ?_
   exact ⟨(⟨(0 : Int), false, ([] : List (List Int)), ([] : List (List Int)), ([] : List Int), ([] : List Int), ([] : List (List Int)), ([] : List Rule), (0 : Int)⟩ : Enum), (8 : Int), none, 0, none, 0, none, 0, none, 0, none, 0, none, 0, rfl, hB.same, (ISl.null _ _ _), (ISl.null _ _ _), (ISl.null _ _ _), (ISl.null _ _ _), (ISl.null _ _ _), (ISl.null _ _ _), H⟩
  replace H := ifp rfl H
  refine GoR.op ((op_not rfl) _) rfl rfl ?_
  refine GoR.nil ?_
  refine Go1.condF rfl rfl ?_
  refine Go1.skip ?_
  refine Go1.seq ?_
  refine Go1.seq ?_
  refine Go1.region ?_
  refine GoR.op ((op_move rfl) _) rfl rfl ?_
  by_cases h25 : budget < (0 : Int)
  ·replace H := ifp h25 H
   refine GoR.op ((fun w => opB (op_lss rfl rfl w) (decide_eq_true h25)) _) rfl rfl ?_
   refine GoR.nil ?_
   refine Go1.condT rfl rfl ?_
   refine Go1.seq ?_
   refine Go1.cut [(4, .pointer (some ⟨B8, 0, none⟩))] ⟨rfl, trivial⟩ ?_
   intro σ _
   refine Go1.region ?_
   refine GoR.op ((op_build Try.underlying29 ti29 (pl := [(0, 1), (1, 1), (2, 1), (3, 1), (4, 1), (5, 1), (6, 1), (7, 1), (8, 1)]) (vs := []) (cs := #[.int .i64 (0 : Int), .bool false, .slice none 0 0, .slice none 0 0, .slice none 0 0, .slice none 0 0, .slice none 0 0, .slice none 0 0, .int .i64 (0 : Int)]) (by kernel_rfl) rfl (by kernel_rfl)) _) rfl rfl ?_
   have hobt := oblkStAgg (us := [.int .i64 (0 : Int), .bool false, .slice none 0 0, .slice none 0 0, .slice none 0 0, .slice none 0 0, .slice none 0 0, .slice none 0 0, .int .i64 (0 : Int)]) (o := 0) (cs' := #[.int .i64 (0 : Int), .bool false, .slice none 0 0, .slice none 0 0, .slice none 0 0, .slice none 0 0, .slice none 0 0, .slice none 0 0, .int .i64 (0 : Int)]) 0 hO rfl rfl (Nat.le_of_ble_eq_true rfl) rfl
   obtain ⟨w26, pS, CO⟩ := hobt
   refine GoR.op (CO ti29 (by exact rfl) (by exact rfl) rfl) rfl rfl ?_
   replace hO := pS.own
   replace ah := ah.ch pS.ch
   replace ae := ae.ch pS.ch
   replace ad := ad.ch pS.ch
   replace ai := ai.ch pS.ch
   replace af := af.ch pS.ch
   replace ag := ag.ch pS.ch
   replace hB := hB.trans pS.fr
   refine GoR.op ((op_assign rfl) _) rfl rfl ?_
   refine GoR.nil ?_
   refine Go1.retC2 Try.func26 rfl rfl (run_loadBlk (vs := [.int .i64 (0 : Int), .bool false, .slice none 0 0, .slice none 0 0, .slice none 0 0, .slice none 0 0, .slice none 0 0, .slice none 0 0, .int .i64 (0 : Int)]) 0 hO rfl rfl Try.underlying29 rfl ti29) ?_
   exact ⟨(⟨(0 : Int), false, ([] : List (List Int)), ([] : List (List Int)), ([] : List Int), ([] : List Int), ([] : List (List Int)), ([] : List Rule), (0 : Int)⟩ : Enum), (1 : Int), none, 0, none, 0, none, 0, none, 0, none, 0, none, 0, rfl, hB.same, (ISl.null _ _ _), (ISl.null _ _ _), (ISl.null _ _ _), (ISl.null _ _ _), (ISl.null _ _ _), (ISl.null _ _ _), H⟩
  replace H := ifn h25 H
  refine GoR.op ((fun w => opB (op_lss rfl rfl w) (decide_eq_false h25)) _) rfl rfl ?_
  refine GoR.nil ?_
  refine Go1.condF rfl rfl ?_
  refine Go1.skip ?_
  refine Go1.seq ?_
  refine Go1.block ?_
  replace ah := ah.ch (Owns.dropCh _ _ 1)
  replace ae := ae.ch (Owns.dropCh _ _ 1)
  replace ad := ad.ch (Owns.dropCh _ _ 1)
  replace ai := ai.ch (Owns.dropCh _ _ 1)
  replace af := af.ch (Owns.dropCh _ _ 1)
  replace ag := ag.ch (Owns.dropCh _ _ 1)
  replace hB := hB.trans (Owns.dropFr _ _ 1)
  replace hO := hO.drop 1
  refine Go1.loopW (S := Int) (fun s σ w => agrees σ [(1, .int .i64 s), (4, .pointer (some ⟨B8, 0, none⟩)), (6, .pointer none)] ∧ Owns w0.heap.size w [.blk B8 (.cells #[.int .i64 (0 : Int), .bool false, .slice none 0 0, .slice none 0 0, .slice none 0 0, .slice none 0 0, .slice none 0 0, .slice none 0 0, .int .i64 (0 : Int)] 29 (0, 0))] A ∧ Fr (bl []) w0 (bl [.blk B8 (.cells #[.int .i64 (0 : Int), .bool false, .slice none 0 0, .slice none 0 0, .slice none 0 0, .slice none 0 0, .slice none 0 0, .slice none 0 0, .int .i64 (0 : Int)] 29 (0, 0))]) w) H ⟨⟨rfl, rfl, rfl, trivial⟩, hO, hB⟩ ?_
  intro X1 budget1_30
  intro H hX1 σ w29
  refine andE fun hag => andE fun hO => fun hB => ?_
  refine Go1.keep [(1, .int .i64 budget1_30), (4, .pointer (some ⟨B8, 0, none⟩)), (6, .pointer none)] hag ?_
  refine Go1.seq ?_
  refine Go1.seq ?_
  refine Go1.region ?_
  refine GoR.op ((op_move rfl) _) rfl rfl ?_
  by_cases h31 : (0 : Int) < budget1_30
  ·replace H := ifp h31 H
   refine GoR.op ((fun w => opB (op_gtr rfl rfl w) (decide_eq_true h31)) _) rfl rfl ?_
   refine GoR.op ((op_move rfl) _) rfl rfl ?_
   refine GoR.op ((op_move rfl) _) rfl rfl ?_
   refine GoR.inl (vs := [.pointer none]) (caps := []) rfl rfl body50 Try.func50 rfl Try.ntmps50 rfl rfl rfl ?_
   intro RhR32 hR32
   refine Go1.seq ?_
   refine Go1.region ?_
   refine GoR.op ((op_assign rfl) _) rfl rfl ?_
   refine GoR.nil ?_
   refine Go1.seq ?_
   refine Go1.drawS 0 [(0, .pure), (1, .pure), (2, .pure), (3, .pure), (4, .stable), (5, .pure), (6, .pure), (7, .pure), (8, .pure), (9, .stable), (10, .pure), (11, .pure), (12, .pure)] mixed (by kernel_rfl) ?_
   intro w33 D2
   have kA := Stp.same hO D2
   replace hO := kA.own
   replace hB := hB.trans kA.fr
   refine GoQ.pure rfl (op_move rfl) rfl rfl ?_
   exact H.elim
  replace H := ifn h31 H
  refine GoR.op ((fun w => opB (op_gtr rfl rfl w) (decide_eq_false h31)) _) rfl rfl ?_
  refine GoR.op ((op_move rfl) _) rfl rfl ?_
  refine GoR.pass rfl rfl ?_
  refine GoR.pass rfl rfl ?_
  refine GoR.pass rfl rfl ?_
  refine GoR.op ((op_pickF rfl rfl rfl) _) rfl rfl ?_
  refine GoR.nil ?_
  refine Go1.condF rfl rfl ?_
  refine Go1.exit rfl ?_
  refine Go1.seq ?_
  refine Go1.region ?_
  refine GoR.op ((op_move rfl) _) rfl rfl ?_
  exact H.elim
 ·refine exE fun r13 => exE fun r14 => exE fun kB => exE fun zY => exE fun zZ => exE fun z3 => exE fun zu => exE fun zw => exE fun zx => exE fun zy => exE fun yU => exE fun yV => exE fun yW => exE fun yX => exE fun yr => exE fun z4 => exE fun z5 => exE fun z6 => exE fun zA => exE fun zB => exE fun zC => exE fun zD => exE fun yY => exE fun zE => exE fun zF => exE fun zG => exE fun yZ => exE fun bG => exE fun BA => exE fun BB => exE fun BC => exE fun Bm => exE fun Bn => exE fun Bo => exE fun Bp => exE fun AD => exE fun Bq => exE fun Br => exE fun Bs => exE fun AE => andE fun hv36 => andE fun D5 => andE fun hN18 => andE fun gp => andE fun fZ => andE fun fB => andE fun gq => andE fun f0 => andE fun f5 => andE fun ka => andE fun ju => andE fun jv => fun H => ?_
  subst hv36
  clear hcase19
  replace H := oElimS H
  have rY := Stp.more hO D5 hN18
  dsimp only [List.cons_append, List.nil_append] at rY
  replace hO := rY.own
  replace ah := ah.ch rY.ch
  replace ae := ae.ch rY.ch
  replace ad := ad.ch rY.ch
  replace ai := ai.ch rY.ch
  replace af := af.ch rY.ch
  replace ag := ag.ch rY.ch
  replace hB := hB.trans rY.fr
  replace gp := gp.ch (Ch.assoc _ _ _ _)
  dsimp only [List.cons_append, List.nil_append] at gp
  replace fZ := fZ.ch (Ch.assoc _ _ _ _)
  dsimp only [List.cons_append, List.nil_append] at fZ
  replace fB := fB.ch (Ch.assoc _ _ _ _)
  dsimp only [List.cons_append, List.nil_append] at fB
  replace gq := gq.ch (Ch.assoc _ _ _ _)
  dsimp only [List.cons_append, List.nil_append] at gq
  replace f0 := f0.ch (Ch.assoc _ _ _ _)
  dsimp only [List.cons_append, List.nil_append] at f0
  replace f5 := f5.ch (Ch.assoc _ _ _ _)
  dsimp only [List.cons_append, List.nil_append] at f5
  replace ka := ka.ch (Ch.assoc _ _ _ _)
  dsimp only [List.cons_append, List.nil_append] at ka
  replace ju := ju.ch (Ch.assoc _ _ _ _)
  dsimp only [List.cons_append, List.nil_append] at ju
  replace jv := jv.ch (Ch.assoc _ _ _ _)
  dsimp only [List.cons_append, List.nil_append] at jv
  refine GoR.op ((op_move rfl) _) rfl rfl ?_
  refine GoR.op ((op_extract rfl rfl) _) rfl rfl ?_
  refine GoR.op ((op_extract rfl rfl) _) rfl rfl ?_
  refine GoR.op ((op_assign rfl) _) rfl rfl ?_
  refine GoR.op ((op_assign rfl) _) rfl rfl ?_
  refine GoR.nil ?_
  refine Go1.seq ?_
  refine Go1.seq ?_
  refine Go1.cut [(1, .int .i64 budget), (4, .pointer (some ⟨B8, 0, none⟩)), (6, .pointer (some ⟨kB, 0, none⟩)), (7, .bool r14)] ⟨rfl, rfl, rfl, rfl, trivial⟩ ?_
  intro σ _
  refine Go1.region ?_
  refine GoR.op ((op_move rfl) _) rfl rfl ?_
  cases r14
  ·replace H := ifn Bool.false_ne_true H
   refine GoR.op ((op_not rfl) _) rfl rfl ?_
   refine GoR.nil ?_
   refine Go1.condT rfl rfl ?_
   refine Go1.seq ?_
   refine Go1.region ?_
   refine GoR.op ((op_build Try.underlying29 ti29 (pl := [(0, 1), (1, 1), (2, 1), (3, 1), (4, 1), (5, 1), (6, 1), (7, 1), (8, 1)]) (vs := []) (cs := #[.int .i64 (0 : Int), .bool false, .slice none 0 0, .slice none 0 0, .slice none 0 0, .slice none 0 0, .slice none 0 0, .slice none 0 0, .int .i64 (0 : Int)]) (by kernel_rfl) rfl (by kernel_rfl)) _) rfl rfl ?_
   have hobt := oblkStAgg (us := [.int .i64 (0 : Int), .bool false, .slice none 0 0, .slice none 0 0, .slice none 0 0, .slice none 0 0, .slice none 0 0, .slice none 0 0, .int .i64 (0 : Int)]) (o := 0) (cs' := #[.int .i64 (0 : Int), .bool false, .slice none 0 0, .slice none 0 0, .slice none 0 0, .slice none 0 0, .slice none 0 0, .slice none 0 0, .int .i64 (0 : Int)]) 11 hO rfl rfl (Nat.le_of_ble_eq_true rfl) rfl
   obtain ⟨w49, pT, JR⟩ := hobt
   dsimp only [sS, sZ] at pT
   refine GoR.op (JR ti29 (by exact rfl) (by exact rfl) rfl) rfl rfl ?_
   replace gp := gp.ch pT.ch
   replace fZ := fZ.ch pT.ch
   replace fB := fB.ch pT.ch
   replace gq := gq.ch pT.ch
   replace f0 := f0.ch pT.ch
   replace f5 := f5.ch pT.ch
   replace ka := ka.ch pT.ch
   replace ju := ju.ch pT.ch
   replace jv := jv.ch pT.ch
   replace hO := pT.own
   replace ah := ah.ch pT.ch
   replace ae := ae.ch pT.ch
   replace ad := ad.ch pT.ch
   replace ai := ai.ch pT.ch
   replace af := af.ch pT.ch
   replace ag := ag.ch pT.ch
   replace hB := hB.trans pT.fr
   refine GoR.op ((op_assign rfl) _) rfl rfl ?_
   refine GoR.nil ?_
   refine Go1.retC2 Try.func26 rfl rfl (run_loadBlk (vs := [.int .i64 (0 : Int), .bool false, .slice none 0 0, .slice none 0 0, .slice none 0 0, .slice none 0 0, .slice none 0 0, .slice none 0 0, .int .i64 (0 : Int)]) 11 hO rfl rfl Try.underlying29 rfl ti29) ?_
   exact ⟨(⟨(0 : Int), false, ([] : List (List Int)), ([] : List (List Int)), ([] : List Int), ([] : List Int), ([] : List (List Int)), ([] : List Rule), (0 : Int)⟩ : Enum), (8 : Int), none, 0, none, 0, none, 0, none, 0, none, 0, none, 0, rfl, hB.same, (ISl.null _ _ _), (ISl.null _ _ _), (ISl.null _ _ _), (ISl.null _ _ _), (ISl.null _ _ _), (ISl.null _ _ _), H⟩
  replace H := ifp rfl H
  refine GoR.op ((op_not rfl) _) rfl rfl ?_
  refine GoR.nil ?_
  refine Go1.condF rfl rfl ?_
  refine Go1.skip ?_
  refine Go1.seq ?_
  refine Go1.seq ?_
  refine Go1.region ?_
  refine GoR.op ((op_move rfl) _) rfl rfl ?_
  by_cases h52 : budget < (0 : Int)
  ·replace H := ifp h52 H
   refine GoR.op ((fun w => opB (op_lss rfl rfl w) (decide_eq_true h52)) _) rfl rfl ?_
   refine GoR.nil ?_
   refine Go1.condT rfl rfl ?_
   refine Go1.seq ?_
   refine Go1.region ?_
   refine GoR.op ((op_build Try.underlying29 ti29 (pl := [(0, 1), (1, 1), (2, 1), (3, 1), (4, 1), (5, 1), (6, 1), (7, 1), (8, 1)]) (vs := []) (cs := #[.int .i64 (0 : Int), .bool false, .slice none 0 0, .slice none 0 0, .slice none 0 0, .slice none 0 0, .slice none 0 0, .slice none 0 0, .int .i64 (0 : Int)]) (by kernel_rfl) rfl (by kernel_rfl)) _) rfl rfl ?_
   have hobt := oblkStAgg (us := [.int .i64 (0 : Int), .bool false, .slice none 0 0, .slice none 0 0, .slice none 0 0, .slice none 0 0, .slice none 0 0, .slice none 0 0, .int .i64 (0 : Int)]) (o := 0) (cs' := #[.int .i64 (0 : Int), .bool false, .slice none 0 0, .slice none 0 0, .slice none 0 0, .slice none 0 0, .slice none 0 0, .slice none 0 0, .int .i64 (0 : Int)]) 11 hO rfl rfl (Nat.le_of_ble_eq_true rfl) rfl
   obtain ⟨w53, eH, JS⟩ := hobt
   dsimp only [sS, sZ] at eH
   refine GoR.op (JS ti29 (by exact rfl) (by exact rfl) rfl) rfl rfl ?_
   replace gp := gp.ch eH.ch
   replace fZ := fZ.ch eH.ch
   replace fB := fB.ch eH.ch
   replace gq := gq.ch eH.ch
   replace f0 := f0.ch eH.ch
   replace f5 := f5.ch eH.ch
   replace ka := ka.ch eH.ch
   replace ju := ju.ch eH.ch
   replace jv := jv.ch eH.ch
   replace hO := eH.own
   replace ah := ah.ch eH.ch
   replace ae := ae.ch eH.ch
   replace ad := ad.ch eH.ch
   replace ai := ai.ch eH.ch
   replace af := af.ch eH.ch
   replace ag := ag.ch eH.ch
   replace hB := hB.trans eH.fr
   refine GoR.op ((op_assign rfl) _) rfl rfl ?_
   refine GoR.nil ?_
   refine Go1.retC2 Try.func26 rfl rfl (run_loadBlk (vs := [.int .i64 (0 : Int), .bool false, .slice none 0 0, .slice none 0 0, .slice none 0 0, .slice none 0 0, .slice none 0 0, .slice none 0 0, .int .i64 (0 : Int)]) 11 hO rfl rfl Try.underlying29 rfl ti29) ?_
   exact ⟨(⟨(0 : Int), false, ([] : List (List Int)), ([] : List (List Int)), ([] : List Int), ([] : List Int), ([] : List (List Int)), ([] : List Rule), (0 : Int)⟩ : Enum), (1 : Int), none, 0, none, 0, none, 0, none, 0, none, 0, none, 0, rfl, hB.same, (ISl.null _ _ _), (ISl.null _ _ _), (ISl.null _ _ _), (ISl.null _ _ _), (ISl.null _ _ _), (ISl.null _ _ _), H⟩
  replace H := ifn h52 H
  refine GoR.op ((fun w => opB (op_lss rfl rfl w) (decide_eq_false h52)) _) rfl rfl ?_
  refine GoR.nil ?_
  refine Go1.condF rfl rfl ?_
  refine Go1.skip ?_
  refine Go1.seq ?_
  refine Go1.block ?_
  replace ah := ah.ch (Owns.dropCh _ _ 12)
  replace ae := ae.ch (Owns.dropCh _ _ 12)
  replace ad := ad.ch (Owns.dropCh _ _ 12)
  replace ai := ai.ch (Owns.dropCh _ _ 12)
  replace af := af.ch (Owns.dropCh _ _ 12)
  replace ag := ag.ch (Owns.dropCh _ _ 12)
  replace gp := gp.ch (Owns.dropCh _ _ 12)
  replace fZ := fZ.ch (Owns.dropCh _ _ 12)
  replace fB := fB.ch (Owns.dropCh _ _ 12)
  replace gq := gq.ch (Owns.dropCh _ _ 12)
  replace f0 := f0.ch (Owns.dropCh _ _ 12)
  replace f5 := f5.ch (Owns.dropCh _ _ 12)
  replace ka := ka.ch (Owns.dropCh _ _ 12)
  replace ju := ju.ch (Owns.dropCh _ _ 12)
  replace jv := jv.ch (Owns.dropCh _ _ 12)
  replace hB := hB.trans (Owns.dropFr _ _ 12)
  replace hO := hO.drop 12
  dsimp only [eS, eZ] at hB hO ah ae ad ai af ag gp fZ fB gq f0 f5 ka ju jv
  refine Go1.loopW (S := Int × Int × Bool × Int × List (List Int) × List (List Int) × List Int × List Int × List (List Int) × List Rule × List Str × List Int × List Int × (List (Str × Int))) (fun s σ w => match s with | (budget2_57, k2_58, b2_59, k2_60, d_61, d_67, d_73, d_79, d_85, d_91, d_97, d_103, d_109, m2_115) => ∃ (n66 : Nat), ∃ (p64 : Option Addr), ∃ (c65 : Nat), ∃ (jB : List Value), ∃ (n72 : Nat), ∃ (p70 : Option Addr), ∃ (c71 : Nat), ∃ (jC : List Value), ∃ (n78 : Nat), ∃ (p76 : Option Addr), ∃ (c77 : Nat), ∃ (jD : List Value), ∃ (n84 : Nat), ∃ (p82 : Option Addr), ∃ (c83 : Nat), ∃ (iM : List Value), ∃ (n90 : Nat), ∃ (p88 : Option Addr), ∃ (c89 : Nat), ∃ (jE : List Value), ∃ (n96 : Nat), ∃ (p94 : Option Addr), ∃ (c95 : Nat), ∃ (jF : List Value), ∃ (kq : Nat), ∃ (kr : Option Addr), ∃ (ks : Nat), ∃ (th : List Value), ∃ (kt : Nat), ∃ (fR : Option Addr), ∃ (fS : Nat), ∃ (pU : List Value), ∃ (ku : Nat), ∃ (kw : Option Addr), ∃ (kx : Nat), ∃ (pV : List Value), agrees σ [(1, .int .i64 budget2_57), (4, .pointer (some ⟨B8, 0, none⟩)), (6, .pointer (some ⟨kB, 0, none⟩))] ∧ Owns w0.heap.size w [.blk kB (.cells #[.int .i64 k2_58, .bool b2_59, .slice p64 n66 c65, .slice p70 n72 c71, .slice p76 n78 c77, .slice p82 n84 c83, .slice p88 n90 c89, .slice p94 n96 c95, .int .i64 k2_60, .map (some bG), .slice kr kq ks, .slice fR kt fS, .slice kw ku kx] 72 (0, 0)), .row 26 1 p64 n66 c65 jB, .row 26 1 p70 n72 c71 jC, .row 3 1 p76 n78 c77 jD, .row 3 1 p82 n84 c83 iM, .row 26 1 p88 n90 c89 jE, .row 39 2 p94 n96 c95 jF, .row 9 1 kr kq ks th, .row 3 1 fR kt fS pU, .row 3 1 kw ku kx pV, .any (mapE (fun a : List UInt8 => Value.string (gstr a)) (fun a : Int => Value.int .i64 a) bG m2_115), .blk B8 (.cells #[.int .i64 (0 : Int), .bool false, .slice none 0 0, .slice none 0 0, .slice none 0 0, .slice none 0 0, .slice none 0 0, .slice none 0 0, .int .i64 (0 : Int)] 29 (0, 0))] A ∧ Els (Rp.sl (Rp.int .i64)) (bl [.blk kB (.cells #[.int .i64 k2_58, .bool b2_59, .slice p64 n66 c65, .slice p70 n72 c71, .slice p76 n78 c77, .slice p82 n84 c83, .slice p88 n90 c89, .slice p94 n96 c95, .int .i64 k2_60, .map (some bG), .slice kr kq ks, .slice fR kt fS, .slice kw ku kx] 72 (0, 0)), .row 26 1 p64 n66 c65 jB, .row 26 1 p70 n72 c71 jC, .row 3 1 p76 n78 c77 jD, .row 3 1 p82 n84 c83 iM, .row 26 1 p88 n90 c89 jE, .row 39 2 p94 n96 c95 jF, .row 9 1 kr kq ks th, .row 3 1 fR kt fS pU, .row 3 1 kw ku kx pV, .any (mapE (fun a : List UInt8 => Value.string (gstr a)) (fun a : Int => Value.int .i64 a) bG m2_115), .blk B8 (.cells #[.int .i64 (0 : Int), .bool false, .slice none 0 0, .slice none 0 0, .slice none 0 0, .slice none 0 0, .slice none 0 0, .slice none 0 0, .int .i64 (0 : Int)] 29 (0, 0))] ++ A) w jB d_61 ∧ Els (Rp.sl (Rp.int .i64)) (bl [.blk kB (.cells #[.int .i64 k2_58, .bool b2_59, .slice p64 n66 c65, .slice p70 n72 c71, .slice p76 n78 c77, .slice p82 n84 c83, .slice p88 n90 c89, .slice p94 n96 c95, .int .i64 k2_60, .map (some bG), .slice kr kq ks, .slice fR kt fS, .slice kw ku kx] 72 (0, 0)), .row 26 1 p64 n66 c65 jB, .row 26 1 p70 n72 c71 jC, .row 3 1 p76 n78 c77 jD, .row 3 1 p82 n84 c83 iM, .row 26 1 p88 n90 c89 jE, .row 39 2 p94 n96 c95 jF, .row 9 1 kr kq ks th, .row 3 1 fR kt fS pU, .row 3 1 kw ku kx pV, .any (mapE (fun a : List UInt8 => Value.string (gstr a)) (fun a : Int => Value.int .i64 a) bG m2_115), .blk B8 (.cells #[.int .i64 (0 : Int), .bool false, .slice none 0 0, .slice none 0 0, .slice none 0 0, .slice none 0 0, .slice none 0 0, .slice none 0 0, .int .i64 (0 : Int)] 29 (0, 0))] ++ A) w jC d_67 ∧ Els (Rp.int .i64) (bl [.blk kB (.cells #[.int .i64 k2_58, .bool b2_59, .slice p64 n66 c65, .slice p70 n72 c71, .slice p76 n78 c77, .slice p82 n84 c83, .slice p88 n90 c89, .slice p94 n96 c95, .int .i64 k2_60, .map (some bG), .slice kr kq ks, .slice fR kt fS, .slice kw ku kx] 72 (0, 0)), .row 26 1 p64 n66 c65 jB, .row 26 1 p70 n72 c71 jC, .row 3 1 p76 n78 c77 jD, .row 3 1 p82 n84 c83 iM, .row 26 1 p88 n90 c89 jE, .row 39 2 p94 n96 c95 jF, .row 9 1 kr kq ks th, .row 3 1 fR kt fS pU, .row 3 1 kw ku kx pV, .any (mapE (fun a : List UInt8 => Value.string (gstr a)) (fun a : Int => Value.int .i64 a) bG m2_115), .blk B8 (.cells #[.int .i64 (0 : Int), .bool false, .slice none 0 0, .slice none 0 0, .slice none 0 0, .slice none 0 0, .slice none 0 0, .slice none 0 0, .int .i64 (0 : Int)] 29 (0, 0))] ++ A) w jD d_73 ∧ Els (Rp.int .i64) (bl [.blk kB (.cells #[.int .i64 k2_58, .bool b2_59, .slice p64 n66 c65, .slice p70 n72 c71, .slice p76 n78 c77, .slice p82 n84 c83, .slice p88 n90 c89, .slice p94 n96 c95, .int .i64 k2_60, .map (some bG), .slice kr kq ks, .slice fR kt fS, .slice kw ku kx] 72 (0, 0)), .row 26 1 p64 n66 c65 jB, .row 26 1 p70 n72 c71 jC, .row 3 1 p76 n78 c77 jD, .row 3 1 p82 n84 c83 iM, .row 26 1 p88 n90 c89 jE, .row 39 2 p94 n96 c95 jF, .row 9 1 kr kq ks th, .row 3 1 fR kt fS pU, .row 3 1 kw ku kx pV, .any (mapE (fun a : List UInt8 => Value.string (gstr a)) (fun a : Int => Value.int .i64 a) bG m2_115), .blk B8 (.cells #[.int .i64 (0 : Int), .bool false, .slice none 0 0, .slice none 0 0, .slice none 0 0, .slice none 0 0, .slice none 0 0, .slice none 0 0, .int .i64 (0 : Int)] 29 (0, 0))] ++ A) w iM d_79 ∧ Els (Rp.sl (Rp.int .i64)) (bl [.blk kB (.cells #[.int .i64 k2_58, .bool b2_59, .slice p64 n66 c65, .slice p70 n72 c71, .slice p76 n78 c77, .slice p82 n84 c83, .slice p88 n90 c89, .slice p94 n96 c95, .int .i64 k2_60, .map (some bG), .slice kr kq ks, .slice fR kt fS, .slice kw ku kx] 72 (0, 0)), .row 26 1 p64 n66 c65 jB, .row 26 1 p70 n72 c71 jC, .row 3 1 p76 n78 c77 jD, .row 3 1 p82 n84 c83 iM, .row 26 1 p88 n90 c89 jE, .row 39 2 p94 n96 c95 jF, .row 9 1 kr kq ks th, .row 3 1 fR kt fS pU, .row 3 1 kw ku kx pV, .any (mapE (fun a : List UInt8 => Value.string (gstr a)) (fun a : Int => Value.int .i64 a) bG m2_115), .blk B8 (.cells #[.int .i64 (0 : Int), .bool false, .slice none 0 0, .slice none 0 0, .slice none 0 0, .slice none 0 0, .slice none 0 0, .slice none 0 0, .int .i64 (0 : Int)] 29 (0, 0))] ++ A) w jE d_85 ∧ Els (rpRule) (bl [.blk kB (.cells #[.int .i64 k2_58, .bool b2_59, .slice p64 n66 c65, .slice p70 n72 c71, .slice p76 n78 c77, .slice p82 n84 c83, .slice p88 n90 c89, .slice p94 n96 c95, .int .i64 k2_60, .map (some bG), .slice kr kq ks, .slice fR kt fS, .slice kw ku kx] 72 (0, 0)), .row 26 1 p64 n66 c65 jB, .row 26 1 p70 n72 c71 jC, .row 3 1 p76 n78 c77 jD, .row 3 1 p82 n84 c83 iM, .row 26 1 p88 n90 c89 jE, .row 39 2 p94 n96 c95 jF, .row 9 1 kr kq ks th, .row 3 1 fR kt fS pU, .row 3 1 kw ku kx pV, .any (mapE (fun a : List UInt8 => Value.string (gstr a)) (fun a : Int => Value.int .i64 a) bG m2_115), .blk B8 (.cells #[.int .i64 (0 : Int), .bool false, .slice none 0 0, .slice none 0 0, .slice none 0 0, .slice none 0 0, .slice none 0 0, .slice none 0 0, .int .i64 (0 : Int)] 29 (0, 0))] ++ A) w jF d_91 ∧ Els (Rp.str) (bl [.blk kB (.cells #[.int .i64 k2_58, .bool b2_59, .slice p64 n66 c65, .slice p70 n72 c71, .slice p76 n78 c77, .slice p82 n84 c83, .slice p88 n90 c89, .slice p94 n96 c95, .int .i64 k2_60, .map (some bG), .slice kr kq ks, .slice fR kt fS, .slice kw ku kx] 72 (0, 0)), .row 26 1 p64 n66 c65 jB, .row 26 1 p70 n72 c71 jC, .row 3 1 p76 n78 c77 jD, .row 3 1 p82 n84 c83 iM, .row 26 1 p88 n90 c89 jE, .row 39 2 p94 n96 c95 jF, .row 9 1 kr kq ks th, .row 3 1 fR kt fS pU, .row 3 1 kw ku kx pV, .any (mapE (fun a : List UInt8 => Value.string (gstr a)) (fun a : Int => Value.int .i64 a) bG m2_115), .blk B8 (.cells #[.int .i64 (0 : Int), .bool false, .slice none 0 0, .slice none 0 0, .slice none 0 0, .slice none 0 0, .slice none 0 0, .slice none 0 0, .int .i64 (0 : Int)] 29 (0, 0))] ++ A) w th d_97 ∧ Els (Rp.int .i64) (bl [.blk kB (.cells #[.int .i64 k2_58, .bool b2_59, .slice p64 n66 c65, .slice p70 n72 c71, .slice p76 n78 c77, .slice p82 n84 c83, .slice p88 n90 c89, .slice p94 n96 c95, .int .i64 k2_60, .map (some bG), .slice kr kq ks, .slice fR kt fS, .slice kw ku kx] 72 (0, 0)), .row 26 1 p64 n66 c65 jB, .row 26 1 p70 n72 c71 jC, .row 3 1 p76 n78 c77 jD, .row 3 1 p82 n84 c83 iM, .row 26 1 p88 n90 c89 jE, .row 39 2 p94 n96 c95 jF, .row 9 1 kr kq ks th, .row 3 1 fR kt fS pU, .row 3 1 kw ku kx pV, .any (mapE (fun a : List UInt8 => Value.string (gstr a)) (fun a : Int => Value.int .i64 a) bG m2_115), .blk B8 (.cells #[.int .i64 (0 : Int), .bool false, .slice none 0 0, .slice none 0 0, .slice none 0 0, .slice none 0 0, .slice none 0 0, .slice none 0 0, .int .i64 (0 : Int)] 29 (0, 0))] ++ A) w pU d_103 ∧ Els (Rp.int .i64) (bl [.blk kB (.cells #[.int .i64 k2_58, .bool b2_59, .slice p64 n66 c65, .slice p70 n72 c71, .slice p76 n78 c77, .slice p82 n84 c83, .slice p88 n90 c89, .slice p94 n96 c95, .int .i64 k2_60, .map (some bG), .slice kr kq ks, .slice fR kt fS, .slice kw ku kx] 72 (0, 0)), .row 26 1 p64 n66 c65 jB, .row 26 1 p70 n72 c71 jC, .row 3 1 p76 n78 c77 jD, .row 3 1 p82 n84 c83 iM, .row 26 1 p88 n90 c89 jE, .row 39 2 p94 n96 c95 jF, .row 9 1 kr kq ks th, .row 3 1 fR kt fS pU, .row 3 1 kw ku kx pV, .any (mapE (fun a : List UInt8 => Value.string (gstr a)) (fun a : Int => Value.int .i64 a) bG m2_115), .blk B8 (.cells #[.int .i64 (0 : Int), .bool false, .slice none 0 0, .slice none 0 0, .slice none 0 0, .slice none 0 0, .slice none 0 0, .slice none 0 0, .int .i64 (0 : Int)] 29 (0, 0))] ++ A) w pV d_109 ∧ Fr (bl []) w0 (bl [.blk kB (.cells #[.int .i64 k2_58, .bool b2_59, .slice p64 n66 c65, .slice p70 n72 c71, .slice p76 n78 c77, .slice p82 n84 c83, .slice p88 n90 c89, .slice p94 n96 c95, .int .i64 k2_60, .map (some bG), .slice kr kq ks, .slice fR kt fS, .slice kw ku kx] 72 (0, 0)), .row 26 1 p64 n66 c65 jB, .row 26 1 p70 n72 c71 jC, .row 3 1 p76 n78 c77 jD, .row 3 1 p82 n84 c83 iM, .row 26 1 p88 n90 c89 jE, .row 39 2 p94 n96 c95 jF, .row 9 1 kr kq ks th, .row 3 1 fR kt fS pU, .row 3 1 kw ku kx pV, .any (mapE (fun a : List UInt8 => Value.string (gstr a)) (fun a : Int => Value.int .i64 a) bG m2_115), .blk B8 (.cells #[.int .i64 (0 : Int), .bool false, .slice none 0 0, .slice none 0 0, .slice none 0 0, .slice none 0 0, .slice none 0 0, .slice none 0 0, .int .i64 (0 : Int)] 29 (0, 0))]) w) H ⟨zY, zZ, z3, zu, zw, zx, zy, yU, yV, yW, yX, yr, z4, z5, z6, zA, zB, zC, zD, yY, zE, zF, zG, yZ, BA, BB, BC, Bm, Bn, Bo, Bp, AD, Bq, Br, Bs, AE, ⟨rfl, rfl, rfl, trivial⟩, hO, gp, fZ, fB, gq, f0, f5, ka, ju, jv, hB⟩ ?_
  intro X2
  refine prE fun budget2_57 => prE fun k2_58 => prE fun b2_59 => prE fun k2_60 => prE fun d_61 => prE fun d_67 => prE fun d_73 => prE fun d_79 => prE fun d_85 => prE fun d_91 => prE fun d_97 => prE fun d_103 => prE fun d_109 => fun m2_115 => ?_
  intro H hX2 σ w56
  refine exE fun n66 => exE fun p64 => exE fun c65 => exE fun jB => exE fun n72 => exE fun p70 => exE fun c71 => exE fun jC => exE fun n78 => exE fun p76 => exE fun c77 => exE fun jD => exE fun n84 => exE fun p82 => exE fun c83 => exE fun iM => exE fun n90 => exE fun p88 => exE fun c89 => exE fun jE => exE fun n96 => exE fun p94 => exE fun c95 => exE fun jF => exE fun kq => exE fun kr => exE fun ks => exE fun th => exE fun kt => exE fun fR => exE fun fS => exE fun pU => exE fun ku => exE fun kw => exE fun kx => exE fun pV => andE fun hag => andE fun hO => andE fun pW => andE fun lk => andE fun kg => andE fun iQ => andE fun gR => andE fun eA => andE fun iN => andE fun gA => andE fun jl => fun hB => ?_
  dsimp only at H
  refine Go1.keep [(1, .int .i64 budget2_57), (4, .pointer (some ⟨B8, 0, none⟩)), (6, .pointer (some ⟨kB, 0, none⟩))] hag ?_
  refine Go1.seq ?_
  refine Go1.seq ?_
  refine Go1.region ?_
  refine GoR.op ((op_move rfl) _) rfl rfl ?_
  by_cases uR : (0 : Int) < budget2_57
  ·replace H := ifp uR H
   refine GoR.op ((fun w => opB (op_gtr rfl rfl w) (decide_eq_true uR)) _) rfl rfl ?_
   refine GoR.op ((op_move rfl) _) rfl rfl ?_
   refine GoR.op ((op_move rfl) _) rfl rfl ?_
   refine GoR.inl (vs := [.pointer (some ⟨kB, 0, none⟩)]) (caps := []) rfl rfl body50 Try.func50 rfl Try.ntmps50 rfl rfl rfl ?_
   intro RhR117 hR117
   refine Go1.seq ?_
   refine Go1.region ?_
   refine GoR.op ((op_assign rfl) _) rfl rfl ?_
   refine GoR.nil ?_
   refine Go1.seq ?_
   refine Go1.drawS 0 [(0, .pure), (1, .pure), (2, .pure), (3, .pure), (4, .stable), (5, .pure), (6, .pure), (7, .pure), (8, .pure), (9, .stable), (10, .pure), (11, .pure), (12, .pure)] mixed (by kernel_rfl) ?_
   intro Aq JT
   have gJ := Stp.same hO JT
   replace pW := pW.ch gJ.ch
   replace lk := lk.ch gJ.ch
   replace kg := kg.ch gJ.ch
   replace iQ := iQ.ch gJ.ch
   replace gR := gR.ch gJ.ch
   replace eA := eA.ch gJ.ch
   replace iN := iN.ch gJ.ch
   replace gA := gA.ch gJ.ch
   replace jl := jl.ch gJ.ch
   replace hO := gJ.own
   replace hB := hB.trans gJ.fr
   refine GoQ.pure rfl (op_move rfl) rfl rfl ?_
   refine GoQ.pure rfl (op_nilCheck rfl) rfl rfl ?_
   refine GoQ.pure rfl (op_fieldAddr Try.underlying72 rfl ti29 rfl (by decide)) rfl rfl ?_
   refine GoQ.pure rfl (op_fieldAddr Try.underlying29 rfl ti3 rfl (by decide)) rfl rfl ?_
   refine GoQ.stable rfl (oblk (i := 8) 0 hO rfl rfl Try.underlying3 rfl rfl) rfl rfl ?_
   refine GoQ.pure rfl (op_move rfl) rfl rfl ?_
   refine GoQ.pure rfl (op_nilCheck rfl) rfl rfl ?_
   refine GoQ.pure rfl (op_fieldAddr Try.underlying72 rfl ti29 rfl (by decide)) rfl rfl ?_
   refine GoQ.pure rfl (op_fieldAddr Try.underlying29 rfl ti22 rfl (by decide)) rfl rfl ?_
   refine GoQ.stable rfl (oblk (i := 3) 0 hO rfl rfl Try.underlying22 rfl rfl) rfl rfl ?_
   refine GoQ.pure rfl (op_lenN Try.underlying22 rfl (lk.neq hO 2 rfl)) rfl rfl ?_
   by_cases CP : k2_60 = (d_67.length : Int)
   ·replace H := ifp CP H
    refine GoQ.pure rfl (fun w => opB (op_eql rfl rfl w) (decide_eq_true CP)) rfl rfl ?_
    refine GoQ.pure rfl (op_assign rfl) rfl rfl ?_
    refine GoQ.nil ?_
    refine Go1.ret1V Try.func50 rfl (show _ = .bool true from rfl) ?_
    refine hR117 _ _ ?_
    refine GoR.op ((op_not rfl) _) rfl rfl ?_
    refine GoR.op ((op_pickT rfl rfl rfl) _) rfl rfl ?_
    refine GoR.nil ?_
    refine Go1.condF rfl rfl ?_
    refine Go1.exit rfl ?_
    refine Go1.seq ?_
    refine Go1.cut [(4, .pointer (some ⟨B8, 0, none⟩)), (6, .pointer (some ⟨kB, 0, none⟩))] ⟨rfl, rfl, trivial⟩ ?_
    intro σ _
    refine Go1.region ?_
    refine GoR.op ((op_move rfl) _) rfl rfl ?_
    refine GoR.op ((op_nilCheck rfl) _) rfl rfl ?_
    refine GoR.op ((op_fieldAddr Try.underlying72 rfl ti29 rfl (by decide)) _) rfl rfl ?_
    refine GoR.op ((oblkAgg (vs := [.int .i64 k2_58, .bool b2_59, .slice p64 n66 c65, .slice p70 n72 c71, .slice p76 n78 c77, .slice p82 n84 c83, .slice p88 n90 c89, .slice p94 n96 c95, .int .i64 k2_60]) (i := 0) 0 hO rfl rfl Try.underlying29 rfl ti29 rfl) _ (Same.refl _)) rfl rfl ?_
    have hobt := oblkStAgg (us := [.int .i64 k2_58, .bool b2_59, .slice p64 n66 c65, .slice p70 n72 c71, .slice p76 n78 c77, .slice p82 n84 c83, .slice p88 n90 c89, .slice p94 n96 c95, .int .i64 k2_60]) (o := 0) (cs' := #[.int .i64 k2_58, .bool b2_59, .slice p64 n66 c65, .slice p70 n72 c71, .slice p76 n78 c77, .slice p82 n84 c83, .slice p88 n90 c89, .slice p94 n96 c95, .int .i64 k2_60]) 11 hO rfl rfl (Nat.le_of_ble_eq_true rfl) rfl
    obtain ⟨Qk, sU, A8⟩ := hobt
    dsimp only [sS, sZ] at sU
    refine GoR.op (A8 ti29 (by exact rfl) (by exact rfl) rfl) rfl rfl ?_
    replace pW := pW.ch sU.ch
    replace lk := lk.ch sU.ch
    replace kg := kg.ch sU.ch
    replace iQ := iQ.ch sU.ch
    replace gR := gR.ch sU.ch
    replace eA := eA.ch sU.ch
    replace iN := iN.ch sU.ch
    replace gA := gA.ch sU.ch
    replace jl := jl.ch sU.ch
    replace hO := sU.own
    replace hB := hB.trans sU.fr
    refine GoR.op ((op_assign rfl) _) rfl rfl ?_
    refine GoR.nil ?_
    have hobt := freeze 1 hO rfl pW
    obtain ⟨hO1, vQ, uC, JU⟩ := hobt
    dsimp only [eS, eZ] at hO1 vQ uC
    replace lk := lk.ch vQ
    replace kg := kg.ch vQ
    replace iQ := iQ.ch vQ
    replace gR := gR.ch vQ
    replace eA := eA.ch vQ
    replace iN := iN.ch vQ
    replace gA := gA.ch vQ
    replace jl := jl.ch vQ
    replace hB := hB.trans (Owns.dropFr _ _ 1)
    dsimp only [eS, eZ] at hB
    replace hO := hO1; clear hO1
    have hobt := freeze 1 hO rfl lk
    obtain ⟨hO1, vR, vl, JV⟩ := hobt
    dsimp only [eS, eZ] at hO1 vR vl
    replace uC := uC.ch vR
    replace kg := kg.ch vR
    replace iQ := iQ.ch vR
    replace gR := gR.ch vR
    replace eA := eA.ch vR
    replace iN := iN.ch vR
    replace gA := gA.ch vR
    replace jl := jl.ch vR
    replace hB := hB.trans (Owns.dropFr _ _ 1)
    dsimp only [eS, eZ] at hB
    replace hO := hO1; clear hO1
    have hobt := freeze 1 hO rfl kg
    obtain ⟨hO1, vS, wG, JW⟩ := hobt
    dsimp only [eS, eZ] at hO1 vS wG
    replace uC := uC.ch vS
    replace vl := vl.ch vS
    replace iQ := iQ.ch vS
    replace gR := gR.ch vS
    replace eA := eA.ch vS
    replace iN := iN.ch vS
    replace gA := gA.ch vS
    replace jl := jl.ch vS
    replace hB := hB.trans (Owns.dropFr _ _ 1)
    dsimp only [eS, eZ] at hB
    replace hO := hO1; clear hO1
    have hobt := freeze 1 hO rfl iQ
    obtain ⟨hO1, vT, yG, JX⟩ := hobt
    dsimp only [eS, eZ] at hO1 vT yG
    replace uC := uC.ch vT
    replace vl := vl.ch vT
    replace wG := wG.ch vT
    replace gR := gR.ch vT
    replace eA := eA.ch vT
    replace iN := iN.ch vT
    replace gA := gA.ch vT
    replace jl := jl.ch vT
    replace hB := hB.trans (Owns.dropFr _ _ 1)
    dsimp only [eS, eZ] at hB
    replace hO := hO1; clear hO1
    have hobt := freeze 1 hO rfl gR
    obtain ⟨hO1, vU, AR, JY⟩ := hobt
    dsimp only [eS, eZ] at hO1 vU AR
    replace uC := uC.ch vU
    replace vl := vl.ch vU
    replace wG := wG.ch vU
    replace yG := yG.ch vU
    replace eA := eA.ch vU
    replace iN := iN.ch vU
    replace gA := gA.ch vU
    replace jl := jl.ch vU
    replace hB := hB.trans (Owns.dropFr _ _ 1)
    dsimp only [eS, eZ] at hB
    replace hO := hO1; clear hO1
    have hobt := freeze 1 hO rfl eA
    obtain ⟨hO1, vV, Ek, JZ⟩ := hobt
    dsimp only [eS, eZ] at hO1 vV Ek
    replace uC := uC.ch vV
    replace vl := vl.ch vV
    replace wG := wG.ch vV
    replace yG := yG.ch vV
    replace AR := AR.ch vV
    replace iN := iN.ch vV
    replace gA := gA.ch vV
    replace jl := jl.ch vV
    replace hB := hB.trans (Owns.dropFr _ _ 1)
    dsimp only [eS, eZ] at hB
    replace hO := hO1; clear hO1
    refine Go1.retC2 Try.func26 rfl rfl (run_loadBlk (vs := [.int .i64 k2_58, .bool b2_59, .slice p64 n66 c65, .slice p70 n72 c71, .slice p76 n78 c77, .slice p82 n84 c83, .slice p88 n90 c89, .slice p94 n96 c95, .int .i64 k2_60]) 5 hO rfl rfl Try.underlying29 rfl ti29) ?_
    exact ⟨(⟨k2_58, b2_59, d_61, d_67, d_73, d_79, d_85, d_91, k2_60⟩ : Enum), (0 : Int), p64, c65, p70, c71, p76, c77, p82, c83, p88, c89, p94, c95, (congrArg (fun l => Value.tuple (List.toArray l)) (cons_eq (congrArg (fun l => Value.agg (List.toArray l)) (cons_eq rfl (cons_eq rfl (cons_eq (congrArg (fun nn => Value.slice p64 nn c65) JU) (cons_eq (congrArg (fun nn => Value.slice p70 nn c71) JV) (cons_eq (congrArg (fun nn => Value.slice p76 nn c77) JW) (cons_eq (congrArg (fun nn => Value.slice p82 nn c83) JX) (cons_eq (congrArg (fun nn => Value.slice p88 nn c89) JY) (cons_eq (congrArg (fun nn => Value.slice p94 nn c95) JZ) (cons_eq rfl rfl)))))))))) (cons_eq rfl rfl))), hB.same, (uC.ch (Ch.weak _ _ _)), (vl.ch (Ch.weak _ _ _)), (wG.ch (Ch.weak _ _ _)), (yG.ch (Ch.weak _ _ _)), (AR.ch (Ch.weak _ _ _)), (Ek.ch (Ch.weak _ _ _)), H⟩
   replace H := ifn CP H
   refine GoQ.pure rfl (fun w => opB (op_eql rfl rfl w) (decide_eq_false CP)) rfl rfl ?_
   refine GoQ.pure rfl (op_assign rfl) rfl rfl ?_
   refine GoQ.nil ?_
   refine Go1.ret1V Try.func50 rfl (show _ = .bool false from rfl) ?_
   refine hR117 _ _ ?_
   refine GoR.op ((op_not rfl) _) rfl rfl ?_
   refine GoR.op ((op_pickT rfl rfl rfl) _) rfl rfl ?_
   refine GoR.nil ?_
   refine Go1.condT rfl rfl ?_
   refine Go1.skip ?_
   refine Go1.seq ?_
   refine Go1.block ?_
   refine Go1.seq ?_
   refine Go1.region ?_
   refine GoR.op ((op_move rfl) _) rfl rfl ?_
   have El : Owns w0.heap.size Aq ([.blk kB (.cells #[.int .i64 k2_58, .bool b2_59, .slice p64 n66 c65, .slice p70 n72 c71, .slice p76 n78 c77, .slice p82 n84 c83, .slice p88 n90 c89, .slice p94 n96 c95, .int .i64 k2_60, .map (some bG), .slice kr kq ks, .slice fR kt fS, .slice kw ku kx] 72 (0, 0)), .row 26 1 p64 n66 c65 jB, .row 26 1 p70 n72 c71 jC, .row 3 1 p76 n78 c77 jD, .row 3 1 p82 n84 c83 iM, .row 26 1 p88 n90 c89 jE, .row 39 2 p94 n96 c95 jF, .row 9 1 kr kq ks th, .row 3 1 fR kt fS pU, .row 3 1 kw ku kx pV, .any (mapE (fun a : List UInt8 => Value.string (gstr a)) (fun a : Int => Value.int .i64 a) bG m2_115)] ++ [.blk B8 (.cells #[.int .i64 (0 : Int), .bool false, .slice none 0 0, .slice none 0 0, .slice none 0 0, .slice none 0 0, .slice none 0 0, .slice none 0 0, .int .i64 (0 : Int)] 29 (0, 0))]) A := hO
   have J0 := Owns.split El
   have hca145 : Ch (bl [.blk kB (.cells #[.int .i64 k2_58, .bool b2_59, .slice p64 n66 c65, .slice p70 n72 c71, .slice p76 n78 c77, .slice p82 n84 c83, .slice p88 n90 c89, .slice p94 n96 c95, .int .i64 k2_60, .map (some bG), .slice kr kq ks, .slice fR kt fS, .slice kw ku kx] 72 (0, 0)), .row 26 1 p64 n66 c65 jB, .row 26 1 p70 n72 c71 jC, .row 3 1 p76 n78 c77 jD, .row 3 1 p82 n84 c83 iM, .row 26 1 p88 n90 c89 jE, .row 39 2 p94 n96 c95 jF, .row 9 1 kr kq ks th, .row 3 1 fR kt fS pU, .row 3 1 kw ku kx pV, .any (mapE (fun a : List UInt8 => Value.string (gstr a)) (fun a : Int => Value.int .i64 a) bG m2_115), .blk B8 (.cells #[.int .i64 (0 : Int), .bool false, .slice none 0 0, .slice none 0 0, .slice none 0 0, .slice none 0 0, .slice none 0 0, .slice none 0 0, .int .i64 (0 : Int)] 29 (0, 0))] ++ A) Aq (bl [.blk kB (.cells #[.int .i64 k2_58, .bool b2_59, .slice p64 n66 c65, .slice p70 n72 c71, .slice p76 n78 c77, .slice p82 n84 c83, .slice p88 n90 c89, .slice p94 n96 c95, .int .i64 k2_60, .map (some bG), .slice kr kq ks, .slice fR kt fS, .slice kw ku kx] 72 (0, 0)), .row 26 1 p64 n66 c65 jB, .row 26 1 p70 n72 c71 jC, .row 3 1 p76 n78 c77 jD, .row 3 1 p82 n84 c83 iM, .row 26 1 p88 n90 c89 jE, .row 39 2 p94 n96 c95 jF, .row 9 1 kr kq ks th, .row 3 1 fR kt fS pU, .row 3 1 kw ku kx pV, .any (mapE (fun a : List UInt8 => Value.string (gstr a)) (fun a : Int => Value.int .i64 a) bG m2_115)] ++ (bl [.blk B8 (.cells #[.int .i64 (0 : Int), .bool false, .slice none 0 0, .slice none 0 0, .slice none 0 0, .slice none 0 0, .slice none 0 0, .slice none 0 0, .int .i64 (0 : Int)] 29 (0, 0))] ++ A)) Aq := Ch.assoc' [.blk kB (.cells #[.int .i64 k2_58, .bool b2_59, .slice p64 n66 c65, .slice p70 n72 c71, .slice p76 n78 c77, .slice p82 n84 c83, .slice p88 n90 c89, .slice p94 n96 c95, .int .i64 k2_60, .map (some bG), .slice kr kq ks, .slice fR kt fS, .slice kw ku kx] 72 (0, 0)), .row 26 1 p64 n66 c65 jB, .row 26 1 p70 n72 c71 jC, .row 3 1 p76 n78 c77 jD, .row 3 1 p82 n84 c83 iM, .row 26 1 p88 n90 c89 jE, .row 39 2 p94 n96 c95 jF, .row 9 1 kr kq ks th, .row 3 1 fR kt fS pU, .row 3 1 kw ku kx pV, .any (mapE (fun a : List UInt8 => Value.string (gstr a)) (fun a : Int => Value.int .i64 a) bG m2_115)] [.blk B8 (.cells #[.int .i64 (0 : Int), .bool false, .slice none 0 0, .slice none 0 0, .slice none 0 0, .slice none 0 0, .slice none 0 0, .slice none 0 0, .int .i64 (0 : Int)] 29 (0, 0))] A Aq
   refine GoR.call (op_call body51 rfl (walk_enumerate_run_process (a0 := (⟨(⟨k2_58, b2_59, d_61, d_67, d_73, d_79, d_85, d_91, k2_60⟩ : Enum), m2_115, d_97, d_103, d_109⟩ : run)) J0 (pW.ch hca145) (lk.ch hca145) (kg.ch hca145) (iQ.ch hca145) (gR.ch hca145) (eA.ch hca145) (iN.ch hca145) (gA.ch hca145) (jl.ch hca145) H)) rfl rfl ?_
   intro LZ CQ
   refine exE fun r146 => exE fun q147 => exE fun jm => exE fun jo => exE fun jp => exE fun oV => exE fun iw => exE fun iA => exE fun iB => exE fun ob => exE fun gN => exE fun gO => exE fun gP => exE fun m8 => exE fun jq => exE fun jr => exE fun js => exE fun oW => exE fun iC => exE fun iD => exE fun iE => exE fun oc => exE fun iF => exE fun iG => exE fun iH => exE fun od => exE fun my => exE fun mz => exE fun mA => exE fun sV => exE fun lb => exE fun ld => exE fun lg => exE fun ri => exE fun lh => exE fun li => exE fun lj => exE fun rk => andE fun hv153 => andE fun hN150 => andE fun oX => andE fun oe => andE fun m9 => andE fun oY => andE fun og => andE fun oh => andE fun sW => andE fun rm => andE fun ro => andE fun hF151 => fun H => ?_
   subst hv153
   have mU : Stp w0.heap.size A Aq [.blk kB (.cells #[.int .i64 k2_58, .bool b2_59, .slice p64 n66 c65, .slice p70 n72 c71, .slice p76 n78 c77, .slice p82 n84 c83, .slice p88 n90 c89, .slice p94 n96 c95, .int .i64 k2_60, .map (some bG), .slice kr kq ks, .slice fR kt fS, .slice kw ku kx] 72 (0, 0)), .row 26 1 p64 n66 c65 jB, .row 26 1 p70 n72 c71 jC, .row 3 1 p76 n78 c77 jD, .row 3 1 p82 n84 c83 iM, .row 26 1 p88 n90 c89 jE, .row 39 2 p94 n96 c95 jF, .row 9 1 kr kq ks th, .row 3 1 fR kt fS pU, .row 3 1 kw ku kx pV, .any (mapE (fun a : List UInt8 => Value.string (gstr a)) (fun a : Int => Value.int .i64 a) bG m2_115), .blk B8 (.cells #[.int .i64 (0 : Int), .bool false, .slice none 0 0, .slice none 0 0, .slice none 0 0, .slice none 0 0, .slice none 0 0, .slice none 0 0, .int .i64 (0 : Int)] 29 (0, 0))] CQ [.blk kB (.cells #[.int .i64 q147.Enum.Points, .bool q147.Enum.Monoid, .slice jo jm jp, .slice iA iw iB, .slice gO gN gP, .slice jr jq js, .slice iD iC iE, .slice iG iF iH, .int .i64 q147.Enum.Done, .map (some bG), .slice mz my mA, .slice ld lb lg, .slice li lh lj] 72 (0, 0)), .row 26 1 jo jm jp oV, .row 26 1 iA iw iB ob, .row 3 1 gO gN gP m8, .row 3 1 jr jq js oW, .row 26 1 iD iC iE oc, .row 39 2 iG iF iH od, .row 9 1 mz my mA sV, .row 3 1 ld lb lg ri, .row 3 1 li lh lj rk, .any (mapE (fun a : List UInt8 => Value.string (gstr a)) (fun a : Int => Value.int .i64 a) bG q147.number), .blk B8 (.cells #[.int .i64 (0 : Int), .bool false, .slice none 0 0, .slice none 0 0, .slice none 0 0, .slice none 0 0, .slice none 0 0, .slice none 0 0, .int .i64 (0 : Int)] 29 (0, 0))] := Stp.join El hN150 hF151
   replace hO := mU.own
   replace hB := hB.trans mU.fr
   have hca154 : Ch (bl [.blk kB (.cells #[.int .i64 q147.Enum.Points, .bool q147.Enum.Monoid, .slice jo jm jp, .slice iA iw iB, .slice gO gN gP, .slice jr jq js, .slice iD iC iE, .slice iG iF iH, .int .i64 q147.Enum.Done, .map (some bG), .slice mz my mA, .slice ld lb lg, .slice li lh lj] 72 (0, 0)), .row 26 1 jo jm jp oV, .row 26 1 iA iw iB ob, .row 3 1 gO gN gP m8, .row 3 1 jr jq js oW, .row 26 1 iD iC iE oc, .row 39 2 iG iF iH od, .row 9 1 mz my mA sV, .row 3 1 ld lb lg ri, .row 3 1 li lh lj rk, .any (mapE (fun a : List UInt8 => Value.string (gstr a)) (fun a : Int => Value.int .i64 a) bG q147.number)] ++ (bl [.blk B8 (.cells #[.int .i64 (0 : Int), .bool false, .slice none 0 0, .slice none 0 0, .slice none 0 0, .slice none 0 0, .slice none 0 0, .slice none 0 0, .int .i64 (0 : Int)] 29 (0, 0))] ++ A)) CQ (bl [.blk kB (.cells #[.int .i64 q147.Enum.Points, .bool q147.Enum.Monoid, .slice jo jm jp, .slice iA iw iB, .slice gO gN gP, .slice jr jq js, .slice iD iC iE, .slice iG iF iH, .int .i64 q147.Enum.Done, .map (some bG), .slice mz my mA, .slice ld lb lg, .slice li lh lj] 72 (0, 0)), .row 26 1 jo jm jp oV, .row 26 1 iA iw iB ob, .row 3 1 gO gN gP m8, .row 3 1 jr jq js oW, .row 26 1 iD iC iE oc, .row 39 2 iG iF iH od, .row 9 1 mz my mA sV, .row 3 1 ld lb lg ri, .row 3 1 li lh lj rk, .any (mapE (fun a : List UInt8 => Value.string (gstr a)) (fun a : Int => Value.int .i64 a) bG q147.number), .blk B8 (.cells #[.int .i64 (0 : Int), .bool false, .slice none 0 0, .slice none 0 0, .slice none 0 0, .slice none 0 0, .slice none 0 0, .slice none 0 0, .int .i64 (0 : Int)] 29 (0, 0))] ++ A) CQ := Ch.assoc [.blk kB (.cells #[.int .i64 q147.Enum.Points, .bool q147.Enum.Monoid, .slice jo jm jp, .slice iA iw iB, .slice gO gN gP, .slice jr jq js, .slice iD iC iE, .slice iG iF iH, .int .i64 q147.Enum.Done, .map (some bG), .slice mz my mA, .slice ld lb lg, .slice li lh lj] 72 (0, 0)), .row 26 1 jo jm jp oV, .row 26 1 iA iw iB ob, .row 3 1 gO gN gP m8, .row 3 1 jr jq js oW, .row 26 1 iD iC iE oc, .row 39 2 iG iF iH od, .row 9 1 mz my mA sV, .row 3 1 ld lb lg ri, .row 3 1 li lh lj rk, .any (mapE (fun a : List UInt8 => Value.string (gstr a)) (fun a : Int => Value.int .i64 a) bG q147.number)] [.blk B8 (.cells #[.int .i64 (0 : Int), .bool false, .slice none 0 0, .slice none 0 0, .slice none 0 0, .slice none 0 0, .slice none 0 0, .slice none 0 0, .int .i64 (0 : Int)] 29 (0, 0))] A CQ
   replace oX := oX.ch hca154
   replace oe := oe.ch hca154
   replace m9 := m9.ch hca154
   replace oY := oY.ch hca154
   replace og := og.ch hca154
   replace oh := oh.ch hca154
   replace sW := sW.ch hca154
   replace rm := rm.ch hca154
   replace ro := ro.ch hca154
   refine GoR.op ((op_assign rfl) _) rfl rfl ?_
   refine GoR.nil ?_
   refine Go1.seq ?_
   refine Go1.region ?_
   refine GoR.op ((op_move rfl) _) rfl rfl ?_
   by_cases vC : r146 = (0 : Int)
   ·replace H := ifp vC H
    refine GoR.op ((fun w => opB (op_neq rfl rfl w) (ndT vC)) _) rfl rfl ?_
    refine GoR.nil ?_
    refine Go1.condF rfl rfl ?_
    refine Go1.skip ?_
    refine Go1.inBlock ?_
    refine Go1.region ?_
    refine GoR.op ((op_move rfl) _) rfl rfl ?_
    obtain ⟨xI, H⟩ := H
    refine GoR.op ((op_sub rfl rfl (wrap_i64 xI)) _) rfl rfl ?_
    refine GoR.op ((op_assign rfl) _) rfl rfl ?_
    refine GoR.nil ?_
    exact hX2 _ H _ _ ⟨jm, jo, jp, oV, iw, iA, iB, ob, gN, gO, gP, m8, jq, jr, js, oW, iC, iD, iE, oc, iF, iG, iH, od, my, mz, mA, sV, lb, ld, lg, ri, lh, li, lj, rk, ⟨rfl, rfl, rfl, trivial⟩, hO, oX, oe, m9, oY, og, oh, sW, rm, ro, hB⟩
   replace H := ifn vC H
   refine GoR.op ((fun w => opB (op_neq rfl rfl w) (ndF vC)) _) rfl rfl ?_
   refine GoR.nil ?_
   refine Go1.condT rfl rfl ?_
   refine Go1.seq ?_
   refine Go1.region ?_
   refine GoR.op ((op_build Try.underlying29 ti29 (pl := [(0, 1), (1, 1), (2, 1), (3, 1), (4, 1), (5, 1), (6, 1), (7, 1), (8, 1)]) (vs := []) (cs := #[.int .i64 (0 : Int), .bool false, .slice none 0 0, .slice none 0 0, .slice none 0 0, .slice none 0 0, .slice none 0 0, .slice none 0 0, .int .i64 (0 : Int)]) (by kernel_rfl) rfl (by kernel_rfl)) _) rfl rfl ?_
   refine GoR.op ((op_move rfl) _) rfl rfl ?_
   have hobt := oblkStAgg (us := [.int .i64 (0 : Int), .bool false, .slice none 0 0, .slice none 0 0, .slice none 0 0, .slice none 0 0, .slice none 0 0, .slice none 0 0, .int .i64 (0 : Int)]) (o := 0) (cs' := #[.int .i64 (0 : Int), .bool false, .slice none 0 0, .slice none 0 0, .slice none 0 0, .slice none 0 0, .slice none 0 0, .slice none 0 0, .int .i64 (0 : Int)]) 11 hO rfl rfl (Nat.le_of_ble_eq_true rfl) rfl
   obtain ⟨Lk, sX, Gw⟩ := hobt
   dsimp only [sS, sZ] at sX
   refine GoR.op (Gw ti29 (by exact rfl) (by exact rfl) rfl) rfl rfl ?_
   replace oX := oX.ch sX.ch
   replace oe := oe.ch sX.ch
   replace m9 := m9.ch sX.ch
   replace oY := oY.ch sX.ch
   replace og := og.ch sX.ch
   replace oh := oh.ch sX.ch
   replace sW := sW.ch sX.ch
   replace rm := rm.ch sX.ch
   replace ro := ro.ch sX.ch
   replace hO := sX.own
   replace hB := hB.trans sX.fr
   refine GoR.op ((op_assign rfl) _) rfl rfl ?_
   refine GoR.nil ?_
   refine Go1.retC2 Try.func26 rfl rfl (run_loadBlk (vs := [.int .i64 (0 : Int), .bool false, .slice none 0 0, .slice none 0 0, .slice none 0 0, .slice none 0 0, .slice none 0 0, .slice none 0 0, .int .i64 (0 : Int)]) 11 hO rfl rfl Try.underlying29 rfl ti29) ?_
   exact ⟨(⟨(0 : Int), false, ([] : List (List Int)), ([] : List (List Int)), ([] : List Int), ([] : List Int), ([] : List (List Int)), ([] : List Rule), (0 : Int)⟩ : Enum), r146, none, 0, none, 0, none, 0, none, 0, none, 0, none, 0, rfl, hB.same, (ISl.null _ _ _), (ISl.null _ _ _), (ISl.null _ _ _), (ISl.null _ _ _), (ISl.null _ _ _), (ISl.null _ _ _), H⟩
  replace H := ifn uR H
  refine GoR.op ((fun w => opB (op_gtr rfl rfl w) (decide_eq_false uR)) _) rfl rfl ?_
  refine GoR.op ((op_move rfl) _) rfl rfl ?_
  refine GoR.pass rfl rfl ?_
  refine GoR.pass rfl rfl ?_
  refine GoR.pass rfl rfl ?_
  refine GoR.op ((op_pickF rfl rfl rfl) _) rfl rfl ?_
  refine GoR.nil ?_
  refine Go1.condF rfl rfl ?_
  refine Go1.exit rfl ?_
  refine Go1.seq ?_
  refine Go1.cut [(4, .pointer (some ⟨B8, 0, none⟩)), (6, .pointer (some ⟨kB, 0, none⟩))] ⟨rfl, rfl, trivial⟩ ?_
  intro σ _
  refine Go1.region ?_
  refine GoR.op ((op_move rfl) _) rfl rfl ?_
  refine GoR.op ((op_nilCheck rfl) _) rfl rfl ?_
  refine GoR.op ((op_fieldAddr Try.underlying72 rfl ti29 rfl (by decide)) _) rfl rfl ?_
  refine GoR.op ((oblkAgg (vs := [.int .i64 k2_58, .bool b2_59, .slice p64 n66 c65, .slice p70 n72 c71, .slice p76 n78 c77, .slice p82 n84 c83, .slice p88 n90 c89, .slice p94 n96 c95, .int .i64 k2_60]) (i := 0) 0 hO rfl rfl Try.underlying29 rfl ti29 rfl) _ (Same.refl _)) rfl rfl ?_
  have hobt := oblkStAgg (us := [.int .i64 k2_58, .bool b2_59, .slice p64 n66 c65, .slice p70 n72 c71, .slice p76 n78 c77, .slice p82 n84 c83, .slice p88 n90 c89, .slice p94 n96 c95, .int .i64 k2_60]) (o := 0) (cs' := #[.int .i64 k2_58, .bool b2_59, .slice p64 n66 c65, .slice p70 n72 c71, .slice p76 n78 c77, .slice p82 n84 c83, .slice p88 n90 c89, .slice p94 n96 c95, .int .i64 k2_60]) 11 hO rfl rfl (Nat.le_of_ble_eq_true rfl) rfl
  obtain ⟨LH, sY, Gx⟩ := hobt
  dsimp only [sS, sZ] at sY
  refine GoR.op (Gx ti29 (by exact rfl) (by exact rfl) rfl) rfl rfl ?_
  replace pW := pW.ch sY.ch
  replace lk := lk.ch sY.ch
  replace kg := kg.ch sY.ch
  replace iQ := iQ.ch sY.ch
  replace gR := gR.ch sY.ch
  replace eA := eA.ch sY.ch
  replace iN := iN.ch sY.ch
  replace gA := gA.ch sY.ch
  replace jl := jl.ch sY.ch
  replace hO := sY.own
  replace hB := hB.trans sY.fr
  refine GoR.op ((op_assign rfl) _) rfl rfl ?_
  refine GoR.nil ?_
  have hobt := freeze 1 hO rfl pW
  obtain ⟨hO1, vW, uD, J1⟩ := hobt
  dsimp only [eS, eZ] at hO1 vW uD
  replace lk := lk.ch vW
  replace kg := kg.ch vW
  replace iQ := iQ.ch vW
  replace gR := gR.ch vW
  replace eA := eA.ch vW
  replace iN := iN.ch vW
  replace gA := gA.ch vW
  replace jl := jl.ch vW
  replace hB := hB.trans (Owns.dropFr _ _ 1)
  dsimp only [eS, eZ] at hB
  replace hO := hO1; clear hO1
  have hobt := freeze 1 hO rfl lk
  obtain ⟨hO1, vX, jH, J2⟩ := hobt
  dsimp only [eS, eZ] at hO1 vX jH
  replace uD := uD.ch vX
  replace kg := kg.ch vX
  replace iQ := iQ.ch vX
  replace gR := gR.ch vX
  replace eA := eA.ch vX
  replace iN := iN.ch vX
  replace gA := gA.ch vX
  replace jl := jl.ch vX
  replace hB := hB.trans (Owns.dropFr _ _ 1)
  dsimp only [eS, eZ] at hB
  replace hO := hO1; clear hO1
  have hobt := freeze 1 hO rfl kg
  obtain ⟨hO1, vY, wH, J3⟩ := hobt
  dsimp only [eS, eZ] at hO1 vY wH
  replace uD := uD.ch vY
  replace jH := jH.ch vY
  replace iQ := iQ.ch vY
  replace gR := gR.ch vY
  replace eA := eA.ch vY
  replace iN := iN.ch vY
  replace gA := gA.ch vY
  replace jl := jl.ch vY
  replace hB := hB.trans (Owns.dropFr _ _ 1)
  dsimp only [eS, eZ] at hB
  replace hO := hO1; clear hO1
  have hobt := freeze 1 hO rfl iQ
  obtain ⟨hO1, vZ, yH, J4⟩ := hobt
  dsimp only [eS, eZ] at hO1 vZ yH
  replace uD := uD.ch vZ
  replace jH := jH.ch vZ
  replace wH := wH.ch vZ
  replace gR := gR.ch vZ
  replace eA := eA.ch vZ
  replace iN := iN.ch vZ
  replace gA := gA.ch vZ
  replace jl := jl.ch vZ
  replace hB := hB.trans (Owns.dropFr _ _ 1)
  dsimp only [eS, eZ] at hB
  replace hO := hO1; clear hO1
  have hobt := freeze 1 hO rfl gR
  obtain ⟨hO1, v3, AT, J5⟩ := hobt
  dsimp only [eS, eZ] at hO1 v3 AT
  replace uD := uD.ch v3
  replace jH := jH.ch v3
  replace wH := wH.ch v3
  replace yH := yH.ch v3
  replace eA := eA.ch v3
  replace iN := iN.ch v3
  replace gA := gA.ch v3
  replace jl := jl.ch v3
  replace hB := hB.trans (Owns.dropFr _ _ 1)
  dsimp only [eS, eZ] at hB
  replace hO := hO1; clear hO1
  have hobt := freeze 1 hO rfl eA
  obtain ⟨hO1, v4, Em, J6⟩ := hobt
  dsimp only [eS, eZ] at hO1 v4 Em
  replace uD := uD.ch v4
  replace jH := jH.ch v4
  replace wH := wH.ch v4
  replace yH := yH.ch v4
  replace AT := AT.ch v4
  replace iN := iN.ch v4
  replace gA := gA.ch v4
  replace jl := jl.ch v4
  replace hB := hB.trans (Owns.dropFr _ _ 1)
  dsimp only [eS, eZ] at hB
  replace hO := hO1; clear hO1
  refine Go1.retC2 Try.func26 rfl rfl (run_loadBlk (vs := [.int .i64 k2_58, .bool b2_59, .slice p64 n66 c65, .slice p70 n72 c71, .slice p76 n78 c77, .slice p82 n84 c83, .slice p88 n90 c89, .slice p94 n96 c95, .int .i64 k2_60]) 5 hO rfl rfl Try.underlying29 rfl ti29) ?_
  exact ⟨(⟨k2_58, b2_59, d_61, d_67, d_73, d_79, d_85, d_91, k2_60⟩ : Enum), (0 : Int), p64, c65, p70, c71, p76, c77, p82, c83, p88, c89, p94, c95, (congrArg (fun l => Value.tuple (List.toArray l)) (cons_eq (congrArg (fun l => Value.agg (List.toArray l)) (cons_eq rfl (cons_eq rfl (cons_eq (congrArg (fun nn => Value.slice p64 nn c65) J1) (cons_eq (congrArg (fun nn => Value.slice p70 nn c71) J2) (cons_eq (congrArg (fun nn => Value.slice p76 nn c77) J3) (cons_eq (congrArg (fun nn => Value.slice p82 nn c83) J4) (cons_eq (congrArg (fun nn => Value.slice p88 nn c89) J5) (cons_eq (congrArg (fun nn => Value.slice p94 nn c95) J6) (cons_eq rfl rfl)))))))))) (cons_eq rfl rfl))), hB.same, (uD.ch (Ch.weak _ _ _)), (jH.ch (Ch.weak _ _ _)), (wH.ch (Ch.weak _ _ _)), (yH.ch (Ch.weak _ _ _)), (AT.ch (Ch.weak _ _ _)), (Em.ch (Ch.weak _ _ _)), H⟩
theorem walk_law12_EnumerateResumes {A : List Nat} {w0 : World} {u0 : Option Addr} {u3 : Nat} {a0 : List (List Int)} {a1 : Bool} {a2 : Int} {a3 : Int} (hA : ∀ b ∈ A, b < w0.heap.size) (bk : ISl (Rp.sl (Rp.int .i64)) A w0 u0 u3 a0) {K : Bool → Prop} (H : law12_EnumerateResumes a0 a1 a2 a3 K) :
    CallsV Try.prog 6 #[.slice u0 a0.length u3, .bool a1, .int .u8 a2, .int .u8 a3] w0 (fun v w' => ∃ (r0 : Bool), v = .bool r0 ∧ Same w0 w' ∧ K r0) := by
 refine CallsV.of (l := [.slice u0 a0.length u3, .bool a1, .int .u8 a2, .int .u8 a3]) Try.func6 rfl Try.ntmps6 rfl ?_
 have hO := Owns.start hA
 have hB := Fr.refl (bl []) w0
 unfold law12_EnumerateResumes at H
 replace bk := bk.ch (Ch.start A w0)
 refine Go1.seq ?_
 refine Go1.region ?_
 refine GoR.op ((op_assign rfl) _) rfl rfl ?_
 refine GoR.nil ?_
 refine Go1.seq ?_
 refine Go1.seq ?_
 refine Go1.region ?_
 refine GoR.op ((op_move rfl) _) rfl rfl ?_
 refine GoR.call (op_call body15 rfl (walk_law12_little hO.lt bk H)) rfl rfl ?_
 rintro v5 w2 ⟨r1, rfl, hs3, H⟩
 have wI := Stp.same hO hs3
 replace hO := wI.own
 replace bk := bk.ch wI.ch
 replace hB := hB.trans wI.fr
 cases r1
 ·replace H := ifn Bool.false_ne_true H
  refine GoR.op ((op_not rfl) _) rfl rfl ?_
  refine GoR.nil ?_
  refine Go1.condT rfl rfl ?_
  refine Go1.seq ?_
  refine Go1.region ?_
  refine GoR.call (op_call body16 rfl (walk_law12_awake hO.lt H)) rfl rfl ?_
  rintro v11 w8 ⟨r7, rfl, hs9, H⟩
  have CR := Stp.same hO hs9
  replace hO := CR.own
  replace bk := bk.ch CR.ch
  replace hB := hB.trans CR.fr
  refine GoR.op ((op_assign rfl) _) rfl rfl ?_
  refine GoR.nil ?_
  refine Go1.ret1 Try.func6 rfl ?_
  exact ⟨r7, rfl, hB.same, H⟩
 replace H := ifp rfl H
 refine GoR.op ((op_not rfl) _) rfl rfl ?_
 refine GoR.nil ?_
 refine Go1.condF rfl rfl ?_
 refine Go1.skip ?_
 refine Go1.seq ?_
 refine Go1.region ?_
 refine GoR.op ((op_move rfl) _) rfl rfl ?_
 refine GoR.op ((op_and rfl rfl) _) rfl rfl ?_
 refine GoR.op ((op_conv Try.underlying5 Try.underlying3 rfl rfl) _) rfl rfl ?_
 refine GoR.op ((op_move rfl) _) rfl rfl ?_
 refine GoR.op ((op_and rfl rfl) _) rfl rfl ?_
 refine GoR.op ((op_conv Try.underlying5 Try.underlying3 rfl rfl) _) rfl rfl ?_
 refine GoR.op ((op_assign rfl) _) rfl rfl ?_
 refine GoR.op ((op_assign rfl) _) rfl rfl ?_
 refine GoR.nil ?_
 refine Go1.seq ?_
 refine Go1.region ?_
 refine GoR.op ((op_move rfl) _) rfl rfl ?_
 refine GoR.op ((op_move rfl) _) rfl rfl ?_
 refine GoR.call (op_call body25 rfl (walk_enumerate_Start hO.lt bk H)) rfl rfl ?_
 rintro v18 w15 ⟨r13, r14, qr, qs, o9, pc, ol, om, qt, qu, pe, pg, ph, pi, rfl, L1, cM, ce, bU, cN, cf, cg, H⟩
 have CT := Stp.same hO L1
 replace hO := CT.own
 replace bk := bk.ch CT.ch
 replace hB := hB.trans CT.fr
 refine GoR.op ((op_move rfl) _) rfl rfl ?_
 refine GoR.op ((op_extract rfl rfl) _) rfl rfl ?_
 refine GoR.op ((op_extract rfl rfl) _) rfl rfl ?_
 have hobt := oalloc (t := 29) (cs := #[.int .i64 (0 : Int), .bool false, .slice none 0 0, .slice none 0 0, .slice none 0 0, .slice none 0 0, .slice none 0 0, .slice none 0 0, .int .i64 (0 : Int)]) ti29 hO rfl
 obtain ⟨w20, B21, gw, Ql, zM⟩ := hobt
 refine GoR.op zM rfl rfl ?_
 replace hO := gw.own
 replace bk := bk.ch gw.ch
 replace cM := cM.ch gw.ch
 replace ce := ce.ch gw.ch
 replace bU := bU.ch gw.ch
 replace cN := cN.ch gw.ch
 replace cf := cf.ch gw.ch
 replace cg := cg.ch gw.ch
 replace hB := hB.trans gw.fr
 have hobt := oblkStAgg (us := [.int .i64 r13.Points, .bool r13.Monoid, .slice qr r13.Gens.length qs, .slice o9 r13.Elems.length pc, .slice ol r13.Prefix.length om, .slice qt r13.Last.length qu, .slice pe r13.Right.length pg, .slice ph r13.Rules.length pi, .int .i64 r13.Done]) (o := 0) (cs' := #[.int .i64 r13.Points, .bool r13.Monoid, .slice qr r13.Gens.length qs, .slice o9 r13.Elems.length pc, .slice ol r13.Prefix.length om, .slice qt r13.Last.length qu, .slice pe r13.Right.length pg, .slice ph r13.Rules.length pi, .int .i64 r13.Done]) 0 hO rfl rfl (Nat.le_of_ble_eq_true rfl) rfl
 obtain ⟨w26, pS, CO⟩ := hobt
 refine GoR.op (CO ti29 (by exact rfl) (by exact rfl) rfl) rfl rfl ?_
 replace hO := pS.own
 replace bk := bk.ch pS.ch
 replace cM := cM.ch pS.ch
 replace ce := ce.ch pS.ch
 replace bU := bU.ch pS.ch
 replace cN := cN.ch pS.ch
 replace cf := cf.ch pS.ch
 replace cg := cg.ch pS.ch
 replace hB := hB.trans pS.fr
 refine GoR.op ((op_assign rfl) _) rfl rfl ?_
 refine GoR.nil ?_
 refine Go1.seq ?_
 refine Go1.cut [(9, .int .i64 (IntKind.i64.wrap (bits .and .u8 a2 (31 : Int)))), (10, .int .i64 (IntKind.i64.wrap (bits .and .u8 a3 (31 : Int)))), (11, .pointer (some ⟨B21, 0, none⟩)), (12, .int .i64 r14)] ⟨rfl, rfl, rfl, rfl, trivial⟩ ?_
 intro σ _
 refine Go1.region ?_
 refine GoR.op ((oblkAgg (vs := [.int .i64 r13.Points, .bool r13.Monoid, .slice qr r13.Gens.length qs, .slice o9 r13.Elems.length pc, .slice ol r13.Prefix.length om, .slice qt r13.Last.length qu, .slice pe r13.Right.length pg, .slice ph r13.Rules.length pi, .int .i64 r13.Done]) (i := 0) 0 hO rfl rfl Try.underlying29 rfl ti29 rfl) _ (Same.refl _)) rfl rfl ?_
 refine GoR.op ((op_move rfl) _) rfl rfl ?_
 refine GoR.call (op_call body26 rfl (walk_enumerate_Step (e := r13) hO.lt cM ce bU cN cf cg H)) rfl rfl ?_
 rintro v34 w31 ⟨r29, r30, f8, f9, fk, fm, eF, eG, gc, gf, fo, fq, ft, fu, rfl, L5, b9, bP, bC, ca, bQ, bS, H⟩
 have kA := Stp.same hO L5
 replace hO := kA.own
 replace bk := bk.ch kA.ch
 replace cM := cM.ch kA.ch
 replace ce := ce.ch kA.ch
 replace bU := bU.ch kA.ch
 replace cN := cN.ch kA.ch
 replace cf := cf.ch kA.ch
 replace cg := cg.ch kA.ch
 replace hB := hB.trans kA.fr
 refine GoR.op ((op_move rfl) _) rfl rfl ?_
 refine GoR.op ((op_extract rfl rfl) _) rfl rfl ?_
 refine GoR.op ((op_extract rfl rfl) _) rfl rfl ?_
 have hobt := oalloc (t := 29) (cs := #[.int .i64 (0 : Int), .bool false, .slice none 0 0, .slice none 0 0, .slice none 0 0, .slice none 0 0, .slice none 0 0, .slice none 0 0, .int .i64 (0 : Int)]) ti29 hO rfl
 obtain ⟨w36, B37, ou, Qm, Ca⟩ := hobt
 refine GoR.op Ca rfl rfl ?_
 replace hO := ou.own
 replace bk := bk.ch ou.ch
 replace cM := cM.ch ou.ch
 replace ce := ce.ch ou.ch
 replace bU := bU.ch ou.ch
 replace cN := cN.ch ou.ch
 replace cf := cf.ch ou.ch
 replace cg := cg.ch ou.ch
 replace b9 := b9.ch ou.ch
 replace bP := bP.ch ou.ch
 replace bC := bC.ch ou.ch
 replace ca := ca.ch ou.ch
 replace bQ := bQ.ch ou.ch
 replace bS := bS.ch ou.ch
 replace hB := hB.trans ou.fr
 have hobt := oblkStAgg (us := [.int .i64 r29.Points, .bool r29.Monoid, .slice f8 r29.Gens.length f9, .slice fk r29.Elems.length fm, .slice eF r29.Prefix.length eG, .slice gc r29.Last.length gf, .slice fo r29.Right.length fq, .slice ft r29.Rules.length fu, .int .i64 r29.Done]) (o := 0) (cs' := #[.int .i64 r29.Points, .bool r29.Monoid, .slice f8 r29.Gens.length f9, .slice fk r29.Elems.length fm, .slice eF r29.Prefix.length eG, .slice gc r29.Last.length gf, .slice fo r29.Right.length fq, .slice ft r29.Rules.length fu, .int .i64 r29.Done]) 0 hO rfl rfl (Nat.le_of_ble_eq_true rfl) rfl
 obtain ⟨w42, rZ, J7⟩ := hobt
 refine GoR.op (J7 ti29 (by exact rfl) (by exact rfl) rfl) rfl rfl ?_
 replace hO := rZ.own
 replace bk := bk.ch rZ.ch
 replace cM := cM.ch rZ.ch
 replace ce := ce.ch rZ.ch
 replace bU := bU.ch rZ.ch
 replace cN := cN.ch rZ.ch
 replace cf := cf.ch rZ.ch
 replace cg := cg.ch rZ.ch
 replace b9 := b9.ch rZ.ch
 replace bP := bP.ch rZ.ch
 replace bC := bC.ch rZ.ch
 replace ca := ca.ch rZ.ch
 replace bQ := bQ.ch rZ.ch
 replace bS := bS.ch rZ.ch
 replace hB := hB.trans rZ.fr
 refine GoR.op ((op_assign rfl) _) rfl rfl ?_
 refine GoR.nil ?_
 refine Go1.seq ?_
 refine Go1.region ?_
 refine GoR.op ((oblkAgg (vs := [.int .i64 r29.Points, .bool r29.Monoid, .slice f8 r29.Gens.length f9, .slice fk r29.Elems.length fm, .slice eF r29.Prefix.length eG, .slice gc r29.Last.length gf, .slice fo r29.Right.length fq, .slice ft r29.Rules.length fu, .int .i64 r29.Done]) (i := 0) 0 hO rfl rfl Try.underlying29 rfl ti29 rfl) _ (Same.refl _)) rfl rfl ?_
 refine GoR.op ((op_move rfl) _) rfl rfl ?_
 refine GoR.call (op_call body26 rfl (walk_enumerate_Step (e := r29) hO.lt b9 bP bC ca bQ bS H)) rfl rfl ?_
 rintro v50 w47 ⟨r45, r46, xV, xW, w4, xa, wj, wk, xX, xY, xb, xc, xd, xe, rfl, C3, er, dZ, dP, et, d4, d5, H⟩
 have nh := Stp.same hO C3
 replace hO := nh.own
 replace bk := bk.ch nh.ch
 replace cM := cM.ch nh.ch
 replace ce := ce.ch nh.ch
 replace bU := bU.ch nh.ch
 replace cN := cN.ch nh.ch
 replace cf := cf.ch nh.ch
 replace cg := cg.ch nh.ch
 replace b9 := b9.ch nh.ch
 replace bP := bP.ch nh.ch
 replace bC := bC.ch nh.ch
 replace ca := ca.ch nh.ch
 replace bQ := bQ.ch nh.ch
 replace bS := bS.ch nh.ch
 replace hB := hB.trans nh.fr
 refine GoR.op ((op_move rfl) _) rfl rfl ?_
 refine GoR.op ((op_extract rfl rfl) _) rfl rfl ?_
 refine GoR.op ((op_extract rfl rfl) _) rfl rfl ?_
 have hobt := oalloc (t := 29) (cs := #[.int .i64 (0 : Int), .bool false, .slice none 0 0, .slice none 0 0, .slice none 0 0, .slice none 0 0, .slice none 0 0, .slice none 0 0, .int .i64 (0 : Int)]) ti29 hO rfl
 obtain ⟨w52, B53, eH, Qn, J8⟩ := hobt
 refine GoR.op J8 rfl rfl ?_
 replace hO := eH.own
 replace bk := bk.ch eH.ch
 replace cM := cM.ch eH.ch
 replace ce := ce.ch eH.ch
 replace bU := bU.ch eH.ch
 replace cN := cN.ch eH.ch
 replace cf := cf.ch eH.ch
 replace cg := cg.ch eH.ch
 replace b9 := b9.ch eH.ch
 replace bP := bP.ch eH.ch
 replace bC := bC.ch eH.ch
 replace ca := ca.ch eH.ch
 replace bQ := bQ.ch eH.ch
 replace bS := bS.ch eH.ch
 replace er := er.ch eH.ch
 replace dZ := dZ.ch eH.ch
 replace dP := dP.ch eH.ch
 replace et := et.ch eH.ch
 replace d4 := d4.ch eH.ch
 replace d5 := d5.ch eH.ch
 replace hB := hB.trans eH.fr
 have hobt := oblkStAgg (us := [.int .i64 r45.Points, .bool r45.Monoid, .slice xV r45.Gens.length xW, .slice w4 r45.Elems.length xa, .slice wj r45.Prefix.length wk, .slice xX r45.Last.length xY, .slice xb r45.Right.length xc, .slice xd r45.Rules.length xe, .int .i64 r45.Done]) (o := 0) (cs' := #[.int .i64 r45.Points, .bool r45.Monoid, .slice xV r45.Gens.length xW, .slice w4 r45.Elems.length xa, .slice wj r45.Prefix.length wk, .slice xX r45.Last.length xY, .slice xb r45.Right.length xc, .slice xd r45.Rules.length xe, .int .i64 r45.Done]) 0 hO rfl rfl (Nat.le_of_ble_eq_true rfl) rfl
 obtain ⟨w58, ni, J9⟩ := hobt
 refine GoR.op (J9 ti29 (by exact rfl) (by exact rfl) rfl) rfl rfl ?_
 replace hO := ni.own
 replace bk := bk.ch ni.ch
 replace cM := cM.ch ni.ch
 replace ce := ce.ch ni.ch
 replace bU := bU.ch ni.ch
 replace cN := cN.ch ni.ch
 replace cf := cf.ch ni.ch
 replace cg := cg.ch ni.ch
 replace b9 := b9.ch ni.ch
 replace bP := bP.ch ni.ch
 replace bC := bC.ch ni.ch
 replace ca := ca.ch ni.ch
 replace bQ := bQ.ch ni.ch
 replace bS := bS.ch ni.ch
 replace er := er.ch ni.ch
 replace dZ := dZ.ch ni.ch
 replace dP := dP.ch ni.ch
 replace et := et.ch ni.ch
 replace d4 := d4.ch ni.ch
 replace d5 := d5.ch ni.ch
 replace hB := hB.trans ni.fr
 refine GoR.op ((op_assign rfl) _) rfl rfl ?_
 refine GoR.nil ?_
 refine Go1.seq ?_
 refine Go1.region ?_
 refine GoR.op ((oblkAgg (vs := [.int .i64 r13.Points, .bool r13.Monoid, .slice qr r13.Gens.length qs, .slice o9 r13.Elems.length pc, .slice ol r13.Prefix.length om, .slice qt r13.Last.length qu, .slice pe r13.Right.length pg, .slice ph r13.Rules.length pi, .int .i64 r13.Done]) (i := 0) 2 hO rfl rfl Try.underlying29 rfl ti29 rfl) _ (Same.refl _)) rfl rfl ?_
 refine GoR.op ((op_move rfl) _) rfl rfl ?_
 refine GoR.op ((op_move rfl) _) rfl rfl ?_
 obtain ⟨h61, H⟩ := H
 refine GoR.op ((op_add rfl rfl (wrap_i64 h61)) _) rfl rfl ?_
 refine GoR.call (op_call body26 rfl (walk_enumerate_Step (e := r13) hO.lt cM ce bU cN cf cg H)) rfl rfl ?_
 rintro v67 w64 ⟨r62, r63, xZ, x2, xg, xh, wl, wm, x3, x4, xi, xj, xk, xl, rfl, D4, gr, fT, eN, gs, fU, fV, H⟩
 have eV := Stp.same hO D4
 replace hO := eV.own
 replace bk := bk.ch eV.ch
 replace cM := cM.ch eV.ch
 replace ce := ce.ch eV.ch
 replace bU := bU.ch eV.ch
 replace cN := cN.ch eV.ch
 replace cf := cf.ch eV.ch
 replace cg := cg.ch eV.ch
 replace b9 := b9.ch eV.ch
 replace bP := bP.ch eV.ch
 replace bC := bC.ch eV.ch
 replace ca := ca.ch eV.ch
 replace bQ := bQ.ch eV.ch
 replace bS := bS.ch eV.ch
 replace er := er.ch eV.ch
 replace dZ := dZ.ch eV.ch
 replace dP := dP.ch eV.ch
 replace et := et.ch eV.ch
 replace d4 := d4.ch eV.ch
 replace d5 := d5.ch eV.ch
 replace hB := hB.trans eV.fr
 refine GoR.op ((op_move rfl) _) rfl rfl ?_
 refine GoR.op ((op_extract rfl rfl) _) rfl rfl ?_
 refine GoR.op ((op_extract rfl rfl) _) rfl rfl ?_
 have hobt := oalloc (t := 29) (cs := #[.int .i64 (0 : Int), .bool false, .slice none 0 0, .slice none 0 0, .slice none 0 0, .slice none 0 0, .slice none 0 0, .slice none 0 0, .int .i64 (0 : Int)]) ti29 hO rfl
 obtain ⟨w69, B70, fD, Qo, Ka⟩ := hobt
 refine GoR.op Ka rfl rfl ?_
 replace hO := fD.own
 replace bk := bk.ch fD.ch
 replace cM := cM.ch fD.ch
 replace ce := ce.ch fD.ch
 replace bU := bU.ch fD.ch
 replace cN := cN.ch fD.ch
 replace cf := cf.ch fD.ch
 replace cg := cg.ch fD.ch
 replace b9 := b9.ch fD.ch
 replace bP := bP.ch fD.ch
 replace bC := bC.ch fD.ch
 replace ca := ca.ch fD.ch
 replace bQ := bQ.ch fD.ch
 replace bS := bS.ch fD.ch
 replace er := er.ch fD.ch
 replace dZ := dZ.ch fD.ch
 replace dP := dP.ch fD.ch
 replace et := et.ch fD.ch
 replace d4 := d4.ch fD.ch
 replace d5 := d5.ch fD.ch
 replace gr := gr.ch fD.ch
 replace fT := fT.ch fD.ch
 replace eN := eN.ch fD.ch
 replace gs := gs.ch fD.ch
 replace fU := fU.ch fD.ch
 replace fV := fV.ch fD.ch
 replace hB := hB.trans fD.fr
 have hobt := oblkStAgg (us := [.int .i64 r62.Points, .bool r62.Monoid, .slice xZ r62.Gens.length x2, .slice xg r62.Elems.length xh, .slice wl r62.Prefix.length wm, .slice x3 r62.Last.length x4, .slice xi r62.Right.length xj, .slice xk r62.Rules.length xl, .int .i64 r62.Done]) (o := 0) (cs' := #[.int .i64 r62.Points, .bool r62.Monoid, .slice xZ r62.Gens.length x2, .slice xg r62.Elems.length xh, .slice wl r62.Prefix.length wm, .slice x3 r62.Last.length x4, .slice xi r62.Right.length xj, .slice xk r62.Rules.length xl, .int .i64 r62.Done]) 0 hO rfl rfl (Nat.le_of_ble_eq_true rfl) rfl
 obtain ⟨w75, kh, Kb⟩ := hobt
 refine GoR.op (Kb ti29 (by exact rfl) (by exact rfl) rfl) rfl rfl ?_
 replace hO := kh.own
 replace bk := bk.ch kh.ch
 replace cM := cM.ch kh.ch
 replace ce := ce.ch kh.ch
 replace bU := bU.ch kh.ch
 replace cN := cN.ch kh.ch
 replace cf := cf.ch kh.ch
 replace cg := cg.ch kh.ch
 replace b9 := b9.ch kh.ch
 replace bP := bP.ch kh.ch
 replace bC := bC.ch kh.ch
 replace ca := ca.ch kh.ch
 replace bQ := bQ.ch kh.ch
 replace bS := bS.ch kh.ch
 replace er := er.ch kh.ch
 replace dZ := dZ.ch kh.ch
 replace dP := dP.ch kh.ch
 replace et := et.ch kh.ch
 replace d4 := d4.ch kh.ch
 replace d5 := d5.ch kh.ch
 replace gr := gr.ch kh.ch
 replace fT := fT.ch kh.ch
 replace eN := eN.ch kh.ch
 replace gs := gs.ch kh.ch
 replace fU := fU.ch kh.ch
 replace fV := fV.ch kh.ch
 replace hB := hB.trans kh.fr
 refine GoR.op ((op_assign rfl) _) rfl rfl ?_
 refine GoR.nil ?_
 refine Go1.seq ?_
 refine Go1.seq ?_
 refine Go1.cut [(9, .int .i64 (IntKind.i64.wrap (bits .and .u8 a2 (31 : Int)))), (11, .pointer (some ⟨B21, 0, none⟩)), (12, .int .i64 r14), (13, .pointer (some ⟨B37, 0, none⟩)), (14, .int .i64 r30), (15, .pointer (some ⟨B53, 0, none⟩)), (16, .int .i64 r46), (17, .pointer (some ⟨B70, 0, none⟩)), (18, .int .i64 r63)] ⟨rfl, rfl, rfl, rfl, rfl, rfl, rfl, rfl, rfl, trivial⟩ ?_
 intro σ _
 refine Go1.region ?_
 refine GoR.op ((op_move rfl) _) rfl rfl ?_
 by_cases h78 : r14 = (0 : Int)
 ·replace H := ifp h78 H
  refine GoR.op ((fun w => opB (op_neq rfl rfl w) (ndT h78)) _) rfl rfl ?_
  refine GoR.op ((op_move rfl) _) rfl rfl ?_
  refine GoR.op ((op_move rfl) _) rfl rfl ?_
  by_cases h79 : r30 = (0 : Int)
  ·replace H := ifp h79 H
   refine GoR.op ((fun w => opB (op_neq rfl rfl w) (ndT h79)) _) rfl rfl ?_
   refine GoR.op ((op_pickF rfl rfl rfl) _) rfl rfl ?_
   refine GoR.op ((op_move rfl) _) rfl rfl ?_
   refine GoR.op ((op_move rfl) _) rfl rfl ?_
   by_cases h80 : r46 = (0 : Int)
   ·replace H := ifp h80 H
    refine GoR.op ((fun w => opB (op_neq rfl rfl w) (ndT h80)) _) rfl rfl ?_
    refine GoR.op ((op_pickF rfl rfl rfl) _) rfl rfl ?_
    refine GoR.op ((op_move rfl) _) rfl rfl ?_
    refine GoR.op ((op_move rfl) _) rfl rfl ?_
    by_cases h81 : r63 = (0 : Int)
    ·replace H := ifp h81 H
     refine GoR.op ((fun w => opB (op_neq rfl rfl w) (ndT h81)) _) rfl rfl ?_
     refine GoR.op ((op_pickF rfl rfl rfl) _) rfl rfl ?_
     refine GoR.op ((op_move rfl) _) rfl rfl ?_
     refine GoR.op ((oblkAgg (vs := [.int .i64 r45.Points, .bool r45.Monoid, .slice xV r45.Gens.length xW, .slice w4 r45.Elems.length xa, .slice wj r45.Prefix.length wk, .slice xX r45.Last.length xY, .slice xb r45.Right.length xc, .slice xd r45.Rules.length xe, .int .i64 r45.Done]) (i := 0) 1 hO rfl rfl Try.underlying29 rfl ti29 rfl) _ (Same.refl _)) rfl rfl ?_
     refine GoR.op ((oblkAgg (vs := [.int .i64 r62.Points, .bool r62.Monoid, .slice xZ r62.Gens.length x2, .slice xg r62.Elems.length xh, .slice wl r62.Prefix.length wm, .slice x3 r62.Last.length x4, .slice xi r62.Right.length xj, .slice xk r62.Rules.length xl, .int .i64 r62.Done]) (i := 0) 0 hO rfl rfl Try.underlying29 rfl ti29 rfl) _ (Same.refl _)) rfl rfl ?_
     refine GoR.call (op_call body19 rfl (walk_ref12_Same (a0 := r45) (a1 := r62) hO.lt er dZ dP et d4 d5 gr fT eN gs fU fV H)) rfl rfl ?_
     rintro v86 w83 ⟨r82, rfl, L6, H⟩
     have ki := Stp.same hO L6
     replace hO := ki.own
     replace bk := bk.ch ki.ch
     replace cM := cM.ch ki.ch
     replace ce := ce.ch ki.ch
     replace bU := bU.ch ki.ch
     replace cN := cN.ch ki.ch
     replace cf := cf.ch ki.ch
     replace cg := cg.ch ki.ch
     replace b9 := b9.ch ki.ch
     replace bP := bP.ch ki.ch
     replace bC := bC.ch ki.ch
     replace ca := ca.ch ki.ch
     replace bQ := bQ.ch ki.ch
     replace bS := bS.ch ki.ch
     replace er := er.ch ki.ch
     replace dZ := dZ.ch ki.ch
     replace dP := dP.ch ki.ch
     replace et := et.ch ki.ch
     replace d4 := d4.ch ki.ch
     replace d5 := d5.ch ki.ch
     replace gr := gr.ch ki.ch
     replace fT := fT.ch ki.ch
     replace eN := eN.ch ki.ch
     replace gs := gs.ch ki.ch
     replace fU := fU.ch ki.ch
     replace fV := fV.ch ki.ch
     replace hB := hB.trans ki.fr
     cases r82
     ·replace H := ifn Bool.false_ne_true H
      refine GoR.op ((op_not rfl) _) rfl rfl ?_
      refine GoR.op ((op_pickF rfl rfl rfl) _) rfl rfl ?_
      refine GoR.nil ?_
      refine Go1.condT rfl rfl ?_
      refine Go1.seq ?_
      refine Go1.cut [] trivial ?_
      intro σ _
      refine Go1.region ?_
      refine GoR.op ((op_assign rfl) _) rfl rfl ?_
      refine GoR.nil ?_
      refine Go1.ret1 Try.func6 rfl ?_
      exact ⟨false, rfl, hB.same, H⟩
     replace H := ifp rfl H
     refine GoR.op ((op_not rfl) _) rfl rfl ?_
     refine GoR.op ((op_pickF rfl rfl rfl) _) rfl rfl ?_
     refine GoR.nil ?_
     refine Go1.condF rfl rfl ?_
     refine Go1.skip ?_
     refine Go1.seq ?_
     refine Go1.region ?_
     refine GoR.op ((oblkAgg (vs := [.int .i64 r13.Points, .bool r13.Monoid, .slice qr r13.Gens.length qs, .slice o9 r13.Elems.length pc, .slice ol r13.Prefix.length om, .slice qt r13.Last.length qu, .slice pe r13.Right.length pg, .slice ph r13.Rules.length pi, .int .i64 r13.Done]) (i := 0) 3 hO rfl rfl Try.underlying29 rfl ti29 rfl) _ (Same.refl _)) rfl rfl ?_
     have hobt := oalloc (t := 29) (cs := #[.int .i64 (0 : Int), .bool false, .slice none 0 0, .slice none 0 0, .slice none 0 0, .slice none 0 0, .slice none 0 0, .slice none 0 0, .int .i64 (0 : Int)]) ti29 hO rfl
     obtain ⟨w88, B89, kj, Qp, Kc⟩ := hobt
     refine GoR.op Kc rfl rfl ?_
     replace hO := kj.own
     replace bk := bk.ch kj.ch
     replace cM := cM.ch kj.ch
     replace ce := ce.ch kj.ch
     replace bU := bU.ch kj.ch
     replace cN := cN.ch kj.ch
     replace cf := cf.ch kj.ch
     replace cg := cg.ch kj.ch
     replace b9 := b9.ch kj.ch
     replace bP := bP.ch kj.ch
     replace bC := bC.ch kj.ch
     replace ca := ca.ch kj.ch
     replace bQ := bQ.ch kj.ch
     replace bS := bS.ch kj.ch
     replace er := er.ch kj.ch
     replace dZ := dZ.ch kj.ch
     replace dP := dP.ch kj.ch
     replace et := et.ch kj.ch
     replace d4 := d4.ch kj.ch
     replace d5 := d5.ch kj.ch
     replace gr := gr.ch kj.ch
     replace fT := fT.ch kj.ch
     replace eN := eN.ch kj.ch
     replace gs := gs.ch kj.ch
     replace fU := fU.ch kj.ch
     replace fV := fV.ch kj.ch
     replace hB := hB.trans kj.fr
     have hobt := oblkStAgg (us := [.int .i64 r13.Points, .bool r13.Monoid, .slice qr r13.Gens.length qs, .slice o9 r13.Elems.length pc, .slice ol r13.Prefix.length om, .slice qt r13.Last.length qu, .slice pe r13.Right.length pg, .slice ph r13.Rules.length pi, .int .i64 r13.Done]) (o := 0) (cs' := #[.int .i64 r13.Points, .bool r13.Monoid, .slice qr r13.Gens.length qs, .slice o9 r13.Elems.length pc, .slice ol r13.Prefix.length om, .slice qt r13.Last.length qu, .slice pe r13.Right.length pg, .slice ph r13.Rules.length pi, .int .i64 r13.Done]) 0 hO rfl rfl (Nat.le_of_ble_eq_true rfl) rfl
     obtain ⟨w94, gz, Kd⟩ := hobt
     dsimp only [sS, sZ] at gz
     refine GoR.op (Kd ti29 (by exact rfl) (by exact rfl) rfl) rfl rfl ?_
     replace hO := gz.own
     replace bk := bk.ch gz.ch
     replace cM := cM.ch gz.ch
     replace ce := ce.ch gz.ch
     replace bU := bU.ch gz.ch
     replace cN := cN.ch gz.ch
     replace cf := cf.ch gz.ch
     replace cg := cg.ch gz.ch
     replace b9 := b9.ch gz.ch
     replace bP := bP.ch gz.ch
     replace bC := bC.ch gz.ch
     replace ca := ca.ch gz.ch
     replace bQ := bQ.ch gz.ch
     replace bS := bS.ch gz.ch
     replace er := er.ch gz.ch
     replace dZ := dZ.ch gz.ch
     replace dP := dP.ch gz.ch
     replace et := et.ch gz.ch
     replace d4 := d4.ch gz.ch
     replace d5 := d5.ch gz.ch
     replace gr := gr.ch gz.ch
     replace fT := fT.ch gz.ch
     replace eN := eN.ch gz.ch
     replace gs := gs.ch gz.ch
     replace fU := fU.ch gz.ch
     replace fV := fV.ch gz.ch
     replace hB := hB.trans gz.fr
     refine GoR.nil ?_
     refine Go1.seq ?_
     refine Go1.seq ?_
     refine Go1.region ?_
     refine GoR.op ((op_assign rfl) _) rfl rfl ?_
     refine GoR.nil ?_
     refine Go1.block ?_
     replace bk := bk.ch (Owns.dropCh _ _ 1)
     replace cM := cM.ch (Owns.dropCh _ _ 1)
     replace ce := ce.ch (Owns.dropCh _ _ 1)
     replace bU := bU.ch (Owns.dropCh _ _ 1)
     replace cN := cN.ch (Owns.dropCh _ _ 1)
     replace cf := cf.ch (Owns.dropCh _ _ 1)
     replace cg := cg.ch (Owns.dropCh _ _ 1)
     replace b9 := b9.ch (Owns.dropCh _ _ 1)
     replace bP := bP.ch (Owns.dropCh _ _ 1)
     replace bC := bC.ch (Owns.dropCh _ _ 1)
     replace ca := ca.ch (Owns.dropCh _ _ 1)
     replace bQ := bQ.ch (Owns.dropCh _ _ 1)
     replace bS := bS.ch (Owns.dropCh _ _ 1)
     replace er := er.ch (Owns.dropCh _ _ 1)
     replace dZ := dZ.ch (Owns.dropCh _ _ 1)
     replace dP := dP.ch (Owns.dropCh _ _ 1)
     replace et := et.ch (Owns.dropCh _ _ 1)
     replace d4 := d4.ch (Owns.dropCh _ _ 1)
     replace d5 := d5.ch (Owns.dropCh _ _ 1)
     replace gr := gr.ch (Owns.dropCh _ _ 1)
     replace fT := fT.ch (Owns.dropCh _ _ 1)
     replace eN := eN.ch (Owns.dropCh _ _ 1)
     replace gs := gs.ch (Owns.dropCh _ _ 1)
     replace fU := fU.ch (Owns.dropCh _ _ 1)
     replace fV := fV.ch (Owns.dropCh _ _ 1)
     replace hB := hB.trans (Owns.dropFr _ _ 1)
     replace hO := hO.drop 1
     dsimp only [eS, eZ] at hB hO bk cM ce bU cN cf cg b9 bP bC ca bQ bS er dZ dP et d4 d5 gr fT eN gs fU fV
     replace bk := bk.ch (Owns.dropCh _ _ 1)
     replace cM := cM.ch (Owns.dropCh _ _ 1)
     replace ce := ce.ch (Owns.dropCh _ _ 1)
     replace bU := bU.ch (Owns.dropCh _ _ 1)
     replace cN := cN.ch (Owns.dropCh _ _ 1)
     replace cf := cf.ch (Owns.dropCh _ _ 1)
     replace cg := cg.ch (Owns.dropCh _ _ 1)
     replace b9 := b9.ch (Owns.dropCh _ _ 1)
     replace bP := bP.ch (Owns.dropCh _ _ 1)
     replace bC := bC.ch (Owns.dropCh _ _ 1)
     replace ca := ca.ch (Owns.dropCh _ _ 1)
     replace bQ := bQ.ch (Owns.dropCh _ _ 1)
     replace bS := bS.ch (Owns.dropCh _ _ 1)
     replace er := er.ch (Owns.dropCh _ _ 1)
     replace dZ := dZ.ch (Owns.dropCh _ _ 1)
     replace dP := dP.ch (Owns.dropCh _ _ 1)
     replace et := et.ch (Owns.dropCh _ _ 1)
     replace d4 := d4.ch (Owns.dropCh _ _ 1)
     replace d5 := d5.ch (Owns.dropCh _ _ 1)
     replace gr := gr.ch (Owns.dropCh _ _ 1)
     replace fT := fT.ch (Owns.dropCh _ _ 1)
     replace eN := eN.ch (Owns.dropCh _ _ 1)
     replace gs := gs.ch (Owns.dropCh _ _ 1)
     replace fU := fU.ch (Owns.dropCh _ _ 1)
     replace fV := fV.ch (Owns.dropCh _ _ 1)
     replace hB := hB.trans (Owns.dropFr _ _ 1)
     replace hO := hO.drop 1
     replace bk := bk.ch (Owns.dropCh _ _ 2)
     replace cM := cM.ch (Owns.dropCh _ _ 2)
     replace ce := ce.ch (Owns.dropCh _ _ 2)
     replace bU := bU.ch (Owns.dropCh _ _ 2)
     replace cN := cN.ch (Owns.dropCh _ _ 2)
     replace cf := cf.ch (Owns.dropCh _ _ 2)
     replace cg := cg.ch (Owns.dropCh _ _ 2)
     replace b9 := b9.ch (Owns.dropCh _ _ 2)
     replace bP := bP.ch (Owns.dropCh _ _ 2)
     replace bC := bC.ch (Owns.dropCh _ _ 2)
     replace ca := ca.ch (Owns.dropCh _ _ 2)
     replace bQ := bQ.ch (Owns.dropCh _ _ 2)
     replace bS := bS.ch (Owns.dropCh _ _ 2)
     replace er := er.ch (Owns.dropCh _ _ 2)
     replace dZ := dZ.ch (Owns.dropCh _ _ 2)
     replace dP := dP.ch (Owns.dropCh _ _ 2)
     replace et := et.ch (Owns.dropCh _ _ 2)
     replace d4 := d4.ch (Owns.dropCh _ _ 2)
     replace d5 := d5.ch (Owns.dropCh _ _ 2)
     replace gr := gr.ch (Owns.dropCh _ _ 2)
     replace fT := fT.ch (Owns.dropCh _ _ 2)
     replace eN := eN.ch (Owns.dropCh _ _ 2)
     replace gs := gs.ch (Owns.dropCh _ _ 2)
     replace fU := fU.ch (Owns.dropCh _ _ 2)
     replace fV := fV.ch (Owns.dropCh _ _ 2)
     replace hB := hB.trans (Owns.dropFr _ _ 2)
     replace hO := hO.drop 2
     refine Go1.loopW (S := Nat × Int × Bool × List (List Int) × List (List Int) × List Int × List Int × List (List Int) × List Rule × Int) (fun s σ w => match s with | (k1_98, k1_99, b1_100, l1_101, l1_105, l1_109, l1_113, l1_117, l1_121, k1_125) => ∃ (tj : Option Addr), ∃ (tk : Nat), ∃ (fR : Option Addr), ∃ (fS : Nat), ∃ (tm : Option Addr), ∃ (tn : Nat), ∃ (f6 : Option Addr), ∃ (f7 : Nat), ∃ (tp : Option Addr), ∃ (tq : Nat), ∃ (tt : Option Addr), ∃ (tu : Nat), agrees σ [(9, .int .i64 (IntKind.i64.wrap (bits .and .u8 a2 (31 : Int)))), (13, .pointer (some ⟨B37, 0, none⟩)), (19, .pointer (some ⟨B89, 0, none⟩)), (20, .int .i64 (k1_98 : Int))] ∧ Owns w0.heap.size w [.blk B89 (.cells #[.int .i64 k1_99, .bool b1_100, .slice tj l1_101.length tk, .slice fR l1_105.length fS, .slice tm l1_109.length tn, .slice f6 l1_113.length f7, .slice tp l1_117.length tq, .slice tt l1_121.length tu, .int .i64 k1_125] 29 (0, 0)), .blk B37 (.cells #[.int .i64 r29.Points, .bool r29.Monoid, .slice f8 r29.Gens.length f9, .slice fk r29.Elems.length fm, .slice eF r29.Prefix.length eG, .slice gc r29.Last.length gf, .slice fo r29.Right.length fq, .slice ft r29.Rules.length fu, .int .i64 r29.Done] 29 (0, 0))] A ∧ ISl (Rp.sl (Rp.int .i64)) (bl [.blk B89 (.cells #[.int .i64 k1_99, .bool b1_100, .slice tj l1_101.length tk, .slice fR l1_105.length fS, .slice tm l1_109.length tn, .slice f6 l1_113.length f7, .slice tp l1_117.length tq, .slice tt l1_121.length tu, .int .i64 k1_125] 29 (0, 0)), .blk B37 (.cells #[.int .i64 r29.Points, .bool r29.Monoid, .slice f8 r29.Gens.length f9, .slice fk r29.Elems.length fm, .slice eF r29.Prefix.length eG, .slice gc r29.Last.length gf, .slice fo r29.Right.length fq, .slice ft r29.Rules.length fu, .int .i64 r29.Done] 29 (0, 0))] ++ A) w f8 f9 r29.Gens ∧ ISl (Rp.sl (Rp.int .i64)) (bl [.blk B89 (.cells #[.int .i64 k1_99, .bool b1_100, .slice tj l1_101.length tk, .slice fR l1_105.length fS, .slice tm l1_109.length tn, .slice f6 l1_113.length f7, .slice tp l1_117.length tq, .slice tt l1_121.length tu, .int .i64 k1_125] 29 (0, 0)), .blk B37 (.cells #[.int .i64 r29.Points, .bool r29.Monoid, .slice f8 r29.Gens.length f9, .slice fk r29.Elems.length fm, .slice eF r29.Prefix.length eG, .slice gc r29.Last.length gf, .slice fo r29.Right.length fq, .slice ft r29.Rules.length fu, .int .i64 r29.Done] 29 (0, 0))] ++ A) w fk fm r29.Elems ∧ ISl (Rp.int .i64) (bl [.blk B89 (.cells #[.int .i64 k1_99, .bool b1_100, .slice tj l1_101.length tk, .slice fR l1_105.length fS, .slice tm l1_109.length tn, .slice f6 l1_113.length f7, .slice tp l1_117.length tq, .slice tt l1_121.length tu, .int .i64 k1_125] 29 (0, 0)), .blk B37 (.cells #[.int .i64 r29.Points, .bool r29.Monoid, .slice f8 r29.Gens.length f9, .slice fk r29.Elems.length fm, .slice eF r29.Prefix.length eG, .slice gc r29.Last.length gf, .slice fo r29.Right.length fq, .slice ft r29.Rules.length fu, .int .i64 r29.Done] 29 (0, 0))] ++ A) w eF eG r29.Prefix ∧ ISl (Rp.int .i64) (bl [.blk B89 (.cells #[.int .i64 k1_99, .bool b1_100, .slice tj l1_101.length tk, .slice fR l1_105.length fS, .slice tm l1_109.length tn, .slice f6 l1_113.length f7, .slice tp l1_117.length tq, .slice tt l1_121.length tu, .int .i64 k1_125] 29 (0, 0)), .blk B37 (.cells #[.int .i64 r29.Points, .bool r29.Monoid, .slice f8 r29.Gens.length f9, .slice fk r29.Elems.length fm, .slice eF r29.Prefix.length eG, .slice gc r29.Last.length gf, .slice fo r29.Right.length fq, .slice ft r29.Rules.length fu, .int .i64 r29.Done] 29 (0, 0))] ++ A) w gc gf r29.Last ∧ ISl (Rp.sl (Rp.int .i64)) (bl [.blk B89 (.cells #[.int .i64 k1_99, .bool b1_100, .slice tj l1_101.length tk, .slice fR l1_105.length fS, .slice tm l1_109.length tn, .slice f6 l1_113.length f7, .slice tp l1_117.length tq, .slice tt l1_121.length tu, .int .i64 k1_125] 29 (0, 0)), .blk B37 (.cells #[.int .i64 r29.Points, .bool r29.Monoid, .slice f8 r29.Gens.length f9, .slice fk r29.Elems.length fm, .slice eF r29.Prefix.length eG, .slice gc r29.Last.length gf, .slice fo r29.Right.length fq, .slice ft r29.Rules.length fu, .int .i64 r29.Done] 29 (0, 0))] ++ A) w fo fq r29.Right ∧ ISl (rpRule) (bl [.blk B89 (.cells #[.int .i64 k1_99, .bool b1_100, .slice tj l1_101.length tk, .slice fR l1_105.length fS, .slice tm l1_109.length tn, .slice f6 l1_113.length f7, .slice tp l1_117.length tq, .slice tt l1_121.length tu, .int .i64 k1_125] 29 (0, 0)), .blk B37 (.cells #[.int .i64 r29.Points, .bool r29.Monoid, .slice f8 r29.Gens.length f9, .slice fk r29.Elems.length fm, .slice eF r29.Prefix.length eG, .slice gc r29.Last.length gf, .slice fo r29.Right.length fq, .slice ft r29.Rules.length fu, .int .i64 r29.Done] 29 (0, 0))] ++ A) w ft fu r29.Rules ∧ ISl (Rp.sl (Rp.int .i64)) (bl [.blk B89 (.cells #[.int .i64 k1_99, .bool b1_100, .slice tj l1_101.length tk, .slice fR l1_105.length fS, .slice tm l1_109.length tn, .slice f6 l1_113.length f7, .slice tp l1_117.length tq, .slice tt l1_121.length tu, .int .i64 k1_125] 29 (0, 0)), .blk B37 (.cells #[.int .i64 r29.Points, .bool r29.Monoid, .slice f8 r29.Gens.length f9, .slice fk r29.Elems.length fm, .slice eF r29.Prefix.length eG, .slice gc r29.Last.length gf, .slice fo r29.Right.length fq, .slice ft r29.Rules.length fu, .int .i64 r29.Done] 29 (0, 0))] ++ A) w tj tk l1_101 ∧ ISl (Rp.sl (Rp.int .i64)) (bl [.blk B89 (.cells #[.int .i64 k1_99, .bool b1_100, .slice tj l1_101.length tk, .slice fR l1_105.length fS, .slice tm l1_109.length tn, .slice f6 l1_113.length f7, .slice tp l1_117.length tq, .slice tt l1_121.length tu, .int .i64 k1_125] 29 (0, 0)), .blk B37 (.cells #[.int .i64 r29.Points, .bool r29.Monoid, .slice f8 r29.Gens.length f9, .slice fk r29.Elems.length fm, .slice eF r29.Prefix.length eG, .slice gc r29.Last.length gf, .slice fo r29.Right.length fq, .slice ft r29.Rules.length fu, .int .i64 r29.Done] 29 (0, 0))] ++ A) w fR fS l1_105 ∧ ISl (Rp.int .i64) (bl [.blk B89 (.cells #[.int .i64 k1_99, .bool b1_100, .slice tj l1_101.length tk, .slice fR l1_105.length fS, .slice tm l1_109.length tn, .slice f6 l1_113.length f7, .slice tp l1_117.length tq, .slice tt l1_121.length tu, .int .i64 k1_125] 29 (0, 0)), .blk B37 (.cells #[.int .i64 r29.Points, .bool r29.Monoid, .slice f8 r29.Gens.length f9, .slice fk r29.Elems.length fm, .slice eF r29.Prefix.length eG, .slice gc r29.Last.length gf, .slice fo r29.Right.length fq, .slice ft r29.Rules.length fu, .int .i64 r29.Done] 29 (0, 0))] ++ A) w tm tn l1_109 ∧ ISl (Rp.int .i64) (bl [.blk B89 (.cells #[.int .i64 k1_99, .bool b1_100, .slice tj l1_101.length tk, .slice fR l1_105.length fS, .slice tm l1_109.length tn, .slice f6 l1_113.length f7, .slice tp l1_117.length tq, .slice tt l1_121.length tu, .int .i64 k1_125] 29 (0, 0)), .blk B37 (.cells #[.int .i64 r29.Points, .bool r29.Monoid, .slice f8 r29.Gens.length f9, .slice fk r29.Elems.length fm, .slice eF r29.Prefix.length eG, .slice gc r29.Last.length gf, .slice fo r29.Right.length fq, .slice ft r29.Rules.length fu, .int .i64 r29.Done] 29 (0, 0))] ++ A) w f6 f7 l1_113 ∧ ISl (Rp.sl (Rp.int .i64)) (bl [.blk B89 (.cells #[.int .i64 k1_99, .bool b1_100, .slice tj l1_101.length tk, .slice fR l1_105.length fS, .slice tm l1_109.length tn, .slice f6 l1_113.length f7, .slice tp l1_117.length tq, .slice tt l1_121.length tu, .int .i64 k1_125] 29 (0, 0)), .blk B37 (.cells #[.int .i64 r29.Points, .bool r29.Monoid, .slice f8 r29.Gens.length f9, .slice fk r29.Elems.length fm, .slice eF r29.Prefix.length eG, .slice gc r29.Last.length gf, .slice fo r29.Right.length fq, .slice ft r29.Rules.length fu, .int .i64 r29.Done] 29 (0, 0))] ++ A) w tp tq l1_117 ∧ ISl (rpRule) (bl [.blk B89 (.cells #[.int .i64 k1_99, .bool b1_100, .slice tj l1_101.length tk, .slice fR l1_105.length fS, .slice tm l1_109.length tn, .slice f6 l1_113.length f7, .slice tp l1_117.length tq, .slice tt l1_121.length tu, .int .i64 k1_125] 29 (0, 0)), .blk B37 (.cells #[.int .i64 r29.Points, .bool r29.Monoid, .slice f8 r29.Gens.length f9, .slice fk r29.Elems.length fm, .slice eF r29.Prefix.length eG, .slice gc r29.Last.length gf, .slice fo r29.Right.length fq, .slice ft r29.Rules.length fu, .int .i64 r29.Done] 29 (0, 0))] ++ A) w tt tu l1_121 ∧ Fr (bl []) w0 (bl [.blk B89 (.cells #[.int .i64 k1_99, .bool b1_100, .slice tj l1_101.length tk, .slice fR l1_105.length fS, .slice tm l1_109.length tn, .slice f6 l1_113.length f7, .slice tp l1_117.length tq, .slice tt l1_121.length tu, .int .i64 k1_125] 29 (0, 0)), .blk B37 (.cells #[.int .i64 r29.Points, .bool r29.Monoid, .slice f8 r29.Gens.length f9, .slice fk r29.Elems.length fm, .slice eF r29.Prefix.length eG, .slice gc r29.Last.length gf, .slice fo r29.Right.length fq, .slice ft r29.Rules.length fu, .int .i64 r29.Done] 29 (0, 0))]) w) H ⟨qr, qs, o9, pc, ol, om, qt, qu, pe, pg, ph, pi, ⟨rfl, rfl, rfl, rfl, trivial⟩, hO, b9, bP, bC, ca, bQ, bS, cM, ce, bU, cN, cf, cg, hB⟩ ?_
     intro X1
     refine prE fun k1_98 => prE fun k1_99 => prE fun b1_100 => prE fun l1_101 => prE fun l1_105 => prE fun l1_109 => prE fun l1_113 => prE fun l1_117 => prE fun l1_121 => fun k1_125 => ?_
     intro H hX1 σ w97
     refine exE fun tj => exE fun tk => exE fun fR => exE fun fS => exE fun tm => exE fun tn => exE fun f6 => exE fun f7 => exE fun tp => exE fun tq => exE fun tt => exE fun tu => andE fun hag => andE fun hO => andE fun b9 => andE fun bP => andE fun bC => andE fun ca => andE fun bQ => andE fun bS => andE fun vm => andE fun vn => andE fun o4 => andE fun vo => andE fun vp => andE fun vq => fun hB => ?_
     dsimp only at H
     refine Go1.keep [(9, .int .i64 (IntKind.i64.wrap (bits .and .u8 a2 (31 : Int)))), (13, .pointer (some ⟨B37, 0, none⟩)), (19, .pointer (some ⟨B89, 0, none⟩)), (20, .int .i64 (k1_98 : Int))] hag ?_
     refine Go1.seq ?_
     refine Go1.seq ?_
     refine Go1.region ?_
     refine GoR.op ((op_move rfl) _) rfl rfl ?_
     refine GoR.op ((op_move rfl) _) rfl rfl ?_
     by_cases CU : (k1_98 : Int) < (IntKind.i64.wrap (bits .and .u8 a2 (31 : Int)))
     ·replace H := ifp CU H
      refine GoR.op ((fun w => opB (op_lss rfl rfl w) (decide_eq_true CU)) _) rfl rfl ?_
      refine GoR.nil ?_
      refine Go1.condT rfl rfl ?_
      refine Go1.skip ?_
      refine Go1.seq ?_
      refine Go1.block ?_
      refine Go1.seq ?_
      refine Go1.region ?_
      refine GoR.op ((oblkAgg (vs := [.int .i64 k1_99, .bool b1_100, .slice tj l1_101.length tk, .slice fR l1_105.length fS, .slice tm l1_109.length tn, .slice f6 l1_113.length f7, .slice tp l1_117.length tq, .slice tt l1_121.length tu, .int .i64 k1_125]) (i := 0) 0 hO rfl rfl Try.underlying29 rfl ti29 rfl) _ (Same.refl _)) rfl rfl ?_
      refine GoR.call (op_call body26 rfl (walk_enumerate_Step (e := (⟨k1_99, b1_100, l1_101, l1_105, l1_109, l1_113, l1_117, l1_121, k1_125⟩ : Enum)) hO.lt vm vn o4 vo vp vq H)) rfl rfl ?_
      rintro Qq Be ⟨r127, r128, xm, xn, wn, wo, vF, vG, xo, xp, wq, wr, ws, wt, rfl, Ke, xq, wu, vH, xr, wv, ww, H⟩
      have nF := Stp.same hO Ke
      replace hO := nF.own
      replace b9 := b9.ch nF.ch
      replace bP := bP.ch nF.ch
      replace bC := bC.ch nF.ch
      replace ca := ca.ch nF.ch
      replace bQ := bQ.ch nF.ch
      replace bS := bS.ch nF.ch
      replace vm := vm.ch nF.ch
      replace vn := vn.ch nF.ch
      replace o4 := o4.ch nF.ch
      replace vo := vo.ch nF.ch
      replace vp := vp.ch nF.ch
      replace vq := vq.ch nF.ch
      replace hB := hB.trans nF.fr
      refine GoR.op ((op_move rfl) _) rfl rfl ?_
      refine GoR.op ((op_extract rfl rfl) _) rfl rfl ?_
      refine GoR.op ((op_extract rfl rfl) _) rfl rfl ?_
      have hobt := oblkStAgg (us := [.int .i64 r127.Points, .bool r127.Monoid, .slice xm r127.Gens.length xn, .slice wn r127.Elems.length wo, .slice vF r127.Prefix.length vG, .slice xo r127.Last.length xp, .slice wq r127.Right.length wr, .slice ws r127.Rules.length wt, .int .i64 r127.Done]) (o := 0) (cs' := #[.int .i64 r127.Points, .bool r127.Monoid, .slice xm r127.Gens.length xn, .slice wn r127.Elems.length wo, .slice vF r127.Prefix.length vG, .slice xo r127.Last.length xp, .slice wq r127.Right.length wr, .slice ws r127.Rules.length wt, .int .i64 r127.Done]) 0 hO rfl rfl (Nat.le_of_ble_eq_true rfl) rfl
      obtain ⟨Qr, lN, A9⟩ := hobt
      refine GoR.op (A9 ti29 (by exact rfl) (by exact rfl) rfl) rfl rfl ?_
      replace hO := lN.own
      replace b9 := b9.ch lN.ch
      replace bP := bP.ch lN.ch
      replace bC := bC.ch lN.ch
      replace ca := ca.ch lN.ch
      replace bQ := bQ.ch lN.ch
      replace bS := bS.ch lN.ch
      replace vm := vm.ch lN.ch
      replace vn := vn.ch lN.ch
      replace o4 := o4.ch lN.ch
      replace vo := vo.ch lN.ch
      replace vp := vp.ch lN.ch
      replace vq := vq.ch lN.ch
      replace xq := xq.ch lN.ch
      replace wu := wu.ch lN.ch
      replace vH := vH.ch lN.ch
      replace xr := xr.ch lN.ch
      replace wv := wv.ch lN.ch
      replace ww := ww.ch lN.ch
      replace hB := hB.trans lN.fr
      refine GoR.op ((op_assign rfl) _) rfl rfl ?_
      refine GoR.nil ?_
      refine Go1.seq ?_
      refine Go1.region ?_
      refine GoR.op ((op_move rfl) _) rfl rfl ?_
      by_cases CV : r128 = (0 : Int)
      ·replace H := ifp CV H
       refine GoR.op ((fun w => opB (op_neq rfl rfl w) (ndT CV)) _) rfl rfl ?_
       refine GoR.nil ?_
       refine Go1.condF rfl rfl ?_
       refine Go1.skip ?_
       refine Go1.inBlock ?_
       refine Go1.region ?_
       refine GoR.op ((op_move rfl) _) rfl rfl ?_
       obtain ⟨L7, H⟩ := H
       refine GoR.op ((op_add rfl rfl (wrap_i64 L7)) _) rfl rfl ?_
       refine GoR.op ((op_assign rfl) _) rfl rfl ?_
       refine GoR.nil ?_
       exact hX1 _ H _ _ ⟨xm, xn, wn, wo, vF, vG, xo, xp, wq, wr, ws, wt, ⟨rfl, rfl, rfl, rfl, trivial⟩, hO, b9, bP, bC, ca, bQ, bS, xq, wu, vH, xr, wv, ww, hB⟩
      replace H := ifn CV H
      refine GoR.op ((fun w => opB (op_neq rfl rfl w) (ndF CV)) _) rfl rfl ?_
      refine GoR.nil ?_
      refine Go1.condT rfl rfl ?_
      refine Go1.seq ?_
      refine Go1.region ?_
      refine GoR.op ((op_assign rfl) _) rfl rfl ?_
      refine GoR.nil ?_
      refine Go1.ret1 Try.func6 rfl ?_
      exact ⟨false, rfl, hB.same, H⟩
     replace H := ifn CU H
     refine GoR.op ((fun w => opB (op_lss rfl rfl w) (decide_eq_false CU)) _) rfl rfl ?_
     refine GoR.nil ?_
     refine Go1.condF rfl rfl ?_
     refine Go1.exit rfl ?_
     refine Go1.seq ?_
     refine Go1.region ?_
     refine GoR.op ((oblkAgg (vs := [.int .i64 k1_99, .bool b1_100, .slice tj l1_101.length tk, .slice fR l1_105.length fS, .slice tm l1_109.length tn, .slice f6 l1_113.length f7, .slice tp l1_117.length tq, .slice tt l1_121.length tu, .int .i64 k1_125]) (i := 0) 0 hO rfl rfl Try.underlying29 rfl ti29 rfl) _ (Same.refl _)) rfl rfl ?_
     refine GoR.op ((oblkAgg (vs := [.int .i64 r29.Points, .bool r29.Monoid, .slice f8 r29.Gens.length f9, .slice fk r29.Elems.length fm, .slice eF r29.Prefix.length eG, .slice gc r29.Last.length gf, .slice fo r29.Right.length fq, .slice ft r29.Rules.length fu, .int .i64 r29.Done]) (i := 0) 1 hO rfl rfl Try.underlying29 rfl ti29 rfl) _ (Same.refl _)) rfl rfl ?_
     refine GoR.call (op_call body19 rfl (walk_ref12_Same (a0 := (⟨k1_99, b1_100, l1_101, l1_105, l1_109, l1_113, l1_117, l1_121, k1_125⟩ : Enum)) (a1 := r29) hO.lt vm vn o4 vo vp vq b9 bP bC ca bQ bS H)) rfl rfl ?_
     rintro Qs LD ⟨r139, rfl, Kf, H⟩
     have qv := Stp.same hO Kf
     replace hO := qv.own
     replace b9 := b9.ch qv.ch
     replace bP := bP.ch qv.ch
     replace bC := bC.ch qv.ch
     replace ca := ca.ch qv.ch
     replace bQ := bQ.ch qv.ch
     replace bS := bS.ch qv.ch
     replace vm := vm.ch qv.ch
     replace vn := vn.ch qv.ch
     replace o4 := o4.ch qv.ch
     replace vo := vo.ch qv.ch
     replace vp := vp.ch qv.ch
     replace vq := vq.ch qv.ch
     replace hB := hB.trans qv.fr
     refine GoR.op ((op_move rfl) _) rfl rfl ?_
     cases r139
     ·replace H := ifn Bool.false_ne_true H
      refine GoR.pass rfl rfl ?_
      refine GoR.op ((op_pickF rfl rfl rfl) _) rfl rfl ?_
      refine GoR.op ((op_assign rfl) _) rfl rfl ?_
      refine GoR.nil ?_
      refine Go1.ret1 Try.func6 rfl ?_
      exact ⟨false, rfl, hB.same, H⟩
     replace H := ifp rfl H
     refine GoR.call (op_call body16 rfl (walk_law12_awake hO.lt H)) rfl rfl ?_
     rintro LZ Qt ⟨r145, rfl, Kg, H⟩
     have qw := Stp.same hO Kg
     replace hO := qw.own
     replace b9 := b9.ch qw.ch
     replace bP := bP.ch qw.ch
     replace bC := bC.ch qw.ch
     replace ca := ca.ch qw.ch
     replace bQ := bQ.ch qw.ch
     replace bS := bS.ch qw.ch
     replace vm := vm.ch qw.ch
     replace vn := vn.ch qw.ch
     replace o4 := o4.ch qw.ch
     replace vo := vo.ch qw.ch
     replace vp := vp.ch qw.ch
     replace vq := vq.ch qw.ch
     replace hB := hB.trans qw.fr
     refine GoR.op ((op_pickT rfl rfl rfl) _) rfl rfl ?_
     refine GoR.op ((op_assign rfl) _) rfl rfl ?_
     refine GoR.nil ?_
     refine Go1.ret1 Try.func6 rfl ?_
     exact ⟨r145, rfl, hB.same, H⟩
    replace H := ifn h81 H
    refine GoR.op ((fun w => opB (op_neq rfl rfl w) (ndF h81)) _) rfl rfl ?_
    refine GoR.op ((op_pickF rfl rfl rfl) _) rfl rfl ?_
    refine GoR.op ((op_move rfl) _) rfl rfl ?_
    refine GoR.pass rfl rfl ?_
    refine GoR.pass rfl rfl ?_
    refine GoR.pass rfl rfl ?_
    refine GoR.pass rfl rfl ?_
    refine GoR.op ((op_pickT rfl rfl rfl) _) rfl rfl ?_
    refine GoR.nil ?_
    refine Go1.condT rfl rfl ?_
    refine Go1.seq ?_
    refine Go1.cut [] trivial ?_
    intro σ _
    refine Go1.region ?_
    refine GoR.op ((op_assign rfl) _) rfl rfl ?_
    refine GoR.nil ?_
    refine Go1.ret1 Try.func6 rfl ?_
    exact ⟨false, rfl, hB.same, H⟩
   replace H := ifn h80 H
   refine GoR.op ((fun w => opB (op_neq rfl rfl w) (ndF h80)) _) rfl rfl ?_
   refine GoR.op ((op_pickF rfl rfl rfl) _) rfl rfl ?_
   refine GoR.op ((op_move rfl) _) rfl rfl ?_
   refine GoR.pass rfl rfl ?_
   refine GoR.pass rfl rfl ?_
   refine GoR.op ((op_pickT rfl rfl rfl) _) rfl rfl ?_
   refine GoR.op ((op_move rfl) _) rfl rfl ?_
   refine GoR.pass rfl rfl ?_
   refine GoR.pass rfl rfl ?_
   refine GoR.pass rfl rfl ?_
   refine GoR.pass rfl rfl ?_
   refine GoR.op ((op_pickT rfl rfl rfl) _) rfl rfl ?_
   refine GoR.nil ?_
   refine Go1.condT rfl rfl ?_
   refine Go1.seq ?_
   refine Go1.region ?_
   refine GoR.op ((op_assign rfl) _) rfl rfl ?_
   refine GoR.nil ?_
   refine Go1.ret1 Try.func6 rfl ?_
   exact ⟨false, rfl, hB.same, H⟩
  replace H := ifn h79 H
  refine GoR.op ((fun w => opB (op_neq rfl rfl w) (ndF h79)) _) rfl rfl ?_
  refine GoR.op ((op_pickF rfl rfl rfl) _) rfl rfl ?_
  refine GoR.op ((op_move rfl) _) rfl rfl ?_
  refine GoR.pass rfl rfl ?_
  refine GoR.pass rfl rfl ?_
  refine GoR.op ((op_pickT rfl rfl rfl) _) rfl rfl ?_
  refine GoR.op ((op_move rfl) _) rfl rfl ?_
  refine GoR.pass rfl rfl ?_
  refine GoR.pass rfl rfl ?_
  refine GoR.op ((op_pickT rfl rfl rfl) _) rfl rfl ?_
  refine GoR.op ((op_move rfl) _) rfl rfl ?_
  refine GoR.pass rfl rfl ?_
  refine GoR.pass rfl rfl ?_
  refine GoR.pass rfl rfl ?_
  refine GoR.pass rfl rfl ?_
  refine GoR.op ((op_pickT rfl rfl rfl) _) rfl rfl ?_
  refine GoR.nil ?_
  refine Go1.condT rfl rfl ?_
  refine Go1.seq ?_
  refine Go1.cut [] trivial ?_
  intro σ _
  refine Go1.region ?_
  refine GoR.op ((op_assign rfl) _) rfl rfl ?_
  refine GoR.nil ?_
  refine Go1.ret1 Try.func6 rfl ?_
  exact ⟨false, rfl, hB.same, H⟩
 replace H := ifn h78 H
 refine GoR.op ((fun w => opB (op_neq rfl rfl w) (ndF h78)) _) rfl rfl ?_
 refine GoR.op ((op_move rfl) _) rfl rfl ?_
 refine GoR.pass rfl rfl ?_
 refine GoR.pass rfl rfl ?_
 refine GoR.op ((op_pickT rfl rfl rfl) _) rfl rfl ?_
 refine GoR.op ((op_move rfl) _) rfl rfl ?_
 refine GoR.pass rfl rfl ?_
 refine GoR.pass rfl rfl ?_
 refine GoR.op ((op_pickT rfl rfl rfl) _) rfl rfl ?_
 refine GoR.op ((op_move rfl) _) rfl rfl ?_
 refine GoR.pass rfl rfl ?_
 refine GoR.pass rfl rfl ?_
 refine GoR.op ((op_pickT rfl rfl rfl) _) rfl rfl ?_
 refine GoR.op ((op_move rfl) _) rfl rfl ?_
 refine GoR.pass rfl rfl ?_
 refine GoR.pass rfl rfl ?_
 refine GoR.pass rfl rfl ?_
 refine GoR.pass rfl rfl ?_
 refine GoR.op ((op_pickT rfl rfl rfl) _) rfl rfl ?_
 refine GoR.nil ?_
 refine Go1.condT rfl rfl ?_
 refine Go1.seq ?_
 refine Go1.cut [] trivial ?_
 intro σ _
 refine Go1.region ?_
 refine GoR.op ((op_assign rfl) _) rfl rfl ?_
 refine GoR.nil ?_
 refine Go1.ret1 Try.func6 rfl ?_
 exact ⟨false, rfl, hB.same, H⟩
end Sg
