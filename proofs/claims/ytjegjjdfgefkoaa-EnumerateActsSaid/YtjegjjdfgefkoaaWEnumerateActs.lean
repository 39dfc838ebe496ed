/- The walks: each call keeps to its plain transformer. Printed by walkgen.py. -/
import Derived.Test.YtjegjjdfgefkoaaTi
import Derived.Test.YtjegjjdfgefkoaaWEnumerateBuildsb
import Derived.Test.YtjegjjdfgefkoaaWEnumerateBuildsc
import Derived.Test.YtjegjjdfgefkoaaWEnumerateCovers
namespace Sg
open Go Go.RowKit Go.Proofs
set_option linter.unusedVariables false
set_option linter.unusedSimpArgs false
set_option maxRecDepth 100000
set_option maxHeartbeats 4000000
theorem body36 : Body Try.prog 36 := ⟨Try.f36, Try.func36, rfl, by kernel_rfl⟩
theorem walk_enumerate_Product {A : List Nat} {w0 : World} {bY : Option Addr} {bZ : Nat} {bp : Option Addr} {bq : Nat} {bi : Option Addr} {bj : Nat} {bP : Option Addr} {bQ : Nat} {bt : Option Addr} {bu : Nat} {bv : Option Addr} {bw : Nat} {e : Enum} {i : Int} {j : Int} (hA : ∀ b ∈ A, b < w0.heap.size) (aZ : ISl (Rp.sl (Rp.int .i64)) A w0 bY bZ e.Gens) (aU : ISl (Rp.sl (Rp.int .i64)) A w0 bp bq e.Elems) (aK : ISl (Rp.int .i64) A w0 bi bj e.Prefix) (a5 : ISl (Rp.int .i64) A w0 bP bQ e.Last) (aV : ISl (Rp.sl (Rp.int .i64)) A w0 bt bu e.Right) (aW : ISl (rpRule) A w0 bv bw e.Rules) {K : Int → Prop} (H : enumerate_Product e i j K) :
    CallsV Try.prog 36 #[.agg #[.int .i64 e.Points, .bool e.Monoid, .slice bY e.Gens.length bZ, .slice bp e.Elems.length bq, .slice bi e.Prefix.length bj, .slice bP e.Last.length bQ, .slice bt e.Right.length bu, .slice bv e.Rules.length bw, .int .i64 e.Done], .int .i64 i, .int .i64 j] w0 (fun v w' => ∃ (r0 : Int), v = .int .i64 r0 ∧ Same w0 w' ∧ K r0) := by
 refine CallsV.of (l := [.agg #[.int .i64 e.Points, .bool e.Monoid, .slice bY e.Gens.length bZ, .slice bp e.Elems.length bq, .slice bi e.Prefix.length bj, .slice bP e.Last.length bQ, .slice bt e.Right.length bu, .slice bv e.Rules.length bw, .int .i64 e.Done], .int .i64 i, .int .i64 j]) Try.func36 rfl Try.ntmps36 rfl ?_
 have hO := Owns.start hA
 have hB := Fr.refl (bl []) w0
 unfold enumerate_Product at H
 replace aZ := aZ.ch (Ch.start A w0)
 replace aU := aU.ch (Ch.start A w0)
 replace aK := aK.ch (Ch.start A w0)
 replace a5 := a5.ch (Ch.start A w0)
 replace aV := aV.ch (Ch.start A w0)
 replace aW := aW.ch (Ch.start A w0)
 refine Go1.seq ?_
 refine Go1.region ?_
 have hobt := obox (t := 29) (v := .agg #[.int .i64 e.Points, .bool e.Monoid, .slice bY e.Gens.length bZ, .slice bp e.Elems.length bq, .slice bi e.Prefix.length bj, .slice bP e.Last.length bQ, .slice bt e.Right.length bu, .slice bv e.Rules.length bw, .int .i64 e.Done]) (cs := #[.int .i64 e.Points, .bool e.Monoid, .slice bY e.Gens.length bZ, .slice bp e.Elems.length bq, .slice bi e.Prefix.length bj, .slice bP e.Last.length bQ, .slice bt e.Right.length bu, .slice bv e.Rules.length bw, .int .i64 e.Done]) hO rfl
 obtain ⟨w1, B2, gr, hs4, u5⟩ := hobt
 refine GoR.op (u5 rfl) rfl rfl ?_
 replace hO := gr.own
 replace aZ := aZ.ch gr.ch
 replace aU := aU.ch gr.ch
 replace aK := aK.ch gr.ch
 replace a5 := a5.ch gr.ch
 replace aV := aV.ch gr.ch
 replace aW := aW.ch gr.ch
 replace hB := hB.trans gr.fr
 refine GoR.op ((op_assign rfl) _) rfl rfl ?_
 refine GoR.nil ?_
 refine Go1.seq ?_
 refine Go1.region ?_
 refine GoR.op ((oblkAgg (vs := [.int .i64 e.Points, .bool e.Monoid, .slice bY e.Gens.length bZ, .slice bp e.Elems.length bq, .slice bi e.Prefix.length bj, .slice bP e.Last.length bQ, .slice bt e.Right.length bu, .slice bv e.Rules.length bw, .int .i64 e.Done]) (i := 0) 0 hO rfl rfl Try.underlying29 rfl ti29 rfl) _ (Same.refl _)) rfl rfl ?_
 refine GoR.inl (vs := [.agg #[.int .i64 e.Points, .bool e.Monoid, .slice bY e.Gens.length bZ, .slice bp e.Elems.length bq, .slice bi e.Prefix.length bj, .slice bP e.Last.length bQ, .slice bt e.Right.length bu, .slice bv e.Rules.length bw, .int .i64 e.Done]]) (caps := []) rfl rfl body57 Try.func57 rfl Try.ntmps57 rfl rfl rfl ?_
 intro RhR7 hR7
 refine Go1.seq ?_
 refine Go1.region ?_
 have hobt := obox (t := 29) (v := .agg #[.int .i64 e.Points, .bool e.Monoid, .slice bY e.Gens.length bZ, .slice bp e.Elems.length bq, .slice bi e.Prefix.length bj, .slice bP e.Last.length bQ, .slice bt e.Right.length bu, .slice bv e.Rules.length bw, .int .i64 e.Done]) (cs := #[.int .i64 e.Points, .bool e.Monoid, .slice bY e.Gens.length bZ, .slice bp e.Elems.length bq, .slice bi e.Prefix.length bj, .slice bP e.Last.length bQ, .slice bt e.Right.length bu, .slice bv e.Rules.length bw, .int .i64 e.Done]) hO rfl
 obtain ⟨w8, B9, lE, u6, zt⟩ := hobt
 refine GoR.op (zt rfl) rfl rfl ?_
 replace hO := lE.own
 replace aZ := aZ.ch lE.ch
 replace aU := aU.ch lE.ch
 replace aK := aK.ch lE.ch
 replace a5 := a5.ch lE.ch
 replace aV := aV.ch lE.ch
 replace aW := aW.ch lE.ch
 replace hB := hB.trans lE.fr
 refine GoR.op ((op_assign rfl) _) rfl rfl ?_
 refine GoR.op ((op_assign rfl) _) rfl rfl ?_
 refine GoR.nil ?_
 refine Go1.seq ?_
 refine Go1.region ?_
 refine GoR.op ((oblkAgg (vs := [.int .i64 e.Points, .bool e.Monoid, .slice bY e.Gens.length bZ, .slice bp e.Elems.length bq, .slice bi e.Prefix.length bj, .slice bP e.Last.length bQ, .slice bt e.Right.length bu, .slice bv e.Rules.length bw, .int .i64 e.Done]) (i := 0) 0 hO rfl rfl Try.underlying29 rfl ti29 rfl) _ (Same.refl _)) rfl rfl ?_
 refine GoR.call (op_call body53 rfl (walk_enumerate_replay (e := e) hO.lt aZ aU aK a5 aV aW H)) rfl rfl ?_
 intro v16 w17 hcase20
 refine Or.elim hcase20 ?_ ?_
 ·refine exE fun r15 => andE fun hv21 => andE fun wH => fun H => ?_
  subst hv21
  clear hcase20
  replace H := oElimN H
  have fE := Stp.same hO wH
  replace hO := fE.own
  replace aZ := aZ.ch fE.ch
  replace aU := aU.ch fE.ch
  replace aK := aK.ch fE.ch
  replace a5 := a5.ch fE.ch
  replace aV := aV.ch fE.ch
  replace aW := aW.ch fE.ch
  replace hB := hB.trans fE.fr
  refine GoR.op ((op_move rfl) _) rfl rfl ?_
  refine GoR.op ((op_extract rfl rfl) _) rfl rfl ?_
  refine GoR.op ((op_extract rfl rfl) _) rfl rfl ?_
  refine GoR.op ((op_assign rfl) _) rfl rfl ?_
  refine GoR.op ((op_assign rfl) _) rfl rfl ?_
  refine GoR.nil ?_
  refine Go1.seq ?_
  refine Go1.region ?_
  refine GoR.op ((op_move rfl) _) rfl rfl ?_
  refine GoR.op ((op_move rfl) _) rfl rfl ?_
  refine GoR.op ((op_move rfl) _) rfl rfl ?_
  cases r15
  ·replace H := ifn Bool.false_ne_true H
   refine GoR.pass rfl rfl ?_
   refine GoR.pass rfl rfl ?_
   refine GoR.op ((op_pickF rfl rfl rfl) _) rfl rfl ?_
   refine GoR.op ((op_assign rfl) _) rfl rfl ?_
   refine GoR.op ((op_assign rfl) _) rfl rfl ?_
   refine GoR.nil ?_
   refine Go1.ret2V Try.func57 rfl (show _ = .pointer none from rfl) (show _ = .bool false from rfl) ?_
   refine hR7 _ _ ?_
   refine GoR.op ((op_move rfl) _) rfl rfl ?_
   refine GoR.op ((op_extract rfl rfl) _) rfl rfl ?_
   refine GoR.op ((op_extract rfl rfl) _) rfl rfl ?_
   refine GoR.op ((op_assign rfl) _) rfl rfl ?_
   refine GoR.op ((op_assign rfl) _) rfl rfl ?_
   refine GoR.nil ?_
   refine Go1.seq ?_
   refine Go1.seq ?_
   refine Go1.cut [(1, .int .i64 i), (2, .int .i64 j), (7, .pointer none), (8, .bool false)] ⟨rfl, rfl, rfl, rfl, trivial⟩ ?_
   intro σ _
   refine Go1.region ?_
   refine GoR.op ((op_move rfl) _) rfl rfl ?_
   refine GoR.op ((op_not rfl) _) rfl rfl ?_
   refine GoR.op ((op_move rfl) _) rfl rfl ?_
   refine GoR.pass rfl rfl ?_
   refine GoR.pass rfl rfl ?_
   refine GoR.pass rfl rfl ?_
   refine GoR.pass rfl rfl ?_
   refine GoR.op ((op_pickT rfl rfl rfl) _) rfl rfl ?_
   refine GoR.op ((op_move rfl) _) rfl rfl ?_
   refine GoR.pass rfl rfl ?_
   refine GoR.pass rfl rfl ?_
   refine GoR.pass rfl rfl ?_
   refine GoR.pass rfl rfl ?_
   refine GoR.pass rfl rfl ?_
   refine GoR.pass rfl rfl ?_
   refine GoR.pass rfl rfl ?_
   refine GoR.pass rfl rfl ?_
   refine GoR.pass rfl rfl ?_
   refine GoR.pass rfl rfl ?_
   refine GoR.op ((op_pickT rfl rfl rfl) _) rfl rfl ?_
   refine GoR.nil ?_
   refine Go1.condT rfl rfl ?_
   refine Go1.seq ?_
   refine Go1.cut [] trivial ?_
   intro σ _
   refine Go1.region ?_
   refine GoR.op ((op_assign rfl) _) rfl rfl ?_
   refine GoR.nil ?_
   refine Go1.ret1 Try.func36 rfl ?_
   exact ⟨(-1 : Int), rfl, hB.same, H⟩
  replace H := ifp rfl H
  refine GoR.op ((op_move rfl) _) rfl rfl ?_
  refine GoR.inl (vs := [.pointer none]) (caps := []) rfl rfl body50 Try.func50 rfl Try.ntmps50 rfl rfl rfl ?_
  intro RhR23 hR23
  refine Go1.seq ?_
  refine Go1.region ?_
  refine GoR.op ((op_assign rfl) _) rfl rfl ?_
  refine GoR.nil ?_
  refine Go1.seq ?_
  refine Go1.drawS 0 [(0, .pure), (1, .pure), (2, .pure), (3, .pure), (4, .stable), (5, .pure), (6, .pure), (7, .pure), (8, .pure), (9, .stable), (10, .pure), (11, .pure), (12, .pure)] mixed (by kernel_rfl) ?_
  intro w24 zu
  have kX := Stp.same hO zu
  replace hO := kX.own
  replace aZ := aZ.ch kX.ch
  replace aU := aU.ch kX.ch
  replace aK := aK.ch kX.ch
  replace a5 := a5.ch kX.ch
  replace aV := aV.ch kX.ch
  replace aW := aW.ch kX.ch
  replace hB := hB.trans kX.fr
  refine GoQ.pure rfl (op_move rfl) rfl rfl ?_
  exact H.elim
 ·refine exE fun r14 => exE fun r15 => exE fun bO => exE fun am => exE fun ao => exE fun ap => exE fun aX => exE fun ad => exE fun ae => exE fun af => exE fun aR => exE fun aa => exE fun ab => exE fun ac => exE fun aM => exE fun aq => exE fun ar => exE fun au => exE fun aY => exE fun ag => exE fun ah => exE fun ai => exE fun aS => exE fun aj => exE fun ak => exE fun al => exE fun aT => exE fun aB => exE fun aF => exE fun aG => exE fun aH => exE fun ba => exE fun aC => exE fun aD => exE fun aE => exE fun a8 => exE fun av => exE fun aw => exE fun ax => exE fun a9 => andE fun hv27 => andE fun wH => andE fun hN19 => andE fun aO => andE fun aJ => andE fun aI => andE fun aN => andE fun ay => andE fun aL => andE fun a6 => andE fun a7 => andE fun aP => fun H => ?_
  subst hv27
  clear hcase20
  replace H := oElimS H
  have j8 := Stp.more hO wH hN19
  dsimp only [List.cons_append, List.nil_append] at j8
  replace hO := j8.own
  replace aZ := aZ.ch j8.ch
  replace aU := aU.ch j8.ch
  replace aK := aK.ch j8.ch
  replace a5 := a5.ch j8.ch
  replace aV := aV.ch j8.ch
  replace aW := aW.ch j8.ch
  replace hB := hB.trans j8.fr
  replace aO := aO.ch (Ch.assoc _ _ _ _)
  dsimp only [List.cons_append, List.nil_append] at aO
  replace aJ := aJ.ch (Ch.assoc _ _ _ _)
  dsimp only [List.cons_append, List.nil_append] at aJ
  replace aI := aI.ch (Ch.assoc _ _ _ _)
  dsimp only [List.cons_append, List.nil_append] at aI
  replace aN := aN.ch (Ch.assoc _ _ _ _)
  dsimp only [List.cons_append, List.nil_append] at aN
  replace ay := ay.ch (Ch.assoc _ _ _ _)
  dsimp only [List.cons_append, List.nil_append] at ay
  replace aL := aL.ch (Ch.assoc _ _ _ _)
  dsimp only [List.cons_append, List.nil_append] at aL
  replace a6 := a6.ch (Ch.assoc _ _ _ _)
  dsimp only [List.cons_append, List.nil_append] at a6
  replace a7 := a7.ch (Ch.assoc _ _ _ _)
  dsimp only [List.cons_append, List.nil_append] at a7
  replace aP := aP.ch (Ch.assoc _ _ _ _)
  dsimp only [List.cons_append, List.nil_append] at aP
  refine GoR.op ((op_move rfl) _) rfl rfl ?_
  refine GoR.op ((op_extract rfl rfl) _) rfl rfl ?_
  refine GoR.op ((op_extract rfl rfl) _) rfl rfl ?_
  refine GoR.op ((op_assign rfl) _) rfl rfl ?_
  refine GoR.op ((op_assign rfl) _) rfl rfl ?_
  refine GoR.nil ?_
  refine Go1.seq ?_
  refine Go1.region ?_
  refine GoR.op ((op_move rfl) _) rfl rfl ?_
  refine GoR.op ((op_move rfl) _) rfl rfl ?_
  refine GoR.op ((op_move rfl) _) rfl rfl ?_
  cases r15
  ·replace H := ifn Bool.false_ne_true H
   refine GoR.pass rfl rfl ?_
   refine GoR.pass rfl rfl ?_
   refine GoR.op ((op_pickF rfl rfl rfl) _) rfl rfl ?_
   refine GoR.op ((op_assign rfl) _) rfl rfl ?_
   refine GoR.op ((op_assign rfl) _) rfl rfl ?_
   refine GoR.nil ?_
   refine Go1.ret2V Try.func57 rfl (show _ = .pointer (some ⟨bO, 0, none⟩) from rfl) (show _ = .bool false from rfl) ?_
   refine hR7 _ _ ?_
   refine GoR.op ((op_move rfl) _) rfl rfl ?_
   refine GoR.op ((op_extract rfl rfl) _) rfl rfl ?_
   refine GoR.op ((op_extract rfl rfl) _) rfl rfl ?_
   refine GoR.op ((op_assign rfl) _) rfl rfl ?_
   refine GoR.op ((op_assign rfl) _) rfl rfl ?_
   refine GoR.nil ?_
   refine Go1.seq ?_
   refine Go1.seq ?_
   refine Go1.cut [(1, .int .i64 i), (2, .int .i64 j), (7, .pointer (some ⟨bO, 0, none⟩)), (8, .bool false)] ⟨rfl, rfl, rfl, rfl, trivial⟩ ?_
   intro σ _
   refine Go1.region ?_
   refine GoR.op ((op_move rfl) _) rfl rfl ?_
   refine GoR.op ((op_not rfl) _) rfl rfl ?_
   refine GoR.op ((op_move rfl) _) rfl rfl ?_
   refine GoR.pass rfl rfl ?_
   refine GoR.pass rfl rfl ?_
   refine GoR.pass rfl rfl ?_
   refine GoR.pass rfl rfl ?_
   refine GoR.op ((op_pickT rfl rfl rfl) _) rfl rfl ?_
   refine GoR.op ((op_move rfl) _) rfl rfl ?_
   refine GoR.pass rfl rfl ?_
   refine GoR.pass rfl rfl ?_
   refine GoR.pass rfl rfl ?_
   refine GoR.pass rfl rfl ?_
   refine GoR.pass rfl rfl ?_
   refine GoR.pass rfl rfl ?_
   refine GoR.pass rfl rfl ?_
   refine GoR.pass rfl rfl ?_
   refine GoR.pass rfl rfl ?_
   refine GoR.pass rfl rfl ?_
   refine GoR.op ((op_pickT rfl rfl rfl) _) rfl rfl ?_
   refine GoR.nil ?_
   refine Go1.condT rfl rfl ?_
   refine Go1.seq ?_
   refine Go1.cut [] trivial ?_
   intro σ _
   refine Go1.region ?_
   refine GoR.op ((op_assign rfl) _) rfl rfl ?_
   refine GoR.nil ?_
   refine Go1.ret1 Try.func36 rfl ?_
   exact ⟨(-1 : Int), rfl, hB.same, H⟩
  replace H := ifp rfl H
  refine GoR.op ((op_move rfl) _) rfl rfl ?_
  refine GoR.inl (vs := [.pointer (some ⟨bO, 0, none⟩)]) (caps := []) rfl rfl body50 Try.func50 rfl Try.ntmps50 rfl rfl rfl ?_
  intro RhR40 hR40
  refine Go1.seq ?_
  refine Go1.region ?_
  refine GoR.op ((op_assign rfl) _) rfl rfl ?_
  refine GoR.nil ?_
  refine Go1.seq ?_
  refine Go1.drawS 0 [(0, .pure), (1, .pure), (2, .pure), (3, .pure), (4, .stable), (5, .pure), (6, .pure), (7, .pure), (8, .pure), (9, .stable), (10, .pure), (11, .pure), (12, .pure)] mixed (by kernel_rfl) ?_
  intro w41 AI
  have fW := Stp.same hO AI
  replace aO := aO.ch fW.ch
  replace aJ := aJ.ch fW.ch
  replace aI := aI.ch fW.ch
  replace aN := aN.ch fW.ch
  replace ay := ay.ch fW.ch
  replace aL := aL.ch fW.ch
  replace a6 := a6.ch fW.ch
  replace a7 := a7.ch fW.ch
  replace aP := aP.ch fW.ch
  replace hO := fW.own
  replace aZ := aZ.ch fW.ch
  replace aU := aU.ch fW.ch
  replace aK := aK.ch fW.ch
  replace a5 := a5.ch fW.ch
  replace aV := aV.ch fW.ch
  replace aW := aW.ch fW.ch
  replace hB := hB.trans fW.fr
  refine GoQ.pure rfl (op_move rfl) rfl rfl ?_
  refine GoQ.pure rfl (op_nilCheck rfl) rfl rfl ?_
  refine GoQ.pure rfl (op_fieldAddr Try.underlying72 rfl ti29 rfl (by decide)) rfl rfl ?_
  refine GoQ.pure rfl (op_fieldAddr Try.underlying29 rfl ti3 rfl (by decide)) rfl rfl ?_
  refine GoQ.stable rfl (oblk (i := 8) 0 hO rfl rfl Try.underlying3 rfl rfl) rfl rfl ?_
  refine GoQ.pure rfl (op_move rfl) rfl rfl ?_
  refine GoQ.pure rfl (op_nilCheck rfl) rfl rfl ?_
  refine GoQ.pure rfl (op_fieldAddr Try.underlying72 rfl ti29 rfl (by decide)) rfl rfl ?_
  refine GoQ.pure rfl (op_fieldAddr Try.underlying29 rfl ti22 rfl (by decide)) rfl rfl ?_
  refine GoQ.stable rfl (oblk (i := 3) 0 hO rfl rfl Try.underlying22 rfl rfl) rfl rfl ?_
  refine GoQ.pure rfl (op_lenN Try.underlying22 rfl (aJ.neq hO 2 rfl)) rfl rfl ?_
  by_cases h44 : r14.Enum.Done = (r14.Enum.Elems.length : Int)
  ·replace H := ifp h44 H
   refine GoQ.pure rfl (fun w => opB (op_eql rfl rfl w) (decide_eq_true h44)) rfl rfl ?_
   refine GoQ.pure rfl (op_assign rfl) rfl rfl ?_
   refine GoQ.nil ?_
   refine Go1.ret1V Try.func50 rfl (show _ = .bool true from rfl) ?_
   refine hR40 _ _ ?_
   refine GoR.op ((op_pickT rfl rfl rfl) _) rfl rfl ?_
   refine GoR.op ((op_assign rfl) _) rfl rfl ?_
   refine GoR.op ((op_assign rfl) _) rfl rfl ?_
   refine GoR.nil ?_
   refine Go1.ret2V Try.func57 rfl (show _ = .pointer (some ⟨bO, 0, none⟩) from rfl) (show _ = .bool true from rfl) ?_
   refine hR7 _ _ ?_
   refine GoR.op ((op_move rfl) _) rfl rfl ?_
   refine GoR.op ((op_extract rfl rfl) _) rfl rfl ?_
   refine GoR.op ((op_extract rfl rfl) _) rfl rfl ?_
   refine GoR.op ((op_assign rfl) _) rfl rfl ?_
   refine GoR.op ((op_assign rfl) _) rfl rfl ?_
   refine GoR.nil ?_
   refine Go1.seq ?_
   refine Go1.seq ?_
   refine Go1.cut [(1, .int .i64 i), (2, .int .i64 j), (7, .pointer (some ⟨bO, 0, none⟩)), (8, .bool true)] ⟨rfl, rfl, rfl, rfl, trivial⟩ ?_
   intro σ _
   refine Go1.region ?_
   refine GoR.op ((op_move rfl) _) rfl rfl ?_
   refine GoR.op ((op_not rfl) _) rfl rfl ?_
   refine GoR.op ((op_move rfl) _) rfl rfl ?_
   refine GoR.op ((op_move rfl) _) rfl rfl ?_
   refine GoR.op ((op_move rfl) _) rfl rfl ?_
   by_cases h45 : j < i
   ·replace H := ifp h45 H
    refine GoR.op ((op_minT rfl rfl h45) _) rfl rfl ?_
    by_cases h46 : j < (0 : Int)
    ·replace H := ifp h46 H
     refine GoR.op ((fun w => opB (op_lss rfl rfl w) (decide_eq_true h46)) _) rfl rfl ?_
     refine GoR.op ((op_pickF rfl rfl rfl) _) rfl rfl ?_
     refine GoR.op ((op_move rfl) _) rfl rfl ?_
     refine GoR.pass rfl rfl ?_
     refine GoR.pass rfl rfl ?_
     refine GoR.pass rfl rfl ?_
     refine GoR.pass rfl rfl ?_
     refine GoR.pass rfl rfl ?_
     refine GoR.pass rfl rfl ?_
     refine GoR.pass rfl rfl ?_
     refine GoR.pass rfl rfl ?_
     refine GoR.pass rfl rfl ?_
     refine GoR.pass rfl rfl ?_
     refine GoR.op ((op_pickT rfl rfl rfl) _) rfl rfl ?_
     refine GoR.nil ?_
     refine Go1.condT rfl rfl ?_
     refine Go1.seq ?_
     refine Go1.cut [] trivial ?_
     intro σ _
     refine Go1.region ?_
     refine GoR.op ((op_assign rfl) _) rfl rfl ?_
     refine GoR.nil ?_
     refine Go1.ret1 Try.func36 rfl ?_
     exact ⟨(-1 : Int), rfl, hB.same, H⟩
    replace H := ifn h46 H
    refine GoR.op ((fun w => opB (op_lss rfl rfl w) (decide_eq_false h46)) _) rfl rfl ?_
    refine GoR.op ((op_pickF rfl rfl rfl) _) rfl rfl ?_
    refine GoR.op ((op_move rfl) _) rfl rfl ?_
    refine GoR.op ((op_move rfl) _) rfl rfl ?_
    refine GoR.op ((op_move rfl) _) rfl rfl ?_
    by_cases h47 : i < j
    ·replace H := ifp h47 H
     refine GoR.op ((op_maxT rfl rfl h47) _) rfl rfl ?_
     refine GoR.op ((op_move rfl) _) rfl rfl ?_
     refine GoR.op ((op_nilCheck rfl) _) rfl rfl ?_
     refine GoR.op ((op_fieldAddr Try.underlying72 rfl ti29 rfl (by decide)) _) rfl rfl ?_
     refine GoR.op ((op_fieldAddr Try.underlying29 rfl ti22 rfl (by decide)) _) rfl rfl ?_
     refine GoR.op ((oblk (i := 3) 0 hO rfl rfl Try.underlying22 rfl rfl) _ (Same.refl _)) rfl rfl ?_
     refine GoR.op ((op_lenN Try.underlying22 rfl (aJ.neq hO 2 rfl)) _) rfl rfl ?_
     by_cases h48 : (r14.Enum.Elems.length : Int) ≤ j
     ·replace H := ifp h48 H
      refine GoR.op ((fun w => opB (op_geq rfl rfl w) (decide_eq_true h48)) _) rfl rfl ?_
      refine GoR.op ((op_pickF rfl rfl rfl) _) rfl rfl ?_
      refine GoR.nil ?_
      refine Go1.condT rfl rfl ?_
      refine Go1.seq ?_
      refine Go1.region ?_
      refine GoR.op ((op_assign rfl) _) rfl rfl ?_
      refine GoR.nil ?_
      refine Go1.ret1 Try.func36 rfl ?_
      exact ⟨(-1 : Int), rfl, hB.same, H⟩
     replace H := ifn h48 H
     refine GoR.op ((fun w => opB (op_geq rfl rfl w) (decide_eq_false h48)) _) rfl rfl ?_
     refine GoR.op ((op_pickF rfl rfl rfl) _) rfl rfl ?_
     refine GoR.nil ?_
     refine Go1.condF rfl rfl ?_
     refine Go1.skip ?_
     refine Go1.seq ?_
     refine Go1.region ?_
     refine GoR.op ((op_move rfl) _) rfl rfl ?_
     refine GoR.op ((op_move rfl) _) rfl rfl ?_
     refine GoR.op ((op_move rfl) _) rfl rfl ?_
     refine GoR.op ((op_nilCheck rfl) _) rfl rfl ?_
     refine GoR.op ((op_fieldAddr Try.underlying72 rfl ti70 rfl (by decide)) _) rfl rfl ?_
     refine GoR.op ((oblk (i := 10) 0 hO rfl rfl Try.underlying70 rfl rfl) _ (Same.refl _)) rfl rfl ?_
     refine GoR.op ((op_move rfl) _) rfl rfl ?_
     obtain ⟨h49, H⟩ := H
     obtain ⟨h50, H⟩ := H
     refine GoR.op ((op_index Try.underlying70 ti9 rfl rfl h49 (ltn (a6.neq hO 7 rfl) h50) (a6.psome hO 7 rfl h49 h50)) _) rfl rfl ?_
     refine GoR.op ((oldStr 7 hO rfl a6 h49 h50 Try.underlying9 rfl rfl) _ (Same.refl _)) rfl rfl ?_
     have hle51 := Els.str_le a6 h49 h50
     refine GoR.inl (vs := [.pointer (some ⟨bO, 0, none⟩), .int .i64 i, .string (gstr (ix r14.words j))]) (caps := []) rfl rfl body59 Try.func59 rfl Try.ntmps59 rfl rfl rfl ?_
     intro RhR52 hR52
     refine Go1.seq ?_
     refine Go1.cut [(0, .pointer (some ⟨bO, 0, none⟩)), (1, .int .i64 i), (2, .string (gstr (ix r14.words j)))] ⟨rfl, rfl, rfl, trivial⟩ ?_
     intro σ _
     refine Go1.region ?_
     refine GoR.op ((op_assign rfl) _) rfl rfl ?_
     refine GoR.nil ?_
     refine Go1.seq ?_
     refine Go1.seq ?_
     refine Go1.region ?_
     refine GoR.op ((op_move rfl) _) rfl rfl ?_
     by_cases h53 : i = (-1 : Int)
     ·replace H := ifp h53 H
      refine GoR.op ((fun w => opB (op_eql rfl rfl w) (decide_eq_true h53)) _) rfl rfl ?_
      refine GoR.op ((op_move rfl) _) rfl rfl ?_
      refine GoR.op ((op_move rfl) _) rfl rfl ?_
      by_cases h54 : (ix r14.words j) = (([] : Str))
      ·replace H := ifp h54 H
       refine GoR.op ((fun w => opB (op_eqlS rfl rfl w) (decide_eq_true h54)) _) rfl rfl ?_
       refine GoR.op ((op_pickT rfl rfl rfl) _) rfl rfl ?_
       refine GoR.nil ?_
       refine Go1.condT rfl rfl ?_
       refine Go1.seq ?_
       refine Go1.region ?_
       refine GoR.op ((op_assign rfl) _) rfl rfl ?_
       refine GoR.nil ?_
       refine Go1.ret1V Try.func59 rfl (show _ = .int .i64 (0 : Int) from rfl) ?_
       refine hR52 _ _ ?_
       refine GoR.op ((op_assign rfl) _) rfl rfl ?_
       refine GoR.nil ?_
       refine Go1.ret1 Try.func36 rfl ?_
       exact ⟨(0 : Int), rfl, hB.same, H⟩
      replace H := ifn h54 H
      refine GoR.op ((fun w => opB (op_eqlS rfl rfl w) (decide_eq_false h54)) _) rfl rfl ?_
      refine GoR.op ((op_pickT rfl rfl rfl) _) rfl rfl ?_
      refine GoR.nil ?_
      refine Go1.condF rfl rfl ?_
      refine Go1.skip ?_
      refine Go1.seq ?_
      refine Go1.seq ?_
      refine Go1.region ?_
      refine GoR.op ((op_move rfl) _) rfl rfl ?_
      refine GoR.op ((op_lenS Try.underlying9 rfl) _) rfl rfl ?_
      replace H := H hle51
      refine GoR.op ((op_move rfl) _) rfl rfl ?_
      refine GoR.nil ?_
      refine Go1.block ?_
      replace aZ := aZ.ch (Owns.dropCh _ _ 11)
      replace aU := aU.ch (Owns.dropCh _ _ 11)
      replace aK := aK.ch (Owns.dropCh _ _ 11)
      replace a5 := a5.ch (Owns.dropCh _ _ 11)
      replace aV := aV.ch (Owns.dropCh _ _ 11)
      replace aW := aW.ch (Owns.dropCh _ _ 11)
      replace aO := aO.ch (Owns.dropCh _ _ 11)
      replace aJ := aJ.ch (Owns.dropCh _ _ 11)
      replace aI := aI.ch (Owns.dropCh _ _ 11)
      replace aN := aN.ch (Owns.dropCh _ _ 11)
      replace ay := ay.ch (Owns.dropCh _ _ 11)
      replace aL := aL.ch (Owns.dropCh _ _ 11)
      replace a6 := a6.ch (Owns.dropCh _ _ 11)
      replace a7 := a7.ch (Owns.dropCh _ _ 11)
      replace aP := aP.ch (Owns.dropCh _ _ 11)
      replace hB := hB.trans (Owns.dropFr _ _ 11)
      replace hO := hO.drop 11
      dsimp only [eS, eZ] at hB hO aZ aU aK a5 aV aW aO aJ aI aN ay aL a6 a7 aP
      replace aZ := aZ.ch (Owns.dropCh _ _ 11)
      replace aU := aU.ch (Owns.dropCh _ _ 11)
      replace aK := aK.ch (Owns.dropCh _ _ 11)
      replace a5 := a5.ch (Owns.dropCh _ _ 11)
      replace aV := aV.ch (Owns.dropCh _ _ 11)
      replace aW := aW.ch (Owns.dropCh _ _ 11)
      replace aO := aO.ch (Owns.dropCh _ _ 11)
      replace aJ := aJ.ch (Owns.dropCh _ _ 11)
      replace aI := aI.ch (Owns.dropCh _ _ 11)
      replace aN := aN.ch (Owns.dropCh _ _ 11)
      replace ay := ay.ch (Owns.dropCh _ _ 11)
      replace aL := aL.ch (Owns.dropCh _ _ 11)
      replace a6 := a6.ch (Owns.dropCh _ _ 11)
      replace a7 := a7.ch (Owns.dropCh _ _ 11)
      replace aP := aP.ch (Owns.dropCh _ _ 11)
      replace hB := hB.trans (Owns.dropFr _ _ 11)
      replace hO := hO.drop 11
      dsimp only [eS, eZ] at hB hO aZ aU aK a5 aV aW aO aJ aI aN ay aL a6 a7 aP
      refine Go1.loopW (S := Int × Nat) (fun s σ w => match s with | (i1_56, k1_57) => agrees σ [(0, .pointer (some ⟨bO, 0, none⟩)), (1, .int .i64 i1_56), (2, .string (gstr (ix r14.words j))), (15, .int .i64 ((ix r14.words j).length : Int)), (16, .int .i64 (k1_57 : Int))] ∧ Owns w0.heap.size w [.blk bO (.cells #[.int .i64 r14.Enum.Points, .bool r14.Enum.Monoid, .slice ao am ap, .slice ae ad af, .slice ab aa ac, .slice ar aq au, .slice ah ag ai, .slice ak aj al, .int .i64 r14.Enum.Done, .map (some aB), .slice aG aF aH, .slice aD aC aE, .slice aw av ax] 72 (0, 0)), .row 26 1 ao am ap aX, .row 26 1 ae ad af aR, .row 3 1 ab aa ac aM, .row 3 1 ar aq au aY, .row 26 1 ah ag ai aS, .row 39 2 ak aj al aT, .row 9 1 aG aF aH ba, .row 3 1 aD aC aE a8, .row 3 1 aw av ax a9, .any (mapE (fun a : List UInt8 => Value.string (gstr a)) (fun a : Int => Value.int .i64 a) aB r14.number)] A ∧ Els (Rp.sl (Rp.int .i64)) (bl [.blk bO (.cells #[.int .i64 r14.Enum.Points, .bool r14.Enum.Monoid, .slice ao am ap, .slice ae ad af, .slice ab aa ac, .slice ar aq au, .slice ah ag ai, .slice ak aj al, .int .i64 r14.Enum.Done, .map (some aB), .slice aG aF aH, .slice aD aC aE, .slice aw av ax] 72 (0, 0)), .row 26 1 ao am ap aX, .row 26 1 ae ad af aR, .row 3 1 ab aa ac aM, .row 3 1 ar aq au aY, .row 26 1 ah ag ai aS, .row 39 2 ak aj al aT, .row 9 1 aG aF aH ba, .row 3 1 aD aC aE a8, .row 3 1 aw av ax a9, .any (mapE (fun a : List UInt8 => Value.string (gstr a)) (fun a : Int => Value.int .i64 a) aB r14.number)] ++ A) w aX r14.Enum.Gens ∧ Els (Rp.sl (Rp.int .i64)) (bl [.blk bO (.cells #[.int .i64 r14.Enum.Points, .bool r14.Enum.Monoid, .slice ao am ap, .slice ae ad af, .slice ab aa ac, .slice ar aq au, .slice ah ag ai, .slice ak aj al, .int .i64 r14.Enum.Done, .map (some aB), .slice aG aF aH, .slice aD aC aE, .slice aw av ax] 72 (0, 0)), .row 26 1 ao am ap aX, .row 26 1 ae ad af aR, .row 3 1 ab aa ac aM, .row 3 1 ar aq au aY, .row 26 1 ah ag ai aS, .row 39 2 ak aj al aT, .row 9 1 aG aF aH ba, .row 3 1 aD aC aE a8, .row 3 1 aw av ax a9, .any (mapE (fun a : List UInt8 => Value.string (gstr a)) (fun a : Int => Value.int .i64 a) aB r14.number)] ++ A) w aR r14.Enum.Elems ∧ Els (Rp.int .i64) (bl [.blk bO (.cells #[.int .i64 r14.Enum.Points, .bool r14.Enum.Monoid, .slice ao am ap, .slice ae ad af, .slice ab aa ac, .slice ar aq au, .slice ah ag ai, .slice ak aj al, .int .i64 r14.Enum.Done, .map (some aB), .slice aG aF aH, .slice aD aC aE, .slice aw av ax] 72 (0, 0)), .row 26 1 ao am ap aX, .row 26 1 ae ad af aR, .row 3 1 ab aa ac aM, .row 3 1 ar aq au aY, .row 26 1 ah ag ai aS, .row 39 2 ak aj al aT, .row 9 1 aG aF aH ba, .row 3 1 aD aC aE a8, .row 3 1 aw av ax a9, .any (mapE (fun a : List UInt8 => Value.string (gstr a)) (fun a : Int => Value.int .i64 a) aB r14.number)] ++ A) w aM r14.Enum.Prefix ∧ Els (Rp.int .i64) (bl [.blk bO (.cells #[.int .i64 r14.Enum.Points, .bool r14.Enum.Monoid, .slice ao am ap, .slice ae ad af, .slice ab aa ac, .slice ar aq au, .slice ah ag ai, .slice ak aj al, .int .i64 r14.Enum.Done, .map (some aB), .slice aG aF aH, .slice aD aC aE, .slice aw av ax] 72 (0, 0)), .row 26 1 ao am ap aX, .row 26 1 ae ad af aR, .row 3 1 ab aa ac aM, .row 3 1 ar aq au aY, .row 26 1 ah ag ai aS, .row 39 2 ak aj al aT, .row 9 1 aG aF aH ba, .row 3 1 aD aC aE a8, .row 3 1 aw av ax a9, .any (mapE (fun a : List UInt8 => Value.string (gstr a)) (fun a : Int => Value.int .i64 a) aB r14.number)] ++ A) w aY r14.Enum.Last ∧ Els (Rp.sl (Rp.int .i64)) (bl [.blk bO (.cells #[.int .i64 r14.Enum.Points, .bool r14.Enum.Monoid, .slice ao am ap, .slice ae ad af, .slice ab aa ac, .slice ar aq au, .slice ah ag ai, .slice ak aj al, .int .i64 r14.Enum.Done, .map (some aB), .slice aG aF aH, .slice aD aC aE, .slice aw av ax] 72 (0, 0)), .row 26 1 ao am ap aX, .row 26 1 ae ad af aR, .row 3 1 ab aa ac aM, .row 3 1 ar aq au aY, .row 26 1 ah ag ai aS, .row 39 2 ak aj al aT, .row 9 1 aG aF aH ba, .row 3 1 aD aC aE a8, .row 3 1 aw av ax a9, .any (mapE (fun a : List UInt8 => Value.string (gstr a)) (fun a : Int => Value.int .i64 a) aB r14.number)] ++ A) w aS r14.Enum.Right ∧ Els (rpRule) (bl [.blk bO (.cells #[.int .i64 r14.Enum.Points, .bool r14.Enum.Monoid, .slice ao am ap, .slice ae ad af, .slice ab aa ac, .slice ar aq au, .slice ah ag ai, .slice ak aj al, .int .i64 r14.Enum.Done, .map (some aB), .slice aG aF aH, .slice aD aC aE, .slice aw av ax] 72 (0, 0)), .row 26 1 ao am ap aX, .row 26 1 ae ad af aR, .row 3 1 ab aa ac aM, .row 3 1 ar aq au aY, .row 26 1 ah ag ai aS, .row 39 2 ak aj al aT, .row 9 1 aG aF aH ba, .row 3 1 aD aC aE a8, .row 3 1 aw av ax a9, .any (mapE (fun a : List UInt8 => Value.string (gstr a)) (fun a : Int => Value.int .i64 a) aB r14.number)] ++ A) w aT r14.Enum.Rules ∧ Els (Rp.str) (bl [.blk bO (.cells #[.int .i64 r14.Enum.Points, .bool r14.Enum.Monoid, .slice ao am ap, .slice ae ad af, .slice ab aa ac, .slice ar aq au, .slice ah ag ai, .slice ak aj al, .int .i64 r14.Enum.Done, .map (some aB), .slice aG aF aH, .slice aD aC aE, .slice aw av ax] 72 (0, 0)), .row 26 1 ao am ap aX, .row 26 1 ae ad af aR, .row 3 1 ab aa ac aM, .row 3 1 ar aq au aY, .row 26 1 ah ag ai aS, .row 39 2 ak aj al aT, .row 9 1 aG aF aH ba, .row 3 1 aD aC aE a8, .row 3 1 aw av ax a9, .any (mapE (fun a : List UInt8 => Value.string (gstr a)) (fun a : Int => Value.int .i64 a) aB r14.number)] ++ A) w ba r14.words ∧ Els (Rp.int .i64) (bl [.blk bO (.cells #[.int .i64 r14.Enum.Points, .bool r14.Enum.Monoid, .slice ao am ap, .slice ae ad af, .slice ab aa ac, .slice ar aq au, .slice ah ag ai, .slice ak aj al, .int .i64 r14.Enum.Done, .map (some aB), .slice aG aF aH, .slice aD aC aE, .slice aw av ax] 72 (0, 0)), .row 26 1 ao am ap aX, .row 26 1 ae ad af aR, .row 3 1 ab aa ac aM, .row 3 1 ar aq au aY, .row 26 1 ah ag ai aS, .row 39 2 ak aj al aT, .row 9 1 aG aF aH ba, .row 3 1 aD aC aE a8, .row 3 1 aw av ax a9, .any (mapE (fun a : List UInt8 => Value.string (gstr a)) (fun a : Int => Value.int .i64 a) aB r14.number)] ++ A) w a8 r14.behind ∧ Els (Rp.int .i64) (bl [.blk bO (.cells #[.int .i64 r14.Enum.Points, .bool r14.Enum.Monoid, .slice ao am ap, .slice ae ad af, .slice ab aa ac, .slice ar aq au, .slice ah ag ai, .slice ak aj al, .int .i64 r14.Enum.Done, .map (some aB), .slice aG aF aH, .slice aD aC aE, .slice aw av ax] 72 (0, 0)), .row 26 1 ao am ap aX, .row 26 1 ae ad af aR, .row 3 1 ab aa ac aM, .row 3 1 ar aq au aY, .row 26 1 ah ag ai aS, .row 39 2 ak aj al aT, .row 9 1 aG aF aH ba, .row 3 1 aD aC aE a8, .row 3 1 aw av ax a9, .any (mapE (fun a : List UInt8 => Value.string (gstr a)) (fun a : Int => Value.int .i64 a) aB r14.number)] ++ A) w a9 r14.single ∧ Fr (bl []) w0 (bl [.blk bO (.cells #[.int .i64 r14.Enum.Points, .bool r14.Enum.Monoid, .slice ao am ap, .slice ae ad af, .slice ab aa ac, .slice ar aq au, .slice ah ag ai, .slice ak aj al, .int .i64 r14.Enum.Done, .map (some aB), .slice aG aF aH, .slice aD aC aE, .slice aw av ax] 72 (0, 0)), .row 26 1 ao am ap aX, .row 26 1 ae ad af aR, .row 3 1 ab aa ac aM, .row 3 1 ar aq au aY, .row 26 1 ah ag ai aS, .row 39 2 ak aj al aT, .row 9 1 aG aF aH ba, .row 3 1 aD aC aE a8, .row 3 1 aw av ax a9, .any (mapE (fun a : List UInt8 => Value.string (gstr a)) (fun a : Int => Value.int .i64 a) aB r14.number)]) w) H ⟨⟨rfl, rfl, rfl, rfl, rfl, trivial⟩, hO, aO, aJ, aI, aN, ay, aL, a6, a7, aP, hB⟩ ?_
      intro X1
      refine prE fun i1_56 => fun k1_57 => ?_
      intro H hX1 σ w55
      refine andE fun hag => andE fun hO => andE fun aO => andE fun aJ => andE fun aI => andE fun aN => andE fun ay => andE fun aL => andE fun a6 => andE fun a7 => andE fun aP => fun hB => ?_
      dsimp only at H
      refine Go1.keep [(0, .pointer (some ⟨bO, 0, none⟩)), (1, .int .i64 i1_56), (2, .string (gstr (ix r14.words j))), (15, .int .i64 ((ix r14.words j).length : Int)), (16, .int .i64 (k1_57 : Int))] hag ?_
      refine Go1.seq ?_
      refine Go1.region ?_
      by_cases h58 : (k1_57 : Int) < ((ix r14.words j).length : Int)
      ·replace H := ifp h58 H
       refine GoR.op ((fun w => opB (op_lss rfl rfl w) (decide_eq_true h58)) _) rfl rfl ?_
       refine GoR.nil ?_
       refine Go1.seq ?_
       refine Go1.condT rfl rfl ?_
       refine Go1.skip ?_
       refine Go1.seq ?_
       refine Go1.block ?_
       refine Go1.seq ?_
       refine Go1.region ?_
       refine GoR.op ((op_move rfl) _) rfl rfl ?_
       refine GoR.op ((op_assign rfl) _) rfl rfl ?_
       refine GoR.nil ?_
       refine Go1.region ?_
       refine GoR.op ((op_move rfl) _) rfl rfl ?_
       refine GoR.op ((op_move rfl) _) rfl rfl ?_
       refine GoR.op ((op_move rfl) _) rfl rfl ?_
       refine GoR.op ((op_move rfl) _) rfl rfl ?_
       obtain ⟨h59, H⟩ := H
       obtain ⟨h60, H⟩ := H
       refine GoR.op ((op_indexS Try.underlying9 rfl rfl h59 h60) _) rfl rfl ?_
       refine GoR.op ((op_sub rfl rfl rfl) _) rfl rfl ?_
       refine GoR.op ((op_conv Try.underlying5 Try.underlying3 rfl rfl) _) rfl rfl ?_
       refine GoR.inl (vs := [.pointer (some ⟨bO, 0, none⟩), .int .i64 i1_56, .int .i64 (IntKind.i64.wrap (IntKind.u8.wrap (((ix (ix r14.words j) (k1_57 : Int)).toNat : Int) - (97 : Int))))]) (caps := []) rfl rfl body66 Try.func66 rfl Try.ntmps66 rfl rfl rfl ?_
       intro RhR61 hR61
       refine Go1.seq ?_
       refine Go1.region ?_
       refine GoR.op ((op_assign rfl) _) rfl rfl ?_
       refine GoR.nil ?_
       refine Go1.seq ?_
       refine Go1.seq ?_
       refine Go1.region ?_
       refine GoR.op ((op_move rfl) _) rfl rfl ?_
       by_cases h62 : i1_56 = (-1 : Int)
       ·replace H := ifp h62 H
        refine GoR.op ((fun w => opB (op_eql rfl rfl w) (decide_eq_true h62)) _) rfl rfl ?_
        refine GoR.nil ?_
        refine Go1.condT rfl rfl ?_
        refine Go1.seq ?_
        refine Go1.region ?_
        refine GoR.op ((op_move rfl) _) rfl rfl ?_
        refine GoR.op ((op_nilCheck rfl) _) rfl rfl ?_
        refine GoR.op ((op_fieldAddr Try.underlying72 rfl ti26 rfl (by decide)) _) rfl rfl ?_
        refine GoR.op ((oblk (i := 12) 0 hO rfl rfl Try.underlying26 rfl rfl) _ (Same.refl _)) rfl rfl ?_
        refine GoR.op ((op_move rfl) _) rfl rfl ?_
        obtain ⟨h63, H⟩ := H
        obtain ⟨h64, H⟩ := H
        refine GoR.op ((op_index Try.underlying26 ti3 rfl rfl h63 (ltn (aP.neq hO 9 rfl) h64) (aP.psome hO 9 rfl h63 h64)) _) rfl rfl ?_
        refine GoR.op ((oldInt 9 hO rfl aP h63 h64 Try.underlying3 rfl rfl) _ (Same.refl _)) rfl rfl ?_
        refine GoR.op ((op_assign rfl) _) rfl rfl ?_
        refine GoR.nil ?_
        refine Go1.ret1V Try.func66 rfl (show _ = .int .i64 (ix r14.single (IntKind.i64.wrap (IntKind.u8.wrap (((ix (ix r14.words j) (k1_57 : Int)).toNat : Int) - (97 : Int))))) from rfl) ?_
        refine hR61 _ _ ?_
        refine GoR.op ((op_assign rfl) _) rfl rfl ?_
        refine GoR.nil ?_
        refine Go1.inBlock ?_
        refine Go1.cut [(0, .pointer (some ⟨bO, 0, none⟩)), (1, .int .i64 (ix r14.single (IntKind.i64.wrap (IntKind.u8.wrap (((ix (ix r14.words j) (k1_57 : Int)).toNat : Int) - (97 : Int)))))), (2, .string (gstr (ix r14.words j))), (15, .int .i64 ((ix r14.words j).length : Int)), (16, .int .i64 (k1_57 : Int))] ⟨rfl, rfl, rfl, rfl, rfl, trivial⟩ ?_
        intro σ _
        refine Go1.region ?_
        refine GoR.op ((op_add rfl rfl (wrap_i64 (natbd h58 hle51))) _) rfl rfl ?_
        refine GoR.op ((op_move rfl) _) rfl rfl ?_
        refine GoR.nil ?_
        exact hX1 _ H _ _ ⟨⟨rfl, rfl, rfl, rfl, rfl, trivial⟩, hO, aO, aJ, aI, aN, ay, aL, a6, a7, aP, hB⟩
       replace H := ifn h62 H
       refine GoR.op ((fun w => opB (op_eql rfl rfl w) (decide_eq_false h62)) _) rfl rfl ?_
       refine GoR.nil ?_
       refine Go1.condF rfl rfl ?_
       refine Go1.skip ?_
       refine Go1.seq ?_
       refine Go1.region ?_
       refine GoR.op ((op_move rfl) _) rfl rfl ?_
       refine GoR.op ((op_nilCheck rfl) _) rfl rfl ?_
       refine GoR.op ((op_fieldAddr Try.underlying72 rfl ti29 rfl (by decide)) _) rfl rfl ?_
       refine GoR.op ((op_fieldAddr Try.underlying29 rfl ti22 rfl (by decide)) _) rfl rfl ?_
       refine GoR.op ((oblk (i := 6) 0 hO rfl rfl Try.underlying22 rfl rfl) _ (Same.refl _)) rfl rfl ?_
       refine GoR.op ((op_move rfl) _) rfl rfl ?_
       obtain ⟨h65, H⟩ := H
       obtain ⟨h66, H⟩ := H
       refine GoR.op ((op_index Try.underlying22 ti26 rfl rfl h65 (ltn (ay.neq hO 5 rfl) h66) (ay.psome hO 5 rfl h65 h66)) _) rfl rfl ?_
       have hobt := oldSl 5 hO rfl ay h65 h66
       obtain ⟨p67, c68, uE, AJ⟩ := hobt
       refine GoR.op ((AJ Try.underlying26 rfl rfl) _ (Same.refl _)) rfl rfl ?_
       refine GoR.op ((op_move rfl) _) rfl rfl ?_
       obtain ⟨h71, H⟩ := H
       obtain ⟨h72, H⟩ := H
       refine GoR.op ((op_index Try.underlying26 ti3 rfl rfl h71 h72 (uE.some_ h71 h72)) _) rfl rfl ?_
       refine GoR.op ((ldInt uE h71 h72 Try.underlying3 rfl rfl) _ (Same.refl _)) rfl rfl ?_
       refine GoR.op ((op_assign rfl) _) rfl rfl ?_
       refine GoR.nil ?_
       refine Go1.ret1V Try.func66 rfl (show _ = .int .i64 (ix (ix r14.Enum.Right i1_56) (IntKind.i64.wrap (IntKind.u8.wrap (((ix (ix r14.words j) (k1_57 : Int)).toNat : Int) - (97 : Int))))) from rfl) ?_
       refine hR61 _ _ ?_
       refine GoR.op ((op_assign rfl) _) rfl rfl ?_
       refine GoR.nil ?_
       refine Go1.inBlock ?_
       refine Go1.region ?_
       refine GoR.op ((op_add rfl rfl (wrap_i64 (natbd h58 hle51))) _) rfl rfl ?_
       refine GoR.op ((op_move rfl) _) rfl rfl ?_
       refine GoR.nil ?_
       exact hX1 _ H _ _ ⟨⟨rfl, rfl, rfl, rfl, rfl, trivial⟩, hO, aO, aJ, aI, aN, ay, aL, a6, a7, aP, hB⟩
      replace H := ifn h58 H
      refine GoR.op ((fun w => opB (op_lss rfl rfl w) (decide_eq_false h58)) _) rfl rfl ?_
      refine GoR.nil ?_
      refine Go1.seq ?_
      refine Go1.condF rfl rfl ?_
      refine Go1.exit rfl ?_
      refine Go1.seq ?_
      refine Go1.region ?_
      refine GoR.op ((op_move rfl) _) rfl rfl ?_
      refine GoR.op ((op_assign rfl) _) rfl rfl ?_
      refine GoR.nil ?_
      refine Go1.ret1V Try.func59 rfl (show _ = .int .i64 i1_56 from rfl) ?_
      refine hR52 _ _ ?_
      refine GoR.op ((op_assign rfl) _) rfl rfl ?_
      refine GoR.nil ?_
      refine Go1.ret1 Try.func36 rfl ?_
      exact ⟨i1_56, rfl, hB.same, H⟩
     replace H := ifn h53 H
     refine GoR.op ((fun w => opB (op_eql rfl rfl w) (decide_eq_false h53)) _) rfl rfl ?_
     refine GoR.op ((op_move rfl) _) rfl rfl ?_
     refine GoR.pass rfl rfl ?_
     refine GoR.pass rfl rfl ?_
     refine GoR.op ((op_pickF rfl rfl rfl) _) rfl rfl ?_
     refine GoR.nil ?_
     refine Go1.condF rfl rfl ?_
     refine Go1.skip ?_
     refine Go1.seq ?_
     refine Go1.seq ?_
     refine Go1.cut [(0, .pointer (some ⟨bO, 0, none⟩)), (1, .int .i64 i), (2, .string (gstr (ix r14.words j)))] ⟨rfl, rfl, rfl, trivial⟩ ?_
     intro σ _
     refine Go1.region ?_
     refine GoR.op ((op_move rfl) _) rfl rfl ?_
     refine GoR.op ((op_lenS Try.underlying9 rfl) _) rfl rfl ?_
     replace H := H hle51
     refine GoR.op ((op_move rfl) _) rfl rfl ?_
     refine GoR.nil ?_
     refine Go1.block ?_
     replace aZ := aZ.ch (Owns.dropCh _ _ 11)
     replace aU := aU.ch (Owns.dropCh _ _ 11)
     replace aK := aK.ch (Owns.dropCh _ _ 11)
     replace a5 := a5.ch (Owns.dropCh _ _ 11)
     replace aV := aV.ch (Owns.dropCh _ _ 11)
     replace aW := aW.ch (Owns.dropCh _ _ 11)
     replace aO := aO.ch (Owns.dropCh _ _ 11)
     replace aJ := aJ.ch (Owns.dropCh _ _ 11)
     replace aI := aI.ch (Owns.dropCh _ _ 11)
     replace aN := aN.ch (Owns.dropCh _ _ 11)
     replace ay := ay.ch (Owns.dropCh _ _ 11)
     replace aL := aL.ch (Owns.dropCh _ _ 11)
     replace a6 := a6.ch (Owns.dropCh _ _ 11)
     replace a7 := a7.ch (Owns.dropCh _ _ 11)
     replace aP := aP.ch (Owns.dropCh _ _ 11)
     replace hB := hB.trans (Owns.dropFr _ _ 11)
     replace hO := hO.drop 11
     dsimp only [eS, eZ] at hB hO aZ aU aK a5 aV aW aO aJ aI aN ay aL a6 a7 aP
     replace aZ := aZ.ch (Owns.dropCh _ _ 11)
     replace aU := aU.ch (Owns.dropCh _ _ 11)
     replace aK := aK.ch (Owns.dropCh _ _ 11)
     replace a5 := a5.ch (Owns.dropCh _ _ 11)
     replace aV := aV.ch (Owns.dropCh _ _ 11)
     replace aW := aW.ch (Owns.dropCh _ _ 11)
     replace aO := aO.ch (Owns.dropCh _ _ 11)
     replace aJ := aJ.ch (Owns.dropCh _ _ 11)
     replace aI := aI.ch (Owns.dropCh _ _ 11)
     replace aN := aN.ch (Owns.dropCh _ _ 11)
     replace ay := ay.ch (Owns.dropCh _ _ 11)
     replace aL := aL.ch (Owns.dropCh _ _ 11)
     replace a6 := a6.ch (Owns.dropCh _ _ 11)
     replace a7 := a7.ch (Owns.dropCh _ _ 11)
     replace aP := aP.ch (Owns.dropCh _ _ 11)
     replace hB := hB.trans (Owns.dropFr _ _ 11)
     replace hO := hO.drop 11
     dsimp only [eS, eZ] at hB hO aZ aU aK a5 aV aW aO aJ aI aN ay aL a6 a7 aP
     refine Go1.loopW (S := Int × Nat) (fun s σ w => match s with | (i2_74, k2_75) => agrees σ [(0, .pointer (some ⟨bO, 0, none⟩)), (1, .int .i64 i2_74), (2, .string (gstr (ix r14.words j))), (15, .int .i64 ((ix r14.words j).length : Int)), (16, .int .i64 (k2_75 : Int))] ∧ Owns w0.heap.size w [.blk bO (.cells #[.int .i64 r14.Enum.Points, .bool r14.Enum.Monoid, .slice ao am ap, .slice ae ad af, .slice ab aa ac, .slice ar aq au, .slice ah ag ai, .slice ak aj al, .int .i64 r14.Enum.Done, .map (some aB), .slice aG aF aH, .slice aD aC aE, .slice aw av ax] 72 (0, 0)), .row 26 1 ao am ap aX, .row 26 1 ae ad af aR, .row 3 1 ab aa ac aM, .row 3 1 ar aq au aY, .row 26 1 ah ag ai aS, .row 39 2 ak aj al aT, .row 9 1 aG aF aH ba, .row 3 1 aD aC aE a8, .row 3 1 aw av ax a9, .any (mapE (fun a : List UInt8 => Value.string (gstr a)) (fun a : Int => Value.int .i64 a) aB r14.number)] A ∧ Els (Rp.sl (Rp.int .i64)) (bl [.blk bO (.cells #[.int .i64 r14.Enum.Points, .bool r14.Enum.Monoid, .slice ao am ap, .slice ae ad af, .slice ab aa ac, .slice ar aq au, .slice ah ag ai, .slice ak aj al, .int .i64 r14.Enum.Done, .map (some aB), .slice aG aF aH, .slice aD aC aE, .slice aw av ax] 72 (0, 0)), .row 26 1 ao am ap aX, .row 26 1 ae ad af aR, .row 3 1 ab aa ac aM, .row 3 1 ar aq au aY, .row 26 1 ah ag ai aS, .row 39 2 ak aj al aT, .row 9 1 aG aF aH ba, .row 3 1 aD aC aE a8, .row 3 1 aw av ax a9, .any (mapE (fun a : List UInt8 => Value.string (gstr a)) (fun a : Int => Value.int .i64 a) aB r14.number)] ++ A) w aX r14.Enum.Gens ∧ Els (Rp.sl (Rp.int .i64)) (bl [.blk bO (.cells #[.int .i64 r14.Enum.Points, .bool r14.Enum.Monoid, .slice ao am ap, .slice ae ad af, .slice ab aa ac, .slice ar aq au, .slice ah ag ai, .slice ak aj al, .int .i64 r14.Enum.Done, .map (some aB), .slice aG aF aH, .slice aD aC aE, .slice aw av ax] 72 (0, 0)), .row 26 1 ao am ap aX, .row 26 1 ae ad af aR, .row 3 1 ab aa ac aM, .row 3 1 ar aq au aY, .row 26 1 ah ag ai aS, .row 39 2 ak aj al aT, .row 9 1 aG aF aH ba, .row 3 1 aD aC aE a8, .row 3 1 aw av ax a9, .any (mapE (fun a : List UInt8 => Value.string (gstr a)) (fun a : Int => Value.int .i64 a) aB r14.number)] ++ A) w aR r14.Enum.Elems ∧ Els (Rp.int .i64) (bl [.blk bO (.cells #[.int .i64 r14.Enum.Points, .bool r14.Enum.Monoid, .slice ao am ap, .slice ae ad af, .slice ab aa ac, .slice ar aq au, .slice ah ag ai, .slice ak aj al, .int .i64 r14.Enum.Done, .map (some aB), .slice aG aF aH, .slice aD aC aE, .slice aw av ax] 72 (0, 0)), .row 26 1 ao am ap aX, .row 26 1 ae ad af aR, .row 3 1 ab aa ac aM, .row 3 1 ar aq au aY, .row 26 1 ah ag ai aS, .row 39 2 ak aj al aT, .row 9 1 aG aF aH ba, .row 3 1 aD aC aE a8, .row 3 1 aw av ax a9, .any (mapE (fun a : List UInt8 => Value.string (gstr a)) (fun a : Int => Value.int .i64 a) aB r14.number)] ++ A) w aM r14.Enum.Prefix ∧ Els (Rp.int .i64) (bl [.blk bO (.cells #[.int .i64 r14.Enum.Points, .bool r14.Enum.Monoid, .slice ao am ap, .slice ae ad af, .slice ab aa ac, .slice ar aq au, .slice ah ag ai, .slice ak aj al, .int .i64 r14.Enum.Done, .map (some aB), .slice aG aF aH, .slice aD aC aE, .slice aw av ax] 72 (0, 0)), .row 26 1 ao am ap aX, .row 26 1 ae ad af aR, .row 3 1 ab aa ac aM, .row 3 1 ar aq au aY, .row 26 1 ah ag ai aS, .row 39 2 ak aj al aT, .row 9 1 aG aF aH ba, .row 3 1 aD aC aE a8, .row 3 1 aw av ax a9, .any (mapE (fun a : List UInt8 => Value.string (gstr a)) (fun a : Int => Value.int .i64 a) aB r14.number)] ++ A) w aY r14.Enum.Last ∧ Els (Rp.sl (Rp.int .i64)) (bl [.blk bO (.cells #[.int .i64 r14.Enum.Points, .bool r14.Enum.Monoid, .slice ao am ap, .slice ae ad af, .slice ab aa ac, .slice ar aq au, .slice ah ag ai, .slice ak aj al, .int .i64 r14.Enum.Done, .map (some aB), .slice aG aF aH, .slice aD aC aE, .slice aw av ax] 72 (0, 0)), .row 26 1 ao am ap aX, .row 26 1 ae ad af aR, .row 3 1 ab aa ac aM, .row 3 1 ar aq au aY, .row 26 1 ah ag ai aS, .row 39 2 ak aj al aT, .row 9 1 aG aF aH ba, .row 3 1 aD aC aE a8, .row 3 1 aw av ax a9, .any (mapE (fun a : List UInt8 => Value.string (gstr a)) (fun a : Int => Value.int .i64 a) aB r14.number)] ++ A) w aS r14.Enum.Right ∧ Els (rpRule) (bl [.blk bO (.cells #[.int .i64 r14.Enum.Points, .bool r14.Enum.Monoid, .slice ao am ap, .slice ae ad af, .slice ab aa ac, .slice ar aq au, .slice ah ag ai, .slice ak aj al, .int .i64 r14.Enum.Done, .map (some aB), .slice aG aF aH, .slice aD aC aE, .slice aw av ax] 72 (0, 0)), .row 26 1 ao am ap aX, .row 26 1 ae ad af aR, .row 3 1 ab aa ac aM, .row 3 1 ar aq au aY, .row 26 1 ah ag ai aS, .row 39 2 ak aj al aT, .row 9 1 aG aF aH ba, .row 3 1 aD aC aE a8, .row 3 1 aw av ax a9, .any (mapE (fun a : List UInt8 => Value.string (gstr a)) (fun a : Int => Value.int .i64 a) aB r14.number)] ++ A) w aT r14.Enum.Rules ∧ Els (Rp.str) (bl [.blk bO (.cells #[.int .i64 r14.Enum.Points, .bool r14.Enum.Monoid, .slice ao am ap, .slice ae ad af, .slice ab aa ac, .slice ar aq au, .slice ah ag ai, .slice ak aj al, .int .i64 r14.Enum.Done, .map (some aB), .slice aG aF aH, .slice aD aC aE, .slice aw av ax] 72 (0, 0)), .row 26 1 ao am ap aX, .row 26 1 ae ad af aR, .row 3 1 ab aa ac aM, .row 3 1 ar aq au aY, .row 26 1 ah ag ai aS, .row 39 2 ak aj al aT, .row 9 1 aG aF aH ba, .row 3 1 aD aC aE a8, .row 3 1 aw av ax a9, .any (mapE (fun a : List UInt8 => Value.string (gstr a)) (fun a : Int => Value.int .i64 a) aB r14.number)] ++ A) w ba r14.words ∧ Els (Rp.int .i64) (bl [.blk bO (.cells #[.int .i64 r14.Enum.Points, .bool r14.Enum.Monoid, .slice ao am ap, .slice ae ad af, .slice ab aa ac, .slice ar aq au, .slice ah ag ai, .slice ak aj al, .int .i64 r14.Enum.Done, .map (some aB), .slice aG aF aH, .slice aD aC aE, .slice aw av ax] 72 (0, 0)), .row 26 1 ao am ap aX, .row 26 1 ae ad af aR, .row 3 1 ab aa ac aM, .row 3 1 ar aq au aY, .row 26 1 ah ag ai aS, .row 39 2 ak aj al aT, .row 9 1 aG aF aH ba, .row 3 1 aD aC aE a8, .row 3 1 aw av ax a9, .any (mapE (fun a : List UInt8 => Value.string (gstr a)) (fun a : Int => Value.int .i64 a) aB r14.number)] ++ A) w a8 r14.behind ∧ Els (Rp.int .i64) (bl [.blk bO (.cells #[.int .i64 r14.Enum.Points, .bool r14.Enum.Monoid, .slice ao am ap, .slice ae ad af, .slice ab aa ac, .slice ar aq au, .slice ah ag ai, .slice ak aj al, .int .i64 r14.Enum.Done, .map (some aB), .slice aG aF aH, .slice aD aC aE, .slice aw av ax] 72 (0, 0)), .row 26 1 ao am ap aX, .row 26 1 ae ad af aR, .row 3 1 ab aa ac aM, .row 3 1 ar aq au aY, .row 26 1 ah ag ai aS, .row 39 2 ak aj al aT, .row 9 1 aG aF aH ba, .row 3 1 aD aC aE a8, .row 3 1 aw av ax a9, .any (mapE (fun a : List UInt8 => Value.string (gstr a)) (fun a : Int => Value.int .i64 a) aB r14.number)] ++ A) w a9 r14.single ∧ Fr (bl []) w0 (bl [.blk bO (.cells #[.int .i64 r14.Enum.Points, .bool r14.Enum.Monoid, .slice ao am ap, .slice ae ad af, .slice ab aa ac, .slice ar aq au, .slice ah ag ai, .slice ak aj al, .int .i64 r14.Enum.Done, .map (some aB), .slice aG aF aH, .slice aD aC aE, .slice aw av ax] 72 (0, 0)), .row 26 1 ao am ap aX, .row 26 1 ae ad af aR, .row 3 1 ab aa ac aM, .row 3 1 ar aq au aY, .row 26 1 ah ag ai aS, .row 39 2 ak aj al aT, .row 9 1 aG aF aH ba, .row 3 1 aD aC aE a8, .row 3 1 aw av ax a9, .any (mapE (fun a : List UInt8 => Value.string (gstr a)) (fun a : Int => Value.int .i64 a) aB r14.number)]) w) H ⟨⟨rfl, rfl, rfl, rfl, rfl, trivial⟩, hO, aO, aJ, aI, aN, ay, aL, a6, a7, aP, hB⟩ ?_
     intro X2
     refine prE fun i2_74 => fun k2_75 => ?_
     intro H hX2 σ w73
     refine andE fun hag => andE fun hO => andE fun aO => andE fun aJ => andE fun aI => andE fun aN => andE fun ay => andE fun aL => andE fun a6 => andE fun a7 => andE fun aP => fun hB => ?_
     dsimp only at H
     refine Go1.keep [(0, .pointer (some ⟨bO, 0, none⟩)), (1, .int .i64 i2_74), (2, .string (gstr (ix r14.words j))), (15, .int .i64 ((ix r14.words j).length : Int)), (16, .int .i64 (k2_75 : Int))] hag ?_
     refine Go1.seq ?_
     refine Go1.region ?_
     by_cases h76 : (k2_75 : Int) < ((ix r14.words j).length : Int)
     ·replace H := ifp h76 H
      refine GoR.op ((fun w => opB (op_lss rfl rfl w) (decide_eq_true h76)) _) rfl rfl ?_
      refine GoR.nil ?_
      refine Go1.seq ?_
      refine Go1.condT rfl rfl ?_
      refine Go1.skip ?_
      refine Go1.seq ?_
      refine Go1.block ?_
      refine Go1.seq ?_
      refine Go1.region ?_
      refine GoR.op ((op_move rfl) _) rfl rfl ?_
      refine GoR.op ((op_assign rfl) _) rfl rfl ?_
      refine GoR.nil ?_
      refine Go1.region ?_
      refine GoR.op ((op_move rfl) _) rfl rfl ?_
      refine GoR.op ((op_move rfl) _) rfl rfl ?_
      refine GoR.op ((op_move rfl) _) rfl rfl ?_
      refine GoR.op ((op_move rfl) _) rfl rfl ?_
      obtain ⟨h77, H⟩ := H
      obtain ⟨h78, H⟩ := H
      refine GoR.op ((op_indexS Try.underlying9 rfl rfl h77 h78) _) rfl rfl ?_
      refine GoR.op ((op_sub rfl rfl rfl) _) rfl rfl ?_
      refine GoR.op ((op_conv Try.underlying5 Try.underlying3 rfl rfl) _) rfl rfl ?_
      refine GoR.inl (vs := [.pointer (some ⟨bO, 0, none⟩), .int .i64 i2_74, .int .i64 (IntKind.i64.wrap (IntKind.u8.wrap (((ix (ix r14.words j) (k2_75 : Int)).toNat : Int) - (97 : Int))))]) (caps := []) rfl rfl body66 Try.func66 rfl Try.ntmps66 rfl rfl rfl ?_
      intro RhR79 hR79
      refine Go1.seq ?_
      refine Go1.region ?_
      refine GoR.op ((op_assign rfl) _) rfl rfl ?_
      refine GoR.nil ?_
      refine Go1.seq ?_
      refine Go1.seq ?_
      refine Go1.region ?_
      refine GoR.op ((op_move rfl) _) rfl rfl ?_
      by_cases h80 : i2_74 = (-1 : Int)
      ·replace H := ifp h80 H
       refine GoR.op ((fun w => opB (op_eql rfl rfl w) (decide_eq_true h80)) _) rfl rfl ?_
       refine GoR.nil ?_
       refine Go1.condT rfl rfl ?_
       refine Go1.seq ?_
       refine Go1.region ?_
       refine GoR.op ((op_move rfl) _) rfl rfl ?_
       refine GoR.op ((op_nilCheck rfl) _) rfl rfl ?_
       refine GoR.op ((op_fieldAddr Try.underlying72 rfl ti26 rfl (by decide)) _) rfl rfl ?_
       refine GoR.op ((oblk (i := 12) 0 hO rfl rfl Try.underlying26 rfl rfl) _ (Same.refl _)) rfl rfl ?_
       refine GoR.op ((op_move rfl) _) rfl rfl ?_
       obtain ⟨h81, H⟩ := H
       obtain ⟨h82, H⟩ := H
       refine GoR.op ((op_index Try.underlying26 ti3 rfl rfl h81 (ltn (aP.neq hO 9 rfl) h82) (aP.psome hO 9 rfl h81 h82)) _) rfl rfl ?_
       refine GoR.op ((oldInt 9 hO rfl aP h81 h82 Try.underlying3 rfl rfl) _ (Same.refl _)) rfl rfl ?_
       refine GoR.op ((op_assign rfl) _) rfl rfl ?_
       refine GoR.nil ?_
       refine Go1.ret1V Try.func66 rfl (show _ = .int .i64 (ix r14.single (IntKind.i64.wrap (IntKind.u8.wrap (((ix (ix r14.words j) (k2_75 : Int)).toNat : Int) - (97 : Int))))) from rfl) ?_
       refine hR79 _ _ ?_
       refine GoR.op ((op_assign rfl) _) rfl rfl ?_
       refine GoR.nil ?_
       refine Go1.inBlock ?_
       refine Go1.cut [(0, .pointer (some ⟨bO, 0, none⟩)), (1, .int .i64 (ix r14.single (IntKind.i64.wrap (IntKind.u8.wrap (((ix (ix r14.words j) (k2_75 : Int)).toNat : Int) - (97 : Int)))))), (2, .string (gstr (ix r14.words j))), (15, .int .i64 ((ix r14.words j).length : Int)), (16, .int .i64 (k2_75 : Int))] ⟨rfl, rfl, rfl, rfl, rfl, trivial⟩ ?_
       intro σ _
       refine Go1.region ?_
       refine GoR.op ((op_add rfl rfl (wrap_i64 (natbd h76 hle51))) _) rfl rfl ?_
       refine GoR.op ((op_move rfl) _) rfl rfl ?_
       refine GoR.nil ?_
       exact hX2 _ H _ _ ⟨⟨rfl, rfl, rfl, rfl, rfl, trivial⟩, hO, aO, aJ, aI, aN, ay, aL, a6, a7, aP, hB⟩
      replace H := ifn h80 H
      refine GoR.op ((fun w => opB (op_eql rfl rfl w) (decide_eq_false h80)) _) rfl rfl ?_
      refine GoR.nil ?_
      refine Go1.condF rfl rfl ?_
      refine Go1.skip ?_
      refine Go1.seq ?_
      refine Go1.region ?_
      refine GoR.op ((op_move rfl) _) rfl rfl ?_
      refine GoR.op ((op_nilCheck rfl) _) rfl rfl ?_
      refine GoR.op ((op_fieldAddr Try.underlying72 rfl ti29 rfl (by decide)) _) rfl rfl ?_
      refine GoR.op ((op_fieldAddr Try.underlying29 rfl ti22 rfl (by decide)) _) rfl rfl ?_
      refine GoR.op ((oblk (i := 6) 0 hO rfl rfl Try.underlying22 rfl rfl) _ (Same.refl _)) rfl rfl ?_
      refine GoR.op ((op_move rfl) _) rfl rfl ?_
      obtain ⟨h83, H⟩ := H
      obtain ⟨h84, H⟩ := H
      refine GoR.op ((op_index Try.underlying22 ti26 rfl rfl h83 (ltn (ay.neq hO 5 rfl) h84) (ay.psome hO 5 rfl h83 h84)) _) rfl rfl ?_
      have hobt := oldSl 5 hO rfl ay h83 h84
      obtain ⟨p85, c86, Cn, Im⟩ := hobt
      refine GoR.op ((Im Try.underlying26 rfl rfl) _ (Same.refl _)) rfl rfl ?_
      refine GoR.op ((op_move rfl) _) rfl rfl ?_
      obtain ⟨h89, H⟩ := H
      obtain ⟨h90, H⟩ := H
      refine GoR.op ((op_index Try.underlying26 ti3 rfl rfl h89 h90 (Cn.some_ h89 h90)) _) rfl rfl ?_
      refine GoR.op ((ldInt Cn h89 h90 Try.underlying3 rfl rfl) _ (Same.refl _)) rfl rfl ?_
      refine GoR.op ((op_assign rfl) _) rfl rfl ?_
      refine GoR.nil ?_
      refine Go1.ret1V Try.func66 rfl (show _ = .int .i64 (ix (ix r14.Enum.Right i2_74) (IntKind.i64.wrap (IntKind.u8.wrap (((ix (ix r14.words j) (k2_75 : Int)).toNat : Int) - (97 : Int))))) from rfl) ?_
      refine hR79 _ _ ?_
      refine GoR.op ((op_assign rfl) _) rfl rfl ?_
      refine GoR.nil ?_
      refine Go1.inBlock ?_
      refine Go1.region ?_
      refine GoR.op ((op_add rfl rfl (wrap_i64 (natbd h76 hle51))) _) rfl rfl ?_
      refine GoR.op ((op_move rfl) _) rfl rfl ?_
      refine GoR.nil ?_
      exact hX2 _ H _ _ ⟨⟨rfl, rfl, rfl, rfl, rfl, trivial⟩, hO, aO, aJ, aI, aN, ay, aL, a6, a7, aP, hB⟩
     replace H := ifn h76 H
     refine GoR.op ((fun w => opB (op_lss rfl rfl w) (decide_eq_false h76)) _) rfl rfl ?_
     refine GoR.nil ?_
     refine Go1.seq ?_
     refine Go1.condF rfl rfl ?_
     refine Go1.exit rfl ?_
     refine Go1.seq ?_
     refine Go1.region ?_
     refine GoR.op ((op_move rfl) _) rfl rfl ?_
     refine GoR.op ((op_assign rfl) _) rfl rfl ?_
     refine GoR.nil ?_
     refine Go1.ret1V Try.func59 rfl (show _ = .int .i64 i2_74 from rfl) ?_
     refine hR52 _ _ ?_
     refine GoR.op ((op_assign rfl) _) rfl rfl ?_
     refine GoR.nil ?_
     refine Go1.ret1 Try.func36 rfl ?_
     exact ⟨i2_74, rfl, hB.same, H⟩
    replace H := ifn h47 H
    refine GoR.op ((op_maxF rfl rfl h47) _) rfl rfl ?_
    refine GoR.op ((op_move rfl) _) rfl rfl ?_
    refine GoR.op ((op_nilCheck rfl) _) rfl rfl ?_
    refine GoR.op ((op_fieldAddr Try.underlying72 rfl ti29 rfl (by decide)) _) rfl rfl ?_
    refine GoR.op ((op_fieldAddr Try.underlying29 rfl ti22 rfl (by decide)) _) rfl rfl ?_
    refine GoR.op ((oblk (i := 3) 0 hO rfl rfl Try.underlying22 rfl rfl) _ (Same.refl _)) rfl rfl ?_
    refine GoR.op ((op_lenN Try.underlying22 rfl (aJ.neq hO 2 rfl)) _) rfl rfl ?_
    by_cases h91 : (r14.Enum.Elems.length : Int) ≤ i
    ·replace H := ifp h91 H
     refine GoR.op ((fun w => opB (op_geq rfl rfl w) (decide_eq_true h91)) _) rfl rfl ?_
     refine GoR.op ((op_pickF rfl rfl rfl) _) rfl rfl ?_
     refine GoR.nil ?_
     refine Go1.condT rfl rfl ?_
     refine Go1.seq ?_
     refine Go1.cut [] trivial ?_
     intro σ _
     refine Go1.region ?_
     refine GoR.op ((op_assign rfl) _) rfl rfl ?_
     refine GoR.nil ?_
     refine Go1.ret1 Try.func36 rfl ?_
     exact ⟨(-1 : Int), rfl, hB.same, H⟩
    replace H := ifn h91 H
    refine GoR.op ((fun w => opB (op_geq rfl rfl w) (decide_eq_false h91)) _) rfl rfl ?_
    refine GoR.op ((op_pickF rfl rfl rfl) _) rfl rfl ?_
    refine GoR.nil ?_
    refine Go1.condF rfl rfl ?_
    refine Go1.skip ?_
    refine Go1.seq ?_
    refine Go1.region ?_
    refine GoR.op ((op_move rfl) _) rfl rfl ?_
    refine GoR.op ((op_move rfl) _) rfl rfl ?_
    refine GoR.op ((op_move rfl) _) rfl rfl ?_
    refine GoR.op ((op_nilCheck rfl) _) rfl rfl ?_
    refine GoR.op ((op_fieldAddr Try.underlying72 rfl ti70 rfl (by decide)) _) rfl rfl ?_
    refine GoR.op ((oblk (i := 10) 0 hO rfl rfl Try.underlying70 rfl rfl) _ (Same.refl _)) rfl rfl ?_
    refine GoR.op ((op_move rfl) _) rfl rfl ?_
    obtain ⟨h92, H⟩ := H
    obtain ⟨h93, H⟩ := H
    refine GoR.op ((op_index Try.underlying70 ti9 rfl rfl h92 (ltn (a6.neq hO 7 rfl) h93) (a6.psome hO 7 rfl h92 h93)) _) rfl rfl ?_
    refine GoR.op ((oldStr 7 hO rfl a6 h92 h93 Try.underlying9 rfl rfl) _ (Same.refl _)) rfl rfl ?_
    have hle94 := Els.str_le a6 h92 h93
    refine GoR.inl (vs := [.pointer (some ⟨bO, 0, none⟩), .int .i64 i, .string (gstr (ix r14.words j))]) (caps := []) rfl rfl body59 Try.func59 rfl Try.ntmps59 rfl rfl rfl ?_
    intro RhR95 hR95
    refine Go1.seq ?_
    refine Go1.region ?_
    refine GoR.op ((op_assign rfl) _) rfl rfl ?_
    refine GoR.nil ?_
    refine Go1.seq ?_
    refine Go1.seq ?_
    refine Go1.region ?_
    refine GoR.op ((op_move rfl) _) rfl rfl ?_
    by_cases h96 : i = (-1 : Int)
    ·replace H := ifp h96 H
     refine GoR.op ((fun w => opB (op_eql rfl rfl w) (decide_eq_true h96)) _) rfl rfl ?_
     refine GoR.op ((op_move rfl) _) rfl rfl ?_
     refine GoR.op ((op_move rfl) _) rfl rfl ?_
     by_cases h97 : (ix r14.words j) = (([] : Str))
     ·replace H := ifp h97 H
      refine GoR.op ((fun w => opB (op_eqlS rfl rfl w) (decide_eq_true h97)) _) rfl rfl ?_
      refine GoR.op ((op_pickT rfl rfl rfl) _) rfl rfl ?_
      refine GoR.nil ?_
      refine Go1.condT rfl rfl ?_
      refine Go1.seq ?_
      refine Go1.cut [] trivial ?_
      intro σ _
      refine Go1.region ?_
      refine GoR.op ((op_assign rfl) _) rfl rfl ?_
      refine GoR.nil ?_
      refine Go1.ret1V Try.func59 rfl (show _ = .int .i64 (0 : Int) from rfl) ?_
      refine hR95 _ _ ?_
      refine GoR.op ((op_assign rfl) _) rfl rfl ?_
      refine GoR.nil ?_
      refine Go1.ret1 Try.func36 rfl ?_
      exact ⟨(0 : Int), rfl, hB.same, H⟩
     replace H := ifn h97 H
     refine GoR.op ((fun w => opB (op_eqlS rfl rfl w) (decide_eq_false h97)) _) rfl rfl ?_
     refine GoR.op ((op_pickT rfl rfl rfl) _) rfl rfl ?_
     refine GoR.nil ?_
     refine Go1.condF rfl rfl ?_
     refine Go1.skip ?_
     refine Go1.seq ?_
     refine Go1.seq ?_
     refine Go1.region ?_
     refine GoR.op ((op_move rfl) _) rfl rfl ?_
     refine GoR.op ((op_lenS Try.underlying9 rfl) _) rfl rfl ?_
     replace H := H hle94
     refine GoR.op ((op_move rfl) _) rfl rfl ?_
     refine GoR.nil ?_
     refine Go1.block ?_
     replace aZ := aZ.ch (Owns.dropCh _ _ 11)
     replace aU := aU.ch (Owns.dropCh _ _ 11)
     replace aK := aK.ch (Owns.dropCh _ _ 11)
     replace a5 := a5.ch (Owns.dropCh _ _ 11)
     replace aV := aV.ch (Owns.dropCh _ _ 11)
     replace aW := aW.ch (Owns.dropCh _ _ 11)
     replace aO := aO.ch (Owns.dropCh _ _ 11)
     replace aJ := aJ.ch (Owns.dropCh _ _ 11)
     replace aI := aI.ch (Owns.dropCh _ _ 11)
     replace aN := aN.ch (Owns.dropCh _ _ 11)
     replace ay := ay.ch (Owns.dropCh _ _ 11)
     replace aL := aL.ch (Owns.dropCh _ _ 11)
     replace a6 := a6.ch (Owns.dropCh _ _ 11)
     replace a7 := a7.ch (Owns.dropCh _ _ 11)
     replace aP := aP.ch (Owns.dropCh _ _ 11)
     replace hB := hB.trans (Owns.dropFr _ _ 11)
     replace hO := hO.drop 11
     dsimp only [eS, eZ] at hB hO aZ aU aK a5 aV aW aO aJ aI aN ay aL a6 a7 aP
     replace aZ := aZ.ch (Owns.dropCh _ _ 11)
     replace aU := aU.ch (Owns.dropCh _ _ 11)
     replace aK := aK.ch (Owns.dropCh _ _ 11)
     replace a5 := a5.ch (Owns.dropCh _ _ 11)
     replace aV := aV.ch (Owns.dropCh _ _ 11)
     replace aW := aW.ch (Owns.dropCh _ _ 11)
     replace aO := aO.ch (Owns.dropCh _ _ 11)
     replace aJ := aJ.ch (Owns.dropCh _ _ 11)
     replace aI := aI.ch (Owns.dropCh _ _ 11)
     replace aN := aN.ch (Owns.dropCh _ _ 11)
     replace ay := ay.ch (Owns.dropCh _ _ 11)
     replace aL := aL.ch (Owns.dropCh _ _ 11)
     replace a6 := a6.ch (Owns.dropCh _ _ 11)
     replace a7 := a7.ch (Owns.dropCh _ _ 11)
     replace aP := aP.ch (Owns.dropCh _ _ 11)
     replace hB := hB.trans (Owns.dropFr _ _ 11)
     replace hO := hO.drop 11
     dsimp only [eS, eZ] at hB hO aZ aU aK a5 aV aW aO aJ aI aN ay aL a6 a7 aP
     refine Go1.loopW (S := Int × Nat) (fun s σ w => match s with | (i3_99, k3_100) => agrees σ [(0, .pointer (some ⟨bO, 0, none⟩)), (1, .int .i64 i3_99), (2, .string (gstr (ix r14.words j))), (15, .int .i64 ((ix r14.words j).length : Int)), (16, .int .i64 (k3_100 : Int))] ∧ Owns w0.heap.size w [.blk bO (.cells #[.int .i64 r14.Enum.Points, .bool r14.Enum.Monoid, .slice ao am ap, .slice ae ad af, .slice ab aa ac, .slice ar aq au, .slice ah ag ai, .slice ak aj al, .int .i64 r14.Enum.Done, .map (some aB), .slice aG aF aH, .slice aD aC aE, .slice aw av ax] 72 (0, 0)), .row 26 1 ao am ap aX, .row 26 1 ae ad af aR, .row 3 1 ab aa ac aM, .row 3 1 ar aq au aY, .row 26 1 ah ag ai aS, .row 39 2 ak aj al aT, .row 9 1 aG aF aH ba, .row 3 1 aD aC aE a8, .row 3 1 aw av ax a9, .any (mapE (fun a : List UInt8 => Value.string (gstr a)) (fun a : Int => Value.int .i64 a) aB r14.number)] A ∧ Els (Rp.sl (Rp.int .i64)) (bl [.blk bO (.cells #[.int .i64 r14.Enum.Points, .bool r14.Enum.Monoid, .slice ao am ap, .slice ae ad af, .slice ab aa ac, .slice ar aq au, .slice ah ag ai, .slice ak aj al, .int .i64 r14.Enum.Done, .map (some aB), .slice aG aF aH, .slice aD aC aE, .slice aw av ax] 72 (0, 0)), .row 26 1 ao am ap aX, .row 26 1 ae ad af aR, .row 3 1 ab aa ac aM, .row 3 1 ar aq au aY, .row 26 1 ah ag ai aS, .row 39 2 ak aj al aT, .row 9 1 aG aF aH ba, .row 3 1 aD aC aE a8, .row 3 1 aw av ax a9, .any (mapE (fun a : List UInt8 => Value.string (gstr a)) (fun a : Int => Value.int .i64 a) aB r14.number)] ++ A) w aX r14.Enum.Gens ∧ Els (Rp.sl (Rp.int .i64)) (bl [.blk bO (.cells #[.int .i64 r14.Enum.Points, .bool r14.Enum.Monoid, .slice ao am ap, .slice ae ad af, .slice ab aa ac, .slice ar aq au, .slice ah ag ai, .slice ak aj al, .int .i64 r14.Enum.Done, .map (some aB), .slice aG aF aH, .slice aD aC aE, .slice aw av ax] 72 (0, 0)), .row 26 1 ao am ap aX, .row 26 1 ae ad af aR, .row 3 1 ab aa ac aM, .row 3 1 ar aq au aY, .row 26 1 ah ag ai aS, .row 39 2 ak aj al aT, .row 9 1 aG aF aH ba, .row 3 1 aD aC aE a8, .row 3 1 aw av ax a9, .any (mapE (fun a : List UInt8 => Value.string (gstr a)) (fun a : Int => Value.int .i64 a) aB r14.number)] ++ A) w aR r14.Enum.Elems ∧ Els (Rp.int .i64) (bl [.blk bO (.cells #[.int .i64 r14.Enum.Points, .bool r14.Enum.Monoid, .slice ao am ap, .slice ae ad af, .slice ab aa ac, .slice ar aq au, .slice ah ag ai, .slice ak aj al, .int .i64 r14.Enum.Done, .map (some aB), .slice aG aF aH, .slice aD aC aE, .slice aw av ax] 72 (0, 0)), .row 26 1 ao am ap aX, .row 26 1 ae ad af aR, .row 3 1 ab aa ac aM, .row 3 1 ar aq au aY, .row 26 1 ah ag ai aS, .row 39 2 ak aj al aT, .row 9 1 aG aF aH ba, .row 3 1 aD aC aE a8, .row 3 1 aw av ax a9, .any (mapE (fun a : List UInt8 => Value.string (gstr a)) (fun a : Int => Value.int .i64 a) aB r14.number)] ++ A) w aM r14.Enum.Prefix ∧ Els (Rp.int .i64) (bl [.blk bO (.cells #[.int .i64 r14.Enum.Points, .bool r14.Enum.Monoid, .slice ao am ap, .slice ae ad af, .slice ab aa ac, .slice ar aq au, .slice ah ag ai, .slice ak aj al, .int .i64 r14.Enum.Done, .map (some aB), .slice aG aF aH, .slice aD aC aE, .slice aw av ax] 72 (0, 0)), .row 26 1 ao am ap aX, .row 26 1 ae ad af aR, .row 3 1 ab aa ac aM, .row 3 1 ar aq au aY, .row 26 1 ah ag ai aS, .row 39 2 ak aj al aT, .row 9 1 aG aF aH ba, .row 3 1 aD aC aE a8, .row 3 1 aw av ax a9, .any (mapE (fun a : List UInt8 => Value.string (gstr a)) (fun a : Int => Value.int .i64 a) aB r14.number)] ++ A) w aY r14.Enum.Last ∧ Els (Rp.sl (Rp.int .i64)) (bl [.blk bO (.cells #[.int .i64 r14.Enum.Points, .bool r14.Enum.Monoid, .slice ao am ap, .slice ae ad af, .slice ab aa ac, .slice ar aq au, .slice ah ag ai, .slice ak aj al, .int .i64 r14.Enum.Done, .map (some aB), .slice aG aF aH, .slice aD aC aE, .slice aw av ax] 72 (0, 0)), .row 26 1 ao am ap aX, .row 26 1 ae ad af aR, .row 3 1 ab aa ac aM, .row 3 1 ar aq au aY, .row 26 1 ah ag ai aS, .row 39 2 ak aj al aT, .row 9 1 aG aF aH ba, .row 3 1 aD aC aE a8, .row 3 1 aw av ax a9, .any (mapE (fun a : List UInt8 => Value.string (gstr a)) (fun a : Int => Value.int .i64 a) aB r14.number)] ++ A) w aS r14.Enum.Right ∧ Els (rpRule) (bl [.blk bO (.cells #[.int .i64 r14.Enum.Points, .bool r14.Enum.Monoid, .slice ao am ap, .slice ae ad af, .slice ab aa ac, .slice ar aq au, .slice ah ag ai, .slice ak aj al, .int .i64 r14.Enum.Done, .map (some aB), .slice aG aF aH, .slice aD aC aE, .slice aw av ax] 72 (0, 0)), .row 26 1 ao am ap aX, .row 26 1 ae ad af aR, .row 3 1 ab aa ac aM, .row 3 1 ar aq au aY, .row 26 1 ah ag ai aS, .row 39 2 ak aj al aT, .row 9 1 aG aF aH ba, .row 3 1 aD aC aE a8, .row 3 1 aw av ax a9, .any (mapE (fun a : List UInt8 => Value.string (gstr a)) (fun a : Int => Value.int .i64 a) aB r14.number)] ++ A) w aT r14.Enum.Rules ∧ Els (Rp.str) (bl [.blk bO (.cells #[.int .i64 r14.Enum.Points, .bool r14.Enum.Monoid, .slice ao am ap, .slice ae ad af, .slice ab aa ac, .slice ar aq au, .slice ah ag ai, .slice ak aj al, .int .i64 r14.Enum.Done, .map (some aB), .slice aG aF aH, .slice aD aC aE, .slice aw av ax] 72 (0, 0)), .row 26 1 ao am ap aX, .row 26 1 ae ad af aR, .row 3 1 ab aa ac aM, .row 3 1 ar aq au aY, .row 26 1 ah ag ai aS, .row 39 2 ak aj al aT, .row 9 1 aG aF aH ba, .row 3 1 aD aC aE a8, .row 3 1 aw av ax a9, .any (mapE (fun a : List UInt8 => Value.string (gstr a)) (fun a : Int => Value.int .i64 a) aB r14.number)] ++ A) w ba r14.words ∧ Els (Rp.int .i64) (bl [.blk bO (.cells #[.int .i64 r14.Enum.Points, .bool r14.Enum.Monoid, .slice ao am ap, .slice ae ad af, .slice ab aa ac, .slice ar aq au, .slice ah ag ai, .slice ak aj al, .int .i64 r14.Enum.Done, .map (some aB), .slice aG aF aH, .slice aD aC aE, .slice aw av ax] 72 (0, 0)), .row 26 1 ao am ap aX, .row 26 1 ae ad af aR, .row 3 1 ab aa ac aM, .row 3 1 ar aq au aY, .row 26 1 ah ag ai aS, .row 39 2 ak aj al aT, .row 9 1 aG aF aH ba, .row 3 1 aD aC aE a8, .row 3 1 aw av ax a9, .any (mapE (fun a : List UInt8 => Value.string (gstr a)) (fun a : Int => Value.int .i64 a) aB r14.number)] ++ A) w a8 r14.behind ∧ Els (Rp.int .i64) (bl [.blk bO (.cells #[.int .i64 r14.Enum.Points, .bool r14.Enum.Monoid, .slice ao am ap, .slice ae ad af, .slice ab aa ac, .slice ar aq au, .slice ah ag ai, .slice ak aj al, .int .i64 r14.Enum.Done, .map (some aB), .slice aG aF aH, .slice aD aC aE, .slice aw av ax] 72 (0, 0)), .row 26 1 ao am ap aX, .row 26 1 ae ad af aR, .row 3 1 ab aa ac aM, .row 3 1 ar aq au aY, .row 26 1 ah ag ai aS, .row 39 2 ak aj al aT, .row 9 1 aG aF aH ba, .row 3 1 aD aC aE a8, .row 3 1 aw av ax a9, .any (mapE (fun a : List UInt8 => Value.string (gstr a)) (fun a : Int => Value.int .i64 a) aB r14.number)] ++ A) w a9 r14.single ∧ Fr (bl []) w0 (bl [.blk bO (.cells #[.int .i64 r14.Enum.Points, .bool r14.Enum.Monoid, .slice ao am ap, .slice ae ad af, .slice ab aa ac, .slice ar aq au, .slice ah ag ai, .slice ak aj al, .int .i64 r14.Enum.Done, .map (some aB), .slice aG aF aH, .slice aD aC aE, .slice aw av ax] 72 (0, 0)), .row 26 1 ao am ap aX, .row 26 1 ae ad af aR, .row 3 1 ab aa ac aM, .row 3 1 ar aq au aY, .row 26 1 ah ag ai aS, .row 39 2 ak aj al aT, .row 9 1 aG aF aH ba, .row 3 1 aD aC aE a8, .row 3 1 aw av ax a9, .any (mapE (fun a : List UInt8 => Value.string (gstr a)) (fun a : Int => Value.int .i64 a) aB r14.number)]) w) H ⟨⟨rfl, rfl, rfl, rfl, rfl, trivial⟩, hO, aO, aJ, aI, aN, ay, aL, a6, a7, aP, hB⟩ ?_
     intro X3
     refine prE fun i3_99 => fun k3_100 => ?_
     intro H hX3 σ w98
     refine andE fun hag => andE fun hO => andE fun aO => andE fun aJ => andE fun aI => andE fun aN => andE fun ay => andE fun aL => andE fun a6 => andE fun a7 => andE fun aP => fun hB => ?_
     dsimp only at H
     refine Go1.keep [(0, .pointer (some ⟨bO, 0, none⟩)), (1, .int .i64 i3_99), (2, .string (gstr (ix r14.words j))), (15, .int .i64 ((ix r14.words j).length : Int)), (16, .int .i64 (k3_100 : Int))] hag ?_
     refine Go1.seq ?_
     refine Go1.region ?_
     by_cases su : (k3_100 : Int) < ((ix r14.words j).length : Int)
     ·replace H := ifp su H
      refine GoR.op ((fun w => opB (op_lss rfl rfl w) (decide_eq_true su)) _) rfl rfl ?_
      refine GoR.nil ?_
      refine Go1.seq ?_
      refine Go1.condT rfl rfl ?_
      refine Go1.skip ?_
      refine Go1.seq ?_
      refine Go1.block ?_
      refine Go1.seq ?_
      refine Go1.region ?_
      refine GoR.op ((op_move rfl) _) rfl rfl ?_
      refine GoR.op ((op_assign rfl) _) rfl rfl ?_
      refine GoR.nil ?_
      refine Go1.region ?_
      refine GoR.op ((op_move rfl) _) rfl rfl ?_
      refine GoR.op ((op_move rfl) _) rfl rfl ?_
      refine GoR.op ((op_move rfl) _) rfl rfl ?_
      refine GoR.op ((op_move rfl) _) rfl rfl ?_
      obtain ⟨uF, H⟩ := H
      obtain ⟨uG, H⟩ := H
      refine GoR.op ((op_indexS Try.underlying9 rfl rfl uF uG) _) rfl rfl ?_
      refine GoR.op ((op_sub rfl rfl rfl) _) rfl rfl ?_
      refine GoR.op ((op_conv Try.underlying5 Try.underlying3 rfl rfl) _) rfl rfl ?_
      refine GoR.inl (vs := [.pointer (some ⟨bO, 0, none⟩), .int .i64 i3_99, .int .i64 (IntKind.i64.wrap (IntKind.u8.wrap (((ix (ix r14.words j) (k3_100 : Int)).toNat : Int) - (97 : Int))))]) (caps := []) rfl rfl body66 Try.func66 rfl Try.ntmps66 rfl rfl rfl ?_
      intro RhR104 hR104
      refine Go1.seq ?_
      refine Go1.region ?_
      refine GoR.op ((op_assign rfl) _) rfl rfl ?_
      refine GoR.nil ?_
      refine Go1.seq ?_
      refine Go1.seq ?_
      refine Go1.region ?_
      refine GoR.op ((op_move rfl) _) rfl rfl ?_
      by_cases qD : i3_99 = (-1 : Int)
      ·replace H := ifp qD H
       refine GoR.op ((fun w => opB (op_eql rfl rfl w) (decide_eq_true qD)) _) rfl rfl ?_
       refine GoR.nil ?_
       refine Go1.condT rfl rfl ?_
       refine Go1.seq ?_
       refine Go1.region ?_
       refine GoR.op ((op_move rfl) _) rfl rfl ?_
       refine GoR.op ((op_nilCheck rfl) _) rfl rfl ?_
       refine GoR.op ((op_fieldAddr Try.underlying72 rfl ti26 rfl (by decide)) _) rfl rfl ?_
       refine GoR.op ((oblk (i := 12) 0 hO rfl rfl Try.underlying26 rfl rfl) _ (Same.refl _)) rfl rfl ?_
       refine GoR.op ((op_move rfl) _) rfl rfl ?_
       obtain ⟨sQ, H⟩ := H
       obtain ⟨t0, H⟩ := H
       refine GoR.op ((op_index Try.underlying26 ti3 rfl rfl sQ (ltn (aP.neq hO 9 rfl) t0) (aP.psome hO 9 rfl sQ t0)) _) rfl rfl ?_
       refine GoR.op ((oldInt 9 hO rfl aP sQ t0 Try.underlying3 rfl rfl) _ (Same.refl _)) rfl rfl ?_
       refine GoR.op ((op_assign rfl) _) rfl rfl ?_
       refine GoR.nil ?_
       refine Go1.ret1V Try.func66 rfl (show _ = .int .i64 (ix r14.single (IntKind.i64.wrap (IntKind.u8.wrap (((ix (ix r14.words j) (k3_100 : Int)).toNat : Int) - (97 : Int))))) from rfl) ?_
       refine hR104 _ _ ?_
       refine GoR.op ((op_assign rfl) _) rfl rfl ?_
       refine GoR.nil ?_
       refine Go1.inBlock ?_
       refine Go1.cut [(0, .pointer (some ⟨bO, 0, none⟩)), (1, .int .i64 (ix r14.single (IntKind.i64.wrap (IntKind.u8.wrap (((ix (ix r14.words j) (k3_100 : Int)).toNat : Int) - (97 : Int)))))), (2, .string (gstr (ix r14.words j))), (15, .int .i64 ((ix r14.words j).length : Int)), (16, .int .i64 (k3_100 : Int))] ⟨rfl, rfl, rfl, rfl, rfl, trivial⟩ ?_
       intro σ _
       refine Go1.region ?_
       refine GoR.op ((op_add rfl rfl (wrap_i64 (natbd su hle94))) _) rfl rfl ?_
       refine GoR.op ((op_move rfl) _) rfl rfl ?_
       refine GoR.nil ?_
       exact hX3 _ H _ _ ⟨⟨rfl, rfl, rfl, rfl, rfl, trivial⟩, hO, aO, aJ, aI, aN, ay, aL, a6, a7, aP, hB⟩
      replace H := ifn qD H
      refine GoR.op ((fun w => opB (op_eql rfl rfl w) (decide_eq_false qD)) _) rfl rfl ?_
      refine GoR.nil ?_
      refine Go1.condF rfl rfl ?_
      refine Go1.skip ?_
      refine Go1.seq ?_
      refine Go1.region ?_
      refine GoR.op ((op_move rfl) _) rfl rfl ?_
      refine GoR.op ((op_nilCheck rfl) _) rfl rfl ?_
      refine GoR.op ((op_fieldAddr Try.underlying72 rfl ti29 rfl (by decide)) _) rfl rfl ?_
      refine GoR.op ((op_fieldAddr Try.underlying29 rfl ti22 rfl (by decide)) _) rfl rfl ?_
      refine GoR.op ((oblk (i := 6) 0 hO rfl rfl Try.underlying22 rfl rfl) _ (Same.refl _)) rfl rfl ?_
      refine GoR.op ((op_move rfl) _) rfl rfl ?_
      obtain ⟨t3, H⟩ := H
      obtain ⟨vq, H⟩ := H
      refine GoR.op ((op_index Try.underlying22 ti26 rfl rfl t3 (ltn (ay.neq hO 5 rfl) vq) (ay.psome hO 5 rfl t3 vq)) _) rfl rfl ?_
      have hobt := oldSl 5 hO rfl ay t3 vq
      obtain ⟨KZ, K1, sx, EE⟩ := hobt
      refine GoR.op ((EE Try.underlying26 rfl rfl) _ (Same.refl _)) rfl rfl ?_
      refine GoR.op ((op_move rfl) _) rfl rfl ?_
      obtain ⟨wI, H⟩ := H
      obtain ⟨tE, H⟩ := H
      refine GoR.op ((op_index Try.underlying26 ti3 rfl rfl wI tE (sx.some_ wI tE)) _) rfl rfl ?_
      refine GoR.op ((ldInt sx wI tE Try.underlying3 rfl rfl) _ (Same.refl _)) rfl rfl ?_
      refine GoR.op ((op_assign rfl) _) rfl rfl ?_
      refine GoR.nil ?_
      refine Go1.ret1V Try.func66 rfl (show _ = .int .i64 (ix (ix r14.Enum.Right i3_99) (IntKind.i64.wrap (IntKind.u8.wrap (((ix (ix r14.words j) (k3_100 : Int)).toNat : Int) - (97 : Int))))) from rfl) ?_
      refine hR104 _ _ ?_
      refine GoR.op ((op_assign rfl) _) rfl rfl ?_
      refine GoR.nil ?_
      refine Go1.inBlock ?_
      refine Go1.region ?_
      refine GoR.op ((op_add rfl rfl (wrap_i64 (natbd su hle94))) _) rfl rfl ?_
      refine GoR.op ((op_move rfl) _) rfl rfl ?_
      refine GoR.nil ?_
      exact hX3 _ H _ _ ⟨⟨rfl, rfl, rfl, rfl, rfl, trivial⟩, hO, aO, aJ, aI, aN, ay, aL, a6, a7, aP, hB⟩
     replace H := ifn su H
     refine GoR.op ((fun w => opB (op_lss rfl rfl w) (decide_eq_false su)) _) rfl rfl ?_
     refine GoR.nil ?_
     refine Go1.seq ?_
     refine Go1.condF rfl rfl ?_
     refine Go1.exit rfl ?_
     refine Go1.seq ?_
     refine Go1.region ?_
     refine GoR.op ((op_move rfl) _) rfl rfl ?_
     refine GoR.op ((op_assign rfl) _) rfl rfl ?_
     refine GoR.nil ?_
     refine Go1.ret1V Try.func59 rfl (show _ = .int .i64 i3_99 from rfl) ?_
     refine hR95 _ _ ?_
     refine GoR.op ((op_assign rfl) _) rfl rfl ?_
     refine GoR.nil ?_
     refine Go1.ret1 Try.func36 rfl ?_
     exact ⟨i3_99, rfl, hB.same, H⟩
    replace H := ifn h96 H
    refine GoR.op ((fun w => opB (op_eql rfl rfl w) (decide_eq_false h96)) _) rfl rfl ?_
    refine GoR.op ((op_move rfl) _) rfl rfl ?_
    refine GoR.pass rfl rfl ?_
    refine GoR.pass rfl rfl ?_
    refine GoR.op ((op_pickF rfl rfl rfl) _) rfl rfl ?_
    refine GoR.nil ?_
    refine Go1.condF rfl rfl ?_
    refine Go1.skip ?_
    refine Go1.seq ?_
    refine Go1.seq ?_
    refine Go1.cut [(0, .pointer (some ⟨bO, 0, none⟩)), (1, .int .i64 i), (2, .string (gstr (ix r14.words j)))] ⟨rfl, rfl, rfl, trivial⟩ ?_
    intro σ _
    refine Go1.region ?_
    refine GoR.op ((op_move rfl) _) rfl rfl ?_
    refine GoR.op ((op_lenS Try.underlying9 rfl) _) rfl rfl ?_
    replace H := H hle94
    refine GoR.op ((op_move rfl) _) rfl rfl ?_
    refine GoR.nil ?_
    refine Go1.block ?_
    replace aZ := aZ.ch (Owns.dropCh _ _ 11)
    replace aU := aU.ch (Owns.dropCh _ _ 11)
    replace aK := aK.ch (Owns.dropCh _ _ 11)
    replace a5 := a5.ch (Owns.dropCh _ _ 11)
    replace aV := aV.ch (Owns.dropCh _ _ 11)
    replace aW := aW.ch (Owns.dropCh _ _ 11)
    replace aO := aO.ch (Owns.dropCh _ _ 11)
    replace aJ := aJ.ch (Owns.dropCh _ _ 11)
    replace aI := aI.ch (Owns.dropCh _ _ 11)
    replace aN := aN.ch (Owns.dropCh _ _ 11)
    replace ay := ay.ch (Owns.dropCh _ _ 11)
    replace aL := aL.ch (Owns.dropCh _ _ 11)
    replace a6 := a6.ch (Owns.dropCh _ _ 11)
    replace a7 := a7.ch (Owns.dropCh _ _ 11)
    replace aP := aP.ch (Owns.dropCh _ _ 11)
    replace hB := hB.trans (Owns.dropFr _ _ 11)
    replace hO := hO.drop 11
    dsimp only [eS, eZ] at hB hO aZ aU aK a5 aV aW aO aJ aI aN ay aL a6 a7 aP
    replace aZ := aZ.ch (Owns.dropCh _ _ 11)
    replace aU := aU.ch (Owns.dropCh _ _ 11)
    replace aK := aK.ch (Owns.dropCh _ _ 11)
    replace a5 := a5.ch (Owns.dropCh _ _ 11)
    replace aV := aV.ch (Owns.dropCh _ _ 11)
    replace aW := aW.ch (Owns.dropCh _ _ 11)
    replace aO := aO.ch (Owns.dropCh _ _ 11)
    replace aJ := aJ.ch (Owns.dropCh _ _ 11)
    replace aI := aI.ch (Owns.dropCh _ _ 11)
    replace aN := aN.ch (Owns.dropCh _ _ 11)
    replace ay := ay.ch (Owns.dropCh _ _ 11)
    replace aL := aL.ch (Owns.dropCh _ _ 11)
    replace a6 := a6.ch (Owns.dropCh _ _ 11)
    replace a7 := a7.ch (Owns.dropCh _ _ 11)
    replace aP := aP.ch (Owns.dropCh _ _ 11)
    replace hB := hB.trans (Owns.dropFr _ _ 11)
    replace hO := hO.drop 11
    dsimp only [eS, eZ] at hB hO aZ aU aK a5 aV aW aO aJ aI aN ay aL a6 a7 aP
    refine Go1.loopW (S := Int × Nat) (fun s σ w => match s with | (i4_117, k4_118) => agrees σ [(0, .pointer (some ⟨bO, 0, none⟩)), (1, .int .i64 i4_117), (2, .string (gstr (ix r14.words j))), (15, .int .i64 ((ix r14.words j).length : Int)), (16, .int .i64 (k4_118 : Int))] ∧ Owns w0.heap.size w [.blk bO (.cells #[.int .i64 r14.Enum.Points, .bool r14.Enum.Monoid, .slice ao am ap, .slice ae ad af, .slice ab aa ac, .slice ar aq au, .slice ah ag ai, .slice ak aj al, .int .i64 r14.Enum.Done, .map (some aB), .slice aG aF aH, .slice aD aC aE, .slice aw av ax] 72 (0, 0)), .row 26 1 ao am ap aX, .row 26 1 ae ad af aR, .row 3 1 ab aa ac aM, .row 3 1 ar aq au aY, .row 26 1 ah ag ai aS, .row 39 2 ak aj al aT, .row 9 1 aG aF aH ba, .row 3 1 aD aC aE a8, .row 3 1 aw av ax a9, .any (mapE (fun a : List UInt8 => Value.string (gstr a)) (fun a : Int => Value.int .i64 a) aB r14.number)] A ∧ Els (Rp.sl (Rp.int .i64)) (bl [.blk bO (.cells #[.int .i64 r14.Enum.Points, .bool r14.Enum.Monoid, .slice ao am ap, .slice ae ad af, .slice ab aa ac, .slice ar aq au, .slice ah ag ai, .slice ak aj al, .int .i64 r14.Enum.Done, .map (some aB), .slice aG aF aH, .slice aD aC aE, .slice aw av ax] 72 (0, 0)), .row 26 1 ao am ap aX, .row 26 1 ae ad af aR, .row 3 1 ab aa ac aM, .row 3 1 ar aq au aY, .row 26 1 ah ag ai aS, .row 39 2 ak aj al aT, .row 9 1 aG aF aH ba, .row 3 1 aD aC aE a8, .row 3 1 aw av ax a9, .any (mapE (fun a : List UInt8 => Value.string (gstr a)) (fun a : Int => Value.int .i64 a) aB r14.number)] ++ A) w aX r14.Enum.Gens ∧ Els (Rp.sl (Rp.int .i64)) (bl [.blk bO (.cells #[.int .i64 r14.Enum.Points, .bool r14.Enum.Monoid, .slice ao am ap, .slice ae ad af, .slice ab aa ac, .slice ar aq au, .slice ah ag ai, .slice ak aj al, .int .i64 r14.Enum.Done, .map (some aB), .slice aG aF aH, .slice aD aC aE, .slice aw av ax] 72 (0, 0)), .row 26 1 ao am ap aX, .row 26 1 ae ad af aR, .row 3 1 ab aa ac aM, .row 3 1 ar aq au aY, .row 26 1 ah ag ai aS, .row 39 2 ak aj al aT, .row 9 1 aG aF aH ba, .row 3 1 aD aC aE a8, .row 3 1 aw av ax a9, .any (mapE (fun a : List UInt8 => Value.string (gstr a)) (fun a : Int => Value.int .i64 a) aB r14.number)] ++ A) w aR r14.Enum.Elems ∧ Els (Rp.int .i64) (bl [.blk bO (.cells #[.int .i64 r14.Enum.Points, .bool r14.Enum.Monoid, .slice ao am ap, .slice ae ad af, .slice ab aa ac, .slice ar aq au, .slice ah ag ai, .slice ak aj al, .int .i64 r14.Enum.Done, .map (some aB), .slice aG aF aH, .slice aD aC aE, .slice aw av ax] 72 (0, 0)), .row 26 1 ao am ap aX, .row 26 1 ae ad af aR, .row 3 1 ab aa ac aM, .row 3 1 ar aq au aY, .row 26 1 ah ag ai aS, .row 39 2 ak aj al aT, .row 9 1 aG aF aH ba, .row 3 1 aD aC aE a8, .row 3 1 aw av ax a9, .any (mapE (fun a : List UInt8 => Value.string (gstr a)) (fun a : Int => Value.int .i64 a) aB r14.number)] ++ A) w aM r14.Enum.Prefix ∧ Els (Rp.int .i64) (bl [.blk bO (.cells #[.int .i64 r14.Enum.Points, .bool r14.Enum.Monoid, .slice ao am ap, .slice ae ad af, .slice ab aa ac, .slice ar aq au, .slice ah ag ai, .slice ak aj al, .int .i64 r14.Enum.Done, .map (some aB), .slice aG aF aH, .slice aD aC aE, .slice aw av ax] 72 (0, 0)), .row 26 1 ao am ap aX, .row 26 1 ae ad af aR, .row 3 1 ab aa ac aM, .row 3 1 ar aq au aY, .row 26 1 ah ag ai aS, .row 39 2 ak aj al aT, .row 9 1 aG aF aH ba, .row 3 1 aD aC aE a8, .row 3 1 aw av ax a9, .any (mapE (fun a : List UInt8 => Value.string (gstr a)) (fun a : Int => Value.int .i64 a) aB r14.number)] ++ A) w aY r14.Enum.Last ∧ Els (Rp.sl (Rp.int .i64)) (bl [.blk bO (.cells #[.int .i64 r14.Enum.Points, .bool r14.Enum.Monoid, .slice ao am ap, .slice ae ad af, .slice ab aa ac, .slice ar aq au, .slice ah ag ai, .slice ak aj al, .int .i64 r14.Enum.Done, .map (some aB), .slice aG aF aH, .slice aD aC aE, .slice aw av ax] 72 (0, 0)), .row 26 1 ao am ap aX, .row 26 1 ae ad af aR, .row 3 1 ab aa ac aM, .row 3 1 ar aq au aY, .row 26 1 ah ag ai aS, .row 39 2 ak aj al aT, .row 9 1 aG aF aH ba, .row 3 1 aD aC aE a8, .row 3 1 aw av ax a9, .any (mapE (fun a : List UInt8 => Value.string (gstr a)) (fun a : Int => Value.int .i64 a) aB r14.number)] ++ A) w aS r14.Enum.Right ∧ Els (rpRule) (bl [.blk bO (.cells #[.int .i64 r14.Enum.Points, .bool r14.Enum.Monoid, .slice ao am ap, .slice ae ad af, .slice ab aa ac, .slice ar aq au, .slice ah ag ai, .slice ak aj al, .int .i64 r14.Enum.Done, .map (some aB), .slice aG aF aH, .slice aD aC aE, .slice aw av ax] 72 (0, 0)), .row 26 1 ao am ap aX, .row 26 1 ae ad af aR, .row 3 1 ab aa ac aM, .row 3 1 ar aq au aY, .row 26 1 ah ag ai aS, .row 39 2 ak aj al aT, .row 9 1 aG aF aH ba, .row 3 1 aD aC aE a8, .row 3 1 aw av ax a9, .any (mapE (fun a : List UInt8 => Value.string (gstr a)) (fun a : Int => Value.int .i64 a) aB r14.number)] ++ A) w aT r14.Enum.Rules ∧ Els (Rp.str) (bl [.blk bO (.cells #[.int .i64 r14.Enum.Points, .bool r14.Enum.Monoid, .slice ao am ap, .slice ae ad af, .slice ab aa ac, .slice ar aq au, .slice ah ag ai, .slice ak aj al, .int .i64 r14.Enum.Done, .map (some aB), .slice aG aF aH, .slice aD aC aE, .slice aw av ax] 72 (0, 0)), .row 26 1 ao am ap aX, .row 26 1 ae ad af aR, .row 3 1 ab aa ac aM, .row 3 1 ar aq au aY, .row 26 1 ah ag ai aS, .row 39 2 ak aj al aT, .row 9 1 aG aF aH ba, .row 3 1 aD aC aE a8, .row 3 1 aw av ax a9, .any (mapE (fun a : List UInt8 => Value.string (gstr a)) (fun a : Int => Value.int .i64 a) aB r14.number)] ++ A) w ba r14.words ∧ Els (Rp.int .i64) (bl [.blk bO (.cells #[.int .i64 r14.Enum.Points, .bool r14.Enum.Monoid, .slice ao am ap, .slice ae ad af, .slice ab aa ac, .slice ar aq au, .slice ah ag ai, .slice ak aj al, .int .i64 r14.Enum.Done, .map (some aB), .slice aG aF aH, .slice aD aC aE, .slice aw av ax] 72 (0, 0)), .row 26 1 ao am ap aX, .row 26 1 ae ad af aR, .row 3 1 ab aa ac aM, .row 3 1 ar aq au aY, .row 26 1 ah ag ai aS, .row 39 2 ak aj al aT, .row 9 1 aG aF aH ba, .row 3 1 aD aC aE a8, .row 3 1 aw av ax a9, .any (mapE (fun a : List UInt8 => Value.string (gstr a)) (fun a : Int => Value.int .i64 a) aB r14.number)] ++ A) w a8 r14.behind ∧ Els (Rp.int .i64) (bl [.blk bO (.cells #[.int .i64 r14.Enum.Points, .bool r14.Enum.Monoid, .slice ao am ap, .slice ae ad af, .slice ab aa ac, .slice ar aq au, .slice ah ag ai, .slice ak aj al, .int .i64 r14.Enum.Done, .map (some aB), .slice aG aF aH, .slice aD aC aE, .slice aw av ax] 72 (0, 0)), .row 26 1 ao am ap aX, .row 26 1 ae ad af aR, .row 3 1 ab aa ac aM, .row 3 1 ar aq au aY, .row 26 1 ah ag ai aS, .row 39 2 ak aj al aT, .row 9 1 aG aF aH ba, .row 3 1 aD aC aE a8, .row 3 1 aw av ax a9, .any (mapE (fun a : List UInt8 => Value.string (gstr a)) (fun a : Int => Value.int .i64 a) aB r14.number)] ++ A) w a9 r14.single ∧ Fr (bl []) w0 (bl [.blk bO (.cells #[.int .i64 r14.Enum.Points, .bool r14.Enum.Monoid, .slice ao am ap, .slice ae ad af, .slice ab aa ac, .slice ar aq au, .slice ah ag ai, .slice ak aj al, .int .i64 r14.Enum.Done, .map (some aB), .slice aG aF aH, .slice aD aC aE, .slice aw av ax] 72 (0, 0)), .row 26 1 ao am ap aX, .row 26 1 ae ad af aR, .row 3 1 ab aa ac aM, .row 3 1 ar aq au aY, .row 26 1 ah ag ai aS, .row 39 2 ak aj al aT, .row 9 1 aG aF aH ba, .row 3 1 aD aC aE a8, .row 3 1 aw av ax a9, .any (mapE (fun a : List UInt8 => Value.string (gstr a)) (fun a : Int => Value.int .i64 a) aB r14.number)]) w) H ⟨⟨rfl, rfl, rfl, rfl, rfl, trivial⟩, hO, aO, aJ, aI, aN, ay, aL, a6, a7, aP, hB⟩ ?_
    intro X4
    refine prE fun i4_117 => fun k4_118 => ?_
    intro H hX4 σ K2
    refine andE fun hag => andE fun hO => andE fun aO => andE fun aJ => andE fun aI => andE fun aN => andE fun ay => andE fun aL => andE fun a6 => andE fun a7 => andE fun aP => fun hB => ?_
    dsimp only at H
    refine Go1.keep [(0, .pointer (some ⟨bO, 0, none⟩)), (1, .int .i64 i4_117), (2, .string (gstr (ix r14.words j))), (15, .int .i64 ((ix r14.words j).length : Int)), (16, .int .i64 (k4_118 : Int))] hag ?_
    refine Go1.seq ?_
    refine Go1.region ?_
    by_cases uH : (k4_118 : Int) < ((ix r14.words j).length : Int)
    ·replace H := ifp uH H
     refine GoR.op ((fun w => opB (op_lss rfl rfl w) (decide_eq_true uH)) _) rfl rfl ?_
     refine GoR.nil ?_
     refine Go1.seq ?_
     refine Go1.condT rfl rfl ?_
     refine Go1.skip ?_
     refine Go1.seq ?_
     refine Go1.block ?_
     refine Go1.seq ?_
     refine Go1.region ?_
     refine GoR.op ((op_move rfl) _) rfl rfl ?_
     refine GoR.op ((op_assign rfl) _) rfl rfl ?_
     refine GoR.nil ?_
     refine Go1.region ?_
     refine GoR.op ((op_move rfl) _) rfl rfl ?_
     refine GoR.op ((op_move rfl) _) rfl rfl ?_
     refine GoR.op ((op_move rfl) _) rfl rfl ?_
     refine GoR.op ((op_move rfl) _) rfl rfl ?_
     obtain ⟨yQ, H⟩ := H
     obtain ⟨Io, H⟩ := H
     refine GoR.op ((op_indexS Try.underlying9 rfl rfl yQ Io) _) rfl rfl ?_
     refine GoR.op ((op_sub rfl rfl rfl) _) rfl rfl ?_
     refine GoR.op ((op_conv Try.underlying5 Try.underlying3 rfl rfl) _) rfl rfl ?_
     refine GoR.inl (vs := [.pointer (some ⟨bO, 0, none⟩), .int .i64 i4_117, .int .i64 (IntKind.i64.wrap (IntKind.u8.wrap (((ix (ix r14.words j) (k4_118 : Int)).toNat : Int) - (97 : Int))))]) (caps := []) rfl rfl body66 Try.func66 rfl Try.ntmps66 rfl rfl rfl ?_
     intro RhR122 hR122
     refine Go1.seq ?_
     refine Go1.region ?_
     refine GoR.op ((op_assign rfl) _) rfl rfl ?_
     refine GoR.nil ?_
     refine Go1.seq ?_
     refine Go1.seq ?_
     refine Go1.region ?_
     refine GoR.op ((op_move rfl) _) rfl rfl ?_
     by_cases uI : i4_117 = (-1 : Int)
     ·replace H := ifp uI H
      refine GoR.op ((fun w => opB (op_eql rfl rfl w) (decide_eq_true uI)) _) rfl rfl ?_
      refine GoR.nil ?_
      refine Go1.condT rfl rfl ?_
      refine Go1.seq ?_
      refine Go1.region ?_
      refine GoR.op ((op_move rfl) _) rfl rfl ?_
      refine GoR.op ((op_nilCheck rfl) _) rfl rfl ?_
      refine GoR.op ((op_fieldAddr Try.underlying72 rfl ti26 rfl (by decide)) _) rfl rfl ?_
      refine GoR.op ((oblk (i := 12) 0 hO rfl rfl Try.underlying26 rfl rfl) _ (Same.refl _)) rfl rfl ?_
      refine GoR.op ((op_move rfl) _) rfl rfl ?_
      obtain ⟨u7, H⟩ := H
      obtain ⟨sR, H⟩ := H
      refine GoR.op ((op_index Try.underlying26 ti3 rfl rfl u7 (ltn (aP.neq hO 9 rfl) sR) (aP.psome hO 9 rfl u7 sR)) _) rfl rfl ?_
      refine GoR.op ((oldInt 9 hO rfl aP u7 sR Try.underlying3 rfl rfl) _ (Same.refl _)) rfl rfl ?_
      refine GoR.op ((op_assign rfl) _) rfl rfl ?_
      refine GoR.nil ?_
      refine Go1.ret1V Try.func66 rfl (show _ = .int .i64 (ix r14.single (IntKind.i64.wrap (IntKind.u8.wrap (((ix (ix r14.words j) (k4_118 : Int)).toNat : Int) - (97 : Int))))) from rfl) ?_
      refine hR122 _ _ ?_
      refine GoR.op ((op_assign rfl) _) rfl rfl ?_
      refine GoR.nil ?_
      refine Go1.inBlock ?_
      refine Go1.cut [(0, .pointer (some ⟨bO, 0, none⟩)), (1, .int .i64 (ix r14.single (IntKind.i64.wrap (IntKind.u8.wrap (((ix (ix r14.words j) (k4_118 : Int)).toNat : Int) - (97 : Int)))))), (2, .string (gstr (ix r14.words j))), (15, .int .i64 ((ix r14.words j).length : Int)), (16, .int .i64 (k4_118 : Int))] ⟨rfl, rfl, rfl, rfl, rfl, trivial⟩ ?_
      intro σ _
      refine Go1.region ?_
      refine GoR.op ((op_add rfl rfl (wrap_i64 (natbd uH hle94))) _) rfl rfl ?_
      refine GoR.op ((op_move rfl) _) rfl rfl ?_
      refine GoR.nil ?_
      exact hX4 _ H _ _ ⟨⟨rfl, rfl, rfl, rfl, rfl, trivial⟩, hO, aO, aJ, aI, aN, ay, aL, a6, a7, aP, hB⟩
     replace H := ifn uI H
     refine GoR.op ((fun w => opB (op_eql rfl rfl w) (decide_eq_false uI)) _) rfl rfl ?_
     refine GoR.nil ?_
     refine Go1.condF rfl rfl ?_
     refine Go1.skip ?_
     refine Go1.seq ?_
     refine Go1.region ?_
     refine GoR.op ((op_move rfl) _) rfl rfl ?_
     refine GoR.op ((op_nilCheck rfl) _) rfl rfl ?_
     refine GoR.op ((op_fieldAddr Try.underlying72 rfl ti29 rfl (by decide)) _) rfl rfl ?_
     refine GoR.op ((op_fieldAddr Try.underlying29 rfl ti22 rfl (by decide)) _) rfl rfl ?_
     refine GoR.op ((oblk (i := 6) 0 hO rfl rfl Try.underlying22 rfl rfl) _ (Same.refl _)) rfl rfl ?_
     refine GoR.op ((op_move rfl) _) rfl rfl ?_
     obtain ⟨sT, H⟩ := H
     obtain ⟨tF, H⟩ := H
     refine GoR.op ((op_index Try.underlying22 ti26 rfl rfl sT (ltn (ay.neq hO 5 rfl) tF) (ay.psome hO 5 rfl sT tF)) _) rfl rfl ?_
     have hobt := oldSl 5 hO rfl ay sT tF
     obtain ⟨K3, K4, BY, EF⟩ := hobt
     refine GoR.op ((EF Try.underlying26 rfl rfl) _ (Same.refl _)) rfl rfl ?_
     refine GoR.op ((op_move rfl) _) rfl rfl ?_
     obtain ⟨wJ, H⟩ := H
     obtain ⟨AK, H⟩ := H
     refine GoR.op ((op_index Try.underlying26 ti3 rfl rfl wJ AK (BY.some_ wJ AK)) _) rfl rfl ?_
     refine GoR.op ((ldInt BY wJ AK Try.underlying3 rfl rfl) _ (Same.refl _)) rfl rfl ?_
     refine GoR.op ((op_assign rfl) _) rfl rfl ?_
     refine GoR.nil ?_
     refine Go1.ret1V Try.func66 rfl (show _ = .int .i64 (ix (ix r14.Enum.Right i4_117) (IntKind.i64.wrap (IntKind.u8.wrap (((ix (ix r14.words j) (k4_118 : Int)).toNat : Int) - (97 : Int))))) from rfl) ?_
     refine hR122 _ _ ?_
     refine GoR.op ((op_assign rfl) _) rfl rfl ?_
     refine GoR.nil ?_
     refine Go1.inBlock ?_
     refine Go1.region ?_
     refine GoR.op ((op_add rfl rfl (wrap_i64 (natbd uH hle94))) _) rfl rfl ?_
     refine GoR.op ((op_move rfl) _) rfl rfl ?_
     refine GoR.nil ?_
     exact hX4 _ H _ _ ⟨⟨rfl, rfl, rfl, rfl, rfl, trivial⟩, hO, aO, aJ, aI, aN, ay, aL, a6, a7, aP, hB⟩
    replace H := ifn uH H
    refine GoR.op ((fun w => opB (op_lss rfl rfl w) (decide_eq_false uH)) _) rfl rfl ?_
    refine GoR.nil ?_
    refine Go1.seq ?_
    refine Go1.condF rfl rfl ?_
    refine Go1.exit rfl ?_
    refine Go1.seq ?_
    refine Go1.region ?_
    refine GoR.op ((op_move rfl) _) rfl rfl ?_
    refine GoR.op ((op_assign rfl) _) rfl rfl ?_
    refine GoR.nil ?_
    refine Go1.ret1V Try.func59 rfl (show _ = .int .i64 i4_117 from rfl) ?_
    refine hR95 _ _ ?_
    refine GoR.op ((op_assign rfl) _) rfl rfl ?_
    refine GoR.nil ?_
    refine Go1.ret1 Try.func36 rfl ?_
    exact ⟨i4_117, rfl, hB.same, H⟩
   replace H := ifn h45 H
   refine GoR.op ((op_minF rfl rfl h45) _) rfl rfl ?_
   by_cases zw : i < (0 : Int)
   ·replace H := ifp zw H
    refine GoR.op ((fun w => opB (op_lss rfl rfl w) (decide_eq_true zw)) _) rfl rfl ?_
    refine GoR.op ((op_pickF rfl rfl rfl) _) rfl rfl ?_
    refine GoR.op ((op_move rfl) _) rfl rfl ?_
    refine GoR.pass rfl rfl ?_
    refine GoR.pass rfl rfl ?_
    refine GoR.pass rfl rfl ?_
    refine GoR.pass rfl rfl ?_
    refine GoR.pass rfl rfl ?_
    refine GoR.pass rfl rfl ?_
    refine GoR.pass rfl rfl ?_
    refine GoR.pass rfl rfl ?_
    refine GoR.pass rfl rfl ?_
    refine GoR.pass rfl rfl ?_
    refine GoR.op ((op_pickT rfl rfl rfl) _) rfl rfl ?_
    refine GoR.nil ?_
    refine Go1.condT rfl rfl ?_
    refine Go1.seq ?_
    refine Go1.cut [] trivial ?_
    intro σ _
    refine Go1.region ?_
    refine GoR.op ((op_assign rfl) _) rfl rfl ?_
    refine GoR.nil ?_
    refine Go1.ret1 Try.func36 rfl ?_
    exact ⟨(-1 : Int), rfl, hB.same, H⟩
   replace H := ifn zw H
   refine GoR.op ((fun w => opB (op_lss rfl rfl w) (decide_eq_false zw)) _) rfl rfl ?_
   refine GoR.op ((op_pickF rfl rfl rfl) _) rfl rfl ?_
   refine GoR.op ((op_move rfl) _) rfl rfl ?_
   refine GoR.op ((op_move rfl) _) rfl rfl ?_
   refine GoR.op ((op_move rfl) _) rfl rfl ?_
   by_cases vr : i < j
   ·replace H := ifp vr H
    refine GoR.op ((op_maxT rfl rfl vr) _) rfl rfl ?_
    refine GoR.op ((op_move rfl) _) rfl rfl ?_
    refine GoR.op ((op_nilCheck rfl) _) rfl rfl ?_
    refine GoR.op ((op_fieldAddr Try.underlying72 rfl ti29 rfl (by decide)) _) rfl rfl ?_
    refine GoR.op ((op_fieldAddr Try.underlying29 rfl ti22 rfl (by decide)) _) rfl rfl ?_
    refine GoR.op ((oblk (i := 3) 0 hO rfl rfl Try.underlying22 rfl rfl) _ (Same.refl _)) rfl rfl ?_
    refine GoR.op ((op_lenN Try.underlying22 rfl (aJ.neq hO 2 rfl)) _) rfl rfl ?_
    by_cases sU : (r14.Enum.Elems.length : Int) ≤ j
    ·replace H := ifp sU H
     refine GoR.op ((fun w => opB (op_geq rfl rfl w) (decide_eq_true sU)) _) rfl rfl ?_
     refine GoR.op ((op_pickF rfl rfl rfl) _) rfl rfl ?_
     refine GoR.nil ?_
     refine Go1.condT rfl rfl ?_
     refine Go1.seq ?_
     refine Go1.region ?_
     refine GoR.op ((op_assign rfl) _) rfl rfl ?_
     refine GoR.nil ?_
     refine Go1.ret1 Try.func36 rfl ?_
     exact ⟨(-1 : Int), rfl, hB.same, H⟩
    replace H := ifn sU H
    refine GoR.op ((fun w => opB (op_geq rfl rfl w) (decide_eq_false sU)) _) rfl rfl ?_
    refine GoR.op ((op_pickF rfl rfl rfl) _) rfl rfl ?_
    refine GoR.nil ?_
    refine Go1.condF rfl rfl ?_
    refine Go1.skip ?_
    refine Go1.seq ?_
    refine Go1.region ?_
    refine GoR.op ((op_move rfl) _) rfl rfl ?_
    refine GoR.op ((op_move rfl) _) rfl rfl ?_
    refine GoR.op ((op_move rfl) _) rfl rfl ?_
    refine GoR.op ((op_nilCheck rfl) _) rfl rfl ?_
    refine GoR.op ((op_fieldAddr Try.underlying72 rfl ti70 rfl (by decide)) _) rfl rfl ?_
    refine GoR.op ((oblk (i := 10) 0 hO rfl rfl Try.underlying70 rfl rfl) _ (Same.refl _)) rfl rfl ?_
    refine GoR.op ((op_move rfl) _) rfl rfl ?_
    obtain ⟨vt, H⟩ := H
    obtain ⟨vu, H⟩ := H
    refine GoR.op ((op_index Try.underlying70 ti9 rfl rfl vt (ltn (a6.neq hO 7 rfl) vu) (a6.psome hO 7 rfl vt vu)) _) rfl rfl ?_
    refine GoR.op ((oldStr 7 hO rfl a6 vt vu Try.underlying9 rfl rfl) _ (Same.refl _)) rfl rfl ?_
    have hle139 := Els.str_le a6 vt vu
    refine GoR.inl (vs := [.pointer (some ⟨bO, 0, none⟩), .int .i64 i, .string (gstr (ix r14.words j))]) (caps := []) rfl rfl body59 Try.func59 rfl Try.ntmps59 rfl rfl rfl ?_
    intro RhR140 hR140
    refine Go1.seq ?_
    refine Go1.cut [(0, .pointer (some ⟨bO, 0, none⟩)), (1, .int .i64 i), (2, .string (gstr (ix r14.words j)))] ⟨rfl, rfl, rfl, trivial⟩ ?_
    intro σ _
    refine Go1.region ?_
    refine GoR.op ((op_assign rfl) _) rfl rfl ?_
    refine GoR.nil ?_
    refine Go1.seq ?_
    refine Go1.seq ?_
    refine Go1.region ?_
    refine GoR.op ((op_move rfl) _) rfl rfl ?_
    by_cases vw : i = (-1 : Int)
    ·replace H := ifp vw H
     refine GoR.op ((fun w => opB (op_eql rfl rfl w) (decide_eq_true vw)) _) rfl rfl ?_
     refine GoR.op ((op_move rfl) _) rfl rfl ?_
     refine GoR.op ((op_move rfl) _) rfl rfl ?_
     by_cases uJ : (ix r14.words j) = (([] : Str))
     ·replace H := ifp uJ H
      refine GoR.op ((fun w => opB (op_eqlS rfl rfl w) (decide_eq_true uJ)) _) rfl rfl ?_
      refine GoR.op ((op_pickT rfl rfl rfl) _) rfl rfl ?_
      refine GoR.nil ?_
      refine Go1.condT rfl rfl ?_
      refine Go1.seq ?_
      refine Go1.region ?_
      refine GoR.op ((op_assign rfl) _) rfl rfl ?_
      refine GoR.nil ?_
      refine Go1.ret1V Try.func59 rfl (show _ = .int .i64 (0 : Int) from rfl) ?_
      refine hR140 _ _ ?_
      refine GoR.op ((op_assign rfl) _) rfl rfl ?_
      refine GoR.nil ?_
      refine Go1.ret1 Try.func36 rfl ?_
      exact ⟨(0 : Int), rfl, hB.same, H⟩
     replace H := ifn uJ H
     refine GoR.op ((fun w => opB (op_eqlS rfl rfl w) (decide_eq_false uJ)) _) rfl rfl ?_
     refine GoR.op ((op_pickT rfl rfl rfl) _) rfl rfl ?_
     refine GoR.nil ?_
     refine Go1.condF rfl rfl ?_
     refine Go1.skip ?_
     refine Go1.seq ?_
     refine Go1.seq ?_
     refine Go1.region ?_
     refine GoR.op ((op_move rfl) _) rfl rfl ?_
     refine GoR.op ((op_lenS Try.underlying9 rfl) _) rfl rfl ?_
     replace H := H hle139
     refine GoR.op ((op_move rfl) _) rfl rfl ?_
     refine GoR.nil ?_
     refine Go1.block ?_
     replace aZ := aZ.ch (Owns.dropCh _ _ 11)
     replace aU := aU.ch (Owns.dropCh _ _ 11)
     replace aK := aK.ch (Owns.dropCh _ _ 11)
     replace a5 := a5.ch (Owns.dropCh _ _ 11)
     replace aV := aV.ch (Owns.dropCh _ _ 11)
     replace aW := aW.ch (Owns.dropCh _ _ 11)
     replace aO := aO.ch (Owns.dropCh _ _ 11)
     replace aJ := aJ.ch (Owns.dropCh _ _ 11)
     replace aI := aI.ch (Owns.dropCh _ _ 11)
     replace aN := aN.ch (Owns.dropCh _ _ 11)
     replace ay := ay.ch (Owns.dropCh _ _ 11)
     replace aL := aL.ch (Owns.dropCh _ _ 11)
     replace a6 := a6.ch (Owns.dropCh _ _ 11)
     replace a7 := a7.ch (Owns.dropCh _ _ 11)
     replace aP := aP.ch (Owns.dropCh _ _ 11)
     replace hB := hB.trans (Owns.dropFr _ _ 11)
     replace hO := hO.drop 11
     dsimp only [eS, eZ] at hB hO aZ aU aK a5 aV aW aO aJ aI aN ay aL a6 a7 aP
     replace aZ := aZ.ch (Owns.dropCh _ _ 11)
     replace aU := aU.ch (Owns.dropCh _ _ 11)
     replace aK := aK.ch (Owns.dropCh _ _ 11)
     replace a5 := a5.ch (Owns.dropCh _ _ 11)
     replace aV := aV.ch (Owns.dropCh _ _ 11)
     replace aW := aW.ch (Owns.dropCh _ _ 11)
     replace aO := aO.ch (Owns.dropCh _ _ 11)
     replace aJ := aJ.ch (Owns.dropCh _ _ 11)
     replace aI := aI.ch (Owns.dropCh _ _ 11)
     replace aN := aN.ch (Owns.dropCh _ _ 11)
     replace ay := ay.ch (Owns.dropCh _ _ 11)
     replace aL := aL.ch (Owns.dropCh _ _ 11)
     replace a6 := a6.ch (Owns.dropCh _ _ 11)
     replace a7 := a7.ch (Owns.dropCh _ _ 11)
     replace aP := aP.ch (Owns.dropCh _ _ 11)
     replace hB := hB.trans (Owns.dropFr _ _ 11)
     replace hO := hO.drop 11
     dsimp only [eS, eZ] at hB hO aZ aU aK a5 aV aW aO aJ aI aN ay aL a6 a7 aP
     refine Go1.loopW (S := Int × Nat) (fun s σ w => match s with | (i5_144, k5_145) => agrees σ [(0, .pointer (some ⟨bO, 0, none⟩)), (1, .int .i64 i5_144), (2, .string (gstr (ix r14.words j))), (15, .int .i64 ((ix r14.words j).length : Int)), (16, .int .i64 (k5_145 : Int))] ∧ Owns w0.heap.size w [.blk bO (.cells #[.int .i64 r14.Enum.Points, .bool r14.Enum.Monoid, .slice ao am ap, .slice ae ad af, .slice ab aa ac, .slice ar aq au, .slice ah ag ai, .slice ak aj al, .int .i64 r14.Enum.Done, .map (some aB), .slice aG aF aH, .slice aD aC aE, .slice aw av ax] 72 (0, 0)), .row 26 1 ao am ap aX, .row 26 1 ae ad af aR, .row 3 1 ab aa ac aM, .row 3 1 ar aq au aY, .row 26 1 ah ag ai aS, .row 39 2 ak aj al aT, .row 9 1 aG aF aH ba, .row 3 1 aD aC aE a8, .row 3 1 aw av ax a9, .any (mapE (fun a : List UInt8 => Value.string (gstr a)) (fun a : Int => Value.int .i64 a) aB r14.number)] A ∧ Els (Rp.sl (Rp.int .i64)) (bl [.blk bO (.cells #[.int .i64 r14.Enum.Points, .bool r14.Enum.Monoid, .slice ao am ap, .slice ae ad af, .slice ab aa ac, .slice ar aq au, .slice ah ag ai, .slice ak aj al, .int .i64 r14.Enum.Done, .map (some aB), .slice aG aF aH, .slice aD aC aE, .slice aw av ax] 72 (0, 0)), .row 26 1 ao am ap aX, .row 26 1 ae ad af aR, .row 3 1 ab aa ac aM, .row 3 1 ar aq au aY, .row 26 1 ah ag ai aS, .row 39 2 ak aj al aT, .row 9 1 aG aF aH ba, .row 3 1 aD aC aE a8, .row 3 1 aw av ax a9, .any (mapE (fun a : List UInt8 => Value.string (gstr a)) (fun a : Int => Value.int .i64 a) aB r14.number)] ++ A) w aX r14.Enum.Gens ∧ Els (Rp.sl (Rp.int .i64)) (bl [.blk bO (.cells #[.int .i64 r14.Enum.Points, .bool r14.Enum.Monoid, .slice ao am ap, .slice ae ad af, .slice ab aa ac, .slice ar aq au, .slice ah ag ai, .slice ak aj al, .int .i64 r14.Enum.Done, .map (some aB), .slice aG aF aH, .slice aD aC aE, .slice aw av ax] 72 (0, 0)), .row 26 1 ao am ap aX, .row 26 1 ae ad af aR, .row 3 1 ab aa ac aM, .row 3 1 ar aq au aY, .row 26 1 ah ag ai aS, .row 39 2 ak aj al aT, .row 9 1 aG aF aH ba, .row 3 1 aD aC aE a8, .row 3 1 aw av ax a9, .any (mapE (fun a : List UInt8 => Value.string (gstr a)) (fun a : Int => Value.int .i64 a) aB r14.number)] ++ A) w aR r14.Enum.Elems ∧ Els (Rp.int .i64) (bl [.blk bO (.cells #[.int .i64 r14.Enum.Points, .bool r14.Enum.Monoid, .slice ao am ap, .slice ae ad af, .slice ab aa ac, .slice ar aq au, .slice ah ag ai, .slice ak aj al, .int .i64 r14.Enum.Done, .map (some aB), .slice aG aF aH, .slice aD aC aE, .slice aw av ax] 72 (0, 0)), .row 26 1 ao am ap aX, .row 26 1 ae ad af aR, .row 3 1 ab aa ac aM, .row 3 1 ar aq au aY, .row 26 1 ah ag ai aS, .row 39 2 ak aj al aT, .row 9 1 aG aF aH ba, .row 3 1 aD aC aE a8, .row 3 1 aw av ax a9, .any (mapE (fun a : List UInt8 => Value.string (gstr a)) (fun a : Int => Value.int .i64 a) aB r14.number)] ++ A) w aM r14.Enum.Prefix ∧ Els (Rp.int .i64) (bl [.blk bO (.cells #[.int .i64 r14.Enum.Points, .bool r14.Enum.Monoid, .slice ao am ap, .slice ae ad af, .slice ab aa ac, .slice ar aq au, .slice ah ag ai, .slice ak aj al, .int .i64 r14.Enum.Done, .map (some aB), .slice aG aF aH, .slice aD aC aE, .slice aw av ax] 72 (0, 0)), .row 26 1 ao am ap aX, .row 26 1 ae ad af aR, .row 3 1 ab aa ac aM, .row 3 1 ar aq au aY, .row 26 1 ah ag ai aS, .row 39 2 ak aj al aT, .row 9 1 aG aF aH ba, .row 3 1 aD aC aE a8, .row 3 1 aw av ax a9, .any (mapE (fun a : List UInt8 => Value.string (gstr a)) (fun a : Int => Value.int .i64 a) aB r14.number)] ++ A) w aY r14.Enum.Last ∧ Els (Rp.sl (Rp.int .i64)) (bl [.blk bO (.cells #[.int .i64 r14.Enum.Points, .bool r14.Enum.Monoid, .slice ao am ap, .slice ae ad af, .slice ab aa ac, .slice ar aq au, .slice ah ag ai, .slice ak aj al, .int .i64 r14.Enum.Done, .map (some aB), .slice aG aF aH, .slice aD aC aE, .slice aw av ax] 72 (0, 0)), .row 26 1 ao am ap aX, .row 26 1 ae ad af aR, .row 3 1 ab aa ac aM, .row 3 1 ar aq au aY, .row 26 1 ah ag ai aS, .row 39 2 ak aj al aT, .row 9 1 aG aF aH ba, .row 3 1 aD aC aE a8, .row 3 1 aw av ax a9, .any (mapE (fun a : List UInt8 => Value.string (gstr a)) (fun a : Int => Value.int .i64 a) aB r14.number)] ++ A) w aS r14.Enum.Right ∧ Els (rpRule) (bl [.blk bO (.cells #[.int .i64 r14.Enum.Points, .bool r14.Enum.Monoid, .slice ao am ap, .slice ae ad af, .slice ab aa ac, .slice ar aq au, .slice ah ag ai, .slice ak aj al, .int .i64 r14.Enum.Done, .map (some aB), .slice aG aF aH, .slice aD aC aE, .slice aw av ax] 72 (0, 0)), .row 26 1 ao am ap aX, .row 26 1 ae ad af aR, .row 3 1 ab aa ac aM, .row 3 1 ar aq au aY, .row 26 1 ah ag ai aS, .row 39 2 ak aj al aT, .row 9 1 aG aF aH ba, .row 3 1 aD aC aE a8, .row 3 1 aw av ax a9, .any (mapE (fun a : List UInt8 => Value.string (gstr a)) (fun a : Int => Value.int .i64 a) aB r14.number)] ++ A) w aT r14.Enum.Rules ∧ Els (Rp.str) (bl [.blk bO (.cells #[.int .i64 r14.Enum.Points, .bool r14.Enum.Monoid, .slice ao am ap, .slice ae ad af, .slice ab aa ac, .slice ar aq au, .slice ah ag ai, .slice ak aj al, .int .i64 r14.Enum.Done, .map (some aB), .slice aG aF aH, .slice aD aC aE, .slice aw av ax] 72 (0, 0)), .row 26 1 ao am ap aX, .row 26 1 ae ad af aR, .row 3 1 ab aa ac aM, .row 3 1 ar aq au aY, .row 26 1 ah ag ai aS, .row 39 2 ak aj al aT, .row 9 1 aG aF aH ba, .row 3 1 aD aC aE a8, .row 3 1 aw av ax a9, .any (mapE (fun a : List UInt8 => Value.string (gstr a)) (fun a : Int => Value.int .i64 a) aB r14.number)] ++ A) w ba r14.words ∧ Els (Rp.int .i64) (bl [.blk bO (.cells #[.int .i64 r14.Enum.Points, .bool r14.Enum.Monoid, .slice ao am ap, .slice ae ad af, .slice ab aa ac, .slice ar aq au, .slice ah ag ai, .slice ak aj al, .int .i64 r14.Enum.Done, .map (some aB), .slice aG aF aH, .slice aD aC aE, .slice aw av ax] 72 (0, 0)), .row 26 1 ao am ap aX, .row 26 1 ae ad af aR, .row 3 1 ab aa ac aM, .row 3 1 ar aq au aY, .row 26 1 ah ag ai aS, .row 39 2 ak aj al aT, .row 9 1 aG aF aH ba, .row 3 1 aD aC aE a8, .row 3 1 aw av ax a9, .any (mapE (fun a : List UInt8 => Value.string (gstr a)) (fun a : Int => Value.int .i64 a) aB r14.number)] ++ A) w a8 r14.behind ∧ Els (Rp.int .i64) (bl [.blk bO (.cells #[.int .i64 r14.Enum.Points, .bool r14.Enum.Monoid, .slice ao am ap, .slice ae ad af, .slice ab aa ac, .slice ar aq au, .slice ah ag ai, .slice ak aj al, .int .i64 r14.Enum.Done, .map (some aB), .slice aG aF aH, .slice aD aC aE, .slice aw av ax] 72 (0, 0)), .row 26 1 ao am ap aX, .row 26 1 ae ad af aR, .row 3 1 ab aa ac aM, .row 3 1 ar aq au aY, .row 26 1 ah ag ai aS, .row 39 2 ak aj al aT, .row 9 1 aG aF aH ba, .row 3 1 aD aC aE a8, .row 3 1 aw av ax a9, .any (mapE (fun a : List UInt8 => Value.string (gstr a)) (fun a : Int => Value.int .i64 a) aB r14.number)] ++ A) w a9 r14.single ∧ Fr (bl []) w0 (bl [.blk bO (.cells #[.int .i64 r14.Enum.Points, .bool r14.Enum.Monoid, .slice ao am ap, .slice ae ad af, .slice ab aa ac, .slice ar aq au, .slice ah ag ai, .slice ak aj al, .int .i64 r14.Enum.Done, .map (some aB), .slice aG aF aH, .slice aD aC aE, .slice aw av ax] 72 (0, 0)), .row 26 1 ao am ap aX, .row 26 1 ae ad af aR, .row 3 1 ab aa ac aM, .row 3 1 ar aq au aY, .row 26 1 ah ag ai aS, .row 39 2 ak aj al aT, .row 9 1 aG aF aH ba, .row 3 1 aD aC aE a8, .row 3 1 aw av ax a9, .any (mapE (fun a : List UInt8 => Value.string (gstr a)) (fun a : Int => Value.int .i64 a) aB r14.number)]) w) H ⟨⟨rfl, rfl, rfl, rfl, rfl, trivial⟩, hO, aO, aJ, aI, aN, ay, aL, a6, a7, aP, hB⟩ ?_
     intro X5
     refine prE fun i5_144 => fun k5_145 => ?_
     intro H hX5 σ Ip
     refine andE fun hag => andE fun hO => andE fun aO => andE fun aJ => andE fun aI => andE fun aN => andE fun ay => andE fun aL => andE fun a6 => andE fun a7 => andE fun aP => fun hB => ?_
     dsimp only at H
     refine Go1.keep [(0, .pointer (some ⟨bO, 0, none⟩)), (1, .int .i64 i5_144), (2, .string (gstr (ix r14.words j))), (15, .int .i64 ((ix r14.words j).length : Int)), (16, .int .i64 (k5_145 : Int))] hag ?_
     refine Go1.seq ?_
     refine Go1.region ?_
     by_cases xY : (k5_145 : Int) < ((ix r14.words j).length : Int)
     ·replace H := ifp xY H
      refine GoR.op ((fun w => opB (op_lss rfl rfl w) (decide_eq_true xY)) _) rfl rfl ?_
      refine GoR.nil ?_
      refine Go1.seq ?_
      refine Go1.condT rfl rfl ?_
      refine Go1.skip ?_
      refine Go1.seq ?_
      refine Go1.block ?_
      refine Go1.seq ?_
      refine Go1.region ?_
      refine GoR.op ((op_move rfl) _) rfl rfl ?_
      refine GoR.op ((op_assign rfl) _) rfl rfl ?_
      refine GoR.nil ?_
      refine Go1.region ?_
      refine GoR.op ((op_move rfl) _) rfl rfl ?_
      refine GoR.op ((op_move rfl) _) rfl rfl ?_
      refine GoR.op ((op_move rfl) _) rfl rfl ?_
      refine GoR.op ((op_move rfl) _) rfl rfl ?_
      obtain ⟨Iq, H⟩ := H
      obtain ⟨yR, H⟩ := H
      refine GoR.op ((op_indexS Try.underlying9 rfl rfl Iq yR) _) rfl rfl ?_
      refine GoR.op ((op_sub rfl rfl rfl) _) rfl rfl ?_
      refine GoR.op ((op_conv Try.underlying5 Try.underlying3 rfl rfl) _) rfl rfl ?_
      refine GoR.inl (vs := [.pointer (some ⟨bO, 0, none⟩), .int .i64 i5_144, .int .i64 (IntKind.i64.wrap (IntKind.u8.wrap (((ix (ix r14.words j) (k5_145 : Int)).toNat : Int) - (97 : Int))))]) (caps := []) rfl rfl body66 Try.func66 rfl Try.ntmps66 rfl rfl rfl ?_
      intro RhR149 hR149
      refine Go1.seq ?_
      refine Go1.region ?_
      refine GoR.op ((op_assign rfl) _) rfl rfl ?_
      refine GoR.nil ?_
      refine Go1.seq ?_
      refine Go1.seq ?_
      refine Go1.region ?_
      refine GoR.op ((op_move rfl) _) rfl rfl ?_
      by_cases vy : i5_144 = (-1 : Int)
      ·replace H := ifp vy H
       refine GoR.op ((fun w => opB (op_eql rfl rfl w) (decide_eq_true vy)) _) rfl rfl ?_
       refine GoR.nil ?_
       refine Go1.condT rfl rfl ?_
       refine Go1.seq ?_
       refine Go1.region ?_
       refine GoR.op ((op_move rfl) _) rfl rfl ?_
       refine GoR.op ((op_nilCheck rfl) _) rfl rfl ?_
       refine GoR.op ((op_fieldAddr Try.underlying72 rfl ti26 rfl (by decide)) _) rfl rfl ?_
       refine GoR.op ((oblk (i := 12) 0 hO rfl rfl Try.underlying26 rfl rfl) _ (Same.refl _)) rfl rfl ?_
       refine GoR.op ((op_move rfl) _) rfl rfl ?_
       obtain ⟨AM, H⟩ := H
       obtain ⟨AN, H⟩ := H
       refine GoR.op ((op_index Try.underlying26 ti3 rfl rfl AM (ltn (aP.neq hO 9 rfl) AN) (aP.psome hO 9 rfl AM AN)) _) rfl rfl ?_
       refine GoR.op ((oldInt 9 hO rfl aP AM AN Try.underlying3 rfl rfl) _ (Same.refl _)) rfl rfl ?_
       refine GoR.op ((op_assign rfl) _) rfl rfl ?_
       refine GoR.nil ?_
       refine Go1.ret1V Try.func66 rfl (show _ = .int .i64 (ix r14.single (IntKind.i64.wrap (IntKind.u8.wrap (((ix (ix r14.words j) (k5_145 : Int)).toNat : Int) - (97 : Int))))) from rfl) ?_
       refine hR149 _ _ ?_
       refine GoR.op ((op_assign rfl) _) rfl rfl ?_
       refine GoR.nil ?_
       refine Go1.inBlock ?_
       refine Go1.cut [(0, .pointer (some ⟨bO, 0, none⟩)), (1, .int .i64 (ix r14.single (IntKind.i64.wrap (IntKind.u8.wrap (((ix (ix r14.words j) (k5_145 : Int)).toNat : Int) - (97 : Int)))))), (2, .string (gstr (ix r14.words j))), (15, .int .i64 ((ix r14.words j).length : Int)), (16, .int .i64 (k5_145 : Int))] ⟨rfl, rfl, rfl, rfl, rfl, trivial⟩ ?_
       intro σ _
       refine Go1.region ?_
       refine GoR.op ((op_add rfl rfl (wrap_i64 (natbd xY hle139))) _) rfl rfl ?_
       refine GoR.op ((op_move rfl) _) rfl rfl ?_
       refine GoR.nil ?_
       exact hX5 _ H _ _ ⟨⟨rfl, rfl, rfl, rfl, rfl, trivial⟩, hO, aO, aJ, aI, aN, ay, aL, a6, a7, aP, hB⟩
      replace H := ifn vy H
      refine GoR.op ((fun w => opB (op_eql rfl rfl w) (decide_eq_false vy)) _) rfl rfl ?_
      refine GoR.nil ?_
      refine Go1.condF rfl rfl ?_
      refine Go1.skip ?_
      refine Go1.seq ?_
      refine Go1.region ?_
      refine GoR.op ((op_move rfl) _) rfl rfl ?_
      refine GoR.op ((op_nilCheck rfl) _) rfl rfl ?_
      refine GoR.op ((op_fieldAddr Try.underlying72 rfl ti29 rfl (by decide)) _) rfl rfl ?_
      refine GoR.op ((op_fieldAddr Try.underlying29 rfl ti22 rfl (by decide)) _) rfl rfl ?_
      refine GoR.op ((oblk (i := 6) 0 hO rfl rfl Try.underlying22 rfl rfl) _ (Same.refl _)) rfl rfl ?_
      refine GoR.op ((op_move rfl) _) rfl rfl ?_
      obtain ⟨AO, H⟩ := H
      obtain ⟨uK, H⟩ := H
      refine GoR.op ((op_index Try.underlying22 ti26 rfl rfl AO (ltn (ay.neq hO 5 rfl) uK) (ay.psome hO 5 rfl AO uK)) _) rfl rfl ?_
      have hobt := oldSl 5 hO rfl ay AO uK
      obtain ⟨K5, K6, BZ, EG⟩ := hobt
      refine GoR.op ((EG Try.underlying26 rfl rfl) _ (Same.refl _)) rfl rfl ?_
      refine GoR.op ((op_move rfl) _) rfl rfl ?_
      obtain ⟨AP, H⟩ := H
      obtain ⟨AQ, H⟩ := H
      refine GoR.op ((op_index Try.underlying26 ti3 rfl rfl AP AQ (BZ.some_ AP AQ)) _) rfl rfl ?_
      refine GoR.op ((ldInt BZ AP AQ Try.underlying3 rfl rfl) _ (Same.refl _)) rfl rfl ?_
      refine GoR.op ((op_assign rfl) _) rfl rfl ?_
      refine GoR.nil ?_
      refine Go1.ret1V Try.func66 rfl (show _ = .int .i64 (ix (ix r14.Enum.Right i5_144) (IntKind.i64.wrap (IntKind.u8.wrap (((ix (ix r14.words j) (k5_145 : Int)).toNat : Int) - (97 : Int))))) from rfl) ?_
      refine hR149 _ _ ?_
      refine GoR.op ((op_assign rfl) _) rfl rfl ?_
      refine GoR.nil ?_
      refine Go1.inBlock ?_
      refine Go1.region ?_
      refine GoR.op ((op_add rfl rfl (wrap_i64 (natbd xY hle139))) _) rfl rfl ?_
      refine GoR.op ((op_move rfl) _) rfl rfl ?_
      refine GoR.nil ?_
      exact hX5 _ H _ _ ⟨⟨rfl, rfl, rfl, rfl, rfl, trivial⟩, hO, aO, aJ, aI, aN, ay, aL, a6, a7, aP, hB⟩
     replace H := ifn xY H
     refine GoR.op ((fun w => opB (op_lss rfl rfl w) (decide_eq_false xY)) _) rfl rfl ?_
     refine GoR.nil ?_
     refine Go1.seq ?_
     refine Go1.condF rfl rfl ?_
     refine Go1.exit rfl ?_
     refine Go1.seq ?_
     refine Go1.region ?_
     refine GoR.op ((op_move rfl) _) rfl rfl ?_
     refine GoR.op ((op_assign rfl) _) rfl rfl ?_
     refine GoR.nil ?_
     refine Go1.ret1V Try.func59 rfl (show _ = .int .i64 i5_144 from rfl) ?_
     refine hR140 _ _ ?_
     refine GoR.op ((op_assign rfl) _) rfl rfl ?_
     refine GoR.nil ?_
     refine Go1.ret1 Try.func36 rfl ?_
     exact ⟨i5_144, rfl, hB.same, H⟩
    replace H := ifn vw H
    refine GoR.op ((fun w => opB (op_eql rfl rfl w) (decide_eq_false vw)) _) rfl rfl ?_
    refine GoR.op ((op_move rfl) _) rfl rfl ?_
    refine GoR.pass rfl rfl ?_
    refine GoR.pass rfl rfl ?_
    refine GoR.op ((op_pickF rfl rfl rfl) _) rfl rfl ?_
    refine GoR.nil ?_
    refine Go1.condF rfl rfl ?_
    refine Go1.skip ?_
    refine Go1.seq ?_
    refine Go1.seq ?_
    refine Go1.cut [(0, .pointer (some ⟨bO, 0, none⟩)), (1, .int .i64 i), (2, .string (gstr (ix r14.words j)))] ⟨rfl, rfl, rfl, trivial⟩ ?_
    intro σ _
    refine Go1.region ?_
    refine GoR.op ((op_move rfl) _) rfl rfl ?_
    refine GoR.op ((op_lenS Try.underlying9 rfl) _) rfl rfl ?_
    replace H := H hle139
    refine GoR.op ((op_move rfl) _) rfl rfl ?_
    refine GoR.nil ?_
    refine Go1.block ?_
    replace aZ := aZ.ch (Owns.dropCh _ _ 11)
    replace aU := aU.ch (Owns.dropCh _ _ 11)
    replace aK := aK.ch (Owns.dropCh _ _ 11)
    replace a5 := a5.ch (Owns.dropCh _ _ 11)
    replace aV := aV.ch (Owns.dropCh _ _ 11)
    replace aW := aW.ch (Owns.dropCh _ _ 11)
    replace aO := aO.ch (Owns.dropCh _ _ 11)
    replace aJ := aJ.ch (Owns.dropCh _ _ 11)
    replace aI := aI.ch (Owns.dropCh _ _ 11)
    replace aN := aN.ch (Owns.dropCh _ _ 11)
    replace ay := ay.ch (Owns.dropCh _ _ 11)
    replace aL := aL.ch (Owns.dropCh _ _ 11)
    replace a6 := a6.ch (Owns.dropCh _ _ 11)
    replace a7 := a7.ch (Owns.dropCh _ _ 11)
    replace aP := aP.ch (Owns.dropCh _ _ 11)
    replace hB := hB.trans (Owns.dropFr _ _ 11)
    replace hO := hO.drop 11
    dsimp only [eS, eZ] at hB hO aZ aU aK a5 aV aW aO aJ aI aN ay aL a6 a7 aP
    replace aZ := aZ.ch (Owns.dropCh _ _ 11)
    replace aU := aU.ch (Owns.dropCh _ _ 11)
    replace aK := aK.ch (Owns.dropCh _ _ 11)
    replace a5 := a5.ch (Owns.dropCh _ _ 11)
    replace aV := aV.ch (Owns.dropCh _ _ 11)
    replace aW := aW.ch (Owns.dropCh _ _ 11)
    replace aO := aO.ch (Owns.dropCh _ _ 11)
    replace aJ := aJ.ch (Owns.dropCh _ _ 11)
    replace aI := aI.ch (Owns.dropCh _ _ 11)
    replace aN := aN.ch (Owns.dropCh _ _ 11)
    replace ay := ay.ch (Owns.dropCh _ _ 11)
    replace aL := aL.ch (Owns.dropCh _ _ 11)
    replace a6 := a6.ch (Owns.dropCh _ _ 11)
    replace a7 := a7.ch (Owns.dropCh _ _ 11)
    replace aP := aP.ch (Owns.dropCh _ _ 11)
    replace hB := hB.trans (Owns.dropFr _ _ 11)
    replace hO := hO.drop 11
    dsimp only [eS, eZ] at hB hO aZ aU aK a5 aV aW aO aJ aI aN ay aL a6 a7 aP
    refine Go1.loopW (S := Int × Nat) (fun s σ w => match s with | (i6_162, k6_163) => agrees σ [(0, .pointer (some ⟨bO, 0, none⟩)), (1, .int .i64 i6_162), (2, .string (gstr (ix r14.words j))), (15, .int .i64 ((ix r14.words j).length : Int)), (16, .int .i64 (k6_163 : Int))] ∧ Owns w0.heap.size w [.blk bO (.cells #[.int .i64 r14.Enum.Points, .bool r14.Enum.Monoid, .slice ao am ap, .slice ae ad af, .slice ab aa ac, .slice ar aq au, .slice ah ag ai, .slice ak aj al, .int .i64 r14.Enum.Done, .map (some aB), .slice aG aF aH, .slice aD aC aE, .slice aw av ax] 72 (0, 0)), .row 26 1 ao am ap aX, .row 26 1 ae ad af aR, .row 3 1 ab aa ac aM, .row 3 1 ar aq au aY, .row 26 1 ah ag ai aS, .row 39 2 ak aj al aT, .row 9 1 aG aF aH ba, .row 3 1 aD aC aE a8, .row 3 1 aw av ax a9, .any (mapE (fun a : List UInt8 => Value.string (gstr a)) (fun a : Int => Value.int .i64 a) aB r14.number)] A ∧ Els (Rp.sl (Rp.int .i64)) (bl [.blk bO (.cells #[.int .i64 r14.Enum.Points, .bool r14.Enum.Monoid, .slice ao am ap, .slice ae ad af, .slice ab aa ac, .slice ar aq au, .slice ah ag ai, .slice ak aj al, .int .i64 r14.Enum.Done, .map (some aB), .slice aG aF aH, .slice aD aC aE, .slice aw av ax] 72 (0, 0)), .row 26 1 ao am ap aX, .row 26 1 ae ad af aR, .row 3 1 ab aa ac aM, .row 3 1 ar aq au aY, .row 26 1 ah ag ai aS, .row 39 2 ak aj al aT, .row 9 1 aG aF aH ba, .row 3 1 aD aC aE a8, .row 3 1 aw av ax a9, .any (mapE (fun a : List UInt8 => Value.string (gstr a)) (fun a : Int => Value.int .i64 a) aB r14.number)] ++ A) w aX r14.Enum.Gens ∧ Els (Rp.sl (Rp.int .i64)) (bl [.blk bO (.cells #[.int .i64 r14.Enum.Points, .bool r14.Enum.Monoid, .slice ao am ap, .slice ae ad af, .slice ab aa ac, .slice ar aq au, .slice ah ag ai, .slice ak aj al, .int .i64 r14.Enum.Done, .map (some aB), .slice aG aF aH, .slice aD aC aE, .slice aw av ax] 72 (0, 0)), .row 26 1 ao am ap aX, .row 26 1 ae ad af aR, .row 3 1 ab aa ac aM, .row 3 1 ar aq au aY, .row 26 1 ah ag ai aS, .row 39 2 ak aj al aT, .row 9 1 aG aF aH ba, .row 3 1 aD aC aE a8, .row 3 1 aw av ax a9, .any (mapE (fun a : List UInt8 => Value.string (gstr a)) (fun a : Int => Value.int .i64 a) aB r14.number)] ++ A) w aR r14.Enum.Elems ∧ Els (Rp.int .i64) (bl [.blk bO (.cells #[.int .i64 r14.Enum.Points, .bool r14.Enum.Monoid, .slice ao am ap, .slice ae ad af, .slice ab aa ac, .slice ar aq au, .slice ah ag ai, .slice ak aj al, .int .i64 r14.Enum.Done, .map (some aB), .slice aG aF aH, .slice aD aC aE, .slice aw av ax] 72 (0, 0)), .row 26 1 ao am ap aX, .row 26 1 ae ad af aR, .row 3 1 ab aa ac aM, .row 3 1 ar aq au aY, .row 26 1 ah ag ai aS, .row 39 2 ak aj al aT, .row 9 1 aG aF aH ba, .row 3 1 aD aC aE a8, .row 3 1 aw av ax a9, .any (mapE (fun a : List UInt8 => Value.string (gstr a)) (fun a : Int => Value.int .i64 a) aB r14.number)] ++ A) w aM r14.Enum.Prefix ∧ Els (Rp.int .i64) (bl [.blk bO (.cells #[.int .i64 r14.Enum.Points, .bool r14.Enum.Monoid, .slice ao am ap, .slice ae ad af, .slice ab aa ac, .slice ar aq au, .slice ah ag ai, .slice ak aj al, .int .i64 r14.Enum.Done, .map (some aB), .slice aG aF aH, .slice aD aC aE, .slice aw av ax] 72 (0, 0)), .row 26 1 ao am ap aX, .row 26 1 ae ad af aR, .row 3 1 ab aa ac aM, .row 3 1 ar aq au aY, .row 26 1 ah ag ai aS, .row 39 2 ak aj al aT, .row 9 1 aG aF aH ba, .row 3 1 aD aC aE a8, .row 3 1 aw av ax a9, .any (mapE (fun a : List UInt8 => Value.string (gstr a)) (fun a : Int => Value.int .i64 a) aB r14.number)] ++ A) w aY r14.Enum.Last ∧ Els (Rp.sl (Rp.int .i64)) (bl [.blk bO (.cells #[.int .i64 r14.Enum.Points, .bool r14.Enum.Monoid, .slice ao am ap, .slice ae ad af, .slice ab aa ac, .slice ar aq au, .slice ah ag ai, .slice ak aj al, .int .i64 r14.Enum.Done, .map (some aB), .slice aG aF aH, .slice aD aC aE, .slice aw av ax] 72 (0, 0)), .row 26 1 ao am ap aX, .row 26 1 ae ad af aR, .row 3 1 ab aa ac aM, .row 3 1 ar aq au aY, .row 26 1 ah ag ai aS, .row 39 2 ak aj al aT, .row 9 1 aG aF aH ba, .row 3 1 aD aC aE a8, .row 3 1 aw av ax a9, .any (mapE (fun a : List UInt8 => Value.string (gstr a)) (fun a : Int => Value.int .i64 a) aB r14.number)] ++ A) w aS r14.Enum.Right ∧ Els (rpRule) (bl [.blk bO (.cells #[.int .i64 r14.Enum.Points, .bool r14.Enum.Monoid, .slice ao am ap, .slice ae ad af, .slice ab aa ac, .slice ar aq au, .slice ah ag ai, .slice ak aj al, .int .i64 r14.Enum.Done, .map (some aB), .slice aG aF aH, .slice aD aC aE, .slice aw av ax] 72 (0, 0)), .row 26 1 ao am ap aX, .row 26 1 ae ad af aR, .row 3 1 ab aa ac aM, .row 3 1 ar aq au aY, .row 26 1 ah ag ai aS, .row 39 2 ak aj al aT, .row 9 1 aG aF aH ba, .row 3 1 aD aC aE a8, .row 3 1 aw av ax a9, .any (mapE (fun a : List UInt8 => Value.string (gstr a)) (fun a : Int => Value.int .i64 a) aB r14.number)] ++ A) w aT r14.Enum.Rules ∧ Els (Rp.str) (bl [.blk bO (.cells #[.int .i64 r14.Enum.Points, .bool r14.Enum.Monoid, .slice ao am ap, .slice ae ad af, .slice ab aa ac, .slice ar aq au, .slice ah ag ai, .slice ak aj al, .int .i64 r14.Enum.Done, .map (some aB), .slice aG aF aH, .slice aD aC aE, .slice aw av ax] 72 (0, 0)), .row 26 1 ao am ap aX, .row 26 1 ae ad af aR, .row 3 1 ab aa ac aM, .row 3 1 ar aq au aY, .row 26 1 ah ag ai aS, .row 39 2 ak aj al aT, .row 9 1 aG aF aH ba, .row 3 1 aD aC aE a8, .row 3 1 aw av ax a9, .any (mapE (fun a : List UInt8 => Value.string (gstr a)) (fun a : Int => Value.int .i64 a) aB r14.number)] ++ A) w ba r14.words ∧ Els (Rp.int .i64) (bl [.blk bO (.cells #[.int .i64 r14.Enum.Points, .bool r14.Enum.Monoid, .slice ao am ap, .slice ae ad af, .slice ab aa ac, .slice ar aq au, .slice ah ag ai, .slice ak aj al, .int .i64 r14.Enum.Done, .map (some aB), .slice aG aF aH, .slice aD aC aE, .slice aw av ax] 72 (0, 0)), .row 26 1 ao am ap aX, .row 26 1 ae ad af aR, .row 3 1 ab aa ac aM, .row 3 1 ar aq au aY, .row 26 1 ah ag ai aS, .row 39 2 ak aj al aT, .row 9 1 aG aF aH ba, .row 3 1 aD aC aE a8, .row 3 1 aw av ax a9, .any (mapE (fun a : List UInt8 => Value.string (gstr a)) (fun a : Int => Value.int .i64 a) aB r14.number)] ++ A) w a8 r14.behind ∧ Els (Rp.int .i64) (bl [.blk bO (.cells #[.int .i64 r14.Enum.Points, .bool r14.Enum.Monoid, .slice ao am ap, .slice ae ad af, .slice ab aa ac, .slice ar aq au, .slice ah ag ai, .slice ak aj al, .int .i64 r14.Enum.Done, .map (some aB), .slice aG aF aH, .slice aD aC aE, .slice aw av ax] 72 (0, 0)), .row 26 1 ao am ap aX, .row 26 1 ae ad af aR, .row 3 1 ab aa ac aM, .row 3 1 ar aq au aY, .row 26 1 ah ag ai aS, .row 39 2 ak aj al aT, .row 9 1 aG aF aH ba, .row 3 1 aD aC aE a8, .row 3 1 aw av ax a9, .any (mapE (fun a : List UInt8 => Value.string (gstr a)) (fun a : Int => Value.int .i64 a) aB r14.number)] ++ A) w a9 r14.single ∧ Fr (bl []) w0 (bl [.blk bO (.cells #[.int .i64 r14.Enum.Points, .bool r14.Enum.Monoid, .slice ao am ap, .slice ae ad af, .slice ab aa ac, .slice ar aq au, .slice ah ag ai, .slice ak aj al, .int .i64 r14.Enum.Done, .map (some aB), .slice aG aF aH, .slice aD aC aE, .slice aw av ax] 72 (0, 0)), .row 26 1 ao am ap aX, .row 26 1 ae ad af aR, .row 3 1 ab aa ac aM, .row 3 1 ar aq au aY, .row 26 1 ah ag ai aS, .row 39 2 ak aj al aT, .row 9 1 aG aF aH ba, .row 3 1 aD aC aE a8, .row 3 1 aw av ax a9, .any (mapE (fun a : List UInt8 => Value.string (gstr a)) (fun a : Int => Value.int .i64 a) aB r14.number)]) w) H ⟨⟨rfl, rfl, rfl, rfl, rfl, trivial⟩, hO, aO, aJ, aI, aN, ay, aL, a6, a7, aP, hB⟩ ?_
    intro X6
    refine prE fun i6_162 => fun k6_163 => ?_
    intro H hX6 σ K7
    refine andE fun hag => andE fun hO => andE fun aO => andE fun aJ => andE fun aI => andE fun aN => andE fun ay => andE fun aL => andE fun a6 => andE fun a7 => andE fun aP => fun hB => ?_
    dsimp only at H
    refine Go1.keep [(0, .pointer (some ⟨bO, 0, none⟩)), (1, .int .i64 i6_162), (2, .string (gstr (ix r14.words j))), (15, .int .i64 ((ix r14.words j).length : Int)), (16, .int .i64 (k6_163 : Int))] hag ?_
    refine Go1.seq ?_
    refine Go1.region ?_
    by_cases xZ : (k6_163 : Int) < ((ix r14.words j).length : Int)
    ·replace H := ifp xZ H
     refine GoR.op ((fun w => opB (op_lss rfl rfl w) (decide_eq_true xZ)) _) rfl rfl ?_
     refine GoR.nil ?_
     refine Go1.seq ?_
     refine Go1.condT rfl rfl ?_
     refine Go1.skip ?_
     refine Go1.seq ?_
     refine Go1.block ?_
     refine Go1.seq ?_
     refine Go1.region ?_
     refine GoR.op ((op_move rfl) _) rfl rfl ?_
     refine GoR.op ((op_assign rfl) _) rfl rfl ?_
     refine GoR.nil ?_
     refine Go1.region ?_
     refine GoR.op ((op_move rfl) _) rfl rfl ?_
     refine GoR.op ((op_move rfl) _) rfl rfl ?_
     refine GoR.op ((op_move rfl) _) rfl rfl ?_
     refine GoR.op ((op_move rfl) _) rfl rfl ?_
     obtain ⟨Ir, H⟩ := H
     obtain ⟨It, H⟩ := H
     refine GoR.op ((op_indexS Try.underlying9 rfl rfl Ir It) _) rfl rfl ?_
     refine GoR.op ((op_sub rfl rfl rfl) _) rfl rfl ?_
     refine GoR.op ((op_conv Try.underlying5 Try.underlying3 rfl rfl) _) rfl rfl ?_
     refine GoR.inl (vs := [.pointer (some ⟨bO, 0, none⟩), .int .i64 i6_162, .int .i64 (IntKind.i64.wrap (IntKind.u8.wrap (((ix (ix r14.words j) (k6_163 : Int)).toNat : Int) - (97 : Int))))]) (caps := []) rfl rfl body66 Try.func66 rfl Try.ntmps66 rfl rfl rfl ?_
     intro RhR167 hR167
     refine Go1.seq ?_
     refine Go1.region ?_
     refine GoR.op ((op_assign rfl) _) rfl rfl ?_
     refine GoR.nil ?_
     refine Go1.seq ?_
     refine Go1.seq ?_
     refine Go1.region ?_
     refine GoR.op ((op_move rfl) _) rfl rfl ?_
     by_cases vz : i6_162 = (-1 : Int)
     ·replace H := ifp vz H
      refine GoR.op ((fun w => opB (op_eql rfl rfl w) (decide_eq_true vz)) _) rfl rfl ?_
      refine GoR.nil ?_
      refine Go1.condT rfl rfl ?_
      refine Go1.seq ?_
      refine Go1.region ?_
      refine GoR.op ((op_move rfl) _) rfl rfl ?_
      refine GoR.op ((op_nilCheck rfl) _) rfl rfl ?_
      refine GoR.op ((op_fieldAddr Try.underlying72 rfl ti26 rfl (by decide)) _) rfl rfl ?_
      refine GoR.op ((oblk (i := 12) 0 hO rfl rfl Try.underlying26 rfl rfl) _ (Same.refl _)) rfl rfl ?_
      refine GoR.op ((op_move rfl) _) rfl rfl ?_
      obtain ⟨wK, H⟩ := H
      obtain ⟨wL, H⟩ := H
      refine GoR.op ((op_index Try.underlying26 ti3 rfl rfl wK (ltn (aP.neq hO 9 rfl) wL) (aP.psome hO 9 rfl wK wL)) _) rfl rfl ?_
      refine GoR.op ((oldInt 9 hO rfl aP wK wL Try.underlying3 rfl rfl) _ (Same.refl _)) rfl rfl ?_
      refine GoR.op ((op_assign rfl) _) rfl rfl ?_
      refine GoR.nil ?_
      refine Go1.ret1V Try.func66 rfl (show _ = .int .i64 (ix r14.single (IntKind.i64.wrap (IntKind.u8.wrap (((ix (ix r14.words j) (k6_163 : Int)).toNat : Int) - (97 : Int))))) from rfl) ?_
      refine hR167 _ _ ?_
      refine GoR.op ((op_assign rfl) _) rfl rfl ?_
      refine GoR.nil ?_
      refine Go1.inBlock ?_
      refine Go1.cut [(0, .pointer (some ⟨bO, 0, none⟩)), (1, .int .i64 (ix r14.single (IntKind.i64.wrap (IntKind.u8.wrap (((ix (ix r14.words j) (k6_163 : Int)).toNat : Int) - (97 : Int)))))), (2, .string (gstr (ix r14.words j))), (15, .int .i64 ((ix r14.words j).length : Int)), (16, .int .i64 (k6_163 : Int))] ⟨rfl, rfl, rfl, rfl, rfl, trivial⟩ ?_
      intro σ _
      refine Go1.region ?_
      refine GoR.op ((op_add rfl rfl (wrap_i64 (natbd xZ hle139))) _) rfl rfl ?_
      refine GoR.op ((op_move rfl) _) rfl rfl ?_
      refine GoR.nil ?_
      exact hX6 _ H _ _ ⟨⟨rfl, rfl, rfl, rfl, rfl, trivial⟩, hO, aO, aJ, aI, aN, ay, aL, a6, a7, aP, hB⟩
     replace H := ifn vz H
     refine GoR.op ((fun w => opB (op_eql rfl rfl w) (decide_eq_false vz)) _) rfl rfl ?_
     refine GoR.nil ?_
     refine Go1.condF rfl rfl ?_
     refine Go1.skip ?_
     refine Go1.seq ?_
     refine Go1.region ?_
     refine GoR.op ((op_move rfl) _) rfl rfl ?_
     refine GoR.op ((op_nilCheck rfl) _) rfl rfl ?_
     refine GoR.op ((op_fieldAddr Try.underlying72 rfl ti29 rfl (by decide)) _) rfl rfl ?_
     refine GoR.op ((op_fieldAddr Try.underlying29 rfl ti22 rfl (by decide)) _) rfl rfl ?_
     refine GoR.op ((oblk (i := 6) 0 hO rfl rfl Try.underlying22 rfl rfl) _ (Same.refl _)) rfl rfl ?_
     refine GoR.op ((op_move rfl) _) rfl rfl ?_
     obtain ⟨wM, H⟩ := H
     obtain ⟨vA, H⟩ := H
     refine GoR.op ((op_index Try.underlying22 ti26 rfl rfl wM (ltn (ay.neq hO 5 rfl) vA) (ay.psome hO 5 rfl wM vA)) _) rfl rfl ?_
     have hobt := oldSl 5 hO rfl ay wM vA
     obtain ⟨K8, K9, B0, EH⟩ := hobt
     refine GoR.op ((EH Try.underlying26 rfl rfl) _ (Same.refl _)) rfl rfl ?_
     refine GoR.op ((op_move rfl) _) rfl rfl ?_
     obtain ⟨vB, H⟩ := H
     obtain ⟨vC, H⟩ := H
     refine GoR.op ((op_index Try.underlying26 ti3 rfl rfl vB vC (B0.some_ vB vC)) _) rfl rfl ?_
     refine GoR.op ((ldInt B0 vB vC Try.underlying3 rfl rfl) _ (Same.refl _)) rfl rfl ?_
     refine GoR.op ((op_assign rfl) _) rfl rfl ?_
     refine GoR.nil ?_
     refine Go1.ret1V Try.func66 rfl (show _ = .int .i64 (ix (ix r14.Enum.Right i6_162) (IntKind.i64.wrap (IntKind.u8.wrap (((ix (ix r14.words j) (k6_163 : Int)).toNat : Int) - (97 : Int))))) from rfl) ?_
     refine hR167 _ _ ?_
     refine GoR.op ((op_assign rfl) _) rfl rfl ?_
     refine GoR.nil ?_
     refine Go1.inBlock ?_
     refine Go1.region ?_
     refine GoR.op ((op_add rfl rfl (wrap_i64 (natbd xZ hle139))) _) rfl rfl ?_
     refine GoR.op ((op_move rfl) _) rfl rfl ?_
     refine GoR.nil ?_
     exact hX6 _ H _ _ ⟨⟨rfl, rfl, rfl, rfl, rfl, trivial⟩, hO, aO, aJ, aI, aN, ay, aL, a6, a7, aP, hB⟩
    replace H := ifn xZ H
    refine GoR.op ((fun w => opB (op_lss rfl rfl w) (decide_eq_false xZ)) _) rfl rfl ?_
    refine GoR.nil ?_
    refine Go1.seq ?_
    refine Go1.condF rfl rfl ?_
    refine Go1.exit rfl ?_
    refine Go1.seq ?_
    refine Go1.region ?_
    refine GoR.op ((op_move rfl) _) rfl rfl ?_
    refine GoR.op ((op_assign rfl) _) rfl rfl ?_
    refine GoR.nil ?_
    refine Go1.ret1V Try.func59 rfl (show _ = .int .i64 i6_162 from rfl) ?_
    refine hR140 _ _ ?_
    refine GoR.op ((op_assign rfl) _) rfl rfl ?_
    refine GoR.nil ?_
    refine Go1.ret1 Try.func36 rfl ?_
    exact ⟨i6_162, rfl, hB.same, H⟩
   replace H := ifn vr H
   refine GoR.op ((op_maxF rfl rfl vr) _) rfl rfl ?_
   refine GoR.op ((op_move rfl) _) rfl rfl ?_
   refine GoR.op ((op_nilCheck rfl) _) rfl rfl ?_
   refine GoR.op ((op_fieldAddr Try.underlying72 rfl ti29 rfl (by decide)) _) rfl rfl ?_
   refine GoR.op ((op_fieldAddr Try.underlying29 rfl ti22 rfl (by decide)) _) rfl rfl ?_
   refine GoR.op ((oblk (i := 3) 0 hO rfl rfl Try.underlying22 rfl rfl) _ (Same.refl _)) rfl rfl ?_
   refine GoR.op ((op_lenN Try.underlying22 rfl (aJ.neq hO 2 rfl)) _) rfl rfl ?_
   by_cases u9 : (r14.Enum.Elems.length : Int) ≤ i
   ·replace H := ifp u9 H
    refine GoR.op ((fun w => opB (op_geq rfl rfl w) (decide_eq_true u9)) _) rfl rfl ?_
    refine GoR.op ((op_pickF rfl rfl rfl) _) rfl rfl ?_
    refine GoR.nil ?_
    refine Go1.condT rfl rfl ?_
    refine Go1.seq ?_
    refine Go1.cut [] trivial ?_
    intro σ _
    refine Go1.region ?_
    refine GoR.op ((op_assign rfl) _) rfl rfl ?_
    refine GoR.nil ?_
    refine Go1.ret1 Try.func36 rfl ?_
    exact ⟨(-1 : Int), rfl, hB.same, H⟩
   replace H := ifn u9 H
   refine GoR.op ((fun w => opB (op_geq rfl rfl w) (decide_eq_false u9)) _) rfl rfl ?_
   refine GoR.op ((op_pickF rfl rfl rfl) _) rfl rfl ?_
   refine GoR.nil ?_
   refine Go1.condF rfl rfl ?_
   refine Go1.skip ?_
   refine Go1.seq ?_
   refine Go1.region ?_
   refine GoR.op ((op_move rfl) _) rfl rfl ?_
   refine GoR.op ((op_move rfl) _) rfl rfl ?_
   refine GoR.op ((op_move rfl) _) rfl rfl ?_
   refine GoR.op ((op_nilCheck rfl) _) rfl rfl ?_
   refine GoR.op ((op_fieldAddr Try.underlying72 rfl ti70 rfl (by decide)) _) rfl rfl ?_
   refine GoR.op ((oblk (i := 10) 0 hO rfl rfl Try.underlying70 rfl rfl) _ (Same.refl _)) rfl rfl ?_
   refine GoR.op ((op_move rfl) _) rfl rfl ?_
   obtain ⟨va, H⟩ := H
   obtain ⟨zx, H⟩ := H
   refine GoR.op ((op_index Try.underlying70 ti9 rfl rfl va (ltn (a6.neq hO 7 rfl) zx) (a6.psome hO 7 rfl va zx)) _) rfl rfl ?_
   refine GoR.op ((oldStr 7 hO rfl a6 va zx Try.underlying9 rfl rfl) _ (Same.refl _)) rfl rfl ?_
   have hle182 := Els.str_le a6 va zx
   refine GoR.inl (vs := [.pointer (some ⟨bO, 0, none⟩), .int .i64 i, .string (gstr (ix r14.words j))]) (caps := []) rfl rfl body59 Try.func59 rfl Try.ntmps59 rfl rfl rfl ?_
   intro RhR183 hR183
   refine Go1.seq ?_
   refine Go1.region ?_
   refine GoR.op ((op_assign rfl) _) rfl rfl ?_
   refine GoR.nil ?_
   refine Go1.seq ?_
   refine Go1.seq ?_
   refine Go1.region ?_
   refine GoR.op ((op_move rfl) _) rfl rfl ?_
   by_cases zy : i = (-1 : Int)
   ·replace H := ifp zy H
    refine GoR.op ((fun w => opB (op_eql rfl rfl w) (decide_eq_true zy)) _) rfl rfl ?_
    refine GoR.op ((op_move rfl) _) rfl rfl ?_
    refine GoR.op ((op_move rfl) _) rfl rfl ?_
    by_cases zA : (ix r14.words j) = (([] : Str))
    ·replace H := ifp zA H
     refine GoR.op ((fun w => opB (op_eqlS rfl rfl w) (decide_eq_true zA)) _) rfl rfl ?_
     refine GoR.op ((op_pickT rfl rfl rfl) _) rfl rfl ?_
     refine GoR.nil ?_
     refine Go1.condT rfl rfl ?_
     refine Go1.seq ?_
     refine Go1.cut [] trivial ?_
     intro σ _
     refine Go1.region ?_
     refine GoR.op ((op_assign rfl) _) rfl rfl ?_
     refine GoR.nil ?_
     refine Go1.ret1V Try.func59 rfl (show _ = .int .i64 (0 : Int) from rfl) ?_
     refine hR183 _ _ ?_
     refine GoR.op ((op_assign rfl) _) rfl rfl ?_
     refine GoR.nil ?_
     refine Go1.ret1 Try.func36 rfl ?_
     exact ⟨(0 : Int), rfl, hB.same, H⟩
    replace H := ifn zA H
    refine GoR.op ((fun w => opB (op_eqlS rfl rfl w) (decide_eq_false zA)) _) rfl rfl ?_
    refine GoR.op ((op_pickT rfl rfl rfl) _) rfl rfl ?_
    refine GoR.nil ?_
    refine Go1.condF rfl rfl ?_
    refine Go1.skip ?_
    refine Go1.seq ?_
    refine Go1.seq ?_
    refine Go1.region ?_
    refine GoR.op ((op_move rfl) _) rfl rfl ?_
    refine GoR.op ((op_lenS Try.underlying9 rfl) _) rfl rfl ?_
    replace H := H hle182
    refine GoR.op ((op_move rfl) _) rfl rfl ?_
    refine GoR.nil ?_
    refine Go1.block ?_
    replace aZ := aZ.ch (Owns.dropCh _ _ 11)
    replace aU := aU.ch (Owns.dropCh _ _ 11)
    replace aK := aK.ch (Owns.dropCh _ _ 11)
    replace a5 := a5.ch (Owns.dropCh _ _ 11)
    replace aV := aV.ch (Owns.dropCh _ _ 11)
    replace aW := aW.ch (Owns.dropCh _ _ 11)
    replace aO := aO.ch (Owns.dropCh _ _ 11)
    replace aJ := aJ.ch (Owns.dropCh _ _ 11)
    replace aI := aI.ch (Owns.dropCh _ _ 11)
    replace aN := aN.ch (Owns.dropCh _ _ 11)
    replace ay := ay.ch (Owns.dropCh _ _ 11)
    replace aL := aL.ch (Owns.dropCh _ _ 11)
    replace a6 := a6.ch (Owns.dropCh _ _ 11)
    replace a7 := a7.ch (Owns.dropCh _ _ 11)
    replace aP := aP.ch (Owns.dropCh _ _ 11)
    replace hB := hB.trans (Owns.dropFr _ _ 11)
    replace hO := hO.drop 11
    dsimp only [eS, eZ] at hB hO aZ aU aK a5 aV aW aO aJ aI aN ay aL a6 a7 aP
    replace aZ := aZ.ch (Owns.dropCh _ _ 11)
    replace aU := aU.ch (Owns.dropCh _ _ 11)
    replace aK := aK.ch (Owns.dropCh _ _ 11)
    replace a5 := a5.ch (Owns.dropCh _ _ 11)
    replace aV := aV.ch (Owns.dropCh _ _ 11)
    replace aW := aW.ch (Owns.dropCh _ _ 11)
    replace aO := aO.ch (Owns.dropCh _ _ 11)
    replace aJ := aJ.ch (Owns.dropCh _ _ 11)
    replace aI := aI.ch (Owns.dropCh _ _ 11)
    replace aN := aN.ch (Owns.dropCh _ _ 11)
    replace ay := ay.ch (Owns.dropCh _ _ 11)
    replace aL := aL.ch (Owns.dropCh _ _ 11)
    replace a6 := a6.ch (Owns.dropCh _ _ 11)
    replace a7 := a7.ch (Owns.dropCh _ _ 11)
    replace aP := aP.ch (Owns.dropCh _ _ 11)
    replace hB := hB.trans (Owns.dropFr _ _ 11)
    replace hO := hO.drop 11
    dsimp only [eS, eZ] at hB hO aZ aU aK a5 aV aW aO aJ aI aN ay aL a6 a7 aP
    refine Go1.loopW (S := Int × Nat) (fun s σ w => match s with | (i7_187, k7_188) => agrees σ [(0, .pointer (some ⟨bO, 0, none⟩)), (1, .int .i64 i7_187), (2, .string (gstr (ix r14.words j))), (15, .int .i64 ((ix r14.words j).length : Int)), (16, .int .i64 (k7_188 : Int))] ∧ Owns w0.heap.size w [.blk bO (.cells #[.int .i64 r14.Enum.Points, .bool r14.Enum.Monoid, .slice ao am ap, .slice ae ad af, .slice ab aa ac, .slice ar aq au, .slice ah ag ai, .slice ak aj al, .int .i64 r14.Enum.Done, .map (some aB), .slice aG aF aH, .slice aD aC aE, .slice aw av ax] 72 (0, 0)), .row 26 1 ao am ap aX, .row 26 1 ae ad af aR, .row 3 1 ab aa ac aM, .row 3 1 ar aq au aY, .row 26 1 ah ag ai aS, .row 39 2 ak aj al aT, .row 9 1 aG aF aH ba, .row 3 1 aD aC aE a8, .row 3 1 aw av ax a9, .any (mapE (fun a : List UInt8 => Value.string (gstr a)) (fun a : Int => Value.int .i64 a) aB r14.number)] A ∧ Els (Rp.sl (Rp.int .i64)) (bl [.blk bO (.cells #[.int .i64 r14.Enum.Points, .bool r14.Enum.Monoid, .slice ao am ap, .slice ae ad af, .slice ab aa ac, .slice ar aq au, .slice ah ag ai, .slice ak aj al, .int .i64 r14.Enum.Done, .map (some aB), .slice aG aF aH, .slice aD aC aE, .slice aw av ax] 72 (0, 0)), .row 26 1 ao am ap aX, .row 26 1 ae ad af aR, .row 3 1 ab aa ac aM, .row 3 1 ar aq au aY, .row 26 1 ah ag ai aS, .row 39 2 ak aj al aT, .row 9 1 aG aF aH ba, .row 3 1 aD aC aE a8, .row 3 1 aw av ax a9, .any (mapE (fun a : List UInt8 => Value.string (gstr a)) (fun a : Int => Value.int .i64 a) aB r14.number)] ++ A) w aX r14.Enum.Gens ∧ Els (Rp.sl (Rp.int .i64)) (bl [.blk bO (.cells #[.int .i64 r14.Enum.Points, .bool r14.Enum.Monoid, .slice ao am ap, .slice ae ad af, .slice ab aa ac, .slice ar aq au, .slice ah ag ai, .slice ak aj al, .int .i64 r14.Enum.Done, .map (some aB), .slice aG aF aH, .slice aD aC aE, .slice aw av ax] 72 (0, 0)), .row 26 1 ao am ap aX, .row 26 1 ae ad af aR, .row 3 1 ab aa ac aM, .row 3 1 ar aq au aY, .row 26 1 ah ag ai aS, .row 39 2 ak aj al aT, .row 9 1 aG aF aH ba, .row 3 1 aD aC aE a8, .row 3 1 aw av ax a9, .any (mapE (fun a : List UInt8 => Value.string (gstr a)) (fun a : Int => Value.int .i64 a) aB r14.number)] ++ A) w aR r14.Enum.Elems ∧ Els (Rp.int .i64) (bl [.blk bO (.cells #[.int .i64 r14.Enum.Points, .bool r14.Enum.Monoid, .slice ao am ap, .slice ae ad af, .slice ab aa ac, .slice ar aq au, .slice ah ag ai, .slice ak aj al, .int .i64 r14.Enum.Done, .map (some aB), .slice aG aF aH, .slice aD aC aE, .slice aw av ax] 72 (0, 0)), .row 26 1 ao am ap aX, .row 26 1 ae ad af aR, .row 3 1 ab aa ac aM, .row 3 1 ar aq au aY, .row 26 1 ah ag ai aS, .row 39 2 ak aj al aT, .row 9 1 aG aF aH ba, .row 3 1 aD aC aE a8, .row 3 1 aw av ax a9, .any (mapE (fun a : List UInt8 => Value.string (gstr a)) (fun a : Int => Value.int .i64 a) aB r14.number)] ++ A) w aM r14.Enum.Prefix ∧ Els (Rp.int .i64) (bl [.blk bO (.cells #[.int .i64 r14.Enum.Points, .bool r14.Enum.Monoid, .slice ao am ap, .slice ae ad af, .slice ab aa ac, .slice ar aq au, .slice ah ag ai, .slice ak aj al, .int .i64 r14.Enum.Done, .map (some aB), .slice aG aF aH, .slice aD aC aE, .slice aw av ax] 72 (0, 0)), .row 26 1 ao am ap aX, .row 26 1 ae ad af aR, .row 3 1 ab aa ac aM, .row 3 1 ar aq au aY, .row 26 1 ah ag ai aS, .row 39 2 ak aj al aT, .row 9 1 aG aF aH ba, .row 3 1 aD aC aE a8, .row 3 1 aw av ax a9, .any (mapE (fun a : List UInt8 => Value.string (gstr a)) (fun a : Int => Value.int .i64 a) aB r14.number)] ++ A) w aY r14.Enum.Last ∧ Els (Rp.sl (Rp.int .i64)) (bl [.blk bO (.cells #[.int .i64 r14.Enum.Points, .bool r14.Enum.Monoid, .slice ao am ap, .slice ae ad af, .slice ab aa ac, .slice ar aq au, .slice ah ag ai, .slice ak aj al, .int .i64 r14.Enum.Done, .map (some aB), .slice aG aF aH, .slice aD aC aE, .slice aw av ax] 72 (0, 0)), .row 26 1 ao am ap aX, .row 26 1 ae ad af aR, .row 3 1 ab aa ac aM, .row 3 1 ar aq au aY, .row 26 1 ah ag ai aS, .row 39 2 ak aj al aT, .row 9 1 aG aF aH ba, .row 3 1 aD aC aE a8, .row 3 1 aw av ax a9, .any (mapE (fun a : List UInt8 => Value.string (gstr a)) (fun a : Int => Value.int .i64 a) aB r14.number)] ++ A) w aS r14.Enum.Right ∧ Els (rpRule) (bl [.blk bO (.cells #[.int .i64 r14.Enum.Points, .bool r14.Enum.Monoid, .slice ao am ap, .slice ae ad af, .slice ab aa ac, .slice ar aq au, .slice ah ag ai, .slice ak aj al, .int .i64 r14.Enum.Done, .map (some aB), .slice aG aF aH, .slice aD aC aE, .slice aw av ax] 72 (0, 0)), .row 26 1 ao am ap aX, .row 26 1 ae ad af aR, .row 3 1 ab aa ac aM, .row 3 1 ar aq au aY, .row 26 1 ah ag ai aS, .row 39 2 ak aj al aT, .row 9 1 aG aF aH ba, .row 3 1 aD aC aE a8, .row 3 1 aw av ax a9, .any (mapE (fun a : List UInt8 => Value.string (gstr a)) (fun a : Int => Value.int .i64 a) aB r14.number)] ++ A) w aT r14.Enum.Rules ∧ Els (Rp.str) (bl [.blk bO (.cells #[.int .i64 r14.Enum.Points, .bool r14.Enum.Monoid, .slice ao am ap, .slice ae ad af, .slice ab aa ac, .slice ar aq au, .slice ah ag ai, .slice ak aj al, .int .i64 r14.Enum.Done, .map (some aB), .slice aG aF aH, .slice aD aC aE, .slice aw av ax] 72 (0, 0)), .row 26 1 ao am ap aX, .row 26 1 ae ad af aR, .row 3 1 ab aa ac aM, .row 3 1 ar aq au aY, .row 26 1 ah ag ai aS, .row 39 2 ak aj al aT, .row 9 1 aG aF aH ba, .row 3 1 aD aC aE a8, .row 3 1 aw av ax a9, .any (mapE (fun a : List UInt8 => Value.string (gstr a)) (fun a : Int => Value.int .i64 a) aB r14.number)] ++ A) w ba r14.words ∧ Els (Rp.int .i64) (bl [.blk bO (.cells #[.int .i64 r14.Enum.Points, .bool r14.Enum.Monoid, .slice ao am ap, .slice ae ad af, .slice ab aa ac, .slice ar aq au, .slice ah ag ai, .slice ak aj al, .int .i64 r14.Enum.Done, .map (some aB), .slice aG aF aH, .slice aD aC aE, .slice aw av ax] 72 (0, 0)), .row 26 1 ao am ap aX, .row 26 1 ae ad af aR, .row 3 1 ab aa ac aM, .row 3 1 ar aq au aY, .row 26 1 ah ag ai aS, .row 39 2 ak aj al aT, .row 9 1 aG aF aH ba, .row 3 1 aD aC aE a8, .row 3 1 aw av ax a9, .any (mapE (fun a : List UInt8 => Value.string (gstr a)) (fun a : Int => Value.int .i64 a) aB r14.number)] ++ A) w a8 r14.behind ∧ Els (Rp.int .i64) (bl [.blk bO (.cells #[.int .i64 r14.Enum.Points, .bool r14.Enum.Monoid, .slice ao am ap, .slice ae ad af, .slice ab aa ac, .slice ar aq au, .slice ah ag ai, .slice ak aj al, .int .i64 r14.Enum.Done, .map (some aB), .slice aG aF aH, .slice aD aC aE, .slice aw av ax] 72 (0, 0)), .row 26 1 ao am ap aX, .row 26 1 ae ad af aR, .row 3 1 ab aa ac aM, .row 3 1 ar aq au aY, .row 26 1 ah ag ai aS, .row 39 2 ak aj al aT, .row 9 1 aG aF aH ba, .row 3 1 aD aC aE a8, .row 3 1 aw av ax a9, .any (mapE (fun a : List UInt8 => Value.string (gstr a)) (fun a : Int => Value.int .i64 a) aB r14.number)] ++ A) w a9 r14.single ∧ Fr (bl []) w0 (bl [.blk bO (.cells #[.int .i64 r14.Enum.Points, .bool r14.Enum.Monoid, .slice ao am ap, .slice ae ad af, .slice ab aa ac, .slice ar aq au, .slice ah ag ai, .slice ak aj al, .int .i64 r14.Enum.Done, .map (some aB), .slice aG aF aH, .slice aD aC aE, .slice aw av ax] 72 (0, 0)), .row 26 1 ao am ap aX, .row 26 1 ae ad af aR, .row 3 1 ab aa ac aM, .row 3 1 ar aq au aY, .row 26 1 ah ag ai aS, .row 39 2 ak aj al aT, .row 9 1 aG aF aH ba, .row 3 1 aD aC aE a8, .row 3 1 aw av ax a9, .any (mapE (fun a : List UInt8 => Value.string (gstr a)) (fun a : Int => Value.int .i64 a) aB r14.number)]) w) H ⟨⟨rfl, rfl, rfl, rfl, rfl, trivial⟩, hO, aO, aJ, aI, aN, ay, aL, a6, a7, aP, hB⟩ ?_
    intro X7
    refine prE fun i7_187 => fun k7_188 => ?_
    intro H hX7 σ La
    refine andE fun hag => andE fun hO => andE fun aO => andE fun aJ => andE fun aI => andE fun aN => andE fun ay => andE fun aL => andE fun a6 => andE fun a7 => andE fun aP => fun hB => ?_
    dsimp only at H
    refine Go1.keep [(0, .pointer (some ⟨bO, 0, none⟩)), (1, .int .i64 i7_187), (2, .string (gstr (ix r14.words j))), (15, .int .i64 ((ix r14.words j).length : Int)), (16, .int .i64 (k7_188 : Int))] hag ?_
    refine Go1.seq ?_
    refine Go1.region ?_
    by_cases x2 : (k7_188 : Int) < ((ix r14.words j).length : Int)
    ·replace H := ifp x2 H
     refine GoR.op ((fun w => opB (op_lss rfl rfl w) (decide_eq_true x2)) _) rfl rfl ?_
     refine GoR.nil ?_
     refine Go1.seq ?_
     refine Go1.condT rfl rfl ?_
     refine Go1.skip ?_
     refine Go1.seq ?_
     refine Go1.block ?_
     refine Go1.seq ?_
     refine Go1.region ?_
     refine GoR.op ((op_move rfl) _) rfl rfl ?_
     refine GoR.op ((op_assign rfl) _) rfl rfl ?_
     refine GoR.nil ?_
     refine Go1.region ?_
     refine GoR.op ((op_move rfl) _) rfl rfl ?_
     refine GoR.op ((op_move rfl) _) rfl rfl ?_
     refine GoR.op ((op_move rfl) _) rfl rfl ?_
     refine GoR.op ((op_move rfl) _) rfl rfl ?_
     obtain ⟨AR, H⟩ := H
     obtain ⟨Iu, H⟩ := H
     refine GoR.op ((op_indexS Try.underlying9 rfl rfl AR Iu) _) rfl rfl ?_
     refine GoR.op ((op_sub rfl rfl rfl) _) rfl rfl ?_
     refine GoR.op ((op_conv Try.underlying5 Try.underlying3 rfl rfl) _) rfl rfl ?_
     refine GoR.inl (vs := [.pointer (some ⟨bO, 0, none⟩), .int .i64 i7_187, .int .i64 (IntKind.i64.wrap (IntKind.u8.wrap (((ix (ix r14.words j) (k7_188 : Int)).toNat : Int) - (97 : Int))))]) (caps := []) rfl rfl body66 Try.func66 rfl Try.ntmps66 rfl rfl rfl ?_
     intro RhR192 hR192
     refine Go1.seq ?_
     refine Go1.region ?_
     refine GoR.op ((op_assign rfl) _) rfl rfl ?_
     refine GoR.nil ?_
     refine Go1.seq ?_
     refine Go1.seq ?_
     refine Go1.region ?_
     refine GoR.op ((op_move rfl) _) rfl rfl ?_
     by_cases zB : i7_187 = (-1 : Int)
     ·replace H := ifp zB H
      refine GoR.op ((fun w => opB (op_eql rfl rfl w) (decide_eq_true zB)) _) rfl rfl ?_
      refine GoR.nil ?_
      refine Go1.condT rfl rfl ?_
      refine Go1.seq ?_
      refine Go1.region ?_
      refine GoR.op ((op_move rfl) _) rfl rfl ?_
      refine GoR.op ((op_nilCheck rfl) _) rfl rfl ?_
      refine GoR.op ((op_fieldAddr Try.underlying72 rfl ti26 rfl (by decide)) _) rfl rfl ?_
      refine GoR.op ((oblk (i := 12) 0 hO rfl rfl Try.underlying26 rfl rfl) _ (Same.refl _)) rfl rfl ?_
      refine GoR.op ((op_move rfl) _) rfl rfl ?_
      obtain ⟨AT, H⟩ := H
      obtain ⟨AU, H⟩ := H
      refine GoR.op ((op_index Try.underlying26 ti3 rfl rfl AT (ltn (aP.neq hO 9 rfl) AU) (aP.psome hO 9 rfl AT AU)) _) rfl rfl ?_
      refine GoR.op ((oldInt 9 hO rfl aP AT AU Try.underlying3 rfl rfl) _ (Same.refl _)) rfl rfl ?_
      refine GoR.op ((op_assign rfl) _) rfl rfl ?_
      refine GoR.nil ?_
      refine Go1.ret1V Try.func66 rfl (show _ = .int .i64 (ix r14.single (IntKind.i64.wrap (IntKind.u8.wrap (((ix (ix r14.words j) (k7_188 : Int)).toNat : Int) - (97 : Int))))) from rfl) ?_
      refine hR192 _ _ ?_
      refine GoR.op ((op_assign rfl) _) rfl rfl ?_
      refine GoR.nil ?_
      refine Go1.inBlock ?_
      refine Go1.cut [(0, .pointer (some ⟨bO, 0, none⟩)), (1, .int .i64 (ix r14.single (IntKind.i64.wrap (IntKind.u8.wrap (((ix (ix r14.words j) (k7_188 : Int)).toNat : Int) - (97 : Int)))))), (2, .string (gstr (ix r14.words j))), (15, .int .i64 ((ix r14.words j).length : Int)), (16, .int .i64 (k7_188 : Int))] ⟨rfl, rfl, rfl, rfl, rfl, trivial⟩ ?_
      intro σ _
      refine Go1.region ?_
      refine GoR.op ((op_add rfl rfl (wrap_i64 (natbd x2 hle182))) _) rfl rfl ?_
      refine GoR.op ((op_move rfl) _) rfl rfl ?_
      refine GoR.nil ?_
      exact hX7 _ H _ _ ⟨⟨rfl, rfl, rfl, rfl, rfl, trivial⟩, hO, aO, aJ, aI, aN, ay, aL, a6, a7, aP, hB⟩
     replace H := ifn zB H
     refine GoR.op ((fun w => opB (op_eql rfl rfl w) (decide_eq_false zB)) _) rfl rfl ?_
     refine GoR.nil ?_
     refine Go1.condF rfl rfl ?_
     refine Go1.skip ?_
     refine Go1.seq ?_
     refine Go1.region ?_
     refine GoR.op ((op_move rfl) _) rfl rfl ?_
     refine GoR.op ((op_nilCheck rfl) _) rfl rfl ?_
     refine GoR.op ((op_fieldAddr Try.underlying72 rfl ti29 rfl (by decide)) _) rfl rfl ?_
     refine GoR.op ((op_fieldAddr Try.underlying29 rfl ti22 rfl (by decide)) _) rfl rfl ?_
     refine GoR.op ((oblk (i := 6) 0 hO rfl rfl Try.underlying22 rfl rfl) _ (Same.refl _)) rfl rfl ?_
     refine GoR.op ((op_move rfl) _) rfl rfl ?_
     obtain ⟨AV, H⟩ := H
     obtain ⟨AW, H⟩ := H
     refine GoR.op ((op_index Try.underlying22 ti26 rfl rfl AV (ltn (ay.neq hO 5 rfl) AW) (ay.psome hO 5 rfl AV AW)) _) rfl rfl ?_
     have hobt := oldSl 5 hO rfl ay AV AW
     obtain ⟨Lb, Lc, B1, EI⟩ := hobt
     refine GoR.op ((EI Try.underlying26 rfl rfl) _ (Same.refl _)) rfl rfl ?_
     refine GoR.op ((op_move rfl) _) rfl rfl ?_
     obtain ⟨AX, H⟩ := H
     obtain ⟨AY, H⟩ := H
     refine GoR.op ((op_index Try.underlying26 ti3 rfl rfl AX AY (B1.some_ AX AY)) _) rfl rfl ?_
     refine GoR.op ((ldInt B1 AX AY Try.underlying3 rfl rfl) _ (Same.refl _)) rfl rfl ?_
     refine GoR.op ((op_assign rfl) _) rfl rfl ?_
     refine GoR.nil ?_
     refine Go1.ret1V Try.func66 rfl (show _ = .int .i64 (ix (ix r14.Enum.Right i7_187) (IntKind.i64.wrap (IntKind.u8.wrap (((ix (ix r14.words j) (k7_188 : Int)).toNat : Int) - (97 : Int))))) from rfl) ?_
     refine hR192 _ _ ?_
     refine GoR.op ((op_assign rfl) _) rfl rfl ?_
     refine GoR.nil ?_
     refine Go1.inBlock ?_
     refine Go1.region ?_
     refine GoR.op ((op_add rfl rfl (wrap_i64 (natbd x2 hle182))) _) rfl rfl ?_
     refine GoR.op ((op_move rfl) _) rfl rfl ?_
     refine GoR.nil ?_
     exact hX7 _ H _ _ ⟨⟨rfl, rfl, rfl, rfl, rfl, trivial⟩, hO, aO, aJ, aI, aN, ay, aL, a6, a7, aP, hB⟩
    replace H := ifn x2 H
    refine GoR.op ((fun w => opB (op_lss rfl rfl w) (decide_eq_false x2)) _) rfl rfl ?_
    refine GoR.nil ?_
    refine Go1.seq ?_
    refine Go1.condF rfl rfl ?_
    refine Go1.exit rfl ?_
    refine Go1.seq ?_
    refine Go1.region ?_
    refine GoR.op ((op_move rfl) _) rfl rfl ?_
    refine GoR.op ((op_assign rfl) _) rfl rfl ?_
    refine GoR.nil ?_
    refine Go1.ret1V Try.func59 rfl (show _ = .int .i64 i7_187 from rfl) ?_
    refine hR183 _ _ ?_
    refine GoR.op ((op_assign rfl) _) rfl rfl ?_
    refine GoR.nil ?_
    refine Go1.ret1 Try.func36 rfl ?_
    exact ⟨i7_187, rfl, hB.same, H⟩
   replace H := ifn zy H
   refine GoR.op ((fun w => opB (op_eql rfl rfl w) (decide_eq_false zy)) _) rfl rfl ?_
   refine GoR.op ((op_move rfl) _) rfl rfl ?_
   refine GoR.pass rfl rfl ?_
   refine GoR.pass rfl rfl ?_
   refine GoR.op ((op_pickF rfl rfl rfl) _) rfl rfl ?_
   refine GoR.nil ?_
   refine Go1.condF rfl rfl ?_
   refine Go1.skip ?_
   refine Go1.seq ?_
   refine Go1.seq ?_
   refine Go1.cut [(0, .pointer (some ⟨bO, 0, none⟩)), (1, .int .i64 i), (2, .string (gstr (ix r14.words j)))] ⟨rfl, rfl, rfl, trivial⟩ ?_
   intro σ _
   refine Go1.region ?_
   refine GoR.op ((op_move rfl) _) rfl rfl ?_
   refine GoR.op ((op_lenS Try.underlying9 rfl) _) rfl rfl ?_
   replace H := H hle182
   refine GoR.op ((op_move rfl) _) rfl rfl ?_
   refine GoR.nil ?_
   refine Go1.block ?_
   replace aZ := aZ.ch (Owns.dropCh _ _ 11)
   replace aU := aU.ch (Owns.dropCh _ _ 11)
   replace aK := aK.ch (Owns.dropCh _ _ 11)
   replace a5 := a5.ch (Owns.dropCh _ _ 11)
   replace aV := aV.ch (Owns.dropCh _ _ 11)
   replace aW := aW.ch (Owns.dropCh _ _ 11)
   replace aO := aO.ch (Owns.dropCh _ _ 11)
   replace aJ := aJ.ch (Owns.dropCh _ _ 11)
   replace aI := aI.ch (Owns.dropCh _ _ 11)
   replace aN := aN.ch (Owns.dropCh _ _ 11)
   replace ay := ay.ch (Owns.dropCh _ _ 11)
   replace aL := aL.ch (Owns.dropCh _ _ 11)
   replace a6 := a6.ch (Owns.dropCh _ _ 11)
   replace a7 := a7.ch (Owns.dropCh _ _ 11)
   replace aP := aP.ch (Owns.dropCh _ _ 11)
   replace hB := hB.trans (Owns.dropFr _ _ 11)
   replace hO := hO.drop 11
   dsimp only [eS, eZ] at hB hO aZ aU aK a5 aV aW aO aJ aI aN ay aL a6 a7 aP
   replace aZ := aZ.ch (Owns.dropCh _ _ 11)
   replace aU := aU.ch (Owns.dropCh _ _ 11)
   replace aK := aK.ch (Owns.dropCh _ _ 11)
   replace a5 := a5.ch (Owns.dropCh _ _ 11)
   replace aV := aV.ch (Owns.dropCh _ _ 11)
   replace aW := aW.ch (Owns.dropCh _ _ 11)
   replace aO := aO.ch (Owns.dropCh _ _ 11)
   replace aJ := aJ.ch (Owns.dropCh _ _ 11)
   replace aI := aI.ch (Owns.dropCh _ _ 11)
   replace aN := aN.ch (Owns.dropCh _ _ 11)
   replace ay := ay.ch (Owns.dropCh _ _ 11)
   replace aL := aL.ch (Owns.dropCh _ _ 11)
   replace a6 := a6.ch (Owns.dropCh _ _ 11)
   replace a7 := a7.ch (Owns.dropCh _ _ 11)
   replace aP := aP.ch (Owns.dropCh _ _ 11)
   replace hB := hB.trans (Owns.dropFr _ _ 11)
   replace hO := hO.drop 11
   dsimp only [eS, eZ] at hB hO aZ aU aK a5 aV aW aO aJ aI aN ay aL a6 a7 aP
   refine Go1.loopW (S := Int × Nat) (fun s σ w => match s with | (i8_205, k8_206) => agrees σ [(0, .pointer (some ⟨bO, 0, none⟩)), (1, .int .i64 i8_205), (2, .string (gstr (ix r14.words j))), (15, .int .i64 ((ix r14.words j).length : Int)), (16, .int .i64 (k8_206 : Int))] ∧ Owns w0.heap.size w [.blk bO (.cells #[.int .i64 r14.Enum.Points, .bool r14.Enum.Monoid, .slice ao am ap, .slice ae ad af, .slice ab aa ac, .slice ar aq au, .slice ah ag ai, .slice ak aj al, .int .i64 r14.Enum.Done, .map (some aB), .slice aG aF aH, .slice aD aC aE, .slice aw av ax] 72 (0, 0)), .row 26 1 ao am ap aX, .row 26 1 ae ad af aR, .row 3 1 ab aa ac aM, .row 3 1 ar aq au aY, .row 26 1 ah ag ai aS, .row 39 2 ak aj al aT, .row 9 1 aG aF aH ba, .row 3 1 aD aC aE a8, .row 3 1 aw av ax a9, .any (mapE (fun a : List UInt8 => Value.string (gstr a)) (fun a : Int => Value.int .i64 a) aB r14.number)] A ∧ Els (Rp.sl (Rp.int .i64)) (bl [.blk bO (.cells #[.int .i64 r14.Enum.Points, .bool r14.Enum.Monoid, .slice ao am ap, .slice ae ad af, .slice ab aa ac, .slice ar aq au, .slice ah ag ai, .slice ak aj al, .int .i64 r14.Enum.Done, .map (some aB), .slice aG aF aH, .slice aD aC aE, .slice aw av ax] 72 (0, 0)), .row 26 1 ao am ap aX, .row 26 1 ae ad af aR, .row 3 1 ab aa ac aM, .row 3 1 ar aq au aY, .row 26 1 ah ag ai aS, .row 39 2 ak aj al aT, .row 9 1 aG aF aH ba, .row 3 1 aD aC aE a8, .row 3 1 aw av ax a9, .any (mapE (fun a : List UInt8 => Value.string (gstr a)) (fun a : Int => Value.int .i64 a) aB r14.number)] ++ A) w aX r14.Enum.Gens ∧ Els (Rp.sl (Rp.int .i64)) (bl [.blk bO (.cells #[.int .i64 r14.Enum.Points, .bool r14.Enum.Monoid, .slice ao am ap, .slice ae ad af, .slice ab aa ac, .slice ar aq au, .slice ah ag ai, .slice ak aj al, .int .i64 r14.Enum.Done, .map (some aB), .slice aG aF aH, .slice aD aC aE, .slice aw av ax] 72 (0, 0)), .row 26 1 ao am ap aX, .row 26 1 ae ad af aR, .row 3 1 ab aa ac aM, .row 3 1 ar aq au aY, .row 26 1 ah ag ai aS, .row 39 2 ak aj al aT, .row 9 1 aG aF aH ba, .row 3 1 aD aC aE a8, .row 3 1 aw av ax a9, .any (mapE (fun a : List UInt8 => Value.string (gstr a)) (fun a : Int => Value.int .i64 a) aB r14.number)] ++ A) w aR r14.Enum.Elems ∧ Els (Rp.int .i64) (bl [.blk bO (.cells #[.int .i64 r14.Enum.Points, .bool r14.Enum.Monoid, .slice ao am ap, .slice ae ad af, .slice ab aa ac, .slice ar aq au, .slice ah ag ai, .slice ak aj al, .int .i64 r14.Enum.Done, .map (some aB), .slice aG aF aH, .slice aD aC aE, .slice aw av ax] 72 (0, 0)), .row 26 1 ao am ap aX, .row 26 1 ae ad af aR, .row 3 1 ab aa ac aM, .row 3 1 ar aq au aY, .row 26 1 ah ag ai aS, .row 39 2 ak aj al aT, .row 9 1 aG aF aH ba, .row 3 1 aD aC aE a8, .row 3 1 aw av ax a9, .any (mapE (fun a : List UInt8 => Value.string (gstr a)) (fun a : Int => Value.int .i64 a) aB r14.number)] ++ A) w aM r14.Enum.Prefix ∧ Els (Rp.int .i64) (bl [.blk bO (.cells #[.int .i64 r14.Enum.Points, .bool r14.Enum.Monoid, .slice ao am ap, .slice ae ad af, .slice ab aa ac, .slice ar aq au, .slice ah ag ai, .slice ak aj al, .int .i64 r14.Enum.Done, .map (some aB), .slice aG aF aH, .slice aD aC aE, .slice aw av ax] 72 (0, 0)), .row 26 1 ao am ap aX, .row 26 1 ae ad af aR, .row 3 1 ab aa ac aM, .row 3 1 ar aq au aY, .row 26 1 ah ag ai aS, .row 39 2 ak aj al aT, .row 9 1 aG aF aH ba, .row 3 1 aD aC aE a8, .row 3 1 aw av ax a9, .any (mapE (fun a : List UInt8 => Value.string (gstr a)) (fun a : Int => Value.int .i64 a) aB r14.number)] ++ A) w aY r14.Enum.Last ∧ Els (Rp.sl (Rp.int .i64)) (bl [.blk bO (.cells #[.int .i64 r14.Enum.Points, .bool r14.Enum.Monoid, .slice ao am ap, .slice ae ad af, .slice ab aa ac, .slice ar aq au, .slice ah ag ai, .slice ak aj al, .int .i64 r14.Enum.Done, .map (some aB), .slice aG aF aH, .slice aD aC aE, .slice aw av ax] 72 (0, 0)), .row 26 1 ao am ap aX, .row 26 1 ae ad af aR, .row 3 1 ab aa ac aM, .row 3 1 ar aq au aY, .row 26 1 ah ag ai aS, .row 39 2 ak aj al aT, .row 9 1 aG aF aH ba, .row 3 1 aD aC aE a8, .row 3 1 aw av ax a9, .any (mapE (fun a : List UInt8 => Value.string (gstr a)) (fun a : Int => Value.int .i64 a) aB r14.number)] ++ A) w aS r14.Enum.Right ∧ Els (rpRule) (bl [.blk bO (.cells #[.int .i64 r14.Enum.Points, .bool r14.Enum.Monoid, .slice ao am ap, .slice ae ad af, .slice ab aa ac, .slice ar aq au, .slice ah ag ai, .slice ak aj al, .int .i64 r14.Enum.Done, .map (some aB), .slice aG aF aH, .slice aD aC aE, .slice aw av ax] 72 (0, 0)), .row 26 1 ao am ap aX, .row 26 1 ae ad af aR, .row 3 1 ab aa ac aM, .row 3 1 ar aq au aY, .row 26 1 ah ag ai aS, .row 39 2 ak aj al aT, .row 9 1 aG aF aH ba, .row 3 1 aD aC aE a8, .row 3 1 aw av ax a9, .any (mapE (fun a : List UInt8 => Value.string (gstr a)) (fun a : Int => Value.int .i64 a) aB r14.number)] ++ A) w aT r14.Enum.Rules ∧ Els (Rp.str) (bl [.blk bO (.cells #[.int .i64 r14.Enum.Points, .bool r14.Enum.Monoid, .slice ao am ap, .slice ae ad af, .slice ab aa ac, .slice ar aq au, .slice ah ag ai, .slice ak aj al, .int .i64 r14.Enum.Done, .map (some aB), .slice aG aF aH, .slice aD aC aE, .slice aw av ax] 72 (0, 0)), .row 26 1 ao am ap aX, .row 26 1 ae ad af aR, .row 3 1 ab aa ac aM, .row 3 1 ar aq au aY, .row 26 1 ah ag ai aS, .row 39 2 ak aj al aT, .row 9 1 aG aF aH ba, .row 3 1 aD aC aE a8, .row 3 1 aw av ax a9, .any (mapE (fun a : List UInt8 => Value.string (gstr a)) (fun a : Int => Value.int .i64 a) aB r14.number)] ++ A) w ba r14.words ∧ Els (Rp.int .i64) (bl [.blk bO (.cells #[.int .i64 r14.Enum.Points, .bool r14.Enum.Monoid, .slice ao am ap, .slice ae ad af, .slice ab aa ac, .slice ar aq au, .slice ah ag ai, .slice ak aj al, .int .i64 r14.Enum.Done, .map (some aB), .slice aG aF aH, .slice aD aC aE, .slice aw av ax] 72 (0, 0)), .row 26 1 ao am ap aX, .row 26 1 ae ad af aR, .row 3 1 ab aa ac aM, .row 3 1 ar aq au aY, .row 26 1 ah ag ai aS, .row 39 2 ak aj al aT, .row 9 1 aG aF aH ba, .row 3 1 aD aC aE a8, .row 3 1 aw av ax a9, .any (mapE (fun a : List UInt8 => Value.string (gstr a)) (fun a : Int => Value.int .i64 a) aB r14.number)] ++ A) w a8 r14.behind ∧ Els (Rp.int .i64) (bl [.blk bO (.cells #[.int .i64 r14.Enum.Points, .bool r14.Enum.Monoid, .slice ao am ap, .slice ae ad af, .slice ab aa ac, .slice ar aq au, .slice ah ag ai, .slice ak aj al, .int .i64 r14.Enum.Done, .map (some aB), .slice aG aF aH, .slice aD aC aE, .slice aw av ax] 72 (0, 0)), .row 26 1 ao am ap aX, .row 26 1 ae ad af aR, .row 3 1 ab aa ac aM, .row 3 1 ar aq au aY, .row 26 1 ah ag ai aS, .row 39 2 ak aj al aT, .row 9 1 aG aF aH ba, .row 3 1 aD aC aE a8, .row 3 1 aw av ax a9, .any (mapE (fun a : List UInt8 => Value.string (gstr a)) (fun a : Int => Value.int .i64 a) aB r14.number)] ++ A) w a9 r14.single ∧ Fr (bl []) w0 (bl [.blk bO (.cells #[.int .i64 r14.Enum.Points, .bool r14.Enum.Monoid, .slice ao am ap, .slice ae ad af, .slice ab aa ac, .slice ar aq au, .slice ah ag ai, .slice ak aj al, .int .i64 r14.Enum.Done, .map (some aB), .slice aG aF aH, .slice aD aC aE, .slice aw av ax] 72 (0, 0)), .row 26 1 ao am ap aX, .row 26 1 ae ad af aR, .row 3 1 ab aa ac aM, .row 3 1 ar aq au aY, .row 26 1 ah ag ai aS, .row 39 2 ak aj al aT, .row 9 1 aG aF aH ba, .row 3 1 aD aC aE a8, .row 3 1 aw av ax a9, .any (mapE (fun a : List UInt8 => Value.string (gstr a)) (fun a : Int => Value.int .i64 a) aB r14.number)]) w) H ⟨⟨rfl, rfl, rfl, rfl, rfl, trivial⟩, hO, aO, aJ, aI, aN, ay, aL, a6, a7, aP, hB⟩ ?_
   intro X8
   refine prE fun i8_205 => fun k8_206 => ?_
   intro H hX8 σ Ld
   refine andE fun hag => andE fun hO => andE fun aO => andE fun aJ => andE fun aI => andE fun aN => andE fun ay => andE fun aL => andE fun a6 => andE fun a7 => andE fun aP => fun hB => ?_
   dsimp only at H
   refine Go1.keep [(0, .pointer (some ⟨bO, 0, none⟩)), (1, .int .i64 i8_205), (2, .string (gstr (ix r14.words j))), (15, .int .i64 ((ix r14.words j).length : Int)), (16, .int .i64 (k8_206 : Int))] hag ?_
   refine Go1.seq ?_
   refine Go1.region ?_
   by_cases x3 : (k8_206 : Int) < ((ix r14.words j).length : Int)
   ·replace H := ifp x3 H
    refine GoR.op ((fun w => opB (op_lss rfl rfl w) (decide_eq_true x3)) _) rfl rfl ?_
    refine GoR.nil ?_
    refine Go1.seq ?_
    refine Go1.condT rfl rfl ?_
    refine Go1.skip ?_
    refine Go1.seq ?_
    refine Go1.block ?_
    refine Go1.seq ?_
    refine Go1.region ?_
    refine GoR.op ((op_move rfl) _) rfl rfl ?_
    refine GoR.op ((op_assign rfl) _) rfl rfl ?_
    refine GoR.nil ?_
    refine Go1.region ?_
    refine GoR.op ((op_move rfl) _) rfl rfl ?_
    refine GoR.op ((op_move rfl) _) rfl rfl ?_
    refine GoR.op ((op_move rfl) _) rfl rfl ?_
    refine GoR.op ((op_move rfl) _) rfl rfl ?_
    obtain ⟨Iv, H⟩ := H
    obtain ⟨Iw, H⟩ := H
    refine GoR.op ((op_indexS Try.underlying9 rfl rfl Iv Iw) _) rfl rfl ?_
    refine GoR.op ((op_sub rfl rfl rfl) _) rfl rfl ?_
    refine GoR.op ((op_conv Try.underlying5 Try.underlying3 rfl rfl) _) rfl rfl ?_
    refine GoR.inl (vs := [.pointer (some ⟨bO, 0, none⟩), .int .i64 i8_205, .int .i64 (IntKind.i64.wrap (IntKind.u8.wrap (((ix (ix r14.words j) (k8_206 : Int)).toNat : Int) - (97 : Int))))]) (caps := []) rfl rfl body66 Try.func66 rfl Try.ntmps66 rfl rfl rfl ?_
    intro RhR210 hR210
    refine Go1.seq ?_
    refine Go1.region ?_
    refine GoR.op ((op_assign rfl) _) rfl rfl ?_
    refine GoR.nil ?_
    refine Go1.seq ?_
    refine Go1.seq ?_
    refine Go1.region ?_
    refine GoR.op ((op_move rfl) _) rfl rfl ?_
    by_cases vD : i8_205 = (-1 : Int)
    ·replace H := ifp vD H
     refine GoR.op ((fun w => opB (op_eql rfl rfl w) (decide_eq_true vD)) _) rfl rfl ?_
     refine GoR.nil ?_
     refine Go1.condT rfl rfl ?_
     refine Go1.seq ?_
     refine Go1.region ?_
     refine GoR.op ((op_move rfl) _) rfl rfl ?_
     refine GoR.op ((op_nilCheck rfl) _) rfl rfl ?_
     refine GoR.op ((op_fieldAddr Try.underlying72 rfl ti26 rfl (by decide)) _) rfl rfl ?_
     refine GoR.op ((oblk (i := 12) 0 hO rfl rfl Try.underlying26 rfl rfl) _ (Same.refl _)) rfl rfl ?_
     refine GoR.op ((op_move rfl) _) rfl rfl ?_
     obtain ⟨vb, H⟩ := H
     obtain ⟨AZ, H⟩ := H
     refine GoR.op ((op_index Try.underlying26 ti3 rfl rfl vb (ltn (aP.neq hO 9 rfl) AZ) (aP.psome hO 9 rfl vb AZ)) _) rfl rfl ?_
     refine GoR.op ((oldInt 9 hO rfl aP vb AZ Try.underlying3 rfl rfl) _ (Same.refl _)) rfl rfl ?_
     refine GoR.op ((op_assign rfl) _) rfl rfl ?_
     refine GoR.nil ?_
     refine Go1.ret1V Try.func66 rfl (show _ = .int .i64 (ix r14.single (IntKind.i64.wrap (IntKind.u8.wrap (((ix (ix r14.words j) (k8_206 : Int)).toNat : Int) - (97 : Int))))) from rfl) ?_
     refine hR210 _ _ ?_
     refine GoR.op ((op_assign rfl) _) rfl rfl ?_
     refine GoR.nil ?_
     refine Go1.inBlock ?_
     refine Go1.cut [(0, .pointer (some ⟨bO, 0, none⟩)), (1, .int .i64 (ix r14.single (IntKind.i64.wrap (IntKind.u8.wrap (((ix (ix r14.words j) (k8_206 : Int)).toNat : Int) - (97 : Int)))))), (2, .string (gstr (ix r14.words j))), (15, .int .i64 ((ix r14.words j).length : Int)), (16, .int .i64 (k8_206 : Int))] ⟨rfl, rfl, rfl, rfl, rfl, trivial⟩ ?_
     intro σ _
     refine Go1.region ?_
     refine GoR.op ((op_add rfl rfl (wrap_i64 (natbd x3 hle182))) _) rfl rfl ?_
     refine GoR.op ((op_move rfl) _) rfl rfl ?_
     refine GoR.nil ?_
     exact hX8 _ H _ _ ⟨⟨rfl, rfl, rfl, rfl, rfl, trivial⟩, hO, aO, aJ, aI, aN, ay, aL, a6, a7, aP, hB⟩
    replace H := ifn vD H
    refine GoR.op ((fun w => opB (op_eql rfl rfl w) (decide_eq_false vD)) _) rfl rfl ?_
    refine GoR.nil ?_
    refine Go1.condF rfl rfl ?_
    refine Go1.skip ?_
    refine Go1.seq ?_
    refine Go1.region ?_
    refine GoR.op ((op_move rfl) _) rfl rfl ?_
    refine GoR.op ((op_nilCheck rfl) _) rfl rfl ?_
    refine GoR.op ((op_fieldAddr Try.underlying72 rfl ti29 rfl (by decide)) _) rfl rfl ?_
    refine GoR.op ((op_fieldAddr Try.underlying29 rfl ti22 rfl (by decide)) _) rfl rfl ?_
    refine GoR.op ((oblk (i := 6) 0 hO rfl rfl Try.underlying22 rfl rfl) _ (Same.refl _)) rfl rfl ?_
    refine GoR.op ((op_move rfl) _) rfl rfl ?_
    obtain ⟨A4, H⟩ := H
    obtain ⟨A5, H⟩ := H
    refine GoR.op ((op_index Try.underlying22 ti26 rfl rfl A4 (ltn (ay.neq hO 5 rfl) A5) (ay.psome hO 5 rfl A4 A5)) _) rfl rfl ?_
    have hobt := oldSl 5 hO rfl ay A4 A5
    obtain ⟨Le, Lf, B3, EJ⟩ := hobt
    refine GoR.op ((EJ Try.underlying26 rfl rfl) _ (Same.refl _)) rfl rfl ?_
    refine GoR.op ((op_move rfl) _) rfl rfl ?_
    obtain ⟨A6, H⟩ := H
    obtain ⟨A7, H⟩ := H
    refine GoR.op ((op_index Try.underlying26 ti3 rfl rfl A6 A7 (B3.some_ A6 A7)) _) rfl rfl ?_
    refine GoR.op ((ldInt B3 A6 A7 Try.underlying3 rfl rfl) _ (Same.refl _)) rfl rfl ?_
    refine GoR.op ((op_assign rfl) _) rfl rfl ?_
    refine GoR.nil ?_
    refine Go1.ret1V Try.func66 rfl (show _ = .int .i64 (ix (ix r14.Enum.Right i8_205) (IntKind.i64.wrap (IntKind.u8.wrap (((ix (ix r14.words j) (k8_206 : Int)).toNat : Int) - (97 : Int))))) from rfl) ?_
    refine hR210 _ _ ?_
    refine GoR.op ((op_assign rfl) _) rfl rfl ?_
    refine GoR.nil ?_
    refine Go1.inBlock ?_
    refine Go1.region ?_
    refine GoR.op ((op_add rfl rfl (wrap_i64 (natbd x3 hle182))) _) rfl rfl ?_
    refine GoR.op ((op_move rfl) _) rfl rfl ?_
    refine GoR.nil ?_
    exact hX8 _ H _ _ ⟨⟨rfl, rfl, rfl, rfl, rfl, trivial⟩, hO, aO, aJ, aI, aN, ay, aL, a6, a7, aP, hB⟩
   replace H := ifn x3 H
   refine GoR.op ((fun w => opB (op_lss rfl rfl w) (decide_eq_false x3)) _) rfl rfl ?_
   refine GoR.nil ?_
   refine Go1.seq ?_
   refine Go1.condF rfl rfl ?_
   refine Go1.exit rfl ?_
   refine Go1.seq ?_
   refine Go1.region ?_
   refine GoR.op ((op_move rfl) _) rfl rfl ?_
   refine GoR.op ((op_assign rfl) _) rfl rfl ?_
   refine GoR.nil ?_
   refine Go1.ret1V Try.func59 rfl (show _ = .int .i64 i8_205 from rfl) ?_
   refine hR183 _ _ ?_
   refine GoR.op ((op_assign rfl) _) rfl rfl ?_
   refine GoR.nil ?_
   refine Go1.ret1 Try.func36 rfl ?_
   exact ⟨i8_205, rfl, hB.same, H⟩
  replace H := ifn h44 H
  refine GoQ.pure rfl (fun w => opB (op_eql rfl rfl w) (decide_eq_false h44)) rfl rfl ?_
  refine GoQ.pure rfl (op_assign rfl) rfl rfl ?_
  refine GoQ.nil ?_
  refine Go1.ret1V Try.func50 rfl (show _ = .bool false from rfl) ?_
  refine hR40 _ _ ?_
  refine GoR.op ((op_pickT rfl rfl rfl) _) rfl rfl ?_
  refine GoR.op ((op_assign rfl) _) rfl rfl ?_
  refine GoR.op ((op_assign rfl) _) rfl rfl ?_
  refine GoR.nil ?_
  refine Go1.ret2V Try.func57 rfl (show _ = .pointer (some ⟨bO, 0, none⟩) from rfl) (show _ = .bool false from rfl) ?_
  refine hR7 _ _ ?_
  refine GoR.op ((op_move rfl) _) rfl rfl ?_
  refine GoR.op ((op_extract rfl rfl) _) rfl rfl ?_
  refine GoR.op ((op_extract rfl rfl) _) rfl rfl ?_
  refine GoR.op ((op_assign rfl) _) rfl rfl ?_
  refine GoR.op ((op_assign rfl) _) rfl rfl ?_
  refine GoR.nil ?_
  refine Go1.seq ?_
  refine Go1.seq ?_
  refine Go1.cut [(1, .int .i64 i), (2, .int .i64 j), (7, .pointer (some ⟨bO, 0, none⟩)), (8, .bool false)] ⟨rfl, rfl, rfl, rfl, trivial⟩ ?_
  intro σ _
  refine Go1.region ?_
  refine GoR.op ((op_move rfl) _) rfl rfl ?_
  refine GoR.op ((op_not rfl) _) rfl rfl ?_
  refine GoR.op ((op_move rfl) _) rfl rfl ?_
  refine GoR.pass rfl rfl ?_
  refine GoR.pass rfl rfl ?_
  refine GoR.pass rfl rfl ?_
  refine GoR.pass rfl rfl ?_
  refine GoR.op ((op_pickT rfl rfl rfl) _) rfl rfl ?_
  refine GoR.op ((op_move rfl) _) rfl rfl ?_
  refine GoR.pass rfl rfl ?_
  refine GoR.pass rfl rfl ?_
  refine GoR.pass rfl rfl ?_
  refine GoR.pass rfl rfl ?_
  refine GoR.pass rfl rfl ?_
  refine GoR.pass rfl rfl ?_
  refine GoR.pass rfl rfl ?_
  refine GoR.pass rfl rfl ?_
  refine GoR.pass rfl rfl ?_
  refine GoR.pass rfl rfl ?_
  refine GoR.op ((op_pickT rfl rfl rfl) _) rfl rfl ?_
  refine GoR.nil ?_
  refine Go1.condT rfl rfl ?_
  refine Go1.seq ?_
  refine Go1.cut [] trivial ?_
  intro σ _
  refine Go1.region ?_
  refine GoR.op ((op_assign rfl) _) rfl rfl ?_
  refine GoR.nil ?_
  refine Go1.ret1 Try.func36 rfl ?_
  exact ⟨(-1 : Int), rfl, hB.same, H⟩
end Sg
