/- The walks: each call keeps to its plain transformer. Printed by walkgen.py. -/
import Derived.Test.YtjegjjdfgefkoaaTi
import Derived.Test.YtjegjjdfgefkoaaWEnumerateActs
import Derived.Test.YtjegjjdfgefkoaaWEnumerateBuilds
import Derived.Test.YtjegjjdfgefkoaaWEnumerateBuildsb
import Derived.Test.YtjegjjdfgefkoaaWEnumerateBuildsc
import Derived.Test.YtjegjjdfgefkoaaWEnumerateBuildsd
import Derived.Test.YtjegjjdfgefkoaaWEnumerateCovers
namespace Sg
open Go Go.RowKit Go.Proofs
set_option linter.unusedVariables false
set_option linter.unusedSimpArgs false
set_option maxRecDepth 100000
set_option maxHeartbeats 4000000
theorem body38 : Body Try.prog 38 := ⟨Try.f38, Try.func38, rfl, by kernel_rfl⟩
theorem walk_enumerate_Left {A : List Nat} {w0 : World} {ng : Option Addr} {nh : Nat} {lF : Option Addr} {lG : Nat} {km : Option Addr} {kn : Nat} {ni : Option Addr} {nj : Nat} {lH : Option Addr} {lI : Nat} {lJ : Option Addr} {lK : Nat} {a0 : Enum} (hA : ∀ b ∈ A, b < w0.heap.size) (eV : ISl (Rp.sl (Rp.int .i64)) A w0 ng nh a0.Gens) (d6 : ISl (Rp.sl (Rp.int .i64)) A w0 lF lG a0.Elems) (dU : ISl (Rp.int .i64) A w0 km kn a0.Prefix) (eW : ISl (Rp.int .i64) A w0 ni nj a0.Last) (d7 : ISl (Rp.sl (Rp.int .i64)) A w0 lH lI a0.Right) (d8 : ISl (rpRule) A w0 lJ lK a0.Rules) {K : List (List Int) → Prop} (H : enumerate_Left a0 K) :
    CallsV Try.prog 38 #[.agg #[.int .i64 a0.Points, .bool a0.Monoid, .slice ng a0.Gens.length nh, .slice lF a0.Elems.length lG, .slice km a0.Prefix.length kn, .slice ni a0.Last.length nj, .slice lH a0.Right.length lI, .slice lJ a0.Rules.length lK, .int .i64 a0.Done]] w0 (fun v w' => ∃ (r0 : List (List Int)), ∃ (tG : Option Addr), ∃ (tH : Nat), v = .slice tG r0.length tH ∧ Same w0 w' ∧ ISl (Rp.sl (Rp.int .i64)) A w' tG tH r0 ∧ K r0) := by
 refine CallsV.of (l := [.agg #[.int .i64 a0.Points, .bool a0.Monoid, .slice ng a0.Gens.length nh, .slice lF a0.Elems.length lG, .slice km a0.Prefix.length kn, .slice ni a0.Last.length nj, .slice lH a0.Right.length lI, .slice lJ a0.Rules.length lK, .int .i64 a0.Done]]) Try.func38 rfl Try.ntmps38 rfl ?_
 have hO := Owns.start hA
 have hB := Fr.refl (bl []) w0
 unfold enumerate_Left at H
 replace eV := eV.ch (Ch.start A w0)
 replace d6 := d6.ch (Ch.start A w0)
 replace dU := dU.ch (Ch.start A w0)
 replace eW := eW.ch (Ch.start A w0)
 replace d7 := d7.ch (Ch.start A w0)
 replace d8 := d8.ch (Ch.start A w0)
 refine Go1.seq ?_
 refine Go1.region ?_
 have hobt := obox (t := 29) (v := .agg #[.int .i64 a0.Points, .bool a0.Monoid, .slice ng a0.Gens.length nh, .slice lF a0.Elems.length lG, .slice km a0.Prefix.length kn, .slice ni a0.Last.length nj, .slice lH a0.Right.length lI, .slice lJ a0.Rules.length lK, .int .i64 a0.Done]) (cs := #[.int .i64 a0.Points, .bool a0.Monoid, .slice ng a0.Gens.length nh, .slice lF a0.Elems.length lG, .slice km a0.Prefix.length kn, .slice ni a0.Last.length nj, .slice lH a0.Right.length lI, .slice lJ a0.Rules.length lK, .int .i64 a0.Done]) hO rfl
 obtain ⟨w1, B2, gr, hs4, u5⟩ := hobt
 refine GoR.op (u5 rfl) rfl rfl ?_
 replace hO := gr.own
 replace eV := eV.ch gr.ch
 replace d6 := d6.ch gr.ch
 replace dU := dU.ch gr.ch
 replace eW := eW.ch gr.ch
 replace d7 := d7.ch gr.ch
 replace d8 := d8.ch gr.ch
 replace hB := hB.trans gr.fr
 refine GoR.op ((op_assign rfl) _) rfl rfl ?_
 refine GoR.nil ?_
 refine Go1.seq ?_
 refine Go1.region ?_
 refine GoR.op ((oblkAgg (vs := [.int .i64 a0.Points, .bool a0.Monoid, .slice ng a0.Gens.length nh, .slice lF a0.Elems.length lG, .slice km a0.Prefix.length kn, .slice ni a0.Last.length nj, .slice lH a0.Right.length lI, .slice lJ a0.Rules.length lK, .int .i64 a0.Done]) (i := 0) 0 hO rfl rfl Try.underlying29 rfl ti29 rfl) _ (Same.refl _)) rfl rfl ?_
 refine GoR.inl (vs := [.agg #[.int .i64 a0.Points, .bool a0.Monoid, .slice ng a0.Gens.length nh, .slice lF a0.Elems.length lG, .slice km a0.Prefix.length kn, .slice ni a0.Last.length nj, .slice lH a0.Right.length lI, .slice lJ a0.Rules.length lK, .int .i64 a0.Done]]) (caps := []) rfl rfl body57 Try.func57 rfl Try.ntmps57 rfl rfl rfl ?_
 intro RhR7 hR7
 refine Go1.seq ?_
 refine Go1.region ?_
 have hobt := obox (t := 29) (v := .agg #[.int .i64 a0.Points, .bool a0.Monoid, .slice ng a0.Gens.length nh, .slice lF a0.Elems.length lG, .slice km a0.Prefix.length kn, .slice ni a0.Last.length nj, .slice lH a0.Right.length lI, .slice lJ a0.Rules.length lK, .int .i64 a0.Done]) (cs := #[.int .i64 a0.Points, .bool a0.Monoid, .slice ng a0.Gens.length nh, .slice lF a0.Elems.length lG, .slice km a0.Prefix.length kn, .slice ni a0.Last.length nj, .slice lH a0.Right.length lI, .slice lJ a0.Rules.length lK, .int .i64 a0.Done]) hO rfl
 obtain ⟨w8, B9, lE, u6, zt⟩ := hobt
 refine GoR.op (zt rfl) rfl rfl ?_
 replace hO := lE.own
 replace eV := eV.ch lE.ch
 replace d6 := d6.ch lE.ch
 replace dU := dU.ch lE.ch
 replace eW := eW.ch lE.ch
 replace d7 := d7.ch lE.ch
 replace d8 := d8.ch lE.ch
 replace hB := hB.trans lE.fr
 refine GoR.op ((op_assign rfl) _) rfl rfl ?_
 refine GoR.op ((op_assign rfl) _) rfl rfl ?_
 refine GoR.nil ?_
 refine Go1.seq ?_
 refine Go1.region ?_
 refine GoR.op ((oblkAgg (vs := [.int .i64 a0.Points, .bool a0.Monoid, .slice ng a0.Gens.length nh, .slice lF a0.Elems.length lG, .slice km a0.Prefix.length kn, .slice ni a0.Last.length nj, .slice lH a0.Right.length lI, .slice lJ a0.Rules.length lK, .int .i64 a0.Done]) (i := 0) 0 hO rfl rfl Try.underlying29 rfl ti29 rfl) _ (Same.refl _)) rfl rfl ?_
 refine GoR.call (op_call body53 rfl (walk_enumerate_replay (e := a0) hO.lt eV d6 dU eW d7 d8 H)) rfl rfl ?_
 intro v16 w17 hcase20
 refine Or.elim hcase20 ?_ ?_
 ·refine exE fun r15 => andE fun hv21 => andE fun wH => fun H => ?_
  subst hv21
  clear hcase20
  replace H := oElimN H
  have fE := Stp.same hO wH
  replace hO := fE.own
  replace eV := eV.ch fE.ch
  replace d6 := d6.ch fE.ch
  replace dU := dU.ch fE.ch
  replace eW := eW.ch fE.ch
  replace d7 := d7.ch fE.ch
  replace d8 := d8.ch fE.ch
  replace hB := hB.trans fE.fr
  refine GoR.op ((op_move rfl) _) rfl rfl ?_
  refine GoR.op ((op_extract rfl rfl) _) rfl rfl ?_
  refine GoR.op ((op_extract rfl rfl) _) rfl rfl ?_
  refine GoR.op ((op_assign rfl) _) rfl rfl ?_
  refine GoR.op ((op_assign rfl) _) rfl rfl ?_
  refine GoR.nil ?_
  refine Go1.seq ?_
  refine Go1.cut [(4, .pointer none), (5, .bool r15)] ⟨rfl, rfl, trivial⟩ ?_
  intro σ _
  refine Go1.region ?_
  refine GoR.op ((op_move rfl) _) rfl rfl ?_
  refine GoR.op ((op_move rfl) _) rfl rfl ?_
  refine GoR.op ((op_move rfl) _) rfl rfl ?_
  cases r15
  ·replace H := ifn Bool.false_ne_true H
   refine GoR.pass rfl rfl ?_
   refine GoR.pass rfl rfl ?_
   refine GoR.op ((op_pickF rfl rfl rfl) _) rfl rfl ?_
   refine GoR.op ((op_assign rfl) _) rfl rfl ?_
   refine GoR.op ((op_assign rfl) _) rfl rfl ?_
   refine GoR.nil ?_
   refine Go1.ret2V Try.func57 rfl (show _ = .pointer none from rfl) (show _ = .bool false from rfl) ?_
   refine hR7 _ _ ?_
   refine GoR.op ((op_move rfl) _) rfl rfl ?_
   refine GoR.op ((op_extract rfl rfl) _) rfl rfl ?_
   refine GoR.op ((op_extract rfl rfl) _) rfl rfl ?_
   refine GoR.op ((op_assign rfl) _) rfl rfl ?_
   refine GoR.op ((op_assign rfl) _) rfl rfl ?_
   refine GoR.nil ?_
   refine Go1.seq ?_
   refine Go1.seq ?_
   refine Go1.region ?_
   refine GoR.op ((op_move rfl) _) rfl rfl ?_
   refine GoR.op ((op_not rfl) _) rfl rfl ?_
   refine GoR.nil ?_
   refine Go1.condT rfl rfl ?_
   refine Go1.seq ?_
   refine Go1.region ?_
   refine GoR.op ((op_assign rfl) _) rfl rfl ?_
   refine GoR.nil ?_
   refine Go1.ret1 Try.func38 rfl ?_
   exact ⟨([] : List (List Int)), none, 0, rfl, hB.same, (ISl.null _ _ _), H⟩
  replace H := ifp rfl H
  refine GoR.op ((op_move rfl) _) rfl rfl ?_
  refine GoR.inl (vs := [.pointer none]) (caps := []) rfl rfl body50 Try.func50 rfl Try.ntmps50 rfl rfl rfl ?_
  intro RhR23 hR23
  refine Go1.seq ?_
  refine Go1.cut [(0, .pointer none)] ⟨rfl, trivial⟩ ?_
  intro σ _
  refine Go1.region ?_
  refine GoR.op ((op_assign rfl) _) rfl rfl ?_
  refine GoR.nil ?_
  refine Go1.seq ?_
  refine Go1.drawS 0 [(0, .pure), (1, .pure), (2, .pure), (3, .pure), (4, .stable), (5, .pure), (6, .pure), (7, .pure), (8, .pure), (9, .stable), (10, .pure), (11, .pure), (12, .pure)] mixed (by kernel_rfl) ?_
  intro w24 zu
  have kX := Stp.same hO zu
  replace hO := kX.own
  replace eV := eV.ch kX.ch
  replace d6 := d6.ch kX.ch
  replace dU := dU.ch kX.ch
  replace eW := eW.ch kX.ch
  replace d7 := d7.ch kX.ch
  replace d8 := d8.ch kX.ch
  replace hB := hB.trans kX.fr
  refine GoQ.pure rfl (op_move rfl) rfl rfl ?_
  exact H.elim
 ·refine exE fun r14 => exE fun r15 => exE fun bO => exE fun am => exE fun ao => exE fun ap => exE fun aX => exE fun ad => exE fun ae => exE fun af => exE fun aR => exE fun aa => exE fun ab => exE fun ac => exE fun aM => exE fun aq => exE fun ar => exE fun au => exE fun aY => exE fun ag => exE fun ah => exE fun ai => exE fun aS => exE fun aj => exE fun ak => exE fun al => exE fun aT => exE fun aB => exE fun aF => exE fun aG => exE fun aH => exE fun ba => exE fun aC => exE fun aD => exE fun aE => exE fun a8 => exE fun av => exE fun aw => exE fun ax => exE fun a9 => andE fun hv27 => andE fun wH => andE fun hN19 => andE fun aO => andE fun aJ => andE fun aI => andE fun aN => andE fun ay => andE fun aL => andE fun a6 => andE fun a7 => andE fun aP => fun H => ?_
  subst hv27
  clear hcase20
  replace H := oElimS H
  have j8 := Stp.more hO wH hN19
  dsimp only [List.cons_append, List.nil_append] at j8
  replace hO := j8.own
  replace eV := eV.ch j8.ch
  replace d6 := d6.ch j8.ch
  replace dU := dU.ch j8.ch
  replace eW := eW.ch j8.ch
  replace d7 := d7.ch j8.ch
  replace d8 := d8.ch j8.ch
  replace hB := hB.trans j8.fr
  replace aO := aO.ch (Ch.assoc _ _ _ _)
  dsimp only [List.cons_append, List.nil_append] at aO
  replace aJ := aJ.ch (Ch.assoc _ _ _ _)
  dsimp only [List.cons_append, List.nil_append] at aJ
  replace aI := aI.ch (Ch.assoc _ _ _ _)
  dsimp only [List.cons_append, List.nil_append] at aI
  replace aN := aN.ch (Ch.assoc _ _ _ _)
  dsimp only [List.cons_append, List.nil_append] at aN
  replace ay := ay.ch (Ch.assoc _ _ _ _)
  dsimp only [List.cons_append, List.nil_append] at ay
  replace aL := aL.ch (Ch.assoc _ _ _ _)
  dsimp only [List.cons_append, List.nil_append] at aL
  replace a6 := a6.ch (Ch.assoc _ _ _ _)
  dsimp only [List.cons_append, List.nil_append] at a6
  replace a7 := a7.ch (Ch.assoc _ _ _ _)
  dsimp only [List.cons_append, List.nil_append] at a7
  replace aP := aP.ch (Ch.assoc _ _ _ _)
  dsimp only [List.cons_append, List.nil_append] at aP
  refine GoR.op ((op_move rfl) _) rfl rfl ?_
  refine GoR.op ((op_extract rfl rfl) _) rfl rfl ?_
  refine GoR.op ((op_extract rfl rfl) _) rfl rfl ?_
  refine GoR.op ((op_assign rfl) _) rfl rfl ?_
  refine GoR.op ((op_assign rfl) _) rfl rfl ?_
  refine GoR.nil ?_
  refine Go1.seq ?_
  refine Go1.region ?_
  refine GoR.op ((op_move rfl) _) rfl rfl ?_
  refine GoR.op ((op_move rfl) _) rfl rfl ?_
  refine GoR.op ((op_move rfl) _) rfl rfl ?_
  cases r15
  ·replace H := ifn Bool.false_ne_true H
   refine GoR.pass rfl rfl ?_
   refine GoR.pass rfl rfl ?_
   refine GoR.op ((op_pickF rfl rfl rfl) _) rfl rfl ?_
   refine GoR.op ((op_assign rfl) _) rfl rfl ?_
   refine GoR.op ((op_assign rfl) _) rfl rfl ?_
   refine GoR.nil ?_
   refine Go1.ret2V Try.func57 rfl (show _ = .pointer (some ⟨bO, 0, none⟩) from rfl) (show _ = .bool false from rfl) ?_
   refine hR7 _ _ ?_
   refine GoR.op ((op_move rfl) _) rfl rfl ?_
   refine GoR.op ((op_extract rfl rfl) _) rfl rfl ?_
   refine GoR.op ((op_extract rfl rfl) _) rfl rfl ?_
   refine GoR.op ((op_assign rfl) _) rfl rfl ?_
   refine GoR.op ((op_assign rfl) _) rfl rfl ?_
   refine GoR.nil ?_
   refine Go1.seq ?_
   refine Go1.seq ?_
   refine Go1.cut [(3, .pointer (some ⟨bO, 0, none⟩)), (4, .bool false)] ⟨rfl, rfl, trivial⟩ ?_
   intro σ _
   refine Go1.region ?_
   refine GoR.op ((op_move rfl) _) rfl rfl ?_
   refine GoR.op ((op_not rfl) _) rfl rfl ?_
   refine GoR.nil ?_
   refine Go1.condT rfl rfl ?_
   refine Go1.seq ?_
   refine Go1.region ?_
   refine GoR.op ((op_assign rfl) _) rfl rfl ?_
   refine GoR.nil ?_
   refine Go1.ret1 Try.func38 rfl ?_
   exact ⟨([] : List (List Int)), none, 0, rfl, hB.same, (ISl.null _ _ _), H⟩
  replace H := ifp rfl H
  refine GoR.op ((op_move rfl) _) rfl rfl ?_
  refine GoR.inl (vs := [.pointer (some ⟨bO, 0, none⟩)]) (caps := []) rfl rfl body50 Try.func50 rfl Try.ntmps50 rfl rfl rfl ?_
  intro RhR40 hR40
  refine Go1.seq ?_
  refine Go1.region ?_
  refine GoR.op ((op_assign rfl) _) rfl rfl ?_
  refine GoR.nil ?_
  refine Go1.seq ?_
  refine Go1.drawS 0 [(0, .pure), (1, .pure), (2, .pure), (3, .pure), (4, .stable), (5, .pure), (6, .pure), (7, .pure), (8, .pure), (9, .stable), (10, .pure), (11, .pure), (12, .pure)] mixed (by kernel_rfl) ?_
  intro w41 AI
  have fW := Stp.same hO AI
  replace aO := aO.ch fW.ch
  replace aJ := aJ.ch fW.ch
  replace aI := aI.ch fW.ch
  replace aN := aN.ch fW.ch
  replace ay := ay.ch fW.ch
  replace aL := aL.ch fW.ch
  replace a6 := a6.ch fW.ch
  replace a7 := a7.ch fW.ch
  replace aP := aP.ch fW.ch
  replace hO := fW.own
  replace eV := eV.ch fW.ch
  replace d6 := d6.ch fW.ch
  replace dU := dU.ch fW.ch
  replace eW := eW.ch fW.ch
  replace d7 := d7.ch fW.ch
  replace d8 := d8.ch fW.ch
  replace hB := hB.trans fW.fr
  refine GoQ.pure rfl (op_move rfl) rfl rfl ?_
  refine GoQ.pure rfl (op_nilCheck rfl) rfl rfl ?_
  refine GoQ.pure rfl (op_fieldAddr Try.underlying72 rfl ti29 rfl (by decide)) rfl rfl ?_
  refine GoQ.pure rfl (op_fieldAddr Try.underlying29 rfl ti3 rfl (by decide)) rfl rfl ?_
  refine GoQ.stable rfl (oblk (i := 8) 0 hO rfl rfl Try.underlying3 rfl rfl) rfl rfl ?_
  refine GoQ.pure rfl (op_move rfl) rfl rfl ?_
  refine GoQ.pure rfl (op_nilCheck rfl) rfl rfl ?_
  refine GoQ.pure rfl (op_fieldAddr Try.underlying72 rfl ti29 rfl (by decide)) rfl rfl ?_
  refine GoQ.pure rfl (op_fieldAddr Try.underlying29 rfl ti22 rfl (by decide)) rfl rfl ?_
  refine GoQ.stable rfl (oblk (i := 3) 0 hO rfl rfl Try.underlying22 rfl rfl) rfl rfl ?_
  refine GoQ.pure rfl (op_lenN Try.underlying22 rfl (aJ.neq hO 2 rfl)) rfl rfl ?_
  by_cases h44 : r14.Enum.Done = (r14.Enum.Elems.length : Int)
  ·replace H := ifp h44 H
   refine GoQ.pure rfl (fun w => opB (op_eql rfl rfl w) (decide_eq_true h44)) rfl rfl ?_
   refine GoQ.pure rfl (op_assign rfl) rfl rfl ?_
   refine GoQ.nil ?_
   refine Go1.ret1V Try.func50 rfl (show _ = .bool true from rfl) ?_
   refine hR40 _ _ ?_
   refine GoR.op ((op_pickT rfl rfl rfl) _) rfl rfl ?_
   refine GoR.op ((op_assign rfl) _) rfl rfl ?_
   refine GoR.op ((op_assign rfl) _) rfl rfl ?_
   refine GoR.nil ?_
   refine Go1.ret2V Try.func57 rfl (show _ = .pointer (some ⟨bO, 0, none⟩) from rfl) (show _ = .bool true from rfl) ?_
   refine hR7 _ _ ?_
   refine GoR.op ((op_move rfl) _) rfl rfl ?_
   refine GoR.op ((op_extract rfl rfl) _) rfl rfl ?_
   refine GoR.op ((op_extract rfl rfl) _) rfl rfl ?_
   refine GoR.op ((op_assign rfl) _) rfl rfl ?_
   refine GoR.op ((op_assign rfl) _) rfl rfl ?_
   refine GoR.nil ?_
   refine Go1.seq ?_
   refine Go1.seq ?_
   refine Go1.cut [(3, .pointer (some ⟨bO, 0, none⟩)), (4, .bool true)] ⟨rfl, rfl, trivial⟩ ?_
   intro σ _
   refine Go1.region ?_
   refine GoR.op ((op_move rfl) _) rfl rfl ?_
   refine GoR.op ((op_not rfl) _) rfl rfl ?_
   refine GoR.nil ?_
   refine Go1.condF rfl rfl ?_
   refine Go1.skip ?_
   refine Go1.seq ?_
   refine Go1.region ?_
   refine GoR.op ((op_move rfl) _) rfl rfl ?_
   refine GoR.op ((op_nilCheck rfl) _) rfl rfl ?_
   refine GoR.op ((op_fieldAddr Try.underlying72 rfl ti29 rfl (by decide)) _) rfl rfl ?_
   refine GoR.op ((op_fieldAddr Try.underlying29 rfl ti22 rfl (by decide)) _) rfl rfl ?_
   refine GoR.op ((oblk (i := 3) 0 hO rfl rfl Try.underlying22 rfl rfl) _ (Same.refl _)) rfl rfl ?_
   refine GoR.op ((op_lenN Try.underlying22 rfl (aJ.neq hO 2 rfl)) _) rfl rfl ?_
   obtain ⟨h52, H⟩ := H
   obtain ⟨h53, H⟩ := H
   have hobt := t2make (m := (r14.Enum.Elems.length : Int)) (e' := 3) (Fl.int .i64) Try.underlying22 ti26 hO h52 h53 (by decide)
   obtain ⟨w45, p46, nO, Lg, EK⟩ := hobt
   refine GoR.op (EK rfl rfl) rfl rfl ?_
   replace aO := aO.ch nO.ch
   replace aJ := aJ.ch nO.ch
   replace aI := aI.ch nO.ch
   replace aN := aN.ch nO.ch
   replace ay := ay.ch nO.ch
   replace aL := aL.ch nO.ch
   replace a6 := a6.ch nO.ch
   replace a7 := a7.ch nO.ch
   replace aP := aP.ch nO.ch
   replace hO := nO.own
   replace eV := eV.ch nO.ch
   replace d6 := d6.ch nO.ch
   replace dU := dU.ch nO.ch
   replace eW := eW.ch nO.ch
   replace d7 := d7.ch nO.ch
   replace d8 := d8.ch nO.ch
   replace hB := hB.trans nO.fr
   refine GoR.op ((op_assign rfl) _) rfl rfl ?_
   refine GoR.nil ?_
   refine Go1.seq ?_
   refine Go1.seq ?_
   refine Go1.region ?_
   refine GoR.op ((op_move rfl) _) rfl rfl ?_
   refine GoR.op ((op_lenN Try.underlying22 rfl (t2neq 0 hO rfl)) _) rfl rfl ?_
   refine GoR.op ((op_move rfl) _) rfl rfl ?_
   refine GoR.nil ?_
   refine Go1.block ?_
   replace eV := eV.ch (Owns.dropCh _ _ 12)
   replace d6 := d6.ch (Owns.dropCh _ _ 12)
   replace dU := dU.ch (Owns.dropCh _ _ 12)
   replace eW := eW.ch (Owns.dropCh _ _ 12)
   replace d7 := d7.ch (Owns.dropCh _ _ 12)
   replace d8 := d8.ch (Owns.dropCh _ _ 12)
   replace aO := aO.ch (Owns.dropCh _ _ 12)
   replace aJ := aJ.ch (Owns.dropCh _ _ 12)
   replace aI := aI.ch (Owns.dropCh _ _ 12)
   replace aN := aN.ch (Owns.dropCh _ _ 12)
   replace ay := ay.ch (Owns.dropCh _ _ 12)
   replace aL := aL.ch (Owns.dropCh _ _ 12)
   replace a6 := a6.ch (Owns.dropCh _ _ 12)
   replace a7 := a7.ch (Owns.dropCh _ _ 12)
   replace aP := aP.ch (Owns.dropCh _ _ 12)
   replace hB := hB.trans (Owns.dropFr _ _ 12)
   replace hO := hO.drop 12
   dsimp only [eS, eZ] at hB hO eV d6 dU eW d7 d8 aO aJ aI aN ay aL a6 a7 aP
   replace eV := eV.ch (Owns.dropCh _ _ 12)
   replace d6 := d6.ch (Owns.dropCh _ _ 12)
   replace dU := dU.ch (Owns.dropCh _ _ 12)
   replace eW := eW.ch (Owns.dropCh _ _ 12)
   replace d7 := d7.ch (Owns.dropCh _ _ 12)
   replace d8 := d8.ch (Owns.dropCh _ _ 12)
   replace aO := aO.ch (Owns.dropCh _ _ 12)
   replace aJ := aJ.ch (Owns.dropCh _ _ 12)
   replace aI := aI.ch (Owns.dropCh _ _ 12)
   replace aN := aN.ch (Owns.dropCh _ _ 12)
   replace ay := ay.ch (Owns.dropCh _ _ 12)
   replace aL := aL.ch (Owns.dropCh _ _ 12)
   replace a6 := a6.ch (Owns.dropCh _ _ 12)
   replace a7 := a7.ch (Owns.dropCh _ _ 12)
   replace aP := aP.ch (Owns.dropCh _ _ 12)
   replace hB := hB.trans (Owns.dropFr _ _ 12)
   replace hO := hO.drop 12
   dsimp only [eS, eZ] at hB hO eV d6 dU eW d7 d8 aO aJ aI aN ay aL a6 a7 aP
   refine Go1.loopW (S := Nat × List (List Int)) (fun s σ w => match s with | (k1_56, d_57) => ∃ (n60 : Nat), ∃ (p58 : Option Addr), ∃ (c59 : Nat), ∃ (ne : Hd), agrees σ [(3, .pointer (some ⟨bO, 0, none⟩)), (5, .slice p58 n60 c59), (26, .int .i64 ((List.replicate r14.Enum.Elems.length ([] : List Int)).length : Int)), (27, .int .i64 (k1_56 : Int))] ∧ Owns w0.heap.size w [t2 (Fl.int .i64) 26 3 p58 n60 c59 ne d_57, .blk bO (.cells #[.int .i64 r14.Enum.Points, .bool r14.Enum.Monoid, .slice ao am ap, .slice ae ad af, .slice ab aa ac, .slice ar aq au, .slice ah ag ai, .slice ak aj al, .int .i64 r14.Enum.Done, .map (some aB), .slice aG aF aH, .slice aD aC aE, .slice aw av ax] 72 (0, 0)), .row 26 1 ao am ap aX, .row 26 1 ae ad af aR, .row 3 1 ab aa ac aM, .row 3 1 ar aq au aY, .row 26 1 ah ag ai aS, .row 39 2 ak aj al aT, .row 9 1 aG aF aH ba, .row 3 1 aD aC aE a8, .row 3 1 aw av ax a9, .any (mapE (fun a : List UInt8 => Value.string (gstr a)) (fun a : Int => Value.int .i64 a) aB r14.number)] A ∧ Els (Rp.sl (Rp.int .i64)) (bl [t2 (Fl.int .i64) 26 3 p58 n60 c59 ne d_57, .blk bO (.cells #[.int .i64 r14.Enum.Points, .bool r14.Enum.Monoid, .slice ao am ap, .slice ae ad af, .slice ab aa ac, .slice ar aq au, .slice ah ag ai, .slice ak aj al, .int .i64 r14.Enum.Done, .map (some aB), .slice aG aF aH, .slice aD aC aE, .slice aw av ax] 72 (0, 0)), .row 26 1 ao am ap aX, .row 26 1 ae ad af aR, .row 3 1 ab aa ac aM, .row 3 1 ar aq au aY, .row 26 1 ah ag ai aS, .row 39 2 ak aj al aT, .row 9 1 aG aF aH ba, .row 3 1 aD aC aE a8, .row 3 1 aw av ax a9, .any (mapE (fun a : List UInt8 => Value.string (gstr a)) (fun a : Int => Value.int .i64 a) aB r14.number)] ++ A) w aX r14.Enum.Gens ∧ Els (Rp.sl (Rp.int .i64)) (bl [t2 (Fl.int .i64) 26 3 p58 n60 c59 ne d_57, .blk bO (.cells #[.int .i64 r14.Enum.Points, .bool r14.Enum.Monoid, .slice ao am ap, .slice ae ad af, .slice ab aa ac, .slice ar aq au, .slice ah ag ai, .slice ak aj al, .int .i64 r14.Enum.Done, .map (some aB), .slice aG aF aH, .slice aD aC aE, .slice aw av ax] 72 (0, 0)), .row 26 1 ao am ap aX, .row 26 1 ae ad af aR, .row 3 1 ab aa ac aM, .row 3 1 ar aq au aY, .row 26 1 ah ag ai aS, .row 39 2 ak aj al aT, .row 9 1 aG aF aH ba, .row 3 1 aD aC aE a8, .row 3 1 aw av ax a9, .any (mapE (fun a : List UInt8 => Value.string (gstr a)) (fun a : Int => Value.int .i64 a) aB r14.number)] ++ A) w aR r14.Enum.Elems ∧ Els (Rp.int .i64) (bl [t2 (Fl.int .i64) 26 3 p58 n60 c59 ne d_57, .blk bO (.cells #[.int .i64 r14.Enum.Points, .bool r14.Enum.Monoid, .slice ao am ap, .slice ae ad af, .slice ab aa ac, .slice ar aq au, .slice ah ag ai, .slice ak aj al, .int .i64 r14.Enum.Done, .map (some aB), .slice aG aF aH, .slice aD aC aE, .slice aw av ax] 72 (0, 0)), .row 26 1 ao am ap aX, .row 26 1 ae ad af aR, .row 3 1 ab aa ac aM, .row 3 1 ar aq au aY, .row 26 1 ah ag ai aS, .row 39 2 ak aj al aT, .row 9 1 aG aF aH ba, .row 3 1 aD aC aE a8, .row 3 1 aw av ax a9, .any (mapE (fun a : List UInt8 => Value.string (gstr a)) (fun a : Int => Value.int .i64 a) aB r14.number)] ++ A) w aM r14.Enum.Prefix ∧ Els (Rp.int .i64) (bl [t2 (Fl.int .i64) 26 3 p58 n60 c59 ne d_57, .blk bO (.cells #[.int .i64 r14.Enum.Points, .bool r14.Enum.Monoid, .slice ao am ap, .slice ae ad af, .slice ab aa ac, .slice ar aq au, .slice ah ag ai, .slice ak aj al, .int .i64 r14.Enum.Done, .map (some aB), .slice aG aF aH, .slice aD aC aE, .slice aw av ax] 72 (0, 0)), .row 26 1 ao am ap aX, .row 26 1 ae ad af aR, .row 3 1 ab aa ac aM, .row 3 1 ar aq au aY, .row 26 1 ah ag ai aS, .row 39 2 ak aj al aT, .row 9 1 aG aF aH ba, .row 3 1 aD aC aE a8, .row 3 1 aw av ax a9, .any (mapE (fun a : List UInt8 => Value.string (gstr a)) (fun a : Int => Value.int .i64 a) aB r14.number)] ++ A) w aY r14.Enum.Last ∧ Els (Rp.sl (Rp.int .i64)) (bl [t2 (Fl.int .i64) 26 3 p58 n60 c59 ne d_57, .blk bO (.cells #[.int .i64 r14.Enum.Points, .bool r14.Enum.Monoid, .slice ao am ap, .slice ae ad af, .slice ab aa ac, .slice ar aq au, .slice ah ag ai, .slice ak aj al, .int .i64 r14.Enum.Done, .map (some aB), .slice aG aF aH, .slice aD aC aE, .slice aw av ax] 72 (0, 0)), .row 26 1 ao am ap aX, .row 26 1 ae ad af aR, .row 3 1 ab aa ac aM, .row 3 1 ar aq au aY, .row 26 1 ah ag ai aS, .row 39 2 ak aj al aT, .row 9 1 aG aF aH ba, .row 3 1 aD aC aE a8, .row 3 1 aw av ax a9, .any (mapE (fun a : List UInt8 => Value.string (gstr a)) (fun a : Int => Value.int .i64 a) aB r14.number)] ++ A) w aS r14.Enum.Right ∧ Els (rpRule) (bl [t2 (Fl.int .i64) 26 3 p58 n60 c59 ne d_57, .blk bO (.cells #[.int .i64 r14.Enum.Points, .bool r14.Enum.Monoid, .slice ao am ap, .slice ae ad af, .slice ab aa ac, .slice ar aq au, .slice ah ag ai, .slice ak aj al, .int .i64 r14.Enum.Done, .map (some aB), .slice aG aF aH, .slice aD aC aE, .slice aw av ax] 72 (0, 0)), .row 26 1 ao am ap aX, .row 26 1 ae ad af aR, .row 3 1 ab aa ac aM, .row 3 1 ar aq au aY, .row 26 1 ah ag ai aS, .row 39 2 ak aj al aT, .row 9 1 aG aF aH ba, .row 3 1 aD aC aE a8, .row 3 1 aw av ax a9, .any (mapE (fun a : List UInt8 => Value.string (gstr a)) (fun a : Int => Value.int .i64 a) aB r14.number)] ++ A) w aT r14.Enum.Rules ∧ Els (Rp.str) (bl [t2 (Fl.int .i64) 26 3 p58 n60 c59 ne d_57, .blk bO (.cells #[.int .i64 r14.Enum.Points, .bool r14.Enum.Monoid, .slice ao am ap, .slice ae ad af, .slice ab aa ac, .slice ar aq au, .slice ah ag ai, .slice ak aj al, .int .i64 r14.Enum.Done, .map (some aB), .slice aG aF aH, .slice aD aC aE, .slice aw av ax] 72 (0, 0)), .row 26 1 ao am ap aX, .row 26 1 ae ad af aR, .row 3 1 ab aa ac aM, .row 3 1 ar aq au aY, .row 26 1 ah ag ai aS, .row 39 2 ak aj al aT, .row 9 1 aG aF aH ba, .row 3 1 aD aC aE a8, .row 3 1 aw av ax a9, .any (mapE (fun a : List UInt8 => Value.string (gstr a)) (fun a : Int => Value.int .i64 a) aB r14.number)] ++ A) w ba r14.words ∧ Els (Rp.int .i64) (bl [t2 (Fl.int .i64) 26 3 p58 n60 c59 ne d_57, .blk bO (.cells #[.int .i64 r14.Enum.Points, .bool r14.Enum.Monoid, .slice ao am ap, .slice ae ad af, .slice ab aa ac, .slice ar aq au, .slice ah ag ai, .slice ak aj al, .int .i64 r14.Enum.Done, .map (some aB), .slice aG aF aH, .slice aD aC aE, .slice aw av ax] 72 (0, 0)), .row 26 1 ao am ap aX, .row 26 1 ae ad af aR, .row 3 1 ab aa ac aM, .row 3 1 ar aq au aY, .row 26 1 ah ag ai aS, .row 39 2 ak aj al aT, .row 9 1 aG aF aH ba, .row 3 1 aD aC aE a8, .row 3 1 aw av ax a9, .any (mapE (fun a : List UInt8 => Value.string (gstr a)) (fun a : Int => Value.int .i64 a) aB r14.number)] ++ A) w a8 r14.behind ∧ Els (Rp.int .i64) (bl [t2 (Fl.int .i64) 26 3 p58 n60 c59 ne d_57, .blk bO (.cells #[.int .i64 r14.Enum.Points, .bool r14.Enum.Monoid, .slice ao am ap, .slice ae ad af, .slice ab aa ac, .slice ar aq au, .slice ah ag ai, .slice ak aj al, .int .i64 r14.Enum.Done, .map (some aB), .slice aG aF aH, .slice aD aC aE, .slice aw av ax] 72 (0, 0)), .row 26 1 ao am ap aX, .row 26 1 ae ad af aR, .row 3 1 ab aa ac aM, .row 3 1 ar aq au aY, .row 26 1 ah ag ai aS, .row 39 2 ak aj al aT, .row 9 1 aG aF aH ba, .row 3 1 aD aC aE a8, .row 3 1 aw av ax a9, .any (mapE (fun a : List UInt8 => Value.string (gstr a)) (fun a : Int => Value.int .i64 a) aB r14.number)] ++ A) w a9 r14.single ∧ Fr (bl []) w0 (bl [t2 (Fl.int .i64) 26 3 p58 n60 c59 ne d_57, .blk bO (.cells #[.int .i64 r14.Enum.Points, .bool r14.Enum.Monoid, .slice ao am ap, .slice ae ad af, .slice ab aa ac, .slice ar aq au, .slice ah ag ai, .slice ak aj al, .int .i64 r14.Enum.Done, .map (some aB), .slice aG aF aH, .slice aD aC aE, .slice aw av ax] 72 (0, 0)), .row 26 1 ao am ap aX, .row 26 1 ae ad af aR, .row 3 1 ab aa ac aM, .row 3 1 ar aq au aY, .row 26 1 ah ag ai aS, .row 39 2 ak aj al aT, .row 9 1 aG aF aH ba, .row 3 1 aD aC aE a8, .row 3 1 aw av ax a9, .any (mapE (fun a : List UInt8 => Value.string (gstr a)) (fun a : Int => Value.int .i64 a) aB r14.number)]) w) H ⟨r14.Enum.Elems.length, p46, r14.Enum.Elems.length, (fun _ => (none, 0)), ⟨rfl, rfl, rfl, rfl, trivial⟩, hO, aO, aJ, aI, aN, ay, aL, a6, a7, aP, hB⟩ ?_
   intro X1
   refine prE fun k1_56 => fun d_57 => ?_
   intro H hX1 σ w55
   refine exE fun n60 => exE fun p58 => exE fun c59 => exE fun ne => andE fun hag => andE fun hO => andE fun aO => andE fun aJ => andE fun aI => andE fun aN => andE fun ay => andE fun aL => andE fun a6 => andE fun a7 => andE fun aP => fun hB => ?_
   dsimp only at H
   refine Go1.keep [(3, .pointer (some ⟨bO, 0, none⟩)), (5, .slice p58 n60 c59), (26, .int .i64 ((List.replicate r14.Enum.Elems.length ([] : List Int)).length : Int)), (27, .int .i64 (k1_56 : Int))] hag ?_
   refine Go1.seq ?_
   refine Go1.region ?_
   by_cases h62 : (k1_56 : Int) < ((List.replicate r14.Enum.Elems.length ([] : List Int)).length : Int)
   ·replace H := ifp h62 H
    refine GoR.op ((fun w => opB (op_lss rfl rfl w) (decide_eq_true h62)) _) rfl rfl ?_
    refine GoR.nil ?_
    refine Go1.seq ?_
    refine Go1.condT rfl rfl ?_
    refine Go1.skip ?_
    refine Go1.seq ?_
    refine Go1.block ?_
    refine Go1.seq ?_
    refine Go1.region ?_
    refine GoR.op ((op_move rfl) _) rfl rfl ?_
    refine GoR.op ((op_assign rfl) _) rfl rfl ?_
    refine GoR.nil ?_
    refine Go1.seq ?_
    refine Go1.region ?_
    refine GoR.op ((op_move rfl) _) rfl rfl ?_
    refine GoR.op ((op_move rfl) _) rfl rfl ?_
    refine GoR.op ((op_move rfl) _) rfl rfl ?_
    refine GoR.op ((op_nilCheck rfl) _) rfl rfl ?_
    refine GoR.op ((op_fieldAddr Try.underlying72 rfl ti29 rfl (by decide)) _) rfl rfl ?_
    refine GoR.op ((op_fieldAddr Try.underlying29 rfl ti22 rfl (by decide)) _) rfl rfl ?_
    refine GoR.op ((oblk (i := 2) 1 hO rfl rfl Try.underlying22 rfl rfl) _ (Same.refl _)) rfl rfl ?_
    refine GoR.op ((op_lenN Try.underlying22 rfl (aO.neq hO 2 rfl)) _) rfl rfl ?_
    obtain ⟨h70, H⟩ := H
    obtain ⟨h71, H⟩ := H
    have hobt := omake (n := (r14.Enum.Gens.length : Int)) (r := Rp.int .i64) (d := (0 : Int)) Try.underlying26 ti3 (fun _ _ => rfl) rfl hO h70 h71 (by decide)
    obtain ⟨w63, p64, jh, sy, yS, Co, EL⟩ := hobt
    refine GoR.op (EL rfl rfl) rfl rfl ?_
    replace aO := aO.ch sy.ch
    replace aJ := aJ.ch sy.ch
    replace aI := aI.ch sy.ch
    replace aN := aN.ch sy.ch
    replace ay := ay.ch sy.ch
    replace aL := aL.ch sy.ch
    replace a6 := a6.ch sy.ch
    replace a7 := a7.ch sy.ch
    replace aP := aP.ch sy.ch
    replace hO := sy.own
    replace hB := hB.trans sy.fr
    obtain ⟨h73, H⟩ := H
    obtain ⟨h74, H⟩ := H
    refine GoR.op ((op_index Try.underlying22 ti26 rfl rfl h73 (ltn (t2neq 1 hO rfl) h74) (t2some 1 hO rfl h73 h74)) _) rfl rfl ?_
    have rD := Stp.front 1 hO rfl
    dsimp only [eS, eZ] at rD
    replace yS := yS.ch rD.ch
    replace aO := aO.ch rD.ch
    replace aJ := aJ.ch rD.ch
    replace aI := aI.ch rD.ch
    replace aN := aN.ch rD.ch
    replace ay := ay.ch rD.ch
    replace aL := aL.ch rD.ch
    replace a6 := a6.ch rD.ch
    replace a7 := a7.ch rD.ch
    replace aP := aP.ch rD.ch
    replace hO := rD.own
    replace hB := hB.trans rD.fr
    have jg := Stp.front 1 hO rfl
    dsimp only [eS, eZ] at jg
    replace yS := yS.ch jg.ch
    replace aO := aO.ch jg.ch
    replace aJ := aJ.ch jg.ch
    replace aI := aI.ch jg.ch
    replace aN := aN.ch jg.ch
    replace ay := ay.ch jg.ch
    replace aL := aL.ch jg.ch
    replace a6 := a6.ch jg.ch
    replace a7 := a7.ch jg.ch
    replace aP := aP.ch jg.ch
    replace hO := jg.own
    replace hB := hB.trans jg.fr
    have hobt := t2put (hf := (Fl.int .i64)) hO yS h73 h74
    obtain ⟨w77, sA, EM⟩ := hobt
    refine GoR.op (EM Try.underlying26 rfl ti26 (by exact rfl) (by exact rfl)) rfl rfl ?_
    replace aO := aO.ch sA.ch
    replace aJ := aJ.ch sA.ch
    replace aI := aI.ch sA.ch
    replace aN := aN.ch sA.ch
    replace ay := ay.ch sA.ch
    replace aL := aL.ch sA.ch
    replace a6 := a6.ch sA.ch
    replace a7 := a7.ch sA.ch
    replace aP := aP.ch sA.ch
    replace hO := sA.own
    replace hB := hB.trans sA.fr
    refine GoR.nil ?_
    refine Go1.seq ?_
    refine Go1.region ?_
    refine GoR.op ((op_move rfl) _) rfl rfl ?_
    refine GoR.op ((op_nilCheck rfl) _) rfl rfl ?_
    refine GoR.op ((op_fieldAddr Try.underlying72 rfl ti26 rfl (by decide)) _) rfl rfl ?_
    refine GoR.op ((oblk (i := 12) 1 hO rfl rfl Try.underlying26 rfl rfl) _ (Same.refl _)) rfl rfl ?_
    refine GoR.op ((op_lenN Try.underlying26 rfl (aP.neq hO 10 rfl)) _) rfl rfl ?_
    refine GoR.op ((op_move rfl) _) rfl rfl ?_
    refine GoR.nil ?_
    refine Go1.block ?_
    refine Go1.loopW (S := Nat × List (List Int)) (fun s σ w => match s with | (k2_81, d_82) => agrees σ [(3, .pointer (some ⟨bO, 0, none⟩)), (5, .slice p58 n60 c59), (6, .int .i64 (k1_56 : Int)), (26, .int .i64 ((List.replicate r14.Enum.Elems.length ([] : List Int)).length : Int)), (27, .int .i64 (k1_56 : Int)), (43, .slice aw av ax), (44, .int .i64 (r14.single.length : Int)), (45, .int .i64 (k2_81 : Int))] ∧ Owns w0.heap.size w [t2 (Fl.int .i64) 26 3 p58 n60 c59 (hup ne (k1_56 : Int).toNat (p64, r14.Enum.Gens.length)) d_82, .blk bO (.cells #[.int .i64 r14.Enum.Points, .bool r14.Enum.Monoid, .slice ao am ap, .slice ae ad af, .slice ab aa ac, .slice ar aq au, .slice ah ag ai, .slice ak aj al, .int .i64 r14.Enum.Done, .map (some aB), .slice aG aF aH, .slice aD aC aE, .slice aw av ax] 72 (0, 0)), .row 26 1 ao am ap aX, .row 26 1 ae ad af aR, .row 3 1 ab aa ac aM, .row 3 1 ar aq au aY, .row 26 1 ah ag ai aS, .row 39 2 ak aj al aT, .row 9 1 aG aF aH ba, .row 3 1 aD aC aE a8, .row 3 1 aw av ax a9, .any (mapE (fun a : List UInt8 => Value.string (gstr a)) (fun a : Int => Value.int .i64 a) aB r14.number)] A ∧ Els (Rp.sl (Rp.int .i64)) (bl [t2 (Fl.int .i64) 26 3 p58 n60 c59 (hup ne (k1_56 : Int).toNat (p64, r14.Enum.Gens.length)) d_82, .blk bO (.cells #[.int .i64 r14.Enum.Points, .bool r14.Enum.Monoid, .slice ao am ap, .slice ae ad af, .slice ab aa ac, .slice ar aq au, .slice ah ag ai, .slice ak aj al, .int .i64 r14.Enum.Done, .map (some aB), .slice aG aF aH, .slice aD aC aE, .slice aw av ax] 72 (0, 0)), .row 26 1 ao am ap aX, .row 26 1 ae ad af aR, .row 3 1 ab aa ac aM, .row 3 1 ar aq au aY, .row 26 1 ah ag ai aS, .row 39 2 ak aj al aT, .row 9 1 aG aF aH ba, .row 3 1 aD aC aE a8, .row 3 1 aw av ax a9, .any (mapE (fun a : List UInt8 => Value.string (gstr a)) (fun a : Int => Value.int .i64 a) aB r14.number)] ++ A) w aX r14.Enum.Gens ∧ Els (Rp.sl (Rp.int .i64)) (bl [t2 (Fl.int .i64) 26 3 p58 n60 c59 (hup ne (k1_56 : Int).toNat (p64, r14.Enum.Gens.length)) d_82, .blk bO (.cells #[.int .i64 r14.Enum.Points, .bool r14.Enum.Monoid, .slice ao am ap, .slice ae ad af, .slice ab aa ac, .slice ar aq au, .slice ah ag ai, .slice ak aj al, .int .i64 r14.Enum.Done, .map (some aB), .slice aG aF aH, .slice aD aC aE, .slice aw av ax] 72 (0, 0)), .row 26 1 ao am ap aX, .row 26 1 ae ad af aR, .row 3 1 ab aa ac aM, .row 3 1 ar aq au aY, .row 26 1 ah ag ai aS, .row 39 2 ak aj al aT, .row 9 1 aG aF aH ba, .row 3 1 aD aC aE a8, .row 3 1 aw av ax a9, .any (mapE (fun a : List UInt8 => Value.string (gstr a)) (fun a : Int => Value.int .i64 a) aB r14.number)] ++ A) w aR r14.Enum.Elems ∧ Els (Rp.int .i64) (bl [t2 (Fl.int .i64) 26 3 p58 n60 c59 (hup ne (k1_56 : Int).toNat (p64, r14.Enum.Gens.length)) d_82, .blk bO (.cells #[.int .i64 r14.Enum.Points, .bool r14.Enum.Monoid, .slice ao am ap, .slice ae ad af, .slice ab aa ac, .slice ar aq au, .slice ah ag ai, .slice ak aj al, .int .i64 r14.Enum.Done, .map (some aB), .slice aG aF aH, .slice aD aC aE, .slice aw av ax] 72 (0, 0)), .row 26 1 ao am ap aX, .row 26 1 ae ad af aR, .row 3 1 ab aa ac aM, .row 3 1 ar aq au aY, .row 26 1 ah ag ai aS, .row 39 2 ak aj al aT, .row 9 1 aG aF aH ba, .row 3 1 aD aC aE a8, .row 3 1 aw av ax a9, .any (mapE (fun a : List UInt8 => Value.string (gstr a)) (fun a : Int => Value.int .i64 a) aB r14.number)] ++ A) w aM r14.Enum.Prefix ∧ Els (Rp.int .i64) (bl [t2 (Fl.int .i64) 26 3 p58 n60 c59 (hup ne (k1_56 : Int).toNat (p64, r14.Enum.Gens.length)) d_82, .blk bO (.cells #[.int .i64 r14.Enum.Points, .bool r14.Enum.Monoid, .slice ao am ap, .slice ae ad af, .slice ab aa ac, .slice ar aq au, .slice ah ag ai, .slice ak aj al, .int .i64 r14.Enum.Done, .map (some aB), .slice aG aF aH, .slice aD aC aE, .slice aw av ax] 72 (0, 0)), .row 26 1 ao am ap aX, .row 26 1 ae ad af aR, .row 3 1 ab aa ac aM, .row 3 1 ar aq au aY, .row 26 1 ah ag ai aS, .row 39 2 ak aj al aT, .row 9 1 aG aF aH ba, .row 3 1 aD aC aE a8, .row 3 1 aw av ax a9, .any (mapE (fun a : List UInt8 => Value.string (gstr a)) (fun a : Int => Value.int .i64 a) aB r14.number)] ++ A) w aY r14.Enum.Last ∧ Els (Rp.sl (Rp.int .i64)) (bl [t2 (Fl.int .i64) 26 3 p58 n60 c59 (hup ne (k1_56 : Int).toNat (p64, r14.Enum.Gens.length)) d_82, .blk bO (.cells #[.int .i64 r14.Enum.Points, .bool r14.Enum.Monoid, .slice ao am ap, .slice ae ad af, .slice ab aa ac, .slice ar aq au, .slice ah ag ai, .slice ak aj al, .int .i64 r14.Enum.Done, .map (some aB), .slice aG aF aH, .slice aD aC aE, .slice aw av ax] 72 (0, 0)), .row 26 1 ao am ap aX, .row 26 1 ae ad af aR, .row 3 1 ab aa ac aM, .row 3 1 ar aq au aY, .row 26 1 ah ag ai aS, .row 39 2 ak aj al aT, .row 9 1 aG aF aH ba, .row 3 1 aD aC aE a8, .row 3 1 aw av ax a9, .any (mapE (fun a : List UInt8 => Value.string (gstr a)) (fun a : Int => Value.int .i64 a) aB r14.number)] ++ A) w aS r14.Enum.Right ∧ Els (rpRule) (bl [t2 (Fl.int .i64) 26 3 p58 n60 c59 (hup ne (k1_56 : Int).toNat (p64, r14.Enum.Gens.length)) d_82, .blk bO (.cells #[.int .i64 r14.Enum.Points, .bool r14.Enum.Monoid, .slice ao am ap, .slice ae ad af, .slice ab aa ac, .slice ar aq au, .slice ah ag ai, .slice ak aj al, .int .i64 r14.Enum.Done, .map (some aB), .slice aG aF aH, .slice aD aC aE, .slice aw av ax] 72 (0, 0)), .row 26 1 ao am ap aX, .row 26 1 ae ad af aR, .row 3 1 ab aa ac aM, .row 3 1 ar aq au aY, .row 26 1 ah ag ai aS, .row 39 2 ak aj al aT, .row 9 1 aG aF aH ba, .row 3 1 aD aC aE a8, .row 3 1 aw av ax a9, .any (mapE (fun a : List UInt8 => Value.string (gstr a)) (fun a : Int => Value.int .i64 a) aB r14.number)] ++ A) w aT r14.Enum.Rules ∧ Els (Rp.str) (bl [t2 (Fl.int .i64) 26 3 p58 n60 c59 (hup ne (k1_56 : Int).toNat (p64, r14.Enum.Gens.length)) d_82, .blk bO (.cells #[.int .i64 r14.Enum.Points, .bool r14.Enum.Monoid, .slice ao am ap, .slice ae ad af, .slice ab aa ac, .slice ar aq au, .slice ah ag ai, .slice ak aj al, .int .i64 r14.Enum.Done, .map (some aB), .slice aG aF aH, .slice aD aC aE, .slice aw av ax] 72 (0, 0)), .row 26 1 ao am ap aX, .row 26 1 ae ad af aR, .row 3 1 ab aa ac aM, .row 3 1 ar aq au aY, .row 26 1 ah ag ai aS, .row 39 2 ak aj al aT, .row 9 1 aG aF aH ba, .row 3 1 aD aC aE a8, .row 3 1 aw av ax a9, .any (mapE (fun a : List UInt8 => Value.string (gstr a)) (fun a : Int => Value.int .i64 a) aB r14.number)] ++ A) w ba r14.words ∧ Els (Rp.int .i64) (bl [t2 (Fl.int .i64) 26 3 p58 n60 c59 (hup ne (k1_56 : Int).toNat (p64, r14.Enum.Gens.length)) d_82, .blk bO (.cells #[.int .i64 r14.Enum.Points, .bool r14.Enum.Monoid, .slice ao am ap, .slice ae ad af, .slice ab aa ac, .slice ar aq au, .slice ah ag ai, .slice ak aj al, .int .i64 r14.Enum.Done, .map (some aB), .slice aG aF aH, .slice aD aC aE, .slice aw av ax] 72 (0, 0)), .row 26 1 ao am ap aX, .row 26 1 ae ad af aR, .row 3 1 ab aa ac aM, .row 3 1 ar aq au aY, .row 26 1 ah ag ai aS, .row 39 2 ak aj al aT, .row 9 1 aG aF aH ba, .row 3 1 aD aC aE a8, .row 3 1 aw av ax a9, .any (mapE (fun a : List UInt8 => Value.string (gstr a)) (fun a : Int => Value.int .i64 a) aB r14.number)] ++ A) w a8 r14.behind ∧ Els (Rp.int .i64) (bl [t2 (Fl.int .i64) 26 3 p58 n60 c59 (hup ne (k1_56 : Int).toNat (p64, r14.Enum.Gens.length)) d_82, .blk bO (.cells #[.int .i64 r14.Enum.Points, .bool r14.Enum.Monoid, .slice ao am ap, .slice ae ad af, .slice ab aa ac, .slice ar aq au, .slice ah ag ai, .slice ak aj al, .int .i64 r14.Enum.Done, .map (some aB), .slice aG aF aH, .slice aD aC aE, .slice aw av ax] 72 (0, 0)), .row 26 1 ao am ap aX, .row 26 1 ae ad af aR, .row 3 1 ab aa ac aM, .row 3 1 ar aq au aY, .row 26 1 ah ag ai aS, .row 39 2 ak aj al aT, .row 9 1 aG aF aH ba, .row 3 1 aD aC aE a8, .row 3 1 aw av ax a9, .any (mapE (fun a : List UInt8 => Value.string (gstr a)) (fun a : Int => Value.int .i64 a) aB r14.number)] ++ A) w a9 r14.single ∧ Fr (bl []) w0 (bl [t2 (Fl.int .i64) 26 3 p58 n60 c59 (hup ne (k1_56 : Int).toNat (p64, r14.Enum.Gens.length)) d_82, .blk bO (.cells #[.int .i64 r14.Enum.Points, .bool r14.Enum.Monoid, .slice ao am ap, .slice ae ad af, .slice ab aa ac, .slice ar aq au, .slice ah ag ai, .slice ak aj al, .int .i64 r14.Enum.Done, .map (some aB), .slice aG aF aH, .slice aD aC aE, .slice aw av ax] 72 (0, 0)), .row 26 1 ao am ap aX, .row 26 1 ae ad af aR, .row 3 1 ab aa ac aM, .row 3 1 ar aq au aY, .row 26 1 ah ag ai aS, .row 39 2 ak aj al aT, .row 9 1 aG aF aH ba, .row 3 1 aD aC aE a8, .row 3 1 aw av ax a9, .any (mapE (fun a : List UInt8 => Value.string (gstr a)) (fun a : Int => Value.int .i64 a) aB r14.number)]) w) H ⟨⟨rfl, rfl, rfl, rfl, rfl, rfl, rfl, rfl, trivial⟩, hO, aO, aJ, aI, aN, ay, aL, a6, a7, aP, hB⟩ ?_
    intro X2
    refine prE fun k2_81 => fun d_82 => ?_
    intro H hX2 σ w80
    refine andE fun hag => andE fun hO => andE fun aO => andE fun aJ => andE fun aI => andE fun aN => andE fun ay => andE fun aL => andE fun a6 => andE fun a7 => andE fun aP => fun hB => ?_
    dsimp only at H
    refine Go1.keep [(3, .pointer (some ⟨bO, 0, none⟩)), (5, .slice p58 n60 c59), (6, .int .i64 (k1_56 : Int)), (26, .int .i64 ((List.replicate r14.Enum.Elems.length ([] : List Int)).length : Int)), (27, .int .i64 (k1_56 : Int)), (43, .slice aw av ax), (44, .int .i64 (r14.single.length : Int)), (45, .int .i64 (k2_81 : Int))] hag ?_
    refine Go1.seq ?_
    refine Go1.region ?_
    by_cases h83 : (k2_81 : Int) < (r14.single.length : Int)
    ·replace H := ifp h83 H
     refine GoR.op ((fun w => opB (op_lss rfl rfl w) (decide_eq_true h83)) _) rfl rfl ?_
     refine GoR.nil ?_
     refine Go1.seq ?_
     refine Go1.condT rfl rfl ?_
     refine Go1.skip ?_
     refine Go1.seq ?_
     refine Go1.block ?_
     refine Go1.seq ?_
     refine Go1.region ?_
     refine GoR.op ((op_move rfl) _) rfl rfl ?_
     obtain ⟨h84, H⟩ := H
     obtain ⟨h85, H⟩ := H
     refine GoR.op ((op_index Try.underlying26 ti3 rfl rfl h84 (ltn (aP.neq hO 10 rfl) h85) (aP.psome hO 10 rfl h84 h85)) _) rfl rfl ?_
     refine GoR.op ((oldInt 10 hO rfl aP h84 h85 Try.underlying3 rfl rfl) _ (Same.refl _)) rfl rfl ?_
     refine GoR.op ((op_assign rfl) _) rfl rfl ?_
     refine GoR.op ((op_assign rfl) _) rfl rfl ?_
     refine GoR.nil ?_
     refine Go1.seq ?_
     refine Go1.drawS 0 [(0, .pure), (1, .pure), (2, .pure), (3, .pure), (4, .stable), (5, .pure), (6, .pure), (7, .stable), (8, .pure), (9, .pure), (10, .pure), (11, .pure), (12, .stable), (13, .pure), (14, .pure), (15, .stable), (16, .pure), (17, .pure)] mixed (by kernel_rfl) ?_
     intro w86 Ix
     have jp := Stp.same hO Ix
     replace aO := aO.ch jp.ch
     replace aJ := aJ.ch jp.ch
     replace aI := aI.ch jp.ch
     replace aN := aN.ch jp.ch
     replace ay := ay.ch jp.ch
     replace aL := aL.ch jp.ch
     replace a6 := a6.ch jp.ch
     replace a7 := a7.ch jp.ch
     replace aP := aP.ch jp.ch
     replace hO := jp.own
     replace hB := hB.trans jp.fr
     refine GoQ.pure rfl (op_move rfl) rfl rfl ?_
     refine GoQ.pure rfl (op_nilCheck rfl) rfl rfl ?_
     refine GoQ.pure rfl (op_fieldAddr Try.underlying72 rfl ti29 rfl (by decide)) rfl rfl ?_
     refine GoQ.pure rfl (op_fieldAddr Try.underlying29 rfl ti26 rfl (by decide)) rfl rfl ?_
     refine GoQ.stable rfl (oblk (i := 4) 1 hO rfl rfl Try.underlying26 rfl rfl) rfl rfl ?_
     refine GoQ.pure rfl (op_move rfl) rfl rfl ?_
     obtain ⟨h89, H⟩ := H
     obtain ⟨h90, H⟩ := H
     refine GoQ.pure rfl (op_index Try.underlying26 ti3 rfl rfl h89 (ltn (aI.neq hO 4 rfl) h90) (aI.psome hO 4 rfl h89 h90)) rfl rfl ?_
     refine GoQ.stable rfl (oldInt 4 hO rfl aI h89 h90 Try.underlying3 rfl rfl) rfl rfl ?_
     refine GoQ.pure rfl (op_move rfl) rfl rfl ?_
     refine GoQ.pure rfl (op_nilCheck rfl) rfl rfl ?_
     refine GoQ.pure rfl (op_fieldAddr Try.underlying72 rfl ti29 rfl (by decide)) rfl rfl ?_
     refine GoQ.pure rfl (op_fieldAddr Try.underlying29 rfl ti26 rfl (by decide)) rfl rfl ?_
     refine GoQ.stable rfl (oblk (i := 5) 1 hO rfl rfl Try.underlying26 rfl rfl) rfl rfl ?_
     refine GoQ.pure rfl (op_move rfl) rfl rfl ?_
     obtain ⟨h91, H⟩ := H
     obtain ⟨h92, H⟩ := H
     refine GoQ.pure rfl (op_index Try.underlying26 ti3 rfl rfl h91 (ltn (aN.neq hO 5 rfl) h92) (aN.psome hO 5 rfl h91 h92)) rfl rfl ?_
     refine GoQ.stable rfl (oldInt 5 hO rfl aN h91 h92 Try.underlying3 rfl rfl) rfl rfl ?_
     refine GoQ.pure rfl (op_assign rfl) rfl rfl ?_
     refine GoQ.pure rfl (op_assign rfl) rfl rfl ?_
     refine GoQ.nil ?_
     refine Go1.block ?_
     refine Go1.seq ?_
     refine Go1.cut [(3, .pointer (some ⟨bO, 0, none⟩)), (5, .slice p58 n60 c59), (6, .int .i64 (k1_56 : Int)), (7, .int .i64 (k2_81 : Int)), (8, .int .i64 (ix r14.single (k2_81 : Int))), (9, .int .i64 (ix r14.Enum.Prefix (k1_56 : Int))), (10, .int .i64 (ix r14.Enum.Last (k1_56 : Int))), (26, .int .i64 ((List.replicate r14.Enum.Elems.length ([] : List Int)).length : Int)), (27, .int .i64 (k1_56 : Int)), (43, .slice aw av ax), (44, .int .i64 (r14.single.length : Int)), (45, .int .i64 (k2_81 : Int))] ⟨rfl, rfl, rfl, rfl, rfl, rfl, rfl, rfl, rfl, rfl, rfl, rfl, trivial⟩ ?_
     intro σ _
     refine Go1.region ?_
     refine GoR.op ((op_move rfl) _) rfl rfl ?_
     by_cases h93 : (ix r14.Enum.Last (k1_56 : Int)) < (0 : Int)
     ·replace H := ifp h93 H
      refine GoR.op ((fun w => opB (op_lss rfl rfl w) (decide_eq_true h93)) _) rfl rfl ?_
      refine GoR.op ((op_assign rfl) _) rfl rfl ?_
      refine GoR.nil ?_
      refine Go1.condT rfl rfl ?_
      refine Go1.region ?_
      refine GoR.op ((op_move rfl) _) rfl rfl ?_
      refine GoR.op ((op_move rfl) _) rfl rfl ?_
      obtain ⟨h94, H⟩ := H
      obtain ⟨h95, H⟩ := H
      refine GoR.op ((op_index Try.underlying22 ti26 rfl rfl h94 (ltn (t2neq 0 hO rfl) h95) (t2some 0 hO rfl h94 h95)) _) rfl rfl ?_
      refine GoR.op ((t2head 0 hO rfl h94 h95 Try.underlying26 rfl rfl) _ (Same.refl _)) rfl rfl ?_
      refine GoR.op ((op_move rfl) _) rfl rfl ?_
      refine GoR.op ((op_move rfl) _) rfl rfl ?_
      obtain ⟨h96, H⟩ := H
      obtain ⟨h97, H⟩ := H
      refine GoR.op ((op_index Try.underlying26 ti3 rfl rfl h96 h97 (t2isome 0 hO rfl h94 h95 h96 h97)) _) rfl rfl ?_
      have hobt := t2st (r := Rp.int .i64) (hf := (Fl.int .i64)) rfl 0 hO rfl h94 h95 h96 h97 (v := .int .i64 (ix r14.single (k2_81 : Int))) (u := (ix r14.single (k2_81 : Int))) rfl rfl
      obtain ⟨w98, sa, Cp⟩ := hobt
      dsimp only [sS, sZ] at sa
      refine GoR.op (Cp Try.underlying3 rfl ti3 (by exact rfl) (by exact rfl)) rfl rfl ?_
      replace aO := aO.ch sa.ch
      replace aJ := aJ.ch sa.ch
      replace aI := aI.ch sa.ch
      replace aN := aN.ch sa.ch
      replace ay := ay.ch sa.ch
      replace aL := aL.ch sa.ch
      replace a6 := a6.ch sa.ch
      replace a7 := a7.ch sa.ch
      replace aP := aP.ch sa.ch
      replace hO := sa.own
      replace hB := hB.trans sa.fr
      refine GoR.nil ?_
      refine Go1.inBlock ?_
      refine Go1.inBlock ?_
      refine Go1.region ?_
      refine GoR.op ((op_add rfl rfl (wrap_i64 (natbd h83 aP.bd))) _) rfl rfl ?_
      refine GoR.op ((op_move rfl) _) rfl rfl ?_
      refine GoR.nil ?_
      exact hX2 _ H _ _ ⟨⟨rfl, rfl, rfl, rfl, rfl, rfl, rfl, rfl, trivial⟩, hO, aO, aJ, aI, aN, ay, aL, a6, a7, aP, hB⟩
     replace H := ifn h93 H
     refine GoR.op ((fun w => opB (op_lss rfl rfl w) (decide_eq_false h93)) _) rfl rfl ?_
     refine GoR.op ((op_assign rfl) _) rfl rfl ?_
     refine GoR.nil ?_
     refine Go1.condF rfl rfl ?_
     refine Go1.seq ?_
     refine Go1.region ?_
     refine GoR.op ((op_move rfl) _) rfl rfl ?_
     by_cases su : (ix r14.Enum.Prefix (k1_56 : Int)) < (0 : Int)
     ·replace H := ifp su H
      refine GoR.op ((fun w => opB (op_lss rfl rfl w) (decide_eq_true su)) _) rfl rfl ?_
      refine GoR.op ((op_assign rfl) _) rfl rfl ?_
      refine GoR.nil ?_
      refine Go1.condT rfl rfl ?_
      refine Go1.drawS 1 [(0, .pure), (1, .pure), (2, .pure), (3, .stable), (4, .pure), (5, .pure), (6, .pure), (7, .pure), (8, .pure), (9, .stable), (10, .pure), (11, .pure), (12, .stable), (13, .pure), (14, .pure), (15, .stable), (16, .pure), (17, .last)] mixed (by kernel_rfl) ?_
      intro Lh EO
      have fA := Stp.same hO EO
      replace aO := aO.ch fA.ch
      replace aJ := aJ.ch fA.ch
      replace aI := aI.ch fA.ch
      replace aN := aN.ch fA.ch
      replace ay := ay.ch fA.ch
      replace aL := aL.ch fA.ch
      replace a6 := a6.ch fA.ch
      replace a7 := a7.ch fA.ch
      replace aP := aP.ch fA.ch
      replace hO := fA.own
      replace hB := hB.trans fA.fr
      refine GoQ.pure rfl (op_move rfl) rfl rfl ?_
      refine GoQ.pure rfl (op_move rfl) rfl rfl ?_
      obtain ⟨qD, H⟩ := H
      obtain ⟨sQ, H⟩ := H
      refine GoQ.pure rfl (op_index Try.underlying22 ti26 rfl rfl qD (ltn (t2neq 0 hO rfl) sQ) (t2some 0 hO rfl qD sQ)) rfl rfl ?_
      refine GoQ.stable rfl (t2head 0 hO rfl qD sQ Try.underlying26 rfl rfl) rfl rfl ?_
      refine GoQ.pure rfl (op_move rfl) rfl rfl ?_
      refine GoQ.pure rfl (op_move rfl) rfl rfl ?_
      refine GoQ.pure rfl (op_nilCheck rfl) rfl rfl ?_
      refine GoQ.pure rfl (op_fieldAddr Try.underlying72 rfl ti29 rfl (by decide)) rfl rfl ?_
      refine GoQ.pure rfl (op_fieldAddr Try.underlying29 rfl ti22 rfl (by decide)) rfl rfl ?_
      refine GoQ.stable rfl (oblk (i := 6) 1 hO rfl rfl Try.underlying22 rfl rfl) rfl rfl ?_
      refine GoQ.pure rfl (op_move rfl) rfl rfl ?_
      obtain ⟨t0, H⟩ := H
      obtain ⟨t3, H⟩ := H
      refine GoQ.pure rfl (op_index Try.underlying22 ti26 rfl rfl t0 (ltn (ay.neq hO 6 rfl) t3) (ay.psome hO 6 rfl t0 t3)) rfl rfl ?_
      have hobt := oldSl 6 hO rfl ay t0 t3
      obtain ⟨Li, Lj, yA, EP⟩ := hobt
      refine GoQ.stable rfl (EP Try.underlying26 rfl rfl) rfl rfl ?_
      refine GoQ.pure rfl (op_move rfl) rfl rfl ?_
      obtain ⟨A8, H⟩ := H
      obtain ⟨wI, H⟩ := H
      refine GoQ.pure rfl (op_index Try.underlying26 ti3 rfl rfl A8 wI (yA.some_ A8 wI)) rfl rfl ?_
      refine GoQ.stable rfl (ldInt yA A8 wI Try.underlying3 rfl rfl) rfl rfl ?_
      obtain ⟨tE, H⟩ := H
      obtain ⟨qE, H⟩ := H
      refine GoQ.pure rfl (op_index Try.underlying26 ti3 rfl rfl tE qE (t2isome 0 hO rfl qD sQ tE qE)) rfl rfl ?_
      have hobt := t2st (r := Rp.int .i64) (hf := (Fl.int .i64)) rfl 0 hO rfl qD sQ tE qE (v := .int .i64 (ix (ix r14.Enum.Right (ix r14.single (k2_81 : Int))) (ix r14.Enum.Last (k1_56 : Int)))) (u := (ix (ix r14.Enum.Right (ix r14.single (k2_81 : Int))) (ix r14.Enum.Last (k1_56 : Int)))) rfl rfl
      obtain ⟨Lk, oD, Cq⟩ := hobt
      dsimp only [sS, sZ] at oD
      refine GoQ.last rfl (Cq Try.underlying3 rfl ti3 (by exact rfl) (by exact rfl)) rfl rfl ?_
      replace aO := aO.ch oD.ch
      replace aJ := aJ.ch oD.ch
      replace aI := aI.ch oD.ch
      replace aN := aN.ch oD.ch
      replace ay := ay.ch oD.ch
      replace aL := aL.ch oD.ch
      replace a6 := a6.ch oD.ch
      replace a7 := a7.ch oD.ch
      replace aP := aP.ch oD.ch
      replace hO := oD.own
      replace yA := yA.ch oD.ch
      replace hB := hB.trans oD.fr
      refine GoQ.nil ?_
      refine Go1.inBlock ?_
      refine Go1.inBlock ?_
      refine Go1.cut [(3, .pointer (some ⟨bO, 0, none⟩)), (5, .slice p58 n60 c59), (6, .int .i64 (k1_56 : Int)), (26, .int .i64 ((List.replicate r14.Enum.Elems.length ([] : List Int)).length : Int)), (27, .int .i64 (k1_56 : Int)), (43, .slice aw av ax), (44, .int .i64 (r14.single.length : Int)), (45, .int .i64 (k2_81 : Int))] ⟨rfl, rfl, rfl, rfl, rfl, rfl, rfl, rfl, trivial⟩ ?_
      intro σ _
      refine Go1.region ?_
      refine GoR.op ((op_add rfl rfl (wrap_i64 (natbd h83 aP.bd))) _) rfl rfl ?_
      refine GoR.op ((op_move rfl) _) rfl rfl ?_
      refine GoR.nil ?_
      exact hX2 _ H _ _ ⟨⟨rfl, rfl, rfl, rfl, rfl, rfl, rfl, rfl, trivial⟩, hO, aO, aJ, aI, aN, ay, aL, a6, a7, aP, hB⟩
     replace H := ifn su H
     refine GoR.op ((fun w => opB (op_lss rfl rfl w) (decide_eq_false su)) _) rfl rfl ?_
     refine GoR.op ((op_assign rfl) _) rfl rfl ?_
     refine GoR.nil ?_
     refine Go1.condF rfl rfl ?_
     refine Go1.drawS 1 [(0, .pure), (1, .pure), (2, .pure), (3, .stable), (4, .pure), (5, .pure), (6, .pure), (7, .pure), (8, .pure), (9, .stable), (10, .pure), (11, .pure), (12, .pure), (13, .stable), (14, .pure), (15, .pure), (16, .stable), (17, .pure), (18, .stable), (19, .pure), (20, .pure), (21, .stable), (22, .pure), (23, .last)] mixed (by kernel_rfl) ?_
     intro Ll B5
     have rc := Stp.same hO B5
     replace aO := aO.ch rc.ch
     replace aJ := aJ.ch rc.ch
     replace aI := aI.ch rc.ch
     replace aN := aN.ch rc.ch
     replace ay := ay.ch rc.ch
     replace aL := aL.ch rc.ch
     replace a6 := a6.ch rc.ch
     replace a7 := a7.ch rc.ch
     replace aP := aP.ch rc.ch
     replace hO := rc.own
     replace hB := hB.trans rc.fr
     refine GoQ.pure rfl (op_move rfl) rfl rfl ?_
     refine GoQ.pure rfl (op_move rfl) rfl rfl ?_
     obtain ⟨uI, H⟩ := H
     obtain ⟨u7, H⟩ := H
     refine GoQ.pure rfl (op_index Try.underlying22 ti26 rfl rfl uI (ltn (t2neq 0 hO rfl) u7) (t2some 0 hO rfl uI u7)) rfl rfl ?_
     refine GoQ.stable rfl (t2head 0 hO rfl uI u7 Try.underlying26 rfl rfl) rfl rfl ?_
     refine GoQ.pure rfl (op_move rfl) rfl rfl ?_
     refine GoQ.pure rfl (op_move rfl) rfl rfl ?_
     refine GoQ.pure rfl (op_nilCheck rfl) rfl rfl ?_
     refine GoQ.pure rfl (op_fieldAddr Try.underlying72 rfl ti29 rfl (by decide)) rfl rfl ?_
     refine GoQ.pure rfl (op_fieldAddr Try.underlying29 rfl ti22 rfl (by decide)) rfl rfl ?_
     refine GoQ.stable rfl (oblk (i := 6) 1 hO rfl rfl Try.underlying22 rfl rfl) rfl rfl ?_
     refine GoQ.pure rfl (op_move rfl) rfl rfl ?_
     refine GoQ.pure rfl (op_move rfl) rfl rfl ?_
     obtain ⟨sR, H⟩ := H
     obtain ⟨sT, H⟩ := H
     refine GoQ.pure rfl (op_index Try.underlying22 ti26 rfl rfl sR (ltn (t2neq 0 hO rfl) sT) (t2some 0 hO rfl sR sT)) rfl rfl ?_
     refine GoQ.stable rfl (t2head 0 hO rfl sR sT Try.underlying26 rfl rfl) rfl rfl ?_
     refine GoQ.pure rfl (op_move rfl) rfl rfl ?_
     obtain ⟨tF, H⟩ := H
     obtain ⟨vE, H⟩ := H
     refine GoQ.pure rfl (op_index Try.underlying26 ti3 rfl rfl tF vE (t2isome 0 hO rfl sR sT tF vE)) rfl rfl ?_
     refine GoQ.stable rfl (t2Int 0 hO rfl sR sT tF vE Try.underlying3 rfl rfl) rfl rfl ?_
     obtain ⟨yT, H⟩ := H
     obtain ⟨A9, H⟩ := H
     refine GoQ.pure rfl (op_index Try.underlying22 ti26 rfl rfl yT (ltn (ay.neq hO 6 rfl) A9) (ay.psome hO 6 rfl yT A9)) rfl rfl ?_
     have hobt := oldSl 6 hO rfl ay yT A9
     obtain ⟨zC, zD, yB, EQ⟩ := hobt
     refine GoQ.stable rfl (EQ Try.underlying26 rfl rfl) rfl rfl ?_
     refine GoQ.pure rfl (op_move rfl) rfl rfl ?_
     obtain ⟨vr, H⟩ := H
     obtain ⟨sU, H⟩ := H
     refine GoQ.pure rfl (op_index Try.underlying26 ti3 rfl rfl vr sU (yB.some_ vr sU)) rfl rfl ?_
     refine GoQ.stable rfl (ldInt yB vr sU Try.underlying3 rfl rfl) rfl rfl ?_
     obtain ⟨vt, H⟩ := H
     obtain ⟨vu, H⟩ := H
     refine GoQ.pure rfl (op_index Try.underlying26 ti3 rfl rfl vt vu (t2isome 0 hO rfl uI u7 vt vu)) rfl rfl ?_
     have hobt := t2st (r := Rp.int .i64) (hf := (Fl.int .i64)) rfl 0 hO rfl uI u7 vt vu (v := .int .i64 (ix (ix r14.Enum.Right (ix (ix d_82 (ix r14.Enum.Prefix (k1_56 : Int))) (k2_81 : Int))) (ix r14.Enum.Last (k1_56 : Int)))) (u := (ix (ix r14.Enum.Right (ix (ix d_82 (ix r14.Enum.Prefix (k1_56 : Int))) (k2_81 : Int))) (ix r14.Enum.Last (k1_56 : Int)))) rfl rfl
     obtain ⟨Lm, oE, Cr⟩ := hobt
     dsimp only [sS, sZ] at oE
     refine GoQ.last rfl (Cr Try.underlying3 rfl ti3 (by exact rfl) (by exact rfl)) rfl rfl ?_
     replace aO := aO.ch oE.ch
     replace aJ := aJ.ch oE.ch
     replace aI := aI.ch oE.ch
     replace aN := aN.ch oE.ch
     replace ay := ay.ch oE.ch
     replace aL := aL.ch oE.ch
     replace a6 := a6.ch oE.ch
     replace a7 := a7.ch oE.ch
     replace aP := aP.ch oE.ch
     replace hO := oE.own
     replace yB := yB.ch oE.ch
     replace hB := hB.trans oE.fr
     refine GoQ.nil ?_
     refine Go1.inBlock ?_
     refine Go1.inBlock ?_
     refine Go1.cut [(3, .pointer (some ⟨bO, 0, none⟩)), (5, .slice p58 n60 c59), (6, .int .i64 (k1_56 : Int)), (26, .int .i64 ((List.replicate r14.Enum.Elems.length ([] : List Int)).length : Int)), (27, .int .i64 (k1_56 : Int)), (43, .slice aw av ax), (44, .int .i64 (r14.single.length : Int)), (45, .int .i64 (k2_81 : Int))] ⟨rfl, rfl, rfl, rfl, rfl, rfl, rfl, rfl, trivial⟩ ?_
     intro σ _
     refine Go1.region ?_
     refine GoR.op ((op_add rfl rfl (wrap_i64 (natbd h83 aP.bd))) _) rfl rfl ?_
     refine GoR.op ((op_move rfl) _) rfl rfl ?_
     refine GoR.nil ?_
     exact hX2 _ H _ _ ⟨⟨rfl, rfl, rfl, rfl, rfl, rfl, rfl, rfl, trivial⟩, hO, aO, aJ, aI, aN, ay, aL, a6, a7, aP, hB⟩
    replace H := ifn h83 H
    refine GoR.op ((fun w => opB (op_lss rfl rfl w) (decide_eq_false h83)) _) rfl rfl ?_
    refine GoR.nil ?_
    refine Go1.seq ?_
    refine Go1.condF rfl rfl ?_
    refine Go1.exit rfl ?_
    refine Go1.inBlock ?_
    refine Go1.region ?_
    obtain ⟨uJ, H⟩ := H
    refine GoR.op ((op_add rfl rfl (wrap_i64 uJ)) _) rfl rfl ?_
    refine GoR.op ((op_move rfl) _) rfl rfl ?_
    refine GoR.nil ?_
    exact hX1 _ H _ _ ⟨n60, p58, c59, hup ne (k1_56 : Int).toNat (p64, r14.Enum.Gens.length), ⟨rfl, rfl, rfl, rfl, trivial⟩, hO, aO, aJ, aI, aN, ay, aL, a6, a7, aP, hB⟩
   replace H := ifn h62 H
   refine GoR.op ((fun w => opB (op_lss rfl rfl w) (decide_eq_false h62)) _) rfl rfl ?_
   refine GoR.nil ?_
   refine Go1.seq ?_
   refine Go1.condF rfl rfl ?_
   refine Go1.exit rfl ?_
   refine Go1.seq ?_
   refine Go1.region ?_
   refine GoR.op ((op_move rfl) _) rfl rfl ?_
   refine GoR.op ((op_assign rfl) _) rfl rfl ?_
   refine GoR.nil ?_
   have hobt := t2freezeA 0 hO rfl
   obtain ⟨hO1, tf, B6, ER⟩ := hobt
   dsimp only [eS, eZ] at hO1 tf B6
   replace aO := aO.ch tf
   replace aJ := aJ.ch tf
   replace aI := aI.ch tf
   replace aN := aN.ch tf
   replace ay := ay.ch tf
   replace aL := aL.ch tf
   replace a6 := a6.ch tf
   replace a7 := a7.ch tf
   replace aP := aP.ch tf
   replace hB := hB.trans (Owns.dropFr _ _ 0)
   dsimp only [eS, eZ] at hB
   replace hO := hO1; clear hO1
   refine Go1.ret1 Try.func38 rfl ?_
   exact ⟨d_57, p58, c59, (congrArg (fun nn => Value.slice p58 nn c59) ER), hB.same, (B6.ch (Ch.weak _ _ _)), H⟩
  replace H := ifn h44 H
  refine GoQ.pure rfl (fun w => opB (op_eql rfl rfl w) (decide_eq_false h44)) rfl rfl ?_
  refine GoQ.pure rfl (op_assign rfl) rfl rfl ?_
  refine GoQ.nil ?_
  refine Go1.ret1V Try.func50 rfl (show _ = .bool false from rfl) ?_
  refine hR40 _ _ ?_
  refine GoR.op ((op_pickT rfl rfl rfl) _) rfl rfl ?_
  refine GoR.op ((op_assign rfl) _) rfl rfl ?_
  refine GoR.op ((op_assign rfl) _) rfl rfl ?_
  refine GoR.nil ?_
  refine Go1.ret2V Try.func57 rfl (show _ = .pointer (some ⟨bO, 0, none⟩) from rfl) (show _ = .bool false from rfl) ?_
  refine hR7 _ _ ?_
  refine GoR.op ((op_move rfl) _) rfl rfl ?_
  refine GoR.op ((op_extract rfl rfl) _) rfl rfl ?_
  refine GoR.op ((op_extract rfl rfl) _) rfl rfl ?_
  refine GoR.op ((op_assign rfl) _) rfl rfl ?_
  refine GoR.op ((op_assign rfl) _) rfl rfl ?_
  refine GoR.nil ?_
  refine Go1.seq ?_
  refine Go1.seq ?_
  refine Go1.region ?_
  refine GoR.op ((op_move rfl) _) rfl rfl ?_
  refine GoR.op ((op_not rfl) _) rfl rfl ?_
  refine GoR.nil ?_
  refine Go1.condT rfl rfl ?_
  refine Go1.seq ?_
  refine Go1.region ?_
  refine GoR.op ((op_assign rfl) _) rfl rfl ?_
  refine GoR.nil ?_
  refine Go1.ret1 Try.func38 rfl ?_
  exact ⟨([] : List (List Int)), none, 0, rfl, hB.same, (ISl.null _ _ _), H⟩
theorem walk_law12_EnumerateActs {A : List Nat} {w0 : World} {o4 : Option Addr} {o5 : Nat} {a0 : List (List Int)} {a1 : Bool} {a2 : Int} {a3 : Int} (hA : ∀ b ∈ A, b < w0.heap.size) (ca : ISl (Rp.sl (Rp.int .i64)) A w0 o4 o5 a0) {K : Bool → Prop} (H : law12_EnumerateActs a0 a1 a2 a3 K) :
    CallsV Try.prog 10 #[.slice o4 a0.length o5, .bool a1, .int .i64 a2, .int .i64 a3] w0 (fun v w' => ∃ (r0 : Bool), v = .bool r0 ∧ Same w0 w' ∧ K r0) := by
 refine CallsV.of (l := [.slice o4 a0.length o5, .bool a1, .int .i64 a2, .int .i64 a3]) Try.func10 rfl Try.ntmps10 rfl ?_
 have hO := Owns.start hA
 have hB := Fr.refl (bl []) w0
 unfold law12_EnumerateActs at H
 replace ca := ca.ch (Ch.start A w0)
 refine Go1.seq ?_
 refine Go1.region ?_
 refine GoR.op ((op_assign rfl) _) rfl rfl ?_
 refine GoR.nil ?_
 refine Go1.seq ?_
 refine Go1.seq ?_
 refine Go1.region ?_
 refine GoR.op ((op_move rfl) _) rfl rfl ?_
 refine GoR.call (op_call body15 rfl (walk_law12_little hO.lt ca H)) rfl rfl ?_
 rintro v5 w2 ⟨r1, rfl, hs3, H⟩
 have uL := Stp.same hO hs3
 replace hO := uL.own
 replace ca := ca.ch uL.ch
 replace hB := hB.trans uL.fr
 cases r1
 ·replace H := ifn Bool.false_ne_true H
  refine GoR.op ((op_not rfl) _) rfl rfl ?_
  refine GoR.nil ?_
  refine Go1.condT rfl rfl ?_
  refine Go1.seq ?_
  refine Go1.region ?_
  refine GoR.call (op_call body16 rfl (walk_law12_awake hO.lt H)) rfl rfl ?_
  rintro v11 w8 ⟨r7, rfl, hs9, H⟩
  have zE := Stp.same hO hs9
  replace hO := zE.own
  replace ca := ca.ch zE.ch
  replace hB := hB.trans zE.fr
  refine GoR.op ((op_assign rfl) _) rfl rfl ?_
  refine GoR.nil ?_
  refine Go1.ret1 Try.func10 rfl ?_
  exact ⟨r7, rfl, hB.same, H⟩
 replace H := ifp rfl H
 refine GoR.op ((op_not rfl) _) rfl rfl ?_
 refine GoR.nil ?_
 refine Go1.condF rfl rfl ?_
 refine Go1.skip ?_
 refine Go1.seq ?_
 refine Go1.region ?_
 refine GoR.op ((op_move rfl) _) rfl rfl ?_
 refine GoR.op ((op_move rfl) _) rfl rfl ?_
 refine GoR.call (op_call body17 rfl (walk_enumerate_Build hO.lt ca H)) rfl rfl ?_
 rintro v18 w15 ⟨r13, r14, g7, g8, gh, gi, fK, fL, g9, hV, gj, gk, gl, gm, rfl, Iy, dm, cu, cR, dn, cS, de, H⟩
 have zF := Stp.same hO Iy
 replace hO := zF.own
 replace ca := ca.ch zF.ch
 replace hB := hB.trans zF.fr
 refine GoR.op ((op_move rfl) _) rfl rfl ?_
 refine GoR.op ((op_extract rfl rfl) _) rfl rfl ?_
 refine GoR.op ((op_extract rfl rfl) _) rfl rfl ?_
 have hobt := oalloc (t := 29) (cs := #[.int .i64 (0 : Int), .bool false, .slice none 0 0, .slice none 0 0, .slice none 0 0, .slice none 0 0, .slice none 0 0, .slice none 0 0, .int .i64 (0 : Int)]) ti29 hO rfl
 obtain ⟨w20, B21, fE, Ln, zG⟩ := hobt
 refine GoR.op zG rfl rfl ?_
 replace hO := fE.own
 replace ca := ca.ch fE.ch
 replace dm := dm.ch fE.ch
 replace cu := cu.ch fE.ch
 replace cR := cR.ch fE.ch
 replace dn := dn.ch fE.ch
 replace cS := cS.ch fE.ch
 replace de := de.ch fE.ch
 replace hB := hB.trans fE.fr
 have hobt := oblkStAgg (us := [.int .i64 r13.Points, .bool r13.Monoid, .slice g7 r13.Gens.length g8, .slice gh r13.Elems.length gi, .slice fK r13.Prefix.length fL, .slice g9 r13.Last.length hV, .slice gj r13.Right.length gk, .slice gl r13.Rules.length gm, .int .i64 r13.Done]) (o := 0) (cs' := #[.int .i64 r13.Points, .bool r13.Monoid, .slice g7 r13.Gens.length g8, .slice gh r13.Elems.length gi, .slice fK r13.Prefix.length fL, .slice g9 r13.Last.length hV, .slice gj r13.Right.length gk, .slice gl r13.Rules.length gm, .int .i64 r13.Done]) 0 hO rfl rfl (Nat.le_of_ble_eq_true rfl) rfl
 obtain ⟨w26, tM, ES⟩ := hobt
 refine GoR.op (ES ti29 (by exact rfl) (by exact rfl) rfl) rfl rfl ?_
 replace hO := tM.own
 replace ca := ca.ch tM.ch
 replace dm := dm.ch tM.ch
 replace cu := cu.ch tM.ch
 replace cR := cR.ch tM.ch
 replace dn := dn.ch tM.ch
 replace cS := cS.ch tM.ch
 replace de := de.ch tM.ch
 replace hB := hB.trans tM.fr
 refine GoR.op ((op_assign rfl) _) rfl rfl ?_
 refine GoR.nil ?_
 refine Go1.seq ?_
 refine Go1.seq ?_
 refine Go1.region ?_
 refine GoR.op ((op_move rfl) _) rfl rfl ?_
 by_cases h29 : r14 = (0 : Int)
 ·replace H := ifp h29 H
  refine GoR.op ((fun w => opB (op_neq rfl rfl w) (ndT h29)) _) rfl rfl ?_
  refine GoR.op ((op_move rfl) _) rfl rfl ?_
  refine GoR.op ((op_fieldAddr Try.underlying29 rfl ti3 rfl (by decide)) _) rfl rfl ?_
  refine GoR.op ((oblk (i := 8) 0 hO rfl rfl Try.underlying3 rfl rfl) _ (Same.refl _)) rfl rfl ?_
  refine GoR.op ((op_fieldAddr Try.underlying29 rfl ti22 rfl (by decide)) _) rfl rfl ?_
  refine GoR.op ((oblk (i := 3) 0 hO rfl rfl Try.underlying22 rfl rfl) _ (Same.refl _)) rfl rfl ?_
  refine GoR.op ((op_len Try.underlying22 rfl) _) rfl rfl ?_
  replace H := H cu.bd
  by_cases h30 : r13.Done = (r13.Elems.length : Int)
  ·replace H := ifp h30 H
   refine GoR.op ((fun w => opB (op_neq rfl rfl w) (ndT h30)) _) rfl rfl ?_
   refine GoR.op ((op_pickF rfl rfl rfl) _) rfl rfl ?_
   refine GoR.op ((op_move rfl) _) rfl rfl ?_
   refine GoR.op ((op_fieldAddr Try.underlying29 rfl ti22 rfl (by decide)) _) rfl rfl ?_
   refine GoR.op ((oblk (i := 6) 0 hO rfl rfl Try.underlying22 rfl rfl) _ (Same.refl _)) rfl rfl ?_
   refine GoR.op ((op_len Try.underlying22 rfl) _) rfl rfl ?_
   replace H := H cS.bd
   refine GoR.op ((op_fieldAddr Try.underlying29 rfl ti3 rfl (by decide)) _) rfl rfl ?_
   refine GoR.op ((oblk (i := 8) 0 hO rfl rfl Try.underlying3 rfl rfl) _ (Same.refl _)) rfl rfl ?_
   by_cases h31 : (r13.Right.length : Int) = r13.Done
   ·replace H := ifp h31 H
    refine GoR.op ((fun w => opB (op_neq rfl rfl w) (ndT h31)) _) rfl rfl ?_
    refine GoR.op ((op_pickF rfl rfl rfl) _) rfl rfl ?_
    refine GoR.nil ?_
    refine Go1.condF rfl rfl ?_
    refine Go1.skip ?_
    refine Go1.seq ?_
    refine Go1.cut [(0, .slice o4 a0.length o5), (2, .int .i64 a2), (3, .int .i64 a3), (9, .pointer (some ⟨B21, 0, none⟩))] ⟨rfl, rfl, rfl, rfl, trivial⟩ ?_
    intro σ _
    refine Go1.region ?_
    refine GoR.op ((op_fieldAddr Try.underlying29 rfl ti22 rfl (by decide)) _) rfl rfl ?_
    refine GoR.op ((oblk (i := 3) 0 hO rfl rfl Try.underlying22 rfl rfl) _ (Same.refl _)) rfl rfl ?_
    refine GoR.op ((op_len Try.underlying22 rfl) _) rfl rfl ?_
    refine GoR.op ((op_assign rfl) _) rfl rfl ?_
    refine GoR.nil ?_
    refine Go1.seq ?_
    refine Go1.seq ?_
    refine Go1.region ?_
    refine GoR.op ((op_move rfl) _) rfl rfl ?_
    by_cases h32 : (r13.Elems.length : Int) = (0 : Int)
    ·replace H := ifp h32 H
     refine GoR.op ((fun w => opB (op_eql rfl rfl w) (decide_eq_true h32)) _) rfl rfl ?_
     refine GoR.nil ?_
     refine Go1.condT rfl rfl ?_
     refine Go1.seq ?_
     refine Go1.region ?_
     refine GoR.op ((op_assign rfl) _) rfl rfl ?_
     refine GoR.nil ?_
     refine Go1.ret1 Try.func10 rfl ?_
     exact ⟨false, rfl, hB.same, H⟩
    replace H := ifn h32 H
    refine GoR.op ((fun w => opB (op_eql rfl rfl w) (decide_eq_false h32)) _) rfl rfl ?_
    refine GoR.nil ?_
    refine Go1.condF rfl rfl ?_
    refine Go1.skip ?_
    refine Go1.seq ?_
    refine Go1.drawS 0 [(0, .pure), (1, .pure), (2, .pure), (3, .pure), (4, .pure), (5, .pure), (6, .pure), (7, .pure), (8, .pure), (9, .pure), (10, .pure), (11, .pure), (12, .pure), (13, .pure), (14, .pure), (15, .pure)] mixed (by kernel_rfl) ?_
    intro w33 Ba
    have tN := Stp.same hO Ba
    replace hO := tN.own
    replace ca := ca.ch tN.ch
    replace dm := dm.ch tN.ch
    replace cu := cu.ch tN.ch
    replace cR := cR.ch tN.ch
    replace dn := dn.ch tN.ch
    replace cS := cS.ch tN.ch
    replace de := de.ch tN.ch
    replace hB := hB.trans tN.fr
    refine GoQ.pure rfl (op_move rfl) rfl rfl ?_
    refine GoQ.pure rfl (op_move rfl) rfl rfl ?_
    obtain ⟨h36, H⟩ := H
    refine GoQ.pure rfl (op_rem rfl rfl h36 rfl) rfl rfl ?_
    refine GoQ.pure rfl (op_move rfl) rfl rfl ?_
    obtain ⟨h37, H⟩ := H
    refine GoQ.pure rfl (op_add rfl rfl (wrap_i64 h37)) rfl rfl ?_
    refine GoQ.pure rfl (op_move rfl) rfl rfl ?_
    obtain ⟨h38, H⟩ := H
    refine GoQ.pure rfl (op_rem rfl rfl h38 rfl) rfl rfl ?_
    refine GoQ.pure rfl (op_move rfl) rfl rfl ?_
    refine GoQ.pure rfl (op_move rfl) rfl rfl ?_
    obtain ⟨h39, H⟩ := H
    refine GoQ.pure rfl (op_rem rfl rfl h39 rfl) rfl rfl ?_
    refine GoQ.pure rfl (op_move rfl) rfl rfl ?_
    obtain ⟨h40, H⟩ := H
    refine GoQ.pure rfl (op_add rfl rfl (wrap_i64 h40)) rfl rfl ?_
    refine GoQ.pure rfl (op_move rfl) rfl rfl ?_
    obtain ⟨h41, H⟩ := H
    refine GoQ.pure rfl (op_rem rfl rfl h41 rfl) rfl rfl ?_
    refine GoQ.pure rfl (op_assign rfl) rfl rfl ?_
    refine GoQ.pure rfl (op_assign rfl) rfl rfl ?_
    refine GoQ.nil ?_
    refine Go1.seq ?_
    refine Go1.cut [(0, .slice o4 a0.length o5), (2, .int .i64 (((a2.tmod (r13.Elems.length : Int)) + (r13.Elems.length : Int)).tmod (r13.Elems.length : Int))), (3, .int .i64 (((a3.tmod (r13.Elems.length : Int)) + (r13.Elems.length : Int)).tmod (r13.Elems.length : Int))), (9, .pointer (some ⟨B21, 0, none⟩)), (11, .int .i64 (r13.Elems.length : Int))] ⟨rfl, rfl, rfl, rfl, rfl, trivial⟩ ?_
    intro σ _
    refine Go1.region ?_
    refine GoR.op ((oblkAgg (vs := [.int .i64 r13.Points, .bool r13.Monoid, .slice g7 r13.Gens.length g8, .slice gh r13.Elems.length gi, .slice fK r13.Prefix.length fL, .slice g9 r13.Last.length hV, .slice gj r13.Right.length gk, .slice gl r13.Rules.length gm, .int .i64 r13.Done]) (i := 0) 0 hO rfl rfl Try.underlying29 rfl ti29 rfl) _ (Same.refl _)) rfl rfl ?_
    refine GoR.op ((op_move rfl) _) rfl rfl ?_
    refine GoR.op ((op_move rfl) _) rfl rfl ?_
    refine GoR.call (op_call body36 rfl (walk_enumerate_Product (e := r13) hO.lt dm cu cR dn cS de H)) rfl rfl ?_
    rintro v46 w43 ⟨r42, rfl, Iz, H⟩
    have tO := Stp.same hO Iz
    replace hO := tO.own
    replace ca := ca.ch tO.ch
    replace dm := dm.ch tO.ch
    replace cu := cu.ch tO.ch
    replace cR := cR.ch tO.ch
    replace dn := dn.ch tO.ch
    replace cS := cS.ch tO.ch
    replace de := de.ch tO.ch
    replace hB := hB.trans tO.fr
    refine GoR.op ((op_assign rfl) _) rfl rfl ?_
    refine GoR.nil ?_
    refine Go1.seq ?_
    refine Go1.seq ?_
    refine Go1.drawS 0 [(0, .pure), (1, .pure), (2, .pure), (3, .pure), (4, .pure), (5, .pure), (6, .pure), (7, .pure), (8, .pure), (9, .stable), (10, .pure), (11, .pure), (12, .stable), (13, .pure), (14, .stable), (15, .pure), (16, .pure), (17, .stable), (18, .pure), (19, .stable), (20, .pure), (21, .pure), (22, .stable), (23, .loud), (24, .loud), (25, .pure), (26, .pure)] mixed (by kernel_rfl) ?_
    intro w48 IA
    have tP := Stp.same hO IA
    replace hO := tP.own
    replace ca := ca.ch tP.ch
    replace dm := dm.ch tP.ch
    replace cu := cu.ch tP.ch
    replace cR := cR.ch tP.ch
    replace dn := dn.ch tP.ch
    replace cS := cS.ch tP.ch
    replace de := de.ch tP.ch
    replace hB := hB.trans tP.fr
    refine GoQ.pure rfl (op_move rfl) rfl rfl ?_
    by_cases h51 : r42 < (0 : Int)
    ·replace H := ifp h51 H
     refine GoQ.pure rfl (fun w => opB (op_lss rfl rfl w) (decide_eq_true h51)) rfl rfl ?_
     refine GoQ.pure rfl (op_move rfl) rfl rfl ?_
     refine GoQ.pass rfl rfl rfl ?_
     refine GoQ.pass rfl rfl rfl ?_
     refine GoQ.pass rfl rfl rfl ?_
     refine GoQ.pure rfl (op_pickT rfl rfl rfl) rfl rfl ?_
     refine GoQ.pure rfl (op_move rfl) rfl rfl ?_
     refine GoQ.pass rfl rfl rfl ?_
     refine GoQ.pass rfl rfl rfl ?_
     refine GoQ.pass rfl rfl rfl ?_
     refine GoQ.pass rfl rfl rfl ?_
     refine GoQ.pass rfl rfl rfl ?_
     refine GoQ.pass rfl rfl rfl ?_
     refine GoQ.pass rfl rfl rfl ?_
     refine GoQ.pass rfl rfl rfl ?_
     refine GoQ.pass rfl rfl rfl ?_
     refine GoQ.pass rfl rfl rfl ?_
     refine GoQ.pass rfl rfl rfl ?_
     refine GoQ.pass rfl rfl rfl ?_
     refine GoQ.pass rfl rfl rfl ?_
     refine GoQ.pass rfl rfl rfl ?_
     refine GoQ.pass rfl rfl rfl ?_
     refine GoQ.pass rfl rfl rfl ?_
     refine GoQ.pass rfl rfl rfl ?_
     refine GoQ.pass rfl rfl rfl ?_
     refine GoQ.pure rfl (op_pickT rfl rfl rfl) rfl rfl ?_
     refine GoQ.nil ?_
     refine Go1.condT rfl rfl ?_
     refine Go1.seq ?_
     refine Go1.cut [] trivial ?_
     intro σ _
     refine Go1.region ?_
     refine GoR.op ((op_assign rfl) _) rfl rfl ?_
     refine GoR.nil ?_
     refine Go1.ret1 Try.func10 rfl ?_
     exact ⟨false, rfl, hB.same, H⟩
    replace H := ifn h51 H
    refine GoQ.pure rfl (fun w => opB (op_lss rfl rfl w) (decide_eq_false h51)) rfl rfl ?_
    refine GoQ.pure rfl (op_move rfl) rfl rfl ?_
    refine GoQ.pure rfl (op_move rfl) rfl rfl ?_
    refine GoQ.pure rfl (op_move rfl) rfl rfl ?_
    by_cases h52 : (r13.Elems.length : Int) ≤ r42
    ·replace H := ifp h52 H
     refine GoQ.pure rfl (fun w => opB (op_geq rfl rfl w) (decide_eq_true h52)) rfl rfl ?_
     refine GoQ.pure rfl (op_pickF rfl rfl rfl) rfl rfl ?_
     refine GoQ.pure rfl (op_move rfl) rfl rfl ?_
     refine GoQ.pass rfl rfl rfl ?_
     refine GoQ.pass rfl rfl rfl ?_
     refine GoQ.pass rfl rfl rfl ?_
     refine GoQ.pass rfl rfl rfl ?_
     refine GoQ.pass rfl rfl rfl ?_
     refine GoQ.pass rfl rfl rfl ?_
     refine GoQ.pass rfl rfl rfl ?_
     refine GoQ.pass rfl rfl rfl ?_
     refine GoQ.pass rfl rfl rfl ?_
     refine GoQ.pass rfl rfl rfl ?_
     refine GoQ.pass rfl rfl rfl ?_
     refine GoQ.pass rfl rfl rfl ?_
     refine GoQ.pass rfl rfl rfl ?_
     refine GoQ.pass rfl rfl rfl ?_
     refine GoQ.pass rfl rfl rfl ?_
     refine GoQ.pass rfl rfl rfl ?_
     refine GoQ.pass rfl rfl rfl ?_
     refine GoQ.pass rfl rfl rfl ?_
     refine GoQ.pure rfl (op_pickT rfl rfl rfl) rfl rfl ?_
     refine GoQ.nil ?_
     refine Go1.condT rfl rfl ?_
     refine Go1.seq ?_
     refine Go1.cut [] trivial ?_
     intro σ _
     refine Go1.region ?_
     refine GoR.op ((op_assign rfl) _) rfl rfl ?_
     refine GoR.nil ?_
     refine Go1.ret1 Try.func10 rfl ?_
     exact ⟨false, rfl, hB.same, H⟩
    replace H := ifn h52 H
    refine GoQ.pure rfl (fun w => opB (op_geq rfl rfl w) (decide_eq_false h52)) rfl rfl ?_
    refine GoQ.pure rfl (op_pickF rfl rfl rfl) rfl rfl ?_
    refine GoQ.pure rfl (op_move rfl) rfl rfl ?_
    refine GoQ.pure rfl (op_fieldAddr Try.underlying29 rfl ti22 rfl (by decide)) rfl rfl ?_
    refine GoQ.stable rfl (oblk (i := 3) 0 hO rfl rfl Try.underlying22 rfl rfl) rfl rfl ?_
    refine GoQ.pure rfl (op_move rfl) rfl rfl ?_
    obtain ⟨h53, H⟩ := H
    obtain ⟨h54, H⟩ := H
    refine GoQ.pure rfl (op_index Try.underlying22 ti26 rfl rfl h53 h54 (cu.some_ h53 h54)) rfl rfl ?_
    have hobt := ldSl cu h53 h54
    obtain ⟨p55, c56, wN, IB⟩ := hobt
    refine GoQ.stable rfl (IB Try.underlying26 rfl rfl) rfl rfl ?_
    refine GoQ.pure rfl (op_fieldAddr Try.underlying29 rfl ti22 rfl (by decide)) rfl rfl ?_
    refine GoQ.stable rfl (oblk (i := 3) 0 hO rfl rfl Try.underlying22 rfl rfl) rfl rfl ?_
    refine GoQ.pure rfl (op_move rfl) rfl rfl ?_
    obtain ⟨h59, H⟩ := H
    obtain ⟨h60, H⟩ := H
    refine GoQ.pure rfl (op_index Try.underlying22 ti26 rfl rfl h59 h60 (cu.some_ h59 h60)) rfl rfl ?_
    have hobt := ldSl cu h59 h60
    obtain ⟨p61, c62, rf, IC⟩ := hobt
    refine GoQ.stable rfl (IC Try.underlying26 rfl rfl) rfl rfl ?_
    refine GoQ.pure rfl (op_fieldAddr Try.underlying29 rfl ti22 rfl (by decide)) rfl rfl ?_
    refine GoQ.stable rfl (oblk (i := 3) 0 hO rfl rfl Try.underlying22 rfl rfl) rfl rfl ?_
    refine GoQ.pure rfl (op_move rfl) rfl rfl ?_
    obtain ⟨h65, H⟩ := H
    obtain ⟨h66, H⟩ := H
    refine GoQ.pure rfl (op_index Try.underlying22 ti26 rfl rfl h65 h66 (cu.some_ h65 h66)) rfl rfl ?_
    have hobt := ldSl cu h65 h66
    obtain ⟨p67, c68, uE, AJ⟩ := hobt
    refine GoQ.stable rfl (AJ Try.underlying26 rfl rfl) rfl rfl ?_
    refine GoQ.call rfl (op_call body37 rfl (walk_trans_Compose hO.lt rf uE H)) (fun v w hr => by obtain ⟨_, _, _, _, hs, _, _⟩ := hr; assumption) rfl rfl ?_
    rintro v75 w72 ⟨r71, Kt, Ku, rfl, Bb, xq, H⟩
    have jg := Stp.same hO Bb
    replace hO := jg.own
    replace ca := ca.ch jg.ch
    replace dm := dm.ch jg.ch
    replace cu := cu.ch jg.ch
    replace cR := cR.ch jg.ch
    replace dn := dn.ch jg.ch
    replace cS := cS.ch jg.ch
    replace de := de.ch jg.ch
    replace wN := wN.ch jg.ch
    replace rf := rf.ch jg.ch
    replace uE := uE.ch jg.ch
    replace hB := hB.trans jg.fr
    refine GoQ.call rfl (op_call body34 rfl (walk_ref03_Same hO.lt wN xq H)) (fun v w hr => by obtain ⟨_, _, hs, _⟩ := hr; assumption) rfl rfl ?_
    rintro v81 w78 ⟨r77, rfl, ID, H⟩
    have rE := Stp.same hO ID
    replace hO := rE.own
    replace ca := ca.ch rE.ch
    replace dm := dm.ch rE.ch
    replace cu := cu.ch rE.ch
    replace cR := cR.ch rE.ch
    replace dn := dn.ch rE.ch
    replace cS := cS.ch rE.ch
    replace de := de.ch rE.ch
    replace wN := wN.ch rE.ch
    replace rf := rf.ch rE.ch
    replace uE := uE.ch rE.ch
    replace xq := xq.ch rE.ch
    replace hB := hB.trans rE.fr
    cases r77
    ·replace H := ifn Bool.false_ne_true H
     refine GoQ.pure rfl (op_not rfl) rfl rfl ?_
     refine GoQ.pure rfl (op_pickF rfl rfl rfl) rfl rfl ?_
     refine GoQ.nil ?_
     refine Go1.condT rfl rfl ?_
     refine Go1.seq ?_
     refine Go1.cut [] trivial ?_
     intro σ _
     refine Go1.region ?_
     refine GoR.op ((op_assign rfl) _) rfl rfl ?_
     refine GoR.nil ?_
     refine Go1.ret1 Try.func10 rfl ?_
     exact ⟨false, rfl, hB.same, H⟩
    replace H := ifp rfl H
    refine GoQ.pure rfl (op_not rfl) rfl rfl ?_
    refine GoQ.pure rfl (op_pickF rfl rfl rfl) rfl rfl ?_
    refine GoQ.nil ?_
    refine Go1.condF rfl rfl ?_
    refine Go1.skip ?_
    refine Go1.seq ?_
    refine Go1.region ?_
    refine GoR.op ((oblkAgg (vs := [.int .i64 r13.Points, .bool r13.Monoid, .slice g7 r13.Gens.length g8, .slice gh r13.Elems.length gi, .slice fK r13.Prefix.length fL, .slice g9 r13.Last.length hV, .slice gj r13.Right.length gk, .slice gl r13.Rules.length gm, .int .i64 r13.Done]) (i := 0) 0 hO rfl rfl Try.underlying29 rfl ti29 rfl) _ (Same.refl _)) rfl rfl ?_
    refine GoR.call (op_call body38 rfl (walk_enumerate_Left (a0 := r13) hO.lt dm cu cR dn cS de H)) rfl rfl ?_
    rintro v87 w84 ⟨r83, yC, yD, rfl, IE, mF, H⟩
    have jp := Stp.same hO IE
    replace hO := jp.own
    replace ca := ca.ch jp.ch
    replace dm := dm.ch jp.ch
    replace cu := cu.ch jp.ch
    replace cR := cR.ch jp.ch
    replace dn := dn.ch jp.ch
    replace cS := cS.ch jp.ch
    replace de := de.ch jp.ch
    replace wN := wN.ch jp.ch
    replace rf := rf.ch jp.ch
    replace uE := uE.ch jp.ch
    replace xq := xq.ch jp.ch
    replace hB := hB.trans jp.fr
    refine GoR.op ((op_assign rfl) _) rfl rfl ?_
    refine GoR.nil ?_
    refine Go1.seq ?_
    refine Go1.seq ?_
    refine Go1.region ?_
    refine GoR.op ((op_move rfl) _) rfl rfl ?_
    refine GoR.op ((op_len Try.underlying22 rfl) _) rfl rfl ?_
    replace H := H mF.bd
    refine GoR.op ((op_move rfl) _) rfl rfl ?_
    by_cases h89 : (r83.length : Int) = (r13.Elems.length : Int)
    ·replace H := ifp h89 H
     refine GoR.op ((fun w => opB (op_neq rfl rfl w) (ndT h89)) _) rfl rfl ?_
     refine GoR.nil ?_
     refine Go1.condF rfl rfl ?_
     refine Go1.skip ?_
     refine Go1.seq ?_
     refine Go1.seq ?_
     refine Go1.region ?_
     refine GoR.op ((op_move rfl) _) rfl rfl ?_
     refine GoR.op ((op_len Try.underlying22 rfl) _) rfl rfl ?_
     replace H := H ca.bd
     refine GoR.op ((op_move rfl) _) rfl rfl ?_
     refine GoR.nil ?_
     refine Go1.block ?_
     refine Go1.loopW (S := Nat) (fun s σ w => agrees σ [(0, .slice o4 a0.length o5), (2, .int .i64 (((a2.tmod (r13.Elems.length : Int)) + (r13.Elems.length : Int)).tmod (r13.Elems.length : Int))), (9, .pointer (some ⟨B21, 0, none⟩)), (11, .int .i64 (r13.Elems.length : Int)), (13, .slice yC r83.length yD), (102, .int .i64 (a0.length : Int)), (103, .int .i64 (s : Int))] ∧ Owns w0.heap.size w [.blk B21 (.cells #[.int .i64 r13.Points, .bool r13.Monoid, .slice g7 r13.Gens.length g8, .slice gh r13.Elems.length gi, .slice fK r13.Prefix.length fL, .slice g9 r13.Last.length hV, .slice gj r13.Right.length gk, .slice gl r13.Rules.length gm, .int .i64 r13.Done] 29 (0, 0))] A ∧ ISl (Rp.sl (Rp.int .i64)) (bl [.blk B21 (.cells #[.int .i64 r13.Points, .bool r13.Monoid, .slice g7 r13.Gens.length g8, .slice gh r13.Elems.length gi, .slice fK r13.Prefix.length fL, .slice g9 r13.Last.length hV, .slice gj r13.Right.length gk, .slice gl r13.Rules.length gm, .int .i64 r13.Done] 29 (0, 0))] ++ A) w o4 o5 a0 ∧ ISl (Rp.sl (Rp.int .i64)) (bl [.blk B21 (.cells #[.int .i64 r13.Points, .bool r13.Monoid, .slice g7 r13.Gens.length g8, .slice gh r13.Elems.length gi, .slice fK r13.Prefix.length fL, .slice g9 r13.Last.length hV, .slice gj r13.Right.length gk, .slice gl r13.Rules.length gm, .int .i64 r13.Done] 29 (0, 0))] ++ A) w g7 g8 r13.Gens ∧ ISl (Rp.sl (Rp.int .i64)) (bl [.blk B21 (.cells #[.int .i64 r13.Points, .bool r13.Monoid, .slice g7 r13.Gens.length g8, .slice gh r13.Elems.length gi, .slice fK r13.Prefix.length fL, .slice g9 r13.Last.length hV, .slice gj r13.Right.length gk, .slice gl r13.Rules.length gm, .int .i64 r13.Done] 29 (0, 0))] ++ A) w gh gi r13.Elems ∧ ISl (Rp.int .i64) (bl [.blk B21 (.cells #[.int .i64 r13.Points, .bool r13.Monoid, .slice g7 r13.Gens.length g8, .slice gh r13.Elems.length gi, .slice fK r13.Prefix.length fL, .slice g9 r13.Last.length hV, .slice gj r13.Right.length gk, .slice gl r13.Rules.length gm, .int .i64 r13.Done] 29 (0, 0))] ++ A) w fK fL r13.Prefix ∧ ISl (Rp.int .i64) (bl [.blk B21 (.cells #[.int .i64 r13.Points, .bool r13.Monoid, .slice g7 r13.Gens.length g8, .slice gh r13.Elems.length gi, .slice fK r13.Prefix.length fL, .slice g9 r13.Last.length hV, .slice gj r13.Right.length gk, .slice gl r13.Rules.length gm, .int .i64 r13.Done] 29 (0, 0))] ++ A) w g9 hV r13.Last ∧ ISl (Rp.sl (Rp.int .i64)) (bl [.blk B21 (.cells #[.int .i64 r13.Points, .bool r13.Monoid, .slice g7 r13.Gens.length g8, .slice gh r13.Elems.length gi, .slice fK r13.Prefix.length fL, .slice g9 r13.Last.length hV, .slice gj r13.Right.length gk, .slice gl r13.Rules.length gm, .int .i64 r13.Done] 29 (0, 0))] ++ A) w gj gk r13.Right ∧ ISl (rpRule) (bl [.blk B21 (.cells #[.int .i64 r13.Points, .bool r13.Monoid, .slice g7 r13.Gens.length g8, .slice gh r13.Elems.length gi, .slice fK r13.Prefix.length fL, .slice g9 r13.Last.length hV, .slice gj r13.Right.length gk, .slice gl r13.Rules.length gm, .int .i64 r13.Done] 29 (0, 0))] ++ A) w gl gm r13.Rules ∧ ISl (Rp.sl (Rp.int .i64)) (bl [.blk B21 (.cells #[.int .i64 r13.Points, .bool r13.Monoid, .slice g7 r13.Gens.length g8, .slice gh r13.Elems.length gi, .slice fK r13.Prefix.length fL, .slice g9 r13.Last.length hV, .slice gj r13.Right.length gk, .slice gl r13.Rules.length gm, .int .i64 r13.Done] 29 (0, 0))] ++ A) w yC yD r83 ∧ Fr (bl []) w0 (bl [.blk B21 (.cells #[.int .i64 r13.Points, .bool r13.Monoid, .slice g7 r13.Gens.length g8, .slice gh r13.Elems.length gi, .slice fK r13.Prefix.length fL, .slice g9 r13.Last.length hV, .slice gj r13.Right.length gk, .slice gl r13.Rules.length gm, .int .i64 r13.Done] 29 (0, 0))]) w) H ⟨⟨rfl, rfl, rfl, rfl, rfl, rfl, rfl, trivial⟩, hO, ca, dm, cu, cR, dn, cS, de, mF, hB⟩ ?_
     intro X1 k1_91
     intro H hX1 σ w90
     refine andE fun hag => andE fun hO => andE fun ca => andE fun dm => andE fun cu => andE fun cR => andE fun dn => andE fun cS => andE fun de => andE fun mF => fun hB => ?_
     refine Go1.keep [(0, .slice o4 a0.length o5), (2, .int .i64 (((a2.tmod (r13.Elems.length : Int)) + (r13.Elems.length : Int)).tmod (r13.Elems.length : Int))), (9, .pointer (some ⟨B21, 0, none⟩)), (11, .int .i64 (r13.Elems.length : Int)), (13, .slice yC r83.length yD), (102, .int .i64 (a0.length : Int)), (103, .int .i64 (k1_91 : Int))] hag ?_
     refine Go1.seq ?_
     refine Go1.region ?_
     by_cases h92 : (k1_91 : Int) < (a0.length : Int)
     ·replace H := ifp h92 H
      refine GoR.op ((fun w => opB (op_lss rfl rfl w) (decide_eq_true h92)) _) rfl rfl ?_
      refine GoR.nil ?_
      refine Go1.seq ?_
      refine Go1.condT rfl rfl ?_
      refine Go1.skip ?_
      refine Go1.seq ?_
      refine Go1.block ?_
      refine Go1.seq ?_
      refine Go1.region ?_
      refine GoR.op ((op_move rfl) _) rfl rfl ?_
      refine GoR.op ((op_assign rfl) _) rfl rfl ?_
      refine GoR.nil ?_
      refine Go1.seq ?_
      refine Go1.drawS 0 [(0, .pure), (1, .stable), (2, .pure), (3, .pure), (4, .stable), (5, .pure), (6, .pure), (7, .stable), (8, .pure), (9, .pure), (10, .pure), (11, .stable), (12, .pure), (13, .pure), (14, .stable), (15, .pure), (16, .pure)] mixed (by kernel_rfl) ?_
      intro w93 IF
      have nP := Stp.same hO IF
      replace hO := nP.own
      replace ca := ca.ch nP.ch
      replace dm := dm.ch nP.ch
      replace cu := cu.ch nP.ch
      replace cR := cR.ch nP.ch
      replace dn := dn.ch nP.ch
      replace cS := cS.ch nP.ch
      replace de := de.ch nP.ch
      replace mF := mF.ch nP.ch
      replace hB := hB.trans nP.fr
      refine GoQ.pure rfl (op_fieldAddr Try.underlying29 rfl ti22 rfl (by decide)) rfl rfl ?_
      refine GoQ.stable rfl (oblk (i := 6) 0 hO rfl rfl Try.underlying22 rfl rfl) rfl rfl ?_
      refine GoQ.pure rfl (op_move rfl) rfl rfl ?_
      obtain ⟨h96, H⟩ := H
      obtain ⟨h97, H⟩ := H
      refine GoQ.pure rfl (op_index Try.underlying22 ti26 rfl rfl h96 h97 (cS.some_ h96 h97)) rfl rfl ?_
      have hobt := ldSl cS h96 h97
      obtain ⟨p98, c99, sb, ET⟩ := hobt
      refine GoQ.stable rfl (ET Try.underlying26 rfl rfl) rfl rfl ?_
      refine GoQ.pure rfl (op_move rfl) rfl rfl ?_
      obtain ⟨uF, H⟩ := H
      obtain ⟨uG, H⟩ := H
      refine GoQ.pure rfl (op_index Try.underlying26 ti3 rfl rfl uF uG (sb.some_ uF uG)) rfl rfl ?_
      refine GoQ.stable rfl (ldInt sb uF uG Try.underlying3 rfl rfl) rfl rfl ?_
      refine GoQ.pure rfl (op_move rfl) rfl rfl ?_
      refine GoQ.pure rfl (op_move rfl) rfl rfl ?_
      obtain ⟨vF, H⟩ := H
      obtain ⟨qD, H⟩ := H
      refine GoQ.pure rfl (op_index Try.underlying22 ti26 rfl rfl vF qD (mF.some_ vF qD)) rfl rfl ?_
      have hobt := ldSl mF vF qD
      obtain ⟨Lo, Lp, sc, EU⟩ := hobt
      refine GoQ.stable rfl (EU Try.underlying26 rfl rfl) rfl rfl ?_
      refine GoQ.pure rfl (op_move rfl) rfl rfl ?_
      obtain ⟨wO, H⟩ := H
      obtain ⟨wP, H⟩ := H
      refine GoQ.pure rfl (op_index Try.underlying26 ti3 rfl rfl wO wP (sc.some_ wO wP)) rfl rfl ?_
      refine GoQ.stable rfl (ldInt sc wO wP Try.underlying3 rfl rfl) rfl rfl ?_
      refine GoQ.pure rfl (op_assign rfl) rfl rfl ?_
      refine GoQ.pure rfl (op_assign rfl) rfl rfl ?_
      refine GoQ.nil ?_
      refine Go1.seq ?_
      refine Go1.cut [(0, .slice o4 a0.length o5), (2, .int .i64 (((a2.tmod (r13.Elems.length : Int)) + (r13.Elems.length : Int)).tmod (r13.Elems.length : Int))), (9, .pointer (some ⟨B21, 0, none⟩)), (11, .int .i64 (r13.Elems.length : Int)), (13, .slice yC r83.length yD), (14, .int .i64 (k1_91 : Int)), (15, .int .i64 (ix (ix r13.Right (((a2.tmod (r13.Elems.length : Int)) + (r13.Elems.length : Int)).tmod (r13.Elems.length : Int))) (k1_91 : Int))), (16, .int .i64 (ix (ix r83 (((a2.tmod (r13.Elems.length : Int)) + (r13.Elems.length : Int)).tmod (r13.Elems.length : Int))) (k1_91 : Int))), (102, .int .i64 (a0.length : Int)), (103, .int .i64 (k1_91 : Int))] ⟨rfl, rfl, rfl, rfl, rfl, rfl, rfl, rfl, rfl, rfl, trivial⟩ ?_
      intro σ _
      refine Go1.drawS 0 [(0, .pure), (1, .pure), (2, .pure), (3, .pure), (4, .pure), (5, .pure), (6, .pure), (7, .pure), (8, .pure), (9, .pure), (10, .pure), (11, .pure), (12, .pure), (13, .pure), (14, .pure), (15, .pure), (16, .pure), (17, .pure), (18, .stable), (19, .pure), (20, .pure), (21, .stable), (22, .pure), (23, .stable), (24, .pure), (25, .pure), (26, .stable), (27, .pure), (28, .pure), (29, .pure), (30, .stable), (31, .loud), (32, .loud), (33, .pure), (34, .pure), (35, .pure), (36, .pure), (37, .stable), (38, .pure), (39, .pure), (40, .stable), (41, .pure), (42, .pure), (43, .pure), (44, .stable), (45, .pure), (46, .stable), (47, .pure), (48, .pure), (49, .stable), (50, .loud), (51, .loud), (52, .pure), (53, .pure)] mixed (by kernel_rfl) ?_
      intro Lr EV
      have pQ := Stp.same hO EV
      replace hO := pQ.own
      replace ca := ca.ch pQ.ch
      replace dm := dm.ch pQ.ch
      replace cu := cu.ch pQ.ch
      replace cR := cR.ch pQ.ch
      replace dn := dn.ch pQ.ch
      replace cS := cS.ch pQ.ch
      replace de := de.ch pQ.ch
      replace mF := mF.ch pQ.ch
      replace sb := sb.ch pQ.ch
      replace sc := sc.ch pQ.ch
      replace hB := hB.trans pQ.fr
      refine GoQ.pure rfl (op_move rfl) rfl rfl ?_
      by_cases tE : (ix (ix r13.Right (((a2.tmod (r13.Elems.length : Int)) + (r13.Elems.length : Int)).tmod (r13.Elems.length : Int))) (k1_91 : Int)) < (0 : Int)
      ·replace H := ifp tE H
       refine GoQ.pure rfl (fun w => opB (op_lss rfl rfl w) (decide_eq_true tE)) rfl rfl ?_
       refine GoQ.pure rfl (op_move rfl) rfl rfl ?_
       refine GoQ.pass rfl rfl rfl ?_
       refine GoQ.pass rfl rfl rfl ?_
       refine GoQ.pass rfl rfl rfl ?_
       refine GoQ.pure rfl (op_pickT rfl rfl rfl) rfl rfl ?_
       refine GoQ.pure rfl (op_move rfl) rfl rfl ?_
       refine GoQ.pass rfl rfl rfl ?_
       refine GoQ.pass rfl rfl rfl ?_
       refine GoQ.pure rfl (op_pickT rfl rfl rfl) rfl rfl ?_
       refine GoQ.pure rfl (op_move rfl) rfl rfl ?_
       refine GoQ.pass rfl rfl rfl ?_
       refine GoQ.pass rfl rfl rfl ?_
       refine GoQ.pass rfl rfl rfl ?_
       refine GoQ.pure rfl (op_pickT rfl rfl rfl) rfl rfl ?_
       refine GoQ.pure rfl (op_move rfl) rfl rfl ?_
       refine GoQ.pass rfl rfl rfl ?_
       refine GoQ.pass rfl rfl rfl ?_
       refine GoQ.pass rfl rfl rfl ?_
       refine GoQ.pass rfl rfl rfl ?_
       refine GoQ.pass rfl rfl rfl ?_
       refine GoQ.pass rfl rfl rfl ?_
       refine GoQ.pass rfl rfl rfl ?_
       refine GoQ.pass rfl rfl rfl ?_
       refine GoQ.pass rfl rfl rfl ?_
       refine GoQ.pass rfl rfl rfl ?_
       refine GoQ.pass rfl rfl rfl ?_
       refine GoQ.pass rfl rfl rfl ?_
       refine GoQ.pass rfl rfl rfl ?_
       refine GoQ.pass rfl rfl rfl ?_
       refine GoQ.pass rfl rfl rfl ?_
       refine GoQ.pass rfl rfl rfl ?_
       refine GoQ.pass rfl rfl rfl ?_
       refine GoQ.pure rfl (op_pickT rfl rfl rfl) rfl rfl ?_
       refine GoQ.pure rfl (op_move rfl) rfl rfl ?_
       refine GoQ.pass rfl rfl rfl ?_
       refine GoQ.pass rfl rfl rfl ?_
       refine GoQ.pass rfl rfl rfl ?_
       refine GoQ.pass rfl rfl rfl ?_
       refine GoQ.pass rfl rfl rfl ?_
       refine GoQ.pass rfl rfl rfl ?_
       refine GoQ.pass rfl rfl rfl ?_
       refine GoQ.pass rfl rfl rfl ?_
       refine GoQ.pass rfl rfl rfl ?_
       refine GoQ.pass rfl rfl rfl ?_
       refine GoQ.pass rfl rfl rfl ?_
       refine GoQ.pass rfl rfl rfl ?_
       refine GoQ.pass rfl rfl rfl ?_
       refine GoQ.pass rfl rfl rfl ?_
       refine GoQ.pass rfl rfl rfl ?_
       refine GoQ.pass rfl rfl rfl ?_
       refine GoQ.pass rfl rfl rfl ?_
       refine GoQ.pure rfl (op_pickT rfl rfl rfl) rfl rfl ?_
       refine GoQ.nil ?_
       refine Go1.condT rfl rfl ?_
       refine Go1.seq ?_
       refine Go1.cut [] trivial ?_
       intro σ _
       refine Go1.region ?_
       refine GoR.op ((op_assign rfl) _) rfl rfl ?_
       refine GoR.nil ?_
       refine Go1.ret1 Try.func10 rfl ?_
       exact ⟨false, rfl, hB.same, H⟩
      replace H := ifn tE H
      refine GoQ.pure rfl (fun w => opB (op_lss rfl rfl w) (decide_eq_false tE)) rfl rfl ?_
      refine GoQ.pure rfl (op_move rfl) rfl rfl ?_
      refine GoQ.pure rfl (op_move rfl) rfl rfl ?_
      refine GoQ.pure rfl (op_move rfl) rfl rfl ?_
      by_cases qE : (r13.Elems.length : Int) ≤ (ix (ix r13.Right (((a2.tmod (r13.Elems.length : Int)) + (r13.Elems.length : Int)).tmod (r13.Elems.length : Int))) (k1_91 : Int))
      ·replace H := ifp qE H
       refine GoQ.pure rfl (fun w => opB (op_geq rfl rfl w) (decide_eq_true qE)) rfl rfl ?_
       refine GoQ.pure rfl (op_pickF rfl rfl rfl) rfl rfl ?_
       refine GoQ.pure rfl (op_move rfl) rfl rfl ?_
       refine GoQ.pass rfl rfl rfl ?_
       refine GoQ.pass rfl rfl rfl ?_
       refine GoQ.pure rfl (op_pickT rfl rfl rfl) rfl rfl ?_
       refine GoQ.pure rfl (op_move rfl) rfl rfl ?_
       refine GoQ.pass rfl rfl rfl ?_
       refine GoQ.pass rfl rfl rfl ?_
       refine GoQ.pass rfl rfl rfl ?_
       refine GoQ.pure rfl (op_pickT rfl rfl rfl) rfl rfl ?_
       refine GoQ.pure rfl (op_move rfl) rfl rfl ?_
       refine GoQ.pass rfl rfl rfl ?_
       refine GoQ.pass rfl rfl rfl ?_
       refine GoQ.pass rfl rfl rfl ?_
       refine GoQ.pass rfl rfl rfl ?_
       refine GoQ.pass rfl rfl rfl ?_
       refine GoQ.pass rfl rfl rfl ?_
       refine GoQ.pass rfl rfl rfl ?_
       refine GoQ.pass rfl rfl rfl ?_
       refine GoQ.pass rfl rfl rfl ?_
       refine GoQ.pass rfl rfl rfl ?_
       refine GoQ.pass rfl rfl rfl ?_
       refine GoQ.pass rfl rfl rfl ?_
       refine GoQ.pass rfl rfl rfl ?_
       refine GoQ.pass rfl rfl rfl ?_
       refine GoQ.pass rfl rfl rfl ?_
       refine GoQ.pass rfl rfl rfl ?_
       refine GoQ.pass rfl rfl rfl ?_
       refine GoQ.pure rfl (op_pickT rfl rfl rfl) rfl rfl ?_
       refine GoQ.pure rfl (op_move rfl) rfl rfl ?_
       refine GoQ.pass rfl rfl rfl ?_
       refine GoQ.pass rfl rfl rfl ?_
       refine GoQ.pass rfl rfl rfl ?_
       refine GoQ.pass rfl rfl rfl ?_
       refine GoQ.pass rfl rfl rfl ?_
       refine GoQ.pass rfl rfl rfl ?_
       refine GoQ.pass rfl rfl rfl ?_
       refine GoQ.pass rfl rfl rfl ?_
       refine GoQ.pass rfl rfl rfl ?_
       refine GoQ.pass rfl rfl rfl ?_
       refine GoQ.pass rfl rfl rfl ?_
       refine GoQ.pass rfl rfl rfl ?_
       refine GoQ.pass rfl rfl rfl ?_
       refine GoQ.pass rfl rfl rfl ?_
       refine GoQ.pass rfl rfl rfl ?_
       refine GoQ.pass rfl rfl rfl ?_
       refine GoQ.pass rfl rfl rfl ?_
       refine GoQ.pure rfl (op_pickT rfl rfl rfl) rfl rfl ?_
       refine GoQ.nil ?_
       refine Go1.condT rfl rfl ?_
       refine Go1.seq ?_
       refine Go1.cut [] trivial ?_
       intro σ _
       refine Go1.region ?_
       refine GoR.op ((op_assign rfl) _) rfl rfl ?_
       refine GoR.nil ?_
       refine Go1.ret1 Try.func10 rfl ?_
       exact ⟨false, rfl, hB.same, H⟩
      replace H := ifn qE H
      refine GoQ.pure rfl (fun w => opB (op_geq rfl rfl w) (decide_eq_false qE)) rfl rfl ?_
      refine GoQ.pure rfl (op_pickF rfl rfl rfl) rfl rfl ?_
      refine GoQ.pure rfl (op_move rfl) rfl rfl ?_
      refine GoQ.pure rfl (op_move rfl) rfl rfl ?_
      by_cases vc : (ix (ix r83 (((a2.tmod (r13.Elems.length : Int)) + (r13.Elems.length : Int)).tmod (r13.Elems.length : Int))) (k1_91 : Int)) < (0 : Int)
      ·replace H := ifp vc H
       refine GoQ.pure rfl (fun w => opB (op_lss rfl rfl w) (decide_eq_true vc)) rfl rfl ?_
       refine GoQ.pure rfl (op_pickF rfl rfl rfl) rfl rfl ?_
       refine GoQ.pure rfl (op_move rfl) rfl rfl ?_
       refine GoQ.pass rfl rfl rfl ?_
       refine GoQ.pass rfl rfl rfl ?_
       refine GoQ.pass rfl rfl rfl ?_
       refine GoQ.pure rfl (op_pickT rfl rfl rfl) rfl rfl ?_
       refine GoQ.pure rfl (op_move rfl) rfl rfl ?_
       refine GoQ.pass rfl rfl rfl ?_
       refine GoQ.pass rfl rfl rfl ?_
       refine GoQ.pass rfl rfl rfl ?_
       refine GoQ.pass rfl rfl rfl ?_
       refine GoQ.pass rfl rfl rfl ?_
       refine GoQ.pass rfl rfl rfl ?_
       refine GoQ.pass rfl rfl rfl ?_
       refine GoQ.pass rfl rfl rfl ?_
       refine GoQ.pass rfl rfl rfl ?_
       refine GoQ.pass rfl rfl rfl ?_
       refine GoQ.pass rfl rfl rfl ?_
       refine GoQ.pass rfl rfl rfl ?_
       refine GoQ.pass rfl rfl rfl ?_
       refine GoQ.pass rfl rfl rfl ?_
       refine GoQ.pass rfl rfl rfl ?_
       refine GoQ.pass rfl rfl rfl ?_
       refine GoQ.pass rfl rfl rfl ?_
       refine GoQ.pure rfl (op_pickT rfl rfl rfl) rfl rfl ?_
       refine GoQ.pure rfl (op_move rfl) rfl rfl ?_
       refine GoQ.pass rfl rfl rfl ?_
       refine GoQ.pass rfl rfl rfl ?_
       refine GoQ.pass rfl rfl rfl ?_
       refine GoQ.pass rfl rfl rfl ?_
       refine GoQ.pass rfl rfl rfl ?_
       refine GoQ.pass rfl rfl rfl ?_
       refine GoQ.pass rfl rfl rfl ?_
       refine GoQ.pass rfl rfl rfl ?_
       refine GoQ.pass rfl rfl rfl ?_
       refine GoQ.pass rfl rfl rfl ?_
       refine GoQ.pass rfl rfl rfl ?_
       refine GoQ.pass rfl rfl rfl ?_
       refine GoQ.pass rfl rfl rfl ?_
       refine GoQ.pass rfl rfl rfl ?_
       refine GoQ.pass rfl rfl rfl ?_
       refine GoQ.pass rfl rfl rfl ?_
       refine GoQ.pass rfl rfl rfl ?_
       refine GoQ.pure rfl (op_pickT rfl rfl rfl) rfl rfl ?_
       refine GoQ.nil ?_
       refine Go1.condT rfl rfl ?_
       refine Go1.seq ?_
       refine Go1.cut [] trivial ?_
       intro σ _
       refine Go1.region ?_
       refine GoR.op ((op_assign rfl) _) rfl rfl ?_
       refine GoR.nil ?_
       refine Go1.ret1 Try.func10 rfl ?_
       exact ⟨false, rfl, hB.same, H⟩
      replace H := ifn vc H
      refine GoQ.pure rfl (fun w => opB (op_lss rfl rfl w) (decide_eq_false vc)) rfl rfl ?_
      refine GoQ.pure rfl (op_pickF rfl rfl rfl) rfl rfl ?_
      refine GoQ.pure rfl (op_move rfl) rfl rfl ?_
      refine GoQ.pure rfl (op_move rfl) rfl rfl ?_
      refine GoQ.pure rfl (op_move rfl) rfl rfl ?_
      by_cases zH : (r13.Elems.length : Int) ≤ (ix (ix r83 (((a2.tmod (r13.Elems.length : Int)) + (r13.Elems.length : Int)).tmod (r13.Elems.length : Int))) (k1_91 : Int))
      ·replace H := ifp zH H
       refine GoQ.pure rfl (fun w => opB (op_geq rfl rfl w) (decide_eq_true zH)) rfl rfl ?_
       refine GoQ.pure rfl (op_pickF rfl rfl rfl) rfl rfl ?_
       refine GoQ.pure rfl (op_move rfl) rfl rfl ?_
       refine GoQ.pass rfl rfl rfl ?_
       refine GoQ.pass rfl rfl rfl ?_
       refine GoQ.pass rfl rfl rfl ?_
       refine GoQ.pass rfl rfl rfl ?_
       refine GoQ.pass rfl rfl rfl ?_
       refine GoQ.pass rfl rfl rfl ?_
       refine GoQ.pass rfl rfl rfl ?_
       refine GoQ.pass rfl rfl rfl ?_
       refine GoQ.pass rfl rfl rfl ?_
       refine GoQ.pass rfl rfl rfl ?_
       refine GoQ.pass rfl rfl rfl ?_
       refine GoQ.pass rfl rfl rfl ?_
       refine GoQ.pass rfl rfl rfl ?_
       refine GoQ.pass rfl rfl rfl ?_
       refine GoQ.pass rfl rfl rfl ?_
       refine GoQ.pass rfl rfl rfl ?_
       refine GoQ.pass rfl rfl rfl ?_
       refine GoQ.pure rfl (op_pickT rfl rfl rfl) rfl rfl ?_
       refine GoQ.pure rfl (op_move rfl) rfl rfl ?_
       refine GoQ.pass rfl rfl rfl ?_
       refine GoQ.pass rfl rfl rfl ?_
       refine GoQ.pass rfl rfl rfl ?_
       refine GoQ.pass rfl rfl rfl ?_
       refine GoQ.pass rfl rfl rfl ?_
       refine GoQ.pass rfl rfl rfl ?_
       refine GoQ.pass rfl rfl rfl ?_
       refine GoQ.pass rfl rfl rfl ?_
       refine GoQ.pass rfl rfl rfl ?_
       refine GoQ.pass rfl rfl rfl ?_
       refine GoQ.pass rfl rfl rfl ?_
       refine GoQ.pass rfl rfl rfl ?_
       refine GoQ.pass rfl rfl rfl ?_
       refine GoQ.pass rfl rfl rfl ?_
       refine GoQ.pass rfl rfl rfl ?_
       refine GoQ.pass rfl rfl rfl ?_
       refine GoQ.pass rfl rfl rfl ?_
       refine GoQ.pure rfl (op_pickT rfl rfl rfl) rfl rfl ?_
       refine GoQ.nil ?_
       refine Go1.condT rfl rfl ?_
       refine Go1.seq ?_
       refine Go1.cut [] trivial ?_
       intro σ _
       refine Go1.region ?_
       refine GoR.op ((op_assign rfl) _) rfl rfl ?_
       refine GoR.nil ?_
       refine Go1.ret1 Try.func10 rfl ?_
       exact ⟨false, rfl, hB.same, H⟩
      replace H := ifn zH H
      refine GoQ.pure rfl (fun w => opB (op_geq rfl rfl w) (decide_eq_false zH)) rfl rfl ?_
      refine GoQ.pure rfl (op_pickF rfl rfl rfl) rfl rfl ?_
      refine GoQ.pure rfl (op_move rfl) rfl rfl ?_
      refine GoQ.pure rfl (op_fieldAddr Try.underlying29 rfl ti22 rfl (by decide)) rfl rfl ?_
      refine GoQ.stable rfl (oblk (i := 3) 0 hO rfl rfl Try.underlying22 rfl rfl) rfl rfl ?_
      refine GoQ.pure rfl (op_move rfl) rfl rfl ?_
      obtain ⟨uH, H⟩ := H
      obtain ⟨yQ, H⟩ := H
      refine GoQ.pure rfl (op_index Try.underlying22 ti26 rfl rfl uH yQ (cu.some_ uH yQ)) rfl rfl ?_
      have hobt := ldSl cu uH yQ
      obtain ⟨Ls, Lt, tQ, EW⟩ := hobt
      refine GoQ.stable rfl (EW Try.underlying26 rfl rfl) rfl rfl ?_
      refine GoQ.pure rfl (op_fieldAddr Try.underlying29 rfl ti22 rfl (by decide)) rfl rfl ?_
      refine GoQ.stable rfl (oblk (i := 3) 0 hO rfl rfl Try.underlying22 rfl rfl) rfl rfl ?_
      refine GoQ.pure rfl (op_move rfl) rfl rfl ?_
      obtain ⟨sR, H⟩ := H
      obtain ⟨sT, H⟩ := H
      refine GoQ.pure rfl (op_index Try.underlying22 ti26 rfl rfl sR sT (cu.some_ sR sT)) rfl rfl ?_
      have hobt := ldSl cu sR sT
      obtain ⟨Lu, Lv, tR, EX⟩ := hobt
      refine GoQ.stable rfl (EX Try.underlying26 rfl rfl) rfl rfl ?_
      refine GoQ.pure rfl (op_move rfl) rfl rfl ?_
      refine GoQ.pure rfl (op_move rfl) rfl rfl ?_
      obtain ⟨Bc, H⟩ := H
      obtain ⟨wJ, H⟩ := H
      refine GoQ.pure rfl (op_index Try.underlying22 ti26 rfl rfl Bc wJ (ca.some_ Bc wJ)) rfl rfl ?_
      have hobt := ldSl ca Bc wJ
      obtain ⟨Lw, Lx, tS, EY⟩ := hobt
      refine GoQ.stable rfl (EY Try.underlying26 rfl rfl) rfl rfl ?_
      refine GoQ.call rfl (op_call body37 rfl (walk_trans_Compose hO.lt tR tS H)) (fun v w hr => by obtain ⟨_, _, _, _, hs, _, _⟩ := hr; assumption) rfl rfl ?_
      rintro Ly IG ⟨r137, Kl, Km, rfl, EZ, t4, H⟩
      have nm := Stp.same hO EZ
      replace hO := nm.own
      replace ca := ca.ch nm.ch
      replace dm := dm.ch nm.ch
      replace cu := cu.ch nm.ch
      replace cR := cR.ch nm.ch
      replace dn := dn.ch nm.ch
      replace cS := cS.ch nm.ch
      replace de := de.ch nm.ch
      replace mF := mF.ch nm.ch
      replace sb := sb.ch nm.ch
      replace sc := sc.ch nm.ch
      replace tQ := tQ.ch nm.ch
      replace tR := tR.ch nm.ch
      replace tS := tS.ch nm.ch
      replace hB := hB.trans nm.fr
      refine GoQ.call rfl (op_call body34 rfl (walk_ref03_Same hO.lt tQ t4 H)) (fun v w hr => by obtain ⟨_, _, hs, _⟩ := hr; assumption) rfl rfl ?_
      rintro Lz LA ⟨r143, rfl, E0, H⟩
      have mJ := Stp.same hO E0
      replace hO := mJ.own
      replace ca := ca.ch mJ.ch
      replace dm := dm.ch mJ.ch
      replace cu := cu.ch mJ.ch
      replace cR := cR.ch mJ.ch
      replace dn := dn.ch mJ.ch
      replace cS := cS.ch mJ.ch
      replace de := de.ch mJ.ch
      replace mF := mF.ch mJ.ch
      replace sb := sb.ch mJ.ch
      replace sc := sc.ch mJ.ch
      replace tQ := tQ.ch mJ.ch
      replace tR := tR.ch mJ.ch
      replace tS := tS.ch mJ.ch
      replace t4 := t4.ch mJ.ch
      replace hB := hB.trans mJ.fr
      cases r143
      ·replace H := ifn Bool.false_ne_true H
       refine GoQ.pure rfl (op_not rfl) rfl rfl ?_
       refine GoQ.pure rfl (op_pickF rfl rfl rfl) rfl rfl ?_
       refine GoQ.pure rfl (op_move rfl) rfl rfl ?_
       refine GoQ.pass rfl rfl rfl ?_
       refine GoQ.pass rfl rfl rfl ?_
       refine GoQ.pass rfl rfl rfl ?_
       refine GoQ.pass rfl rfl rfl ?_
       refine GoQ.pass rfl rfl rfl ?_
       refine GoQ.pass rfl rfl rfl ?_
       refine GoQ.pass rfl rfl rfl ?_
       refine GoQ.pass rfl rfl rfl ?_
       refine GoQ.pass rfl rfl rfl ?_
       refine GoQ.pass rfl rfl rfl ?_
       refine GoQ.pass rfl rfl rfl ?_
       refine GoQ.pass rfl rfl rfl ?_
       refine GoQ.pass rfl rfl rfl ?_
       refine GoQ.pass rfl rfl rfl ?_
       refine GoQ.pass rfl rfl rfl ?_
       refine GoQ.pass rfl rfl rfl ?_
       refine GoQ.pass rfl rfl rfl ?_
       refine GoQ.pure rfl (op_pickT rfl rfl rfl) rfl rfl ?_
       refine GoQ.nil ?_
       refine Go1.condT rfl rfl ?_
       refine Go1.seq ?_
       refine Go1.cut [] trivial ?_
       intro σ _
       refine Go1.region ?_
       refine GoR.op ((op_assign rfl) _) rfl rfl ?_
       refine GoR.nil ?_
       refine Go1.ret1 Try.func10 rfl ?_
       exact ⟨false, rfl, hB.same, H⟩
      replace H := ifp rfl H
      refine GoQ.pure rfl (op_not rfl) rfl rfl ?_
      refine GoQ.pure rfl (op_pickF rfl rfl rfl) rfl rfl ?_
      refine GoQ.pure rfl (op_move rfl) rfl rfl ?_
      refine GoQ.pure rfl (op_fieldAddr Try.underlying29 rfl ti22 rfl (by decide)) rfl rfl ?_
      refine GoQ.stable rfl (oblk (i := 3) 0 hO rfl rfl Try.underlying22 rfl rfl) rfl rfl ?_
      refine GoQ.pure rfl (op_move rfl) rfl rfl ?_
      obtain ⟨wQ, H⟩ := H
      obtain ⟨vy, H⟩ := H
      refine GoQ.pure rfl (op_index Try.underlying22 ti26 rfl rfl wQ vy (cu.some_ wQ vy)) rfl rfl ?_
      have hobt := ldSl cu wQ vy
      obtain ⟨LB, LD, xr, E3⟩ := hobt
      refine GoQ.stable rfl (E3 Try.underlying26 rfl rfl) rfl rfl ?_
      refine GoQ.pure rfl (op_move rfl) rfl rfl ?_
      refine GoQ.pure rfl (op_move rfl) rfl rfl ?_
      obtain ⟨t5, H⟩ := H
      obtain ⟨t6, H⟩ := H
      refine GoQ.pure rfl (op_index Try.underlying22 ti26 rfl rfl t5 t6 (ca.some_ t5 t6)) rfl rfl ?_
      have hobt := ldSl ca t5 t6
      obtain ⟨Bd, Be, cQ, zI⟩ := hobt
      refine GoQ.stable rfl (zI Try.underlying26 rfl rfl) rfl rfl ?_
      refine GoQ.pure rfl (op_fieldAddr Try.underlying29 rfl ti22 rfl (by decide)) rfl rfl ?_
      refine GoQ.stable rfl (oblk (i := 3) 0 hO rfl rfl Try.underlying22 rfl rfl) rfl rfl ?_
      refine GoQ.pure rfl (op_move rfl) rfl rfl ?_
      obtain ⟨yU, H⟩ := H
      obtain ⟨vd, H⟩ := H
      refine GoQ.pure rfl (op_index Try.underlying22 ti26 rfl rfl yU vd (cu.some_ yU vd)) rfl rfl ?_
      have hobt := ldSl cu yU vd
      obtain ⟨LE, LF, xt, E4⟩ := hobt
      refine GoQ.stable rfl (E4 Try.underlying26 rfl rfl) rfl rfl ?_
      refine GoQ.call rfl (op_call body37 rfl (walk_trans_Compose hO.lt cQ xt H)) (fun v w hr => by obtain ⟨_, _, _, _, hs, _, _⟩ := hr; assumption) rfl rfl ?_
      rintro IH II ⟨r167, Kn, Ko, rfl, zJ, yV, H⟩
      have fM := Stp.same hO zJ
      replace hO := fM.own
      replace ca := ca.ch fM.ch
      replace dm := dm.ch fM.ch
      replace cu := cu.ch fM.ch
      replace cR := cR.ch fM.ch
      replace dn := dn.ch fM.ch
      replace cS := cS.ch fM.ch
      replace de := de.ch fM.ch
      replace mF := mF.ch fM.ch
      replace sb := sb.ch fM.ch
      replace sc := sc.ch fM.ch
      replace tQ := tQ.ch fM.ch
      replace tR := tR.ch fM.ch
      replace tS := tS.ch fM.ch
      replace t4 := t4.ch fM.ch
      replace xr := xr.ch fM.ch
      replace cQ := cQ.ch fM.ch
      replace xt := xt.ch fM.ch
      replace hB := hB.trans fM.fr
      refine GoQ.call rfl (op_call body34 rfl (walk_ref03_Same hO.lt xr yV H)) (fun v w hr => by obtain ⟨_, _, hs, _⟩ := hr; assumption) rfl rfl ?_
      rintro LG IJ ⟨r173, rfl, zK, H⟩
      have eo := Stp.same hO zK
      replace hO := eo.own
      replace ca := ca.ch eo.ch
      replace dm := dm.ch eo.ch
      replace cu := cu.ch eo.ch
      replace cR := cR.ch eo.ch
      replace dn := dn.ch eo.ch
      replace cS := cS.ch eo.ch
      replace de := de.ch eo.ch
      replace mF := mF.ch eo.ch
      replace sb := sb.ch eo.ch
      replace sc := sc.ch eo.ch
      replace tQ := tQ.ch eo.ch
      replace tR := tR.ch eo.ch
      replace tS := tS.ch eo.ch
      replace t4 := t4.ch eo.ch
      replace xr := xr.ch eo.ch
      replace cQ := cQ.ch eo.ch
      replace xt := xt.ch eo.ch
      replace yV := yV.ch eo.ch
      replace hB := hB.trans eo.fr
      cases r173
      ·replace H := ifn Bool.false_ne_true H
       refine GoQ.pure rfl (op_not rfl) rfl rfl ?_
       refine GoQ.pure rfl (op_pickF rfl rfl rfl) rfl rfl ?_
       refine GoQ.nil ?_
       refine Go1.condT rfl rfl ?_
       refine Go1.seq ?_
       refine Go1.cut [] trivial ?_
       intro σ _
       refine Go1.region ?_
       refine GoR.op ((op_assign rfl) _) rfl rfl ?_
       refine GoR.nil ?_
       refine Go1.ret1 Try.func10 rfl ?_
       exact ⟨false, rfl, hB.same, H⟩
      replace H := ifp rfl H
      refine GoQ.pure rfl (op_not rfl) rfl rfl ?_
      refine GoQ.pure rfl (op_pickF rfl rfl rfl) rfl rfl ?_
      refine GoQ.nil ?_
      refine Go1.condF rfl rfl ?_
      refine Go1.skip ?_
      refine Go1.inBlock ?_
      refine Go1.region ?_
      refine GoR.op ((op_add rfl rfl (wrap_i64 (natbd h92 ca.bd))) _) rfl rfl ?_
      refine GoR.op ((op_move rfl) _) rfl rfl ?_
      refine GoR.nil ?_
      exact hX1 _ H _ _ ⟨⟨rfl, rfl, rfl, rfl, rfl, rfl, rfl, trivial⟩, hO, ca, dm, cu, cR, dn, cS, de, mF, hB⟩
     replace H := ifn h92 H
     refine GoR.op ((fun w => opB (op_lss rfl rfl w) (decide_eq_false h92)) _) rfl rfl ?_
     refine GoR.nil ?_
     refine Go1.seq ?_
     refine Go1.condF rfl rfl ?_
     refine Go1.exit rfl ?_
     refine Go1.seq ?_
     refine Go1.region ?_
     refine GoR.call (op_call body16 rfl (walk_law12_awake hO.lt H)) rfl rfl ?_
     rintro LH IK ⟨r179, rfl, E5, H⟩
     have gV := Stp.same hO E5
     replace hO := gV.own
     replace ca := ca.ch gV.ch
     replace dm := dm.ch gV.ch
     replace cu := cu.ch gV.ch
     replace cR := cR.ch gV.ch
     replace dn := dn.ch gV.ch
     replace cS := cS.ch gV.ch
     replace de := de.ch gV.ch
     replace mF := mF.ch gV.ch
     replace hB := hB.trans gV.fr
     refine GoR.op ((op_assign rfl) _) rfl rfl ?_
     refine GoR.nil ?_
     refine Go1.ret1 Try.func10 rfl ?_
     exact ⟨r179, rfl, hB.same, H⟩
    replace H := ifn h89 H
    refine GoR.op ((fun w => opB (op_neq rfl rfl w) (ndF h89)) _) rfl rfl ?_
    refine GoR.nil ?_
    refine Go1.condT rfl rfl ?_
    refine Go1.seq ?_
    refine Go1.region ?_
    refine GoR.op ((op_assign rfl) _) rfl rfl ?_
    refine GoR.nil ?_
    refine Go1.ret1 Try.func10 rfl ?_
    exact ⟨false, rfl, hB.same, H⟩
   replace H := ifn h31 H
   refine GoR.op ((fun w => opB (op_neq rfl rfl w) (ndF h31)) _) rfl rfl ?_
   refine GoR.op ((op_pickF rfl rfl rfl) _) rfl rfl ?_
   refine GoR.nil ?_
   refine Go1.condT rfl rfl ?_
   refine Go1.seq ?_
   refine Go1.region ?_
   refine GoR.op ((op_assign rfl) _) rfl rfl ?_
   refine GoR.nil ?_
   refine Go1.ret1 Try.func10 rfl ?_
   exact ⟨false, rfl, hB.same, H⟩
  replace H := ifn h30 H
  refine GoR.op ((fun w => opB (op_neq rfl rfl w) (ndF h30)) _) rfl rfl ?_
  refine GoR.op ((op_pickF rfl rfl rfl) _) rfl rfl ?_
  refine GoR.op ((op_move rfl) _) rfl rfl ?_
  refine GoR.pass rfl rfl ?_
  refine GoR.pass rfl rfl ?_
  refine GoR.pass rfl rfl ?_
  refine GoR.pass rfl rfl ?_
  refine GoR.pass rfl rfl ?_
  refine GoR.pass rfl rfl ?_
  refine GoR.op ((op_pickT rfl rfl rfl) _) rfl rfl ?_
  refine GoR.nil ?_
  refine Go1.condT rfl rfl ?_
  refine Go1.seq ?_
  refine Go1.cut [] trivial ?_
  intro σ _
  refine Go1.region ?_
  refine GoR.op ((op_assign rfl) _) rfl rfl ?_
  refine GoR.nil ?_
  refine Go1.ret1 Try.func10 rfl ?_
  exact ⟨false, rfl, hB.same, H⟩
 replace H := ifn h29 H
 refine GoR.op ((fun w => opB (op_neq rfl rfl w) (ndF h29)) _) rfl rfl ?_
 refine GoR.op ((op_move rfl) _) rfl rfl ?_
 refine GoR.pass rfl rfl ?_
 refine GoR.pass rfl rfl ?_
 refine GoR.pass rfl rfl ?_
 refine GoR.pass rfl rfl ?_
 refine GoR.pass rfl rfl ?_
 refine GoR.pass rfl rfl ?_
 refine GoR.op ((op_pickT rfl rfl rfl) _) rfl rfl ?_
 refine GoR.op ((op_move rfl) _) rfl rfl ?_
 refine GoR.pass rfl rfl ?_
 refine GoR.pass rfl rfl ?_
 refine GoR.pass rfl rfl ?_
 refine GoR.pass rfl rfl ?_
 refine GoR.pass rfl rfl ?_
 refine GoR.pass rfl rfl ?_
 refine GoR.op ((op_pickT rfl rfl rfl) _) rfl rfl ?_
 refine GoR.nil ?_
 refine Go1.condT rfl rfl ?_
 refine Go1.seq ?_
 refine Go1.region ?_
 refine GoR.op ((op_assign rfl) _) rfl rfl ?_
 refine GoR.nil ?_
 refine Go1.ret1 Try.func10 rfl ?_
 exact ⟨false, rfl, hB.same, H⟩
end Sg
