/- The walks: each call keeps to its plain transformer. Printed by walkgen.py. -/
import Derived.Test.YtjegjjdfgefkoaaTi
import Derived.Test.YtjegjjdfgefkoaaWEnumerateActsb
import Derived.Test.YtjegjjdfgefkoaaWEnumerateBuilds
import Derived.Test.YtjegjjdfgefkoaaWEnumerateBuildsb
import Derived.Test.YtjegjjdfgefkoaaWEnumerateBuildsc
import Derived.Test.YtjegjjdfgefkoaaWEnumerateBuildsd
import Derived.Test.YtjegjjdfgefkoaaWEnumerateBuildse
import Derived.Test.YtjegjjdfgefkoaaWEnumerateRefuses
import Derived.Test.YtjegjjdfgefkoaaAl
namespace Sg
open Go Go.RowKit Go.Proofs
set_option linter.unusedVariables false
set_option linter.unusedSimpArgs false
set_option maxRecDepth 100000
set_option maxHeartbeats 4000000
theorem body44 : Body Try.prog 44 := ⟨Try.f44, Try.func44, rfl, by kernel_rfl⟩
theorem walk_enumerate_Table {A : List Nat} {w0 : World} {aH : Option Addr} {aI : Nat} {bX : Option Addr} {bY : Nat} {bx : Option Addr} {bz : Nat} {cO : Option Addr} {cP : Nat} {b5 : Option Addr} {b6 : Nat} {b7 : Option Addr} {b8 : Nat} {a0 : Enum} (hA : ∀ b ∈ A, b < w0.heap.size) (aa : ISl (Rp.sl (Rp.int .i64)) A w0 aH aI a0.Gens) (ar : ISl (Rp.sl (Rp.int .i64)) A w0 bX bY a0.Elems) (ak : ISl (Rp.int .i64) A w0 bx bz a0.Prefix) (aB : ISl (Rp.int .i64) A w0 cO cP a0.Last) (au : ISl (Rp.sl (Rp.int .i64)) A w0 b5 b6 a0.Right) (ao : ISl (rpRule) A w0 b7 b8 a0.Rules) {K : List (List Int) → Int → Prop} (H : enumerate_Table a0 K) :
    CallsV Try.prog 44 #[.agg #[.int .i64 a0.Points, .bool a0.Monoid, .slice aH a0.Gens.length aI, .slice bX a0.Elems.length bY, .slice bx a0.Prefix.length bz, .slice cO a0.Last.length cP, .slice b5 a0.Right.length b6, .slice b7 a0.Rules.length b8, .int .i64 a0.Done]] w0 (fun v w' => ∃ (r0 : List (List Int)), ∃ (r1 : Int), ∃ (nt : Option Addr), ∃ (nu : Nat), v = .tuple #[.slice nt r0.length nu, .int .i64 r1] ∧ Same w0 w' ∧ ISl (Rp.sl (Rp.int .i64)) A w' nt nu r0 ∧ K r0 r1) := by
 refine CallsV.of (l := [.agg #[.int .i64 a0.Points, .bool a0.Monoid, .slice aH a0.Gens.length aI, .slice bX a0.Elems.length bY, .slice bx a0.Prefix.length bz, .slice cO a0.Last.length cP, .slice b5 a0.Right.length b6, .slice b7 a0.Rules.length b8, .int .i64 a0.Done]]) Try.func44 rfl Try.ntmps44 rfl ?_
 have hO := Owns.start hA
 have hB := Fr.refl (bl []) w0
 unfold enumerate_Table at H
 refine zq (zr ?_)
 have hobt := obox (t := 29) (v := .agg #[.int .i64 a0.Points, .bool a0.Monoid, .slice aH a0.Gens.length aI, .slice bX a0.Elems.length bY, .slice bx a0.Prefix.length bz, .slice cO a0.Last.length cP, .slice b5 a0.Right.length b6, .slice b7 a0.Rules.length b8, .int .i64 a0.Done]) (cs := #[.int .i64 a0.Points, .bool a0.Monoid, .slice aH a0.Gens.length aI, .slice bX a0.Elems.length bY, .slice bx a0.Prefix.length bz, .slice cO a0.Last.length cP, .slice b5 a0.Right.length b6, .slice b7 a0.Rules.length b8, .int .i64 a0.Done]) hO rfl
 obtain ⟨w1, B2, d7, hs4, qE⟩ := hobt
 refine zg (qE rfl) ?_
 replace hO := d7.own
 refine za rfl (za rfl (zn (zq (zr (zs (oblkAgg (vs := [.int .i64 a0.Points, .bool a0.Monoid, .slice aH a0.Gens.length aI, .slice bX a0.Elems.length bY, .slice bx a0.Prefix.length bz, .slice cO a0.Last.length cP, .slice b5 a0.Right.length b6, .slice b7 a0.Rules.length b8, .int .i64 a0.Done]) (i := 0) 0 hO rfl rfl Try.underlying29 rfl ti29 rfl) ?_)))))
 have Z1 := (Ch.start A w0).trans d7.ch
 replace aa := aa.ch Z1
 replace ar := ar.ch Z1
 replace ak := ak.ch Z1
 replace aB := aB.ch Z1
 replace au := au.ch Z1
 replace ao := ao.ch Z1
 refine GoR.call (op_call body53 rfl (walk_enumerate_replay (e := a0) hO.lt aa ar ak aB au ao H)) rfl rfl ?_
 intro v9 w10 hcase13
 refine Or.elim hcase13 ?_ ?_
 ·refine exE fun r8 => andE fun hv14 => andE fun wy => fun H => ?_
  subst hv14
  clear hcase13
  replace H := oElimN H
  have ji := Stp.same hO wy
  replace hO := ji.own
  refine zm rfl (zo (op_extract rfl rfl) (zo (op_extract rfl rfl) (za rfl (za rfl (zn ?_)))))
  refine zq (zb (zq ?_))
  refine Go1.cut [(4, .pointer none), (5, .bool r8)] ⟨rfl, rfl, trivial⟩ ?_
  intro σ _
  refine zr (zm rfl ?_)
  cases r8
  ·replace H := ifn Bool.false_ne_true H
   refine zo (op_not rfl) (za rfl (zn (zt rfl rfl (zq (zr ?_)))))
   refine za rfl (za rfl (zn ?_))
   refine Go1.ret2 Try.func44 rfl ?_
   replace hB := (hB.trans d7.fr).trans ji.fr
   exact ⟨([] : List (List Int)), (8 : Int), none, 0, rfl, hB.same, (ISl.null _ _ _), H⟩
  replace H := ifp rfl H
  refine zo (op_not rfl) (za rfl (zn (zf rfl rfl (zq (zr ?_)))))
  refine zm rfl ?_
  refine GoR.inl (vs := [.pointer none]) (caps := []) rfl rfl body50 Try.func50 rfl Try.ntmps50 rfl rfl rfl ?_
  intro RhR16 hR16
  refine zq (zr (za rfl (zn (zq ?_))))
  refine Go1.drawS 0 [(0, .pure), (1, .pure), (2, .pure), (3, .pure), (4, .stable), (5, .pure), (6, .pure), (7, .pure), (8, .pure), (9, .stable), (10, .pure), (11, .pure), (12, .pure)] mixed (by kernel_rfl) ?_
  intro w17 Dq
  have ko := Stp.same hO Dq
  replace hO := ko.own
  refine GoQ.pure rfl (op_move rfl) rfl rfl ?_
  exact H.elim
 ·refine exE fun r7 => exE fun r8 => exE fun fB => exE fun cq => exE fun cr => exE fun ct => exE fun et => exE fun bG => exE fun bH => exE fun bI => exE fun dY => exE fun bu => exE fun bv => exE fun bw => exE fun dJ => exE fun cu => exE fun cv => exE fun cw => exE fun eA => exE fun bK => exE fun bM => exE fun bN => exE fun d4 => exE fun bO => exE fun bP => exE fun bQ => exE fun d5 => exE fun al => exE fun dO => exE fun dP => exE fun dQ => exE fun f6 => exE fun dp => exE fun dq => exE fun dr => exE fun fM => exE fun dt => exE fun du => exE fun dw => exE fun fN => andE fun hv20 => andE fun wy => andE fun hN12 => andE fun bi => andE fun aP => andE fun aN => andE fun bh => andE fun aO => andE fun aW => andE fun cF => andE fun cx => andE fun cy => fun H => ?_
  subst hv20
  clear hcase13
  replace H := oElimS H
  have nq := Stp.more hO wy hN12
  dsimp only [List.cons_append, List.nil_append] at nq
  replace hO := nq.own
  replace bi := bi.ch (Ch.assoc _ _ _ _)
  dsimp only [List.cons_append, List.nil_append] at bi
  replace aP := aP.ch (Ch.assoc _ _ _ _)
  dsimp only [List.cons_append, List.nil_append] at aP
  replace aN := aN.ch (Ch.assoc _ _ _ _)
  dsimp only [List.cons_append, List.nil_append] at aN
  replace bh := bh.ch (Ch.assoc _ _ _ _)
  dsimp only [List.cons_append, List.nil_append] at bh
  replace aO := aO.ch (Ch.assoc _ _ _ _)
  dsimp only [List.cons_append, List.nil_append] at aO
  replace aW := aW.ch (Ch.assoc _ _ _ _)
  dsimp only [List.cons_append, List.nil_append] at aW
  replace cF := cF.ch (Ch.assoc _ _ _ _)
  dsimp only [List.cons_append, List.nil_append] at cF
  replace cx := cx.ch (Ch.assoc _ _ _ _)
  dsimp only [List.cons_append, List.nil_append] at cx
  replace cy := cy.ch (Ch.assoc _ _ _ _)
  dsimp only [List.cons_append, List.nil_append] at cy
  refine zm rfl (zo (op_extract rfl rfl) (zo (op_extract rfl rfl) (za rfl (za rfl (zn ?_)))))
  refine zq (zb (zq (zr (zm rfl ?_))))
  cases r8
  ·replace H := ifn Bool.false_ne_true H
   refine zo (op_not rfl) (za rfl (zn (zt rfl rfl (zq ?_))))
   refine Go1.cut [] trivial ?_
   intro σ _
   refine zr (za rfl (za rfl (zn ?_)))
   refine Go1.ret2 Try.func44 rfl ?_
   replace hB := (hB.trans d7.fr).trans nq.fr
   exact ⟨([] : List (List Int)), (8 : Int), none, 0, rfl, hB.same, (ISl.null _ _ _), H⟩
  replace H := ifp rfl H
  refine zo (op_not rfl) (za rfl (zn (zf rfl rfl (zq (zr ?_)))))
  refine zm rfl ?_
  refine GoR.inl (vs := [.pointer (some ⟨fB, 0, none⟩)]) (caps := []) rfl rfl body50 Try.func50 rfl Try.ntmps50 rfl rfl rfl ?_
  intro RhR33 hR33
  refine zq (zr (za rfl (zn (zq ?_))))
  refine Go1.drawS 0 [(0, .pure), (1, .pure), (2, .pure), (3, .pure), (4, .stable), (5, .pure), (6, .pure), (7, .pure), (8, .pure), (9, .stable), (10, .pure), (11, .pure), (12, .pure)] mixed (by kernel_rfl) ?_
  intro w34 Vc
  have lA := Stp.same hO Vc
  replace hO := lA.own
  refine GoQ.pure rfl (op_move rfl) rfl rfl ?_
  refine GoQ.pure rfl (op_nilCheck rfl) rfl rfl ?_
  refine GoQ.pure rfl (op_fieldAddr Try.underlying72 rfl ti29 rfl (by decide)) rfl rfl ?_
  refine GoQ.pure rfl (op_fieldAddr Try.underlying29 rfl ti3 rfl (by decide)) rfl rfl ?_
  refine GoQ.stable rfl (oblk (i := 8) 0 hO rfl rfl Try.underlying3 rfl rfl) rfl rfl ?_
  refine GoQ.pure rfl (op_move rfl) rfl rfl ?_
  refine GoQ.pure rfl (op_nilCheck rfl) rfl rfl ?_
  refine GoQ.pure rfl (op_fieldAddr Try.underlying72 rfl ti29 rfl (by decide)) rfl rfl ?_
  refine GoQ.pure rfl (op_fieldAddr Try.underlying29 rfl ti22 rfl (by decide)) rfl rfl ?_
  refine GoQ.stable rfl (oblk (i := 3) 0 hO rfl rfl Try.underlying22 rfl rfl) rfl rfl ?_
  replace aP := aP.ch lA.ch
  refine GoQ.pure rfl (op_lenN Try.underlying22 rfl (aP.neq hO 2 rfl)) rfl rfl ?_
  by_cases h37 : r7.Enum.Done = (r7.Enum.Elems.length : Int)
  ·replace H := ifp h37 H
   refine GoQ.pure rfl (fun w => opB (op_eql rfl rfl w) (decide_eq_true h37)) rfl rfl ?_
   refine GoQ.pure rfl (op_assign rfl) rfl rfl ?_
   refine GoQ.nil ?_
   refine Go1.ret1V Try.func50 rfl (show _ = .bool true from rfl) ?_
   refine hR33 _ _ ?_
   refine zo (op_not rfl) (za rfl (zn (zf rfl rfl (zq ?_))))
   refine Go1.cut [(4, .pointer (some ⟨fB, 0, none⟩))] ⟨rfl, trivial⟩ ?_
   intro σ _
   refine zr (zm rfl (zo (op_nilCheck rfl) (zo (op_fieldAddr Try.underlying72 rfl ti29 rfl (by decide)) (zo (op_fieldAddr Try.underlying29 rfl ti22 rfl (by decide)) (zs (oblk (i := 3) 0 hO rfl rfl Try.underlying22 rfl rfl) ?_)))))
   refine zo (op_lenN Try.underlying22 rfl (aP.neq hO 2 rfl)) ?_
   by_cases h38 : (400 : Int) < (r7.Enum.Elems.length : Int)
   ·replace H := ifp h38 H
    refine zo (fun w => opB (op_gtr rfl rfl w) (decide_eq_true h38)) (za rfl (zn (zt rfl rfl (zq (zr ?_)))))
    refine za rfl (za rfl (zn ?_))
    refine Go1.ret2 Try.func44 rfl ?_
    replace hB := ((hB.trans d7.fr).trans nq.fr).trans lA.fr
    exact ⟨([] : List (List Int)), (3 : Int), none, 0, rfl, hB.same, (ISl.null _ _ _), H⟩
   replace H := ifn h38 H
   refine zo (fun w => opB (op_gtr rfl rfl w) (decide_eq_false h38)) (za rfl (zn (zf rfl rfl (zk ?_))))
   refine Go1.inBlock ?_
   refine zq (zr (zm rfl (zo (op_nilCheck rfl) (zo (op_fieldAddr Try.underlying72 rfl ti29 rfl (by decide)) (zo (op_fieldAddr Try.underlying29 rfl ti22 rfl (by decide)) ?_)))))
   refine zs (oblk (i := 3) 0 hO rfl rfl Try.underlying22 rfl rfl) (zo (op_lenN Try.underlying22 rfl (aP.neq hO 2 rfl)) ?_)
   obtain ⟨h46, H⟩ := H
   obtain ⟨h47, H⟩ := H
   have hobt := t2make (m := (r7.Enum.Elems.length : Int)) (e' := 3) (Fl.int .i64) Try.underlying22 ti26 hO h46 h47 (by decide)
   obtain ⟨w39, p40, sM, Hr, GX⟩ := hobt
   refine zg (GX rfl rfl) ?_
   replace hO := sM.own
   refine za rfl (zn (zq (zq ?_)))
   refine Go1.cut [(4, .pointer (some ⟨fB, 0, none⟩)), (6, .slice p40 r7.Enum.Elems.length r7.Enum.Elems.length)] ⟨rfl, rfl, trivial⟩ ?_
   intro σ _
   refine zr (zm rfl (zo (op_lenN Try.underlying22 rfl (t2neq 0 hO rfl)) (zm rfl (zn (zb ?_)))))
   replace hO := hO.drop 12
   replace aP := (aP.ch sM.ch).ch (Owns.dropCh _ _ 12)
   have Z2 := (lA.ch.trans sM.ch).trans (Owns.dropCh _ _ 12)
   replace bi := bi.ch Z2
   replace aN := aN.ch Z2
   replace bh := bh.ch Z2
   replace aO := aO.ch Z2
   replace aW := aW.ch Z2
   replace cF := cF.ch Z2
   replace cx := cx.ch Z2
   replace cy := cy.ch Z2
   have Z3 := ((nq.ch.trans lA.ch).trans sM.ch).trans (Owns.dropCh _ _ 12)
   replace aa := aa.ch Z3
   replace ar := ar.ch Z3
   replace ak := ak.ch Z3
   replace aB := aB.ch Z3
   replace au := au.ch Z3
   replace ao := ao.ch Z3
   replace hB := ((((hB.trans d7.fr).trans nq.fr).trans lA.fr).trans sM.fr).trans (Owns.dropFr _ _ 12)
   dsimp only [eS, eZ] at hB hO aa ar ak aB au ao bi aP aN bh aO aW cF cx cy
   refine Go1.loopW (S := Nat × List (List Int)) (fun s σ w => match s with | (k1_50, d_51) => ∃ (n54 : Nat), ∃ (p52 : Option Addr), ∃ (c53 : Nat), ∃ (ri : Hd), agrees σ [(4, .pointer (some ⟨fB, 0, none⟩)), (6, .slice p52 n54 c53), (39, .int .i64 ((List.replicate r7.Enum.Elems.length ([] : List Int)).length : Int)), (40, .int .i64 (k1_50 : Int))] ∧ (fun Z0 => Owns w0.heap.size w Z0 A ∧ Els (Rp.sl (Rp.int .i64)) (bl Z0 ++ A) w et r7.Enum.Gens ∧ Els (Rp.sl (Rp.int .i64)) (bl Z0 ++ A) w dY r7.Enum.Elems ∧ Els (Rp.int .i64) (bl Z0 ++ A) w dJ r7.Enum.Prefix ∧ Els (Rp.int .i64) (bl Z0 ++ A) w eA r7.Enum.Last ∧ Els (Rp.sl (Rp.int .i64)) (bl Z0 ++ A) w d4 r7.Enum.Right ∧ Els (rpRule) (bl Z0 ++ A) w d5 r7.Enum.Rules ∧ Els (Rp.str) (bl Z0 ++ A) w f6 r7.words ∧ Els (Rp.int .i64) (bl Z0 ++ A) w fM r7.behind ∧ Els (Rp.int .i64) (bl Z0 ++ A) w fN r7.single ∧ Fr (bl []) w0 (bl Z0) w) [t2 (Fl.int .i64) 26 3 p52 n54 c53 ri d_51, .blk fB (.cells #[.int .i64 r7.Enum.Points, .bool r7.Enum.Monoid, .slice cr cq ct, .slice bH bG bI, .slice bv bu bw, .slice cv cu cw, .slice bM bK bN, .slice bP bO bQ, .int .i64 r7.Enum.Done, .map (some al), .slice dP dO dQ, .slice dq dp dr, .slice du dt dw] 72 (0, 0)), .row 26 1 cr cq ct et, .row 26 1 bH bG bI dY, .row 3 1 bv bu bw dJ, .row 3 1 cv cu cw eA, .row 26 1 bM bK bN d4, .row 39 2 bP bO bQ d5, .row 9 1 dP dO dQ f6, .row 3 1 dq dp dr fM, .row 3 1 du dt dw fN, .any (mapE (fun a : List UInt8 => Value.string (gstr a)) (fun a : Int => Value.int .i64 a) al r7.number)]) H ⟨r7.Enum.Elems.length, p40, r7.Enum.Elems.length, (fun _ => (none, 0)), ⟨rfl, rfl, rfl, rfl, trivial⟩, hO, bi, aP, aN, bh, aO, aW, cF, cx, cy, hB⟩ ?_
   intro X1
   refine prE fun k1_50 => fun d_51 => ?_
   intro H hX1 σ w49
   refine exE fun n54 => exE fun p52 => exE fun c53 => exE fun ri => andE fun hag => andE fun hO => andE fun bi => andE fun aP => andE fun aN => andE fun bh => andE fun aO => andE fun aW => andE fun cF => andE fun cx => andE fun cy => fun hB => ?_
   dsimp only at H
   refine Go1.keep [(4, .pointer (some ⟨fB, 0, none⟩)), (6, .slice p52 n54 c53), (39, .int .i64 ((List.replicate r7.Enum.Elems.length ([] : List Int)).length : Int)), (40, .int .i64 (k1_50 : Int))] hag ?_
   refine zq (zr ?_)
   by_cases h56 : (k1_50 : Int) < ((List.replicate r7.Enum.Elems.length ([] : List Int)).length : Int)
   ·replace H := ifp h56 H
    refine zo (fun w => opB (op_lss rfl rfl w) (decide_eq_true h56)) (zn (zq (zt rfl rfl (zk (zq ?_)))))
    refine zb (zq (zr (zm rfl (za rfl (zn ?_)))))
    refine zq (zr (zm rfl (zm rfl (zm rfl (zo (op_nilCheck rfl) ?_)))))
    refine zo (op_fieldAddr Try.underlying72 rfl ti29 rfl (by decide)) (zo (op_fieldAddr Try.underlying29 rfl ti22 rfl (by decide)) (zs (oblk (i := 3) 1 hO rfl rfl Try.underlying22 rfl rfl) (zo (op_lenN Try.underlying22 rfl (aP.neq hO 3 rfl)) ?_)))
    obtain ⟨h64, H⟩ := H
    obtain ⟨h65, H⟩ := H
    have hobt := omake (n := (r7.Enum.Elems.length : Int)) (r := Rp.int .i64) (d := (0 : Int)) Try.underlying26 ti3 (fun _ _ => rfl) rfl hO h64 h65 (by decide)
    obtain ⟨w57, p58, abP, mQ, DX, Np, Hs⟩ := hobt
    refine zg (Hs rfl rfl) ?_
    replace hO := mQ.own
    obtain ⟨h67, H⟩ := H
    obtain ⟨h68, H⟩ := H
    refine zo (op_index Try.underlying22 ti26 rfl rfl h67 (ltn (t2neq 1 hO rfl) h68) (t2some 1 hO rfl h67 h68)) ?_
    have ns := Stp.front 1 hO rfl
    dsimp only [eS, eZ] at ns
    replace hO := ns.own
    have wv := Stp.front 1 hO rfl
    dsimp only [eS, eZ] at wv
    replace hO := wv.own
    replace DX := (DX.ch ns.ch).ch wv.ch
    have hobt := t2put (hf := (Fl.int .i64)) hO DX h67 h68
    obtain ⟨w71, yc, R8⟩ := hobt
    refine zg (R8 Try.underlying26 rfl ti26 (by exact rfl) (by exact rfl)) ?_
    replace hO := yc.own
    refine zn (zq (zr (zm rfl (zm rfl ?_))))
    obtain ⟨h74, H⟩ := H
    obtain ⟨h75, H⟩ := H
    refine zo (op_index Try.underlying22 ti26 rfl rfl h74 (ltn (t2neq 0 hO rfl) h75) (t2some 0 hO rfl h74 h75)) (zs (t2head 0 hO rfl h74 h75 Try.underlying26 rfl rfl) (zo (op_len Try.underlying26 rfl) (zm rfl (zn (zb ?_)))))
    have Z4 := ((mQ.ch.trans ns.ch).trans wv.ch).trans yc.ch
    replace bi := bi.ch Z4
    replace aP := aP.ch Z4
    replace aN := aN.ch Z4
    replace bh := bh.ch Z4
    replace aO := aO.ch Z4
    replace aW := aW.ch Z4
    replace cF := cF.ch Z4
    replace cx := cx.ch Z4
    replace cy := cy.ch Z4
    replace hB := (((hB.trans mQ.fr).trans ns.fr).trans wv.fr).trans yc.fr
    refine Go1.loopW (S := Nat × List (List Int)) (fun s σ w => match s with | (k2_77, d_78) => agrees σ [(4, .pointer (some ⟨fB, 0, none⟩)), (6, .slice p52 n54 c53), (7, .int .i64 (k1_50 : Int)), (39, .int .i64 ((List.replicate r7.Enum.Elems.length ([] : List Int)).length : Int)), (40, .int .i64 (k1_50 : Int)), (57, .int .i64 ((ix (st d_51 (k1_50 : Int) (List.replicate r7.Enum.Elems.length ((0 : Int)))) (k1_50 : Int)).length : Int)), (58, .int .i64 (k2_77 : Int))] ∧ (fun Z0 => Owns w0.heap.size w Z0 A ∧ Els (Rp.sl (Rp.int .i64)) (bl Z0 ++ A) w et r7.Enum.Gens ∧ Els (Rp.sl (Rp.int .i64)) (bl Z0 ++ A) w dY r7.Enum.Elems ∧ Els (Rp.int .i64) (bl Z0 ++ A) w dJ r7.Enum.Prefix ∧ Els (Rp.int .i64) (bl Z0 ++ A) w eA r7.Enum.Last ∧ Els (Rp.sl (Rp.int .i64)) (bl Z0 ++ A) w d4 r7.Enum.Right ∧ Els (rpRule) (bl Z0 ++ A) w d5 r7.Enum.Rules ∧ Els (Rp.str) (bl Z0 ++ A) w f6 r7.words ∧ Els (Rp.int .i64) (bl Z0 ++ A) w fM r7.behind ∧ Els (Rp.int .i64) (bl Z0 ++ A) w fN r7.single ∧ Fr (bl []) w0 (bl Z0) w) [t2 (Fl.int .i64) 26 3 p52 n54 c53 (hup ri (k1_50 : Int).toNat (p58, r7.Enum.Elems.length)) d_78, .blk fB (.cells #[.int .i64 r7.Enum.Points, .bool r7.Enum.Monoid, .slice cr cq ct, .slice bH bG bI, .slice bv bu bw, .slice cv cu cw, .slice bM bK bN, .slice bP bO bQ, .int .i64 r7.Enum.Done, .map (some al), .slice dP dO dQ, .slice dq dp dr, .slice du dt dw] 72 (0, 0)), .row 26 1 cr cq ct et, .row 26 1 bH bG bI dY, .row 3 1 bv bu bw dJ, .row 3 1 cv cu cw eA, .row 26 1 bM bK bN d4, .row 39 2 bP bO bQ d5, .row 9 1 dP dO dQ f6, .row 3 1 dq dp dr fM, .row 3 1 du dt dw fN, .any (mapE (fun a : List UInt8 => Value.string (gstr a)) (fun a : Int => Value.int .i64 a) al r7.number)]) H ⟨⟨rfl, rfl, rfl, rfl, rfl, rfl, rfl, trivial⟩, hO, bi, aP, aN, bh, aO, aW, cF, cx, cy, hB⟩ ?_
    intro X2
    refine prE fun k2_77 => fun d_78 => ?_
    intro H hX2 σ w76
    refine andE fun hag => andE fun hO => andE fun bi => andE fun aP => andE fun aN => andE fun bh => andE fun aO => andE fun aW => andE fun cF => andE fun cx => andE fun cy => fun hB => ?_
    dsimp only at H
    refine Go1.keep [(4, .pointer (some ⟨fB, 0, none⟩)), (6, .slice p52 n54 c53), (7, .int .i64 (k1_50 : Int)), (39, .int .i64 ((List.replicate r7.Enum.Elems.length ([] : List Int)).length : Int)), (40, .int .i64 (k1_50 : Int)), (57, .int .i64 ((ix (st d_51 (k1_50 : Int) (List.replicate r7.Enum.Elems.length ((0 : Int)))) (k1_50 : Int)).length : Int)), (58, .int .i64 (k2_77 : Int))] hag ?_
    refine zq (zr ?_)
    by_cases h79 : (k2_77 : Int) < ((ix (st d_51 (k1_50 : Int) (List.replicate r7.Enum.Elems.length ((0 : Int)))) (k1_50 : Int)).length : Int)
    ·replace H := ifp h79 H
     refine zo (fun w => opB (op_lss rfl rfl w) (decide_eq_true h79)) (zn (zq (zt rfl rfl (zk (zq ?_)))))
     refine zb (zq (zr (zm rfl (za rfl (zn ?_)))))
     refine zq ?_
     refine Go1.drawS 0 [(0, .pure), (1, .pure), (2, .pure), (3, .pure), (4, .stable), (5, .pure), (6, .pure), (7, .stable), (8, .pure), (9, .pure), (10, .pure), (11, .pure), (12, .stable), (13, .pure), (14, .pure), (15, .stable), (16, .pure), (17, .pure)] mixed (by kernel_rfl) ?_
     intro w80 Vd
     have oN := Stp.same hO Vd
     replace hO := oN.own
     refine GoQ.pure rfl (op_move rfl) rfl rfl ?_
     refine GoQ.pure rfl (op_nilCheck rfl) rfl rfl ?_
     refine GoQ.pure rfl (op_fieldAddr Try.underlying72 rfl ti29 rfl (by decide)) rfl rfl ?_
     refine GoQ.pure rfl (op_fieldAddr Try.underlying29 rfl ti26 rfl (by decide)) rfl rfl ?_
     refine GoQ.stable rfl (oblk (i := 4) 1 hO rfl rfl Try.underlying26 rfl rfl) rfl rfl ?_
     refine GoQ.pure rfl (op_move rfl) rfl rfl ?_
     obtain ⟨h83, H⟩ := H
     obtain ⟨h84, H⟩ := H
     replace aN := aN.ch oN.ch
     refine GoQ.pure rfl (op_index Try.underlying26 ti3 rfl rfl h83 (ltn (aN.neq hO 4 rfl) h84) (aN.psome hO 4 rfl h83 h84)) rfl rfl ?_
     refine GoQ.stable rfl (oldInt 4 hO rfl aN h83 h84 Try.underlying3 rfl rfl) rfl rfl ?_
     refine GoQ.pure rfl (op_move rfl) rfl rfl ?_
     refine GoQ.pure rfl (op_nilCheck rfl) rfl rfl ?_
     refine GoQ.pure rfl (op_fieldAddr Try.underlying72 rfl ti29 rfl (by decide)) rfl rfl ?_
     refine GoQ.pure rfl (op_fieldAddr Try.underlying29 rfl ti26 rfl (by decide)) rfl rfl ?_
     refine GoQ.stable rfl (oblk (i := 5) 1 hO rfl rfl Try.underlying26 rfl rfl) rfl rfl ?_
     refine GoQ.pure rfl (op_move rfl) rfl rfl ?_
     obtain ⟨h85, H⟩ := H
     obtain ⟨h86, H⟩ := H
     replace bh := bh.ch oN.ch
     refine GoQ.pure rfl (op_index Try.underlying26 ti3 rfl rfl h85 (ltn (bh.neq hO 5 rfl) h86) (bh.psome hO 5 rfl h85 h86)) rfl rfl ?_
     refine GoQ.stable rfl (oldInt 5 hO rfl bh h85 h86 Try.underlying3 rfl rfl) rfl rfl ?_
     refine GoQ.pure rfl (op_assign rfl) rfl rfl ?_
     refine GoQ.pure rfl (op_assign rfl) rfl rfl ?_
     refine GoQ.nil ?_
     refine zb (zq ?_)
     refine Go1.cut [(4, .pointer (some ⟨fB, 0, none⟩)), (6, .slice p52 n54 c53), (7, .int .i64 (k1_50 : Int)), (8, .int .i64 (k2_77 : Int)), (9, .int .i64 (ix r7.Enum.Prefix (k2_77 : Int))), (10, .int .i64 (ix r7.Enum.Last (k2_77 : Int))), (39, .int .i64 ((List.replicate r7.Enum.Elems.length ([] : List Int)).length : Int)), (40, .int .i64 (k1_50 : Int)), (57, .int .i64 ((ix (st d_51 (k1_50 : Int) (List.replicate r7.Enum.Elems.length ((0 : Int)))) (k1_50 : Int)).length : Int)), (58, .int .i64 (k2_77 : Int))] ⟨rfl, rfl, rfl, rfl, rfl, rfl, rfl, rfl, rfl, rfl, trivial⟩ ?_
     intro σ _
     refine zr (zm rfl ?_)
     by_cases h87 : (ix r7.Enum.Last (k2_77 : Int)) < (0 : Int)
     ·replace H := ifp h87 H
      refine zo (fun w => opB (op_lss rfl rfl w) (decide_eq_true h87)) (za rfl (zn (zt rfl rfl (zr (zm rfl ?_)))))
      refine zm rfl ?_
      obtain ⟨h88, H⟩ := H
      obtain ⟨h89, H⟩ := H
      refine zo (op_index Try.underlying22 ti26 rfl rfl h88 (ltn (t2neq 0 hO rfl) h89) (t2some 0 hO rfl h88 h89)) (zs (t2head 0 hO rfl h88 h89 Try.underlying26 rfl rfl) (zm rfl (zm rfl ?_)))
      obtain ⟨h90, H⟩ := H
      obtain ⟨h91, H⟩ := H
      refine zo (op_index Try.underlying26 ti3 rfl rfl h90 h91 (t2isome 0 hO rfl h88 h89 h90 h91)) ?_
      have hobt := t2st (r := Rp.int .i64) (hf := (Fl.int .i64)) rfl 0 hO rfl h88 h89 h90 h91 (v := .int .i64 (k1_50 : Int)) (u := (k1_50 : Int)) rfl rfl
      obtain ⟨w92, xv, R9⟩ := hobt
      dsimp only [sS, sZ] at xv
      refine zg (R9 Try.underlying3 rfl ti3 (by exact rfl) (by exact rfl)) ?_
      replace hO := xv.own
      refine zn ?_
      refine Go1.inBlock ?_
      refine Go1.inBlock ?_
      refine zr ?_
      obtain ⟨h95, H⟩ := H
      refine zo (op_add rfl rfl (wrap_i64 h95)) (zm rfl (zn ?_))
      replace aN := aN.ch xv.ch
      replace bh := bh.ch xv.ch
      have Z5 := oN.ch.trans xv.ch
      replace bi := bi.ch Z5
      replace aP := aP.ch Z5
      replace aO := aO.ch Z5
      replace aW := aW.ch Z5
      replace cF := cF.ch Z5
      replace cx := cx.ch Z5
      replace cy := cy.ch Z5
      replace hB := (hB.trans oN.fr).trans xv.fr
      exact hX2 _ H _ _ ⟨⟨rfl, rfl, rfl, rfl, rfl, rfl, rfl, trivial⟩, hO, bi, aP, aN, bh, aO, aW, cF, cx, cy, hB⟩
     replace H := ifn h87 H
     refine zo (fun w => opB (op_lss rfl rfl w) (decide_eq_false h87)) (za rfl (zn (zf rfl rfl (zq (zr ?_)))))
     refine zm rfl ?_
     by_cases h96 : (ix r7.Enum.Prefix (k2_77 : Int)) < (0 : Int)
     ·replace H := ifp h96 H
      refine zo (fun w => opB (op_lss rfl rfl w) (decide_eq_true h96)) (za rfl (zn (zt rfl rfl ?_)))
      refine Go1.drawS 1 [(0, .pure), (1, .pure), (2, .pure), (3, .stable), (4, .pure), (5, .pure), (6, .pure), (7, .pure), (8, .pure), (9, .stable), (10, .pure), (11, .pure), (12, .stable), (13, .pure), (14, .pure), (15, .stable), (16, .pure), (17, .last)] mixed (by kernel_rfl) ?_
      intro w97 I3
      have iL := Stp.same hO I3
      replace hO := iL.own
      refine GoQ.pure rfl (op_move rfl) rfl rfl ?_
      refine GoQ.pure rfl (op_move rfl) rfl rfl ?_
      obtain ⟨xL, H⟩ := H
      obtain ⟨tW, H⟩ := H
      refine GoQ.pure rfl (op_index Try.underlying22 ti26 rfl rfl xL (ltn (t2neq 0 hO rfl) tW) (t2some 0 hO rfl xL tW)) rfl rfl ?_
      refine GoQ.stable rfl (t2head 0 hO rfl xL tW Try.underlying26 rfl rfl) rfl rfl ?_
      refine GoQ.pure rfl (op_move rfl) rfl rfl ?_
      refine GoQ.pure rfl (op_move rfl) rfl rfl ?_
      refine GoQ.pure rfl (op_nilCheck rfl) rfl rfl ?_
      refine GoQ.pure rfl (op_fieldAddr Try.underlying72 rfl ti29 rfl (by decide)) rfl rfl ?_
      refine GoQ.pure rfl (op_fieldAddr Try.underlying29 rfl ti22 rfl (by decide)) rfl rfl ?_
      refine GoQ.stable rfl (oblk (i := 6) 1 hO rfl rfl Try.underlying22 rfl rfl) rfl rfl ?_
      refine GoQ.pure rfl (op_move rfl) rfl rfl ?_
      obtain ⟨yh, H⟩ := H
      obtain ⟨CR, H⟩ := H
      replace aO := (aO.ch oN.ch).ch iL.ch
      refine GoQ.pure rfl (op_index Try.underlying22 ti26 rfl rfl yh (ltn (aO.neq hO 6 rfl) CR) (aO.psome hO 6 rfl yh CR)) rfl rfl ?_
      have hobt := oldSl 6 hO rfl aO yh CR
      obtain ⟨abQ, abR, sx, Sa⟩ := hobt
      refine GoQ.stable rfl (Sa Try.underlying26 rfl rfl) rfl rfl ?_
      refine GoQ.pure rfl (op_move rfl) rfl rfl ?_
      obtain ⟨zX, H⟩ := H
      obtain ⟨CJ, H⟩ := H
      refine GoQ.pure rfl (op_index Try.underlying26 ti3 rfl rfl zX CJ (sx.some_ zX CJ)) rfl rfl ?_
      refine GoQ.stable rfl (ldInt sx zX CJ Try.underlying3 rfl rfl) rfl rfl ?_
      obtain ⟨DG, H⟩ := H
      obtain ⟨DH, H⟩ := H
      refine GoQ.pure rfl (op_index Try.underlying26 ti3 rfl rfl DG DH (t2isome 0 hO rfl xL tW DG DH)) rfl rfl ?_
      have hobt := t2st (r := Rp.int .i64) (hf := (Fl.int .i64)) rfl 0 hO rfl xL tW DG DH (v := .int .i64 (ix (ix r7.Enum.Right (k1_50 : Int)) (ix r7.Enum.Last (k2_77 : Int)))) (u := (ix (ix r7.Enum.Right (k1_50 : Int)) (ix r7.Enum.Last (k2_77 : Int)))) rfl rfl
      obtain ⟨abS, tV, Nq⟩ := hobt
      dsimp only [sS, sZ] at tV
      refine GoQ.last rfl (Nq Try.underlying3 rfl ti3 (by exact rfl) (by exact rfl)) rfl rfl ?_
      replace hO := tV.own
      refine GoQ.nil ?_
      refine Go1.inBlock ?_
      refine Go1.inBlock ?_
      refine Go1.cut [(4, .pointer (some ⟨fB, 0, none⟩)), (6, .slice p52 n54 c53), (7, .int .i64 (k1_50 : Int)), (39, .int .i64 ((List.replicate r7.Enum.Elems.length ([] : List Int)).length : Int)), (40, .int .i64 (k1_50 : Int)), (57, .int .i64 ((ix (st d_51 (k1_50 : Int) (List.replicate r7.Enum.Elems.length ((0 : Int)))) (k1_50 : Int)).length : Int)), (58, .int .i64 (k2_77 : Int))] ⟨rfl, rfl, rfl, rfl, rfl, rfl, rfl, trivial⟩ ?_
      intro σ _
      refine zr ?_
      obtain ⟨AP, H⟩ := H
      refine zo (op_add rfl rfl (wrap_i64 AP)) (zm rfl (zn ?_))
      replace aO := aO.ch tV.ch
      have Z6 := iL.ch.trans tV.ch
      replace aN := aN.ch Z6
      replace bh := bh.ch Z6
      have Z7 := (oN.ch.trans iL.ch).trans tV.ch
      replace bi := bi.ch Z7
      replace aP := aP.ch Z7
      replace aW := aW.ch Z7
      replace cF := cF.ch Z7
      replace cx := cx.ch Z7
      replace cy := cy.ch Z7
      replace hB := ((hB.trans oN.fr).trans iL.fr).trans tV.fr
      exact hX2 _ H _ _ ⟨⟨rfl, rfl, rfl, rfl, rfl, rfl, rfl, trivial⟩, hO, bi, aP, aN, bh, aO, aW, cF, cx, cy, hB⟩
     replace H := ifn h96 H
     refine zo (fun w => opB (op_lss rfl rfl w) (decide_eq_false h96)) (za rfl (zn (zf rfl rfl ?_)))
     refine Go1.drawS 1 [(0, .pure), (1, .pure), (2, .pure), (3, .stable), (4, .pure), (5, .pure), (6, .pure), (7, .pure), (8, .pure), (9, .stable), (10, .pure), (11, .pure), (12, .pure), (13, .stable), (14, .pure), (15, .pure), (16, .stable), (17, .pure), (18, .stable), (19, .pure), (20, .pure), (21, .stable), (22, .pure), (23, .last)] mixed (by kernel_rfl) ?_
     intro Uc G4
     have kS := Stp.same hO G4
     replace hO := kS.own
     refine GoQ.pure rfl (op_move rfl) rfl rfl ?_
     refine GoQ.pure rfl (op_move rfl) rfl rfl ?_
     obtain ⟨FO, H⟩ := H
     obtain ⟨FP, H⟩ := H
     refine GoQ.pure rfl (op_index Try.underlying22 ti26 rfl rfl FO (ltn (t2neq 0 hO rfl) FP) (t2some 0 hO rfl FO FP)) rfl rfl ?_
     refine GoQ.stable rfl (t2head 0 hO rfl FO FP Try.underlying26 rfl rfl) rfl rfl ?_
     refine GoQ.pure rfl (op_move rfl) rfl rfl ?_
     refine GoQ.pure rfl (op_move rfl) rfl rfl ?_
     refine GoQ.pure rfl (op_nilCheck rfl) rfl rfl ?_
     refine GoQ.pure rfl (op_fieldAddr Try.underlying72 rfl ti29 rfl (by decide)) rfl rfl ?_
     refine GoQ.pure rfl (op_fieldAddr Try.underlying29 rfl ti22 rfl (by decide)) rfl rfl ?_
     refine GoQ.stable rfl (oblk (i := 6) 1 hO rfl rfl Try.underlying22 rfl rfl) rfl rfl ?_
     refine GoQ.pure rfl (op_move rfl) rfl rfl ?_
     refine GoQ.pure rfl (op_move rfl) rfl rfl ?_
     obtain ⟨AX, H⟩ := H
     obtain ⟨FQ, H⟩ := H
     refine GoQ.pure rfl (op_index Try.underlying22 ti26 rfl rfl AX (ltn (t2neq 0 hO rfl) FQ) (t2some 0 hO rfl AX FQ)) rfl rfl ?_
     refine GoQ.stable rfl (t2head 0 hO rfl AX FQ Try.underlying26 rfl rfl) rfl rfl ?_
     refine GoQ.pure rfl (op_move rfl) rfl rfl ?_
     obtain ⟨Br, H⟩ := H
     obtain ⟨Bs, H⟩ := H
     refine GoQ.pure rfl (op_index Try.underlying26 ti3 rfl rfl Br Bs (t2isome 0 hO rfl AX FQ Br Bs)) rfl rfl ?_
     refine GoQ.stable rfl (t2Int 0 hO rfl AX FQ Br Bs Try.underlying3 rfl rfl) rfl rfl ?_
     obtain ⟨Bt, H⟩ := H
     obtain ⟨xD, H⟩ := H
     replace aO := (aO.ch oN.ch).ch kS.ch
     refine GoQ.pure rfl (op_index Try.underlying22 ti26 rfl rfl Bt (ltn (aO.neq hO 6 rfl) xD) (aO.psome hO 6 rfl Bt xD)) rfl rfl ?_
     have hobt := oldSl 6 hO rfl aO Bt xD
     obtain ⟨abT, abU, Fc, Sb⟩ := hobt
     refine GoQ.stable rfl (Sb Try.underlying26 rfl rfl) rfl rfl ?_
     refine GoQ.pure rfl (op_move rfl) rfl rfl ?_
     obtain ⟨I4, H⟩ := H
     obtain ⟨I5, H⟩ := H
     refine GoQ.pure rfl (op_index Try.underlying26 ti3 rfl rfl I4 I5 (Fc.some_ I4 I5)) rfl rfl ?_
     refine GoQ.stable rfl (ldInt Fc I4 I5 Try.underlying3 rfl rfl) rfl rfl ?_
     obtain ⟨I6, H⟩ := H
     obtain ⟨I7, H⟩ := H
     refine GoQ.pure rfl (op_index Try.underlying26 ti3 rfl rfl I6 I7 (t2isome 0 hO rfl FO FP I6 I7)) rfl rfl ?_
     have hobt := t2st (r := Rp.int .i64) (hf := (Fl.int .i64)) rfl 0 hO rfl FO FP I6 I7 (v := .int .i64 (ix (ix r7.Enum.Right (ix (ix d_78 (k1_50 : Int)) (ix r7.Enum.Prefix (k2_77 : Int)))) (ix r7.Enum.Last (k2_77 : Int)))) (u := (ix (ix r7.Enum.Right (ix (ix d_78 (k1_50 : Int)) (ix r7.Enum.Prefix (k2_77 : Int)))) (ix r7.Enum.Last (k2_77 : Int)))) rfl rfl
     obtain ⟨abV, iW, Nr⟩ := hobt
     dsimp only [sS, sZ] at iW
     refine GoQ.last rfl (Nr Try.underlying3 rfl ti3 (by exact rfl) (by exact rfl)) rfl rfl ?_
     replace hO := iW.own
     refine GoQ.nil ?_
     refine Go1.inBlock ?_
     refine Go1.inBlock ?_
     refine Go1.cut [(4, .pointer (some ⟨fB, 0, none⟩)), (6, .slice p52 n54 c53), (7, .int .i64 (k1_50 : Int)), (39, .int .i64 ((List.replicate r7.Enum.Elems.length ([] : List Int)).length : Int)), (40, .int .i64 (k1_50 : Int)), (57, .int .i64 ((ix (st d_51 (k1_50 : Int) (List.replicate r7.Enum.Elems.length ((0 : Int)))) (k1_50 : Int)).length : Int)), (58, .int .i64 (k2_77 : Int))] ⟨rfl, rfl, rfl, rfl, rfl, rfl, rfl, trivial⟩ ?_
     intro σ _
     refine zr ?_
     obtain ⟨Fe, H⟩ := H
     refine zo (op_add rfl rfl (wrap_i64 Fe)) (zm rfl (zn ?_))
     replace aO := aO.ch iW.ch
     have Z8 := kS.ch.trans iW.ch
     replace aN := aN.ch Z8
     replace bh := bh.ch Z8
     have Z9 := (oN.ch.trans kS.ch).trans iW.ch
     replace bi := bi.ch Z9
     replace aP := aP.ch Z9
     replace aW := aW.ch Z9
     replace cF := cF.ch Z9
     replace cx := cx.ch Z9
     replace cy := cy.ch Z9
     replace hB := ((hB.trans oN.fr).trans kS.fr).trans iW.fr
     exact hX2 _ H _ _ ⟨⟨rfl, rfl, rfl, rfl, rfl, rfl, rfl, trivial⟩, hO, bi, aP, aN, bh, aO, aW, cF, cx, cy, hB⟩
    replace H := ifn h79 H
    refine zo (fun w => opB (op_lss rfl rfl w) (decide_eq_false h79)) (zn (zq (zf rfl rfl ?_)))
    refine Go1.exit rfl ?_
    refine Go1.inBlock ?_
    refine zr ?_
    obtain ⟨Ve, H⟩ := H
    refine zo (op_add rfl rfl (wrap_i64 Ve)) (zm rfl (zn ?_))
    exact hX1 _ H _ _ ⟨n54, p52, c53, hup ri (k1_50 : Int).toNat (p58, r7.Enum.Elems.length), ⟨rfl, rfl, rfl, rfl, trivial⟩, hO, bi, aP, aN, bh, aO, aW, cF, cx, cy, hB⟩
   replace H := ifn h56 H
   refine zo (fun w => opB (op_lss rfl rfl w) (decide_eq_false h56)) (zn (zq (zf rfl rfl ?_)))
   refine Go1.exit rfl ?_
   refine zq (zr (zm rfl (za rfl (za rfl (zn ?_)))))
   have hobt := t2freezeA 0 hO rfl
   obtain ⟨hO1, yP, JL, G5⟩ := hobt
   dsimp only [eS, eZ] at hO1 yP JL
   replace hB := hB.trans (Owns.dropFr _ _ 0)
   dsimp only [eS, eZ] at hB
   replace hO := hO1; clear hO1
   refine Go1.ret2 Try.func44 rfl ?_
   exact ⟨d_51, (0 : Int), p52, c53, (congrArg (fun l => Value.tuple (List.toArray l)) (cons_eq (congrArg (fun nn => Value.slice p52 nn c53) G5) (cons_eq rfl rfl))), hB.same, (JL.ch (Ch.weak _ _ _)), H⟩
  replace H := ifn h37 H
  refine GoQ.pure rfl (fun w => opB (op_eql rfl rfl w) (decide_eq_false h37)) rfl rfl ?_
  refine GoQ.pure rfl (op_assign rfl) rfl rfl ?_
  refine GoQ.nil ?_
  refine Go1.ret1V Try.func50 rfl (show _ = .bool false from rfl) ?_
  refine hR33 _ _ ?_
  refine zo (op_not rfl) (za rfl (zn (zt rfl rfl (zq (zr ?_)))))
  refine za rfl (za rfl (zn ?_))
  refine Go1.ret2 Try.func44 rfl ?_
  replace hB := ((hB.trans d7.fr).trans nq.fr).trans lA.fr
  exact ⟨([] : List (List Int)), (7 : Int), none, 0, rfl, hB.same, (ISl.null _ _ _), H⟩
theorem body46 : Body Try.prog 46 := ⟨Try.f46, Try.func46, rfl, by kernel_rfl⟩
theorem walk_ref12_Left {A : List Nat} {w0 : World} {aD : Option Addr} {aE : Nat} {av : Option Addr} {aw : Nat} {ap : Option Addr} {aq : Nat} {aF : Option Addr} {aG : Nat} {ax : Option Addr} {ay : Nat} {az : Option Addr} {aA : Nat} {e : Enum} (hA : ∀ b ∈ A, b < w0.heap.size) (ai : ISl (Rp.sl (Rp.int .i64)) A w0 aD aE e.Gens) (af : ISl (Rp.sl (Rp.int .i64)) A w0 av aw e.Elems) (ad : ISl (Rp.int .i64) A w0 ap aq e.Prefix) (aj : ISl (Rp.int .i64) A w0 aF aG e.Last) (ag : ISl (Rp.sl (Rp.int .i64)) A w0 ax ay e.Right) (ah : ISl (rpRule) A w0 az aA e.Rules) {K : List (List Int) → Prop} (H : ref12_Left e K) :
    CallsV Try.prog 46 #[.agg #[.int .i64 e.Points, .bool e.Monoid, .slice aD e.Gens.length aE, .slice av e.Elems.length aw, .slice ap e.Prefix.length aq, .slice aF e.Last.length aG, .slice ax e.Right.length ay, .slice az e.Rules.length aA, .int .i64 e.Done]] w0 (fun v w' => ∃ (r0 : List (List Int)), ∃ (nt : Option Addr), ∃ (nu : Nat), v = .slice nt r0.length nu ∧ Same w0 w' ∧ ISl (Rp.sl (Rp.int .i64)) A w' nt nu r0 ∧ K r0) := by
 refine CallsV.of (l := [.agg #[.int .i64 e.Points, .bool e.Monoid, .slice aD e.Gens.length aE, .slice av e.Elems.length aw, .slice ap e.Prefix.length aq, .slice aF e.Last.length aG, .slice ax e.Right.length ay, .slice az e.Rules.length aA, .int .i64 e.Done]]) Try.func46 rfl Try.ntmps46 rfl ?_
 have hO := Owns.start hA
 have hB := Fr.refl (bl []) w0
 unfold ref12_Left at H
 refine zq (zr ?_)
 have hobt := obox (t := 29) (v := .agg #[.int .i64 e.Points, .bool e.Monoid, .slice aD e.Gens.length aE, .slice av e.Elems.length aw, .slice ap e.Prefix.length aq, .slice aF e.Last.length aG, .slice ax e.Right.length ay, .slice az e.Rules.length aA, .int .i64 e.Done]) (cs := #[.int .i64 e.Points, .bool e.Monoid, .slice aD e.Gens.length aE, .slice av e.Elems.length aw, .slice ap e.Prefix.length aq, .slice aF e.Last.length aG, .slice ax e.Right.length ay, .slice az e.Rules.length aA, .int .i64 e.Done]) hO rfl
 obtain ⟨w1, B2, d7, hs4, qE⟩ := hobt
 refine zg (qE rfl) ?_
 replace hO := d7.own
 refine za rfl (zn (zq (zr (za rfl (zn ?_)))))
 refine zq (zq (zr (zo (op_fieldAddr Try.underlying29 rfl ti22 rfl (by decide)) (zs (oblk (i := 3) 0 hO rfl rfl Try.underlying22 rfl rfl) (zo (op_len Try.underlying22 rfl) ?_)))))
 replace af := (af.ch (Ch.start A w0)).ch d7.ch
 replace H := H af.bd
 refine zm rfl (zn (zb ?_))
 have sO := Stp.nil (e := 26) (r := 1) hO
 replace hO := sO.own
 have hE9 := Els.nil (Rp.sl (Rp.int .i64)) (bl (.row 26 1 none 0 0 [] :: [.blk B2 (.cells #[.int .i64 e.Points, .bool e.Monoid, .slice aD e.Gens.length aE, .slice av e.Elems.length aw, .slice ap e.Prefix.length aq, .slice aF e.Last.length aG, .slice ax e.Right.length ay, .slice az e.Rules.length aA, .int .i64 e.Done] 29 (0, 0))]) ++ A) w1
 replace af := af.ch sO.ch
 replace hB := (hB.trans d7.fr).trans sO.fr
 have Z1 := ((Ch.start A w0).trans d7.ch).trans sO.ch
 replace ai := ai.ch Z1
 replace ad := ad.ch Z1
 replace aj := aj.ch Z1
 replace ag := ag.ch Z1
 replace ah := ah.ch Z1
 refine Go1.loopW (S := Nat × List (List Int)) (fun s σ w => match s with | (k1_11, out1_12) => ∃ (n17 : Nat), ∃ (p15 : Option Addr), ∃ (c16 : Nat), ∃ (g8 : List Value), agrees σ [(1, .pointer (some ⟨B2, 0, none⟩)), (3, .slice p15 n17 c16), (10, .slice av e.Elems.length aw), (11, .int .i64 (e.Elems.length : Int)), (12, .int .i64 (k1_11 : Int))] ∧ (fun Z0 => Owns w0.heap.size w Z0 A ∧ Els (Rp.sl (Rp.int .i64)) (bl Z0 ++ A) w g8 out1_12 ∧ ISl (Rp.sl (Rp.int .i64)) (bl Z0 ++ A) w aD aE e.Gens ∧ ISl (Rp.sl (Rp.int .i64)) (bl Z0 ++ A) w av aw e.Elems ∧ ISl (Rp.int .i64) (bl Z0 ++ A) w ap aq e.Prefix ∧ ISl (Rp.int .i64) (bl Z0 ++ A) w aF aG e.Last ∧ ISl (Rp.sl (Rp.int .i64)) (bl Z0 ++ A) w ax ay e.Right ∧ ISl (rpRule) (bl Z0 ++ A) w az aA e.Rules ∧ Fr (bl []) w0 (bl Z0) w) [.row 26 1 p15 n17 c16 g8, .blk B2 (.cells #[.int .i64 e.Points, .bool e.Monoid, .slice aD e.Gens.length aE, .slice av e.Elems.length aw, .slice ap e.Prefix.length aq, .slice aF e.Last.length aG, .slice ax e.Right.length ay, .slice az e.Rules.length aA, .int .i64 e.Done] 29 (0, 0))]) H ⟨0, none, 0, [], ⟨rfl, rfl, rfl, rfl, rfl, trivial⟩, hO, hE9, ai, af, ad, aj, ag, ah, hB⟩ ?_
 intro X1
 refine prE fun k1_11 => fun out1_12 => ?_
 intro H hX1 σ w10
 refine exE fun n17 => exE fun p15 => exE fun c16 => exE fun g8 => andE fun hag => andE fun hO => andE fun iB => andE fun ai => andE fun af => andE fun ad => andE fun aj => andE fun ag => andE fun ah => fun hB => ?_
 dsimp only at H
 refine Go1.keep [(1, .pointer (some ⟨B2, 0, none⟩)), (3, .slice p15 n17 c16), (10, .slice av e.Elems.length aw), (11, .int .i64 (e.Elems.length : Int)), (12, .int .i64 (k1_11 : Int))] hag ?_
 refine zq (zr ?_)
 by_cases h18 : (k1_11 : Int) < (e.Elems.length : Int)
 ·replace H := ifp h18 H
  refine zo (fun w => opB (op_lss rfl rfl w) (decide_eq_true h18)) (zn (zq (zt rfl rfl (zk (zq ?_)))))
  refine zb (zq (zr ?_))
  obtain ⟨h19, H⟩ := H
  obtain ⟨h20, H⟩ := H
  refine zo (op_index Try.underlying22 ti26 rfl rfl h19 h20 (af.some_ h19 h20)) ?_
  have hobt := ldSl af h19 h20
  obtain ⟨p21, c22, qv, Vf⟩ := hobt
  refine zs (Vf Try.underlying26 rfl rfl) (za rfl (zn (zq (zr (za rfl ?_)))))
  refine zn (zq (zq (zr (zo (op_fieldAddr Try.underlying29 rfl ti22 rfl (by decide)) (zs (oblk (i := 2) 1 hO rfl rfl Try.underlying22 rfl rfl) ?_)))))
  refine zo (op_len Try.underlying22 rfl) ?_
  replace H := H ai.bd
  refine zm rfl (zn (zb ?_))
  have nk := Stp.nil (e := 3) (r := 1) hO
  replace hO := nk.own
  have Vg := Els.nil (Rp.int .i64) (bl (.row 3 1 none 0 0 [] :: [.row 26 1 p15 n17 c16 g8, .blk B2 (.cells #[.int .i64 e.Points, .bool e.Monoid, .slice aD e.Gens.length aE, .slice av e.Elems.length aw, .slice ap e.Prefix.length aq, .slice aF e.Last.length aG, .slice ax e.Right.length ay, .slice az e.Rules.length aA, .int .i64 e.Done] 29 (0, 0))]) ++ A) w10
  replace iB := iB.ch nk.ch
  replace ai := ai.ch nk.ch
  replace af := af.ch nk.ch
  replace ad := ad.ch nk.ch
  replace aj := aj.ch nk.ch
  replace ag := ag.ch nk.ch
  replace ah := ah.ch nk.ch
  replace qv := qv.ch nk.ch
  replace hB := hB.trans nk.fr
  refine Go1.loopW (S := Nat × List Int) (fun s σ w => match s with | (k2_29, row2_30) => ∃ (n35 : Nat), ∃ (p33 : Option Addr), ∃ (c34 : Nat), ∃ (ym : List Value), agrees σ [(1, .pointer (some ⟨B2, 0, none⟩)), (3, .slice p15 n17 c16), (5, .slice p21 ((ix e.Elems (k1_11 : Int)).length) c22), (6, .slice p33 n35 c34), (10, .slice av e.Elems.length aw), (11, .int .i64 (e.Elems.length : Int)), (12, .int .i64 (k1_11 : Int)), (17, .slice aD e.Gens.length aE), (18, .int .i64 (e.Gens.length : Int)), (19, .int .i64 (k2_29 : Int))] ∧ (fun Z0 => Owns w0.heap.size w Z0 A ∧ Els (Rp.int .i64) (bl Z0 ++ A) w ym row2_30 ∧ Els (Rp.sl (Rp.int .i64)) (bl Z0 ++ A) w g8 out1_12 ∧ ISl (Rp.sl (Rp.int .i64)) (bl Z0 ++ A) w aD aE e.Gens ∧ ISl (Rp.sl (Rp.int .i64)) (bl Z0 ++ A) w av aw e.Elems ∧ ISl (Rp.int .i64) (bl Z0 ++ A) w ap aq e.Prefix ∧ ISl (Rp.int .i64) (bl Z0 ++ A) w aF aG e.Last ∧ ISl (Rp.sl (Rp.int .i64)) (bl Z0 ++ A) w ax ay e.Right ∧ ISl (rpRule) (bl Z0 ++ A) w az aA e.Rules ∧ ISl (Rp.int .i64) (bl Z0 ++ A) w p21 c22 (ix e.Elems (k1_11 : Int)) ∧ Fr (bl []) w0 (bl Z0) w) [.row 3 1 p33 n35 c34 ym, .row 26 1 p15 n17 c16 g8, .blk B2 (.cells #[.int .i64 e.Points, .bool e.Monoid, .slice aD e.Gens.length aE, .slice av e.Elems.length aw, .slice ap e.Prefix.length aq, .slice aF e.Last.length aG, .slice ax e.Right.length ay, .slice az e.Rules.length aA, .int .i64 e.Done] 29 (0, 0))]) H ⟨0, none, 0, [], ⟨rfl, rfl, rfl, rfl, rfl, rfl, rfl, rfl, rfl, rfl, trivial⟩, hO, Vg, iB, ai, af, ad, aj, ag, ah, qv, hB⟩ ?_
  intro X2
  refine prE fun k2_29 => fun row2_30 => ?_
  intro H hX2 σ w28
  refine exE fun n35 => exE fun p33 => exE fun c34 => exE fun ym => andE fun hag => andE fun hO => andE fun zw => andE fun iB => andE fun ai => andE fun af => andE fun ad => andE fun aj => andE fun ag => andE fun ah => andE fun qv => fun hB => ?_
  dsimp only at H
  refine Go1.keep [(1, .pointer (some ⟨B2, 0, none⟩)), (3, .slice p15 n17 c16), (5, .slice p21 ((ix e.Elems (k1_11 : Int)).length) c22), (6, .slice p33 n35 c34), (10, .slice av e.Elems.length aw), (11, .int .i64 (e.Elems.length : Int)), (12, .int .i64 (k1_11 : Int)), (17, .slice aD e.Gens.length aE), (18, .int .i64 (e.Gens.length : Int)), (19, .int .i64 (k2_29 : Int))] hag ?_
  refine zq (zr ?_)
  by_cases h36 : (k2_29 : Int) < (e.Gens.length : Int)
  ·replace H := ifp h36 H
   refine zo (fun w => opB (op_lss rfl rfl w) (decide_eq_true h36)) (zn (zq (zt rfl rfl (zk (zq ?_)))))
   refine zb (zq (zr ?_))
   obtain ⟨h37, H⟩ := H
   obtain ⟨h38, H⟩ := H
   refine zo (op_index Try.underlying22 ti26 rfl rfl h37 h38 (ai.some_ h37 h38)) ?_
   have hobt := ldSl ai h37 h38
   obtain ⟨p39, c40, xw, Vh⟩ := hobt
   refine zs (Vh Try.underlying26 rfl rfl) (za rfl (zn ?_))
   refine Go1.drawS 2 [(0, .pure), (1, .pure), (2, .stable), (3, .pure), (4, .pure), (5, .loud), (6, .loud), (7, .loud), (8, .last), (9, .pure)] mixed (by kernel_rfl) ?_
   intro w43 Hr
   have nr := Stp.same hO Hr
   replace hO := nr.own
   refine GoQ.pure rfl (op_move rfl) rfl rfl ?_
   refine GoQ.pure rfl (op_fieldAddr Try.underlying29 rfl ti22 rfl (by decide)) rfl rfl ?_
   refine GoQ.stable rfl (oblk (i := 3) 2 hO rfl rfl Try.underlying22 rfl rfl) rfl rfl ?_
   refine GoQ.pure rfl (op_move rfl) rfl rfl ?_
   refine GoQ.pure rfl (op_move rfl) rfl rfl ?_
   replace qv := qv.ch nr.ch
   replace xw := xw.ch nr.ch
   refine GoQ.call rfl (op_call body43 rfl (walk_ref11_Compose hO.lt xw qv H)) (fun v w hr => by obtain ⟨_, _, _, _, hs, _, _⟩ := hr; assumption) rfl rfl ?_
   rintro v50 w47 ⟨r46, WC, WD, rfl, HJ, zR, H⟩
   have rT := Stp.same hO HJ
   replace hO := rT.own
   replace af := (af.ch nr.ch).ch rT.ch
   refine GoQ.call rfl (op_call body41 rfl (walk_ref12_Find hO.lt af zR H)) (fun v w hr => by obtain ⟨_, _, hs, _⟩ := hr; assumption) rfl rfl ?_
   rintro v56 w53 ⟨r52, rfl, Vi, H⟩
   have ww := Stp.same hO Vi
   replace hO := ww.own
   have hobt := obuild (r := Rp.int .i64) (n := 1) (parts := [(0, .int .i64 r52)]) (vs := [.int .i64 r52]) (xs := [r52]) rfl Try.underlying26 ti3 hO (by decide) (by kernel_rfl) (Els.cons rfl rfl (Els.nil _ _ _) (by simp [mx])) rfl
   obtain ⟨w58, p59, mQ, DX, Np, Hs⟩ := hobt
   refine GoQ.loud rfl (Hs rfl) Np rfl rfl ?_
   replace hO := mQ.own
   have hobt := freeze 0 hO rfl DX
   obtain ⟨hO1, Ag, I8, Vj⟩ := hobt
   replace hO := hO1; clear hO1
   obtain ⟨h68, H⟩ := H
   have Z2 := (((nr.ch.trans rT.ch).trans ww.ch).trans mQ.ch).trans Ag
   replace zw := zw.ch Z2
   have hobt := oapp Try.underlying26 ti3 rfl 0 hO rfl zw I8 Vj h68 (by decide)
   obtain ⟨w69, p70, c71, Vk, wx, Vl, Sc⟩ := hobt
   refine GoQ.last rfl (Sc (by exact rfl) (by exact rfl)) rfl rfl ?_
   replace hO := wx.own
   refine GoQ.pure rfl (op_assign rfl) rfl rfl ?_
   refine GoQ.nil ?_
   refine Go1.inBlock ?_
   refine zr ?_
   replace ai := (ai.ch Z2).ch wx.ch
   refine zo (op_add rfl rfl (wrap_i64 (natbd h36 ai.bd))) (zm rfl (zn ?_))
   have Z3 := ((ww.ch.trans mQ.ch).trans Ag).trans wx.ch
   replace af := af.ch Z3
   have Z4 := (((rT.ch.trans ww.ch).trans mQ.ch).trans Ag).trans wx.ch
   replace qv := qv.ch Z4
   have Z5 := Z2.trans wx.ch
   replace iB := iB.ch Z5
   replace ad := ad.ch Z5
   replace aj := aj.ch Z5
   replace ag := ag.ch Z5
   replace ah := ah.ch Z5
   replace hB := (((((hB.trans nr.fr).trans rT.fr).trans ww.fr).trans mQ.fr).trans (Owns.dropFr _ _ 0)).trans wx.fr
   exact hX2 _ H _ _ ⟨n35 + 1, p70, c71, Vk, ⟨rfl, rfl, rfl, rfl, rfl, rfl, rfl, rfl, rfl, rfl, trivial⟩, hO, Vl, iB, ai, af, ad, aj, ag, ah, qv, hB⟩
  replace H := ifn h36 H
  refine zo (fun w => opB (op_lss rfl rfl w) (decide_eq_false h36)) (zn (zq (zf rfl rfl ?_)))
  refine Go1.exit rfl ?_
  refine zr (zm rfl (zm rfl ?_))
  have hobt := freeze 0 hO rfl zw
  obtain ⟨hO1, CT, DY, Vm⟩ := hobt
  replace hO := hO1; clear hO1
  have hobt := obuild (r := Rp.sl (Rp.int .i64)) (n := 1) (parts := [(0, .slice p33 n35 c34)]) (vs := [.slice p33 n35 c34]) (xs := [row2_30]) rfl Try.underlying22 ti26 hO (by decide) (by kernel_rfl) (Els.cons rfl ⟨p33, c34, congrArg some (congrArg (fun nn => Value.slice p33 nn c34) Vm), DY⟩ (Els.nil _ _ _) (by simp [mx])) rfl
  obtain ⟨w80, p81, oN, cR, abW, Sd⟩ := hobt
  refine zg (Sd rfl) ?_
  replace hO := oN.own
  have hobt := freeze 0 hO rfl cR
  obtain ⟨hO1, Cn, I9, Vn⟩ := hobt
  replace hO := hO1; clear hO1
  obtain ⟨h90, H⟩ := H
  have Z6 := (CT.trans oN.ch).trans Cn
  replace iB := iB.ch Z6
  have hobt := oapp Try.underlying22 ti26 rfl 0 hO rfl iB I9 Vn h90 (by decide)
  obtain ⟨w91, p92, c93, vn, rU, z3, Se⟩ := hobt
  refine zg (Se (by exact rfl) (by exact rfl)) ?_
  replace hO := rU.own
  refine za rfl (zn ?_)
  refine Go1.inBlock ?_
  refine Go1.cut [(1, .pointer (some ⟨B2, 0, none⟩)), (3, .slice p92 (n17 + 1) c93), (10, .slice av e.Elems.length aw), (11, .int .i64 (e.Elems.length : Int)), (12, .int .i64 (k1_11 : Int))] ⟨rfl, rfl, rfl, rfl, rfl, trivial⟩ ?_
  intro σ _
  refine zr ?_
  replace af := (af.ch Z6).ch rU.ch
  refine zo (op_add rfl rfl (wrap_i64 (natbd h18 af.bd))) (zm rfl (zn ?_))
  have Z7 := Z6.trans rU.ch
  replace ai := ai.ch Z7
  replace ad := ad.ch Z7
  replace aj := aj.ch Z7
  replace ag := ag.ch Z7
  replace ah := ah.ch Z7
  replace hB := (((hB.trans (Owns.dropFr _ _ 0)).trans oN.fr).trans (Owns.dropFr _ _ 0)).trans rU.fr
  exact hX1 _ H _ _ ⟨n17 + 1, p92, c93, vn, ⟨rfl, rfl, rfl, rfl, rfl, trivial⟩, hO, z3, ai, af, ad, aj, ag, ah, hB⟩
 replace H := ifn h18 H
 refine zo (fun w => opB (op_lss rfl rfl w) (decide_eq_false h18)) (zn (zq (zf rfl rfl ?_)))
 refine Go1.exit rfl ?_
 refine zq (zr (zm rfl (za rfl (zn ?_))))
 have hobt := freeze 0 hO rfl iB
 obtain ⟨hO1, sG, Vo, Sf⟩ := hobt
 replace hO := hO1; clear hO1
 refine Go1.ret1 Try.func46 rfl ?_
 replace hB := hB.trans (Owns.dropFr _ _ 0)
 exact ⟨out1_12, p15, c16, (congrArg (fun nn => Value.slice p15 nn c16) Sf), hB.same, (Vo.ch (Ch.weak _ _ _)), H⟩
theorem body47 : Body Try.prog 47 := ⟨Try.f47, Try.func47, rfl, by kernel_rfl⟩
theorem walk_ref12_Table {A : List Nat} {w0 : World} {aD : Option Addr} {aE : Nat} {av : Option Addr} {aw : Nat} {ap : Option Addr} {aq : Nat} {aF : Option Addr} {aG : Nat} {ax : Option Addr} {ay : Nat} {az : Option Addr} {aA : Nat} {e : Enum} (hA : ∀ b ∈ A, b < w0.heap.size) (ai : ISl (Rp.sl (Rp.int .i64)) A w0 aD aE e.Gens) (af : ISl (Rp.sl (Rp.int .i64)) A w0 av aw e.Elems) (ad : ISl (Rp.int .i64) A w0 ap aq e.Prefix) (aj : ISl (Rp.int .i64) A w0 aF aG e.Last) (ag : ISl (Rp.sl (Rp.int .i64)) A w0 ax ay e.Right) (ah : ISl (rpRule) A w0 az aA e.Rules) {K : List (List Int) → Prop} (H : ref12_Table e K) :
    CallsV Try.prog 47 #[.agg #[.int .i64 e.Points, .bool e.Monoid, .slice aD e.Gens.length aE, .slice av e.Elems.length aw, .slice ap e.Prefix.length aq, .slice aF e.Last.length aG, .slice ax e.Right.length ay, .slice az e.Rules.length aA, .int .i64 e.Done]] w0 (fun v w' => ∃ (r0 : List (List Int)), ∃ (nt : Option Addr), ∃ (nu : Nat), v = .slice nt r0.length nu ∧ Same w0 w' ∧ ISl (Rp.sl (Rp.int .i64)) A w' nt nu r0 ∧ K r0) := by
 refine CallsV.of (l := [.agg #[.int .i64 e.Points, .bool e.Monoid, .slice aD e.Gens.length aE, .slice av e.Elems.length aw, .slice ap e.Prefix.length aq, .slice aF e.Last.length aG, .slice ax e.Right.length ay, .slice az e.Rules.length aA, .int .i64 e.Done]]) Try.func47 rfl Try.ntmps47 rfl ?_
 have hO := Owns.start hA
 have hB := Fr.refl (bl []) w0
 unfold ref12_Table at H
 refine zq (zr ?_)
 have hobt := obox (t := 29) (v := .agg #[.int .i64 e.Points, .bool e.Monoid, .slice aD e.Gens.length aE, .slice av e.Elems.length aw, .slice ap e.Prefix.length aq, .slice aF e.Last.length aG, .slice ax e.Right.length ay, .slice az e.Rules.length aA, .int .i64 e.Done]) (cs := #[.int .i64 e.Points, .bool e.Monoid, .slice aD e.Gens.length aE, .slice av e.Elems.length aw, .slice ap e.Prefix.length aq, .slice aF e.Last.length aG, .slice ax e.Right.length ay, .slice az e.Rules.length aA, .int .i64 e.Done]) hO rfl
 obtain ⟨w1, B2, d7, hs4, qE⟩ := hobt
 refine zg (qE rfl) ?_
 replace hO := d7.own
 refine za rfl (zn (zq (zr (za rfl (zn ?_)))))
 refine zq (zq (zr (zo (op_fieldAddr Try.underlying29 rfl ti22 rfl (by decide)) (zs (oblk (i := 3) 0 hO rfl rfl Try.underlying22 rfl rfl) (zo (op_len Try.underlying22 rfl) ?_)))))
 replace af := (af.ch (Ch.start A w0)).ch d7.ch
 replace H := H af.bd
 refine zm rfl (zn (zb ?_))
 have sO := Stp.nil (e := 26) (r := 1) hO
 replace hO := sO.own
 have hE9 := Els.nil (Rp.sl (Rp.int .i64)) (bl (.row 26 1 none 0 0 [] :: [.blk B2 (.cells #[.int .i64 e.Points, .bool e.Monoid, .slice aD e.Gens.length aE, .slice av e.Elems.length aw, .slice ap e.Prefix.length aq, .slice aF e.Last.length aG, .slice ax e.Right.length ay, .slice az e.Rules.length aA, .int .i64 e.Done] 29 (0, 0))]) ++ A) w1
 replace af := af.ch sO.ch
 replace hB := (hB.trans d7.fr).trans sO.fr
 have Z1 := ((Ch.start A w0).trans d7.ch).trans sO.ch
 replace ai := ai.ch Z1
 replace ad := ad.ch Z1
 replace aj := aj.ch Z1
 replace ag := ag.ch Z1
 replace ah := ah.ch Z1
 refine Go1.loopW (S := Nat × List (List Int)) (fun s σ w => match s with | (k1_11, out1_12) => ∃ (n17 : Nat), ∃ (p15 : Option Addr), ∃ (c16 : Nat), ∃ (g8 : List Value), agrees σ [(1, .pointer (some ⟨B2, 0, none⟩)), (3, .slice p15 n17 c16), (12, .int .i64 (e.Elems.length : Int)), (13, .int .i64 (k1_11 : Int))] ∧ (fun Z0 => Owns w0.heap.size w Z0 A ∧ Els (Rp.sl (Rp.int .i64)) (bl Z0 ++ A) w g8 out1_12 ∧ ISl (Rp.sl (Rp.int .i64)) (bl Z0 ++ A) w aD aE e.Gens ∧ ISl (Rp.sl (Rp.int .i64)) (bl Z0 ++ A) w av aw e.Elems ∧ ISl (Rp.int .i64) (bl Z0 ++ A) w ap aq e.Prefix ∧ ISl (Rp.int .i64) (bl Z0 ++ A) w aF aG e.Last ∧ ISl (Rp.sl (Rp.int .i64)) (bl Z0 ++ A) w ax ay e.Right ∧ ISl (rpRule) (bl Z0 ++ A) w az aA e.Rules ∧ Fr (bl []) w0 (bl Z0) w) [.row 26 1 p15 n17 c16 g8, .blk B2 (.cells #[.int .i64 e.Points, .bool e.Monoid, .slice aD e.Gens.length aE, .slice av e.Elems.length aw, .slice ap e.Prefix.length aq, .slice aF e.Last.length aG, .slice ax e.Right.length ay, .slice az e.Rules.length aA, .int .i64 e.Done] 29 (0, 0))]) H ⟨0, none, 0, [], ⟨rfl, rfl, rfl, rfl, trivial⟩, hO, hE9, ai, af, ad, aj, ag, ah, hB⟩ ?_
 intro X1
 refine prE fun k1_11 => fun out1_12 => ?_
 intro H hX1 σ w10
 refine exE fun n17 => exE fun p15 => exE fun c16 => exE fun g8 => andE fun hag => andE fun hO => andE fun iB => andE fun ai => andE fun af => andE fun ad => andE fun aj => andE fun ag => andE fun ah => fun hB => ?_
 dsimp only at H
 refine Go1.keep [(1, .pointer (some ⟨B2, 0, none⟩)), (3, .slice p15 n17 c16), (12, .int .i64 (e.Elems.length : Int)), (13, .int .i64 (k1_11 : Int))] hag ?_
 refine zq (zr ?_)
 by_cases h18 : (k1_11 : Int) < (e.Elems.length : Int)
 ·replace H := ifp h18 H
  refine zo (fun w => opB (op_lss rfl rfl w) (decide_eq_true h18)) (zn (zq (zt rfl rfl (zk (zq ?_)))))
  refine zb (zq (zr (zm rfl (za rfl (zn ?_)))))
  refine zq (zr (za rfl (zn (zq (zq ?_)))))
  refine zr (zo (op_fieldAddr Try.underlying29 rfl ti22 rfl (by decide)) (zs (oblk (i := 3) 1 hO rfl rfl Try.underlying22 rfl rfl) (zo (op_len Try.underlying22 rfl) (zm rfl (zn ?_)))))
  refine zb ?_
  have o5 := Stp.nil (e := 3) (r := 1) hO
  replace hO := o5.own
  have Vp := Els.nil (Rp.int .i64) (bl (.row 3 1 none 0 0 [] :: [.row 26 1 p15 n17 c16 g8, .blk B2 (.cells #[.int .i64 e.Points, .bool e.Monoid, .slice aD e.Gens.length aE, .slice av e.Elems.length aw, .slice ap e.Prefix.length aq, .slice aF e.Last.length aG, .slice ax e.Right.length ay, .slice az e.Rules.length aA, .int .i64 e.Done] 29 (0, 0))]) ++ A) w10
  replace iB := iB.ch o5.ch
  replace ai := ai.ch o5.ch
  replace af := af.ch o5.ch
  replace ad := ad.ch o5.ch
  replace aj := aj.ch o5.ch
  replace ag := ag.ch o5.ch
  replace ah := ah.ch o5.ch
  replace hB := hB.trans o5.fr
  refine Go1.loopW (S := Nat × List Int) (fun s σ w => match s with | (k2_23, row2_24) => ∃ (n29 : Nat), ∃ (p27 : Option Addr), ∃ (c28 : Nat), ∃ (rQ : List Value), agrees σ [(1, .pointer (some ⟨B2, 0, none⟩)), (3, .slice p15 n17 c16), (4, .int .i64 (k1_11 : Int)), (5, .slice p27 n29 c28), (12, .int .i64 (e.Elems.length : Int)), (13, .int .i64 (k1_11 : Int)), (18, .int .i64 (e.Elems.length : Int)), (19, .int .i64 (k2_23 : Int))] ∧ (fun Z0 => Owns w0.heap.size w Z0 A ∧ Els (Rp.int .i64) (bl Z0 ++ A) w rQ row2_24 ∧ Els (Rp.sl (Rp.int .i64)) (bl Z0 ++ A) w g8 out1_12 ∧ ISl (Rp.sl (Rp.int .i64)) (bl Z0 ++ A) w aD aE e.Gens ∧ ISl (Rp.sl (Rp.int .i64)) (bl Z0 ++ A) w av aw e.Elems ∧ ISl (Rp.int .i64) (bl Z0 ++ A) w ap aq e.Prefix ∧ ISl (Rp.int .i64) (bl Z0 ++ A) w aF aG e.Last ∧ ISl (Rp.sl (Rp.int .i64)) (bl Z0 ++ A) w ax ay e.Right ∧ ISl (rpRule) (bl Z0 ++ A) w az aA e.Rules ∧ Fr (bl []) w0 (bl Z0) w) [.row 3 1 p27 n29 c28 rQ, .row 26 1 p15 n17 c16 g8, .blk B2 (.cells #[.int .i64 e.Points, .bool e.Monoid, .slice aD e.Gens.length aE, .slice av e.Elems.length aw, .slice ap e.Prefix.length aq, .slice aF e.Last.length aG, .slice ax e.Right.length ay, .slice az e.Rules.length aA, .int .i64 e.Done] 29 (0, 0))]) H ⟨0, none, 0, [], ⟨rfl, rfl, rfl, rfl, rfl, rfl, rfl, rfl, trivial⟩, hO, Vp, iB, ai, af, ad, aj, ag, ah, hB⟩ ?_
  intro X2
  refine prE fun k2_23 => fun row2_24 => ?_
  intro H hX2 σ w22
  refine exE fun n29 => exE fun p27 => exE fun c28 => exE fun rQ => andE fun hag => andE fun hO => andE fun xA => andE fun iB => andE fun ai => andE fun af => andE fun ad => andE fun aj => andE fun ag => andE fun ah => fun hB => ?_
  dsimp only at H
  refine Go1.keep [(1, .pointer (some ⟨B2, 0, none⟩)), (3, .slice p15 n17 c16), (4, .int .i64 (k1_11 : Int)), (5, .slice p27 n29 c28), (12, .int .i64 (e.Elems.length : Int)), (13, .int .i64 (k1_11 : Int)), (18, .int .i64 (e.Elems.length : Int)), (19, .int .i64 (k2_23 : Int))] hag ?_
  refine zq (zr ?_)
  by_cases h30 : (k2_23 : Int) < (e.Elems.length : Int)
  ·replace H := ifp h30 H
   refine zo (fun w => opB (op_lss rfl rfl w) (decide_eq_true h30)) (zn (zq (zt rfl rfl (zk (zq ?_)))))
   refine zb (zq (zr (zm rfl (za rfl (zn ?_)))))
   refine zq (zr (zs (oblkAgg (vs := [.int .i64 e.Points, .bool e.Monoid, .slice aD e.Gens.length aE, .slice av e.Elems.length aw, .slice ap e.Prefix.length aq, .slice aF e.Last.length aG, .slice ax e.Right.length ay, .slice az e.Rules.length aA, .int .i64 e.Done]) (i := 0) 2 hO rfl rfl Try.underlying29 rfl ti29 rfl) (zm rfl ?_)))
   refine GoR.call (op_call body40 rfl (walk_ref12_Word (e := e) hO.lt ai af ad aj ag ah H)) rfl rfl ?_
   rintro v35 w32 ⟨r31, rfl, Vq, Hv, H⟩
   have lA := Stp.same hO Vq
   replace hO := lA.own
   refine za rfl (zn (zq (zr (zm rfl (za rfl ?_)))))
   refine zn (zq (zq (zr (za rfl (zn ?_)))))
   refine zb ?_
   replace xA := xA.ch lA.ch
   replace iB := iB.ch lA.ch
   replace ai := ai.ch lA.ch
   replace af := af.ch lA.ch
   replace ad := ad.ch lA.ch
   replace aj := aj.ch lA.ch
   replace ag := ag.ch lA.ch
   replace ah := ah.ch lA.ch
   replace hB := hB.trans lA.fr
   refine Go1.loopW (S := Int × Nat) (fun s σ w => match s with | (at3_38, i3_39) => agrees σ [(1, .pointer (some ⟨B2, 0, none⟩)), (3, .slice p15 n17 c16), (4, .int .i64 (k1_11 : Int)), (5, .slice p27 n29 c28), (7, .string (gstr r31)), (8, .int .i64 at3_38), (9, .int .i64 (i3_39 : Int)), (12, .int .i64 (e.Elems.length : Int)), (13, .int .i64 (k1_11 : Int)), (18, .int .i64 (e.Elems.length : Int)), (19, .int .i64 (k2_23 : Int))] ∧ (fun Z0 => Owns w0.heap.size w Z0 A ∧ Els (Rp.int .i64) (bl Z0 ++ A) w rQ row2_24 ∧ Els (Rp.sl (Rp.int .i64)) (bl Z0 ++ A) w g8 out1_12 ∧ ISl (Rp.sl (Rp.int .i64)) (bl Z0 ++ A) w aD aE e.Gens ∧ ISl (Rp.sl (Rp.int .i64)) (bl Z0 ++ A) w av aw e.Elems ∧ ISl (Rp.int .i64) (bl Z0 ++ A) w ap aq e.Prefix ∧ ISl (Rp.int .i64) (bl Z0 ++ A) w aF aG e.Last ∧ ISl (Rp.sl (Rp.int .i64)) (bl Z0 ++ A) w ax ay e.Right ∧ ISl (rpRule) (bl Z0 ++ A) w az aA e.Rules ∧ Fr (bl []) w0 (bl Z0) w) [.row 3 1 p27 n29 c28 rQ, .row 26 1 p15 n17 c16 g8, .blk B2 (.cells #[.int .i64 e.Points, .bool e.Monoid, .slice aD e.Gens.length aE, .slice av e.Elems.length aw, .slice ap e.Prefix.length aq, .slice aF e.Last.length aG, .slice ax e.Right.length ay, .slice az e.Rules.length aA, .int .i64 e.Done] 29 (0, 0))]) H ⟨⟨rfl, rfl, rfl, rfl, rfl, rfl, rfl, rfl, rfl, rfl, rfl, trivial⟩, hO, xA, iB, ai, af, ad, aj, ag, ah, hB⟩ ?_
   intro X3
   refine prE fun at3_38 => fun i3_39 => ?_
   intro H hX3 σ w37
   refine andE fun hag => andE fun hO => andE fun xA => andE fun iB => andE fun ai => andE fun af => andE fun ad => andE fun aj => andE fun ag => andE fun ah => fun hB => ?_
   dsimp only at H
   refine Go1.keep [(1, .pointer (some ⟨B2, 0, none⟩)), (3, .slice p15 n17 c16), (4, .int .i64 (k1_11 : Int)), (5, .slice p27 n29 c28), (7, .string (gstr r31)), (8, .int .i64 at3_38), (9, .int .i64 (i3_39 : Int)), (12, .int .i64 (e.Elems.length : Int)), (13, .int .i64 (k1_11 : Int)), (18, .int .i64 (e.Elems.length : Int)), (19, .int .i64 (k2_23 : Int))] hag ?_
   refine zq (zq (zr (zm rfl (zm rfl (zo (op_lenS Try.underlying9 rfl) ?_)))))
   replace H := H Hv
   by_cases h40 : (i3_39 : Int) < (r31.length : Int)
   ·replace H := ifp h40 H
    refine zo (fun w => opB (op_lss rfl rfl w) (decide_eq_true h40)) (zn (zt rfl rfl (zk (zq (zb ?_)))))
    refine Go1.drawS 0 [(0, .pure), (1, .stable), (2, .pure), (3, .pure), (4, .stable), (5, .pure), (6, .pure), (7, .pure), (8, .pure), (9, .pure), (10, .pure), (11, .stable), (12, .pure)] mixed (by kernel_rfl) ?_
    intro w41 Hw
    have gV := Stp.same hO Hw
    replace hO := gV.own
    refine GoQ.pure rfl (op_fieldAddr Try.underlying29 rfl ti22 rfl (by decide)) rfl rfl ?_
    refine GoQ.stable rfl (oblk (i := 6) 2 hO rfl rfl Try.underlying22 rfl rfl) rfl rfl ?_
    refine GoQ.pure rfl (op_move rfl) rfl rfl ?_
    obtain ⟨h44, H⟩ := H
    obtain ⟨h45, H⟩ := H
    replace ag := ag.ch gV.ch
    refine GoQ.pure rfl (op_index Try.underlying22 ti26 rfl rfl h44 h45 (ag.some_ h44 h45)) rfl rfl ?_
    have hobt := ldSl ag h44 h45
    obtain ⟨p46, c47, Ns, Vr⟩ := hobt
    refine GoQ.stable rfl (Vr Try.underlying26 rfl rfl) rfl rfl ?_
    refine GoQ.pure rfl (op_move rfl) rfl rfl ?_
    refine GoQ.pure rfl (op_move rfl) rfl rfl ?_
    obtain ⟨h50, H⟩ := H
    obtain ⟨h51, H⟩ := H
    refine GoQ.pure rfl (op_indexS Try.underlying9 rfl rfl h50 h51) rfl rfl ?_
    refine GoQ.pure rfl (op_sub rfl rfl rfl) rfl rfl ?_
    refine GoQ.pure rfl (op_conv Try.underlying5 Try.underlying3 rfl rfl) rfl rfl ?_
    obtain ⟨h52, H⟩ := H
    obtain ⟨h53, H⟩ := H
    refine GoQ.pure rfl (op_index Try.underlying26 ti3 rfl rfl h52 h53 (Ns.some_ h52 h53)) rfl rfl ?_
    refine GoQ.stable rfl (ldInt Ns h52 h53 Try.underlying3 rfl rfl) rfl rfl ?_
    refine GoQ.pure rfl (op_assign rfl) rfl rfl ?_
    refine GoQ.nil ?_
    refine Go1.inBlock ?_
    refine zr (zm rfl (zo (op_add rfl rfl (wrap_i64 (natbd h40 Hv))) (za rfl (zn ?_))))
    replace xA := xA.ch gV.ch
    replace iB := iB.ch gV.ch
    replace ai := ai.ch gV.ch
    replace af := af.ch gV.ch
    replace ad := ad.ch gV.ch
    replace aj := aj.ch gV.ch
    replace ah := ah.ch gV.ch
    replace hB := hB.trans gV.fr
    exact hX3 _ H _ _ ⟨⟨rfl, rfl, rfl, rfl, rfl, rfl, rfl, rfl, rfl, rfl, rfl, trivial⟩, hO, xA, iB, ai, af, ad, aj, ag, ah, hB⟩
   replace H := ifn h40 H
   refine zo (fun w => opB (op_lss rfl rfl w) (decide_eq_false h40)) (zn (zf rfl rfl ?_))
   refine Go1.exit rfl ?_
   refine Go1.cut [(1, .pointer (some ⟨B2, 0, none⟩)), (3, .slice p15 n17 c16), (4, .int .i64 (k1_11 : Int)), (5, .slice p27 n29 c28), (8, .int .i64 at3_38), (12, .int .i64 (e.Elems.length : Int)), (13, .int .i64 (k1_11 : Int)), (18, .int .i64 (e.Elems.length : Int)), (19, .int .i64 (k2_23 : Int))] ⟨rfl, rfl, rfl, rfl, rfl, rfl, rfl, rfl, rfl, trivial⟩ ?_
   intro σ _
   refine zr (zm rfl (zm rfl ?_))
   have hobt := obuild (r := Rp.int .i64) (n := 1) (parts := [(0, .int .i64 at3_38)]) (vs := [.int .i64 at3_38]) (xs := [at3_38]) rfl Try.underlying26 ti3 hO (by decide) (by kernel_rfl) (Els.cons rfl rfl (Els.nil _ _ _) (by simp [mx])) rfl
   obtain ⟨w54, p55, yQ, zl, J0, Sh⟩ := hobt
   refine zg (Sh rfl) ?_
   replace hO := yQ.own
   have hobt := freeze 0 hO rfl zl
   obtain ⟨hO1, CU, Ja, Vs⟩ := hobt
   replace hO := hO1; clear hO1
   obtain ⟨h64, H⟩ := H
   replace xA := (xA.ch yQ.ch).ch CU
   have hobt := oapp Try.underlying26 ti3 rfl 0 hO rfl xA Ja Vs h64 (by decide)
   obtain ⟨w65, p66, c67, tD, ns, Vt, F4⟩ := hobt
   refine zg (F4 (by exact rfl) (by exact rfl)) ?_
   replace hO := ns.own
   refine za rfl (zn ?_)
   refine Go1.inBlock ?_
   refine zr ?_
   have Z2 := (yQ.ch.trans CU).trans ns.ch
   replace af := af.ch Z2
   refine zo (op_add rfl rfl (wrap_i64 (natbd h30 af.bd))) (zm rfl (zn ?_))
   replace iB := iB.ch Z2
   replace ai := ai.ch Z2
   replace ad := ad.ch Z2
   replace aj := aj.ch Z2
   replace ag := ag.ch Z2
   replace ah := ah.ch Z2
   replace hB := ((hB.trans yQ.fr).trans (Owns.dropFr _ _ 0)).trans ns.fr
   exact hX2 _ H _ _ ⟨n29 + 1, p66, c67, tD, ⟨rfl, rfl, rfl, rfl, rfl, rfl, rfl, rfl, trivial⟩, hO, Vt, iB, ai, af, ad, aj, ag, ah, hB⟩
  replace H := ifn h30 H
  refine zo (fun w => opB (op_lss rfl rfl w) (decide_eq_false h30)) (zn (zq (zf rfl rfl ?_)))
  refine Go1.exit rfl ?_
  refine zr (zm rfl (zm rfl ?_))
  have hobt := freeze 0 hO rfl xA
  obtain ⟨hO1, zj, yd, HM⟩ := hobt
  replace hO := hO1; clear hO1
  have hobt := obuild (r := Rp.sl (Rp.int .i64)) (n := 1) (parts := [(0, .slice p27 n29 c28)]) (vs := [.slice p27 n29 c28]) (xs := [row2_24]) rfl Try.underlying22 ti26 hO (by decide) (by kernel_rfl) (Els.cons rfl ⟨p27, c28, congrArg some (congrArg (fun nn => Value.slice p27 nn c28) HM), yd⟩ (Els.nil _ _ _) (by simp [mx])) rfl
  obtain ⟨w76, p77, oV, Vu, Nt, Si⟩ := hobt
  refine zg (Si rfl) ?_
  replace hO := oV.own
  have hobt := freeze 0 hO rfl Vu
  obtain ⟨hO1, CV, Jb, Vv⟩ := hobt
  replace hO := hO1; clear hO1
  obtain ⟨h86, H⟩ := H
  have Z3 := (zj.trans oV.ch).trans CV
  replace iB := iB.ch Z3
  have hobt := oapp Try.underlying22 ti26 rfl 0 hO rfl iB Jb Vv h86 (by decide)
  obtain ⟨w87, p88, c89, Vw, yR, Vx, Sj⟩ := hobt
  refine zg (Sj (by exact rfl) (by exact rfl)) ?_
  replace hO := yR.own
  refine za rfl (zn ?_)
  refine Go1.inBlock ?_
  refine zr ?_
  replace af := (af.ch Z3).ch yR.ch
  refine zo (op_add rfl rfl (wrap_i64 (natbd h18 af.bd))) (zm rfl (zn ?_))
  have Z4 := Z3.trans yR.ch
  replace ai := ai.ch Z4
  replace ad := ad.ch Z4
  replace aj := aj.ch Z4
  replace ag := ag.ch Z4
  replace ah := ah.ch Z4
  replace hB := (((hB.trans (Owns.dropFr _ _ 0)).trans oV.fr).trans (Owns.dropFr _ _ 0)).trans yR.fr
  exact hX1 _ H _ _ ⟨n17 + 1, p88, c89, Vw, ⟨rfl, rfl, rfl, rfl, trivial⟩, hO, Vx, ai, af, ad, aj, ag, ah, hB⟩
 replace H := ifn h18 H
 refine zo (fun w => opB (op_lss rfl rfl w) (decide_eq_false h18)) (zn (zq (zf rfl rfl ?_)))
 refine Go1.exit rfl ?_
 refine zq (zr (zm rfl (za rfl (zn ?_))))
 have hobt := freeze 0 hO rfl iB
 obtain ⟨hO1, EG, Vy, Vz⟩ := hobt
 replace hO := hO1; clear hO1
 refine Go1.ret1 Try.func47 rfl ?_
 replace hB := hB.trans (Owns.dropFr _ _ 0)
 exact ⟨out1_12, p15, c16, (congrArg (fun nn => Value.slice p15 nn c16) Vz), hB.same, (Vy.ch (Ch.weak _ _ _)), H⟩
theorem walk_law12_EnumerateTables {A : List Nat} {w0 : World} {nU : Option Addr} {nV : Nat} {a0 : List (List Int)} {a1 : Bool} {a2 : Int} (hA : ∀ b ∈ A, b < w0.heap.size) (am : ISl (Rp.sl (Rp.int .i64)) A w0 nU nV a0) {K : Bool → Prop} (H : law12_EnumerateTables a0 a1 a2 K) :
    CallsV Try.prog 12 #[.slice nU a0.length nV, .bool a1, .int .u8 a2] w0 (fun v w' => ∃ (r0 : Bool), v = .bool r0 ∧ Same w0 w' ∧ K r0) := by
 refine CallsV.of (l := [.slice nU a0.length nV, .bool a1, .int .u8 a2]) Try.func12 rfl Try.ntmps12 rfl ?_
 have hO := Owns.start hA
 have hB := Fr.refl (bl []) w0
 unfold law12_EnumerateTables at H
 refine zq (zr (za rfl (zn (zq (zq ?_)))))
 refine zr (zm rfl ?_)
 replace am := am.ch (Ch.start A w0)
 refine GoR.call (op_call body15 rfl (walk_law12_little hO.lt am H)) rfl rfl ?_
 rintro v5 w2 ⟨r1, rfl, hs3, H⟩
 have AQ := Stp.same hO hs3
 replace hO := AQ.own
 cases r1
 ·replace H := ifn Bool.false_ne_true H
  refine zo (op_not rfl) (zn (zt rfl rfl (zq (zr ?_))))
  refine GoR.call (op_call body16 rfl (walk_law12_awake hO.lt H)) rfl rfl ?_
  rintro v11 w8 ⟨r7, rfl, hs9, H⟩
  have Ht := Stp.same hO hs9
  replace hO := Ht.own
  refine za rfl (zn ?_)
  refine Go1.ret1 Try.func12 rfl ?_
  replace hB := (hB.trans AQ.fr).trans Ht.fr
  exact ⟨r7, rfl, hB.same, H⟩
 replace H := ifp rfl H
 refine zo (op_not rfl) (zn (zf rfl rfl (zk (zq (zr ?_)))))
 refine zm rfl (zm rfl ?_)
 replace am := am.ch AQ.ch
 refine GoR.call (op_call body22 rfl (walk_ref12_Start hO.lt am H)) rfl rfl ?_
 rintro v18 w15 ⟨r13, r14, Co, Cp, Bk, Bl, Ah, Ai, Cq, Cr, Bm, Bn, Bo, Bp, rfl, VA, gs, f7, fU, gt, f8, f9, H⟩
 have ko := Stp.same hO VA
 replace hO := ko.own
 refine zm rfl (zo (op_extract rfl rfl) (zo (op_extract rfl rfl) ?_))
 have hobt := oalloc (t := 29) (cs := #[.int .i64 (0 : Int), .bool false, .slice none 0 0, .slice none 0 0, .slice none 0 0, .slice none 0 0, .slice none 0 0, .slice none 0 0, .int .i64 (0 : Int)]) ti29 hO rfl
 obtain ⟨w20, B21, f0, abX, GO⟩ := hobt
 refine GoR.op GO rfl rfl ?_
 replace hO := f0.own
 have hobt := oblkStAgg (us := [.int .i64 r13.Points, .bool r13.Monoid, .slice Co r13.Gens.length Cp, .slice Bk r13.Elems.length Bl, .slice Ah r13.Prefix.length Ai, .slice Cq r13.Last.length Cr, .slice Bm r13.Right.length Bn, .slice Bo r13.Rules.length Bp, .int .i64 r13.Done]) (o := 0) (cs' := #[.int .i64 r13.Points, .bool r13.Monoid, .slice Co r13.Gens.length Cp, .slice Bk r13.Elems.length Bl, .slice Ah r13.Prefix.length Ai, .slice Cq r13.Last.length Cr, .slice Bm r13.Right.length Bn, .slice Bo r13.Rules.length Bp, .int .i64 r13.Done]) 0 hO rfl rfl (Nat.le_of_ble_eq_true rfl) rfl
 obtain ⟨w26, zS, Sk⟩ := hobt
 refine zg (Sk ti29 (by exact rfl) (by exact rfl) rfl) ?_
 replace hO := zS.own
 refine za rfl (zn (zq (zq (zr (zm rfl ?_)))))
 by_cases h29 : r14 = (0 : Int)
 ·replace H := ifp h29 H
  refine zo (fun w => opB (op_neq rfl rfl w) (ndT h29)) (zn (zf rfl rfl (zk (zq ?_))))
  refine Go1.cut [(2, .int .u8 a2), (7, .pointer (some ⟨B21, 0, none⟩))] ⟨rfl, rfl, trivial⟩ ?_
  intro σ _
  refine zr (zs (oblkAgg (vs := [.int .i64 r13.Points, .bool r13.Monoid, .slice Co r13.Gens.length Cp, .slice Bk r13.Elems.length Bl, .slice Ah r13.Prefix.length Ai, .slice Cq r13.Last.length Cr, .slice Bm r13.Right.length Bn, .slice Bo r13.Rules.length Bp, .int .i64 r13.Done]) (i := 0) 0 hO rfl rfl Try.underlying29 rfl ti29 rfl) (zm rfl (zo (op_conv Try.underlying5 Try.underlying3 rfl rfl) ?_)))
  obtain ⟨h30, H⟩ := H
  refine zo (op_mul rfl rfl (wrap_i64 h30)) ?_
  have Z1 := f0.ch.trans zS.ch
  replace gs := gs.ch Z1
  replace f7 := f7.ch Z1
  replace fU := fU.ch Z1
  replace gt := gt.ch Z1
  replace f8 := f8.ch Z1
  replace f9 := f9.ch Z1
  refine GoR.call (op_call body23 rfl (walk_ref12_Step (e := r13) hO.lt gs f7 fU gt f8 f9 H)) rfl rfl ?_
  rintro v36 w33 ⟨r31, r32, pK, pM, nN, nO, mq, mr, pN, pO, nP, nQ, nS, nT, rfl, IH, fX, fh, eY, fY, fE, ft, H⟩
  have uo := Stp.same hO IH
  replace hO := uo.own
  refine zm rfl (zo (op_extract rfl rfl) (zo (op_extract rfl rfl) ?_))
  have hobt := oblkStAgg (us := [.int .i64 r31.Points, .bool r31.Monoid, .slice pK r31.Gens.length pM, .slice nN r31.Elems.length nO, .slice mq r31.Prefix.length mr, .slice pN r31.Last.length pO, .slice nP r31.Right.length nQ, .slice nS r31.Rules.length nT, .int .i64 r31.Done]) (o := 0) (cs' := #[.int .i64 r31.Points, .bool r31.Monoid, .slice pK r31.Gens.length pM, .slice nN r31.Elems.length nO, .slice mq r31.Prefix.length mr, .slice pN r31.Last.length pO, .slice nP r31.Right.length nQ, .slice nS r31.Rules.length nT, .int .i64 r31.Done]) 0 hO rfl rfl (Nat.le_of_ble_eq_true rfl) rfl
  obtain ⟨w38, qC, D4⟩ := hobt
  refine zg (D4 ti29 (by exact rfl) (by exact rfl) rfl) ?_
  replace hO := qC.own
  refine za rfl (zn (zq (zq (zr (zm rfl ?_)))))
  by_cases h41 : r32 = (0 : Int)
  ·replace H := ifp h41 H
   refine zo (fun w => opB (op_neq rfl rfl w) (ndT h41)) (zn (zf rfl rfl (zk (zq (zr ?_)))))
   refine zs (oblkAgg (vs := [.int .i64 r31.Points, .bool r31.Monoid, .slice pK r31.Gens.length pM, .slice nN r31.Elems.length nO, .slice mq r31.Prefix.length mr, .slice pN r31.Last.length pO, .slice nP r31.Right.length nQ, .slice nS r31.Rules.length nT, .int .i64 r31.Done]) (i := 0) 0 hO rfl rfl Try.underlying29 rfl ti29 rfl) ?_
   replace fX := fX.ch qC.ch
   replace fh := fh.ch qC.ch
   replace eY := eY.ch qC.ch
   replace fY := fY.ch qC.ch
   replace fE := fE.ch qC.ch
   replace ft := ft.ch qC.ch
   refine GoR.call (op_call body38 rfl (walk_enumerate_Left (a0 := r31) hO.lt fX fh eY fY fE ft H)) rfl rfl ?_
   rintro v46 w43 ⟨r42, JM, JN, rfl, Hr, sd, H⟩
   have ux := Stp.same hO Hr
   replace hO := ux.own
   refine za rfl (zn (zq (zr (zs (oblkAgg (vs := [.int .i64 r31.Points, .bool r31.Monoid, .slice pK r31.Gens.length pM, .slice nN r31.Elems.length nO, .slice mq r31.Prefix.length mr, .slice pN r31.Last.length pO, .slice nP r31.Right.length nQ, .slice nS r31.Rules.length nT, .int .i64 r31.Done]) (i := 0) 0 hO rfl rfl Try.underlying29 rfl ti29 rfl) ?_))))
   replace fX := fX.ch ux.ch
   replace fh := fh.ch ux.ch
   replace eY := eY.ch ux.ch
   replace fY := fY.ch ux.ch
   replace fE := fE.ch ux.ch
   replace ft := ft.ch ux.ch
   refine GoR.call (op_call body44 rfl (walk_enumerate_Table (a0 := r31) hO.lt fX fh eY fY fE ft H)) rfl rfl ?_
   rintro v53 w50 ⟨r48, r49, JO, JP, rfl, VB, tj, H⟩
   have oX := Stp.same hO VB
   replace hO := oX.own
   refine zm rfl (zo (op_extract rfl rfl) (zo (op_extract rfl rfl) (za rfl (za rfl (zn ?_)))))
   refine zq (zq ?_)
   refine Go1.cut [(7, .pointer (some ⟨B21, 0, none⟩)), (9, .slice JM r42.length JN), (10, .slice JO r48.length JP), (11, .int .i64 r49)] ⟨rfl, rfl, rfl, rfl, trivial⟩ ?_
   intro σ _
   refine zr (zo (op_fieldAddr Try.underlying29 rfl ti3 rfl (by decide)) (zs (oblk (i := 8) 0 hO rfl rfl Try.underlying3 rfl rfl) (zo (op_fieldAddr Try.underlying29 rfl ti22 rfl (by decide)) (zs (oblk (i := 3) 0 hO rfl rfl Try.underlying22 rfl rfl) (zo (op_len Try.underlying22 rfl) ?_)))))
   replace fh := fh.ch oX.ch
   replace H := H fh.bd
   by_cases h55 : r31.Done < (r31.Elems.length : Int)
   ·replace H := ifp h55 H
    refine zo (fun w => opB (op_lss rfl rfl w) (decide_eq_true h55)) (zn (zt rfl rfl (zq (zr (zm rfl ?_)))))
    refine zo (op_len Try.underlying22 rfl) ?_
    replace sd := sd.ch oX.ch
    replace H := H sd.bd
    by_cases h56 : (r42.length : Int) = (0 : Int)
    ·replace H := ifp h56 H
     refine zo (fun w => opB (op_eql rfl rfl w) (decide_eq_true h56)) (zm rfl (zm rfl (zo (op_len Try.underlying22 rfl) ?_)))
     replace H := H tj.bd
     by_cases h57 : (r48.length : Int) = (0 : Int)
     ·replace H := ifp h57 H
      refine zo (fun w => opB (op_eql rfl rfl w) (decide_eq_true h57)) (zo (op_pickT rfl rfl rfl) (zm rfl (zm rfl ?_)))
      by_cases h58 : r49 = (7 : Int)
      ·replace H := ifp h58 H
       refine zo (fun w => opB (op_eql rfl rfl w) (decide_eq_true h58)) (zo (op_pickT rfl rfl rfl) (zm rfl ?_))
       refine GoR.call (op_call body16 rfl (walk_law12_awake hO.lt H)) rfl rfl ?_
       rintro v63 w60 ⟨r59, rfl, pQ, H⟩
       have sN := Stp.same hO pQ
       replace hO := sN.own
       refine zo (op_pickT rfl rfl rfl) (za rfl (zn ?_))
       refine Go1.ret1 Try.func12 rfl ?_
       replace hB := ((((((((hB.trans AQ.fr).trans ko.fr).trans f0.fr).trans zS.fr).trans uo.fr).trans qC.fr).trans ux.fr).trans oX.fr).trans sN.fr
       exact ⟨r59, rfl, hB.same, H⟩
      replace H := ifn h58 H
      refine zo (fun w => opB (op_eql rfl rfl w) (decide_eq_false h58)) (zo (op_pickT rfl rfl rfl) (zm rfl (zp (zo (op_pickF rfl rfl rfl) (za rfl ?_)))))
      refine zn ?_
      refine Go1.ret1 Try.func12 rfl ?_
      replace hB := (((((((hB.trans AQ.fr).trans ko.fr).trans f0.fr).trans zS.fr).trans uo.fr).trans qC.fr).trans ux.fr).trans oX.fr
      exact ⟨false, rfl, hB.same, H⟩
     replace H := ifn h57 H
     refine zo (fun w => opB (op_eql rfl rfl w) (decide_eq_false h57)) (zo (op_pickT rfl rfl rfl) (zm rfl (zp (zp (zo (op_pickF rfl rfl rfl) ?_)))))
     refine zm rfl (zp (zo (op_pickF rfl rfl rfl) (za rfl (zn ?_))))
     refine Go1.ret1 Try.func12 rfl ?_
     replace hB := (((((((hB.trans AQ.fr).trans ko.fr).trans f0.fr).trans zS.fr).trans uo.fr).trans qC.fr).trans ux.fr).trans oX.fr
     exact ⟨false, rfl, hB.same, H⟩
    replace H := ifn h56 H
    refine zo (fun w => opB (op_eql rfl rfl w) (decide_eq_false h56)) (zm rfl (zp (zp (zp (zo (op_pickF rfl rfl rfl) ?_)))))
    refine zm rfl (zp (zp (zo (op_pickF rfl rfl rfl) (zm rfl (zp ?_)))))
    refine zo (op_pickF rfl rfl rfl) (za rfl (zn ?_))
    refine Go1.ret1 Try.func12 rfl ?_
    replace hB := (((((((hB.trans AQ.fr).trans ko.fr).trans f0.fr).trans zS.fr).trans uo.fr).trans qC.fr).trans ux.fr).trans oX.fr
    exact ⟨false, rfl, hB.same, H⟩
   replace H := ifn h55 H
   refine zo (fun w => opB (op_lss rfl rfl w) (decide_eq_false h55)) (zn (zf rfl rfl (zk (zq (zq ?_)))))
   refine Go1.cut [(7, .pointer (some ⟨B21, 0, none⟩)), (9, .slice JM r42.length JN), (10, .slice JO r48.length JP), (11, .int .i64 r49)] ⟨rfl, rfl, rfl, rfl, trivial⟩ ?_
   intro σ _
   refine zr (zo (op_fieldAddr Try.underlying29 rfl ti22 rfl (by decide)) (zs (oblk (i := 3) 0 hO rfl rfl Try.underlying22 rfl rfl) (zo (op_len Try.underlying22 rfl) ?_)))
   by_cases h65 : (60 : Int) < (r31.Elems.length : Int)
   ·replace H := ifp h65 H
    refine zo (fun w => opB (op_gtr rfl rfl w) (decide_eq_true h65)) (zn (zt rfl rfl (zq (zr ?_))))
    refine GoR.call (op_call body16 rfl (walk_law12_awake hO.lt H)) rfl rfl ?_
    rintro v70 w67 ⟨r66, rfl, FS, H⟩
    have iP := Stp.same hO FS
    replace hO := iP.own
    refine za rfl (zn ?_)
    refine Go1.ret1 Try.func12 rfl ?_
    replace hB := ((((((((hB.trans AQ.fr).trans ko.fr).trans f0.fr).trans zS.fr).trans uo.fr).trans qC.fr).trans ux.fr).trans oX.fr).trans iP.fr
    exact ⟨r66, rfl, hB.same, H⟩
   replace H := ifn h65 H
   refine zo (fun w => opB (op_gtr rfl rfl w) (decide_eq_false h65)) (zn (zf rfl rfl (zk (zq (zr ?_)))))
   refine zm rfl (zs (oblkAgg (vs := [.int .i64 r31.Points, .bool r31.Monoid, .slice pK r31.Gens.length pM, .slice nN r31.Elems.length nO, .slice mq r31.Prefix.length mr, .slice pN r31.Last.length pO, .slice nP r31.Right.length nQ, .slice nS r31.Rules.length nT, .int .i64 r31.Done]) (i := 0) 0 hO rfl rfl Try.underlying29 rfl ti29 rfl) ?_)
   replace fX := fX.ch oX.ch
   replace eY := eY.ch oX.ch
   replace fY := fY.ch oX.ch
   replace fE := fE.ch oX.ch
   replace ft := ft.ch oX.ch
   refine GoR.call (op_call body46 rfl (walk_ref12_Left (e := r31) hO.lt fX fh eY fY fE ft H)) rfl rfl ?_
   rintro v76 w73 ⟨r72, WE, WF, rfl, VC, zT, H⟩
   have mO := Stp.same hO VC
   replace hO := mO.own
   replace sd := (sd.ch oX.ch).ch mO.ch
   refine GoR.call (op_call body45 rfl (walk_ref03_SameRows hO.lt sd zT H)) rfl rfl ?_
   rintro v82 w79 ⟨r78, rfl, Nt, H⟩
   have se := Stp.same hO Nt
   replace hO := se.own
   refine zm rfl ?_
   cases r78
   ·replace H := ifn Bool.false_ne_true H
    refine zp (zp (zo (op_pickF rfl rfl rfl) (zm rfl (zp (zp ?_)))))
    refine zp (zp (zo (op_pickF rfl rfl rfl) (zm rfl (zp (zo (op_pickF rfl rfl rfl) ?_)))))
    refine za rfl (zn ?_)
    refine Go1.ret1 Try.func12 rfl ?_
    replace hB := (((((((((hB.trans AQ.fr).trans ko.fr).trans f0.fr).trans zS.fr).trans uo.fr).trans qC.fr).trans ux.fr).trans oX.fr).trans mO.fr).trans se.fr
    exact ⟨false, rfl, hB.same, H⟩
   replace H := ifp rfl H
   refine zm rfl ?_
   by_cases h84 : r49 = (0 : Int)
   ·replace H := ifp h84 H
    refine zo (fun w => opB (op_eql rfl rfl w) (decide_eq_true h84)) (zo (op_pickT rfl rfl rfl) (zm rfl (zm rfl (zs (oblkAgg (vs := [.int .i64 r31.Points, .bool r31.Monoid, .slice pK r31.Gens.length pM, .slice nN r31.Elems.length nO, .slice mq r31.Prefix.length mr, .slice pN r31.Last.length pO, .slice nP r31.Right.length nQ, .slice nS r31.Rules.length nT, .int .i64 r31.Done]) (i := 0) 0 hO rfl rfl Try.underlying29 rfl ti29 rfl) ?_))))
    have Z2 := mO.ch.trans se.ch
    replace fX := fX.ch Z2
    replace fh := fh.ch Z2
    replace eY := eY.ch Z2
    replace fY := fY.ch Z2
    replace fE := fE.ch Z2
    replace ft := ft.ch Z2
    refine GoR.call (op_call body47 rfl (walk_ref12_Table (e := r31) hO.lt fX fh eY fY fE ft H)) rfl rfl ?_
    rintro v89 w86 ⟨r85, WG, WH, rfl, Hx, Eg, H⟩
    have sf := Stp.same hO Hx
    replace hO := sf.own
    replace tj := (tj.ch Z2).ch sf.ch
    refine GoR.call (op_call body45 rfl (walk_ref03_SameRows hO.lt tj Eg H)) rfl rfl ?_
    rintro v95 w92 ⟨r91, rfl, VD, H⟩
    have i6 := Stp.same hO VD
    replace hO := i6.own
    refine zo (op_pickT rfl rfl rfl) (zm rfl ?_)
    cases r91
    ·replace H := ifn Bool.false_ne_true H
     refine zp (zo (op_pickF rfl rfl rfl) (za rfl (zn ?_)))
     refine Go1.ret1 Try.func12 rfl ?_
     replace hB := (((((((((((hB.trans AQ.fr).trans ko.fr).trans f0.fr).trans zS.fr).trans uo.fr).trans qC.fr).trans ux.fr).trans oX.fr).trans mO.fr).trans se.fr).trans sf.fr).trans i6.fr
     exact ⟨false, rfl, hB.same, H⟩
    replace H := ifp rfl H
    refine GoR.call (op_call body16 rfl (walk_law12_awake hO.lt H)) rfl rfl ?_
    rintro abY w98 ⟨r97, rfl, VE, H⟩
    have oO := Stp.same hO VE
    replace hO := oO.own
    refine zo (op_pickT rfl rfl rfl) (za rfl (zn ?_))
    refine Go1.ret1 Try.func12 rfl ?_
    replace hB := ((((((((((((hB.trans AQ.fr).trans ko.fr).trans f0.fr).trans zS.fr).trans uo.fr).trans qC.fr).trans ux.fr).trans oX.fr).trans mO.fr).trans se.fr).trans sf.fr).trans i6.fr).trans oO.fr
    exact ⟨r97, rfl, hB.same, H⟩
   replace H := ifn h84 H
   refine zo (fun w => opB (op_eql rfl rfl w) (decide_eq_false h84)) (zo (op_pickT rfl rfl rfl) (zm rfl (zp (zp (zp ?_)))))
   refine zp (zo (op_pickF rfl rfl rfl) (zm rfl (zp (zo (op_pickF rfl rfl rfl) (za rfl ?_)))))
   refine zn ?_
   refine Go1.ret1 Try.func12 rfl ?_
   replace hB := (((((((((hB.trans AQ.fr).trans ko.fr).trans f0.fr).trans zS.fr).trans uo.fr).trans qC.fr).trans ux.fr).trans oX.fr).trans mO.fr).trans se.fr
   exact ⟨false, rfl, hB.same, H⟩
  replace H := ifn h41 H
  refine zo (fun w => opB (op_neq rfl rfl w) (ndF h41)) (zn (zt rfl rfl (zq ?_)))
  refine Go1.cut [] trivial ?_
  intro σ _
  refine zr ?_
  refine GoR.call (op_call body16 rfl (walk_law12_awake hO.lt H)) rfl rfl ?_
  rintro ab0 ab1 ⟨r103, rfl, Sl, H⟩
  have rR := Stp.same hO Sl
  replace hO := rR.own
  refine za rfl (zn ?_)
  refine Go1.ret1 Try.func12 rfl ?_
  replace hB := ((((((hB.trans AQ.fr).trans ko.fr).trans f0.fr).trans zS.fr).trans uo.fr).trans qC.fr).trans rR.fr
  exact ⟨r103, rfl, hB.same, H⟩
 replace H := ifn h29 H
 refine zo (fun w => opB (op_neq rfl rfl w) (ndF h29)) (zn (zt rfl rfl (zq (zr (za rfl ?_)))))
 refine zn ?_
 refine Go1.ret1 Try.func12 rfl ?_
 replace hB := (((hB.trans AQ.fr).trans ko.fr).trans f0.fr).trans zS.fr
 exact ⟨false, rfl, hB.same, H⟩
end Sg
