/- The walks: each call keeps to its plain transformer. Printed by walkgen.py. -/
import Derived.Test.YtjegjjdfgefkoaaTi
import Derived.Test.YtjegjjdfgefkoaaWEnumerateBuilds
import Derived.Test.YtjegjjdfgefkoaaWEnumerateBuildsb
import Derived.Test.YtjegjjdfgefkoaaAl
namespace Sg
open Go Go.RowKit Go.Proofs
set_option linter.unusedVariables false
set_option linter.unusedSimpArgs false
set_option maxRecDepth 100000
set_option maxHeartbeats 4000000
theorem body68 : Body Try.prog 68 := ⟨Try.f68, Try.func68, rfl, by kernel_rfl⟩
theorem body53 : Body Try.prog 53 := ⟨Try.f53, Try.func53, rfl, by kernel_rfl⟩
theorem walk_enumerate_replay {A : List Nat} {w0 : World} {aD : Option Addr} {aE : Nat} {av : Option Addr} {aw : Nat} {ap : Option Addr} {aq : Nat} {aF : Option Addr} {aG : Nat} {ax : Option Addr} {ay : Nat} {az : Option Addr} {aA : Nat} {e : Enum} (hA : ∀ b ∈ A, b < w0.heap.size) (ai : ISl (Rp.sl (Rp.int .i64)) A w0 aD aE e.Gens) (af : ISl (Rp.sl (Rp.int .i64)) A w0 av aw e.Elems) (ad : ISl (Rp.int .i64) A w0 ap aq e.Prefix) (aj : ISl (Rp.int .i64) A w0 aF aG e.Last) (ag : ISl (Rp.sl (Rp.int .i64)) A w0 ax ay e.Right) (ah : ISl (rpRule) A w0 az aA e.Rules) {K : Option run → Bool → Prop} (H : enumerate_replay e K) :
    CallsV Try.prog 53 #[.agg #[.int .i64 e.Points, .bool e.Monoid, .slice aD e.Gens.length aE, .slice av e.Elems.length aw, .slice ap e.Prefix.length aq, .slice aF e.Last.length aG, .slice ax e.Right.length ay, .slice az e.Rules.length aA, .int .i64 e.Done]] w0 (fun v w' => (∃ (r1 : Bool), v = .tuple #[.pointer none, .bool r1] ∧ Same w0 w' ∧ K none r1) ∨ (∃ (q : run), ∃ (r1 : Bool), ∃ (b_q : Nat), ∃ (bm : Nat), ∃ (bn : Option Addr), ∃ (bo : Nat), ∃ (dG : List Value), ∃ (aX : Nat), ∃ (aY : Option Addr), ∃ (a7 : Nat), ∃ (dk : List Value), ∃ (aQ : Nat), ∃ (aR : Option Addr), ∃ (aS : Nat), ∃ (c5 : List Value), ∃ (bp : Nat), ∃ (bq : Option Addr), ∃ (bt : Nat), ∃ (dH : List Value), ∃ (a8 : Nat), ∃ (a9 : Option Addr), ∃ (ba : Nat), ∃ (dl : List Value), ∃ (bc : Nat), ∃ (bf : Option Addr), ∃ (bg : Nat), ∃ (dm : List Value), ∃ (eO : Nat), ∃ (db : Nat), ∃ (de : Option Addr), ∃ (dg : Nat), ∃ (fI : List Value), ∃ (cI : Nat), ∃ (cJ : Option Addr), ∃ (cK : Nat), ∃ (fe : List Value), ∃ (cL : Nat), ∃ (cM : Option Addr), ∃ (cN : Nat), ∃ (ff : List Value), v = .tuple #[.pointer (some ⟨b_q, 0, none⟩), .bool r1] ∧ Same w0 w' ∧ (fun Z0 => Owns w0.heap.size w' Z0 A ∧ Els (Rp.sl (Rp.int .i64)) (bl Z0 ++ A) w' dG q.Enum.Gens ∧ Els (Rp.sl (Rp.int .i64)) (bl Z0 ++ A) w' dk q.Enum.Elems ∧ Els (Rp.int .i64) (bl Z0 ++ A) w' c5 q.Enum.Prefix ∧ Els (Rp.int .i64) (bl Z0 ++ A) w' dH q.Enum.Last ∧ Els (Rp.sl (Rp.int .i64)) (bl Z0 ++ A) w' dl q.Enum.Right ∧ Els (rpRule) (bl Z0 ++ A) w' dm q.Enum.Rules ∧ Els (Rp.str) (bl Z0 ++ A) w' fI q.words ∧ Els (Rp.int .i64) (bl Z0 ++ A) w' fe q.behind ∧ Els (Rp.int .i64) (bl Z0 ++ A) w' ff q.single ∧ K (some q) r1) [.blk b_q (.cells #[.int .i64 q.Enum.Points, .bool q.Enum.Monoid, .slice bn bm bo, .slice aY aX a7, .slice aR aQ aS, .slice bq bp bt, .slice a9 a8 ba, .slice bf bc bg, .int .i64 q.Enum.Done, .map (some eO), .slice de db dg, .slice cJ cI cK, .slice cM cL cN] 72 (0, 0)), .row 26 1 bn bm bo dG, .row 26 1 aY aX a7 dk, .row 3 1 aR aQ aS c5, .row 3 1 bq bp bt dH, .row 26 1 a9 a8 ba dl, .row 39 2 bf bc bg dm, .row 9 1 de db dg fI, .row 3 1 cJ cI cK fe, .row 3 1 cM cL cN ff, .any (mapE (fun a : List UInt8 => Value.string (gstr a)) (fun a : Int => Value.int .i64 a) eO q.number)])) := by
 refine CallsV.of (l := [.agg #[.int .i64 e.Points, .bool e.Monoid, .slice aD e.Gens.length aE, .slice av e.Elems.length aw, .slice ap e.Prefix.length aq, .slice aF e.Last.length aG, .slice ax e.Right.length ay, .slice az e.Rules.length aA, .int .i64 e.Done]]) Try.func53 rfl Try.ntmps53 rfl ?_
 have hO := Owns.start hA
 have hB := Fr.refl (bl []) w0
 unfold enumerate_replay at H
 refine zq (zr ?_)
 have hobt := obox (t := 29) (v := .agg #[.int .i64 e.Points, .bool e.Monoid, .slice aD e.Gens.length aE, .slice av e.Elems.length aw, .slice ap e.Prefix.length aq, .slice aF e.Last.length aG, .slice ax e.Right.length ay, .slice az e.Rules.length aA, .int .i64 e.Done]) (cs := #[.int .i64 e.Points, .bool e.Monoid, .slice aD e.Gens.length aE, .slice av e.Elems.length aw, .slice ap e.Prefix.length aq, .slice aF e.Last.length aG, .slice ax e.Right.length ay, .slice az e.Rules.length aA, .int .i64 e.Done]) hO rfl
 obtain ⟨w1, B2, d7, hs4, qE⟩ := hobt
 refine zg (qE rfl) ?_
 replace hO := d7.own
 refine za rfl (za rfl (zn (zq (zr (zo (op_fieldAddr Try.underlying29 rfl ti22 rfl (by decide)) ?_)))))
 refine zs (oblk (i := 2) 0 hO rfl rfl Try.underlying22 rfl rfl) (zo (op_fieldAddr Try.underlying29 rfl ti4 rfl (by decide)) (zs (oblk (i := 1) 0 hO rfl rfl Try.underlying4 rfl rfl) ?_))
 replace ai := (ai.ch (Ch.start A w0)).ch d7.ch
 refine GoR.call (op_call body49 rfl (walk_enumerate_begin hO.lt ai H)) rfl rfl ?_
 intro v9 w10 hcase13
 refine Or.elim hcase13 ?_ ?_
 ·refine exE fun r8 => andE fun hv14 => andE fun wy => fun H => ?_
  subst hv14
  clear hcase13
  replace H := oElimN H
  have ji := Stp.same hO wy
  replace hO := ji.own
  refine zm rfl (zo (op_extract rfl rfl) (zo (op_extract rfl rfl) (za rfl (za rfl (zn ?_)))))
  refine zq (zq (zr (zm rfl ?_)))
  by_cases h16 : r8 = (0 : Int)
  ·replace H := ifp h16 H
   refine zo (fun w => opB (op_neq rfl rfl w) (ndT h16)) (zn (zf rfl rfl (zk (zq (zb ?_)))))
   replace ai := ai.ch ji.ch
   replace hB := (hB.trans d7.fr).trans ji.fr
   have Z1 := ((Ch.start A w0).trans d7.ch).trans ji.ch
   replace af := af.ch Z1
   replace ad := ad.ch Z1
   replace aj := aj.ch Z1
   replace ag := ag.ch Z1
   replace ah := ah.ch Z1
   refine Go1.loopW (S := Unit) (fun s σ w => agrees σ [(1, .pointer (some ⟨B2, 0, none⟩)), (4, .pointer none)] ∧ (fun Z0 => Owns w0.heap.size w Z0 A ∧ ISl (Rp.sl (Rp.int .i64)) (bl Z0 ++ A) w aD aE e.Gens ∧ ISl (Rp.sl (Rp.int .i64)) (bl Z0 ++ A) w av aw e.Elems ∧ ISl (Rp.int .i64) (bl Z0 ++ A) w ap aq e.Prefix ∧ ISl (Rp.int .i64) (bl Z0 ++ A) w aF aG e.Last ∧ ISl (Rp.sl (Rp.int .i64)) (bl Z0 ++ A) w ax ay e.Right ∧ ISl (rpRule) (bl Z0 ++ A) w az aA e.Rules ∧ Fr (bl []) w0 (bl Z0) w) [.blk B2 (.cells #[.int .i64 e.Points, .bool e.Monoid, .slice aD e.Gens.length aE, .slice av e.Elems.length aw, .slice ap e.Prefix.length aq, .slice aF e.Last.length aG, .slice ax e.Right.length ay, .slice az e.Rules.length aA, .int .i64 e.Done] 29 (0, 0))]) H ⟨⟨rfl, rfl, trivial⟩, hO, ai, af, ad, aj, ag, ah, hB⟩ ?_
   intro X1 _
   intro H hX1 σ w17
   refine andE fun hag => andE fun hO => andE fun ai => andE fun af => andE fun ad => andE fun aj => andE fun ag => andE fun ah => fun hB => ?_
   refine Go1.keep [(1, .pointer (some ⟨B2, 0, none⟩)), (4, .pointer none)] hag ?_
   refine zq (zq ?_)
   refine Go1.drawS 0 [(0, .pure), (1, .pure), (2, .pure), (3, .pure), (4, .stable), (5, .pure), (6, .stable), (7, .pure)] mixed (by kernel_rfl) ?_
   intro w18 Er
   have o5 := Stp.same hO Er
   replace hO := o5.own
   refine GoQ.pure rfl (op_move rfl) rfl rfl ?_
   exact H.elim
  replace H := ifn h16 H
  refine zo (fun w => opB (op_neq rfl rfl w) (ndF h16)) (zn (zt rfl rfl (zq (zr (za rfl ?_)))))
  refine za rfl (zn ?_)
  refine Go1.ret2 Try.func53 rfl ?_
  replace hB := (hB.trans d7.fr).trans ji.fr
  exact Or.inl ⟨false, rfl, hB.same, H⟩
 ·refine exE fun r7 => exE fun r8 => exE fun fB => exE fun cq => exE fun cr => exE fun ct => exE fun et => exE fun bG => exE fun bH => exE fun bI => exE fun dY => exE fun bu => exE fun bv => exE fun bw => exE fun dJ => exE fun cu => exE fun cv => exE fun cw => exE fun eA => exE fun bK => exE fun bM => exE fun bN => exE fun d4 => exE fun bO => exE fun bP => exE fun bQ => exE fun d5 => exE fun al => exE fun dO => exE fun dP => exE fun dQ => exE fun f6 => exE fun dp => exE fun dq => exE fun dr => exE fun fM => exE fun dt => exE fun du => exE fun dw => exE fun fN => andE fun hv21 => andE fun wy => andE fun hN12 => andE fun bi => andE fun aP => andE fun aN => andE fun bh => andE fun aO => andE fun aW => andE fun cF => andE fun cx => andE fun cy => fun H => ?_
  subst hv21
  clear hcase13
  replace H := oElimS H
  have f0 := Stp.more hO wy hN12
  dsimp only [List.cons_append, List.nil_append] at f0
  replace hO := f0.own
  replace bi := bi.ch (Ch.assoc _ _ _ _)
  dsimp only [List.cons_append, List.nil_append] at bi
  replace aP := aP.ch (Ch.assoc _ _ _ _)
  dsimp only [List.cons_append, List.nil_append] at aP
  replace aN := aN.ch (Ch.assoc _ _ _ _)
  dsimp only [List.cons_append, List.nil_append] at aN
  replace bh := bh.ch (Ch.assoc _ _ _ _)
  dsimp only [List.cons_append, List.nil_append] at bh
  replace aO := aO.ch (Ch.assoc _ _ _ _)
  dsimp only [List.cons_append, List.nil_append] at aO
  replace aW := aW.ch (Ch.assoc _ _ _ _)
  dsimp only [List.cons_append, List.nil_append] at aW
  replace cF := cF.ch (Ch.assoc _ _ _ _)
  dsimp only [List.cons_append, List.nil_append] at cF
  replace cx := cx.ch (Ch.assoc _ _ _ _)
  dsimp only [List.cons_append, List.nil_append] at cx
  replace cy := cy.ch (Ch.assoc _ _ _ _)
  dsimp only [List.cons_append, List.nil_append] at cy
  refine zm rfl (zo (op_extract rfl rfl) (zo (op_extract rfl rfl) (za rfl (za rfl (zn ?_)))))
  refine zq (zq (zr (zm rfl ?_)))
  by_cases h34 : r8 = (0 : Int)
  ·replace H := ifp h34 H
   refine zo (fun w => opB (op_neq rfl rfl w) (ndT h34)) (zn (zf rfl rfl (zk (zq (zb ?_)))))
   replace ai := ai.ch f0.ch
   replace hB := (hB.trans d7.fr).trans f0.fr
   have Z2 := ((Ch.start A w0).trans d7.ch).trans f0.ch
   replace af := af.ch Z2
   replace ad := ad.ch Z2
   replace aj := aj.ch Z2
   replace ag := ag.ch Z2
   replace ah := ah.ch Z2
   refine Go1.loopW (S := Int × Bool × Int × List (List Int) × List (List Int) × List Int × List Int × List (List Int) × List Rule × List Str × List Int × List Int × (List (Str × Int))) (fun s σ w => match s with | (k2_36, b2_37, k2_38, d_39, d_45, d_51, d_57, d_63, d_69, d_75, d_81, d_87, m2_93) => ∃ (n44 : Nat), ∃ (p42 : Option Addr), ∃ (c43 : Nat), ∃ (m0 : List Value), ∃ (n50 : Nat), ∃ (p48 : Option Addr), ∃ (c49 : Nat), ∃ (m3 : List Value), ∃ (n56 : Nat), ∃ (p54 : Option Addr), ∃ (c55 : Nat), ∃ (m5 : List Value), ∃ (n62 : Nat), ∃ (p60 : Option Addr), ∃ (c61 : Nat), ∃ (m6 : List Value), ∃ (n68 : Nat), ∃ (p66 : Option Addr), ∃ (c67 : Nat), ∃ (m7 : List Value), ∃ (n74 : Nat), ∃ (p72 : Option Addr), ∃ (c73 : Nat), ∃ (m8 : List Value), ∃ (n80 : Nat), ∃ (p78 : Option Addr), ∃ (c79 : Nat), ∃ (m9 : List Value), ∃ (n86 : Nat), ∃ (p84 : Option Addr), ∃ (c85 : Nat), ∃ (iJ : List Value), ∃ (n92 : Nat), ∃ (p90 : Option Addr), ∃ (c91 : Nat), ∃ (iK : List Value), agrees σ [(1, .pointer (some ⟨B2, 0, none⟩)), (4, .pointer (some ⟨fB, 0, none⟩))] ∧ (fun Z0 => Owns w0.heap.size w Z0 A ∧ Els (Rp.sl (Rp.int .i64)) (bl Z0 ++ A) w m0 d_39 ∧ Els (Rp.sl (Rp.int .i64)) (bl Z0 ++ A) w m3 d_45 ∧ Els (Rp.int .i64) (bl Z0 ++ A) w m5 d_51 ∧ Els (Rp.int .i64) (bl Z0 ++ A) w m6 d_57 ∧ Els (Rp.sl (Rp.int .i64)) (bl Z0 ++ A) w m7 d_63 ∧ Els (rpRule) (bl Z0 ++ A) w m8 d_69 ∧ Els (Rp.str) (bl Z0 ++ A) w m9 d_75 ∧ Els (Rp.int .i64) (bl Z0 ++ A) w iJ d_81 ∧ Els (Rp.int .i64) (bl Z0 ++ A) w iK d_87 ∧ ISl (Rp.sl (Rp.int .i64)) (bl Z0 ++ A) w aD aE e.Gens ∧ ISl (Rp.sl (Rp.int .i64)) (bl Z0 ++ A) w av aw e.Elems ∧ ISl (Rp.int .i64) (bl Z0 ++ A) w ap aq e.Prefix ∧ ISl (Rp.int .i64) (bl Z0 ++ A) w aF aG e.Last ∧ ISl (Rp.sl (Rp.int .i64)) (bl Z0 ++ A) w ax ay e.Right ∧ ISl (rpRule) (bl Z0 ++ A) w az aA e.Rules ∧ Fr (bl []) w0 (bl Z0) w) [.blk fB (.cells #[.int .i64 k2_36, .bool b2_37, .slice p42 n44 c43, .slice p48 n50 c49, .slice p54 n56 c55, .slice p60 n62 c61, .slice p66 n68 c67, .slice p72 n74 c73, .int .i64 k2_38, .map (some al), .slice p78 n80 c79, .slice p84 n86 c85, .slice p90 n92 c91] 72 (0, 0)), .row 26 1 p42 n44 c43 m0, .row 26 1 p48 n50 c49 m3, .row 3 1 p54 n56 c55 m5, .row 3 1 p60 n62 c61 m6, .row 26 1 p66 n68 c67 m7, .row 39 2 p72 n74 c73 m8, .row 9 1 p78 n80 c79 m9, .row 3 1 p84 n86 c85 iJ, .row 3 1 p90 n92 c91 iK, .any (mapE (fun a : List UInt8 => Value.string (gstr a)) (fun a : Int => Value.int .i64 a) al m2_93), .blk B2 (.cells #[.int .i64 e.Points, .bool e.Monoid, .slice aD e.Gens.length aE, .slice av e.Elems.length aw, .slice ap e.Prefix.length aq, .slice aF e.Last.length aG, .slice ax e.Right.length ay, .slice az e.Rules.length aA, .int .i64 e.Done] 29 (0, 0))]) H ⟨cq, cr, ct, et, bG, bH, bI, dY, bu, bv, bw, dJ, cu, cv, cw, eA, bK, bM, bN, d4, bO, bP, bQ, d5, dO, dP, dQ, f6, dp, dq, dr, fM, dt, du, dw, fN, ⟨rfl, rfl, trivial⟩, hO, bi, aP, aN, bh, aO, aW, cF, cx, cy, ai, af, ad, aj, ag, ah, hB⟩ ?_
   intro X2
   refine prE fun k2_36 => prE fun b2_37 => prE fun k2_38 => prE fun d_39 => prE fun d_45 => prE fun d_51 => prE fun d_57 => prE fun d_63 => prE fun d_69 => prE fun d_75 => prE fun d_81 => prE fun d_87 => fun m2_93 => ?_
   intro H hX2 σ w35
   refine exE fun n44 => exE fun p42 => exE fun c43 => exE fun m0 => exE fun n50 => exE fun p48 => exE fun c49 => exE fun m3 => exE fun n56 => exE fun p54 => exE fun c55 => exE fun m5 => exE fun n62 => exE fun p60 => exE fun c61 => exE fun m6 => exE fun n68 => exE fun p66 => exE fun c67 => exE fun m7 => exE fun n74 => exE fun p72 => exE fun c73 => exE fun m8 => exE fun n80 => exE fun p78 => exE fun c79 => exE fun m9 => exE fun n86 => exE fun p84 => exE fun c85 => exE fun iJ => exE fun n92 => exE fun p90 => exE fun c91 => exE fun iK => andE fun hag => andE fun hO => andE fun gJ => andE fun gx => andE fun gC => andE fun gD => andE fun gE => andE fun gF => andE fun gK => andE fun cR => andE fun dn => andE fun ai => andE fun af => andE fun ad => andE fun aj => andE fun ag => andE fun ah => fun hB => ?_
   dsimp only at H
   refine Go1.keep [(1, .pointer (some ⟨B2, 0, none⟩)), (4, .pointer (some ⟨fB, 0, none⟩))] hag ?_
   refine zq (zq ?_)
   refine Go1.drawS 0 [(0, .pure), (1, .pure), (2, .pure), (3, .pure), (4, .stable), (5, .pure), (6, .stable), (7, .pure)] mixed (by kernel_rfl) ?_
   intro w94 TX
   have i6 := Stp.same hO TX
   replace hO := i6.own
   refine GoQ.pure rfl (op_move rfl) rfl rfl ?_
   refine GoQ.pure rfl (op_nilCheck rfl) rfl rfl ?_
   refine GoQ.pure rfl (op_fieldAddr Try.underlying72 rfl ti29 rfl (by decide)) rfl rfl ?_
   refine GoQ.pure rfl (op_fieldAddr Try.underlying29 rfl ti3 rfl (by decide)) rfl rfl ?_
   refine GoQ.stable rfl (oblk (i := 8) 0 hO rfl rfl Try.underlying3 rfl rfl) rfl rfl ?_
   refine GoQ.pure rfl (op_fieldAddr Try.underlying29 rfl ti3 rfl (by decide)) rfl rfl ?_
   refine GoQ.stable rfl (oblk (i := 8) 11 hO rfl rfl Try.underlying3 rfl rfl) rfl rfl ?_
   by_cases h97 : k2_38 < e.Done
   ·replace H := ifp h97 H
    refine GoQ.pure rfl (fun w => opB (op_lss rfl rfl w) (decide_eq_true h97)) rfl rfl ?_
    refine GoQ.nil ?_
    refine zt rfl rfl (zk (zb (zq (zr (zm rfl ?_)))))
    refine GoR.inl (vs := [.pointer (some ⟨fB, 0, none⟩)]) (caps := []) rfl rfl body50 Try.func50 rfl Try.ntmps50 rfl rfl rfl ?_
    intro RhR98 hR98
    refine zq (zr (za rfl (zn (zq ?_))))
    refine Go1.drawS 0 [(0, .pure), (1, .pure), (2, .pure), (3, .pure), (4, .stable), (5, .pure), (6, .pure), (7, .pure), (8, .pure), (9, .stable), (10, .pure), (11, .pure), (12, .pure)] mixed (by kernel_rfl) ?_
    intro w99 GP
    have ia := Stp.same hO GP
    replace hO := ia.own
    refine GoQ.pure rfl (op_move rfl) rfl rfl ?_
    refine GoQ.pure rfl (op_nilCheck rfl) rfl rfl ?_
    refine GoQ.pure rfl (op_fieldAddr Try.underlying72 rfl ti29 rfl (by decide)) rfl rfl ?_
    refine GoQ.pure rfl (op_fieldAddr Try.underlying29 rfl ti3 rfl (by decide)) rfl rfl ?_
    refine GoQ.stable rfl (oblk (i := 8) 0 hO rfl rfl Try.underlying3 rfl rfl) rfl rfl ?_
    refine GoQ.pure rfl (op_move rfl) rfl rfl ?_
    refine GoQ.pure rfl (op_nilCheck rfl) rfl rfl ?_
    refine GoQ.pure rfl (op_fieldAddr Try.underlying72 rfl ti29 rfl (by decide)) rfl rfl ?_
    refine GoQ.pure rfl (op_fieldAddr Try.underlying29 rfl ti22 rfl (by decide)) rfl rfl ?_
    refine GoQ.stable rfl (oblk (i := 3) 0 hO rfl rfl Try.underlying22 rfl rfl) rfl rfl ?_
    replace gx := (gx.ch i6.ch).ch ia.ch
    refine GoQ.pure rfl (op_lenN Try.underlying22 rfl (gx.neq hO 2 rfl)) rfl rfl ?_
    by_cases yh : k2_38 = (d_45.length : Int)
    ·replace H := ifp yh H
     refine GoQ.pure rfl (fun w => opB (op_eql rfl rfl w) (decide_eq_true yh)) rfl rfl ?_
     refine GoQ.pure rfl (op_assign rfl) rfl rfl ?_
     refine GoQ.nil ?_
     refine Go1.ret1V Try.func50 rfl (show _ = .bool true from rfl) ?_
     refine hR98 _ _ ?_
     refine zm rfl (zp (zp (zp (zo (op_pickT rfl rfl rfl) (zn ?_)))))
     refine zt rfl rfl (zq ?_)
     refine Go1.cut [] trivial ?_
     intro σ _
     refine zr (za rfl (za rfl (zn ?_)))
     refine Go1.ret2 Try.func53 rfl ?_
     replace hB := (hB.trans i6.fr).trans ia.fr
     exact Or.inl ⟨false, rfl, hB.same, H⟩
    replace H := ifn yh H
    refine GoQ.pure rfl (fun w => opB (op_eql rfl rfl w) (decide_eq_false yh)) rfl rfl ?_
    refine GoQ.pure rfl (op_assign rfl) rfl rfl ?_
    refine GoQ.nil ?_
    refine Go1.ret1V Try.func50 rfl (show _ = .bool false from rfl) ?_
    refine hR98 _ _ ?_
    refine zm rfl (zm rfl ?_)
    have Jp : Owns w0.heap.size w99 ([.blk fB (.cells #[.int .i64 k2_36, .bool b2_37, .slice p42 n44 c43, .slice p48 n50 c49, .slice p54 n56 c55, .slice p60 n62 c61, .slice p66 n68 c67, .slice p72 n74 c73, .int .i64 k2_38, .map (some al), .slice p78 n80 c79, .slice p84 n86 c85, .slice p90 n92 c91] 72 (0, 0)), .row 26 1 p42 n44 c43 m0, .row 26 1 p48 n50 c49 m3, .row 3 1 p54 n56 c55 m5, .row 3 1 p60 n62 c61 m6, .row 26 1 p66 n68 c67 m7, .row 39 2 p72 n74 c73 m8, .row 9 1 p78 n80 c79 m9, .row 3 1 p84 n86 c85 iJ, .row 3 1 p90 n92 c91 iK, .any (mapE (fun a : List UInt8 => Value.string (gstr a)) (fun a : Int => Value.int .i64 a) al m2_93)] ++ [.blk B2 (.cells #[.int .i64 e.Points, .bool e.Monoid, .slice aD e.Gens.length aE, .slice av e.Elems.length aw, .slice ap e.Prefix.length aq, .slice aF e.Last.length aG, .slice ax e.Right.length ay, .slice az e.Rules.length aA, .int .i64 e.Done] 29 (0, 0))]) A := hO
    have PR := Owns.split Jp
    have hca105 : Ch (bl [.blk fB (.cells #[.int .i64 k2_36, .bool b2_37, .slice p42 n44 c43, .slice p48 n50 c49, .slice p54 n56 c55, .slice p60 n62 c61, .slice p66 n68 c67, .slice p72 n74 c73, .int .i64 k2_38, .map (some al), .slice p78 n80 c79, .slice p84 n86 c85, .slice p90 n92 c91] 72 (0, 0)), .row 26 1 p42 n44 c43 m0, .row 26 1 p48 n50 c49 m3, .row 3 1 p54 n56 c55 m5, .row 3 1 p60 n62 c61 m6, .row 26 1 p66 n68 c67 m7, .row 39 2 p72 n74 c73 m8, .row 9 1 p78 n80 c79 m9, .row 3 1 p84 n86 c85 iJ, .row 3 1 p90 n92 c91 iK, .any (mapE (fun a : List UInt8 => Value.string (gstr a)) (fun a : Int => Value.int .i64 a) al m2_93), .blk B2 (.cells #[.int .i64 e.Points, .bool e.Monoid, .slice aD e.Gens.length aE, .slice av e.Elems.length aw, .slice ap e.Prefix.length aq, .slice aF e.Last.length aG, .slice ax e.Right.length ay, .slice az e.Rules.length aA, .int .i64 e.Done] 29 (0, 0))] ++ A) w99 (bl [.blk fB (.cells #[.int .i64 k2_36, .bool b2_37, .slice p42 n44 c43, .slice p48 n50 c49, .slice p54 n56 c55, .slice p60 n62 c61, .slice p66 n68 c67, .slice p72 n74 c73, .int .i64 k2_38, .map (some al), .slice p78 n80 c79, .slice p84 n86 c85, .slice p90 n92 c91] 72 (0, 0)), .row 26 1 p42 n44 c43 m0, .row 26 1 p48 n50 c49 m3, .row 3 1 p54 n56 c55 m5, .row 3 1 p60 n62 c61 m6, .row 26 1 p66 n68 c67 m7, .row 39 2 p72 n74 c73 m8, .row 9 1 p78 n80 c79 m9, .row 3 1 p84 n86 c85 iJ, .row 3 1 p90 n92 c91 iK, .any (mapE (fun a : List UInt8 => Value.string (gstr a)) (fun a : Int => Value.int .i64 a) al m2_93)] ++ (bl [.blk B2 (.cells #[.int .i64 e.Points, .bool e.Monoid, .slice aD e.Gens.length aE, .slice av e.Elems.length aw, .slice ap e.Prefix.length aq, .slice aF e.Last.length aG, .slice ax e.Right.length ay, .slice az e.Rules.length aA, .int .i64 e.Done] 29 (0, 0))] ++ A)) w99 := Ch.assoc' [.blk fB (.cells #[.int .i64 k2_36, .bool b2_37, .slice p42 n44 c43, .slice p48 n50 c49, .slice p54 n56 c55, .slice p60 n62 c61, .slice p66 n68 c67, .slice p72 n74 c73, .int .i64 k2_38, .map (some al), .slice p78 n80 c79, .slice p84 n86 c85, .slice p90 n92 c91] 72 (0, 0)), .row 26 1 p42 n44 c43 m0, .row 26 1 p48 n50 c49 m3, .row 3 1 p54 n56 c55 m5, .row 3 1 p60 n62 c61 m6, .row 26 1 p66 n68 c67 m7, .row 39 2 p72 n74 c73 m8, .row 9 1 p78 n80 c79 m9, .row 3 1 p84 n86 c85 iJ, .row 3 1 p90 n92 c91 iK, .any (mapE (fun a : List UInt8 => Value.string (gstr a)) (fun a : Int => Value.int .i64 a) al m2_93)] [.blk B2 (.cells #[.int .i64 e.Points, .bool e.Monoid, .slice aD e.Gens.length aE, .slice av e.Elems.length aw, .slice ap e.Prefix.length aq, .slice aF e.Last.length aG, .slice ax e.Right.length ay, .slice az e.Rules.length aA, .int .i64 e.Done] 29 (0, 0))] A w99
    have Z3 := i6.ch.trans ia.ch
    replace gJ := gJ.ch Z3
    replace gC := gC.ch Z3
    replace gD := gD.ch Z3
    replace gE := gE.ch Z3
    replace gF := gF.ch Z3
    replace gK := gK.ch Z3
    replace cR := cR.ch Z3
    replace dn := dn.ch Z3
    refine GoR.call (op_call body51 rfl (walk_enumerate_run_process (a0 := (⟨(⟨k2_36, b2_37, d_39, d_45, d_51, d_57, d_63, d_69, k2_38⟩ : Enum), m2_93, d_75, d_81, d_87⟩ : run)) PR (gJ.ch hca105) (gx.ch hca105) (gC.ch hca105) (gD.ch hca105) (gE.ch hca105) (gF.ch hca105) (gK.ch hca105) (cR.ch hca105) (dn.ch hca105) H)) rfl rfl ?_
    intro aaf GT
    refine exE fun r106 => exE fun q107 => exE fun kI => exE fun kK => exE fun kM => exE fun qW => exE fun j3 => exE fun j4 => exE fun j5 => exE fun qp => exE fun jz => exE fun jA => exE fun jB => exE fun pr => exE fun kN => exE fun kO => exE fun kP => exE fun qX => exE fun j6 => exE fun j7 => exE fun j8 => exE fun qq => exE fun j9 => exE fun ka => exE fun kc => exE fun qr => exE fun oE => exE fun oF => exE fun oG => exE fun vb => exE fun mG => exE fun mH => exE fun mI => exE fun tK => exE fun mJ => exE fun mK => exE fun mM => exE fun tL => andE fun hv113 => andE fun hN110 => andE fun wC => andE fun vV => andE fun vm => andE fun wD => andE fun vW => andE fun vX => andE fun zu => andE fun yi => andE fun yj => andE fun hF111 => fun H => ?_
    subst hv113
    have yX : Stp w0.heap.size A w99 [.blk fB (.cells #[.int .i64 k2_36, .bool b2_37, .slice p42 n44 c43, .slice p48 n50 c49, .slice p54 n56 c55, .slice p60 n62 c61, .slice p66 n68 c67, .slice p72 n74 c73, .int .i64 k2_38, .map (some al), .slice p78 n80 c79, .slice p84 n86 c85, .slice p90 n92 c91] 72 (0, 0)), .row 26 1 p42 n44 c43 m0, .row 26 1 p48 n50 c49 m3, .row 3 1 p54 n56 c55 m5, .row 3 1 p60 n62 c61 m6, .row 26 1 p66 n68 c67 m7, .row 39 2 p72 n74 c73 m8, .row 9 1 p78 n80 c79 m9, .row 3 1 p84 n86 c85 iJ, .row 3 1 p90 n92 c91 iK, .any (mapE (fun a : List UInt8 => Value.string (gstr a)) (fun a : Int => Value.int .i64 a) al m2_93), .blk B2 (.cells #[.int .i64 e.Points, .bool e.Monoid, .slice aD e.Gens.length aE, .slice av e.Elems.length aw, .slice ap e.Prefix.length aq, .slice aF e.Last.length aG, .slice ax e.Right.length ay, .slice az e.Rules.length aA, .int .i64 e.Done] 29 (0, 0))] GT [.blk fB (.cells #[.int .i64 q107.Enum.Points, .bool q107.Enum.Monoid, .slice kK kI kM, .slice j4 j3 j5, .slice jA jz jB, .slice kO kN kP, .slice j7 j6 j8, .slice ka j9 kc, .int .i64 q107.Enum.Done, .map (some al), .slice oF oE oG, .slice mH mG mI, .slice mK mJ mM] 72 (0, 0)), .row 26 1 kK kI kM qW, .row 26 1 j4 j3 j5 qp, .row 3 1 jA jz jB pr, .row 3 1 kO kN kP qX, .row 26 1 j7 j6 j8 qq, .row 39 2 ka j9 kc qr, .row 9 1 oF oE oG vb, .row 3 1 mH mG mI tK, .row 3 1 mK mJ mM tL, .any (mapE (fun a : List UInt8 => Value.string (gstr a)) (fun a : Int => Value.int .i64 a) al q107.number), .blk B2 (.cells #[.int .i64 e.Points, .bool e.Monoid, .slice aD e.Gens.length aE, .slice av e.Elems.length aw, .slice ap e.Prefix.length aq, .slice aF e.Last.length aG, .slice ax e.Right.length ay, .slice az e.Rules.length aA, .int .i64 e.Done] 29 (0, 0))] := Stp.join Jp hN110 hF111
    replace hO := yX.own
    have hca114 : Ch (bl [.blk fB (.cells #[.int .i64 q107.Enum.Points, .bool q107.Enum.Monoid, .slice kK kI kM, .slice j4 j3 j5, .slice jA jz jB, .slice kO kN kP, .slice j7 j6 j8, .slice ka j9 kc, .int .i64 q107.Enum.Done, .map (some al), .slice oF oE oG, .slice mH mG mI, .slice mK mJ mM] 72 (0, 0)), .row 26 1 kK kI kM qW, .row 26 1 j4 j3 j5 qp, .row 3 1 jA jz jB pr, .row 3 1 kO kN kP qX, .row 26 1 j7 j6 j8 qq, .row 39 2 ka j9 kc qr, .row 9 1 oF oE oG vb, .row 3 1 mH mG mI tK, .row 3 1 mK mJ mM tL, .any (mapE (fun a : List UInt8 => Value.string (gstr a)) (fun a : Int => Value.int .i64 a) al q107.number)] ++ (bl [.blk B2 (.cells #[.int .i64 e.Points, .bool e.Monoid, .slice aD e.Gens.length aE, .slice av e.Elems.length aw, .slice ap e.Prefix.length aq, .slice aF e.Last.length aG, .slice ax e.Right.length ay, .slice az e.Rules.length aA, .int .i64 e.Done] 29 (0, 0))] ++ A)) GT (bl [.blk fB (.cells #[.int .i64 q107.Enum.Points, .bool q107.Enum.Monoid, .slice kK kI kM, .slice j4 j3 j5, .slice jA jz jB, .slice kO kN kP, .slice j7 j6 j8, .slice ka j9 kc, .int .i64 q107.Enum.Done, .map (some al), .slice oF oE oG, .slice mH mG mI, .slice mK mJ mM] 72 (0, 0)), .row 26 1 kK kI kM qW, .row 26 1 j4 j3 j5 qp, .row 3 1 jA jz jB pr, .row 3 1 kO kN kP qX, .row 26 1 j7 j6 j8 qq, .row 39 2 ka j9 kc qr, .row 9 1 oF oE oG vb, .row 3 1 mH mG mI tK, .row 3 1 mK mJ mM tL, .any (mapE (fun a : List UInt8 => Value.string (gstr a)) (fun a : Int => Value.int .i64 a) al q107.number), .blk B2 (.cells #[.int .i64 e.Points, .bool e.Monoid, .slice aD e.Gens.length aE, .slice av e.Elems.length aw, .slice ap e.Prefix.length aq, .slice aF e.Last.length aG, .slice ax e.Right.length ay, .slice az e.Rules.length aA, .int .i64 e.Done] 29 (0, 0))] ++ A) GT := Ch.assoc [.blk fB (.cells #[.int .i64 q107.Enum.Points, .bool q107.Enum.Monoid, .slice kK kI kM, .slice j4 j3 j5, .slice jA jz jB, .slice kO kN kP, .slice j7 j6 j8, .slice ka j9 kc, .int .i64 q107.Enum.Done, .map (some al), .slice oF oE oG, .slice mH mG mI, .slice mK mJ mM] 72 (0, 0)), .row 26 1 kK kI kM qW, .row 26 1 j4 j3 j5 qp, .row 3 1 jA jz jB pr, .row 3 1 kO kN kP qX, .row 26 1 j7 j6 j8 qq, .row 39 2 ka j9 kc qr, .row 9 1 oF oE oG vb, .row 3 1 mH mG mI tK, .row 3 1 mK mJ mM tL, .any (mapE (fun a : List UInt8 => Value.string (gstr a)) (fun a : Int => Value.int .i64 a) al q107.number)] [.blk B2 (.cells #[.int .i64 e.Points, .bool e.Monoid, .slice aD e.Gens.length aE, .slice av e.Elems.length aw, .slice ap e.Prefix.length aq, .slice aF e.Last.length aG, .slice ax e.Right.length ay, .slice az e.Rules.length aA, .int .i64 e.Done] 29 (0, 0))] A GT
    by_cases AP : r106 = (0 : Int)
    ·replace H := ifp AP H
     refine zo (fun w => opB (op_neq rfl rfl w) (ndT AP)) (zo (op_pickF rfl rfl rfl) (zn (zf rfl rfl (zk ?_))))
     refine Go1.inBlock ?_
     replace wC := wC.ch hca114
     replace vV := vV.ch hca114
     replace vm := vm.ch hca114
     replace wD := wD.ch hca114
     replace vW := vW.ch hca114
     replace vX := vX.ch hca114
     replace zu := zu.ch hca114
     replace yi := yi.ch hca114
     replace yj := yj.ch hca114
     have Z4 := Z3.trans yX.ch
     replace ai := ai.ch Z4
     replace af := af.ch Z4
     replace ad := ad.ch Z4
     replace aj := aj.ch Z4
     replace ag := ag.ch Z4
     replace ah := ah.ch Z4
     replace hB := ((hB.trans i6.fr).trans ia.fr).trans yX.fr
     exact hX2 _ H _ _ ⟨kI, kK, kM, qW, j3, j4, j5, qp, jz, jA, jB, pr, kN, kO, kP, qX, j6, j7, j8, qq, j9, ka, kc, qr, oE, oF, oG, vb, mG, mH, mI, tK, mJ, mK, mM, tL, ⟨rfl, rfl, trivial⟩, hO, wC, vV, vm, wD, vW, vX, zu, yi, yj, ai, af, ad, aj, ag, ah, hB⟩
    replace H := ifn AP H
    refine zo (fun w => opB (op_neq rfl rfl w) (ndF AP)) (zo (op_pickF rfl rfl rfl) (zn (zt rfl rfl (zq (zr ?_)))))
    refine za rfl (za rfl (zn ?_))
    refine Go1.ret2 Try.func53 rfl ?_
    replace hB := ((hB.trans i6.fr).trans ia.fr).trans yX.fr
    exact Or.inl ⟨false, rfl, hB.same, H⟩
   replace H := ifn h97 H
   refine GoQ.pure rfl (fun w => opB (op_lss rfl rfl w) (decide_eq_false h97)) rfl rfl ?_
   refine GoQ.nil ?_
   refine zf rfl rfl ?_
   refine Go1.exit rfl ?_
   refine zq (zr (zm rfl (zm rfl (zs (oblkAgg (vs := [.int .i64 e.Points, .bool e.Monoid, .slice aD e.Gens.length aE, .slice av e.Elems.length aw, .slice ap e.Prefix.length aq, .slice aF e.Last.length aG, .slice ax e.Right.length ay, .slice az e.Rules.length aA, .int .i64 e.Done]) (i := 0) 11 hO rfl rfl Try.underlying29 rfl ti29 rfl) ?_))))
   refine GoR.inl (vs := [.pointer (some ⟨fB, 0, none⟩), .agg #[.int .i64 e.Points, .bool e.Monoid, .slice aD e.Gens.length aE, .slice av e.Elems.length aw, .slice ap e.Prefix.length aq, .slice aF e.Last.length aG, .slice ax e.Right.length ay, .slice az e.Rules.length aA, .int .i64 e.Done]]) (caps := []) rfl rfl body68 Try.func68 rfl Try.ntmps68 rfl rfl rfl ?_
   intro RhR116 hR116
   refine zq (zr ?_)
   have hobt := obox (t := 29) (v := .agg #[.int .i64 e.Points, .bool e.Monoid, .slice aD e.Gens.length aE, .slice av e.Elems.length aw, .slice ap e.Prefix.length aq, .slice aF e.Last.length aG, .slice ax e.Right.length ay, .slice az e.Rules.length aA, .int .i64 e.Done]) (cs := #[.int .i64 e.Points, .bool e.Monoid, .slice aD e.Gens.length aE, .slice av e.Elems.length aw, .slice ap e.Prefix.length aq, .slice aF e.Last.length aG, .slice ax e.Right.length ay, .slice az e.Rules.length aA, .int .i64 e.Done]) hO rfl
   obtain ⟨Sn, B118, qs, Wp, LU⟩ := hobt
   refine zg (LU rfl) ?_
   replace hO := qs.own
   refine za rfl (zn (zq ?_))
   refine Go1.drawS 0 [(0, .pure), (1, .pure), (2, .pure), (3, .pure), (4, .stable), (5, .pure), (6, .stable), (7, .pure), (8, .pure), (9, .pure), (10, .pure), (11, .pure), (12, .pure), (13, .stable), (14, .pure), (15, .stable), (16, .pure), (17, .pure), (18, .pure), (19, .pure), (20, .pure), (21, .pure), (22, .pure), (23, .stable), (24, .pure), (25, .stable), (26, .loud), (27, .pure), (28, .pure), (29, .pure), (30, .pure), (31, .pure), (32, .pure), (33, .stable), (34, .pure), (35, .stable), (36, .loud), (37, .pure), (38, .pure), (39, .pure), (40, .pure), (41, .pure), (42, .pure), (43, .stable), (44, .pure), (45, .stable), (46, .loud), (47, .pure), (48, .pure), (49, .pure), (50, .pure), (51, .pure), (52, .pure), (53, .stable), (54, .pure), (55, .stable), (56, .loud), (57, .pure), (58, .pure), (59, .pure), (60, .pure), (61, .pure), (62, .pure), (63, .stable), (64, .pure), (65, .stable), (66, .loud), (67, .pure), (68, .pure)] mixed (by kernel_rfl) ?_
   intro aag PS
   have qt := Stp.same hO PS
   replace hO := qt.own
   refine GoQ.pure rfl (op_move rfl) rfl rfl ?_
   refine GoQ.pure rfl (op_nilCheck rfl) rfl rfl ?_
   refine GoQ.pure rfl (op_fieldAddr Try.underlying72 rfl ti29 rfl (by decide)) rfl rfl ?_
   refine GoQ.pure rfl (op_fieldAddr Try.underlying29 rfl ti3 rfl (by decide)) rfl rfl ?_
   refine GoQ.stable rfl (oblk (i := 0) 1 hO rfl rfl Try.underlying3 rfl rfl) rfl rfl ?_
   refine GoQ.pure rfl (op_fieldAddr Try.underlying29 rfl ti3 rfl (by decide)) rfl rfl ?_
   refine GoQ.stable rfl (oblk (i := 0) 0 hO rfl rfl Try.underlying3 rfl rfl) rfl rfl ?_
   by_cases xD : k2_36 = e.Points
   ·replace H := ifp xD H
    refine GoQ.pure rfl (fun w => opB (op_eql rfl rfl w) (decide_eq_true xD)) rfl rfl ?_
    refine GoQ.pure rfl (op_move rfl) rfl rfl ?_
    refine GoQ.pure rfl (op_move rfl) rfl rfl ?_
    refine GoQ.pure rfl (op_nilCheck rfl) rfl rfl ?_
    refine GoQ.pure rfl (op_fieldAddr Try.underlying72 rfl ti29 rfl (by decide)) rfl rfl ?_
    refine GoQ.pure rfl (op_fieldAddr Try.underlying29 rfl ti3 rfl (by decide)) rfl rfl ?_
    refine GoQ.stable rfl (oblk (i := 8) 1 hO rfl rfl Try.underlying3 rfl rfl) rfl rfl ?_
    refine GoQ.pure rfl (op_fieldAddr Try.underlying29 rfl ti3 rfl (by decide)) rfl rfl ?_
    refine GoQ.stable rfl (oblk (i := 8) 0 hO rfl rfl Try.underlying3 rfl rfl) rfl rfl ?_
    by_cases Ct : k2_38 = e.Done
    ·replace H := ifp Ct H
     refine GoQ.pure rfl (fun w => opB (op_eql rfl rfl w) (decide_eq_true Ct)) rfl rfl ?_
     refine GoQ.pure rfl (op_pickT rfl rfl rfl) rfl rfl ?_
     refine GoQ.pure rfl (op_move rfl) rfl rfl ?_
     refine GoQ.pure rfl (op_move rfl) rfl rfl ?_
     refine GoQ.pure rfl (op_nilCheck rfl) rfl rfl ?_
     refine GoQ.pure rfl (op_fieldAddr Try.underlying72 rfl ti29 rfl (by decide)) rfl rfl ?_
     refine GoQ.pure rfl (op_fieldAddr Try.underlying29 rfl ti22 rfl (by decide)) rfl rfl ?_
     refine GoQ.stable rfl (oblk (i := 3) 1 hO rfl rfl Try.underlying22 rfl rfl) rfl rfl ?_
     refine GoQ.pure rfl (op_fieldAddr Try.underlying29 rfl ti22 rfl (by decide)) rfl rfl ?_
     refine GoQ.stable rfl (oblk (i := 3) 0 hO rfl rfl Try.underlying22 rfl rfl) rfl rfl ?_
     have Z5 := (i6.ch.trans qs.ch).trans qt.ch
     replace gx := gx.ch Z5
     have hobt := rowlend 3 hO rfl gx
     obtain ⟨PT, PU⟩ := hobt
     have hOc130 := hO.drop 3
     replace af := af.ch Z5
     refine GoQ.call rfl (op_call body69 (show ([.slice p48 n50 c49, .slice av e.Elems.length aw, .func (.func 70) #[] #[]] : List Value) = [.slice p48 d_45.length c49, .slice av e.Elems.length aw, .func (.func 70) #[] #[]] from by rw [← PU]) (walk_slices_EqualFunc_int hOc130.lt PT (af.ch (Owns.dropCh _ _ 3)) H)) (fun v w hr => by obtain ⟨_, _, hs, _⟩ := hr; assumption) rfl rfl ?_
     rintro aah aai ⟨r131, rfl, PV, H⟩
     have iW := Stp.same hO PV
     replace hO := iW.own
     refine GoQ.pure rfl (op_pickT rfl rfl rfl) rfl rfl ?_
     refine GoQ.pure rfl (op_move rfl) rfl rfl ?_
     cases r131
     ·replace H := ifn Bool.false_ne_true H
      refine GoQ.pass rfl rfl rfl ?_
      refine GoQ.pass rfl rfl rfl ?_
      refine GoQ.pass rfl rfl rfl ?_
      refine GoQ.pass rfl rfl rfl ?_
      refine GoQ.pass rfl rfl rfl ?_
      refine GoQ.pass rfl rfl rfl ?_
      refine GoQ.pass rfl rfl rfl ?_
      refine GoQ.pass rfl rfl rfl ?_
      refine GoQ.pure rfl (op_pickF rfl rfl rfl) rfl rfl ?_
      refine GoQ.pure rfl (op_move rfl) rfl rfl ?_
      refine GoQ.pass rfl rfl rfl ?_
      refine GoQ.pass rfl rfl rfl ?_
      refine GoQ.pass rfl rfl rfl ?_
      refine GoQ.pass rfl rfl rfl ?_
      refine GoQ.pass rfl rfl rfl ?_
      refine GoQ.pass rfl rfl rfl ?_
      refine GoQ.pass rfl rfl rfl ?_
      refine GoQ.pass rfl rfl rfl ?_
      refine GoQ.pure rfl (op_pickF rfl rfl rfl) rfl rfl ?_
      refine GoQ.pure rfl (op_move rfl) rfl rfl ?_
      refine GoQ.pass rfl rfl rfl ?_
      refine GoQ.pass rfl rfl rfl ?_
      refine GoQ.pass rfl rfl rfl ?_
      refine GoQ.pass rfl rfl rfl ?_
      refine GoQ.pass rfl rfl rfl ?_
      refine GoQ.pass rfl rfl rfl ?_
      refine GoQ.pass rfl rfl rfl ?_
      refine GoQ.pass rfl rfl rfl ?_
      refine GoQ.pure rfl (op_pickF rfl rfl rfl) rfl rfl ?_
      refine GoQ.pure rfl (op_move rfl) rfl rfl ?_
      refine GoQ.pass rfl rfl rfl ?_
      refine GoQ.pass rfl rfl rfl ?_
      refine GoQ.pass rfl rfl rfl ?_
      refine GoQ.pass rfl rfl rfl ?_
      refine GoQ.pass rfl rfl rfl ?_
      refine GoQ.pass rfl rfl rfl ?_
      refine GoQ.pass rfl rfl rfl ?_
      refine GoQ.pass rfl rfl rfl ?_
      refine GoQ.pure rfl (op_pickF rfl rfl rfl) rfl rfl ?_
      refine GoQ.pure rfl (op_assign rfl) rfl rfl ?_
      refine GoQ.nil ?_
      refine Go1.ret1V Try.func68 rfl (show _ = .bool false from rfl) ?_
      refine hR116 _ _ ?_
      refine za rfl (za rfl (zn ?_))
      replace hO := hO.drop 0
      have Z6 := iW.ch.trans (Owns.dropCh _ _ 0)
      replace gx := gx.ch Z6
      replace af := af.ch Z6
      have Z7 := (Z5.trans iW.ch).trans (Owns.dropCh _ _ 0)
      replace gJ := gJ.ch Z7
      replace gC := gC.ch Z7
      replace gD := gD.ch Z7
      replace gE := gE.ch Z7
      replace gF := gF.ch Z7
      replace gK := gK.ch Z7
      replace cR := cR.ch Z7
      replace dn := dn.ch Z7
      replace ai := ai.ch Z7
      replace ad := ad.ch Z7
      replace aj := aj.ch Z7
      replace ag := ag.ch Z7
      replace ah := ah.ch Z7
      replace hB := ((((hB.trans i6.fr).trans qs.fr).trans qt.fr).trans iW.fr).trans (Owns.dropFr _ _ 0)
      dsimp only [eS, eZ] at hB hO ai af ad aj ag ah gJ gx gC gD gE gF gK cR dn
      replace hO := hO.drop 11
      replace ai := ai.ch (Owns.dropCh _ _ 11)
      replace af := af.ch (Owns.dropCh _ _ 11)
      replace ad := ad.ch (Owns.dropCh _ _ 11)
      replace aj := aj.ch (Owns.dropCh _ _ 11)
      replace ag := ag.ch (Owns.dropCh _ _ 11)
      replace ah := ah.ch (Owns.dropCh _ _ 11)
      replace gJ := gJ.ch (Owns.dropCh _ _ 11)
      replace gx := gx.ch (Owns.dropCh _ _ 11)
      replace gC := gC.ch (Owns.dropCh _ _ 11)
      replace gD := gD.ch (Owns.dropCh _ _ 11)
      replace gE := gE.ch (Owns.dropCh _ _ 11)
      replace gF := gF.ch (Owns.dropCh _ _ 11)
      replace gK := gK.ch (Owns.dropCh _ _ 11)
      replace cR := cR.ch (Owns.dropCh _ _ 11)
      replace dn := dn.ch (Owns.dropCh _ _ 11)
      replace hB := hB.trans (Owns.dropFr _ _ 11)
      dsimp only [eS, eZ] at hB hO ai af ad aj ag ah gJ gx gC gD gE gF gK cR dn
      refine Go1.ret2 Try.func53 rfl ?_
      exact Or.inr ⟨(⟨(⟨k2_36, b2_37, d_39, d_45, d_51, d_57, d_63, d_69, k2_38⟩ : Enum), m2_93, d_75, d_81, d_87⟩ : run), false, fB, n44, p42, c43, m0, n50, p48, c49, m3, n56, p54, c55, m5, n62, p60, c61, m6, n68, p66, c67, m7, n74, p72, c73, m8, al, n80, p78, c79, m9, n86, p84, c85, iJ, n92, p90, c91, iK, rfl, hB.same, hO, gJ, gx, gC, gD, gE, gF, gK, cR, dn, H⟩
     replace H := ifp rfl H
     refine GoQ.pure rfl (op_move rfl) rfl rfl ?_
     refine GoQ.pure rfl (op_nilCheck rfl) rfl rfl ?_
     refine GoQ.pure rfl (op_fieldAddr Try.underlying72 rfl ti29 rfl (by decide)) rfl rfl ?_
     refine GoQ.pure rfl (op_fieldAddr Try.underlying29 rfl ti26 rfl (by decide)) rfl rfl ?_
     refine GoQ.stable rfl (oblk (i := 4) 1 hO rfl rfl Try.underlying26 rfl rfl) rfl rfl ?_
     refine GoQ.pure rfl (op_fieldAddr Try.underlying29 rfl ti26 rfl (by decide)) rfl rfl ?_
     refine GoQ.stable rfl (oblk (i := 4) 0 hO rfl rfl Try.underlying26 rfl rfl) rfl rfl ?_
     replace gC := (gC.ch Z5).ch iW.ch
     have hobt := rowlend 4 hO rfl gC
     obtain ⟨GU, GW⟩ := hobt
     have hOc139 := hO.drop 4
     replace ad := (ad.ch Z5).ch iW.ch
     refine GoQ.call rfl (op_call body70 (show ([.slice p54 n56 c55, .slice ap e.Prefix.length aq] : List Value) = [.slice p54 d_51.length c55, .slice ap e.Prefix.length aq] from by rw [← GW]) (walk_slices_Equal_int hOc139.lt GU (ad.ch (Owns.dropCh _ _ 4)) H)) (fun v w hr => by obtain ⟨_, _, hs, _⟩ := hr; assumption) rfl rfl ?_
     rintro aaj aak ⟨r140, rfl, PW, H⟩
     have iE := Stp.same hO PW
     replace hO := iE.own
     refine GoQ.pure rfl (op_pickT rfl rfl rfl) rfl rfl ?_
     refine GoQ.pure rfl (op_move rfl) rfl rfl ?_
     cases r140
     ·replace H := ifn Bool.false_ne_true H
      refine GoQ.pass rfl rfl rfl ?_
      refine GoQ.pass rfl rfl rfl ?_
      refine GoQ.pass rfl rfl rfl ?_
      refine GoQ.pass rfl rfl rfl ?_
      refine GoQ.pass rfl rfl rfl ?_
      refine GoQ.pass rfl rfl rfl ?_
      refine GoQ.pass rfl rfl rfl ?_
      refine GoQ.pass rfl rfl rfl ?_
      refine GoQ.pure rfl (op_pickF rfl rfl rfl) rfl rfl ?_
      refine GoQ.pure rfl (op_move rfl) rfl rfl ?_
      refine GoQ.pass rfl rfl rfl ?_
      refine GoQ.pass rfl rfl rfl ?_
      refine GoQ.pass rfl rfl rfl ?_
      refine GoQ.pass rfl rfl rfl ?_
      refine GoQ.pass rfl rfl rfl ?_
      refine GoQ.pass rfl rfl rfl ?_
      refine GoQ.pass rfl rfl rfl ?_
      refine GoQ.pass rfl rfl rfl ?_
      refine GoQ.pure rfl (op_pickF rfl rfl rfl) rfl rfl ?_
      refine GoQ.pure rfl (op_move rfl) rfl rfl ?_
      refine GoQ.pass rfl rfl rfl ?_
      refine GoQ.pass rfl rfl rfl ?_
      refine GoQ.pass rfl rfl rfl ?_
      refine GoQ.pass rfl rfl rfl ?_
      refine GoQ.pass rfl rfl rfl ?_
      refine GoQ.pass rfl rfl rfl ?_
      refine GoQ.pass rfl rfl rfl ?_
      refine GoQ.pass rfl rfl rfl ?_
      refine GoQ.pure rfl (op_pickF rfl rfl rfl) rfl rfl ?_
      refine GoQ.pure rfl (op_assign rfl) rfl rfl ?_
      refine GoQ.nil ?_
      refine Go1.ret1V Try.func68 rfl (show _ = .bool false from rfl) ?_
      refine hR116 _ _ ?_
      refine za rfl (za rfl (zn ?_))
      replace hO := hO.drop 0
      have Z8 := iE.ch.trans (Owns.dropCh _ _ 0)
      replace gC := gC.ch Z8
      replace ad := ad.ch Z8
      have Z9 := (iW.ch.trans iE.ch).trans (Owns.dropCh _ _ 0)
      replace gx := gx.ch Z9
      replace af := af.ch Z9
      have Z10 := ((Z5.trans iW.ch).trans iE.ch).trans (Owns.dropCh _ _ 0)
      replace gJ := gJ.ch Z10
      replace gD := gD.ch Z10
      replace gE := gE.ch Z10
      replace gF := gF.ch Z10
      replace gK := gK.ch Z10
      replace cR := cR.ch Z10
      replace dn := dn.ch Z10
      replace ai := ai.ch Z10
      replace aj := aj.ch Z10
      replace ag := ag.ch Z10
      replace ah := ah.ch Z10
      replace hB := (((((hB.trans i6.fr).trans qs.fr).trans qt.fr).trans iW.fr).trans iE.fr).trans (Owns.dropFr _ _ 0)
      dsimp only [eS, eZ] at hB hO ai af ad aj ag ah gJ gx gC gD gE gF gK cR dn
      replace hO := hO.drop 11
      replace ai := ai.ch (Owns.dropCh _ _ 11)
      replace af := af.ch (Owns.dropCh _ _ 11)
      replace ad := ad.ch (Owns.dropCh _ _ 11)
      replace aj := aj.ch (Owns.dropCh _ _ 11)
      replace ag := ag.ch (Owns.dropCh _ _ 11)
      replace ah := ah.ch (Owns.dropCh _ _ 11)
      replace gJ := gJ.ch (Owns.dropCh _ _ 11)
      replace gx := gx.ch (Owns.dropCh _ _ 11)
      replace gC := gC.ch (Owns.dropCh _ _ 11)
      replace gD := gD.ch (Owns.dropCh _ _ 11)
      replace gE := gE.ch (Owns.dropCh _ _ 11)
      replace gF := gF.ch (Owns.dropCh _ _ 11)
      replace gK := gK.ch (Owns.dropCh _ _ 11)
      replace cR := cR.ch (Owns.dropCh _ _ 11)
      replace dn := dn.ch (Owns.dropCh _ _ 11)
      replace hB := hB.trans (Owns.dropFr _ _ 11)
      dsimp only [eS, eZ] at hB hO ai af ad aj ag ah gJ gx gC gD gE gF gK cR dn
      refine Go1.ret2 Try.func53 rfl ?_
      exact Or.inr ⟨(⟨(⟨k2_36, b2_37, d_39, d_45, d_51, d_57, d_63, d_69, k2_38⟩ : Enum), m2_93, d_75, d_81, d_87⟩ : run), false, fB, n44, p42, c43, m0, n50, p48, c49, m3, n56, p54, c55, m5, n62, p60, c61, m6, n68, p66, c67, m7, n74, p72, c73, m8, al, n80, p78, c79, m9, n86, p84, c85, iJ, n92, p90, c91, iK, rfl, hB.same, hO, gJ, gx, gC, gD, gE, gF, gK, cR, dn, H⟩
     replace H := ifp rfl H
     refine GoQ.pure rfl (op_move rfl) rfl rfl ?_
     refine GoQ.pure rfl (op_nilCheck rfl) rfl rfl ?_
     refine GoQ.pure rfl (op_fieldAddr Try.underlying72 rfl ti29 rfl (by decide)) rfl rfl ?_
     refine GoQ.pure rfl (op_fieldAddr Try.underlying29 rfl ti26 rfl (by decide)) rfl rfl ?_
     refine GoQ.stable rfl (oblk (i := 5) 1 hO rfl rfl Try.underlying26 rfl rfl) rfl rfl ?_
     refine GoQ.pure rfl (op_fieldAddr Try.underlying29 rfl ti26 rfl (by decide)) rfl rfl ?_
     refine GoQ.stable rfl (oblk (i := 5) 0 hO rfl rfl Try.underlying26 rfl rfl) rfl rfl ?_
     replace gD := ((gD.ch Z5).ch iW.ch).ch iE.ch
     have hobt := rowlend 5 hO rfl gD
     obtain ⟨PX, PY⟩ := hobt
     have hOc148 := hO.drop 5
     replace aj := ((aj.ch Z5).ch iW.ch).ch iE.ch
     refine GoQ.call rfl (op_call body70 (show ([.slice p60 n62 c61, .slice aF e.Last.length aG] : List Value) = [.slice p60 d_57.length c61, .slice aF e.Last.length aG] from by rw [← PY]) (walk_slices_Equal_int hOc148.lt PX (aj.ch (Owns.dropCh _ _ 5)) H)) (fun v w hr => by obtain ⟨_, _, hs, _⟩ := hr; assumption) rfl rfl ?_
     rintro aal Tv ⟨r149, rfl, P0, H⟩
     have kA := Stp.same hO P0
     replace hO := kA.own
     refine GoQ.pure rfl (op_pickT rfl rfl rfl) rfl rfl ?_
     refine GoQ.pure rfl (op_move rfl) rfl rfl ?_
     cases r149
     ·replace H := ifn Bool.false_ne_true H
      refine GoQ.pass rfl rfl rfl ?_
      refine GoQ.pass rfl rfl rfl ?_
      refine GoQ.pass rfl rfl rfl ?_
      refine GoQ.pass rfl rfl rfl ?_
      refine GoQ.pass rfl rfl rfl ?_
      refine GoQ.pass rfl rfl rfl ?_
      refine GoQ.pass rfl rfl rfl ?_
      refine GoQ.pass rfl rfl rfl ?_
      refine GoQ.pure rfl (op_pickF rfl rfl rfl) rfl rfl ?_
      refine GoQ.pure rfl (op_move rfl) rfl rfl ?_
      refine GoQ.pass rfl rfl rfl ?_
      refine GoQ.pass rfl rfl rfl ?_
      refine GoQ.pass rfl rfl rfl ?_
      refine GoQ.pass rfl rfl rfl ?_
      refine GoQ.pass rfl rfl rfl ?_
      refine GoQ.pass rfl rfl rfl ?_
      refine GoQ.pass rfl rfl rfl ?_
      refine GoQ.pass rfl rfl rfl ?_
      refine GoQ.pure rfl (op_pickF rfl rfl rfl) rfl rfl ?_
      refine GoQ.pure rfl (op_assign rfl) rfl rfl ?_
      refine GoQ.nil ?_
      refine Go1.ret1V Try.func68 rfl (show _ = .bool false from rfl) ?_
      refine hR116 _ _ ?_
      refine za rfl (za rfl (zn ?_))
      replace hO := hO.drop 0
      have Z11 := kA.ch.trans (Owns.dropCh _ _ 0)
      replace gD := gD.ch Z11
      replace aj := aj.ch Z11
      have Z12 := (iE.ch.trans kA.ch).trans (Owns.dropCh _ _ 0)
      replace gC := gC.ch Z12
      replace ad := ad.ch Z12
      have Z13 := ((iW.ch.trans iE.ch).trans kA.ch).trans (Owns.dropCh _ _ 0)
      replace gx := gx.ch Z13
      replace af := af.ch Z13
      have Z14 := (((Z5.trans iW.ch).trans iE.ch).trans kA.ch).trans (Owns.dropCh _ _ 0)
      replace gJ := gJ.ch Z14
      replace gE := gE.ch Z14
      replace gF := gF.ch Z14
      replace gK := gK.ch Z14
      replace cR := cR.ch Z14
      replace dn := dn.ch Z14
      replace ai := ai.ch Z14
      replace ag := ag.ch Z14
      replace ah := ah.ch Z14
      replace hB := ((((((hB.trans i6.fr).trans qs.fr).trans qt.fr).trans iW.fr).trans iE.fr).trans kA.fr).trans (Owns.dropFr _ _ 0)
      dsimp only [eS, eZ] at hB hO ai af ad aj ag ah gJ gx gC gD gE gF gK cR dn
      replace hO := hO.drop 11
      replace ai := ai.ch (Owns.dropCh _ _ 11)
      replace af := af.ch (Owns.dropCh _ _ 11)
      replace ad := ad.ch (Owns.dropCh _ _ 11)
      replace aj := aj.ch (Owns.dropCh _ _ 11)
      replace ag := ag.ch (Owns.dropCh _ _ 11)
      replace ah := ah.ch (Owns.dropCh _ _ 11)
      replace gJ := gJ.ch (Owns.dropCh _ _ 11)
      replace gx := gx.ch (Owns.dropCh _ _ 11)
      replace gC := gC.ch (Owns.dropCh _ _ 11)
      replace gD := gD.ch (Owns.dropCh _ _ 11)
      replace gE := gE.ch (Owns.dropCh _ _ 11)
      replace gF := gF.ch (Owns.dropCh _ _ 11)
      replace gK := gK.ch (Owns.dropCh _ _ 11)
      replace cR := cR.ch (Owns.dropCh _ _ 11)
      replace dn := dn.ch (Owns.dropCh _ _ 11)
      replace hB := hB.trans (Owns.dropFr _ _ 11)
      dsimp only [eS, eZ] at hB hO ai af ad aj ag ah gJ gx gC gD gE gF gK cR dn
      refine Go1.ret2 Try.func53 rfl ?_
      exact Or.inr ⟨(⟨(⟨k2_36, b2_37, d_39, d_45, d_51, d_57, d_63, d_69, k2_38⟩ : Enum), m2_93, d_75, d_81, d_87⟩ : run), false, fB, n44, p42, c43, m0, n50, p48, c49, m3, n56, p54, c55, m5, n62, p60, c61, m6, n68, p66, c67, m7, n74, p72, c73, m8, al, n80, p78, c79, m9, n86, p84, c85, iJ, n92, p90, c91, iK, rfl, hB.same, hO, gJ, gx, gC, gD, gE, gF, gK, cR, dn, H⟩
     replace H := ifp rfl H
     refine GoQ.pure rfl (op_move rfl) rfl rfl ?_
     refine GoQ.pure rfl (op_nilCheck rfl) rfl rfl ?_
     refine GoQ.pure rfl (op_fieldAddr Try.underlying72 rfl ti29 rfl (by decide)) rfl rfl ?_
     refine GoQ.pure rfl (op_fieldAddr Try.underlying29 rfl ti22 rfl (by decide)) rfl rfl ?_
     refine GoQ.stable rfl (oblk (i := 6) 1 hO rfl rfl Try.underlying22 rfl rfl) rfl rfl ?_
     refine GoQ.pure rfl (op_fieldAddr Try.underlying29 rfl ti22 rfl (by decide)) rfl rfl ?_
     refine GoQ.stable rfl (oblk (i := 6) 0 hO rfl rfl Try.underlying22 rfl rfl) rfl rfl ?_
     have Z15 := ((Z5.trans iW.ch).trans iE.ch).trans kA.ch
     replace gE := gE.ch Z15
     have hobt := rowlend 6 hO rfl gE
     obtain ⟨P1, P2⟩ := hobt
     have hOc157 := hO.drop 6
     replace ag := ag.ch Z15
     refine GoQ.call rfl (op_call body69 (show ([.slice p66 n68 c67, .slice ax e.Right.length ay, .func (.func 70) #[] #[]] : List Value) = [.slice p66 d_63.length c67, .slice ax e.Right.length ay, .func (.func 70) #[] #[]] from by rw [← P2]) (walk_slices_EqualFunc_int hOc157.lt P1 (ag.ch (Owns.dropCh _ _ 6)) H)) (fun v w hr => by obtain ⟨_, _, hs, _⟩ := hr; assumption) rfl rfl ?_
     rintro aam LV ⟨r158, rfl, P3, H⟩
     have qu := Stp.same hO P3
     replace hO := qu.own
     refine GoQ.pure rfl (op_pickT rfl rfl rfl) rfl rfl ?_
     refine GoQ.pure rfl (op_move rfl) rfl rfl ?_
     cases r158
     ·replace H := ifn Bool.false_ne_true H
      refine GoQ.pass rfl rfl rfl ?_
      refine GoQ.pass rfl rfl rfl ?_
      refine GoQ.pass rfl rfl rfl ?_
      refine GoQ.pass rfl rfl rfl ?_
      refine GoQ.pass rfl rfl rfl ?_
      refine GoQ.pass rfl rfl rfl ?_
      refine GoQ.pass rfl rfl rfl ?_
      refine GoQ.pass rfl rfl rfl ?_
      refine GoQ.pure rfl (op_pickF rfl rfl rfl) rfl rfl ?_
      refine GoQ.pure rfl (op_assign rfl) rfl rfl ?_
      refine GoQ.nil ?_
      refine Go1.ret1V Try.func68 rfl (show _ = .bool false from rfl) ?_
      refine hR116 _ _ ?_
      refine za rfl (za rfl (zn ?_))
      replace hO := hO.drop 0
      have Z16 := qu.ch.trans (Owns.dropCh _ _ 0)
      replace gE := gE.ch Z16
      replace ag := ag.ch Z16
      have Z17 := (kA.ch.trans qu.ch).trans (Owns.dropCh _ _ 0)
      replace gD := gD.ch Z17
      replace aj := aj.ch Z17
      have Z18 := ((iE.ch.trans kA.ch).trans qu.ch).trans (Owns.dropCh _ _ 0)
      replace gC := gC.ch Z18
      replace ad := ad.ch Z18
      have Z19 := (((iW.ch.trans iE.ch).trans kA.ch).trans qu.ch).trans (Owns.dropCh _ _ 0)
      replace gx := gx.ch Z19
      replace af := af.ch Z19
      have Z20 := (Z15.trans qu.ch).trans (Owns.dropCh _ _ 0)
      replace gJ := gJ.ch Z20
      replace gF := gF.ch Z20
      replace gK := gK.ch Z20
      replace cR := cR.ch Z20
      replace dn := dn.ch Z20
      replace ai := ai.ch Z20
      replace ah := ah.ch Z20
      replace hB := (((((((hB.trans i6.fr).trans qs.fr).trans qt.fr).trans iW.fr).trans iE.fr).trans kA.fr).trans qu.fr).trans (Owns.dropFr _ _ 0)
      dsimp only [eS, eZ] at hB hO ai af ad aj ag ah gJ gx gC gD gE gF gK cR dn
      replace hO := hO.drop 11
      replace ai := ai.ch (Owns.dropCh _ _ 11)
      replace af := af.ch (Owns.dropCh _ _ 11)
      replace ad := ad.ch (Owns.dropCh _ _ 11)
      replace aj := aj.ch (Owns.dropCh _ _ 11)
      replace ag := ag.ch (Owns.dropCh _ _ 11)
      replace ah := ah.ch (Owns.dropCh _ _ 11)
      replace gJ := gJ.ch (Owns.dropCh _ _ 11)
      replace gx := gx.ch (Owns.dropCh _ _ 11)
      replace gC := gC.ch (Owns.dropCh _ _ 11)
      replace gD := gD.ch (Owns.dropCh _ _ 11)
      replace gE := gE.ch (Owns.dropCh _ _ 11)
      replace gF := gF.ch (Owns.dropCh _ _ 11)
      replace gK := gK.ch (Owns.dropCh _ _ 11)
      replace cR := cR.ch (Owns.dropCh _ _ 11)
      replace dn := dn.ch (Owns.dropCh _ _ 11)
      replace hB := hB.trans (Owns.dropFr _ _ 11)
      dsimp only [eS, eZ] at hB hO ai af ad aj ag ah gJ gx gC gD gE gF gK cR dn
      refine Go1.ret2 Try.func53 rfl ?_
      exact Or.inr ⟨(⟨(⟨k2_36, b2_37, d_39, d_45, d_51, d_57, d_63, d_69, k2_38⟩ : Enum), m2_93, d_75, d_81, d_87⟩ : run), false, fB, n44, p42, c43, m0, n50, p48, c49, m3, n56, p54, c55, m5, n62, p60, c61, m6, n68, p66, c67, m7, n74, p72, c73, m8, al, n80, p78, c79, m9, n86, p84, c85, iJ, n92, p90, c91, iK, rfl, hB.same, hO, gJ, gx, gC, gD, gE, gF, gK, cR, dn, H⟩
     replace H := ifp rfl H
     refine GoQ.pure rfl (op_move rfl) rfl rfl ?_
     refine GoQ.pure rfl (op_nilCheck rfl) rfl rfl ?_
     refine GoQ.pure rfl (op_fieldAddr Try.underlying72 rfl ti29 rfl (by decide)) rfl rfl ?_
     refine GoQ.pure rfl (op_fieldAddr Try.underlying29 rfl ti27 rfl (by decide)) rfl rfl ?_
     refine GoQ.stable rfl (oblk (i := 7) 1 hO rfl rfl Try.underlying27 rfl rfl) rfl rfl ?_
     refine GoQ.pure rfl (op_fieldAddr Try.underlying29 rfl ti27 rfl (by decide)) rfl rfl ?_
     refine GoQ.stable rfl (oblk (i := 7) 0 hO rfl rfl Try.underlying27 rfl rfl) rfl rfl ?_
     replace gF := (gF.ch Z15).ch qu.ch
     have hobt := rowlend 7 hO rfl gF
     obtain ⟨P4, P5⟩ := hobt
     have hOc166 := hO.drop 7
     replace ah := (ah.ch Z15).ch qu.ch
     refine GoQ.call rfl (op_call body71 (show ([.slice p72 n74 c73, .slice az e.Rules.length aA] : List Value) = [.slice p72 d_69.length c73, .slice az e.Rules.length aA] from by rw [← P5]) (walk_slices_Equal_api_Rule hOc166.lt P4 (ah.ch (Owns.dropCh _ _ 7)) H)) (fun v w hr => by obtain ⟨_, _, hs, _⟩ := hr; assumption) rfl rfl ?_
     rintro SD J3 ⟨r167, rfl, F6, H⟩
     have gW := Stp.same hO F6
     replace hO := gW.own
     refine GoQ.pure rfl (op_pickT rfl rfl rfl) rfl rfl ?_
     refine GoQ.pure rfl (op_assign rfl) rfl rfl ?_
     refine GoQ.nil ?_
     refine Go1.ret1V Try.func68 rfl (show _ = .bool r167 from rfl) ?_
     refine hR116 _ _ ?_
     refine za rfl (za rfl (zn ?_))
     replace hO := hO.drop 0
     have Z21 := gW.ch.trans (Owns.dropCh _ _ 0)
     replace gF := gF.ch Z21
     replace ah := ah.ch Z21
     have Z22 := (qu.ch.trans gW.ch).trans (Owns.dropCh _ _ 0)
     replace gE := gE.ch Z22
     replace ag := ag.ch Z22
     have Z23 := ((kA.ch.trans qu.ch).trans gW.ch).trans (Owns.dropCh _ _ 0)
     replace gD := gD.ch Z23
     replace aj := aj.ch Z23
     have Z24 := (((iE.ch.trans kA.ch).trans qu.ch).trans gW.ch).trans (Owns.dropCh _ _ 0)
     replace gC := gC.ch Z24
     replace ad := ad.ch Z24
     have Z25 := ((((iW.ch.trans iE.ch).trans kA.ch).trans qu.ch).trans gW.ch).trans (Owns.dropCh _ _ 0)
     replace gx := gx.ch Z25
     replace af := af.ch Z25
     have Z26 := ((Z15.trans qu.ch).trans gW.ch).trans (Owns.dropCh _ _ 0)
     replace gJ := gJ.ch Z26
     replace gK := gK.ch Z26
     replace cR := cR.ch Z26
     replace dn := dn.ch Z26
     replace ai := ai.ch Z26
     replace hB := ((((((((hB.trans i6.fr).trans qs.fr).trans qt.fr).trans iW.fr).trans iE.fr).trans kA.fr).trans qu.fr).trans gW.fr).trans (Owns.dropFr _ _ 0)
     dsimp only [eS, eZ] at hB hO ai af ad aj ag ah gJ gx gC gD gE gF gK cR dn
     replace hO := hO.drop 11
     replace ai := ai.ch (Owns.dropCh _ _ 11)
     replace af := af.ch (Owns.dropCh _ _ 11)
     replace ad := ad.ch (Owns.dropCh _ _ 11)
     replace aj := aj.ch (Owns.dropCh _ _ 11)
     replace ag := ag.ch (Owns.dropCh _ _ 11)
     replace ah := ah.ch (Owns.dropCh _ _ 11)
     replace gJ := gJ.ch (Owns.dropCh _ _ 11)
     replace gx := gx.ch (Owns.dropCh _ _ 11)
     replace gC := gC.ch (Owns.dropCh _ _ 11)
     replace gD := gD.ch (Owns.dropCh _ _ 11)
     replace gE := gE.ch (Owns.dropCh _ _ 11)
     replace gF := gF.ch (Owns.dropCh _ _ 11)
     replace gK := gK.ch (Owns.dropCh _ _ 11)
     replace cR := cR.ch (Owns.dropCh _ _ 11)
     replace dn := dn.ch (Owns.dropCh _ _ 11)
     replace hB := hB.trans (Owns.dropFr _ _ 11)
     dsimp only [eS, eZ] at hB hO ai af ad aj ag ah gJ gx gC gD gE gF gK cR dn
     refine Go1.ret2 Try.func53 rfl ?_
     exact Or.inr ⟨(⟨(⟨k2_36, b2_37, d_39, d_45, d_51, d_57, d_63, d_69, k2_38⟩ : Enum), m2_93, d_75, d_81, d_87⟩ : run), r167, fB, n44, p42, c43, m0, n50, p48, c49, m3, n56, p54, c55, m5, n62, p60, c61, m6, n68, p66, c67, m7, n74, p72, c73, m8, al, n80, p78, c79, m9, n86, p84, c85, iJ, n92, p90, c91, iK, rfl, hB.same, hO, gJ, gx, gC, gD, gE, gF, gK, cR, dn, H⟩
    replace H := ifn Ct H
    refine GoQ.pure rfl (fun w => opB (op_eql rfl rfl w) (decide_eq_false Ct)) rfl rfl ?_
    refine GoQ.pure rfl (op_pickT rfl rfl rfl) rfl rfl ?_
    refine GoQ.pure rfl (op_move rfl) rfl rfl ?_
    refine GoQ.pass rfl rfl rfl ?_
    refine GoQ.pass rfl rfl rfl ?_
    refine GoQ.pass rfl rfl rfl ?_
    refine GoQ.pass rfl rfl rfl ?_
    refine GoQ.pass rfl rfl rfl ?_
    refine GoQ.pass rfl rfl rfl ?_
    refine GoQ.pass rfl rfl rfl ?_
    refine GoQ.pass rfl rfl rfl ?_
    refine GoQ.pure rfl (op_pickF rfl rfl rfl) rfl rfl ?_
    refine GoQ.pure rfl (op_move rfl) rfl rfl ?_
    refine GoQ.pass rfl rfl rfl ?_
    refine GoQ.pass rfl rfl rfl ?_
    refine GoQ.pass rfl rfl rfl ?_
    refine GoQ.pass rfl rfl rfl ?_
    refine GoQ.pass rfl rfl rfl ?_
    refine GoQ.pass rfl rfl rfl ?_
    refine GoQ.pass rfl rfl rfl ?_
    refine GoQ.pass rfl rfl rfl ?_
    refine GoQ.pure rfl (op_pickF rfl rfl rfl) rfl rfl ?_
    refine GoQ.pure rfl (op_move rfl) rfl rfl ?_
    refine GoQ.pass rfl rfl rfl ?_
    refine GoQ.pass rfl rfl rfl ?_
    refine GoQ.pass rfl rfl rfl ?_
    refine GoQ.pass rfl rfl rfl ?_
    refine GoQ.pass rfl rfl rfl ?_
    refine GoQ.pass rfl rfl rfl ?_
    refine GoQ.pass rfl rfl rfl ?_
    refine GoQ.pass rfl rfl rfl ?_
    refine GoQ.pure rfl (op_pickF rfl rfl rfl) rfl rfl ?_
    refine GoQ.pure rfl (op_move rfl) rfl rfl ?_
    refine GoQ.pass rfl rfl rfl ?_
    refine GoQ.pass rfl rfl rfl ?_
    refine GoQ.pass rfl rfl rfl ?_
    refine GoQ.pass rfl rfl rfl ?_
    refine GoQ.pass rfl rfl rfl ?_
    refine GoQ.pass rfl rfl rfl ?_
    refine GoQ.pass rfl rfl rfl ?_
    refine GoQ.pass rfl rfl rfl ?_
    refine GoQ.pure rfl (op_pickF rfl rfl rfl) rfl rfl ?_
    refine GoQ.pure rfl (op_move rfl) rfl rfl ?_
    refine GoQ.pass rfl rfl rfl ?_
    refine GoQ.pass rfl rfl rfl ?_
    refine GoQ.pass rfl rfl rfl ?_
    refine GoQ.pass rfl rfl rfl ?_
    refine GoQ.pass rfl rfl rfl ?_
    refine GoQ.pass rfl rfl rfl ?_
    refine GoQ.pass rfl rfl rfl ?_
    refine GoQ.pass rfl rfl rfl ?_
    refine GoQ.pure rfl (op_pickF rfl rfl rfl) rfl rfl ?_
    refine GoQ.pure rfl (op_assign rfl) rfl rfl ?_
    refine GoQ.nil ?_
    refine Go1.ret1V Try.func68 rfl (show _ = .bool false from rfl) ?_
    refine hR116 _ _ ?_
    refine za rfl (za rfl (zn ?_))
    replace hO := hO.drop 0
    have Z27 := ((i6.ch.trans qs.ch).trans qt.ch).trans (Owns.dropCh _ _ 0)
    replace gJ := gJ.ch Z27
    replace gx := gx.ch Z27
    replace gC := gC.ch Z27
    replace gD := gD.ch Z27
    replace gE := gE.ch Z27
    replace gF := gF.ch Z27
    replace gK := gK.ch Z27
    replace cR := cR.ch Z27
    replace dn := dn.ch Z27
    replace ai := ai.ch Z27
    replace af := af.ch Z27
    replace ad := ad.ch Z27
    replace aj := aj.ch Z27
    replace ag := ag.ch Z27
    replace ah := ah.ch Z27
    replace hB := (((hB.trans i6.fr).trans qs.fr).trans qt.fr).trans (Owns.dropFr _ _ 0)
    dsimp only [eS, eZ] at hB hO ai af ad aj ag ah gJ gx gC gD gE gF gK cR dn
    replace hO := hO.drop 11
    replace ai := ai.ch (Owns.dropCh _ _ 11)
    replace af := af.ch (Owns.dropCh _ _ 11)
    replace ad := ad.ch (Owns.dropCh _ _ 11)
    replace aj := aj.ch (Owns.dropCh _ _ 11)
    replace ag := ag.ch (Owns.dropCh _ _ 11)
    replace ah := ah.ch (Owns.dropCh _ _ 11)
    replace gJ := gJ.ch (Owns.dropCh _ _ 11)
    replace gx := gx.ch (Owns.dropCh _ _ 11)
    replace gC := gC.ch (Owns.dropCh _ _ 11)
    replace gD := gD.ch (Owns.dropCh _ _ 11)
    replace gE := gE.ch (Owns.dropCh _ _ 11)
    replace gF := gF.ch (Owns.dropCh _ _ 11)
    replace gK := gK.ch (Owns.dropCh _ _ 11)
    replace cR := cR.ch (Owns.dropCh _ _ 11)
    replace dn := dn.ch (Owns.dropCh _ _ 11)
    replace hB := hB.trans (Owns.dropFr _ _ 11)
    dsimp only [eS, eZ] at hB hO ai af ad aj ag ah gJ gx gC gD gE gF gK cR dn
    refine Go1.ret2 Try.func53 rfl ?_
    exact Or.inr ⟨(⟨(⟨k2_36, b2_37, d_39, d_45, d_51, d_57, d_63, d_69, k2_38⟩ : Enum), m2_93, d_75, d_81, d_87⟩ : run), false, fB, n44, p42, c43, m0, n50, p48, c49, m3, n56, p54, c55, m5, n62, p60, c61, m6, n68, p66, c67, m7, n74, p72, c73, m8, al, n80, p78, c79, m9, n86, p84, c85, iJ, n92, p90, c91, iK, rfl, hB.same, hO, gJ, gx, gC, gD, gE, gF, gK, cR, dn, H⟩
   replace H := ifn xD H
   refine GoQ.pure rfl (fun w => opB (op_eql rfl rfl w) (decide_eq_false xD)) rfl rfl ?_
   refine GoQ.pure rfl (op_move rfl) rfl rfl ?_
   refine GoQ.pass rfl rfl rfl ?_
   refine GoQ.pass rfl rfl rfl ?_
   refine GoQ.pass rfl rfl rfl ?_
   refine GoQ.pass rfl rfl rfl ?_
   refine GoQ.pass rfl rfl rfl ?_
   refine GoQ.pass rfl rfl rfl ?_
   refine GoQ.pass rfl rfl rfl ?_
   refine GoQ.pass rfl rfl rfl ?_
   refine GoQ.pure rfl (op_pickF rfl rfl rfl) rfl rfl ?_
   refine GoQ.pure rfl (op_move rfl) rfl rfl ?_
   refine GoQ.pass rfl rfl rfl ?_
   refine GoQ.pass rfl rfl rfl ?_
   refine GoQ.pass rfl rfl rfl ?_
   refine GoQ.pass rfl rfl rfl ?_
   refine GoQ.pass rfl rfl rfl ?_
   refine GoQ.pass rfl rfl rfl ?_
   refine GoQ.pass rfl rfl rfl ?_
   refine GoQ.pass rfl rfl rfl ?_
   refine GoQ.pure rfl (op_pickF rfl rfl rfl) rfl rfl ?_
   refine GoQ.pure rfl (op_move rfl) rfl rfl ?_
   refine GoQ.pass rfl rfl rfl ?_
   refine GoQ.pass rfl rfl rfl ?_
   refine GoQ.pass rfl rfl rfl ?_
   refine GoQ.pass rfl rfl rfl ?_
   refine GoQ.pass rfl rfl rfl ?_
   refine GoQ.pass rfl rfl rfl ?_
   refine GoQ.pass rfl rfl rfl ?_
   refine GoQ.pass rfl rfl rfl ?_
   refine GoQ.pure rfl (op_pickF rfl rfl rfl) rfl rfl ?_
   refine GoQ.pure rfl (op_move rfl) rfl rfl ?_
   refine GoQ.pass rfl rfl rfl ?_
   refine GoQ.pass rfl rfl rfl ?_
   refine GoQ.pass rfl rfl rfl ?_
   refine GoQ.pass rfl rfl rfl ?_
   refine GoQ.pass rfl rfl rfl ?_
   refine GoQ.pass rfl rfl rfl ?_
   refine GoQ.pass rfl rfl rfl ?_
   refine GoQ.pass rfl rfl rfl ?_
   refine GoQ.pure rfl (op_pickF rfl rfl rfl) rfl rfl ?_
   refine GoQ.pure rfl (op_move rfl) rfl rfl ?_
   refine GoQ.pass rfl rfl rfl ?_
   refine GoQ.pass rfl rfl rfl ?_
   refine GoQ.pass rfl rfl rfl ?_
   refine GoQ.pass rfl rfl rfl ?_
   refine GoQ.pass rfl rfl rfl ?_
   refine GoQ.pass rfl rfl rfl ?_
   refine GoQ.pass rfl rfl rfl ?_
   refine GoQ.pass rfl rfl rfl ?_
   refine GoQ.pure rfl (op_pickF rfl rfl rfl) rfl rfl ?_
   refine GoQ.pure rfl (op_move rfl) rfl rfl ?_
   refine GoQ.pass rfl rfl rfl ?_
   refine GoQ.pass rfl rfl rfl ?_
   refine GoQ.pass rfl rfl rfl ?_
   refine GoQ.pass rfl rfl rfl ?_
   refine GoQ.pass rfl rfl rfl ?_
   refine GoQ.pass rfl rfl rfl ?_
   refine GoQ.pass rfl rfl rfl ?_
   refine GoQ.pass rfl rfl rfl ?_
   refine GoQ.pure rfl (op_pickF rfl rfl rfl) rfl rfl ?_
   refine GoQ.pure rfl (op_assign rfl) rfl rfl ?_
   refine GoQ.nil ?_
   refine Go1.ret1V Try.func68 rfl (show _ = .bool false from rfl) ?_
   refine hR116 _ _ ?_
   refine za rfl (za rfl (zn ?_))
   replace hO := hO.drop 0
   have Z28 := ((i6.ch.trans qs.ch).trans qt.ch).trans (Owns.dropCh _ _ 0)
   replace gJ := gJ.ch Z28
   replace gx := gx.ch Z28
   replace gC := gC.ch Z28
   replace gD := gD.ch Z28
   replace gE := gE.ch Z28
   replace gF := gF.ch Z28
   replace gK := gK.ch Z28
   replace cR := cR.ch Z28
   replace dn := dn.ch Z28
   replace ai := ai.ch Z28
   replace af := af.ch Z28
   replace ad := ad.ch Z28
   replace aj := aj.ch Z28
   replace ag := ag.ch Z28
   replace ah := ah.ch Z28
   replace hB := (((hB.trans i6.fr).trans qs.fr).trans qt.fr).trans (Owns.dropFr _ _ 0)
   dsimp only [eS, eZ] at hB hO ai af ad aj ag ah gJ gx gC gD gE gF gK cR dn
   replace hO := hO.drop 11
   replace ai := ai.ch (Owns.dropCh _ _ 11)
   replace af := af.ch (Owns.dropCh _ _ 11)
   replace ad := ad.ch (Owns.dropCh _ _ 11)
   replace aj := aj.ch (Owns.dropCh _ _ 11)
   replace ag := ag.ch (Owns.dropCh _ _ 11)
   replace ah := ah.ch (Owns.dropCh _ _ 11)
   replace gJ := gJ.ch (Owns.dropCh _ _ 11)
   replace gx := gx.ch (Owns.dropCh _ _ 11)
   replace gC := gC.ch (Owns.dropCh _ _ 11)
   replace gD := gD.ch (Owns.dropCh _ _ 11)
   replace gE := gE.ch (Owns.dropCh _ _ 11)
   replace gF := gF.ch (Owns.dropCh _ _ 11)
   replace gK := gK.ch (Owns.dropCh _ _ 11)
   replace cR := cR.ch (Owns.dropCh _ _ 11)
   replace dn := dn.ch (Owns.dropCh _ _ 11)
   replace hB := hB.trans (Owns.dropFr _ _ 11)
   dsimp only [eS, eZ] at hB hO ai af ad aj ag ah gJ gx gC gD gE gF gK cR dn
   refine Go1.ret2 Try.func53 rfl ?_
   exact Or.inr ⟨(⟨(⟨k2_36, b2_37, d_39, d_45, d_51, d_57, d_63, d_69, k2_38⟩ : Enum), m2_93, d_75, d_81, d_87⟩ : run), false, fB, n44, p42, c43, m0, n50, p48, c49, m3, n56, p54, c55, m5, n62, p60, c61, m6, n68, p66, c67, m7, n74, p72, c73, m8, al, n80, p78, c79, m9, n86, p84, c85, iJ, n92, p90, c91, iK, rfl, hB.same, hO, gJ, gx, gC, gD, gE, gF, gK, cR, dn, H⟩
  replace H := ifn h34 H
  refine zo (fun w => opB (op_neq rfl rfl w) (ndF h34)) (zn (zt rfl rfl (zq ?_)))
  refine Go1.cut [] trivial ?_
  intro σ _
  refine zr (za rfl (za rfl (zn ?_)))
  refine Go1.ret2 Try.func53 rfl ?_
  replace hB := (hB.trans d7.fr).trans f0.fr
  exact Or.inl ⟨false, rfl, hB.same, H⟩
theorem body29 : Body Try.prog 29 := ⟨Try.f29, Try.func29, rfl, by kernel_rfl⟩
theorem walk_enumerate_Word {A : List Nat} {w0 : World} {aD : Option Addr} {aE : Nat} {av : Option Addr} {aw : Nat} {ap : Option Addr} {aq : Nat} {aF : Option Addr} {aG : Nat} {ax : Option Addr} {ay : Nat} {az : Option Addr} {aA : Nat} {e : Enum} {i : Int} (hA : ∀ b ∈ A, b < w0.heap.size) (ai : ISl (Rp.sl (Rp.int .i64)) A w0 aD aE e.Gens) (af : ISl (Rp.sl (Rp.int .i64)) A w0 av aw e.Elems) (ad : ISl (Rp.int .i64) A w0 ap aq e.Prefix) (aj : ISl (Rp.int .i64) A w0 aF aG e.Last) (ag : ISl (Rp.sl (Rp.int .i64)) A w0 ax ay e.Right) (ah : ISl (rpRule) A w0 az aA e.Rules) {K : Str → Prop} (H : enumerate_Word e i K) :
    CallsV Try.prog 29 #[.agg #[.int .i64 e.Points, .bool e.Monoid, .slice aD e.Gens.length aE, .slice av e.Elems.length aw, .slice ap e.Prefix.length aq, .slice aF e.Last.length aG, .slice ax e.Right.length ay, .slice az e.Rules.length aA, .int .i64 e.Done], .int .i64 i] w0 (fun v w' => ∃ (r0 : Str), v = .string (gstr r0) ∧ Same w0 w' ∧ r0.length ≤ mx ∧ K r0) := by
 refine CallsV.of (l := [.agg #[.int .i64 e.Points, .bool e.Monoid, .slice aD e.Gens.length aE, .slice av e.Elems.length aw, .slice ap e.Prefix.length aq, .slice aF e.Last.length aG, .slice ax e.Right.length ay, .slice az e.Rules.length aA, .int .i64 e.Done], .int .i64 i]) Try.func29 rfl Try.ntmps29 rfl ?_
 have hO := Owns.start hA
 have hB := Fr.refl (bl []) w0
 unfold enumerate_Word at H
 refine zq (zr ?_)
 have hobt := obox (t := 29) (v := .agg #[.int .i64 e.Points, .bool e.Monoid, .slice aD e.Gens.length aE, .slice av e.Elems.length aw, .slice ap e.Prefix.length aq, .slice aF e.Last.length aG, .slice ax e.Right.length ay, .slice az e.Rules.length aA, .int .i64 e.Done]) (cs := #[.int .i64 e.Points, .bool e.Monoid, .slice aD e.Gens.length aE, .slice av e.Elems.length aw, .slice ap e.Prefix.length aq, .slice aF e.Last.length aG, .slice ax e.Right.length ay, .slice az e.Rules.length aA, .int .i64 e.Done]) hO rfl
 obtain ⟨w1, B2, d7, hs4, qE⟩ := hobt
 refine zg (qE rfl) ?_
 replace hO := d7.own
 refine za rfl (zn (zq (zr (zs (oblkAgg (vs := [.int .i64 e.Points, .bool e.Monoid, .slice aD e.Gens.length aE, .slice av e.Elems.length aw, .slice ap e.Prefix.length aq, .slice aF e.Last.length aG, .slice ax e.Right.length ay, .slice az e.Rules.length aA, .int .i64 e.Done]) (i := 0) 0 hO rfl rfl Try.underlying29 rfl ti29 rfl) ?_))))
 have Z1 := (Ch.start A w0).trans d7.ch
 replace ai := ai.ch Z1
 replace af := af.ch Z1
 replace ad := ad.ch Z1
 replace aj := aj.ch Z1
 replace ag := ag.ch Z1
 replace ah := ah.ch Z1
 refine GoR.call (op_call body53 rfl (walk_enumerate_replay (e := e) hO.lt ai af ad aj ag ah H)) rfl rfl ?_
 intro v9 w10 hcase13
 refine Or.elim hcase13 ?_ ?_
 ·refine exE fun r8 => andE fun hv14 => andE fun wy => fun H => ?_
  subst hv14
  clear hcase13
  replace H := oElimN H
  have ji := Stp.same hO wy
  replace hO := ji.own
  refine zm rfl (zo (op_extract rfl rfl) (zo (op_extract rfl rfl) (za rfl (za rfl (zn ?_)))))
  refine zq (zq (zr (zm rfl ?_)))
  cases r8
  ·replace H := ifn Bool.false_ne_true H
   refine zo (op_not rfl) (zm rfl (zp (zp (zo (op_pickT rfl rfl rfl) (zm rfl ?_)))))
   refine zp (zp (zp (zp (zp (zp ?_)))))
   refine zp (zp (zo (op_pickT rfl rfl rfl) (zn (zt rfl rfl (zq ?_)))))
   refine Go1.cut [] trivial ?_
   intro σ _
   refine zr (za rfl (zn ?_))
   refine Go1.ret1 Try.func29 rfl ?_
   replace hB := (hB.trans d7.fr).trans ji.fr
   exact ⟨([] : Str), rfl, hB.same, (by decide), H⟩
  replace H := ifp rfl H
  refine zo (op_not rfl) (zm rfl (zm rfl ?_))
  by_cases h16 : i < (0 : Int)
  ·replace H := ifp h16 H
   refine zo (fun w => opB (op_lss rfl rfl w) (decide_eq_true h16)) (zo (op_pickF rfl rfl rfl) (zm rfl (zp (zp (zp ?_)))))
   refine zp (zp (zp (zp (zp (zo (op_pickT rfl rfl rfl) ?_)))))
   refine zn (zt rfl rfl (zq (zr (za rfl (zn ?_)))))
   refine Go1.ret1 Try.func29 rfl ?_
   replace hB := (hB.trans d7.fr).trans ji.fr
   exact ⟨([] : Str), rfl, hB.same, (by decide), H⟩
  replace H := ifn h16 H
  refine zo (fun w => opB (op_lss rfl rfl w) (decide_eq_false h16)) (zo (op_pickF rfl rfl rfl) (zm rfl (zm rfl (zm rfl ?_))))
  exact H.elim
 ·refine exE fun r7 => exE fun r8 => exE fun fB => exE fun cq => exE fun cr => exE fun ct => exE fun et => exE fun bG => exE fun bH => exE fun bI => exE fun dY => exE fun bu => exE fun bv => exE fun bw => exE fun dJ => exE fun cu => exE fun cv => exE fun cw => exE fun eA => exE fun bK => exE fun bM => exE fun bN => exE fun d4 => exE fun bO => exE fun bP => exE fun bQ => exE fun d5 => exE fun al => exE fun dO => exE fun dP => exE fun dQ => exE fun f6 => exE fun dp => exE fun dq => exE fun dr => exE fun fM => exE fun dt => exE fun du => exE fun dw => exE fun fN => andE fun hv17 => andE fun wy => andE fun hN12 => andE fun bi => andE fun aP => andE fun aN => andE fun bh => andE fun aO => andE fun aW => andE fun cF => andE fun cx => andE fun cy => fun H => ?_
  subst hv17
  clear hcase13
  replace H := oElimS H
  have oW := Stp.more hO wy hN12
  dsimp only [List.cons_append, List.nil_append] at oW
  replace hO := oW.own
  replace bi := bi.ch (Ch.assoc _ _ _ _)
  dsimp only [List.cons_append, List.nil_append] at bi
  replace aP := aP.ch (Ch.assoc _ _ _ _)
  dsimp only [List.cons_append, List.nil_append] at aP
  replace aN := aN.ch (Ch.assoc _ _ _ _)
  dsimp only [List.cons_append, List.nil_append] at aN
  replace bh := bh.ch (Ch.assoc _ _ _ _)
  dsimp only [List.cons_append, List.nil_append] at bh
  replace aO := aO.ch (Ch.assoc _ _ _ _)
  dsimp only [List.cons_append, List.nil_append] at aO
  replace aW := aW.ch (Ch.assoc _ _ _ _)
  dsimp only [List.cons_append, List.nil_append] at aW
  replace cF := cF.ch (Ch.assoc _ _ _ _)
  dsimp only [List.cons_append, List.nil_append] at cF
  replace cx := cx.ch (Ch.assoc _ _ _ _)
  dsimp only [List.cons_append, List.nil_append] at cx
  replace cy := cy.ch (Ch.assoc _ _ _ _)
  dsimp only [List.cons_append, List.nil_append] at cy
  refine zm rfl (zo (op_extract rfl rfl) (zo (op_extract rfl rfl) (za rfl (za rfl (zn ?_)))))
  refine zq (zq ?_)
  refine Go1.cut [(1, .int .i64 i), (5, .pointer (some ⟨fB, 0, none⟩)), (6, .bool r8)] ⟨rfl, rfl, rfl, trivial⟩ ?_
  intro σ _
  refine zr (zm rfl ?_)
  cases r8
  ·replace H := ifn Bool.false_ne_true H
   refine zo (op_not rfl) (zm rfl (zp (zp (zo (op_pickT rfl rfl rfl) (zm rfl ?_)))))
   refine zp (zp (zp (zp (zp (zp ?_)))))
   refine zp (zp (zo (op_pickT rfl rfl rfl) (zn (zt rfl rfl (zq ?_)))))
   refine zr (za rfl (zn ?_))
   refine Go1.ret1 Try.func29 rfl ?_
   replace hB := (hB.trans d7.fr).trans oW.fr
   exact ⟨([] : Str), rfl, hB.same, (by decide), H⟩
  replace H := ifp rfl H
  refine zo (op_not rfl) (zm rfl (zm rfl ?_))
  by_cases h30 : i < (0 : Int)
  ·replace H := ifp h30 H
   refine zo (fun w => opB (op_lss rfl rfl w) (decide_eq_true h30)) (zo (op_pickF rfl rfl rfl) (zm rfl (zp (zp (zp ?_)))))
   refine zp (zp (zp (zp (zp (zo (op_pickT rfl rfl rfl) ?_)))))
   refine zn (zt rfl rfl (zq ?_))
   refine Go1.cut [] trivial ?_
   intro σ _
   refine zr (za rfl (zn ?_))
   refine Go1.ret1 Try.func29 rfl ?_
   replace hB := (hB.trans d7.fr).trans oW.fr
   exact ⟨([] : Str), rfl, hB.same, (by decide), H⟩
  replace H := ifn h30 H
  refine zo (fun w => opB (op_lss rfl rfl w) (decide_eq_false h30)) (zo (op_pickF rfl rfl rfl) (zm rfl (zm rfl (zm rfl (zo (op_nilCheck rfl) ?_)))))
  refine zo (op_fieldAddr Try.underlying72 rfl ti29 rfl (by decide)) (zo (op_fieldAddr Try.underlying29 rfl ti22 rfl (by decide)) (zs (oblk (i := 3) 0 hO rfl rfl Try.underlying22 rfl rfl) (zo (op_lenN Try.underlying22 rfl (aP.neq hO 2 rfl)) ?_)))
  by_cases h31 : (r7.Enum.Elems.length : Int) ≤ i
  ·replace H := ifp h31 H
   refine zo (fun w => opB (op_geq rfl rfl w) (decide_eq_true h31)) (zo (op_pickF rfl rfl rfl) (zn (zt rfl rfl (zq (zr ?_)))))
   refine za rfl (zn ?_)
   refine Go1.ret1 Try.func29 rfl ?_
   replace hB := (hB.trans d7.fr).trans oW.fr
   exact ⟨([] : Str), rfl, hB.same, (by decide), H⟩
  replace H := ifn h31 H
  refine zo (fun w => opB (op_geq rfl rfl w) (decide_eq_false h31)) (zo (op_pickF rfl rfl rfl) (zn (zf rfl rfl (zk (zq ?_)))))
  refine zr (zm rfl (zo (op_nilCheck rfl) (zo (op_fieldAddr Try.underlying72 rfl ti70 rfl (by decide)) (zs (oblk (i := 10) 0 hO rfl rfl Try.underlying70 rfl rfl) (zm rfl ?_)))))
  obtain ⟨h32, H⟩ := H
  obtain ⟨h33, H⟩ := H
  refine zo (op_index Try.underlying70 ti9 rfl rfl h32 (ltn (cF.neq hO 7 rfl) h33) (cF.psome hO 7 rfl h32 h33)) (zs (oldStr 7 hO rfl cF h32 h33 Try.underlying9 rfl rfl) ?_)
  have hle34 := Els.str_le cF h32 h33
  refine za rfl (zn ?_)
  refine Go1.ret1 Try.func29 rfl ?_
  replace hB := (hB.trans d7.fr).trans oW.fr
  exact ⟨ix r7.words i, rfl, hB.same, hle34, H⟩
theorem body16 : Body Try.prog 16 := ⟨Try.f16, Try.func16, rfl, by kernel_rfl⟩
theorem walk_law12_awake {A : List Nat} {w0 : World} (hA : ∀ b ∈ A, b < w0.heap.size) {K : Bool → Prop} (H : law12_awake  K) :
    CallsV Try.prog 16 #[] w0 (fun v w' => ∃ (r0 : Bool), v = .bool r0 ∧ Same w0 w' ∧ K r0) := by
 refine CallsV.of (l := []) Try.func16 rfl Try.ntmps16 rfl ?_
 have hO := Owns.start hA
 have hB := Fr.refl (bl []) w0
 unfold law12_awake at H
 refine zq (zr (za rfl (zn (zq (zr ?_)))))
 have hobt := obuild (r := Rp.int .i64) (n := 2) (parts := [(0, .int .i64 (1 : Int)), (1, .int .i64 (0 : Int))]) (vs := [.int .i64 (1 : Int), .int .i64 (0 : Int)]) (xs := [(1 : Int), (0 : Int)]) rfl Try.underlying26 ti3 hO (by decide) (by kernel_rfl) (Els.cons rfl rfl (Els.cons rfl rfl (Els.nil _ _ _) (by simp [mx])) (by simp [mx])) rfl
 obtain ⟨w1, p2, d7, hE4, hs5, TY⟩ := hobt
 refine zg (TY rfl) ?_
 replace hO := d7.own
 have hobt := obuild (r := Rp.int .i64) (n := 2) (parts := [(0, .int .i64 (0 : Int)), (1, .int .i64 (0 : Int))]) (vs := [.int .i64 (0 : Int), .int .i64 (0 : Int)]) (xs := [(0 : Int), (0 : Int)]) rfl Try.underlying26 ti3 hO (by decide) (by kernel_rfl) (Els.cons rfl rfl (Els.cons rfl rfl (Els.nil _ _ _) (by simp [mx])) (by simp [mx])) rfl
 obtain ⟨w8, p9, wO, IF, HI, F2⟩ := hobt
 refine zg (F2 rfl) ?_
 replace hO := wO.own
 replace hE4 := hE4.ch wO.ch
 have hobt := freeze 1 hO rfl hE4
 obtain ⟨hO1, T0, me, T1⟩ := hobt
 replace hO := hO1; clear hO1
 replace IF := IF.ch T0
 have hobt := freeze 0 hO rfl IF
 obtain ⟨hO1, T3, vY, T4⟩ := hobt
 replace hO := hO1; clear hO1
 replace me := me.ch T3
 have hobt := obuild (r := Rp.sl (Rp.int .i64)) (n := 2) (parts := [(0, .slice p2 2 2), (1, .slice p9 2 2)]) (vs := [.slice p2 2 2, .slice p9 2 2]) (xs := [[(1 : Int), (0 : Int)], [(0 : Int), (0 : Int)]]) rfl Try.underlying22 ti26 hO (by decide) (by kernel_rfl) (Els.cons rfl ⟨p2, 2, congrArg some (congrArg (fun nn => Value.slice p2 nn 2) T1), me⟩ (Els.cons rfl ⟨p9, 2, congrArg some (congrArg (fun nn => Value.slice p9 nn 2) T4), vY⟩ (Els.nil _ _ _) (by simp [mx])) (by simp [mx])) rfl
 obtain ⟨w21, p22, tX, d9, Eh, F3⟩ := hobt
 refine zg (F3 rfl) ?_
 replace hO := tX.own
 have hobt := freeze 0 hO rfl d9
 obtain ⟨hO1, FI, z7, IG⟩ := hobt
 replace hO := hO1; clear hO1
 refine GoR.call (op_call body17 (show ([.slice p22 2 2, .bool true] : List Value) = [.slice p22 ([[(1 : Int), (0 : Int)], [(0 : Int), (0 : Int)]]).length 2, .bool true] from by rw [← IG]) (walk_enumerate_Build hO.lt z7 H)) rfl rfl ?_
 rintro v36 w33 ⟨r31, r32, pK, pM, nN, nO, mq, mr, pN, pO, nP, nQ, nS, nT, rfl, IH, fX, fh, eY, fY, fE, ft, H⟩
 have uo := Stp.same hO IH
 replace hO := uo.own
 refine zm rfl (zo (op_extract rfl rfl) (zo (op_extract rfl rfl) ?_))
 have hobt := oalloc (t := 29) (cs := #[.int .i64 (0 : Int), .bool false, .slice none 0 0, .slice none 0 0, .slice none 0 0, .slice none 0 0, .slice none 0 0, .slice none 0 0, .int .i64 (0 : Int)]) ti29 hO rfl
 obtain ⟨w38, B39, mg, LX, P6⟩ := hobt
 refine GoR.op P6 rfl rfl ?_
 replace hO := mg.own
 have hobt := oblkStAgg (us := [.int .i64 r31.Points, .bool r31.Monoid, .slice pK r31.Gens.length pM, .slice nN r31.Elems.length nO, .slice mq r31.Prefix.length mr, .slice pN r31.Last.length pO, .slice nP r31.Right.length nQ, .slice nS r31.Rules.length nT, .int .i64 r31.Done]) (o := 0) (cs' := #[.int .i64 r31.Points, .bool r31.Monoid, .slice pK r31.Gens.length pM, .slice nN r31.Elems.length nO, .slice mq r31.Prefix.length mr, .slice pN r31.Last.length pO, .slice nP r31.Right.length nQ, .slice nS r31.Rules.length nT, .int .i64 r31.Done]) 0 hO rfl rfl (Nat.le_of_ble_eq_true rfl) rfl
 obtain ⟨w44, nr, P7⟩ := hobt
 refine zg (P7 ti29 (by exact rfl) (by exact rfl) rfl) ?_
 replace hO := nr.own
 refine za rfl (zn (zq (zr (zm rfl ?_))))
 by_cases h47 : r32 = (0 : Int)
 ·replace H := ifp h47 H
  refine zo (fun w => opB (op_eql rfl rfl w) (decide_eq_true h47)) (zm rfl (zo (op_fieldAddr Try.underlying29 rfl ti22 rfl (by decide)) (zs (oblk (i := 3) 0 hO rfl rfl Try.underlying22 rfl rfl) (zo (op_len Try.underlying22 rfl) ?_))))
  replace fh := (fh.ch mg.ch).ch nr.ch
  replace H := H fh.bd
  by_cases h48 : (r31.Elems.length : Int) = (4 : Int)
  ·replace H := ifp h48 H
   refine zo (fun w => opB (op_eql rfl rfl w) (decide_eq_true h48)) (zo (op_pickT rfl rfl rfl) (zm rfl (zo (op_fieldAddr Try.underlying29 rfl ti27 rfl (by decide)) (zs (oblk (i := 7) 0 hO rfl rfl Try.underlying27 rfl rfl) (zo (op_len Try.underlying27 rfl) ?_)))))
   replace ft := (ft.ch mg.ch).ch nr.ch
   replace H := H ft.bd
   by_cases h49 : (r31.Rules.length : Int) = (3 : Int)
   ·replace H := ifp h49 H
    refine zo (fun w => opB (op_eql rfl rfl w) (decide_eq_true h49)) (zo (op_pickT rfl rfl rfl) (zm rfl (zs (oblkAgg (vs := [.int .i64 r31.Points, .bool r31.Monoid, .slice pK r31.Gens.length pM, .slice nN r31.Elems.length nO, .slice mq r31.Prefix.length mr, .slice pN r31.Last.length pO, .slice nP r31.Right.length nQ, .slice nS r31.Rules.length nT, .int .i64 r31.Done]) (i := 0) 0 hO rfl rfl Try.underlying29 rfl ti29 rfl) ?_)))
    have Z1 := mg.ch.trans nr.ch
    replace fX := fX.ch Z1
    replace eY := eY.ch Z1
    replace fY := fY.ch Z1
    replace fE := fE.ch Z1
    refine GoR.call (op_call body29 rfl (walk_enumerate_Word (e := r31) hO.lt fX fh eY fY fE ft H)) rfl rfl ?_
    rintro v54 w51 ⟨r50, rfl, II, VS, H⟩
    have xN := Stp.same hO II
    replace hO := xN.own
    by_cases h56 : r50 = (([98, 97] : Str))
    ·replace H := ifp h56 H
     refine zo (fun w => opB (op_eqlS rfl rfl w) (decide_eq_true h56)) (zo (op_pickT rfl rfl rfl) (za rfl (zn ?_)))
     refine Go1.ret1 Try.func16 rfl ?_
     replace hB := (((((((((hB.trans d7.fr).trans wO.fr).trans (Owns.dropFr _ _ 1)).trans (Owns.dropFr _ _ 0)).trans tX.fr).trans (Owns.dropFr _ _ 0)).trans uo.fr).trans mg.fr).trans nr.fr).trans xN.fr
     exact ⟨true, rfl, hB.same, H⟩
    replace H := ifn h56 H
    refine zo (fun w => opB (op_eqlS rfl rfl w) (decide_eq_false h56)) (zo (op_pickT rfl rfl rfl) (za rfl (zn ?_)))
    refine Go1.ret1 Try.func16 rfl ?_
    replace hB := (((((((((hB.trans d7.fr).trans wO.fr).trans (Owns.dropFr _ _ 1)).trans (Owns.dropFr _ _ 0)).trans tX.fr).trans (Owns.dropFr _ _ 0)).trans uo.fr).trans mg.fr).trans nr.fr).trans xN.fr
    exact ⟨false, rfl, hB.same, H⟩
   replace H := ifn h49 H
   refine zo (fun w => opB (op_eql rfl rfl w) (decide_eq_false h49)) (zo (op_pickT rfl rfl rfl) (zm rfl (zp (zp (zp ?_)))))
   refine zo (op_pickF rfl rfl rfl) (za rfl (zn ?_))
   refine Go1.ret1 Try.func16 rfl ?_
   replace hB := ((((((((hB.trans d7.fr).trans wO.fr).trans (Owns.dropFr _ _ 1)).trans (Owns.dropFr _ _ 0)).trans tX.fr).trans (Owns.dropFr _ _ 0)).trans uo.fr).trans mg.fr).trans nr.fr
   exact ⟨false, rfl, hB.same, H⟩
  replace H := ifn h48 H
  refine zo (fun w => opB (op_eql rfl rfl w) (decide_eq_false h48)) (zo (op_pickT rfl rfl rfl) (zm rfl (zp (zp (zp ?_)))))
  refine zp (zo (op_pickF rfl rfl rfl) (zm rfl (zp (zp (zp ?_)))))
  refine zo (op_pickF rfl rfl rfl) (za rfl (zn ?_))
  refine Go1.ret1 Try.func16 rfl ?_
  replace hB := ((((((((hB.trans d7.fr).trans wO.fr).trans (Owns.dropFr _ _ 1)).trans (Owns.dropFr _ _ 0)).trans tX.fr).trans (Owns.dropFr _ _ 0)).trans uo.fr).trans mg.fr).trans nr.fr
  exact ⟨false, rfl, hB.same, H⟩
 replace H := ifn h47 H
 refine zo (fun w => opB (op_eql rfl rfl w) (decide_eq_false h47)) (zm rfl (zp (zp (zp (zp ?_)))))
 refine zo (op_pickF rfl rfl rfl) (zm rfl (zp (zp (zp (zp ?_)))))
 refine zo (op_pickF rfl rfl rfl) (zm rfl (zp (zp (zp (zo (op_pickF rfl rfl rfl) ?_)))))
 refine za rfl (zn ?_)
 refine Go1.ret1 Try.func16 rfl ?_
 replace hB := ((((((((hB.trans d7.fr).trans wO.fr).trans (Owns.dropFr _ _ 1)).trans (Owns.dropFr _ _ 0)).trans tX.fr).trans (Owns.dropFr _ _ 0)).trans uo.fr).trans mg.fr).trans nr.fr
 exact ⟨false, rfl, hB.same, H⟩
theorem body24 : Body Try.prog 24 := ⟨Try.f24, Try.func24, rfl, by kernel_rfl⟩
theorem walk_ref03_Copy {A : List Nat} {w0 : World} {p_a : Option Addr} {c_a : Nat} {a : List (List Int)} (hA : ∀ b ∈ A, b < w0.heap.size) (h_a : ISl (Rp.sl (Rp.int .i64)) A w0 p_a c_a a) {K : List (List Int) → Prop} (H : ref03_Copy a K) :
    CallsV Try.prog 24 #[.slice p_a a.length c_a] w0 (fun v w' => ∃ (r0 : List (List Int)), ∃ (Ei : Nat), ∃ (nt : Option Addr), ∃ (nu : Nat), ∃ (P8 : Hd), v = .slice nt Ei nu ∧ Same w0 w' ∧ Owns w0.heap.size w' [t2 (Fl.int .i64) 26 3 nt Ei nu P8 r0] A ∧ K r0) := by
 refine CallsV.of (l := [.slice p_a a.length c_a]) Try.func24 rfl Try.ntmps24 rfl ?_
 have hO := Owns.start hA
 have hB := Fr.refl (bl []) w0
 unfold ref03_Copy at H
 refine zq (zr (za rfl (zn (zq (zr ?_)))))
 refine za rfl (zn (zq (zq (zr (zm rfl ?_)))))
 refine zo (op_len Try.underlying22 rfl) ?_
 replace h_a := h_a.ch (Ch.start A w0)
 replace H := H h_a.bd
 refine zm rfl (zn (zb ?_))
 have IJ := t2nil (e := 26) (e' := 3) (Fl.int .i64) hO
 replace hO := IJ.own
 replace h_a := h_a.ch IJ.ch
 replace hB := hB.trans IJ.fr
 refine Go1.loopW (S := Nat × List (List Int)) (fun s σ w => match s with | (k1_4, out1_5) => ∃ (n8 : Nat), ∃ (p6 : Option Addr), ∃ (c7 : Nat), ∃ (hs9 : Hd), agrees σ [(3, .slice p6 n8 c7), (6, .slice p_a a.length c_a), (7, .int .i64 (a.length : Int)), (8, .int .i64 (k1_4 : Int))] ∧ (fun Z0 => Owns w0.heap.size w Z0 A ∧ ISl (Rp.sl (Rp.int .i64)) (bl Z0 ++ A) w p_a c_a a ∧ Fr (bl []) w0 (bl Z0) w) [t2 (Fl.int .i64) 26 3 p6 n8 c7 hs9 out1_5]) H ⟨0, none, 0, (fun _ => (none, 0)), ⟨rfl, rfl, rfl, rfl, trivial⟩, hO, h_a, hB⟩ ?_
 intro X1
 refine prE fun k1_4 => fun out1_5 => ?_
 intro H hX1 σ w3
 refine exE fun n8 => exE fun p6 => exE fun c7 => exE fun hs9 => andE fun hag => andE fun hO => andE fun h_a => fun hB => ?_
 dsimp only at H
 refine Go1.keep [(3, .slice p6 n8 c7), (6, .slice p_a a.length c_a), (7, .int .i64 (a.length : Int)), (8, .int .i64 (k1_4 : Int))] hag ?_
 refine zq (zr ?_)
 by_cases h10 : (k1_4 : Int) < (a.length : Int)
 ·replace H := ifp h10 H
  refine zo (fun w => opB (op_lss rfl rfl w) (decide_eq_true h10)) (zn (zq (zt rfl rfl (zk (zq ?_)))))
  refine zb (zq (zr ?_))
  obtain ⟨h11, H⟩ := H
  obtain ⟨h12, H⟩ := H
  refine zo (op_index Try.underlying22 ti26 rfl rfl h11 h12 (h_a.some_ h11 h12)) ?_
  have hobt := ldSl h_a h11 h12
  obtain ⟨p13, c14, me, IE⟩ := hobt
  refine zs (IE Try.underlying26 rfl rfl) (za rfl (zn (zr (zm rfl ?_))))
  have hobt := obuild (r := Rp.int .i64) (n := 0) (parts := []) (vs := []) (xs := ([] : List Int)) rfl Try.underlying26 ti3 hO (by decide) (by kernel_rfl) (Els.nil _ _ _) rfl
  obtain ⟨w17, p18, ko, T5, aan, P9⟩ := hobt
  refine zg (P9 rfl) ?_
  replace hO := ko.own
  refine zm rfl ?_
  obtain ⟨h24, H⟩ := H
  replace me := me.ch ko.ch
  have hobt := oapp Try.underlying26 ti3 rfl 0 hO rfl T5 me rfl h24 (by decide)
  obtain ⟨w25, p26, c27, aao, ET, dK, Qa⟩ := hobt
  refine zg (Qa (by exact rfl) (by exact rfl)) ?_
  replace hO := ET.own
  have hobt := t2build1 (Fl.int .i64) Try.underlying22 ti26 hO dK
  obtain ⟨w33, p34, jM, D5⟩ := hobt
  refine zg (D5 rfl) ?_
  replace hO := jM.own
  have lx := Stp.front 1 hO rfl
  replace hO := lx.own
  have qC := Stp.front 1 hO rfl
  replace hO := qC.own
  obtain ⟨h40, H⟩ := H
  have hobt := t2cat Try.underlying22 ti26 hO h40 (by decide)
  obtain ⟨w41, p42, c43, zE, GX⟩ := hobt
  refine zg (GX (by exact rfl) (by exact rfl)) ?_
  replace hO := zE.own
  refine za rfl (zn ?_)
  refine Go1.inBlock ?_
  refine zr ?_
  have Z1 := ((((ko.ch.trans ET.ch).trans jM.ch).trans lx.ch).trans qC.ch).trans zE.ch
  replace h_a := h_a.ch Z1
  refine zo (op_add rfl rfl (wrap_i64 (natbd h10 h_a.bd))) (zm rfl (zn ?_))
  replace hB := (((((hB.trans ko.fr).trans ET.fr).trans jM.fr).trans lx.fr).trans qC.fr).trans zE.fr
  exact hX1 _ H _ _ ⟨n8 + 1, p42, c43, hcat hs9 out1_5.length ((fun _ => (p26, c27))), ⟨rfl, rfl, rfl, rfl, trivial⟩, hO, h_a, hB⟩
 replace H := ifn h10 H
 refine zo (fun w => opB (op_lss rfl rfl w) (decide_eq_false h10)) (zn (zq (zf rfl rfl ?_)))
 refine Go1.exit rfl ?_
 refine zq (zr (zm rfl (za rfl (zn ?_))))
 refine Go1.ret1 Try.func24 rfl ?_
 exact ⟨out1_5, n8, p6, c7, hs9, rfl, hB.same, hO, H⟩
theorem body54 : Body Try.prog 54 := ⟨Try.f54, Try.func54, rfl, by kernel_rfl⟩
theorem walk_ref03_Discrete {A : List Nat} {w0 : World} {n : Int} (hA : ∀ b ∈ A, b < w0.heap.size) {K : List Int → Prop} (H : ref03_Discrete n K) :
    CallsV Try.prog 54 #[.int .i64 n] w0 (fun v w' => ∃ (r0 : List Int), ∃ (nt : Option Addr), ∃ (nu : Nat), v = .slice nt r0.length nu ∧ Same w0 w' ∧ ISl (Rp.int .i64) A w' nt nu r0 ∧ K r0) := by
 refine CallsV.of (l := [.int .i64 n]) Try.func54 rfl Try.ntmps54 rfl ?_
 have hO := Owns.start hA
 have hB := Fr.refl (bl []) w0
 unfold ref03_Discrete at H
 refine zq (zr (za rfl (zn (zq (zr ?_)))))
 refine zm rfl ?_
 obtain ⟨h8, H⟩ := H
 obtain ⟨h9, H⟩ := H
 have hobt := omake (n := n) (r := Rp.int .i64) (d := (0 : Int)) Try.underlying26 ti3 (fun _ _ => rfl) rfl hO h8 h9 (by decide)
 obtain ⟨w1, p2, vs3, nv, hE5, hs6, zY⟩ := hobt
 refine zg (zY rfl rfl) ?_
 replace hO := nv.own
 refine za rfl (zn (zq (zq (zr (zm rfl ?_)))))
 refine zo (op_lenN Try.underlying26 rfl (hE5.neq hO 0 rfl)) (zm rfl (zn (zb ?_)))
 replace hB := hB.trans nv.fr
 refine Go1.loopW (S := Nat × List Int) (fun s σ w => match s with | (k1_12, p1_13) => ∃ (lB : List Value), agrees σ [(3, .slice p2 n.toNat n.toNat), (8, .int .i64 ((List.replicate n.toNat ((0 : Int))).length : Int)), (9, .int .i64 (k1_12 : Int))] ∧ (fun Z0 => Owns w0.heap.size w Z0 A ∧ Els (Rp.int .i64) (bl Z0 ++ A) w lB p1_13 ∧ Fr (bl []) w0 (bl Z0) w) [.row 3 1 p2 n.toNat n.toNat lB]) H ⟨vs3, ⟨rfl, rfl, rfl, trivial⟩, hO, hE5, hB⟩ ?_
 intro X1
 refine prE fun k1_12 => fun p1_13 => ?_
 intro H hX1 σ w11
 refine exE fun lB => andE fun hag => andE fun hO => andE fun cH => fun hB => ?_
 dsimp only at H
 refine Go1.keep [(3, .slice p2 n.toNat n.toNat), (8, .int .i64 ((List.replicate n.toNat ((0 : Int))).length : Int)), (9, .int .i64 (k1_12 : Int))] hag ?_
 refine zq (zr ?_)
 by_cases h16 : (k1_12 : Int) < ((List.replicate n.toNat ((0 : Int))).length : Int)
 ·replace H := ifp h16 H
  refine zo (fun w => opB (op_lss rfl rfl w) (decide_eq_true h16)) (zn (zq (zt rfl rfl (zk (zq ?_)))))
  refine zb (zq (zr (zm rfl (za rfl (zn ?_)))))
  refine zr (zm rfl (zm rfl (zm rfl ?_)))
  obtain ⟨h17, H⟩ := H
  obtain ⟨h18, H⟩ := H
  refine zo (op_index Try.underlying26 ti3 rfl rfl h17 (ltn (cH.neq hO 0 rfl) h18) (cH.psome hO 0 rfl h17 h18)) ?_
  have hobt := ost (r := Rp.int .i64) rfl 0 hO rfl cH h17 h18 (v := .int .i64 (k1_12 : Int)) (u := (k1_12 : Int)) rfl rfl
  obtain ⟨w19, T6, nq, T7, Bv⟩ := hobt
  refine zg (Bv Try.underlying3 rfl ti3 (by exact rfl) (by exact rfl)) ?_
  replace hO := nq.own
  refine zn ?_
  refine Go1.inBlock ?_
  refine zr ?_
  obtain ⟨h24, H⟩ := H
  refine zo (op_add rfl rfl (wrap_i64 h24)) (zm rfl (zn ?_))
  replace hB := hB.trans nq.fr
  exact hX1 _ H _ _ ⟨T6, ⟨rfl, rfl, rfl, trivial⟩, hO, T7, hB⟩
 replace H := ifn h16 H
 refine zo (fun w => opB (op_lss rfl rfl w) (decide_eq_false h16)) (zn (zq (zf rfl rfl ?_)))
 refine Go1.exit rfl ?_
 refine zq (zr (zm rfl (za rfl (zn ?_))))
 have hobt := freeze 0 hO rfl cH
 obtain ⟨hO1, aap, T8, IK⟩ := hobt
 replace hO := hO1; clear hO1
 refine Go1.ret1 Try.func54 rfl ?_
 replace hB := hB.trans (Owns.dropFr _ _ 0)
 exact ⟨p1_13, p2, n.toNat, (congrArg (fun nn => Value.slice p2 nn n.toNat) IK), hB.same, (T8.ch (Ch.weak _ _ _)), H⟩
theorem body34 : Body Try.prog 34 := ⟨Try.f34, Try.func34, rfl, by kernel_rfl⟩
theorem walk_ref03_Same {A : List Nat} {w0 : World} {p_a : Option Addr} {c_a : Nat} {p_b : Option Addr} {c_b : Nat} {a : List Int} {b : List Int} (hA : ∀ b ∈ A, b < w0.heap.size) (h_a : ISl (Rp.int .i64) A w0 p_a c_a a) (h_b : ISl (Rp.int .i64) A w0 p_b c_b b) {K : Bool → Prop} (H : ref03_Same a b K) :
    CallsV Try.prog 34 #[.slice p_a a.length c_a, .slice p_b b.length c_b] w0 (fun v w' => ∃ (r0 : Bool), v = .bool r0 ∧ Same w0 w' ∧ K r0) := by
 refine CallsV.of (l := [.slice p_a a.length c_a, .slice p_b b.length c_b]) Try.func34 rfl Try.ntmps34 rfl ?_
 have hO := Owns.start hA
 have hB := Fr.refl (bl []) w0
 unfold ref03_Same at H
 refine zq (zr (za rfl (zn (zq (zq ?_)))))
 refine zr (zm rfl (zo (op_len Try.underlying26 rfl) ?_))
 replace h_a := h_a.ch (Ch.start A w0)
 replace H := H h_a.bd
 refine zm rfl (zo (op_len Try.underlying26 rfl) ?_)
 replace h_b := h_b.ch (Ch.start A w0)
 replace H := H h_b.bd
 by_cases h1 : (a.length : Int) = (b.length : Int)
 ·replace H := ifp h1 H
  refine zo (fun w => opB (op_neq rfl rfl w) (ndT h1)) (zn (zf rfl rfl (zk (zq (zq ?_)))))
  refine zr (zm rfl (zo (op_len Try.underlying26 rfl) (zm rfl (zn (zb ?_)))))
  refine Go1.loopW (S := Nat) (fun s σ w => agrees σ [(0, .slice p_a a.length c_a), (1, .slice p_b b.length c_b), (12, .int .i64 (a.length : Int)), (13, .int .i64 (s : Int))] ∧ Owns w0.heap.size w [] A ∧ ISl (Rp.int .i64) (bl [] ++ A) w p_a c_a a ∧ ISl (Rp.int .i64) (bl [] ++ A) w p_b c_b b ∧ Fr (bl []) w0 (bl []) w) H ⟨⟨rfl, rfl, rfl, rfl, trivial⟩, hO, h_a, h_b, hB⟩ ?_
  intro X1 k1_3
  intro H hX1 σ w2
  refine andE fun hag => andE fun hO => andE fun h_a => andE fun h_b => fun hB => ?_
  refine Go1.keep [(0, .slice p_a a.length c_a), (1, .slice p_b b.length c_b), (12, .int .i64 (a.length : Int)), (13, .int .i64 (k1_3 : Int))] hag ?_
  refine zq (zr ?_)
  by_cases h4 : (k1_3 : Int) < (a.length : Int)
  ·replace H := ifp h4 H
   refine zo (fun w => opB (op_lss rfl rfl w) (decide_eq_true h4)) (zn (zq (zt rfl rfl (zk (zq ?_)))))
   refine zb (zq (zr (zm rfl (za rfl (zn ?_)))))
   refine zq ?_
   refine Go1.drawS 0 [(0, .pure), (1, .pure), (2, .pure), (3, .stable), (4, .pure), (5, .pure), (6, .pure), (7, .stable), (8, .pure)] mixed (by kernel_rfl) ?_
   intro w5 hs6
   have ra := Stp.same hO hs6
   replace hO := ra.own
   refine GoQ.pure rfl (op_move rfl) rfl rfl ?_
   refine GoQ.pure rfl (op_move rfl) rfl rfl ?_
   obtain ⟨h8, H⟩ := H
   obtain ⟨h9, H⟩ := H
   replace h_a := h_a.ch ra.ch
   refine GoQ.pure rfl (op_index Try.underlying26 ti3 rfl rfl h8 h9 (h_a.some_ h8 h9)) rfl rfl ?_
   refine GoQ.stable rfl (ldInt h_a h8 h9 Try.underlying3 rfl rfl) rfl rfl ?_
   refine GoQ.pure rfl (op_move rfl) rfl rfl ?_
   refine GoQ.pure rfl (op_move rfl) rfl rfl ?_
   obtain ⟨h10, H⟩ := H
   obtain ⟨h11, H⟩ := H
   replace h_b := h_b.ch ra.ch
   refine GoQ.pure rfl (op_index Try.underlying26 ti3 rfl rfl h10 h11 (h_b.some_ h10 h11)) rfl rfl ?_
   refine GoQ.stable rfl (ldInt h_b h10 h11 Try.underlying3 rfl rfl) rfl rfl ?_
   by_cases h12 : (ix a (k1_3 : Int)) = (ix b (k1_3 : Int))
   ·replace H := ifp h12 H
    refine GoQ.pure rfl (fun w => opB (op_neq rfl rfl w) (ndT h12)) rfl rfl ?_
    refine GoQ.nil ?_
    refine zf rfl rfl (zk ?_)
    refine Go1.inBlock ?_
    refine zr (zo (op_add rfl rfl (wrap_i64 (natbd h4 h_a.bd))) (zm rfl (zn ?_)))
    replace hB := hB.trans ra.fr
    exact hX1 _ H _ _ ⟨⟨rfl, rfl, rfl, rfl, trivial⟩, hO, h_a, h_b, hB⟩
   replace H := ifn h12 H
   refine GoQ.pure rfl (fun w => opB (op_neq rfl rfl w) (ndF h12)) rfl rfl ?_
   refine GoQ.nil ?_
   refine zt rfl rfl (zq (zr (za rfl (zn ?_))))
   refine Go1.ret1 Try.func34 rfl ?_
   replace hB := hB.trans ra.fr
   exact ⟨false, rfl, hB.same, H⟩
  replace H := ifn h4 H
  refine zo (fun w => opB (op_lss rfl rfl w) (decide_eq_false h4)) (zn (zq (zf rfl rfl ?_)))
  refine Go1.exit rfl ?_
  refine zq (zr (za rfl (zn ?_)))
  refine Go1.ret1 Try.func34 rfl ?_
  exact ⟨true, rfl, hB.same, H⟩
 replace H := ifn h1 H
 refine zo (fun w => opB (op_neq rfl rfl w) (ndF h1)) (zn (zt rfl rfl (zq (zr (za rfl ?_)))))
 refine zn ?_
 refine Go1.ret1 Try.func34 rfl ?_
 exact ⟨false, rfl, hB.same, H⟩
theorem body41 : Body Try.prog 41 := ⟨Try.f41, Try.func41, rfl, by kernel_rfl⟩
theorem walk_ref12_Find {A : List Nat} {w0 : World} {zU : Option Addr} {zV : Nat} {p_f : Option Addr} {c_f : Nat} {elems : List (List Int)} {f : List Int} (hA : ∀ b ∈ A, b < w0.heap.size) (tM : ISl (Rp.sl (Rp.int .i64)) A w0 zU zV elems) (h_f : ISl (Rp.int .i64) A w0 p_f c_f f) {K : Int → Prop} (H : ref12_Find elems f K) :
    CallsV Try.prog 41 #[.slice zU elems.length zV, .slice p_f f.length c_f] w0 (fun v w' => ∃ (r0 : Int), v = .int .i64 r0 ∧ Same w0 w' ∧ K r0) := by
 refine CallsV.of (l := [.slice zU elems.length zV, .slice p_f f.length c_f]) Try.func41 rfl Try.ntmps41 rfl ?_
 have hO := Owns.start hA
 have hB := Fr.refl (bl []) w0
 unfold ref12_Find at H
 refine zq (zr (za rfl (zn (zq (zq ?_)))))
 refine zr (zm rfl (zo (op_len Try.underlying22 rfl) ?_))
 replace tM := tM.ch (Ch.start A w0)
 replace H := H tM.bd
 refine zm rfl (zn (zb ?_))
 replace h_f := h_f.ch (Ch.start A w0)
 refine Go1.loopW (S := Nat) (fun s σ w => agrees σ [(0, .slice zU elems.length zV), (1, .slice p_f f.length c_f), (7, .int .i64 (elems.length : Int)), (8, .int .i64 (s : Int))] ∧ Owns w0.heap.size w [] A ∧ ISl (Rp.sl (Rp.int .i64)) (bl [] ++ A) w zU zV elems ∧ ISl (Rp.int .i64) (bl [] ++ A) w p_f c_f f ∧ Fr (bl []) w0 (bl []) w) H ⟨⟨rfl, rfl, rfl, rfl, trivial⟩, hO, tM, h_f, hB⟩ ?_
 intro X1 k1_2
 intro H hX1 σ w1
 refine andE fun hag => andE fun hO => andE fun tM => andE fun h_f => fun hB => ?_
 refine Go1.keep [(0, .slice zU elems.length zV), (1, .slice p_f f.length c_f), (7, .int .i64 (elems.length : Int)), (8, .int .i64 (k1_2 : Int))] hag ?_
 refine zq (zr ?_)
 by_cases h3 : (k1_2 : Int) < (elems.length : Int)
 ·replace H := ifp h3 H
  refine zo (fun w => opB (op_lss rfl rfl w) (decide_eq_true h3)) (zn (zq (zt rfl rfl (zk (zq ?_)))))
  refine zb (zq (zr (zm rfl (za rfl (zn ?_)))))
  refine zq (zr (zm rfl (zm rfl ?_)))
  obtain ⟨h4, H⟩ := H
  obtain ⟨h5, H⟩ := H
  refine zo (op_index Try.underlying22 ti26 rfl rfl h4 h5 (tM.some_ h4 h5)) ?_
  have hobt := ldSl tM h4 h5
  obtain ⟨p6, c7, hi8, hl9⟩ := hobt
  refine zs (hl9 Try.underlying26 rfl rfl) (zm rfl ?_)
  refine GoR.call (op_call body34 rfl (walk_ref03_Same hO.lt hi8 h_f H)) rfl rfl ?_
  rintro v14 w11 ⟨r10, rfl, HI, H⟩
  have ji := Stp.same hO HI
  replace hO := ji.own
  refine zn ?_
  cases r10
  ·replace H := ifn Bool.false_ne_true H
   refine zf rfl rfl (zk ?_)
   refine Go1.inBlock ?_
   refine zr ?_
   replace tM := tM.ch ji.ch
   refine zo (op_add rfl rfl (wrap_i64 (natbd h3 tM.bd))) (zm rfl (zn ?_))
   replace h_f := h_f.ch ji.ch
   replace hB := hB.trans ji.fr
   exact hX1 _ H _ _ ⟨⟨rfl, rfl, rfl, rfl, trivial⟩, hO, tM, h_f, hB⟩
  replace H := ifp rfl H
  refine zt rfl rfl (zq (zr (zm rfl (za rfl (zn ?_)))))
  refine Go1.ret1 Try.func41 rfl ?_
  replace hB := hB.trans ji.fr
  exact ⟨(k1_2 : Int), rfl, hB.same, H⟩
 replace H := ifn h3 H
 refine zo (fun w => opB (op_lss rfl rfl w) (decide_eq_false h3)) (zn (zq (zf rfl rfl ?_)))
 refine Go1.exit rfl ?_
 refine zq (zr (za rfl (zn ?_)))
 refine Go1.ret1 Try.func41 rfl ?_
 exact ⟨(-1 : Int), rfl, hB.same, H⟩
theorem body55 : Body Try.prog 55 := ⟨Try.f55, Try.func55, rfl, by kernel_rfl⟩
theorem walk_ref12_letter {A : List Nat} {w0 : World} {x : Int} (hA : ∀ b ∈ A, b < w0.heap.size) {K : Str → Prop} (H : ref12_letter x K) :
    CallsV Try.prog 55 #[.int .i64 x] w0 (fun v w' => ∃ (r0 : Str), v = .string (gstr r0) ∧ Same w0 w' ∧ r0.length ≤ mx ∧ K r0) := by
 refine CallsV.of (l := [.int .i64 x]) Try.func55 rfl Try.ntmps55 rfl ?_
 have hO := Owns.start hA
 have hB := Fr.refl (bl []) w0
 unfold ref12_letter at H
 refine zq (zr (za rfl (zn (zq (zr ?_)))))
 refine zm rfl ?_
 obtain ⟨h1, H⟩ := H
 refine zo (op_add rfl rfl (wrap_i64 h1)) (zo (op_conv Try.underlying3 Try.underlying5 rfl rfl) ?_)
 have hobt := obuild (r := Rp.int .u8) (n := 1) (parts := [(0, .int .u8 (IntKind.u8.wrap ((97 : Int) + x)))]) (vs := [.int .u8 (IntKind.u8.wrap ((97 : Int) + x))]) (xs := [(IntKind.u8.wrap ((97 : Int) + x))]) rfl Try.underlying84 ti5 hO (by decide) (by kernel_rfl) (Els.cons rfl rfl (Els.nil _ _ _) (by simp [mx])) rfl
 obtain ⟨w2, p3, nv, hE5, hs6, zY⟩ := hobt
 refine zg (zY rfl) ?_
 replace hO := nv.own
 have hle9 := byt_le hE5.bd
 refine zs (oldBytes 0 hO rfl hE5 Try.underlying84 Try.underlying5 Try.underlying9 rfl) (za rfl (zn ?_))
 refine Go1.ret1 Try.func55 rfl ?_
 replace hB := hB.trans nv.fr
 exact ⟨byt ([(IntKind.u8.wrap ((97 : Int) + x))]), rfl, hB.same, hle9, H⟩
theorem body40 : Body Try.prog 40 := ⟨Try.f40, Try.func40, rfl, by kernel_rfl⟩
theorem walk_ref12_Word {A : List Nat} {w0 : World} {aD : Option Addr} {aE : Nat} {av : Option Addr} {aw : Nat} {ap : Option Addr} {aq : Nat} {aF : Option Addr} {aG : Nat} {ax : Option Addr} {ay : Nat} {az : Option Addr} {aA : Nat} {e : Enum} {i : Int} (hA : ∀ b ∈ A, b < w0.heap.size) (ai : ISl (Rp.sl (Rp.int .i64)) A w0 aD aE e.Gens) (af : ISl (Rp.sl (Rp.int .i64)) A w0 av aw e.Elems) (ad : ISl (Rp.int .i64) A w0 ap aq e.Prefix) (aj : ISl (Rp.int .i64) A w0 aF aG e.Last) (ag : ISl (Rp.sl (Rp.int .i64)) A w0 ax ay e.Right) (ah : ISl (rpRule) A w0 az aA e.Rules) {K : Str → Prop} (H : ref12_Word e i K) :
    CallsV Try.prog 40 #[.agg #[.int .i64 e.Points, .bool e.Monoid, .slice aD e.Gens.length aE, .slice av e.Elems.length aw, .slice ap e.Prefix.length aq, .slice aF e.Last.length aG, .slice ax e.Right.length ay, .slice az e.Rules.length aA, .int .i64 e.Done], .int .i64 i] w0 (fun v w' => ∃ (r0 : Str), v = .string (gstr r0) ∧ Same w0 w' ∧ r0.length ≤ mx ∧ K r0) := by
 refine CallsV.of (l := [.agg #[.int .i64 e.Points, .bool e.Monoid, .slice aD e.Gens.length aE, .slice av e.Elems.length aw, .slice ap e.Prefix.length aq, .slice aF e.Last.length aG, .slice ax e.Right.length ay, .slice az e.Rules.length aA, .int .i64 e.Done], .int .i64 i]) Try.func40 rfl Try.ntmps40 rfl ?_
 have hO := Owns.start hA
 have hB := Fr.refl (bl []) w0
 unfold ref12_Word at H
 refine zq (zr ?_)
 have hobt := obox (t := 29) (v := .agg #[.int .i64 e.Points, .bool e.Monoid, .slice aD e.Gens.length aE, .slice av e.Elems.length aw, .slice ap e.Prefix.length aq, .slice aF e.Last.length aG, .slice ax e.Right.length ay, .slice az e.Rules.length aA, .int .i64 e.Done]) (cs := #[.int .i64 e.Points, .bool e.Monoid, .slice aD e.Gens.length aE, .slice av e.Elems.length aw, .slice ap e.Prefix.length aq, .slice aF e.Last.length aG, .slice ax e.Right.length ay, .slice az e.Rules.length aA, .int .i64 e.Done]) hO rfl
 obtain ⟨w1, B2, d7, hs4, qE⟩ := hobt
 refine zg (qE rfl) ?_
 replace hO := d7.own
 refine za rfl (zn (zq (zr (za rfl (zn ?_)))))
 refine zq (zb ?_)
 replace hB := hB.trans d7.fr
 have Z1 := (Ch.start A w0).trans d7.ch
 replace ai := ai.ch Z1
 replace af := af.ch Z1
 replace ad := ad.ch Z1
 replace aj := aj.ch Z1
 replace ag := ag.ch Z1
 replace ah := ah.ch Z1
 refine Go1.loopW (S := Int × Str) (fun s σ w => match s with | (i1_8, w1_9) => agrees σ [(1, .int .i64 i1_8), (2, .pointer (some ⟨B2, 0, none⟩)), (5, .string (gstr w1_9))] ∧ (fun Z0 => Owns w0.heap.size w Z0 A ∧ ISl (Rp.sl (Rp.int .i64)) (bl Z0 ++ A) w aD aE e.Gens ∧ ISl (Rp.sl (Rp.int .i64)) (bl Z0 ++ A) w av aw e.Elems ∧ ISl (Rp.int .i64) (bl Z0 ++ A) w ap aq e.Prefix ∧ ISl (Rp.int .i64) (bl Z0 ++ A) w aF aG e.Last ∧ ISl (Rp.sl (Rp.int .i64)) (bl Z0 ++ A) w ax ay e.Right ∧ ISl (rpRule) (bl Z0 ++ A) w az aA e.Rules ∧ w1_9.length ≤ mx ∧ Fr (bl []) w0 (bl Z0) w) [.blk B2 (.cells #[.int .i64 e.Points, .bool e.Monoid, .slice aD e.Gens.length aE, .slice av e.Elems.length aw, .slice ap e.Prefix.length aq, .slice aF e.Last.length aG, .slice ax e.Right.length ay, .slice az e.Rules.length aA, .int .i64 e.Done] 29 (0, 0))]) H ⟨⟨rfl, rfl, rfl, trivial⟩, hO, ai, af, ad, aj, ag, ah, (by decide), hB⟩ ?_
 intro X1
 refine prE fun i1_8 => fun w1_9 => ?_
 intro H hX1 σ w7
 refine andE fun hag => andE fun hO => andE fun ai => andE fun af => andE fun ad => andE fun aj => andE fun ag => andE fun ah => andE fun hle_w1_9 => fun hB => ?_
 dsimp only at H
 refine Go1.keep [(1, .int .i64 i1_8), (2, .pointer (some ⟨B2, 0, none⟩)), (5, .string (gstr w1_9))] hag ?_
 refine zq (zq (zr (zm rfl ?_)))
 by_cases h10 : (0 : Int) ≤ i1_8
 ·replace H := ifp h10 H
  refine zo (fun w => opB (op_geq rfl rfl w) (decide_eq_true h10)) (zm rfl (zo (op_fieldAddr Try.underlying29 rfl ti26 rfl (by decide)) (zs (oblk (i := 5) 0 hO rfl rfl Try.underlying26 rfl rfl) (zm rfl ?_))))
  obtain ⟨h11, H⟩ := H
  obtain ⟨h12, H⟩ := H
  refine zo (op_index Try.underlying26 ti3 rfl rfl h11 h12 (aj.some_ h11 h12)) (zs (ldInt aj h11 h12 Try.underlying3 rfl rfl) ?_)
  by_cases h13 : (0 : Int) ≤ (ix e.Last i1_8)
  ·replace H := ifp h13 H
   refine zo (fun w => opB (op_geq rfl rfl w) (decide_eq_true h13)) (zo (op_pickT rfl rfl rfl) (zn (zt rfl rfl (zk (zb ?_)))))
   refine zq (zr (zo (op_fieldAddr Try.underlying29 rfl ti26 rfl (by decide)) (zs (oblk (i := 5) 0 hO rfl rfl Try.underlying26 rfl rfl) (zm rfl ?_))))
   obtain ⟨h14, H⟩ := H
   obtain ⟨h15, H⟩ := H
   refine zo (op_index Try.underlying26 ti3 rfl rfl h14 h15 (aj.some_ h14 h15)) (zs (ldInt aj h14 h15 Try.underlying3 rfl rfl) ?_)
   refine GoR.call (op_call body55 rfl (walk_ref12_letter hO.lt H)) rfl rfl ?_
   rintro v20 w17 ⟨r16, rfl, Dq, VU, H⟩
   have nq := Stp.same hO Dq
   replace hO := nq.own
   refine zm rfl ?_
   obtain ⟨h22, H⟩ := H
   refine zo (op_addS rfl rfl h22) (za rfl (zn ?_))
   refine Go1.cut [(1, .int .i64 i1_8), (2, .pointer (some ⟨B2, 0, none⟩)), (5, .string (gstr (r16 ++ w1_9)))] ⟨rfl, rfl, rfl, trivial⟩ ?_
   intro σ _
   refine zr (zo (op_fieldAddr Try.underlying29 rfl ti26 rfl (by decide)) (zs (oblk (i := 4) 0 hO rfl rfl Try.underlying26 rfl rfl) (zm rfl ?_)))
   obtain ⟨h23, H⟩ := H
   obtain ⟨h24, H⟩ := H
   replace ad := ad.ch nq.ch
   refine zo (op_index Try.underlying26 ti3 rfl rfl h23 h24 (ad.some_ h23 h24)) (zs (ldInt ad h23 h24 Try.underlying3 rfl rfl) (za rfl (zn ?_)))
   refine Go1.inBlock ?_
   replace ai := ai.ch nq.ch
   replace af := af.ch nq.ch
   replace aj := aj.ch nq.ch
   replace ag := ag.ch nq.ch
   replace ah := ah.ch nq.ch
   replace hB := hB.trans nq.fr
   exact hX1 _ H _ _ ⟨⟨rfl, rfl, rfl, trivial⟩, hO, ai, af, ad, aj, ag, ah, (lenApp h22), hB⟩
  replace H := ifn h13 H
  refine zo (fun w => opB (op_geq rfl rfl w) (decide_eq_false h13)) (zo (op_pickT rfl rfl rfl) (zn (zf rfl rfl ?_)))
  refine Go1.exit rfl ?_
  refine zq (zr (zm rfl (za rfl (zn ?_))))
  refine Go1.ret1 Try.func40 rfl ?_
  exact ⟨w1_9, rfl, hB.same, hle_w1_9, H⟩
 replace H := ifn h10 H
 refine zo (fun w => opB (op_geq rfl rfl w) (decide_eq_false h10)) (zm rfl (zp (zp (zp (zp ?_)))))
 refine zp (zp (zo (op_pickF rfl rfl rfl) (zn (zf rfl rfl ?_))))
 refine Go1.exit rfl ?_
 refine zq (zr (zm rfl (za rfl (zn ?_))))
 refine Go1.ret1 Try.func40 rfl ?_
 exact ⟨w1_9, rfl, hB.same, hle_w1_9, H⟩
end Sg
