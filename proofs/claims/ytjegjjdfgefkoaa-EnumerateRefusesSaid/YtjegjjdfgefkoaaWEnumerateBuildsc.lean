/- The walks: each call keeps to its plain transformer. Printed by walkgen.py. -/
import Derived.Test.YtjegjjdfgefkoaaTi
import Derived.Test.YtjegjjdfgefkoaaWEnumerateBuilds
import Derived.Test.YtjegjjdfgefkoaaWEnumerateBuildsb
import Derived.Test.YtjegjjdfgefkoaaAl
namespace Sg
open Go Go.RowKit Go.Proofs
set_option linter.unusedVariables false
set_option linter.unusedSimpArgs false
set_option maxRecDepth 100000
set_option maxHeartbeats 4000000
theorem body68 : Body Try.prog 68 := ⟨Try.f68, Try.func68, rfl, by kernel_rfl⟩
theorem body53 : Body Try.prog 53 := ⟨Try.f53, Try.func53, rfl, by kernel_rfl⟩
theorem walk_enumerate_replay {A : List Nat} {w0 : World} {bU : Option Addr} {bV : Nat} {bC : Option Addr} {bD : Nat} {bh : Option Addr} {bi : Nat} {bQ : Option Addr} {bS : Nat} {bE : Option Addr} {bF : Nat} {bG : Option Addr} {bH : Nat} {e : Enum} (hA : ∀ b ∈ A, b < w0.heap.size) (aU : ISl (Rp.sl (Rp.int .i64)) A w0 bU bV e.Gens) (aN : ISl (Rp.sl (Rp.int .i64)) A w0 bC bD e.Elems) (aK : ISl (Rp.int .i64) A w0 bh bi e.Prefix) (aR : ISl (Rp.int .i64) A w0 bQ bS e.Last) (aO : ISl (Rp.sl (Rp.int .i64)) A w0 bE bF e.Right) (aP : ISl (rpRule) A w0 bG bH e.Rules) {K : Option run → Bool → Prop} (H : enumerate_replay e K) :
    CallsV Try.prog 53 #[.agg #[.int .i64 e.Points, .bool e.Monoid, .slice bU e.Gens.length bV, .slice bC e.Elems.length bD, .slice bh e.Prefix.length bi, .slice bQ e.Last.length bS, .slice bE e.Right.length bF, .slice bG e.Rules.length bH, .int .i64 e.Done]] w0 (fun v w' => (∃ (r1 : Bool), v = .tuple #[.pointer none, .bool r1] ∧ Same w0 w' ∧ K none r1) ∨ (∃ (q : run), ∃ (r1 : Bool), ∃ (b_q : Nat), ∃ (bv : Nat), ∃ (bw : Option Addr), ∃ (bx : Nat), ∃ (dj : List Value), ∃ (bj : Nat), ∃ (bk : Option Addr), ∃ (bm : Nat), ∃ (cQ : List Value), ∃ (a8 : Nat), ∃ (a9 : Option Addr), ∃ (ba : Nat), ∃ (cA : List Value), ∃ (bz : Nat), ∃ (bA : Option Addr), ∃ (bB : Nat), ∃ (dk : List Value), ∃ (bn : Nat), ∃ (bo : Option Addr), ∃ (bp : Nat), ∃ (cR : List Value), ∃ (bq : Nat), ∃ (bt : Option Addr), ∃ (bu : Nat), ∃ (cS : List Value), ∃ (dM : Nat), ∃ (cJ : Nat), ∃ (cK : Option Addr), ∃ (cL : Nat), ∃ (eB : List Value), ∃ (cb : Nat), ∃ (cd : Option Addr), ∃ (ce : Nat), ∃ (dW : List Value), ∃ (cf : Nat), ∃ (cg : Option Addr), ∃ (ci : Nat), ∃ (dX : List Value), v = .tuple #[.pointer (some ⟨b_q, 0, none⟩), .bool r1] ∧ Same w0 w' ∧ (fun Z0 => Owns w0.heap.size w' Z0 A ∧ Els (Rp.sl (Rp.int .i64)) (bl Z0 ++ A) w' dj q.Enum.Gens ∧ Els (Rp.sl (Rp.int .i64)) (bl Z0 ++ A) w' cQ q.Enum.Elems ∧ Els (Rp.int .i64) (bl Z0 ++ A) w' cA q.Enum.Prefix ∧ Els (Rp.int .i64) (bl Z0 ++ A) w' dk q.Enum.Last ∧ Els (Rp.sl (Rp.int .i64)) (bl Z0 ++ A) w' cR q.Enum.Right ∧ Els (rpRule) (bl Z0 ++ A) w' cS q.Enum.Rules ∧ Els (Rp.str) (bl Z0 ++ A) w' eB q.words ∧ Els (Rp.int .i64) (bl Z0 ++ A) w' dW q.behind ∧ Els (Rp.int .i64) (bl Z0 ++ A) w' dX q.single ∧ K (some q) r1) [.blk b_q (.cells #[.int .i64 q.Enum.Points, .bool q.Enum.Monoid, .slice bw bv bx, .slice bk bj bm, .slice a9 a8 ba, .slice bA bz bB, .slice bo bn bp, .slice bt bq bu, .int .i64 q.Enum.Done, .map (some dM), .slice cK cJ cL, .slice cd cb ce, .slice cg cf ci] 72 (0, 0)), .row 26 1 bw bv bx dj, .row 26 1 bk bj bm cQ, .row 3 1 a9 a8 ba cA, .row 3 1 bA bz bB dk, .row 26 1 bo bn bp cR, .row 39 2 bt bq bu cS, .row 9 1 cK cJ cL eB, .row 3 1 cd cb ce dW, .row 3 1 cg cf ci dX, .any (mapE (fun a : List UInt8 => Value.string (gstr a)) (fun a : Int => Value.int .i64 a) dM q.number)])) := by
 refine CallsV.of (l := [.agg #[.int .i64 e.Points, .bool e.Monoid, .slice bU e.Gens.length bV, .slice bC e.Elems.length bD, .slice bh e.Prefix.length bi, .slice bQ e.Last.length bS, .slice bE e.Right.length bF, .slice bG e.Rules.length bH, .int .i64 e.Done]]) Try.func53 rfl Try.ntmps53 rfl ?_
 have hO := Owns.start hA
 have hB := Fr.refl (bl []) w0
 unfold enumerate_replay at H
 refine zq (zr ?_)
 have hobt := obox (t := 29) (v := .agg #[.int .i64 e.Points, .bool e.Monoid, .slice bU e.Gens.length bV, .slice bC e.Elems.length bD, .slice bh e.Prefix.length bi, .slice bQ e.Last.length bS, .slice bE e.Right.length bF, .slice bG e.Rules.length bH, .int .i64 e.Done]) (cs := #[.int .i64 e.Points, .bool e.Monoid, .slice bU e.Gens.length bV, .slice bC e.Elems.length bD, .slice bh e.Prefix.length bi, .slice bQ e.Last.length bS, .slice bE e.Right.length bF, .slice bG e.Rules.length bH, .int .i64 e.Done]) hO rfl
 obtain ⟨w1, B2, d5, hs4, uu⟩ := hobt
 refine zg (uu rfl) ?_
 replace hO := d5.own
 refine za rfl (za rfl (zn (zq (zr (zo (op_fieldAddr Try.underlying29 rfl ti22 rfl (by decide)) ?_)))))
 refine zs (oblk (i := 2) 0 hO rfl rfl Try.underlying22 rfl rfl) (zo (op_fieldAddr Try.underlying29 rfl ti4 rfl (by decide)) (zs (oblk (i := 1) 0 hO rfl rfl Try.underlying4 rfl rfl) ?_))
 replace aU := (aU.ch (Ch.start A w0)).ch d5.ch
 refine GoR.call (op_call body49 rfl (walk_enumerate_begin hO.lt aU H)) rfl rfl ?_
 intro v9 w10 hcase13
 refine Or.elim hcase13 ?_ ?_
 ·refine exE fun r8 => andE fun hv14 => andE fun y3 => fun H => ?_
  subst hv14
  clear hcase13
  replace H := oElimN H
  have iQ := Stp.same hO y3
  replace hO := iQ.own
  refine zm rfl (zo (op_extract rfl rfl) (zo (op_extract rfl rfl) (za rfl (za rfl (zn ?_)))))
  refine zq (zq (zr (zm rfl ?_)))
  by_cases h16 : r8 = (0 : Int)
  ·replace H := ifp h16 H
   refine zo (fun w => opB (op_neq rfl rfl w) (ndT h16)) (zn (zf rfl rfl (zk (zq (zb ?_)))))
   replace aU := aU.ch iQ.ch
   replace hB := (hB.trans d5.fr).trans iQ.fr
   have Z1 := ((Ch.start A w0).trans d5.ch).trans iQ.ch
   replace aN := aN.ch Z1
   replace aK := aK.ch Z1
   replace aR := aR.ch Z1
   replace aO := aO.ch Z1
   replace aP := aP.ch Z1
   refine Go1.loopW (S := Unit) (fun s σ w => agrees σ [(1, .pointer (some ⟨B2, 0, none⟩)), (4, .pointer none)] ∧ (fun Z0 => Owns w0.heap.size w Z0 A ∧ ISl (Rp.sl (Rp.int .i64)) (bl Z0 ++ A) w bU bV e.Gens ∧ ISl (Rp.sl (Rp.int .i64)) (bl Z0 ++ A) w bC bD e.Elems ∧ ISl (Rp.int .i64) (bl Z0 ++ A) w bh bi e.Prefix ∧ ISl (Rp.int .i64) (bl Z0 ++ A) w bQ bS e.Last ∧ ISl (Rp.sl (Rp.int .i64)) (bl Z0 ++ A) w bE bF e.Right ∧ ISl (rpRule) (bl Z0 ++ A) w bG bH e.Rules ∧ Fr (bl []) w0 (bl Z0) w) [.blk B2 (.cells #[.int .i64 e.Points, .bool e.Monoid, .slice bU e.Gens.length bV, .slice bC e.Elems.length bD, .slice bh e.Prefix.length bi, .slice bQ e.Last.length bS, .slice bE e.Right.length bF, .slice bG e.Rules.length bH, .int .i64 e.Done] 29 (0, 0))]) H ⟨⟨rfl, rfl, trivial⟩, hO, aU, aN, aK, aR, aO, aP, hB⟩ ?_
   intro X1 _
   intro H hX1 σ w17
   refine andE fun hag => andE fun hO => andE fun aU => andE fun aN => andE fun aK => andE fun aR => andE fun aO => andE fun aP => fun hB => ?_
   refine Go1.keep [(1, .pointer (some ⟨B2, 0, none⟩)), (4, .pointer none)] hag ?_
   refine zq (zq ?_)
   refine Go1.drawS 0 [(0, .pure), (1, .pure), (2, .pure), (3, .pure), (4, .stable), (5, .pure), (6, .stable), (7, .pure)] mixed (by kernel_rfl) ?_
   intro w18 Er
   have yA := Stp.same hO Er
   replace hO := yA.own
   refine GoQ.pure rfl (op_move rfl) rfl rfl ?_
   exact H.elim
  replace H := ifn h16 H
  refine zo (fun w => opB (op_neq rfl rfl w) (ndF h16)) (zn (zt rfl rfl (zq (zr (za rfl ?_)))))
  refine za rfl (zn ?_)
  refine Go1.ret2 Try.func53 rfl ?_
  replace hB := (hB.trans d5.fr).trans iQ.fr
  exact Or.inl ⟨false, rfl, hB.same, H⟩
 ·refine exE fun r7 => exE fun r8 => exE fun fV => exE fun uW => exE fun uX => exE fun uY => exE fun t7 => exE fun t8 => exE fun t9 => exE fun ua => exE fun tt => exE fun tu => exE fun tv => exE fun tw => exE fun sA => exE fun u0 => exE fun u3 => exE fun u4 => exE fun ub => exE fun uc => exE fun ud => exE fun ue => exE fun tx => exE fun uf => exE fun ug => exE fun uh => exE fun tz => exE fun aV => exE fun zd => exE fun zh => exE fun zi => exE fun ya => exE fun yb => exE fun yc => exE fun yd => exE fun xv => exE fun ye => exE fun yf => exE fun yg => exE fun xw => andE fun hv21 => andE fun y3 => andE fun hN12 => andE fun ft => andE fun eW => andE fun eV => andE fun fu => andE fun ff => andE fun fh => andE fun fW => andE fun gp => andE fun gq => fun H => ?_
  subst hv21
  clear hcase13
  replace H := oElimS H
  have fq := Stp.more hO y3 hN12
  dsimp only [List.cons_append, List.nil_append] at fq
  replace hO := fq.own
  replace ft := ft.ch (Ch.assoc _ _ _ _)
  dsimp only [List.cons_append, List.nil_append] at ft
  replace eW := eW.ch (Ch.assoc _ _ _ _)
  dsimp only [List.cons_append, List.nil_append] at eW
  replace eV := eV.ch (Ch.assoc _ _ _ _)
  dsimp only [List.cons_append, List.nil_append] at eV
  replace fu := fu.ch (Ch.assoc _ _ _ _)
  dsimp only [List.cons_append, List.nil_append] at fu
  replace ff := ff.ch (Ch.assoc _ _ _ _)
  dsimp only [List.cons_append, List.nil_append] at ff
  replace fh := fh.ch (Ch.assoc _ _ _ _)
  dsimp only [List.cons_append, List.nil_append] at fh
  replace fW := fW.ch (Ch.assoc _ _ _ _)
  dsimp only [List.cons_append, List.nil_append] at fW
  replace gp := gp.ch (Ch.assoc _ _ _ _)
  dsimp only [List.cons_append, List.nil_append] at gp
  replace gq := gq.ch (Ch.assoc _ _ _ _)
  dsimp only [List.cons_append, List.nil_append] at gq
  refine zm rfl (zo (op_extract rfl rfl) (zo (op_extract rfl rfl) (za rfl (za rfl (zn ?_)))))
  refine zq (zq (zr (zm rfl ?_)))
  by_cases h34 : r8 = (0 : Int)
  ·replace H := ifp h34 H
   refine zo (fun w => opB (op_neq rfl rfl w) (ndT h34)) (zn (zf rfl rfl (zk (zq (zb ?_)))))
   replace aU := aU.ch fq.ch
   replace hB := (hB.trans d5.fr).trans fq.fr
   have Z2 := ((Ch.start A w0).trans d5.ch).trans fq.ch
   replace aN := aN.ch Z2
   replace aK := aK.ch Z2
   replace aR := aR.ch Z2
   replace aO := aO.ch Z2
   replace aP := aP.ch Z2
   refine Go1.loopW (S := Int × Bool × Int × List (List Int) × List (List Int) × List Int × List Int × List (List Int) × List Rule × List Str × List Int × List Int × (List (Str × Int))) (fun s σ w => match s with | (k2_36, b2_37, k2_38, d_39, d_45, d_51, d_57, d_63, d_69, d_75, d_81, d_87, m2_93) => ∃ (n44 : Nat), ∃ (p42 : Option Addr), ∃ (c43 : Nat), ∃ (oH : List Value), ∃ (n50 : Nat), ∃ (p48 : Option Addr), ∃ (c49 : Nat), ∃ (oI : List Value), ∃ (n56 : Nat), ∃ (p54 : Option Addr), ∃ (c55 : Nat), ∃ (oJ : List Value), ∃ (n62 : Nat), ∃ (p60 : Option Addr), ∃ (c61 : Nat), ∃ (oK : List Value), ∃ (n68 : Nat), ∃ (p66 : Option Addr), ∃ (c67 : Nat), ∃ (oL : List Value), ∃ (n74 : Nat), ∃ (p72 : Option Addr), ∃ (c73 : Nat), ∃ (oM : List Value), ∃ (n80 : Nat), ∃ (p78 : Option Addr), ∃ (c79 : Nat), ∃ (oN : List Value), ∃ (n86 : Nat), ∃ (p84 : Option Addr), ∃ (c85 : Nat), ∃ (ib : List Value), ∃ (n92 : Nat), ∃ (p90 : Option Addr), ∃ (c91 : Nat), ∃ (ic : List Value), agrees σ [(1, .pointer (some ⟨B2, 0, none⟩)), (4, .pointer (some ⟨fV, 0, none⟩))] ∧ (fun Z0 => Owns w0.heap.size w Z0 A ∧ Els (Rp.sl (Rp.int .i64)) (bl Z0 ++ A) w oH d_39 ∧ Els (Rp.sl (Rp.int .i64)) (bl Z0 ++ A) w oI d_45 ∧ Els (Rp.int .i64) (bl Z0 ++ A) w oJ d_51 ∧ Els (Rp.int .i64) (bl Z0 ++ A) w oK d_57 ∧ Els (Rp.sl (Rp.int .i64)) (bl Z0 ++ A) w oL d_63 ∧ Els (rpRule) (bl Z0 ++ A) w oM d_69 ∧ Els (Rp.str) (bl Z0 ++ A) w oN d_75 ∧ Els (Rp.int .i64) (bl Z0 ++ A) w ib d_81 ∧ Els (Rp.int .i64) (bl Z0 ++ A) w ic d_87 ∧ ISl (Rp.sl (Rp.int .i64)) (bl Z0 ++ A) w bU bV e.Gens ∧ ISl (Rp.sl (Rp.int .i64)) (bl Z0 ++ A) w bC bD e.Elems ∧ ISl (Rp.int .i64) (bl Z0 ++ A) w bh bi e.Prefix ∧ ISl (Rp.int .i64) (bl Z0 ++ A) w bQ bS e.Last ∧ ISl (Rp.sl (Rp.int .i64)) (bl Z0 ++ A) w bE bF e.Right ∧ ISl (rpRule) (bl Z0 ++ A) w bG bH e.Rules ∧ Fr (bl []) w0 (bl Z0) w) [.blk fV (.cells #[.int .i64 k2_36, .bool b2_37, .slice p42 n44 c43, .slice p48 n50 c49, .slice p54 n56 c55, .slice p60 n62 c61, .slice p66 n68 c67, .slice p72 n74 c73, .int .i64 k2_38, .map (some aV), .slice p78 n80 c79, .slice p84 n86 c85, .slice p90 n92 c91] 72 (0, 0)), .row 26 1 p42 n44 c43 oH, .row 26 1 p48 n50 c49 oI, .row 3 1 p54 n56 c55 oJ, .row 3 1 p60 n62 c61 oK, .row 26 1 p66 n68 c67 oL, .row 39 2 p72 n74 c73 oM, .row 9 1 p78 n80 c79 oN, .row 3 1 p84 n86 c85 ib, .row 3 1 p90 n92 c91 ic, .any (mapE (fun a : List UInt8 => Value.string (gstr a)) (fun a : Int => Value.int .i64 a) aV m2_93), .blk B2 (.cells #[.int .i64 e.Points, .bool e.Monoid, .slice bU e.Gens.length bV, .slice bC e.Elems.length bD, .slice bh e.Prefix.length bi, .slice bQ e.Last.length bS, .slice bE e.Right.length bF, .slice bG e.Rules.length bH, .int .i64 e.Done] 29 (0, 0))]) H ⟨uW, uX, uY, t7, t8, t9, ua, tt, tu, tv, tw, sA, u0, u3, u4, ub, uc, ud, ue, tx, uf, ug, uh, tz, zd, zh, zi, ya, yb, yc, yd, xv, ye, yf, yg, xw, ⟨rfl, rfl, trivial⟩, hO, ft, eW, eV, fu, ff, fh, fW, gp, gq, aU, aN, aK, aR, aO, aP, hB⟩ ?_
   intro X2
   refine prE fun k2_36 => prE fun b2_37 => prE fun k2_38 => prE fun d_39 => prE fun d_45 => prE fun d_51 => prE fun d_57 => prE fun d_63 => prE fun d_69 => prE fun d_75 => prE fun d_81 => prE fun d_87 => fun m2_93 => ?_
   intro H hX2 σ w35
   refine exE fun n44 => exE fun p42 => exE fun c43 => exE fun oH => exE fun n50 => exE fun p48 => exE fun c49 => exE fun oI => exE fun n56 => exE fun p54 => exE fun c55 => exE fun oJ => exE fun n62 => exE fun p60 => exE fun c61 => exE fun oK => exE fun n68 => exE fun p66 => exE fun c67 => exE fun oL => exE fun n74 => exE fun p72 => exE fun c73 => exE fun oM => exE fun n80 => exE fun p78 => exE fun c79 => exE fun oN => exE fun n86 => exE fun p84 => exE fun c85 => exE fun ib => exE fun n92 => exE fun p90 => exE fun c91 => exE fun ic => andE fun hag => andE fun hO => andE fun fN => andE fun fA => andE fun fF => andE fun fG => andE fun fH => andE fun fI => andE fun fO => andE fun ct => andE fun cT => andE fun aU => andE fun aN => andE fun aK => andE fun aR => andE fun aO => andE fun aP => fun hB => ?_
   dsimp only at H
   refine Go1.keep [(1, .pointer (some ⟨B2, 0, none⟩)), (4, .pointer (some ⟨fV, 0, none⟩))] hag ?_
   refine zq (zq ?_)
   refine Go1.drawS 0 [(0, .pure), (1, .pure), (2, .pure), (3, .pure), (4, .stable), (5, .pure), (6, .stable), (7, .pure)] mixed (by kernel_rfl) ?_
   intro w94 aax
   have ie := Stp.same hO aax
   replace hO := ie.own
   refine GoQ.pure rfl (op_move rfl) rfl rfl ?_
   refine GoQ.pure rfl (op_nilCheck rfl) rfl rfl ?_
   refine GoQ.pure rfl (op_fieldAddr Try.underlying72 rfl ti29 rfl (by decide)) rfl rfl ?_
   refine GoQ.pure rfl (op_fieldAddr Try.underlying29 rfl ti3 rfl (by decide)) rfl rfl ?_
   refine GoQ.stable rfl (oblk (i := 8) 0 hO rfl rfl Try.underlying3 rfl rfl) rfl rfl ?_
   refine GoQ.pure rfl (op_fieldAddr Try.underlying29 rfl ti3 rfl (by decide)) rfl rfl ?_
   refine GoQ.stable rfl (oblk (i := 8) 11 hO rfl rfl Try.underlying3 rfl rfl) rfl rfl ?_
   by_cases h97 : k2_38 < e.Done
   ·replace H := ifp h97 H
    refine GoQ.pure rfl (fun w => opB (op_lss rfl rfl w) (decide_eq_true h97)) rfl rfl ?_
    refine GoQ.nil ?_
    refine zt rfl rfl (zk (zb (zq (zr (zm rfl ?_)))))
    refine GoR.inl (vs := [.pointer (some ⟨fV, 0, none⟩)]) (caps := []) rfl rfl body50 Try.func50 rfl Try.ntmps50 rfl rfl rfl ?_
    intro RhR98 hR98
    refine zq (zr (za rfl (zn (zq ?_))))
    refine Go1.drawS 0 [(0, .pure), (1, .pure), (2, .pure), (3, .pure), (4, .stable), (5, .pure), (6, .pure), (7, .pure), (8, .pure), (9, .stable), (10, .pure), (11, .pure), (12, .pure)] mixed (by kernel_rfl) ?_
    intro w99 I9
    have gv := Stp.same hO I9
    replace hO := gv.own
    refine GoQ.pure rfl (op_move rfl) rfl rfl ?_
    refine GoQ.pure rfl (op_nilCheck rfl) rfl rfl ?_
    refine GoQ.pure rfl (op_fieldAddr Try.underlying72 rfl ti29 rfl (by decide)) rfl rfl ?_
    refine GoQ.pure rfl (op_fieldAddr Try.underlying29 rfl ti3 rfl (by decide)) rfl rfl ?_
    refine GoQ.stable rfl (oblk (i := 8) 0 hO rfl rfl Try.underlying3 rfl rfl) rfl rfl ?_
    refine GoQ.pure rfl (op_move rfl) rfl rfl ?_
    refine GoQ.pure rfl (op_nilCheck rfl) rfl rfl ?_
    refine GoQ.pure rfl (op_fieldAddr Try.underlying72 rfl ti29 rfl (by decide)) rfl rfl ?_
    refine GoQ.pure rfl (op_fieldAddr Try.underlying29 rfl ti22 rfl (by decide)) rfl rfl ?_
    refine GoQ.stable rfl (oblk (i := 3) 0 hO rfl rfl Try.underlying22 rfl rfl) rfl rfl ?_
    replace fA := (fA.ch ie.ch).ch gv.ch
    refine GoQ.pure rfl (op_lenN Try.underlying22 rfl (fA.neq hO 2 rfl)) rfl rfl ?_
    by_cases Dl : k2_38 = (d_45.length : Int)
    ·replace H := ifp Dl H
     refine GoQ.pure rfl (fun w => opB (op_eql rfl rfl w) (decide_eq_true Dl)) rfl rfl ?_
     refine GoQ.pure rfl (op_assign rfl) rfl rfl ?_
     refine GoQ.nil ?_
     refine Go1.ret1V Try.func50 rfl (show _ = .bool true from rfl) ?_
     refine hR98 _ _ ?_
     refine zm rfl (zp (zp (zp (zo (op_pickT rfl rfl rfl) (zn ?_)))))
     refine zt rfl rfl (zq ?_)
     refine Go1.cut [] trivial ?_
     intro σ _
     refine zr (za rfl (za rfl (zn ?_)))
     refine Go1.ret2 Try.func53 rfl ?_
     replace hB := (hB.trans ie.fr).trans gv.fr
     exact Or.inl ⟨false, rfl, hB.same, H⟩
    replace H := ifn Dl H
    refine GoQ.pure rfl (fun w => opB (op_eql rfl rfl w) (decide_eq_false Dl)) rfl rfl ?_
    refine GoQ.pure rfl (op_assign rfl) rfl rfl ?_
    refine GoQ.nil ?_
    refine Go1.ret1V Try.func50 rfl (show _ = .bool false from rfl) ?_
    refine hR98 _ _ ?_
    refine zm rfl (zm rfl ?_)
    have Mm : Owns w0.heap.size w99 ([.blk fV (.cells #[.int .i64 k2_36, .bool b2_37, .slice p42 n44 c43, .slice p48 n50 c49, .slice p54 n56 c55, .slice p60 n62 c61, .slice p66 n68 c67, .slice p72 n74 c73, .int .i64 k2_38, .map (some aV), .slice p78 n80 c79, .slice p84 n86 c85, .slice p90 n92 c91] 72 (0, 0)), .row 26 1 p42 n44 c43 oH, .row 26 1 p48 n50 c49 oI, .row 3 1 p54 n56 c55 oJ, .row 3 1 p60 n62 c61 oK, .row 26 1 p66 n68 c67 oL, .row 39 2 p72 n74 c73 oM, .row 9 1 p78 n80 c79 oN, .row 3 1 p84 n86 c85 ib, .row 3 1 p90 n92 c91 ic, .any (mapE (fun a : List UInt8 => Value.string (gstr a)) (fun a : Int => Value.int .i64 a) aV m2_93)] ++ [.blk B2 (.cells #[.int .i64 e.Points, .bool e.Monoid, .slice bU e.Gens.length bV, .slice bC e.Elems.length bD, .slice bh e.Prefix.length bi, .slice bQ e.Last.length bS, .slice bE e.Right.length bF, .slice bG e.Rules.length bH, .int .i64 e.Done] 29 (0, 0))]) A := hO
    have Tm := Owns.split Mm
    have hca105 : Ch (bl [.blk fV (.cells #[.int .i64 k2_36, .bool b2_37, .slice p42 n44 c43, .slice p48 n50 c49, .slice p54 n56 c55, .slice p60 n62 c61, .slice p66 n68 c67, .slice p72 n74 c73, .int .i64 k2_38, .map (some aV), .slice p78 n80 c79, .slice p84 n86 c85, .slice p90 n92 c91] 72 (0, 0)), .row 26 1 p42 n44 c43 oH, .row 26 1 p48 n50 c49 oI, .row 3 1 p54 n56 c55 oJ, .row 3 1 p60 n62 c61 oK, .row 26 1 p66 n68 c67 oL, .row 39 2 p72 n74 c73 oM, .row 9 1 p78 n80 c79 oN, .row 3 1 p84 n86 c85 ib, .row 3 1 p90 n92 c91 ic, .any (mapE (fun a : List UInt8 => Value.string (gstr a)) (fun a : Int => Value.int .i64 a) aV m2_93), .blk B2 (.cells #[.int .i64 e.Points, .bool e.Monoid, .slice bU e.Gens.length bV, .slice bC e.Elems.length bD, .slice bh e.Prefix.length bi, .slice bQ e.Last.length bS, .slice bE e.Right.length bF, .slice bG e.Rules.length bH, .int .i64 e.Done] 29 (0, 0))] ++ A) w99 (bl [.blk fV (.cells #[.int .i64 k2_36, .bool b2_37, .slice p42 n44 c43, .slice p48 n50 c49, .slice p54 n56 c55, .slice p60 n62 c61, .slice p66 n68 c67, .slice p72 n74 c73, .int .i64 k2_38, .map (some aV), .slice p78 n80 c79, .slice p84 n86 c85, .slice p90 n92 c91] 72 (0, 0)), .row 26 1 p42 n44 c43 oH, .row 26 1 p48 n50 c49 oI, .row 3 1 p54 n56 c55 oJ, .row 3 1 p60 n62 c61 oK, .row 26 1 p66 n68 c67 oL, .row 39 2 p72 n74 c73 oM, .row 9 1 p78 n80 c79 oN, .row 3 1 p84 n86 c85 ib, .row 3 1 p90 n92 c91 ic, .any (mapE (fun a : List UInt8 => Value.string (gstr a)) (fun a : Int => Value.int .i64 a) aV m2_93)] ++ (bl [.blk B2 (.cells #[.int .i64 e.Points, .bool e.Monoid, .slice bU e.Gens.length bV, .slice bC e.Elems.length bD, .slice bh e.Prefix.length bi, .slice bQ e.Last.length bS, .slice bE e.Right.length bF, .slice bG e.Rules.length bH, .int .i64 e.Done] 29 (0, 0))] ++ A)) w99 := Ch.assoc' [.blk fV (.cells #[.int .i64 k2_36, .bool b2_37, .slice p42 n44 c43, .slice p48 n50 c49, .slice p54 n56 c55, .slice p60 n62 c61, .slice p66 n68 c67, .slice p72 n74 c73, .int .i64 k2_38, .map (some aV), .slice p78 n80 c79, .slice p84 n86 c85, .slice p90 n92 c91] 72 (0, 0)), .row 26 1 p42 n44 c43 oH, .row 26 1 p48 n50 c49 oI, .row 3 1 p54 n56 c55 oJ, .row 3 1 p60 n62 c61 oK, .row 26 1 p66 n68 c67 oL, .row 39 2 p72 n74 c73 oM, .row 9 1 p78 n80 c79 oN, .row 3 1 p84 n86 c85 ib, .row 3 1 p90 n92 c91 ic, .any (mapE (fun a : List UInt8 => Value.string (gstr a)) (fun a : Int => Value.int .i64 a) aV m2_93)] [.blk B2 (.cells #[.int .i64 e.Points, .bool e.Monoid, .slice bU e.Gens.length bV, .slice bC e.Elems.length bD, .slice bh e.Prefix.length bi, .slice bQ e.Last.length bS, .slice bE e.Right.length bF, .slice bG e.Rules.length bH, .int .i64 e.Done] 29 (0, 0))] A w99
    have Z3 := ie.ch.trans gv.ch
    replace fN := fN.ch Z3
    replace fF := fF.ch Z3
    replace fG := fG.ch Z3
    replace fH := fH.ch Z3
    replace fI := fI.ch Z3
    replace fO := fO.ch Z3
    replace ct := ct.ch Z3
    replace cT := cT.ch Z3
    refine GoR.call (op_call body51 rfl (walk_enumerate_run_process (a0 := (⟨(⟨k2_36, b2_37, d_39, d_45, d_51, d_57, d_63, d_69, k2_38⟩ : Enum), m2_93, d_75, d_81, d_87⟩ : run)) Tm (fN.ch hca105) (fA.ch hca105) (fF.ch hca105) (fG.ch hca105) (fH.ch hca105) (fI.ch hca105) (fO.ch hca105) (ct.ch hca105) (cT.ch hca105) H)) rfl rfl ?_
    intro afG HR
    refine exE fun r106 => exE fun q107 => exE fun km => exE fun kn => exE fun ko => exE fun sF => exE fun jG => exE fun jH => exE fun jI => exE fun rR => exE fun ja => exE fun jb => exE fun jc => exE fun qP => exE fun kq => exE fun kr => exE fun ks => exE fun sG => exE fun jJ => exE fun jK => exE fun jL => exE fun rS => exE fun jM => exE fun jN => exE fun jO => exE fun rT => exE fun qa => exE fun qb => exE fun qc => exE fun wC => exE fun om => exE fun oo => exE fun oq => exE fun vc => exE fun ot => exE fun ou => exE fun ov => exE fun vd => andE fun hv113 => andE fun hN110 => andE fun x5 => andE fun xz => andE fun wN => andE fun x6 => andE fun xA => andE fun xB => andE fun AW => andE fun zU => andE fun zV => andE fun hF111 => fun H => ?_
    subst hv113
    have iN : Stp w0.heap.size A w99 [.blk fV (.cells #[.int .i64 k2_36, .bool b2_37, .slice p42 n44 c43, .slice p48 n50 c49, .slice p54 n56 c55, .slice p60 n62 c61, .slice p66 n68 c67, .slice p72 n74 c73, .int .i64 k2_38, .map (some aV), .slice p78 n80 c79, .slice p84 n86 c85, .slice p90 n92 c91] 72 (0, 0)), .row 26 1 p42 n44 c43 oH, .row 26 1 p48 n50 c49 oI, .row 3 1 p54 n56 c55 oJ, .row 3 1 p60 n62 c61 oK, .row 26 1 p66 n68 c67 oL, .row 39 2 p72 n74 c73 oM, .row 9 1 p78 n80 c79 oN, .row 3 1 p84 n86 c85 ib, .row 3 1 p90 n92 c91 ic, .any (mapE (fun a : List UInt8 => Value.string (gstr a)) (fun a : Int => Value.int .i64 a) aV m2_93), .blk B2 (.cells #[.int .i64 e.Points, .bool e.Monoid, .slice bU e.Gens.length bV, .slice bC e.Elems.length bD, .slice bh e.Prefix.length bi, .slice bQ e.Last.length bS, .slice bE e.Right.length bF, .slice bG e.Rules.length bH, .int .i64 e.Done] 29 (0, 0))] HR [.blk fV (.cells #[.int .i64 q107.Enum.Points, .bool q107.Enum.Monoid, .slice kn km ko, .slice jH jG jI, .slice jb ja jc, .slice kr kq ks, .slice jK jJ jL, .slice jN jM jO, .int .i64 q107.Enum.Done, .map (some aV), .slice qb qa qc, .slice oo om oq, .slice ou ot ov] 72 (0, 0)), .row 26 1 kn km ko sF, .row 26 1 jH jG jI rR, .row 3 1 jb ja jc qP, .row 3 1 kr kq ks sG, .row 26 1 jK jJ jL rS, .row 39 2 jN jM jO rT, .row 9 1 qb qa qc wC, .row 3 1 oo om oq vc, .row 3 1 ou ot ov vd, .any (mapE (fun a : List UInt8 => Value.string (gstr a)) (fun a : Int => Value.int .i64 a) aV q107.number), .blk B2 (.cells #[.int .i64 e.Points, .bool e.Monoid, .slice bU e.Gens.length bV, .slice bC e.Elems.length bD, .slice bh e.Prefix.length bi, .slice bQ e.Last.length bS, .slice bE e.Right.length bF, .slice bG e.Rules.length bH, .int .i64 e.Done] 29 (0, 0))] := Stp.join Mm hN110 hF111
    replace hO := iN.own
    have hca114 : Ch (bl [.blk fV (.cells #[.int .i64 q107.Enum.Points, .bool q107.Enum.Monoid, .slice kn km ko, .slice jH jG jI, .slice jb ja jc, .slice kr kq ks, .slice jK jJ jL, .slice jN jM jO, .int .i64 q107.Enum.Done, .map (some aV), .slice qb qa qc, .slice oo om oq, .slice ou ot ov] 72 (0, 0)), .row 26 1 kn km ko sF, .row 26 1 jH jG jI rR, .row 3 1 jb ja jc qP, .row 3 1 kr kq ks sG, .row 26 1 jK jJ jL rS, .row 39 2 jN jM jO rT, .row 9 1 qb qa qc wC, .row 3 1 oo om oq vc, .row 3 1 ou ot ov vd, .any (mapE (fun a : List UInt8 => Value.string (gstr a)) (fun a : Int => Value.int .i64 a) aV q107.number)] ++ (bl [.blk B2 (.cells #[.int .i64 e.Points, .bool e.Monoid, .slice bU e.Gens.length bV, .slice bC e.Elems.length bD, .slice bh e.Prefix.length bi, .slice bQ e.Last.length bS, .slice bE e.Right.length bF, .slice bG e.Rules.length bH, .int .i64 e.Done] 29 (0, 0))] ++ A)) HR (bl [.blk fV (.cells #[.int .i64 q107.Enum.Points, .bool q107.Enum.Monoid, .slice kn km ko, .slice jH jG jI, .slice jb ja jc, .slice kr kq ks, .slice jK jJ jL, .slice jN jM jO, .int .i64 q107.Enum.Done, .map (some aV), .slice qb qa qc, .slice oo om oq, .slice ou ot ov] 72 (0, 0)), .row 26 1 kn km ko sF, .row 26 1 jH jG jI rR, .row 3 1 jb ja jc qP, .row 3 1 kr kq ks sG, .row 26 1 jK jJ jL rS, .row 39 2 jN jM jO rT, .row 9 1 qb qa qc wC, .row 3 1 oo om oq vc, .row 3 1 ou ot ov vd, .any (mapE (fun a : List UInt8 => Value.string (gstr a)) (fun a : Int => Value.int .i64 a) aV q107.number), .blk B2 (.cells #[.int .i64 e.Points, .bool e.Monoid, .slice bU e.Gens.length bV, .slice bC e.Elems.length bD, .slice bh e.Prefix.length bi, .slice bQ e.Last.length bS, .slice bE e.Right.length bF, .slice bG e.Rules.length bH, .int .i64 e.Done] 29 (0, 0))] ++ A) HR := Ch.assoc [.blk fV (.cells #[.int .i64 q107.Enum.Points, .bool q107.Enum.Monoid, .slice kn km ko, .slice jH jG jI, .slice jb ja jc, .slice kr kq ks, .slice jK jJ jL, .slice jN jM jO, .int .i64 q107.Enum.Done, .map (some aV), .slice qb qa qc, .slice oo om oq, .slice ou ot ov] 72 (0, 0)), .row 26 1 kn km ko sF, .row 26 1 jH jG jI rR, .row 3 1 jb ja jc qP, .row 3 1 kr kq ks sG, .row 26 1 jK jJ jL rS, .row 39 2 jN jM jO rT, .row 9 1 qb qa qc wC, .row 3 1 oo om oq vc, .row 3 1 ou ot ov vd, .any (mapE (fun a : List UInt8 => Value.string (gstr a)) (fun a : Int => Value.int .i64 a) aV q107.number)] [.blk B2 (.cells #[.int .i64 e.Points, .bool e.Monoid, .slice bU e.Gens.length bV, .slice bC e.Elems.length bD, .slice bh e.Prefix.length bi, .slice bQ e.Last.length bS, .slice bE e.Right.length bF, .slice bG e.Rules.length bH, .int .i64 e.Done] 29 (0, 0))] A HR
    by_cases Jd : r106 = (0 : Int)
    ·replace H := ifp Jd H
     refine zo (fun w => opB (op_neq rfl rfl w) (ndT Jd)) (zo (op_pickF rfl rfl rfl) (zn (zf rfl rfl (zk ?_))))
     refine Go1.inBlock ?_
     replace x5 := x5.ch hca114
     replace xz := xz.ch hca114
     replace wN := wN.ch hca114
     replace x6 := x6.ch hca114
     replace xA := xA.ch hca114
     replace xB := xB.ch hca114
     replace AW := AW.ch hca114
     replace zU := zU.ch hca114
     replace zV := zV.ch hca114
     have Z4 := Z3.trans iN.ch
     replace aU := aU.ch Z4
     replace aN := aN.ch Z4
     replace aK := aK.ch Z4
     replace aR := aR.ch Z4
     replace aO := aO.ch Z4
     replace aP := aP.ch Z4
     replace hB := ((hB.trans ie.fr).trans gv.fr).trans iN.fr
     exact hX2 _ H _ _ ⟨km, kn, ko, sF, jG, jH, jI, rR, ja, jb, jc, qP, kq, kr, ks, sG, jJ, jK, jL, rS, jM, jN, jO, rT, qa, qb, qc, wC, om, oo, oq, vc, ot, ou, ov, vd, ⟨rfl, rfl, trivial⟩, hO, x5, xz, wN, x6, xA, xB, AW, zU, zV, aU, aN, aK, aR, aO, aP, hB⟩
    replace H := ifn Jd H
    refine zo (fun w => opB (op_neq rfl rfl w) (ndF Jd)) (zo (op_pickF rfl rfl rfl) (zn (zt rfl rfl (zq (zr ?_)))))
    refine za rfl (za rfl (zn ?_))
    refine Go1.ret2 Try.func53 rfl ?_
    replace hB := ((hB.trans ie.fr).trans gv.fr).trans iN.fr
    exact Or.inl ⟨false, rfl, hB.same, H⟩
   replace H := ifn h97 H
   refine GoQ.pure rfl (fun w => opB (op_lss rfl rfl w) (decide_eq_false h97)) rfl rfl ?_
   refine GoQ.nil ?_
   refine zf rfl rfl ?_
   refine Go1.exit rfl ?_
   refine zq (zr (zm rfl (zm rfl (zs (oblkAgg (vs := [.int .i64 e.Points, .bool e.Monoid, .slice bU e.Gens.length bV, .slice bC e.Elems.length bD, .slice bh e.Prefix.length bi, .slice bQ e.Last.length bS, .slice bE e.Right.length bF, .slice bG e.Rules.length bH, .int .i64 e.Done]) (i := 0) 11 hO rfl rfl Try.underlying29 rfl ti29 rfl) ?_))))
   refine GoR.inl (vs := [.pointer (some ⟨fV, 0, none⟩), .agg #[.int .i64 e.Points, .bool e.Monoid, .slice bU e.Gens.length bV, .slice bC e.Elems.length bD, .slice bh e.Prefix.length bi, .slice bQ e.Last.length bS, .slice bE e.Right.length bF, .slice bG e.Rules.length bH, .int .i64 e.Done]]) (caps := []) rfl rfl body68 Try.func68 rfl Try.ntmps68 rfl rfl rfl ?_
   intro RhR116 hR116
   refine zq (zr ?_)
   have hobt := obox (t := 29) (v := .agg #[.int .i64 e.Points, .bool e.Monoid, .slice bU e.Gens.length bV, .slice bC e.Elems.length bD, .slice bh e.Prefix.length bi, .slice bQ e.Last.length bS, .slice bE e.Right.length bF, .slice bG e.Rules.length bH, .int .i64 e.Done]) (cs := #[.int .i64 e.Points, .bool e.Monoid, .slice bU e.Gens.length bV, .slice bC e.Elems.length bD, .slice bh e.Prefix.length bi, .slice bQ e.Last.length bS, .slice bE e.Right.length bF, .slice bG e.Rules.length bH, .int .i64 e.Done]) hO rfl
   obtain ⟨afH, B118, gr, acT, OO⟩ := hobt
   refine zg (OO rfl) ?_
   replace hO := gr.own
   refine za rfl (zn (zq ?_))
   refine Go1.drawS 0 [(0, .pure), (1, .pure), (2, .pure), (3, .pure), (4, .stable), (5, .pure), (6, .stable), (7, .pure), (8, .pure), (9, .pure), (10, .pure), (11, .pure), (12, .pure), (13, .stable), (14, .pure), (15, .stable), (16, .pure), (17, .pure), (18, .pure), (19, .pure), (20, .pure), (21, .pure), (22, .pure), (23, .stable), (24, .pure), (25, .stable), (26, .loud), (27, .pure), (28, .pure), (29, .pure), (30, .pure), (31, .pure), (32, .pure), (33, .stable), (34, .pure), (35, .stable), (36, .loud), (37, .pure), (38, .pure), (39, .pure), (40, .pure), (41, .pure), (42, .pure), (43, .stable), (44, .pure), (45, .stable), (46, .loud), (47, .pure), (48, .pure), (49, .pure), (50, .pure), (51, .pure), (52, .pure), (53, .stable), (54, .pure), (55, .stable), (56, .loud), (57, .pure), (58, .pure), (59, .pure), (60, .pure), (61, .pure), (62, .pure), (63, .stable), (64, .pure), (65, .stable), (66, .loud), (67, .pure), (68, .pure)] mixed (by kernel_rfl) ?_
   intro aay Je
   have gs := Stp.same hO Je
   replace hO := gs.own
   refine GoQ.pure rfl (op_move rfl) rfl rfl ?_
   refine GoQ.pure rfl (op_nilCheck rfl) rfl rfl ?_
   refine GoQ.pure rfl (op_fieldAddr Try.underlying72 rfl ti29 rfl (by decide)) rfl rfl ?_
   refine GoQ.pure rfl (op_fieldAddr Try.underlying29 rfl ti3 rfl (by decide)) rfl rfl ?_
   refine GoQ.stable rfl (oblk (i := 0) 1 hO rfl rfl Try.underlying3 rfl rfl) rfl rfl ?_
   refine GoQ.pure rfl (op_fieldAddr Try.underlying29 rfl ti3 rfl (by decide)) rfl rfl ?_
   refine GoQ.stable rfl (oblk (i := 0) 0 hO rfl rfl Try.underlying3 rfl rfl) rfl rfl ?_
   by_cases Jf : k2_36 = e.Points
   ·replace H := ifp Jf H
    refine GoQ.pure rfl (fun w => opB (op_eql rfl rfl w) (decide_eq_true Jf)) rfl rfl ?_
    refine GoQ.pure rfl (op_move rfl) rfl rfl ?_
    refine GoQ.pure rfl (op_move rfl) rfl rfl ?_
    refine GoQ.pure rfl (op_nilCheck rfl) rfl rfl ?_
    refine GoQ.pure rfl (op_fieldAddr Try.underlying72 rfl ti29 rfl (by decide)) rfl rfl ?_
    refine GoQ.pure rfl (op_fieldAddr Try.underlying29 rfl ti3 rfl (by decide)) rfl rfl ?_
    refine GoQ.stable rfl (oblk (i := 8) 1 hO rfl rfl Try.underlying3 rfl rfl) rfl rfl ?_
    refine GoQ.pure rfl (op_fieldAddr Try.underlying29 rfl ti3 rfl (by decide)) rfl rfl ?_
    refine GoQ.stable rfl (oblk (i := 8) 0 hO rfl rfl Try.underlying3 rfl rfl) rfl rfl ?_
    by_cases Jg : k2_38 = e.Done
    ·replace H := ifp Jg H
     refine GoQ.pure rfl (fun w => opB (op_eql rfl rfl w) (decide_eq_true Jg)) rfl rfl ?_
     refine GoQ.pure rfl (op_pickT rfl rfl rfl) rfl rfl ?_
     refine GoQ.pure rfl (op_move rfl) rfl rfl ?_
     refine GoQ.pure rfl (op_move rfl) rfl rfl ?_
     refine GoQ.pure rfl (op_nilCheck rfl) rfl rfl ?_
     refine GoQ.pure rfl (op_fieldAddr Try.underlying72 rfl ti29 rfl (by decide)) rfl rfl ?_
     refine GoQ.pure rfl (op_fieldAddr Try.underlying29 rfl ti22 rfl (by decide)) rfl rfl ?_
     refine GoQ.stable rfl (oblk (i := 3) 1 hO rfl rfl Try.underlying22 rfl rfl) rfl rfl ?_
     refine GoQ.pure rfl (op_fieldAddr Try.underlying29 rfl ti22 rfl (by decide)) rfl rfl ?_
     refine GoQ.stable rfl (oblk (i := 3) 0 hO rfl rfl Try.underlying22 rfl rfl) rfl rfl ?_
     have Z5 := (ie.ch.trans gr.ch).trans gs.ch
     replace fA := fA.ch Z5
     have hobt := rowlend 3 hO rfl fA
     obtain ⟨Tn, To⟩ := hobt
     have hOc130 := hO.drop 3
     replace aN := aN.ch Z5
     refine GoQ.call rfl (op_call body69 (show ([.slice p48 n50 c49, .slice bC e.Elems.length bD, .func (.func 70) #[] #[]] : List Value) = [.slice p48 d_45.length c49, .slice bC e.Elems.length bD, .func (.func 70) #[] #[]] from by rw [← To]) (walk_slices_EqualFunc_int hOc130.lt Tn (aN.ch (Owns.dropCh _ _ 3)) H)) (fun v w hr => by obtain ⟨_, _, hs, _⟩ := hr; assumption) rfl rfl ?_
     rintro afI afJ ⟨r131, rfl, Tp, H⟩
     have rU := Stp.same hO Tp
     replace hO := rU.own
     refine GoQ.pure rfl (op_pickT rfl rfl rfl) rfl rfl ?_
     refine GoQ.pure rfl (op_move rfl) rfl rfl ?_
     cases r131
     ·replace H := ifn Bool.false_ne_true H
      refine GoQ.pass rfl rfl rfl ?_
      refine GoQ.pass rfl rfl rfl ?_
      refine GoQ.pass rfl rfl rfl ?_
      refine GoQ.pass rfl rfl rfl ?_
      refine GoQ.pass rfl rfl rfl ?_
      refine GoQ.pass rfl rfl rfl ?_
      refine GoQ.pass rfl rfl rfl ?_
      refine GoQ.pass rfl rfl rfl ?_
      refine GoQ.pure rfl (op_pickF rfl rfl rfl) rfl rfl ?_
      refine GoQ.pure rfl (op_move rfl) rfl rfl ?_
      refine GoQ.pass rfl rfl rfl ?_
      refine GoQ.pass rfl rfl rfl ?_
      refine GoQ.pass rfl rfl rfl ?_
      refine GoQ.pass rfl rfl rfl ?_
      refine GoQ.pass rfl rfl rfl ?_
      refine GoQ.pass rfl rfl rfl ?_
      refine GoQ.pass rfl rfl rfl ?_
      refine GoQ.pass rfl rfl rfl ?_
      refine GoQ.pure rfl (op_pickF rfl rfl rfl) rfl rfl ?_
      refine GoQ.pure rfl (op_move rfl) rfl rfl ?_
      refine GoQ.pass rfl rfl rfl ?_
      refine GoQ.pass rfl rfl rfl ?_
      refine GoQ.pass rfl rfl rfl ?_
      refine GoQ.pass rfl rfl rfl ?_
      refine GoQ.pass rfl rfl rfl ?_
      refine GoQ.pass rfl rfl rfl ?_
      refine GoQ.pass rfl rfl rfl ?_
      refine GoQ.pass rfl rfl rfl ?_
      refine GoQ.pure rfl (op_pickF rfl rfl rfl) rfl rfl ?_
      refine GoQ.pure rfl (op_move rfl) rfl rfl ?_
      refine GoQ.pass rfl rfl rfl ?_
      refine GoQ.pass rfl rfl rfl ?_
      refine GoQ.pass rfl rfl rfl ?_
      refine GoQ.pass rfl rfl rfl ?_
      refine GoQ.pass rfl rfl rfl ?_
      refine GoQ.pass rfl rfl rfl ?_
      refine GoQ.pass rfl rfl rfl ?_
      refine GoQ.pass rfl rfl rfl ?_
      refine GoQ.pure rfl (op_pickF rfl rfl rfl) rfl rfl ?_
      refine GoQ.pure rfl (op_assign rfl) rfl rfl ?_
      refine GoQ.nil ?_
      refine Go1.ret1V Try.func68 rfl (show _ = .bool false from rfl) ?_
      refine hR116 _ _ ?_
      refine za rfl (za rfl (zn ?_))
      replace hO := hO.drop 0
      have Z6 := rU.ch.trans (Owns.dropCh _ _ 0)
      replace fA := fA.ch Z6
      replace aN := aN.ch Z6
      have Z7 := (Z5.trans rU.ch).trans (Owns.dropCh _ _ 0)
      replace fN := fN.ch Z7
      replace fF := fF.ch Z7
      replace fG := fG.ch Z7
      replace fH := fH.ch Z7
      replace fI := fI.ch Z7
      replace fO := fO.ch Z7
      replace ct := ct.ch Z7
      replace cT := cT.ch Z7
      replace aU := aU.ch Z7
      replace aK := aK.ch Z7
      replace aR := aR.ch Z7
      replace aO := aO.ch Z7
      replace aP := aP.ch Z7
      replace hB := ((((hB.trans ie.fr).trans gr.fr).trans gs.fr).trans rU.fr).trans (Owns.dropFr _ _ 0)
      dsimp only [eS, eZ] at hB hO aU aN aK aR aO aP fN fA fF fG fH fI fO ct cT
      replace hO := hO.drop 11
      replace aU := aU.ch (Owns.dropCh _ _ 11)
      replace aN := aN.ch (Owns.dropCh _ _ 11)
      replace aK := aK.ch (Owns.dropCh _ _ 11)
      replace aR := aR.ch (Owns.dropCh _ _ 11)
      replace aO := aO.ch (Owns.dropCh _ _ 11)
      replace aP := aP.ch (Owns.dropCh _ _ 11)
      replace fN := fN.ch (Owns.dropCh _ _ 11)
      replace fA := fA.ch (Owns.dropCh _ _ 11)
      replace fF := fF.ch (Owns.dropCh _ _ 11)
      replace fG := fG.ch (Owns.dropCh _ _ 11)
      replace fH := fH.ch (Owns.dropCh _ _ 11)
      replace fI := fI.ch (Owns.dropCh _ _ 11)
      replace fO := fO.ch (Owns.dropCh _ _ 11)
      replace ct := ct.ch (Owns.dropCh _ _ 11)
      replace cT := cT.ch (Owns.dropCh _ _ 11)
      replace hB := hB.trans (Owns.dropFr _ _ 11)
      dsimp only [eS, eZ] at hB hO aU aN aK aR aO aP fN fA fF fG fH fI fO ct cT
      refine Go1.ret2 Try.func53 rfl ?_
      exact Or.inr ⟨(⟨(⟨k2_36, b2_37, d_39, d_45, d_51, d_57, d_63, d_69, k2_38⟩ : Enum), m2_93, d_75, d_81, d_87⟩ : run), false, fV, n44, p42, c43, oH, n50, p48, c49, oI, n56, p54, c55, oJ, n62, p60, c61, oK, n68, p66, c67, oL, n74, p72, c73, oM, aV, n80, p78, c79, oN, n86, p84, c85, ib, n92, p90, c91, ic, rfl, hB.same, hO, fN, fA, fF, fG, fH, fI, fO, ct, cT, H⟩
     replace H := ifp rfl H
     refine GoQ.pure rfl (op_move rfl) rfl rfl ?_
     refine GoQ.pure rfl (op_nilCheck rfl) rfl rfl ?_
     refine GoQ.pure rfl (op_fieldAddr Try.underlying72 rfl ti29 rfl (by decide)) rfl rfl ?_
     refine GoQ.pure rfl (op_fieldAddr Try.underlying29 rfl ti26 rfl (by decide)) rfl rfl ?_
     refine GoQ.stable rfl (oblk (i := 4) 1 hO rfl rfl Try.underlying26 rfl rfl) rfl rfl ?_
     refine GoQ.pure rfl (op_fieldAddr Try.underlying29 rfl ti26 rfl (by decide)) rfl rfl ?_
     refine GoQ.stable rfl (oblk (i := 4) 0 hO rfl rfl Try.underlying26 rfl rfl) rfl rfl ?_
     replace fF := (fF.ch Z5).ch rU.ch
     have hobt := rowlend 4 hO rfl fF
     obtain ⟨Jh, Ji⟩ := hobt
     have hOc139 := hO.drop 4
     replace aK := (aK.ch Z5).ch rU.ch
     refine GoQ.call rfl (op_call body70 (show ([.slice p54 n56 c55, .slice bh e.Prefix.length bi] : List Value) = [.slice p54 d_51.length c55, .slice bh e.Prefix.length bi] from by rw [← Ji]) (walk_slices_Equal_int hOc139.lt Jh (aK.ch (Owns.dropCh _ _ 4)) H)) (fun v w hr => by obtain ⟨_, _, hs, _⟩ := hr; assumption) rfl rfl ?_
     rintro afK afL ⟨r140, rfl, Tq, H⟩
     have g7 := Stp.same hO Tq
     replace hO := g7.own
     refine GoQ.pure rfl (op_pickT rfl rfl rfl) rfl rfl ?_
     refine GoQ.pure rfl (op_move rfl) rfl rfl ?_
     cases r140
     ·replace H := ifn Bool.false_ne_true H
      refine GoQ.pass rfl rfl rfl ?_
      refine GoQ.pass rfl rfl rfl ?_
      refine GoQ.pass rfl rfl rfl ?_
      refine GoQ.pass rfl rfl rfl ?_
      refine GoQ.pass rfl rfl rfl ?_
      refine GoQ.pass rfl rfl rfl ?_
      refine GoQ.pass rfl rfl rfl ?_
      refine GoQ.pass rfl rfl rfl ?_
      refine GoQ.pure rfl (op_pickF rfl rfl rfl) rfl rfl ?_
      refine GoQ.pure rfl (op_move rfl) rfl rfl ?_
      refine GoQ.pass rfl rfl rfl ?_
      refine GoQ.pass rfl rfl rfl ?_
      refine GoQ.pass rfl rfl rfl ?_
      refine GoQ.pass rfl rfl rfl ?_
      refine GoQ.pass rfl rfl rfl ?_
      refine GoQ.pass rfl rfl rfl ?_
      refine GoQ.pass rfl rfl rfl ?_
      refine GoQ.pass rfl rfl rfl ?_
      refine GoQ.pure rfl (op_pickF rfl rfl rfl) rfl rfl ?_
      refine GoQ.pure rfl (op_move rfl) rfl rfl ?_
      refine GoQ.pass rfl rfl rfl ?_
      refine GoQ.pass rfl rfl rfl ?_
      refine GoQ.pass rfl rfl rfl ?_
      refine GoQ.pass rfl rfl rfl ?_
      refine GoQ.pass rfl rfl rfl ?_
      refine GoQ.pass rfl rfl rfl ?_
      refine GoQ.pass rfl rfl rfl ?_
      refine GoQ.pass rfl rfl rfl ?_
      refine GoQ.pure rfl (op_pickF rfl rfl rfl) rfl rfl ?_
      refine GoQ.pure rfl (op_assign rfl) rfl rfl ?_
      refine GoQ.nil ?_
      refine Go1.ret1V Try.func68 rfl (show _ = .bool false from rfl) ?_
      refine hR116 _ _ ?_
      refine za rfl (za rfl (zn ?_))
      replace hO := hO.drop 0
      have Z8 := g7.ch.trans (Owns.dropCh _ _ 0)
      replace fF := fF.ch Z8
      replace aK := aK.ch Z8
      have Z9 := (rU.ch.trans g7.ch).trans (Owns.dropCh _ _ 0)
      replace fA := fA.ch Z9
      replace aN := aN.ch Z9
      have Z10 := ((Z5.trans rU.ch).trans g7.ch).trans (Owns.dropCh _ _ 0)
      replace fN := fN.ch Z10
      replace fG := fG.ch Z10
      replace fH := fH.ch Z10
      replace fI := fI.ch Z10
      replace fO := fO.ch Z10
      replace ct := ct.ch Z10
      replace cT := cT.ch Z10
      replace aU := aU.ch Z10
      replace aR := aR.ch Z10
      replace aO := aO.ch Z10
      replace aP := aP.ch Z10
      replace hB := (((((hB.trans ie.fr).trans gr.fr).trans gs.fr).trans rU.fr).trans g7.fr).trans (Owns.dropFr _ _ 0)
      dsimp only [eS, eZ] at hB hO aU aN aK aR aO aP fN fA fF fG fH fI fO ct cT
      replace hO := hO.drop 11
      replace aU := aU.ch (Owns.dropCh _ _ 11)
      replace aN := aN.ch (Owns.dropCh _ _ 11)
      replace aK := aK.ch (Owns.dropCh _ _ 11)
      replace aR := aR.ch (Owns.dropCh _ _ 11)
      replace aO := aO.ch (Owns.dropCh _ _ 11)
      replace aP := aP.ch (Owns.dropCh _ _ 11)
      replace fN := fN.ch (Owns.dropCh _ _ 11)
      replace fA := fA.ch (Owns.dropCh _ _ 11)
      replace fF := fF.ch (Owns.dropCh _ _ 11)
      replace fG := fG.ch (Owns.dropCh _ _ 11)
      replace fH := fH.ch (Owns.dropCh _ _ 11)
      replace fI := fI.ch (Owns.dropCh _ _ 11)
      replace fO := fO.ch (Owns.dropCh _ _ 11)
      replace ct := ct.ch (Owns.dropCh _ _ 11)
      replace cT := cT.ch (Owns.dropCh _ _ 11)
      replace hB := hB.trans (Owns.dropFr _ _ 11)
      dsimp only [eS, eZ] at hB hO aU aN aK aR aO aP fN fA fF fG fH fI fO ct cT
      refine Go1.ret2 Try.func53 rfl ?_
      exact Or.inr ⟨(⟨(⟨k2_36, b2_37, d_39, d_45, d_51, d_57, d_63, d_69, k2_38⟩ : Enum), m2_93, d_75, d_81, d_87⟩ : run), false, fV, n44, p42, c43, oH, n50, p48, c49, oI, n56, p54, c55, oJ, n62, p60, c61, oK, n68, p66, c67, oL, n74, p72, c73, oM, aV, n80, p78, c79, oN, n86, p84, c85, ib, n92, p90, c91, ic, rfl, hB.same, hO, fN, fA, fF, fG, fH, fI, fO, ct, cT, H⟩
     replace H := ifp rfl H
     refine GoQ.pure rfl (op_move rfl) rfl rfl ?_
     refine GoQ.pure rfl (op_nilCheck rfl) rfl rfl ?_
     refine GoQ.pure rfl (op_fieldAddr Try.underlying72 rfl ti29 rfl (by decide)) rfl rfl ?_
     refine GoQ.pure rfl (op_fieldAddr Try.underlying29 rfl ti26 rfl (by decide)) rfl rfl ?_
     refine GoQ.stable rfl (oblk (i := 5) 1 hO rfl rfl Try.underlying26 rfl rfl) rfl rfl ?_
     refine GoQ.pure rfl (op_fieldAddr Try.underlying29 rfl ti26 rfl (by decide)) rfl rfl ?_
     refine GoQ.stable rfl (oblk (i := 5) 0 hO rfl rfl Try.underlying26 rfl rfl) rfl rfl ?_
     replace fG := ((fG.ch Z5).ch rU.ch).ch g7.ch
     have hobt := rowlend 5 hO rfl fG
     obtain ⟨Tr, Ts⟩ := hobt
     have hOc148 := hO.drop 5
     replace aR := ((aR.ch Z5).ch rU.ch).ch g7.ch
     refine GoQ.call rfl (op_call body70 (show ([.slice p60 n62 c61, .slice bQ e.Last.length bS] : List Value) = [.slice p60 d_57.length c61, .slice bQ e.Last.length bS] from by rw [← Ts]) (walk_slices_Equal_int hOc148.lt Tr (aR.ch (Owns.dropCh _ _ 5)) H)) (fun v w hr => by obtain ⟨_, _, hs, _⟩ := hr; assumption) rfl rfl ?_
     rintro afM Y0 ⟨r149, rfl, Tt, H⟩
     have kc := Stp.same hO Tt
     replace hO := kc.own
     refine GoQ.pure rfl (op_pickT rfl rfl rfl) rfl rfl ?_
     refine GoQ.pure rfl (op_move rfl) rfl rfl ?_
     cases r149
     ·replace H := ifn Bool.false_ne_true H
      refine GoQ.pass rfl rfl rfl ?_
      refine GoQ.pass rfl rfl rfl ?_
      refine GoQ.pass rfl rfl rfl ?_
      refine GoQ.pass rfl rfl rfl ?_
      refine GoQ.pass rfl rfl rfl ?_
      refine GoQ.pass rfl rfl rfl ?_
      refine GoQ.pass rfl rfl rfl ?_
      refine GoQ.pass rfl rfl rfl ?_
      refine GoQ.pure rfl (op_pickF rfl rfl rfl) rfl rfl ?_
      refine GoQ.pure rfl (op_move rfl) rfl rfl ?_
      refine GoQ.pass rfl rfl rfl ?_
      refine GoQ.pass rfl rfl rfl ?_
      refine GoQ.pass rfl rfl rfl ?_
      refine GoQ.pass rfl rfl rfl ?_
      refine GoQ.pass rfl rfl rfl ?_
      refine GoQ.pass rfl rfl rfl ?_
      refine GoQ.pass rfl rfl rfl ?_
      refine GoQ.pass rfl rfl rfl ?_
      refine GoQ.pure rfl (op_pickF rfl rfl rfl) rfl rfl ?_
      refine GoQ.pure rfl (op_assign rfl) rfl rfl ?_
      refine GoQ.nil ?_
      refine Go1.ret1V Try.func68 rfl (show _ = .bool false from rfl) ?_
      refine hR116 _ _ ?_
      refine za rfl (za rfl (zn ?_))
      replace hO := hO.drop 0
      have Z11 := kc.ch.trans (Owns.dropCh _ _ 0)
      replace fG := fG.ch Z11
      replace aR := aR.ch Z11
      have Z12 := (g7.ch.trans kc.ch).trans (Owns.dropCh _ _ 0)
      replace fF := fF.ch Z12
      replace aK := aK.ch Z12
      have Z13 := ((rU.ch.trans g7.ch).trans kc.ch).trans (Owns.dropCh _ _ 0)
      replace fA := fA.ch Z13
      replace aN := aN.ch Z13
      have Z14 := (((Z5.trans rU.ch).trans g7.ch).trans kc.ch).trans (Owns.dropCh _ _ 0)
      replace fN := fN.ch Z14
      replace fH := fH.ch Z14
      replace fI := fI.ch Z14
      replace fO := fO.ch Z14
      replace ct := ct.ch Z14
      replace cT := cT.ch Z14
      replace aU := aU.ch Z14
      replace aO := aO.ch Z14
      replace aP := aP.ch Z14
      replace hB := ((((((hB.trans ie.fr).trans gr.fr).trans gs.fr).trans rU.fr).trans g7.fr).trans kc.fr).trans (Owns.dropFr _ _ 0)
      dsimp only [eS, eZ] at hB hO aU aN aK aR aO aP fN fA fF fG fH fI fO ct cT
      replace hO := hO.drop 11
      replace aU := aU.ch (Owns.dropCh _ _ 11)
      replace aN := aN.ch (Owns.dropCh _ _ 11)
      replace aK := aK.ch (Owns.dropCh _ _ 11)
      replace aR := aR.ch (Owns.dropCh _ _ 11)
      replace aO := aO.ch (Owns.dropCh _ _ 11)
      replace aP := aP.ch (Owns.dropCh _ _ 11)
      replace fN := fN.ch (Owns.dropCh _ _ 11)
      replace fA := fA.ch (Owns.dropCh _ _ 11)
      replace fF := fF.ch (Owns.dropCh _ _ 11)
      replace fG := fG.ch (Owns.dropCh _ _ 11)
      replace fH := fH.ch (Owns.dropCh _ _ 11)
      replace fI := fI.ch (Owns.dropCh _ _ 11)
      replace fO := fO.ch (Owns.dropCh _ _ 11)
      replace ct := ct.ch (Owns.dropCh _ _ 11)
      replace cT := cT.ch (Owns.dropCh _ _ 11)
      replace hB := hB.trans (Owns.dropFr _ _ 11)
      dsimp only [eS, eZ] at hB hO aU aN aK aR aO aP fN fA fF fG fH fI fO ct cT
      refine Go1.ret2 Try.func53 rfl ?_
      exact Or.inr ⟨(⟨(⟨k2_36, b2_37, d_39, d_45, d_51, d_57, d_63, d_69, k2_38⟩ : Enum), m2_93, d_75, d_81, d_87⟩ : run), false, fV, n44, p42, c43, oH, n50, p48, c49, oI, n56, p54, c55, oJ, n62, p60, c61, oK, n68, p66, c67, oL, n74, p72, c73, oM, aV, n80, p78, c79, oN, n86, p84, c85, ib, n92, p90, c91, ic, rfl, hB.same, hO, fN, fA, fF, fG, fH, fI, fO, ct, cT, H⟩
     replace H := ifp rfl H
     refine GoQ.pure rfl (op_move rfl) rfl rfl ?_
     refine GoQ.pure rfl (op_nilCheck rfl) rfl rfl ?_
     refine GoQ.pure rfl (op_fieldAddr Try.underlying72 rfl ti29 rfl (by decide)) rfl rfl ?_
     refine GoQ.pure rfl (op_fieldAddr Try.underlying29 rfl ti22 rfl (by decide)) rfl rfl ?_
     refine GoQ.stable rfl (oblk (i := 6) 1 hO rfl rfl Try.underlying22 rfl rfl) rfl rfl ?_
     refine GoQ.pure rfl (op_fieldAddr Try.underlying29 rfl ti22 rfl (by decide)) rfl rfl ?_
     refine GoQ.stable rfl (oblk (i := 6) 0 hO rfl rfl Try.underlying22 rfl rfl) rfl rfl ?_
     have Z15 := ((Z5.trans rU.ch).trans g7.ch).trans kc.ch
     replace fH := fH.ch Z15
     have hobt := rowlend 6 hO rfl fH
     obtain ⟨Tu, Tv⟩ := hobt
     have hOc157 := hO.drop 6
     replace aO := aO.ch Z15
     refine GoQ.call rfl (op_call body69 (show ([.slice p66 n68 c67, .slice bE e.Right.length bF, .func (.func 70) #[] #[]] : List Value) = [.slice p66 d_63.length c67, .slice bE e.Right.length bF, .func (.func 70) #[] #[]] from by rw [← Tv]) (walk_slices_EqualFunc_int hOc157.lt Tu (aO.ch (Owns.dropCh _ _ 6)) H)) (fun v w hr => by obtain ⟨_, _, hs, _⟩ := hr; assumption) rfl rfl ?_
     rintro afN OP ⟨r158, rfl, Tw, H⟩
     have gj := Stp.same hO Tw
     replace hO := gj.own
     refine GoQ.pure rfl (op_pickT rfl rfl rfl) rfl rfl ?_
     refine GoQ.pure rfl (op_move rfl) rfl rfl ?_
     cases r158
     ·replace H := ifn Bool.false_ne_true H
      refine GoQ.pass rfl rfl rfl ?_
      refine GoQ.pass rfl rfl rfl ?_
      refine GoQ.pass rfl rfl rfl ?_
      refine GoQ.pass rfl rfl rfl ?_
      refine GoQ.pass rfl rfl rfl ?_
      refine GoQ.pass rfl rfl rfl ?_
      refine GoQ.pass rfl rfl rfl ?_
      refine GoQ.pass rfl rfl rfl ?_
      refine GoQ.pure rfl (op_pickF rfl rfl rfl) rfl rfl ?_
      refine GoQ.pure rfl (op_assign rfl) rfl rfl ?_
      refine GoQ.nil ?_
      refine Go1.ret1V Try.func68 rfl (show _ = .bool false from rfl) ?_
      refine hR116 _ _ ?_
      refine za rfl (za rfl (zn ?_))
      replace hO := hO.drop 0
      have Z16 := gj.ch.trans (Owns.dropCh _ _ 0)
      replace fH := fH.ch Z16
      replace aO := aO.ch Z16
      have Z17 := (kc.ch.trans gj.ch).trans (Owns.dropCh _ _ 0)
      replace fG := fG.ch Z17
      replace aR := aR.ch Z17
      have Z18 := ((g7.ch.trans kc.ch).trans gj.ch).trans (Owns.dropCh _ _ 0)
      replace fF := fF.ch Z18
      replace aK := aK.ch Z18
      have Z19 := (((rU.ch.trans g7.ch).trans kc.ch).trans gj.ch).trans (Owns.dropCh _ _ 0)
      replace fA := fA.ch Z19
      replace aN := aN.ch Z19
      have Z20 := (Z15.trans gj.ch).trans (Owns.dropCh _ _ 0)
      replace fN := fN.ch Z20
      replace fI := fI.ch Z20
      replace fO := fO.ch Z20
      replace ct := ct.ch Z20
      replace cT := cT.ch Z20
      replace aU := aU.ch Z20
      replace aP := aP.ch Z20
      replace hB := (((((((hB.trans ie.fr).trans gr.fr).trans gs.fr).trans rU.fr).trans g7.fr).trans kc.fr).trans gj.fr).trans (Owns.dropFr _ _ 0)
      dsimp only [eS, eZ] at hB hO aU aN aK aR aO aP fN fA fF fG fH fI fO ct cT
      replace hO := hO.drop 11
      replace aU := aU.ch (Owns.dropCh _ _ 11)
      replace aN := aN.ch (Owns.dropCh _ _ 11)
      replace aK := aK.ch (Owns.dropCh _ _ 11)
      replace aR := aR.ch (Owns.dropCh _ _ 11)
      replace aO := aO.ch (Owns.dropCh _ _ 11)
      replace aP := aP.ch (Owns.dropCh _ _ 11)
      replace fN := fN.ch (Owns.dropCh _ _ 11)
      replace fA := fA.ch (Owns.dropCh _ _ 11)
      replace fF := fF.ch (Owns.dropCh _ _ 11)
      replace fG := fG.ch (Owns.dropCh _ _ 11)
      replace fH := fH.ch (Owns.dropCh _ _ 11)
      replace fI := fI.ch (Owns.dropCh _ _ 11)
      replace fO := fO.ch (Owns.dropCh _ _ 11)
      replace ct := ct.ch (Owns.dropCh _ _ 11)
      replace cT := cT.ch (Owns.dropCh _ _ 11)
      replace hB := hB.trans (Owns.dropFr _ _ 11)
      dsimp only [eS, eZ] at hB hO aU aN aK aR aO aP fN fA fF fG fH fI fO ct cT
      refine Go1.ret2 Try.func53 rfl ?_
      exact Or.inr ⟨(⟨(⟨k2_36, b2_37, d_39, d_45, d_51, d_57, d_63, d_69, k2_38⟩ : Enum), m2_93, d_75, d_81, d_87⟩ : run), false, fV, n44, p42, c43, oH, n50, p48, c49, oI, n56, p54, c55, oJ, n62, p60, c61, oK, n68, p66, c67, oL, n74, p72, c73, oM, aV, n80, p78, c79, oN, n86, p84, c85, ib, n92, p90, c91, ic, rfl, hB.same, hO, fN, fA, fF, fG, fH, fI, fO, ct, cT, H⟩
     replace H := ifp rfl H
     refine GoQ.pure rfl (op_move rfl) rfl rfl ?_
     refine GoQ.pure rfl (op_nilCheck rfl) rfl rfl ?_
     refine GoQ.pure rfl (op_fieldAddr Try.underlying72 rfl ti29 rfl (by decide)) rfl rfl ?_
     refine GoQ.pure rfl (op_fieldAddr Try.underlying29 rfl ti27 rfl (by decide)) rfl rfl ?_
     refine GoQ.stable rfl (oblk (i := 7) 1 hO rfl rfl Try.underlying27 rfl rfl) rfl rfl ?_
     refine GoQ.pure rfl (op_fieldAddr Try.underlying29 rfl ti27 rfl (by decide)) rfl rfl ?_
     refine GoQ.stable rfl (oblk (i := 7) 0 hO rfl rfl Try.underlying27 rfl rfl) rfl rfl ?_
     replace fI := (fI.ch Z15).ch gj.ch
     have hobt := rowlend 7 hO rfl fI
     obtain ⟨Tx, Ty⟩ := hobt
     have hOc166 := hO.drop 7
     replace aP := (aP.ch Z15).ch gj.ch
     refine GoQ.call rfl (op_call body71 (show ([.slice p72 n74 c73, .slice bG e.Rules.length bH] : List Value) = [.slice p72 d_69.length c73, .slice bG e.Rules.length bH] from by rw [← Ty]) (walk_slices_Equal_api_Rule hOc166.lt Tx (aP.ch (Owns.dropCh _ _ 7)) H)) (fun v w hr => by obtain ⟨_, _, hs, _⟩ := hr; assumption) rfl rfl ?_
     rintro XX MX ⟨r167, rfl, Ih, H⟩
     have f8 := Stp.same hO Ih
     replace hO := f8.own
     refine GoQ.pure rfl (op_pickT rfl rfl rfl) rfl rfl ?_
     refine GoQ.pure rfl (op_assign rfl) rfl rfl ?_
     refine GoQ.nil ?_
     refine Go1.ret1V Try.func68 rfl (show _ = .bool r167 from rfl) ?_
     refine hR116 _ _ ?_
     refine za rfl (za rfl (zn ?_))
     replace hO := hO.drop 0
     have Z21 := f8.ch.trans (Owns.dropCh _ _ 0)
     replace fI := fI.ch Z21
     replace aP := aP.ch Z21
     have Z22 := (gj.ch.trans f8.ch).trans (Owns.dropCh _ _ 0)
     replace fH := fH.ch Z22
     replace aO := aO.ch Z22
     have Z23 := ((kc.ch.trans gj.ch).trans f8.ch).trans (Owns.dropCh _ _ 0)
     replace fG := fG.ch Z23
     replace aR := aR.ch Z23
     have Z24 := (((g7.ch.trans kc.ch).trans gj.ch).trans f8.ch).trans (Owns.dropCh _ _ 0)
     replace fF := fF.ch Z24
     replace aK := aK.ch Z24
     have Z25 := ((((rU.ch.trans g7.ch).trans kc.ch).trans gj.ch).trans f8.ch).trans (Owns.dropCh _ _ 0)
     replace fA := fA.ch Z25
     replace aN := aN.ch Z25
     have Z26 := ((Z15.trans gj.ch).trans f8.ch).trans (Owns.dropCh _ _ 0)
     replace fN := fN.ch Z26
     replace fO := fO.ch Z26
     replace ct := ct.ch Z26
     replace cT := cT.ch Z26
     replace aU := aU.ch Z26
     replace hB := ((((((((hB.trans ie.fr).trans gr.fr).trans gs.fr).trans rU.fr).trans g7.fr).trans kc.fr).trans gj.fr).trans f8.fr).trans (Owns.dropFr _ _ 0)
     dsimp only [eS, eZ] at hB hO aU aN aK aR aO aP fN fA fF fG fH fI fO ct cT
     replace hO := hO.drop 11
     replace aU := aU.ch (Owns.dropCh _ _ 11)
     replace aN := aN.ch (Owns.dropCh _ _ 11)
     replace aK := aK.ch (Owns.dropCh _ _ 11)
     replace aR := aR.ch (Owns.dropCh _ _ 11)
     replace aO := aO.ch (Owns.dropCh _ _ 11)
     replace aP := aP.ch (Owns.dropCh _ _ 11)
     replace fN := fN.ch (Owns.dropCh _ _ 11)
     replace fA := fA.ch (Owns.dropCh _ _ 11)
     replace fF := fF.ch (Owns.dropCh _ _ 11)
     replace fG := fG.ch (Owns.dropCh _ _ 11)
     replace fH := fH.ch (Owns.dropCh _ _ 11)
     replace fI := fI.ch (Owns.dropCh _ _ 11)
     replace fO := fO.ch (Owns.dropCh _ _ 11)
     replace ct := ct.ch (Owns.dropCh _ _ 11)
     replace cT := cT.ch (Owns.dropCh _ _ 11)
     replace hB := hB.trans (Owns.dropFr _ _ 11)
     dsimp only [eS, eZ] at hB hO aU aN aK aR aO aP fN fA fF fG fH fI fO ct cT
     refine Go1.ret2 Try.func53 rfl ?_
     exact Or.inr ⟨(⟨(⟨k2_36, b2_37, d_39, d_45, d_51, d_57, d_63, d_69, k2_38⟩ : Enum), m2_93, d_75, d_81, d_87⟩ : run), r167, fV, n44, p42, c43, oH, n50, p48, c49, oI, n56, p54, c55, oJ, n62, p60, c61, oK, n68, p66, c67, oL, n74, p72, c73, oM, aV, n80, p78, c79, oN, n86, p84, c85, ib, n92, p90, c91, ic, rfl, hB.same, hO, fN, fA, fF, fG, fH, fI, fO, ct, cT, H⟩
    replace H := ifn Jg H
    refine GoQ.pure rfl (fun w => opB (op_eql rfl rfl w) (decide_eq_false Jg)) rfl rfl ?_
    refine GoQ.pure rfl (op_pickT rfl rfl rfl) rfl rfl ?_
    refine GoQ.pure rfl (op_move rfl) rfl rfl ?_
    refine GoQ.pass rfl rfl rfl ?_
    refine GoQ.pass rfl rfl rfl ?_
    refine GoQ.pass rfl rfl rfl ?_
    refine GoQ.pass rfl rfl rfl ?_
    refine GoQ.pass rfl rfl rfl ?_
    refine GoQ.pass rfl rfl rfl ?_
    refine GoQ.pass rfl rfl rfl ?_
    refine GoQ.pass rfl rfl rfl ?_
    refine GoQ.pure rfl (op_pickF rfl rfl rfl) rfl rfl ?_
    refine GoQ.pure rfl (op_move rfl) rfl rfl ?_
    refine GoQ.pass rfl rfl rfl ?_
    refine GoQ.pass rfl rfl rfl ?_
    refine GoQ.pass rfl rfl rfl ?_
    refine GoQ.pass rfl rfl rfl ?_
    refine GoQ.pass rfl rfl rfl ?_
    refine GoQ.pass rfl rfl rfl ?_
    refine GoQ.pass rfl rfl rfl ?_
    refine GoQ.pass rfl rfl rfl ?_
    refine GoQ.pure rfl (op_pickF rfl rfl rfl) rfl rfl ?_
    refine GoQ.pure rfl (op_move rfl) rfl rfl ?_
    refine GoQ.pass rfl rfl rfl ?_
    refine GoQ.pass rfl rfl rfl ?_
    refine GoQ.pass rfl rfl rfl ?_
    refine GoQ.pass rfl rfl rfl ?_
    refine GoQ.pass rfl rfl rfl ?_
    refine GoQ.pass rfl rfl rfl ?_
    refine GoQ.pass rfl rfl rfl ?_
    refine GoQ.pass rfl rfl rfl ?_
    refine GoQ.pure rfl (op_pickF rfl rfl rfl) rfl rfl ?_
    refine GoQ.pure rfl (op_move rfl) rfl rfl ?_
    refine GoQ.pass rfl rfl rfl ?_
    refine GoQ.pass rfl rfl rfl ?_
    refine GoQ.pass rfl rfl rfl ?_
    refine GoQ.pass rfl rfl rfl ?_
    refine GoQ.pass rfl rfl rfl ?_
    refine GoQ.pass rfl rfl rfl ?_
    refine GoQ.pass rfl rfl rfl ?_
    refine GoQ.pass rfl rfl rfl ?_
    refine GoQ.pure rfl (op_pickF rfl rfl rfl) rfl rfl ?_
    refine GoQ.pure rfl (op_move rfl) rfl rfl ?_
    refine GoQ.pass rfl rfl rfl ?_
    refine GoQ.pass rfl rfl rfl ?_
    refine GoQ.pass rfl rfl rfl ?_
    refine GoQ.pass rfl rfl rfl ?_
    refine GoQ.pass rfl rfl rfl ?_
    refine GoQ.pass rfl rfl rfl ?_
    refine GoQ.pass rfl rfl rfl ?_
    refine GoQ.pass rfl rfl rfl ?_
    refine GoQ.pure rfl (op_pickF rfl rfl rfl) rfl rfl ?_
    refine GoQ.pure rfl (op_assign rfl) rfl rfl ?_
    refine GoQ.nil ?_
    refine Go1.ret1V Try.func68 rfl (show _ = .bool false from rfl) ?_
    refine hR116 _ _ ?_
    refine za rfl (za rfl (zn ?_))
    replace hO := hO.drop 0
    have Z27 := ((ie.ch.trans gr.ch).trans gs.ch).trans (Owns.dropCh _ _ 0)
    replace fN := fN.ch Z27
    replace fA := fA.ch Z27
    replace fF := fF.ch Z27
    replace fG := fG.ch Z27
    replace fH := fH.ch Z27
    replace fI := fI.ch Z27
    replace fO := fO.ch Z27
    replace ct := ct.ch Z27
    replace cT := cT.ch Z27
    replace aU := aU.ch Z27
    replace aN := aN.ch Z27
    replace aK := aK.ch Z27
    replace aR := aR.ch Z27
    replace aO := aO.ch Z27
    replace aP := aP.ch Z27
    replace hB := (((hB.trans ie.fr).trans gr.fr).trans gs.fr).trans (Owns.dropFr _ _ 0)
    dsimp only [eS, eZ] at hB hO aU aN aK aR aO aP fN fA fF fG fH fI fO ct cT
    replace hO := hO.drop 11
    replace aU := aU.ch (Owns.dropCh _ _ 11)
    replace aN := aN.ch (Owns.dropCh _ _ 11)
    replace aK := aK.ch (Owns.dropCh _ _ 11)
    replace aR := aR.ch (Owns.dropCh _ _ 11)
    replace aO := aO.ch (Owns.dropCh _ _ 11)
    replace aP := aP.ch (Owns.dropCh _ _ 11)
    replace fN := fN.ch (Owns.dropCh _ _ 11)
    replace fA := fA.ch (Owns.dropCh _ _ 11)
    replace fF := fF.ch (Owns.dropCh _ _ 11)
    replace fG := fG.ch (Owns.dropCh _ _ 11)
    replace fH := fH.ch (Owns.dropCh _ _ 11)
    replace fI := fI.ch (Owns.dropCh _ _ 11)
    replace fO := fO.ch (Owns.dropCh _ _ 11)
    replace ct := ct.ch (Owns.dropCh _ _ 11)
    replace cT := cT.ch (Owns.dropCh _ _ 11)
    replace hB := hB.trans (Owns.dropFr _ _ 11)
    dsimp only [eS, eZ] at hB hO aU aN aK aR aO aP fN fA fF fG fH fI fO ct cT
    refine Go1.ret2 Try.func53 rfl ?_
    exact Or.inr ⟨(⟨(⟨k2_36, b2_37, d_39, d_45, d_51, d_57, d_63, d_69, k2_38⟩ : Enum), m2_93, d_75, d_81, d_87⟩ : run), false, fV, n44, p42, c43, oH, n50, p48, c49, oI, n56, p54, c55, oJ, n62, p60, c61, oK, n68, p66, c67, oL, n74, p72, c73, oM, aV, n80, p78, c79, oN, n86, p84, c85, ib, n92, p90, c91, ic, rfl, hB.same, hO, fN, fA, fF, fG, fH, fI, fO, ct, cT, H⟩
   replace H := ifn Jf H
   refine GoQ.pure rfl (fun w => opB (op_eql rfl rfl w) (decide_eq_false Jf)) rfl rfl ?_
   refine GoQ.pure rfl (op_move rfl) rfl rfl ?_
   refine GoQ.pass rfl rfl rfl ?_
   refine GoQ.pass rfl rfl rfl ?_
   refine GoQ.pass rfl rfl rfl ?_
   refine GoQ.pass rfl rfl rfl ?_
   refine GoQ.pass rfl rfl rfl ?_
   refine GoQ.pass rfl rfl rfl ?_
   refine GoQ.pass rfl rfl rfl ?_
   refine GoQ.pass rfl rfl rfl ?_
   refine GoQ.pure rfl (op_pickF rfl rfl rfl) rfl rfl ?_
   refine GoQ.pure rfl (op_move rfl) rfl rfl ?_
   refine GoQ.pass rfl rfl rfl ?_
   refine GoQ.pass rfl rfl rfl ?_
   refine GoQ.pass rfl rfl rfl ?_
   refine GoQ.pass rfl rfl rfl ?_
   refine GoQ.pass rfl rfl rfl ?_
   refine GoQ.pass rfl rfl rfl ?_
   refine GoQ.pass rfl rfl rfl ?_
   refine GoQ.pass rfl rfl rfl ?_
   refine GoQ.pure rfl (op_pickF rfl rfl rfl) rfl rfl ?_
   refine GoQ.pure rfl (op_move rfl) rfl rfl ?_
   refine GoQ.pass rfl rfl rfl ?_
   refine GoQ.pass rfl rfl rfl ?_
   refine GoQ.pass rfl rfl rfl ?_
   refine GoQ.pass rfl rfl rfl ?_
   refine GoQ.pass rfl rfl rfl ?_
   refine GoQ.pass rfl rfl rfl ?_
   refine GoQ.pass rfl rfl rfl ?_
   refine GoQ.pass rfl rfl rfl ?_
   refine GoQ.pure rfl (op_pickF rfl rfl rfl) rfl rfl ?_
   refine GoQ.pure rfl (op_move rfl) rfl rfl ?_
   refine GoQ.pass rfl rfl rfl ?_
   refine GoQ.pass rfl rfl rfl ?_
   refine GoQ.pass rfl rfl rfl ?_
   refine GoQ.pass rfl rfl rfl ?_
   refine GoQ.pass rfl rfl rfl ?_
   refine GoQ.pass rfl rfl rfl ?_
   refine GoQ.pass rfl rfl rfl ?_
   refine GoQ.pass rfl rfl rfl ?_
   refine GoQ.pure rfl (op_pickF rfl rfl rfl) rfl rfl ?_
   refine GoQ.pure rfl (op_move rfl) rfl rfl ?_
   refine GoQ.pass rfl rfl rfl ?_
   refine GoQ.pass rfl rfl rfl ?_
   refine GoQ.pass rfl rfl rfl ?_
   refine GoQ.pass rfl rfl rfl ?_
   refine GoQ.pass rfl rfl rfl ?_
   refine GoQ.pass rfl rfl rfl ?_
   refine GoQ.pass rfl rfl rfl ?_
   refine GoQ.pass rfl rfl rfl ?_
   refine GoQ.pure rfl (op_pickF rfl rfl rfl) rfl rfl ?_
   refine GoQ.pure rfl (op_move rfl) rfl rfl ?_
   refine GoQ.pass rfl rfl rfl ?_
   refine GoQ.pass rfl rfl rfl ?_
   refine GoQ.pass rfl rfl rfl ?_
   refine GoQ.pass rfl rfl rfl ?_
   refine GoQ.pass rfl rfl rfl ?_
   refine GoQ.pass rfl rfl rfl ?_
   refine GoQ.pass rfl rfl rfl ?_
   refine GoQ.pass rfl rfl rfl ?_
   refine GoQ.pure rfl (op_pickF rfl rfl rfl) rfl rfl ?_
   refine GoQ.pure rfl (op_assign rfl) rfl rfl ?_
   refine GoQ.nil ?_
   refine Go1.ret1V Try.func68 rfl (show _ = .bool false from rfl) ?_
   refine hR116 _ _ ?_
   refine za rfl (za rfl (zn ?_))
   replace hO := hO.drop 0
   have Z28 := ((ie.ch.trans gr.ch).trans gs.ch).trans (Owns.dropCh _ _ 0)
   replace fN := fN.ch Z28
   replace fA := fA.ch Z28
   replace fF := fF.ch Z28
   replace fG := fG.ch Z28
   replace fH := fH.ch Z28
   replace fI := fI.ch Z28
   replace fO := fO.ch Z28
   replace ct := ct.ch Z28
   replace cT := cT.ch Z28
   replace aU := aU.ch Z28
   replace aN := aN.ch Z28
   replace aK := aK.ch Z28
   replace aR := aR.ch Z28
   replace aO := aO.ch Z28
   replace aP := aP.ch Z28
   replace hB := (((hB.trans ie.fr).trans gr.fr).trans gs.fr).trans (Owns.dropFr _ _ 0)
   dsimp only [eS, eZ] at hB hO aU aN aK aR aO aP fN fA fF fG fH fI fO ct cT
   replace hO := hO.drop 11
   replace aU := aU.ch (Owns.dropCh _ _ 11)
   replace aN := aN.ch (Owns.dropCh _ _ 11)
   replace aK := aK.ch (Owns.dropCh _ _ 11)
   replace aR := aR.ch (Owns.dropCh _ _ 11)
   replace aO := aO.ch (Owns.dropCh _ _ 11)
   replace aP := aP.ch (Owns.dropCh _ _ 11)
   replace fN := fN.ch (Owns.dropCh _ _ 11)
   replace fA := fA.ch (Owns.dropCh _ _ 11)
   replace fF := fF.ch (Owns.dropCh _ _ 11)
   replace fG := fG.ch (Owns.dropCh _ _ 11)
   replace fH := fH.ch (Owns.dropCh _ _ 11)
   replace fI := fI.ch (Owns.dropCh _ _ 11)
   replace fO := fO.ch (Owns.dropCh _ _ 11)
   replace ct := ct.ch (Owns.dropCh _ _ 11)
   replace cT := cT.ch (Owns.dropCh _ _ 11)
   replace hB := hB.trans (Owns.dropFr _ _ 11)
   dsimp only [eS, eZ] at hB hO aU aN aK aR aO aP fN fA fF fG fH fI fO ct cT
   refine Go1.ret2 Try.func53 rfl ?_
   exact Or.inr ⟨(⟨(⟨k2_36, b2_37, d_39, d_45, d_51, d_57, d_63, d_69, k2_38⟩ : Enum), m2_93, d_75, d_81, d_87⟩ : run), false, fV, n44, p42, c43, oH, n50, p48, c49, oI, n56, p54, c55, oJ, n62, p60, c61, oK, n68, p66, c67, oL, n74, p72, c73, oM, aV, n80, p78, c79, oN, n86, p84, c85, ib, n92, p90, c91, ic, rfl, hB.same, hO, fN, fA, fF, fG, fH, fI, fO, ct, cT, H⟩
  replace H := ifn h34 H
  refine zo (fun w => opB (op_neq rfl rfl w) (ndF h34)) (zn (zt rfl rfl (zq ?_)))
  refine Go1.cut [] trivial ?_
  intro σ _
  refine zr (za rfl (za rfl (zn ?_)))
  refine Go1.ret2 Try.func53 rfl ?_
  replace hB := (hB.trans d5.fr).trans fq.fr
  exact Or.inl ⟨false, rfl, hB.same, H⟩
theorem body29 : Body Try.prog 29 := ⟨Try.f29, Try.func29, rfl, by kernel_rfl⟩
theorem walk_enumerate_Word {A : List Nat} {w0 : World} {bU : Option Addr} {bV : Nat} {bC : Option Addr} {bD : Nat} {bh : Option Addr} {bi : Nat} {bQ : Option Addr} {bS : Nat} {bE : Option Addr} {bF : Nat} {bG : Option Addr} {bH : Nat} {e : Enum} {i : Int} (hA : ∀ b ∈ A, b < w0.heap.size) (aU : ISl (Rp.sl (Rp.int .i64)) A w0 bU bV e.Gens) (aN : ISl (Rp.sl (Rp.int .i64)) A w0 bC bD e.Elems) (aK : ISl (Rp.int .i64) A w0 bh bi e.Prefix) (aR : ISl (Rp.int .i64) A w0 bQ bS e.Last) (aO : ISl (Rp.sl (Rp.int .i64)) A w0 bE bF e.Right) (aP : ISl (rpRule) A w0 bG bH e.Rules) {K : Str → Prop} (H : enumerate_Word e i K) :
    CallsV Try.prog 29 #[.agg #[.int .i64 e.Points, .bool e.Monoid, .slice bU e.Gens.length bV, .slice bC e.Elems.length bD, .slice bh e.Prefix.length bi, .slice bQ e.Last.length bS, .slice bE e.Right.length bF, .slice bG e.Rules.length bH, .int .i64 e.Done], .int .i64 i] w0 (fun v w' => ∃ (r0 : Str), v = .string (gstr r0) ∧ Same w0 w' ∧ r0.length ≤ mx ∧ K r0) := by
 refine CallsV.of (l := [.agg #[.int .i64 e.Points, .bool e.Monoid, .slice bU e.Gens.length bV, .slice bC e.Elems.length bD, .slice bh e.Prefix.length bi, .slice bQ e.Last.length bS, .slice bE e.Right.length bF, .slice bG e.Rules.length bH, .int .i64 e.Done], .int .i64 i]) Try.func29 rfl Try.ntmps29 rfl ?_
 have hO := Owns.start hA
 have hB := Fr.refl (bl []) w0
 unfold enumerate_Word at H
 refine zq (zr ?_)
 have hobt := obox (t := 29) (v := .agg #[.int .i64 e.Points, .bool e.Monoid, .slice bU e.Gens.length bV, .slice bC e.Elems.length bD, .slice bh e.Prefix.length bi, .slice bQ e.Last.length bS, .slice bE e.Right.length bF, .slice bG e.Rules.length bH, .int .i64 e.Done]) (cs := #[.int .i64 e.Points, .bool e.Monoid, .slice bU e.Gens.length bV, .slice bC e.Elems.length bD, .slice bh e.Prefix.length bi, .slice bQ e.Last.length bS, .slice bE e.Right.length bF, .slice bG e.Rules.length bH, .int .i64 e.Done]) hO rfl
 obtain ⟨w1, B2, d5, hs4, uu⟩ := hobt
 refine zg (uu rfl) ?_
 replace hO := d5.own
 refine za rfl (zn (zq (zr (zs (oblkAgg (vs := [.int .i64 e.Points, .bool e.Monoid, .slice bU e.Gens.length bV, .slice bC e.Elems.length bD, .slice bh e.Prefix.length bi, .slice bQ e.Last.length bS, .slice bE e.Right.length bF, .slice bG e.Rules.length bH, .int .i64 e.Done]) (i := 0) 0 hO rfl rfl Try.underlying29 rfl ti29 rfl) ?_))))
 have Z1 := (Ch.start A w0).trans d5.ch
 replace aU := aU.ch Z1
 replace aN := aN.ch Z1
 replace aK := aK.ch Z1
 replace aR := aR.ch Z1
 replace aO := aO.ch Z1
 replace aP := aP.ch Z1
 refine GoR.call (op_call body53 rfl (walk_enumerate_replay (e := e) hO.lt aU aN aK aR aO aP H)) rfl rfl ?_
 intro v9 w10 hcase13
 refine Or.elim hcase13 ?_ ?_
 ·refine exE fun r8 => andE fun hv14 => andE fun y3 => fun H => ?_
  subst hv14
  clear hcase13
  replace H := oElimN H
  have iQ := Stp.same hO y3
  replace hO := iQ.own
  refine zm rfl (zo (op_extract rfl rfl) (zo (op_extract rfl rfl) (za rfl (za rfl (zn ?_)))))
  refine zq (zq (zr (zm rfl ?_)))
  cases r8
  ·replace H := ifn Bool.false_ne_true H
   refine zo (op_not rfl) (zm rfl (zp (zp (zo (op_pickT rfl rfl rfl) (zm rfl ?_)))))
   refine zp (zp (zp (zp (zp (zp ?_)))))
   refine zp (zp (zo (op_pickT rfl rfl rfl) (zn (zt rfl rfl (zq ?_)))))
   refine Go1.cut [] trivial ?_
   intro σ _
   refine zr (za rfl (zn ?_))
   refine Go1.ret1 Try.func29 rfl ?_
   replace hB := (hB.trans d5.fr).trans iQ.fr
   exact ⟨([] : Str), rfl, hB.same, (by decide), H⟩
  replace H := ifp rfl H
  refine zo (op_not rfl) (zm rfl (zm rfl ?_))
  by_cases h16 : i < (0 : Int)
  ·replace H := ifp h16 H
   refine zo (fun w => opB (op_lss rfl rfl w) (decide_eq_true h16)) (zo (op_pickF rfl rfl rfl) (zm rfl (zp (zp (zp ?_)))))
   refine zp (zp (zp (zp (zp (zo (op_pickT rfl rfl rfl) ?_)))))
   refine zn (zt rfl rfl (zq (zr (za rfl (zn ?_)))))
   refine Go1.ret1 Try.func29 rfl ?_
   replace hB := (hB.trans d5.fr).trans iQ.fr
   exact ⟨([] : Str), rfl, hB.same, (by decide), H⟩
  replace H := ifn h16 H
  refine zo (fun w => opB (op_lss rfl rfl w) (decide_eq_false h16)) (zo (op_pickF rfl rfl rfl) (zm rfl (zm rfl (zm rfl ?_))))
  exact H.elim
 ·refine exE fun r7 => exE fun r8 => exE fun fV => exE fun uW => exE fun uX => exE fun uY => exE fun t7 => exE fun t8 => exE fun t9 => exE fun ua => exE fun tt => exE fun tu => exE fun tv => exE fun tw => exE fun sA => exE fun u0 => exE fun u3 => exE fun u4 => exE fun ub => exE fun uc => exE fun ud => exE fun ue => exE fun tx => exE fun uf => exE fun ug => exE fun uh => exE fun tz => exE fun aV => exE fun zd => exE fun zh => exE fun zi => exE fun ya => exE fun yb => exE fun yc => exE fun yd => exE fun xv => exE fun ye => exE fun yf => exE fun yg => exE fun xw => andE fun hv17 => andE fun y3 => andE fun hN12 => andE fun ft => andE fun eW => andE fun eV => andE fun fu => andE fun ff => andE fun fh => andE fun fW => andE fun gp => andE fun gq => fun H => ?_
  subst hv17
  clear hcase13
  replace H := oElimS H
  have qv := Stp.more hO y3 hN12
  dsimp only [List.cons_append, List.nil_append] at qv
  replace hO := qv.own
  replace ft := ft.ch (Ch.assoc _ _ _ _)
  dsimp only [List.cons_append, List.nil_append] at ft
  replace eW := eW.ch (Ch.assoc _ _ _ _)
  dsimp only [List.cons_append, List.nil_append] at eW
  replace eV := eV.ch (Ch.assoc _ _ _ _)
  dsimp only [List.cons_append, List.nil_append] at eV
  replace fu := fu.ch (Ch.assoc _ _ _ _)
  dsimp only [List.cons_append, List.nil_append] at fu
  replace ff := ff.ch (Ch.assoc _ _ _ _)
  dsimp only [List.cons_append, List.nil_append] at ff
  replace fh := fh.ch (Ch.assoc _ _ _ _)
  dsimp only [List.cons_append, List.nil_append] at fh
  replace fW := fW.ch (Ch.assoc _ _ _ _)
  dsimp only [List.cons_append, List.nil_append] at fW
  replace gp := gp.ch (Ch.assoc _ _ _ _)
  dsimp only [List.cons_append, List.nil_append] at gp
  replace gq := gq.ch (Ch.assoc _ _ _ _)
  dsimp only [List.cons_append, List.nil_append] at gq
  refine zm rfl (zo (op_extract rfl rfl) (zo (op_extract rfl rfl) (za rfl (za rfl (zn ?_)))))
  refine zq (zq ?_)
  refine Go1.cut [(1, .int .i64 i), (5, .pointer (some ⟨fV, 0, none⟩)), (6, .bool r8)] ⟨rfl, rfl, rfl, trivial⟩ ?_
  intro σ _
  refine zr (zm rfl ?_)
  cases r8
  ·replace H := ifn Bool.false_ne_true H
   refine zo (op_not rfl) (zm rfl (zp (zp (zo (op_pickT rfl rfl rfl) (zm rfl ?_)))))
   refine zp (zp (zp (zp (zp (zp ?_)))))
   refine zp (zp (zo (op_pickT rfl rfl rfl) (zn (zt rfl rfl (zq ?_)))))
   refine zr (za rfl (zn ?_))
   refine Go1.ret1 Try.func29 rfl ?_
   replace hB := (hB.trans d5.fr).trans qv.fr
   exact ⟨([] : Str), rfl, hB.same, (by decide), H⟩
  replace H := ifp rfl H
  refine zo (op_not rfl) (zm rfl (zm rfl ?_))
  by_cases h30 : i < (0 : Int)
  ·replace H := ifp h30 H
   refine zo (fun w => opB (op_lss rfl rfl w) (decide_eq_true h30)) (zo (op_pickF rfl rfl rfl) (zm rfl (zp (zp (zp ?_)))))
   refine zp (zp (zp (zp (zp (zo (op_pickT rfl rfl rfl) ?_)))))
   refine zn (zt rfl rfl (zq ?_))
   refine Go1.cut [] trivial ?_
   intro σ _
   refine zr (za rfl (zn ?_))
   refine Go1.ret1 Try.func29 rfl ?_
   replace hB := (hB.trans d5.fr).trans qv.fr
   exact ⟨([] : Str), rfl, hB.same, (by decide), H⟩
  replace H := ifn h30 H
  refine zo (fun w => opB (op_lss rfl rfl w) (decide_eq_false h30)) (zo (op_pickF rfl rfl rfl) (zm rfl (zm rfl (zm rfl (zo (op_nilCheck rfl) ?_)))))
  refine zo (op_fieldAddr Try.underlying72 rfl ti29 rfl (by decide)) (zo (op_fieldAddr Try.underlying29 rfl ti22 rfl (by decide)) (zs (oblk (i := 3) 0 hO rfl rfl Try.underlying22 rfl rfl) (zo (op_lenN Try.underlying22 rfl (eW.neq hO 2 rfl)) ?_)))
  by_cases h31 : (r7.Enum.Elems.length : Int) ≤ i
  ·replace H := ifp h31 H
   refine zo (fun w => opB (op_geq rfl rfl w) (decide_eq_true h31)) (zo (op_pickF rfl rfl rfl) (zn (zt rfl rfl (zq (zr ?_)))))
   refine za rfl (zn ?_)
   refine Go1.ret1 Try.func29 rfl ?_
   replace hB := (hB.trans d5.fr).trans qv.fr
   exact ⟨([] : Str), rfl, hB.same, (by decide), H⟩
  replace H := ifn h31 H
  refine zo (fun w => opB (op_geq rfl rfl w) (decide_eq_false h31)) (zo (op_pickF rfl rfl rfl) (zn (zf rfl rfl (zk (zq ?_)))))
  refine zr (zm rfl (zo (op_nilCheck rfl) (zo (op_fieldAddr Try.underlying72 rfl ti70 rfl (by decide)) (zs (oblk (i := 10) 0 hO rfl rfl Try.underlying70 rfl rfl) (zm rfl ?_)))))
  obtain ⟨h32, H⟩ := H
  obtain ⟨h33, H⟩ := H
  refine zo (op_index Try.underlying70 ti9 rfl rfl h32 (ltn (fW.neq hO 7 rfl) h33) (fW.psome hO 7 rfl h32 h33)) (zs (oldStr 7 hO rfl fW h32 h33 Try.underlying9 rfl rfl) ?_)
  have hle34 := Els.str_le fW h32 h33
  refine za rfl (zn ?_)
  refine Go1.ret1 Try.func29 rfl ?_
  replace hB := (hB.trans d5.fr).trans qv.fr
  exact ⟨ix r7.words i, rfl, hB.same, hle34, H⟩
theorem body16 : Body Try.prog 16 := ⟨Try.f16, Try.func16, rfl, by kernel_rfl⟩
theorem walk_law12_awake {A : List Nat} {w0 : World} (hA : ∀ b ∈ A, b < w0.heap.size) {K : Bool → Prop} (H : law12_awake  K) :
    CallsV Try.prog 16 #[] w0 (fun v w' => ∃ (r0 : Bool), v = .bool r0 ∧ Same w0 w' ∧ K r0) := by
 refine CallsV.of (l := []) Try.func16 rfl Try.ntmps16 rfl ?_
 have hO := Owns.start hA
 have hB := Fr.refl (bl []) w0
 unfold law12_awake at H
 refine zq (zr (za rfl (zn (zq (zr ?_)))))
 have hobt := obuild (r := Rp.int .i64) (n := 2) (parts := [(0, .int .i64 (1 : Int)), (1, .int .i64 (0 : Int))]) (vs := [.int .i64 (1 : Int), .int .i64 (0 : Int)]) (xs := [(1 : Int), (0 : Int)]) rfl Try.underlying26 ti3 hO (by decide) (by kernel_rfl) (Els.cons rfl rfl (Els.cons rfl rfl (Els.nil _ _ _) (by simp [mx])) (by simp [mx])) rfl
 obtain ⟨w1, p2, d5, hE4, hs5, aaz⟩ := hobt
 refine zg (aaz rfl) ?_
 replace hO := d5.own
 have hobt := obuild (r := Rp.int .i64) (n := 2) (parts := [(0, .int .i64 (0 : Int)), (1, .int .i64 (0 : Int))]) (vs := [.int .i64 (0 : Int), .int .i64 (0 : Int)]) (xs := [(0 : Int), (0 : Int)]) rfl Try.underlying26 ti3 hO (by decide) (by kernel_rfl) (Els.cons rfl rfl (Els.cons rfl rfl (Els.nil _ _ _) (by simp [mx])) (by simp [mx])) rfl
 obtain ⟨w8, p9, Jj, Ln, Ks, Ic⟩ := hobt
 refine zg (Ic rfl) ?_
 replace hO := Jj.own
 replace hE4 := hE4.ch Jj.ch
 have hobt := freeze 1 hO rfl hE4
 obtain ⟨hO1, aaA, mB, aaB⟩ := hobt
 replace hO := hO1; clear hO1
 replace Ln := Ln.ch aaA
 have hobt := freeze 0 hO rfl Ln
 obtain ⟨hO1, aaC, xC, aaD⟩ := hobt
 replace hO := hO1; clear hO1
 replace mB := mB.ch aaC
 have hobt := obuild (r := Rp.sl (Rp.int .i64)) (n := 2) (parts := [(0, .slice p2 2 2), (1, .slice p9 2 2)]) (vs := [.slice p2 2 2, .slice p9 2 2]) (xs := [[(1 : Int), (0 : Int)], [(0 : Int), (0 : Int)]]) rfl Try.underlying22 ti26 hO (by decide) (by kernel_rfl) (Els.cons rfl ⟨p2, 2, congrArg some (congrArg (fun nn => Value.slice p2 nn 2) aaB), mB⟩ (Els.cons rfl ⟨p9, 2, congrArg some (congrArg (fun nn => Value.slice p9 nn 2) aaD), xC⟩ (Els.nil _ _ _) (by simp [mx])) (by simp [mx])) rfl
 obtain ⟨w21, p22, vm, dA, Jk, Id⟩ := hobt
 refine zg (Id rfl) ?_
 replace hO := vm.own
 have hobt := freeze 0 hO rfl dA
 obtain ⟨hO1, HS, Bv, Lo⟩ := hobt
 replace hO := hO1; clear hO1
 refine GoR.call (op_call body17 (show ([.slice p22 2 2, .bool true] : List Value) = [.slice p22 ([[(1 : Int), (0 : Int)], [(0 : Int), (0 : Int)]]).length 2, .bool true] from by rw [← Lo]) (walk_enumerate_Build hO.lt Bv H)) rfl rfl ?_
 rintro v36 w33 ⟨r31, r32, Dm, Dn, Cs, Ct, Bw, Bx, Do, Dp, Cu, Cv, Cw, Cx, rfl, aaE, vN, sT, tA, vO, uz, sU, H⟩
 have F1 := Stp.same hO aaE
 replace hO := F1.own
 refine zm rfl (zo (op_extract rfl rfl) (zo (op_extract rfl rfl) ?_))
 have hobt := oalloc (t := 29) (cs := #[.int .i64 (0 : Int), .bool false, .slice none 0 0, .slice none 0 0, .slice none 0 0, .slice none 0 0, .slice none 0 0, .slice none 0 0, .int .i64 (0 : Int)]) ti29 hO rfl
 obtain ⟨w38, B39, mD, OQ, Tz⟩ := hobt
 refine GoR.op Tz rfl rfl ?_
 replace hO := mD.own
 have hobt := oblkStAgg (us := [.int .i64 r31.Points, .bool r31.Monoid, .slice Dm r31.Gens.length Dn, .slice Cs r31.Elems.length Ct, .slice Bw r31.Prefix.length Bx, .slice Do r31.Last.length Dp, .slice Cu r31.Right.length Cv, .slice Cw r31.Rules.length Cx, .int .i64 r31.Done]) (o := 0) (cs' := #[.int .i64 r31.Points, .bool r31.Monoid, .slice Dm r31.Gens.length Dn, .slice Cs r31.Elems.length Ct, .slice Bw r31.Prefix.length Bx, .slice Do r31.Last.length Dp, .slice Cu r31.Right.length Cv, .slice Cw r31.Rules.length Cx, .int .i64 r31.Done]) 0 hO rfl rfl (Nat.le_of_ble_eq_true rfl) rfl
 obtain ⟨w44, lN, TA⟩ := hobt
 refine zg (TA ti29 (by exact rfl) (by exact rfl) rfl) ?_
 replace hO := lN.own
 refine za rfl (zn (zq (zr (zm rfl ?_))))
 by_cases h47 : r32 = (0 : Int)
 ·replace H := ifp h47 H
  refine zo (fun w => opB (op_eql rfl rfl w) (decide_eq_true h47)) (zm rfl (zo (op_fieldAddr Try.underlying29 rfl ti22 rfl (by decide)) (zs (oblk (i := 3) 0 hO rfl rfl Try.underlying22 rfl rfl) (zo (op_len Try.underlying22 rfl) ?_))))
  replace sT := (sT.ch mD.ch).ch lN.ch
  replace H := H sT.bd
  by_cases h48 : (r31.Elems.length : Int) = (4 : Int)
  ·replace H := ifp h48 H
   refine zo (fun w => opB (op_eql rfl rfl w) (decide_eq_true h48)) (zo (op_pickT rfl rfl rfl) (zm rfl (zo (op_fieldAddr Try.underlying29 rfl ti27 rfl (by decide)) (zs (oblk (i := 7) 0 hO rfl rfl Try.underlying27 rfl rfl) (zo (op_len Try.underlying27 rfl) ?_)))))
   replace sU := (sU.ch mD.ch).ch lN.ch
   replace H := H sU.bd
   by_cases h49 : (r31.Rules.length : Int) = (3 : Int)
   ·replace H := ifp h49 H
    refine zo (fun w => opB (op_eql rfl rfl w) (decide_eq_true h49)) (zo (op_pickT rfl rfl rfl) (zm rfl (zs (oblkAgg (vs := [.int .i64 r31.Points, .bool r31.Monoid, .slice Dm r31.Gens.length Dn, .slice Cs r31.Elems.length Ct, .slice Bw r31.Prefix.length Bx, .slice Do r31.Last.length Dp, .slice Cu r31.Right.length Cv, .slice Cw r31.Rules.length Cx, .int .i64 r31.Done]) (i := 0) 0 hO rfl rfl Try.underlying29 rfl ti29 rfl) ?_)))
    have Z1 := mD.ch.trans lN.ch
    replace vN := vN.ch Z1
    replace tA := tA.ch Z1
    replace vO := vO.ch Z1
    replace uz := uz.ch Z1
    refine GoR.call (op_call body29 rfl (walk_enumerate_Word (e := r31) hO.lt vN sT tA vO uz sU H)) rfl rfl ?_
    rintro v54 w51 ⟨r50, rfl, Lp, act, H⟩
    have zj := Stp.same hO Lp
    replace hO := zj.own
    by_cases h56 : r50 = (([98, 97] : Str))
    ·replace H := ifp h56 H
     refine zo (fun w => opB (op_eqlS rfl rfl w) (decide_eq_true h56)) (zo (op_pickT rfl rfl rfl) (za rfl (zn ?_)))
     refine Go1.ret1 Try.func16 rfl ?_
     replace hB := (((((((((hB.trans d5.fr).trans Jj.fr).trans (Owns.dropFr _ _ 1)).trans (Owns.dropFr _ _ 0)).trans vm.fr).trans (Owns.dropFr _ _ 0)).trans F1.fr).trans mD.fr).trans lN.fr).trans zj.fr
     exact ⟨true, rfl, hB.same, H⟩
    replace H := ifn h56 H
    refine zo (fun w => opB (op_eqlS rfl rfl w) (decide_eq_false h56)) (zo (op_pickT rfl rfl rfl) (za rfl (zn ?_)))
    refine Go1.ret1 Try.func16 rfl ?_
    replace hB := (((((((((hB.trans d5.fr).trans Jj.fr).trans (Owns.dropFr _ _ 1)).trans (Owns.dropFr _ _ 0)).trans vm.fr).trans (Owns.dropFr _ _ 0)).trans F1.fr).trans mD.fr).trans lN.fr).trans zj.fr
    exact ⟨false, rfl, hB.same, H⟩
   replace H := ifn h49 H
   refine zo (fun w => opB (op_eql rfl rfl w) (decide_eq_false h49)) (zo (op_pickT rfl rfl rfl) (zm rfl (zp (zp (zp ?_)))))
   refine zo (op_pickF rfl rfl rfl) (za rfl (zn ?_))
   refine Go1.ret1 Try.func16 rfl ?_
   replace hB := ((((((((hB.trans d5.fr).trans Jj.fr).trans (Owns.dropFr _ _ 1)).trans (Owns.dropFr _ _ 0)).trans vm.fr).trans (Owns.dropFr _ _ 0)).trans F1.fr).trans mD.fr).trans lN.fr
   exact ⟨false, rfl, hB.same, H⟩
  replace H := ifn h48 H
  refine zo (fun w => opB (op_eql rfl rfl w) (decide_eq_false h48)) (zo (op_pickT rfl rfl rfl) (zm rfl (zp (zp (zp ?_)))))
  refine zp (zo (op_pickF rfl rfl rfl) (zm rfl (zp (zp (zp ?_)))))
  refine zo (op_pickF rfl rfl rfl) (za rfl (zn ?_))
  refine Go1.ret1 Try.func16 rfl ?_
  replace hB := ((((((((hB.trans d5.fr).trans Jj.fr).trans (Owns.dropFr _ _ 1)).trans (Owns.dropFr _ _ 0)).trans vm.fr).trans (Owns.dropFr _ _ 0)).trans F1.fr).trans mD.fr).trans lN.fr
  exact ⟨false, rfl, hB.same, H⟩
 replace H := ifn h47 H
 refine zo (fun w => opB (op_eql rfl rfl w) (decide_eq_false h47)) (zm rfl (zp (zp (zp (zp ?_)))))
 refine zo (op_pickF rfl rfl rfl) (zm rfl (zp (zp (zp (zp ?_)))))
 refine zo (op_pickF rfl rfl rfl) (zm rfl (zp (zp (zp (zo (op_pickF rfl rfl rfl) ?_)))))
 refine za rfl (zn ?_)
 refine Go1.ret1 Try.func16 rfl ?_
 replace hB := ((((((((hB.trans d5.fr).trans Jj.fr).trans (Owns.dropFr _ _ 1)).trans (Owns.dropFr _ _ 0)).trans vm.fr).trans (Owns.dropFr _ _ 0)).trans F1.fr).trans mD.fr).trans lN.fr
 exact ⟨false, rfl, hB.same, H⟩
theorem body24 : Body Try.prog 24 := ⟨Try.f24, Try.func24, rfl, by kernel_rfl⟩
theorem walk_ref03_Copy {A : List Nat} {w0 : World} {p_a : Option Addr} {c_a : Nat} {a : List (List Int)} (hA : ∀ b ∈ A, b < w0.heap.size) (h_a : ISl (Rp.sl (Rp.int .i64)) A w0 p_a c_a a) {K : List (List Int) → Prop} (H : ref03_Copy a K) :
    CallsV Try.prog 24 #[.slice p_a a.length c_a] w0 (fun v w' => ∃ (r0 : List (List Int)), ∃ (Gn : Nat), ∃ (wD : Option Addr), ∃ (wE : Nat), ∃ (TB : Hd), v = .slice wD Gn wE ∧ Same w0 w' ∧ Owns w0.heap.size w' [t2 (Fl.int .i64) 26 3 wD Gn wE TB r0] A ∧ K r0) := by
 refine CallsV.of (l := [.slice p_a a.length c_a]) Try.func24 rfl Try.ntmps24 rfl ?_
 have hO := Owns.start hA
 have hB := Fr.refl (bl []) w0
 unfold ref03_Copy at H
 refine zq (zr (za rfl (zn (zq (zr ?_)))))
 refine za rfl (zn (zq (zq (zr (zm rfl ?_)))))
 refine zo (op_len Try.underlying22 rfl) ?_
 replace h_a := h_a.ch (Ch.start A w0)
 replace H := H h_a.bd
 refine zm rfl (zn (zb ?_))
 have Lr := t2nil (e := 26) (e' := 3) (Fl.int .i64) hO
 replace hO := Lr.own
 replace h_a := h_a.ch Lr.ch
 replace hB := hB.trans Lr.fr
 refine Go1.loopW (S := Nat × List (List Int)) (fun s σ w => match s with | (k1_4, out1_5) => ∃ (n8 : Nat), ∃ (p6 : Option Addr), ∃ (c7 : Nat), ∃ (hs9 : Hd), agrees σ [(3, .slice p6 n8 c7), (6, .slice p_a a.length c_a), (7, .int .i64 (a.length : Int)), (8, .int .i64 (k1_4 : Int))] ∧ (fun Z0 => Owns w0.heap.size w Z0 A ∧ ISl (Rp.sl (Rp.int .i64)) (bl Z0 ++ A) w p_a c_a a ∧ Fr (bl []) w0 (bl Z0) w) [t2 (Fl.int .i64) 26 3 p6 n8 c7 hs9 out1_5]) H ⟨0, none, 0, (fun _ => (none, 0)), ⟨rfl, rfl, rfl, rfl, trivial⟩, hO, h_a, hB⟩ ?_
 intro X1
 refine prE fun k1_4 => fun out1_5 => ?_
 intro H hX1 σ w3
 refine exE fun n8 => exE fun p6 => exE fun c7 => exE fun hs9 => andE fun hag => andE fun hO => andE fun h_a => fun hB => ?_
 dsimp only at H
 refine Go1.keep [(3, .slice p6 n8 c7), (6, .slice p_a a.length c_a), (7, .int .i64 (a.length : Int)), (8, .int .i64 (k1_4 : Int))] hag ?_
 refine zq (zr ?_)
 by_cases h10 : (k1_4 : Int) < (a.length : Int)
 ·replace H := ifp h10 H
  refine zo (fun w => opB (op_lss rfl rfl w) (decide_eq_true h10)) (zn (zq (zt rfl rfl (zk (zq ?_)))))
  refine zb (zq (zr ?_))
  obtain ⟨h11, H⟩ := H
  obtain ⟨h12, H⟩ := H
  refine zo (op_index Try.underlying22 ti26 rfl rfl h11 h12 (h_a.some_ h11 h12)) ?_
  have hobt := ldSl h_a h11 h12
  obtain ⟨p13, c14, mB, Lm⟩ := hobt
  refine zs (Lm Try.underlying26 rfl rfl) (za rfl (zn (zr (zm rfl ?_))))
  have hobt := obuild (r := Rp.int .i64) (n := 0) (parts := []) (vs := []) (xs := ([] : List Int)) rfl Try.underlying26 ti3 hO (by decide) (by kernel_rfl) (Els.nil _ _ _) rfl
  obtain ⟨w17, p18, sM, aaF, afO, TC⟩ := hobt
  refine zg (TC rfl) ?_
  replace hO := sM.own
  refine zm rfl ?_
  obtain ⟨h24, H⟩ := H
  replace mB := mB.ch sM.ch
  have hobt := oapp Try.underlying26 ti3 rfl 0 hO rfl aaF mB rfl h24 (by decide)
  obtain ⟨w25, p26, c27, afP, w4, dm, TD⟩ := hobt
  refine zg (TD (by exact rfl) (by exact rfl)) ?_
  replace hO := w4.own
  have hobt := t2build1 (Fl.int .i64) Try.underlying22 ti26 hO dm
  obtain ⟨w33, p34, gI, F2⟩ := hobt
  refine zg (F2 rfl) ?_
  replace hO := gI.own
  have ld := Stp.front 1 hO rfl
  replace hO := ld.own
  have G8 := Stp.front 1 hO rfl
  replace hO := G8.own
  obtain ⟨h40, H⟩ := H
  have hobt := t2cat Try.underlying22 ti26 hO h40 (by decide)
  obtain ⟨w41, p42, c43, Ba, TE⟩ := hobt
  refine zg (TE (by exact rfl) (by exact rfl)) ?_
  replace hO := Ba.own
  refine za rfl (zn ?_)
  refine Go1.inBlock ?_
  refine zr ?_
  have Z1 := ((((sM.ch.trans w4.ch).trans gI.ch).trans ld.ch).trans G8.ch).trans Ba.ch
  replace h_a := h_a.ch Z1
  refine zo (op_add rfl rfl (wrap_i64 (natbd h10 h_a.bd))) (zm rfl (zn ?_))
  replace hB := (((((hB.trans sM.fr).trans w4.fr).trans gI.fr).trans ld.fr).trans G8.fr).trans Ba.fr
  exact hX1 _ H _ _ ⟨n8 + 1, p42, c43, hcat hs9 out1_5.length ((fun _ => (p26, c27))), ⟨rfl, rfl, rfl, rfl, trivial⟩, hO, h_a, hB⟩
 replace H := ifn h10 H
 refine zo (fun w => opB (op_lss rfl rfl w) (decide_eq_false h10)) (zn (zq (zf rfl rfl ?_)))
 refine Go1.exit rfl ?_
 refine zq (zr (zm rfl (za rfl (zn ?_))))
 refine Go1.ret1 Try.func24 rfl ?_
 exact ⟨out1_5, n8, p6, c7, hs9, rfl, hB.same, hO, H⟩
theorem body54 : Body Try.prog 54 := ⟨Try.f54, Try.func54, rfl, by kernel_rfl⟩
theorem walk_ref03_Discrete {A : List Nat} {w0 : World} {n : Int} (hA : ∀ b ∈ A, b < w0.heap.size) {K : List Int → Prop} (H : ref03_Discrete n K) :
    CallsV Try.prog 54 #[.int .i64 n] w0 (fun v w' => ∃ (r0 : List Int), ∃ (wD : Option Addr), ∃ (wE : Nat), v = .slice wD r0.length wE ∧ Same w0 w' ∧ ISl (Rp.int .i64) A w' wD wE r0 ∧ K r0) := by
 refine CallsV.of (l := [.int .i64 n]) Try.func54 rfl Try.ntmps54 rfl ?_
 have hO := Owns.start hA
 have hB := Fr.refl (bl []) w0
 unfold ref03_Discrete at H
 refine zq (zr (za rfl (zn (zq (zr ?_)))))
 refine zm rfl ?_
 obtain ⟨h8, H⟩ := H
 obtain ⟨h9, H⟩ := H
 have hobt := omake (n := n) (r := Rp.int .i64) (d := (0 : Int)) Try.underlying26 ti3 (fun _ _ => rfl) rfl hO h8 h9 (by decide)
 obtain ⟨w1, p2, vs3, o6, hE5, hs6, Br⟩ := hobt
 refine zg (Br rfl rfl) ?_
 replace hO := o6.own
 refine za rfl (zn (zq (zq (zr (zm rfl ?_)))))
 refine zo (op_lenN Try.underlying26 rfl (hE5.neq hO 0 rfl)) (zm rfl (zn (zb ?_)))
 replace hB := hB.trans o6.fr
 refine Go1.loopW (S := Nat × List Int) (fun s σ w => match s with | (k1_12, p1_13) => ∃ (li : List Value), agrees σ [(3, .slice p2 n.toNat n.toNat), (8, .int .i64 ((List.replicate n.toNat ((0 : Int))).length : Int)), (9, .int .i64 (k1_12 : Int))] ∧ (fun Z0 => Owns w0.heap.size w Z0 A ∧ Els (Rp.int .i64) (bl Z0 ++ A) w li p1_13 ∧ Fr (bl []) w0 (bl Z0) w) [.row 3 1 p2 n.toNat n.toNat li]) H ⟨vs3, ⟨rfl, rfl, rfl, trivial⟩, hO, hE5, hB⟩ ?_
 intro X1
 refine prE fun k1_12 => fun p1_13 => ?_
 intro H hX1 σ w11
 refine exE fun li => andE fun hag => andE fun hO => andE fun ca => fun hB => ?_
 dsimp only at H
 refine Go1.keep [(3, .slice p2 n.toNat n.toNat), (8, .int .i64 ((List.replicate n.toNat ((0 : Int))).length : Int)), (9, .int .i64 (k1_12 : Int))] hag ?_
 refine zq (zr ?_)
 by_cases h16 : (k1_12 : Int) < ((List.replicate n.toNat ((0 : Int))).length : Int)
 ·replace H := ifp h16 H
  refine zo (fun w => opB (op_lss rfl rfl w) (decide_eq_true h16)) (zn (zq (zt rfl rfl (zk (zq ?_)))))
  refine zb (zq (zr (zm rfl (za rfl (zn ?_)))))
  refine zr (zm rfl (zm rfl (zm rfl ?_)))
  obtain ⟨h17, H⟩ := H
  obtain ⟨h18, H⟩ := H
  refine zo (op_index Try.underlying26 ti3 rfl rfl h17 (ltn (ca.neq hO 0 rfl) h18) (ca.psome hO 0 rfl h17 h18)) ?_
  have hobt := ost (r := Rp.int .i64) rfl 0 hO rfl ca h17 h18 (v := .int .i64 (k1_12 : Int)) (u := (k1_12 : Int)) rfl rfl
  obtain ⟨w19, aaG, wY, aaH, C9⟩ := hobt
  refine zg (C9 Try.underlying3 rfl ti3 (by exact rfl) (by exact rfl)) ?_
  replace hO := wY.own
  refine zn ?_
  refine Go1.inBlock ?_
  refine zr ?_
  obtain ⟨h24, H⟩ := H
  refine zo (op_add rfl rfl (wrap_i64 h24)) (zm rfl (zn ?_))
  replace hB := hB.trans wY.fr
  exact hX1 _ H _ _ ⟨aaG, ⟨rfl, rfl, rfl, trivial⟩, hO, aaH, hB⟩
 replace H := ifn h16 H
 refine zo (fun w => opB (op_lss rfl rfl w) (decide_eq_false h16)) (zn (zq (zf rfl rfl ?_)))
 refine Go1.exit rfl ?_
 refine zq (zr (zm rfl (za rfl (zn ?_))))
 have hobt := freeze 0 hO rfl ca
 obtain ⟨hO1, afQ, aaI, Ls⟩ := hobt
 replace hO := hO1; clear hO1
 refine Go1.ret1 Try.func54 rfl ?_
 replace hB := hB.trans (Owns.dropFr _ _ 0)
 exact ⟨p1_13, p2, n.toNat, (congrArg (fun nn => Value.slice p2 nn n.toNat) Ls), hB.same, (aaI.ch (Ch.weak _ _ _)), H⟩
theorem body34 : Body Try.prog 34 := ⟨Try.f34, Try.func34, rfl, by kernel_rfl⟩
theorem walk_ref03_Same {A : List Nat} {w0 : World} {p_a : Option Addr} {c_a : Nat} {p_b : Option Addr} {c_b : Nat} {a : List Int} {b : List Int} (hA : ∀ b ∈ A, b < w0.heap.size) (h_a : ISl (Rp.int .i64) A w0 p_a c_a a) (h_b : ISl (Rp.int .i64) A w0 p_b c_b b) {K : Bool → Prop} (H : ref03_Same a b K) :
    CallsV Try.prog 34 #[.slice p_a a.length c_a, .slice p_b b.length c_b] w0 (fun v w' => ∃ (r0 : Bool), v = .bool r0 ∧ Same w0 w' ∧ K r0) := by
 refine CallsV.of (l := [.slice p_a a.length c_a, .slice p_b b.length c_b]) Try.func34 rfl Try.ntmps34 rfl ?_
 have hO := Owns.start hA
 have hB := Fr.refl (bl []) w0
 unfold ref03_Same at H
 refine zq (zr (za rfl (zn (zq (zq ?_)))))
 refine zr (zm rfl (zo (op_len Try.underlying26 rfl) ?_))
 replace h_a := h_a.ch (Ch.start A w0)
 replace H := H h_a.bd
 refine zm rfl (zo (op_len Try.underlying26 rfl) ?_)
 replace h_b := h_b.ch (Ch.start A w0)
 replace H := H h_b.bd
 by_cases h1 : (a.length : Int) = (b.length : Int)
 ·replace H := ifp h1 H
  refine zo (fun w => opB (op_neq rfl rfl w) (ndT h1)) (zn (zf rfl rfl (zk (zq (zq ?_)))))
  refine zr (zm rfl (zo (op_len Try.underlying26 rfl) (zm rfl (zn (zb ?_)))))
  refine Go1.loopW (S := Nat) (fun s σ w => agrees σ [(0, .slice p_a a.length c_a), (1, .slice p_b b.length c_b), (12, .int .i64 (a.length : Int)), (13, .int .i64 (s : Int))] ∧ Owns w0.heap.size w [] A ∧ ISl (Rp.int .i64) (bl [] ++ A) w p_a c_a a ∧ ISl (Rp.int .i64) (bl [] ++ A) w p_b c_b b ∧ Fr (bl []) w0 (bl []) w) H ⟨⟨rfl, rfl, rfl, rfl, trivial⟩, hO, h_a, h_b, hB⟩ ?_
  intro X1 k1_3
  intro H hX1 σ w2
  refine andE fun hag => andE fun hO => andE fun h_a => andE fun h_b => fun hB => ?_
  refine Go1.keep [(0, .slice p_a a.length c_a), (1, .slice p_b b.length c_b), (12, .int .i64 (a.length : Int)), (13, .int .i64 (k1_3 : Int))] hag ?_
  refine zq (zr ?_)
  by_cases h4 : (k1_3 : Int) < (a.length : Int)
  ·replace H := ifp h4 H
   refine zo (fun w => opB (op_lss rfl rfl w) (decide_eq_true h4)) (zn (zq (zt rfl rfl (zk (zq ?_)))))
   refine zb (zq (zr (zm rfl (za rfl (zn ?_)))))
   refine zq ?_
   refine Go1.drawS 0 [(0, .pure), (1, .pure), (2, .pure), (3, .stable), (4, .pure), (5, .pure), (6, .pure), (7, .stable), (8, .pure)] mixed (by kernel_rfl) ?_
   intro w5 hs6
   have sK := Stp.same hO hs6
   replace hO := sK.own
   refine GoQ.pure rfl (op_move rfl) rfl rfl ?_
   refine GoQ.pure rfl (op_move rfl) rfl rfl ?_
   obtain ⟨h8, H⟩ := H
   obtain ⟨h9, H⟩ := H
   replace h_a := h_a.ch sK.ch
   refine GoQ.pure rfl (op_index Try.underlying26 ti3 rfl rfl h8 h9 (h_a.some_ h8 h9)) rfl rfl ?_
   refine GoQ.stable rfl (ldInt h_a h8 h9 Try.underlying3 rfl rfl) rfl rfl ?_
   refine GoQ.pure rfl (op_move rfl) rfl rfl ?_
   refine GoQ.pure rfl (op_move rfl) rfl rfl ?_
   obtain ⟨h10, H⟩ := H
   obtain ⟨h11, H⟩ := H
   replace h_b := h_b.ch sK.ch
   refine GoQ.pure rfl (op_index Try.underlying26 ti3 rfl rfl h10 h11 (h_b.some_ h10 h11)) rfl rfl ?_
   refine GoQ.stable rfl (ldInt h_b h10 h11 Try.underlying3 rfl rfl) rfl rfl ?_
   by_cases h12 : (ix a (k1_3 : Int)) = (ix b (k1_3 : Int))
   ·replace H := ifp h12 H
    refine GoQ.pure rfl (fun w => opB (op_neq rfl rfl w) (ndT h12)) rfl rfl ?_
    refine GoQ.nil ?_
    refine zf rfl rfl (zk ?_)
    refine Go1.inBlock ?_
    refine zr (zo (op_add rfl rfl (wrap_i64 (natbd h4 h_a.bd))) (zm rfl (zn ?_)))
    replace hB := hB.trans sK.fr
    exact hX1 _ H _ _ ⟨⟨rfl, rfl, rfl, rfl, trivial⟩, hO, h_a, h_b, hB⟩
   replace H := ifn h12 H
   refine GoQ.pure rfl (fun w => opB (op_neq rfl rfl w) (ndF h12)) rfl rfl ?_
   refine GoQ.nil ?_
   refine zt rfl rfl (zq (zr (za rfl (zn ?_))))
   refine Go1.ret1 Try.func34 rfl ?_
   replace hB := hB.trans sK.fr
   exact ⟨false, rfl, hB.same, H⟩
  replace H := ifn h4 H
  refine zo (fun w => opB (op_lss rfl rfl w) (decide_eq_false h4)) (zn (zq (zf rfl rfl ?_)))
  refine Go1.exit rfl ?_
  refine zq (zr (za rfl (zn ?_)))
  refine Go1.ret1 Try.func34 rfl ?_
  exact ⟨true, rfl, hB.same, H⟩
 replace H := ifn h1 H
 refine zo (fun w => opB (op_neq rfl rfl w) (ndF h1)) (zn (zt rfl rfl (zq (zr (za rfl ?_)))))
 refine zn ?_
 refine Go1.ret1 Try.func34 rfl ?_
 exact ⟨false, rfl, hB.same, H⟩
theorem body41 : Body Try.prog 41 := ⟨Try.f41, Try.func41, rfl, by kernel_rfl⟩
theorem walk_ref12_Find {A : List Nat} {w0 : World} {Bp : Option Addr} {Bq : Nat} {p_f : Option Addr} {c_f : Nat} {elems : List (List Int)} {f : List Int} (hA : ∀ b ∈ A, b < w0.heap.size) (ve : ISl (Rp.sl (Rp.int .i64)) A w0 Bp Bq elems) (h_f : ISl (Rp.int .i64) A w0 p_f c_f f) {K : Int → Prop} (H : ref12_Find elems f K) :
    CallsV Try.prog 41 #[.slice Bp elems.length Bq, .slice p_f f.length c_f] w0 (fun v w' => ∃ (r0 : Int), v = .int .i64 r0 ∧ Same w0 w' ∧ K r0) := by
 refine CallsV.of (l := [.slice Bp elems.length Bq, .slice p_f f.length c_f]) Try.func41 rfl Try.ntmps41 rfl ?_
 have hO := Owns.start hA
 have hB := Fr.refl (bl []) w0
 unfold ref12_Find at H
 refine zq (zr (za rfl (zn (zq (zq ?_)))))
 refine zr (zm rfl (zo (op_len Try.underlying22 rfl) ?_))
 replace ve := ve.ch (Ch.start A w0)
 replace H := H ve.bd
 refine zm rfl (zn (zb ?_))
 replace h_f := h_f.ch (Ch.start A w0)
 refine Go1.loopW (S := Nat) (fun s σ w => agrees σ [(0, .slice Bp elems.length Bq), (1, .slice p_f f.length c_f), (7, .int .i64 (elems.length : Int)), (8, .int .i64 (s : Int))] ∧ Owns w0.heap.size w [] A ∧ ISl (Rp.sl (Rp.int .i64)) (bl [] ++ A) w Bp Bq elems ∧ ISl (Rp.int .i64) (bl [] ++ A) w p_f c_f f ∧ Fr (bl []) w0 (bl []) w) H ⟨⟨rfl, rfl, rfl, rfl, trivial⟩, hO, ve, h_f, hB⟩ ?_
 intro X1 k1_2
 intro H hX1 σ w1
 refine andE fun hag => andE fun hO => andE fun ve => andE fun h_f => fun hB => ?_
 refine Go1.keep [(0, .slice Bp elems.length Bq), (1, .slice p_f f.length c_f), (7, .int .i64 (elems.length : Int)), (8, .int .i64 (k1_2 : Int))] hag ?_
 refine zq (zr ?_)
 by_cases h3 : (k1_2 : Int) < (elems.length : Int)
 ·replace H := ifp h3 H
  refine zo (fun w => opB (op_lss rfl rfl w) (decide_eq_true h3)) (zn (zq (zt rfl rfl (zk (zq ?_)))))
  refine zb (zq (zr (zm rfl (za rfl (zn ?_)))))
  refine zq (zr (zm rfl (zm rfl ?_)))
  obtain ⟨h4, H⟩ := H
  obtain ⟨h5, H⟩ := H
  refine zo (op_index Try.underlying22 ti26 rfl rfl h4 h5 (ve.some_ h4 h5)) ?_
  have hobt := ldSl ve h4 h5
  obtain ⟨p6, c7, hi8, hl9⟩ := hobt
  refine zs (hl9 Try.underlying26 rfl rfl) (zm rfl ?_)
  refine GoR.call (op_call body34 rfl (walk_ref03_Same hO.lt hi8 h_f H)) rfl rfl ?_
  rintro v14 w11 ⟨r10, rfl, Ks, H⟩
  have iQ := Stp.same hO Ks
  replace hO := iQ.own
  refine zn ?_
  cases r10
  ·replace H := ifn Bool.false_ne_true H
   refine zf rfl rfl (zk ?_)
   refine Go1.inBlock ?_
   refine zr ?_
   replace ve := ve.ch iQ.ch
   refine zo (op_add rfl rfl (wrap_i64 (natbd h3 ve.bd))) (zm rfl (zn ?_))
   replace h_f := h_f.ch iQ.ch
   replace hB := hB.trans iQ.fr
   exact hX1 _ H _ _ ⟨⟨rfl, rfl, rfl, rfl, trivial⟩, hO, ve, h_f, hB⟩
  replace H := ifp rfl H
  refine zt rfl rfl (zq (zr (zm rfl (za rfl (zn ?_)))))
  refine Go1.ret1 Try.func41 rfl ?_
  replace hB := hB.trans iQ.fr
  exact ⟨(k1_2 : Int), rfl, hB.same, H⟩
 replace H := ifn h3 H
 refine zo (fun w => opB (op_lss rfl rfl w) (decide_eq_false h3)) (zn (zq (zf rfl rfl ?_)))
 refine Go1.exit rfl ?_
 refine zq (zr (za rfl (zn ?_)))
 refine Go1.ret1 Try.func41 rfl ?_
 exact ⟨(-1 : Int), rfl, hB.same, H⟩
theorem body55 : Body Try.prog 55 := ⟨Try.f55, Try.func55, rfl, by kernel_rfl⟩
theorem walk_ref12_letter {A : List Nat} {w0 : World} {x : Int} (hA : ∀ b ∈ A, b < w0.heap.size) {K : Str → Prop} (H : ref12_letter x K) :
    CallsV Try.prog 55 #[.int .i64 x] w0 (fun v w' => ∃ (r0 : Str), v = .string (gstr r0) ∧ Same w0 w' ∧ r0.length ≤ mx ∧ K r0) := by
 refine CallsV.of (l := [.int .i64 x]) Try.func55 rfl Try.ntmps55 rfl ?_
 have hO := Owns.start hA
 have hB := Fr.refl (bl []) w0
 unfold ref12_letter at H
 refine zq (zr (za rfl (zn (zq (zr ?_)))))
 refine zm rfl ?_
 obtain ⟨h1, H⟩ := H
 refine zo (op_add rfl rfl (wrap_i64 h1)) (zo (op_conv Try.underlying3 Try.underlying5 rfl rfl) ?_)
 have hobt := obuild (r := Rp.int .u8) (n := 1) (parts := [(0, .int .u8 (IntKind.u8.wrap ((97 : Int) + x)))]) (vs := [.int .u8 (IntKind.u8.wrap ((97 : Int) + x))]) (xs := [(IntKind.u8.wrap ((97 : Int) + x))]) rfl Try.underlying84 ti5 hO (by decide) (by kernel_rfl) (Els.cons rfl rfl (Els.nil _ _ _) (by simp [mx])) rfl
 obtain ⟨w2, p3, o6, hE5, hs6, Br⟩ := hobt
 refine zg (Br rfl) ?_
 replace hO := o6.own
 have hle9 := byt_le hE5.bd
 refine zs (oldBytes 0 hO rfl hE5 Try.underlying84 Try.underlying5 Try.underlying9 rfl) (za rfl (zn ?_))
 refine Go1.ret1 Try.func55 rfl ?_
 replace hB := hB.trans o6.fr
 exact ⟨byt ([(IntKind.u8.wrap ((97 : Int) + x))]), rfl, hB.same, hle9, H⟩
theorem body40 : Body Try.prog 40 := ⟨Try.f40, Try.func40, rfl, by kernel_rfl⟩
theorem walk_ref12_Word {A : List Nat} {w0 : World} {bU : Option Addr} {bV : Nat} {bC : Option Addr} {bD : Nat} {bh : Option Addr} {bi : Nat} {bQ : Option Addr} {bS : Nat} {bE : Option Addr} {bF : Nat} {bG : Option Addr} {bH : Nat} {e : Enum} {i : Int} (hA : ∀ b ∈ A, b < w0.heap.size) (aU : ISl (Rp.sl (Rp.int .i64)) A w0 bU bV e.Gens) (aN : ISl (Rp.sl (Rp.int .i64)) A w0 bC bD e.Elems) (aK : ISl (Rp.int .i64) A w0 bh bi e.Prefix) (aR : ISl (Rp.int .i64) A w0 bQ bS e.Last) (aO : ISl (Rp.sl (Rp.int .i64)) A w0 bE bF e.Right) (aP : ISl (rpRule) A w0 bG bH e.Rules) {K : Str → Prop} (H : ref12_Word e i K) :
    CallsV Try.prog 40 #[.agg #[.int .i64 e.Points, .bool e.Monoid, .slice bU e.Gens.length bV, .slice bC e.Elems.length bD, .slice bh e.Prefix.length bi, .slice bQ e.Last.length bS, .slice bE e.Right.length bF, .slice bG e.Rules.length bH, .int .i64 e.Done], .int .i64 i] w0 (fun v w' => ∃ (r0 : Str), v = .string (gstr r0) ∧ Same w0 w' ∧ r0.length ≤ mx ∧ K r0) := by
 refine CallsV.of (l := [.agg #[.int .i64 e.Points, .bool e.Monoid, .slice bU e.Gens.length bV, .slice bC e.Elems.length bD, .slice bh e.Prefix.length bi, .slice bQ e.Last.length bS, .slice bE e.Right.length bF, .slice bG e.Rules.length bH, .int .i64 e.Done], .int .i64 i]) Try.func40 rfl Try.ntmps40 rfl ?_
 have hO := Owns.start hA
 have hB := Fr.refl (bl []) w0
 unfold ref12_Word at H
 refine zq (zr ?_)
 have hobt := obox (t := 29) (v := .agg #[.int .i64 e.Points, .bool e.Monoid, .slice bU e.Gens.length bV, .slice bC e.Elems.length bD, .slice bh e.Prefix.length bi, .slice bQ e.Last.length bS, .slice bE e.Right.length bF, .slice bG e.Rules.length bH, .int .i64 e.Done]) (cs := #[.int .i64 e.Points, .bool e.Monoid, .slice bU e.Gens.length bV, .slice bC e.Elems.length bD, .slice bh e.Prefix.length bi, .slice bQ e.Last.length bS, .slice bE e.Right.length bF, .slice bG e.Rules.length bH, .int .i64 e.Done]) hO rfl
 obtain ⟨w1, B2, d5, hs4, uu⟩ := hobt
 refine zg (uu rfl) ?_
 replace hO := d5.own
 refine za rfl (zn (zq (zr (za rfl (zn ?_)))))
 refine zq (zb ?_)
 replace hB := hB.trans d5.fr
 have Z1 := (Ch.start A w0).trans d5.ch
 replace aU := aU.ch Z1
 replace aN := aN.ch Z1
 replace aK := aK.ch Z1
 replace aR := aR.ch Z1
 replace aO := aO.ch Z1
 replace aP := aP.ch Z1
 refine Go1.loopW (S := Int × Str) (fun s σ w => match s with | (i1_8, w1_9) => agrees σ [(1, .int .i64 i1_8), (2, .pointer (some ⟨B2, 0, none⟩)), (5, .string (gstr w1_9))] ∧ (fun Z0 => Owns w0.heap.size w Z0 A ∧ ISl (Rp.sl (Rp.int .i64)) (bl Z0 ++ A) w bU bV e.Gens ∧ ISl (Rp.sl (Rp.int .i64)) (bl Z0 ++ A) w bC bD e.Elems ∧ ISl (Rp.int .i64) (bl Z0 ++ A) w bh bi e.Prefix ∧ ISl (Rp.int .i64) (bl Z0 ++ A) w bQ bS e.Last ∧ ISl (Rp.sl (Rp.int .i64)) (bl Z0 ++ A) w bE bF e.Right ∧ ISl (rpRule) (bl Z0 ++ A) w bG bH e.Rules ∧ w1_9.length ≤ mx ∧ Fr (bl []) w0 (bl Z0) w) [.blk B2 (.cells #[.int .i64 e.Points, .bool e.Monoid, .slice bU e.Gens.length bV, .slice bC e.Elems.length bD, .slice bh e.Prefix.length bi, .slice bQ e.Last.length bS, .slice bE e.Right.length bF, .slice bG e.Rules.length bH, .int .i64 e.Done] 29 (0, 0))]) H ⟨⟨rfl, rfl, rfl, trivial⟩, hO, aU, aN, aK, aR, aO, aP, (by decide), hB⟩ ?_
 intro X1
 refine prE fun i1_8 => fun w1_9 => ?_
 intro H hX1 σ w7
 refine andE fun hag => andE fun hO => andE fun aU => andE fun aN => andE fun aK => andE fun aR => andE fun aO => andE fun aP => andE fun hle_w1_9 => fun hB => ?_
 dsimp only at H
 refine Go1.keep [(1, .int .i64 i1_8), (2, .pointer (some ⟨B2, 0, none⟩)), (5, .string (gstr w1_9))] hag ?_
 refine zq (zq (zr (zm rfl ?_)))
 by_cases h10 : (0 : Int) ≤ i1_8
 ·replace H := ifp h10 H
  refine zo (fun w => opB (op_geq rfl rfl w) (decide_eq_true h10)) (zm rfl (zo (op_fieldAddr Try.underlying29 rfl ti26 rfl (by decide)) (zs (oblk (i := 5) 0 hO rfl rfl Try.underlying26 rfl rfl) (zm rfl ?_))))
  obtain ⟨h11, H⟩ := H
  obtain ⟨h12, H⟩ := H
  refine zo (op_index Try.underlying26 ti3 rfl rfl h11 h12 (aR.some_ h11 h12)) (zs (ldInt aR h11 h12 Try.underlying3 rfl rfl) ?_)
  by_cases h13 : (0 : Int) ≤ (ix e.Last i1_8)
  ·replace H := ifp h13 H
   refine zo (fun w => opB (op_geq rfl rfl w) (decide_eq_true h13)) (zo (op_pickT rfl rfl rfl) (zn (zt rfl rfl (zk (zb ?_)))))
   refine zq (zr (zo (op_fieldAddr Try.underlying29 rfl ti26 rfl (by decide)) (zs (oblk (i := 5) 0 hO rfl rfl Try.underlying26 rfl rfl) (zm rfl ?_))))
   obtain ⟨h14, H⟩ := H
   obtain ⟨h15, H⟩ := H
   refine zo (op_index Try.underlying26 ti3 rfl rfl h14 h15 (aR.some_ h14 h15)) (zs (ldInt aR h14 h15 Try.underlying3 rfl rfl) ?_)
   refine GoR.call (op_call body55 rfl (walk_ref12_letter hO.lt H)) rfl rfl ?_
   rintro v20 w17 ⟨r16, rfl, aaJ, acu, H⟩
   have wY := Stp.same hO aaJ
   replace hO := wY.own
   refine zm rfl ?_
   obtain ⟨h22, H⟩ := H
   refine zo (op_addS rfl rfl h22) (za rfl (zn ?_))
   refine Go1.cut [(1, .int .i64 i1_8), (2, .pointer (some ⟨B2, 0, none⟩)), (5, .string (gstr (r16 ++ w1_9)))] ⟨rfl, rfl, rfl, trivial⟩ ?_
   intro σ _
   refine zr (zo (op_fieldAddr Try.underlying29 rfl ti26 rfl (by decide)) (zs (oblk (i := 4) 0 hO rfl rfl Try.underlying26 rfl rfl) (zm rfl ?_)))
   obtain ⟨h23, H⟩ := H
   obtain ⟨h24, H⟩ := H
   replace aK := aK.ch wY.ch
   refine zo (op_index Try.underlying26 ti3 rfl rfl h23 h24 (aK.some_ h23 h24)) (zs (ldInt aK h23 h24 Try.underlying3 rfl rfl) (za rfl (zn ?_)))
   refine Go1.inBlock ?_
   replace aU := aU.ch wY.ch
   replace aN := aN.ch wY.ch
   replace aR := aR.ch wY.ch
   replace aO := aO.ch wY.ch
   replace aP := aP.ch wY.ch
   replace hB := hB.trans wY.fr
   exact hX1 _ H _ _ ⟨⟨rfl, rfl, rfl, trivial⟩, hO, aU, aN, aK, aR, aO, aP, (lenApp h22), hB⟩
  replace H := ifn h13 H
  refine zo (fun w => opB (op_geq rfl rfl w) (decide_eq_false h13)) (zo (op_pickT rfl rfl rfl) (zn (zf rfl rfl ?_)))
  refine Go1.exit rfl ?_
  refine zq (zr (zm rfl (za rfl (zn ?_))))
  refine Go1.ret1 Try.func40 rfl ?_
  exact ⟨w1_9, rfl, hB.same, hle_w1_9, H⟩
 replace H := ifn h10 H
 refine zo (fun w => opB (op_geq rfl rfl w) (decide_eq_false h10)) (zm rfl (zp (zp (zp (zp ?_)))))
 refine zp (zp (zo (op_pickF rfl rfl rfl) (zn (zf rfl rfl ?_))))
 refine Go1.exit rfl ?_
 refine zq (zr (zm rfl (za rfl (zn ?_))))
 refine Go1.ret1 Try.func40 rfl ?_
 exact ⟨w1_9, rfl, hB.same, hle_w1_9, H⟩
end Sg
