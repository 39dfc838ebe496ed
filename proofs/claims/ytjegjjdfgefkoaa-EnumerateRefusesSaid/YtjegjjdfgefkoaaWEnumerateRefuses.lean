/- The walks: each call keeps to its plain transformer. Printed by walkgen.py. -/
import Derived.Test.YtjegjjdfgefkoaaTi
import Derived.Test.YtjegjjdfgefkoaaWEnumerateBuildsc
import Derived.Test.YtjegjjdfgefkoaaWEnumerateBuildsd
import Derived.Test.YtjegjjdfgefkoaaWEnumerateBuildse
import Derived.Test.YtjegjjdfgefkoaaWEnumerateBuildsf
import Derived.Test.YtjegjjdfgefkoaaAl
namespace Sg
open Go Go.RowKit Go.Proofs
set_option linter.unusedVariables false
set_option linter.unusedSimpArgs false
set_option maxRecDepth 100000
set_option maxHeartbeats 4000000
theorem body20 : Body Try.prog 20 := ⟨Try.f20, Try.func20, rfl, by kernel_rfl⟩
theorem walk_enumerate_Validate {A : List Nat} {w0 : World} {bU : Option Addr} {bV : Nat} {bC : Option Addr} {bD : Nat} {bh : Option Addr} {bi : Nat} {bQ : Option Addr} {bS : Nat} {bE : Option Addr} {bF : Nat} {bG : Option Addr} {bH : Nat} {e : Enum} (hA : ∀ b ∈ A, b < w0.heap.size) (aU : ISl (Rp.sl (Rp.int .i64)) A w0 bU bV e.Gens) (aN : ISl (Rp.sl (Rp.int .i64)) A w0 bC bD e.Elems) (aK : ISl (Rp.int .i64) A w0 bh bi e.Prefix) (aR : ISl (Rp.int .i64) A w0 bQ bS e.Last) (aO : ISl (Rp.sl (Rp.int .i64)) A w0 bE bF e.Right) (aP : ISl (rpRule) A w0 bG bH e.Rules) {K : Int → Prop} (H : enumerate_Validate e K) :
    CallsV Try.prog 20 #[.agg #[.int .i64 e.Points, .bool e.Monoid, .slice bU e.Gens.length bV, .slice bC e.Elems.length bD, .slice bh e.Prefix.length bi, .slice bQ e.Last.length bS, .slice bE e.Right.length bF, .slice bG e.Rules.length bH, .int .i64 e.Done]] w0 (fun v w' => ∃ (r0 : Int), v = .int .i64 r0 ∧ Same w0 w' ∧ K r0) := by
 refine CallsV.of (l := [.agg #[.int .i64 e.Points, .bool e.Monoid, .slice bU e.Gens.length bV, .slice bC e.Elems.length bD, .slice bh e.Prefix.length bi, .slice bQ e.Last.length bS, .slice bE e.Right.length bF, .slice bG e.Rules.length bH, .int .i64 e.Done]]) Try.func20 rfl Try.ntmps20 rfl ?_
 have hO := Owns.start hA
 have hB := Fr.refl (bl []) w0
 unfold enumerate_Validate at H
 refine zq (zr ?_)
 have hobt := obox (t := 29) (v := .agg #[.int .i64 e.Points, .bool e.Monoid, .slice bU e.Gens.length bV, .slice bC e.Elems.length bD, .slice bh e.Prefix.length bi, .slice bQ e.Last.length bS, .slice bE e.Right.length bF, .slice bG e.Rules.length bH, .int .i64 e.Done]) (cs := #[.int .i64 e.Points, .bool e.Monoid, .slice bU e.Gens.length bV, .slice bC e.Elems.length bD, .slice bh e.Prefix.length bi, .slice bQ e.Last.length bS, .slice bE e.Right.length bF, .slice bG e.Rules.length bH, .int .i64 e.Done]) hO rfl
 obtain ⟨w1, B2, d5, hs4, uu⟩ := hobt
 refine zg (uu rfl) ?_
 replace hO := d5.own
 refine za rfl (zn (zq (zq (zr (zs (oblkAgg (vs := [.int .i64 e.Points, .bool e.Monoid, .slice bU e.Gens.length bV, .slice bC e.Elems.length bD, .slice bh e.Prefix.length bi, .slice bQ e.Last.length bS, .slice bE e.Right.length bF, .slice bG e.Rules.length bH, .int .i64 e.Done]) (i := 0) 0 hO rfl rfl Try.underlying29 rfl ti29 rfl) ?_)))))
 have Z1 := (Ch.start A w0).trans d5.ch
 replace aU := aU.ch Z1
 replace aN := aN.ch Z1
 replace aK := aK.ch Z1
 replace aR := aR.ch Z1
 replace aO := aO.ch Z1
 replace aP := aP.ch Z1
 refine GoR.call (op_call body53 rfl (walk_enumerate_replay (e := e) hO.lt aU aN aK aR aO aP H)) rfl rfl ?_
 intro v9 w10 hcase13
 refine Or.elim hcase13 ?_ ?_
 ·refine exE fun r8 => andE fun hv14 => andE fun y3 => fun H => ?_
  subst hv14
  clear hcase13
  replace H := oElimN H
  have iQ := Stp.same hO y3
  replace hO := iQ.own
  refine zm rfl (zo (op_extract rfl rfl) (zo (op_extract rfl rfl) (za rfl (za rfl (zn ?_)))))
  refine zq (zr (zm rfl ?_))
  cases r8
  ·replace H := ifn Bool.false_ne_true H
   refine zo (op_not rfl) (zn (zt rfl rfl (zq (zr (za rfl ?_)))))
   refine zn ?_
   refine Go1.ret1 Try.func20 rfl ?_
   replace hB := (hB.trans d5.fr).trans iQ.fr
   exact ⟨(8 : Int), rfl, hB.same, H⟩
  replace H := ifp rfl H
  refine zo (op_not rfl) (zn (zf rfl rfl (zk (zq (zr ?_)))))
  refine za rfl (zn ?_)
  refine Go1.ret1 Try.func20 rfl ?_
  replace hB := (hB.trans d5.fr).trans iQ.fr
  exact ⟨(0 : Int), rfl, hB.same, H⟩
 ·refine exE fun r7 => exE fun r8 => exE fun fV => exE fun uW => exE fun uX => exE fun uY => exE fun t7 => exE fun t8 => exE fun t9 => exE fun ua => exE fun tt => exE fun tu => exE fun tv => exE fun tw => exE fun sA => exE fun u0 => exE fun u3 => exE fun u4 => exE fun ub => exE fun uc => exE fun ud => exE fun ue => exE fun tx => exE fun uf => exE fun ug => exE fun uh => exE fun tz => exE fun aV => exE fun zd => exE fun zh => exE fun zi => exE fun ya => exE fun yb => exE fun yc => exE fun yd => exE fun xv => exE fun ye => exE fun yf => exE fun yg => exE fun xw => andE fun hv16 => andE fun y3 => andE fun hN12 => andE fun ft => andE fun eW => andE fun eV => andE fun fu => andE fun ff => andE fun fh => andE fun fW => andE fun gp => andE fun gq => fun H => ?_
  subst hv16
  clear hcase13
  replace H := oElimS H
  have k8 := Stp.more hO y3 hN12
  dsimp only [List.cons_append, List.nil_append] at k8
  replace hO := k8.own
  replace ft := ft.ch (Ch.assoc _ _ _ _)
  dsimp only [List.cons_append, List.nil_append] at ft
  replace eW := eW.ch (Ch.assoc _ _ _ _)
  dsimp only [List.cons_append, List.nil_append] at eW
  replace eV := eV.ch (Ch.assoc _ _ _ _)
  dsimp only [List.cons_append, List.nil_append] at eV
  replace fu := fu.ch (Ch.assoc _ _ _ _)
  dsimp only [List.cons_append, List.nil_append] at fu
  replace ff := ff.ch (Ch.assoc _ _ _ _)
  dsimp only [List.cons_append, List.nil_append] at ff
  replace fh := fh.ch (Ch.assoc _ _ _ _)
  dsimp only [List.cons_append, List.nil_append] at fh
  replace fW := fW.ch (Ch.assoc _ _ _ _)
  dsimp only [List.cons_append, List.nil_append] at fW
  replace gp := gp.ch (Ch.assoc _ _ _ _)
  dsimp only [List.cons_append, List.nil_append] at gp
  replace gq := gq.ch (Ch.assoc _ _ _ _)
  dsimp only [List.cons_append, List.nil_append] at gq
  refine zm rfl (zo (op_extract rfl rfl) (zo (op_extract rfl rfl) (za rfl (za rfl (zn ?_)))))
  refine zq ?_
  refine Go1.cut [(4, .bool r8)] ⟨rfl, trivial⟩ ?_
  intro σ _
  refine zr (zm rfl ?_)
  cases r8
  ·replace H := ifn Bool.false_ne_true H
   refine zo (op_not rfl) (zn (zt rfl rfl (zq (zr (za rfl ?_)))))
   refine zn ?_
   refine Go1.ret1 Try.func20 rfl ?_
   replace hB := (hB.trans d5.fr).trans k8.fr
   exact ⟨(8 : Int), rfl, hB.same, H⟩
  replace H := ifp rfl H
  refine zo (op_not rfl) (zn (zf rfl rfl (zk (zq (zr ?_)))))
  refine za rfl (zn ?_)
  refine Go1.ret1 Try.func20 rfl ?_
  replace hB := (hB.trans d5.fr).trans k8.fr
  exact ⟨(0 : Int), rfl, hB.same, H⟩
theorem body21 : Body Try.prog 21 := ⟨Try.f21, Try.func21, rfl, by kernel_rfl⟩
theorem walk_ref12_Validate {A : List Nat} {w0 : World} {bU : Option Addr} {bV : Nat} {bC : Option Addr} {bD : Nat} {bh : Option Addr} {bi : Nat} {bQ : Option Addr} {bS : Nat} {bE : Option Addr} {bF : Nat} {bG : Option Addr} {bH : Nat} {e : Enum} (hA : ∀ b ∈ A, b < w0.heap.size) (aU : ISl (Rp.sl (Rp.int .i64)) A w0 bU bV e.Gens) (aN : ISl (Rp.sl (Rp.int .i64)) A w0 bC bD e.Elems) (aK : ISl (Rp.int .i64) A w0 bh bi e.Prefix) (aR : ISl (Rp.int .i64) A w0 bQ bS e.Last) (aO : ISl (Rp.sl (Rp.int .i64)) A w0 bE bF e.Right) (aP : ISl (rpRule) A w0 bG bH e.Rules) {K : Int → Prop} (H : ref12_Validate e K) :
    CallsV Try.prog 21 #[.agg #[.int .i64 e.Points, .bool e.Monoid, .slice bU e.Gens.length bV, .slice bC e.Elems.length bD, .slice bh e.Prefix.length bi, .slice bQ e.Last.length bS, .slice bE e.Right.length bF, .slice bG e.Rules.length bH, .int .i64 e.Done]] w0 (fun v w' => ∃ (r0 : Int), v = .int .i64 r0 ∧ Same w0 w' ∧ K r0) := by
 refine CallsV.of (l := [.agg #[.int .i64 e.Points, .bool e.Monoid, .slice bU e.Gens.length bV, .slice bC e.Elems.length bD, .slice bh e.Prefix.length bi, .slice bQ e.Last.length bS, .slice bE e.Right.length bF, .slice bG e.Rules.length bH, .int .i64 e.Done]]) Try.func21 rfl Try.ntmps21 rfl ?_
 have hO := Owns.start hA
 have hB := Fr.refl (bl []) w0
 unfold ref12_Validate at H
 refine zq (zr ?_)
 have hobt := obox (t := 29) (v := .agg #[.int .i64 e.Points, .bool e.Monoid, .slice bU e.Gens.length bV, .slice bC e.Elems.length bD, .slice bh e.Prefix.length bi, .slice bQ e.Last.length bS, .slice bE e.Right.length bF, .slice bG e.Rules.length bH, .int .i64 e.Done]) (cs := #[.int .i64 e.Points, .bool e.Monoid, .slice bU e.Gens.length bV, .slice bC e.Elems.length bD, .slice bh e.Prefix.length bi, .slice bQ e.Last.length bS, .slice bE e.Right.length bF, .slice bG e.Rules.length bH, .int .i64 e.Done]) hO rfl
 obtain ⟨w1, B2, d5, hs4, uu⟩ := hobt
 refine zg (uu rfl) ?_
 replace hO := d5.own
 refine za rfl (zn (zq (zq (zr (zo (op_fieldAddr Try.underlying29 rfl ti22 rfl (by decide)) ?_)))))
 refine zs (oblk (i := 3) 0 hO rfl rfl Try.underlying22 rfl rfl) (zo (op_len Try.underlying22 rfl) ?_)
 replace aN := (aN.ch (Ch.start A w0)).ch d5.ch
 replace H := H aN.bd
 by_cases h7 : (2000 : Int) < (e.Elems.length : Int)
 ·replace H := ifp h7 H
  refine zo (fun w => opB (op_gtr rfl rfl w) (decide_eq_true h7)) (zm rfl (zp (zp (zp (zo (op_pickT rfl rfl rfl) ?_)))))
  refine zm rfl (zp (zp (zp (zp (zp ?_)))))
  refine zp (zo (op_pickT rfl rfl rfl) (zn (zt rfl rfl (zq ?_))))
  refine Go1.cut [] trivial ?_
  intro σ _
  refine zr (za rfl (zn ?_))
  refine Go1.ret1 Try.func21 rfl ?_
  replace hB := hB.trans d5.fr
  exact ⟨(8 : Int), rfl, hB.same, H⟩
 replace H := ifn h7 H
 refine zo (fun w => opB (op_gtr rfl rfl w) (decide_eq_false h7)) (zm rfl (zo (op_fieldAddr Try.underlying29 rfl ti3 rfl (by decide)) (zs (oblk (i := 8) 0 hO rfl rfl Try.underlying3 rfl rfl) ?_)))
 by_cases h8 : e.Done < (0 : Int)
 ·replace H := ifp h8 H
  refine zo (fun w => opB (op_lss rfl rfl w) (decide_eq_true h8)) (zo (op_pickF rfl rfl rfl) (zm rfl (zp (zp (zp ?_)))))
  refine zp (zp (zp (zo (op_pickT rfl rfl rfl) (zn (zt rfl rfl ?_)))))
  refine zq (zr (za rfl (zn ?_)))
  refine Go1.ret1 Try.func21 rfl ?_
  replace hB := hB.trans d5.fr
  exact ⟨(8 : Int), rfl, hB.same, H⟩
 replace H := ifn h8 H
 refine zo (fun w => opB (op_lss rfl rfl w) (decide_eq_false h8)) (zo (op_pickF rfl rfl rfl) (zm rfl (zo (op_fieldAddr Try.underlying29 rfl ti3 rfl (by decide)) (zs (oblk (i := 8) 0 hO rfl rfl Try.underlying3 rfl rfl) (zo (op_fieldAddr Try.underlying29 rfl ti22 rfl (by decide)) ?_)))))
 refine zs (oblk (i := 3) 0 hO rfl rfl Try.underlying22 rfl rfl) (zo (op_len Try.underlying22 rfl) ?_)
 by_cases h9 : (e.Elems.length : Int) < e.Done
 ·replace H := ifp h9 H
  refine zo (fun w => opB (op_gtr rfl rfl w) (decide_eq_true h9)) (zo (op_pickF rfl rfl rfl) (zn (zt rfl rfl (zq ?_))))
  refine Go1.cut [] trivial ?_
  intro σ _
  refine zr (za rfl (zn ?_))
  refine Go1.ret1 Try.func21 rfl ?_
  replace hB := hB.trans d5.fr
  exact ⟨(8 : Int), rfl, hB.same, H⟩
 replace H := ifn h9 H
 refine zo (fun w => opB (op_gtr rfl rfl w) (decide_eq_false h9)) (zo (op_pickF rfl rfl rfl) (zn (zf rfl rfl (zk (zq ?_)))))
 refine zr (zo (op_fieldAddr Try.underlying29 rfl ti22 rfl (by decide)) (zs (oblk (i := 2) 0 hO rfl rfl Try.underlying22 rfl rfl) (zo (op_fieldAddr Try.underlying29 rfl ti4 rfl (by decide)) (zs (oblk (i := 1) 0 hO rfl rfl Try.underlying4 rfl rfl) ?_))))
 replace aU := (aU.ch (Ch.start A w0)).ch d5.ch
 refine GoR.call (op_call body22 rfl (walk_ref12_Start hO.lt aU H)) rfl rfl ?_
 rintro v15 w12 ⟨r10, r11, DW, DX, CA, CB, BC, BD, DY, D0, CC, CD, CE, CF, rfl, LM, qh, mK, lF, qi, mM, mO, H⟩
 have tQ := Stp.same hO LM
 replace hO := tQ.own
 refine zm rfl (zo (op_extract rfl rfl) (zo (op_extract rfl rfl) ?_))
 have hobt := oalloc (t := 29) (cs := #[.int .i64 (0 : Int), .bool false, .slice none 0 0, .slice none 0 0, .slice none 0 0, .slice none 0 0, .slice none 0 0, .slice none 0 0, .int .i64 (0 : Int)]) ti29 hO rfl
 obtain ⟨w17, B18, sM, OK, Vx⟩ := hobt
 refine GoR.op Vx rfl rfl ?_
 replace hO := sM.own
 have hobt := oblkStAgg (us := [.int .i64 r10.Points, .bool r10.Monoid, .slice DW r10.Gens.length DX, .slice CA r10.Elems.length CB, .slice BC r10.Prefix.length BD, .slice DY r10.Last.length D0, .slice CC r10.Right.length CD, .slice CE r10.Rules.length CF, .int .i64 r10.Done]) (o := 0) (cs' := #[.int .i64 r10.Points, .bool r10.Monoid, .slice DW r10.Gens.length DX, .slice CA r10.Elems.length CB, .slice BC r10.Prefix.length BD, .slice DY r10.Last.length D0, .slice CC r10.Right.length CD, .slice CE r10.Rules.length CF, .int .i64 r10.Done]) 0 hO rfl rfl (Nat.le_of_ble_eq_true rfl) rfl
 obtain ⟨w23, xl, FU⟩ := hobt
 refine zg (FU ti29 (by exact rfl) (by exact rfl) rfl) ?_
 replace hO := xl.own
 refine za rfl (zn (zq (zq (zr (zm rfl ?_)))))
 by_cases h26 : r11 = (0 : Int)
 ·replace H := ifp h26 H
  refine zo (fun w => opB (op_neq rfl rfl w) (ndT h26)) (zn (zf rfl rfl (zk (zq (zr ?_)))))
  refine zs (oblkAgg (vs := [.int .i64 r10.Points, .bool r10.Monoid, .slice DW r10.Gens.length DX, .slice CA r10.Elems.length CB, .slice BC r10.Prefix.length BD, .slice DY r10.Last.length D0, .slice CC r10.Right.length CD, .slice CE r10.Rules.length CF, .int .i64 r10.Done]) (i := 0) 0 hO rfl rfl Try.underlying29 rfl ti29 rfl) (zo (op_fieldAddr Try.underlying29 rfl ti3 rfl (by decide)) (zs (oblk (i := 8) 1 hO rfl rfl Try.underlying3 rfl rfl) ?_))
  have Z1 := sM.ch.trans xl.ch
  replace qh := qh.ch Z1
  replace mK := mK.ch Z1
  replace lF := lF.ch Z1
  replace qi := qi.ch Z1
  replace mM := mM.ch Z1
  replace mO := mO.ch Z1
  refine GoR.call (op_call body52 rfl (walk_ref12_process (a0 := r10) hO.lt qh mK lF qi mM mO H)) rfl rfl ?_
  rintro v32 w29 ⟨r27, r28, D1, D2, CG, CH, BE, BG, D3, D4, CJ, CK, CM, CO, rfl, abO, zM, yl, xE, zN, ym, yn, H⟩
  have xm := Stp.same hO abO
  replace hO := xm.own
  refine zm rfl (zo (op_extract rfl rfl) (zo (op_extract rfl rfl) ?_))
  have hobt := oblkStAgg (us := [.int .i64 r27.Points, .bool r27.Monoid, .slice D1 r27.Gens.length D2, .slice CG r27.Elems.length CH, .slice BE r27.Prefix.length BG, .slice D3 r27.Last.length D4, .slice CJ r27.Right.length CK, .slice CM r27.Rules.length CO, .int .i64 r27.Done]) (o := 0) (cs' := #[.int .i64 r27.Points, .bool r27.Monoid, .slice D1 r27.Gens.length D2, .slice CG r27.Elems.length CH, .slice BE r27.Prefix.length BG, .slice D3 r27.Last.length D4, .slice CJ r27.Right.length CK, .slice CM r27.Rules.length CO, .int .i64 r27.Done]) 0 hO rfl rfl (Nat.le_of_ble_eq_true rfl) rfl
  obtain ⟨w34, gI, F2⟩ := hobt
  refine zg (F2 ti29 (by exact rfl) (by exact rfl) rfl) ?_
  replace hO := gI.own
  refine za rfl (zn (zq (zq ?_)))
  refine Go1.cut [(1, .pointer (some ⟨B2, 0, none⟩)), (3, .pointer (some ⟨B18, 0, none⟩)), (4, .int .i64 r28)] ⟨rfl, rfl, rfl, trivial⟩ ?_
  intro σ _
  refine zr (zm rfl ?_)
  by_cases h37 : r28 = (0 : Int)
  ·replace H := ifp h37 H
   refine zo (fun w => opB (op_neq rfl rfl w) (ndT h37)) (zm rfl (zs (oblkAgg (vs := [.int .i64 r27.Points, .bool r27.Monoid, .slice D1 r27.Gens.length D2, .slice CG r27.Elems.length CH, .slice BE r27.Prefix.length BG, .slice D3 r27.Last.length D4, .slice CJ r27.Right.length CK, .slice CM r27.Rules.length CO, .int .i64 r27.Done]) (i := 0) 0 hO rfl rfl Try.underlying29 rfl ti29 rfl) (zs (oblkAgg (vs := [.int .i64 e.Points, .bool e.Monoid, .slice bU e.Gens.length bV, .slice bC e.Elems.length bD, .slice bh e.Prefix.length bi, .slice bQ e.Last.length bS, .slice bE e.Right.length bF, .slice bG e.Rules.length bH, .int .i64 e.Done]) (i := 0) 1 hO rfl rfl Try.underlying29 rfl ti29 rfl) ?_)))
   replace zM := zM.ch gI.ch
   replace yl := yl.ch gI.ch
   replace xE := xE.ch gI.ch
   replace zN := zN.ch gI.ch
   replace ym := ym.ch gI.ch
   replace yn := yn.ch gI.ch
   have Z2 := (((tQ.ch.trans sM.ch).trans xl.ch).trans xm.ch).trans gI.ch
   replace aU := aU.ch Z2
   replace aN := aN.ch Z2
   have Z3 := ((((((Ch.start A w0).trans d5.ch).trans tQ.ch).trans sM.ch).trans xl.ch).trans xm.ch).trans gI.ch
   replace aK := aK.ch Z3
   replace aR := aR.ch Z3
   replace aO := aO.ch Z3
   replace aP := aP.ch Z3
   refine GoR.call (op_call body19 rfl (walk_ref12_Same (a0 := r27) (a1 := e) hO.lt zM yl xE zN ym yn aU aN aK aR aO aP H)) rfl rfl ?_
   rintro v42 w39 ⟨r38, rfl, abP, H⟩
   have sd := Stp.same hO abP
   replace hO := sd.own
   cases r38
   ·replace H := ifn Bool.false_ne_true H
    refine zo (op_not rfl) (zo (op_pickF rfl rfl rfl) (zn (zt rfl rfl (zq (zr ?_)))))
    refine za rfl (zn ?_)
    refine Go1.ret1 Try.func21 rfl ?_
    replace hB := ((((((hB.trans d5.fr).trans tQ.fr).trans sM.fr).trans xl.fr).trans xm.fr).trans gI.fr).trans sd.fr
    exact ⟨(8 : Int), rfl, hB.same, H⟩
   replace H := ifp rfl H
   refine zo (op_not rfl) (zo (op_pickF rfl rfl rfl) (zn (zf rfl rfl (zk (zq ?_)))))
   refine zr (za rfl (zn ?_))
   refine Go1.ret1 Try.func21 rfl ?_
   replace hB := ((((((hB.trans d5.fr).trans tQ.fr).trans sM.fr).trans xl.fr).trans xm.fr).trans gI.fr).trans sd.fr
   exact ⟨(0 : Int), rfl, hB.same, H⟩
  replace H := ifn h37 H
  refine zo (fun w => opB (op_neq rfl rfl w) (ndF h37)) (zm rfl (zp (zp (zp (zp ?_)))))
  refine zo (op_pickT rfl rfl rfl) (zn (zt rfl rfl (zq ?_)))
  refine Go1.cut [] trivial ?_
  intro σ _
  refine zr (za rfl (zn ?_))
  refine Go1.ret1 Try.func21 rfl ?_
  replace hB := (((((hB.trans d5.fr).trans tQ.fr).trans sM.fr).trans xl.fr).trans xm.fr).trans gI.fr
  exact ⟨(8 : Int), rfl, hB.same, H⟩
 replace H := ifn h26 H
 refine zo (fun w => opB (op_neq rfl rfl w) (ndF h26)) (zn (zt rfl rfl (zq (zr (za rfl ?_)))))
 refine zn ?_
 refine Go1.ret1 Try.func21 rfl ?_
 replace hB := (((hB.trans d5.fr).trans tQ.fr).trans sM.fr).trans xl.fr
 exact ⟨(8 : Int), rfl, hB.same, H⟩
theorem body23 : Body Try.prog 23 := ⟨Try.f23, Try.func23, rfl, by kernel_rfl⟩
theorem walk_ref12_Step {A : List Nat} {w0 : World} {bU : Option Addr} {bV : Nat} {bC : Option Addr} {bD : Nat} {bh : Option Addr} {bi : Nat} {bQ : Option Addr} {bS : Nat} {bE : Option Addr} {bF : Nat} {bG : Option Addr} {bH : Nat} {e : Enum} {budget : Int} (hA : ∀ b ∈ A, b < w0.heap.size) (aU : ISl (Rp.sl (Rp.int .i64)) A w0 bU bV e.Gens) (aN : ISl (Rp.sl (Rp.int .i64)) A w0 bC bD e.Elems) (aK : ISl (Rp.int .i64) A w0 bh bi e.Prefix) (aR : ISl (Rp.int .i64) A w0 bQ bS e.Last) (aO : ISl (Rp.sl (Rp.int .i64)) A w0 bE bF e.Right) (aP : ISl (rpRule) A w0 bG bH e.Rules) {K : Enum → Int → Prop} (H : ref12_Step e budget K) :
    CallsV Try.prog 23 #[.agg #[.int .i64 e.Points, .bool e.Monoid, .slice bU e.Gens.length bV, .slice bC e.Elems.length bD, .slice bh e.Prefix.length bi, .slice bQ e.Last.length bS, .slice bE e.Right.length bF, .slice bG e.Rules.length bH, .int .i64 e.Done], .int .i64 budget] w0 (fun v w' => ∃ (r0 : Enum), ∃ (r1 : Int), ∃ (rH : Option Addr), ∃ (rI : Nat), ∃ (pQ : Option Addr), ∃ (pS : Nat), ∃ (mH : Option Addr), ∃ (mI : Nat), ∃ (rJ : Option Addr), ∃ (rK : Nat), ∃ (pT : Option Addr), ∃ (pU : Nat), ∃ (pV : Option Addr), ∃ (pW : Nat), v = .tuple #[.agg #[.int .i64 r0.Points, .bool r0.Monoid, .slice rH r0.Gens.length rI, .slice pQ r0.Elems.length pS, .slice mH r0.Prefix.length mI, .slice rJ r0.Last.length rK, .slice pT r0.Right.length pU, .slice pV r0.Rules.length pW, .int .i64 r0.Done], .int .i64 r1] ∧ Same w0 w' ∧ ISl (Rp.sl (Rp.int .i64)) A w' rH rI r0.Gens ∧ ISl (Rp.sl (Rp.int .i64)) A w' pQ pS r0.Elems ∧ ISl (Rp.int .i64) A w' mH mI r0.Prefix ∧ ISl (Rp.int .i64) A w' rJ rK r0.Last ∧ ISl (Rp.sl (Rp.int .i64)) A w' pT pU r0.Right ∧ ISl (rpRule) A w' pV pW r0.Rules ∧ K r0 r1) := by
 refine CallsV.of (l := [.agg #[.int .i64 e.Points, .bool e.Monoid, .slice bU e.Gens.length bV, .slice bC e.Elems.length bD, .slice bh e.Prefix.length bi, .slice bQ e.Last.length bS, .slice bE e.Right.length bF, .slice bG e.Rules.length bH, .int .i64 e.Done], .int .i64 budget]) Try.func23 rfl Try.ntmps23 rfl ?_
 have hO := Owns.start hA
 have hB := Fr.refl (bl []) w0
 unfold ref12_Step at H
 refine zq (zr ?_)
 have hobt := obox (t := 29) (v := .agg #[.int .i64 e.Points, .bool e.Monoid, .slice bU e.Gens.length bV, .slice bC e.Elems.length bD, .slice bh e.Prefix.length bi, .slice bQ e.Last.length bS, .slice bE e.Right.length bF, .slice bG e.Rules.length bH, .int .i64 e.Done]) (cs := #[.int .i64 e.Points, .bool e.Monoid, .slice bU e.Gens.length bV, .slice bC e.Elems.length bD, .slice bh e.Prefix.length bi, .slice bQ e.Last.length bS, .slice bE e.Right.length bF, .slice bG e.Rules.length bH, .int .i64 e.Done]) hO rfl
 obtain ⟨w1, B2, d5, hs4, uu⟩ := hobt
 refine zg (uu rfl) ?_
 replace hO := d5.own
 have hobt := oalloc (t := 29) (cs := #[.int .i64 (0 : Int), .bool false, .slice none 0 0, .slice none 0 0, .slice none 0 0, .slice none 0 0, .slice none 0 0, .slice none 0 0, .int .i64 (0 : Int)]) ti29 hO rfl
 obtain ⟨w7, B8, iE, Hq, C8⟩ := hobt
 refine GoR.op C8 rfl rfl ?_
 replace hO := iE.own
 refine za rfl (zn (zq (zq (zr (zs (oblkAgg (vs := [.int .i64 e.Points, .bool e.Monoid, .slice bU e.Gens.length bV, .slice bC e.Elems.length bD, .slice bh e.Prefix.length bi, .slice bQ e.Last.length bS, .slice bE e.Right.length bF, .slice bG e.Rules.length bH, .int .i64 e.Done]) (i := 0) 1 hO rfl rfl Try.underlying29 rfl ti29 rfl) ?_)))))
 have Z1 := ((Ch.start A w0).trans d5.ch).trans iE.ch
 replace aU := aU.ch Z1
 replace aN := aN.ch Z1
 replace aK := aK.ch Z1
 replace aR := aR.ch Z1
 replace aO := aO.ch Z1
 replace aP := aP.ch Z1
 refine GoR.call (op_call body21 rfl (walk_ref12_Validate (e := e) hO.lt aU aN aK aR aO aP H)) rfl rfl ?_
 rintro v17 w14 ⟨r13, rfl, abQ, H⟩
 have qv := Stp.same hO abQ
 replace hO := qv.own
 refine za rfl (zn (zq (zr (zm rfl ?_))))
 by_cases h19 : r13 = (0 : Int)
 ·replace H := ifp h19 H
  refine zo (fun w => opB (op_neq rfl rfl w) (ndT h19)) (zn (zf rfl rfl (zk (zq (zq ?_)))))
  refine zr (zm rfl ?_)
  by_cases h20 : budget < (0 : Int)
  ·replace H := ifp h20 H
   refine zo (fun w => opB (op_lss rfl rfl w) (decide_eq_true h20)) (zn (zt rfl rfl (zq (zr (zo (op_build Try.underlying29 ti29 (pl := [(0, 1), (1, 1), (2, 1), (3, 1), (4, 1), (5, 1), (6, 1), (7, 1), (8, 1)]) (vs := []) (cs := #[.int .i64 (0 : Int), .bool false, .slice none 0 0, .slice none 0 0, .slice none 0 0, .slice none 0 0, .slice none 0 0, .slice none 0 0, .int .i64 (0 : Int)]) (by kernel_rfl) rfl (by kernel_rfl)) ?_)))))
   have hobt := oblkStAgg (us := [.int .i64 (0 : Int), .bool false, .slice none 0 0, .slice none 0 0, .slice none 0 0, .slice none 0 0, .slice none 0 0, .slice none 0 0, .int .i64 (0 : Int)]) (o := 0) (cs' := #[.int .i64 (0 : Int), .bool false, .slice none 0 0, .slice none 0 0, .slice none 0 0, .slice none 0 0, .slice none 0 0, .slice none 0 0, .int .i64 (0 : Int)]) 0 hO rfl rfl (Nat.le_of_ble_eq_true rfl) rfl
   obtain ⟨w21, fq, C9⟩ := hobt
   refine zg (C9 ti29 (by exact rfl) (by exact rfl) rfl) ?_
   replace hO := fq.own
   refine za rfl (zn ?_)
   refine Go1.retC2 Try.func23 rfl rfl (run_loadBlk (vs := [.int .i64 (0 : Int), .bool false, .slice none 0 0, .slice none 0 0, .slice none 0 0, .slice none 0 0, .slice none 0 0, .slice none 0 0, .int .i64 (0 : Int)]) 0 hO rfl rfl Try.underlying29 rfl ti29) ?_
   replace hB := (((hB.trans d5.fr).trans iE.fr).trans qv.fr).trans fq.fr
   exact ⟨(⟨(0 : Int), false, ([] : List (List Int)), ([] : List (List Int)), ([] : List Int), ([] : List Int), ([] : List (List Int)), ([] : List Rule), (0 : Int)⟩ : Enum), (1 : Int), none, 0, none, 0, none, 0, none, 0, none, 0, none, 0, rfl, hB.same, (ISl.null _ _ _), (ISl.null _ _ _), (ISl.null _ _ _), (ISl.null _ _ _), (ISl.null _ _ _), (ISl.null _ _ _), H⟩
  replace H := ifn h20 H
  refine zo (fun w => opB (op_lss rfl rfl w) (decide_eq_false h20)) (zn (zf rfl rfl (zk (zq (zr ?_)))))
  refine zs (oblkAgg (vs := [.int .i64 e.Points, .bool e.Monoid, .slice bU e.Gens.length bV, .slice bC e.Elems.length bD, .slice bh e.Prefix.length bi, .slice bQ e.Last.length bS, .slice bE e.Right.length bF, .slice bG e.Rules.length bH, .int .i64 e.Done]) (i := 0) 1 hO rfl rfl Try.underlying29 rfl ti29 rfl) (zm rfl ?_)
  replace aU := aU.ch qv.ch
  replace aN := aN.ch qv.ch
  replace aK := aK.ch qv.ch
  replace aR := aR.ch qv.ch
  replace aO := aO.ch qv.ch
  replace aP := aP.ch qv.ch
  refine GoR.call (op_call body52 rfl (walk_ref12_process (a0 := e) hO.lt aU aN aK aR aO aP H)) rfl rfl ?_
  rintro v29 w26 ⟨r24, r25, Bj, Bk, Al, Am, zO, zP, Bl, Bm, Ao, Ap, Aq, Ar, rfl, abR, D5, CP, BH, D6, CQ, CR, H⟩
  have Cl := Stp.same hO abR
  replace hO := Cl.own
  refine zo (op_extract rfl rfl) (zo (op_extract rfl rfl) ?_)
  have hobt := oblkStAgg (us := [.int .i64 r24.Points, .bool r24.Monoid, .slice Bj r24.Gens.length Bk, .slice Al r24.Elems.length Am, .slice zO r24.Prefix.length zP, .slice Bl r24.Last.length Bm, .slice Ao r24.Right.length Ap, .slice Aq r24.Rules.length Ar, .int .i64 r24.Done]) (o := 0) (cs' := #[.int .i64 r24.Points, .bool r24.Monoid, .slice Bj r24.Gens.length Bk, .slice Al r24.Elems.length Am, .slice zO r24.Prefix.length zP, .slice Bl r24.Last.length Bm, .slice Ao r24.Right.length Ap, .slice Aq r24.Rules.length Ar, .int .i64 r24.Done]) 0 hO rfl rfl (Nat.le_of_ble_eq_true rfl) rfl
  obtain ⟨w31, xn, Vy⟩ := hobt
  refine zg (Vy ti29 (by exact rfl) (by exact rfl) rfl) ?_
  replace hO := xn.own
  refine za rfl (zn ?_)
  refine Go1.retC2 Try.func23 rfl rfl (run_loadBlk (vs := [.int .i64 r24.Points, .bool r24.Monoid, .slice Bj r24.Gens.length Bk, .slice Al r24.Elems.length Am, .slice zO r24.Prefix.length zP, .slice Bl r24.Last.length Bm, .slice Ao r24.Right.length Ap, .slice Aq r24.Rules.length Ar, .int .i64 r24.Done]) 0 hO rfl rfl Try.underlying29 rfl ti29) ?_
  replace D5 := D5.ch xn.ch
  replace CP := CP.ch xn.ch
  replace BH := BH.ch xn.ch
  replace D6 := D6.ch xn.ch
  replace CQ := CQ.ch xn.ch
  replace CR := CR.ch xn.ch
  replace hB := ((((hB.trans d5.fr).trans iE.fr).trans qv.fr).trans Cl.fr).trans xn.fr
  exact ⟨(⟨r24.Points, r24.Monoid, r24.Gens, r24.Elems, r24.Prefix, r24.Last, r24.Right, r24.Rules, r24.Done⟩ : Enum), r25, Bj, Bk, Al, Am, zO, zP, Bl, Bm, Ao, Ap, Aq, Ar, rfl, hB.same, (D5.ch (Ch.weak _ _ _)), (CP.ch (Ch.weak _ _ _)), (BH.ch (Ch.weak _ _ _)), (D6.ch (Ch.weak _ _ _)), (CQ.ch (Ch.weak _ _ _)), (CR.ch (Ch.weak _ _ _)), H⟩
 replace H := ifn h19 H
 refine zo (fun w => opB (op_neq rfl rfl w) (ndF h19)) (zn (zt rfl rfl (zq ?_)))
 refine Go1.cut [(4, .pointer (some ⟨B8, 0, none⟩)), (6, .int .i64 r13)] ⟨rfl, rfl, trivial⟩ ?_
 intro σ _
 refine zr (zo (op_build Try.underlying29 ti29 (pl := [(0, 1), (1, 1), (2, 1), (3, 1), (4, 1), (5, 1), (6, 1), (7, 1), (8, 1)]) (vs := []) (cs := #[.int .i64 (0 : Int), .bool false, .slice none 0 0, .slice none 0 0, .slice none 0 0, .slice none 0 0, .slice none 0 0, .slice none 0 0, .int .i64 (0 : Int)]) (by kernel_rfl) rfl (by kernel_rfl)) (zm rfl ?_))
 have hobt := oblkStAgg (us := [.int .i64 (0 : Int), .bool false, .slice none 0 0, .slice none 0 0, .slice none 0 0, .slice none 0 0, .slice none 0 0, .slice none 0 0, .int .i64 (0 : Int)]) (o := 0) (cs' := #[.int .i64 (0 : Int), .bool false, .slice none 0 0, .slice none 0 0, .slice none 0 0, .slice none 0 0, .slice none 0 0, .slice none 0 0, .int .i64 (0 : Int)]) 0 hO rfl rfl (Nat.le_of_ble_eq_true rfl) rfl
 obtain ⟨w34, gI, F2⟩ := hobt
 refine zg (F2 ti29 (by exact rfl) (by exact rfl) rfl) ?_
 replace hO := gI.own
 refine za rfl (zn ?_)
 refine Go1.retC2 Try.func23 rfl rfl (run_loadBlk (vs := [.int .i64 (0 : Int), .bool false, .slice none 0 0, .slice none 0 0, .slice none 0 0, .slice none 0 0, .slice none 0 0, .slice none 0 0, .int .i64 (0 : Int)]) 0 hO rfl rfl Try.underlying29 rfl ti29) ?_
 replace hB := (((hB.trans d5.fr).trans iE.fr).trans qv.fr).trans gI.fr
 exact ⟨(⟨(0 : Int), false, ([] : List (List Int)), ([] : List (List Int)), ([] : List Int), ([] : List Int), ([] : List (List Int)), ([] : List Rule), (0 : Int)⟩ : Enum), r13, none, 0, none, 0, none, 0, none, 0, none, 0, none, 0, rfl, hB.same, (ISl.null _ _ _), (ISl.null _ _ _), (ISl.null _ _ _), (ISl.null _ _ _), (ISl.null _ _ _), (ISl.null _ _ _), H⟩
end Sg
