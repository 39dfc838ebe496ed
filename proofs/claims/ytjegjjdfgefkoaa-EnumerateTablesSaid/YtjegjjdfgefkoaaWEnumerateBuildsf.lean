/- The walks: each call keeps to its plain transformer. Printed by walkgen.py. -/
import Derived.Test.YtjegjjdfgefkoaaTi
import Derived.Test.YtjegjjdfgefkoaaWEnumerateBuildsc
import Derived.Test.YtjegjjdfgefkoaaWEnumerateBuildse
import Derived.Test.YtjegjjdfgefkoaaAl
namespace Sg
open Go Go.RowKit Go.Proofs
set_option linter.unusedVariables false
set_option linter.unusedSimpArgs false
set_option maxRecDepth 100000
set_option maxHeartbeats 4000000
theorem body19 : Body Try.prog 19 := ⟨Try.f19, Try.func19, rfl, by kernel_rfl⟩
theorem walk_ref12_Same {A : List Nat} {w0 : World} {aH : Option Addr} {aI : Nat} {bX : Option Addr} {bY : Nat} {bx : Option Addr} {bz : Nat} {cO : Option Addr} {cP : Nat} {b5 : Option Addr} {b6 : Nat} {b7 : Option Addr} {b8 : Nat} {gj : Option Addr} {gk : Nat} {fO : Option Addr} {fP : Nat} {fu : Option Addr} {fv : Nat} {gl : Option Addr} {gm : Nat} {fQ : Option Addr} {fR : Nat} {fS : Option Addr} {fT : Nat} {a0 : Enum} {a1 : Enum} (hA : ∀ b ∈ A, b < w0.heap.size) (aa : ISl (Rp.sl (Rp.int .i64)) A w0 aH aI a0.Gens) (ar : ISl (Rp.sl (Rp.int .i64)) A w0 bX bY a0.Elems) (ak : ISl (Rp.int .i64) A w0 bx bz a0.Prefix) (aB : ISl (Rp.int .i64) A w0 cO cP a0.Last) (au : ISl (Rp.sl (Rp.int .i64)) A w0 b5 b6 a0.Right) (ao : ISl (rpRule) A w0 b7 b8 a0.Rules) (fV : ISl (Rp.sl (Rp.int .i64)) A w0 gj gk a1.Gens) (fC : ISl (Rp.sl (Rp.int .i64)) A w0 fO fP a1.Elems) (eH : ISl (Rp.int .i64) A w0 fu fv a1.Prefix) (fW : ISl (Rp.int .i64) A w0 gl gm a1.Last) (fD : ISl (Rp.sl (Rp.int .i64)) A w0 fQ fR a1.Right) (eB : ISl (rpRule) A w0 fS fT a1.Rules) {K : Bool → Prop} (H : ref12_Same a0 a1 K) :
    CallsV Try.prog 19 #[.agg #[.int .i64 a0.Points, .bool a0.Monoid, .slice aH a0.Gens.length aI, .slice bX a0.Elems.length bY, .slice bx a0.Prefix.length bz, .slice cO a0.Last.length cP, .slice b5 a0.Right.length b6, .slice b7 a0.Rules.length b8, .int .i64 a0.Done], .agg #[.int .i64 a1.Points, .bool a1.Monoid, .slice gj a1.Gens.length gk, .slice fO a1.Elems.length fP, .slice fu a1.Prefix.length fv, .slice gl a1.Last.length gm, .slice fQ a1.Right.length fR, .slice fS a1.Rules.length fT, .int .i64 a1.Done]] w0 (fun v w' => ∃ (r0 : Bool), v = .bool r0 ∧ Same w0 w' ∧ K r0) := by
 refine CallsV.of (l := [.agg #[.int .i64 a0.Points, .bool a0.Monoid, .slice aH a0.Gens.length aI, .slice bX a0.Elems.length bY, .slice bx a0.Prefix.length bz, .slice cO a0.Last.length cP, .slice b5 a0.Right.length b6, .slice b7 a0.Rules.length b8, .int .i64 a0.Done], .agg #[.int .i64 a1.Points, .bool a1.Monoid, .slice gj a1.Gens.length gk, .slice fO a1.Elems.length fP, .slice fu a1.Prefix.length fv, .slice gl a1.Last.length gm, .slice fQ a1.Right.length fR, .slice fS a1.Rules.length fT, .int .i64 a1.Done]]) Try.func19 rfl Try.ntmps19 rfl ?_
 have hO := Owns.start hA
 have hB := Fr.refl (bl []) w0
 unfold ref12_Same at H
 refine zq (zr ?_)
 have hobt := obox (t := 29) (v := .agg #[.int .i64 a0.Points, .bool a0.Monoid, .slice aH a0.Gens.length aI, .slice bX a0.Elems.length bY, .slice bx a0.Prefix.length bz, .slice cO a0.Last.length cP, .slice b5 a0.Right.length b6, .slice b7 a0.Rules.length b8, .int .i64 a0.Done]) (cs := #[.int .i64 a0.Points, .bool a0.Monoid, .slice aH a0.Gens.length aI, .slice bX a0.Elems.length bY, .slice bx a0.Prefix.length bz, .slice cO a0.Last.length cP, .slice b5 a0.Right.length b6, .slice b7 a0.Rules.length b8, .int .i64 a0.Done]) hO rfl
 obtain ⟨w1, B2, d7, hs4, qE⟩ := hobt
 refine zg (qE rfl) ?_
 replace hO := d7.own
 have hobt := obox (t := 29) (v := .agg #[.int .i64 a1.Points, .bool a1.Monoid, .slice gj a1.Gens.length gk, .slice fO a1.Elems.length fP, .slice fu a1.Prefix.length fv, .slice gl a1.Last.length gm, .slice fQ a1.Right.length fR, .slice fS a1.Rules.length fT, .int .i64 a1.Done]) (cs := #[.int .i64 a1.Points, .bool a1.Monoid, .slice gj a1.Gens.length gk, .slice fO a1.Elems.length fP, .slice fu a1.Prefix.length fv, .slice gl a1.Last.length gm, .slice fQ a1.Right.length fR, .slice fS a1.Rules.length fT, .int .i64 a1.Done]) hO rfl
 obtain ⟨w7, B8, lm, Fh, Bu⟩ := hobt
 refine zg (Bu rfl) ?_
 replace hO := lm.own
 refine za rfl (zn (zq (zq (zr (zo (op_fieldAddr Try.underlying29 rfl ti3 rfl (by decide)) ?_)))))
 refine zs (oblk (i := 0) 1 hO rfl rfl Try.underlying3 rfl rfl) (zo (op_fieldAddr Try.underlying29 rfl ti3 rfl (by decide)) (zs (oblk (i := 0) 0 hO rfl rfl Try.underlying3 rfl rfl) ?_))
 by_cases h13 : a0.Points = a1.Points
 ·replace H := ifp h13 H
  refine zo (fun w => opB (op_neq rfl rfl w) (ndT h13)) (zm rfl (zo (op_fieldAddr Try.underlying29 rfl ti4 rfl (by decide)) ?_))
  by_cases h14 : a0.Monoid = true
  ·replace H := ifp h14 H
   refine zg (opB ((oblk (i := 1) 1 hO rfl rfl Try.underlying4 rfl rfl) _ (Same.refl _)) (h14)) (zo (op_fieldAddr Try.underlying29 rfl ti4 rfl (by decide)) ?_)
   by_cases h15 : a1.Monoid = true
   ·replace H := ifp h15 H
    refine zg (opB ((oblk (i := 1) 0 hO rfl rfl Try.underlying4 rfl rfl) _ (Same.refl _)) (h15)) (zo (op_neqB Try.underlying4 rfl rfl) (zo (op_pickF rfl rfl rfl) (zm rfl (zo (op_fieldAddr Try.underlying29 rfl ti3 rfl (by decide)) (zs (oblk (i := 8) 1 hO rfl rfl Try.underlying3 rfl rfl) ?_)))))
    refine zo (op_fieldAddr Try.underlying29 rfl ti3 rfl (by decide)) (zs (oblk (i := 8) 0 hO rfl rfl Try.underlying3 rfl rfl) ?_)
    by_cases h16 : a0.Done = a1.Done
    ·replace H := ifp h16 H
     refine zo (fun w => opB (op_neq rfl rfl w) (ndT h16)) (zo (op_pickF rfl rfl rfl) (zm rfl (zo (op_fieldAddr Try.underlying29 rfl ti22 rfl (by decide)) (zs (oblk (i := 2) 1 hO rfl rfl Try.underlying22 rfl rfl) (zo (op_fieldAddr Try.underlying29 rfl ti22 rfl (by decide)) ?_)))))
     refine zs (oblk (i := 2) 0 hO rfl rfl Try.underlying22 rfl rfl) ?_
     have Z1 := ((Ch.start A w0).trans d7.ch).trans lm.ch
     replace aa := aa.ch Z1
     replace fV := fV.ch Z1
     refine GoR.call (op_call body45 rfl (walk_ref03_SameRows hO.lt aa fV H)) rfl rfl ?_
     rintro v21 w18 ⟨r17, rfl, Er, H⟩
     have f0 := Stp.same hO Er
     replace hO := f0.own
     cases r17
     ·replace H := ifn Bool.false_ne_true H
      refine zo (op_not rfl) (zo (op_pickF rfl rfl rfl) (zm rfl (zp (zp (zp ?_)))))
      refine zp (zp (zp (zo (op_pickT rfl rfl rfl) (zm rfl (zp ?_)))))
      refine zp (zp (zp (zp (zp (zo (op_pickT rfl rfl rfl) ?_)))))
      refine zm rfl (zp (zp (zp (zp (zp ?_)))))
      refine zp (zo (op_pickT rfl rfl rfl) (zm rfl (zp (zp (zp ?_)))))
      refine zp (zp (zp (zo (op_pickT rfl rfl rfl) (zm rfl (zp ?_)))))
      refine zp (zp (zp (zp (zp (zp ?_)))))
      refine zo (op_pickT rfl rfl rfl) (zn (zt rfl rfl (zq ?_)))
      refine Go1.cut [] trivial ?_
      intro σ _
      refine zr (za rfl (zn ?_))
      refine Go1.ret1 Try.func19 rfl ?_
      replace hB := ((hB.trans d7.fr).trans lm.fr).trans f0.fr
      exact ⟨false, rfl, hB.same, H⟩
     replace H := ifp rfl H
     refine zo (op_not rfl) (zo (op_pickF rfl rfl rfl) (zm rfl (zo (op_fieldAddr Try.underlying29 rfl ti22 rfl (by decide)) (zs (oblk (i := 3) 1 hO rfl rfl Try.underlying22 rfl rfl) (zo (op_fieldAddr Try.underlying29 rfl ti22 rfl (by decide)) ?_)))))
     refine zs (oblk (i := 3) 0 hO rfl rfl Try.underlying22 rfl rfl) ?_
     have Z2 := Z1.trans f0.ch
     replace ar := ar.ch Z2
     replace fC := fC.ch Z2
     refine GoR.call (op_call body45 rfl (walk_ref03_SameRows hO.lt ar fC H)) rfl rfl ?_
     rintro v27 w24 ⟨r23, rfl, Eh, H⟩
     have jP := Stp.same hO Eh
     replace hO := jP.own
     cases r23
     ·replace H := ifn Bool.false_ne_true H
      refine zo (op_not rfl) (zo (op_pickF rfl rfl rfl) (zm rfl (zp (zp (zp ?_)))))
      refine zp (zp (zp (zo (op_pickT rfl rfl rfl) (zm rfl (zp ?_)))))
      refine zp (zp (zp (zp (zp (zo (op_pickT rfl rfl rfl) ?_)))))
      refine zm rfl (zp (zp (zp (zp (zp ?_)))))
      refine zp (zo (op_pickT rfl rfl rfl) (zm rfl (zp (zp (zp ?_)))))
      refine zp (zp (zp (zp (zo (op_pickT rfl rfl rfl) (zn ?_)))))
      refine zt rfl rfl (zq ?_)
      refine Go1.cut [] trivial ?_
      intro σ _
      refine zr (za rfl (zn ?_))
      refine Go1.ret1 Try.func19 rfl ?_
      replace hB := (((hB.trans d7.fr).trans lm.fr).trans f0.fr).trans jP.fr
      exact ⟨false, rfl, hB.same, H⟩
     replace H := ifp rfl H
     refine zo (op_not rfl) (zo (op_pickF rfl rfl rfl) (zm rfl (zo (op_fieldAddr Try.underlying29 rfl ti26 rfl (by decide)) (zs (oblk (i := 4) 1 hO rfl rfl Try.underlying26 rfl rfl) (zo (op_fieldAddr Try.underlying29 rfl ti26 rfl (by decide)) ?_)))))
     refine zs (oblk (i := 4) 0 hO rfl rfl Try.underlying26 rfl rfl) ?_
     have Z3 := Z2.trans jP.ch
     replace ak := ak.ch Z3
     replace eH := eH.ch Z3
     refine GoR.call (op_call body34 rfl (walk_ref03_Same hO.lt ak eH H)) rfl rfl ?_
     rintro v33 w30 ⟨r29, rfl, U0, H⟩
     have vH := Stp.same hO U0
     replace hO := vH.own
     cases r29
     ·replace H := ifn Bool.false_ne_true H
      refine zo (op_not rfl) (zo (op_pickF rfl rfl rfl) (zm rfl (zp (zp (zp ?_)))))
      refine zp (zp (zp (zo (op_pickT rfl rfl rfl) (zm rfl (zp ?_)))))
      refine zp (zp (zp (zp (zp (zo (op_pickT rfl rfl rfl) ?_)))))
      refine zm rfl (zp (zp (zp (zp (zp ?_)))))
      refine zp (zp (zo (op_pickT rfl rfl rfl) (zn (zt rfl rfl (zq ?_)))))
      refine Go1.cut [] trivial ?_
      intro σ _
      refine zr (za rfl (zn ?_))
      refine Go1.ret1 Try.func19 rfl ?_
      replace hB := ((((hB.trans d7.fr).trans lm.fr).trans f0.fr).trans jP.fr).trans vH.fr
      exact ⟨false, rfl, hB.same, H⟩
     replace H := ifp rfl H
     refine zo (op_not rfl) (zo (op_pickF rfl rfl rfl) (zm rfl (zo (op_fieldAddr Try.underlying29 rfl ti26 rfl (by decide)) (zs (oblk (i := 5) 1 hO rfl rfl Try.underlying26 rfl rfl) (zo (op_fieldAddr Try.underlying29 rfl ti26 rfl (by decide)) ?_)))))
     refine zs (oblk (i := 5) 0 hO rfl rfl Try.underlying26 rfl rfl) ?_
     have Z4 := Z3.trans vH.ch
     replace aB := aB.ch Z4
     replace fW := fW.ch Z4
     refine GoR.call (op_call body34 rfl (walk_ref03_Same hO.lt aB fW H)) rfl rfl ?_
     rintro v39 w36 ⟨r35, rfl, U1, H⟩
     have mg := Stp.same hO U1
     replace hO := mg.own
     cases r35
     ·replace H := ifn Bool.false_ne_true H
      refine zo (op_not rfl) (zo (op_pickF rfl rfl rfl) (zm rfl (zp (zp (zp ?_)))))
      refine zp (zp (zp (zo (op_pickT rfl rfl rfl) (zm rfl (zp ?_)))))
      refine zp (zp (zp (zp (zp (zp ?_)))))
      refine zo (op_pickT rfl rfl rfl) (zn (zt rfl rfl (zq ?_)))
      refine Go1.cut [] trivial ?_
      intro σ _
      refine zr (za rfl (zn ?_))
      refine Go1.ret1 Try.func19 rfl ?_
      replace hB := (((((hB.trans d7.fr).trans lm.fr).trans f0.fr).trans jP.fr).trans vH.fr).trans mg.fr
      exact ⟨false, rfl, hB.same, H⟩
     replace H := ifp rfl H
     refine zo (op_not rfl) (zo (op_pickF rfl rfl rfl) (zm rfl (zo (op_fieldAddr Try.underlying29 rfl ti22 rfl (by decide)) (zs (oblk (i := 6) 1 hO rfl rfl Try.underlying22 rfl rfl) (zo (op_fieldAddr Try.underlying29 rfl ti22 rfl (by decide)) ?_)))))
     refine zs (oblk (i := 6) 0 hO rfl rfl Try.underlying22 rfl rfl) ?_
     have Z5 := Z4.trans mg.ch
     replace au := au.ch Z5
     replace fD := fD.ch Z5
     refine GoR.call (op_call body45 rfl (walk_ref03_SameRows hO.lt au fD H)) rfl rfl ?_
     rintro v45 w42 ⟨r41, rfl, U2, H⟩
     have vI := Stp.same hO U2
     replace hO := vI.own
     cases r41
     ·replace H := ifn Bool.false_ne_true H
      refine zo (op_not rfl) (zo (op_pickF rfl rfl rfl) (zm rfl (zp (zp (zp ?_)))))
      refine zp (zp (zp (zp (zo (op_pickT rfl rfl rfl) (zn ?_)))))
      refine zt rfl rfl (zq ?_)
      refine Go1.cut [] trivial ?_
      intro σ _
      refine zr (za rfl (zn ?_))
      refine Go1.ret1 Try.func19 rfl ?_
      replace hB := ((((((hB.trans d7.fr).trans lm.fr).trans f0.fr).trans jP.fr).trans vH.fr).trans mg.fr).trans vI.fr
      exact ⟨false, rfl, hB.same, H⟩
     replace H := ifp rfl H
     refine zo (op_not rfl) (zo (op_pickF rfl rfl rfl) (zm rfl (zo (op_fieldAddr Try.underlying29 rfl ti27 rfl (by decide)) (zs (oblk (i := 7) 1 hO rfl rfl Try.underlying27 rfl rfl) (zo (op_len Try.underlying27 rfl) ?_)))))
     replace ao := (ao.ch Z5).ch vI.ch
     replace H := H ao.bd
     refine zo (op_fieldAddr Try.underlying29 rfl ti27 rfl (by decide)) (zs (oblk (i := 7) 0 hO rfl rfl Try.underlying27 rfl rfl) (zo (op_len Try.underlying27 rfl) ?_))
     replace eB := (eB.ch Z5).ch vI.ch
     replace H := H eB.bd
     by_cases h47 : (a0.Rules.length : Int) = (a1.Rules.length : Int)
     ·replace H := ifp h47 H
      refine zo (fun w => opB (op_neq rfl rfl w) (ndT h47)) (zo (op_pickF rfl rfl rfl) (zn (zf rfl rfl (zk (zq ?_)))))
      refine zq (zr (zo (op_fieldAddr Try.underlying29 rfl ti27 rfl (by decide)) (zs (oblk (i := 7) 1 hO rfl rfl Try.underlying27 rfl rfl) (zo (op_len Try.underlying27 rfl) (zm rfl ?_)))))
      refine zn (zb ?_)
      replace au := au.ch vI.ch
      replace fD := fD.ch vI.ch
      have Z6 := mg.ch.trans vI.ch
      replace aB := aB.ch Z6
      replace fW := fW.ch Z6
      have Z7 := (vH.ch.trans mg.ch).trans vI.ch
      replace ak := ak.ch Z7
      replace eH := eH.ch Z7
      have Z8 := ((jP.ch.trans vH.ch).trans mg.ch).trans vI.ch
      replace ar := ar.ch Z8
      replace fC := fC.ch Z8
      have Z9 := (((f0.ch.trans jP.ch).trans vH.ch).trans mg.ch).trans vI.ch
      replace aa := aa.ch Z9
      replace fV := fV.ch Z9
      replace hB := ((((((hB.trans d7.fr).trans lm.fr).trans f0.fr).trans jP.fr).trans vH.fr).trans mg.fr).trans vI.fr
      refine Go1.loopW (S := Nat) (fun s σ w => agrees σ [(2, .pointer (some ⟨B2, 0, none⟩)), (3, .pointer (some ⟨B8, 0, none⟩)), (76, .int .i64 (a0.Rules.length : Int)), (77, .int .i64 (s : Int))] ∧ (fun Z0 => Owns w0.heap.size w Z0 A ∧ ISl (Rp.sl (Rp.int .i64)) (bl Z0 ++ A) w aH aI a0.Gens ∧ ISl (Rp.sl (Rp.int .i64)) (bl Z0 ++ A) w bX bY a0.Elems ∧ ISl (Rp.int .i64) (bl Z0 ++ A) w bx bz a0.Prefix ∧ ISl (Rp.int .i64) (bl Z0 ++ A) w cO cP a0.Last ∧ ISl (Rp.sl (Rp.int .i64)) (bl Z0 ++ A) w b5 b6 a0.Right ∧ ISl (rpRule) (bl Z0 ++ A) w b7 b8 a0.Rules ∧ ISl (Rp.sl (Rp.int .i64)) (bl Z0 ++ A) w gj gk a1.Gens ∧ ISl (Rp.sl (Rp.int .i64)) (bl Z0 ++ A) w fO fP a1.Elems ∧ ISl (Rp.int .i64) (bl Z0 ++ A) w fu fv a1.Prefix ∧ ISl (Rp.int .i64) (bl Z0 ++ A) w gl gm a1.Last ∧ ISl (Rp.sl (Rp.int .i64)) (bl Z0 ++ A) w fQ fR a1.Right ∧ ISl (rpRule) (bl Z0 ++ A) w fS fT a1.Rules ∧ Fr (bl []) w0 (bl Z0) w) [.blk B8 (.cells #[.int .i64 a1.Points, .bool a1.Monoid, .slice gj a1.Gens.length gk, .slice fO a1.Elems.length fP, .slice fu a1.Prefix.length fv, .slice gl a1.Last.length gm, .slice fQ a1.Right.length fR, .slice fS a1.Rules.length fT, .int .i64 a1.Done] 29 (0, 0)), .blk B2 (.cells #[.int .i64 a0.Points, .bool a0.Monoid, .slice aH a0.Gens.length aI, .slice bX a0.Elems.length bY, .slice bx a0.Prefix.length bz, .slice cO a0.Last.length cP, .slice b5 a0.Right.length b6, .slice b7 a0.Rules.length b8, .int .i64 a0.Done] 29 (0, 0))]) H ⟨⟨rfl, rfl, rfl, rfl, trivial⟩, hO, aa, ar, ak, aB, au, ao, fV, fC, eH, fW, fD, eB, hB⟩ ?_
      intro X1 k1_49
      intro H hX1 σ w48
      refine andE fun hag => andE fun hO => andE fun aa => andE fun ar => andE fun ak => andE fun aB => andE fun au => andE fun ao => andE fun fV => andE fun fC => andE fun eH => andE fun fW => andE fun fD => andE fun eB => fun hB => ?_
      refine Go1.keep [(2, .pointer (some ⟨B2, 0, none⟩)), (3, .pointer (some ⟨B8, 0, none⟩)), (76, .int .i64 (a0.Rules.length : Int)), (77, .int .i64 (k1_49 : Int))] hag ?_
      refine zq (zr ?_)
      by_cases h50 : (k1_49 : Int) < (a0.Rules.length : Int)
      ·replace H := ifp h50 H
       refine zo (fun w => opB (op_lss rfl rfl w) (decide_eq_true h50)) (zn (zq (zt rfl rfl (zk (zq ?_)))))
       refine zb (zq (zr (zm rfl (za rfl (zn ?_)))))
       refine zq ?_
       refine Go1.drawS 0 [(0, .pure), (1, .stable), (2, .pure), (3, .pure), (4, .stable), (5, .pure), (6, .stable), (7, .pure), (8, .pure), (9, .stable), (10, .pure)] mixed (by kernel_rfl) ?_
       intro w51 II
       have vJ := Stp.same hO II
       replace hO := vJ.own
       refine GoQ.pure rfl (op_fieldAddr Try.underlying29 rfl ti27 rfl (by decide)) rfl rfl ?_
       refine GoQ.stable rfl (oblk (i := 7) 1 hO rfl rfl Try.underlying27 rfl rfl) rfl rfl ?_
       refine GoQ.pure rfl (op_move rfl) rfl rfl ?_
       obtain ⟨h54, H⟩ := H
       obtain ⟨h55, H⟩ := H
       replace ao := ao.ch vJ.ch
       refine GoQ.pure rfl (op_index Try.underlying27 ti39 rfl rfl h54 h55 (ao.some_ h54 h55)) rfl rfl ?_
       have hok56 := ldFlatOk ao h54 h55
       refine GoQ.stable rfl (ldFlat ao h54 h55 Try.underlying39 rfl ti39 rfl) rfl rfl ?_
       refine GoQ.pure rfl (op_fieldAddr Try.underlying29 rfl ti27 rfl (by decide)) rfl rfl ?_
       refine GoQ.stable rfl (oblk (i := 7) 0 hO rfl rfl Try.underlying27 rfl rfl) rfl rfl ?_
       refine GoQ.pure rfl (op_move rfl) rfl rfl ?_
       obtain ⟨h57, H⟩ := H
       obtain ⟨h58, H⟩ := H
       replace eB := eB.ch vJ.ch
       refine GoQ.pure rfl (op_index Try.underlying27 ti39 rfl rfl h57 h58 (eB.some_ h57 h58)) rfl rfl ?_
       have hok59 := ldFlatOk eB h57 h58
       refine GoQ.stable rfl (ldFlat eB h57 h58 Try.underlying39 rfl ti39 rfl) rfl rfl ?_
       by_cases h60 : (((ix a0.Rules (k1_49 : Int)).Left) = ((ix a1.Rules (k1_49 : Int)).Left) ∧ ((ix a0.Rules (k1_49 : Int)).Right) = ((ix a1.Rules (k1_49 : Int)).Right))
       ·replace H := ifp h60 H
        refine GoQ.pure rfl (fun w => opB (op_neqSS Try.underlying39 eqh39 eqg39 (by decide) (by decide) rfl rfl Try.underlying9 Try.underlying9 rfl rfl w) (ndT h60)) rfl rfl ?_
        refine GoQ.nil ?_
        refine zf rfl rfl (zk ?_)
        refine Go1.inBlock ?_
        refine zr (zo (op_add rfl rfl (wrap_i64 (natbd h50 ao.bd))) (zm rfl (zn ?_)))
        replace aa := aa.ch vJ.ch
        replace ar := ar.ch vJ.ch
        replace ak := ak.ch vJ.ch
        replace aB := aB.ch vJ.ch
        replace au := au.ch vJ.ch
        replace fV := fV.ch vJ.ch
        replace fC := fC.ch vJ.ch
        replace eH := eH.ch vJ.ch
        replace fW := fW.ch vJ.ch
        replace fD := fD.ch vJ.ch
        replace hB := hB.trans vJ.fr
        exact hX1 _ H _ _ ⟨⟨rfl, rfl, rfl, rfl, trivial⟩, hO, aa, ar, ak, aB, au, ao, fV, fC, eH, fW, fD, eB, hB⟩
       replace H := ifn h60 H
       refine GoQ.pure rfl (fun w => opB (op_neqSS Try.underlying39 eqh39 eqg39 (by decide) (by decide) rfl rfl Try.underlying9 Try.underlying9 rfl rfl w) (ndF h60)) rfl rfl ?_
       refine GoQ.nil ?_
       refine zt rfl rfl (zq (zr (za rfl (zn ?_))))
       refine Go1.ret1 Try.func19 rfl ?_
       replace hB := hB.trans vJ.fr
       exact ⟨false, rfl, hB.same, H⟩
      replace H := ifn h50 H
      refine zo (fun w => opB (op_lss rfl rfl w) (decide_eq_false h50)) (zn (zq (zf rfl rfl ?_)))
      refine Go1.exit rfl ?_
      refine zq (zr (za rfl (zn ?_)))
      refine Go1.ret1 Try.func19 rfl ?_
      exact ⟨true, rfl, hB.same, H⟩
     replace H := ifn h47 H
     refine zo (fun w => opB (op_neq rfl rfl w) (ndF h47)) (zo (op_pickF rfl rfl rfl) (zn (zt rfl rfl (zq ?_))))
     refine Go1.cut [] trivial ?_
     intro σ _
     refine zr (za rfl (zn ?_))
     refine Go1.ret1 Try.func19 rfl ?_
     replace hB := ((((((hB.trans d7.fr).trans lm.fr).trans f0.fr).trans jP.fr).trans vH.fr).trans mg.fr).trans vI.fr
     exact ⟨false, rfl, hB.same, H⟩
    replace H := ifn h16 H
    refine zo (fun w => opB (op_neq rfl rfl w) (ndF h16)) (zo (op_pickF rfl rfl rfl) (zm rfl (zp (zp (zp ?_)))))
    refine zp (zp (zp (zo (op_pickT rfl rfl rfl) (zm rfl (zp ?_)))))
    refine zp (zp (zp (zp (zp (zo (op_pickT rfl rfl rfl) ?_)))))
    refine zm rfl (zp (zp (zp (zp (zp ?_)))))
    refine zp (zo (op_pickT rfl rfl rfl) (zm rfl (zp (zp (zp ?_)))))
    refine zp (zp (zp (zo (op_pickT rfl rfl rfl) (zm rfl (zp ?_)))))
    refine zp (zp (zp (zp (zp (zo (op_pickT rfl rfl rfl) ?_)))))
    refine zm rfl (zp (zp (zp (zp (zp ?_)))))
    refine zp (zp (zo (op_pickT rfl rfl rfl) (zn (zt rfl rfl (zq ?_)))))
    refine Go1.cut [] trivial ?_
    intro σ _
    refine zr (za rfl (zn ?_))
    refine Go1.ret1 Try.func19 rfl ?_
    replace hB := (hB.trans d7.fr).trans lm.fr
    exact ⟨false, rfl, hB.same, H⟩
   replace H := ifn h15 H
   refine zg (opB ((oblk (i := 1) 0 hO rfl rfl Try.underlying4 rfl rfl) _ (Same.refl _)) (Bool.eq_false_iff.2 h15)) (zo (op_neqB Try.underlying4 rfl rfl) (zo (op_pickF rfl rfl rfl) (zm rfl (zp (zp ?_)))))
   refine zp (zp (zp (zo (op_pickT rfl rfl rfl) (zm rfl (zp ?_)))))
   refine zp (zp (zp (zp (zp (zo (op_pickT rfl rfl rfl) ?_)))))
   refine zm rfl (zp (zp (zp (zp (zp ?_)))))
   refine zp (zo (op_pickT rfl rfl rfl) (zm rfl (zp (zp (zp ?_)))))
   refine zp (zp (zp (zo (op_pickT rfl rfl rfl) (zm rfl (zp ?_)))))
   refine zp (zp (zp (zp (zp (zo (op_pickT rfl rfl rfl) ?_)))))
   refine zm rfl (zp (zp (zp (zp (zp ?_)))))
   refine zp (zo (op_pickT rfl rfl rfl) (zm rfl (zp (zp (zp ?_)))))
   refine zp (zp (zp (zp (zo (op_pickT rfl rfl rfl) (zn ?_)))))
   refine zt rfl rfl (zq ?_)
   refine Go1.cut [] trivial ?_
   intro σ _
   refine zr (za rfl (zn ?_))
   refine Go1.ret1 Try.func19 rfl ?_
   replace hB := (hB.trans d7.fr).trans lm.fr
   exact ⟨false, rfl, hB.same, H⟩
  replace H := ifn h14 H
  refine zg (opB ((oblk (i := 1) 1 hO rfl rfl Try.underlying4 rfl rfl) _ (Same.refl _)) (Bool.eq_false_iff.2 h14)) (zo (op_fieldAddr Try.underlying29 rfl ti4 rfl (by decide)) ?_)
  by_cases h61 : a1.Monoid = true
  ·replace H := ifp h61 H
   refine zg (opB ((oblk (i := 1) 0 hO rfl rfl Try.underlying4 rfl rfl) _ (Same.refl _)) (h61)) (zo (op_neqB Try.underlying4 rfl rfl) (zo (op_pickF rfl rfl rfl) (zm rfl (zp (zp ?_)))))
   refine zp (zp (zp (zo (op_pickT rfl rfl rfl) (zm rfl (zp ?_)))))
   refine zp (zp (zp (zp (zp (zo (op_pickT rfl rfl rfl) ?_)))))
   refine zm rfl (zp (zp (zp (zp (zp ?_)))))
   refine zp (zo (op_pickT rfl rfl rfl) (zm rfl (zp (zp (zp ?_)))))
   refine zp (zp (zp (zo (op_pickT rfl rfl rfl) (zm rfl (zp ?_)))))
   refine zp (zp (zp (zp (zp (zo (op_pickT rfl rfl rfl) ?_)))))
   refine zm rfl (zp (zp (zp (zp (zp ?_)))))
   refine zp (zo (op_pickT rfl rfl rfl) (zm rfl (zp (zp (zp ?_)))))
   refine zp (zp (zp (zp (zo (op_pickT rfl rfl rfl) (zn ?_)))))
   refine zt rfl rfl (zq ?_)
   refine Go1.cut [] trivial ?_
   intro σ _
   refine zr (za rfl (zn ?_))
   refine Go1.ret1 Try.func19 rfl ?_
   replace hB := (hB.trans d7.fr).trans lm.fr
   exact ⟨false, rfl, hB.same, H⟩
  replace H := ifn h61 H
  refine zg (opB ((oblk (i := 1) 0 hO rfl rfl Try.underlying4 rfl rfl) _ (Same.refl _)) (Bool.eq_false_iff.2 h61)) (zo (op_neqB Try.underlying4 rfl rfl) (zo (op_pickF rfl rfl rfl) (zm rfl (zo (op_fieldAddr Try.underlying29 rfl ti3 rfl (by decide)) (zs (oblk (i := 8) 1 hO rfl rfl Try.underlying3 rfl rfl) ?_)))))
  refine zo (op_fieldAddr Try.underlying29 rfl ti3 rfl (by decide)) (zs (oblk (i := 8) 0 hO rfl rfl Try.underlying3 rfl rfl) ?_)
  by_cases h62 : a0.Done = a1.Done
  ·replace H := ifp h62 H
   refine zo (fun w => opB (op_neq rfl rfl w) (ndT h62)) (zo (op_pickF rfl rfl rfl) (zm rfl (zo (op_fieldAddr Try.underlying29 rfl ti22 rfl (by decide)) (zs (oblk (i := 2) 1 hO rfl rfl Try.underlying22 rfl rfl) (zo (op_fieldAddr Try.underlying29 rfl ti22 rfl (by decide)) ?_)))))
   refine zs (oblk (i := 2) 0 hO rfl rfl Try.underlying22 rfl rfl) ?_
   have Z10 := ((Ch.start A w0).trans d7.ch).trans lm.ch
   replace aa := aa.ch Z10
   replace fV := fV.ch Z10
   refine GoR.call (op_call body45 rfl (walk_ref03_SameRows hO.lt aa fV H)) rfl rfl ?_
   rintro v67 w64 ⟨r63, rfl, U3, H⟩
   have mf := Stp.same hO U3
   replace hO := mf.own
   cases r63
   ·replace H := ifn Bool.false_ne_true H
    refine zo (op_not rfl) (zo (op_pickF rfl rfl rfl) (zm rfl (zp (zp (zp ?_)))))
    refine zp (zp (zp (zo (op_pickT rfl rfl rfl) (zm rfl (zp ?_)))))
    refine zp (zp (zp (zp (zp (zo (op_pickT rfl rfl rfl) ?_)))))
    refine zm rfl (zp (zp (zp (zp (zp ?_)))))
    refine zp (zo (op_pickT rfl rfl rfl) (zm rfl (zp (zp (zp ?_)))))
    refine zp (zp (zp (zo (op_pickT rfl rfl rfl) (zm rfl (zp ?_)))))
    refine zp (zp (zp (zp (zp (zp ?_)))))
    refine zo (op_pickT rfl rfl rfl) (zn (zt rfl rfl (zq ?_)))
    refine Go1.cut [] trivial ?_
    intro σ _
    refine zr (za rfl (zn ?_))
    refine Go1.ret1 Try.func19 rfl ?_
    replace hB := ((hB.trans d7.fr).trans lm.fr).trans mf.fr
    exact ⟨false, rfl, hB.same, H⟩
   replace H := ifp rfl H
   refine zo (op_not rfl) (zo (op_pickF rfl rfl rfl) (zm rfl (zo (op_fieldAddr Try.underlying29 rfl ti22 rfl (by decide)) (zs (oblk (i := 3) 1 hO rfl rfl Try.underlying22 rfl rfl) (zo (op_fieldAddr Try.underlying29 rfl ti22 rfl (by decide)) ?_)))))
   refine zs (oblk (i := 3) 0 hO rfl rfl Try.underlying22 rfl rfl) ?_
   have Z11 := Z10.trans mf.ch
   replace ar := ar.ch Z11
   replace fC := fC.ch Z11
   refine GoR.call (op_call body45 rfl (walk_ref03_SameRows hO.lt ar fC H)) rfl rfl ?_
   rintro v73 w70 ⟨r69, rfl, U4, H⟩
   have i5 := Stp.same hO U4
   replace hO := i5.own
   cases r69
   ·replace H := ifn Bool.false_ne_true H
    refine zo (op_not rfl) (zo (op_pickF rfl rfl rfl) (zm rfl (zp (zp (zp ?_)))))
    refine zp (zp (zp (zo (op_pickT rfl rfl rfl) (zm rfl (zp ?_)))))
    refine zp (zp (zp (zp (zp (zo (op_pickT rfl rfl rfl) ?_)))))
    refine zm rfl (zp (zp (zp (zp (zp ?_)))))
    refine zp (zo (op_pickT rfl rfl rfl) (zm rfl (zp (zp (zp ?_)))))
    refine zp (zp (zp (zp (zo (op_pickT rfl rfl rfl) (zn ?_)))))
    refine zt rfl rfl (zq ?_)
    refine Go1.cut [] trivial ?_
    intro σ _
    refine zr (za rfl (zn ?_))
    refine Go1.ret1 Try.func19 rfl ?_
    replace hB := (((hB.trans d7.fr).trans lm.fr).trans mf.fr).trans i5.fr
    exact ⟨false, rfl, hB.same, H⟩
   replace H := ifp rfl H
   refine zo (op_not rfl) (zo (op_pickF rfl rfl rfl) (zm rfl (zo (op_fieldAddr Try.underlying29 rfl ti26 rfl (by decide)) (zs (oblk (i := 4) 1 hO rfl rfl Try.underlying26 rfl rfl) (zo (op_fieldAddr Try.underlying29 rfl ti26 rfl (by decide)) ?_)))))
   refine zs (oblk (i := 4) 0 hO rfl rfl Try.underlying26 rfl rfl) ?_
   have Z12 := Z11.trans i5.ch
   replace ak := ak.ch Z12
   replace eH := eH.ch Z12
   refine GoR.call (op_call body34 rfl (walk_ref03_Same hO.lt ak eH H)) rfl rfl ?_
   rintro v79 w76 ⟨r75, rfl, H2, H⟩
   have k8 := Stp.same hO H2
   replace hO := k8.own
   cases r75
   ·replace H := ifn Bool.false_ne_true H
    refine zo (op_not rfl) (zo (op_pickF rfl rfl rfl) (zm rfl (zp (zp (zp ?_)))))
    refine zp (zp (zp (zo (op_pickT rfl rfl rfl) (zm rfl (zp ?_)))))
    refine zp (zp (zp (zp (zp (zo (op_pickT rfl rfl rfl) ?_)))))
    refine zm rfl (zp (zp (zp (zp (zp ?_)))))
    refine zp (zp (zo (op_pickT rfl rfl rfl) (zn (zt rfl rfl (zq ?_)))))
    refine Go1.cut [] trivial ?_
    intro σ _
    refine zr (za rfl (zn ?_))
    refine Go1.ret1 Try.func19 rfl ?_
    replace hB := ((((hB.trans d7.fr).trans lm.fr).trans mf.fr).trans i5.fr).trans k8.fr
    exact ⟨false, rfl, hB.same, H⟩
   replace H := ifp rfl H
   refine zo (op_not rfl) (zo (op_pickF rfl rfl rfl) (zm rfl (zo (op_fieldAddr Try.underlying29 rfl ti26 rfl (by decide)) (zs (oblk (i := 5) 1 hO rfl rfl Try.underlying26 rfl rfl) (zo (op_fieldAddr Try.underlying29 rfl ti26 rfl (by decide)) ?_)))))
   refine zs (oblk (i := 5) 0 hO rfl rfl Try.underlying26 rfl rfl) ?_
   have Z13 := Z12.trans k8.ch
   replace aB := aB.ch Z13
   replace fW := fW.ch Z13
   refine GoR.call (op_call body34 rfl (walk_ref03_Same hO.lt aB fW H)) rfl rfl ?_
   rintro v85 w82 ⟨r81, rfl, U5, H⟩
   have ii := Stp.same hO U5
   replace hO := ii.own
   cases r81
   ·replace H := ifn Bool.false_ne_true H
    refine zo (op_not rfl) (zo (op_pickF rfl rfl rfl) (zm rfl (zp (zp (zp ?_)))))
    refine zp (zp (zp (zo (op_pickT rfl rfl rfl) (zm rfl (zp ?_)))))
    refine zp (zp (zp (zp (zp (zp ?_)))))
    refine zo (op_pickT rfl rfl rfl) (zn (zt rfl rfl (zq ?_)))
    refine Go1.cut [] trivial ?_
    intro σ _
    refine zr (za rfl (zn ?_))
    refine Go1.ret1 Try.func19 rfl ?_
    replace hB := (((((hB.trans d7.fr).trans lm.fr).trans mf.fr).trans i5.fr).trans k8.fr).trans ii.fr
    exact ⟨false, rfl, hB.same, H⟩
   replace H := ifp rfl H
   refine zo (op_not rfl) (zo (op_pickF rfl rfl rfl) (zm rfl (zo (op_fieldAddr Try.underlying29 rfl ti22 rfl (by decide)) (zs (oblk (i := 6) 1 hO rfl rfl Try.underlying22 rfl rfl) (zo (op_fieldAddr Try.underlying29 rfl ti22 rfl (by decide)) ?_)))))
   refine zs (oblk (i := 6) 0 hO rfl rfl Try.underlying22 rfl rfl) ?_
   have Z14 := Z13.trans ii.ch
   replace au := au.ch Z14
   replace fD := fD.ch Z14
   refine GoR.call (op_call body45 rfl (walk_ref03_SameRows hO.lt au fD H)) rfl rfl ?_
   rintro v91 w88 ⟨r87, rfl, U6, H⟩
   have qw := Stp.same hO U6
   replace hO := qw.own
   cases r87
   ·replace H := ifn Bool.false_ne_true H
    refine zo (op_not rfl) (zo (op_pickF rfl rfl rfl) (zm rfl (zp (zp (zp ?_)))))
    refine zp (zp (zp (zp (zo (op_pickT rfl rfl rfl) (zn ?_)))))
    refine zt rfl rfl (zq ?_)
    refine Go1.cut [] trivial ?_
    intro σ _
    refine zr (za rfl (zn ?_))
    refine Go1.ret1 Try.func19 rfl ?_
    replace hB := ((((((hB.trans d7.fr).trans lm.fr).trans mf.fr).trans i5.fr).trans k8.fr).trans ii.fr).trans qw.fr
    exact ⟨false, rfl, hB.same, H⟩
   replace H := ifp rfl H
   refine zo (op_not rfl) (zo (op_pickF rfl rfl rfl) (zm rfl (zo (op_fieldAddr Try.underlying29 rfl ti27 rfl (by decide)) (zs (oblk (i := 7) 1 hO rfl rfl Try.underlying27 rfl rfl) (zo (op_len Try.underlying27 rfl) ?_)))))
   replace ao := (ao.ch Z14).ch qw.ch
   replace H := H ao.bd
   refine zo (op_fieldAddr Try.underlying29 rfl ti27 rfl (by decide)) (zs (oblk (i := 7) 0 hO rfl rfl Try.underlying27 rfl rfl) (zo (op_len Try.underlying27 rfl) ?_))
   replace eB := (eB.ch Z14).ch qw.ch
   replace H := H eB.bd
   by_cases h93 : (a0.Rules.length : Int) = (a1.Rules.length : Int)
   ·replace H := ifp h93 H
    refine zo (fun w => opB (op_neq rfl rfl w) (ndT h93)) (zo (op_pickF rfl rfl rfl) (zn (zf rfl rfl (zk (zq ?_)))))
    refine zq (zr (zo (op_fieldAddr Try.underlying29 rfl ti27 rfl (by decide)) (zs (oblk (i := 7) 1 hO rfl rfl Try.underlying27 rfl rfl) (zo (op_len Try.underlying27 rfl) (zm rfl ?_)))))
    refine zn (zb ?_)
    replace au := au.ch qw.ch
    replace fD := fD.ch qw.ch
    have Z15 := ii.ch.trans qw.ch
    replace aB := aB.ch Z15
    replace fW := fW.ch Z15
    have Z16 := (k8.ch.trans ii.ch).trans qw.ch
    replace ak := ak.ch Z16
    replace eH := eH.ch Z16
    have Z17 := ((i5.ch.trans k8.ch).trans ii.ch).trans qw.ch
    replace ar := ar.ch Z17
    replace fC := fC.ch Z17
    have Z18 := (((mf.ch.trans i5.ch).trans k8.ch).trans ii.ch).trans qw.ch
    replace aa := aa.ch Z18
    replace fV := fV.ch Z18
    replace hB := ((((((hB.trans d7.fr).trans lm.fr).trans mf.fr).trans i5.fr).trans k8.fr).trans ii.fr).trans qw.fr
    refine Go1.loopW (S := Nat) (fun s σ w => agrees σ [(2, .pointer (some ⟨B2, 0, none⟩)), (3, .pointer (some ⟨B8, 0, none⟩)), (76, .int .i64 (a0.Rules.length : Int)), (77, .int .i64 (s : Int))] ∧ (fun Z0 => Owns w0.heap.size w Z0 A ∧ ISl (Rp.sl (Rp.int .i64)) (bl Z0 ++ A) w aH aI a0.Gens ∧ ISl (Rp.sl (Rp.int .i64)) (bl Z0 ++ A) w bX bY a0.Elems ∧ ISl (Rp.int .i64) (bl Z0 ++ A) w bx bz a0.Prefix ∧ ISl (Rp.int .i64) (bl Z0 ++ A) w cO cP a0.Last ∧ ISl (Rp.sl (Rp.int .i64)) (bl Z0 ++ A) w b5 b6 a0.Right ∧ ISl (rpRule) (bl Z0 ++ A) w b7 b8 a0.Rules ∧ ISl (Rp.sl (Rp.int .i64)) (bl Z0 ++ A) w gj gk a1.Gens ∧ ISl (Rp.sl (Rp.int .i64)) (bl Z0 ++ A) w fO fP a1.Elems ∧ ISl (Rp.int .i64) (bl Z0 ++ A) w fu fv a1.Prefix ∧ ISl (Rp.int .i64) (bl Z0 ++ A) w gl gm a1.Last ∧ ISl (Rp.sl (Rp.int .i64)) (bl Z0 ++ A) w fQ fR a1.Right ∧ ISl (rpRule) (bl Z0 ++ A) w fS fT a1.Rules ∧ Fr (bl []) w0 (bl Z0) w) [.blk B8 (.cells #[.int .i64 a1.Points, .bool a1.Monoid, .slice gj a1.Gens.length gk, .slice fO a1.Elems.length fP, .slice fu a1.Prefix.length fv, .slice gl a1.Last.length gm, .slice fQ a1.Right.length fR, .slice fS a1.Rules.length fT, .int .i64 a1.Done] 29 (0, 0)), .blk B2 (.cells #[.int .i64 a0.Points, .bool a0.Monoid, .slice aH a0.Gens.length aI, .slice bX a0.Elems.length bY, .slice bx a0.Prefix.length bz, .slice cO a0.Last.length cP, .slice b5 a0.Right.length b6, .slice b7 a0.Rules.length b8, .int .i64 a0.Done] 29 (0, 0))]) H ⟨⟨rfl, rfl, rfl, rfl, trivial⟩, hO, aa, ar, ak, aB, au, ao, fV, fC, eH, fW, fD, eB, hB⟩ ?_
    intro X2 k2_95
    intro H hX2 σ w94
    refine andE fun hag => andE fun hO => andE fun aa => andE fun ar => andE fun ak => andE fun aB => andE fun au => andE fun ao => andE fun fV => andE fun fC => andE fun eH => andE fun fW => andE fun fD => andE fun eB => fun hB => ?_
    refine Go1.keep [(2, .pointer (some ⟨B2, 0, none⟩)), (3, .pointer (some ⟨B8, 0, none⟩)), (76, .int .i64 (a0.Rules.length : Int)), (77, .int .i64 (k2_95 : Int))] hag ?_
    refine zq (zr ?_)
    by_cases h96 : (k2_95 : Int) < (a0.Rules.length : Int)
    ·replace H := ifp h96 H
     refine zo (fun w => opB (op_lss rfl rfl w) (decide_eq_true h96)) (zn (zq (zt rfl rfl (zk (zq ?_)))))
     refine zb (zq (zr (zm rfl (za rfl (zn ?_)))))
     refine zq ?_
     refine Go1.drawS 0 [(0, .pure), (1, .stable), (2, .pure), (3, .pure), (4, .stable), (5, .pure), (6, .stable), (7, .pure), (8, .pure), (9, .stable), (10, .pure)] mixed (by kernel_rfl) ?_
     intro w97 I3
     have iL := Stp.same hO I3
     replace hO := iL.own
     refine GoQ.pure rfl (op_fieldAddr Try.underlying29 rfl ti27 rfl (by decide)) rfl rfl ?_
     refine GoQ.stable rfl (oblk (i := 7) 1 hO rfl rfl Try.underlying27 rfl rfl) rfl rfl ?_
     refine GoQ.pure rfl (op_move rfl) rfl rfl ?_
     obtain ⟨xL, H⟩ := H
     obtain ⟨tW, H⟩ := H
     replace ao := ao.ch iL.ch
     refine GoQ.pure rfl (op_index Try.underlying27 ti39 rfl rfl xL tW (ao.some_ xL tW)) rfl rfl ?_
     have hok102 := ldFlatOk ao xL tW
     refine GoQ.stable rfl (ldFlat ao xL tW Try.underlying39 rfl ti39 rfl) rfl rfl ?_
     refine GoQ.pure rfl (op_fieldAddr Try.underlying29 rfl ti27 rfl (by decide)) rfl rfl ?_
     refine GoQ.stable rfl (oblk (i := 7) 0 hO rfl rfl Try.underlying27 rfl rfl) rfl rfl ?_
     refine GoQ.pure rfl (op_move rfl) rfl rfl ?_
     obtain ⟨CR, H⟩ := H
     obtain ⟨BC, H⟩ := H
     replace eB := eB.ch iL.ch
     refine GoQ.pure rfl (op_index Try.underlying27 ti39 rfl rfl CR BC (eB.some_ CR BC)) rfl rfl ?_
     have hok105 := ldFlatOk eB CR BC
     refine GoQ.stable rfl (ldFlat eB CR BC Try.underlying39 rfl ti39 rfl) rfl rfl ?_
     by_cases vd : (((ix a0.Rules (k2_95 : Int)).Left) = ((ix a1.Rules (k2_95 : Int)).Left) ∧ ((ix a0.Rules (k2_95 : Int)).Right) = ((ix a1.Rules (k2_95 : Int)).Right))
     ·replace H := ifp vd H
      refine GoQ.pure rfl (fun w => opB (op_neqSS Try.underlying39 eqh39 eqg39 (by decide) (by decide) rfl rfl Try.underlying9 Try.underlying9 rfl rfl w) (ndT vd)) rfl rfl ?_
      refine GoQ.nil ?_
      refine zf rfl rfl (zk ?_)
      refine Go1.inBlock ?_
      refine zr (zo (op_add rfl rfl (wrap_i64 (natbd h96 ao.bd))) (zm rfl (zn ?_)))
      replace aa := aa.ch iL.ch
      replace ar := ar.ch iL.ch
      replace ak := ak.ch iL.ch
      replace aB := aB.ch iL.ch
      replace au := au.ch iL.ch
      replace fV := fV.ch iL.ch
      replace fC := fC.ch iL.ch
      replace eH := eH.ch iL.ch
      replace fW := fW.ch iL.ch
      replace fD := fD.ch iL.ch
      replace hB := hB.trans iL.fr
      exact hX2 _ H _ _ ⟨⟨rfl, rfl, rfl, rfl, trivial⟩, hO, aa, ar, ak, aB, au, ao, fV, fC, eH, fW, fD, eB, hB⟩
     replace H := ifn vd H
     refine GoQ.pure rfl (fun w => opB (op_neqSS Try.underlying39 eqh39 eqg39 (by decide) (by decide) rfl rfl Try.underlying9 Try.underlying9 rfl rfl w) (ndF vd)) rfl rfl ?_
     refine GoQ.nil ?_
     refine zt rfl rfl (zq (zr (za rfl (zn ?_))))
     refine Go1.ret1 Try.func19 rfl ?_
     replace hB := hB.trans iL.fr
     exact ⟨false, rfl, hB.same, H⟩
    replace H := ifn h96 H
    refine zo (fun w => opB (op_lss rfl rfl w) (decide_eq_false h96)) (zn (zq (zf rfl rfl ?_)))
    refine Go1.exit rfl ?_
    refine zq (zr (za rfl (zn ?_)))
    refine Go1.ret1 Try.func19 rfl ?_
    exact ⟨true, rfl, hB.same, H⟩
   replace H := ifn h93 H
   refine zo (fun w => opB (op_neq rfl rfl w) (ndF h93)) (zo (op_pickF rfl rfl rfl) (zn (zt rfl rfl (zq ?_))))
   refine Go1.cut [] trivial ?_
   intro σ _
   refine zr (za rfl (zn ?_))
   refine Go1.ret1 Try.func19 rfl ?_
   replace hB := ((((((hB.trans d7.fr).trans lm.fr).trans mf.fr).trans i5.fr).trans k8.fr).trans ii.fr).trans qw.fr
   exact ⟨false, rfl, hB.same, H⟩
  replace H := ifn h62 H
  refine zo (fun w => opB (op_neq rfl rfl w) (ndF h62)) (zo (op_pickF rfl rfl rfl) (zm rfl (zp (zp (zp ?_)))))
  refine zp (zp (zp (zo (op_pickT rfl rfl rfl) (zm rfl (zp ?_)))))
  refine zp (zp (zp (zp (zp (zo (op_pickT rfl rfl rfl) ?_)))))
  refine zm rfl (zp (zp (zp (zp (zp ?_)))))
  refine zp (zo (op_pickT rfl rfl rfl) (zm rfl (zp (zp (zp ?_)))))
  refine zp (zp (zp (zo (op_pickT rfl rfl rfl) (zm rfl (zp ?_)))))
  refine zp (zp (zp (zp (zp (zo (op_pickT rfl rfl rfl) ?_)))))
  refine zm rfl (zp (zp (zp (zp (zp ?_)))))
  refine zp (zp (zo (op_pickT rfl rfl rfl) (zn (zt rfl rfl (zq ?_)))))
  refine Go1.cut [] trivial ?_
  intro σ _
  refine zr (za rfl (zn ?_))
  refine Go1.ret1 Try.func19 rfl ?_
  replace hB := (hB.trans d7.fr).trans lm.fr
  exact ⟨false, rfl, hB.same, H⟩
 replace H := ifn h13 H
 refine zo (fun w => opB (op_neq rfl rfl w) (ndF h13)) (zm rfl (zp (zp (zp (zp ?_)))))
 refine zp (zo (op_pickT rfl rfl rfl) (zm rfl (zp (zp (zp ?_)))))
 refine zp (zp (zo (op_pickT rfl rfl rfl) (zm rfl (zp (zp ?_)))))
 refine zp (zp (zp (zp (zo (op_pickT rfl rfl rfl) (zm rfl ?_)))))
 refine zp (zp (zp (zp (zp (zp ?_)))))
 refine zo (op_pickT rfl rfl rfl) (zm rfl (zp (zp (zp (zp ?_)))))
 refine zp (zp (zo (op_pickT rfl rfl rfl) (zm rfl (zp (zp ?_)))))
 refine zp (zp (zp (zp (zo (op_pickT rfl rfl rfl) (zm rfl ?_)))))
 refine zp (zp (zp (zp (zp (zp ?_)))))
 refine zo (op_pickT rfl rfl rfl) (zm rfl (zp (zp (zp (zp ?_)))))
 refine zp (zp (zp (zo (op_pickT rfl rfl rfl) (zn (zt rfl rfl ?_)))))
 refine zq ?_
 refine Go1.cut [] trivial ?_
 intro σ _
 refine zr (za rfl (zn ?_))
 refine Go1.ret1 Try.func19 rfl ?_
 replace hB := (hB.trans d7.fr).trans lm.fr
 exact ⟨false, rfl, hB.same, H⟩
end Sg
