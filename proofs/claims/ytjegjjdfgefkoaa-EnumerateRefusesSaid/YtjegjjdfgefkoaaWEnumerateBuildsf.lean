/- The walks: each call keeps to its plain transformer. Printed by walkgen.py. -/
import Derived.Test.YtjegjjdfgefkoaaTi
import Derived.Test.YtjegjjdfgefkoaaWEnumerateBuildsc
import Derived.Test.YtjegjjdfgefkoaaWEnumerateBuildse
import Derived.Test.YtjegjjdfgefkoaaAl
namespace Sg
open Go Go.RowKit Go.Proofs
set_option linter.unusedVariables false
set_option linter.unusedSimpArgs false
set_option maxRecDepth 100000
set_option maxHeartbeats 4000000
theorem body19 : Body Try.prog 19 := ⟨Try.f19, Try.func19, rfl, by kernel_rfl⟩
theorem walk_ref12_Same {A : List Nat} {w0 : World} {aS : Option Addr} {aT : Nat} {bY : Option Addr} {b5 : Nat} {bI : Option Addr} {bK : Nat} {co : Option Addr} {cp : Nat} {b6 : Option Addr} {b7 : Nat} {b8 : Option Addr} {b9 : Nat} {e8 : Option Addr} {e9 : Nat} {eH : Option Addr} {eI : Nat} {d6 : Option Addr} {d7 : Nat} {fd : Option Addr} {fe : Nat} {eK : Option Addr} {eM : Nat} {eN : Option Addr} {eO : Nat} {a0 : Enum} {a1 : Enum} (hA : ∀ b ∈ A, b < w0.heap.size) (aa : ISl (Rp.sl (Rp.int .i64)) A w0 aS aT a0.Gens) (ad : ISl (Rp.sl (Rp.int .i64)) A w0 bY b5 a0.Elems) (ab : ISl (Rp.int .i64) A w0 bI bK a0.Prefix) (af : ISl (Rp.int .i64) A w0 co cp a0.Last) (ae : ISl (Rp.sl (Rp.int .i64)) A w0 b6 b7 a0.Right) (ac : ISl (rpRule) A w0 b8 b9 a0.Rules) (eP : ISl (Rp.sl (Rp.int .i64)) A w0 e8 e9 a1.Gens) (en : ISl (Rp.sl (Rp.int .i64)) A w0 eH eI a1.Elems) (dJ : ISl (Rp.int .i64) A w0 d6 d7 a1.Prefix) (eQ : ISl (Rp.int .i64) A w0 fd fe a1.Last) (eo : ISl (Rp.sl (Rp.int .i64)) A w0 eK eM a1.Right) (dF : ISl (rpRule) A w0 eN eO a1.Rules) {K : Bool → Prop} (H : ref12_Same a0 a1 K) :
    CallsV Try.prog 19 #[.agg #[.int .i64 a0.Points, .bool a0.Monoid, .slice aS a0.Gens.length aT, .slice bY a0.Elems.length b5, .slice bI a0.Prefix.length bK, .slice co a0.Last.length cp, .slice b6 a0.Right.length b7, .slice b8 a0.Rules.length b9, .int .i64 a0.Done], .agg #[.int .i64 a1.Points, .bool a1.Monoid, .slice e8 a1.Gens.length e9, .slice eH a1.Elems.length eI, .slice d6 a1.Prefix.length d7, .slice fd a1.Last.length fe, .slice eK a1.Right.length eM, .slice eN a1.Rules.length eO, .int .i64 a1.Done]] w0 (fun v w' => ∃ (r0 : Bool), v = .bool r0 ∧ Same w0 w' ∧ K r0) := by
 refine CallsV.of (l := [.agg #[.int .i64 a0.Points, .bool a0.Monoid, .slice aS a0.Gens.length aT, .slice bY a0.Elems.length b5, .slice bI a0.Prefix.length bK, .slice co a0.Last.length cp, .slice b6 a0.Right.length b7, .slice b8 a0.Rules.length b9, .int .i64 a0.Done], .agg #[.int .i64 a1.Points, .bool a1.Monoid, .slice e8 a1.Gens.length e9, .slice eH a1.Elems.length eI, .slice d6 a1.Prefix.length d7, .slice fd a1.Last.length fe, .slice eK a1.Right.length eM, .slice eN a1.Rules.length eO, .int .i64 a1.Done]]) Try.func19 rfl Try.ntmps19 rfl ?_
 have hO := Owns.start hA
 have hB := Fr.refl (bl []) w0
 unfold ref12_Same at H
 refine zq (zr ?_)
 have hobt := obox (t := 29) (v := .agg #[.int .i64 a0.Points, .bool a0.Monoid, .slice aS a0.Gens.length aT, .slice bY a0.Elems.length b5, .slice bI a0.Prefix.length bK, .slice co a0.Last.length cp, .slice b6 a0.Right.length b7, .slice b8 a0.Rules.length b9, .int .i64 a0.Done]) (cs := #[.int .i64 a0.Points, .bool a0.Monoid, .slice aS a0.Gens.length aT, .slice bY a0.Elems.length b5, .slice bI a0.Prefix.length bK, .slice co a0.Last.length cp, .slice b6 a0.Right.length b7, .slice b8 a0.Rules.length b9, .int .i64 a0.Done]) hO rfl
 obtain ⟨w1, B2, d5, hs4, uu⟩ := hobt
 refine zg (uu rfl) ?_
 replace hO := d5.own
 have hobt := obox (t := 29) (v := .agg #[.int .i64 a1.Points, .bool a1.Monoid, .slice e8 a1.Gens.length e9, .slice eH a1.Elems.length eI, .slice d6 a1.Prefix.length d7, .slice fd a1.Last.length fe, .slice eK a1.Right.length eM, .slice eN a1.Rules.length eO, .int .i64 a1.Done]) (cs := #[.int .i64 a1.Points, .bool a1.Monoid, .slice e8 a1.Gens.length e9, .slice eH a1.Elems.length eI, .slice d6 a1.Prefix.length d7, .slice fd a1.Last.length fe, .slice eK a1.Right.length eM, .slice eN a1.Rules.length eO, .int .i64 a1.Done]) hO rfl
 obtain ⟨w7, B8, iE, Hq, C8⟩ := hobt
 refine zg (C8 rfl) ?_
 replace hO := iE.own
 refine za rfl (zn (zq (zq (zr (zo (op_fieldAddr Try.underlying29 rfl ti3 rfl (by decide)) ?_)))))
 refine zs (oblk (i := 0) 1 hO rfl rfl Try.underlying3 rfl rfl) (zo (op_fieldAddr Try.underlying29 rfl ti3 rfl (by decide)) (zs (oblk (i := 0) 0 hO rfl rfl Try.underlying3 rfl rfl) ?_))
 by_cases h13 : a0.Points = a1.Points
 ·replace H := ifp h13 H
  refine zo (fun w => opB (op_neq rfl rfl w) (ndT h13)) (zm rfl (zo (op_fieldAddr Try.underlying29 rfl ti4 rfl (by decide)) ?_))
  by_cases h14 : a0.Monoid = true
  ·replace H := ifp h14 H
   refine zg (opB ((oblk (i := 1) 1 hO rfl rfl Try.underlying4 rfl rfl) _ (Same.refl _)) (h14)) (zo (op_fieldAddr Try.underlying29 rfl ti4 rfl (by decide)) ?_)
   by_cases h15 : a1.Monoid = true
   ·replace H := ifp h15 H
    refine zg (opB ((oblk (i := 1) 0 hO rfl rfl Try.underlying4 rfl rfl) _ (Same.refl _)) (h15)) (zo (op_neqB Try.underlying4 rfl rfl) (zo (op_pickF rfl rfl rfl) (zm rfl (zo (op_fieldAddr Try.underlying29 rfl ti3 rfl (by decide)) (zs (oblk (i := 8) 1 hO rfl rfl Try.underlying3 rfl rfl) ?_)))))
    refine zo (op_fieldAddr Try.underlying29 rfl ti3 rfl (by decide)) (zs (oblk (i := 8) 0 hO rfl rfl Try.underlying3 rfl rfl) ?_)
    by_cases h16 : a0.Done = a1.Done
    ·replace H := ifp h16 H
     refine zo (fun w => opB (op_neq rfl rfl w) (ndT h16)) (zo (op_pickF rfl rfl rfl) (zm rfl (zo (op_fieldAddr Try.underlying29 rfl ti22 rfl (by decide)) (zs (oblk (i := 2) 1 hO rfl rfl Try.underlying22 rfl rfl) (zo (op_fieldAddr Try.underlying29 rfl ti22 rfl (by decide)) ?_)))))
     refine zs (oblk (i := 2) 0 hO rfl rfl Try.underlying22 rfl rfl) ?_
     have Z1 := ((Ch.start A w0).trans d5.ch).trans iE.ch
     replace aa := aa.ch Z1
     replace eP := eP.ch Z1
     refine GoR.call (op_call body45 rfl (walk_ref03_SameRows hO.lt aa eP H)) rfl rfl ?_
     rintro v21 w18 ⟨r17, rfl, Er, H⟩
     have fq := Stp.same hO Er
     replace hO := fq.own
     cases r17
     ·replace H := ifn Bool.false_ne_true H
      refine zo (op_not rfl) (zo (op_pickF rfl rfl rfl) (zm rfl (zp (zp (zp ?_)))))
      refine zp (zp (zp (zo (op_pickT rfl rfl rfl) (zm rfl (zp ?_)))))
      refine zp (zp (zp (zp (zp (zo (op_pickT rfl rfl rfl) ?_)))))
      refine zm rfl (zp (zp (zp (zp (zp ?_)))))
      refine zp (zo (op_pickT rfl rfl rfl) (zm rfl (zp (zp (zp ?_)))))
      refine zp (zp (zp (zo (op_pickT rfl rfl rfl) (zm rfl (zp ?_)))))
      refine zp (zp (zp (zp (zp (zp ?_)))))
      refine zo (op_pickT rfl rfl rfl) (zn (zt rfl rfl (zq ?_)))
      refine Go1.cut [] trivial ?_
      intro σ _
      refine zr (za rfl (zn ?_))
      refine Go1.ret1 Try.func19 rfl ?_
      replace hB := ((hB.trans d5.fr).trans iE.fr).trans fq.fr
      exact ⟨false, rfl, hB.same, H⟩
     replace H := ifp rfl H
     refine zo (op_not rfl) (zo (op_pickF rfl rfl rfl) (zm rfl (zo (op_fieldAddr Try.underlying29 rfl ti22 rfl (by decide)) (zs (oblk (i := 3) 1 hO rfl rfl Try.underlying22 rfl rfl) (zo (op_fieldAddr Try.underlying29 rfl ti22 rfl (by decide)) ?_)))))
     refine zs (oblk (i := 3) 0 hO rfl rfl Try.underlying22 rfl rfl) ?_
     have Z2 := Z1.trans fq.ch
     replace ad := ad.ch Z2
     replace en := en.ch Z2
     refine GoR.call (op_call body45 rfl (walk_ref03_SameRows hO.lt ad en H)) rfl rfl ?_
     rintro v27 w24 ⟨r23, rfl, Jk, H⟩
     have pt := Stp.same hO Jk
     replace hO := pt.own
     cases r23
     ·replace H := ifn Bool.false_ne_true H
      refine zo (op_not rfl) (zo (op_pickF rfl rfl rfl) (zm rfl (zp (zp (zp ?_)))))
      refine zp (zp (zp (zo (op_pickT rfl rfl rfl) (zm rfl (zp ?_)))))
      refine zp (zp (zp (zp (zp (zo (op_pickT rfl rfl rfl) ?_)))))
      refine zm rfl (zp (zp (zp (zp (zp ?_)))))
      refine zp (zo (op_pickT rfl rfl rfl) (zm rfl (zp (zp (zp ?_)))))
      refine zp (zp (zp (zp (zo (op_pickT rfl rfl rfl) (zn ?_)))))
      refine zt rfl rfl (zq ?_)
      refine Go1.cut [] trivial ?_
      intro σ _
      refine zr (za rfl (zn ?_))
      refine Go1.ret1 Try.func19 rfl ?_
      replace hB := (((hB.trans d5.fr).trans iE.fr).trans fq.fr).trans pt.fr
      exact ⟨false, rfl, hB.same, H⟩
     replace H := ifp rfl H
     refine zo (op_not rfl) (zo (op_pickF rfl rfl rfl) (zm rfl (zo (op_fieldAddr Try.underlying29 rfl ti26 rfl (by decide)) (zs (oblk (i := 4) 1 hO rfl rfl Try.underlying26 rfl rfl) (zo (op_fieldAddr Try.underlying29 rfl ti26 rfl (by decide)) ?_)))))
     refine zs (oblk (i := 4) 0 hO rfl rfl Try.underlying26 rfl rfl) ?_
     have Z3 := Z2.trans pt.ch
     replace ab := ab.ch Z3
     replace dJ := dJ.ch Z3
     refine GoR.call (op_call body34 rfl (walk_ref03_Same hO.lt ab dJ H)) rfl rfl ?_
     rintro v33 w30 ⟨r29, rfl, abH, H⟩
     have xh := Stp.same hO abH
     replace hO := xh.own
     cases r29
     ·replace H := ifn Bool.false_ne_true H
      refine zo (op_not rfl) (zo (op_pickF rfl rfl rfl) (zm rfl (zp (zp (zp ?_)))))
      refine zp (zp (zp (zo (op_pickT rfl rfl rfl) (zm rfl (zp ?_)))))
      refine zp (zp (zp (zp (zp (zo (op_pickT rfl rfl rfl) ?_)))))
      refine zm rfl (zp (zp (zp (zp (zp ?_)))))
      refine zp (zp (zo (op_pickT rfl rfl rfl) (zn (zt rfl rfl (zq ?_)))))
      refine Go1.cut [] trivial ?_
      intro σ _
      refine zr (za rfl (zn ?_))
      refine Go1.ret1 Try.func19 rfl ?_
      replace hB := ((((hB.trans d5.fr).trans iE.fr).trans fq.fr).trans pt.fr).trans xh.fr
      exact ⟨false, rfl, hB.same, H⟩
     replace H := ifp rfl H
     refine zo (op_not rfl) (zo (op_pickF rfl rfl rfl) (zm rfl (zo (op_fieldAddr Try.underlying29 rfl ti26 rfl (by decide)) (zs (oblk (i := 5) 1 hO rfl rfl Try.underlying26 rfl rfl) (zo (op_fieldAddr Try.underlying29 rfl ti26 rfl (by decide)) ?_)))))
     refine zs (oblk (i := 5) 0 hO rfl rfl Try.underlying26 rfl rfl) ?_
     have Z4 := Z3.trans xh.ch
     replace af := af.ch Z4
     replace eQ := eQ.ch Z4
     refine GoR.call (op_call body34 rfl (walk_ref03_Same hO.lt af eQ H)) rfl rfl ?_
     rintro v39 w36 ⟨r35, rfl, abI, H⟩
     have mD := Stp.same hO abI
     replace hO := mD.own
     cases r35
     ·replace H := ifn Bool.false_ne_true H
      refine zo (op_not rfl) (zo (op_pickF rfl rfl rfl) (zm rfl (zp (zp (zp ?_)))))
      refine zp (zp (zp (zo (op_pickT rfl rfl rfl) (zm rfl (zp ?_)))))
      refine zp (zp (zp (zp (zp (zp ?_)))))
      refine zo (op_pickT rfl rfl rfl) (zn (zt rfl rfl (zq ?_)))
      refine Go1.cut [] trivial ?_
      intro σ _
      refine zr (za rfl (zn ?_))
      refine Go1.ret1 Try.func19 rfl ?_
      replace hB := (((((hB.trans d5.fr).trans iE.fr).trans fq.fr).trans pt.fr).trans xh.fr).trans mD.fr
      exact ⟨false, rfl, hB.same, H⟩
     replace H := ifp rfl H
     refine zo (op_not rfl) (zo (op_pickF rfl rfl rfl) (zm rfl (zo (op_fieldAddr Try.underlying29 rfl ti22 rfl (by decide)) (zs (oblk (i := 6) 1 hO rfl rfl Try.underlying22 rfl rfl) (zo (op_fieldAddr Try.underlying29 rfl ti22 rfl (by decide)) ?_)))))
     refine zs (oblk (i := 6) 0 hO rfl rfl Try.underlying22 rfl rfl) ?_
     have Z5 := Z4.trans mD.ch
     replace ae := ae.ch Z5
     replace eo := eo.ch Z5
     refine GoR.call (op_call body45 rfl (walk_ref03_SameRows hO.lt ae eo H)) rfl rfl ?_
     rintro v45 w42 ⟨r41, rfl, abJ, H⟩
     have xi := Stp.same hO abJ
     replace hO := xi.own
     cases r41
     ·replace H := ifn Bool.false_ne_true H
      refine zo (op_not rfl) (zo (op_pickF rfl rfl rfl) (zm rfl (zp (zp (zp ?_)))))
      refine zp (zp (zp (zp (zo (op_pickT rfl rfl rfl) (zn ?_)))))
      refine zt rfl rfl (zq ?_)
      refine Go1.cut [] trivial ?_
      intro σ _
      refine zr (za rfl (zn ?_))
      refine Go1.ret1 Try.func19 rfl ?_
      replace hB := ((((((hB.trans d5.fr).trans iE.fr).trans fq.fr).trans pt.fr).trans xh.fr).trans mD.fr).trans xi.fr
      exact ⟨false, rfl, hB.same, H⟩
     replace H := ifp rfl H
     refine zo (op_not rfl) (zo (op_pickF rfl rfl rfl) (zm rfl (zo (op_fieldAddr Try.underlying29 rfl ti27 rfl (by decide)) (zs (oblk (i := 7) 1 hO rfl rfl Try.underlying27 rfl rfl) (zo (op_len Try.underlying27 rfl) ?_)))))
     replace ac := (ac.ch Z5).ch xi.ch
     replace H := H ac.bd
     refine zo (op_fieldAddr Try.underlying29 rfl ti27 rfl (by decide)) (zs (oblk (i := 7) 0 hO rfl rfl Try.underlying27 rfl rfl) (zo (op_len Try.underlying27 rfl) ?_))
     replace dF := (dF.ch Z5).ch xi.ch
     replace H := H dF.bd
     by_cases h47 : (a0.Rules.length : Int) = (a1.Rules.length : Int)
     ·replace H := ifp h47 H
      refine zo (fun w => opB (op_neq rfl rfl w) (ndT h47)) (zo (op_pickF rfl rfl rfl) (zn (zf rfl rfl (zk (zq ?_)))))
      refine zq (zr (zo (op_fieldAddr Try.underlying29 rfl ti27 rfl (by decide)) (zs (oblk (i := 7) 1 hO rfl rfl Try.underlying27 rfl rfl) (zo (op_len Try.underlying27 rfl) (zm rfl ?_)))))
      refine zn (zb ?_)
      replace ae := ae.ch xi.ch
      replace eo := eo.ch xi.ch
      have Z6 := mD.ch.trans xi.ch
      replace af := af.ch Z6
      replace eQ := eQ.ch Z6
      have Z7 := (xh.ch.trans mD.ch).trans xi.ch
      replace ab := ab.ch Z7
      replace dJ := dJ.ch Z7
      have Z8 := ((pt.ch.trans xh.ch).trans mD.ch).trans xi.ch
      replace ad := ad.ch Z8
      replace en := en.ch Z8
      have Z9 := (((fq.ch.trans pt.ch).trans xh.ch).trans mD.ch).trans xi.ch
      replace aa := aa.ch Z9
      replace eP := eP.ch Z9
      replace hB := ((((((hB.trans d5.fr).trans iE.fr).trans fq.fr).trans pt.fr).trans xh.fr).trans mD.fr).trans xi.fr
      refine Go1.loopW (S := Nat) (fun s σ w => agrees σ [(2, .pointer (some ⟨B2, 0, none⟩)), (3, .pointer (some ⟨B8, 0, none⟩)), (76, .int .i64 (a0.Rules.length : Int)), (77, .int .i64 (s : Int))] ∧ (fun Z0 => Owns w0.heap.size w Z0 A ∧ ISl (Rp.sl (Rp.int .i64)) (bl Z0 ++ A) w aS aT a0.Gens ∧ ISl (Rp.sl (Rp.int .i64)) (bl Z0 ++ A) w bY b5 a0.Elems ∧ ISl (Rp.int .i64) (bl Z0 ++ A) w bI bK a0.Prefix ∧ ISl (Rp.int .i64) (bl Z0 ++ A) w co cp a0.Last ∧ ISl (Rp.sl (Rp.int .i64)) (bl Z0 ++ A) w b6 b7 a0.Right ∧ ISl (rpRule) (bl Z0 ++ A) w b8 b9 a0.Rules ∧ ISl (Rp.sl (Rp.int .i64)) (bl Z0 ++ A) w e8 e9 a1.Gens ∧ ISl (Rp.sl (Rp.int .i64)) (bl Z0 ++ A) w eH eI a1.Elems ∧ ISl (Rp.int .i64) (bl Z0 ++ A) w d6 d7 a1.Prefix ∧ ISl (Rp.int .i64) (bl Z0 ++ A) w fd fe a1.Last ∧ ISl (Rp.sl (Rp.int .i64)) (bl Z0 ++ A) w eK eM a1.Right ∧ ISl (rpRule) (bl Z0 ++ A) w eN eO a1.Rules ∧ Fr (bl []) w0 (bl Z0) w) [.blk B8 (.cells #[.int .i64 a1.Points, .bool a1.Monoid, .slice e8 a1.Gens.length e9, .slice eH a1.Elems.length eI, .slice d6 a1.Prefix.length d7, .slice fd a1.Last.length fe, .slice eK a1.Right.length eM, .slice eN a1.Rules.length eO, .int .i64 a1.Done] 29 (0, 0)), .blk B2 (.cells #[.int .i64 a0.Points, .bool a0.Monoid, .slice aS a0.Gens.length aT, .slice bY a0.Elems.length b5, .slice bI a0.Prefix.length bK, .slice co a0.Last.length cp, .slice b6 a0.Right.length b7, .slice b8 a0.Rules.length b9, .int .i64 a0.Done] 29 (0, 0))]) H ⟨⟨rfl, rfl, rfl, rfl, trivial⟩, hO, aa, ad, ab, af, ae, ac, eP, en, dJ, eQ, eo, dF, hB⟩ ?_
      intro X1 k1_49
      intro H hX1 σ w48
      refine andE fun hag => andE fun hO => andE fun aa => andE fun ad => andE fun ab => andE fun af => andE fun ae => andE fun ac => andE fun eP => andE fun en => andE fun dJ => andE fun eQ => andE fun eo => andE fun dF => fun hB => ?_
      refine Go1.keep [(2, .pointer (some ⟨B2, 0, none⟩)), (3, .pointer (some ⟨B8, 0, none⟩)), (76, .int .i64 (a0.Rules.length : Int)), (77, .int .i64 (k1_49 : Int))] hag ?_
      refine zq (zr ?_)
      by_cases h50 : (k1_49 : Int) < (a0.Rules.length : Int)
      ·replace H := ifp h50 H
       refine zo (fun w => opB (op_lss rfl rfl w) (decide_eq_true h50)) (zn (zq (zt rfl rfl (zk (zq ?_)))))
       refine zb (zq (zr (zm rfl (za rfl (zn ?_)))))
       refine zq ?_
       refine Go1.drawS 0 [(0, .pure), (1, .stable), (2, .pure), (3, .pure), (4, .stable), (5, .pure), (6, .stable), (7, .pure), (8, .pure), (9, .stable), (10, .pure)] mixed (by kernel_rfl) ?_
       intro w51 Lp
       have xj := Stp.same hO Lp
       replace hO := xj.own
       refine GoQ.pure rfl (op_fieldAddr Try.underlying29 rfl ti27 rfl (by decide)) rfl rfl ?_
       refine GoQ.stable rfl (oblk (i := 7) 1 hO rfl rfl Try.underlying27 rfl rfl) rfl rfl ?_
       refine GoQ.pure rfl (op_move rfl) rfl rfl ?_
       obtain ⟨h54, H⟩ := H
       obtain ⟨h55, H⟩ := H
       replace ac := ac.ch xj.ch
       refine GoQ.pure rfl (op_index Try.underlying27 ti39 rfl rfl h54 h55 (ac.some_ h54 h55)) rfl rfl ?_
       have hok56 := ldFlatOk ac h54 h55
       refine GoQ.stable rfl (ldFlat ac h54 h55 Try.underlying39 rfl ti39 rfl) rfl rfl ?_
       refine GoQ.pure rfl (op_fieldAddr Try.underlying29 rfl ti27 rfl (by decide)) rfl rfl ?_
       refine GoQ.stable rfl (oblk (i := 7) 0 hO rfl rfl Try.underlying27 rfl rfl) rfl rfl ?_
       refine GoQ.pure rfl (op_move rfl) rfl rfl ?_
       obtain ⟨h57, H⟩ := H
       obtain ⟨h58, H⟩ := H
       replace dF := dF.ch xj.ch
       refine GoQ.pure rfl (op_index Try.underlying27 ti39 rfl rfl h57 h58 (dF.some_ h57 h58)) rfl rfl ?_
       have hok59 := ldFlatOk dF h57 h58
       refine GoQ.stable rfl (ldFlat dF h57 h58 Try.underlying39 rfl ti39 rfl) rfl rfl ?_
       by_cases h60 : (((ix a0.Rules (k1_49 : Int)).Left) = ((ix a1.Rules (k1_49 : Int)).Left) ∧ ((ix a0.Rules (k1_49 : Int)).Right) = ((ix a1.Rules (k1_49 : Int)).Right))
       ·replace H := ifp h60 H
        refine GoQ.pure rfl (fun w => opB (op_neqSS Try.underlying39 eqh39 eqg39 (by decide) (by decide) rfl rfl Try.underlying9 Try.underlying9 rfl rfl w) (ndT h60)) rfl rfl ?_
        refine GoQ.nil ?_
        refine zf rfl rfl (zk ?_)
        refine Go1.inBlock ?_
        refine zr (zo (op_add rfl rfl (wrap_i64 (natbd h50 ac.bd))) (zm rfl (zn ?_)))
        replace aa := aa.ch xj.ch
        replace ad := ad.ch xj.ch
        replace ab := ab.ch xj.ch
        replace af := af.ch xj.ch
        replace ae := ae.ch xj.ch
        replace eP := eP.ch xj.ch
        replace en := en.ch xj.ch
        replace dJ := dJ.ch xj.ch
        replace eQ := eQ.ch xj.ch
        replace eo := eo.ch xj.ch
        replace hB := hB.trans xj.fr
        exact hX1 _ H _ _ ⟨⟨rfl, rfl, rfl, rfl, trivial⟩, hO, aa, ad, ab, af, ae, ac, eP, en, dJ, eQ, eo, dF, hB⟩
       replace H := ifn h60 H
       refine GoQ.pure rfl (fun w => opB (op_neqSS Try.underlying39 eqh39 eqg39 (by decide) (by decide) rfl rfl Try.underlying9 Try.underlying9 rfl rfl w) (ndF h60)) rfl rfl ?_
       refine GoQ.nil ?_
       refine zt rfl rfl (zq (zr (za rfl (zn ?_))))
       refine Go1.ret1 Try.func19 rfl ?_
       replace hB := hB.trans xj.fr
       exact ⟨false, rfl, hB.same, H⟩
      replace H := ifn h50 H
      refine zo (fun w => opB (op_lss rfl rfl w) (decide_eq_false h50)) (zn (zq (zf rfl rfl ?_)))
      refine Go1.exit rfl ?_
      refine zq (zr (za rfl (zn ?_)))
      refine Go1.ret1 Try.func19 rfl ?_
      exact ⟨true, rfl, hB.same, H⟩
     replace H := ifn h47 H
     refine zo (fun w => opB (op_neq rfl rfl w) (ndF h47)) (zo (op_pickF rfl rfl rfl) (zn (zt rfl rfl (zq ?_))))
     refine Go1.cut [] trivial ?_
     intro σ _
     refine zr (za rfl (zn ?_))
     refine Go1.ret1 Try.func19 rfl ?_
     replace hB := ((((((hB.trans d5.fr).trans iE.fr).trans fq.fr).trans pt.fr).trans xh.fr).trans mD.fr).trans xi.fr
     exact ⟨false, rfl, hB.same, H⟩
    replace H := ifn h16 H
    refine zo (fun w => opB (op_neq rfl rfl w) (ndF h16)) (zo (op_pickF rfl rfl rfl) (zm rfl (zp (zp (zp ?_)))))
    refine zp (zp (zp (zo (op_pickT rfl rfl rfl) (zm rfl (zp ?_)))))
    refine zp (zp (zp (zp (zp (zo (op_pickT rfl rfl rfl) ?_)))))
    refine zm rfl (zp (zp (zp (zp (zp ?_)))))
    refine zp (zo (op_pickT rfl rfl rfl) (zm rfl (zp (zp (zp ?_)))))
    refine zp (zp (zp (zo (op_pickT rfl rfl rfl) (zm rfl (zp ?_)))))
    refine zp (zp (zp (zp (zp (zo (op_pickT rfl rfl rfl) ?_)))))
    refine zm rfl (zp (zp (zp (zp (zp ?_)))))
    refine zp (zp (zo (op_pickT rfl rfl rfl) (zn (zt rfl rfl (zq ?_)))))
    refine Go1.cut [] trivial ?_
    intro σ _
    refine zr (za rfl (zn ?_))
    refine Go1.ret1 Try.func19 rfl ?_
    replace hB := (hB.trans d5.fr).trans iE.fr
    exact ⟨false, rfl, hB.same, H⟩
   replace H := ifn h15 H
   refine zg (opB ((oblk (i := 1) 0 hO rfl rfl Try.underlying4 rfl rfl) _ (Same.refl _)) (Bool.eq_false_iff.2 h15)) (zo (op_neqB Try.underlying4 rfl rfl) (zo (op_pickF rfl rfl rfl) (zm rfl (zp (zp ?_)))))
   refine zp (zp (zp (zo (op_pickT rfl rfl rfl) (zm rfl (zp ?_)))))
   refine zp (zp (zp (zp (zp (zo (op_pickT rfl rfl rfl) ?_)))))
   refine zm rfl (zp (zp (zp (zp (zp ?_)))))
   refine zp (zo (op_pickT rfl rfl rfl) (zm rfl (zp (zp (zp ?_)))))
   refine zp (zp (zp (zo (op_pickT rfl rfl rfl) (zm rfl (zp ?_)))))
   refine zp (zp (zp (zp (zp (zo (op_pickT rfl rfl rfl) ?_)))))
   refine zm rfl (zp (zp (zp (zp (zp ?_)))))
   refine zp (zo (op_pickT rfl rfl rfl) (zm rfl (zp (zp (zp ?_)))))
   refine zp (zp (zp (zp (zo (op_pickT rfl rfl rfl) (zn ?_)))))
   refine zt rfl rfl (zq ?_)
   refine Go1.cut [] trivial ?_
   intro σ _
   refine zr (za rfl (zn ?_))
   refine Go1.ret1 Try.func19 rfl ?_
   replace hB := (hB.trans d5.fr).trans iE.fr
   exact ⟨false, rfl, hB.same, H⟩
  replace H := ifn h14 H
  refine zg (opB ((oblk (i := 1) 1 hO rfl rfl Try.underlying4 rfl rfl) _ (Same.refl _)) (Bool.eq_false_iff.2 h14)) (zo (op_fieldAddr Try.underlying29 rfl ti4 rfl (by decide)) ?_)
  by_cases h61 : a1.Monoid = true
  ·replace H := ifp h61 H
   refine zg (opB ((oblk (i := 1) 0 hO rfl rfl Try.underlying4 rfl rfl) _ (Same.refl _)) (h61)) (zo (op_neqB Try.underlying4 rfl rfl) (zo (op_pickF rfl rfl rfl) (zm rfl (zp (zp ?_)))))
   refine zp (zp (zp (zo (op_pickT rfl rfl rfl) (zm rfl (zp ?_)))))
   refine zp (zp (zp (zp (zp (zo (op_pickT rfl rfl rfl) ?_)))))
   refine zm rfl (zp (zp (zp (zp (zp ?_)))))
   refine zp (zo (op_pickT rfl rfl rfl) (zm rfl (zp (zp (zp ?_)))))
   refine zp (zp (zp (zo (op_pickT rfl rfl rfl) (zm rfl (zp ?_)))))
   refine zp (zp (zp (zp (zp (zo (op_pickT rfl rfl rfl) ?_)))))
   refine zm rfl (zp (zp (zp (zp (zp ?_)))))
   refine zp (zo (op_pickT rfl rfl rfl) (zm rfl (zp (zp (zp ?_)))))
   refine zp (zp (zp (zp (zo (op_pickT rfl rfl rfl) (zn ?_)))))
   refine zt rfl rfl (zq ?_)
   refine Go1.cut [] trivial ?_
   intro σ _
   refine zr (za rfl (zn ?_))
   refine Go1.ret1 Try.func19 rfl ?_
   replace hB := (hB.trans d5.fr).trans iE.fr
   exact ⟨false, rfl, hB.same, H⟩
  replace H := ifn h61 H
  refine zg (opB ((oblk (i := 1) 0 hO rfl rfl Try.underlying4 rfl rfl) _ (Same.refl _)) (Bool.eq_false_iff.2 h61)) (zo (op_neqB Try.underlying4 rfl rfl) (zo (op_pickF rfl rfl rfl) (zm rfl (zo (op_fieldAddr Try.underlying29 rfl ti3 rfl (by decide)) (zs (oblk (i := 8) 1 hO rfl rfl Try.underlying3 rfl rfl) ?_)))))
  refine zo (op_fieldAddr Try.underlying29 rfl ti3 rfl (by decide)) (zs (oblk (i := 8) 0 hO rfl rfl Try.underlying3 rfl rfl) ?_)
  by_cases h62 : a0.Done = a1.Done
  ·replace H := ifp h62 H
   refine zo (fun w => opB (op_neq rfl rfl w) (ndT h62)) (zo (op_pickF rfl rfl rfl) (zm rfl (zo (op_fieldAddr Try.underlying29 rfl ti22 rfl (by decide)) (zs (oblk (i := 2) 1 hO rfl rfl Try.underlying22 rfl rfl) (zo (op_fieldAddr Try.underlying29 rfl ti22 rfl (by decide)) ?_)))))
   refine zs (oblk (i := 2) 0 hO rfl rfl Try.underlying22 rfl rfl) ?_
   have Z10 := ((Ch.start A w0).trans d5.ch).trans iE.ch
   replace aa := aa.ch Z10
   replace eP := eP.ch Z10
   refine GoR.call (op_call body45 rfl (walk_ref03_SameRows hO.lt aa eP H)) rfl rfl ?_
   rintro v67 w64 ⟨r63, rfl, abK, H⟩
   have mC := Stp.same hO abK
   replace hO := mC.own
   cases r63
   ·replace H := ifn Bool.false_ne_true H
    refine zo (op_not rfl) (zo (op_pickF rfl rfl rfl) (zm rfl (zp (zp (zp ?_)))))
    refine zp (zp (zp (zo (op_pickT rfl rfl rfl) (zm rfl (zp ?_)))))
    refine zp (zp (zp (zp (zp (zo (op_pickT rfl rfl rfl) ?_)))))
    refine zm rfl (zp (zp (zp (zp (zp ?_)))))
    refine zp (zo (op_pickT rfl rfl rfl) (zm rfl (zp (zp (zp ?_)))))
    refine zp (zp (zp (zo (op_pickT rfl rfl rfl) (zm rfl (zp ?_)))))
    refine zp (zp (zp (zp (zp (zp ?_)))))
    refine zo (op_pickT rfl rfl rfl) (zn (zt rfl rfl (zq ?_)))
    refine Go1.cut [] trivial ?_
    intro σ _
    refine zr (za rfl (zn ?_))
    refine Go1.ret1 Try.func19 rfl ?_
    replace hB := ((hB.trans d5.fr).trans iE.fr).trans mC.fr
    exact ⟨false, rfl, hB.same, H⟩
   replace H := ifp rfl H
   refine zo (op_not rfl) (zo (op_pickF rfl rfl rfl) (zm rfl (zo (op_fieldAddr Try.underlying29 rfl ti22 rfl (by decide)) (zs (oblk (i := 3) 1 hO rfl rfl Try.underlying22 rfl rfl) (zo (op_fieldAddr Try.underlying29 rfl ti22 rfl (by decide)) ?_)))))
   refine zs (oblk (i := 3) 0 hO rfl rfl Try.underlying22 rfl rfl) ?_
   have Z11 := Z10.trans mC.ch
   replace ad := ad.ch Z11
   replace en := en.ch Z11
   refine GoR.call (op_call body45 rfl (walk_ref03_SameRows hO.lt ad en H)) rfl rfl ?_
   rintro v73 w70 ⟨r69, rfl, abL, H⟩
   have iC := Stp.same hO abL
   replace hO := iC.own
   cases r69
   ·replace H := ifn Bool.false_ne_true H
    refine zo (op_not rfl) (zo (op_pickF rfl rfl rfl) (zm rfl (zp (zp (zp ?_)))))
    refine zp (zp (zp (zo (op_pickT rfl rfl rfl) (zm rfl (zp ?_)))))
    refine zp (zp (zp (zp (zp (zo (op_pickT rfl rfl rfl) ?_)))))
    refine zm rfl (zp (zp (zp (zp (zp ?_)))))
    refine zp (zo (op_pickT rfl rfl rfl) (zm rfl (zp (zp (zp ?_)))))
    refine zp (zp (zp (zp (zo (op_pickT rfl rfl rfl) (zn ?_)))))
    refine zt rfl rfl (zq ?_)
    refine Go1.cut [] trivial ?_
    intro σ _
    refine zr (za rfl (zn ?_))
    refine Go1.ret1 Try.func19 rfl ?_
    replace hB := (((hB.trans d5.fr).trans iE.fr).trans mC.fr).trans iC.fr
    exact ⟨false, rfl, hB.same, H⟩
   replace H := ifp rfl H
   refine zo (op_not rfl) (zo (op_pickF rfl rfl rfl) (zm rfl (zo (op_fieldAddr Try.underlying29 rfl ti26 rfl (by decide)) (zs (oblk (i := 4) 1 hO rfl rfl Try.underlying26 rfl rfl) (zo (op_fieldAddr Try.underlying29 rfl ti26 rfl (by decide)) ?_)))))
   refine zs (oblk (i := 4) 0 hO rfl rfl Try.underlying26 rfl rfl) ?_
   have Z12 := Z11.trans iC.ch
   replace ab := ab.ch Z12
   replace dJ := dJ.ch Z12
   refine GoR.call (op_call body34 rfl (walk_ref03_Same hO.lt ab dJ H)) rfl rfl ?_
   rintro v79 w76 ⟨r75, rfl, KH, H⟩
   have kE := Stp.same hO KH
   replace hO := kE.own
   cases r75
   ·replace H := ifn Bool.false_ne_true H
    refine zo (op_not rfl) (zo (op_pickF rfl rfl rfl) (zm rfl (zp (zp (zp ?_)))))
    refine zp (zp (zp (zo (op_pickT rfl rfl rfl) (zm rfl (zp ?_)))))
    refine zp (zp (zp (zp (zp (zo (op_pickT rfl rfl rfl) ?_)))))
    refine zm rfl (zp (zp (zp (zp (zp ?_)))))
    refine zp (zp (zo (op_pickT rfl rfl rfl) (zn (zt rfl rfl (zq ?_)))))
    refine Go1.cut [] trivial ?_
    intro σ _
    refine zr (za rfl (zn ?_))
    refine Go1.ret1 Try.func19 rfl ?_
    replace hB := ((((hB.trans d5.fr).trans iE.fr).trans mC.fr).trans iC.fr).trans kE.fr
    exact ⟨false, rfl, hB.same, H⟩
   replace H := ifp rfl H
   refine zo (op_not rfl) (zo (op_pickF rfl rfl rfl) (zm rfl (zo (op_fieldAddr Try.underlying29 rfl ti26 rfl (by decide)) (zs (oblk (i := 5) 1 hO rfl rfl Try.underlying26 rfl rfl) (zo (op_fieldAddr Try.underlying29 rfl ti26 rfl (by decide)) ?_)))))
   refine zs (oblk (i := 5) 0 hO rfl rfl Try.underlying26 rfl rfl) ?_
   have Z13 := Z12.trans kE.ch
   replace af := af.ch Z13
   replace eQ := eQ.ch Z13
   refine GoR.call (op_call body34 rfl (walk_ref03_Same hO.lt af eQ H)) rfl rfl ?_
   rintro v85 w82 ⟨r81, rfl, abM, H⟩
   have gF := Stp.same hO abM
   replace hO := gF.own
   cases r81
   ·replace H := ifn Bool.false_ne_true H
    refine zo (op_not rfl) (zo (op_pickF rfl rfl rfl) (zm rfl (zp (zp (zp ?_)))))
    refine zp (zp (zp (zo (op_pickT rfl rfl rfl) (zm rfl (zp ?_)))))
    refine zp (zp (zp (zp (zp (zp ?_)))))
    refine zo (op_pickT rfl rfl rfl) (zn (zt rfl rfl (zq ?_)))
    refine Go1.cut [] trivial ?_
    intro σ _
    refine zr (za rfl (zn ?_))
    refine Go1.ret1 Try.func19 rfl ?_
    replace hB := (((((hB.trans d5.fr).trans iE.fr).trans mC.fr).trans iC.fr).trans kE.fr).trans gF.fr
    exact ⟨false, rfl, hB.same, H⟩
   replace H := ifp rfl H
   refine zo (op_not rfl) (zo (op_pickF rfl rfl rfl) (zm rfl (zo (op_fieldAddr Try.underlying29 rfl ti22 rfl (by decide)) (zs (oblk (i := 6) 1 hO rfl rfl Try.underlying22 rfl rfl) (zo (op_fieldAddr Try.underlying29 rfl ti22 rfl (by decide)) ?_)))))
   refine zs (oblk (i := 6) 0 hO rfl rfl Try.underlying22 rfl rfl) ?_
   have Z14 := Z13.trans gF.ch
   replace ae := ae.ch Z14
   replace eo := eo.ch Z14
   refine GoR.call (op_call body45 rfl (walk_ref03_SameRows hO.lt ae eo H)) rfl rfl ?_
   rintro v91 w88 ⟨r87, rfl, LK, H⟩
   have gS := Stp.same hO LK
   replace hO := gS.own
   cases r87
   ·replace H := ifn Bool.false_ne_true H
    refine zo (op_not rfl) (zo (op_pickF rfl rfl rfl) (zm rfl (zp (zp (zp ?_)))))
    refine zp (zp (zp (zp (zo (op_pickT rfl rfl rfl) (zn ?_)))))
    refine zt rfl rfl (zq ?_)
    refine Go1.cut [] trivial ?_
    intro σ _
    refine zr (za rfl (zn ?_))
    refine Go1.ret1 Try.func19 rfl ?_
    replace hB := ((((((hB.trans d5.fr).trans iE.fr).trans mC.fr).trans iC.fr).trans kE.fr).trans gF.fr).trans gS.fr
    exact ⟨false, rfl, hB.same, H⟩
   replace H := ifp rfl H
   refine zo (op_not rfl) (zo (op_pickF rfl rfl rfl) (zm rfl (zo (op_fieldAddr Try.underlying29 rfl ti27 rfl (by decide)) (zs (oblk (i := 7) 1 hO rfl rfl Try.underlying27 rfl rfl) (zo (op_len Try.underlying27 rfl) ?_)))))
   replace ac := (ac.ch Z14).ch gS.ch
   replace H := H ac.bd
   refine zo (op_fieldAddr Try.underlying29 rfl ti27 rfl (by decide)) (zs (oblk (i := 7) 0 hO rfl rfl Try.underlying27 rfl rfl) (zo (op_len Try.underlying27 rfl) ?_))
   replace dF := (dF.ch Z14).ch gS.ch
   replace H := H dF.bd
   by_cases h93 : (a0.Rules.length : Int) = (a1.Rules.length : Int)
   ·replace H := ifp h93 H
    refine zo (fun w => opB (op_neq rfl rfl w) (ndT h93)) (zo (op_pickF rfl rfl rfl) (zn (zf rfl rfl (zk (zq ?_)))))
    refine zq (zr (zo (op_fieldAddr Try.underlying29 rfl ti27 rfl (by decide)) (zs (oblk (i := 7) 1 hO rfl rfl Try.underlying27 rfl rfl) (zo (op_len Try.underlying27 rfl) (zm rfl ?_)))))
    refine zn (zb ?_)
    replace ae := ae.ch gS.ch
    replace eo := eo.ch gS.ch
    have Z15 := gF.ch.trans gS.ch
    replace af := af.ch Z15
    replace eQ := eQ.ch Z15
    have Z16 := (kE.ch.trans gF.ch).trans gS.ch
    replace ab := ab.ch Z16
    replace dJ := dJ.ch Z16
    have Z17 := ((iC.ch.trans kE.ch).trans gF.ch).trans gS.ch
    replace ad := ad.ch Z17
    replace en := en.ch Z17
    have Z18 := (((mC.ch.trans iC.ch).trans kE.ch).trans gF.ch).trans gS.ch
    replace aa := aa.ch Z18
    replace eP := eP.ch Z18
    replace hB := ((((((hB.trans d5.fr).trans iE.fr).trans mC.fr).trans iC.fr).trans kE.fr).trans gF.fr).trans gS.fr
    refine Go1.loopW (S := Nat) (fun s σ w => agrees σ [(2, .pointer (some ⟨B2, 0, none⟩)), (3, .pointer (some ⟨B8, 0, none⟩)), (76, .int .i64 (a0.Rules.length : Int)), (77, .int .i64 (s : Int))] ∧ (fun Z0 => Owns w0.heap.size w Z0 A ∧ ISl (Rp.sl (Rp.int .i64)) (bl Z0 ++ A) w aS aT a0.Gens ∧ ISl (Rp.sl (Rp.int .i64)) (bl Z0 ++ A) w bY b5 a0.Elems ∧ ISl (Rp.int .i64) (bl Z0 ++ A) w bI bK a0.Prefix ∧ ISl (Rp.int .i64) (bl Z0 ++ A) w co cp a0.Last ∧ ISl (Rp.sl (Rp.int .i64)) (bl Z0 ++ A) w b6 b7 a0.Right ∧ ISl (rpRule) (bl Z0 ++ A) w b8 b9 a0.Rules ∧ ISl (Rp.sl (Rp.int .i64)) (bl Z0 ++ A) w e8 e9 a1.Gens ∧ ISl (Rp.sl (Rp.int .i64)) (bl Z0 ++ A) w eH eI a1.Elems ∧ ISl (Rp.int .i64) (bl Z0 ++ A) w d6 d7 a1.Prefix ∧ ISl (Rp.int .i64) (bl Z0 ++ A) w fd fe a1.Last ∧ ISl (Rp.sl (Rp.int .i64)) (bl Z0 ++ A) w eK eM a1.Right ∧ ISl (rpRule) (bl Z0 ++ A) w eN eO a1.Rules ∧ Fr (bl []) w0 (bl Z0) w) [.blk B8 (.cells #[.int .i64 a1.Points, .bool a1.Monoid, .slice e8 a1.Gens.length e9, .slice eH a1.Elems.length eI, .slice d6 a1.Prefix.length d7, .slice fd a1.Last.length fe, .slice eK a1.Right.length eM, .slice eN a1.Rules.length eO, .int .i64 a1.Done] 29 (0, 0)), .blk B2 (.cells #[.int .i64 a0.Points, .bool a0.Monoid, .slice aS a0.Gens.length aT, .slice bY a0.Elems.length b5, .slice bI a0.Prefix.length bK, .slice co a0.Last.length cp, .slice b6 a0.Right.length b7, .slice b8 a0.Rules.length b9, .int .i64 a0.Done] 29 (0, 0))]) H ⟨⟨rfl, rfl, rfl, rfl, trivial⟩, hO, aa, ad, ab, af, ae, ac, eP, en, dJ, eQ, eo, dF, hB⟩ ?_
    intro X2 k2_95
    intro H hX2 σ w94
    refine andE fun hag => andE fun hO => andE fun aa => andE fun ad => andE fun ab => andE fun af => andE fun ae => andE fun ac => andE fun eP => andE fun en => andE fun dJ => andE fun eQ => andE fun eo => andE fun dF => fun hB => ?_
    refine Go1.keep [(2, .pointer (some ⟨B2, 0, none⟩)), (3, .pointer (some ⟨B8, 0, none⟩)), (76, .int .i64 (a0.Rules.length : Int)), (77, .int .i64 (k2_95 : Int))] hag ?_
    refine zq (zr ?_)
    by_cases h96 : (k2_95 : Int) < (a0.Rules.length : Int)
    ·replace H := ifp h96 H
     refine zo (fun w => opB (op_lss rfl rfl w) (decide_eq_true h96)) (zn (zq (zt rfl rfl (zk (zq ?_)))))
     refine zb (zq (zr (zm rfl (za rfl (zn ?_)))))
     refine zq ?_
     refine Go1.drawS 0 [(0, .pure), (1, .stable), (2, .pure), (3, .pure), (4, .stable), (5, .pure), (6, .stable), (7, .pure), (8, .pure), (9, .stable), (10, .pure)] mixed (by kernel_rfl) ?_
     intro w97 abN
     have xk := Stp.same hO abN
     replace hO := xk.own
     refine GoQ.pure rfl (op_fieldAddr Try.underlying29 rfl ti27 rfl (by decide)) rfl rfl ?_
     refine GoQ.stable rfl (oblk (i := 7) 1 hO rfl rfl Try.underlying27 rfl rfl) rfl rfl ?_
     refine GoQ.pure rfl (op_move rfl) rfl rfl ?_
     obtain ⟨Et, H⟩ := H
     obtain ⟨Eu, H⟩ := H
     replace ac := ac.ch xk.ch
     refine GoQ.pure rfl (op_index Try.underlying27 ti39 rfl rfl Et Eu (ac.some_ Et Eu)) rfl rfl ?_
     have hok102 := ldFlatOk ac Et Eu
     refine GoQ.stable rfl (ldFlat ac Et Eu Try.underlying39 rfl ti39 rfl) rfl rfl ?_
     refine GoQ.pure rfl (op_fieldAddr Try.underlying29 rfl ti27 rfl (by decide)) rfl rfl ?_
     refine GoQ.stable rfl (oblk (i := 7) 0 hO rfl rfl Try.underlying27 rfl rfl) rfl rfl ?_
     refine GoQ.pure rfl (op_move rfl) rfl rfl ?_
     obtain ⟨JP, H⟩ := H
     obtain ⟨Dj, H⟩ := H
     replace dF := dF.ch xk.ch
     refine GoQ.pure rfl (op_index Try.underlying27 ti39 rfl rfl JP Dj (dF.some_ JP Dj)) rfl rfl ?_
     have hok105 := ldFlatOk dF JP Dj
     refine GoQ.stable rfl (ldFlat dF JP Dj Try.underlying39 rfl ti39 rfl) rfl rfl ?_
     by_cases AV : (((ix a0.Rules (k2_95 : Int)).Left) = ((ix a1.Rules (k2_95 : Int)).Left) ∧ ((ix a0.Rules (k2_95 : Int)).Right) = ((ix a1.Rules (k2_95 : Int)).Right))
     ·replace H := ifp AV H
      refine GoQ.pure rfl (fun w => opB (op_neqSS Try.underlying39 eqh39 eqg39 (by decide) (by decide) rfl rfl Try.underlying9 Try.underlying9 rfl rfl w) (ndT AV)) rfl rfl ?_
      refine GoQ.nil ?_
      refine zf rfl rfl (zk ?_)
      refine Go1.inBlock ?_
      refine zr (zo (op_add rfl rfl (wrap_i64 (natbd h96 ac.bd))) (zm rfl (zn ?_)))
      replace aa := aa.ch xk.ch
      replace ad := ad.ch xk.ch
      replace ab := ab.ch xk.ch
      replace af := af.ch xk.ch
      replace ae := ae.ch xk.ch
      replace eP := eP.ch xk.ch
      replace en := en.ch xk.ch
      replace dJ := dJ.ch xk.ch
      replace eQ := eQ.ch xk.ch
      replace eo := eo.ch xk.ch
      replace hB := hB.trans xk.fr
      exact hX2 _ H _ _ ⟨⟨rfl, rfl, rfl, rfl, trivial⟩, hO, aa, ad, ab, af, ae, ac, eP, en, dJ, eQ, eo, dF, hB⟩
     replace H := ifn AV H
     refine GoQ.pure rfl (fun w => opB (op_neqSS Try.underlying39 eqh39 eqg39 (by decide) (by decide) rfl rfl Try.underlying9 Try.underlying9 rfl rfl w) (ndF AV)) rfl rfl ?_
     refine GoQ.nil ?_
     refine zt rfl rfl (zq (zr (za rfl (zn ?_))))
     refine Go1.ret1 Try.func19 rfl ?_
     replace hB := hB.trans xk.fr
     exact ⟨false, rfl, hB.same, H⟩
    replace H := ifn h96 H
    refine zo (fun w => opB (op_lss rfl rfl w) (decide_eq_false h96)) (zn (zq (zf rfl rfl ?_)))
    refine Go1.exit rfl ?_
    refine zq (zr (za rfl (zn ?_)))
    refine Go1.ret1 Try.func19 rfl ?_
    exact ⟨true, rfl, hB.same, H⟩
   replace H := ifn h93 H
   refine zo (fun w => opB (op_neq rfl rfl w) (ndF h93)) (zo (op_pickF rfl rfl rfl) (zn (zt rfl rfl (zq ?_))))
   refine Go1.cut [] trivial ?_
   intro σ _
   refine zr (za rfl (zn ?_))
   refine Go1.ret1 Try.func19 rfl ?_
   replace hB := ((((((hB.trans d5.fr).trans iE.fr).trans mC.fr).trans iC.fr).trans kE.fr).trans gF.fr).trans gS.fr
   exact ⟨false, rfl, hB.same, H⟩
  replace H := ifn h62 H
  refine zo (fun w => opB (op_neq rfl rfl w) (ndF h62)) (zo (op_pickF rfl rfl rfl) (zm rfl (zp (zp (zp ?_)))))
  refine zp (zp (zp (zo (op_pickT rfl rfl rfl) (zm rfl (zp ?_)))))
  refine zp (zp (zp (zp (zp (zo (op_pickT rfl rfl rfl) ?_)))))
  refine zm rfl (zp (zp (zp (zp (zp ?_)))))
  refine zp (zo (op_pickT rfl rfl rfl) (zm rfl (zp (zp (zp ?_)))))
  refine zp (zp (zp (zo (op_pickT rfl rfl rfl) (zm rfl (zp ?_)))))
  refine zp (zp (zp (zp (zp (zo (op_pickT rfl rfl rfl) ?_)))))
  refine zm rfl (zp (zp (zp (zp (zp ?_)))))
  refine zp (zp (zo (op_pickT rfl rfl rfl) (zn (zt rfl rfl (zq ?_)))))
  refine Go1.cut [] trivial ?_
  intro σ _
  refine zr (za rfl (zn ?_))
  refine Go1.ret1 Try.func19 rfl ?_
  replace hB := (hB.trans d5.fr).trans iE.fr
  exact ⟨false, rfl, hB.same, H⟩
 replace H := ifn h13 H
 refine zo (fun w => opB (op_neq rfl rfl w) (ndF h13)) (zm rfl (zp (zp (zp (zp ?_)))))
 refine zp (zo (op_pickT rfl rfl rfl) (zm rfl (zp (zp (zp ?_)))))
 refine zp (zp (zo (op_pickT rfl rfl rfl) (zm rfl (zp (zp ?_)))))
 refine zp (zp (zp (zp (zo (op_pickT rfl rfl rfl) (zm rfl ?_)))))
 refine zp (zp (zp (zp (zp (zp ?_)))))
 refine zo (op_pickT rfl rfl rfl) (zm rfl (zp (zp (zp (zp ?_)))))
 refine zp (zp (zo (op_pickT rfl rfl rfl) (zm rfl (zp (zp ?_)))))
 refine zp (zp (zp (zp (zo (op_pickT rfl rfl rfl) (zm rfl ?_)))))
 refine zp (zp (zp (zp (zp (zp ?_)))))
 refine zo (op_pickT rfl rfl rfl) (zm rfl (zp (zp (zp (zp ?_)))))
 refine zp (zp (zp (zo (op_pickT rfl rfl rfl) (zn (zt rfl rfl ?_)))))
 refine zq ?_
 refine Go1.cut [] trivial ?_
 intro σ _
 refine zr (za rfl (zn ?_))
 refine Go1.ret1 Try.func19 rfl ?_
 replace hB := (hB.trans d5.fr).trans iE.fr
 exact ⟨false, rfl, hB.same, H⟩
end Sg
