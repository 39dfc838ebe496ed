/- The walks: each call keeps to its plain transformer. Printed by walkgen.py. -/
import Derived.Test.YtjegjjdfgefkoaaTi
import Derived.Test.YtjegjjdfgefkoaaWEnumerateBuilds
import Derived.Test.YtjegjjdfgefkoaaWEnumerateBuildsb
import Derived.Test.YtjegjjdfgefkoaaWEnumerateBuildsc
import Derived.Test.YtjegjjdfgefkoaaWEnumerateBuildse
import Derived.Test.YtjegjjdfgefkoaaAl
namespace Sg
open Go Go.RowKit Go.Proofs
set_option linter.unusedVariables false
set_option linter.unusedSimpArgs false
set_option maxRecDepth 100000
set_option maxHeartbeats 4000000
theorem body19 : Body Try.prog 19 := ⟨Try.f19, Try.func19, rfl, by kernel_rfl⟩
theorem walk_ref12_Same {A : List Nat} {w0 : World} {ap : Option Addr} {aq : Nat} {bY : Option Addr} {b5 : Nat} {bE : Option Addr} {bF : Nat} {cq : Option Addr} {cr : Nat} {b6 : Option Addr} {b7 : Nat} {b8 : Option Addr} {b9 : Nat} {dD : Option Addr} {dE : Nat} {dq : Option Addr} {dr : Nat} {cX : Option Addr} {cY : Nat} {dF : Option Addr} {dG : Nat} {dt : Option Addr} {du : Nat} {dw : Option Addr} {dx : Nat} {a0 : Enum} {a1 : Enum} (hA : ∀ b ∈ A, b < w0.heap.size) (ac : ISl (Rp.sl (Rp.int .i64)) A w0 ap aq a0.Gens) (am : ISl (Rp.sl (Rp.int .i64)) A w0 bY b5 a0.Elems) (ag : ISl (Rp.int .i64) A w0 bE bF a0.Prefix) (ay : ISl (Rp.int .i64) A w0 cq cr a0.Last) (ao : ISl (Rp.sl (Rp.int .i64)) A w0 b6 b7 a0.Right) (ah : ISl (rpRule) A w0 b8 b9 a0.Rules) (dy : ISl (Rp.sl (Rp.int .i64)) A w0 dD dE a1.Gens) (dg : ISl (Rp.sl (Rp.int .i64)) A w0 dq dr a1.Elems) (cH : ISl (Rp.int .i64) A w0 cX cY a1.Prefix) (dz : ISl (Rp.int .i64) A w0 dF dG a1.Last) (dh : ISl (Rp.sl (Rp.int .i64)) A w0 dt du a1.Right) (cD : ISl (rpRule) A w0 dw dx a1.Rules) {K : Bool → Prop} (H : ref12_Same a0 a1 K) :
    CallsV Try.prog 19 #[.agg #[.int .i64 a0.Points, .bool a0.Monoid, .slice ap a0.Gens.length aq, .slice bY a0.Elems.length b5, .slice bE a0.Prefix.length bF, .slice cq a0.Last.length cr, .slice b6 a0.Right.length b7, .slice b8 a0.Rules.length b9, .int .i64 a0.Done], .agg #[.int .i64 a1.Points, .bool a1.Monoid, .slice dD a1.Gens.length dE, .slice dq a1.Elems.length dr, .slice cX a1.Prefix.length cY, .slice dF a1.Last.length dG, .slice dt a1.Right.length du, .slice dw a1.Rules.length dx, .int .i64 a1.Done]] w0 (fun v w' => ∃ (r0 : Bool), v = .bool r0 ∧ Same w0 w' ∧ K r0) := by
 refine CallsV.of (l := [.agg #[.int .i64 a0.Points, .bool a0.Monoid, .slice ap a0.Gens.length aq, .slice bY a0.Elems.length b5, .slice bE a0.Prefix.length bF, .slice cq a0.Last.length cr, .slice b6 a0.Right.length b7, .slice b8 a0.Rules.length b9, .int .i64 a0.Done], .agg #[.int .i64 a1.Points, .bool a1.Monoid, .slice dD a1.Gens.length dE, .slice dq a1.Elems.length dr, .slice cX a1.Prefix.length cY, .slice dF a1.Last.length dG, .slice dt a1.Right.length du, .slice dw a1.Rules.length dx, .int .i64 a1.Done]]) Try.func19 rfl Try.ntmps19 rfl ?_
 have hO := Owns.start hA
 have hB := Fr.refl (bl []) w0
 unfold ref12_Same at H
 refine zq (zr ?_)
 have hobt := obox (t := 29) (v := .agg #[.int .i64 a0.Points, .bool a0.Monoid, .slice ap a0.Gens.length aq, .slice bY a0.Elems.length b5, .slice bE a0.Prefix.length bF, .slice cq a0.Last.length cr, .slice b6 a0.Right.length b7, .slice b8 a0.Rules.length b9, .int .i64 a0.Done]) (cs := #[.int .i64 a0.Points, .bool a0.Monoid, .slice ap a0.Gens.length aq, .slice bY a0.Elems.length b5, .slice bE a0.Prefix.length bF, .slice cq a0.Last.length cr, .slice b6 a0.Right.length b7, .slice b8 a0.Rules.length b9, .int .i64 a0.Done]) hO rfl
 obtain ⟨w1, B2, eF, hs4, vF⟩ := hobt
 refine zg (vF rfl) ?_
 replace hO := eF.own
 have hobt := obox (t := 29) (v := .agg #[.int .i64 a1.Points, .bool a1.Monoid, .slice dD a1.Gens.length dE, .slice dq a1.Elems.length dr, .slice cX a1.Prefix.length cY, .slice dF a1.Last.length dG, .slice dt a1.Right.length du, .slice dw a1.Rules.length dx, .int .i64 a1.Done]) (cs := #[.int .i64 a1.Points, .bool a1.Monoid, .slice dD a1.Gens.length dE, .slice dq a1.Elems.length dr, .slice cX a1.Prefix.length cY, .slice dF a1.Last.length dG, .slice dt a1.Right.length du, .slice dw a1.Rules.length dx, .int .i64 a1.Done]) hO rfl
 obtain ⟨w7, B8, m0, AF, B5⟩ := hobt
 refine zg (B5 rfl) ?_
 replace hO := m0.own
 refine za rfl (zn (zq (zq (zr (zo (op_fieldAddr Try.underlying29 rfl ti3 rfl (by decide)) ?_)))))
 refine zs (oblk (i := 0) 1 hO rfl rfl Try.underlying3 rfl rfl) (zo (op_fieldAddr Try.underlying29 rfl ti3 rfl (by decide)) (zs (oblk (i := 0) 0 hO rfl rfl Try.underlying3 rfl rfl) ?_))
 by_cases h13 : a0.Points = a1.Points
 ·replace H := ifp h13 H
  refine zo (fun w => opB (op_neq rfl rfl w) (ndT h13)) (zm rfl (zo (op_fieldAddr Try.underlying29 rfl ti4 rfl (by decide)) ?_))
  by_cases h14 : a0.Monoid = true
  ·replace H := ifp h14 H
   refine zg (opB ((oblk (i := 1) 1 hO rfl rfl Try.underlying4 rfl rfl) _ (Same.refl _)) (h14)) (zo (op_fieldAddr Try.underlying29 rfl ti4 rfl (by decide)) ?_)
   by_cases h15 : a1.Monoid = true
   ·replace H := ifp h15 H
    refine zg (opB ((oblk (i := 1) 0 hO rfl rfl Try.underlying4 rfl rfl) _ (Same.refl _)) (h15)) (zo (op_neqB Try.underlying4 rfl rfl) (zo (op_pickF rfl rfl rfl) (zm rfl (zo (op_fieldAddr Try.underlying29 rfl ti3 rfl (by decide)) (zs (oblk (i := 8) 1 hO rfl rfl Try.underlying3 rfl rfl) ?_)))))
    refine zo (op_fieldAddr Try.underlying29 rfl ti3 rfl (by decide)) (zs (oblk (i := 8) 0 hO rfl rfl Try.underlying3 rfl rfl) ?_)
    by_cases h16 : a0.Done = a1.Done
    ·replace H := ifp h16 H
     refine zo (fun w => opB (op_neq rfl rfl w) (ndT h16)) (zo (op_pickF rfl rfl rfl) (zm rfl (zo (op_fieldAddr Try.underlying29 rfl ti22 rfl (by decide)) (zs (oblk (i := 2) 1 hO rfl rfl Try.underlying22 rfl rfl) (zo (op_fieldAddr Try.underlying29 rfl ti22 rfl (by decide)) ?_)))))
     refine zs (oblk (i := 2) 0 hO rfl rfl Try.underlying22 rfl rfl) ?_
     have Z1 := ((Ch.start A w0).trans eF.ch).trans m0.ch
     replace ac := ac.ch Z1
     replace dy := dy.ch Z1
     refine GoR.call (op_call body45 rfl (walk_ref03_SameRows hO.lt ac dy H)) rfl rfl ?_
     rintro v21 w18 ⟨r17, rfl, Cw, H⟩
     have fH := Stp.same hO Cw
     replace hO := fH.own
     cases r17
     ·replace H := ifn Bool.false_ne_true H
      refine zo (op_not rfl) (zo (op_pickF rfl rfl rfl) (zm rfl (zp (zp (zp ?_)))))
      refine zp (zp (zp (zo (op_pickT rfl rfl rfl) (zm rfl (zp ?_)))))
      refine zp (zp (zp (zp (zp (zo (op_pickT rfl rfl rfl) ?_)))))
      refine zm rfl (zp (zp (zp (zp (zp ?_)))))
      refine zp (zo (op_pickT rfl rfl rfl) (zm rfl (zp (zp (zp ?_)))))
      refine zp (zp (zp (zo (op_pickT rfl rfl rfl) (zm rfl (zp ?_)))))
      refine zp (zp (zp (zp (zp (zp ?_)))))
      refine zo (op_pickT rfl rfl rfl) (zn (zt rfl rfl (zq ?_)))
      refine Go1.cut [] trivial ?_
      intro σ _
      refine zr (za rfl (zn ?_))
      refine Go1.ret1 Try.func19 rfl ?_
      replace hB := ((hB.trans eF.fr).trans m0.fr).trans fH.fr
      exact ⟨false, rfl, hB.same, H⟩
     replace H := ifp rfl H
     refine zo (op_not rfl) (zo (op_pickF rfl rfl rfl) (zm rfl (zo (op_fieldAddr Try.underlying29 rfl ti22 rfl (by decide)) (zs (oblk (i := 3) 1 hO rfl rfl Try.underlying22 rfl rfl) (zo (op_fieldAddr Try.underlying29 rfl ti22 rfl (by decide)) ?_)))))
     refine zs (oblk (i := 3) 0 hO rfl rfl Try.underlying22 rfl rfl) ?_
     have Z2 := Z1.trans fH.ch
     replace am := am.ch Z2
     replace dg := dg.ch Z2
     refine GoR.call (op_call body45 rfl (walk_ref03_SameRows hO.lt am dg H)) rfl rfl ?_
     rintro v27 w24 ⟨r23, rfl, EY, H⟩
     have lE := Stp.same hO EY
     replace hO := lE.own
     cases r23
     ·replace H := ifn Bool.false_ne_true H
      refine zo (op_not rfl) (zo (op_pickF rfl rfl rfl) (zm rfl (zp (zp (zp ?_)))))
      refine zp (zp (zp (zo (op_pickT rfl rfl rfl) (zm rfl (zp ?_)))))
      refine zp (zp (zp (zp (zp (zo (op_pickT rfl rfl rfl) ?_)))))
      refine zm rfl (zp (zp (zp (zp (zp ?_)))))
      refine zp (zo (op_pickT rfl rfl rfl) (zm rfl (zp (zp (zp ?_)))))
      refine zp (zp (zp (zp (zo (op_pickT rfl rfl rfl) (zn ?_)))))
      refine zt rfl rfl (zq ?_)
      refine Go1.cut [] trivial ?_
      intro σ _
      refine zr (za rfl (zn ?_))
      refine Go1.ret1 Try.func19 rfl ?_
      replace hB := (((hB.trans eF.fr).trans m0.fr).trans fH.fr).trans lE.fr
      exact ⟨false, rfl, hB.same, H⟩
     replace H := ifp rfl H
     refine zo (op_not rfl) (zo (op_pickF rfl rfl rfl) (zm rfl (zo (op_fieldAddr Try.underlying29 rfl ti26 rfl (by decide)) (zs (oblk (i := 4) 1 hO rfl rfl Try.underlying26 rfl rfl) (zo (op_fieldAddr Try.underlying29 rfl ti26 rfl (by decide)) ?_)))))
     refine zs (oblk (i := 4) 0 hO rfl rfl Try.underlying26 rfl rfl) ?_
     have Z3 := Z2.trans lE.ch
     replace ag := ag.ch Z3
     replace cH := cH.ch Z3
     refine GoR.call (op_call body34 rfl (walk_ref03_Same hO.lt ag cH H)) rfl rfl ?_
     rintro v33 w30 ⟨r29, rfl, SB, H⟩
     have t0 := Stp.same hO SB
     replace hO := t0.own
     cases r29
     ·replace H := ifn Bool.false_ne_true H
      refine zo (op_not rfl) (zo (op_pickF rfl rfl rfl) (zm rfl (zp (zp (zp ?_)))))
      refine zp (zp (zp (zo (op_pickT rfl rfl rfl) (zm rfl (zp ?_)))))
      refine zp (zp (zp (zp (zp (zo (op_pickT rfl rfl rfl) ?_)))))
      refine zm rfl (zp (zp (zp (zp (zp ?_)))))
      refine zp (zp (zo (op_pickT rfl rfl rfl) (zn (zt rfl rfl (zq ?_)))))
      refine Go1.cut [] trivial ?_
      intro σ _
      refine zr (za rfl (zn ?_))
      refine Go1.ret1 Try.func19 rfl ?_
      replace hB := ((((hB.trans eF.fr).trans m0.fr).trans fH.fr).trans lE.fr).trans t0.fr
      exact ⟨false, rfl, hB.same, H⟩
     replace H := ifp rfl H
     refine zo (op_not rfl) (zo (op_pickF rfl rfl rfl) (zm rfl (zo (op_fieldAddr Try.underlying29 rfl ti26 rfl (by decide)) (zs (oblk (i := 5) 1 hO rfl rfl Try.underlying26 rfl rfl) (zo (op_fieldAddr Try.underlying29 rfl ti26 rfl (by decide)) ?_)))))
     refine zs (oblk (i := 5) 0 hO rfl rfl Try.underlying26 rfl rfl) ?_
     have Z4 := Z3.trans t0.ch
     replace ay := ay.ch Z4
     replace dz := dz.ch Z4
     refine GoR.call (op_call body34 rfl (walk_ref03_Same hO.lt ay dz H)) rfl rfl ?_
     rintro v39 w36 ⟨r35, rfl, SC, H⟩
     have ka := Stp.same hO SC
     replace hO := ka.own
     cases r35
     ·replace H := ifn Bool.false_ne_true H
      refine zo (op_not rfl) (zo (op_pickF rfl rfl rfl) (zm rfl (zp (zp (zp ?_)))))
      refine zp (zp (zp (zo (op_pickT rfl rfl rfl) (zm rfl (zp ?_)))))
      refine zp (zp (zp (zp (zp (zp ?_)))))
      refine zo (op_pickT rfl rfl rfl) (zn (zt rfl rfl (zq ?_)))
      refine Go1.cut [] trivial ?_
      intro σ _
      refine zr (za rfl (zn ?_))
      refine Go1.ret1 Try.func19 rfl ?_
      replace hB := (((((hB.trans eF.fr).trans m0.fr).trans fH.fr).trans lE.fr).trans t0.fr).trans ka.fr
      exact ⟨false, rfl, hB.same, H⟩
     replace H := ifp rfl H
     refine zo (op_not rfl) (zo (op_pickF rfl rfl rfl) (zm rfl (zo (op_fieldAddr Try.underlying29 rfl ti22 rfl (by decide)) (zs (oblk (i := 6) 1 hO rfl rfl Try.underlying22 rfl rfl) (zo (op_fieldAddr Try.underlying29 rfl ti22 rfl (by decide)) ?_)))))
     refine zs (oblk (i := 6) 0 hO rfl rfl Try.underlying22 rfl rfl) ?_
     have Z5 := Z4.trans ka.ch
     replace ao := ao.ch Z5
     replace dh := dh.ch Z5
     refine GoR.call (op_call body45 rfl (walk_ref03_SameRows hO.lt ao dh H)) rfl rfl ?_
     rintro v45 w42 ⟨r41, rfl, SD, H⟩
     have t3 := Stp.same hO SD
     replace hO := t3.own
     cases r41
     ·replace H := ifn Bool.false_ne_true H
      refine zo (op_not rfl) (zo (op_pickF rfl rfl rfl) (zm rfl (zp (zp (zp ?_)))))
      refine zp (zp (zp (zp (zo (op_pickT rfl rfl rfl) (zn ?_)))))
      refine zt rfl rfl (zq ?_)
      refine Go1.cut [] trivial ?_
      intro σ _
      refine zr (za rfl (zn ?_))
      refine Go1.ret1 Try.func19 rfl ?_
      replace hB := ((((((hB.trans eF.fr).trans m0.fr).trans fH.fr).trans lE.fr).trans t0.fr).trans ka.fr).trans t3.fr
      exact ⟨false, rfl, hB.same, H⟩
     replace H := ifp rfl H
     refine zo (op_not rfl) (zo (op_pickF rfl rfl rfl) (zm rfl (zo (op_fieldAddr Try.underlying29 rfl ti27 rfl (by decide)) (zs (oblk (i := 7) 1 hO rfl rfl Try.underlying27 rfl rfl) (zo (op_len Try.underlying27 rfl) ?_)))))
     replace ah := (ah.ch Z5).ch t3.ch
     replace H := H ah.bd
     refine zo (op_fieldAddr Try.underlying29 rfl ti27 rfl (by decide)) (zs (oblk (i := 7) 0 hO rfl rfl Try.underlying27 rfl rfl) (zo (op_len Try.underlying27 rfl) ?_))
     replace cD := (cD.ch Z5).ch t3.ch
     replace H := H cD.bd
     by_cases h47 : (a0.Rules.length : Int) = (a1.Rules.length : Int)
     ·replace H := ifp h47 H
      refine zo (fun w => opB (op_neq rfl rfl w) (ndT h47)) (zo (op_pickF rfl rfl rfl) (zn (zf rfl rfl (zk (zq ?_)))))
      refine zq (zr (zo (op_fieldAddr Try.underlying29 rfl ti27 rfl (by decide)) (zs (oblk (i := 7) 1 hO rfl rfl Try.underlying27 rfl rfl) (zo (op_len Try.underlying27 rfl) (zm rfl ?_)))))
      refine zn (zb ?_)
      replace ao := ao.ch t3.ch
      replace dh := dh.ch t3.ch
      have Z6 := ka.ch.trans t3.ch
      replace ay := ay.ch Z6
      replace dz := dz.ch Z6
      have Z7 := (t0.ch.trans ka.ch).trans t3.ch
      replace ag := ag.ch Z7
      replace cH := cH.ch Z7
      have Z8 := ((lE.ch.trans t0.ch).trans ka.ch).trans t3.ch
      replace am := am.ch Z8
      replace dg := dg.ch Z8
      have Z9 := (((fH.ch.trans lE.ch).trans t0.ch).trans ka.ch).trans t3.ch
      replace ac := ac.ch Z9
      replace dy := dy.ch Z9
      replace hB := ((((((hB.trans eF.fr).trans m0.fr).trans fH.fr).trans lE.fr).trans t0.fr).trans ka.fr).trans t3.fr
      refine Go1.loopW (S := Nat) (fun s σ w => agrees σ [(2, .pointer (some ⟨B2, 0, none⟩)), (3, .pointer (some ⟨B8, 0, none⟩)), (76, .int .i64 (a0.Rules.length : Int)), (77, .int .i64 (s : Int))] ∧ (fun Z0 => Owns w0.heap.size w Z0 A ∧ ISl (Rp.sl (Rp.int .i64)) (bl Z0 ++ A) w ap aq a0.Gens ∧ ISl (Rp.sl (Rp.int .i64)) (bl Z0 ++ A) w bY b5 a0.Elems ∧ ISl (Rp.int .i64) (bl Z0 ++ A) w bE bF a0.Prefix ∧ ISl (Rp.int .i64) (bl Z0 ++ A) w cq cr a0.Last ∧ ISl (Rp.sl (Rp.int .i64)) (bl Z0 ++ A) w b6 b7 a0.Right ∧ ISl (rpRule) (bl Z0 ++ A) w b8 b9 a0.Rules ∧ ISl (Rp.sl (Rp.int .i64)) (bl Z0 ++ A) w dD dE a1.Gens ∧ ISl (Rp.sl (Rp.int .i64)) (bl Z0 ++ A) w dq dr a1.Elems ∧ ISl (Rp.int .i64) (bl Z0 ++ A) w cX cY a1.Prefix ∧ ISl (Rp.int .i64) (bl Z0 ++ A) w dF dG a1.Last ∧ ISl (Rp.sl (Rp.int .i64)) (bl Z0 ++ A) w dt du a1.Right ∧ ISl (rpRule) (bl Z0 ++ A) w dw dx a1.Rules ∧ Fr (bl []) w0 (bl Z0) w) [.blk B8 (.cells #[.int .i64 a1.Points, .bool a1.Monoid, .slice dD a1.Gens.length dE, .slice dq a1.Elems.length dr, .slice cX a1.Prefix.length cY, .slice dF a1.Last.length dG, .slice dt a1.Right.length du, .slice dw a1.Rules.length dx, .int .i64 a1.Done] 29 (0, 0)), .blk B2 (.cells #[.int .i64 a0.Points, .bool a0.Monoid, .slice ap a0.Gens.length aq, .slice bY a0.Elems.length b5, .slice bE a0.Prefix.length bF, .slice cq a0.Last.length cr, .slice b6 a0.Right.length b7, .slice b8 a0.Rules.length b9, .int .i64 a0.Done] 29 (0, 0))]) H ⟨⟨rfl, rfl, rfl, rfl, trivial⟩, hO, ac, am, ag, ay, ao, ah, dy, dg, cH, dz, dh, cD, hB⟩ ?_
      intro X1 k1_49
      intro H hX1 σ w48
      refine andE fun hag => andE fun hO => andE fun ac => andE fun am => andE fun ag => andE fun ay => andE fun ao => andE fun ah => andE fun dy => andE fun dg => andE fun cH => andE fun dz => andE fun dh => andE fun cD => fun hB => ?_
      refine Go1.keep [(2, .pointer (some ⟨B2, 0, none⟩)), (3, .pointer (some ⟨B8, 0, none⟩)), (76, .int .i64 (a0.Rules.length : Int)), (77, .int .i64 (k1_49 : Int))] hag ?_
      refine zq (zr ?_)
      by_cases h50 : (k1_49 : Int) < (a0.Rules.length : Int)
      ·replace H := ifp h50 H
       refine zo (fun w => opB (op_lss rfl rfl w) (decide_eq_true h50)) (zn (zq (zt rfl rfl (zk (zq ?_)))))
       refine zb (zq (zr (zm rfl (za rfl (zn ?_)))))
       refine zq ?_
       refine Go1.drawS 0 [(0, .pure), (1, .stable), (2, .pure), (3, .pure), (4, .stable), (5, .pure), (6, .stable), (7, .pure), (8, .pure), (9, .stable), (10, .pure)] mixed (by kernel_rfl) ?_
       intro w51 GG
       have t4 := Stp.same hO GG
       replace hO := t4.own
       refine GoQ.pure rfl (op_fieldAddr Try.underlying29 rfl ti27 rfl (by decide)) rfl rfl ?_
       refine GoQ.stable rfl (oblk (i := 7) 1 hO rfl rfl Try.underlying27 rfl rfl) rfl rfl ?_
       refine GoQ.pure rfl (op_move rfl) rfl rfl ?_
       obtain ⟨h54, H⟩ := H
       obtain ⟨h55, H⟩ := H
       replace ah := ah.ch t4.ch
       refine GoQ.pure rfl (op_index Try.underlying27 ti39 rfl rfl h54 h55 (ah.some_ h54 h55)) rfl rfl ?_
       have hok56 := ldFlatOk ah h54 h55
       refine GoQ.stable rfl (ldFlat ah h54 h55 Try.underlying39 rfl ti39 rfl) rfl rfl ?_
       refine GoQ.pure rfl (op_fieldAddr Try.underlying29 rfl ti27 rfl (by decide)) rfl rfl ?_
       refine GoQ.stable rfl (oblk (i := 7) 0 hO rfl rfl Try.underlying27 rfl rfl) rfl rfl ?_
       refine GoQ.pure rfl (op_move rfl) rfl rfl ?_
       obtain ⟨h57, H⟩ := H
       obtain ⟨h58, H⟩ := H
       replace cD := cD.ch t4.ch
       refine GoQ.pure rfl (op_index Try.underlying27 ti39 rfl rfl h57 h58 (cD.some_ h57 h58)) rfl rfl ?_
       have hok59 := ldFlatOk cD h57 h58
       refine GoQ.stable rfl (ldFlat cD h57 h58 Try.underlying39 rfl ti39 rfl) rfl rfl ?_
       by_cases h60 : (((ix a0.Rules (k1_49 : Int)).Left) = ((ix a1.Rules (k1_49 : Int)).Left) ∧ ((ix a0.Rules (k1_49 : Int)).Right) = ((ix a1.Rules (k1_49 : Int)).Right))
       ·replace H := ifp h60 H
        refine GoQ.pure rfl (fun w => opB (op_neqSS Try.underlying39 eqh39 eqg39 (by decide) (by decide) rfl rfl Try.underlying9 Try.underlying9 rfl rfl w) (ndT h60)) rfl rfl ?_
        refine GoQ.nil ?_
        refine zf rfl rfl (zk ?_)
        refine Go1.inBlock ?_
        refine zr (zo (op_add rfl rfl (wrap_i64 (natbd h50 ah.bd))) (zm rfl (zn ?_)))
        replace ac := ac.ch t4.ch
        replace am := am.ch t4.ch
        replace ag := ag.ch t4.ch
        replace ay := ay.ch t4.ch
        replace ao := ao.ch t4.ch
        replace dy := dy.ch t4.ch
        replace dg := dg.ch t4.ch
        replace cH := cH.ch t4.ch
        replace dz := dz.ch t4.ch
        replace dh := dh.ch t4.ch
        replace hB := hB.trans t4.fr
        exact hX1 _ H _ _ ⟨⟨rfl, rfl, rfl, rfl, trivial⟩, hO, ac, am, ag, ay, ao, ah, dy, dg, cH, dz, dh, cD, hB⟩
       replace H := ifn h60 H
       refine GoQ.pure rfl (fun w => opB (op_neqSS Try.underlying39 eqh39 eqg39 (by decide) (by decide) rfl rfl Try.underlying9 Try.underlying9 rfl rfl w) (ndF h60)) rfl rfl ?_
       refine GoQ.nil ?_
       refine zt rfl rfl (zq (zr (za rfl (zn ?_))))
       refine Go1.ret1 Try.func19 rfl ?_
       replace hB := hB.trans t4.fr
       exact ⟨false, rfl, hB.same, H⟩
      replace H := ifn h50 H
      refine zo (fun w => opB (op_lss rfl rfl w) (decide_eq_false h50)) (zn (zq (zf rfl rfl ?_)))
      refine Go1.exit rfl ?_
      refine zq (zr (za rfl (zn ?_)))
      refine Go1.ret1 Try.func19 rfl ?_
      exact ⟨true, rfl, hB.same, H⟩
     replace H := ifn h47 H
     refine zo (fun w => opB (op_neq rfl rfl w) (ndF h47)) (zo (op_pickF rfl rfl rfl) (zn (zt rfl rfl (zq ?_))))
     refine Go1.cut [] trivial ?_
     intro σ _
     refine zr (za rfl (zn ?_))
     refine Go1.ret1 Try.func19 rfl ?_
     replace hB := ((((((hB.trans eF.fr).trans m0.fr).trans fH.fr).trans lE.fr).trans t0.fr).trans ka.fr).trans t3.fr
     exact ⟨false, rfl, hB.same, H⟩
    replace H := ifn h16 H
    refine zo (fun w => opB (op_neq rfl rfl w) (ndF h16)) (zo (op_pickF rfl rfl rfl) (zm rfl (zp (zp (zp ?_)))))
    refine zp (zp (zp (zo (op_pickT rfl rfl rfl) (zm rfl (zp ?_)))))
    refine zp (zp (zp (zp (zp (zo (op_pickT rfl rfl rfl) ?_)))))
    refine zm rfl (zp (zp (zp (zp (zp ?_)))))
    refine zp (zo (op_pickT rfl rfl rfl) (zm rfl (zp (zp (zp ?_)))))
    refine zp (zp (zp (zo (op_pickT rfl rfl rfl) (zm rfl (zp ?_)))))
    refine zp (zp (zp (zp (zp (zo (op_pickT rfl rfl rfl) ?_)))))
    refine zm rfl (zp (zp (zp (zp (zp ?_)))))
    refine zp (zp (zo (op_pickT rfl rfl rfl) (zn (zt rfl rfl (zq ?_)))))
    refine Go1.cut [] trivial ?_
    intro σ _
    refine zr (za rfl (zn ?_))
    refine Go1.ret1 Try.func19 rfl ?_
    replace hB := (hB.trans eF.fr).trans m0.fr
    exact ⟨false, rfl, hB.same, H⟩
   replace H := ifn h15 H
   refine zg (opB ((oblk (i := 1) 0 hO rfl rfl Try.underlying4 rfl rfl) _ (Same.refl _)) (Bool.eq_false_iff.2 h15)) (zo (op_neqB Try.underlying4 rfl rfl) (zo (op_pickF rfl rfl rfl) (zm rfl (zp (zp ?_)))))
   refine zp (zp (zp (zo (op_pickT rfl rfl rfl) (zm rfl (zp ?_)))))
   refine zp (zp (zp (zp (zp (zo (op_pickT rfl rfl rfl) ?_)))))
   refine zm rfl (zp (zp (zp (zp (zp ?_)))))
   refine zp (zo (op_pickT rfl rfl rfl) (zm rfl (zp (zp (zp ?_)))))
   refine zp (zp (zp (zo (op_pickT rfl rfl rfl) (zm rfl (zp ?_)))))
   refine zp (zp (zp (zp (zp (zo (op_pickT rfl rfl rfl) ?_)))))
   refine zm rfl (zp (zp (zp (zp (zp ?_)))))
   refine zp (zo (op_pickT rfl rfl rfl) (zm rfl (zp (zp (zp ?_)))))
   refine zp (zp (zp (zp (zo (op_pickT rfl rfl rfl) (zn ?_)))))
   refine zt rfl rfl (zq ?_)
   refine Go1.cut [] trivial ?_
   intro σ _
   refine zr (za rfl (zn ?_))
   refine Go1.ret1 Try.func19 rfl ?_
   replace hB := (hB.trans eF.fr).trans m0.fr
   exact ⟨false, rfl, hB.same, H⟩
  replace H := ifn h14 H
  refine zg (opB ((oblk (i := 1) 1 hO rfl rfl Try.underlying4 rfl rfl) _ (Same.refl _)) (Bool.eq_false_iff.2 h14)) (zo (op_fieldAddr Try.underlying29 rfl ti4 rfl (by decide)) ?_)
  by_cases h61 : a1.Monoid = true
  ·replace H := ifp h61 H
   refine zg (opB ((oblk (i := 1) 0 hO rfl rfl Try.underlying4 rfl rfl) _ (Same.refl _)) (h61)) (zo (op_neqB Try.underlying4 rfl rfl) (zo (op_pickF rfl rfl rfl) (zm rfl (zp (zp ?_)))))
   refine zp (zp (zp (zo (op_pickT rfl rfl rfl) (zm rfl (zp ?_)))))
   refine zp (zp (zp (zp (zp (zo (op_pickT rfl rfl rfl) ?_)))))
   refine zm rfl (zp (zp (zp (zp (zp ?_)))))
   refine zp (zo (op_pickT rfl rfl rfl) (zm rfl (zp (zp (zp ?_)))))
   refine zp (zp (zp (zo (op_pickT rfl rfl rfl) (zm rfl (zp ?_)))))
   refine zp (zp (zp (zp (zp (zo (op_pickT rfl rfl rfl) ?_)))))
   refine zm rfl (zp (zp (zp (zp (zp ?_)))))
   refine zp (zo (op_pickT rfl rfl rfl) (zm rfl (zp (zp (zp ?_)))))
   refine zp (zp (zp (zp (zo (op_pickT rfl rfl rfl) (zn ?_)))))
   refine zt rfl rfl (zq ?_)
   refine Go1.cut [] trivial ?_
   intro σ _
   refine zr (za rfl (zn ?_))
   refine Go1.ret1 Try.func19 rfl ?_
   replace hB := (hB.trans eF.fr).trans m0.fr
   exact ⟨false, rfl, hB.same, H⟩
  replace H := ifn h61 H
  refine zg (opB ((oblk (i := 1) 0 hO rfl rfl Try.underlying4 rfl rfl) _ (Same.refl _)) (Bool.eq_false_iff.2 h61)) (zo (op_neqB Try.underlying4 rfl rfl) (zo (op_pickF rfl rfl rfl) (zm rfl (zo (op_fieldAddr Try.underlying29 rfl ti3 rfl (by decide)) (zs (oblk (i := 8) 1 hO rfl rfl Try.underlying3 rfl rfl) ?_)))))
  refine zo (op_fieldAddr Try.underlying29 rfl ti3 rfl (by decide)) (zs (oblk (i := 8) 0 hO rfl rfl Try.underlying3 rfl rfl) ?_)
  by_cases h62 : a0.Done = a1.Done
  ·replace H := ifp h62 H
   refine zo (fun w => opB (op_neq rfl rfl w) (ndT h62)) (zo (op_pickF rfl rfl rfl) (zm rfl (zo (op_fieldAddr Try.underlying29 rfl ti22 rfl (by decide)) (zs (oblk (i := 2) 1 hO rfl rfl Try.underlying22 rfl rfl) (zo (op_fieldAddr Try.underlying29 rfl ti22 rfl (by decide)) ?_)))))
   refine zs (oblk (i := 2) 0 hO rfl rfl Try.underlying22 rfl rfl) ?_
   have Z10 := ((Ch.start A w0).trans eF.ch).trans m0.ch
   replace ac := ac.ch Z10
   replace dy := dy.ch Z10
   refine GoR.call (op_call body45 rfl (walk_ref03_SameRows hO.lt ac dy H)) rfl rfl ?_
   rintro v67 w64 ⟨r63, rfl, SE, H⟩
   have j9 := Stp.same hO SE
   replace hO := j9.own
   cases r63
   ·replace H := ifn Bool.false_ne_true H
    refine zo (op_not rfl) (zo (op_pickF rfl rfl rfl) (zm rfl (zp (zp (zp ?_)))))
    refine zp (zp (zp (zo (op_pickT rfl rfl rfl) (zm rfl (zp ?_)))))
    refine zp (zp (zp (zp (zp (zo (op_pickT rfl rfl rfl) ?_)))))
    refine zm rfl (zp (zp (zp (zp (zp ?_)))))
    refine zp (zo (op_pickT rfl rfl rfl) (zm rfl (zp (zp (zp ?_)))))
    refine zp (zp (zp (zo (op_pickT rfl rfl rfl) (zm rfl (zp ?_)))))
    refine zp (zp (zp (zp (zp (zp ?_)))))
    refine zo (op_pickT rfl rfl rfl) (zn (zt rfl rfl (zq ?_)))
    refine Go1.cut [] trivial ?_
    intro σ _
    refine zr (za rfl (zn ?_))
    refine Go1.ret1 Try.func19 rfl ?_
    replace hB := ((hB.trans eF.fr).trans m0.fr).trans j9.fr
    exact ⟨false, rfl, hB.same, H⟩
   replace H := ifp rfl H
   refine zo (op_not rfl) (zo (op_pickF rfl rfl rfl) (zm rfl (zo (op_fieldAddr Try.underlying29 rfl ti22 rfl (by decide)) (zs (oblk (i := 3) 1 hO rfl rfl Try.underlying22 rfl rfl) (zo (op_fieldAddr Try.underlying29 rfl ti22 rfl (by decide)) ?_)))))
   refine zs (oblk (i := 3) 0 hO rfl rfl Try.underlying22 rfl rfl) ?_
   have Z11 := Z10.trans j9.ch
   replace am := am.ch Z11
   replace dg := dg.ch Z11
   refine GoR.call (op_call body45 rfl (walk_ref03_SameRows hO.lt am dg H)) rfl rfl ?_
   rintro v73 w70 ⟨r69, rfl, SF, H⟩
   have f7 := Stp.same hO SF
   replace hO := f7.own
   cases r69
   ·replace H := ifn Bool.false_ne_true H
    refine zo (op_not rfl) (zo (op_pickF rfl rfl rfl) (zm rfl (zp (zp (zp ?_)))))
    refine zp (zp (zp (zo (op_pickT rfl rfl rfl) (zm rfl (zp ?_)))))
    refine zp (zp (zp (zp (zp (zo (op_pickT rfl rfl rfl) ?_)))))
    refine zm rfl (zp (zp (zp (zp (zp ?_)))))
    refine zp (zo (op_pickT rfl rfl rfl) (zm rfl (zp (zp (zp ?_)))))
    refine zp (zp (zp (zp (zo (op_pickT rfl rfl rfl) (zn ?_)))))
    refine zt rfl rfl (zq ?_)
    refine Go1.cut [] trivial ?_
    intro σ _
    refine zr (za rfl (zn ?_))
    refine Go1.ret1 Try.func19 rfl ?_
    replace hB := (((hB.trans eF.fr).trans m0.fr).trans j9.fr).trans f7.fr
    exact ⟨false, rfl, hB.same, H⟩
   replace H := ifp rfl H
   refine zo (op_not rfl) (zo (op_pickF rfl rfl rfl) (zm rfl (zo (op_fieldAddr Try.underlying29 rfl ti26 rfl (by decide)) (zs (oblk (i := 4) 1 hO rfl rfl Try.underlying26 rfl rfl) (zo (op_fieldAddr Try.underlying29 rfl ti26 rfl (by decide)) ?_)))))
   refine zs (oblk (i := 4) 0 hO rfl rfl Try.underlying26 rfl rfl) ?_
   have Z12 := Z11.trans f7.ch
   replace ag := ag.ch Z12
   replace cH := cH.ch Z12
   refine GoR.call (op_call body34 rfl (walk_ref03_Same hO.lt ag cH H)) rfl rfl ?_
   rintro v79 w76 ⟨r75, rfl, FY, H⟩
   have jf := Stp.same hO FY
   replace hO := jf.own
   cases r75
   ·replace H := ifn Bool.false_ne_true H
    refine zo (op_not rfl) (zo (op_pickF rfl rfl rfl) (zm rfl (zp (zp (zp ?_)))))
    refine zp (zp (zp (zo (op_pickT rfl rfl rfl) (zm rfl (zp ?_)))))
    refine zp (zp (zp (zp (zp (zo (op_pickT rfl rfl rfl) ?_)))))
    refine zm rfl (zp (zp (zp (zp (zp ?_)))))
    refine zp (zp (zo (op_pickT rfl rfl rfl) (zn (zt rfl rfl (zq ?_)))))
    refine Go1.cut [] trivial ?_
    intro σ _
    refine zr (za rfl (zn ?_))
    refine Go1.ret1 Try.func19 rfl ?_
    replace hB := ((((hB.trans eF.fr).trans m0.fr).trans j9.fr).trans f7.fr).trans jf.fr
    exact ⟨false, rfl, hB.same, H⟩
   replace H := ifp rfl H
   refine zo (op_not rfl) (zo (op_pickF rfl rfl rfl) (zm rfl (zo (op_fieldAddr Try.underlying29 rfl ti26 rfl (by decide)) (zs (oblk (i := 5) 1 hO rfl rfl Try.underlying26 rfl rfl) (zo (op_fieldAddr Try.underlying29 rfl ti26 rfl (by decide)) ?_)))))
   refine zs (oblk (i := 5) 0 hO rfl rfl Try.underlying26 rfl rfl) ?_
   have Z13 := Z12.trans jf.ch
   replace ay := ay.ch Z13
   replace dz := dz.ch Z13
   refine GoR.call (op_call body34 rfl (walk_ref03_Same hO.lt ay dz H)) rfl rfl ?_
   rintro v85 w82 ⟨r81, rfl, G4, H⟩
   have eh := Stp.same hO G4
   replace hO := eh.own
   cases r81
   ·replace H := ifn Bool.false_ne_true H
    refine zo (op_not rfl) (zo (op_pickF rfl rfl rfl) (zm rfl (zp (zp (zp ?_)))))
    refine zp (zp (zp (zo (op_pickT rfl rfl rfl) (zm rfl (zp ?_)))))
    refine zp (zp (zp (zp (zp (zp ?_)))))
    refine zo (op_pickT rfl rfl rfl) (zn (zt rfl rfl (zq ?_)))
    refine Go1.cut [] trivial ?_
    intro σ _
    refine zr (za rfl (zn ?_))
    refine Go1.ret1 Try.func19 rfl ?_
    replace hB := (((((hB.trans eF.fr).trans m0.fr).trans j9.fr).trans f7.fr).trans jf.fr).trans eh.fr
    exact ⟨false, rfl, hB.same, H⟩
   replace H := ifp rfl H
   refine zo (op_not rfl) (zo (op_pickF rfl rfl rfl) (zm rfl (zo (op_fieldAddr Try.underlying29 rfl ti22 rfl (by decide)) (zs (oblk (i := 6) 1 hO rfl rfl Try.underlying22 rfl rfl) (zo (op_fieldAddr Try.underlying29 rfl ti22 rfl (by decide)) ?_)))))
   refine zs (oblk (i := 6) 0 hO rfl rfl Try.underlying22 rfl rfl) ?_
   have Z14 := Z13.trans eh.ch
   replace ao := ao.ch Z14
   replace dh := dh.ch Z14
   refine GoR.call (op_call body45 rfl (walk_ref03_SameRows hO.lt ao dh H)) rfl rfl ?_
   rintro v91 w88 ⟨r87, rfl, SG, H⟩
   have nP := Stp.same hO SG
   replace hO := nP.own
   cases r87
   ·replace H := ifn Bool.false_ne_true H
    refine zo (op_not rfl) (zo (op_pickF rfl rfl rfl) (zm rfl (zp (zp (zp ?_)))))
    refine zp (zp (zp (zp (zo (op_pickT rfl rfl rfl) (zn ?_)))))
    refine zt rfl rfl (zq ?_)
    refine Go1.cut [] trivial ?_
    intro σ _
    refine zr (za rfl (zn ?_))
    refine Go1.ret1 Try.func19 rfl ?_
    replace hB := ((((((hB.trans eF.fr).trans m0.fr).trans j9.fr).trans f7.fr).trans jf.fr).trans eh.fr).trans nP.fr
    exact ⟨false, rfl, hB.same, H⟩
   replace H := ifp rfl H
   refine zo (op_not rfl) (zo (op_pickF rfl rfl rfl) (zm rfl (zo (op_fieldAddr Try.underlying29 rfl ti27 rfl (by decide)) (zs (oblk (i := 7) 1 hO rfl rfl Try.underlying27 rfl rfl) (zo (op_len Try.underlying27 rfl) ?_)))))
   replace ah := (ah.ch Z14).ch nP.ch
   replace H := H ah.bd
   refine zo (op_fieldAddr Try.underlying29 rfl ti27 rfl (by decide)) (zs (oblk (i := 7) 0 hO rfl rfl Try.underlying27 rfl rfl) (zo (op_len Try.underlying27 rfl) ?_))
   replace cD := (cD.ch Z14).ch nP.ch
   replace H := H cD.bd
   by_cases h93 : (a0.Rules.length : Int) = (a1.Rules.length : Int)
   ·replace H := ifp h93 H
    refine zo (fun w => opB (op_neq rfl rfl w) (ndT h93)) (zo (op_pickF rfl rfl rfl) (zn (zf rfl rfl (zk (zq ?_)))))
    refine zq (zr (zo (op_fieldAddr Try.underlying29 rfl ti27 rfl (by decide)) (zs (oblk (i := 7) 1 hO rfl rfl Try.underlying27 rfl rfl) (zo (op_len Try.underlying27 rfl) (zm rfl ?_)))))
    refine zn (zb ?_)
    replace ao := ao.ch nP.ch
    replace dh := dh.ch nP.ch
    have Z15 := eh.ch.trans nP.ch
    replace ay := ay.ch Z15
    replace dz := dz.ch Z15
    have Z16 := (jf.ch.trans eh.ch).trans nP.ch
    replace ag := ag.ch Z16
    replace cH := cH.ch Z16
    have Z17 := ((f7.ch.trans jf.ch).trans eh.ch).trans nP.ch
    replace am := am.ch Z17
    replace dg := dg.ch Z17
    have Z18 := (((j9.ch.trans f7.ch).trans jf.ch).trans eh.ch).trans nP.ch
    replace ac := ac.ch Z18
    replace dy := dy.ch Z18
    replace hB := ((((((hB.trans eF.fr).trans m0.fr).trans j9.fr).trans f7.fr).trans jf.fr).trans eh.fr).trans nP.fr
    refine Go1.loopW (S := Nat) (fun s σ w => agrees σ [(2, .pointer (some ⟨B2, 0, none⟩)), (3, .pointer (some ⟨B8, 0, none⟩)), (76, .int .i64 (a0.Rules.length : Int)), (77, .int .i64 (s : Int))] ∧ (fun Z0 => Owns w0.heap.size w Z0 A ∧ ISl (Rp.sl (Rp.int .i64)) (bl Z0 ++ A) w ap aq a0.Gens ∧ ISl (Rp.sl (Rp.int .i64)) (bl Z0 ++ A) w bY b5 a0.Elems ∧ ISl (Rp.int .i64) (bl Z0 ++ A) w bE bF a0.Prefix ∧ ISl (Rp.int .i64) (bl Z0 ++ A) w cq cr a0.Last ∧ ISl (Rp.sl (Rp.int .i64)) (bl Z0 ++ A) w b6 b7 a0.Right ∧ ISl (rpRule) (bl Z0 ++ A) w b8 b9 a0.Rules ∧ ISl (Rp.sl (Rp.int .i64)) (bl Z0 ++ A) w dD dE a1.Gens ∧ ISl (Rp.sl (Rp.int .i64)) (bl Z0 ++ A) w dq dr a1.Elems ∧ ISl (Rp.int .i64) (bl Z0 ++ A) w cX cY a1.Prefix ∧ ISl (Rp.int .i64) (bl Z0 ++ A) w dF dG a1.Last ∧ ISl (Rp.sl (Rp.int .i64)) (bl Z0 ++ A) w dt du a1.Right ∧ ISl (rpRule) (bl Z0 ++ A) w dw dx a1.Rules ∧ Fr (bl []) w0 (bl Z0) w) [.blk B8 (.cells #[.int .i64 a1.Points, .bool a1.Monoid, .slice dD a1.Gens.length dE, .slice dq a1.Elems.length dr, .slice cX a1.Prefix.length cY, .slice dF a1.Last.length dG, .slice dt a1.Right.length du, .slice dw a1.Rules.length dx, .int .i64 a1.Done] 29 (0, 0)), .blk B2 (.cells #[.int .i64 a0.Points, .bool a0.Monoid, .slice ap a0.Gens.length aq, .slice bY a0.Elems.length b5, .slice bE a0.Prefix.length bF, .slice cq a0.Last.length cr, .slice b6 a0.Right.length b7, .slice b8 a0.Rules.length b9, .int .i64 a0.Done] 29 (0, 0))]) H ⟨⟨rfl, rfl, rfl, rfl, trivial⟩, hO, ac, am, ag, ay, ao, ah, dy, dg, cH, dz, dh, cD, hB⟩ ?_
    intro X2 k2_95
    intro H hX2 σ w94
    refine andE fun hag => andE fun hO => andE fun ac => andE fun am => andE fun ag => andE fun ay => andE fun ao => andE fun ah => andE fun dy => andE fun dg => andE fun cH => andE fun dz => andE fun dh => andE fun cD => fun hB => ?_
    refine Go1.keep [(2, .pointer (some ⟨B2, 0, none⟩)), (3, .pointer (some ⟨B8, 0, none⟩)), (76, .int .i64 (a0.Rules.length : Int)), (77, .int .i64 (k2_95 : Int))] hag ?_
    refine zq (zr ?_)
    by_cases h96 : (k2_95 : Int) < (a0.Rules.length : Int)
    ·replace H := ifp h96 H
     refine zo (fun w => opB (op_lss rfl rfl w) (decide_eq_true h96)) (zn (zq (zt rfl rfl (zk (zq ?_)))))
     refine zb (zq (zr (zm rfl (za rfl (zn ?_)))))
     refine zq ?_
     refine Go1.drawS 0 [(0, .pure), (1, .stable), (2, .pure), (3, .pure), (4, .stable), (5, .pure), (6, .stable), (7, .pure), (8, .pure), (9, .stable), (10, .pure)] mixed (by kernel_rfl) ?_
     intro w97 SJ
     have t5 := Stp.same hO SJ
     replace hO := t5.own
     refine GoQ.pure rfl (op_fieldAddr Try.underlying29 rfl ti27 rfl (by decide)) rfl rfl ?_
     refine GoQ.stable rfl (oblk (i := 7) 1 hO rfl rfl Try.underlying27 rfl rfl) rfl rfl ?_
     refine GoQ.pure rfl (op_move rfl) rfl rfl ?_
     obtain ⟨AV, H⟩ := H
     obtain ⟨AW, H⟩ := H
     replace ah := ah.ch t5.ch
     refine GoQ.pure rfl (op_index Try.underlying27 ti39 rfl rfl AV AW (ah.some_ AV AW)) rfl rfl ?_
     have hok102 := ldFlatOk ah AV AW
     refine GoQ.stable rfl (ldFlat ah AV AW Try.underlying39 rfl ti39 rfl) rfl rfl ?_
     refine GoQ.pure rfl (op_fieldAddr Try.underlying29 rfl ti27 rfl (by decide)) rfl rfl ?_
     refine GoQ.stable rfl (oblk (i := 7) 0 hO rfl rfl Try.underlying27 rfl rfl) rfl rfl ?_
     refine GoQ.pure rfl (op_move rfl) rfl rfl ?_
     obtain ⟨Fv, H⟩ := H
     obtain ⟨zL, H⟩ := H
     replace cD := cD.ch t5.ch
     refine GoQ.pure rfl (op_index Try.underlying27 ti39 rfl rfl Fv zL (cD.some_ Fv zL)) rfl rfl ?_
     have hok105 := ldFlatOk cD Fv zL
     refine GoQ.stable rfl (ldFlat cD Fv zL Try.underlying39 rfl ti39 rfl) rfl rfl ?_
     by_cases xt : (((ix a0.Rules (k2_95 : Int)).Left) = ((ix a1.Rules (k2_95 : Int)).Left) ∧ ((ix a0.Rules (k2_95 : Int)).Right) = ((ix a1.Rules (k2_95 : Int)).Right))
     ·replace H := ifp xt H
      refine GoQ.pure rfl (fun w => opB (op_neqSS Try.underlying39 eqh39 eqg39 (by decide) (by decide) rfl rfl Try.underlying9 Try.underlying9 rfl rfl w) (ndT xt)) rfl rfl ?_
      refine GoQ.nil ?_
      refine zf rfl rfl (zk ?_)
      refine Go1.inBlock ?_
      refine zr (zo (op_add rfl rfl (wrap_i64 (natbd h96 ah.bd))) (zm rfl (zn ?_)))
      replace ac := ac.ch t5.ch
      replace am := am.ch t5.ch
      replace ag := ag.ch t5.ch
      replace ay := ay.ch t5.ch
      replace ao := ao.ch t5.ch
      replace dy := dy.ch t5.ch
      replace dg := dg.ch t5.ch
      replace cH := cH.ch t5.ch
      replace dz := dz.ch t5.ch
      replace dh := dh.ch t5.ch
      replace hB := hB.trans t5.fr
      exact hX2 _ H _ _ ⟨⟨rfl, rfl, rfl, rfl, trivial⟩, hO, ac, am, ag, ay, ao, ah, dy, dg, cH, dz, dh, cD, hB⟩
     replace H := ifn xt H
     refine GoQ.pure rfl (fun w => opB (op_neqSS Try.underlying39 eqh39 eqg39 (by decide) (by decide) rfl rfl Try.underlying9 Try.underlying9 rfl rfl w) (ndF xt)) rfl rfl ?_
     refine GoQ.nil ?_
     refine zt rfl rfl (zq (zr (za rfl (zn ?_))))
     refine Go1.ret1 Try.func19 rfl ?_
     replace hB := hB.trans t5.fr
     exact ⟨false, rfl, hB.same, H⟩
    replace H := ifn h96 H
    refine zo (fun w => opB (op_lss rfl rfl w) (decide_eq_false h96)) (zn (zq (zf rfl rfl ?_)))
    refine Go1.exit rfl ?_
    refine zq (zr (za rfl (zn ?_)))
    refine Go1.ret1 Try.func19 rfl ?_
    exact ⟨true, rfl, hB.same, H⟩
   replace H := ifn h93 H
   refine zo (fun w => opB (op_neq rfl rfl w) (ndF h93)) (zo (op_pickF rfl rfl rfl) (zn (zt rfl rfl (zq ?_))))
   refine Go1.cut [] trivial ?_
   intro σ _
   refine zr (za rfl (zn ?_))
   refine Go1.ret1 Try.func19 rfl ?_
   replace hB := ((((((hB.trans eF.fr).trans m0.fr).trans j9.fr).trans f7.fr).trans jf.fr).trans eh.fr).trans nP.fr
   exact ⟨false, rfl, hB.same, H⟩
  replace H := ifn h62 H
  refine zo (fun w => opB (op_neq rfl rfl w) (ndF h62)) (zo (op_pickF rfl rfl rfl) (zm rfl (zp (zp (zp ?_)))))
  refine zp (zp (zp (zo (op_pickT rfl rfl rfl) (zm rfl (zp ?_)))))
  refine zp (zp (zp (zp (zp (zo (op_pickT rfl rfl rfl) ?_)))))
  refine zm rfl (zp (zp (zp (zp (zp ?_)))))
  refine zp (zo (op_pickT rfl rfl rfl) (zm rfl (zp (zp (zp ?_)))))
  refine zp (zp (zp (zo (op_pickT rfl rfl rfl) (zm rfl (zp ?_)))))
  refine zp (zp (zp (zp (zp (zo (op_pickT rfl rfl rfl) ?_)))))
  refine zm rfl (zp (zp (zp (zp (zp ?_)))))
  refine zp (zp (zo (op_pickT rfl rfl rfl) (zn (zt rfl rfl (zq ?_)))))
  refine Go1.cut [] trivial ?_
  intro σ _
  refine zr (za rfl (zn ?_))
  refine Go1.ret1 Try.func19 rfl ?_
  replace hB := (hB.trans eF.fr).trans m0.fr
  exact ⟨false, rfl, hB.same, H⟩
 replace H := ifn h13 H
 refine zo (fun w => opB (op_neq rfl rfl w) (ndF h13)) (zm rfl (zp (zp (zp (zp ?_)))))
 refine zp (zo (op_pickT rfl rfl rfl) (zm rfl (zp (zp (zp ?_)))))
 refine zp (zp (zo (op_pickT rfl rfl rfl) (zm rfl (zp (zp ?_)))))
 refine zp (zp (zp (zp (zo (op_pickT rfl rfl rfl) (zm rfl ?_)))))
 refine zp (zp (zp (zp (zp (zp ?_)))))
 refine zo (op_pickT rfl rfl rfl) (zm rfl (zp (zp (zp (zp ?_)))))
 refine zp (zp (zo (op_pickT rfl rfl rfl) (zm rfl (zp (zp ?_)))))
 refine zp (zp (zp (zp (zo (op_pickT rfl rfl rfl) (zm rfl ?_)))))
 refine zp (zp (zp (zp (zp (zp ?_)))))
 refine zo (op_pickT rfl rfl rfl) (zm rfl (zp (zp (zp (zp ?_)))))
 refine zp (zp (zp (zo (op_pickT rfl rfl rfl) (zn (zt rfl rfl ?_)))))
 refine zq ?_
 refine Go1.cut [] trivial ?_
 intro σ _
 refine zr (za rfl (zn ?_))
 refine Go1.ret1 Try.func19 rfl ?_
 replace hB := (hB.trans eF.fr).trans m0.fr
 exact ⟨false, rfl, hB.same, H⟩
theorem walk_law12_EnumerateBuilds {A : List Nat} {w0 : World} {iI : Option Addr} {iJ : Nat} {gens : List (List Int)} {monoid : Bool} (hA : ∀ b ∈ A, b < w0.heap.size) (bC : ISl (Rp.sl (Rp.int .i64)) A w0 iI iJ gens) {K : Bool → Prop} (H : law12_EnumerateBuilds gens monoid K) :
    CallsV Try.prog 3 #[.slice iI gens.length iJ, .bool monoid] w0 (fun v w' => ∃ (r0 : Bool), v = .bool r0 ∧ Same w0 w' ∧ K r0) := by
 refine CallsV.of (l := [.slice iI gens.length iJ, .bool monoid]) Try.func3 rfl Try.ntmps3 rfl ?_
 have hO := Owns.start hA
 have hB := Fr.refl (bl []) w0
 unfold law12_EnumerateBuilds at H
 refine zq (zr (za rfl (zn (zq (zq ?_)))))
 refine zr (zm rfl ?_)
 replace bC := bC.ch (Ch.start A w0)
 refine GoR.call (op_call body14 rfl (walk_ref11_MayGens hO.lt bC H)) rfl rfl ?_
 rintro v5 w2 ⟨r1, rfl, hs3, H⟩
 have yJ := Stp.same hO hs3
 replace hO := yJ.own
 refine zm rfl ?_
 cases r1
 ·replace H := ifn Bool.false_ne_true H
  refine zp (zp (zp (zo (op_pickF rfl rfl rfl) (zn (zf rfl rfl ?_)))))
  refine zk (zq (zr (zm rfl (zm rfl ?_))))
  replace bC := bC.ch yJ.ch
  refine GoR.call (op_call body17 rfl (walk_enumerate_Build hO.lt bC H)) rfl rfl ?_
  rintro v12 w9 ⟨r7, r8, ui, uj, se, sf, qp, qq, uk, ul, sg, si, sj, sk, rfl, AF, eQ, d6, dK, eU, d7, d8, H⟩
  have qt := Stp.same hO AF
  replace hO := qt.own
  refine zm rfl (zo (op_extract rfl rfl) (zo (op_extract rfl rfl) ?_))
  have hobt := oalloc (t := 29) (cs := #[.int .i64 (0 : Int), .bool false, .slice none 0 0, .slice none 0 0, .slice none 0 0, .slice none 0 0, .slice none 0 0, .slice none 0 0, .int .i64 (0 : Int)]) ti29 hO rfl
  obtain ⟨w14, B15, oL, GK, Fu⟩ := hobt
  refine GoR.op Fu rfl rfl ?_
  replace hO := oL.own
  have hobt := oblkStAgg (us := [.int .i64 r7.Points, .bool r7.Monoid, .slice ui r7.Gens.length uj, .slice se r7.Elems.length sf, .slice qp r7.Prefix.length qq, .slice uk r7.Last.length ul, .slice sg r7.Right.length si, .slice sj r7.Rules.length sk, .int .i64 r7.Done]) (o := 0) (cs' := #[.int .i64 r7.Points, .bool r7.Monoid, .slice ui r7.Gens.length uj, .slice se r7.Elems.length sf, .slice qp r7.Prefix.length qq, .slice uk r7.Last.length ul, .slice sg r7.Right.length si, .slice sj r7.Rules.length sk, .int .i64 r7.Done]) 0 hO rfl rfl (Nat.le_of_ble_eq_true rfl) rfl
  obtain ⟨w20, gS, Cc⟩ := hobt
  refine zg (Cc ti29 (by exact rfl) (by exact rfl) rfl) ?_
  replace hO := gS.own
  refine za rfl (zn (zq (zr (zm rfl (zm rfl ?_)))))
  have Z1 := (qt.ch.trans oL.ch).trans gS.ch
  replace bC := bC.ch Z1
  refine GoR.call (op_call body18 rfl (walk_ref12_Build hO.lt bC H)) rfl rfl ?_
  rintro v28 w25 ⟨r23, r24, Ar, At, y5, y6, yd, ye, Au, Aw, y7, y8, y9, zc, rfl, SK, oM, m8, ml, oN, m9, na, H⟩
  have tR := Stp.same hO SK
  replace hO := tR.own
  refine zm rfl (zo (op_extract rfl rfl) (zo (op_extract rfl rfl) ?_))
  have hobt := oalloc (t := 29) (cs := #[.int .i64 (0 : Int), .bool false, .slice none 0 0, .slice none 0 0, .slice none 0 0, .slice none 0 0, .slice none 0 0, .slice none 0 0, .int .i64 (0 : Int)]) ti29 hO rfl
  obtain ⟨w30, B31, i6, XO, PK⟩ := hobt
  refine GoR.op PK rfl rfl ?_
  replace hO := i6.own
  have hobt := oblkStAgg (us := [.int .i64 r23.Points, .bool r23.Monoid, .slice Ar r23.Gens.length At, .slice y5 r23.Elems.length y6, .slice yd r23.Prefix.length ye, .slice Au r23.Last.length Aw, .slice y7 r23.Right.length y8, .slice y9 r23.Rules.length zc, .int .i64 r23.Done]) (o := 0) (cs' := #[.int .i64 r23.Points, .bool r23.Monoid, .slice Ar r23.Gens.length At, .slice y5 r23.Elems.length y6, .slice yd r23.Prefix.length ye, .slice Au r23.Last.length Aw, .slice y7 r23.Right.length y8, .slice y9 r23.Rules.length zc, .int .i64 r23.Done]) 0 hO rfl rfl (Nat.le_of_ble_eq_true rfl) rfl
  obtain ⟨w36, m6, PM⟩ := hobt
  refine zg (PM ti29 (by exact rfl) (by exact rfl) rfl) ?_
  replace hO := m6.own
  refine za rfl (zn (zq ?_))
  refine Go1.cut [(5, .pointer (some ⟨B15, 0, none⟩)), (6, .int .i64 r8), (7, .pointer (some ⟨B31, 0, none⟩)), (8, .int .i64 r24)] ⟨rfl, rfl, rfl, rfl, trivial⟩ ?_
  intro σ _
  refine zr (zm rfl (zm rfl ?_))
  by_cases h39 : r8 = r24
  ·replace H := ifp h39 H
   refine zo (fun w => opB (op_eql rfl rfl w) (decide_eq_true h39)) (zm rfl (zs (oblkAgg (vs := [.int .i64 r7.Points, .bool r7.Monoid, .slice ui r7.Gens.length uj, .slice se r7.Elems.length sf, .slice qp r7.Prefix.length qq, .slice uk r7.Last.length ul, .slice sg r7.Right.length si, .slice sj r7.Rules.length sk, .int .i64 r7.Done]) (i := 0) 1 hO rfl rfl Try.underlying29 rfl ti29 rfl) (zs (oblkAgg (vs := [.int .i64 r23.Points, .bool r23.Monoid, .slice Ar r23.Gens.length At, .slice y5 r23.Elems.length y6, .slice yd r23.Prefix.length ye, .slice Au r23.Last.length Aw, .slice y7 r23.Right.length y8, .slice y9 r23.Rules.length zc, .int .i64 r23.Done]) (i := 0) 0 hO rfl rfl Try.underlying29 rfl ti29 rfl) ?_)))
   have Z2 := i6.ch.trans m6.ch
   replace oM := oM.ch Z2
   replace m8 := m8.ch Z2
   replace ml := ml.ch Z2
   replace oN := oN.ch Z2
   replace m9 := m9.ch Z2
   replace na := na.ch Z2
   have Z3 := (((oL.ch.trans gS.ch).trans tR.ch).trans i6.ch).trans m6.ch
   replace eQ := eQ.ch Z3
   replace d6 := d6.ch Z3
   replace dK := dK.ch Z3
   replace eU := eU.ch Z3
   replace d7 := d7.ch Z3
   replace d8 := d8.ch Z3
   refine GoR.call (op_call body19 rfl (walk_ref12_Same (a0 := r7) (a1 := r23) hO.lt eQ d6 dK eU d7 d8 oM m8 ml oN m9 na H)) rfl rfl ?_
   rintro v44 w41 ⟨r40, rfl, SM, H⟩
   have jO := Stp.same hO SM
   replace hO := jO.own
   refine zo (op_pickT rfl rfl rfl) (zm rfl ?_)
   cases r40
   ·replace H := ifn Bool.false_ne_true H
    refine zp (zo (op_pickF rfl rfl rfl) (za rfl (zn ?_)))
    refine Go1.ret1 Try.func3 rfl ?_
    replace hB := (((((((hB.trans yJ.fr).trans qt.fr).trans oL.fr).trans gS.fr).trans tR.fr).trans i6.fr).trans m6.fr).trans jO.fr
    exact ⟨false, rfl, hB.same, H⟩
   replace H := ifp rfl H
   refine GoR.call (op_call body16 rfl (walk_law12_awake hO.lt H)) rfl rfl ?_
   rintro v50 w47 ⟨r46, rfl, FG, H⟩
   have m3 := Stp.same hO FG
   replace hO := m3.own
   refine zo (op_pickT rfl rfl rfl) (za rfl (zn ?_))
   refine Go1.ret1 Try.func3 rfl ?_
   replace hB := ((((((((hB.trans yJ.fr).trans qt.fr).trans oL.fr).trans gS.fr).trans tR.fr).trans i6.fr).trans m6.fr).trans jO.fr).trans m3.fr
   exact ⟨r46, rfl, hB.same, H⟩
  replace H := ifn h39 H
  refine zo (fun w => opB (op_eql rfl rfl w) (decide_eq_false h39)) (zm rfl (zp (zp (zp (zo (op_pickF rfl rfl rfl) ?_)))))
  refine zm rfl (zp (zo (op_pickF rfl rfl rfl) (za rfl (zn ?_))))
  refine Go1.ret1 Try.func3 rfl ?_
  replace hB := ((((((hB.trans yJ.fr).trans qt.fr).trans oL.fr).trans gS.fr).trans tR.fr).trans i6.fr).trans m6.fr
  exact ⟨false, rfl, hB.same, H⟩
 replace H := ifp rfl H
 refine zm rfl ?_
 replace bC := bC.ch yJ.ch
 refine GoR.call (op_call body15 rfl (walk_law12_little hO.lt bC H)) rfl rfl ?_
 rintro v56 w53 ⟨r52, rfl, SN, H⟩
 have Fw := Stp.same hO SN
 replace hO := Fw.own
 cases r52
 ·replace H := ifn Bool.false_ne_true H
  refine zo (op_not rfl) (zo (op_pickT rfl rfl rfl) (zn (zt rfl rfl (zq ?_))))
  refine Go1.cut [] trivial ?_
  intro σ _
  refine zr ?_
  refine GoR.call (op_call body16 rfl (walk_law12_awake hO.lt H)) rfl rfl ?_
  rintro v62 w59 ⟨r58, rfl, SO, H⟩
  have Fx := Stp.same hO SO
  replace hO := Fx.own
  refine za rfl (zn ?_)
  refine Go1.ret1 Try.func3 rfl ?_
  replace hB := ((hB.trans yJ.fr).trans Fw.fr).trans Fx.fr
  exact ⟨r58, rfl, hB.same, H⟩
 replace H := ifp rfl H
 refine zo (op_not rfl) (zo (op_pickT rfl rfl rfl) (zn (zf rfl rfl (zk (zq ?_)))))
 refine zr (zm rfl (zm rfl ?_))
 replace bC := bC.ch Fw.ch
 refine GoR.call (op_call body17 rfl (walk_enumerate_Build hO.lt bC H)) rfl rfl ?_
 rintro v69 w66 ⟨r64, r65, Ax, Ay, zd, zh, yf, yg, Az, AA, zi, zj, zl, zu, rfl, SP, i7, gO, f6, i8, gP, gQ, H⟩
 have Fy := Stp.same hO SP
 replace hO := Fy.own
 refine zm rfl (zo (op_extract rfl rfl) (zo (op_extract rfl rfl) ?_))
 have hobt := oalloc (t := 29) (cs := #[.int .i64 (0 : Int), .bool false, .slice none 0 0, .slice none 0 0, .slice none 0 0, .slice none 0 0, .slice none 0 0, .slice none 0 0, .int .i64 (0 : Int)]) ti29 hO rfl
 obtain ⟨w71, B72, xU, XP, PN⟩ := hobt
 refine GoR.op PN rfl rfl ?_
 replace hO := xU.own
 have hobt := oblkStAgg (us := [.int .i64 r64.Points, .bool r64.Monoid, .slice Ax r64.Gens.length Ay, .slice zd r64.Elems.length zh, .slice yf r64.Prefix.length yg, .slice Az r64.Last.length AA, .slice zi r64.Right.length zj, .slice zl r64.Rules.length zu, .int .i64 r64.Done]) (o := 0) (cs' := #[.int .i64 r64.Points, .bool r64.Monoid, .slice Ax r64.Gens.length Ay, .slice zd r64.Elems.length zh, .slice yf r64.Prefix.length yg, .slice Az r64.Last.length AA, .slice zi r64.Right.length zj, .slice zl r64.Rules.length zu, .int .i64 r64.Done]) 0 hO rfl rfl (Nat.le_of_ble_eq_true rfl) rfl
 obtain ⟨w77, xV, PO⟩ := hobt
 refine zg (PO ti29 (by exact rfl) (by exact rfl) rfl) ?_
 replace hO := xV.own
 refine za rfl (zn (zq (zr (zm rfl (zm rfl ?_)))))
 have Z4 := (Fy.ch.trans xU.ch).trans xV.ch
 replace bC := bC.ch Z4
 refine GoR.call (op_call body18 rfl (walk_ref12_Build hO.lt bC H)) rfl rfl ?_
 rintro v85 w82 ⟨r80, r81, AB, AC, zw, zx, yh, yi, AD, AE, zy, zA, zB, zC, rfl, G4, oO, nb, mm, oP, nc, ne, H⟩
 have eh := Stp.same hO G4
 replace hO := eh.own
 refine zm rfl (zo (op_extract rfl rfl) (zo (op_extract rfl rfl) ?_))
 have hobt := oalloc (t := 29) (cs := #[.int .i64 (0 : Int), .bool false, .slice none 0 0, .slice none 0 0, .slice none 0 0, .slice none 0 0, .slice none 0 0, .slice none 0 0, .int .i64 (0 : Int)]) ti29 hO rfl
 obtain ⟨w87, B88, nO, XQ, PP⟩ := hobt
 refine GoR.op PP rfl rfl ?_
 replace hO := nO.own
 have hobt := oblkStAgg (us := [.int .i64 r80.Points, .bool r80.Monoid, .slice AB r80.Gens.length AC, .slice zw r80.Elems.length zx, .slice yh r80.Prefix.length yi, .slice AD r80.Last.length AE, .slice zy r80.Right.length zA, .slice zB r80.Rules.length zC, .int .i64 r80.Done]) (o := 0) (cs' := #[.int .i64 r80.Points, .bool r80.Monoid, .slice AB r80.Gens.length AC, .slice zw r80.Elems.length zx, .slice yh r80.Prefix.length yi, .slice AD r80.Last.length AE, .slice zy r80.Right.length zA, .slice zB r80.Rules.length zC, .int .i64 r80.Done]) 0 hO rfl rfl (Nat.le_of_ble_eq_true rfl) rfl
 obtain ⟨w93, sm, PQ⟩ := hobt
 refine zg (PQ ti29 (by exact rfl) (by exact rfl) rfl) ?_
 replace hO := sm.own
 refine za rfl (zn (zq ?_))
 refine Go1.cut [(5, .pointer (some ⟨B72, 0, none⟩)), (6, .int .i64 r65), (7, .pointer (some ⟨B88, 0, none⟩)), (8, .int .i64 r81)] ⟨rfl, rfl, rfl, rfl, trivial⟩ ?_
 intro σ _
 refine zr (zm rfl (zm rfl ?_))
 by_cases h96 : r65 = r81
 ·replace H := ifp h96 H
  refine zo (fun w => opB (op_eql rfl rfl w) (decide_eq_true h96)) (zm rfl (zs (oblkAgg (vs := [.int .i64 r64.Points, .bool r64.Monoid, .slice Ax r64.Gens.length Ay, .slice zd r64.Elems.length zh, .slice yf r64.Prefix.length yg, .slice Az r64.Last.length AA, .slice zi r64.Right.length zj, .slice zl r64.Rules.length zu, .int .i64 r64.Done]) (i := 0) 1 hO rfl rfl Try.underlying29 rfl ti29 rfl) (zs (oblkAgg (vs := [.int .i64 r80.Points, .bool r80.Monoid, .slice AB r80.Gens.length AC, .slice zw r80.Elems.length zx, .slice yh r80.Prefix.length yi, .slice AD r80.Last.length AE, .slice zy r80.Right.length zA, .slice zB r80.Rules.length zC, .int .i64 r80.Done]) (i := 0) 0 hO rfl rfl Try.underlying29 rfl ti29 rfl) ?_)))
  have Z5 := nO.ch.trans sm.ch
  replace oO := oO.ch Z5
  replace nb := nb.ch Z5
  replace mm := mm.ch Z5
  replace oP := oP.ch Z5
  replace nc := nc.ch Z5
  replace ne := ne.ch Z5
  have Z6 := (((xU.ch.trans xV.ch).trans eh.ch).trans nO.ch).trans sm.ch
  replace i7 := i7.ch Z6
  replace gO := gO.ch Z6
  replace f6 := f6.ch Z6
  replace i8 := i8.ch Z6
  replace gP := gP.ch Z6
  replace gQ := gQ.ch Z6
  refine GoR.call (op_call body19 rfl (walk_ref12_Same (a0 := r64) (a1 := r80) hO.lt i7 gO f6 i8 gP gQ oO nb mm oP nc ne H)) rfl rfl ?_
  rintro XR w98 ⟨r97, rfl, SQ, H⟩
  have pt := Stp.same hO SQ
  replace hO := pt.own
  refine zo (op_pickT rfl rfl rfl) (zm rfl ?_)
  cases r97
  ·replace H := ifn Bool.false_ne_true H
   refine zp (zo (op_pickF rfl rfl rfl) (za rfl (zn ?_)))
   refine Go1.ret1 Try.func3 rfl ?_
   replace hB := ((((((((hB.trans yJ.fr).trans Fw.fr).trans Fy.fr).trans xU.fr).trans xV.fr).trans eh.fr).trans nO.fr).trans sm.fr).trans pt.fr
   exact ⟨false, rfl, hB.same, H⟩
  replace H := ifp rfl H
  refine GoR.call (op_call body16 rfl (walk_law12_awake hO.lt H)) rfl rfl ?_
  rintro XS XT ⟨r103, rfl, PR, H⟩
  have pv := Stp.same hO PR
  replace hO := pv.own
  refine zo (op_pickT rfl rfl rfl) (za rfl (zn ?_))
  refine Go1.ret1 Try.func3 rfl ?_
  replace hB := (((((((((hB.trans yJ.fr).trans Fw.fr).trans Fy.fr).trans xU.fr).trans xV.fr).trans eh.fr).trans nO.fr).trans sm.fr).trans pt.fr).trans pv.fr
  exact ⟨r103, rfl, hB.same, H⟩
 replace H := ifn h96 H
 refine zo (fun w => opB (op_eql rfl rfl w) (decide_eq_false h96)) (zm rfl (zp (zp (zp (zo (op_pickF rfl rfl rfl) ?_)))))
 refine zm rfl (zp (zo (op_pickF rfl rfl rfl) (za rfl (zn ?_))))
 refine Go1.ret1 Try.func3 rfl ?_
 replace hB := (((((((hB.trans yJ.fr).trans Fw.fr).trans Fy.fr).trans xU.fr).trans xV.fr).trans eh.fr).trans nO.fr).trans sm.fr
 exact ⟨false, rfl, hB.same, H⟩
end Sg
