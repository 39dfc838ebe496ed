/- The walks: each call keeps to its plain transformer. Printed by walkgen.py. -/
import Derived.Test.YtjegjjdfgefkoaaTi
import Derived.Test.YtjegjjdfgefkoaaWEnumerateBuildsc
import Derived.Test.YtjegjjdfgefkoaaWEnumerateBuildse
import Derived.Test.YtjegjjdfgefkoaaAl
namespace Sg
open Go Go.RowKit Go.Proofs
set_option linter.unusedVariables false
set_option linter.unusedSimpArgs false
set_option maxRecDepth 100000
set_option maxHeartbeats 4000000
theorem body19 : Body Try.prog 19 := ⟨Try.f19, Try.func19, rfl, by kernel_rfl⟩
theorem walk_ref12_Same {A : List Nat} {w0 : World} {az : Option Addr} {aA : Nat} {b6 : Option Addr} {b7 : Nat} {bI : Option Addr} {bK : Nat} {cx : Option Addr} {cy : Nat} {b8 : Option Addr} {b9 : Nat} {ca : Option Addr} {cb : Nat} {dX : Option Addr} {dY : Nat} {dI : Option Addr} {dJ : Nat} {dm : Option Addr} {dn : Nat} {d4 : Option Addr} {d5 : Nat} {dK : Option Addr} {dM : Nat} {dN : Option Addr} {dO : Nat} {a0 : Enum} {a1 : Enum} (hA : ∀ b ∈ A, b < w0.heap.size) (ac : ISl (Rp.sl (Rp.int .i64)) A w0 az aA a0.Gens) (ax : ISl (Rp.sl (Rp.int .i64)) A w0 b6 b7 a0.Elems) (am : ISl (Rp.int .i64) A w0 bI bK a0.Prefix) (aL : ISl (Rp.int .i64) A w0 cx cy a0.Last) (ay : ISl (Rp.sl (Rp.int .i64)) A w0 b8 b9 a0.Right) (ao : ISl (rpRule) A w0 ca cb a0.Rules) (dQ : ISl (Rp.sl (Rp.int .i64)) A w0 dX dY a1.Gens) (dx : ISl (Rp.sl (Rp.int .i64)) A w0 dI dJ a1.Elems) (cS : ISl (Rp.int .i64) A w0 dm dn a1.Prefix) (dR : ISl (Rp.int .i64) A w0 d4 d5 a1.Last) (dy : ISl (Rp.sl (Rp.int .i64)) A w0 dK dM a1.Right) (cM : ISl (rpRule) A w0 dN dO a1.Rules) {K : Bool → Prop} (H : ref12_Same a0 a1 K) :
    CallsV Try.prog 19 #[.agg #[.int .i64 a0.Points, .bool a0.Monoid, .slice az a0.Gens.length aA, .slice b6 a0.Elems.length b7, .slice bI a0.Prefix.length bK, .slice cx a0.Last.length cy, .slice b8 a0.Right.length b9, .slice ca a0.Rules.length cb, .int .i64 a0.Done], .agg #[.int .i64 a1.Points, .bool a1.Monoid, .slice dX a1.Gens.length dY, .slice dI a1.Elems.length dJ, .slice dm a1.Prefix.length dn, .slice d4 a1.Last.length d5, .slice dK a1.Right.length dM, .slice dN a1.Rules.length dO, .int .i64 a1.Done]] w0 (fun v w' => ∃ (r0 : Bool), v = .bool r0 ∧ Same w0 w' ∧ K r0) := by
 refine CallsV.of (l := [.agg #[.int .i64 a0.Points, .bool a0.Monoid, .slice az a0.Gens.length aA, .slice b6 a0.Elems.length b7, .slice bI a0.Prefix.length bK, .slice cx a0.Last.length cy, .slice b8 a0.Right.length b9, .slice ca a0.Rules.length cb, .int .i64 a0.Done], .agg #[.int .i64 a1.Points, .bool a1.Monoid, .slice dX a1.Gens.length dY, .slice dI a1.Elems.length dJ, .slice dm a1.Prefix.length dn, .slice d4 a1.Last.length d5, .slice dK a1.Right.length dM, .slice dN a1.Rules.length dO, .int .i64 a1.Done]]) Try.func19 rfl Try.ntmps19 rfl ?_
 have hO := Owns.start hA
 have hB := Fr.refl (bl []) w0
 unfold ref12_Same at H
 refine zq (zr ?_)
 have hobt := obox (t := 29) (v := .agg #[.int .i64 a0.Points, .bool a0.Monoid, .slice az a0.Gens.length aA, .slice b6 a0.Elems.length b7, .slice bI a0.Prefix.length bK, .slice cx a0.Last.length cy, .slice b8 a0.Right.length b9, .slice ca a0.Rules.length cb, .int .i64 a0.Done]) (cs := #[.int .i64 a0.Points, .bool a0.Monoid, .slice az a0.Gens.length aA, .slice b6 a0.Elems.length b7, .slice bI a0.Prefix.length bK, .slice cx a0.Last.length cy, .slice b8 a0.Right.length b9, .slice ca a0.Rules.length cb, .int .i64 a0.Done]) hO rfl
 obtain ⟨w1, B2, cQ, hs4, rh⟩ := hobt
 refine zg (rh rfl) ?_
 replace hO := cQ.own
 have hobt := obox (t := 29) (v := .agg #[.int .i64 a1.Points, .bool a1.Monoid, .slice dX a1.Gens.length dY, .slice dI a1.Elems.length dJ, .slice dm a1.Prefix.length dn, .slice d4 a1.Last.length d5, .slice dK a1.Right.length dM, .slice dN a1.Rules.length dO, .int .i64 a1.Done]) (cs := #[.int .i64 a1.Points, .bool a1.Monoid, .slice dX a1.Gens.length dY, .slice dI a1.Elems.length dJ, .slice dm a1.Prefix.length dn, .slice d4 a1.Last.length d5, .slice dK a1.Right.length dM, .slice dN a1.Rules.length dO, .int .i64 a1.Done]) hO rfl
 obtain ⟨w7, B8, iq, Hn, BI⟩ := hobt
 refine zg (BI rfl) ?_
 replace hO := iq.own
 refine za rfl (zn (zq (zq (zr (zo (op_fieldAddr Try.underlying29 rfl ti3 rfl (by decide)) ?_)))))
 refine zs (oblk (i := 0) 1 hO rfl rfl Try.underlying3 rfl rfl) (zo (op_fieldAddr Try.underlying29 rfl ti3 rfl (by decide)) (zs (oblk (i := 0) 0 hO rfl rfl Try.underlying3 rfl rfl) ?_))
 by_cases h13 : a0.Points = a1.Points
 ·replace H := ifp h13 H
  refine zo (fun w => opB (op_neq rfl rfl w) (ndT h13)) (zm rfl (zo (op_fieldAddr Try.underlying29 rfl ti4 rfl (by decide)) ?_))
  by_cases h14 : a0.Monoid = true
  ·replace H := ifp h14 H
   refine zg (opB ((oblk (i := 1) 1 hO rfl rfl Try.underlying4 rfl rfl) _ (Same.refl _)) (h14)) (zo (op_fieldAddr Try.underlying29 rfl ti4 rfl (by decide)) ?_)
   by_cases h15 : a1.Monoid = true
   ·replace H := ifp h15 H
    refine zg (opB ((oblk (i := 1) 0 hO rfl rfl Try.underlying4 rfl rfl) _ (Same.refl _)) (h15)) (zo (op_neqB Try.underlying4 rfl rfl) (zo (op_pickF rfl rfl rfl) (zm rfl (zo (op_fieldAddr Try.underlying29 rfl ti3 rfl (by decide)) (zs (oblk (i := 8) 1 hO rfl rfl Try.underlying3 rfl rfl) ?_)))))
    refine zo (op_fieldAddr Try.underlying29 rfl ti3 rfl (by decide)) (zs (oblk (i := 8) 0 hO rfl rfl Try.underlying3 rfl rfl) ?_)
    by_cases h16 : a0.Done = a1.Done
    ·replace H := ifp h16 H
     refine zo (fun w => opB (op_neq rfl rfl w) (ndT h16)) (zo (op_pickF rfl rfl rfl) (zm rfl (zo (op_fieldAddr Try.underlying29 rfl ti22 rfl (by decide)) (zs (oblk (i := 2) 1 hO rfl rfl Try.underlying22 rfl rfl) (zo (op_fieldAddr Try.underlying29 rfl ti22 rfl (by decide)) ?_)))))
     refine zs (oblk (i := 2) 0 hO rfl rfl Try.underlying22 rfl rfl) ?_
     have Z1 := ((Ch.start A w0).trans cQ.ch).trans iq.ch
     replace ac := ac.ch Z1
     replace dQ := dQ.ch Z1
     refine GoR.call (op_call body45 rfl (walk_ref03_SameRows hO.lt ac dQ H)) rfl rfl ?_
     rintro v21 w18 ⟨r17, rfl, Jt, H⟩
     have d9 := Stp.same hO Jt
     replace hO := d9.own
     cases r17
     ·replace H := ifn Bool.false_ne_true H
      refine zo (op_not rfl) (zo (op_pickF rfl rfl rfl) (zm rfl (zp (zp (zp ?_)))))
      refine zp (zp (zp (zo (op_pickT rfl rfl rfl) (zm rfl (zp ?_)))))
      refine zp (zp (zp (zp (zp (zo (op_pickT rfl rfl rfl) ?_)))))
      refine zm rfl (zp (zp (zp (zp (zp ?_)))))
      refine zp (zo (op_pickT rfl rfl rfl) (zm rfl (zp (zp (zp ?_)))))
      refine zp (zp (zp (zo (op_pickT rfl rfl rfl) (zm rfl (zp ?_)))))
      refine zp (zp (zp (zp (zp (zp ?_)))))
      refine zo (op_pickT rfl rfl rfl) (zn (zt rfl rfl (zq ?_)))
      refine Go1.cut [] trivial ?_
      intro σ _
      refine zr (za rfl (zn ?_))
      refine Go1.ret1 Try.func19 rfl ?_
      replace hB := ((hB.trans cQ.fr).trans iq.fr).trans d9.fr
      exact ⟨false, rfl, hB.same, H⟩
     replace H := ifp rfl H
     refine zo (op_not rfl) (zo (op_pickF rfl rfl rfl) (zm rfl (zo (op_fieldAddr Try.underlying29 rfl ti22 rfl (by decide)) (zs (oblk (i := 3) 1 hO rfl rfl Try.underlying22 rfl rfl) (zo (op_fieldAddr Try.underlying29 rfl ti22 rfl (by decide)) ?_)))))
     refine zs (oblk (i := 3) 0 hO rfl rfl Try.underlying22 rfl rfl) ?_
     have Z2 := Z1.trans d9.ch
     replace ax := ax.ch Z2
     replace dx := dx.ch Z2
     refine GoR.call (op_call body45 rfl (walk_ref03_SameRows hO.lt ax dx H)) rfl rfl ?_
     rintro v27 w24 ⟨r23, rfl, JB, H⟩
     have fM := Stp.same hO JB
     replace hO := fM.own
     cases r23
     ·replace H := ifn Bool.false_ne_true H
      refine zo (op_not rfl) (zo (op_pickF rfl rfl rfl) (zm rfl (zp (zp (zp ?_)))))
      refine zp (zp (zp (zo (op_pickT rfl rfl rfl) (zm rfl (zp ?_)))))
      refine zp (zp (zp (zp (zp (zo (op_pickT rfl rfl rfl) ?_)))))
      refine zm rfl (zp (zp (zp (zp (zp ?_)))))
      refine zp (zo (op_pickT rfl rfl rfl) (zm rfl (zp (zp (zp ?_)))))
      refine zp (zp (zp (zp (zo (op_pickT rfl rfl rfl) (zn ?_)))))
      refine zt rfl rfl (zq ?_)
      refine Go1.cut [] trivial ?_
      intro σ _
      refine zr (za rfl (zn ?_))
      refine Go1.ret1 Try.func19 rfl ?_
      replace hB := (((hB.trans cQ.fr).trans iq.fr).trans d9.fr).trans fM.fr
      exact ⟨false, rfl, hB.same, H⟩
     replace H := ifp rfl H
     refine zo (op_not rfl) (zo (op_pickF rfl rfl rfl) (zm rfl (zo (op_fieldAddr Try.underlying29 rfl ti26 rfl (by decide)) (zs (oblk (i := 4) 1 hO rfl rfl Try.underlying26 rfl rfl) (zo (op_fieldAddr Try.underlying29 rfl ti26 rfl (by decide)) ?_)))))
     refine zs (oblk (i := 4) 0 hO rfl rfl Try.underlying26 rfl rfl) ?_
     have Z3 := Z2.trans fM.ch
     replace am := am.ch Z3
     replace cS := cS.ch Z3
     refine GoR.call (op_call body34 rfl (walk_ref03_Same hO.lt am cS H)) rfl rfl ?_
     rintro v33 w30 ⟨r29, rfl, acp, H⟩
     have xt := Stp.same hO acp
     replace hO := xt.own
     cases r29
     ·replace H := ifn Bool.false_ne_true H
      refine zo (op_not rfl) (zo (op_pickF rfl rfl rfl) (zm rfl (zp (zp (zp ?_)))))
      refine zp (zp (zp (zo (op_pickT rfl rfl rfl) (zm rfl (zp ?_)))))
      refine zp (zp (zp (zp (zp (zo (op_pickT rfl rfl rfl) ?_)))))
      refine zm rfl (zp (zp (zp (zp (zp ?_)))))
      refine zp (zp (zo (op_pickT rfl rfl rfl) (zn (zt rfl rfl (zq ?_)))))
      refine Go1.cut [] trivial ?_
      intro σ _
      refine zr (za rfl (zn ?_))
      refine Go1.ret1 Try.func19 rfl ?_
      replace hB := ((((hB.trans cQ.fr).trans iq.fr).trans d9.fr).trans fM.fr).trans xt.fr
      exact ⟨false, rfl, hB.same, H⟩
     replace H := ifp rfl H
     refine zo (op_not rfl) (zo (op_pickF rfl rfl rfl) (zm rfl (zo (op_fieldAddr Try.underlying29 rfl ti26 rfl (by decide)) (zs (oblk (i := 5) 1 hO rfl rfl Try.underlying26 rfl rfl) (zo (op_fieldAddr Try.underlying29 rfl ti26 rfl (by decide)) ?_)))))
     refine zs (oblk (i := 5) 0 hO rfl rfl Try.underlying26 rfl rfl) ?_
     have Z4 := Z3.trans xt.ch
     replace aL := aL.ch Z4
     replace dR := dR.ch Z4
     refine GoR.call (op_call body34 rfl (walk_ref03_Same hO.lt aL dR H)) rfl rfl ?_
     rintro v39 w36 ⟨r35, rfl, acq, H⟩
     have mQ := Stp.same hO acq
     replace hO := mQ.own
     cases r35
     ·replace H := ifn Bool.false_ne_true H
      refine zo (op_not rfl) (zo (op_pickF rfl rfl rfl) (zm rfl (zp (zp (zp ?_)))))
      refine zp (zp (zp (zo (op_pickT rfl rfl rfl) (zm rfl (zp ?_)))))
      refine zp (zp (zp (zp (zp (zp ?_)))))
      refine zo (op_pickT rfl rfl rfl) (zn (zt rfl rfl (zq ?_)))
      refine Go1.cut [] trivial ?_
      intro σ _
      refine zr (za rfl (zn ?_))
      refine Go1.ret1 Try.func19 rfl ?_
      replace hB := (((((hB.trans cQ.fr).trans iq.fr).trans d9.fr).trans fM.fr).trans xt.fr).trans mQ.fr
      exact ⟨false, rfl, hB.same, H⟩
     replace H := ifp rfl H
     refine zo (op_not rfl) (zo (op_pickF rfl rfl rfl) (zm rfl (zo (op_fieldAddr Try.underlying29 rfl ti22 rfl (by decide)) (zs (oblk (i := 6) 1 hO rfl rfl Try.underlying22 rfl rfl) (zo (op_fieldAddr Try.underlying29 rfl ti22 rfl (by decide)) ?_)))))
     refine zs (oblk (i := 6) 0 hO rfl rfl Try.underlying22 rfl rfl) ?_
     have Z5 := Z4.trans mQ.ch
     replace ay := ay.ch Z5
     replace dy := dy.ch Z5
     refine GoR.call (op_call body45 rfl (walk_ref03_SameRows hO.lt ay dy H)) rfl rfl ?_
     rintro v45 w42 ⟨r41, rfl, acr, H⟩
     have xv := Stp.same hO acr
     replace hO := xv.own
     cases r41
     ·replace H := ifn Bool.false_ne_true H
      refine zo (op_not rfl) (zo (op_pickF rfl rfl rfl) (zm rfl (zp (zp (zp ?_)))))
      refine zp (zp (zp (zp (zo (op_pickT rfl rfl rfl) (zn ?_)))))
      refine zt rfl rfl (zq ?_)
      refine Go1.cut [] trivial ?_
      intro σ _
      refine zr (za rfl (zn ?_))
      refine Go1.ret1 Try.func19 rfl ?_
      replace hB := ((((((hB.trans cQ.fr).trans iq.fr).trans d9.fr).trans fM.fr).trans xt.fr).trans mQ.fr).trans xv.fr
      exact ⟨false, rfl, hB.same, H⟩
     replace H := ifp rfl H
     refine zo (op_not rfl) (zo (op_pickF rfl rfl rfl) (zm rfl (zo (op_fieldAddr Try.underlying29 rfl ti27 rfl (by decide)) (zs (oblk (i := 7) 1 hO rfl rfl Try.underlying27 rfl rfl) (zo (op_len Try.underlying27 rfl) ?_)))))
     replace ao := (ao.ch Z5).ch xv.ch
     replace H := H ao.bd
     refine zo (op_fieldAddr Try.underlying29 rfl ti27 rfl (by decide)) (zs (oblk (i := 7) 0 hO rfl rfl Try.underlying27 rfl rfl) (zo (op_len Try.underlying27 rfl) ?_))
     replace cM := (cM.ch Z5).ch xv.ch
     replace H := H cM.bd
     by_cases h47 : (a0.Rules.length : Int) = (a1.Rules.length : Int)
     ·replace H := ifp h47 H
      refine zo (fun w => opB (op_neq rfl rfl w) (ndT h47)) (zo (op_pickF rfl rfl rfl) (zn (zf rfl rfl (zk (zq ?_)))))
      refine zq (zr (zo (op_fieldAddr Try.underlying29 rfl ti27 rfl (by decide)) (zs (oblk (i := 7) 1 hO rfl rfl Try.underlying27 rfl rfl) (zo (op_len Try.underlying27 rfl) (zm rfl ?_)))))
      refine zn (zb ?_)
      replace ay := ay.ch xv.ch
      replace dy := dy.ch xv.ch
      have Z6 := mQ.ch.trans xv.ch
      replace aL := aL.ch Z6
      replace dR := dR.ch Z6
      have Z7 := (xt.ch.trans mQ.ch).trans xv.ch
      replace am := am.ch Z7
      replace cS := cS.ch Z7
      have Z8 := ((fM.ch.trans xt.ch).trans mQ.ch).trans xv.ch
      replace ax := ax.ch Z8
      replace dx := dx.ch Z8
      have Z9 := (((d9.ch.trans fM.ch).trans xt.ch).trans mQ.ch).trans xv.ch
      replace ac := ac.ch Z9
      replace dQ := dQ.ch Z9
      replace hB := ((((((hB.trans cQ.fr).trans iq.fr).trans d9.fr).trans fM.fr).trans xt.fr).trans mQ.fr).trans xv.fr
      refine Go1.loopW (S := Nat) (fun s σ w => agrees σ [(2, .pointer (some ⟨B2, 0, none⟩)), (3, .pointer (some ⟨B8, 0, none⟩)), (76, .int .i64 (a0.Rules.length : Int)), (77, .int .i64 (s : Int))] ∧ (fun Z0 => Owns w0.heap.size w Z0 A ∧ ISl (Rp.sl (Rp.int .i64)) (bl Z0 ++ A) w az aA a0.Gens ∧ ISl (Rp.sl (Rp.int .i64)) (bl Z0 ++ A) w b6 b7 a0.Elems ∧ ISl (Rp.int .i64) (bl Z0 ++ A) w bI bK a0.Prefix ∧ ISl (Rp.int .i64) (bl Z0 ++ A) w cx cy a0.Last ∧ ISl (Rp.sl (Rp.int .i64)) (bl Z0 ++ A) w b8 b9 a0.Right ∧ ISl (rpRule) (bl Z0 ++ A) w ca cb a0.Rules ∧ ISl (Rp.sl (Rp.int .i64)) (bl Z0 ++ A) w dX dY a1.Gens ∧ ISl (Rp.sl (Rp.int .i64)) (bl Z0 ++ A) w dI dJ a1.Elems ∧ ISl (Rp.int .i64) (bl Z0 ++ A) w dm dn a1.Prefix ∧ ISl (Rp.int .i64) (bl Z0 ++ A) w d4 d5 a1.Last ∧ ISl (Rp.sl (Rp.int .i64)) (bl Z0 ++ A) w dK dM a1.Right ∧ ISl (rpRule) (bl Z0 ++ A) w dN dO a1.Rules ∧ Fr (bl []) w0 (bl Z0) w) [.blk B8 (.cells #[.int .i64 a1.Points, .bool a1.Monoid, .slice dX a1.Gens.length dY, .slice dI a1.Elems.length dJ, .slice dm a1.Prefix.length dn, .slice d4 a1.Last.length d5, .slice dK a1.Right.length dM, .slice dN a1.Rules.length dO, .int .i64 a1.Done] 29 (0, 0)), .blk B2 (.cells #[.int .i64 a0.Points, .bool a0.Monoid, .slice az a0.Gens.length aA, .slice b6 a0.Elems.length b7, .slice bI a0.Prefix.length bK, .slice cx a0.Last.length cy, .slice b8 a0.Right.length b9, .slice ca a0.Rules.length cb, .int .i64 a0.Done] 29 (0, 0))]) H ⟨⟨rfl, rfl, rfl, rfl, trivial⟩, hO, ac, ax, am, aL, ay, ao, dQ, dx, cS, dR, dy, cM, hB⟩ ?_
      intro X1 k1_49
      intro H hX1 σ w48
      refine andE fun hag => andE fun hO => andE fun ac => andE fun ax => andE fun am => andE fun aL => andE fun ay => andE fun ao => andE fun dQ => andE fun dx => andE fun cS => andE fun dR => andE fun dy => andE fun cM => fun hB => ?_
      refine Go1.keep [(2, .pointer (some ⟨B2, 0, none⟩)), (3, .pointer (some ⟨B8, 0, none⟩)), (76, .int .i64 (a0.Rules.length : Int)), (77, .int .i64 (k1_49 : Int))] hag ?_
      refine zq (zr ?_)
      by_cases h50 : (k1_49 : Int) < (a0.Rules.length : Int)
      ·replace H := ifp h50 H
       refine zo (fun w => opB (op_lss rfl rfl w) (decide_eq_true h50)) (zn (zq (zt rfl rfl (zk (zq ?_)))))
       refine zb (zq (zr (zm rfl (za rfl (zn ?_)))))
       refine zq ?_
       refine Go1.drawS 0 [(0, .pure), (1, .stable), (2, .pure), (3, .pure), (4, .stable), (5, .pure), (6, .stable), (7, .pure), (8, .pure), (9, .stable), (10, .pure)] mixed (by kernel_rfl) ?_
       intro w51 Ol
       have xw := Stp.same hO Ol
       replace hO := xw.own
       refine GoQ.pure rfl (op_fieldAddr Try.underlying29 rfl ti27 rfl (by decide)) rfl rfl ?_
       refine GoQ.stable rfl (oblk (i := 7) 1 hO rfl rfl Try.underlying27 rfl rfl) rfl rfl ?_
       refine GoQ.pure rfl (op_move rfl) rfl rfl ?_
       obtain ⟨h54, H⟩ := H
       obtain ⟨h55, H⟩ := H
       replace ao := ao.ch xw.ch
       refine GoQ.pure rfl (op_index Try.underlying27 ti39 rfl rfl h54 h55 (ao.some_ h54 h55)) rfl rfl ?_
       have hok56 := ldFlatOk ao h54 h55
       refine GoQ.stable rfl (ldFlat ao h54 h55 Try.underlying39 rfl ti39 rfl) rfl rfl ?_
       refine GoQ.pure rfl (op_fieldAddr Try.underlying29 rfl ti27 rfl (by decide)) rfl rfl ?_
       refine GoQ.stable rfl (oblk (i := 7) 0 hO rfl rfl Try.underlying27 rfl rfl) rfl rfl ?_
       refine GoQ.pure rfl (op_move rfl) rfl rfl ?_
       obtain ⟨h57, H⟩ := H
       obtain ⟨h58, H⟩ := H
       replace cM := cM.ch xw.ch
       refine GoQ.pure rfl (op_index Try.underlying27 ti39 rfl rfl h57 h58 (cM.some_ h57 h58)) rfl rfl ?_
       have hok59 := ldFlatOk cM h57 h58
       refine GoQ.stable rfl (ldFlat cM h57 h58 Try.underlying39 rfl ti39 rfl) rfl rfl ?_
       by_cases h60 : (((ix a0.Rules (k1_49 : Int)).Left) = ((ix a1.Rules (k1_49 : Int)).Left) ∧ ((ix a0.Rules (k1_49 : Int)).Right) = ((ix a1.Rules (k1_49 : Int)).Right))
       ·replace H := ifp h60 H
        refine GoQ.pure rfl (fun w => opB (op_neqSS Try.underlying39 eqh39 eqg39 (by decide) (by decide) rfl rfl Try.underlying9 Try.underlying9 rfl rfl w) (ndT h60)) rfl rfl ?_
        refine GoQ.nil ?_
        refine zf rfl rfl (zk ?_)
        refine Go1.inBlock ?_
        refine zr (zo (op_add rfl rfl (wrap_i64 (natbd h50 ao.bd))) (zm rfl (zn ?_)))
        replace ac := ac.ch xw.ch
        replace ax := ax.ch xw.ch
        replace am := am.ch xw.ch
        replace aL := aL.ch xw.ch
        replace ay := ay.ch xw.ch
        replace dQ := dQ.ch xw.ch
        replace dx := dx.ch xw.ch
        replace cS := cS.ch xw.ch
        replace dR := dR.ch xw.ch
        replace dy := dy.ch xw.ch
        replace hB := hB.trans xw.fr
        exact hX1 _ H _ _ ⟨⟨rfl, rfl, rfl, rfl, trivial⟩, hO, ac, ax, am, aL, ay, ao, dQ, dx, cS, dR, dy, cM, hB⟩
       replace H := ifn h60 H
       refine GoQ.pure rfl (fun w => opB (op_neqSS Try.underlying39 eqh39 eqg39 (by decide) (by decide) rfl rfl Try.underlying9 Try.underlying9 rfl rfl w) (ndF h60)) rfl rfl ?_
       refine GoQ.nil ?_
       refine zt rfl rfl (zq (zr (za rfl (zn ?_))))
       refine Go1.ret1 Try.func19 rfl ?_
       replace hB := hB.trans xw.fr
       exact ⟨false, rfl, hB.same, H⟩
      replace H := ifn h50 H
      refine zo (fun w => opB (op_lss rfl rfl w) (decide_eq_false h50)) (zn (zq (zf rfl rfl ?_)))
      refine Go1.exit rfl ?_
      refine zq (zr (za rfl (zn ?_)))
      refine Go1.ret1 Try.func19 rfl ?_
      exact ⟨true, rfl, hB.same, H⟩
     replace H := ifn h47 H
     refine zo (fun w => opB (op_neq rfl rfl w) (ndF h47)) (zo (op_pickF rfl rfl rfl) (zn (zt rfl rfl (zq ?_))))
     refine Go1.cut [] trivial ?_
     intro σ _
     refine zr (za rfl (zn ?_))
     refine Go1.ret1 Try.func19 rfl ?_
     replace hB := ((((((hB.trans cQ.fr).trans iq.fr).trans d9.fr).trans fM.fr).trans xt.fr).trans mQ.fr).trans xv.fr
     exact ⟨false, rfl, hB.same, H⟩
    replace H := ifn h16 H
    refine zo (fun w => opB (op_neq rfl rfl w) (ndF h16)) (zo (op_pickF rfl rfl rfl) (zm rfl (zp (zp (zp ?_)))))
    refine zp (zp (zp (zo (op_pickT rfl rfl rfl) (zm rfl (zp ?_)))))
    refine zp (zp (zp (zp (zp (zo (op_pickT rfl rfl rfl) ?_)))))
    refine zm rfl (zp (zp (zp (zp (zp ?_)))))
    refine zp (zo (op_pickT rfl rfl rfl) (zm rfl (zp (zp (zp ?_)))))
    refine zp (zp (zp (zo (op_pickT rfl rfl rfl) (zm rfl (zp ?_)))))
    refine zp (zp (zp (zp (zp (zo (op_pickT rfl rfl rfl) ?_)))))
    refine zm rfl (zp (zp (zp (zp (zp ?_)))))
    refine zp (zp (zo (op_pickT rfl rfl rfl) (zn (zt rfl rfl (zq ?_)))))
    refine Go1.cut [] trivial ?_
    intro σ _
    refine zr (za rfl (zn ?_))
    refine Go1.ret1 Try.func19 rfl ?_
    replace hB := (hB.trans cQ.fr).trans iq.fr
    exact ⟨false, rfl, hB.same, H⟩
   replace H := ifn h15 H
   refine zg (opB ((oblk (i := 1) 0 hO rfl rfl Try.underlying4 rfl rfl) _ (Same.refl _)) (Bool.eq_false_iff.2 h15)) (zo (op_neqB Try.underlying4 rfl rfl) (zo (op_pickF rfl rfl rfl) (zm rfl (zp (zp ?_)))))
   refine zp (zp (zp (zo (op_pickT rfl rfl rfl) (zm rfl (zp ?_)))))
   refine zp (zp (zp (zp (zp (zo (op_pickT rfl rfl rfl) ?_)))))
   refine zm rfl (zp (zp (zp (zp (zp ?_)))))
   refine zp (zo (op_pickT rfl rfl rfl) (zm rfl (zp (zp (zp ?_)))))
   refine zp (zp (zp (zo (op_pickT rfl rfl rfl) (zm rfl (zp ?_)))))
   refine zp (zp (zp (zp (zp (zo (op_pickT rfl rfl rfl) ?_)))))
   refine zm rfl (zp (zp (zp (zp (zp ?_)))))
   refine zp (zo (op_pickT rfl rfl rfl) (zm rfl (zp (zp (zp ?_)))))
   refine zp (zp (zp (zp (zo (op_pickT rfl rfl rfl) (zn ?_)))))
   refine zt rfl rfl (zq ?_)
   refine Go1.cut [] trivial ?_
   intro σ _
   refine zr (za rfl (zn ?_))
   refine Go1.ret1 Try.func19 rfl ?_
   replace hB := (hB.trans cQ.fr).trans iq.fr
   exact ⟨false, rfl, hB.same, H⟩
  replace H := ifn h14 H
  refine zg (opB ((oblk (i := 1) 1 hO rfl rfl Try.underlying4 rfl rfl) _ (Same.refl _)) (Bool.eq_false_iff.2 h14)) (zo (op_fieldAddr Try.underlying29 rfl ti4 rfl (by decide)) ?_)
  by_cases h61 : a1.Monoid = true
  ·replace H := ifp h61 H
   refine zg (opB ((oblk (i := 1) 0 hO rfl rfl Try.underlying4 rfl rfl) _ (Same.refl _)) (h61)) (zo (op_neqB Try.underlying4 rfl rfl) (zo (op_pickF rfl rfl rfl) (zm rfl (zp (zp ?_)))))
   refine zp (zp (zp (zo (op_pickT rfl rfl rfl) (zm rfl (zp ?_)))))
   refine zp (zp (zp (zp (zp (zo (op_pickT rfl rfl rfl) ?_)))))
   refine zm rfl (zp (zp (zp (zp (zp ?_)))))
   refine zp (zo (op_pickT rfl rfl rfl) (zm rfl (zp (zp (zp ?_)))))
   refine zp (zp (zp (zo (op_pickT rfl rfl rfl) (zm rfl (zp ?_)))))
   refine zp (zp (zp (zp (zp (zo (op_pickT rfl rfl rfl) ?_)))))
   refine zm rfl (zp (zp (zp (zp (zp ?_)))))
   refine zp (zo (op_pickT rfl rfl rfl) (zm rfl (zp (zp (zp ?_)))))
   refine zp (zp (zp (zp (zo (op_pickT rfl rfl rfl) (zn ?_)))))
   refine zt rfl rfl (zq ?_)
   refine Go1.cut [] trivial ?_
   intro σ _
   refine zr (za rfl (zn ?_))
   refine Go1.ret1 Try.func19 rfl ?_
   replace hB := (hB.trans cQ.fr).trans iq.fr
   exact ⟨false, rfl, hB.same, H⟩
  replace H := ifn h61 H
  refine zg (opB ((oblk (i := 1) 0 hO rfl rfl Try.underlying4 rfl rfl) _ (Same.refl _)) (Bool.eq_false_iff.2 h61)) (zo (op_neqB Try.underlying4 rfl rfl) (zo (op_pickF rfl rfl rfl) (zm rfl (zo (op_fieldAddr Try.underlying29 rfl ti3 rfl (by decide)) (zs (oblk (i := 8) 1 hO rfl rfl Try.underlying3 rfl rfl) ?_)))))
  refine zo (op_fieldAddr Try.underlying29 rfl ti3 rfl (by decide)) (zs (oblk (i := 8) 0 hO rfl rfl Try.underlying3 rfl rfl) ?_)
  by_cases h62 : a0.Done = a1.Done
  ·replace H := ifp h62 H
   refine zo (fun w => opB (op_neq rfl rfl w) (ndT h62)) (zo (op_pickF rfl rfl rfl) (zm rfl (zo (op_fieldAddr Try.underlying29 rfl ti22 rfl (by decide)) (zs (oblk (i := 2) 1 hO rfl rfl Try.underlying22 rfl rfl) (zo (op_fieldAddr Try.underlying29 rfl ti22 rfl (by decide)) ?_)))))
   refine zs (oblk (i := 2) 0 hO rfl rfl Try.underlying22 rfl rfl) ?_
   have Z10 := ((Ch.start A w0).trans cQ.ch).trans iq.ch
   replace ac := ac.ch Z10
   replace dQ := dQ.ch Z10
   refine GoR.call (op_call body45 rfl (walk_ref03_SameRows hO.lt ac dQ H)) rfl rfl ?_
   rintro v67 w64 ⟨r63, rfl, acs, H⟩
   have mP := Stp.same hO acs
   replace hO := mP.own
   cases r63
   ·replace H := ifn Bool.false_ne_true H
    refine zo (op_not rfl) (zo (op_pickF rfl rfl rfl) (zm rfl (zp (zp (zp ?_)))))
    refine zp (zp (zp (zo (op_pickT rfl rfl rfl) (zm rfl (zp ?_)))))
    refine zp (zp (zp (zp (zp (zo (op_pickT rfl rfl rfl) ?_)))))
    refine zm rfl (zp (zp (zp (zp (zp ?_)))))
    refine zp (zo (op_pickT rfl rfl rfl) (zm rfl (zp (zp (zp ?_)))))
    refine zp (zp (zp (zo (op_pickT rfl rfl rfl) (zm rfl (zp ?_)))))
    refine zp (zp (zp (zp (zp (zp ?_)))))
    refine zo (op_pickT rfl rfl rfl) (zn (zt rfl rfl (zq ?_)))
    refine Go1.cut [] trivial ?_
    intro σ _
    refine zr (za rfl (zn ?_))
    refine Go1.ret1 Try.func19 rfl ?_
    replace hB := ((hB.trans cQ.fr).trans iq.fr).trans mP.fr
    exact ⟨false, rfl, hB.same, H⟩
   replace H := ifp rfl H
   refine zo (op_not rfl) (zo (op_pickF rfl rfl rfl) (zm rfl (zo (op_fieldAddr Try.underlying29 rfl ti22 rfl (by decide)) (zs (oblk (i := 3) 1 hO rfl rfl Try.underlying22 rfl rfl) (zo (op_fieldAddr Try.underlying29 rfl ti22 rfl (by decide)) ?_)))))
   refine zs (oblk (i := 3) 0 hO rfl rfl Try.underlying22 rfl rfl) ?_
   have Z11 := Z10.trans mP.ch
   replace ax := ax.ch Z11
   replace dx := dx.ch Z11
   refine GoR.call (op_call body45 rfl (walk_ref03_SameRows hO.lt ax dx H)) rfl rfl ?_
   rintro v73 w70 ⟨r69, rfl, act, H⟩
   have gW := Stp.same hO act
   replace hO := gW.own
   cases r69
   ·replace H := ifn Bool.false_ne_true H
    refine zo (op_not rfl) (zo (op_pickF rfl rfl rfl) (zm rfl (zp (zp (zp ?_)))))
    refine zp (zp (zp (zo (op_pickT rfl rfl rfl) (zm rfl (zp ?_)))))
    refine zp (zp (zp (zp (zp (zo (op_pickT rfl rfl rfl) ?_)))))
    refine zm rfl (zp (zp (zp (zp (zp ?_)))))
    refine zp (zo (op_pickT rfl rfl rfl) (zm rfl (zp (zp (zp ?_)))))
    refine zp (zp (zp (zp (zo (op_pickT rfl rfl rfl) (zn ?_)))))
    refine zt rfl rfl (zq ?_)
    refine Go1.cut [] trivial ?_
    intro σ _
    refine zr (za rfl (zn ?_))
    refine Go1.ret1 Try.func19 rfl ?_
    replace hB := (((hB.trans cQ.fr).trans iq.fr).trans mP.fr).trans gW.fr
    exact ⟨false, rfl, hB.same, H⟩
   replace H := ifp rfl H
   refine zo (op_not rfl) (zo (op_pickF rfl rfl rfl) (zm rfl (zo (op_fieldAddr Try.underlying29 rfl ti26 rfl (by decide)) (zs (oblk (i := 4) 1 hO rfl rfl Try.underlying26 rfl rfl) (zo (op_fieldAddr Try.underlying29 rfl ti26 rfl (by decide)) ?_)))))
   refine zs (oblk (i := 4) 0 hO rfl rfl Try.underlying26 rfl rfl) ?_
   have Z12 := Z11.trans gW.ch
   replace am := am.ch Z12
   replace cS := cS.ch Z12
   refine GoR.call (op_call body34 rfl (walk_ref03_Same hO.lt am cS H)) rfl rfl ?_
   rintro v79 w76 ⟨r75, rfl, NB, H⟩
   have lb := Stp.same hO NB
   replace hO := lb.own
   cases r75
   ·replace H := ifn Bool.false_ne_true H
    refine zo (op_not rfl) (zo (op_pickF rfl rfl rfl) (zm rfl (zp (zp (zp ?_)))))
    refine zp (zp (zp (zo (op_pickT rfl rfl rfl) (zm rfl (zp ?_)))))
    refine zp (zp (zp (zp (zp (zo (op_pickT rfl rfl rfl) ?_)))))
    refine zm rfl (zp (zp (zp (zp (zp ?_)))))
    refine zp (zp (zo (op_pickT rfl rfl rfl) (zn (zt rfl rfl (zq ?_)))))
    refine Go1.cut [] trivial ?_
    intro σ _
    refine zr (za rfl (zn ?_))
    refine Go1.ret1 Try.func19 rfl ?_
    replace hB := ((((hB.trans cQ.fr).trans iq.fr).trans mP.fr).trans gW.fr).trans lb.fr
    exact ⟨false, rfl, hB.same, H⟩
   replace H := ifp rfl H
   refine zo (op_not rfl) (zo (op_pickF rfl rfl rfl) (zm rfl (zo (op_fieldAddr Try.underlying29 rfl ti26 rfl (by decide)) (zs (oblk (i := 5) 1 hO rfl rfl Try.underlying26 rfl rfl) (zo (op_fieldAddr Try.underlying29 rfl ti26 rfl (by decide)) ?_)))))
   refine zs (oblk (i := 5) 0 hO rfl rfl Try.underlying26 rfl rfl) ?_
   have Z13 := Z12.trans lb.ch
   replace aL := aL.ch Z13
   replace dR := dR.ch Z13
   refine GoR.call (op_call body34 rfl (walk_ref03_Same hO.lt aL dR H)) rfl rfl ?_
   rintro v85 w82 ⟨r81, rfl, acu, H⟩
   have fN := Stp.same hO acu
   replace hO := fN.own
   cases r81
   ·replace H := ifn Bool.false_ne_true H
    refine zo (op_not rfl) (zo (op_pickF rfl rfl rfl) (zm rfl (zp (zp (zp ?_)))))
    refine zp (zp (zp (zo (op_pickT rfl rfl rfl) (zm rfl (zp ?_)))))
    refine zp (zp (zp (zp (zp (zp ?_)))))
    refine zo (op_pickT rfl rfl rfl) (zn (zt rfl rfl (zq ?_)))
    refine Go1.cut [] trivial ?_
    intro σ _
    refine zr (za rfl (zn ?_))
    refine Go1.ret1 Try.func19 rfl ?_
    replace hB := (((((hB.trans cQ.fr).trans iq.fr).trans mP.fr).trans gW.fr).trans lb.fr).trans fN.fr
    exact ⟨false, rfl, hB.same, H⟩
   replace H := ifp rfl H
   refine zo (op_not rfl) (zo (op_pickF rfl rfl rfl) (zm rfl (zo (op_fieldAddr Try.underlying29 rfl ti22 rfl (by decide)) (zs (oblk (i := 6) 1 hO rfl rfl Try.underlying22 rfl rfl) (zo (op_fieldAddr Try.underlying29 rfl ti22 rfl (by decide)) ?_)))))
   refine zs (oblk (i := 6) 0 hO rfl rfl Try.underlying22 rfl rfl) ?_
   have Z14 := Z13.trans fN.ch
   replace ay := ay.ch Z14
   replace dy := dy.ch Z14
   refine GoR.call (op_call body45 rfl (walk_ref03_SameRows hO.lt ay dy H)) rfl rfl ?_
   rintro v91 w88 ⟨r87, rfl, acv, H⟩
   have qU := Stp.same hO acv
   replace hO := qU.own
   cases r87
   ·replace H := ifn Bool.false_ne_true H
    refine zo (op_not rfl) (zo (op_pickF rfl rfl rfl) (zm rfl (zp (zp (zp ?_)))))
    refine zp (zp (zp (zp (zo (op_pickT rfl rfl rfl) (zn ?_)))))
    refine zt rfl rfl (zq ?_)
    refine Go1.cut [] trivial ?_
    intro σ _
    refine zr (za rfl (zn ?_))
    refine Go1.ret1 Try.func19 rfl ?_
    replace hB := ((((((hB.trans cQ.fr).trans iq.fr).trans mP.fr).trans gW.fr).trans lb.fr).trans fN.fr).trans qU.fr
    exact ⟨false, rfl, hB.same, H⟩
   replace H := ifp rfl H
   refine zo (op_not rfl) (zo (op_pickF rfl rfl rfl) (zm rfl (zo (op_fieldAddr Try.underlying29 rfl ti27 rfl (by decide)) (zs (oblk (i := 7) 1 hO rfl rfl Try.underlying27 rfl rfl) (zo (op_len Try.underlying27 rfl) ?_)))))
   replace ao := (ao.ch Z14).ch qU.ch
   replace H := H ao.bd
   refine zo (op_fieldAddr Try.underlying29 rfl ti27 rfl (by decide)) (zs (oblk (i := 7) 0 hO rfl rfl Try.underlying27 rfl rfl) (zo (op_len Try.underlying27 rfl) ?_))
   replace cM := (cM.ch Z14).ch qU.ch
   replace H := H cM.bd
   by_cases h93 : (a0.Rules.length : Int) = (a1.Rules.length : Int)
   ·replace H := ifp h93 H
    refine zo (fun w => opB (op_neq rfl rfl w) (ndT h93)) (zo (op_pickF rfl rfl rfl) (zn (zf rfl rfl (zk (zq ?_)))))
    refine zq (zr (zo (op_fieldAddr Try.underlying29 rfl ti27 rfl (by decide)) (zs (oblk (i := 7) 1 hO rfl rfl Try.underlying27 rfl rfl) (zo (op_len Try.underlying27 rfl) (zm rfl ?_)))))
    refine zn (zb ?_)
    replace ay := ay.ch qU.ch
    replace dy := dy.ch qU.ch
    have Z15 := fN.ch.trans qU.ch
    replace aL := aL.ch Z15
    replace dR := dR.ch Z15
    have Z16 := (lb.ch.trans fN.ch).trans qU.ch
    replace am := am.ch Z16
    replace cS := cS.ch Z16
    have Z17 := ((gW.ch.trans lb.ch).trans fN.ch).trans qU.ch
    replace ax := ax.ch Z17
    replace dx := dx.ch Z17
    have Z18 := (((mP.ch.trans gW.ch).trans lb.ch).trans fN.ch).trans qU.ch
    replace ac := ac.ch Z18
    replace dQ := dQ.ch Z18
    replace hB := ((((((hB.trans cQ.fr).trans iq.fr).trans mP.fr).trans gW.fr).trans lb.fr).trans fN.fr).trans qU.fr
    refine Go1.loopW (S := Nat) (fun s σ w => agrees σ [(2, .pointer (some ⟨B2, 0, none⟩)), (3, .pointer (some ⟨B8, 0, none⟩)), (76, .int .i64 (a0.Rules.length : Int)), (77, .int .i64 (s : Int))] ∧ (fun Z0 => Owns w0.heap.size w Z0 A ∧ ISl (Rp.sl (Rp.int .i64)) (bl Z0 ++ A) w az aA a0.Gens ∧ ISl (Rp.sl (Rp.int .i64)) (bl Z0 ++ A) w b6 b7 a0.Elems ∧ ISl (Rp.int .i64) (bl Z0 ++ A) w bI bK a0.Prefix ∧ ISl (Rp.int .i64) (bl Z0 ++ A) w cx cy a0.Last ∧ ISl (Rp.sl (Rp.int .i64)) (bl Z0 ++ A) w b8 b9 a0.Right ∧ ISl (rpRule) (bl Z0 ++ A) w ca cb a0.Rules ∧ ISl (Rp.sl (Rp.int .i64)) (bl Z0 ++ A) w dX dY a1.Gens ∧ ISl (Rp.sl (Rp.int .i64)) (bl Z0 ++ A) w dI dJ a1.Elems ∧ ISl (Rp.int .i64) (bl Z0 ++ A) w dm dn a1.Prefix ∧ ISl (Rp.int .i64) (bl Z0 ++ A) w d4 d5 a1.Last ∧ ISl (Rp.sl (Rp.int .i64)) (bl Z0 ++ A) w dK dM a1.Right ∧ ISl (rpRule) (bl Z0 ++ A) w dN dO a1.Rules ∧ Fr (bl []) w0 (bl Z0) w) [.blk B8 (.cells #[.int .i64 a1.Points, .bool a1.Monoid, .slice dX a1.Gens.length dY, .slice dI a1.Elems.length dJ, .slice dm a1.Prefix.length dn, .slice d4 a1.Last.length d5, .slice dK a1.Right.length dM, .slice dN a1.Rules.length dO, .int .i64 a1.Done] 29 (0, 0)), .blk B2 (.cells #[.int .i64 a0.Points, .bool a0.Monoid, .slice az a0.Gens.length aA, .slice b6 a0.Elems.length b7, .slice bI a0.Prefix.length bK, .slice cx a0.Last.length cy, .slice b8 a0.Right.length b9, .slice ca a0.Rules.length cb, .int .i64 a0.Done] 29 (0, 0))]) H ⟨⟨rfl, rfl, rfl, rfl, trivial⟩, hO, ac, ax, am, aL, ay, ao, dQ, dx, cS, dR, dy, cM, hB⟩ ?_
    intro X2 k2_95
    intro H hX2 σ w94
    refine andE fun hag => andE fun hO => andE fun ac => andE fun ax => andE fun am => andE fun aL => andE fun ay => andE fun ao => andE fun dQ => andE fun dx => andE fun cS => andE fun dR => andE fun dy => andE fun cM => fun hB => ?_
    refine Go1.keep [(2, .pointer (some ⟨B2, 0, none⟩)), (3, .pointer (some ⟨B8, 0, none⟩)), (76, .int .i64 (a0.Rules.length : Int)), (77, .int .i64 (k2_95 : Int))] hag ?_
    refine zq (zr ?_)
    by_cases h96 : (k2_95 : Int) < (a0.Rules.length : Int)
    ·replace H := ifp h96 H
     refine zo (fun w => opB (op_lss rfl rfl w) (decide_eq_true h96)) (zn (zq (zt rfl rfl (zk (zq ?_)))))
     refine zb (zq (zr (zm rfl (za rfl (zn ?_)))))
     refine zq ?_
     refine Go1.drawS 0 [(0, .pure), (1, .stable), (2, .pure), (3, .pure), (4, .stable), (5, .pure), (6, .stable), (7, .pure), (8, .pure), (9, .stable), (10, .pure)] mixed (by kernel_rfl) ?_
     intro w97 acw
     have xx := Stp.same hO acw
     replace hO := xx.own
     refine GoQ.pure rfl (op_fieldAddr Try.underlying29 rfl ti27 rfl (by decide)) rfl rfl ?_
     refine GoQ.stable rfl (oblk (i := 7) 1 hO rfl rfl Try.underlying27 rfl rfl) rfl rfl ?_
     refine GoQ.pure rfl (op_move rfl) rfl rfl ?_
     obtain ⟨Hz, H⟩ := H
     obtain ⟨HA, H⟩ := H
     replace ao := ao.ch xx.ch
     refine GoQ.pure rfl (op_index Try.underlying27 ti39 rfl rfl Hz HA (ao.some_ Hz HA)) rfl rfl ?_
     have hok102 := ldFlatOk ao Hz HA
     refine GoQ.stable rfl (ldFlat ao Hz HA Try.underlying39 rfl ti39 rfl) rfl rfl ?_
     refine GoQ.pure rfl (op_fieldAddr Try.underlying29 rfl ti27 rfl (by decide)) rfl rfl ?_
     refine GoQ.stable rfl (oblk (i := 7) 0 hO rfl rfl Try.underlying27 rfl rfl) rfl rfl ?_
     refine GoQ.pure rfl (op_move rfl) rfl rfl ?_
     obtain ⟨MP, H⟩ := H
     obtain ⟨yp, H⟩ := H
     replace cM := cM.ch xx.ch
     refine GoQ.pure rfl (op_index Try.underlying27 ti39 rfl rfl MP yp (cM.some_ MP yp)) rfl rfl ?_
     have hok105 := ldFlatOk cM MP yp
     refine GoQ.stable rfl (ldFlat cM MP yp Try.underlying39 rfl ti39 rfl) rfl rfl ?_
     by_cases yr : (((ix a0.Rules (k2_95 : Int)).Left) = ((ix a1.Rules (k2_95 : Int)).Left) ∧ ((ix a0.Rules (k2_95 : Int)).Right) = ((ix a1.Rules (k2_95 : Int)).Right))
     ·replace H := ifp yr H
      refine GoQ.pure rfl (fun w => opB (op_neqSS Try.underlying39 eqh39 eqg39 (by decide) (by decide) rfl rfl Try.underlying9 Try.underlying9 rfl rfl w) (ndT yr)) rfl rfl ?_
      refine GoQ.nil ?_
      refine zf rfl rfl (zk ?_)
      refine Go1.inBlock ?_
      refine zr (zo (op_add rfl rfl (wrap_i64 (natbd h96 ao.bd))) (zm rfl (zn ?_)))
      replace ac := ac.ch xx.ch
      replace ax := ax.ch xx.ch
      replace am := am.ch xx.ch
      replace aL := aL.ch xx.ch
      replace ay := ay.ch xx.ch
      replace dQ := dQ.ch xx.ch
      replace dx := dx.ch xx.ch
      replace cS := cS.ch xx.ch
      replace dR := dR.ch xx.ch
      replace dy := dy.ch xx.ch
      replace hB := hB.trans xx.fr
      exact hX2 _ H _ _ ⟨⟨rfl, rfl, rfl, rfl, trivial⟩, hO, ac, ax, am, aL, ay, ao, dQ, dx, cS, dR, dy, cM, hB⟩
     replace H := ifn yr H
     refine GoQ.pure rfl (fun w => opB (op_neqSS Try.underlying39 eqh39 eqg39 (by decide) (by decide) rfl rfl Try.underlying9 Try.underlying9 rfl rfl w) (ndF yr)) rfl rfl ?_
     refine GoQ.nil ?_
     refine zt rfl rfl (zq (zr (za rfl (zn ?_))))
     refine Go1.ret1 Try.func19 rfl ?_
     replace hB := hB.trans xx.fr
     exact ⟨false, rfl, hB.same, H⟩
    replace H := ifn h96 H
    refine zo (fun w => opB (op_lss rfl rfl w) (decide_eq_false h96)) (zn (zq (zf rfl rfl ?_)))
    refine Go1.exit rfl ?_
    refine zq (zr (za rfl (zn ?_)))
    refine Go1.ret1 Try.func19 rfl ?_
    exact ⟨true, rfl, hB.same, H⟩
   replace H := ifn h93 H
   refine zo (fun w => opB (op_neq rfl rfl w) (ndF h93)) (zo (op_pickF rfl rfl rfl) (zn (zt rfl rfl (zq ?_))))
   refine Go1.cut [] trivial ?_
   intro σ _
   refine zr (za rfl (zn ?_))
   refine Go1.ret1 Try.func19 rfl ?_
   replace hB := ((((((hB.trans cQ.fr).trans iq.fr).trans mP.fr).trans gW.fr).trans lb.fr).trans fN.fr).trans qU.fr
   exact ⟨false, rfl, hB.same, H⟩
  replace H := ifn h62 H
  refine zo (fun w => opB (op_neq rfl rfl w) (ndF h62)) (zo (op_pickF rfl rfl rfl) (zm rfl (zp (zp (zp ?_)))))
  refine zp (zp (zp (zo (op_pickT rfl rfl rfl) (zm rfl (zp ?_)))))
  refine zp (zp (zp (zp (zp (zo (op_pickT rfl rfl rfl) ?_)))))
  refine zm rfl (zp (zp (zp (zp (zp ?_)))))
  refine zp (zo (op_pickT rfl rfl rfl) (zm rfl (zp (zp (zp ?_)))))
  refine zp (zp (zp (zo (op_pickT rfl rfl rfl) (zm rfl (zp ?_)))))
  refine zp (zp (zp (zp (zp (zo (op_pickT rfl rfl rfl) ?_)))))
  refine zm rfl (zp (zp (zp (zp (zp ?_)))))
  refine zp (zp (zo (op_pickT rfl rfl rfl) (zn (zt rfl rfl (zq ?_)))))
  refine Go1.cut [] trivial ?_
  intro σ _
  refine zr (za rfl (zn ?_))
  refine Go1.ret1 Try.func19 rfl ?_
  replace hB := (hB.trans cQ.fr).trans iq.fr
  exact ⟨false, rfl, hB.same, H⟩
 replace H := ifn h13 H
 refine zo (fun w => opB (op_neq rfl rfl w) (ndF h13)) (zm rfl (zp (zp (zp (zp ?_)))))
 refine zp (zo (op_pickT rfl rfl rfl) (zm rfl (zp (zp (zp ?_)))))
 refine zp (zp (zo (op_pickT rfl rfl rfl) (zm rfl (zp (zp ?_)))))
 refine zp (zp (zp (zp (zo (op_pickT rfl rfl rfl) (zm rfl ?_)))))
 refine zp (zp (zp (zp (zp (zp ?_)))))
 refine zo (op_pickT rfl rfl rfl) (zm rfl (zp (zp (zp (zp ?_)))))
 refine zp (zp (zo (op_pickT rfl rfl rfl) (zm rfl (zp (zp ?_)))))
 refine zp (zp (zp (zp (zo (op_pickT rfl rfl rfl) (zm rfl ?_)))))
 refine zp (zp (zp (zp (zp (zp ?_)))))
 refine zo (op_pickT rfl rfl rfl) (zm rfl (zp (zp (zp (zp ?_)))))
 refine zp (zp (zp (zo (op_pickT rfl rfl rfl) (zn (zt rfl rfl ?_)))))
 refine zq ?_
 refine Go1.cut [] trivial ?_
 intro σ _
 refine zr (za rfl (zn ?_))
 refine Go1.ret1 Try.func19 rfl ?_
 replace hB := (hB.trans cQ.fr).trans iq.fr
 exact ⟨false, rfl, hB.same, H⟩
end Sg
