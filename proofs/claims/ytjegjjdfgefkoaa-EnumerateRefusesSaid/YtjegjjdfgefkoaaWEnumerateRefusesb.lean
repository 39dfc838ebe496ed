/- The walks: each call keeps to its plain transformer. Printed by walkgen.py. -/
import Derived.Test.YtjegjjdfgefkoaaTi
import Derived.Test.YtjegjjdfgefkoaaWEnumerateBuilds
import Derived.Test.YtjegjjdfgefkoaaWEnumerateBuildsc
import Derived.Test.YtjegjjdfgefkoaaWEnumerateBuildsd
import Derived.Test.YtjegjjdfgefkoaaWEnumerateRefuses
import Derived.Test.YtjegjjdfgefkoaaAl
namespace Sg
open Go Go.RowKit Go.Proofs
set_option linter.unusedVariables false
set_option linter.unusedSimpArgs false
set_option maxRecDepth 100000
set_option maxHeartbeats 4000000
theorem walk_law12_EnumerateRefuses {A : List Nat} {w0 : World} {aS : Option Addr} {aT : Nat} {bY : Option Addr} {b5 : Nat} {bI : Option Addr} {bK : Nat} {co : Option Addr} {cp : Nat} {b6 : Option Addr} {b7 : Nat} {b8 : Option Addr} {b9 : Nat} {H1 : Option Addr} {H2 : Nat} {a0 : Enum} {a1 : List (List Int)} {a2 : Bool} {a3 : Int} {a4 : Int} {a5 : Int} {a6 : Int} (hA : ∀ b ∈ A, b < w0.heap.size) (aa : ISl (Rp.sl (Rp.int .i64)) A w0 aS aT a0.Gens) (ad : ISl (Rp.sl (Rp.int .i64)) A w0 bY b5 a0.Elems) (ab : ISl (Rp.int .i64) A w0 bI bK a0.Prefix) (af : ISl (Rp.int .i64) A w0 co cp a0.Last) (ae : ISl (Rp.sl (Rp.int .i64)) A w0 b6 b7 a0.Right) (ac : ISl (rpRule) A w0 b8 b9 a0.Rules) (aM : ISl (Rp.sl (Rp.int .i64)) A w0 H1 H2 a1) {K : Bool → Prop} (H : law12_EnumerateRefuses a0 a1 a2 a3 a4 a5 a6 K) :
    CallsV Try.prog 4 #[.agg #[.int .i64 a0.Points, .bool a0.Monoid, .slice aS a0.Gens.length aT, .slice bY a0.Elems.length b5, .slice bI a0.Prefix.length bK, .slice co a0.Last.length cp, .slice b6 a0.Right.length b7, .slice b8 a0.Rules.length b9, .int .i64 a0.Done], .slice H1 a1.length H2, .bool a2, .int .u8 a3, .int .i64 a4, .int .i64 a5, .int .i64 a6] w0 (fun v w' => ∃ (r0 : Bool), v = .bool r0 ∧ Same w0 w' ∧ K r0) := by
 refine CallsV.of (l := [.agg #[.int .i64 a0.Points, .bool a0.Monoid, .slice aS a0.Gens.length aT, .slice bY a0.Elems.length b5, .slice bI a0.Prefix.length bK, .slice co a0.Last.length cp, .slice b6 a0.Right.length b7, .slice b8 a0.Rules.length b9, .int .i64 a0.Done], .slice H1 a1.length H2, .bool a2, .int .u8 a3, .int .i64 a4, .int .i64 a5, .int .i64 a6]) Try.func4 rfl Try.ntmps4 rfl ?_
 have hO := Owns.start hA
 have hB := Fr.refl (bl []) w0
 unfold law12_EnumerateRefuses at H
 refine zq (zr ?_)
 have hobt := obox (t := 29) (v := .agg #[.int .i64 a0.Points, .bool a0.Monoid, .slice aS a0.Gens.length aT, .slice bY a0.Elems.length b5, .slice bI a0.Prefix.length bK, .slice co a0.Last.length cp, .slice b6 a0.Right.length b7, .slice b8 a0.Rules.length b9, .int .i64 a0.Done]) (cs := #[.int .i64 a0.Points, .bool a0.Monoid, .slice aS a0.Gens.length aT, .slice bY a0.Elems.length b5, .slice bI a0.Prefix.length bK, .slice co a0.Last.length cp, .slice b6 a0.Right.length b7, .slice b8 a0.Rules.length b9, .int .i64 a0.Done]) hO rfl
 obtain ⟨w1, B2, d5, hs4, uu⟩ := hobt
 refine zg (uu rfl) ?_
 replace hO := d5.own
 refine za rfl (zn (zq (zq ?_)))
 refine Go1.drawS 0 [(0, .pure), (1, .stable), (2, .pure), (3, .pure), (4, .pure), (5, .stable), (7, .stable), (6, .loud), (8, .loud), (9, .pure), (10, .pure)] mixed (by kernel_rfl) ?_
 intro w7 hs8
 have iE := Stp.same hO hs8
 replace hO := iE.own
 refine GoQ.pure rfl (op_fieldAddr Try.underlying29 rfl ti22 rfl (by decide)) rfl rfl ?_
 refine GoQ.stable rfl (oblk (i := 3) 0 hO rfl rfl Try.underlying22 rfl rfl) rfl rfl ?_
 refine GoQ.pure rfl (op_len Try.underlying22 rfl) rfl rfl ?_
 have Z1 := ((Ch.start A w0).trans d5.ch).trans iE.ch
 replace ad := ad.ch Z1
 replace H := H ad.bd
 by_cases h10 : (a0.Elems.length : Int) ≤ (20 : Int)
 ·replace H := ifp h10 H
  refine GoQ.pure rfl (fun w => opB (op_leq rfl rfl w) (decide_eq_true h10)) rfl rfl ?_
  refine GoQ.pure rfl (op_move rfl) rfl rfl ?_
  refine GoQ.stable rfl (oblkAgg (vs := [.int .i64 a0.Points, .bool a0.Monoid, .slice aS a0.Gens.length aT, .slice bY a0.Elems.length b5, .slice bI a0.Prefix.length bK, .slice co a0.Last.length cp, .slice b6 a0.Right.length b7, .slice b8 a0.Rules.length b9, .int .i64 a0.Done]) (i := 0) 0 hO rfl rfl Try.underlying29 rfl ti29 rfl) rfl rfl ?_
  refine GoQ.stable rfl (oblkAgg (vs := [.int .i64 a0.Points, .bool a0.Monoid, .slice aS a0.Gens.length aT, .slice bY a0.Elems.length b5, .slice bI a0.Prefix.length bK, .slice co a0.Last.length cp, .slice b6 a0.Right.length b7, .slice b8 a0.Rules.length b9, .int .i64 a0.Done]) (i := 0) 0 hO rfl rfl Try.underlying29 rfl ti29 rfl) rfl rfl ?_
  replace aa := aa.ch Z1
  replace ab := ab.ch Z1
  replace af := af.ch Z1
  replace ae := ae.ch Z1
  replace ac := ac.ch Z1
  refine GoQ.call rfl (op_call body20 rfl (walk_enumerate_Validate (e := a0) hO.lt aa ad ab af ae ac H)) (fun v w hr => by obtain ⟨_, _, hs, _⟩ := hr; assumption) rfl rfl ?_
  rintro v15 w12 ⟨r11, rfl, LM, H⟩
  have tQ := Stp.same hO LM
  replace hO := tQ.own
  replace aa := aa.ch tQ.ch
  replace ad := ad.ch tQ.ch
  replace ab := ab.ch tQ.ch
  replace af := af.ch tQ.ch
  replace ae := ae.ch tQ.ch
  replace ac := ac.ch tQ.ch
  refine GoQ.call rfl (op_call body21 rfl (walk_ref12_Validate (e := a0) hO.lt aa ad ab af ae ac H)) (fun v w hr => by obtain ⟨_, _, hs, _⟩ := hr; assumption) rfl rfl ?_
  rintro v21 w18 ⟨r17, rfl, Er, H⟩
  have fq := Stp.same hO Er
  replace hO := fq.own
  by_cases h23 : r11 = r17
  ·replace H := ifp h23 H
   refine GoQ.pure rfl (fun w => opB (op_neq rfl rfl w) (ndT h23)) rfl rfl ?_
   refine GoQ.pure rfl (op_pickT rfl rfl rfl) rfl rfl ?_
   refine GoQ.nil ?_
   refine zf rfl rfl (zk (zq (zq (zr (zm rfl ?_)))))
   replace aM := ((aM.ch Z1).ch tQ.ch).ch fq.ch
   refine GoR.call (op_call body15 rfl (walk_law12_little hO.lt aM H)) rfl rfl ?_
   rintro v28 w25 ⟨r24, rfl, abS, H⟩
   have w4 := Stp.same hO abS
   replace hO := w4.own
   cases r24
   ·replace H := ifn Bool.false_ne_true H
    refine zo (op_not rfl) (zn (zt rfl rfl (zq (zr ?_))))
    refine GoR.call (op_call body16 rfl (walk_law12_awake hO.lt H)) rfl rfl ?_
    rintro v34 w31 ⟨r30, rfl, abT, H⟩
    have gI := Stp.same hO abT
    replace hO := gI.own
    refine za rfl (zn ?_)
    refine Go1.ret1 Try.func4 rfl ?_
    replace hB := (((((hB.trans d5.fr).trans iE.fr).trans tQ.fr).trans fq.fr).trans w4.fr).trans gI.fr
    exact ⟨r30, rfl, hB.same, H⟩
   replace H := ifp rfl H
   refine zo (op_not rfl) (zn (zf rfl rfl (zk (zq ?_))))
   refine Go1.cut [(1, .slice H1 a1.length H2), (2, .bool a2), (3, .int .u8 a3), (4, .int .i64 a4), (5, .int .i64 a5), (6, .int .i64 a6)] ⟨rfl, rfl, rfl, rfl, rfl, rfl, trivial⟩ ?_
   intro σ _
   refine zr (zm rfl (zm rfl ?_))
   replace aM := aM.ch w4.ch
   refine GoR.call (op_call body22 rfl (walk_ref12_Start hO.lt aM H)) rfl rfl ?_
   rintro v41 w38 ⟨r36, r37, D7, D8, CT, CU, BI, BJ, D9, Ea, CV, CW, CX, C0, rfl, abU, aI, aB, ar, aJ, aC, aD, H⟩
   have Bn := Stp.same hO abU
   replace hO := Bn.own
   refine zm rfl (zo (op_extract rfl rfl) (zo (op_extract rfl rfl) ?_))
   have hobt := oalloc (t := 29) (cs := #[.int .i64 (0 : Int), .bool false, .slice none 0 0, .slice none 0 0, .slice none 0 0, .slice none 0 0, .slice none 0 0, .slice none 0 0, .int .i64 (0 : Int)]) ti29 hO rfl
   obtain ⟨w43, B44, lN, ahd, Vz⟩ := hobt
   refine GoR.op Vz rfl rfl ?_
   replace hO := lN.own
   have hobt := oblkStAgg (us := [.int .i64 r36.Points, .bool r36.Monoid, .slice D7 r36.Gens.length D8, .slice CT r36.Elems.length CU, .slice BI r36.Prefix.length BJ, .slice D9 r36.Last.length Ea, .slice CV r36.Right.length CW, .slice CX r36.Rules.length C0, .int .i64 r36.Done]) (o := 0) (cs' := #[.int .i64 r36.Points, .bool r36.Monoid, .slice D7 r36.Gens.length D8, .slice CT r36.Elems.length CU, .slice BI r36.Prefix.length BJ, .slice D9 r36.Last.length Ea, .slice CV r36.Right.length CW, .slice CX r36.Rules.length C0, .int .i64 r36.Done]) 0 hO rfl rfl (Nat.le_of_ble_eq_true rfl) rfl
   obtain ⟨w49, vV, VA⟩ := hobt
   refine zg (VA ti29 (by exact rfl) (by exact rfl) rfl) ?_
   replace hO := vV.own
   refine za rfl (zn (zq (zq (zr (zm rfl ?_)))))
   by_cases h52 : r37 = (0 : Int)
   ·replace H := ifp h52 H
    refine zo (fun w => opB (op_neq rfl rfl w) (ndT h52)) (zn (zf rfl rfl (zk (zq (zr ?_)))))
    refine zs (oblkAgg (vs := [.int .i64 r36.Points, .bool r36.Monoid, .slice D7 r36.Gens.length D8, .slice CT r36.Elems.length CU, .slice BI r36.Prefix.length BJ, .slice D9 r36.Last.length Ea, .slice CV r36.Right.length CW, .slice CX r36.Rules.length C0, .int .i64 r36.Done]) (i := 0) 0 hO rfl rfl Try.underlying29 rfl ti29 rfl) (zm rfl (zo (op_and rfl rfl) (zo (op_conv Try.underlying5 Try.underlying3 rfl rfl) ?_)))
    have Z2 := lN.ch.trans vV.ch
    replace aI := aI.ch Z2
    replace aB := aB.ch Z2
    replace ar := ar.ch Z2
    replace aJ := aJ.ch Z2
    replace aC := aC.ch Z2
    replace aD := aD.ch Z2
    refine GoR.call (op_call body23 rfl (walk_ref12_Step (e := r36) hO.lt aI aB ar aJ aC aD H)) rfl rfl ?_
    rintro v58 w55 ⟨r53, r54, cO, cP, cU, cV, cC, cD, dr, dt, cW, cX, cY, c5, rfl, abV, aG, aq, am, aH, ax, az, H⟩
    have vW := Stp.same hO abV
    replace hO := vW.own
    refine zm rfl (zo (op_extract rfl rfl) (zo (op_extract rfl rfl) ?_))
    have hobt := oblkStAgg (us := [.int .i64 r53.Points, .bool r53.Monoid, .slice cO r53.Gens.length cP, .slice cU r53.Elems.length cV, .slice cC r53.Prefix.length cD, .slice dr r53.Last.length dt, .slice cW r53.Right.length cX, .slice cY r53.Rules.length c5, .int .i64 r53.Done]) (o := 0) (cs' := #[.int .i64 r53.Points, .bool r53.Monoid, .slice cO r53.Gens.length cP, .slice cU r53.Elems.length cV, .slice cC r53.Prefix.length cD, .slice dr r53.Last.length dt, .slice cW r53.Right.length cX, .slice cY r53.Rules.length c5, .int .i64 r53.Done]) 0 hO rfl rfl (Nat.le_of_ble_eq_true rfl) rfl
    obtain ⟨w60, jw, Jp⟩ := hobt
    refine zg (Jp ti29 (by exact rfl) (by exact rfl) rfl) ?_
    replace hO := jw.own
    refine za rfl (zn (zq (zq ?_)))
    refine Go1.cut [(4, .int .i64 a4), (5, .int .i64 a5), (6, .int .i64 a6), (15, .pointer (some ⟨B44, 0, none⟩)), (16, .int .i64 r54)] ⟨rfl, rfl, rfl, rfl, rfl, trivial⟩ ?_
    intro σ _
    refine zr (zm rfl ?_)
    by_cases h63 : r54 = (0 : Int)
    ·replace H := ifp h63 H
     refine zo (fun w => opB (op_neq rfl rfl w) (ndT h63)) (zn (zf rfl rfl (zk (zq (zr ?_)))))
     refine zo (op_fieldAddr Try.underlying29 rfl ti22 rfl (by decide)) (zs (oblk (i := 3) 0 hO rfl rfl Try.underlying22 rfl rfl) (zo (op_len Try.underlying22 rfl) ?_))
     replace aq := aq.ch jw.ch
     replace H := H aq.bd
     refine za rfl (zn (zq (zr (zm rfl (zm rfl ?_)))))
     obtain ⟨h64, H⟩ := H
     refine zo (op_rem rfl rfl h64 rfl) (zm rfl ?_)
     obtain ⟨h65, H⟩ := H
     refine zo (op_add rfl rfl (wrap_i64 h65)) (zm rfl ?_)
     obtain ⟨h66, H⟩ := H
     refine zo (op_rem rfl rfl h66 rfl) (za rfl (zn (zq (zq (zr ?_)))))
     refine zm rfl (zo (op_and rfl rfl) (zn (zb (zq (zr ?_)))))
     by_cases h67 : (bits .and .i64 a4 (7 : Int)) = (0 : Int)
     ·replace H := ifp h67 H
      refine zo (fun w => opB (op_eql rfl rfl w) (decide_eq_true h67)) (za rfl (zn (zt rfl rfl (zr (zm rfl ?_)))))
      refine zo (op_fieldAddr Try.underlying29 rfl ti3 rfl (by decide)) ?_
      have hobt := oblkSt2 (v := .int .i64 a6) (i := 8) (cs' := #[.int .i64 r53.Points, .bool r53.Monoid, .slice cO r53.Gens.length cP, .slice cU r53.Elems.length cV, .slice cC r53.Prefix.length cD, .slice dr r53.Last.length dt, .slice cW r53.Right.length cX, .slice cY r53.Rules.length c5, .int .i64 a6]) 0 hO rfl rfl rfl rfl
      obtain ⟨w68, rb, VB⟩ := hobt
      refine zg (VB Try.underlying3 rfl ti3 (by exact rfl) (by exact rfl)) ?_
      replace hO := rb.own
      refine zn ?_
      refine Go1.inBlock ?_
      refine zq ?_
      refine Go1.cut [(15, .pointer (some ⟨B44, 0, none⟩))] ⟨rfl, trivial⟩ ?_
      intro σ _
      refine Go1.drawS 0 [(0, .stable), (2, .stable), (1, .loud), (3, .loud), (4, .pure), (5, .pure), (6, .loud), (7, .pure), (8, .pure)] mixed (by kernel_rfl) ?_
      intro w71 abW
      have rc := Stp.same hO abW
      replace hO := rc.own
      refine GoQ.stable rfl (oblkAgg (vs := [.int .i64 r53.Points, .bool r53.Monoid, .slice cO r53.Gens.length cP, .slice cU r53.Elems.length cV, .slice cC r53.Prefix.length cD, .slice dr r53.Last.length dt, .slice cW r53.Right.length cX, .slice cY r53.Rules.length c5, .int .i64 a6]) (i := 0) 0 hO rfl rfl Try.underlying29 rfl ti29 rfl) rfl rfl ?_
      refine GoQ.stable rfl (oblkAgg (vs := [.int .i64 r53.Points, .bool r53.Monoid, .slice cO r53.Gens.length cP, .slice cU r53.Elems.length cV, .slice cC r53.Prefix.length cD, .slice dr r53.Last.length dt, .slice cW r53.Right.length cX, .slice cY r53.Rules.length c5, .int .i64 a6]) (i := 0) 0 hO rfl rfl Try.underlying29 rfl ti29 rfl) rfl rfl ?_
      replace aq := (aq.ch rb.ch).ch rc.ch
      have Z3 := (jw.ch.trans rb.ch).trans rc.ch
      replace aG := aG.ch Z3
      replace am := am.ch Z3
      replace aH := aH.ch Z3
      replace ax := ax.ch Z3
      replace az := az.ch Z3
      refine GoQ.call rfl (op_call body20 rfl (walk_enumerate_Validate (e := (⟨r53.Points, r53.Monoid, r53.Gens, r53.Elems, r53.Prefix, r53.Last, r53.Right, r53.Rules, a6⟩ : Enum)) hO.lt aG aq am aH ax az H)) (fun v w hr => by obtain ⟨_, _, hs, _⟩ := hr; assumption) rfl rfl ?_
      rintro v78 w75 ⟨r74, rfl, abX, H⟩
      have rf := Stp.same hO abX
      replace hO := rf.own
      replace aG := aG.ch rf.ch
      replace aq := aq.ch rf.ch
      replace am := am.ch rf.ch
      replace aH := aH.ch rf.ch
      replace ax := ax.ch rf.ch
      replace az := az.ch rf.ch
      refine GoQ.call rfl (op_call body21 rfl (walk_ref12_Validate (e := (⟨r53.Points, r53.Monoid, r53.Gens, r53.Elems, r53.Prefix, r53.Last, r53.Right, r53.Rules, a6⟩ : Enum)) hO.lt aG aq am aH ax az H)) (fun v w hr => by obtain ⟨_, _, hs, _⟩ := hr; assumption) rfl rfl ?_
      rintro v84 w81 ⟨r80, rfl, abY, H⟩
      have rh := Stp.same hO abY
      replace hO := rh.own
      by_cases h86 : r74 = r80
      ·replace H := ifp h86 H
       refine GoQ.pure rfl (fun w => opB (op_eql rfl rfl w) (decide_eq_true h86)) rfl rfl ?_
       refine GoQ.pure rfl (op_move rfl) rfl rfl ?_
       refine GoQ.call rfl (op_call body16 rfl (walk_law12_awake hO.lt H)) (fun v w hr => by obtain ⟨_, _, hs, _⟩ := hr; assumption) rfl rfl ?_
       rintro v91 w88 ⟨r87, rfl, LK, H⟩
       have gS := Stp.same hO LK
       replace hO := gS.own
       refine GoQ.pure rfl (op_pickT rfl rfl rfl) rfl rfl ?_
       refine GoQ.pure rfl (op_assign rfl) rfl rfl ?_
       refine GoQ.nil ?_
       refine Go1.ret1 Try.func4 rfl ?_
       replace hB := ((((((((((((((hB.trans d5.fr).trans iE.fr).trans tQ.fr).trans fq.fr).trans w4.fr).trans Bn.fr).trans lN.fr).trans vV.fr).trans vW.fr).trans jw.fr).trans rb.fr).trans rc.fr).trans rf.fr).trans rh.fr).trans gS.fr
       exact ⟨r87, rfl, hB.same, H⟩
      replace H := ifn h86 H
      refine GoQ.pure rfl (fun w => opB (op_eql rfl rfl w) (decide_eq_false h86)) rfl rfl ?_
      refine GoQ.pure rfl (op_move rfl) rfl rfl ?_
      refine GoQ.pass rfl rfl rfl ?_
      refine GoQ.pure rfl (op_pickF rfl rfl rfl) rfl rfl ?_
      refine GoQ.pure rfl (op_assign rfl) rfl rfl ?_
      refine GoQ.nil ?_
      refine Go1.ret1 Try.func4 rfl ?_
      replace hB := (((((((((((((hB.trans d5.fr).trans iE.fr).trans tQ.fr).trans fq.fr).trans w4.fr).trans Bn.fr).trans lN.fr).trans vV.fr).trans vW.fr).trans jw.fr).trans rb.fr).trans rc.fr).trans rf.fr).trans rh.fr
      exact ⟨false, rfl, hB.same, H⟩
     replace H := ifn h67 H
     refine zo (fun w => opB (op_eql rfl rfl w) (decide_eq_false h67)) (za rfl (zn (zf rfl rfl (zq (zr ?_)))))
     by_cases h93 : (bits .and .i64 a4 (7 : Int)) = (1 : Int)
     ·replace H := ifp h93 H
      refine zo (fun w => opB (op_eql rfl rfl w) (decide_eq_true h93)) (za rfl (zn (zt rfl rfl (zr (zo (op_fieldAddr Try.underlying29 rfl ti4 rfl (by decide)) ?_)))))
      by_cases h94 : r53.Monoid = true
      ·replace H := ifp h94 H
       refine zg (opB ((oblk (i := 1) 0 hO rfl rfl Try.underlying4 rfl rfl) _ (Same.refl _)) (h94)) (zo (op_not rfl) (zo (op_fieldAddr Try.underlying29 rfl ti4 rfl (by decide)) ?_))
       have hobt := oblkSt2 (v := .bool false) (i := 1) (cs' := #[.int .i64 r53.Points, .bool false, .slice cO r53.Gens.length cP, .slice cU r53.Elems.length cV, .slice cC r53.Prefix.length cD, .slice dr r53.Last.length dt, .slice cW r53.Right.length cX, .slice cY r53.Rules.length c5, .int .i64 r53.Done]) 0 hO rfl rfl rfl rfl
       obtain ⟨w95, ie, VC⟩ := hobt
       refine zg (VC Try.underlying4 rfl ti4 (by exact rfl) (by exact rfl)) ?_
       replace hO := ie.own
       refine zn ?_
       refine Go1.inBlock ?_
       refine zq ?_
       refine Go1.cut [(15, .pointer (some ⟨B44, 0, none⟩))] ⟨rfl, trivial⟩ ?_
       intro σ _
       refine Go1.drawS 0 [(0, .stable), (2, .stable), (1, .loud), (3, .loud), (4, .pure), (5, .pure), (6, .loud), (7, .pure), (8, .pure)] mixed (by kernel_rfl) ?_
       intro w98 ab0
       have mP := Stp.same hO ab0
       replace hO := mP.own
       refine GoQ.stable rfl (oblkAgg (vs := [.int .i64 r53.Points, .bool false, .slice cO r53.Gens.length cP, .slice cU r53.Elems.length cV, .slice cC r53.Prefix.length cD, .slice dr r53.Last.length dt, .slice cW r53.Right.length cX, .slice cY r53.Rules.length c5, .int .i64 r53.Done]) (i := 0) 0 hO rfl rfl Try.underlying29 rfl ti29 rfl) rfl rfl ?_
       refine GoQ.stable rfl (oblkAgg (vs := [.int .i64 r53.Points, .bool false, .slice cO r53.Gens.length cP, .slice cU r53.Elems.length cV, .slice cC r53.Prefix.length cD, .slice dr r53.Last.length dt, .slice cW r53.Right.length cX, .slice cY r53.Rules.length c5, .int .i64 r53.Done]) (i := 0) 0 hO rfl rfl Try.underlying29 rfl ti29 rfl) rfl rfl ?_
       replace aq := (aq.ch ie.ch).ch mP.ch
       have Z4 := (jw.ch.trans ie.ch).trans mP.ch
       replace aG := aG.ch Z4
       replace am := am.ch Z4
       replace aH := aH.ch Z4
       replace ax := ax.ch Z4
       replace az := az.ch Z4
       refine GoQ.call rfl (op_call body20 rfl (walk_enumerate_Validate (e := (⟨r53.Points, false, r53.Gens, r53.Elems, r53.Prefix, r53.Last, r53.Right, r53.Rules, r53.Done⟩ : Enum)) hO.lt aG aq am aH ax az H)) (fun v w hr => by obtain ⟨_, _, hs, _⟩ := hr; assumption) rfl rfl ?_
       rintro ahe aa8 ⟨r101, rfl, VD, H⟩
       have mQ := Stp.same hO VD
       replace hO := mQ.own
       replace aG := aG.ch mQ.ch
       replace aq := aq.ch mQ.ch
       replace am := am.ch mQ.ch
       replace aH := aH.ch mQ.ch
       replace ax := ax.ch mQ.ch
       replace az := az.ch mQ.ch
       refine GoQ.call rfl (op_call body21 rfl (walk_ref12_Validate (e := (⟨r53.Points, false, r53.Gens, r53.Elems, r53.Prefix, r53.Last, r53.Right, r53.Rules, r53.Done⟩ : Enum)) hO.lt aG aq am aH ax az H)) (fun v w hr => by obtain ⟨_, _, hs, _⟩ := hr; assumption) rfl rfl ?_
       rintro ahf HR ⟨r107, rfl, VE, H⟩
       have iN := Stp.same hO VE
       replace hO := iN.own
       by_cases JQ : r101 = r107
       ·replace H := ifp JQ H
        refine GoQ.pure rfl (fun w => opB (op_eql rfl rfl w) (decide_eq_true JQ)) rfl rfl ?_
        refine GoQ.pure rfl (op_move rfl) rfl rfl ?_
        refine GoQ.call rfl (op_call body16 rfl (walk_law12_awake hO.lt H)) (fun v w hr => by obtain ⟨_, _, hs, _⟩ := hr; assumption) rfl rfl ?_
        rintro ahg LB ⟨r114, rfl, VG, H⟩
        have gr := Stp.same hO VG
        replace hO := gr.own
        refine GoQ.pure rfl (op_pickT rfl rfl rfl) rfl rfl ?_
        refine GoQ.pure rfl (op_assign rfl) rfl rfl ?_
        refine GoQ.nil ?_
        refine Go1.ret1 Try.func4 rfl ?_
        replace hB := ((((((((((((((hB.trans d5.fr).trans iE.fr).trans tQ.fr).trans fq.fr).trans w4.fr).trans Bn.fr).trans lN.fr).trans vV.fr).trans vW.fr).trans jw.fr).trans ie.fr).trans mP.fr).trans mQ.fr).trans iN.fr).trans gr.fr
        exact ⟨r114, rfl, hB.same, H⟩
       replace H := ifn JQ H
       refine GoQ.pure rfl (fun w => opB (op_eql rfl rfl w) (decide_eq_false JQ)) rfl rfl ?_
       refine GoQ.pure rfl (op_move rfl) rfl rfl ?_
       refine GoQ.pass rfl rfl rfl ?_
       refine GoQ.pure rfl (op_pickF rfl rfl rfl) rfl rfl ?_
       refine GoQ.pure rfl (op_assign rfl) rfl rfl ?_
       refine GoQ.nil ?_
       refine Go1.ret1 Try.func4 rfl ?_
       replace hB := (((((((((((((hB.trans d5.fr).trans iE.fr).trans tQ.fr).trans fq.fr).trans w4.fr).trans Bn.fr).trans lN.fr).trans vV.fr).trans vW.fr).trans jw.fr).trans ie.fr).trans mP.fr).trans mQ.fr).trans iN.fr
       exact ⟨false, rfl, hB.same, H⟩
      replace H := ifn h94 H
      refine zg (opB ((oblk (i := 1) 0 hO rfl rfl Try.underlying4 rfl rfl) _ (Same.refl _)) (Bool.eq_false_iff.2 h94)) (zo (op_not rfl) (zo (op_fieldAddr Try.underlying29 rfl ti4 rfl (by decide)) ?_))
      have hobt := oblkSt2 (v := .bool true) (i := 1) (cs' := #[.int .i64 r53.Points, .bool true, .slice cO r53.Gens.length cP, .slice cU r53.Elems.length cV, .slice cC r53.Prefix.length cD, .slice dr r53.Last.length dt, .slice cW r53.Right.length cX, .slice cY r53.Rules.length c5, .int .i64 r53.Done]) 0 hO rfl rfl rfl rfl
      obtain ⟨ahh, gA, P8⟩ := hobt
      refine zg (P8 Try.underlying4 rfl ti4 (by exact rfl) (by exact rfl)) ?_
      replace hO := gA.own
      refine zn ?_
      refine Go1.inBlock ?_
      refine zq ?_
      refine Go1.drawS 0 [(0, .stable), (2, .stable), (1, .loud), (3, .loud), (4, .pure), (5, .pure), (6, .loud), (7, .pure), (8, .pure)] mixed (by kernel_rfl) ?_
      intro aay Je
      have gs := Stp.same hO Je
      replace hO := gs.own
      refine GoQ.stable rfl (oblkAgg (vs := [.int .i64 r53.Points, .bool true, .slice cO r53.Gens.length cP, .slice cU r53.Elems.length cV, .slice cC r53.Prefix.length cD, .slice dr r53.Last.length dt, .slice cW r53.Right.length cX, .slice cY r53.Rules.length c5, .int .i64 r53.Done]) (i := 0) 0 hO rfl rfl Try.underlying29 rfl ti29 rfl) rfl rfl ?_
      refine GoQ.stable rfl (oblkAgg (vs := [.int .i64 r53.Points, .bool true, .slice cO r53.Gens.length cP, .slice cU r53.Elems.length cV, .slice cC r53.Prefix.length cD, .slice dr r53.Last.length dt, .slice cW r53.Right.length cX, .slice cY r53.Rules.length c5, .int .i64 r53.Done]) (i := 0) 0 hO rfl rfl Try.underlying29 rfl ti29 rfl) rfl rfl ?_
      replace aq := (aq.ch gA.ch).ch gs.ch
      have Z5 := (jw.ch.trans gA.ch).trans gs.ch
      replace aG := aG.ch Z5
      replace am := am.ch Z5
      replace aH := aH.ch Z5
      replace ax := ax.ch Z5
      replace az := az.ch Z5
      refine GoQ.call rfl (op_call body20 rfl (walk_enumerate_Validate (e := (⟨r53.Points, true, r53.Gens, r53.Elems, r53.Prefix, r53.Last, r53.Right, r53.Rules, r53.Done⟩ : Enum)) hO.lt aG aq am aH ax az H)) (fun v w hr => by obtain ⟨_, _, hs, _⟩ := hr; assumption) rfl rfl ?_
      rintro aau ahi ⟨r126, rfl, VH, H⟩
      have mS := Stp.same hO VH
      replace hO := mS.own
      replace aG := aG.ch mS.ch
      replace aq := aq.ch mS.ch
      replace am := am.ch mS.ch
      replace aH := aH.ch mS.ch
      replace ax := ax.ch mS.ch
      replace az := az.ch mS.ch
      refine GoQ.call rfl (op_call body21 rfl (walk_ref12_Validate (e := (⟨r53.Points, true, r53.Gens, r53.Elems, r53.Prefix, r53.Last, r53.Right, r53.Rules, r53.Done⟩ : Enum)) hO.lt aG aq am aH ax az H)) (fun v w hr => by obtain ⟨_, _, hs, _⟩ := hr; assumption) rfl rfl ?_
      rintro ahj ahk ⟨r132, rfl, VI, H⟩
      have mT := Stp.same hO VI
      replace hO := mT.own
      by_cases JR : r126 = r132
      ·replace H := ifp JR H
       refine GoQ.pure rfl (fun w => opB (op_eql rfl rfl w) (decide_eq_true JR)) rfl rfl ?_
       refine GoQ.pure rfl (op_move rfl) rfl rfl ?_
       refine GoQ.call rfl (op_call body16 rfl (walk_law12_awake hO.lt H)) (fun v w hr => by obtain ⟨_, _, hs, _⟩ := hr; assumption) rfl rfl ?_
       rintro ahl aav ⟨r139, rfl, VJ, H⟩
       have mU := Stp.same hO VJ
       replace hO := mU.own
       refine GoQ.pure rfl (op_pickT rfl rfl rfl) rfl rfl ?_
       refine GoQ.pure rfl (op_assign rfl) rfl rfl ?_
       refine GoQ.nil ?_
       refine Go1.ret1 Try.func4 rfl ?_
       replace hB := ((((((((((((((hB.trans d5.fr).trans iE.fr).trans tQ.fr).trans fq.fr).trans w4.fr).trans Bn.fr).trans lN.fr).trans vV.fr).trans vW.fr).trans jw.fr).trans gA.fr).trans gs.fr).trans mS.fr).trans mT.fr).trans mU.fr
       exact ⟨r139, rfl, hB.same, H⟩
      replace H := ifn JR H
      refine GoQ.pure rfl (fun w => opB (op_eql rfl rfl w) (decide_eq_false JR)) rfl rfl ?_
      refine GoQ.pure rfl (op_move rfl) rfl rfl ?_
      refine GoQ.pass rfl rfl rfl ?_
      refine GoQ.pure rfl (op_pickF rfl rfl rfl) rfl rfl ?_
      refine GoQ.pure rfl (op_assign rfl) rfl rfl ?_
      refine GoQ.nil ?_
      refine Go1.ret1 Try.func4 rfl ?_
      replace hB := (((((((((((((hB.trans d5.fr).trans iE.fr).trans tQ.fr).trans fq.fr).trans w4.fr).trans Bn.fr).trans lN.fr).trans vV.fr).trans vW.fr).trans jw.fr).trans gA.fr).trans gs.fr).trans mS.fr).trans mT.fr
      exact ⟨false, rfl, hB.same, H⟩
     replace H := ifn h93 H
     refine zo (fun w => opB (op_eql rfl rfl w) (decide_eq_false h93)) (za rfl (zn (zf rfl rfl (zq ?_))))
     refine Go1.cut [(6, .int .i64 a6), (15, .pointer (some ⟨B44, 0, none⟩)), (18, .int .i64 (((a5.tmod (r53.Elems.length : Int)) + (r53.Elems.length : Int)).tmod (r53.Elems.length : Int))), (64, .int .i64 (bits .and .i64 a4 (7 : Int)))] ⟨rfl, rfl, rfl, rfl, trivial⟩ ?_
     intro σ _
     refine zr ?_
     by_cases JS : (bits .and .i64 a4 (7 : Int)) = (2 : Int)
     ·replace H := ifp JS H
      refine zo (fun w => opB (op_eql rfl rfl w) (decide_eq_true JS)) (za rfl (zn (zt rfl rfl (zq (zr ?_)))))
      have hobt := obuild (r := Rp.int .i64) (n := 0) (parts := []) (vs := []) (xs := ([] : List Int)) rfl Try.underlying26 ti3 hO (by decide) (by kernel_rfl) (Els.nil _ _ _) rfl
      obtain ⟨ahm, ahn, mV, eX, ac7, P9⟩ := hobt
      refine zg (P9 rfl) ?_
      replace hO := mV.own
      refine zo (op_fieldAddr Try.underlying29 rfl ti26 rfl (by decide)) (zs (oblk (i := 4) 1 hO rfl rfl Try.underlying26 rfl rfl) ?_)
      obtain ⟨ab1, H⟩ := H
      replace am := (am.ch jw.ch).ch mV.ch
      have hobt := oapp Try.underlying26 ti3 rfl 0 hO rfl eX am rfl ab1 (by decide)
      obtain ⟨aho, ED, EE, ac8, mW, Gd, Qa⟩ := hobt
      refine zg (Qa (by exact rfl) (by exact rfl)) ?_
      replace hO := mW.own
      refine zo (op_fieldAddr Try.underlying29 rfl ti26 rfl (by decide)) ?_
      have hobt := oblkSt2 (v := .slice ED (0 + r53.Prefix.length) EE) (i := 4) (cs' := #[.int .i64 r53.Points, .bool r53.Monoid, .slice cO r53.Gens.length cP, .slice cU r53.Elems.length cV, .slice ED (0 + r53.Prefix.length) EE, .slice dr r53.Last.length dt, .slice cW r53.Right.length cX, .slice cY r53.Rules.length c5, .int .i64 r53.Done]) 1 hO rfl rfl rfl rfl
      obtain ⟨ahp, gj, Qb⟩ := hobt
      refine zg (Qb Try.underlying26 rfl ti26 (by exact rfl) (by exact rfl)) ?_
      replace hO := gj.own
      refine zn (zr (zo (op_fieldAddr Try.underlying29 rfl ti26 rfl (by decide)) (zs (oblk (i := 4) 1 hO rfl rfl Try.underlying26 rfl rfl) (zm rfl (zm rfl ?_)))))
      obtain ⟨LN, H⟩ := H
      obtain ⟨LO, H⟩ := H
      replace Gd := Gd.ch gj.ch
      refine zo (op_index Try.underlying26 ti3 rfl rfl LN (ltn (Gd.neq hO 0 rfl) LO) (Gd.psome hO 0 rfl LN LO)) ?_
      have hobt := ost (r := Rp.int .i64) rfl 0 hO rfl Gd LN LO (v := .int .i64 a6) (u := a6) rfl rfl
      obtain ⟨ahq, ac9, mX, At, Qc⟩ := hobt
      refine zg (Qc Try.underlying3 rfl ti3 (by exact rfl) (by exact rfl)) ?_
      replace hO := mX.own
      refine zn ?_
      refine Go1.inBlock ?_
      refine zq ?_
      refine Go1.drawS 0 [(0, .stable), (2, .stable), (1, .loud), (3, .loud), (4, .pure), (5, .pure), (6, .loud), (7, .pure), (8, .pure)] mixed (by kernel_rfl) ?_
      intro ahr VK
      have l8 := Stp.same hO VK
      replace hO := l8.own
      refine GoQ.stable rfl (oblkAgg (vs := [.int .i64 r53.Points, .bool r53.Monoid, .slice cO r53.Gens.length cP, .slice cU r53.Elems.length cV, .slice ED (0 + r53.Prefix.length) EE, .slice dr r53.Last.length dt, .slice cW r53.Right.length cX, .slice cY r53.Rules.length c5, .int .i64 r53.Done]) (i := 0) 1 hO rfl rfl Try.underlying29 rfl ti29 rfl) rfl rfl ?_
      refine GoQ.stable rfl (oblkAgg (vs := [.int .i64 r53.Points, .bool r53.Monoid, .slice cO r53.Gens.length cP, .slice cU r53.Elems.length cV, .slice ED (0 + r53.Prefix.length) EE, .slice dr r53.Last.length dt, .slice cW r53.Right.length cX, .slice cY r53.Rules.length c5, .int .i64 r53.Done]) (i := 0) 1 hO rfl rfl Try.underlying29 rfl ti29 rfl) rfl rfl ?_
      replace At := At.ch l8.ch
      have hobt := rowlend 0 hO rfl At
      obtain ⟨VL, Fa⟩ := hobt
      have hOc177 := hO.drop 0
      have Z6 := (((mV.ch.trans mW.ch).trans gj.ch).trans mX.ch).trans l8.ch
      replace aq := aq.ch Z6
      have Z7 := ((((jw.ch.trans mV.ch).trans mW.ch).trans gj.ch).trans mX.ch).trans l8.ch
      replace aG := aG.ch Z7
      replace aH := aH.ch Z7
      replace ax := ax.ch Z7
      replace az := az.ch Z7
      refine GoQ.call rfl (op_call body20 (show ([.agg #[.int .i64 r53.Points, .bool r53.Monoid, .slice cO r53.Gens.length cP, .slice cU r53.Elems.length cV, .slice ED (0 + r53.Prefix.length) EE, .slice dr r53.Last.length dt, .slice cW r53.Right.length cX, .slice cY r53.Rules.length c5, .int .i64 r53.Done]] : List Value) = [.agg #[.int .i64 r53.Points, .bool r53.Monoid, .slice cO r53.Gens.length cP, .slice cU r53.Elems.length cV, .slice ED (st ((([] : List Int)) ++ r53.Prefix) (((a5.tmod (r53.Elems.length : Int)) + (r53.Elems.length : Int)).tmod (r53.Elems.length : Int)) a6).length EE, .slice dr r53.Last.length dt, .slice cW r53.Right.length cX, .slice cY r53.Rules.length c5, .int .i64 r53.Done]] from by rw [← Fa]) (walk_enumerate_Validate (e := (⟨r53.Points, r53.Monoid, r53.Gens, r53.Elems, st ((([] : List Int)) ++ r53.Prefix) (((a5.tmod (r53.Elems.length : Int)) + (r53.Elems.length : Int)).tmod (r53.Elems.length : Int)) a6, r53.Last, r53.Right, r53.Rules, r53.Done⟩ : Enum)) hOc177.lt (aG.ch (Owns.dropCh _ _ 0)) (aq.ch (Owns.dropCh _ _ 0)) VL (aH.ch (Owns.dropCh _ _ 0)) (ax.ch (Owns.dropCh _ _ 0)) (az.ch (Owns.dropCh _ _ 0)) H)) (fun v w hr => by obtain ⟨_, _, hs, _⟩ := hr; assumption) rfl rfl ?_
      rintro ahs aht ⟨r178, rfl, VM, H⟩
      have l9 := Stp.same hO VM
      replace hO := l9.own
      replace At := At.ch l9.ch
      have hobt := rowlend 0 hO rfl At
      obtain ⟨JA, JB⟩ := hobt
      have hOc186 := hO.drop 0
      replace aG := aG.ch l9.ch
      replace aq := aq.ch l9.ch
      replace aH := aH.ch l9.ch
      replace ax := ax.ch l9.ch
      replace az := az.ch l9.ch
      refine GoQ.call rfl (op_call body21 (show ([.agg #[.int .i64 r53.Points, .bool r53.Monoid, .slice cO r53.Gens.length cP, .slice cU r53.Elems.length cV, .slice ED (0 + r53.Prefix.length) EE, .slice dr r53.Last.length dt, .slice cW r53.Right.length cX, .slice cY r53.Rules.length c5, .int .i64 r53.Done]] : List Value) = [.agg #[.int .i64 r53.Points, .bool r53.Monoid, .slice cO r53.Gens.length cP, .slice cU r53.Elems.length cV, .slice ED (st ((([] : List Int)) ++ r53.Prefix) (((a5.tmod (r53.Elems.length : Int)) + (r53.Elems.length : Int)).tmod (r53.Elems.length : Int)) a6).length EE, .slice dr r53.Last.length dt, .slice cW r53.Right.length cX, .slice cY r53.Rules.length c5, .int .i64 r53.Done]] from by rw [← JB]) (walk_ref12_Validate (e := (⟨r53.Points, r53.Monoid, r53.Gens, r53.Elems, st ((([] : List Int)) ++ r53.Prefix) (((a5.tmod (r53.Elems.length : Int)) + (r53.Elems.length : Int)).tmod (r53.Elems.length : Int)) a6, r53.Last, r53.Right, r53.Rules, r53.Done⟩ : Enum)) hOc186.lt (aG.ch (Owns.dropCh _ _ 0)) (aq.ch (Owns.dropCh _ _ 0)) JA (aH.ch (Owns.dropCh _ _ 0)) (ax.ch (Owns.dropCh _ _ 0)) (az.ch (Owns.dropCh _ _ 0)) H)) (fun v w hr => by obtain ⟨_, _, hs, _⟩ := hr; assumption) rfl rfl ?_
      rintro ahu ahv ⟨r187, rfl, VN, H⟩
      have ma := Stp.same hO VN
      replace hO := ma.own
      by_cases JT : r178 = r187
      ·replace H := ifp JT H
       refine GoQ.pure rfl (fun w => opB (op_eql rfl rfl w) (decide_eq_true JT)) rfl rfl ?_
       refine GoQ.pure rfl (op_move rfl) rfl rfl ?_
       refine GoQ.call rfl (op_call body16 rfl (walk_law12_awake hO.lt H)) (fun v w hr => by obtain ⟨_, _, hs, _⟩ := hr; assumption) rfl rfl ?_
       rintro ahw aaQ ⟨r194, rfl, VO, H⟩
       have gN := Stp.same hO VO
       replace hO := gN.own
       refine GoQ.pure rfl (op_pickT rfl rfl rfl) rfl rfl ?_
       refine GoQ.pure rfl (op_assign rfl) rfl rfl ?_
       refine GoQ.nil ?_
       refine Go1.ret1 Try.func4 rfl ?_
       replace hB := (((((((((((((((((hB.trans d5.fr).trans iE.fr).trans tQ.fr).trans fq.fr).trans w4.fr).trans Bn.fr).trans lN.fr).trans vV.fr).trans vW.fr).trans jw.fr).trans mV.fr).trans mW.fr).trans gj.fr).trans mX.fr).trans l8.fr).trans l9.fr).trans ma.fr).trans gN.fr
       exact ⟨r194, rfl, hB.same, H⟩
      replace H := ifn JT H
      refine GoQ.pure rfl (fun w => opB (op_eql rfl rfl w) (decide_eq_false JT)) rfl rfl ?_
      refine GoQ.pure rfl (op_move rfl) rfl rfl ?_
      refine GoQ.pass rfl rfl rfl ?_
      refine GoQ.pure rfl (op_pickF rfl rfl rfl) rfl rfl ?_
      refine GoQ.pure rfl (op_assign rfl) rfl rfl ?_
      refine GoQ.nil ?_
      refine Go1.ret1 Try.func4 rfl ?_
      replace hB := ((((((((((((((((hB.trans d5.fr).trans iE.fr).trans tQ.fr).trans fq.fr).trans w4.fr).trans Bn.fr).trans lN.fr).trans vV.fr).trans vW.fr).trans jw.fr).trans mV.fr).trans mW.fr).trans gj.fr).trans mX.fr).trans l8.fr).trans l9.fr).trans ma.fr
      exact ⟨false, rfl, hB.same, H⟩
     replace H := ifn JS H
     refine zo (fun w => opB (op_eql rfl rfl w) (decide_eq_false JS)) (za rfl (zn (zf rfl rfl (zq ?_))))
     refine Go1.cut [(6, .int .i64 a6), (15, .pointer (some ⟨B44, 0, none⟩)), (18, .int .i64 (((a5.tmod (r53.Elems.length : Int)) + (r53.Elems.length : Int)).tmod (r53.Elems.length : Int))), (64, .int .i64 (bits .and .i64 a4 (7 : Int)))] ⟨rfl, rfl, rfl, rfl, trivial⟩ ?_
     intro σ _
     refine zr ?_
     by_cases JU : (bits .and .i64 a4 (7 : Int)) = (3 : Int)
     ·replace H := ifp JU H
      refine zo (fun w => opB (op_eql rfl rfl w) (decide_eq_true JU)) (za rfl (zn (zt rfl rfl (zq (zr ?_)))))
      have hobt := obuild (r := Rp.int .i64) (n := 0) (parts := []) (vs := []) (xs := ([] : List Int)) rfl Try.underlying26 ti3 hO (by decide) (by kernel_rfl) (Els.nil _ _ _) rfl
      obtain ⟨Y2, ahx, mY, VP, ada, Qd⟩ := hobt
      refine zg (Qd rfl) ?_
      replace hO := mY.own
      refine zo (op_fieldAddr Try.underlying29 rfl ti26 rfl (by decide)) (zs (oblk (i := 5) 1 hO rfl rfl Try.underlying26 rfl rfl) ?_)
      obtain ⟨ab2, H⟩ := H
      replace aH := (aH.ch jw.ch).ch mY.ch
      have hobt := oapp Try.underlying26 ti3 rfl 0 hO rfl VP aH rfl ab2 (by decide)
      obtain ⟨ahy, EF, EG, adb, m0, Ge, Qe⟩ := hobt
      refine zg (Qe (by exact rfl) (by exact rfl)) ?_
      replace hO := m0.own
      refine zo (op_fieldAddr Try.underlying29 rfl ti26 rfl (by decide)) ?_
      have hobt := oblkSt2 (v := .slice EF (0 + r53.Last.length) EG) (i := 5) (cs' := #[.int .i64 r53.Points, .bool r53.Monoid, .slice cO r53.Gens.length cP, .slice cU r53.Elems.length cV, .slice cC r53.Prefix.length cD, .slice EF (0 + r53.Last.length) EG, .slice cW r53.Right.length cX, .slice cY r53.Rules.length c5, .int .i64 r53.Done]) 1 hO rfl rfl rfl rfl
      obtain ⟨ahz, mb, Hv⟩ := hobt
      refine zg (Hv Try.underlying26 rfl ti26 (by exact rfl) (by exact rfl)) ?_
      replace hO := mb.own
      refine zn (zr (zo (op_fieldAddr Try.underlying29 rfl ti26 rfl (by decide)) (zs (oblk (i := 5) 1 hO rfl rfl Try.underlying26 rfl rfl) (zm rfl (zm rfl ?_)))))
      obtain ⟨LP, H⟩ := H
      obtain ⟨LQ, H⟩ := H
      replace Ge := Ge.ch mb.ch
      refine zo (op_index Try.underlying26 ti3 rfl rfl LP (ltn (Ge.neq hO 0 rfl) LQ) (Ge.psome hO 0 rfl LP LQ)) ?_
      have hobt := ost (r := Rp.int .i64) rfl 0 hO rfl Ge LP LQ (v := .int .i64 a6) (u := a6) rfl rfl
      obtain ⟨ahA, adc, m3, q8, Qf⟩ := hobt
      refine zg (Qf Try.underlying3 rfl ti3 (by exact rfl) (by exact rfl)) ?_
      replace hO := m3.own
      refine zn ?_
      refine Go1.inBlock ?_
      refine zq ?_
      refine Go1.drawS 0 [(0, .stable), (2, .stable), (1, .loud), (3, .loud), (4, .pure), (5, .pure), (6, .loud), (7, .pure), (8, .pure)] mixed (by kernel_rfl) ?_
      intro ahB VQ
      have gC := Stp.same hO VQ
      replace hO := gC.own
      refine GoQ.stable rfl (oblkAgg (vs := [.int .i64 r53.Points, .bool r53.Monoid, .slice cO r53.Gens.length cP, .slice cU r53.Elems.length cV, .slice cC r53.Prefix.length cD, .slice EF (0 + r53.Last.length) EG, .slice cW r53.Right.length cX, .slice cY r53.Rules.length c5, .int .i64 r53.Done]) (i := 0) 1 hO rfl rfl Try.underlying29 rfl ti29 rfl) rfl rfl ?_
      refine GoQ.stable rfl (oblkAgg (vs := [.int .i64 r53.Points, .bool r53.Monoid, .slice cO r53.Gens.length cP, .slice cU r53.Elems.length cV, .slice cC r53.Prefix.length cD, .slice EF (0 + r53.Last.length) EG, .slice cW r53.Right.length cX, .slice cY r53.Rules.length c5, .int .i64 r53.Done]) (i := 0) 1 hO rfl rfl Try.underlying29 rfl ti29 rfl) rfl rfl ?_
      replace q8 := q8.ch gC.ch
      have hobt := rowlend 0 hO rfl q8
      obtain ⟨VR, VS⟩ := hobt
      have hOc232 := hO.drop 0
      have Z8 := (((mY.ch.trans m0.ch).trans mb.ch).trans m3.ch).trans gC.ch
      replace aq := aq.ch Z8
      have Z9 := ((((jw.ch.trans mY.ch).trans m0.ch).trans mb.ch).trans m3.ch).trans gC.ch
      replace aG := aG.ch Z9
      replace am := am.ch Z9
      replace ax := ax.ch Z9
      replace az := az.ch Z9
      refine GoQ.call rfl (op_call body20 (show ([.agg #[.int .i64 r53.Points, .bool r53.Monoid, .slice cO r53.Gens.length cP, .slice cU r53.Elems.length cV, .slice cC r53.Prefix.length cD, .slice EF (0 + r53.Last.length) EG, .slice cW r53.Right.length cX, .slice cY r53.Rules.length c5, .int .i64 r53.Done]] : List Value) = [.agg #[.int .i64 r53.Points, .bool r53.Monoid, .slice cO r53.Gens.length cP, .slice cU r53.Elems.length cV, .slice cC r53.Prefix.length cD, .slice EF (st ((([] : List Int)) ++ r53.Last) (((a5.tmod (r53.Elems.length : Int)) + (r53.Elems.length : Int)).tmod (r53.Elems.length : Int)) a6).length EG, .slice cW r53.Right.length cX, .slice cY r53.Rules.length c5, .int .i64 r53.Done]] from by rw [← VS]) (walk_enumerate_Validate (e := (⟨r53.Points, r53.Monoid, r53.Gens, r53.Elems, r53.Prefix, st ((([] : List Int)) ++ r53.Last) (((a5.tmod (r53.Elems.length : Int)) + (r53.Elems.length : Int)).tmod (r53.Elems.length : Int)) a6, r53.Right, r53.Rules, r53.Done⟩ : Enum)) hOc232.lt (aG.ch (Owns.dropCh _ _ 0)) (aq.ch (Owns.dropCh _ _ 0)) (am.ch (Owns.dropCh _ _ 0)) VR (ax.ch (Owns.dropCh _ _ 0)) (az.ch (Owns.dropCh _ _ 0)) H)) (fun v w hr => by obtain ⟨_, _, hs, _⟩ := hr; assumption) rfl rfl ?_
      rintro ahC Lu ⟨r233, rfl, VU, H⟩
      have mc := Stp.same hO VU
      replace hO := mc.own
      replace q8 := q8.ch mc.ch
      have hobt := rowlend 0 hO rfl q8
      obtain ⟨VV, VW⟩ := hobt
      have hOc241 := hO.drop 0
      replace aG := aG.ch mc.ch
      replace aq := aq.ch mc.ch
      replace am := am.ch mc.ch
      replace ax := ax.ch mc.ch
      replace az := az.ch mc.ch
      refine GoQ.call rfl (op_call body21 (show ([.agg #[.int .i64 r53.Points, .bool r53.Monoid, .slice cO r53.Gens.length cP, .slice cU r53.Elems.length cV, .slice cC r53.Prefix.length cD, .slice EF (0 + r53.Last.length) EG, .slice cW r53.Right.length cX, .slice cY r53.Rules.length c5, .int .i64 r53.Done]] : List Value) = [.agg #[.int .i64 r53.Points, .bool r53.Monoid, .slice cO r53.Gens.length cP, .slice cU r53.Elems.length cV, .slice cC r53.Prefix.length cD, .slice EF (st ((([] : List Int)) ++ r53.Last) (((a5.tmod (r53.Elems.length : Int)) + (r53.Elems.length : Int)).tmod (r53.Elems.length : Int)) a6).length EG, .slice cW r53.Right.length cX, .slice cY r53.Rules.length c5, .int .i64 r53.Done]] from by rw [← VW]) (walk_ref12_Validate (e := (⟨r53.Points, r53.Monoid, r53.Gens, r53.Elems, r53.Prefix, st ((([] : List Int)) ++ r53.Last) (((a5.tmod (r53.Elems.length : Int)) + (r53.Elems.length : Int)).tmod (r53.Elems.length : Int)) a6, r53.Right, r53.Rules, r53.Done⟩ : Enum)) hOc241.lt (aG.ch (Owns.dropCh _ _ 0)) (aq.ch (Owns.dropCh _ _ 0)) (am.ch (Owns.dropCh _ _ 0)) VV (ax.ch (Owns.dropCh _ _ 0)) (az.ch (Owns.dropCh _ _ 0)) H)) (fun v w hr => by obtain ⟨_, _, hs, _⟩ := hr; assumption) rfl rfl ?_
      rintro ahD ahE ⟨r242, rfl, VX, H⟩
      have me := Stp.same hO VX
      replace hO := me.own
      by_cases JV : r233 = r242
      ·replace H := ifp JV H
       refine GoQ.pure rfl (fun w => opB (op_eql rfl rfl w) (decide_eq_true JV)) rfl rfl ?_
       refine GoQ.pure rfl (op_move rfl) rfl rfl ?_
       refine GoQ.call rfl (op_call body16 rfl (walk_law12_awake hO.lt H)) (fun v w hr => by obtain ⟨_, _, hs, _⟩ := hr; assumption) rfl rfl ?_
       rintro ahF ahG ⟨r249, rfl, VY, H⟩
       have gw := Stp.same hO VY
       replace hO := gw.own
       refine GoQ.pure rfl (op_pickT rfl rfl rfl) rfl rfl ?_
       refine GoQ.pure rfl (op_assign rfl) rfl rfl ?_
       refine GoQ.nil ?_
       refine Go1.ret1 Try.func4 rfl ?_
       replace hB := (((((((((((((((((hB.trans d5.fr).trans iE.fr).trans tQ.fr).trans fq.fr).trans w4.fr).trans Bn.fr).trans lN.fr).trans vV.fr).trans vW.fr).trans jw.fr).trans mY.fr).trans m0.fr).trans mb.fr).trans m3.fr).trans gC.fr).trans mc.fr).trans me.fr).trans gw.fr
       exact ⟨r249, rfl, hB.same, H⟩
      replace H := ifn JV H
      refine GoQ.pure rfl (fun w => opB (op_eql rfl rfl w) (decide_eq_false JV)) rfl rfl ?_
      refine GoQ.pure rfl (op_move rfl) rfl rfl ?_
      refine GoQ.pass rfl rfl rfl ?_
      refine GoQ.pure rfl (op_pickF rfl rfl rfl) rfl rfl ?_
      refine GoQ.pure rfl (op_assign rfl) rfl rfl ?_
      refine GoQ.nil ?_
      refine Go1.ret1 Try.func4 rfl ?_
      replace hB := ((((((((((((((((hB.trans d5.fr).trans iE.fr).trans tQ.fr).trans fq.fr).trans w4.fr).trans Bn.fr).trans lN.fr).trans vV.fr).trans vW.fr).trans jw.fr).trans mY.fr).trans m0.fr).trans mb.fr).trans m3.fr).trans gC.fr).trans mc.fr).trans me.fr
      exact ⟨false, rfl, hB.same, H⟩
     replace H := ifn JU H
     refine zo (fun w => opB (op_eql rfl rfl w) (decide_eq_false JU)) (za rfl (zn (zf rfl rfl (zq ?_))))
     refine Go1.cut [(6, .int .i64 a6), (15, .pointer (some ⟨B44, 0, none⟩)), (18, .int .i64 (((a5.tmod (r53.Elems.length : Int)) + (r53.Elems.length : Int)).tmod (r53.Elems.length : Int))), (64, .int .i64 (bits .and .i64 a4 (7 : Int)))] ⟨rfl, rfl, rfl, rfl, trivial⟩ ?_
     intro σ _
     refine zr ?_
     by_cases JW : (bits .and .i64 a4 (7 : Int)) = (4 : Int)
     ·replace H := ifp JW H
      refine zo (fun w => opB (op_eql rfl rfl w) (decide_eq_true JW)) (za rfl (zn (zt rfl rfl (zq (zr ?_)))))
      refine zm rfl (zo (op_fieldAddr Try.underlying29 rfl ti22 rfl (by decide)) (zs (oblk (i := 6) 0 hO rfl rfl Try.underlying22 rfl rfl) (zo (op_len Try.underlying22 rfl) ?_)))
      replace ax := ax.ch jw.ch
      replace H := H ax.bd
      by_cases JX : (((a5.tmod (r53.Elems.length : Int)) + (r53.Elems.length : Int)).tmod (r53.Elems.length : Int)) < (r53.Right.length : Int)
      ·replace H := ifp JX H
       refine zo (fun w => opB (op_lss rfl rfl w) (decide_eq_true JX)) (zn (zt rfl rfl (zq (zr (zo (op_fieldAddr Try.underlying29 rfl ti22 rfl (by decide)) ?_)))))
       refine zs (oblk (i := 6) 0 hO rfl rfl Try.underlying22 rfl rfl) ?_
       refine GoR.call (op_call body24 rfl (walk_ref03_Copy hO.lt ax H)) rfl rfl ?_
       rintro ahH ahI ⟨r257, C6, AP, AQ, acp, rfl, V0, hN261, H⟩
       have m5 := Stp.more hO V0 hN261
       replace hO := m5.own
       refine zo (op_fieldAddr Try.underlying29 rfl ti22 rfl (by decide)) ?_
       have hobt := oblkSt2 (v := .slice AP C6 AQ) (i := 6) (cs' := #[.int .i64 r53.Points, .bool r53.Monoid, .slice cO r53.Gens.length cP, .slice cU r53.Elems.length cV, .slice cC r53.Prefix.length cD, .slice dr r53.Last.length dt, .slice AP C6 AQ, .slice cY r53.Rules.length c5, .int .i64 r53.Done]) 1 hO rfl rfl rfl rfl
       obtain ⟨ahJ, gQ, Qg⟩ := hobt
       refine zg (Qg Try.underlying22 rfl ti22 (by exact rfl) (by exact rfl)) ?_
       replace hO := gQ.own
       refine zn (zr (zo (op_fieldAddr Try.underlying29 rfl ti22 rfl (by decide)) (zs (oblk (i := 6) 1 hO rfl rfl Try.underlying22 rfl rfl) (zm rfl ?_))))
       obtain ⟨H3, H⟩ := H
       obtain ⟨H4, H⟩ := H
       refine zo (op_index Try.underlying22 ti26 rfl rfl H3 (ltn (t2neq 0 hO rfl) H4) (t2some 0 hO rfl H3 H4)) (zs (t2head 0 hO rfl H3 H4 Try.underlying26 rfl rfl) (zm rfl ?_))
       obtain ⟨LS, H⟩ := H
       obtain ⟨LT, H⟩ := H
       refine zo (op_index Try.underlying26 ti3 rfl rfl LS LT (t2isome 0 hO rfl H3 H4 LS LT)) ?_
       have hobt := t2st (r := Rp.int .i64) (hf := (Fl.int .i64)) rfl 0 hO rfl H3 H4 LS LT (v := .int .i64 a6) (u := a6) rfl rfl
       obtain ⟨O7, m6, Qh⟩ := hobt
       refine zg (Qh Try.underlying3 rfl ti3 (by exact rfl) (by exact rfl)) ?_
       replace hO := m6.own
       refine zn ?_
       refine Go1.inBlock ?_
       refine zq ?_
       refine Go1.cut [(15, .pointer (some ⟨B44, 0, none⟩))] ⟨rfl, trivial⟩ ?_
       intro σ _
       refine Go1.drawS 0 [(0, .stable), (2, .stable), (1, .loud), (3, .loud), (4, .pure), (5, .pure), (6, .loud), (7, .pure), (8, .pure)] mixed (by kernel_rfl) ?_
       intro ahK V1
       have m7 := Stp.same hO V1
       replace hO := m7.own
       refine GoQ.stable rfl (oblkAgg (vs := [.int .i64 r53.Points, .bool r53.Monoid, .slice cO r53.Gens.length cP, .slice cU r53.Elems.length cV, .slice cC r53.Prefix.length cD, .slice dr r53.Last.length dt, .slice AP C6 AQ, .slice cY r53.Rules.length c5, .int .i64 r53.Done]) (i := 0) 1 hO rfl rfl Try.underlying29 rfl ti29 rfl) rfl rfl ?_
       refine GoQ.stable rfl (oblkAgg (vs := [.int .i64 r53.Points, .bool r53.Monoid, .slice cO r53.Gens.length cP, .slice cU r53.Elems.length cV, .slice cC r53.Prefix.length cD, .slice dr r53.Last.length dt, .slice AP C6 AQ, .slice cY r53.Rules.length c5, .int .i64 r53.Done]) (i := 0) 1 hO rfl rfl Try.underlying29 rfl ti29 rfl) rfl rfl ?_
       have V2 := t2lend 0 hO rfl
       have V3 := t2neq 0 hO rfl
       have hOc280 := hO.drop 0
       have Z10 := ((m5.ch.trans gQ.ch).trans m6.ch).trans m7.ch
       replace aq := aq.ch Z10
       have Z11 := (((jw.ch.trans m5.ch).trans gQ.ch).trans m6.ch).trans m7.ch
       replace aG := aG.ch Z11
       replace am := am.ch Z11
       replace aH := aH.ch Z11
       replace az := az.ch Z11
       refine GoQ.call rfl (op_call body20 (show ([.agg #[.int .i64 r53.Points, .bool r53.Monoid, .slice cO r53.Gens.length cP, .slice cU r53.Elems.length cV, .slice cC r53.Prefix.length cD, .slice dr r53.Last.length dt, .slice AP C6 AQ, .slice cY r53.Rules.length c5, .int .i64 r53.Done]] : List Value) = [.agg #[.int .i64 r53.Points, .bool r53.Monoid, .slice cO r53.Gens.length cP, .slice cU r53.Elems.length cV, .slice cC r53.Prefix.length cD, .slice dr r53.Last.length dt, .slice AP (st r257 (((a5.tmod (r53.Elems.length : Int)) + (r53.Elems.length : Int)).tmod (r53.Elems.length : Int)) (st (ix r257 (((a5.tmod (r53.Elems.length : Int)) + (r53.Elems.length : Int)).tmod (r53.Elems.length : Int))) (0 : Int) a6)).length AQ, .slice cY r53.Rules.length c5, .int .i64 r53.Done]] from by rw [← V3]) (walk_enumerate_Validate (e := (⟨r53.Points, r53.Monoid, r53.Gens, r53.Elems, r53.Prefix, r53.Last, st r257 (((a5.tmod (r53.Elems.length : Int)) + (r53.Elems.length : Int)).tmod (r53.Elems.length : Int)) (st (ix r257 (((a5.tmod (r53.Elems.length : Int)) + (r53.Elems.length : Int)).tmod (r53.Elems.length : Int))) (0 : Int) a6), r53.Rules, r53.Done⟩ : Enum)) hOc280.lt (aG.ch (Owns.dropCh _ _ 0)) (aq.ch (Owns.dropCh _ _ 0)) (am.ch (Owns.dropCh _ _ 0)) (aH.ch (Owns.dropCh _ _ 0)) V2 (az.ch (Owns.dropCh _ _ 0)) H)) (fun v w hr => by obtain ⟨_, _, hs, _⟩ := hr; assumption) rfl rfl ?_
       rintro ahL ahM ⟨r281, rfl, V4, H⟩
       have m8 := Stp.same hO V4
       replace hO := m8.own
       have V5 := t2lend 0 hO rfl
       have V6 := t2neq 0 hO rfl
       have hOc289 := hO.drop 0
       replace aG := aG.ch m8.ch
       replace aq := aq.ch m8.ch
       replace am := am.ch m8.ch
       replace aH := aH.ch m8.ch
       replace az := az.ch m8.ch
       refine GoQ.call rfl (op_call body21 (show ([.agg #[.int .i64 r53.Points, .bool r53.Monoid, .slice cO r53.Gens.length cP, .slice cU r53.Elems.length cV, .slice cC r53.Prefix.length cD, .slice dr r53.Last.length dt, .slice AP C6 AQ, .slice cY r53.Rules.length c5, .int .i64 r53.Done]] : List Value) = [.agg #[.int .i64 r53.Points, .bool r53.Monoid, .slice cO r53.Gens.length cP, .slice cU r53.Elems.length cV, .slice cC r53.Prefix.length cD, .slice dr r53.Last.length dt, .slice AP (st r257 (((a5.tmod (r53.Elems.length : Int)) + (r53.Elems.length : Int)).tmod (r53.Elems.length : Int)) (st (ix r257 (((a5.tmod (r53.Elems.length : Int)) + (r53.Elems.length : Int)).tmod (r53.Elems.length : Int))) (0 : Int) a6)).length AQ, .slice cY r53.Rules.length c5, .int .i64 r53.Done]] from by rw [← V6]) (walk_ref12_Validate (e := (⟨r53.Points, r53.Monoid, r53.Gens, r53.Elems, r53.Prefix, r53.Last, st r257 (((a5.tmod (r53.Elems.length : Int)) + (r53.Elems.length : Int)).tmod (r53.Elems.length : Int)) (st (ix r257 (((a5.tmod (r53.Elems.length : Int)) + (r53.Elems.length : Int)).tmod (r53.Elems.length : Int))) (0 : Int) a6), r53.Rules, r53.Done⟩ : Enum)) hOc289.lt (aG.ch (Owns.dropCh _ _ 0)) (aq.ch (Owns.dropCh _ _ 0)) (am.ch (Owns.dropCh _ _ 0)) (aH.ch (Owns.dropCh _ _ 0)) V5 (az.ch (Owns.dropCh _ _ 0)) H)) (fun v w hr => by obtain ⟨_, _, hs, _⟩ := hr; assumption) rfl rfl ?_
       rintro ahN ahO ⟨r290, rfl, V7, H⟩
       have m9 := Stp.same hO V7
       replace hO := m9.own
       by_cases JY : r281 = r290
       ·replace H := ifp JY H
        refine GoQ.pure rfl (fun w => opB (op_eql rfl rfl w) (decide_eq_true JY)) rfl rfl ?_
        refine GoQ.pure rfl (op_move rfl) rfl rfl ?_
        refine GoQ.call rfl (op_call body16 rfl (walk_law12_awake hO.lt H)) (fun v w hr => by obtain ⟨_, _, hs, _⟩ := hr; assumption) rfl rfl ?_
        rintro ahP ahQ ⟨r297, rfl, L6, H⟩
        have na := Stp.same hO L6
        replace hO := na.own
        refine GoQ.pure rfl (op_pickT rfl rfl rfl) rfl rfl ?_
        refine GoQ.pure rfl (op_assign rfl) rfl rfl ?_
        refine GoQ.nil ?_
        refine Go1.ret1 Try.func4 rfl ?_
        replace hB := ((((((((((((((((hB.trans d5.fr).trans iE.fr).trans tQ.fr).trans fq.fr).trans w4.fr).trans Bn.fr).trans lN.fr).trans vV.fr).trans vW.fr).trans jw.fr).trans m5.fr).trans gQ.fr).trans m6.fr).trans m7.fr).trans m8.fr).trans m9.fr).trans na.fr
        exact ⟨r297, rfl, hB.same, H⟩
       replace H := ifn JY H
       refine GoQ.pure rfl (fun w => opB (op_eql rfl rfl w) (decide_eq_false JY)) rfl rfl ?_
       refine GoQ.pure rfl (op_move rfl) rfl rfl ?_
       refine GoQ.pass rfl rfl rfl ?_
       refine GoQ.pure rfl (op_pickF rfl rfl rfl) rfl rfl ?_
       refine GoQ.pure rfl (op_assign rfl) rfl rfl ?_
       refine GoQ.nil ?_
       refine Go1.ret1 Try.func4 rfl ?_
       replace hB := (((((((((((((((hB.trans d5.fr).trans iE.fr).trans tQ.fr).trans fq.fr).trans w4.fr).trans Bn.fr).trans lN.fr).trans vV.fr).trans vW.fr).trans jw.fr).trans m5.fr).trans gQ.fr).trans m6.fr).trans m7.fr).trans m8.fr).trans m9.fr
       exact ⟨false, rfl, hB.same, H⟩
      replace H := ifn JX H
      refine zo (fun w => opB (op_lss rfl rfl w) (decide_eq_false JX)) (zn (zf rfl rfl (zk ?_)))
      refine Go1.inBlock ?_
      refine zq ?_
      refine Go1.drawS 0 [(0, .stable), (2, .stable), (1, .loud), (3, .loud), (4, .pure), (5, .pure), (6, .loud), (7, .pure), (8, .pure)] mixed (by kernel_rfl) ?_
      intro ahR V8
      have nb := Stp.same hO V8
      replace hO := nb.own
      refine GoQ.stable rfl (oblkAgg (vs := [.int .i64 r53.Points, .bool r53.Monoid, .slice cO r53.Gens.length cP, .slice cU r53.Elems.length cV, .slice cC r53.Prefix.length cD, .slice dr r53.Last.length dt, .slice cW r53.Right.length cX, .slice cY r53.Rules.length c5, .int .i64 r53.Done]) (i := 0) 0 hO rfl rfl Try.underlying29 rfl ti29 rfl) rfl rfl ?_
      refine GoQ.stable rfl (oblkAgg (vs := [.int .i64 r53.Points, .bool r53.Monoid, .slice cO r53.Gens.length cP, .slice cU r53.Elems.length cV, .slice cC r53.Prefix.length cD, .slice dr r53.Last.length dt, .slice cW r53.Right.length cX, .slice cY r53.Rules.length c5, .int .i64 r53.Done]) (i := 0) 0 hO rfl rfl Try.underlying29 rfl ti29 rfl) rfl rfl ?_
      replace aq := aq.ch nb.ch
      replace ax := ax.ch nb.ch
      have Z12 := jw.ch.trans nb.ch
      replace aG := aG.ch Z12
      replace am := am.ch Z12
      replace aH := aH.ch Z12
      replace az := az.ch Z12
      refine GoQ.call rfl (op_call body20 rfl (walk_enumerate_Validate (e := r53) hO.lt aG aq am aH ax az H)) (fun v w hr => by obtain ⟨_, _, hs, _⟩ := hr; assumption) rfl rfl ?_
      rintro ahS aac ⟨r306, rfl, V9, H⟩
      have gf := Stp.same hO V9
      replace hO := gf.own
      replace aG := aG.ch gf.ch
      replace aq := aq.ch gf.ch
      replace am := am.ch gf.ch
      replace aH := aH.ch gf.ch
      replace ax := ax.ch gf.ch
      replace az := az.ch gf.ch
      refine GoQ.call rfl (op_call body21 rfl (walk_ref12_Validate (e := r53) hO.lt aG aq am aH ax az H)) (fun v w hr => by obtain ⟨_, _, hs, _⟩ := hr; assumption) rfl rfl ?_
      rintro ahT ahU ⟨r312, rfl, Wa, H⟩
      have nc := Stp.same hO Wa
      replace hO := nc.own
      by_cases J0 : r306 = r312
      ·replace H := ifp J0 H
       refine GoQ.pure rfl (fun w => opB (op_eql rfl rfl w) (decide_eq_true J0)) rfl rfl ?_
       refine GoQ.pure rfl (op_move rfl) rfl rfl ?_
       refine GoQ.call rfl (op_call body16 rfl (walk_law12_awake hO.lt H)) (fun v w hr => by obtain ⟨_, _, hs, _⟩ := hr; assumption) rfl rfl ?_
       rintro ahV ahW ⟨r319, rfl, L7, H⟩
       have ne := Stp.same hO L7
       replace hO := ne.own
       refine GoQ.pure rfl (op_pickT rfl rfl rfl) rfl rfl ?_
       refine GoQ.pure rfl (op_assign rfl) rfl rfl ?_
       refine GoQ.nil ?_
       refine Go1.ret1 Try.func4 rfl ?_
       replace hB := (((((((((((((hB.trans d5.fr).trans iE.fr).trans tQ.fr).trans fq.fr).trans w4.fr).trans Bn.fr).trans lN.fr).trans vV.fr).trans vW.fr).trans jw.fr).trans nb.fr).trans gf.fr).trans nc.fr).trans ne.fr
       exact ⟨r319, rfl, hB.same, H⟩
      replace H := ifn J0 H
      refine GoQ.pure rfl (fun w => opB (op_eql rfl rfl w) (decide_eq_false J0)) rfl rfl ?_
      refine GoQ.pure rfl (op_move rfl) rfl rfl ?_
      refine GoQ.pass rfl rfl rfl ?_
      refine GoQ.pure rfl (op_pickF rfl rfl rfl) rfl rfl ?_
      refine GoQ.pure rfl (op_assign rfl) rfl rfl ?_
      refine GoQ.nil ?_
      refine Go1.ret1 Try.func4 rfl ?_
      replace hB := ((((((((((((hB.trans d5.fr).trans iE.fr).trans tQ.fr).trans fq.fr).trans w4.fr).trans Bn.fr).trans lN.fr).trans vV.fr).trans vW.fr).trans jw.fr).trans nb.fr).trans gf.fr).trans nc.fr
      exact ⟨false, rfl, hB.same, H⟩
     replace H := ifn JW H
     refine zo (fun w => opB (op_eql rfl rfl w) (decide_eq_false JW)) (za rfl (zn (zf rfl rfl (zq ?_))))
     refine Go1.cut [(6, .int .i64 a6), (15, .pointer (some ⟨B44, 0, none⟩)), (18, .int .i64 (((a5.tmod (r53.Elems.length : Int)) + (r53.Elems.length : Int)).tmod (r53.Elems.length : Int))), (64, .int .i64 (bits .and .i64 a4 (7 : Int)))] ⟨rfl, rfl, rfl, rfl, trivial⟩ ?_
     intro σ _
     refine zr ?_
     by_cases J1 : (bits .and .i64 a4 (7 : Int)) = (5 : Int)
     ·replace H := ifp J1 H
      refine zo (fun w => opB (op_eql rfl rfl w) (decide_eq_true J1)) (za rfl (zn (zt rfl rfl (zr ?_))))
      have hobt := obuildN (r := rpRule) (n := 0) (parts := []) (vs := []) (xs := ([] : List Rule)) Try.underlying27 ti39 hO (by decide) (by decide) (by kernel_rfl) (Els.nil _ _ _) rfl
      obtain ⟨ahX, ahY, nf, Wb, ade, Qi⟩ := hobt
      refine zg (Qi rfl) ?_
      replace hO := nf.own
      refine zo (op_fieldAddr Try.underlying29 rfl ti27 rfl (by decide)) (zs (oblk (i := 7) 1 hO rfl rfl Try.underlying27 rfl rfl) ?_)
      obtain ⟨ab3, H⟩ := H
      replace az := (az.ch jw.ch).ch nf.ch
      have hobt := oapp Try.underlying27 ti39 rfl 0 hO rfl Wb az rfl ab3 (by decide)
      obtain ⟨ah0, ah1, ah2, adf, fY, Gf, Qj⟩ := hobt
      refine zg (Qj (by exact rfl) (by exact rfl)) ?_
      replace hO := fY.own
      refine zo (op_build Try.underlying39 ti39 (pl := [(0, 1), (1, 1)]) (vs := [(0, .string (gstr (([97, 98] : Str)))), (1, .string (gstr (([97] : Str))))]) (cs := #[.string (gstr (([97, 98] : Str))), .string (gstr (([97] : Str)))]) (by kernel_rfl) rfl (by kernel_rfl)) ?_
      have hobt := obuildN (r := rpRule) (n := 1) (parts := [(0, .agg #[.string (gstr (([97, 98] : Str))), .string (gstr (([97] : Str)))])]) (vs := [.string (gstr (([97, 98] : Str))), .string (gstr (([97] : Str)))]) (xs := [(⟨([97, 98] : Str), ([97] : Str)⟩ : Rule)]) Try.underlying27 ti39 hO (by decide) (by decide) (by kernel_rfl) (Els.flat1 (⟨([97, 98] : Str), ([97] : Str)⟩ : Rule) ⟨(by decide), (by decide)⟩) rfl
      obtain ⟨ah3, ah4, mf, Wc, adg, Qk⟩ := hobt
      refine zg (Qk rfl) ?_
      replace hO := mf.own
      have hobt := freeze 0 hO rfl Wc
      obtain ⟨hO1, se, xX, Wd⟩ := hobt
      replace hO := hO1; clear hO1
      obtain ⟨ab4, H⟩ := H
      replace Gf := (Gf.ch mf.ch).ch se
      have hobt := oapp Try.underlying27 ti39 rfl 0 hO rfl Gf xX Wd ab4 (by decide)
      obtain ⟨ah5, EH, EI, adh, mg, yV, HV⟩ := hobt
      refine zg (HV (by exact rfl) (by exact rfl)) ?_
      replace hO := mg.own
      refine zo (op_fieldAddr Try.underlying29 rfl ti27 rfl (by decide)) ?_
      have hobt := oblkSt2 (v := .slice EH ((0 + r53.Rules.length) + 1) EI) (i := 7) (cs' := #[.int .i64 r53.Points, .bool r53.Monoid, .slice cO r53.Gens.length cP, .slice cU r53.Elems.length cV, .slice cC r53.Prefix.length cD, .slice dr r53.Last.length dt, .slice cW r53.Right.length cX, .slice EH ((0 + r53.Rules.length) + 1) EI, .int .i64 r53.Done]) 1 hO rfl rfl rfl rfl
      obtain ⟨Yj, lG, Ql⟩ := hobt
      refine zg (Ql Try.underlying27 rfl ti27 (by exact rfl) (by exact rfl)) ?_
      replace hO := lG.own
      refine zn ?_
      refine Go1.inBlock ?_
      refine zq ?_
      refine Go1.drawS 0 [(0, .stable), (2, .stable), (1, .loud), (3, .loud), (4, .pure), (5, .pure), (6, .loud), (7, .pure), (8, .pure)] mixed (by kernel_rfl) ?_
      intro aah L8
      have fR := Stp.same hO L8
      replace hO := fR.own
      refine GoQ.stable rfl (oblkAgg (vs := [.int .i64 r53.Points, .bool r53.Monoid, .slice cO r53.Gens.length cP, .slice cU r53.Elems.length cV, .slice cC r53.Prefix.length cD, .slice dr r53.Last.length dt, .slice cW r53.Right.length cX, .slice EH ((0 + r53.Rules.length) + 1) EI, .int .i64 r53.Done]) (i := 0) 1 hO rfl rfl Try.underlying29 rfl ti29 rfl) rfl rfl ?_
      refine GoQ.stable rfl (oblkAgg (vs := [.int .i64 r53.Points, .bool r53.Monoid, .slice cO r53.Gens.length cP, .slice cU r53.Elems.length cV, .slice cC r53.Prefix.length cD, .slice dr r53.Last.length dt, .slice cW r53.Right.length cX, .slice EH ((0 + r53.Rules.length) + 1) EI, .int .i64 r53.Done]) (i := 0) 1 hO rfl rfl Try.underlying29 rfl ti29 rfl) rfl rfl ?_
      replace yV := (yV.ch lG.ch).ch fR.ch
      have hobt := rowlend 0 hO rfl yV
      obtain ⟨We, Wf⟩ := hobt
      have hOc369 := hO.drop 0
      have Z13 := (((((nf.ch.trans fY.ch).trans mf.ch).trans se).trans mg.ch).trans lG.ch).trans fR.ch
      replace aq := aq.ch Z13
      have Z14 := ((((((jw.ch.trans nf.ch).trans fY.ch).trans mf.ch).trans se).trans mg.ch).trans lG.ch).trans fR.ch
      replace aG := aG.ch Z14
      replace am := am.ch Z14
      replace aH := aH.ch Z14
      replace ax := ax.ch Z14
      refine GoQ.call rfl (op_call body20 (show ([.agg #[.int .i64 r53.Points, .bool r53.Monoid, .slice cO r53.Gens.length cP, .slice cU r53.Elems.length cV, .slice cC r53.Prefix.length cD, .slice dr r53.Last.length dt, .slice cW r53.Right.length cX, .slice EH ((0 + r53.Rules.length) + 1) EI, .int .i64 r53.Done]] : List Value) = [.agg #[.int .i64 r53.Points, .bool r53.Monoid, .slice cO r53.Gens.length cP, .slice cU r53.Elems.length cV, .slice cC r53.Prefix.length cD, .slice dr r53.Last.length dt, .slice cW r53.Right.length cX, .slice EH (((([] : List Rule)) ++ r53.Rules) ++ ([(⟨([97, 98] : Str), ([97] : Str)⟩ : Rule)])).length EI, .int .i64 r53.Done]] from by rw [← Wf]) (walk_enumerate_Validate (e := (⟨r53.Points, r53.Monoid, r53.Gens, r53.Elems, r53.Prefix, r53.Last, r53.Right, ((([] : List Rule)) ++ r53.Rules) ++ ([(⟨([97, 98] : Str), ([97] : Str)⟩ : Rule)]), r53.Done⟩ : Enum)) hOc369.lt (aG.ch (Owns.dropCh _ _ 0)) (aq.ch (Owns.dropCh _ _ 0)) (am.ch (Owns.dropCh _ _ 0)) (aH.ch (Owns.dropCh _ _ 0)) (ax.ch (Owns.dropCh _ _ 0)) We H)) (fun v w hr => by obtain ⟨_, _, hs, _⟩ := hr; assumption) rfl rfl ?_
      rintro ah6 abe ⟨r370, rfl, Wg, H⟩
      have lH := Stp.same hO Wg
      replace hO := lH.own
      replace yV := yV.ch lH.ch
      have hobt := rowlend 0 hO rfl yV
      obtain ⟨Wh, Wi⟩ := hobt
      have hOc378 := hO.drop 0
      replace aG := aG.ch lH.ch
      replace aq := aq.ch lH.ch
      replace am := am.ch lH.ch
      replace aH := aH.ch lH.ch
      replace ax := ax.ch lH.ch
      refine GoQ.call rfl (op_call body21 (show ([.agg #[.int .i64 r53.Points, .bool r53.Monoid, .slice cO r53.Gens.length cP, .slice cU r53.Elems.length cV, .slice cC r53.Prefix.length cD, .slice dr r53.Last.length dt, .slice cW r53.Right.length cX, .slice EH ((0 + r53.Rules.length) + 1) EI, .int .i64 r53.Done]] : List Value) = [.agg #[.int .i64 r53.Points, .bool r53.Monoid, .slice cO r53.Gens.length cP, .slice cU r53.Elems.length cV, .slice cC r53.Prefix.length cD, .slice dr r53.Last.length dt, .slice cW r53.Right.length cX, .slice EH (((([] : List Rule)) ++ r53.Rules) ++ ([(⟨([97, 98] : Str), ([97] : Str)⟩ : Rule)])).length EI, .int .i64 r53.Done]] from by rw [← Wi]) (walk_ref12_Validate (e := (⟨r53.Points, r53.Monoid, r53.Gens, r53.Elems, r53.Prefix, r53.Last, r53.Right, ((([] : List Rule)) ++ r53.Rules) ++ ([(⟨([97, 98] : Str), ([97] : Str)⟩ : Rule)]), r53.Done⟩ : Enum)) hOc378.lt (aG.ch (Owns.dropCh _ _ 0)) (aq.ch (Owns.dropCh _ _ 0)) (am.ch (Owns.dropCh _ _ 0)) (aH.ch (Owns.dropCh _ _ 0)) (ax.ch (Owns.dropCh _ _ 0)) Wh H)) (fun v w hr => by obtain ⟨_, _, hs, _⟩ := hr; assumption) rfl rfl ?_
      rintro ah7 Yl ⟨r379, rfl, Wj, H⟩
      have gX := Stp.same hO Wj
      replace hO := gX.own
      by_cases J2 : r370 = r379
      ·replace H := ifp J2 H
       refine GoQ.pure rfl (fun w => opB (op_eql rfl rfl w) (decide_eq_true J2)) rfl rfl ?_
       refine GoQ.pure rfl (op_move rfl) rfl rfl ?_
       refine GoQ.call rfl (op_call body16 rfl (walk_law12_awake hO.lt H)) (fun v w hr => by obtain ⟨_, _, hs, _⟩ := hr; assumption) rfl rfl ?_
       rintro ah8 I4 ⟨r386, rfl, Wk, H⟩
       have gL := Stp.same hO Wk
       replace hO := gL.own
       refine GoQ.pure rfl (op_pickT rfl rfl rfl) rfl rfl ?_
       refine GoQ.pure rfl (op_assign rfl) rfl rfl ?_
       refine GoQ.nil ?_
       refine Go1.ret1 Try.func4 rfl ?_
       replace hB := (((((((((((((((((((hB.trans d5.fr).trans iE.fr).trans tQ.fr).trans fq.fr).trans w4.fr).trans Bn.fr).trans lN.fr).trans vV.fr).trans vW.fr).trans jw.fr).trans nf.fr).trans fY.fr).trans mf.fr).trans (Owns.dropFr _ _ 0)).trans mg.fr).trans lG.fr).trans fR.fr).trans lH.fr).trans gX.fr).trans gL.fr
       exact ⟨r386, rfl, hB.same, H⟩
      replace H := ifn J2 H
      refine GoQ.pure rfl (fun w => opB (op_eql rfl rfl w) (decide_eq_false J2)) rfl rfl ?_
      refine GoQ.pure rfl (op_move rfl) rfl rfl ?_
      refine GoQ.pass rfl rfl rfl ?_
      refine GoQ.pure rfl (op_pickF rfl rfl rfl) rfl rfl ?_
      refine GoQ.pure rfl (op_assign rfl) rfl rfl ?_
      refine GoQ.nil ?_
      refine Go1.ret1 Try.func4 rfl ?_
      replace hB := ((((((((((((((((((hB.trans d5.fr).trans iE.fr).trans tQ.fr).trans fq.fr).trans w4.fr).trans Bn.fr).trans lN.fr).trans vV.fr).trans vW.fr).trans jw.fr).trans nf.fr).trans fY.fr).trans mf.fr).trans (Owns.dropFr _ _ 0)).trans mg.fr).trans lG.fr).trans fR.fr).trans lH.fr).trans gX.fr
      exact ⟨false, rfl, hB.same, H⟩
     replace H := ifn J1 H
     refine zo (fun w => opB (op_eql rfl rfl w) (decide_eq_false J1)) (za rfl (zn (zf rfl rfl (zq ?_))))
     refine Go1.cut [(6, .int .i64 a6), (15, .pointer (some ⟨B44, 0, none⟩)), (18, .int .i64 (((a5.tmod (r53.Elems.length : Int)) + (r53.Elems.length : Int)).tmod (r53.Elems.length : Int))), (64, .int .i64 (bits .and .i64 a4 (7 : Int)))] ⟨rfl, rfl, rfl, rfl, trivial⟩ ?_
     intro σ _
     refine zr ?_
     by_cases Bz : (bits .and .i64 a4 (7 : Int)) = (6 : Int)
     ·replace H := ifp Bz H
      refine zo (fun w => opB (op_eql rfl rfl w) (decide_eq_true Bz)) (za rfl (zn (zt rfl rfl (zr (zm rfl ?_)))))
      refine zo (op_fieldAddr Try.underlying29 rfl ti3 rfl (by decide)) ?_
      have hobt := oblkSt2 (v := .int .i64 a6) (i := 0) (cs' := #[.int .i64 a6, .bool r53.Monoid, .slice cO r53.Gens.length cP, .slice cU r53.Elems.length cV, .slice cC r53.Prefix.length cD, .slice dr r53.Last.length dt, .slice cW r53.Right.length cX, .slice cY r53.Rules.length c5, .int .i64 r53.Done]) 0 hO rfl rfl rfl rfl
      obtain ⟨ah9, gY, HO⟩ := hobt
      refine zg (HO Try.underlying3 rfl ti3 (by exact rfl) (by exact rfl)) ?_
      replace hO := gY.own
      refine zn ?_
      refine Go1.inBlock ?_
      refine zq ?_
      refine Go1.drawS 0 [(0, .stable), (2, .stable), (1, .loud), (3, .loud), (4, .pure), (5, .pure), (6, .loud), (7, .pure), (8, .pure)] mixed (by kernel_rfl) ?_
      intro aia Wl
      have ng := Stp.same hO Wl
      replace hO := ng.own
      refine GoQ.stable rfl (oblkAgg (vs := [.int .i64 a6, .bool r53.Monoid, .slice cO r53.Gens.length cP, .slice cU r53.Elems.length cV, .slice cC r53.Prefix.length cD, .slice dr r53.Last.length dt, .slice cW r53.Right.length cX, .slice cY r53.Rules.length c5, .int .i64 r53.Done]) (i := 0) 0 hO rfl rfl Try.underlying29 rfl ti29 rfl) rfl rfl ?_
      refine GoQ.stable rfl (oblkAgg (vs := [.int .i64 a6, .bool r53.Monoid, .slice cO r53.Gens.length cP, .slice cU r53.Elems.length cV, .slice cC r53.Prefix.length cD, .slice dr r53.Last.length dt, .slice cW r53.Right.length cX, .slice cY r53.Rules.length c5, .int .i64 r53.Done]) (i := 0) 0 hO rfl rfl Try.underlying29 rfl ti29 rfl) rfl rfl ?_
      replace aq := (aq.ch gY.ch).ch ng.ch
      have Z15 := (jw.ch.trans gY.ch).trans ng.ch
      replace aG := aG.ch Z15
      replace am := am.ch Z15
      replace aH := aH.ch Z15
      replace ax := ax.ch Z15
      replace az := az.ch Z15
      refine GoQ.call rfl (op_call body20 rfl (walk_enumerate_Validate (e := (⟨a6, r53.Monoid, r53.Gens, r53.Elems, r53.Prefix, r53.Last, r53.Right, r53.Rules, r53.Done⟩ : Enum)) hO.lt aG aq am aH ax az H)) (fun v w hr => by obtain ⟨_, _, hs, _⟩ := hr; assumption) rfl rfl ?_
      rintro aib aic ⟨r399, rfl, Wm, H⟩
      have nh := Stp.same hO Wm
      replace hO := nh.own
      replace aG := aG.ch nh.ch
      replace aq := aq.ch nh.ch
      replace am := am.ch nh.ch
      replace aH := aH.ch nh.ch
      replace ax := ax.ch nh.ch
      replace az := az.ch nh.ch
      refine GoQ.call rfl (op_call body21 rfl (walk_ref12_Validate (e := (⟨a6, r53.Monoid, r53.Gens, r53.Elems, r53.Prefix, r53.Last, r53.Right, r53.Rules, r53.Done⟩ : Enum)) hO.lt aG aq am aH ax az H)) (fun v w hr => by obtain ⟨_, _, hs, _⟩ := hr; assumption) rfl rfl ?_
      rintro aid aie ⟨r405, rfl, Wn, H⟩
      have gh := Stp.same hO Wn
      replace hO := gh.own
      by_cases J3 : r399 = r405
      ·replace H := ifp J3 H
       refine GoQ.pure rfl (fun w => opB (op_eql rfl rfl w) (decide_eq_true J3)) rfl rfl ?_
       refine GoQ.pure rfl (op_move rfl) rfl rfl ?_
       refine GoQ.call rfl (op_call body16 rfl (walk_law12_awake hO.lt H)) (fun v w hr => by obtain ⟨_, _, hs, _⟩ := hr; assumption) rfl rfl ?_
       rintro aaW Nl ⟨r412, rfl, Jw, H⟩
       have iO := Stp.same hO Jw
       replace hO := iO.own
       refine GoQ.pure rfl (op_pickT rfl rfl rfl) rfl rfl ?_
       refine GoQ.pure rfl (op_assign rfl) rfl rfl ?_
       refine GoQ.nil ?_
       refine Go1.ret1 Try.func4 rfl ?_
       replace hB := ((((((((((((((hB.trans d5.fr).trans iE.fr).trans tQ.fr).trans fq.fr).trans w4.fr).trans Bn.fr).trans lN.fr).trans vV.fr).trans vW.fr).trans jw.fr).trans gY.fr).trans ng.fr).trans nh.fr).trans gh.fr).trans iO.fr
       exact ⟨r412, rfl, hB.same, H⟩
      replace H := ifn J3 H
      refine GoQ.pure rfl (fun w => opB (op_eql rfl rfl w) (decide_eq_false J3)) rfl rfl ?_
      refine GoQ.pure rfl (op_move rfl) rfl rfl ?_
      refine GoQ.pass rfl rfl rfl ?_
      refine GoQ.pure rfl (op_pickF rfl rfl rfl) rfl rfl ?_
      refine GoQ.pure rfl (op_assign rfl) rfl rfl ?_
      refine GoQ.nil ?_
      refine Go1.ret1 Try.func4 rfl ?_
      replace hB := (((((((((((((hB.trans d5.fr).trans iE.fr).trans tQ.fr).trans fq.fr).trans w4.fr).trans Bn.fr).trans lN.fr).trans vV.fr).trans vW.fr).trans jw.fr).trans gY.fr).trans ng.fr).trans nh.fr).trans gh.fr
      exact ⟨false, rfl, hB.same, H⟩
     replace H := ifn Bz H
     refine zo (fun w => opB (op_eql rfl rfl w) (decide_eq_false Bz)) (za rfl (zn (zf rfl rfl ?_)))
     refine Go1.cut [(15, .pointer (some ⟨B44, 0, none⟩)), (18, .int .i64 (((a5.tmod (r53.Elems.length : Int)) + (r53.Elems.length : Int)).tmod (r53.Elems.length : Int)))] ⟨rfl, rfl, trivial⟩ ?_
     intro σ _
     refine Go1.drawA (CSv.tr [(some ⟨B44, 3, none⟩), (padd cU ((((a5.tmod (r53.Elems.length : Int)) + (r53.Elems.length : Int)).tmod (r53.Elems.length : Int)).toNat * (Rp.sl (Rp.int .i64)).sz + 0))]) A 1 [(1, .pure), (2, .stable), (4, .pure), (5, .stable), (6, .pure), (7, .pure), (8, .stable), (0, .alloc), (3, .loud), (9, .alloc), (10, .loud), (11, .pure), (12, .last)] mixed (by kernel_rfl) trivial hO.bd ?_
     intro aif Wo
     have ni := Stp.same hO Wo
     replace hO := ni.own
     have G4 := hO.le
     replace hB := ((((((((((hB.trans d5.fr).trans iE.fr).trans tQ.fr).trans fq.fr).trans w4.fr).trans Bn.fr).trans lN.fr).trans vV.fr).trans vW.fr).trans jw.fr).trans ni.fr
     have hw421 := hB.ch.size
     refine GoQA.pure rfl (op_fieldAddr Try.underlying29 rfl ti22 rfl (by decide)) rfl rfl ?_
     refine GoQA.stable rfl (loadV (.head _) rfl (blkCell 0 hO rfl rfl) Try.underlying22 rfl rfl) rfl rfl ?_
     refine GoQA.pure rfl (op_fieldAddr Try.underlying29 rfl ti22 rfl (by decide)) rfl rfl ?_
     refine GoQA.stable rfl (loadV (.head _) rfl (blkCell 0 hO rfl rfl) Try.underlying22 rfl rfl) rfl rfl ?_
     refine GoQA.pure rfl (op_move rfl) rfl rfl ?_
     obtain ⟨GK, H⟩ := H
     obtain ⟨GL, H⟩ := H
     replace aq := aq.ch ni.ch
     refine GoQA.pure rfl (op_index Try.underlying22 ti26 rfl rfl GK GL (aq.some_ GK GL)) rfl rfl ?_
     have hobt := ldSlC aq GK GL
     obtain ⟨GM, GN, Wp, ji⟩ := hobt
     refine GoQA.stable rfl (loadV (.tail _ (.head _)) (padd_some (aq.some_ GK GL)) Wp Try.underlying26 rfl rfl) rfl rfl ?_
     refine GoQA.alloc rfl rfl (alBuild (n := 0) (parts := []) (vs := []) Try.underlying22 ti26 (by decide) (by decide) (by decide) (by kernel_rfl) rfl rfl) ?_
     intro KB A431 Qm A433 qA MJ hd436 hnb437 hh438
     replace hO := qA.own hO
     have Gg : Els (Rp.sl (Rp.int .i64)) (bl [.blk B44 (.cells #[.int .i64 r53.Points, .bool r53.Monoid, .slice cO r53.Gens.length cP, .slice cU r53.Elems.length cV, .slice cC r53.Prefix.length cD, .slice dr r53.Last.length dt, .slice cW r53.Right.length cX, .slice cY r53.Rules.length c5, .int .i64 r53.Done] 29 (0, 0)), .blk B2 (.cells #[.int .i64 a0.Points, .bool a0.Monoid, .slice aS a0.Gens.length aT, .slice bY a0.Elems.length b5, .slice bI a0.Prefix.length bK, .slice co a0.Last.length cp, .slice b6 a0.Right.length b7, .slice b8 a0.Rules.length b9, .int .i64 a0.Done] 29 (0, 0))] ++ A431) KB [] (([] : List (List Int))) := (Els.nil _ _ _)
     have ri := gainCh (w := KB) (E := [.blk B44 (.cells #[.int .i64 r53.Points, .bool r53.Monoid, .slice cO r53.Gens.length cP, .slice cU r53.Elems.length cV, .slice cC r53.Prefix.length cD, .slice dr r53.Last.length dt, .slice cW r53.Right.length cX, .slice cY r53.Rules.length c5, .int .i64 r53.Done] 29 (0, 0)), .blk B2 (.cells #[.int .i64 a0.Points, .bool a0.Monoid, .slice aS a0.Gens.length aT, .slice bY a0.Elems.length b5, .slice bI a0.Prefix.length bK, .slice co a0.Last.length cp, .slice b6 a0.Right.length b7, .slice b8 a0.Rules.length b9, .int .i64 a0.Done] 29 (0, 0))]) (e := .row 26 1 (some ⟨Qm, 0, none⟩) 0 0 []) MJ rfl
     replace hB := hB.trans (qA.same.fr _)
     replace hB := Fr.gain (e := .row 26 1 (some ⟨Qm, 0, none⟩) 0 0 []) hB (Nat.le_trans hw421 hnb437) rfl
     replace hO := Owns.gain hO MJ G4 rfl hh438 hd436
     refine GoQA.loudI rfl rfl ?_
     intro Nr A442 qj
     replace hO := qj.own hO
     obtain ⟨Lf, H⟩ := H
     replace Gg := (Gg.ch ri).ch (qj.ch _)
     have Z16 := ((qA.ch _).trans ri).trans (qj.ch _)
     replace aq := aq.ch Z16
     have hobt := oapp Try.underlying22 ti26 rfl 0 hO rfl Gg aq rfl Lf (by decide)
     obtain ⟨aan, Ex, Ey, G5, fM, jY, Ez⟩ := hobt
     refine GoAt.step (Ez (by exact rfl) (by exact rfl)) (fun _ => (CSv.cons (cs_eq (blkCell 1 hO rfl rfl) (blkCell 1 fM.own rfl rfl)) (CSv.cons (ISl.csk aq GK GL fM.ch) (CSv.nil _ _)))) (Stp.kp hO fM) rfl ?_
     replace hO := fM.own
     refine GoQA.alloc rfl rfl (alBuild (n := 1) (parts := [(0, .slice GM (((ix r53.Elems (((a5.tmod (r53.Elems.length : Int)) + (r53.Elems.length : Int)).tmod (r53.Elems.length : Int)))).length) GN)]) (vs := [.slice GM (((ix r53.Elems (((a5.tmod (r53.Elems.length : Int)) + (r53.Elems.length : Int)).tmod (r53.Elems.length : Int)))).length) GN]) Try.underlying22 ti26 (by decide) (by decide) (by decide) (by kernel_rfl) rfl rfl) ?_
     intro Qn A455 Qo A457 qk ML hd460 hnb461 hh462
     replace hO := qk.own hO
     replace ji := ((ji.ch Z16).ch fM.ch).ch (qk.ch _)
     have Gh : Els (Rp.sl (Rp.int .i64)) (bl [.row 26 1 Ex (0 + r53.Elems.length) Ey G5, .blk B44 (.cells #[.int .i64 r53.Points, .bool r53.Monoid, .slice cO r53.Gens.length cP, .slice cU r53.Elems.length cV, .slice cC r53.Prefix.length cD, .slice dr r53.Last.length dt, .slice cW r53.Right.length cX, .slice cY r53.Rules.length c5, .int .i64 r53.Done] 29 (0, 0)), .blk B2 (.cells #[.int .i64 a0.Points, .bool a0.Monoid, .slice aS a0.Gens.length aT, .slice bY a0.Elems.length b5, .slice bI a0.Prefix.length bK, .slice co a0.Last.length cp, .slice b6 a0.Right.length b7, .slice b8 a0.Rules.length b9, .int .i64 a0.Done] 29 (0, 0))] ++ A455) Qn [.slice GM (((ix r53.Elems (((a5.tmod (r53.Elems.length : Int)) + (r53.Elems.length : Int)).tmod (r53.Elems.length : Int)))).length) GN] [(ix r53.Elems (((a5.tmod (r53.Elems.length : Int)) + (r53.Elems.length : Int)).tmod (r53.Elems.length : Int)))] := (Els.cons rfl ⟨GM, GN, rfl, ji⟩ (Els.nil _ _ _) (by simp [mx]))
     have qB := gainCh (w := Qn) (E := [.row 26 1 Ex (0 + r53.Elems.length) Ey G5, .blk B44 (.cells #[.int .i64 r53.Points, .bool r53.Monoid, .slice cO r53.Gens.length cP, .slice cU r53.Elems.length cV, .slice cC r53.Prefix.length cD, .slice dr r53.Last.length dt, .slice cW r53.Right.length cX, .slice cY r53.Rules.length c5, .int .i64 r53.Done] 29 (0, 0)), .blk B2 (.cells #[.int .i64 a0.Points, .bool a0.Monoid, .slice aS a0.Gens.length aT, .slice bY a0.Elems.length b5, .slice bI a0.Prefix.length bK, .slice co a0.Last.length cp, .slice b6 a0.Right.length b7, .slice b8 a0.Rules.length b9, .int .i64 a0.Done] 29 (0, 0))]) (e := .row 26 1 (some ⟨Qo, 0, none⟩) 1 1 [.slice GM (((ix r53.Elems (((a5.tmod (r53.Elems.length : Int)) + (r53.Elems.length : Int)).tmod (r53.Elems.length : Int)))).length) GN]) ML rfl
     replace hB := ((hB.trans (qj.same.fr _)).trans fM.fr).trans (qk.same.fr _)
     replace hB := Fr.gain (e := .row 26 1 (some ⟨Qo, 0, none⟩) 1 1 [.slice GM (((ix r53.Elems (((a5.tmod (r53.Elems.length : Int)) + (r53.Elems.length : Int)).tmod (r53.Elems.length : Int)))).length) GN]) hB (Nat.le_trans hw421 hnb461) rfl
     replace hO := Owns.gain hO ML G4 rfl hh462 hd460
     refine GoQA.loudI rfl rfl ?_
     intro aig A466 oX
     replace hO := oX.own hO
     replace Gh := (Gh.ch qB).ch (oX.ch _)
     have hobt := freeze 0 hO rfl Gh
     obtain ⟨hO1, rk, sQ, Wq⟩ := hobt
     replace hO := hO1; clear hO1
     obtain ⟨ab5, H⟩ := H
     have Z17 := (((qk.ch _).trans qB).trans (oX.ch _)).trans rk
     replace jY := jY.ch Z17
     have hobt := oapp Try.underlying22 ti26 rfl 0 hO rfl jY sQ Wq ab5 (by decide)
     obtain ⟨aih, EJ, EK, adi, fv, tR, Qp⟩ := hobt
     have Z18 := (((fM.ch.trans (qk.ch _)).trans qB).trans (oX.ch _)).trans rk
     replace aq := aq.ch Z18
     refine GoAt.step (Qp (by exact rfl) (by exact rfl)) (fun _ => (CSv.cons (cs_eq (blkCell 1 hO rfl rfl) (blkCell 1 fv.own rfl rfl)) (CSv.cons (ISl.csk aq GK GL fv.ch) (CSv.nil _ _)))) (Stp.kp hO fv) rfl ?_
     replace hO := fv.own
     refine GoQA.pure rfl (op_fieldAddr Try.underlying29 rfl ti22 rfl (by decide)) rfl rfl ?_
     refine GoQA.lastI rfl rfl ?_
     intro Yt A481 oY
     replace hO := oY.own hO
     have hobt := oblkSt2 (v := .slice EJ ((0 + r53.Elems.length) + 1) EK) (i := 3) (cs' := #[.int .i64 r53.Points, .bool r53.Monoid, .slice cO r53.Gens.length cP, .slice EJ ((0 + r53.Elems.length) + 1) EK, .slice cC r53.Prefix.length cD, .slice dr r53.Last.length dt, .slice cW r53.Right.length cX, .slice cY r53.Rules.length c5, .int .i64 r53.Done]) 1 hO rfl rfl rfl rfl
     obtain ⟨aii, gz, Qq⟩ := hobt
     refine GoAt.step (Qq Try.underlying22 rfl ti22 (by exact rfl) (by exact rfl)) (fun h => nomatch h) (Stp.kp hO gz) rfl ?_
     replace hO := gz.own
     refine GoQA.nil ?_
     intro aij A487 o0 ql
     replace hO := o0.own hO
     replace hO := hO.permA ql
     refine Go1.inBlock ?_
     refine zq ?_
     refine Go1.cut [(15, .pointer (some ⟨B44, 0, none⟩))] ⟨rfl, trivial⟩ ?_
     intro σ _
     refine Go1.drawS 0 [(0, .stable), (2, .stable), (1, .loud), (3, .loud), (4, .pure), (5, .pure), (6, .loud), (7, .pure), (8, .pure)] mixed (by kernel_rfl) ?_
     intro aik Wr
     have kQ := Stp.same hO Wr
     replace hO := kQ.own
     refine GoQ.stable rfl (oblkAgg (vs := [.int .i64 r53.Points, .bool r53.Monoid, .slice cO r53.Gens.length cP, .slice EJ ((0 + r53.Elems.length) + 1) EK, .slice cC r53.Prefix.length cD, .slice dr r53.Last.length dt, .slice cW r53.Right.length cX, .slice cY r53.Rules.length c5, .int .i64 r53.Done]) (i := 0) 1 hO rfl rfl Try.underlying29 rfl ti29 rfl) rfl rfl ?_
     refine GoQ.stable rfl (oblkAgg (vs := [.int .i64 r53.Points, .bool r53.Monoid, .slice cO r53.Gens.length cP, .slice EJ ((0 + r53.Elems.length) + 1) EK, .slice cC r53.Prefix.length cD, .slice dr r53.Last.length dt, .slice cW r53.Right.length cX, .slice cY r53.Rules.length c5, .int .i64 r53.Done]) (i := 0) 1 hO rfl rfl Try.underlying29 rfl ti29 rfl) rfl rfl ?_
     have Z19 := ((((oY.ch _).trans gz.ch).trans (o0.ch _)).trans (permCh ql _)).trans kQ.ch
     replace tR := tR.ch Z19
     have hobt := rowlend 0 hO rfl tR
     obtain ⟨Ws, Wt⟩ := hobt
     have hOc495 := hO.drop 0
     have Z20 := ((((((((((((((jw.ch.trans ni.ch).trans (qA.ch _)).trans ri).trans (qj.ch _)).trans fM.ch).trans (qk.ch _)).trans qB).trans (oX.ch _)).trans rk).trans fv.ch).trans (oY.ch _)).trans gz.ch).trans (o0.ch _)).trans (permCh ql _)).trans kQ.ch
     replace aG := aG.ch Z20
     replace am := am.ch Z20
     replace aH := aH.ch Z20
     replace ax := ax.ch Z20
     replace az := az.ch Z20
     refine GoQ.call rfl (op_call body20 (show ([.agg #[.int .i64 r53.Points, .bool r53.Monoid, .slice cO r53.Gens.length cP, .slice EJ ((0 + r53.Elems.length) + 1) EK, .slice cC r53.Prefix.length cD, .slice dr r53.Last.length dt, .slice cW r53.Right.length cX, .slice cY r53.Rules.length c5, .int .i64 r53.Done]] : List Value) = [.agg #[.int .i64 r53.Points, .bool r53.Monoid, .slice cO r53.Gens.length cP, .slice EJ (((([] : List (List Int))) ++ r53.Elems) ++ ([(ix r53.Elems (((a5.tmod (r53.Elems.length : Int)) + (r53.Elems.length : Int)).tmod (r53.Elems.length : Int)))])).length EK, .slice cC r53.Prefix.length cD, .slice dr r53.Last.length dt, .slice cW r53.Right.length cX, .slice cY r53.Rules.length c5, .int .i64 r53.Done]] from by rw [← Wt]) (walk_enumerate_Validate (e := (⟨r53.Points, r53.Monoid, r53.Gens, ((([] : List (List Int))) ++ r53.Elems) ++ ([(ix r53.Elems (((a5.tmod (r53.Elems.length : Int)) + (r53.Elems.length : Int)).tmod (r53.Elems.length : Int)))]), r53.Prefix, r53.Last, r53.Right, r53.Rules, r53.Done⟩ : Enum)) hOc495.lt (aG.ch (Owns.dropCh _ _ 0)) Ws (am.ch (Owns.dropCh _ _ 0)) (aH.ch (Owns.dropCh _ _ 0)) (ax.ch (Owns.dropCh _ _ 0)) (az.ch (Owns.dropCh _ _ 0)) H)) (fun v w hr => by obtain ⟨_, _, hs, _⟩ := hr; assumption) rfl rfl ?_
     rintro ail aar ⟨r496, rfl, Wu, H⟩
     have kS := Stp.same hO Wu
     replace hO := kS.own
     replace tR := tR.ch kS.ch
     have hobt := rowlend 0 hO rfl tR
     obtain ⟨Wv, Ww⟩ := hobt
     have hOc504 := hO.drop 0
     replace aG := aG.ch kS.ch
     replace am := am.ch kS.ch
     replace aH := aH.ch kS.ch
     replace ax := ax.ch kS.ch
     replace az := az.ch kS.ch
     refine GoQ.call rfl (op_call body21 (show ([.agg #[.int .i64 r53.Points, .bool r53.Monoid, .slice cO r53.Gens.length cP, .slice EJ ((0 + r53.Elems.length) + 1) EK, .slice cC r53.Prefix.length cD, .slice dr r53.Last.length dt, .slice cW r53.Right.length cX, .slice cY r53.Rules.length c5, .int .i64 r53.Done]] : List Value) = [.agg #[.int .i64 r53.Points, .bool r53.Monoid, .slice cO r53.Gens.length cP, .slice EJ (((([] : List (List Int))) ++ r53.Elems) ++ ([(ix r53.Elems (((a5.tmod (r53.Elems.length : Int)) + (r53.Elems.length : Int)).tmod (r53.Elems.length : Int)))])).length EK, .slice cC r53.Prefix.length cD, .slice dr r53.Last.length dt, .slice cW r53.Right.length cX, .slice cY r53.Rules.length c5, .int .i64 r53.Done]] from by rw [← Ww]) (walk_ref12_Validate (e := (⟨r53.Points, r53.Monoid, r53.Gens, ((([] : List (List Int))) ++ r53.Elems) ++ ([(ix r53.Elems (((a5.tmod (r53.Elems.length : Int)) + (r53.Elems.length : Int)).tmod (r53.Elems.length : Int)))]), r53.Prefix, r53.Last, r53.Right, r53.Rules, r53.Done⟩ : Enum)) hOc504.lt (aG.ch (Owns.dropCh _ _ 0)) Wv (am.ch (Owns.dropCh _ _ 0)) (aH.ch (Owns.dropCh _ _ 0)) (ax.ch (Owns.dropCh _ _ 0)) (az.ch (Owns.dropCh _ _ 0)) H)) (fun v w hr => by obtain ⟨_, _, hs, _⟩ := hr; assumption) rfl rfl ?_
     rintro aim ain ⟨r505, rfl, Wx, H⟩
     have kT := Stp.same hO Wx
     replace hO := kT.own
     by_cases GD : r496 = r505
     ·replace H := ifp GD H
      refine GoQ.pure rfl (fun w => opB (op_eql rfl rfl w) (decide_eq_true GD)) rfl rfl ?_
      refine GoQ.pure rfl (op_move rfl) rfl rfl ?_
      refine GoQ.call rfl (op_call body16 rfl (walk_law12_awake hO.lt H)) (fun v w hr => by obtain ⟨_, _, hs, _⟩ := hr; assumption) rfl rfl ?_
      rintro aio Yw ⟨r512, rfl, Mj, H⟩
      have kU := Stp.same hO Mj
      replace hO := kU.own
      refine GoQ.pure rfl (op_pickT rfl rfl rfl) rfl rfl ?_
      refine GoQ.pure rfl (op_assign rfl) rfl rfl ?_
      refine GoQ.nil ?_
      refine Go1.ret1 Try.func4 rfl ?_
      replace hB := (((((((((hB.trans (oX.same.fr _)).trans (Owns.dropFr _ _ 0)).trans fv.fr).trans (oY.same.fr _)).trans gz.fr).trans (o0.same.fr _)).trans kQ.fr).trans kS.fr).trans kT.fr).trans kU.fr
      exact ⟨r512, rfl, hB.same, H⟩
     replace H := ifn GD H
     refine GoQ.pure rfl (fun w => opB (op_eql rfl rfl w) (decide_eq_false GD)) rfl rfl ?_
     refine GoQ.pure rfl (op_move rfl) rfl rfl ?_
     refine GoQ.pass rfl rfl rfl ?_
     refine GoQ.pure rfl (op_pickF rfl rfl rfl) rfl rfl ?_
     refine GoQ.pure rfl (op_assign rfl) rfl rfl ?_
     refine GoQ.nil ?_
     refine Go1.ret1 Try.func4 rfl ?_
     replace hB := ((((((((hB.trans (oX.same.fr _)).trans (Owns.dropFr _ _ 0)).trans fv.fr).trans (oY.same.fr _)).trans gz.fr).trans (o0.same.fr _)).trans kQ.fr).trans kS.fr).trans kT.fr
     exact ⟨false, rfl, hB.same, H⟩
    replace H := ifn h63 H
    refine zo (fun w => opB (op_neq rfl rfl w) (ndF h63)) (zn (zt rfl rfl (zq (zr ?_))))
    refine GoR.call (op_call body16 rfl (walk_law12_awake hO.lt H)) rfl rfl ?_
    rintro aip aiq ⟨r518, rfl, L9, H⟩
    have nj := Stp.same hO L9
    replace hO := nj.own
    refine za rfl (zn ?_)
    refine Go1.ret1 Try.func4 rfl ?_
    replace hB := ((((((((((hB.trans d5.fr).trans iE.fr).trans tQ.fr).trans fq.fr).trans w4.fr).trans Bn.fr).trans lN.fr).trans vV.fr).trans vW.fr).trans jw.fr).trans nj.fr
    exact ⟨r518, rfl, hB.same, H⟩
   replace H := ifn h52 H
   refine zo (fun w => opB (op_neq rfl rfl w) (ndF h52)) (zn (zt rfl rfl (zq (zr (za rfl ?_)))))
   refine zn ?_
   refine Go1.ret1 Try.func4 rfl ?_
   replace hB := (((((((hB.trans d5.fr).trans iE.fr).trans tQ.fr).trans fq.fr).trans w4.fr).trans Bn.fr).trans lN.fr).trans vV.fr
   exact ⟨false, rfl, hB.same, H⟩
  replace H := ifn h23 H
  refine GoQ.pure rfl (fun w => opB (op_neq rfl rfl w) (ndF h23)) rfl rfl ?_
  refine GoQ.pure rfl (op_pickT rfl rfl rfl) rfl rfl ?_
  refine GoQ.nil ?_
  refine zt rfl rfl (zq (zr (za rfl (zn ?_))))
  refine Go1.ret1 Try.func4 rfl ?_
  replace hB := (((hB.trans d5.fr).trans iE.fr).trans tQ.fr).trans fq.fr
  exact ⟨false, rfl, hB.same, H⟩
 replace H := ifn h10 H
 refine GoQ.pure rfl (fun w => opB (op_leq rfl rfl w) (decide_eq_false h10)) rfl rfl ?_
 refine GoQ.pure rfl (op_move rfl) rfl rfl ?_
 refine GoQ.pass rfl rfl rfl ?_
 refine GoQ.pass rfl rfl rfl ?_
 refine GoQ.pass rfl rfl rfl ?_
 refine GoQ.pass rfl rfl rfl ?_
 refine GoQ.pass rfl rfl rfl ?_
 refine GoQ.pure rfl (op_pickF rfl rfl rfl) rfl rfl ?_
 refine GoQ.nil ?_
 refine zf rfl rfl (zk (zq (zq ?_)))
 refine Go1.cut [(1, .slice H1 a1.length H2), (2, .bool a2), (3, .int .u8 a3), (4, .int .i64 a4), (5, .int .i64 a5), (6, .int .i64 a6)] ⟨rfl, rfl, rfl, rfl, rfl, rfl, trivial⟩ ?_
 intro σ _
 refine zr (zm rfl ?_)
 replace aM := aM.ch Z1
 refine GoR.call (op_call body15 rfl (walk_law12_little hO.lt aM H)) rfl rfl ?_
 rintro air ais ⟨r524, rfl, Wy, H⟩
 have lE := Stp.same hO Wy
 replace hO := lE.own
 cases r524
 ·replace H := ifn Bool.false_ne_true H
  refine zo (op_not rfl) (zn (zt rfl rfl (zq (zr ?_))))
  refine GoR.call (op_call body16 rfl (walk_law12_awake hO.lt H)) rfl rfl ?_
  rintro ait aiu ⟨r530, rfl, Wz, H⟩
  have zQ := Stp.same hO Wz
  replace hO := zQ.own
  refine za rfl (zn ?_)
  refine Go1.ret1 Try.func4 rfl ?_
  replace hB := (((hB.trans d5.fr).trans iE.fr).trans lE.fr).trans zQ.fr
  exact ⟨r530, rfl, hB.same, H⟩
 replace H := ifp rfl H
 refine zo (op_not rfl) (zn (zf rfl rfl (zk (zq (zr ?_)))))
 refine zm rfl (zm rfl ?_)
 replace aM := aM.ch lE.ch
 refine GoR.call (op_call body22 rfl (walk_ref12_Start hO.lt aM H)) rfl rfl ?_
 rintro aiv Iy ⟨r536, r537, C1, C2, BK, BL, AX, AY, C3, C4, BM, BN, BO, BP, rfl, WA, aE, au, ak, aF, av, aw, H⟩
 have f9 := Stp.same hO WA
 replace hO := f9.own
 refine zm rfl (zo (op_extract rfl rfl) (zo (op_extract rfl rfl) ?_))
 have hobt := oalloc (t := 29) (cs := #[.int .i64 (0 : Int), .bool false, .slice none 0 0, .slice none 0 0, .slice none 0 0, .slice none 0 0, .slice none 0 0, .slice none 0 0, .int .i64 (0 : Int)]) ti29 hO rfl
 obtain ⟨aiw, B544, ig, adk, Qr⟩ := hobt
 refine GoR.op Qr rfl rfl ?_
 replace hO := ig.own
 have hobt := oblkStAgg (us := [.int .i64 r536.Points, .bool r536.Monoid, .slice C1 r536.Gens.length C2, .slice BK r536.Elems.length BL, .slice AX r536.Prefix.length AY, .slice C3 r536.Last.length C4, .slice BM r536.Right.length BN, .slice BO r536.Rules.length BP, .int .i64 r536.Done]) (o := 0) (cs' := #[.int .i64 r536.Points, .bool r536.Monoid, .slice C1 r536.Gens.length C2, .slice BK r536.Elems.length BL, .slice AX r536.Prefix.length AY, .slice C3 r536.Last.length C4, .slice BM r536.Right.length BN, .slice BO r536.Rules.length BP, .int .i64 r536.Done]) 0 hO rfl rfl (Nat.le_of_ble_eq_true rfl) rfl
 obtain ⟨abu, tH, Qs⟩ := hobt
 refine zg (Qs ti29 (by exact rfl) (by exact rfl) rfl) ?_
 replace hO := tH.own
 refine za rfl (zn (zq (zq (zr (zm rfl ?_)))))
 by_cases DK : r537 = (0 : Int)
 ·replace H := ifp DK H
  refine zo (fun w => opB (op_neq rfl rfl w) (ndT DK)) (zn (zf rfl rfl (zk (zq (zr ?_)))))
  refine zs (oblkAgg (vs := [.int .i64 r536.Points, .bool r536.Monoid, .slice C1 r536.Gens.length C2, .slice BK r536.Elems.length BL, .slice AX r536.Prefix.length AY, .slice C3 r536.Last.length C4, .slice BM r536.Right.length BN, .slice BO r536.Rules.length BP, .int .i64 r536.Done]) (i := 0) 0 hO rfl rfl Try.underlying29 rfl ti29 rfl) (zm rfl (zo (op_and rfl rfl) (zo (op_conv Try.underlying5 Try.underlying3 rfl rfl) ?_)))
  have Z21 := ig.ch.trans tH.ch
  replace aE := aE.ch Z21
  replace au := au.ch Z21
  replace ak := ak.ch Z21
  replace aF := aF.ch Z21
  replace av := av.ch Z21
  replace aw := aw.ch Z21
  refine GoR.call (op_call body23 rfl (walk_ref12_Step (e := r536) hO.lt aE au ak aF av aw H)) rfl rfl ?_
  rintro aix abv ⟨r553, r554, cu, cv, cz, cE, cj, ck, c6, db, cF, cG, cH, cI, rfl, WB, ay, aj, ai, aA, al, ao, H⟩
  have tI := Stp.same hO WB
  replace hO := tI.own
  refine zm rfl (zo (op_extract rfl rfl) (zo (op_extract rfl rfl) ?_))
  have hobt := oblkStAgg (us := [.int .i64 r553.Points, .bool r553.Monoid, .slice cu r553.Gens.length cv, .slice cz r553.Elems.length cE, .slice cj r553.Prefix.length ck, .slice c6 r553.Last.length db, .slice cF r553.Right.length cG, .slice cH r553.Rules.length cI, .int .i64 r553.Done]) (o := 0) (cs' := #[.int .i64 r553.Points, .bool r553.Monoid, .slice cu r553.Gens.length cv, .slice cz r553.Elems.length cE, .slice cj r553.Prefix.length ck, .slice c6 r553.Last.length db, .slice cF r553.Right.length cG, .slice cH r553.Rules.length cI, .int .i64 r553.Done]) 0 hO rfl rfl (Nat.le_of_ble_eq_true rfl) rfl
  obtain ⟨aiy, nk, Qt⟩ := hobt
  refine zg (Qt ti29 (by exact rfl) (by exact rfl) rfl) ?_
  replace hO := nk.own
  refine za rfl (zn (zq (zq ?_)))
  refine Go1.cut [(4, .int .i64 a4), (5, .int .i64 a5), (6, .int .i64 a6), (15, .pointer (some ⟨B544, 0, none⟩)), (16, .int .i64 r554)] ⟨rfl, rfl, rfl, rfl, rfl, trivial⟩ ?_
  intro σ _
  refine zr (zm rfl ?_)
  by_cases J4 : r554 = (0 : Int)
  ·replace H := ifp J4 H
   refine zo (fun w => opB (op_neq rfl rfl w) (ndT J4)) (zn (zf rfl rfl (zk (zq (zr ?_)))))
   refine zo (op_fieldAddr Try.underlying29 rfl ti22 rfl (by decide)) (zs (oblk (i := 3) 0 hO rfl rfl Try.underlying22 rfl rfl) (zo (op_len Try.underlying22 rfl) ?_))
   replace aj := aj.ch nk.ch
   replace H := H aj.bd
   refine za rfl (zn (zq (zr (zm rfl (zm rfl ?_)))))
   obtain ⟨ab6, H⟩ := H
   refine zo (op_rem rfl rfl ab6 rfl) (zm rfl ?_)
   obtain ⟨HW, H⟩ := H
   refine zo (op_add rfl rfl (wrap_i64 HW)) (zm rfl ?_)
   obtain ⟨ab7, H⟩ := H
   refine zo (op_rem rfl rfl ab7 rfl) (za rfl (zn (zq (zq (zr ?_)))))
   refine zm rfl (zo (op_and rfl rfl) (zn (zb (zq (zr ?_)))))
   by_cases J5 : (bits .and .i64 a4 (7 : Int)) = (0 : Int)
   ·replace H := ifp J5 H
    refine zo (fun w => opB (op_eql rfl rfl w) (decide_eq_true J5)) (za rfl (zn (zt rfl rfl (zr (zm rfl ?_)))))
    refine zo (op_fieldAddr Try.underlying29 rfl ti3 rfl (by decide)) ?_
    have hobt := oblkSt2 (v := .int .i64 a6) (i := 8) (cs' := #[.int .i64 r553.Points, .bool r553.Monoid, .slice cu r553.Gens.length cv, .slice cz r553.Elems.length cE, .slice cj r553.Prefix.length ck, .slice c6 r553.Last.length db, .slice cF r553.Right.length cG, .slice cH r553.Rules.length cI, .int .i64 a6]) 0 hO rfl rfl rfl rfl
    obtain ⟨aiz, nm, Qu⟩ := hobt
    refine zg (Qu Try.underlying3 rfl ti3 (by exact rfl) (by exact rfl)) ?_
    replace hO := nm.own
    refine zn ?_
    refine Go1.inBlock ?_
    refine zq ?_
    refine Go1.cut [(15, .pointer (some ⟨B544, 0, none⟩))] ⟨rfl, trivial⟩ ?_
    intro σ _
    refine Go1.drawS 0 [(0, .stable), (2, .stable), (1, .loud), (3, .loud), (4, .pure), (5, .pure), (6, .loud), (7, .pure), (8, .pure)] mixed (by kernel_rfl) ?_
    intro aiA WC
    have np := Stp.same hO WC
    replace hO := np.own
    refine GoQ.stable rfl (oblkAgg (vs := [.int .i64 r553.Points, .bool r553.Monoid, .slice cu r553.Gens.length cv, .slice cz r553.Elems.length cE, .slice cj r553.Prefix.length ck, .slice c6 r553.Last.length db, .slice cF r553.Right.length cG, .slice cH r553.Rules.length cI, .int .i64 a6]) (i := 0) 0 hO rfl rfl Try.underlying29 rfl ti29 rfl) rfl rfl ?_
    refine GoQ.stable rfl (oblkAgg (vs := [.int .i64 r553.Points, .bool r553.Monoid, .slice cu r553.Gens.length cv, .slice cz r553.Elems.length cE, .slice cj r553.Prefix.length ck, .slice c6 r553.Last.length db, .slice cF r553.Right.length cG, .slice cH r553.Rules.length cI, .int .i64 a6]) (i := 0) 0 hO rfl rfl Try.underlying29 rfl ti29 rfl) rfl rfl ?_
    replace aj := (aj.ch nm.ch).ch np.ch
    have Z22 := (nk.ch.trans nm.ch).trans np.ch
    replace ay := ay.ch Z22
    replace ai := ai.ch Z22
    replace aA := aA.ch Z22
    replace al := al.ch Z22
    replace ao := ao.ch Z22
    refine GoQ.call rfl (op_call body20 rfl (walk_enumerate_Validate (e := (⟨r553.Points, r553.Monoid, r553.Gens, r553.Elems, r553.Prefix, r553.Last, r553.Right, r553.Rules, a6⟩ : Enum)) hO.lt ay aj ai aA al ao H)) (fun v w hr => by obtain ⟨_, _, hs, _⟩ := hr; assumption) rfl rfl ?_
    rintro aiB aiC ⟨r574, rfl, WD, H⟩
    have gO := Stp.same hO WD
    replace hO := gO.own
    replace ay := ay.ch gO.ch
    replace aj := aj.ch gO.ch
    replace ai := ai.ch gO.ch
    replace aA := aA.ch gO.ch
    replace al := al.ch gO.ch
    replace ao := ao.ch gO.ch
    refine GoQ.call rfl (op_call body21 rfl (walk_ref12_Validate (e := (⟨r553.Points, r553.Monoid, r553.Gens, r553.Elems, r553.Prefix, r553.Last, r553.Right, r553.Rules, a6⟩ : Enum)) hO.lt ay aj ai aA al ao H)) (fun v w hr => by obtain ⟨_, _, hs, _⟩ := hr; assumption) rfl rfl ?_
    rintro aiD aiE ⟨r580, rfl, WE, H⟩
    have nq := Stp.same hO WE
    replace hO := nq.own
    by_cases J6 : r574 = r580
    ·replace H := ifp J6 H
     refine GoQ.pure rfl (fun w => opB (op_eql rfl rfl w) (decide_eq_true J6)) rfl rfl ?_
     refine GoQ.pure rfl (op_move rfl) rfl rfl ?_
     refine GoQ.call rfl (op_call body16 rfl (walk_law12_awake hO.lt H)) (fun v w hr => by obtain ⟨_, _, hs, _⟩ := hr; assumption) rfl rfl ?_
     rintro aiF abx ⟨r587, rfl, WF, H⟩
     have gE := Stp.same hO WF
     replace hO := gE.own
     refine GoQ.pure rfl (op_pickT rfl rfl rfl) rfl rfl ?_
     refine GoQ.pure rfl (op_assign rfl) rfl rfl ?_
     refine GoQ.nil ?_
     refine Go1.ret1 Try.func4 rfl ?_
     replace hB := ((((((((((((hB.trans d5.fr).trans iE.fr).trans lE.fr).trans f9.fr).trans ig.fr).trans tH.fr).trans tI.fr).trans nk.fr).trans nm.fr).trans np.fr).trans gO.fr).trans nq.fr).trans gE.fr
     exact ⟨r587, rfl, hB.same, H⟩
    replace H := ifn J6 H
    refine GoQ.pure rfl (fun w => opB (op_eql rfl rfl w) (decide_eq_false J6)) rfl rfl ?_
    refine GoQ.pure rfl (op_move rfl) rfl rfl ?_
    refine GoQ.pass rfl rfl rfl ?_
    refine GoQ.pure rfl (op_pickF rfl rfl rfl) rfl rfl ?_
    refine GoQ.pure rfl (op_assign rfl) rfl rfl ?_
    refine GoQ.nil ?_
    refine Go1.ret1 Try.func4 rfl ?_
    replace hB := (((((((((((hB.trans d5.fr).trans iE.fr).trans lE.fr).trans f9.fr).trans ig.fr).trans tH.fr).trans tI.fr).trans nk.fr).trans nm.fr).trans np.fr).trans gO.fr).trans nq.fr
    exact ⟨false, rfl, hB.same, H⟩
   replace H := ifn J5 H
   refine zo (fun w => opB (op_eql rfl rfl w) (decide_eq_false J5)) (za rfl (zn (zf rfl rfl (zq (zr ?_)))))
   by_cases El : (bits .and .i64 a4 (7 : Int)) = (1 : Int)
   ·replace H := ifp El H
    refine zo (fun w => opB (op_eql rfl rfl w) (decide_eq_true El)) (za rfl (zn (zt rfl rfl (zr (zo (op_fieldAddr Try.underlying29 rfl ti4 rfl (by decide)) ?_)))))
    by_cases Em : r553.Monoid = true
    ·replace H := ifp Em H
     refine zg (opB ((oblk (i := 1) 0 hO rfl rfl Try.underlying4 rfl rfl) _ (Same.refl _)) (Em)) (zo (op_not rfl) (zo (op_fieldAddr Try.underlying29 rfl ti4 rfl (by decide)) ?_))
     have hobt := oblkSt2 (v := .bool false) (i := 1) (cs' := #[.int .i64 r553.Points, .bool false, .slice cu r553.Gens.length cv, .slice cz r553.Elems.length cE, .slice cj r553.Prefix.length ck, .slice c6 r553.Last.length db, .slice cF r553.Right.length cG, .slice cH r553.Rules.length cI, .int .i64 r553.Done]) 0 hO rfl rfl rfl rfl
     obtain ⟨aiG, nr, Qv⟩ := hobt
     refine zg (Qv Try.underlying4 rfl ti4 (by exact rfl) (by exact rfl)) ?_
     replace hO := nr.own
     refine zn ?_
     refine Go1.inBlock ?_
     refine zq ?_
     refine Go1.cut [(15, .pointer (some ⟨B544, 0, none⟩))] ⟨rfl, trivial⟩ ?_
     intro σ _
     refine Go1.drawS 0 [(0, .stable), (2, .stable), (1, .loud), (3, .loud), (4, .pure), (5, .pure), (6, .loud), (7, .pure), (8, .pure)] mixed (by kernel_rfl) ?_
     intro aiH WG
     have ns := Stp.same hO WG
     replace hO := ns.own
     refine GoQ.stable rfl (oblkAgg (vs := [.int .i64 r553.Points, .bool false, .slice cu r553.Gens.length cv, .slice cz r553.Elems.length cE, .slice cj r553.Prefix.length ck, .slice c6 r553.Last.length db, .slice cF r553.Right.length cG, .slice cH r553.Rules.length cI, .int .i64 r553.Done]) (i := 0) 0 hO rfl rfl Try.underlying29 rfl ti29 rfl) rfl rfl ?_
     refine GoQ.stable rfl (oblkAgg (vs := [.int .i64 r553.Points, .bool false, .slice cu r553.Gens.length cv, .slice cz r553.Elems.length cE, .slice cj r553.Prefix.length ck, .slice c6 r553.Last.length db, .slice cF r553.Right.length cG, .slice cH r553.Rules.length cI, .int .i64 r553.Done]) (i := 0) 0 hO rfl rfl Try.underlying29 rfl ti29 rfl) rfl rfl ?_
     replace aj := (aj.ch nr.ch).ch ns.ch
     have Z23 := (nk.ch.trans nr.ch).trans ns.ch
     replace ay := ay.ch Z23
     replace ai := ai.ch Z23
     replace aA := aA.ch Z23
     replace al := al.ch Z23
     replace ao := ao.ch Z23
     refine GoQ.call rfl (op_call body20 rfl (walk_enumerate_Validate (e := (⟨r553.Points, false, r553.Gens, r553.Elems, r553.Prefix, r553.Last, r553.Right, r553.Rules, r553.Done⟩ : Enum)) hO.lt ay aj ai aA al ao H)) (fun v w hr => by obtain ⟨_, _, hs, _⟩ := hr; assumption) rfl rfl ?_
     rintro aiI YE ⟨r601, rfl, Iz, H⟩
     have nt := Stp.same hO Iz
     replace hO := nt.own
     replace ay := ay.ch nt.ch
     replace aj := aj.ch nt.ch
     replace ai := ai.ch nt.ch
     replace aA := aA.ch nt.ch
     replace al := al.ch nt.ch
     replace ao := ao.ch nt.ch
     refine GoQ.call rfl (op_call body21 rfl (walk_ref12_Validate (e := (⟨r553.Points, false, r553.Gens, r553.Elems, r553.Prefix, r553.Last, r553.Right, r553.Rules, r553.Done⟩ : Enum)) hO.lt ay aj ai aA al ao H)) (fun v w hr => by obtain ⟨_, _, hs, _⟩ := hr; assumption) rfl rfl ?_
     rintro aiJ aiK ⟨r607, rfl, WH, H⟩
     have nu := Stp.same hO WH
     replace hO := nu.own
     by_cases J7 : r601 = r607
     ·replace H := ifp J7 H
      refine GoQ.pure rfl (fun w => opB (op_eql rfl rfl w) (decide_eq_true J7)) rfl rfl ?_
      refine GoQ.pure rfl (op_move rfl) rfl rfl ?_
      refine GoQ.call rfl (op_call body16 rfl (walk_law12_awake hO.lt H)) (fun v w hr => by obtain ⟨_, _, hs, _⟩ := hr; assumption) rfl rfl ?_
      rintro aiL aiM ⟨r614, rfl, WI, H⟩
      have nv := Stp.same hO WI
      replace hO := nv.own
      refine GoQ.pure rfl (op_pickT rfl rfl rfl) rfl rfl ?_
      refine GoQ.pure rfl (op_assign rfl) rfl rfl ?_
      refine GoQ.nil ?_
      refine Go1.ret1 Try.func4 rfl ?_
      replace hB := ((((((((((((hB.trans d5.fr).trans iE.fr).trans lE.fr).trans f9.fr).trans ig.fr).trans tH.fr).trans tI.fr).trans nk.fr).trans nr.fr).trans ns.fr).trans nt.fr).trans nu.fr).trans nv.fr
      exact ⟨r614, rfl, hB.same, H⟩
     replace H := ifn J7 H
     refine GoQ.pure rfl (fun w => opB (op_eql rfl rfl w) (decide_eq_false J7)) rfl rfl ?_
     refine GoQ.pure rfl (op_move rfl) rfl rfl ?_
     refine GoQ.pass rfl rfl rfl ?_
     refine GoQ.pure rfl (op_pickF rfl rfl rfl) rfl rfl ?_
     refine GoQ.pure rfl (op_assign rfl) rfl rfl ?_
     refine GoQ.nil ?_
     refine Go1.ret1 Try.func4 rfl ?_
     replace hB := (((((((((((hB.trans d5.fr).trans iE.fr).trans lE.fr).trans f9.fr).trans ig.fr).trans tH.fr).trans tI.fr).trans nk.fr).trans nr.fr).trans ns.fr).trans nt.fr).trans nu.fr
     exact ⟨false, rfl, hB.same, H⟩
    replace H := ifn Em H
    refine zg (opB ((oblk (i := 1) 0 hO rfl rfl Try.underlying4 rfl rfl) _ (Same.refl _)) (Bool.eq_false_iff.2 Em)) (zo (op_not rfl) (zo (op_fieldAddr Try.underlying29 rfl ti4 rfl (by decide)) ?_))
    have hobt := oblkSt2 (v := .bool true) (i := 1) (cs' := #[.int .i64 r553.Points, .bool true, .slice cu r553.Gens.length cv, .slice cz r553.Elems.length cE, .slice cj r553.Prefix.length ck, .slice c6 r553.Last.length db, .slice cF r553.Right.length cG, .slice cH r553.Rules.length cI, .int .i64 r553.Done]) 0 hO rfl rfl rfl rfl
    obtain ⟨aiN, nw, Qw⟩ := hobt
    refine zg (Qw Try.underlying4 rfl ti4 (by exact rfl) (by exact rfl)) ?_
    replace hO := nw.own
    refine zn ?_
    refine Go1.inBlock ?_
    refine zq ?_
    refine Go1.drawS 0 [(0, .stable), (2, .stable), (1, .loud), (3, .loud), (4, .pure), (5, .pure), (6, .loud), (7, .pure), (8, .pure)] mixed (by kernel_rfl) ?_
    intro aiO WJ
    have ny := Stp.same hO WJ
    replace hO := ny.own
    refine GoQ.stable rfl (oblkAgg (vs := [.int .i64 r553.Points, .bool true, .slice cu r553.Gens.length cv, .slice cz r553.Elems.length cE, .slice cj r553.Prefix.length ck, .slice c6 r553.Last.length db, .slice cF r553.Right.length cG, .slice cH r553.Rules.length cI, .int .i64 r553.Done]) (i := 0) 0 hO rfl rfl Try.underlying29 rfl ti29 rfl) rfl rfl ?_
    refine GoQ.stable rfl (oblkAgg (vs := [.int .i64 r553.Points, .bool true, .slice cu r553.Gens.length cv, .slice cz r553.Elems.length cE, .slice cj r553.Prefix.length ck, .slice c6 r553.Last.length db, .slice cF r553.Right.length cG, .slice cH r553.Rules.length cI, .int .i64 r553.Done]) (i := 0) 0 hO rfl rfl Try.underlying29 rfl ti29 rfl) rfl rfl ?_
    replace aj := (aj.ch nw.ch).ch ny.ch
    have Z24 := (nk.ch.trans nw.ch).trans ny.ch
    replace ay := ay.ch Z24
    replace ai := ai.ch Z24
    replace aA := aA.ch Z24
    replace al := al.ch Z24
    replace ao := ao.ch Z24
    refine GoQ.call rfl (op_call body20 rfl (walk_enumerate_Validate (e := (⟨r553.Points, true, r553.Gens, r553.Elems, r553.Prefix, r553.Last, r553.Right, r553.Rules, r553.Done⟩ : Enum)) hO.lt ay aj ai aA al ao H)) (fun v w hr => by obtain ⟨_, _, hs, _⟩ := hr; assumption) rfl rfl ?_
    rintro aiP aiQ ⟨r626, rfl, WK, H⟩
    have nA := Stp.same hO WK
    replace hO := nA.own
    replace ay := ay.ch nA.ch
    replace aj := aj.ch nA.ch
    replace ai := ai.ch nA.ch
    replace aA := aA.ch nA.ch
    replace al := al.ch nA.ch
    replace ao := ao.ch nA.ch
    refine GoQ.call rfl (op_call body21 rfl (walk_ref12_Validate (e := (⟨r553.Points, true, r553.Gens, r553.Elems, r553.Prefix, r553.Last, r553.Right, r553.Rules, r553.Done⟩ : Enum)) hO.lt ay aj ai aA al ao H)) (fun v w hr => by obtain ⟨_, _, hs, _⟩ := hr; assumption) rfl rfl ?_
    rintro aiR aiS ⟨r632, rfl, WL, H⟩
    have nB := Stp.same hO WL
    replace hO := nB.own
    by_cases J8 : r626 = r632
    ·replace H := ifp J8 H
     refine GoQ.pure rfl (fun w => opB (op_eql rfl rfl w) (decide_eq_true J8)) rfl rfl ?_
     refine GoQ.pure rfl (op_move rfl) rfl rfl ?_
     refine GoQ.call rfl (op_call body16 rfl (walk_law12_awake hO.lt H)) (fun v w hr => by obtain ⟨_, _, hs, _⟩ := hr; assumption) rfl rfl ?_
     rintro aiT YJ ⟨r639, rfl, WM, H⟩
     have nC := Stp.same hO WM
     replace hO := nC.own
     refine GoQ.pure rfl (op_pickT rfl rfl rfl) rfl rfl ?_
     refine GoQ.pure rfl (op_assign rfl) rfl rfl ?_
     refine GoQ.nil ?_
     refine Go1.ret1 Try.func4 rfl ?_
     replace hB := ((((((((((((hB.trans d5.fr).trans iE.fr).trans lE.fr).trans f9.fr).trans ig.fr).trans tH.fr).trans tI.fr).trans nk.fr).trans nw.fr).trans ny.fr).trans nA.fr).trans nB.fr).trans nC.fr
     exact ⟨r639, rfl, hB.same, H⟩
    replace H := ifn J8 H
    refine GoQ.pure rfl (fun w => opB (op_eql rfl rfl w) (decide_eq_false J8)) rfl rfl ?_
    refine GoQ.pure rfl (op_move rfl) rfl rfl ?_
    refine GoQ.pass rfl rfl rfl ?_
    refine GoQ.pure rfl (op_pickF rfl rfl rfl) rfl rfl ?_
    refine GoQ.pure rfl (op_assign rfl) rfl rfl ?_
    refine GoQ.nil ?_
    refine Go1.ret1 Try.func4 rfl ?_
    replace hB := (((((((((((hB.trans d5.fr).trans iE.fr).trans lE.fr).trans f9.fr).trans ig.fr).trans tH.fr).trans tI.fr).trans nk.fr).trans nw.fr).trans ny.fr).trans nA.fr).trans nB.fr
    exact ⟨false, rfl, hB.same, H⟩
   replace H := ifn El H
   refine zo (fun w => opB (op_eql rfl rfl w) (decide_eq_false El)) (za rfl (zn (zf rfl rfl (zq ?_))))
   refine Go1.cut [(6, .int .i64 a6), (15, .pointer (some ⟨B544, 0, none⟩)), (18, .int .i64 (((a5.tmod (r553.Elems.length : Int)) + (r553.Elems.length : Int)).tmod (r553.Elems.length : Int))), (64, .int .i64 (bits .and .i64 a4 (7 : Int)))] ⟨rfl, rfl, rfl, rfl, trivial⟩ ?_
   intro σ _
   refine zr ?_
   by_cases J9 : (bits .and .i64 a4 (7 : Int)) = (2 : Int)
   ·replace H := ifp J9 H
    refine zo (fun w => opB (op_eql rfl rfl w) (decide_eq_true J9)) (za rfl (zn (zt rfl rfl (zq (zr ?_)))))
    have hobt := obuild (r := Rp.int .i64) (n := 0) (parts := []) (vs := []) (xs := ([] : List Int)) rfl Try.underlying26 ti3 hO (by decide) (by kernel_rfl) (Els.nil _ _ _) rfl
    obtain ⟨aiU, aiV, nD, WN, adl, Qx⟩ := hobt
    refine zg (Qx rfl) ?_
    replace hO := nD.own
    refine zo (op_fieldAddr Try.underlying29 rfl ti26 rfl (by decide)) (zs (oblk (i := 4) 1 hO rfl rfl Try.underlying26 rfl rfl) ?_)
    obtain ⟨ab8, H⟩ := H
    replace ai := (ai.ch nk.ch).ch nD.ch
    have hobt := oapp Try.underlying26 ti3 rfl 0 hO rfl WN ai rfl ab8 (by decide)
    obtain ⟨aiW, EL, EM, adm, nE, Gi, Qy⟩ := hobt
    refine zg (Qy (by exact rfl) (by exact rfl)) ?_
    replace hO := nE.own
    refine zo (op_fieldAddr Try.underlying29 rfl ti26 rfl (by decide)) ?_
    have hobt := oblkSt2 (v := .slice EL (0 + r553.Prefix.length) EM) (i := 4) (cs' := #[.int .i64 r553.Points, .bool r553.Monoid, .slice cu r553.Gens.length cv, .slice cz r553.Elems.length cE, .slice EL (0 + r553.Prefix.length) EM, .slice c6 r553.Last.length db, .slice cF r553.Right.length cG, .slice cH r553.Rules.length cI, .int .i64 r553.Done]) 1 hO rfl rfl rfl rfl
    obtain ⟨aiX, mh, Qz⟩ := hobt
    refine zg (Qz Try.underlying26 rfl ti26 (by exact rfl) (by exact rfl)) ?_
    replace hO := mh.own
    refine zn (zr (zo (op_fieldAddr Try.underlying29 rfl ti26 rfl (by decide)) (zs (oblk (i := 4) 1 hO rfl rfl Try.underlying26 rfl rfl) (zm rfl (zm rfl ?_)))))
    obtain ⟨LU, H⟩ := H
    obtain ⟨LV, H⟩ := H
    replace Gi := Gi.ch mh.ch
    refine zo (op_index Try.underlying26 ti3 rfl rfl LU (ltn (Gi.neq hO 0 rfl) LV) (Gi.psome hO 0 rfl LU LV)) ?_
    have hobt := ost (r := Rp.int .i64) rfl 0 hO rfl Gi LU LV (v := .int .i64 a6) (u := a6) rfl rfl
    obtain ⟨aiY, adn, nF, Au, QA⟩ := hobt
    refine zg (QA Try.underlying3 rfl ti3 (by exact rfl) (by exact rfl)) ?_
    replace hO := nF.own
    refine zn ?_
    refine Go1.inBlock ?_
    refine zq ?_
    refine Go1.drawS 0 [(0, .stable), (2, .stable), (1, .loud), (3, .loud), (4, .pure), (5, .pure), (6, .loud), (7, .pure), (8, .pure)] mixed (by kernel_rfl) ?_
    intro ai0 WO
    have mj := Stp.same hO WO
    replace hO := mj.own
    refine GoQ.stable rfl (oblkAgg (vs := [.int .i64 r553.Points, .bool r553.Monoid, .slice cu r553.Gens.length cv, .slice cz r553.Elems.length cE, .slice EL (0 + r553.Prefix.length) EM, .slice c6 r553.Last.length db, .slice cF r553.Right.length cG, .slice cH r553.Rules.length cI, .int .i64 r553.Done]) (i := 0) 1 hO rfl rfl Try.underlying29 rfl ti29 rfl) rfl rfl ?_
    refine GoQ.stable rfl (oblkAgg (vs := [.int .i64 r553.Points, .bool r553.Monoid, .slice cu r553.Gens.length cv, .slice cz r553.Elems.length cE, .slice EL (0 + r553.Prefix.length) EM, .slice c6 r553.Last.length db, .slice cF r553.Right.length cG, .slice cH r553.Rules.length cI, .int .i64 r553.Done]) (i := 0) 1 hO rfl rfl Try.underlying29 rfl ti29 rfl) rfl rfl ?_
    replace Au := Au.ch mj.ch
    have hobt := rowlend 0 hO rfl Au
    obtain ⟨WP, JO⟩ := hobt
    have hOc677 := hO.drop 0
    have Z25 := (((nD.ch.trans nE.ch).trans mh.ch).trans nF.ch).trans mj.ch
    replace aj := aj.ch Z25
    have Z26 := ((((nk.ch.trans nD.ch).trans nE.ch).trans mh.ch).trans nF.ch).trans mj.ch
    replace ay := ay.ch Z26
    replace aA := aA.ch Z26
    replace al := al.ch Z26
    replace ao := ao.ch Z26
    refine GoQ.call rfl (op_call body20 (show ([.agg #[.int .i64 r553.Points, .bool r553.Monoid, .slice cu r553.Gens.length cv, .slice cz r553.Elems.length cE, .slice EL (0 + r553.Prefix.length) EM, .slice c6 r553.Last.length db, .slice cF r553.Right.length cG, .slice cH r553.Rules.length cI, .int .i64 r553.Done]] : List Value) = [.agg #[.int .i64 r553.Points, .bool r553.Monoid, .slice cu r553.Gens.length cv, .slice cz r553.Elems.length cE, .slice EL (st ((([] : List Int)) ++ r553.Prefix) (((a5.tmod (r553.Elems.length : Int)) + (r553.Elems.length : Int)).tmod (r553.Elems.length : Int)) a6).length EM, .slice c6 r553.Last.length db, .slice cF r553.Right.length cG, .slice cH r553.Rules.length cI, .int .i64 r553.Done]] from by rw [← JO]) (walk_enumerate_Validate (e := (⟨r553.Points, r553.Monoid, r553.Gens, r553.Elems, st ((([] : List Int)) ++ r553.Prefix) (((a5.tmod (r553.Elems.length : Int)) + (r553.Elems.length : Int)).tmod (r553.Elems.length : Int)) a6, r553.Last, r553.Right, r553.Rules, r553.Done⟩ : Enum)) hOc677.lt (ay.ch (Owns.dropCh _ _ 0)) (aj.ch (Owns.dropCh _ _ 0)) WP (aA.ch (Owns.dropCh _ _ 0)) (al.ch (Owns.dropCh _ _ 0)) (ao.ch (Owns.dropCh _ _ 0)) H)) (fun v w hr => by obtain ⟨_, _, hs, _⟩ := hr; assumption) rfl rfl ?_
    rintro ai1 ai2 ⟨r678, rfl, WQ, H⟩
    have ml := Stp.same hO WQ
    replace hO := ml.own
    replace Au := Au.ch ml.ch
    have hobt := rowlend 0 hO rfl Au
    obtain ⟨WR, WS⟩ := hobt
    have hOc686 := hO.drop 0
    replace ay := ay.ch ml.ch
    replace aj := aj.ch ml.ch
    replace aA := aA.ch ml.ch
    replace al := al.ch ml.ch
    replace ao := ao.ch ml.ch
    refine GoQ.call rfl (op_call body21 (show ([.agg #[.int .i64 r553.Points, .bool r553.Monoid, .slice cu r553.Gens.length cv, .slice cz r553.Elems.length cE, .slice EL (0 + r553.Prefix.length) EM, .slice c6 r553.Last.length db, .slice cF r553.Right.length cG, .slice cH r553.Rules.length cI, .int .i64 r553.Done]] : List Value) = [.agg #[.int .i64 r553.Points, .bool r553.Monoid, .slice cu r553.Gens.length cv, .slice cz r553.Elems.length cE, .slice EL (st ((([] : List Int)) ++ r553.Prefix) (((a5.tmod (r553.Elems.length : Int)) + (r553.Elems.length : Int)).tmod (r553.Elems.length : Int)) a6).length EM, .slice c6 r553.Last.length db, .slice cF r553.Right.length cG, .slice cH r553.Rules.length cI, .int .i64 r553.Done]] from by rw [← WS]) (walk_ref12_Validate (e := (⟨r553.Points, r553.Monoid, r553.Gens, r553.Elems, st ((([] : List Int)) ++ r553.Prefix) (((a5.tmod (r553.Elems.length : Int)) + (r553.Elems.length : Int)).tmod (r553.Elems.length : Int)) a6, r553.Last, r553.Right, r553.Rules, r553.Done⟩ : Enum)) hOc686.lt (ay.ch (Owns.dropCh _ _ 0)) (aj.ch (Owns.dropCh _ _ 0)) WR (aA.ch (Owns.dropCh _ _ 0)) (al.ch (Owns.dropCh _ _ 0)) (ao.ch (Owns.dropCh _ _ 0)) H)) (fun v w hr => by obtain ⟨_, _, hs, _⟩ := hr; assumption) rfl rfl ?_
    rintro ai3 ai4 ⟨r687, rfl, WT, H⟩
    have mm := Stp.same hO WT
    replace hO := mm.own
    by_cases Ka : r678 = r687
    ·replace H := ifp Ka H
     refine GoQ.pure rfl (fun w => opB (op_eql rfl rfl w) (decide_eq_true Ka)) rfl rfl ?_
     refine GoQ.pure rfl (op_move rfl) rfl rfl ?_
     refine GoQ.call rfl (op_call body16 rfl (walk_law12_awake hO.lt H)) (fun v w hr => by obtain ⟨_, _, hs, _⟩ := hr; assumption) rfl rfl ?_
     rintro ai5 ai6 ⟨r694, rfl, WU, H⟩
     have mo := Stp.same hO WU
     replace hO := mo.own
     refine GoQ.pure rfl (op_pickT rfl rfl rfl) rfl rfl ?_
     refine GoQ.pure rfl (op_assign rfl) rfl rfl ?_
     refine GoQ.nil ?_
     refine Go1.ret1 Try.func4 rfl ?_
     replace hB := (((((((((((((((hB.trans d5.fr).trans iE.fr).trans lE.fr).trans f9.fr).trans ig.fr).trans tH.fr).trans tI.fr).trans nk.fr).trans nD.fr).trans nE.fr).trans mh.fr).trans nF.fr).trans mj.fr).trans ml.fr).trans mm.fr).trans mo.fr
     exact ⟨r694, rfl, hB.same, H⟩
    replace H := ifn Ka H
    refine GoQ.pure rfl (fun w => opB (op_eql rfl rfl w) (decide_eq_false Ka)) rfl rfl ?_
    refine GoQ.pure rfl (op_move rfl) rfl rfl ?_
    refine GoQ.pass rfl rfl rfl ?_
    refine GoQ.pure rfl (op_pickF rfl rfl rfl) rfl rfl ?_
    refine GoQ.pure rfl (op_assign rfl) rfl rfl ?_
    refine GoQ.nil ?_
    refine Go1.ret1 Try.func4 rfl ?_
    replace hB := ((((((((((((((hB.trans d5.fr).trans iE.fr).trans lE.fr).trans f9.fr).trans ig.fr).trans tH.fr).trans tI.fr).trans nk.fr).trans nD.fr).trans nE.fr).trans mh.fr).trans nF.fr).trans mj.fr).trans ml.fr).trans mm.fr
    exact ⟨false, rfl, hB.same, H⟩
   replace H := ifn J9 H
   refine zo (fun w => opB (op_eql rfl rfl w) (decide_eq_false J9)) (za rfl (zn (zf rfl rfl (zq ?_))))
   refine Go1.cut [(6, .int .i64 a6), (15, .pointer (some ⟨B544, 0, none⟩)), (18, .int .i64 (((a5.tmod (r553.Elems.length : Int)) + (r553.Elems.length : Int)).tmod (r553.Elems.length : Int))), (64, .int .i64 (bits .and .i64 a4 (7 : Int)))] ⟨rfl, rfl, rfl, rfl, trivial⟩ ?_
   intro σ _
   refine zr ?_
   by_cases Kb : (bits .and .i64 a4 (7 : Int)) = (3 : Int)
   ·replace H := ifp Kb H
    refine zo (fun w => opB (op_eql rfl rfl w) (decide_eq_true Kb)) (za rfl (zn (zt rfl rfl (zq (zr ?_)))))
    have hobt := obuild (r := Rp.int .i64) (n := 0) (parts := []) (vs := []) (xs := ([] : List Int)) rfl Try.underlying26 ti3 hO (by decide) (by kernel_rfl) (Els.nil _ _ _) rfl
    obtain ⟨ai7, ai8, nG, WW, ado, HH⟩ := hobt
    refine zg (HH rfl) ?_
    replace hO := nG.own
    refine zo (op_fieldAddr Try.underlying29 rfl ti26 rfl (by decide)) (zs (oblk (i := 5) 1 hO rfl rfl Try.underlying26 rfl rfl) ?_)
    obtain ⟨ab9, H⟩ := H
    replace aA := (aA.ch nk.ch).ch nG.ch
    have hobt := oapp Try.underlying26 ti3 rfl 0 hO rfl WW aA rfl ab9 (by decide)
    obtain ⟨ai9, EO, EP, adp, gR, Di, QB⟩ := hobt
    refine zg (QB (by exact rfl) (by exact rfl)) ?_
    replace hO := gR.own
    refine zo (op_fieldAddr Try.underlying29 rfl ti26 rfl (by decide)) ?_
    have hobt := oblkSt2 (v := .slice EO (0 + r553.Last.length) EP) (i := 5) (cs' := #[.int .i64 r553.Points, .bool r553.Monoid, .slice cu r553.Gens.length cv, .slice cz r553.Elems.length cE, .slice cj r553.Prefix.length ck, .slice EO (0 + r553.Last.length) EP, .slice cF r553.Right.length cG, .slice cH r553.Rules.length cI, .int .i64 r553.Done]) 1 hO rfl rfl rfl rfl
    obtain ⟨aja, mp, QC⟩ := hobt
    refine zg (QC Try.underlying26 rfl ti26 (by exact rfl) (by exact rfl)) ?_
    replace hO := mp.own
    refine zn (zr (zo (op_fieldAddr Try.underlying29 rfl ti26 rfl (by decide)) (zs (oblk (i := 5) 1 hO rfl rfl Try.underlying26 rfl rfl) (zm rfl (zm rfl ?_)))))
    obtain ⟨LX, H⟩ := H
    obtain ⟨HI, H⟩ := H
    replace Di := Di.ch mp.ch
    refine zo (op_index Try.underlying26 ti3 rfl rfl LX (ltn (Di.neq hO 0 rfl) HI) (Di.psome hO 0 rfl LX HI)) ?_
    have hobt := ost (r := Rp.int .i64) rfl 0 hO rfl Di LX HI (v := .int .i64 a6) (u := a6) rfl rfl
    obtain ⟨YM, adq, nH, Aw, QD⟩ := hobt
    refine zg (QD Try.underlying3 rfl ti3 (by exact rfl) (by exact rfl)) ?_
    replace hO := nH.own
    refine zn ?_
    refine Go1.inBlock ?_
    refine zq ?_
    refine Go1.drawS 0 [(0, .stable), (2, .stable), (1, .loud), (3, .loud), (4, .pure), (5, .pure), (6, .loud), (7, .pure), (8, .pure)] mixed (by kernel_rfl) ?_
    intro ajb WX
    have mq := Stp.same hO WX
    replace hO := mq.own
    refine GoQ.stable rfl (oblkAgg (vs := [.int .i64 r553.Points, .bool r553.Monoid, .slice cu r553.Gens.length cv, .slice cz r553.Elems.length cE, .slice cj r553.Prefix.length ck, .slice EO (0 + r553.Last.length) EP, .slice cF r553.Right.length cG, .slice cH r553.Rules.length cI, .int .i64 r553.Done]) (i := 0) 1 hO rfl rfl Try.underlying29 rfl ti29 rfl) rfl rfl ?_
    refine GoQ.stable rfl (oblkAgg (vs := [.int .i64 r553.Points, .bool r553.Monoid, .slice cu r553.Gens.length cv, .slice cz r553.Elems.length cE, .slice cj r553.Prefix.length ck, .slice EO (0 + r553.Last.length) EP, .slice cF r553.Right.length cG, .slice cH r553.Rules.length cI, .int .i64 r553.Done]) (i := 0) 1 hO rfl rfl Try.underlying29 rfl ti29 rfl) rfl rfl ?_
    replace Aw := Aw.ch mq.ch
    have hobt := rowlend 0 hO rfl Aw
    obtain ⟨WY, W0⟩ := hobt
    have hOc732 := hO.drop 0
    have Z27 := (((nG.ch.trans gR.ch).trans mp.ch).trans nH.ch).trans mq.ch
    replace aj := aj.ch Z27
    have Z28 := ((((nk.ch.trans nG.ch).trans gR.ch).trans mp.ch).trans nH.ch).trans mq.ch
    replace ay := ay.ch Z28
    replace ai := ai.ch Z28
    replace al := al.ch Z28
    replace ao := ao.ch Z28
    refine GoQ.call rfl (op_call body20 (show ([.agg #[.int .i64 r553.Points, .bool r553.Monoid, .slice cu r553.Gens.length cv, .slice cz r553.Elems.length cE, .slice cj r553.Prefix.length ck, .slice EO (0 + r553.Last.length) EP, .slice cF r553.Right.length cG, .slice cH r553.Rules.length cI, .int .i64 r553.Done]] : List Value) = [.agg #[.int .i64 r553.Points, .bool r553.Monoid, .slice cu r553.Gens.length cv, .slice cz r553.Elems.length cE, .slice cj r553.Prefix.length ck, .slice EO (st ((([] : List Int)) ++ r553.Last) (((a5.tmod (r553.Elems.length : Int)) + (r553.Elems.length : Int)).tmod (r553.Elems.length : Int)) a6).length EP, .slice cF r553.Right.length cG, .slice cH r553.Rules.length cI, .int .i64 r553.Done]] from by rw [← W0]) (walk_enumerate_Validate (e := (⟨r553.Points, r553.Monoid, r553.Gens, r553.Elems, r553.Prefix, st ((([] : List Int)) ++ r553.Last) (((a5.tmod (r553.Elems.length : Int)) + (r553.Elems.length : Int)).tmod (r553.Elems.length : Int)) a6, r553.Right, r553.Rules, r553.Done⟩ : Enum)) hOc732.lt (ay.ch (Owns.dropCh _ _ 0)) (aj.ch (Owns.dropCh _ _ 0)) (ai.ch (Owns.dropCh _ _ 0)) WY (al.ch (Owns.dropCh _ _ 0)) (ao.ch (Owns.dropCh _ _ 0)) H)) (fun v w hr => by obtain ⟨_, _, hs, _⟩ := hr; assumption) rfl rfl ?_
    rintro ajc ajd ⟨r733, rfl, W1, H⟩
    have mr := Stp.same hO W1
    replace hO := mr.own
    replace Aw := Aw.ch mr.ch
    have hobt := rowlend 0 hO rfl Aw
    obtain ⟨W2, W3⟩ := hobt
    have hOc741 := hO.drop 0
    replace ay := ay.ch mr.ch
    replace aj := aj.ch mr.ch
    replace ai := ai.ch mr.ch
    replace al := al.ch mr.ch
    replace ao := ao.ch mr.ch
    refine GoQ.call rfl (op_call body21 (show ([.agg #[.int .i64 r553.Points, .bool r553.Monoid, .slice cu r553.Gens.length cv, .slice cz r553.Elems.length cE, .slice cj r553.Prefix.length ck, .slice EO (0 + r553.Last.length) EP, .slice cF r553.Right.length cG, .slice cH r553.Rules.length cI, .int .i64 r553.Done]] : List Value) = [.agg #[.int .i64 r553.Points, .bool r553.Monoid, .slice cu r553.Gens.length cv, .slice cz r553.Elems.length cE, .slice cj r553.Prefix.length ck, .slice EO (st ((([] : List Int)) ++ r553.Last) (((a5.tmod (r553.Elems.length : Int)) + (r553.Elems.length : Int)).tmod (r553.Elems.length : Int)) a6).length EP, .slice cF r553.Right.length cG, .slice cH r553.Rules.length cI, .int .i64 r553.Done]] from by rw [← W3]) (walk_ref12_Validate (e := (⟨r553.Points, r553.Monoid, r553.Gens, r553.Elems, r553.Prefix, st ((([] : List Int)) ++ r553.Last) (((a5.tmod (r553.Elems.length : Int)) + (r553.Elems.length : Int)).tmod (r553.Elems.length : Int)) a6, r553.Right, r553.Rules, r553.Done⟩ : Enum)) hOc741.lt (ay.ch (Owns.dropCh _ _ 0)) (aj.ch (Owns.dropCh _ _ 0)) (ai.ch (Owns.dropCh _ _ 0)) W2 (al.ch (Owns.dropCh _ _ 0)) (ao.ch (Owns.dropCh _ _ 0)) H)) (fun v w hr => by obtain ⟨_, _, hs, _⟩ := hr; assumption) rfl rfl ?_
    rintro aje ajf ⟨r742, rfl, W4, H⟩
    have ms := Stp.same hO W4
    replace hO := ms.own
    by_cases Kc : r733 = r742
    ·replace H := ifp Kc H
     refine GoQ.pure rfl (fun w => opB (op_eql rfl rfl w) (decide_eq_true Kc)) rfl rfl ?_
     refine GoQ.pure rfl (op_move rfl) rfl rfl ?_
     refine GoQ.call rfl (op_call body16 rfl (walk_law12_awake hO.lt H)) (fun v w hr => by obtain ⟨_, _, hs, _⟩ := hr; assumption) rfl rfl ?_
     rintro ajg ajh ⟨r749, rfl, W5, H⟩
     have mt := Stp.same hO W5
     replace hO := mt.own
     refine GoQ.pure rfl (op_pickT rfl rfl rfl) rfl rfl ?_
     refine GoQ.pure rfl (op_assign rfl) rfl rfl ?_
     refine GoQ.nil ?_
     refine Go1.ret1 Try.func4 rfl ?_
     replace hB := (((((((((((((((hB.trans d5.fr).trans iE.fr).trans lE.fr).trans f9.fr).trans ig.fr).trans tH.fr).trans tI.fr).trans nk.fr).trans nG.fr).trans gR.fr).trans mp.fr).trans nH.fr).trans mq.fr).trans mr.fr).trans ms.fr).trans mt.fr
     exact ⟨r749, rfl, hB.same, H⟩
    replace H := ifn Kc H
    refine GoQ.pure rfl (fun w => opB (op_eql rfl rfl w) (decide_eq_false Kc)) rfl rfl ?_
    refine GoQ.pure rfl (op_move rfl) rfl rfl ?_
    refine GoQ.pass rfl rfl rfl ?_
    refine GoQ.pure rfl (op_pickF rfl rfl rfl) rfl rfl ?_
    refine GoQ.pure rfl (op_assign rfl) rfl rfl ?_
    refine GoQ.nil ?_
    refine Go1.ret1 Try.func4 rfl ?_
    replace hB := ((((((((((((((hB.trans d5.fr).trans iE.fr).trans lE.fr).trans f9.fr).trans ig.fr).trans tH.fr).trans tI.fr).trans nk.fr).trans nG.fr).trans gR.fr).trans mp.fr).trans nH.fr).trans mq.fr).trans mr.fr).trans ms.fr
    exact ⟨false, rfl, hB.same, H⟩
   replace H := ifn Kb H
   refine zo (fun w => opB (op_eql rfl rfl w) (decide_eq_false Kb)) (za rfl (zn (zf rfl rfl (zq ?_))))
   refine Go1.cut [(6, .int .i64 a6), (15, .pointer (some ⟨B544, 0, none⟩)), (18, .int .i64 (((a5.tmod (r553.Elems.length : Int)) + (r553.Elems.length : Int)).tmod (r553.Elems.length : Int))), (64, .int .i64 (bits .and .i64 a4 (7 : Int)))] ⟨rfl, rfl, rfl, rfl, trivial⟩ ?_
   intro σ _
   refine zr ?_
   by_cases Kd : (bits .and .i64 a4 (7 : Int)) = (4 : Int)
   ·replace H := ifp Kd H
    refine zo (fun w => opB (op_eql rfl rfl w) (decide_eq_true Kd)) (za rfl (zn (zt rfl rfl (zq (zr ?_)))))
    refine zm rfl (zo (op_fieldAddr Try.underlying29 rfl ti22 rfl (by decide)) (zs (oblk (i := 6) 0 hO rfl rfl Try.underlying22 rfl rfl) (zo (op_len Try.underlying22 rfl) ?_)))
    replace al := al.ch nk.ch
    replace H := H al.bd
    by_cases Ke : (((a5.tmod (r553.Elems.length : Int)) + (r553.Elems.length : Int)).tmod (r553.Elems.length : Int)) < (r553.Right.length : Int)
    ·replace H := ifp Ke H
     refine zo (fun w => opB (op_lss rfl rfl w) (decide_eq_true Ke)) (zn (zt rfl rfl (zq (zr (zo (op_fieldAddr Try.underlying29 rfl ti22 rfl (by decide)) ?_)))))
     refine zs (oblk (i := 6) 0 hO rfl rfl Try.underlying22 rfl rfl) ?_
     refine GoR.call (op_call body24 rfl (walk_ref03_Copy hO.lt al H)) rfl rfl ?_
     rintro aji ajj ⟨r757, C7, AR, AT, acq, rfl, W6, hN761, H⟩
     have nI := Stp.more hO W6 hN761
     replace hO := nI.own
     refine zo (op_fieldAddr Try.underlying29 rfl ti22 rfl (by decide)) ?_
     have hobt := oblkSt2 (v := .slice AR C7 AT) (i := 6) (cs' := #[.int .i64 r553.Points, .bool r553.Monoid, .slice cu r553.Gens.length cv, .slice cz r553.Elems.length cE, .slice cj r553.Prefix.length ck, .slice c6 r553.Last.length db, .slice AR C7 AT, .slice cH r553.Rules.length cI, .int .i64 r553.Done]) 1 hO rfl rfl rfl rfl
     obtain ⟨ajk, nJ, QE⟩ := hobt
     refine zg (QE Try.underlying22 rfl ti22 (by exact rfl) (by exact rfl)) ?_
     replace hO := nJ.own
     refine zn (zr (zo (op_fieldAddr Try.underlying29 rfl ti22 rfl (by decide)) (zs (oblk (i := 6) 1 hO rfl rfl Try.underlying22 rfl rfl) (zm rfl ?_))))
     obtain ⟨H5, H⟩ := H
     obtain ⟨H6, H⟩ := H
     refine zo (op_index Try.underlying22 ti26 rfl rfl H5 (ltn (t2neq 0 hO rfl) H6) (t2some 0 hO rfl H5 H6)) (zs (t2head 0 hO rfl H5 H6 Try.underlying26 rfl rfl) (zm rfl ?_))
     obtain ⟨LY, H⟩ := H
     obtain ⟨L1, H⟩ := H
     refine zo (op_index Try.underlying26 ti3 rfl rfl LY L1 (t2isome 0 hO rfl H5 H6 LY L1)) ?_
     have hobt := t2st (r := Rp.int .i64) (hf := (Fl.int .i64)) rfl 0 hO rfl H5 H6 LY L1 (v := .int .i64 a6) (u := a6) rfl rfl
     obtain ⟨ajl, nK, QF⟩ := hobt
     refine zg (QF Try.underlying3 rfl ti3 (by exact rfl) (by exact rfl)) ?_
     replace hO := nK.own
     refine zn ?_
     refine Go1.inBlock ?_
     refine zq ?_
     refine Go1.cut [(15, .pointer (some ⟨B544, 0, none⟩))] ⟨rfl, trivial⟩ ?_
     intro σ _
     refine Go1.drawS 0 [(0, .stable), (2, .stable), (1, .loud), (3, .loud), (4, .pure), (5, .pure), (6, .loud), (7, .pure), (8, .pure)] mixed (by kernel_rfl) ?_
     intro ajm W7
     have nM := Stp.same hO W7
     replace hO := nM.own
     refine GoQ.stable rfl (oblkAgg (vs := [.int .i64 r553.Points, .bool r553.Monoid, .slice cu r553.Gens.length cv, .slice cz r553.Elems.length cE, .slice cj r553.Prefix.length ck, .slice c6 r553.Last.length db, .slice AR C7 AT, .slice cH r553.Rules.length cI, .int .i64 r553.Done]) (i := 0) 1 hO rfl rfl Try.underlying29 rfl ti29 rfl) rfl rfl ?_
     refine GoQ.stable rfl (oblkAgg (vs := [.int .i64 r553.Points, .bool r553.Monoid, .slice cu r553.Gens.length cv, .slice cz r553.Elems.length cE, .slice cj r553.Prefix.length ck, .slice c6 r553.Last.length db, .slice AR C7 AT, .slice cH r553.Rules.length cI, .int .i64 r553.Done]) (i := 0) 1 hO rfl rfl Try.underlying29 rfl ti29 rfl) rfl rfl ?_
     have W8 := t2lend 0 hO rfl
     have W9 := t2neq 0 hO rfl
     have hOc780 := hO.drop 0
     have Z29 := ((nI.ch.trans nJ.ch).trans nK.ch).trans nM.ch
     replace aj := aj.ch Z29
     have Z30 := (((nk.ch.trans nI.ch).trans nJ.ch).trans nK.ch).trans nM.ch
     replace ay := ay.ch Z30
     replace ai := ai.ch Z30
     replace aA := aA.ch Z30
     replace ao := ao.ch Z30
     refine GoQ.call rfl (op_call body20 (show ([.agg #[.int .i64 r553.Points, .bool r553.Monoid, .slice cu r553.Gens.length cv, .slice cz r553.Elems.length cE, .slice cj r553.Prefix.length ck, .slice c6 r553.Last.length db, .slice AR C7 AT, .slice cH r553.Rules.length cI, .int .i64 r553.Done]] : List Value) = [.agg #[.int .i64 r553.Points, .bool r553.Monoid, .slice cu r553.Gens.length cv, .slice cz r553.Elems.length cE, .slice cj r553.Prefix.length ck, .slice c6 r553.Last.length db, .slice AR (st r757 (((a5.tmod (r553.Elems.length : Int)) + (r553.Elems.length : Int)).tmod (r553.Elems.length : Int)) (st (ix r757 (((a5.tmod (r553.Elems.length : Int)) + (r553.Elems.length : Int)).tmod (r553.Elems.length : Int))) (0 : Int) a6)).length AT, .slice cH r553.Rules.length cI, .int .i64 r553.Done]] from by rw [← W9]) (walk_enumerate_Validate (e := (⟨r553.Points, r553.Monoid, r553.Gens, r553.Elems, r553.Prefix, r553.Last, st r757 (((a5.tmod (r553.Elems.length : Int)) + (r553.Elems.length : Int)).tmod (r553.Elems.length : Int)) (st (ix r757 (((a5.tmod (r553.Elems.length : Int)) + (r553.Elems.length : Int)).tmod (r553.Elems.length : Int))) (0 : Int) a6), r553.Rules, r553.Done⟩ : Enum)) hOc780.lt (ay.ch (Owns.dropCh _ _ 0)) (aj.ch (Owns.dropCh _ _ 0)) (ai.ch (Owns.dropCh _ _ 0)) (aA.ch (Owns.dropCh _ _ 0)) W8 (ao.ch (Owns.dropCh _ _ 0)) H)) (fun v w hr => by obtain ⟨_, _, hs, _⟩ := hr; assumption) rfl rfl ?_
     rintro ajn ajo ⟨r781, rfl, Xa, H⟩
     have nN := Stp.same hO Xa
     replace hO := nN.own
     have Xb := t2lend 0 hO rfl
     have Xc := t2neq 0 hO rfl
     have hOc789 := hO.drop 0
     replace ay := ay.ch nN.ch
     replace aj := aj.ch nN.ch
     replace ai := ai.ch nN.ch
     replace aA := aA.ch nN.ch
     replace ao := ao.ch nN.ch
     refine GoQ.call rfl (op_call body21 (show ([.agg #[.int .i64 r553.Points, .bool r553.Monoid, .slice cu r553.Gens.length cv, .slice cz r553.Elems.length cE, .slice cj r553.Prefix.length ck, .slice c6 r553.Last.length db, .slice AR C7 AT, .slice cH r553.Rules.length cI, .int .i64 r553.Done]] : List Value) = [.agg #[.int .i64 r553.Points, .bool r553.Monoid, .slice cu r553.Gens.length cv, .slice cz r553.Elems.length cE, .slice cj r553.Prefix.length ck, .slice c6 r553.Last.length db, .slice AR (st r757 (((a5.tmod (r553.Elems.length : Int)) + (r553.Elems.length : Int)).tmod (r553.Elems.length : Int)) (st (ix r757 (((a5.tmod (r553.Elems.length : Int)) + (r553.Elems.length : Int)).tmod (r553.Elems.length : Int))) (0 : Int) a6)).length AT, .slice cH r553.Rules.length cI, .int .i64 r553.Done]] from by rw [← Xc]) (walk_ref12_Validate (e := (⟨r553.Points, r553.Monoid, r553.Gens, r553.Elems, r553.Prefix, r553.Last, st r757 (((a5.tmod (r553.Elems.length : Int)) + (r553.Elems.length : Int)).tmod (r553.Elems.length : Int)) (st (ix r757 (((a5.tmod (r553.Elems.length : Int)) + (r553.Elems.length : Int)).tmod (r553.Elems.length : Int))) (0 : Int) a6), r553.Rules, r553.Done⟩ : Enum)) hOc789.lt (ay.ch (Owns.dropCh _ _ 0)) (aj.ch (Owns.dropCh _ _ 0)) (ai.ch (Owns.dropCh _ _ 0)) (aA.ch (Owns.dropCh _ _ 0)) Xb (ao.ch (Owns.dropCh _ _ 0)) H)) (fun v w hr => by obtain ⟨_, _, hs, _⟩ := hr; assumption) rfl rfl ?_
     rintro ajp ajq ⟨r790, rfl, Xd, H⟩
     have nO := Stp.same hO Xd
     replace hO := nO.own
     by_cases Kf : r781 = r790
     ·replace H := ifp Kf H
      refine GoQ.pure rfl (fun w => opB (op_eql rfl rfl w) (decide_eq_true Kf)) rfl rfl ?_
      refine GoQ.pure rfl (op_move rfl) rfl rfl ?_
      refine GoQ.call rfl (op_call body16 rfl (walk_law12_awake hO.lt H)) (fun v w hr => by obtain ⟨_, _, hs, _⟩ := hr; assumption) rfl rfl ?_
      rintro ajr ajs ⟨r797, rfl, Xe, H⟩
      have nP := Stp.same hO Xe
      replace hO := nP.own
      refine GoQ.pure rfl (op_pickT rfl rfl rfl) rfl rfl ?_
      refine GoQ.pure rfl (op_assign rfl) rfl rfl ?_
      refine GoQ.nil ?_
      refine Go1.ret1 Try.func4 rfl ?_
      replace hB := ((((((((((((((hB.trans d5.fr).trans iE.fr).trans lE.fr).trans f9.fr).trans ig.fr).trans tH.fr).trans tI.fr).trans nk.fr).trans nI.fr).trans nJ.fr).trans nK.fr).trans nM.fr).trans nN.fr).trans nO.fr).trans nP.fr
      exact ⟨r797, rfl, hB.same, H⟩
     replace H := ifn Kf H
     refine GoQ.pure rfl (fun w => opB (op_eql rfl rfl w) (decide_eq_false Kf)) rfl rfl ?_
     refine GoQ.pure rfl (op_move rfl) rfl rfl ?_
     refine GoQ.pass rfl rfl rfl ?_
     refine GoQ.pure rfl (op_pickF rfl rfl rfl) rfl rfl ?_
     refine GoQ.pure rfl (op_assign rfl) rfl rfl ?_
     refine GoQ.nil ?_
     refine Go1.ret1 Try.func4 rfl ?_
     replace hB := (((((((((((((hB.trans d5.fr).trans iE.fr).trans lE.fr).trans f9.fr).trans ig.fr).trans tH.fr).trans tI.fr).trans nk.fr).trans nI.fr).trans nJ.fr).trans nK.fr).trans nM.fr).trans nN.fr).trans nO.fr
     exact ⟨false, rfl, hB.same, H⟩
    replace H := ifn Ke H
    refine zo (fun w => opB (op_lss rfl rfl w) (decide_eq_false Ke)) (zn (zf rfl rfl (zk ?_)))
    refine Go1.inBlock ?_
    refine zq ?_
    refine Go1.drawS 0 [(0, .stable), (2, .stable), (1, .loud), (3, .loud), (4, .pure), (5, .pure), (6, .loud), (7, .pure), (8, .pure)] mixed (by kernel_rfl) ?_
    intro ajt Xf
    have nQ := Stp.same hO Xf
    replace hO := nQ.own
    refine GoQ.stable rfl (oblkAgg (vs := [.int .i64 r553.Points, .bool r553.Monoid, .slice cu r553.Gens.length cv, .slice cz r553.Elems.length cE, .slice cj r553.Prefix.length ck, .slice c6 r553.Last.length db, .slice cF r553.Right.length cG, .slice cH r553.Rules.length cI, .int .i64 r553.Done]) (i := 0) 0 hO rfl rfl Try.underlying29 rfl ti29 rfl) rfl rfl ?_
    refine GoQ.stable rfl (oblkAgg (vs := [.int .i64 r553.Points, .bool r553.Monoid, .slice cu r553.Gens.length cv, .slice cz r553.Elems.length cE, .slice cj r553.Prefix.length ck, .slice c6 r553.Last.length db, .slice cF r553.Right.length cG, .slice cH r553.Rules.length cI, .int .i64 r553.Done]) (i := 0) 0 hO rfl rfl Try.underlying29 rfl ti29 rfl) rfl rfl ?_
    replace aj := aj.ch nQ.ch
    replace al := al.ch nQ.ch
    have Z31 := nk.ch.trans nQ.ch
    replace ay := ay.ch Z31
    replace ai := ai.ch Z31
    replace aA := aA.ch Z31
    replace ao := ao.ch Z31
    refine GoQ.call rfl (op_call body20 rfl (walk_enumerate_Validate (e := r553) hO.lt ay aj ai aA al ao H)) (fun v w hr => by obtain ⟨_, _, hs, _⟩ := hr; assumption) rfl rfl ?_
    rintro aju ajv ⟨r806, rfl, Xg, H⟩
    have nS := Stp.same hO Xg
    replace hO := nS.own
    replace ay := ay.ch nS.ch
    replace aj := aj.ch nS.ch
    replace ai := ai.ch nS.ch
    replace aA := aA.ch nS.ch
    replace al := al.ch nS.ch
    replace ao := ao.ch nS.ch
    refine GoQ.call rfl (op_call body21 rfl (walk_ref12_Validate (e := r553) hO.lt ay aj ai aA al ao H)) (fun v w hr => by obtain ⟨_, _, hs, _⟩ := hr; assumption) rfl rfl ?_
    rintro ajw ajx ⟨r812, rfl, Xh, H⟩
    have nT := Stp.same hO Xh
    replace hO := nT.own
    by_cases Kg : r806 = r812
    ·replace H := ifp Kg H
     refine GoQ.pure rfl (fun w => opB (op_eql rfl rfl w) (decide_eq_true Kg)) rfl rfl ?_
     refine GoQ.pure rfl (op_move rfl) rfl rfl ?_
     refine GoQ.call rfl (op_call body16 rfl (walk_law12_awake hO.lt H)) (fun v w hr => by obtain ⟨_, _, hs, _⟩ := hr; assumption) rfl rfl ?_
     rintro ajy ajz ⟨r819, rfl, Xi, H⟩
     have g5 := Stp.same hO Xi
     replace hO := g5.own
     refine GoQ.pure rfl (op_pickT rfl rfl rfl) rfl rfl ?_
     refine GoQ.pure rfl (op_assign rfl) rfl rfl ?_
     refine GoQ.nil ?_
     refine Go1.ret1 Try.func4 rfl ?_
     replace hB := (((((((((((hB.trans d5.fr).trans iE.fr).trans lE.fr).trans f9.fr).trans ig.fr).trans tH.fr).trans tI.fr).trans nk.fr).trans nQ.fr).trans nS.fr).trans nT.fr).trans g5.fr
     exact ⟨r819, rfl, hB.same, H⟩
    replace H := ifn Kg H
    refine GoQ.pure rfl (fun w => opB (op_eql rfl rfl w) (decide_eq_false Kg)) rfl rfl ?_
    refine GoQ.pure rfl (op_move rfl) rfl rfl ?_
    refine GoQ.pass rfl rfl rfl ?_
    refine GoQ.pure rfl (op_pickF rfl rfl rfl) rfl rfl ?_
    refine GoQ.pure rfl (op_assign rfl) rfl rfl ?_
    refine GoQ.nil ?_
    refine Go1.ret1 Try.func4 rfl ?_
    replace hB := ((((((((((hB.trans d5.fr).trans iE.fr).trans lE.fr).trans f9.fr).trans ig.fr).trans tH.fr).trans tI.fr).trans nk.fr).trans nQ.fr).trans nS.fr).trans nT.fr
    exact ⟨false, rfl, hB.same, H⟩
   replace H := ifn Kd H
   refine zo (fun w => opB (op_eql rfl rfl w) (decide_eq_false Kd)) (za rfl (zn (zf rfl rfl (zq ?_))))
   refine Go1.cut [(6, .int .i64 a6), (15, .pointer (some ⟨B544, 0, none⟩)), (18, .int .i64 (((a5.tmod (r553.Elems.length : Int)) + (r553.Elems.length : Int)).tmod (r553.Elems.length : Int))), (64, .int .i64 (bits .and .i64 a4 (7 : Int)))] ⟨rfl, rfl, rfl, rfl, trivial⟩ ?_
   intro σ _
   refine zr ?_
   by_cases Kh : (bits .and .i64 a4 (7 : Int)) = (5 : Int)
   ·replace H := ifp Kh H
    refine zo (fun w => opB (op_eql rfl rfl w) (decide_eq_true Kh)) (za rfl (zn (zt rfl rfl (zr ?_))))
    have hobt := obuildN (r := rpRule) (n := 0) (parts := []) (vs := []) (xs := ([] : List Rule)) Try.underlying27 ti39 hO (by decide) (by decide) (by kernel_rfl) (Els.nil _ _ _) rfl
    obtain ⟨ajA, ajB, g6, Xj, adr, QG⟩ := hobt
    refine zg (QG rfl) ?_
    replace hO := g6.own
    refine zo (op_fieldAddr Try.underlying29 rfl ti27 rfl (by decide)) (zs (oblk (i := 7) 1 hO rfl rfl Try.underlying27 rfl rfl) ?_)
    obtain ⟨aca, H⟩ := H
    replace ao := (ao.ch nk.ch).ch g6.ch
    have hobt := oapp Try.underlying27 ti39 rfl 0 hO rfl Xj ao rfl aca (by decide)
    obtain ⟨ajC, ajD, ajE, ads, nU, Gj, QH⟩ := hobt
    refine zg (QH (by exact rfl) (by exact rfl)) ?_
    replace hO := nU.own
    refine zo (op_build Try.underlying39 ti39 (pl := [(0, 1), (1, 1)]) (vs := [(0, .string (gstr (([97, 98] : Str)))), (1, .string (gstr (([97] : Str))))]) (cs := #[.string (gstr (([97, 98] : Str))), .string (gstr (([97] : Str)))]) (by kernel_rfl) rfl (by kernel_rfl)) ?_
    have hobt := obuildN (r := rpRule) (n := 1) (parts := [(0, .agg #[.string (gstr (([97, 98] : Str))), .string (gstr (([97] : Str)))])]) (vs := [.string (gstr (([97, 98] : Str))), .string (gstr (([97] : Str)))]) (xs := [(⟨([97, 98] : Str), ([97] : Str)⟩ : Rule)]) Try.underlying27 ti39 hO (by decide) (by decide) (by kernel_rfl) (Els.flat1 (⟨([97, 98] : Str), ([97] : Str)⟩ : Rule) ⟨(by decide), (by decide)⟩) rfl
    obtain ⟨ajF, ajG, mv, Xk, adt, QI⟩ := hobt
    refine zg (QI rfl) ?_
    replace hO := mv.own
    have hobt := freeze 0 hO rfl Xk
    obtain ⟨hO1, sf, xY, Xl⟩ := hobt
    replace hO := hO1; clear hO1
    obtain ⟨acb, H⟩ := H
    replace Gj := (Gj.ch mv.ch).ch sf
    have hobt := oapp Try.underlying27 ti39 rfl 0 hO rfl Gj xY Xl acb (by decide)
    obtain ⟨ajH, EQ, ER, adu, mw, yW, QJ⟩ := hobt
    refine zg (QJ (by exact rfl) (by exact rfl)) ?_
    replace hO := mw.own
    refine zo (op_fieldAddr Try.underlying29 rfl ti27 rfl (by decide)) ?_
    have hobt := oblkSt2 (v := .slice EQ ((0 + r553.Rules.length) + 1) ER) (i := 7) (cs' := #[.int .i64 r553.Points, .bool r553.Monoid, .slice cu r553.Gens.length cv, .slice cz r553.Elems.length cE, .slice cj r553.Prefix.length ck, .slice c6 r553.Last.length db, .slice cF r553.Right.length cG, .slice EQ ((0 + r553.Rules.length) + 1) ER, .int .i64 r553.Done]) 1 hO rfl rfl rfl rfl
    obtain ⟨ajI, lI, QK⟩ := hobt
    refine zg (QK Try.underlying27 rfl ti27 (by exact rfl) (by exact rfl)) ?_
    replace hO := lI.own
    refine zn ?_
    refine Go1.inBlock ?_
    refine zq ?_
    refine Go1.drawS 0 [(0, .stable), (2, .stable), (1, .loud), (3, .loud), (4, .pure), (5, .pure), (6, .loud), (7, .pure), (8, .pure)] mixed (by kernel_rfl) ?_
    intro ajJ Xm
    have lJ := Stp.same hO Xm
    replace hO := lJ.own
    refine GoQ.stable rfl (oblkAgg (vs := [.int .i64 r553.Points, .bool r553.Monoid, .slice cu r553.Gens.length cv, .slice cz r553.Elems.length cE, .slice cj r553.Prefix.length ck, .slice c6 r553.Last.length db, .slice cF r553.Right.length cG, .slice EQ ((0 + r553.Rules.length) + 1) ER, .int .i64 r553.Done]) (i := 0) 1 hO rfl rfl Try.underlying29 rfl ti29 rfl) rfl rfl ?_
    refine GoQ.stable rfl (oblkAgg (vs := [.int .i64 r553.Points, .bool r553.Monoid, .slice cu r553.Gens.length cv, .slice cz r553.Elems.length cE, .slice cj r553.Prefix.length ck, .slice c6 r553.Last.length db, .slice cF r553.Right.length cG, .slice EQ ((0 + r553.Rules.length) + 1) ER, .int .i64 r553.Done]) (i := 0) 1 hO rfl rfl Try.underlying29 rfl ti29 rfl) rfl rfl ?_
    replace yW := (yW.ch lI.ch).ch lJ.ch
    have hobt := rowlend 0 hO rfl yW
    obtain ⟨Xn, Xo⟩ := hobt
    have hOc869 := hO.drop 0
    have Z32 := (((((g6.ch.trans nU.ch).trans mv.ch).trans sf).trans mw.ch).trans lI.ch).trans lJ.ch
    replace aj := aj.ch Z32
    have Z33 := ((((((nk.ch.trans g6.ch).trans nU.ch).trans mv.ch).trans sf).trans mw.ch).trans lI.ch).trans lJ.ch
    replace ay := ay.ch Z33
    replace ai := ai.ch Z33
    replace aA := aA.ch Z33
    replace al := al.ch Z33
    refine GoQ.call rfl (op_call body20 (show ([.agg #[.int .i64 r553.Points, .bool r553.Monoid, .slice cu r553.Gens.length cv, .slice cz r553.Elems.length cE, .slice cj r553.Prefix.length ck, .slice c6 r553.Last.length db, .slice cF r553.Right.length cG, .slice EQ ((0 + r553.Rules.length) + 1) ER, .int .i64 r553.Done]] : List Value) = [.agg #[.int .i64 r553.Points, .bool r553.Monoid, .slice cu r553.Gens.length cv, .slice cz r553.Elems.length cE, .slice cj r553.Prefix.length ck, .slice c6 r553.Last.length db, .slice cF r553.Right.length cG, .slice EQ (((([] : List Rule)) ++ r553.Rules) ++ ([(⟨([97, 98] : Str), ([97] : Str)⟩ : Rule)])).length ER, .int .i64 r553.Done]] from by rw [← Xo]) (walk_enumerate_Validate (e := (⟨r553.Points, r553.Monoid, r553.Gens, r553.Elems, r553.Prefix, r553.Last, r553.Right, ((([] : List Rule)) ++ r553.Rules) ++ ([(⟨([97, 98] : Str), ([97] : Str)⟩ : Rule)]), r553.Done⟩ : Enum)) hOc869.lt (ay.ch (Owns.dropCh _ _ 0)) (aj.ch (Owns.dropCh _ _ 0)) (ai.ch (Owns.dropCh _ _ 0)) (aA.ch (Owns.dropCh _ _ 0)) (al.ch (Owns.dropCh _ _ 0)) Xn H)) (fun v w hr => by obtain ⟨_, _, hs, _⟩ := hr; assumption) rfl rfl ?_
    rintro ajK ajL ⟨r870, rfl, Xp, H⟩
    have lK := Stp.same hO Xp
    replace hO := lK.own
    replace yW := yW.ch lK.ch
    have hobt := rowlend 0 hO rfl yW
    obtain ⟨Xq, Xr⟩ := hobt
    have hOc878 := hO.drop 0
    replace ay := ay.ch lK.ch
    replace aj := aj.ch lK.ch
    replace ai := ai.ch lK.ch
    replace aA := aA.ch lK.ch
    replace al := al.ch lK.ch
    refine GoQ.call rfl (op_call body21 (show ([.agg #[.int .i64 r553.Points, .bool r553.Monoid, .slice cu r553.Gens.length cv, .slice cz r553.Elems.length cE, .slice cj r553.Prefix.length ck, .slice c6 r553.Last.length db, .slice cF r553.Right.length cG, .slice EQ ((0 + r553.Rules.length) + 1) ER, .int .i64 r553.Done]] : List Value) = [.agg #[.int .i64 r553.Points, .bool r553.Monoid, .slice cu r553.Gens.length cv, .slice cz r553.Elems.length cE, .slice cj r553.Prefix.length ck, .slice c6 r553.Last.length db, .slice cF r553.Right.length cG, .slice EQ (((([] : List Rule)) ++ r553.Rules) ++ ([(⟨([97, 98] : Str), ([97] : Str)⟩ : Rule)])).length ER, .int .i64 r553.Done]] from by rw [← Xr]) (walk_ref12_Validate (e := (⟨r553.Points, r553.Monoid, r553.Gens, r553.Elems, r553.Prefix, r553.Last, r553.Right, ((([] : List Rule)) ++ r553.Rules) ++ ([(⟨([97, 98] : Str), ([97] : Str)⟩ : Rule)]), r553.Done⟩ : Enum)) hOc878.lt (ay.ch (Owns.dropCh _ _ 0)) (aj.ch (Owns.dropCh _ _ 0)) (ai.ch (Owns.dropCh _ _ 0)) (aA.ch (Owns.dropCh _ _ 0)) (al.ch (Owns.dropCh _ _ 0)) Xq H)) (fun v w hr => by obtain ⟨_, _, hs, _⟩ := hr; assumption) rfl rfl ?_
    rintro ajM ajN ⟨r879, rfl, Xs, H⟩
    have lL := Stp.same hO Xs
    replace hO := lL.own
    by_cases Ki : r870 = r879
    ·replace H := ifp Ki H
     refine GoQ.pure rfl (fun w => opB (op_eql rfl rfl w) (decide_eq_true Ki)) rfl rfl ?_
     refine GoQ.pure rfl (op_move rfl) rfl rfl ?_
     refine GoQ.call rfl (op_call body16 rfl (walk_law12_awake hO.lt H)) (fun v w hr => by obtain ⟨_, _, hs, _⟩ := hr; assumption) rfl rfl ?_
     rintro ajO ajP ⟨r886, rfl, Xt, H⟩
     have lM := Stp.same hO Xt
     replace hO := lM.own
     refine GoQ.pure rfl (op_pickT rfl rfl rfl) rfl rfl ?_
     refine GoQ.pure rfl (op_assign rfl) rfl rfl ?_
     refine GoQ.nil ?_
     refine Go1.ret1 Try.func4 rfl ?_
     replace hB := (((((((((((((((((hB.trans d5.fr).trans iE.fr).trans lE.fr).trans f9.fr).trans ig.fr).trans tH.fr).trans tI.fr).trans nk.fr).trans g6.fr).trans nU.fr).trans mv.fr).trans (Owns.dropFr _ _ 0)).trans mw.fr).trans lI.fr).trans lJ.fr).trans lK.fr).trans lL.fr).trans lM.fr
     exact ⟨r886, rfl, hB.same, H⟩
    replace H := ifn Ki H
    refine GoQ.pure rfl (fun w => opB (op_eql rfl rfl w) (decide_eq_false Ki)) rfl rfl ?_
    refine GoQ.pure rfl (op_move rfl) rfl rfl ?_
    refine GoQ.pass rfl rfl rfl ?_
    refine GoQ.pure rfl (op_pickF rfl rfl rfl) rfl rfl ?_
    refine GoQ.pure rfl (op_assign rfl) rfl rfl ?_
    refine GoQ.nil ?_
    refine Go1.ret1 Try.func4 rfl ?_
    replace hB := ((((((((((((((((hB.trans d5.fr).trans iE.fr).trans lE.fr).trans f9.fr).trans ig.fr).trans tH.fr).trans tI.fr).trans nk.fr).trans g6.fr).trans nU.fr).trans mv.fr).trans (Owns.dropFr _ _ 0)).trans mw.fr).trans lI.fr).trans lJ.fr).trans lK.fr).trans lL.fr
    exact ⟨false, rfl, hB.same, H⟩
   replace H := ifn Kh H
   refine zo (fun w => opB (op_eql rfl rfl w) (decide_eq_false Kh)) (za rfl (zn (zf rfl rfl (zq ?_))))
   refine Go1.cut [(6, .int .i64 a6), (15, .pointer (some ⟨B544, 0, none⟩)), (18, .int .i64 (((a5.tmod (r553.Elems.length : Int)) + (r553.Elems.length : Int)).tmod (r553.Elems.length : Int))), (64, .int .i64 (bits .and .i64 a4 (7 : Int)))] ⟨rfl, rfl, rfl, rfl, trivial⟩ ?_
   intro σ _
   refine zr ?_
   by_cases Kj : (bits .and .i64 a4 (7 : Int)) = (6 : Int)
   ·replace H := ifp Kj H
    refine zo (fun w => opB (op_eql rfl rfl w) (decide_eq_true Kj)) (za rfl (zn (zt rfl rfl (zr (zm rfl ?_)))))
    refine zo (op_fieldAddr Try.underlying29 rfl ti3 rfl (by decide)) ?_
    have hobt := oblkSt2 (v := .int .i64 a6) (i := 0) (cs' := #[.int .i64 a6, .bool r553.Monoid, .slice cu r553.Gens.length cv, .slice cz r553.Elems.length cE, .slice cj r553.Prefix.length ck, .slice c6 r553.Last.length db, .slice cF r553.Right.length cG, .slice cH r553.Rules.length cI, .int .i64 r553.Done]) 0 hO rfl rfl rfl rfl
    obtain ⟨ajQ, nV, QL⟩ := hobt
    refine zg (QL Try.underlying3 rfl ti3 (by exact rfl) (by exact rfl)) ?_
    replace hO := nV.own
    refine zn ?_
    refine Go1.inBlock ?_
    refine zq ?_
    refine Go1.drawS 0 [(0, .stable), (2, .stable), (1, .loud), (3, .loud), (4, .pure), (5, .pure), (6, .loud), (7, .pure), (8, .pure)] mixed (by kernel_rfl) ?_
    intro ajR Xu
    have nW := Stp.same hO Xu
    replace hO := nW.own
    refine GoQ.stable rfl (oblkAgg (vs := [.int .i64 a6, .bool r553.Monoid, .slice cu r553.Gens.length cv, .slice cz r553.Elems.length cE, .slice cj r553.Prefix.length ck, .slice c6 r553.Last.length db, .slice cF r553.Right.length cG, .slice cH r553.Rules.length cI, .int .i64 r553.Done]) (i := 0) 0 hO rfl rfl Try.underlying29 rfl ti29 rfl) rfl rfl ?_
    refine GoQ.stable rfl (oblkAgg (vs := [.int .i64 a6, .bool r553.Monoid, .slice cu r553.Gens.length cv, .slice cz r553.Elems.length cE, .slice cj r553.Prefix.length ck, .slice c6 r553.Last.length db, .slice cF r553.Right.length cG, .slice cH r553.Rules.length cI, .int .i64 r553.Done]) (i := 0) 0 hO rfl rfl Try.underlying29 rfl ti29 rfl) rfl rfl ?_
    replace aj := (aj.ch nV.ch).ch nW.ch
    have Z34 := (nk.ch.trans nV.ch).trans nW.ch
    replace ay := ay.ch Z34
    replace ai := ai.ch Z34
    replace aA := aA.ch Z34
    replace al := al.ch Z34
    replace ao := ao.ch Z34
    refine GoQ.call rfl (op_call body20 rfl (walk_enumerate_Validate (e := (⟨a6, r553.Monoid, r553.Gens, r553.Elems, r553.Prefix, r553.Last, r553.Right, r553.Rules, r553.Done⟩ : Enum)) hO.lt ay aj ai aA al ao H)) (fun v w hr => by obtain ⟨_, _, hs, _⟩ := hr; assumption) rfl rfl ?_
    rintro ajS ajT ⟨r899, rfl, Xv, H⟩
    have nX := Stp.same hO Xv
    replace hO := nX.own
    replace ay := ay.ch nX.ch
    replace aj := aj.ch nX.ch
    replace ai := ai.ch nX.ch
    replace aA := aA.ch nX.ch
    replace al := al.ch nX.ch
    replace ao := ao.ch nX.ch
    refine GoQ.call rfl (op_call body21 rfl (walk_ref12_Validate (e := (⟨a6, r553.Monoid, r553.Gens, r553.Elems, r553.Prefix, r553.Last, r553.Right, r553.Rules, r553.Done⟩ : Enum)) hO.lt ay aj ai aA al ao H)) (fun v w hr => by obtain ⟨_, _, hs, _⟩ := hr; assumption) rfl rfl ?_
    rintro ajU ajV ⟨r905, rfl, Xw, H⟩
    have nY := Stp.same hO Xw
    replace hO := nY.own
    by_cases Kk : r899 = r905
    ·replace H := ifp Kk H
     refine GoQ.pure rfl (fun w => opB (op_eql rfl rfl w) (decide_eq_true Kk)) rfl rfl ?_
     refine GoQ.pure rfl (op_move rfl) rfl rfl ?_
     refine GoQ.call rfl (op_call body16 rfl (walk_law12_awake hO.lt H)) (fun v w hr => by obtain ⟨_, _, hs, _⟩ := hr; assumption) rfl rfl ?_
     rintro ajW ajX ⟨r912, rfl, Xx, H⟩
     have n7 := Stp.same hO Xx
     replace hO := n7.own
     refine GoQ.pure rfl (op_pickT rfl rfl rfl) rfl rfl ?_
     refine GoQ.pure rfl (op_assign rfl) rfl rfl ?_
     refine GoQ.nil ?_
     refine Go1.ret1 Try.func4 rfl ?_
     replace hB := ((((((((((((hB.trans d5.fr).trans iE.fr).trans lE.fr).trans f9.fr).trans ig.fr).trans tH.fr).trans tI.fr).trans nk.fr).trans nV.fr).trans nW.fr).trans nX.fr).trans nY.fr).trans n7.fr
     exact ⟨r912, rfl, hB.same, H⟩
    replace H := ifn Kk H
    refine GoQ.pure rfl (fun w => opB (op_eql rfl rfl w) (decide_eq_false Kk)) rfl rfl ?_
    refine GoQ.pure rfl (op_move rfl) rfl rfl ?_
    refine GoQ.pass rfl rfl rfl ?_
    refine GoQ.pure rfl (op_pickF rfl rfl rfl) rfl rfl ?_
    refine GoQ.pure rfl (op_assign rfl) rfl rfl ?_
    refine GoQ.nil ?_
    refine Go1.ret1 Try.func4 rfl ?_
    replace hB := (((((((((((hB.trans d5.fr).trans iE.fr).trans lE.fr).trans f9.fr).trans ig.fr).trans tH.fr).trans tI.fr).trans nk.fr).trans nV.fr).trans nW.fr).trans nX.fr).trans nY.fr
    exact ⟨false, rfl, hB.same, H⟩
   replace H := ifn Kj H
   refine zo (fun w => opB (op_eql rfl rfl w) (decide_eq_false Kj)) (za rfl (zn (zf rfl rfl ?_)))
   refine Go1.cut [(15, .pointer (some ⟨B544, 0, none⟩)), (18, .int .i64 (((a5.tmod (r553.Elems.length : Int)) + (r553.Elems.length : Int)).tmod (r553.Elems.length : Int)))] ⟨rfl, rfl, trivial⟩ ?_
   intro σ _
   refine Go1.drawA (CSv.tr [(some ⟨B544, 3, none⟩), (padd cz ((((a5.tmod (r553.Elems.length : Int)) + (r553.Elems.length : Int)).tmod (r553.Elems.length : Int)).toNat * (Rp.sl (Rp.int .i64)).sz + 0))]) A 1 [(1, .pure), (2, .stable), (4, .pure), (5, .stable), (6, .pure), (7, .pure), (8, .stable), (0, .alloc), (3, .loud), (9, .alloc), (10, .loud), (11, .pure), (12, .last)] mixed (by kernel_rfl) trivial hO.bd ?_
   intro ajY Xy
   have n9 := Stp.same hO Xy
   replace hO := n9.own
   have MM := hO.le
   replace hB := ((((((((hB.trans d5.fr).trans iE.fr).trans lE.fr).trans f9.fr).trans ig.fr).trans tH.fr).trans tI.fr).trans nk.fr).trans n9.fr
   have hw921 := hB.ch.size
   refine GoQA.pure rfl (op_fieldAddr Try.underlying29 rfl ti22 rfl (by decide)) rfl rfl ?_
   refine GoQA.stable rfl (loadV (.head _) rfl (blkCell 0 hO rfl rfl) Try.underlying22 rfl rfl) rfl rfl ?_
   refine GoQA.pure rfl (op_fieldAddr Try.underlying29 rfl ti22 rfl (by decide)) rfl rfl ?_
   refine GoQA.stable rfl (loadV (.head _) rfl (blkCell 0 hO rfl rfl) Try.underlying22 rfl rfl) rfl rfl ?_
   refine GoQA.pure rfl (op_move rfl) rfl rfl ?_
   obtain ⟨GO, H⟩ := H
   obtain ⟨GP, H⟩ := H
   replace aj := aj.ch n9.ch
   refine GoQA.pure rfl (op_index Try.underlying22 ti26 rfl rfl GO GP (aj.some_ GO GP)) rfl rfl ?_
   have hobt := ldSlC aj GO GP
   obtain ⟨GQ, GR, Xz, jj⟩ := hobt
   refine GoQA.stable rfl (loadV (.tail _ (.head _)) (padd_some (aj.some_ GO GP)) Xz Try.underlying26 rfl rfl) rfl rfl ?_
   refine GoQA.alloc rfl rfl (alBuild (n := 0) (parts := []) (vs := []) Try.underlying22 ti26 (by decide) (by decide) (by decide) (by kernel_rfl) rfl rfl) ?_
   intro QM A931 QO A933 qC MN hd936 hnb937 hh938
   replace hO := qC.own hO
   have Gk : Els (Rp.sl (Rp.int .i64)) (bl [.blk B544 (.cells #[.int .i64 r553.Points, .bool r553.Monoid, .slice cu r553.Gens.length cv, .slice cz r553.Elems.length cE, .slice cj r553.Prefix.length ck, .slice c6 r553.Last.length db, .slice cF r553.Right.length cG, .slice cH r553.Rules.length cI, .int .i64 r553.Done] 29 (0, 0)), .blk B2 (.cells #[.int .i64 a0.Points, .bool a0.Monoid, .slice aS a0.Gens.length aT, .slice bY a0.Elems.length b5, .slice bI a0.Prefix.length bK, .slice co a0.Last.length cp, .slice b6 a0.Right.length b7, .slice b8 a0.Rules.length b9, .int .i64 a0.Done] 29 (0, 0))] ++ A931) QM [] (([] : List (List Int))) := (Els.nil _ _ _)
   have rm := gainCh (w := QM) (E := [.blk B544 (.cells #[.int .i64 r553.Points, .bool r553.Monoid, .slice cu r553.Gens.length cv, .slice cz r553.Elems.length cE, .slice cj r553.Prefix.length ck, .slice c6 r553.Last.length db, .slice cF r553.Right.length cG, .slice cH r553.Rules.length cI, .int .i64 r553.Done] 29 (0, 0)), .blk B2 (.cells #[.int .i64 a0.Points, .bool a0.Monoid, .slice aS a0.Gens.length aT, .slice bY a0.Elems.length b5, .slice bI a0.Prefix.length bK, .slice co a0.Last.length cp, .slice b6 a0.Right.length b7, .slice b8 a0.Rules.length b9, .int .i64 a0.Done] 29 (0, 0))]) (e := .row 26 1 (some ⟨QO, 0, none⟩) 0 0 []) MN rfl
   replace hB := hB.trans (qC.same.fr _)
   replace hB := Fr.gain (e := .row 26 1 (some ⟨QO, 0, none⟩) 0 0 []) hB (Nat.le_trans hw921 hnb937) rfl
   replace hO := Owns.gain hO MN MM rfl hh938 hd936
   refine GoQA.loudI rfl rfl ?_
   intro aj0 A942 qm
   replace hO := qm.own hO
   obtain ⟨acd, H⟩ := H
   replace Gk := (Gk.ch rm).ch (qm.ch _)
   have Z35 := ((qC.ch _).trans rm).trans (qm.ch _)
   replace aj := aj.ch Z35
   have hobt := oapp Try.underlying22 ti26 rfl 0 hO rfl Gk aj rfl acd (by decide)
   obtain ⟨aj1, QP, QQ, MO, kA, Bo, QR⟩ := hobt
   refine GoAt.step (QR (by exact rfl) (by exact rfl)) (fun _ => (CSv.cons (cs_eq (blkCell 1 hO rfl rfl) (blkCell 1 kA.own rfl rfl)) (CSv.cons (ISl.csk aj GO GP kA.ch) (CSv.nil _ _)))) (Stp.kp hO kA) rfl ?_
   replace hO := kA.own
   refine GoQA.alloc rfl rfl (alBuild (n := 1) (parts := [(0, .slice GQ (((ix r553.Elems (((a5.tmod (r553.Elems.length : Int)) + (r553.Elems.length : Int)).tmod (r553.Elems.length : Int)))).length) GR)]) (vs := [.slice GQ (((ix r553.Elems (((a5.tmod (r553.Elems.length : Int)) + (r553.Elems.length : Int)).tmod (r553.Elems.length : Int)))).length) GR]) Try.underlying22 ti26 (by decide) (by decide) (by decide) (by kernel_rfl) rfl rfl) ?_
   intro QS A955 QT A957 qn MP hd960 hnb961 hh962
   replace hO := qn.own hO
   replace jj := ((jj.ch Z35).ch kA.ch).ch (qn.ch _)
   have Gl : Els (Rp.sl (Rp.int .i64)) (bl [.row 26 1 QP (0 + r553.Elems.length) QQ MO, .blk B544 (.cells #[.int .i64 r553.Points, .bool r553.Monoid, .slice cu r553.Gens.length cv, .slice cz r553.Elems.length cE, .slice cj r553.Prefix.length ck, .slice c6 r553.Last.length db, .slice cF r553.Right.length cG, .slice cH r553.Rules.length cI, .int .i64 r553.Done] 29 (0, 0)), .blk B2 (.cells #[.int .i64 a0.Points, .bool a0.Monoid, .slice aS a0.Gens.length aT, .slice bY a0.Elems.length b5, .slice bI a0.Prefix.length bK, .slice co a0.Last.length cp, .slice b6 a0.Right.length b7, .slice b8 a0.Rules.length b9, .int .i64 a0.Done] 29 (0, 0))] ++ A955) QS [.slice GQ (((ix r553.Elems (((a5.tmod (r553.Elems.length : Int)) + (r553.Elems.length : Int)).tmod (r553.Elems.length : Int)))).length) GR] [(ix r553.Elems (((a5.tmod (r553.Elems.length : Int)) + (r553.Elems.length : Int)).tmod (r553.Elems.length : Int)))] := (Els.cons rfl ⟨GQ, GR, rfl, jj⟩ (Els.nil _ _ _) (by simp [mx]))
   have qD := gainCh (w := QS) (E := [.row 26 1 QP (0 + r553.Elems.length) QQ MO, .blk B544 (.cells #[.int .i64 r553.Points, .bool r553.Monoid, .slice cu r553.Gens.length cv, .slice cz r553.Elems.length cE, .slice cj r553.Prefix.length ck, .slice c6 r553.Last.length db, .slice cF r553.Right.length cG, .slice cH r553.Rules.length cI, .int .i64 r553.Done] 29 (0, 0)), .blk B2 (.cells #[.int .i64 a0.Points, .bool a0.Monoid, .slice aS a0.Gens.length aT, .slice bY a0.Elems.length b5, .slice bI a0.Prefix.length bK, .slice co a0.Last.length cp, .slice b6 a0.Right.length b7, .slice b8 a0.Rules.length b9, .int .i64 a0.Done] 29 (0, 0))]) (e := .row 26 1 (some ⟨QT, 0, none⟩) 1 1 [.slice GQ (((ix r553.Elems (((a5.tmod (r553.Elems.length : Int)) + (r553.Elems.length : Int)).tmod (r553.Elems.length : Int)))).length) GR]) MP rfl
   replace hB := ((hB.trans (qm.same.fr _)).trans kA.fr).trans (qn.same.fr _)
   replace hB := Fr.gain (e := .row 26 1 (some ⟨QT, 0, none⟩) 1 1 [.slice GQ (((ix r553.Elems (((a5.tmod (r553.Elems.length : Int)) + (r553.Elems.length : Int)).tmod (r553.Elems.length : Int)))).length) GR]) hB (Nat.le_trans hw921 hnb961) rfl
   replace hO := Owns.gain hO MP MM rfl hh962 hd960
   refine GoQA.loudI rfl rfl ?_
   intro aj2 A966 o3
   replace hO := o3.own hO
   replace Gl := (Gl.ch qD).ch (o3.ch _)
   have hobt := freeze 0 hO rfl Gl
   obtain ⟨hO1, ro, sR, XA⟩ := hobt
   replace hO := hO1; clear hO1
   obtain ⟨ace, H⟩ := H
   have Z36 := (((qn.ch _).trans qD).trans (o3.ch _)).trans ro
   replace Bo := Bo.ch Z36
   have hobt := oapp Try.underlying22 ti26 rfl 0 hO rfl Bo sR XA ace (by decide)
   obtain ⟨aj3, ES, ET, adv, kd, tS, QU⟩ := hobt
   have Z37 := (((kA.ch.trans (qn.ch _)).trans qD).trans (o3.ch _)).trans ro
   replace aj := aj.ch Z37
   refine GoAt.step (QU (by exact rfl) (by exact rfl)) (fun _ => (CSv.cons (cs_eq (blkCell 1 hO rfl rfl) (blkCell 1 kd.own rfl rfl)) (CSv.cons (ISl.csk aj GO GP kd.ch) (CSv.nil _ _)))) (Stp.kp hO kd) rfl ?_
   replace hO := kd.own
   refine GoQA.pure rfl (op_fieldAddr Try.underlying29 rfl ti22 rfl (by decide)) rfl rfl ?_
   refine GoQA.lastI rfl rfl ?_
   intro aj4 A981 o4
   replace hO := o4.own hO
   have hobt := oblkSt2 (v := .slice ES ((0 + r553.Elems.length) + 1) ET) (i := 3) (cs' := #[.int .i64 r553.Points, .bool r553.Monoid, .slice cu r553.Gens.length cv, .slice ES ((0 + r553.Elems.length) + 1) ET, .slice cj r553.Prefix.length ck, .slice c6 r553.Last.length db, .slice cF r553.Right.length cG, .slice cH r553.Rules.length cI, .int .i64 r553.Done]) 1 hO rfl rfl rfl rfl
   obtain ⟨aj5, kB, QV⟩ := hobt
   refine GoAt.step (QV Try.underlying22 rfl ti22 (by exact rfl) (by exact rfl)) (fun h => nomatch h) (Stp.kp hO kB) rfl ?_
   replace hO := kB.own
   refine GoQA.nil ?_
   intro aj6 A987 o5 qo
   replace hO := o5.own hO
   replace hO := hO.permA qo
   refine Go1.inBlock ?_
   refine zq ?_
   refine Go1.cut [(15, .pointer (some ⟨B544, 0, none⟩))] ⟨rfl, trivial⟩ ?_
   intro σ _
   refine Go1.drawS 0 [(0, .stable), (2, .stable), (1, .loud), (3, .loud), (4, .pure), (5, .pure), (6, .loud), (7, .pure), (8, .pure)] mixed (by kernel_rfl) ?_
   intro aj7 XB
   have kV := Stp.same hO XB
   replace hO := kV.own
   refine GoQ.stable rfl (oblkAgg (vs := [.int .i64 r553.Points, .bool r553.Monoid, .slice cu r553.Gens.length cv, .slice ES ((0 + r553.Elems.length) + 1) ET, .slice cj r553.Prefix.length ck, .slice c6 r553.Last.length db, .slice cF r553.Right.length cG, .slice cH r553.Rules.length cI, .int .i64 r553.Done]) (i := 0) 1 hO rfl rfl Try.underlying29 rfl ti29 rfl) rfl rfl ?_
   refine GoQ.stable rfl (oblkAgg (vs := [.int .i64 r553.Points, .bool r553.Monoid, .slice cu r553.Gens.length cv, .slice ES ((0 + r553.Elems.length) + 1) ET, .slice cj r553.Prefix.length ck, .slice c6 r553.Last.length db, .slice cF r553.Right.length cG, .slice cH r553.Rules.length cI, .int .i64 r553.Done]) (i := 0) 1 hO rfl rfl Try.underlying29 rfl ti29 rfl) rfl rfl ?_
   have Z38 := ((((o4.ch _).trans kB.ch).trans (o5.ch _)).trans (permCh qo _)).trans kV.ch
   replace tS := tS.ch Z38
   have hobt := rowlend 0 hO rfl tS
   obtain ⟨XC, XD⟩ := hobt
   have hOc995 := hO.drop 0
   have Z39 := ((((((((((((((nk.ch.trans n9.ch).trans (qC.ch _)).trans rm).trans (qm.ch _)).trans kA.ch).trans (qn.ch _)).trans qD).trans (o3.ch _)).trans ro).trans kd.ch).trans (o4.ch _)).trans kB.ch).trans (o5.ch _)).trans (permCh qo _)).trans kV.ch
   replace ay := ay.ch Z39
   replace ai := ai.ch Z39
   replace aA := aA.ch Z39
   replace al := al.ch Z39
   replace ao := ao.ch Z39
   refine GoQ.call rfl (op_call body20 (show ([.agg #[.int .i64 r553.Points, .bool r553.Monoid, .slice cu r553.Gens.length cv, .slice ES ((0 + r553.Elems.length) + 1) ET, .slice cj r553.Prefix.length ck, .slice c6 r553.Last.length db, .slice cF r553.Right.length cG, .slice cH r553.Rules.length cI, .int .i64 r553.Done]] : List Value) = [.agg #[.int .i64 r553.Points, .bool r553.Monoid, .slice cu r553.Gens.length cv, .slice ES (((([] : List (List Int))) ++ r553.Elems) ++ ([(ix r553.Elems (((a5.tmod (r553.Elems.length : Int)) + (r553.Elems.length : Int)).tmod (r553.Elems.length : Int)))])).length ET, .slice cj r553.Prefix.length ck, .slice c6 r553.Last.length db, .slice cF r553.Right.length cG, .slice cH r553.Rules.length cI, .int .i64 r553.Done]] from by rw [← XD]) (walk_enumerate_Validate (e := (⟨r553.Points, r553.Monoid, r553.Gens, ((([] : List (List Int))) ++ r553.Elems) ++ ([(ix r553.Elems (((a5.tmod (r553.Elems.length : Int)) + (r553.Elems.length : Int)).tmod (r553.Elems.length : Int)))]), r553.Prefix, r553.Last, r553.Right, r553.Rules, r553.Done⟩ : Enum)) hOc995.lt (ay.ch (Owns.dropCh _ _ 0)) XC (ai.ch (Owns.dropCh _ _ 0)) (aA.ch (Owns.dropCh _ _ 0)) (al.ch (Owns.dropCh _ _ 0)) (ao.ch (Owns.dropCh _ _ 0)) H)) (fun v w hr => by obtain ⟨_, _, hs, _⟩ := hr; assumption) rfl rfl ?_
   rintro adw aj8 ⟨r996, rfl, XE, H⟩
   have jr := Stp.same hO XE
   replace hO := jr.own
   replace tS := tS.ch jr.ch
   have hobt := rowlend 0 hO rfl tS
   obtain ⟨QW, QX⟩ := hobt
   have hOc1004 := hO.drop 0
   replace ay := ay.ch jr.ch
   replace ai := ai.ch jr.ch
   replace aA := aA.ch jr.ch
   replace al := al.ch jr.ch
   replace ao := ao.ch jr.ch
   refine GoQ.call rfl (op_call body21 (show ([.agg #[.int .i64 r553.Points, .bool r553.Monoid, .slice cu r553.Gens.length cv, .slice ES ((0 + r553.Elems.length) + 1) ET, .slice cj r553.Prefix.length ck, .slice c6 r553.Last.length db, .slice cF r553.Right.length cG, .slice cH r553.Rules.length cI, .int .i64 r553.Done]] : List Value) = [.agg #[.int .i64 r553.Points, .bool r553.Monoid, .slice cu r553.Gens.length cv, .slice ES (((([] : List (List Int))) ++ r553.Elems) ++ ([(ix r553.Elems (((a5.tmod (r553.Elems.length : Int)) + (r553.Elems.length : Int)).tmod (r553.Elems.length : Int)))])).length ET, .slice cj r553.Prefix.length ck, .slice c6 r553.Last.length db, .slice cF r553.Right.length cG, .slice cH r553.Rules.length cI, .int .i64 r553.Done]] from by rw [← QX]) (walk_ref12_Validate (e := (⟨r553.Points, r553.Monoid, r553.Gens, ((([] : List (List Int))) ++ r553.Elems) ++ ([(ix r553.Elems (((a5.tmod (r553.Elems.length : Int)) + (r553.Elems.length : Int)).tmod (r553.Elems.length : Int)))]), r553.Prefix, r553.Last, r553.Right, r553.Rules, r553.Done⟩ : Enum)) hOc1004.lt (ay.ch (Owns.dropCh _ _ 0)) QW (ai.ch (Owns.dropCh _ _ 0)) (aA.ch (Owns.dropCh _ _ 0)) (al.ch (Owns.dropCh _ _ 0)) (ao.ch (Owns.dropCh _ _ 0)) H)) (fun v w hr => by obtain ⟨_, _, hs, _⟩ := hr; assumption) rfl rfl ?_
   rintro adx ady ⟨r1005, rfl, QY, H⟩
   have jt := Stp.same hO QY
   replace hO := jt.own
   by_cases Ho : r996 = r1005
   ·replace H := ifp Ho H
    refine GoQ.pure rfl (fun w => opB (op_eql rfl rfl w) (decide_eq_true Ho)) rfl rfl ?_
    refine GoQ.pure rfl (op_move rfl) rfl rfl ?_
    refine GoQ.call rfl (op_call body16 rfl (walk_law12_awake hO.lt H)) (fun v w hr => by obtain ⟨_, _, hs, _⟩ := hr; assumption) rfl rfl ?_
    rintro adz adA ⟨r1012, rfl, Q0, H⟩
    have ju := Stp.same hO Q0
    replace hO := ju.own
    refine GoQ.pure rfl (op_pickT rfl rfl rfl) rfl rfl ?_
    refine GoQ.pure rfl (op_assign rfl) rfl rfl ?_
    refine GoQ.nil ?_
    refine Go1.ret1 Try.func4 rfl ?_
    replace hB := (((((((((hB.trans (o3.same.fr _)).trans (Owns.dropFr _ _ 0)).trans kd.fr).trans (o4.same.fr _)).trans kB.fr).trans (o5.same.fr _)).trans kV.fr).trans jr.fr).trans jt.fr).trans ju.fr
    exact ⟨r1012, rfl, hB.same, H⟩
   replace H := ifn Ho H
   refine GoQ.pure rfl (fun w => opB (op_eql rfl rfl w) (decide_eq_false Ho)) rfl rfl ?_
   refine GoQ.pure rfl (op_move rfl) rfl rfl ?_
   refine GoQ.pass rfl rfl rfl ?_
   refine GoQ.pure rfl (op_pickF rfl rfl rfl) rfl rfl ?_
   refine GoQ.pure rfl (op_assign rfl) rfl rfl ?_
   refine GoQ.nil ?_
   refine Go1.ret1 Try.func4 rfl ?_
   replace hB := ((((((((hB.trans (o3.same.fr _)).trans (Owns.dropFr _ _ 0)).trans kd.fr).trans (o4.same.fr _)).trans kB.fr).trans (o5.same.fr _)).trans kV.fr).trans jr.fr).trans jt.fr
   exact ⟨false, rfl, hB.same, H⟩
  replace H := ifn J4 H
  refine zo (fun w => opB (op_neq rfl rfl w) (ndF J4)) (zn (zt rfl rfl (zq (zr ?_))))
  refine GoR.call (op_call body16 rfl (walk_law12_awake hO.lt H)) rfl rfl ?_
  rintro adB adC ⟨r1018, rfl, Q1, H⟩
  have kI := Stp.same hO Q1
  replace hO := kI.own
  refine za rfl (zn ?_)
  refine Go1.ret1 Try.func4 rfl ?_
  replace hB := ((((((((hB.trans d5.fr).trans iE.fr).trans lE.fr).trans f9.fr).trans ig.fr).trans tH.fr).trans tI.fr).trans nk.fr).trans kI.fr
  exact ⟨r1018, rfl, hB.same, H⟩
 replace H := ifn DK H
 refine zo (fun w => opB (op_neq rfl rfl w) (ndF DK)) (zn (zt rfl rfl (zq (zr (za rfl ?_)))))
 refine zn ?_
 refine Go1.ret1 Try.func4 rfl ?_
 replace hB := (((((hB.trans d5.fr).trans iE.fr).trans lE.fr).trans f9.fr).trans ig.fr).trans tH.fr
 exact ⟨false, rfl, hB.same, H⟩
end Sg
