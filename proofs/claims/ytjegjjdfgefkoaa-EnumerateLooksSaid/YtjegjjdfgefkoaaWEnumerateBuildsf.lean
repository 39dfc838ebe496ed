/- The walks: each call keeps to its plain transformer. Printed by walkgen.py. -/
import Derived.Test.YtjegjjdfgefkoaaTi
import Derived.Test.YtjegjjdfgefkoaaWEnumerateBuildsc
import Derived.Test.YtjegjjdfgefkoaaWEnumerateBuildse
import Derived.Test.YtjegjjdfgefkoaaAl
namespace Sg
open Go Go.RowKit Go.Proofs
set_option linter.unusedVariables false
set_option linter.unusedSimpArgs false
set_option maxRecDepth 100000
set_option maxHeartbeats 4000000
theorem body19 : Body Try.prog 19 := ⟨Try.f19, Try.func19, rfl, by kernel_rfl⟩
theorem walk_ref12_Same {A : List Nat} {w0 : World} {bQ : Option Addr} {bS : Nat} {dj : Option Addr} {dk : Nat} {cT : Option Addr} {cU : Nat} {dD : Option Addr} {dE : Nat} {dl : Option Addr} {dm : Nat} {dn : Option Addr} {dp : Nat} {fD : Option Addr} {fE : Nat} {fk : Option Addr} {fm : Nat} {eH : Option Addr} {eI : Nat} {fF : Option Addr} {fG : Nat} {fo : Option Addr} {fq : Nat} {ft : Option Addr} {fu : Nat} {a0 : Enum} {a1 : Enum} (hA : ∀ b ∈ A, b < w0.heap.size) (aJ : ISl (Rp.sl (Rp.int .i64)) A w0 bQ bS a0.Gens) (bO : ISl (Rp.sl (Rp.int .i64)) A w0 dj dk a0.Elems) (bw : ISl (Rp.int .i64) A w0 cT cU a0.Prefix) (b6 : ISl (Rp.int .i64) A w0 dD dE a0.Last) (bP : ISl (Rp.sl (Rp.int .i64)) A w0 dl dm a0.Right) (bx : ISl (rpRule) A w0 dn dp a0.Rules) (fv : ISl (Rp.sl (Rp.int .i64)) A w0 fD fE a1.Gens) (eV : ISl (Rp.sl (Rp.int .i64)) A w0 fk fm a1.Elems) (dY : ISl (Rp.int .i64) A w0 eH eI a1.Prefix) (fw : ISl (Rp.int .i64) A w0 fF fG a1.Last) (eW : ISl (Rp.sl (Rp.int .i64)) A w0 fo fq a1.Right) (dS : ISl (rpRule) A w0 ft fu a1.Rules) {K : Bool → Prop} (H : ref12_Same a0 a1 K) :
    CallsV Try.prog 19 #[.agg #[.int .i64 a0.Points, .bool a0.Monoid, .slice bQ a0.Gens.length bS, .slice dj a0.Elems.length dk, .slice cT a0.Prefix.length cU, .slice dD a0.Last.length dE, .slice dl a0.Right.length dm, .slice dn a0.Rules.length dp, .int .i64 a0.Done], .agg #[.int .i64 a1.Points, .bool a1.Monoid, .slice fD a1.Gens.length fE, .slice fk a1.Elems.length fm, .slice eH a1.Prefix.length eI, .slice fF a1.Last.length fG, .slice fo a1.Right.length fq, .slice ft a1.Rules.length fu, .int .i64 a1.Done]] w0 (fun v w' => ∃ (r0 : Bool), v = .bool r0 ∧ Same w0 w' ∧ K r0) := by
 refine CallsV.of (l := [.agg #[.int .i64 a0.Points, .bool a0.Monoid, .slice bQ a0.Gens.length bS, .slice dj a0.Elems.length dk, .slice cT a0.Prefix.length cU, .slice dD a0.Last.length dE, .slice dl a0.Right.length dm, .slice dn a0.Rules.length dp, .int .i64 a0.Done], .agg #[.int .i64 a1.Points, .bool a1.Monoid, .slice fD a1.Gens.length fE, .slice fk a1.Elems.length fm, .slice eH a1.Prefix.length eI, .slice fF a1.Last.length fG, .slice fo a1.Right.length fq, .slice ft a1.Rules.length fu, .int .i64 a1.Done]]) Try.func19 rfl Try.ntmps19 rfl ?_
 have hO := Owns.start hA
 have hB := Fr.refl (bl []) w0
 unfold ref12_Same at H
 refine zq (zr ?_)
 have hobt := obox (t := 29) (v := .agg #[.int .i64 a0.Points, .bool a0.Monoid, .slice bQ a0.Gens.length bS, .slice dj a0.Elems.length dk, .slice cT a0.Prefix.length cU, .slice dD a0.Last.length dE, .slice dl a0.Right.length dm, .slice dn a0.Rules.length dp, .int .i64 a0.Done]) (cs := #[.int .i64 a0.Points, .bool a0.Monoid, .slice bQ a0.Gens.length bS, .slice dj a0.Elems.length dk, .slice cT a0.Prefix.length cU, .slice dD a0.Last.length dE, .slice dl a0.Right.length dm, .slice dn a0.Rules.length dp, .int .i64 a0.Done]) hO rfl
 obtain ⟨w1, B2, dI, hs4, qb⟩ := hobt
 refine zg (qb rfl) ?_
 replace hO := dI.own
 have hobt := obox (t := 29) (v := .agg #[.int .i64 a1.Points, .bool a1.Monoid, .slice fD a1.Gens.length fE, .slice fk a1.Elems.length fm, .slice eH a1.Prefix.length eI, .slice fF a1.Last.length fG, .slice fo a1.Right.length fq, .slice ft a1.Rules.length fu, .int .i64 a1.Done]) (cs := #[.int .i64 a1.Points, .bool a1.Monoid, .slice fD a1.Gens.length fE, .slice fk a1.Elems.length fm, .slice eH a1.Prefix.length eI, .slice fF a1.Last.length fG, .slice fo a1.Right.length fq, .slice ft a1.Rules.length fu, .int .i64 a1.Done]) hO rfl
 obtain ⟨w7, B8, kV, FD, BI⟩ := hobt
 refine zg (BI rfl) ?_
 replace hO := kV.own
 refine za rfl (zn (zq (zq (zr (zo (op_fieldAddr Try.underlying29 rfl ti3 rfl (by decide)) ?_)))))
 refine zs (oblk (i := 0) 1 hO rfl rfl Try.underlying3 rfl rfl) (zo (op_fieldAddr Try.underlying29 rfl ti3 rfl (by decide)) (zs (oblk (i := 0) 0 hO rfl rfl Try.underlying3 rfl rfl) ?_))
 by_cases h13 : a0.Points = a1.Points
 ·replace H := ifp h13 H
  refine zo (fun w => opB (op_neq rfl rfl w) (ndT h13)) (zm rfl (zo (op_fieldAddr Try.underlying29 rfl ti4 rfl (by decide)) ?_))
  by_cases h14 : a0.Monoid = true
  ·replace H := ifp h14 H
   refine zg (opB ((oblk (i := 1) 1 hO rfl rfl Try.underlying4 rfl rfl) _ (Same.refl _)) (h14)) (zo (op_fieldAddr Try.underlying29 rfl ti4 rfl (by decide)) ?_)
   by_cases h15 : a1.Monoid = true
   ·replace H := ifp h15 H
    refine zg (opB ((oblk (i := 1) 0 hO rfl rfl Try.underlying4 rfl rfl) _ (Same.refl _)) (h15)) (zo (op_neqB Try.underlying4 rfl rfl) (zo (op_pickF rfl rfl rfl) (zm rfl (zo (op_fieldAddr Try.underlying29 rfl ti3 rfl (by decide)) (zs (oblk (i := 8) 1 hO rfl rfl Try.underlying3 rfl rfl) ?_)))))
    refine zo (op_fieldAddr Try.underlying29 rfl ti3 rfl (by decide)) (zs (oblk (i := 8) 0 hO rfl rfl Try.underlying3 rfl rfl) ?_)
    by_cases h16 : a0.Done = a1.Done
    ·replace H := ifp h16 H
     refine zo (fun w => opB (op_neq rfl rfl w) (ndT h16)) (zo (op_pickF rfl rfl rfl) (zm rfl (zo (op_fieldAddr Try.underlying29 rfl ti22 rfl (by decide)) (zs (oblk (i := 2) 1 hO rfl rfl Try.underlying22 rfl rfl) (zo (op_fieldAddr Try.underlying29 rfl ti22 rfl (by decide)) ?_)))))
     refine zs (oblk (i := 2) 0 hO rfl rfl Try.underlying22 rfl rfl) ?_
     have Z1 := ((Ch.start A w0).trans dI.ch).trans kV.ch
     replace aJ := aJ.ch Z1
     replace fv := fv.ch Z1
     refine GoR.call (op_call body45 rfl (walk_ref03_SameRows hO.lt aJ fv H)) rfl rfl ?_
     rintro v21 w18 ⟨r17, rfl, EQ, H⟩
     have eK := Stp.same hO EQ
     replace hO := eK.own
     cases r17
     ·replace H := ifn Bool.false_ne_true H
      refine zo (op_not rfl) (zo (op_pickF rfl rfl rfl) (zm rfl (zp (zp (zp ?_)))))
      refine zp (zp (zp (zo (op_pickT rfl rfl rfl) (zm rfl (zp ?_)))))
      refine zp (zp (zp (zp (zp (zo (op_pickT rfl rfl rfl) ?_)))))
      refine zm rfl (zp (zp (zp (zp (zp ?_)))))
      refine zp (zo (op_pickT rfl rfl rfl) (zm rfl (zp (zp (zp ?_)))))
      refine zp (zp (zp (zo (op_pickT rfl rfl rfl) (zm rfl (zp ?_)))))
      refine zp (zp (zp (zp (zp (zp ?_)))))
      refine zo (op_pickT rfl rfl rfl) (zn (zt rfl rfl (zq ?_)))
      refine Go1.cut [] trivial ?_
      intro σ _
      refine zr (za rfl (zn ?_))
      refine Go1.ret1 Try.func19 rfl ?_
      replace hB := ((hB.trans dI.fr).trans kV.fr).trans eK.fr
      exact ⟨false, rfl, hB.same, H⟩
     replace H := ifp rfl H
     refine zo (op_not rfl) (zo (op_pickF rfl rfl rfl) (zm rfl (zo (op_fieldAddr Try.underlying29 rfl ti22 rfl (by decide)) (zs (oblk (i := 3) 1 hO rfl rfl Try.underlying22 rfl rfl) (zo (op_fieldAddr Try.underlying29 rfl ti22 rfl (by decide)) ?_)))))
     refine zs (oblk (i := 3) 0 hO rfl rfl Try.underlying22 rfl rfl) ?_
     have Z2 := Z1.trans eK.ch
     replace bO := bO.ch Z2
     replace eV := eV.ch Z2
     refine GoR.call (op_call body45 rfl (walk_ref03_SameRows hO.lt bO eV H)) rfl rfl ?_
     rintro v27 w24 ⟨r23, rfl, CM, H⟩
     have gY := Stp.same hO CM
     replace hO := gY.own
     cases r23
     ·replace H := ifn Bool.false_ne_true H
      refine zo (op_not rfl) (zo (op_pickF rfl rfl rfl) (zm rfl (zp (zp (zp ?_)))))
      refine zp (zp (zp (zo (op_pickT rfl rfl rfl) (zm rfl (zp ?_)))))
      refine zp (zp (zp (zp (zp (zo (op_pickT rfl rfl rfl) ?_)))))
      refine zm rfl (zp (zp (zp (zp (zp ?_)))))
      refine zp (zo (op_pickT rfl rfl rfl) (zm rfl (zp (zp (zp ?_)))))
      refine zp (zp (zp (zp (zo (op_pickT rfl rfl rfl) (zn ?_)))))
      refine zt rfl rfl (zq ?_)
      refine Go1.cut [] trivial ?_
      intro σ _
      refine zr (za rfl (zn ?_))
      refine Go1.ret1 Try.func19 rfl ?_
      replace hB := (((hB.trans dI.fr).trans kV.fr).trans eK.fr).trans gY.fr
      exact ⟨false, rfl, hB.same, H⟩
     replace H := ifp rfl H
     refine zo (op_not rfl) (zo (op_pickF rfl rfl rfl) (zm rfl (zo (op_fieldAddr Try.underlying29 rfl ti26 rfl (by decide)) (zs (oblk (i := 4) 1 hO rfl rfl Try.underlying26 rfl rfl) (zo (op_fieldAddr Try.underlying29 rfl ti26 rfl (by decide)) ?_)))))
     refine zs (oblk (i := 4) 0 hO rfl rfl Try.underlying26 rfl rfl) ?_
     have Z3 := Z2.trans gY.ch
     replace bw := bw.ch Z3
     replace dY := dY.ch Z3
     refine GoR.call (op_call body34 rfl (walk_ref03_Same hO.lt bw dY H)) rfl rfl ?_
     rintro v33 w30 ⟨r29, rfl, JL, H⟩
     have vH := Stp.same hO JL
     replace hO := vH.own
     cases r29
     ·replace H := ifn Bool.false_ne_true H
      refine zo (op_not rfl) (zo (op_pickF rfl rfl rfl) (zm rfl (zp (zp (zp ?_)))))
      refine zp (zp (zp (zo (op_pickT rfl rfl rfl) (zm rfl (zp ?_)))))
      refine zp (zp (zp (zp (zp (zo (op_pickT rfl rfl rfl) ?_)))))
      refine zm rfl (zp (zp (zp (zp (zp ?_)))))
      refine zp (zp (zo (op_pickT rfl rfl rfl) (zn (zt rfl rfl (zq ?_)))))
      refine Go1.cut [] trivial ?_
      intro σ _
      refine zr (za rfl (zn ?_))
      refine Go1.ret1 Try.func19 rfl ?_
      replace hB := ((((hB.trans dI.fr).trans kV.fr).trans eK.fr).trans gY.fr).trans vH.fr
      exact ⟨false, rfl, hB.same, H⟩
     replace H := ifp rfl H
     refine zo (op_not rfl) (zo (op_pickF rfl rfl rfl) (zm rfl (zo (op_fieldAddr Try.underlying29 rfl ti26 rfl (by decide)) (zs (oblk (i := 5) 1 hO rfl rfl Try.underlying26 rfl rfl) (zo (op_fieldAddr Try.underlying29 rfl ti26 rfl (by decide)) ?_)))))
     refine zs (oblk (i := 5) 0 hO rfl rfl Try.underlying26 rfl rfl) ?_
     have Z4 := Z3.trans vH.ch
     replace b6 := b6.ch Z4
     replace fw := fw.ch Z4
     refine GoR.call (op_call body34 rfl (walk_ref03_Same hO.lt b6 fw H)) rfl rfl ?_
     rintro v39 w36 ⟨r35, rfl, Wv, H⟩
     have lU := Stp.same hO Wv
     replace hO := lU.own
     cases r35
     ·replace H := ifn Bool.false_ne_true H
      refine zo (op_not rfl) (zo (op_pickF rfl rfl rfl) (zm rfl (zp (zp (zp ?_)))))
      refine zp (zp (zp (zo (op_pickT rfl rfl rfl) (zm rfl (zp ?_)))))
      refine zp (zp (zp (zp (zp (zp ?_)))))
      refine zo (op_pickT rfl rfl rfl) (zn (zt rfl rfl (zq ?_)))
      refine Go1.cut [] trivial ?_
      intro σ _
      refine zr (za rfl (zn ?_))
      refine Go1.ret1 Try.func19 rfl ?_
      replace hB := (((((hB.trans dI.fr).trans kV.fr).trans eK.fr).trans gY.fr).trans vH.fr).trans lU.fr
      exact ⟨false, rfl, hB.same, H⟩
     replace H := ifp rfl H
     refine zo (op_not rfl) (zo (op_pickF rfl rfl rfl) (zm rfl (zo (op_fieldAddr Try.underlying29 rfl ti22 rfl (by decide)) (zs (oblk (i := 6) 1 hO rfl rfl Try.underlying22 rfl rfl) (zo (op_fieldAddr Try.underlying29 rfl ti22 rfl (by decide)) ?_)))))
     refine zs (oblk (i := 6) 0 hO rfl rfl Try.underlying22 rfl rfl) ?_
     have Z5 := Z4.trans lU.ch
     replace bP := bP.ch Z5
     replace eW := eW.ch Z5
     refine GoR.call (op_call body45 rfl (walk_ref03_SameRows hO.lt bP eW H)) rfl rfl ?_
     rintro v45 w42 ⟨r41, rfl, JM, H⟩
     have gD := Stp.same hO JM
     replace hO := gD.own
     cases r41
     ·replace H := ifn Bool.false_ne_true H
      refine zo (op_not rfl) (zo (op_pickF rfl rfl rfl) (zm rfl (zp (zp (zp ?_)))))
      refine zp (zp (zp (zp (zo (op_pickT rfl rfl rfl) (zn ?_)))))
      refine zt rfl rfl (zq ?_)
      refine Go1.cut [] trivial ?_
      intro σ _
      refine zr (za rfl (zn ?_))
      refine Go1.ret1 Try.func19 rfl ?_
      replace hB := ((((((hB.trans dI.fr).trans kV.fr).trans eK.fr).trans gY.fr).trans vH.fr).trans lU.fr).trans gD.fr
      exact ⟨false, rfl, hB.same, H⟩
     replace H := ifp rfl H
     refine zo (op_not rfl) (zo (op_pickF rfl rfl rfl) (zm rfl (zo (op_fieldAddr Try.underlying29 rfl ti27 rfl (by decide)) (zs (oblk (i := 7) 1 hO rfl rfl Try.underlying27 rfl rfl) (zo (op_len Try.underlying27 rfl) ?_)))))
     replace bx := (bx.ch Z5).ch gD.ch
     replace H := H bx.bd
     refine zo (op_fieldAddr Try.underlying29 rfl ti27 rfl (by decide)) (zs (oblk (i := 7) 0 hO rfl rfl Try.underlying27 rfl rfl) (zo (op_len Try.underlying27 rfl) ?_))
     replace dS := (dS.ch Z5).ch gD.ch
     replace H := H dS.bd
     by_cases h47 : (a0.Rules.length : Int) = (a1.Rules.length : Int)
     ·replace H := ifp h47 H
      refine zo (fun w => opB (op_neq rfl rfl w) (ndT h47)) (zo (op_pickF rfl rfl rfl) (zn (zf rfl rfl (zk (zq ?_)))))
      refine zq (zr (zo (op_fieldAddr Try.underlying29 rfl ti27 rfl (by decide)) (zs (oblk (i := 7) 1 hO rfl rfl Try.underlying27 rfl rfl) (zo (op_len Try.underlying27 rfl) (zm rfl ?_)))))
      refine zn (zb ?_)
      replace bP := bP.ch gD.ch
      replace eW := eW.ch gD.ch
      have Z6 := lU.ch.trans gD.ch
      replace b6 := b6.ch Z6
      replace fw := fw.ch Z6
      have Z7 := (vH.ch.trans lU.ch).trans gD.ch
      replace bw := bw.ch Z7
      replace dY := dY.ch Z7
      have Z8 := ((gY.ch.trans vH.ch).trans lU.ch).trans gD.ch
      replace bO := bO.ch Z8
      replace eV := eV.ch Z8
      have Z9 := (((eK.ch.trans gY.ch).trans vH.ch).trans lU.ch).trans gD.ch
      replace aJ := aJ.ch Z9
      replace fv := fv.ch Z9
      replace hB := ((((((hB.trans dI.fr).trans kV.fr).trans eK.fr).trans gY.fr).trans vH.fr).trans lU.fr).trans gD.fr
      refine Go1.loopW (S := Nat) (fun s σ w => agrees σ [(2, .pointer (some ⟨B2, 0, none⟩)), (3, .pointer (some ⟨B8, 0, none⟩)), (76, .int .i64 (a0.Rules.length : Int)), (77, .int .i64 (s : Int))] ∧ (fun Z0 => Owns w0.heap.size w Z0 A ∧ ISl (Rp.sl (Rp.int .i64)) (bl Z0 ++ A) w bQ bS a0.Gens ∧ ISl (Rp.sl (Rp.int .i64)) (bl Z0 ++ A) w dj dk a0.Elems ∧ ISl (Rp.int .i64) (bl Z0 ++ A) w cT cU a0.Prefix ∧ ISl (Rp.int .i64) (bl Z0 ++ A) w dD dE a0.Last ∧ ISl (Rp.sl (Rp.int .i64)) (bl Z0 ++ A) w dl dm a0.Right ∧ ISl (rpRule) (bl Z0 ++ A) w dn dp a0.Rules ∧ ISl (Rp.sl (Rp.int .i64)) (bl Z0 ++ A) w fD fE a1.Gens ∧ ISl (Rp.sl (Rp.int .i64)) (bl Z0 ++ A) w fk fm a1.Elems ∧ ISl (Rp.int .i64) (bl Z0 ++ A) w eH eI a1.Prefix ∧ ISl (Rp.int .i64) (bl Z0 ++ A) w fF fG a1.Last ∧ ISl (Rp.sl (Rp.int .i64)) (bl Z0 ++ A) w fo fq a1.Right ∧ ISl (rpRule) (bl Z0 ++ A) w ft fu a1.Rules ∧ Fr (bl []) w0 (bl Z0) w) [.blk B8 (.cells #[.int .i64 a1.Points, .bool a1.Monoid, .slice fD a1.Gens.length fE, .slice fk a1.Elems.length fm, .slice eH a1.Prefix.length eI, .slice fF a1.Last.length fG, .slice fo a1.Right.length fq, .slice ft a1.Rules.length fu, .int .i64 a1.Done] 29 (0, 0)), .blk B2 (.cells #[.int .i64 a0.Points, .bool a0.Monoid, .slice bQ a0.Gens.length bS, .slice dj a0.Elems.length dk, .slice cT a0.Prefix.length cU, .slice dD a0.Last.length dE, .slice dl a0.Right.length dm, .slice dn a0.Rules.length dp, .int .i64 a0.Done] 29 (0, 0))]) H ⟨⟨rfl, rfl, rfl, rfl, trivial⟩, hO, aJ, bO, bw, b6, bP, bx, fv, eV, dY, fw, eW, dS, hB⟩ ?_
      intro X1 k1_49
      intro H hX1 σ w48
      refine andE fun hag => andE fun hO => andE fun aJ => andE fun bO => andE fun bw => andE fun b6 => andE fun bP => andE fun bx => andE fun fv => andE fun eV => andE fun dY => andE fun fw => andE fun eW => andE fun dS => fun hB => ?_
      refine Go1.keep [(2, .pointer (some ⟨B2, 0, none⟩)), (3, .pointer (some ⟨B8, 0, none⟩)), (76, .int .i64 (a0.Rules.length : Int)), (77, .int .i64 (k1_49 : Int))] hag ?_
      refine zq (zr ?_)
      by_cases h50 : (k1_49 : Int) < (a0.Rules.length : Int)
      ·replace H := ifp h50 H
       refine zo (fun w => opB (op_lss rfl rfl w) (decide_eq_true h50)) (zn (zq (zt rfl rfl (zk (zq ?_)))))
       refine zb (zq (zr (zm rfl (za rfl (zn ?_)))))
       refine zq ?_
       refine Go1.drawS 0 [(0, .pure), (1, .stable), (2, .pure), (3, .pure), (4, .stable), (5, .pure), (6, .stable), (7, .pure), (8, .pure), (9, .stable), (10, .pure)] mixed (by kernel_rfl) ?_
       intro w51 F6
       have vI := Stp.same hO F6
       replace hO := vI.own
       refine GoQ.pure rfl (op_fieldAddr Try.underlying29 rfl ti27 rfl (by decide)) rfl rfl ?_
       refine GoQ.stable rfl (oblk (i := 7) 1 hO rfl rfl Try.underlying27 rfl rfl) rfl rfl ?_
       refine GoQ.pure rfl (op_move rfl) rfl rfl ?_
       obtain ⟨h54, H⟩ := H
       obtain ⟨h55, H⟩ := H
       replace bx := bx.ch vI.ch
       refine GoQ.pure rfl (op_index Try.underlying27 ti39 rfl rfl h54 h55 (bx.some_ h54 h55)) rfl rfl ?_
       have hok56 := ldFlatOk bx h54 h55
       refine GoQ.stable rfl (ldFlat bx h54 h55 Try.underlying39 rfl ti39 rfl) rfl rfl ?_
       refine GoQ.pure rfl (op_fieldAddr Try.underlying29 rfl ti27 rfl (by decide)) rfl rfl ?_
       refine GoQ.stable rfl (oblk (i := 7) 0 hO rfl rfl Try.underlying27 rfl rfl) rfl rfl ?_
       refine GoQ.pure rfl (op_move rfl) rfl rfl ?_
       obtain ⟨h57, H⟩ := H
       obtain ⟨h58, H⟩ := H
       replace dS := dS.ch vI.ch
       refine GoQ.pure rfl (op_index Try.underlying27 ti39 rfl rfl h57 h58 (dS.some_ h57 h58)) rfl rfl ?_
       have hok59 := ldFlatOk dS h57 h58
       refine GoQ.stable rfl (ldFlat dS h57 h58 Try.underlying39 rfl ti39 rfl) rfl rfl ?_
       by_cases h60 : (((ix a0.Rules (k1_49 : Int)).Left) = ((ix a1.Rules (k1_49 : Int)).Left) ∧ ((ix a0.Rules (k1_49 : Int)).Right) = ((ix a1.Rules (k1_49 : Int)).Right))
       ·replace H := ifp h60 H
        refine GoQ.pure rfl (fun w => opB (op_neqSS Try.underlying39 eqh39 eqg39 (by decide) (by decide) rfl rfl Try.underlying9 Try.underlying9 rfl rfl w) (ndT h60)) rfl rfl ?_
        refine GoQ.nil ?_
        refine zf rfl rfl (zk ?_)
        refine Go1.inBlock ?_
        refine zr (zo (op_add rfl rfl (wrap_i64 (natbd h50 bx.bd))) (zm rfl (zn ?_)))
        replace aJ := aJ.ch vI.ch
        replace bO := bO.ch vI.ch
        replace bw := bw.ch vI.ch
        replace b6 := b6.ch vI.ch
        replace bP := bP.ch vI.ch
        replace fv := fv.ch vI.ch
        replace eV := eV.ch vI.ch
        replace dY := dY.ch vI.ch
        replace fw := fw.ch vI.ch
        replace eW := eW.ch vI.ch
        replace hB := hB.trans vI.fr
        exact hX1 _ H _ _ ⟨⟨rfl, rfl, rfl, rfl, trivial⟩, hO, aJ, bO, bw, b6, bP, bx, fv, eV, dY, fw, eW, dS, hB⟩
       replace H := ifn h60 H
       refine GoQ.pure rfl (fun w => opB (op_neqSS Try.underlying39 eqh39 eqg39 (by decide) (by decide) rfl rfl Try.underlying9 Try.underlying9 rfl rfl w) (ndF h60)) rfl rfl ?_
       refine GoQ.nil ?_
       refine zt rfl rfl (zq (zr (za rfl (zn ?_))))
       refine Go1.ret1 Try.func19 rfl ?_
       replace hB := hB.trans vI.fr
       exact ⟨false, rfl, hB.same, H⟩
      replace H := ifn h50 H
      refine zo (fun w => opB (op_lss rfl rfl w) (decide_eq_false h50)) (zn (zq (zf rfl rfl ?_)))
      refine Go1.exit rfl ?_
      refine zq (zr (za rfl (zn ?_)))
      refine Go1.ret1 Try.func19 rfl ?_
      exact ⟨true, rfl, hB.same, H⟩
     replace H := ifn h47 H
     refine zo (fun w => opB (op_neq rfl rfl w) (ndF h47)) (zo (op_pickF rfl rfl rfl) (zn (zt rfl rfl (zq ?_))))
     refine Go1.cut [] trivial ?_
     intro σ _
     refine zr (za rfl (zn ?_))
     refine Go1.ret1 Try.func19 rfl ?_
     replace hB := ((((((hB.trans dI.fr).trans kV.fr).trans eK.fr).trans gY.fr).trans vH.fr).trans lU.fr).trans gD.fr
     exact ⟨false, rfl, hB.same, H⟩
    replace H := ifn h16 H
    refine zo (fun w => opB (op_neq rfl rfl w) (ndF h16)) (zo (op_pickF rfl rfl rfl) (zm rfl (zp (zp (zp ?_)))))
    refine zp (zp (zp (zo (op_pickT rfl rfl rfl) (zm rfl (zp ?_)))))
    refine zp (zp (zp (zp (zp (zo (op_pickT rfl rfl rfl) ?_)))))
    refine zm rfl (zp (zp (zp (zp (zp ?_)))))
    refine zp (zo (op_pickT rfl rfl rfl) (zm rfl (zp (zp (zp ?_)))))
    refine zp (zp (zp (zo (op_pickT rfl rfl rfl) (zm rfl (zp ?_)))))
    refine zp (zp (zp (zp (zp (zo (op_pickT rfl rfl rfl) ?_)))))
    refine zm rfl (zp (zp (zp (zp (zp ?_)))))
    refine zp (zp (zo (op_pickT rfl rfl rfl) (zn (zt rfl rfl (zq ?_)))))
    refine Go1.cut [] trivial ?_
    intro σ _
    refine zr (za rfl (zn ?_))
    refine Go1.ret1 Try.func19 rfl ?_
    replace hB := (hB.trans dI.fr).trans kV.fr
    exact ⟨false, rfl, hB.same, H⟩
   replace H := ifn h15 H
   refine zg (opB ((oblk (i := 1) 0 hO rfl rfl Try.underlying4 rfl rfl) _ (Same.refl _)) (Bool.eq_false_iff.2 h15)) (zo (op_neqB Try.underlying4 rfl rfl) (zo (op_pickF rfl rfl rfl) (zm rfl (zp (zp ?_)))))
   refine zp (zp (zp (zo (op_pickT rfl rfl rfl) (zm rfl (zp ?_)))))
   refine zp (zp (zp (zp (zp (zo (op_pickT rfl rfl rfl) ?_)))))
   refine zm rfl (zp (zp (zp (zp (zp ?_)))))
   refine zp (zo (op_pickT rfl rfl rfl) (zm rfl (zp (zp (zp ?_)))))
   refine zp (zp (zp (zo (op_pickT rfl rfl rfl) (zm rfl (zp ?_)))))
   refine zp (zp (zp (zp (zp (zo (op_pickT rfl rfl rfl) ?_)))))
   refine zm rfl (zp (zp (zp (zp (zp ?_)))))
   refine zp (zo (op_pickT rfl rfl rfl) (zm rfl (zp (zp (zp ?_)))))
   refine zp (zp (zp (zp (zo (op_pickT rfl rfl rfl) (zn ?_)))))
   refine zt rfl rfl (zq ?_)
   refine Go1.cut [] trivial ?_
   intro σ _
   refine zr (za rfl (zn ?_))
   refine Go1.ret1 Try.func19 rfl ?_
   replace hB := (hB.trans dI.fr).trans kV.fr
   exact ⟨false, rfl, hB.same, H⟩
  replace H := ifn h14 H
  refine zg (opB ((oblk (i := 1) 1 hO rfl rfl Try.underlying4 rfl rfl) _ (Same.refl _)) (Bool.eq_false_iff.2 h14)) (zo (op_fieldAddr Try.underlying29 rfl ti4 rfl (by decide)) ?_)
  by_cases h61 : a1.Monoid = true
  ·replace H := ifp h61 H
   refine zg (opB ((oblk (i := 1) 0 hO rfl rfl Try.underlying4 rfl rfl) _ (Same.refl _)) (h61)) (zo (op_neqB Try.underlying4 rfl rfl) (zo (op_pickF rfl rfl rfl) (zm rfl (zp (zp ?_)))))
   refine zp (zp (zp (zo (op_pickT rfl rfl rfl) (zm rfl (zp ?_)))))
   refine zp (zp (zp (zp (zp (zo (op_pickT rfl rfl rfl) ?_)))))
   refine zm rfl (zp (zp (zp (zp (zp ?_)))))
   refine zp (zo (op_pickT rfl rfl rfl) (zm rfl (zp (zp (zp ?_)))))
   refine zp (zp (zp (zo (op_pickT rfl rfl rfl) (zm rfl (zp ?_)))))
   refine zp (zp (zp (zp (zp (zo (op_pickT rfl rfl rfl) ?_)))))
   refine zm rfl (zp (zp (zp (zp (zp ?_)))))
   refine zp (zo (op_pickT rfl rfl rfl) (zm rfl (zp (zp (zp ?_)))))
   refine zp (zp (zp (zp (zo (op_pickT rfl rfl rfl) (zn ?_)))))
   refine zt rfl rfl (zq ?_)
   refine Go1.cut [] trivial ?_
   intro σ _
   refine zr (za rfl (zn ?_))
   refine Go1.ret1 Try.func19 rfl ?_
   replace hB := (hB.trans dI.fr).trans kV.fr
   exact ⟨false, rfl, hB.same, H⟩
  replace H := ifn h61 H
  refine zg (opB ((oblk (i := 1) 0 hO rfl rfl Try.underlying4 rfl rfl) _ (Same.refl _)) (Bool.eq_false_iff.2 h61)) (zo (op_neqB Try.underlying4 rfl rfl) (zo (op_pickF rfl rfl rfl) (zm rfl (zo (op_fieldAddr Try.underlying29 rfl ti3 rfl (by decide)) (zs (oblk (i := 8) 1 hO rfl rfl Try.underlying3 rfl rfl) ?_)))))
  refine zo (op_fieldAddr Try.underlying29 rfl ti3 rfl (by decide)) (zs (oblk (i := 8) 0 hO rfl rfl Try.underlying3 rfl rfl) ?_)
  by_cases h62 : a0.Done = a1.Done
  ·replace H := ifp h62 H
   refine zo (fun w => opB (op_neq rfl rfl w) (ndT h62)) (zo (op_pickF rfl rfl rfl) (zm rfl (zo (op_fieldAddr Try.underlying29 rfl ti22 rfl (by decide)) (zs (oblk (i := 2) 1 hO rfl rfl Try.underlying22 rfl rfl) (zo (op_fieldAddr Try.underlying29 rfl ti22 rfl (by decide)) ?_)))))
   refine zs (oblk (i := 2) 0 hO rfl rfl Try.underlying22 rfl rfl) ?_
   have Z10 := ((Ch.start A w0).trans dI.ch).trans kV.ch
   replace aJ := aJ.ch Z10
   replace fv := fv.ch Z10
   refine GoR.call (op_call body45 rfl (walk_ref03_SameRows hO.lt aJ fv H)) rfl rfl ?_
   rintro v67 w64 ⟨r63, rfl, JN, H⟩
   have g0 := Stp.same hO JN
   replace hO := g0.own
   cases r63
   ·replace H := ifn Bool.false_ne_true H
    refine zo (op_not rfl) (zo (op_pickF rfl rfl rfl) (zm rfl (zp (zp (zp ?_)))))
    refine zp (zp (zp (zo (op_pickT rfl rfl rfl) (zm rfl (zp ?_)))))
    refine zp (zp (zp (zp (zp (zo (op_pickT rfl rfl rfl) ?_)))))
    refine zm rfl (zp (zp (zp (zp (zp ?_)))))
    refine zp (zo (op_pickT rfl rfl rfl) (zm rfl (zp (zp (zp ?_)))))
    refine zp (zp (zp (zo (op_pickT rfl rfl rfl) (zm rfl (zp ?_)))))
    refine zp (zp (zp (zp (zp (zp ?_)))))
    refine zo (op_pickT rfl rfl rfl) (zn (zt rfl rfl (zq ?_)))
    refine Go1.cut [] trivial ?_
    intro σ _
    refine zr (za rfl (zn ?_))
    refine Go1.ret1 Try.func19 rfl ?_
    replace hB := ((hB.trans dI.fr).trans kV.fr).trans g0.fr
    exact ⟨false, rfl, hB.same, H⟩
   replace H := ifp rfl H
   refine zo (op_not rfl) (zo (op_pickF rfl rfl rfl) (zm rfl (zo (op_fieldAddr Try.underlying29 rfl ti22 rfl (by decide)) (zs (oblk (i := 3) 1 hO rfl rfl Try.underlying22 rfl rfl) (zo (op_fieldAddr Try.underlying29 rfl ti22 rfl (by decide)) ?_)))))
   refine zs (oblk (i := 3) 0 hO rfl rfl Try.underlying22 rfl rfl) ?_
   have Z11 := Z10.trans g0.ch
   replace bO := bO.ch Z11
   replace eV := eV.ch Z11
   refine GoR.call (op_call body45 rfl (walk_ref03_SameRows hO.lt bO eV H)) rfl rfl ?_
   rintro v73 w70 ⟨r69, rfl, Ww, H⟩
   have iI := Stp.same hO Ww
   replace hO := iI.own
   cases r69
   ·replace H := ifn Bool.false_ne_true H
    refine zo (op_not rfl) (zo (op_pickF rfl rfl rfl) (zm rfl (zp (zp (zp ?_)))))
    refine zp (zp (zp (zo (op_pickT rfl rfl rfl) (zm rfl (zp ?_)))))
    refine zp (zp (zp (zp (zp (zo (op_pickT rfl rfl rfl) ?_)))))
    refine zm rfl (zp (zp (zp (zp (zp ?_)))))
    refine zp (zo (op_pickT rfl rfl rfl) (zm rfl (zp (zp (zp ?_)))))
    refine zp (zp (zp (zp (zo (op_pickT rfl rfl rfl) (zn ?_)))))
    refine zt rfl rfl (zq ?_)
    refine Go1.cut [] trivial ?_
    intro σ _
    refine zr (za rfl (zn ?_))
    refine Go1.ret1 Try.func19 rfl ?_
    replace hB := (((hB.trans dI.fr).trans kV.fr).trans g0.fr).trans iI.fr
    exact ⟨false, rfl, hB.same, H⟩
   replace H := ifp rfl H
   refine zo (op_not rfl) (zo (op_pickF rfl rfl rfl) (zm rfl (zo (op_fieldAddr Try.underlying29 rfl ti26 rfl (by decide)) (zs (oblk (i := 4) 1 hO rfl rfl Try.underlying26 rfl rfl) (zo (op_fieldAddr Try.underlying29 rfl ti26 rfl (by decide)) ?_)))))
   refine zs (oblk (i := 4) 0 hO rfl rfl Try.underlying26 rfl rfl) ?_
   have Z12 := Z11.trans iI.ch
   replace bw := bw.ch Z12
   replace dY := dY.ch Z12
   refine GoR.call (op_call body34 rfl (walk_ref03_Same hO.lt bw dY H)) rfl rfl ?_
   rintro v79 w76 ⟨r75, rfl, IW, H⟩
   have kI := Stp.same hO IW
   replace hO := kI.own
   cases r75
   ·replace H := ifn Bool.false_ne_true H
    refine zo (op_not rfl) (zo (op_pickF rfl rfl rfl) (zm rfl (zp (zp (zp ?_)))))
    refine zp (zp (zp (zo (op_pickT rfl rfl rfl) (zm rfl (zp ?_)))))
    refine zp (zp (zp (zp (zp (zo (op_pickT rfl rfl rfl) ?_)))))
    refine zm rfl (zp (zp (zp (zp (zp ?_)))))
    refine zp (zp (zo (op_pickT rfl rfl rfl) (zn (zt rfl rfl (zq ?_)))))
    refine Go1.cut [] trivial ?_
    intro σ _
    refine zr (za rfl (zn ?_))
    refine Go1.ret1 Try.func19 rfl ?_
    replace hB := ((((hB.trans dI.fr).trans kV.fr).trans g0.fr).trans iI.fr).trans kI.fr
    exact ⟨false, rfl, hB.same, H⟩
   replace H := ifp rfl H
   refine zo (op_not rfl) (zo (op_pickF rfl rfl rfl) (zm rfl (zo (op_fieldAddr Try.underlying29 rfl ti26 rfl (by decide)) (zs (oblk (i := 5) 1 hO rfl rfl Try.underlying26 rfl rfl) (zo (op_fieldAddr Try.underlying29 rfl ti26 rfl (by decide)) ?_)))))
   refine zs (oblk (i := 5) 0 hO rfl rfl Try.underlying26 rfl rfl) ?_
   have Z13 := Z12.trans kI.ch
   replace b6 := b6.ch Z13
   replace fw := fw.ch Z13
   refine GoR.call (op_call body34 rfl (walk_ref03_Same hO.lt b6 fw H)) rfl rfl ?_
   rintro v85 w82 ⟨r81, rfl, Wx, H⟩
   have gT := Stp.same hO Wx
   replace hO := gT.own
   cases r81
   ·replace H := ifn Bool.false_ne_true H
    refine zo (op_not rfl) (zo (op_pickF rfl rfl rfl) (zm rfl (zp (zp (zp ?_)))))
    refine zp (zp (zp (zo (op_pickT rfl rfl rfl) (zm rfl (zp ?_)))))
    refine zp (zp (zp (zp (zp (zp ?_)))))
    refine zo (op_pickT rfl rfl rfl) (zn (zt rfl rfl (zq ?_)))
    refine Go1.cut [] trivial ?_
    intro σ _
    refine zr (za rfl (zn ?_))
    refine Go1.ret1 Try.func19 rfl ?_
    replace hB := (((((hB.trans dI.fr).trans kV.fr).trans g0.fr).trans iI.fr).trans kI.fr).trans gT.fr
    exact ⟨false, rfl, hB.same, H⟩
   replace H := ifp rfl H
   refine zo (op_not rfl) (zo (op_pickF rfl rfl rfl) (zm rfl (zo (op_fieldAddr Try.underlying29 rfl ti22 rfl (by decide)) (zs (oblk (i := 6) 1 hO rfl rfl Try.underlying22 rfl rfl) (zo (op_fieldAddr Try.underlying29 rfl ti22 rfl (by decide)) ?_)))))
   refine zs (oblk (i := 6) 0 hO rfl rfl Try.underlying22 rfl rfl) ?_
   have Z14 := Z13.trans gT.ch
   replace bP := bP.ch Z14
   replace eW := eW.ch Z14
   refine GoR.call (op_call body45 rfl (walk_ref03_SameRows hO.lt bP eW H)) rfl rfl ?_
   rintro v91 w88 ⟨r87, rfl, Wy, H⟩
   have pT := Stp.same hO Wy
   replace hO := pT.own
   cases r87
   ·replace H := ifn Bool.false_ne_true H
    refine zo (op_not rfl) (zo (op_pickF rfl rfl rfl) (zm rfl (zp (zp (zp ?_)))))
    refine zp (zp (zp (zp (zo (op_pickT rfl rfl rfl) (zn ?_)))))
    refine zt rfl rfl (zq ?_)
    refine Go1.cut [] trivial ?_
    intro σ _
    refine zr (za rfl (zn ?_))
    refine Go1.ret1 Try.func19 rfl ?_
    replace hB := ((((((hB.trans dI.fr).trans kV.fr).trans g0.fr).trans iI.fr).trans kI.fr).trans gT.fr).trans pT.fr
    exact ⟨false, rfl, hB.same, H⟩
   replace H := ifp rfl H
   refine zo (op_not rfl) (zo (op_pickF rfl rfl rfl) (zm rfl (zo (op_fieldAddr Try.underlying29 rfl ti27 rfl (by decide)) (zs (oblk (i := 7) 1 hO rfl rfl Try.underlying27 rfl rfl) (zo (op_len Try.underlying27 rfl) ?_)))))
   replace bx := (bx.ch Z14).ch pT.ch
   replace H := H bx.bd
   refine zo (op_fieldAddr Try.underlying29 rfl ti27 rfl (by decide)) (zs (oblk (i := 7) 0 hO rfl rfl Try.underlying27 rfl rfl) (zo (op_len Try.underlying27 rfl) ?_))
   replace dS := (dS.ch Z14).ch pT.ch
   replace H := H dS.bd
   by_cases h93 : (a0.Rules.length : Int) = (a1.Rules.length : Int)
   ·replace H := ifp h93 H
    refine zo (fun w => opB (op_neq rfl rfl w) (ndT h93)) (zo (op_pickF rfl rfl rfl) (zn (zf rfl rfl (zk (zq ?_)))))
    refine zq (zr (zo (op_fieldAddr Try.underlying29 rfl ti27 rfl (by decide)) (zs (oblk (i := 7) 1 hO rfl rfl Try.underlying27 rfl rfl) (zo (op_len Try.underlying27 rfl) (zm rfl ?_)))))
    refine zn (zb ?_)
    replace bP := bP.ch pT.ch
    replace eW := eW.ch pT.ch
    have Z15 := gT.ch.trans pT.ch
    replace b6 := b6.ch Z15
    replace fw := fw.ch Z15
    have Z16 := (kI.ch.trans gT.ch).trans pT.ch
    replace bw := bw.ch Z16
    replace dY := dY.ch Z16
    have Z17 := ((iI.ch.trans kI.ch).trans gT.ch).trans pT.ch
    replace bO := bO.ch Z17
    replace eV := eV.ch Z17
    have Z18 := (((g0.ch.trans iI.ch).trans kI.ch).trans gT.ch).trans pT.ch
    replace aJ := aJ.ch Z18
    replace fv := fv.ch Z18
    replace hB := ((((((hB.trans dI.fr).trans kV.fr).trans g0.fr).trans iI.fr).trans kI.fr).trans gT.fr).trans pT.fr
    refine Go1.loopW (S := Nat) (fun s σ w => agrees σ [(2, .pointer (some ⟨B2, 0, none⟩)), (3, .pointer (some ⟨B8, 0, none⟩)), (76, .int .i64 (a0.Rules.length : Int)), (77, .int .i64 (s : Int))] ∧ (fun Z0 => Owns w0.heap.size w Z0 A ∧ ISl (Rp.sl (Rp.int .i64)) (bl Z0 ++ A) w bQ bS a0.Gens ∧ ISl (Rp.sl (Rp.int .i64)) (bl Z0 ++ A) w dj dk a0.Elems ∧ ISl (Rp.int .i64) (bl Z0 ++ A) w cT cU a0.Prefix ∧ ISl (Rp.int .i64) (bl Z0 ++ A) w dD dE a0.Last ∧ ISl (Rp.sl (Rp.int .i64)) (bl Z0 ++ A) w dl dm a0.Right ∧ ISl (rpRule) (bl Z0 ++ A) w dn dp a0.Rules ∧ ISl (Rp.sl (Rp.int .i64)) (bl Z0 ++ A) w fD fE a1.Gens ∧ ISl (Rp.sl (Rp.int .i64)) (bl Z0 ++ A) w fk fm a1.Elems ∧ ISl (Rp.int .i64) (bl Z0 ++ A) w eH eI a1.Prefix ∧ ISl (Rp.int .i64) (bl Z0 ++ A) w fF fG a1.Last ∧ ISl (Rp.sl (Rp.int .i64)) (bl Z0 ++ A) w fo fq a1.Right ∧ ISl (rpRule) (bl Z0 ++ A) w ft fu a1.Rules ∧ Fr (bl []) w0 (bl Z0) w) [.blk B8 (.cells #[.int .i64 a1.Points, .bool a1.Monoid, .slice fD a1.Gens.length fE, .slice fk a1.Elems.length fm, .slice eH a1.Prefix.length eI, .slice fF a1.Last.length fG, .slice fo a1.Right.length fq, .slice ft a1.Rules.length fu, .int .i64 a1.Done] 29 (0, 0)), .blk B2 (.cells #[.int .i64 a0.Points, .bool a0.Monoid, .slice bQ a0.Gens.length bS, .slice dj a0.Elems.length dk, .slice cT a0.Prefix.length cU, .slice dD a0.Last.length dE, .slice dl a0.Right.length dm, .slice dn a0.Rules.length dp, .int .i64 a0.Done] 29 (0, 0))]) H ⟨⟨rfl, rfl, rfl, rfl, trivial⟩, hO, aJ, bO, bw, b6, bP, bx, fv, eV, dY, fw, eW, dS, hB⟩ ?_
    intro X2 k2_95
    intro H hX2 σ w94
    refine andE fun hag => andE fun hO => andE fun aJ => andE fun bO => andE fun bw => andE fun b6 => andE fun bP => andE fun bx => andE fun fv => andE fun eV => andE fun dY => andE fun fw => andE fun eW => andE fun dS => fun hB => ?_
    refine Go1.keep [(2, .pointer (some ⟨B2, 0, none⟩)), (3, .pointer (some ⟨B8, 0, none⟩)), (76, .int .i64 (a0.Rules.length : Int)), (77, .int .i64 (k2_95 : Int))] hag ?_
    refine zq (zr ?_)
    by_cases h96 : (k2_95 : Int) < (a0.Rules.length : Int)
    ·replace H := ifp h96 H
     refine zo (fun w => opB (op_lss rfl rfl w) (decide_eq_true h96)) (zn (zq (zt rfl rfl (zk (zq ?_)))))
     refine zb (zq (zr (zm rfl (za rfl (zn ?_)))))
     refine zq ?_
     refine Go1.drawS 0 [(0, .pure), (1, .stable), (2, .pure), (3, .pure), (4, .stable), (5, .pure), (6, .stable), (7, .pure), (8, .pure), (9, .stable), (10, .pure)] mixed (by kernel_rfl) ?_
     intro w97 Wz
     have vJ := Stp.same hO Wz
     replace hO := vJ.own
     refine GoQ.pure rfl (op_fieldAddr Try.underlying29 rfl ti27 rfl (by decide)) rfl rfl ?_
     refine GoQ.stable rfl (oblk (i := 7) 1 hO rfl rfl Try.underlying27 rfl rfl) rfl rfl ?_
     refine GoQ.pure rfl (op_move rfl) rfl rfl ?_
     obtain ⟨yv, H⟩ := H
     obtain ⟨t0, H⟩ := H
     replace bx := bx.ch vJ.ch
     refine GoQ.pure rfl (op_index Try.underlying27 ti39 rfl rfl yv t0 (bx.some_ yv t0)) rfl rfl ?_
     have hok102 := ldFlatOk bx yv t0
     refine GoQ.stable rfl (ldFlat bx yv t0 Try.underlying39 rfl ti39 rfl) rfl rfl ?_
     refine GoQ.pure rfl (op_fieldAddr Try.underlying29 rfl ti27 rfl (by decide)) rfl rfl ?_
     refine GoQ.stable rfl (oblk (i := 7) 0 hO rfl rfl Try.underlying27 rfl rfl) rfl rfl ?_
     refine GoQ.pure rfl (op_move rfl) rfl rfl ?_
     obtain ⟨AX, H⟩ := H
     obtain ⟨yw, H⟩ := H
     replace dS := dS.ch vJ.ch
     refine GoQ.pure rfl (op_index Try.underlying27 ti39 rfl rfl AX yw (dS.some_ AX yw)) rfl rfl ?_
     have hok105 := ldFlatOk dS AX yw
     refine GoQ.stable rfl (ldFlat dS AX yw Try.underlying39 rfl ti39 rfl) rfl rfl ?_
     by_cases wv : (((ix a0.Rules (k2_95 : Int)).Left) = ((ix a1.Rules (k2_95 : Int)).Left) ∧ ((ix a0.Rules (k2_95 : Int)).Right) = ((ix a1.Rules (k2_95 : Int)).Right))
     ·replace H := ifp wv H
      refine GoQ.pure rfl (fun w => opB (op_neqSS Try.underlying39 eqh39 eqg39 (by decide) (by decide) rfl rfl Try.underlying9 Try.underlying9 rfl rfl w) (ndT wv)) rfl rfl ?_
      refine GoQ.nil ?_
      refine zf rfl rfl (zk ?_)
      refine Go1.inBlock ?_
      refine zr (zo (op_add rfl rfl (wrap_i64 (natbd h96 bx.bd))) (zm rfl (zn ?_)))
      replace aJ := aJ.ch vJ.ch
      replace bO := bO.ch vJ.ch
      replace bw := bw.ch vJ.ch
      replace b6 := b6.ch vJ.ch
      replace bP := bP.ch vJ.ch
      replace fv := fv.ch vJ.ch
      replace eV := eV.ch vJ.ch
      replace dY := dY.ch vJ.ch
      replace fw := fw.ch vJ.ch
      replace eW := eW.ch vJ.ch
      replace hB := hB.trans vJ.fr
      exact hX2 _ H _ _ ⟨⟨rfl, rfl, rfl, rfl, trivial⟩, hO, aJ, bO, bw, b6, bP, bx, fv, eV, dY, fw, eW, dS, hB⟩
     replace H := ifn wv H
     refine GoQ.pure rfl (fun w => opB (op_neqSS Try.underlying39 eqh39 eqg39 (by decide) (by decide) rfl rfl Try.underlying9 Try.underlying9 rfl rfl w) (ndF wv)) rfl rfl ?_
     refine GoQ.nil ?_
     refine zt rfl rfl (zq (zr (za rfl (zn ?_))))
     refine Go1.ret1 Try.func19 rfl ?_
     replace hB := hB.trans vJ.fr
     exact ⟨false, rfl, hB.same, H⟩
    replace H := ifn h96 H
    refine zo (fun w => opB (op_lss rfl rfl w) (decide_eq_false h96)) (zn (zq (zf rfl rfl ?_)))
    refine Go1.exit rfl ?_
    refine zq (zr (za rfl (zn ?_)))
    refine Go1.ret1 Try.func19 rfl ?_
    exact ⟨true, rfl, hB.same, H⟩
   replace H := ifn h93 H
   refine zo (fun w => opB (op_neq rfl rfl w) (ndF h93)) (zo (op_pickF rfl rfl rfl) (zn (zt rfl rfl (zq ?_))))
   refine Go1.cut [] trivial ?_
   intro σ _
   refine zr (za rfl (zn ?_))
   refine Go1.ret1 Try.func19 rfl ?_
   replace hB := ((((((hB.trans dI.fr).trans kV.fr).trans g0.fr).trans iI.fr).trans kI.fr).trans gT.fr).trans pT.fr
   exact ⟨false, rfl, hB.same, H⟩
  replace H := ifn h62 H
  refine zo (fun w => opB (op_neq rfl rfl w) (ndF h62)) (zo (op_pickF rfl rfl rfl) (zm rfl (zp (zp (zp ?_)))))
  refine zp (zp (zp (zo (op_pickT rfl rfl rfl) (zm rfl (zp ?_)))))
  refine zp (zp (zp (zp (zp (zo (op_pickT rfl rfl rfl) ?_)))))
  refine zm rfl (zp (zp (zp (zp (zp ?_)))))
  refine zp (zo (op_pickT rfl rfl rfl) (zm rfl (zp (zp (zp ?_)))))
  refine zp (zp (zp (zo (op_pickT rfl rfl rfl) (zm rfl (zp ?_)))))
  refine zp (zp (zp (zp (zp (zo (op_pickT rfl rfl rfl) ?_)))))
  refine zm rfl (zp (zp (zp (zp (zp ?_)))))
  refine zp (zp (zo (op_pickT rfl rfl rfl) (zn (zt rfl rfl (zq ?_)))))
  refine Go1.cut [] trivial ?_
  intro σ _
  refine zr (za rfl (zn ?_))
  refine Go1.ret1 Try.func19 rfl ?_
  replace hB := (hB.trans dI.fr).trans kV.fr
  exact ⟨false, rfl, hB.same, H⟩
 replace H := ifn h13 H
 refine zo (fun w => opB (op_neq rfl rfl w) (ndF h13)) (zm rfl (zp (zp (zp (zp ?_)))))
 refine zp (zo (op_pickT rfl rfl rfl) (zm rfl (zp (zp (zp ?_)))))
 refine zp (zp (zo (op_pickT rfl rfl rfl) (zm rfl (zp (zp ?_)))))
 refine zp (zp (zp (zp (zo (op_pickT rfl rfl rfl) (zm rfl ?_)))))
 refine zp (zp (zp (zp (zp (zp ?_)))))
 refine zo (op_pickT rfl rfl rfl) (zm rfl (zp (zp (zp (zp ?_)))))
 refine zp (zp (zo (op_pickT rfl rfl rfl) (zm rfl (zp (zp ?_)))))
 refine zp (zp (zp (zp (zo (op_pickT rfl rfl rfl) (zm rfl ?_)))))
 refine zp (zp (zp (zp (zp (zp ?_)))))
 refine zo (op_pickT rfl rfl rfl) (zm rfl (zp (zp (zp (zp ?_)))))
 refine zp (zp (zp (zo (op_pickT rfl rfl rfl) (zn (zt rfl rfl ?_)))))
 refine zq ?_
 refine Go1.cut [] trivial ?_
 intro σ _
 refine zr (za rfl (zn ?_))
 refine Go1.ret1 Try.func19 rfl ?_
 replace hB := (hB.trans dI.fr).trans kV.fr
 exact ⟨false, rfl, hB.same, H⟩
end Sg
