/- -/
import Derived.Test.YtlneebpmblkllaaTi
import Derived.Test.YtlneebpmblkllaaWSyntacticMonoids
import Derived.Test.YtlneebpmblkllaaWSyntacticMonoidse
import Derived.Test.YtlneebpmblkllaaWSyntacticMonoidsf
import Derived.Test.YtlneebpmblkllaaWSyntacticRefuses
import Derived.Test.YtlneebpmblkllaaAl
namespace Sg
open Go Go.RowKit Go.Proofs
set_option linter.unusedVariables false
set_option linter.unusedSimpArgs false
set_option maxRecDepth 100000
set_option maxHeartbeats 4000000
theorem body31 : Body Try.prog 31 := ⟨Try.f31, Try.func31, rfl, by kernel_rfl⟩
theorem J0d {A : List Nat} {w0 : World} {bH : Option Addr} {bI : Nat} {co : Option Addr} {cp : Nat} {bO : Option Addr} {bP : Nat} {bQ : Option Addr} {bS : Nat} {cE : Option Addr} {cF : Nat} {a0 : Syntactic} {a1 : Int} {a2 : Int} (hA : ∀ b ∈ A, b < w0.heap.size) (ba : ISl (Rp.sl (Rp.int .i64)) A w0 bH bI a0.Table) (bF : ISl (Rp.str) A w0 co cp a0.Words) (bi : ISl (Rp.int .i64) A w0 bO bP a0.Images) (bc : ISl (Rp.bool) A w0 bQ bS a0.Accept) (bX : ISl (Rp.bool) A w0 cE cF a0.Plus) {K : Bool → Prop} (H : J0f a0 a1 a2 K) :
    CallsV Try.prog 31 #[.agg #[.int .i64 a0.Letters, .slice bH a0.Table.length bI, .slice co a0.Words.length cp, .slice bO a0.Images.length bP, .slice bQ a0.Accept.length bS, .slice cE a0.Plus.length cF], .int .i64 a1, .int .i64 a2] w0 (fun v w' => ∃ (r0 : Bool), v = .bool r0 ∧ Same w0 w' ∧ K r0) := by
 refine CallsV.of (l := [.agg #[.int .i64 a0.Letters, .slice bH a0.Table.length bI, .slice co a0.Words.length cp, .slice bO a0.Images.length bP, .slice bQ a0.Accept.length bS, .slice cE a0.Plus.length cF], .int .i64 a1, .int .i64 a2]) Try.func31 rfl Try.ntmps31 rfl ?_
 have hO := Owns.start hA
 have hB := Fr.refl (bl []) w0
 unfold J0f at H
 refine zq (zr ?_)
 have zz := obox (t := 33) (v := .agg #[.int .i64 a0.Letters, .slice bH a0.Table.length bI, .slice co a0.Words.length cp, .slice bO a0.Images.length bP, .slice bQ a0.Accept.length bS, .slice cE a0.Plus.length cF]) (cs := #[.int .i64 a0.Letters, .slice bH a0.Table.length bI, .slice co a0.Words.length cp, .slice bO a0.Images.length bP, .slice bQ a0.Accept.length bS, .slice cE a0.Plus.length cF]) hO rfl
 obtain ⟨w1, B2, dX, hs4, jU⟩ := zz
 refine zg (jU rfl) ?_
 replace hO := dX.own
 refine za rfl (zn (zq (zq (zr (zm rfl ?_)))))
 refine zm rfl ?_
 have zz := J0n (r := Rp.int .i64) (n := 2) (parts := [(0, .int .i64 a1), (1, .int .i64 a2)]) (vs := [.int .i64 a1, .int .i64 a2]) (xs := [a1, a2]) rfl Try.underlying31 ti3 hO (by decide) (by kernel_rfl) (Els.cons rfl rfl (Els.cons rfl rfl (Els.nil _ _ _) (by simp [mx])) (by simp [mx])) rfl
 obtain ⟨w7, p8, gU, nf, Aj, EL⟩ := zz
 refine zg (EL rfl) ?_
 replace hO := gU.own
 refine zo (J00 Try.underlying33 rfl ti23 rfl (by decide)) (zs (oblk (i := 1) 1 hO rfl rfl Try.underlying23 rfl rfl) (zo (J0c Try.underlying23 rfl) ?_))
 have Z1 := ((Ch.start A w0).trans dX.ch).trans gU.ch
 replace ba := ba.ch Z1
 replace H := H ba.bd
 have zz := rowlend 0 hO rfl nf
 obtain ⟨UX, F6⟩ := zz
 have hOc16 := hO.drop 0
 refine GoR.call (J0a body76 (show ([.slice p8 2 2, .int .i64 (a0.Table.length : Int)] : List Value) = [.slice p8 ([a1, a2]).length 2, .int .i64 (a0.Table.length : Int)] from by rw [← F6]) (J13 hOc16.lt UX H)) rfl rfl ?_
 rintro v21 w18 ⟨r17, rfl, GH, H⟩
 have jG := Stp.same hO GH
 replace hO := jG.own
 cases r17
 ·replace H := ifn Bool.false_ne_true H
  refine zo (J0g rfl) (zm rfl (zp (zp (zp (zo (J04 rfl rfl rfl) ?_)))))
  refine zn (zt rfl rfl (zq (zr (za rfl (zn ?_)))))
  refine Go1.ret1 Try.func31 rfl ?_
  replace hB := ((hB.trans dX.fr).trans gU.fr).trans jG.fr
  exact ⟨false, rfl, hB.same, H⟩
 replace H := ifp rfl H
 refine zo (J0g rfl) (zm rfl (zs (J0l (vs := [.int .i64 a0.Letters, .slice bH a0.Table.length bI, .slice co a0.Words.length cp, .slice bO a0.Images.length bP, .slice bQ a0.Accept.length bS, .slice cE a0.Plus.length cF]) (i := 0) 1 hO rfl rfl Try.underlying33 rfl ti33 rfl) ?_))
 replace ba := ba.ch jG.ch
 have Z2 := Z1.trans jG.ch
 replace bF := bF.ch Z2
 replace bi := bi.ch Z2
 replace bc := bc.ch Z2
 replace bX := bX.ch Z2
 refine GoR.call (J0a body28 rfl (J2q (a0 := a0) hO.lt ba bF bi bc bX H)) rfl rfl ?_
 rintro v27 w24 ⟨r23, rfl, JI, H⟩
 have gt := Stp.same hO JI
 replace hO := gt.own
 by_cases h29 : r23 = (0 : Int)
 ·replace H := ifp h29 H
  refine zo (fun w => opB (J0j rfl rfl w) (ndT h29)) (zo (J05 rfl rfl rfl) (zn (zf rfl rfl (zk (zq ?_)))))
  refine zq ?_
  refine Go1.cut [(1, .int .i64 a1), (2, .int .i64 a2), (3, .pointer (some ⟨B2, 0, none⟩))] ⟨rfl, rfl, rfl, trivial⟩ ?_
  intro σ _
  refine zr (zo (J00 Try.underlying33 rfl ti23 rfl (by decide)) (zs (oblk (i := 1) 1 hO rfl rfl Try.underlying23 rfl rfl) (zo (J0c Try.underlying23 rfl) (zm rfl (zn ?_)))))
  refine zb ?_
  replace hO := hO.drop 0
  have Z3 := gt.ch.trans (Owns.J06 _ _ 0)
  replace ba := ba.ch Z3
  replace bF := bF.ch Z3
  replace bi := bi.ch Z3
  replace bc := bc.ch Z3
  replace bX := bX.ch Z3
  replace hB := ((((hB.trans dX.fr).trans gU.fr).trans jG.fr).trans gt.fr).trans (Owns.J09 _ _ 0)
  refine Go1.loopW (S := Nat) (fun s σ w => agrees σ [(1, .int .i64 a1), (2, .int .i64 a2), (3, .pointer (some ⟨B2, 0, none⟩)), (26, .slice bH a0.Table.length bI), (27, .int .i64 (a0.Table.length : Int)), (28, .int .i64 (s : Int))] ∧ (fun Z0 => Owns w0.heap.size w Z0 A ∧ ISl (Rp.sl (Rp.int .i64)) (bl Z0 ++ A) w bH bI a0.Table ∧ ISl (Rp.str) (bl Z0 ++ A) w co cp a0.Words ∧ ISl (Rp.int .i64) (bl Z0 ++ A) w bO bP a0.Images ∧ ISl (Rp.bool) (bl Z0 ++ A) w bQ bS a0.Accept ∧ ISl (Rp.bool) (bl Z0 ++ A) w cE cF a0.Plus ∧ Fr (bl []) w0 (bl Z0) w) [.blk B2 (.cells #[.int .i64 a0.Letters, .slice bH a0.Table.length bI, .slice co a0.Words.length cp, .slice bO a0.Images.length bP, .slice bQ a0.Accept.length bS, .slice cE a0.Plus.length cF] 33 (0, 0))]) H ⟨⟨rfl, rfl, rfl, rfl, rfl, rfl, trivial⟩, hO, ba, bF, bi, bc, bX, hB⟩ ?_
  intro X1 k1_31
  intro H hX1 σ w30
  refine andE fun hag => andE fun hO => andE fun ba => andE fun bF => andE fun bi => andE fun bc => andE fun bX => fun hB => ?_
  refine Go1.keep [(1, .int .i64 a1), (2, .int .i64 a2), (3, .pointer (some ⟨B2, 0, none⟩)), (26, .slice bH a0.Table.length bI), (27, .int .i64 (a0.Table.length : Int)), (28, .int .i64 (k1_31 : Int))] hag ?_
  refine zq (zr ?_)
  by_cases h32 : (k1_31 : Int) < (a0.Table.length : Int)
  ·replace H := ifp h32 H
   refine zo (fun w => opB (J08 rfl rfl w) (decide_eq_true h32)) (zn (zq (zt rfl rfl (zk (zq ?_)))))
   refine zb (zq (zr ?_))
   obtain ⟨h33, H⟩ := H
   obtain ⟨h34, H⟩ := H
   refine zo (J02 Try.underlying23 ti31 rfl rfl h33 h34 (ba.some_ h33 h34)) ?_
   have zz := ldSl ba h33 h34
   obtain ⟨p35, c36, Cp, UY⟩ := zz
   refine zs (UY Try.underlying31 rfl rfl) (za rfl (zn (zq ?_)))
   refine Go1.drawS 0 [(0, .pure), (1, .stable), (2, .pure), (3, .pure), (4, .pure), (5, .stable), (6, .pure), (7, .stable), (8, .pure), (9, .stable), (10, .pure), (11, .pure), (12, .pure), (13, .stable), (14, .pure), (15, .stable), (16, .pure), (17, .pure)] mixed (by kernel_rfl) ?_
   intro w39 U0
   have m3 := Stp.same hO U0
   replace hO := m3.own
   refine GoQ.pure rfl (J00 Try.underlying33 rfl ti23 rfl (by decide)) rfl rfl ?_
   refine GoQ.stable rfl (oblk (i := 1) 0 hO rfl rfl Try.underlying23 rfl rfl) rfl rfl ?_
   refine GoQ.pure rfl (J03 rfl) rfl rfl ?_
   refine GoQ.pure rfl (J03 rfl) rfl rfl ?_
   obtain ⟨h42, H⟩ := H
   obtain ⟨h43, H⟩ := H
   replace Cp := Cp.ch m3.ch
   refine GoQ.pure rfl (J02 Try.underlying31 ti3 rfl rfl h42 h43 (Cp.some_ h42 h43)) rfl rfl ?_
   refine GoQ.stable rfl (ldInt Cp h42 h43 Try.underlying3 rfl rfl) rfl rfl ?_
   obtain ⟨h44, H⟩ := H
   obtain ⟨h45, H⟩ := H
   replace ba := ba.ch m3.ch
   refine GoQ.pure rfl (J02 Try.underlying23 ti31 rfl rfl h44 h45 (ba.some_ h44 h45)) rfl rfl ?_
   have zz := ldSl ba h44 h45
   obtain ⟨p46, c47, zu, U1⟩ := zz
   refine GoQ.stable rfl (U1 Try.underlying31 rfl rfl) rfl rfl ?_
   refine GoQ.pure rfl (J00 Try.underlying33 rfl ti23 rfl (by decide)) rfl rfl ?_
   refine GoQ.stable rfl (oblk (i := 1) 0 hO rfl rfl Try.underlying23 rfl rfl) rfl rfl ?_
   refine GoQ.pure rfl (J03 rfl) rfl rfl ?_
   refine GoQ.pure rfl (J03 rfl) rfl rfl ?_
   obtain ⟨h50, H⟩ := H
   obtain ⟨h51, H⟩ := H
   refine GoQ.pure rfl (J02 Try.underlying31 ti3 rfl rfl h50 h51 (Cp.some_ h50 h51)) rfl rfl ?_
   refine GoQ.stable rfl (ldInt Cp h50 h51 Try.underlying3 rfl rfl) rfl rfl ?_
   obtain ⟨h52, H⟩ := H
   obtain ⟨h53, H⟩ := H
   refine GoQ.pure rfl (J02 Try.underlying23 ti31 rfl rfl h52 h53 (ba.some_ h52 h53)) rfl rfl ?_
   have zz := ldSl ba h52 h53
   obtain ⟨p54, c55, zw, U2⟩ := zz
   refine GoQ.stable rfl (U2 Try.underlying31 rfl rfl) rfl rfl ?_
   refine GoQ.pure rfl (J0s rfl) rfl rfl ?_
   refine GoQ.pure rfl (J0s rfl) rfl rfl ?_
   refine GoQ.nil ?_
   refine zq ?_
   refine Go1.cut [(1, .int .i64 a1), (2, .int .i64 a2), (3, .pointer (some ⟨B2, 0, none⟩)), (9, .slice p46 ((ix a0.Table (ix (ix a0.Table (k1_31 : Int)) a1)).length) c47), (10, .slice p54 ((ix a0.Table (ix (ix a0.Table (k1_31 : Int)) a2)).length) c55), (26, .slice bH a0.Table.length bI), (27, .int .i64 (a0.Table.length : Int)), (28, .int .i64 (k1_31 : Int))] ⟨rfl, rfl, rfl, rfl, rfl, rfl, rfl, rfl, trivial⟩ ?_
   intro σ _
   refine zr (zo (J00 Try.underlying33 rfl ti23 rfl (by decide)) (zs (oblk (i := 1) 0 hO rfl rfl Try.underlying23 rfl rfl) (zo (J0c Try.underlying23 rfl) (zm rfl (zn ?_)))))
   refine zb ?_
   replace bF := bF.ch m3.ch
   replace bi := bi.ch m3.ch
   replace bc := bc.ch m3.ch
   replace bX := bX.ch m3.ch
   replace hB := hB.trans m3.fr
   refine Go1.loopW (S := Nat) (fun s σ w => agrees σ [(1, .int .i64 a1), (2, .int .i64 a2), (3, .pointer (some ⟨B2, 0, none⟩)), (9, .slice p46 ((ix a0.Table (ix (ix a0.Table (k1_31 : Int)) a1)).length) c47), (10, .slice p54 ((ix a0.Table (ix (ix a0.Table (k1_31 : Int)) a2)).length) c55), (26, .slice bH a0.Table.length bI), (27, .int .i64 (a0.Table.length : Int)), (28, .int .i64 (k1_31 : Int)), (50, .int .i64 (a0.Table.length : Int)), (51, .int .i64 (s : Int))] ∧ (fun Z0 => Owns w0.heap.size w Z0 A ∧ ISl (Rp.sl (Rp.int .i64)) (bl Z0 ++ A) w bH bI a0.Table ∧ ISl (Rp.str) (bl Z0 ++ A) w co cp a0.Words ∧ ISl (Rp.int .i64) (bl Z0 ++ A) w bO bP a0.Images ∧ ISl (Rp.bool) (bl Z0 ++ A) w bQ bS a0.Accept ∧ ISl (Rp.bool) (bl Z0 ++ A) w cE cF a0.Plus ∧ ISl (Rp.int .i64) (bl Z0 ++ A) w p46 c47 (ix a0.Table (ix (ix a0.Table (k1_31 : Int)) a1)) ∧ ISl (Rp.int .i64) (bl Z0 ++ A) w p54 c55 (ix a0.Table (ix (ix a0.Table (k1_31 : Int)) a2)) ∧ Fr (bl []) w0 (bl Z0) w) [.blk B2 (.cells #[.int .i64 a0.Letters, .slice bH a0.Table.length bI, .slice co a0.Words.length cp, .slice bO a0.Images.length bP, .slice bQ a0.Accept.length bS, .slice cE a0.Plus.length cF] 33 (0, 0))]) H ⟨⟨rfl, rfl, rfl, rfl, rfl, rfl, rfl, rfl, rfl, rfl, trivial⟩, hO, ba, bF, bi, bc, bX, zu, zw, hB⟩ ?_
   intro X2 k2_59
   intro H hX2 σ w58
   refine andE fun hag => andE fun hO => andE fun ba => andE fun bF => andE fun bi => andE fun bc => andE fun bX => andE fun zu => andE fun zw => fun hB => ?_
   refine Go1.keep [(1, .int .i64 a1), (2, .int .i64 a2), (3, .pointer (some ⟨B2, 0, none⟩)), (9, .slice p46 ((ix a0.Table (ix (ix a0.Table (k1_31 : Int)) a1)).length) c47), (10, .slice p54 ((ix a0.Table (ix (ix a0.Table (k1_31 : Int)) a2)).length) c55), (26, .slice bH a0.Table.length bI), (27, .int .i64 (a0.Table.length : Int)), (28, .int .i64 (k1_31 : Int)), (50, .int .i64 (a0.Table.length : Int)), (51, .int .i64 (k2_59 : Int))] hag ?_
   refine zq (zr ?_)
   by_cases h60 : (k2_59 : Int) < (a0.Table.length : Int)
   ·replace H := ifp h60 H
    refine zo (fun w => opB (J08 rfl rfl w) (decide_eq_true h60)) (zn (zq (zt rfl rfl (zk (zq ?_)))))
    refine zb (zq (zr (zm rfl (za rfl (zn ?_)))))
    refine zq ?_
    refine Go1.drawS 0 [(0, .pure), (1, .stable), (2, .pure), (3, .pure), (4, .pure), (5, .stable), (6, .pure), (7, .stable), (8, .pure), (9, .pure), (10, .stable), (11, .pure), (12, .pure), (13, .pure), (14, .stable), (15, .pure), (16, .stable), (17, .pure), (18, .pure)] mixed (by kernel_rfl) ?_
    intro w61 IB
    have lj := Stp.same hO IB
    replace hO := lj.own
    refine GoQ.pure rfl (J00 Try.underlying33 rfl ti22 rfl (by decide)) rfl rfl ?_
    refine GoQ.stable rfl (oblk (i := 4) 0 hO rfl rfl Try.underlying22 rfl rfl) rfl rfl ?_
    refine GoQ.pure rfl (J03 rfl) rfl rfl ?_
    refine GoQ.pure rfl (J03 rfl) rfl rfl ?_
    obtain ⟨h64, H⟩ := H
    obtain ⟨h65, H⟩ := H
    replace zu := zu.ch lj.ch
    refine GoQ.pure rfl (J02 Try.underlying31 ti3 rfl rfl h64 h65 (zu.some_ h64 h65)) rfl rfl ?_
    refine GoQ.stable rfl (ldInt zu h64 h65 Try.underlying3 rfl rfl) rfl rfl ?_
    obtain ⟨h66, H⟩ := H
    obtain ⟨h67, H⟩ := H
    replace bc := bc.ch lj.ch
    refine GoQ.pure rfl (J02 Try.underlying22 ti4 rfl rfl h66 h67 (bc.some_ h66 h67)) rfl rfl ?_
    by_cases h68 : ix a0.Accept (ix (ix a0.Table (ix (ix a0.Table (k1_31 : Int)) a1)) (k2_59 : Int)) = true
    ·replace H := ifp h68 H
     refine GoQ.stable rfl (fun w hw => opB ((ldBool bc h66 h67 Try.underlying4 rfl rfl) w hw) (h68)) rfl rfl ?_
     refine GoQ.pure rfl (J03 rfl) rfl rfl ?_
     refine GoQ.pure rfl (J00 Try.underlying33 rfl ti22 rfl (by decide)) rfl rfl ?_
     refine GoQ.stable rfl (oblk (i := 4) 0 hO rfl rfl Try.underlying22 rfl rfl) rfl rfl ?_
     refine GoQ.pure rfl (J03 rfl) rfl rfl ?_
     refine GoQ.pure rfl (J03 rfl) rfl rfl ?_
     obtain ⟨h69, H⟩ := H
     obtain ⟨h70, H⟩ := H
     replace zw := zw.ch lj.ch
     refine GoQ.pure rfl (J02 Try.underlying31 ti3 rfl rfl h69 h70 (zw.some_ h69 h70)) rfl rfl ?_
     refine GoQ.stable rfl (ldInt zw h69 h70 Try.underlying3 rfl rfl) rfl rfl ?_
     obtain ⟨h71, H⟩ := H
     obtain ⟨h72, H⟩ := H
     refine GoQ.pure rfl (J02 Try.underlying22 ti4 rfl rfl h71 h72 (bc.some_ h71 h72)) rfl rfl ?_
     by_cases h73 : ix a0.Accept (ix (ix a0.Table (ix (ix a0.Table (k1_31 : Int)) a2)) (k2_59 : Int)) = true
     ·replace H := ifp h73 H
      refine GoQ.stable rfl (fun w hw => opB ((ldBool bc h71 h72 Try.underlying4 rfl rfl) w hw) (h73)) rfl rfl ?_
      refine GoQ.pure rfl (J0g rfl) rfl rfl ?_
      refine GoQ.pure rfl (J04 rfl rfl rfl) rfl rfl ?_
      refine GoQ.nil ?_
      refine zf rfl rfl (zk ?_)
      refine Go1.inBlock ?_
      refine Go1.cut [(1, .int .i64 a1), (2, .int .i64 a2), (3, .pointer (some ⟨B2, 0, none⟩)), (9, .slice p46 ((ix a0.Table (ix (ix a0.Table (k1_31 : Int)) a1)).length) c47), (10, .slice p54 ((ix a0.Table (ix (ix a0.Table (k1_31 : Int)) a2)).length) c55), (26, .slice bH a0.Table.length bI), (27, .int .i64 (a0.Table.length : Int)), (28, .int .i64 (k1_31 : Int)), (50, .int .i64 (a0.Table.length : Int)), (51, .int .i64 (k2_59 : Int))] ⟨rfl, rfl, rfl, rfl, rfl, rfl, rfl, rfl, rfl, rfl, trivial⟩ ?_
      intro σ _
      refine zr ?_
      replace ba := ba.ch lj.ch
      refine zo (J0e rfl rfl (wrap_i64 (natbd h60 ba.bd))) (zm rfl (zn ?_))
      replace bF := bF.ch lj.ch
      replace bi := bi.ch lj.ch
      replace bX := bX.ch lj.ch
      replace hB := hB.trans lj.fr
      exact hX2 _ H _ _ ⟨⟨rfl, rfl, rfl, rfl, rfl, rfl, rfl, rfl, rfl, rfl, trivial⟩, hO, ba, bF, bi, bc, bX, zu, zw, hB⟩
     replace H := ifn h73 H
     refine GoQ.stable rfl (fun w hw => opB ((ldBool bc h71 h72 Try.underlying4 rfl rfl) w hw) (Bool.eq_false_iff.2 h73)) rfl rfl ?_
     refine GoQ.pure rfl (J0g rfl) rfl rfl ?_
     refine GoQ.pure rfl (J04 rfl rfl rfl) rfl rfl ?_
     refine GoQ.nil ?_
     refine zt rfl rfl (zq (zr (za rfl (zn ?_))))
     refine Go1.ret1 Try.func31 rfl ?_
     replace hB := hB.trans lj.fr
     exact ⟨false, rfl, hB.same, H⟩
    replace H := ifn h68 H
    refine GoQ.stable rfl (fun w hw => opB ((ldBool bc h66 h67 Try.underlying4 rfl rfl) w hw) (Bool.eq_false_iff.2 h68)) rfl rfl ?_
    refine GoQ.pure rfl (J03 rfl) rfl rfl ?_
    refine GoQ.pass rfl rfl rfl ?_
    refine GoQ.pass rfl rfl rfl ?_
    refine GoQ.pass rfl rfl rfl ?_
    refine GoQ.pass rfl rfl rfl ?_
    refine GoQ.pass rfl rfl rfl ?_
    refine GoQ.pass rfl rfl rfl ?_
    refine GoQ.pass rfl rfl rfl ?_
    refine GoQ.pass rfl rfl rfl ?_
    refine GoQ.pass rfl rfl rfl ?_
    refine GoQ.pure rfl (J05 rfl rfl rfl) rfl rfl ?_
    refine GoQ.nil ?_
    refine zf rfl rfl (zk ?_)
    refine Go1.inBlock ?_
    refine zr ?_
    replace ba := ba.ch lj.ch
    refine zo (J0e rfl rfl (wrap_i64 (natbd h60 ba.bd))) (zm rfl (zn ?_))
    replace bF := bF.ch lj.ch
    replace bi := bi.ch lj.ch
    replace bX := bX.ch lj.ch
    replace zw := zw.ch lj.ch
    replace hB := hB.trans lj.fr
    exact hX2 _ H _ _ ⟨⟨rfl, rfl, rfl, rfl, rfl, rfl, rfl, rfl, rfl, rfl, trivial⟩, hO, ba, bF, bi, bc, bX, zu, zw, hB⟩
   replace H := ifn h60 H
   refine zo (fun w => opB (J08 rfl rfl w) (decide_eq_false h60)) (zn (zq (zf rfl rfl ?_)))
   refine Go1.exit rfl ?_
   refine Go1.inBlock ?_
   refine zr (zo (J0e rfl rfl (wrap_i64 (natbd h32 ba.bd))) (zm rfl (zn ?_)))
   exact hX1 _ H _ _ ⟨⟨rfl, rfl, rfl, rfl, rfl, rfl, trivial⟩, hO, ba, bF, bi, bc, bX, hB⟩
  replace H := ifn h32 H
  refine zo (fun w => opB (J08 rfl rfl w) (decide_eq_false h32)) (zn (zq (zf rfl rfl ?_)))
  refine Go1.exit rfl ?_
  refine zq ?_
  refine Go1.cut [] trivial ?_
  intro σ _
  refine zr (za rfl (zn ?_))
  refine Go1.ret1 Try.func31 rfl ?_
  exact ⟨true, rfl, hB.same, H⟩
 replace H := ifn h29 H
 refine zo (fun w => opB (J0j rfl rfl w) (ndF h29)) (zo (J05 rfl rfl rfl) (zn (zt rfl rfl (zq (zr ?_)))))
 refine za rfl (zn ?_)
 refine Go1.ret1 Try.func31 rfl ?_
 replace hB := (((hB.trans dX.fr).trans gU.fr).trans jG.fr).trans gt.fr
 exact ⟨false, rfl, hB.same, H⟩
theorem J28 {A : List Nat} {w0 : World} {bf : Option Addr} {bg : Nat} {bx : Option Addr} {bz : Nat} {a0 : DFA} {a1 : Int} {a2 : Int} {a3 : Int} (hA : ∀ b ∈ A, b < w0.heap.size) (am : ISl (Rp.bool) A w0 bf bg a0.Final) (aq : ISl (Rp.sl (Rp.int .i64)) A w0 bx bz a0.Next) {K : Bool → Prop} (H : law21_SyntacticStable a0 a1 a2 a3 K) :
    CallsV Try.prog 7 #[.agg #[.int .i64 a0.Letters, .int .i64 a0.Start, .slice bf a0.Final.length bg, .slice bx a0.Next.length bz], .int .i64 a1, .int .i64 a2, .int .i64 a3] w0 (fun v w' => ∃ (r0 : Bool), v = .bool r0 ∧ Same w0 w' ∧ K r0) := by
 refine CallsV.of (l := [.agg #[.int .i64 a0.Letters, .int .i64 a0.Start, .slice bf a0.Final.length bg, .slice bx a0.Next.length bz], .int .i64 a1, .int .i64 a2, .int .i64 a3]) Try.func7 rfl Try.ntmps7 rfl ?_
 have hO := Owns.start hA
 have hB := Fr.refl (bl []) w0
 unfold law21_SyntacticStable at H
 refine zq (zr ?_)
 have zz := obox (t := 25) (v := .agg #[.int .i64 a0.Letters, .int .i64 a0.Start, .slice bf a0.Final.length bg, .slice bx a0.Next.length bz]) (cs := #[.int .i64 a0.Letters, .int .i64 a0.Start, .slice bf a0.Final.length bg, .slice bx a0.Next.length bz]) hO rfl
 obtain ⟨w1, B2, dX, hs4, jU⟩ := zz
 refine zg (jU rfl) ?_
 replace hO := dX.own
 refine za rfl (zn (zq (zq (zr (zs (J0l (vs := [.int .i64 a0.Letters, .int .i64 a0.Start, .slice bf a0.Final.length bg, .slice bx a0.Next.length bz]) (i := 0) 0 hO rfl rfl Try.underlying25 rfl ti25 rfl) ?_)))))
 have Z1 := (Ch.start A w0).trans dX.ch
 replace am := am.ch Z1
 replace aq := aq.ch Z1
 refine GoR.call (J0a body17 rfl (J3Z (d := a0) hO.lt am aq H)) rfl rfl ?_
 rintro v11 w8 ⟨r7, rfl, hs9, H⟩
 have k8 := Stp.same hO hs9
 replace hO := k8.own
 cases r7
 ·replace H := ifn Bool.false_ne_true H
  refine zo (J0g rfl) (zn (zt rfl rfl (zq (zr ?_))))
  refine GoR.call (J0a body18 rfl (J0m hO.lt H)) rfl rfl ?_
  rintro v17 w14 ⟨r13, rfl, x8, H⟩
  have gN := Stp.same hO x8
  replace hO := gN.own
  refine za rfl (zn ?_)
  refine Go1.ret1 Try.func7 rfl ?_
  replace hB := ((hB.trans dX.fr).trans k8.fr).trans gN.fr
  exact ⟨r13, rfl, hB.same, H⟩
 replace H := ifp rfl H
 refine zo (J0g rfl) (zn (zf rfl rfl (zk (zq (zr ?_)))))
 refine zs (J0l (vs := [.int .i64 a0.Letters, .int .i64 a0.Start, .slice bf a0.Final.length bg, .slice bx a0.Next.length bz]) (i := 0) 0 hO rfl rfl Try.underlying25 rfl ti25 rfl) ?_
 replace am := am.ch k8.ch
 replace aq := aq.ch k8.ch
 refine GoR.call (J0a body19 rfl (J1A (d := a0) hO.lt am aq H)) rfl rfl ?_
 rintro v24 w21 ⟨r19, r20, dq, dr, dS, dT, dx, dy, dz, dA, eg, eh, rfl, Ix, au, aE, ay, av, aP, H⟩
 have m7 := Stp.same hO Ix
 replace hO := m7.own
 refine zm rfl (zo (J07 rfl rfl) (zo (J07 rfl rfl) ?_))
 have zz := oalloc (t := 33) (cs := #[.int .i64 0, .slice none 0 0, .slice none 0 0, .slice none 0 0, .slice none 0 0, .slice none 0 0]) ti33 hO rfl
 obtain ⟨w26, B27, gt, UR, F7⟩ := zz
 refine GoR.op F7 rfl rfl ?_
 replace hO := gt.own
 have zz := J0b (us := [.int .i64 r19.Letters, .slice dq r19.Table.length dr, .slice dS r19.Words.length dT, .slice dx r19.Images.length dy, .slice dz r19.Accept.length dA, .slice eg r19.Plus.length eh]) (o := 0) (cs' := #[.int .i64 r19.Letters, .slice dq r19.Table.length dr, .slice dS r19.Words.length dT, .slice dx r19.Images.length dy, .slice dz r19.Accept.length dA, .slice eg r19.Plus.length eh]) 0 hO rfl rfl (Nat.le_of_ble_eq_true rfl) rfl
 obtain ⟨w32, ke, F8⟩ := zz
 refine zg (F8 ti33 (by exact rfl) (by exact rfl) rfl) ?_
 replace hO := ke.own
 refine za rfl (zn (zq (zq (zr (zm rfl ?_)))))
 by_cases h35 : r20 = (0 : Int)
 ·replace H := ifp h35 H
  refine zo (fun w => opB (J0j rfl rfl w) (ndT h35)) (zm rfl (zo (J00 Try.underlying33 rfl ti23 rfl (by decide)) (zs (oblk (i := 1) 0 hO rfl rfl Try.underlying23 rfl rfl) (zo (J0c Try.underlying23 rfl) ?_))))
  replace au := (au.ch gt.ch).ch ke.ch
  replace H := H au.bd
  by_cases h36 : (r19.Table.length : Int) = (0 : Int)
  ·replace H := ifp h36 H
   refine zo (fun w => opB (J0D rfl rfl w) (decide_eq_true h36)) (zo (J05 rfl rfl rfl) (zm rfl (zp (zp (zp ?_)))))
   refine zp (zp (zp (zp (zo (J04 rfl rfl rfl) (zn ?_)))))
   refine zt rfl rfl (zq ?_)
   refine Go1.cut [] trivial ?_
   intro σ _
   refine zr (za rfl (zn ?_))
   refine Go1.ret1 Try.func7 rfl ?_
   replace hB := ((((hB.trans dX.fr).trans k8.fr).trans m7.fr).trans gt.fr).trans ke.fr
   exact ⟨false, rfl, hB.same, H⟩
  replace H := ifn h36 H
  refine zo (fun w => opB (J0D rfl rfl w) (decide_eq_false h36)) (zo (J05 rfl rfl rfl) (zm rfl (zo (J00 Try.underlying33 rfl ti22 rfl (by decide)) (zs (oblk (i := 4) 0 hO rfl rfl Try.underlying22 rfl rfl) (zo (J0c Try.underlying22 rfl) ?_)))))
  replace av := (av.ch gt.ch).ch ke.ch
  replace H := H av.bd
  refine zo (J00 Try.underlying33 rfl ti23 rfl (by decide)) (zs (oblk (i := 1) 0 hO rfl rfl Try.underlying23 rfl rfl) (zo (J0c Try.underlying23 rfl) ?_))
  by_cases h37 : (r19.Accept.length : Int) = (r19.Table.length : Int)
  ·replace H := ifp h37 H
   refine zo (fun w => opB (J0j rfl rfl w) (ndT h37)) (zo (J05 rfl rfl rfl) (zn (zf rfl rfl (zk (zq ?_)))))
   refine zq (zr (zo (J00 Try.underlying33 rfl ti23 rfl (by decide)) (zs (oblk (i := 1) 0 hO rfl rfl Try.underlying23 rfl rfl) (zm rfl (zm rfl ?_)))))
   refine zm rfl ?_
   have zz := J0n (r := Rp.int .i64) (n := 3) (parts := [(0, .int .i64 a1), (1, .int .i64 a2), (2, .int .i64 a3)]) (vs := [.int .i64 a1, .int .i64 a2, .int .i64 a3]) (xs := [a1, a2, a3]) rfl Try.underlying31 ti3 hO (by decide) (by kernel_rfl) (Els.cons rfl rfl (Els.cons rfl rfl (Els.cons rfl rfl (Els.nil _ _ _) (by simp [mx])) (by simp [mx])) (by simp [mx])) rfl
   obtain ⟨w38, p39, sX, fv, abL, yj⟩ := zz
   refine zg (yj rfl) ?_
   replace hO := sX.own
   have zz := rowlend 0 hO rfl fv
   obtain ⟨Iz, U3⟩ := zz
   have hOc47 := hO.drop 0
   replace au := au.ch sX.ch
   refine GoR.call (J0a body30 (show ([.slice dq r19.Table.length dr, .slice p39 3 3] : List Value) = [.slice dq r19.Table.length dr, .slice p39 ([a1, a2, a3]).length 3] from by rw [← U3]) (J4Q hOc47.lt (au.ch (Owns.J06 _ _ 0)) Iz H)) rfl rfl ?_
   rintro v52 w49 ⟨r48, rfl, JL, H⟩
   have vK := Stp.same hO JL
   replace hO := vK.own
   cases r48
   ·replace H := ifn Bool.false_ne_true H
    refine zo (J0g rfl) (zn (zt rfl rfl (zq ?_)))
    refine Go1.cut [] trivial ?_
    intro σ _
    refine zr ?_
    refine GoR.call (J0a body18 rfl (J0m hO.lt H)) rfl rfl ?_
    rintro v58 w55 ⟨r54, rfl, U4, H⟩
    have vL := Stp.same hO U4
    replace hO := vL.own
    refine za rfl (zn ?_)
    refine Go1.ret1 Try.func7 rfl ?_
    replace hB := (((((((hB.trans dX.fr).trans k8.fr).trans m7.fr).trans gt.fr).trans ke.fr).trans sX.fr).trans vK.fr).trans vL.fr
    exact ⟨r54, rfl, hB.same, H⟩
   replace H := ifp rfl H
   refine zo (J0g rfl) (zn (zf rfl rfl (zk (zq (zr ?_)))))
   refine zs (J0l (vs := [.int .i64 r19.Letters, .slice dq r19.Table.length dr, .slice dS r19.Words.length dT, .slice dx r19.Images.length dy, .slice dz r19.Accept.length dA, .slice eg r19.Plus.length eh]) (i := 0) 1 hO rfl rfl Try.underlying33 rfl ti33 rfl) (zm rfl (zm rfl ?_))
   replace au := au.ch vK.ch
   replace av := (av.ch sX.ch).ch vK.ch
   have Z2 := ((gt.ch.trans ke.ch).trans sX.ch).trans vK.ch
   replace aE := aE.ch Z2
   replace ay := ay.ch Z2
   replace aP := aP.ch Z2
   refine GoR.call (J0a body31 rfl (J0d (a0 := r19) hO.lt au aE ay av aP H)) rfl rfl ?_
   rintro v64 w61 ⟨r60, rfl, IB, H⟩
   have pE := Stp.same hO IB
   replace hO := pE.own
   refine za rfl (zn (zq (zq (zr (zs (J0l (vs := [.int .i64 r19.Letters, .slice dq r19.Table.length dr, .slice dS r19.Words.length dT, .slice dx r19.Images.length dy, .slice dz r19.Accept.length dA, .slice eg r19.Plus.length eh]) (i := 0) 1 hO rfl rfl Try.underlying33 rfl ti33 rfl) ?_)))))
   refine zm rfl (zm rfl ?_)
   replace au := au.ch pE.ch
   replace aE := aE.ch pE.ch
   replace ay := ay.ch pE.ch
   replace av := av.ch pE.ch
   replace aP := aP.ch pE.ch
   refine GoR.call (J0a body31 rfl (J0d (a0 := r19) hO.lt au aE ay av aP H)) rfl rfl ?_
   rintro v70 w67 ⟨r66, rfl, Hf, H⟩
   have gJ := Stp.same hO Hf
   replace hO := gJ.own
   cases r66
   ·replace H := ifn Bool.false_ne_true H
    refine zo (J0g rfl) (zm rfl (zp (zp (zp (zp ?_)))))
    refine zp (zp (zp (zp (zp (zp ?_)))))
    refine zp (zp (zo (J04 rfl rfl rfl) (zm rfl (zp (zp ?_)))))
    refine zp (zp (zp (zp (zp (zp ?_)))))
    refine zp (zp (zp (zp (zp (zp ?_)))))
    refine zo (J04 rfl rfl rfl) (zn (zt rfl rfl (zq ?_)))
    refine Go1.cut [] trivial ?_
    intro σ _
    refine zr (za rfl (zn ?_))
    refine Go1.ret1 Try.func7 rfl ?_
    replace hB := ((((((((hB.trans dX.fr).trans k8.fr).trans m7.fr).trans gt.fr).trans ke.fr).trans sX.fr).trans vK.fr).trans pE.fr).trans gJ.fr
    exact ⟨false, rfl, hB.same, H⟩
   replace H := ifp rfl H
   refine zo (J0g rfl) (zm rfl (zm rfl (zm rfl ?_)))
   cases r60
   ·replace H := ifn Bool.false_ne_true H
    refine zp (zp (zp (zp (zo (J05 rfl rfl rfl) (zm rfl ?_)))))
    refine zp (zp (zp (zo (J05 rfl rfl rfl) (zo (J05 rfl rfl rfl) (zm rfl ?_)))))
    refine zm rfl (zm rfl (zp (zp (zp (zp ?_)))))
    refine zo (J05 rfl rfl rfl) (zm rfl (zp (zp (zp (zp ?_)))))
    refine zp (zo (J05 rfl rfl rfl) (zo (J05 rfl rfl rfl) (zn (zf rfl rfl (zk ?_)))))
    refine zq (zq ?_)
    refine Go1.cut [(1, .int .i64 a1), (2, .int .i64 a2), (3, .int .i64 a3), (9, .pointer (some ⟨B27, 0, none⟩)), (11, .bool false)] ⟨rfl, rfl, rfl, rfl, rfl, trivial⟩ ?_
    intro σ _
    refine Go1.drawSF [0, 1, 2, 2, 10, 2, 50, 66, 2, 386, 514, 2, 2050, 2, 12290, 16386, 2, 98306, 131074, 263174, 524290, 1572866, 2097152, 2097152, 10485760, 2097152, 52428800, 69206016, 2097152, 404750336, 538968064, 2097152, 2149580800, 2097152, 12886999040, 17181966336, 2097152, 103081312256, 137441050624, 275957940224, 549757911040, 1099513724930, 2748779069442, 4398046511104, 13194139533312, 4398046511104, 57174604644352, 74766790688768, 145135534866432, 281474976710656, 844424930131968, 281474976710656, 3659174697238528, 4785074604081152, 9288674231451648, 18300271532703744, 36033195065475074, 72057594037927938] [1, 3, 7, 15, 31, 63, 127, 255, 511, 1023, 2047, 4095, 8191, 16383, 32767, 65535, 131071, 262143, 524287, 1048575, 2097151, 4194303, 8388607, 16777215, 33554431, 67108863, 134217727, 268435455, 536870911, 1073741823, 2147483647, 4294967295, 8589934591, 17179869183, 34359738367, 68719476735, 137438953471, 274877906943, 549755813887, 1099511627775, 2199023255551, 4398046511103, 8796093022207, 17592186044415, 35184372088831, 70368744177663, 140737488355327, 281474976710655, 562949953421311, 1125899906842623, 2251799813685247, 4503599627370495, 9007199254740991, 18014398509481983, 36028797018963967, 72057594037927935, 144115188075855871, 288230376151711743] 0 [(0, .pure), (1, .pure), (2, .stable), (3, .pure), (4, .stable), (5, .pure), (6, .pure), (7, .stable), (8, .pure), (9, .pure), (10, .stable), (11, .pure), (12, .stable), (13, .pure), (14, .pure), (15, .stable), (16, .pure), (17, .pure), (18, .stable), (19, .loud), (20, .pure), (21, .pure), (22, .stable), (23, .pure), (24, .stable), (25, .pure), (26, .pure), (27, .stable), (28, .pure), (29, .pure), (30, .stable), (31, .pure), (32, .stable), (33, .pure), (34, .pure), (35, .stable), (36, .pure), (37, .pure), (38, .stable), (39, .loud), (40, .pure), (41, .pure), (42, .pure), (43, .pure), (44, .stable), (45, .pure), (46, .pure), (47, .stable), (48, .pure), (49, .pure), (50, .stable), (51, .pure), (52, .pure), (53, .stable), (54, .pure), (55, .pure), (56, .pure), (57, .pure)] mixed (by kernel_rfl) ?_
    intro w72 E7
    have jJ := Stp.same hO E7
    replace hO := jJ.own
    refine GoQ.pure rfl (J03 rfl) rfl rfl ?_
    refine GoQ.pure rfl (J03 rfl) rfl rfl ?_
    refine GoQ.pass rfl rfl rfl ?_
    refine GoQ.pass rfl rfl rfl ?_
    refine GoQ.pass rfl rfl rfl ?_
    refine GoQ.pass rfl rfl rfl ?_
    refine GoQ.pass rfl rfl rfl ?_
    refine GoQ.pass rfl rfl rfl ?_
    refine GoQ.pass rfl rfl rfl ?_
    refine GoQ.pass rfl rfl rfl ?_
    refine GoQ.pass rfl rfl rfl ?_
    refine GoQ.pass rfl rfl rfl ?_
    refine GoQ.pass rfl rfl rfl ?_
    refine GoQ.pass rfl rfl rfl ?_
    refine GoQ.pass rfl rfl rfl ?_
    refine GoQ.pass rfl rfl rfl ?_
    refine GoQ.pass rfl rfl rfl ?_
    refine GoQ.pass rfl rfl rfl ?_
    refine GoQ.pass rfl rfl rfl ?_
    refine GoQ.pass rfl rfl rfl ?_
    refine GoQ.pass rfl rfl rfl ?_
    refine GoQ.pass rfl rfl rfl ?_
    refine GoQ.pass rfl rfl rfl ?_
    refine GoQ.pass rfl rfl rfl ?_
    refine GoQ.pass rfl rfl rfl ?_
    refine GoQ.pass rfl rfl rfl ?_
    refine GoQ.pass rfl rfl rfl ?_
    refine GoQ.pass rfl rfl rfl ?_
    refine GoQ.pass rfl rfl rfl ?_
    refine GoQ.pass rfl rfl rfl ?_
    refine GoQ.pass rfl rfl rfl ?_
    refine GoQ.pass rfl rfl rfl ?_
    refine GoQ.pass rfl rfl rfl ?_
    refine GoQ.pass rfl rfl rfl ?_
    refine GoQ.pass rfl rfl rfl ?_
    refine GoQ.pass rfl rfl rfl ?_
    refine GoQ.pass rfl rfl rfl ?_
    refine GoQ.pass rfl rfl rfl ?_
    refine GoQ.pass rfl rfl rfl ?_
    refine GoQ.pass rfl rfl rfl ?_
    refine GoQ.pass rfl rfl rfl ?_
    refine GoQ.pass rfl rfl rfl ?_
    refine GoQ.pass rfl rfl rfl ?_
    refine GoQ.pass rfl rfl rfl ?_
    refine GoQ.pass rfl rfl rfl ?_
    refine GoQ.pass rfl rfl rfl ?_
    refine GoQ.pass rfl rfl rfl ?_
    refine GoQ.pass rfl rfl rfl ?_
    refine GoQ.pass rfl rfl rfl ?_
    refine GoQ.pass rfl rfl rfl ?_
    refine GoQ.pass rfl rfl rfl ?_
    refine GoQ.pass rfl rfl rfl ?_
    refine GoQ.pass rfl rfl rfl ?_
    refine GoQ.pass rfl rfl rfl ?_
    refine GoQ.pass rfl rfl rfl ?_
    refine GoQ.pass rfl rfl rfl ?_
    refine GoQ.pass rfl rfl rfl ?_
    refine GoQ.pure rfl (J05 rfl rfl rfl) rfl rfl ?_
    refine GoQ.nil ?_
    refine zf rfl rfl (zk (zq ?_))
    refine Go1.cut [] trivial ?_
    intro σ _
    refine zr ?_
    refine GoR.call (J0a body18 rfl (J0m hO.lt H)) rfl rfl ?_
    rintro v79 w76 ⟨r75, rfl, Hg, H⟩
    have gM := Stp.same hO Hg
    replace hO := gM.own
    refine za rfl (zn ?_)
    refine Go1.ret1 Try.func7 rfl ?_
    replace hB := ((((((((((hB.trans dX.fr).trans k8.fr).trans m7.fr).trans gt.fr).trans ke.fr).trans sX.fr).trans vK.fr).trans pE.fr).trans gJ.fr).trans jJ.fr).trans gM.fr
    exact ⟨r75, rfl, hB.same, H⟩
   replace H := ifp rfl H
   refine zs (J0l (vs := [.int .i64 r19.Letters, .slice dq r19.Table.length dr, .slice dS r19.Words.length dT, .slice dx r19.Images.length dy, .slice dz r19.Accept.length dA, .slice eg r19.Plus.length eh]) (i := 0) 1 hO rfl rfl Try.underlying33 rfl ti33 rfl) (zm rfl (zm rfl ?_))
   replace au := au.ch gJ.ch
   replace aE := aE.ch gJ.ch
   replace ay := ay.ch gJ.ch
   replace av := av.ch gJ.ch
   replace aP := aP.ch gJ.ch
   refine GoR.call (J0a body31 rfl (J0d (a0 := r19) hO.lt au aE ay av aP H)) rfl rfl ?_
   rintro v85 w82 ⟨r81, rfl, U5, H⟩
   have nQ := Stp.same hO U5
   replace hO := nQ.own
   refine zo (J04 rfl rfl rfl) (zm rfl ?_)
   cases r81
   ·replace H := ifn Bool.false_ne_true H
    refine zp (zp (zp (zo (J05 rfl rfl rfl) (zo (J05 rfl rfl rfl) (zm rfl ?_)))))
    refine zm rfl (zm rfl (zs (J0l (vs := [.int .i64 r19.Letters, .slice dq r19.Table.length dr, .slice dS r19.Words.length dT, .slice dx r19.Images.length dy, .slice dz r19.Accept.length dA, .slice eg r19.Plus.length eh]) (i := 0) 1 hO rfl rfl Try.underlying33 rfl ti33 rfl) (zm rfl (zm rfl ?_))))
    replace au := au.ch nQ.ch
    replace aE := aE.ch nQ.ch
    replace ay := ay.ch nQ.ch
    replace av := av.ch nQ.ch
    replace aP := aP.ch nQ.ch
    refine GoR.call (J0a body31 rfl (J0d (a0 := r19) hO.lt au aE ay av aP H)) rfl rfl ?_
    rintro v91 w88 ⟨r87, rfl, U6, H⟩
    have jH := Stp.same hO U6
    replace hO := jH.own
    refine zo (J04 rfl rfl rfl) (zm rfl ?_)
    cases r87
    ·replace H := ifn Bool.false_ne_true H
     refine zp (zp (zp (zp (zp (zo (J05 rfl rfl rfl) ?_)))))
     refine zo (J05 rfl rfl rfl) (zn (zf rfl rfl (zk (zq (zq ?_)))))
     refine Go1.cut [(1, .int .i64 a1), (2, .int .i64 a2), (3, .int .i64 a3), (9, .pointer (some ⟨B27, 0, none⟩)), (11, .bool true)] ⟨rfl, rfl, rfl, rfl, rfl, trivial⟩ ?_
     intro σ _
     refine Go1.drawSF [0, 1, 2, 2, 10, 2, 50, 66, 2, 386, 514, 2, 2050, 2, 12290, 16386, 2, 98306, 131074, 263174, 524290, 1572866, 2097152, 2097152, 10485760, 2097152, 52428800, 69206016, 2097152, 404750336, 538968064, 2097152, 2149580800, 2097152, 12886999040, 17181966336, 2097152, 103081312256, 137441050624, 275957940224, 549757911040, 1099513724930, 2748779069442, 4398046511104, 13194139533312, 4398046511104, 57174604644352, 74766790688768, 145135534866432, 281474976710656, 844424930131968, 281474976710656, 3659174697238528, 4785074604081152, 9288674231451648, 18300271532703744, 36033195065475074, 72057594037927938] [1, 3, 7, 15, 31, 63, 127, 255, 511, 1023, 2047, 4095, 8191, 16383, 32767, 65535, 131071, 262143, 524287, 1048575, 2097151, 4194303, 8388607, 16777215, 33554431, 67108863, 134217727, 268435455, 536870911, 1073741823, 2147483647, 4294967295, 8589934591, 17179869183, 34359738367, 68719476735, 137438953471, 274877906943, 549755813887, 1099511627775, 2199023255551, 4398046511103, 8796093022207, 17592186044415, 35184372088831, 70368744177663, 140737488355327, 281474976710655, 562949953421311, 1125899906842623, 2251799813685247, 4503599627370495, 9007199254740991, 18014398509481983, 36028797018963967, 72057594037927935, 144115188075855871, 288230376151711743] 0 [(0, .pure), (1, .pure), (2, .stable), (3, .pure), (4, .stable), (5, .pure), (6, .pure), (7, .stable), (8, .pure), (9, .pure), (10, .stable), (11, .pure), (12, .stable), (13, .pure), (14, .pure), (15, .stable), (16, .pure), (17, .pure), (18, .stable), (19, .loud), (20, .pure), (21, .pure), (22, .stable), (23, .pure), (24, .stable), (25, .pure), (26, .pure), (27, .stable), (28, .pure), (29, .pure), (30, .stable), (31, .pure), (32, .stable), (33, .pure), (34, .pure), (35, .stable), (36, .pure), (37, .pure), (38, .stable), (39, .loud), (40, .pure), (41, .pure), (42, .pure), (43, .pure), (44, .stable), (45, .pure), (46, .pure), (47, .stable), (48, .pure), (49, .pure), (50, .stable), (51, .pure), (52, .pure), (53, .stable), (54, .pure), (55, .pure), (56, .pure), (57, .pure)] mixed (by kernel_rfl) ?_
     intro w93 U7
     have oe := Stp.same hO U7
     replace hO := oe.own
     refine GoQ.pure rfl (J03 rfl) rfl rfl ?_
     refine GoQ.pure rfl (J03 rfl) rfl rfl ?_
     refine GoQ.stable rfl (J0l (vs := [.int .i64 r19.Letters, .slice dq r19.Table.length dr, .slice dS r19.Words.length dT, .slice dx r19.Images.length dy, .slice dz r19.Accept.length dA, .slice eg r19.Plus.length eh]) (i := 0) 1 hO rfl rfl Try.underlying33 rfl ti33 rfl) rfl rfl ?_
     refine GoQ.pure rfl (J00 Try.underlying33 rfl ti23 rfl (by decide)) rfl rfl ?_
     refine GoQ.stable rfl (oblk (i := 1) 1 hO rfl rfl Try.underlying23 rfl rfl) rfl rfl ?_
     refine GoQ.pure rfl (J03 rfl) rfl rfl ?_
     obtain ⟨h96, H⟩ := H
     obtain ⟨h97, H⟩ := H
     replace au := (au.ch jH.ch).ch oe.ch
     refine GoQ.pure rfl (J02 Try.underlying23 ti31 rfl rfl h96 h97 (au.some_ h96 h97)) rfl rfl ?_
     have zz := ldSl au h96 h97
     obtain ⟨p98, c99, vM, RK⟩ := zz
     refine GoQ.stable rfl (RK Try.underlying31 rfl rfl) rfl rfl ?_
     refine GoQ.pure rfl (J03 rfl) rfl rfl ?_
     obtain ⟨y9, H⟩ := H
     obtain ⟨wN, H⟩ := H
     refine GoQ.pure rfl (J02 Try.underlying31 ti3 rfl rfl y9 wN (vM.some_ y9 wN)) rfl rfl ?_
     refine GoQ.stable rfl (ldInt vM y9 wN Try.underlying3 rfl rfl) rfl rfl ?_
     refine GoQ.pure rfl (J00 Try.underlying33 rfl ti23 rfl (by decide)) rfl rfl ?_
     refine GoQ.stable rfl (oblk (i := 1) 1 hO rfl rfl Try.underlying23 rfl rfl) rfl rfl ?_
     refine GoQ.pure rfl (J03 rfl) rfl rfl ?_
     obtain ⟨sL, H⟩ := H
     obtain ⟨uF, H⟩ := H
     refine GoQ.pure rfl (J02 Try.underlying23 ti31 rfl rfl sL uF (au.some_ sL uF)) rfl rfl ?_
     have zz := ldSl au sL uF
     obtain ⟨abM, abN, vN, RL⟩ := zz
     refine GoQ.stable rfl (RL Try.underlying31 rfl rfl) rfl rfl ?_
     refine GoQ.pure rfl (J03 rfl) rfl rfl ?_
     obtain ⟨yl, H⟩ := H
     obtain ⟨wO, H⟩ := H
     refine GoQ.pure rfl (J02 Try.underlying31 ti3 rfl rfl yl wO (vN.some_ yl wO)) rfl rfl ?_
     refine GoQ.stable rfl (ldInt vN yl wO Try.underlying3 rfl rfl) rfl rfl ?_
     have Z3 := jH.ch.trans oe.ch
     replace aE := aE.ch Z3
     replace ay := ay.ch Z3
     replace av := av.ch Z3
     replace aP := aP.ch Z3
     refine GoQ.call rfl (J0a body31 rfl (J0d (a0 := r19) hO.lt au aE ay av aP H)) (fun v w hr => by obtain ⟨_, _, hs, _⟩ := hr; assumption) rfl rfl ?_
     rintro abO T8 ⟨r112, rfl, FE, H⟩
     have j4 := Stp.same hO FE
     replace hO := j4.own
     cases r112
     ·replace H := ifn Bool.false_ne_true H
      refine GoQ.pure rfl (J0g rfl) rfl rfl ?_
      refine GoQ.pure rfl (J03 rfl) rfl rfl ?_
      refine GoQ.pass rfl rfl rfl ?_
      refine GoQ.pass rfl rfl rfl ?_
      refine GoQ.pass rfl rfl rfl ?_
      refine GoQ.pass rfl rfl rfl ?_
      refine GoQ.pass rfl rfl rfl ?_
      refine GoQ.pass rfl rfl rfl ?_
      refine GoQ.pass rfl rfl rfl ?_
      refine GoQ.pass rfl rfl rfl ?_
      refine GoQ.pass rfl rfl rfl ?_
      refine GoQ.pass rfl rfl rfl ?_
      refine GoQ.pass rfl rfl rfl ?_
      refine GoQ.pass rfl rfl rfl ?_
      refine GoQ.pass rfl rfl rfl ?_
      refine GoQ.pass rfl rfl rfl ?_
      refine GoQ.pass rfl rfl rfl ?_
      refine GoQ.pass rfl rfl rfl ?_
      refine GoQ.pass rfl rfl rfl ?_
      refine GoQ.pass rfl rfl rfl ?_
      refine GoQ.pass rfl rfl rfl ?_
      refine GoQ.pure rfl (J04 rfl rfl rfl) rfl rfl ?_
      refine GoQ.pure rfl (J03 rfl) rfl rfl ?_
      refine GoQ.pass rfl rfl rfl ?_
      refine GoQ.pass rfl rfl rfl ?_
      refine GoQ.pass rfl rfl rfl ?_
      refine GoQ.pass rfl rfl rfl ?_
      refine GoQ.pass rfl rfl rfl ?_
      refine GoQ.pass rfl rfl rfl ?_
      refine GoQ.pass rfl rfl rfl ?_
      refine GoQ.pass rfl rfl rfl ?_
      refine GoQ.pass rfl rfl rfl ?_
      refine GoQ.pass rfl rfl rfl ?_
      refine GoQ.pass rfl rfl rfl ?_
      refine GoQ.pass rfl rfl rfl ?_
      refine GoQ.pass rfl rfl rfl ?_
      refine GoQ.pure rfl (J04 rfl rfl rfl) rfl rfl ?_
      refine GoQ.pure rfl (J04 rfl rfl rfl) rfl rfl ?_
      refine GoQ.nil ?_
      refine zt rfl rfl (zq ?_)
      refine Go1.cut [] trivial ?_
      intro σ _
      refine zr (za rfl (zn ?_))
      refine Go1.ret1 Try.func7 rfl ?_
      replace hB := ((((((((((((hB.trans dX.fr).trans k8.fr).trans m7.fr).trans gt.fr).trans ke.fr).trans sX.fr).trans vK.fr).trans pE.fr).trans gJ.fr).trans nQ.fr).trans jH.fr).trans oe.fr).trans j4.fr
      exact ⟨false, rfl, hB.same, H⟩
     replace H := ifp rfl H
     refine GoQ.pure rfl (J0g rfl) rfl rfl ?_
     refine GoQ.pure rfl (J03 rfl) rfl rfl ?_
     refine GoQ.stable rfl (J0l (vs := [.int .i64 r19.Letters, .slice dq r19.Table.length dr, .slice dS r19.Words.length dT, .slice dx r19.Images.length dy, .slice dz r19.Accept.length dA, .slice eg r19.Plus.length eh]) (i := 0) 1 hO rfl rfl Try.underlying33 rfl ti33 rfl) rfl rfl ?_
     refine GoQ.pure rfl (J00 Try.underlying33 rfl ti23 rfl (by decide)) rfl rfl ?_
     refine GoQ.stable rfl (oblk (i := 1) 1 hO rfl rfl Try.underlying23 rfl rfl) rfl rfl ?_
     refine GoQ.pure rfl (J03 rfl) rfl rfl ?_
     obtain ⟨Dd, H⟩ := H
     obtain ⟨Dx, H⟩ := H
     replace au := au.ch j4.ch
     refine GoQ.pure rfl (J02 Try.underlying23 ti31 rfl rfl Dd Dx (au.some_ Dd Dx)) rfl rfl ?_
     have zz := ldSl au Dd Dx
     obtain ⟨jB, jK, xx, RM⟩ := zz
     refine GoQ.stable rfl (RM Try.underlying31 rfl rfl) rfl rfl ?_
     refine GoQ.pure rfl (J03 rfl) rfl rfl ?_
     obtain ⟨IC, H⟩ := H
     obtain ⟨ID, H⟩ := H
     refine GoQ.pure rfl (J02 Try.underlying31 ti3 rfl rfl IC ID (xx.some_ IC ID)) rfl rfl ?_
     refine GoQ.stable rfl (ldInt xx IC ID Try.underlying3 rfl rfl) rfl rfl ?_
     refine GoQ.pure rfl (J00 Try.underlying33 rfl ti23 rfl (by decide)) rfl rfl ?_
     refine GoQ.stable rfl (oblk (i := 1) 1 hO rfl rfl Try.underlying23 rfl rfl) rfl rfl ?_
     refine GoQ.pure rfl (J03 rfl) rfl rfl ?_
     obtain ⟨IE, H⟩ := H
     obtain ⟨IF, H⟩ := H
     refine GoQ.pure rfl (J02 Try.underlying23 ti31 rfl rfl IE IF (au.some_ IE IF)) rfl rfl ?_
     have zz := ldSl au IE IF
     obtain ⟨nY, n7, xz, RN⟩ := zz
     refine GoQ.stable rfl (RN Try.underlying31 rfl rfl) rfl rfl ?_
     refine GoQ.pure rfl (J03 rfl) rfl rfl ?_
     obtain ⟨wo, H⟩ := H
     obtain ⟨Ar, H⟩ := H
     refine GoQ.pure rfl (J02 Try.underlying31 ti3 rfl rfl wo Ar (xz.some_ wo Ar)) rfl rfl ?_
     refine GoQ.stable rfl (ldInt xz wo Ar Try.underlying3 rfl rfl) rfl rfl ?_
     replace aE := aE.ch j4.ch
     replace ay := ay.ch j4.ch
     replace av := av.ch j4.ch
     replace aP := aP.ch j4.ch
     refine GoQ.call rfl (J0a body31 rfl (J0d (a0 := r19) hO.lt au aE ay av aP H)) (fun v w hr => by obtain ⟨_, _, hs, _⟩ := hr; assumption) rfl rfl ?_
     rintro abP abQ ⟨r134, rfl, RO, H⟩
     have gp := Stp.same hO RO
     replace hO := gp.own
     cases r134
     ·replace H := ifn Bool.false_ne_true H
      refine GoQ.pure rfl (J0g rfl) rfl rfl ?_
      refine GoQ.pure rfl (J05 rfl rfl rfl) rfl rfl ?_
      refine GoQ.pure rfl (J03 rfl) rfl rfl ?_
      refine GoQ.pass rfl rfl rfl ?_
      refine GoQ.pass rfl rfl rfl ?_
      refine GoQ.pass rfl rfl rfl ?_
      refine GoQ.pass rfl rfl rfl ?_
      refine GoQ.pass rfl rfl rfl ?_
      refine GoQ.pass rfl rfl rfl ?_
      refine GoQ.pass rfl rfl rfl ?_
      refine GoQ.pass rfl rfl rfl ?_
      refine GoQ.pass rfl rfl rfl ?_
      refine GoQ.pass rfl rfl rfl ?_
      refine GoQ.pass rfl rfl rfl ?_
      refine GoQ.pass rfl rfl rfl ?_
      refine GoQ.pass rfl rfl rfl ?_
      refine GoQ.pure rfl (J04 rfl rfl rfl) rfl rfl ?_
      refine GoQ.pure rfl (J04 rfl rfl rfl) rfl rfl ?_
      refine GoQ.nil ?_
      refine zt rfl rfl (zq ?_)
      refine Go1.cut [] trivial ?_
      intro σ _
      refine zr (za rfl (zn ?_))
      refine Go1.ret1 Try.func7 rfl ?_
      replace hB := (((((((((((((hB.trans dX.fr).trans k8.fr).trans m7.fr).trans gt.fr).trans ke.fr).trans sX.fr).trans vK.fr).trans pE.fr).trans gJ.fr).trans nQ.fr).trans jH.fr).trans oe.fr).trans j4.fr).trans gp.fr
      exact ⟨false, rfl, hB.same, H⟩
     replace H := ifp rfl H
     refine GoQ.pure rfl (J0g rfl) rfl rfl ?_
     refine GoQ.pure rfl (J05 rfl rfl rfl) rfl rfl ?_
     refine GoQ.pure rfl (J03 rfl) rfl rfl ?_
     refine GoQ.pure rfl (J00 Try.underlying33 rfl ti22 rfl (by decide)) rfl rfl ?_
     refine GoQ.stable rfl (oblk (i := 4) 1 hO rfl rfl Try.underlying22 rfl rfl) rfl rfl ?_
     refine GoQ.pure rfl (J03 rfl) rfl rfl ?_
     obtain ⟨wq, H⟩ := H
     obtain ⟨uL, H⟩ := H
     replace av := av.ch gp.ch
     refine GoQ.pure rfl (J02 Try.underlying22 ti4 rfl rfl wq uL (av.some_ wq uL)) rfl rfl ?_
     by_cases y7 : ix r19.Accept a1 = true
     ·replace H := ifp y7 H
      refine GoQ.stable rfl (fun w hw => opB ((ldBool av wq uL Try.underlying4 rfl rfl) w hw) (y7)) rfl rfl ?_
      refine GoQ.pure rfl (J03 rfl) rfl rfl ?_
      refine GoQ.pure rfl (J00 Try.underlying33 rfl ti22 rfl (by decide)) rfl rfl ?_
      refine GoQ.stable rfl (oblk (i := 4) 1 hO rfl rfl Try.underlying22 rfl rfl) rfl rfl ?_
      refine GoQ.pure rfl (J03 rfl) rfl rfl ?_
      obtain ⟨ya, H⟩ := H
      obtain ⟨yG, H⟩ := H
      refine GoQ.pure rfl (J02 Try.underlying22 ti4 rfl rfl ya yG (av.some_ ya yG)) rfl rfl ?_
      by_cases yH : ix r19.Accept a2 = true
      ·replace H := ifp yH H
       refine GoQ.stable rfl (fun w hw => opB ((ldBool av ya yG Try.underlying4 rfl rfl) w hw) (yH)) rfl rfl ?_
       refine GoQ.pure rfl (J0g rfl) rfl rfl ?_
       refine GoQ.pure rfl (J04 rfl rfl rfl) rfl rfl ?_
       refine GoQ.pure rfl (J05 rfl rfl rfl) rfl rfl ?_
       refine GoQ.pure rfl (J04 rfl rfl rfl) rfl rfl ?_
       refine GoQ.nil ?_
       refine zf rfl rfl (zk (zq ?_))
       refine Go1.cut [] trivial ?_
       intro σ _
       refine zr ?_
       refine GoR.call (J0a body18 rfl (J0m hO.lt H)) rfl rfl ?_
       rintro abR abS ⟨r146, rfl, RQ, H⟩
       have gG := Stp.same hO RQ
       replace hO := gG.own
       refine za rfl (zn ?_)
       refine Go1.ret1 Try.func7 rfl ?_
       replace hB := ((((((((((((((hB.trans dX.fr).trans k8.fr).trans m7.fr).trans gt.fr).trans ke.fr).trans sX.fr).trans vK.fr).trans pE.fr).trans gJ.fr).trans nQ.fr).trans jH.fr).trans oe.fr).trans j4.fr).trans gp.fr).trans gG.fr
       exact ⟨r146, rfl, hB.same, H⟩
      replace H := ifn yH H
      refine GoQ.stable rfl (fun w hw => opB ((ldBool av ya yG Try.underlying4 rfl rfl) w hw) (Bool.eq_false_iff.2 yH)) rfl rfl ?_
      refine GoQ.pure rfl (J0g rfl) rfl rfl ?_
      refine GoQ.pure rfl (J04 rfl rfl rfl) rfl rfl ?_
      refine GoQ.pure rfl (J05 rfl rfl rfl) rfl rfl ?_
      refine GoQ.pure rfl (J04 rfl rfl rfl) rfl rfl ?_
      refine GoQ.nil ?_
      refine zt rfl rfl (zq (zr (za rfl (zn ?_))))
      refine Go1.ret1 Try.func7 rfl ?_
      replace hB := (((((((((((((hB.trans dX.fr).trans k8.fr).trans m7.fr).trans gt.fr).trans ke.fr).trans sX.fr).trans vK.fr).trans pE.fr).trans gJ.fr).trans nQ.fr).trans jH.fr).trans oe.fr).trans j4.fr).trans gp.fr
      exact ⟨false, rfl, hB.same, H⟩
     replace H := ifn y7 H
     refine GoQ.stable rfl (fun w hw => opB ((ldBool av wq uL Try.underlying4 rfl rfl) w hw) (Bool.eq_false_iff.2 y7)) rfl rfl ?_
     refine GoQ.pure rfl (J03 rfl) rfl rfl ?_
     refine GoQ.pass rfl rfl rfl ?_
     refine GoQ.pass rfl rfl rfl ?_
     refine GoQ.pass rfl rfl rfl ?_
     refine GoQ.pass rfl rfl rfl ?_
     refine GoQ.pass rfl rfl rfl ?_
     refine GoQ.pass rfl rfl rfl ?_
     refine GoQ.pure rfl (J05 rfl rfl rfl) rfl rfl ?_
     refine GoQ.pure rfl (J05 rfl rfl rfl) rfl rfl ?_
     refine GoQ.pure rfl (J04 rfl rfl rfl) rfl rfl ?_
     refine GoQ.nil ?_
     refine zf rfl rfl (zk (zq (zr ?_)))
     refine GoR.call (J0a body18 rfl (J0m hO.lt H)) rfl rfl ?_
     rintro abT abU ⟨r152, rfl, RR, H⟩
     have iX := Stp.same hO RR
     replace hO := iX.own
     refine za rfl (zn ?_)
     refine Go1.ret1 Try.func7 rfl ?_
     replace hB := ((((((((((((((hB.trans dX.fr).trans k8.fr).trans m7.fr).trans gt.fr).trans ke.fr).trans sX.fr).trans vK.fr).trans pE.fr).trans gJ.fr).trans nQ.fr).trans jH.fr).trans oe.fr).trans j4.fr).trans gp.fr).trans iX.fr
     exact ⟨r152, rfl, hB.same, H⟩
    replace H := ifp rfl H
    refine zs (J0l (vs := [.int .i64 r19.Letters, .slice dq r19.Table.length dr, .slice dS r19.Words.length dT, .slice dx r19.Images.length dy, .slice dz r19.Accept.length dA, .slice eg r19.Plus.length eh]) (i := 0) 1 hO rfl rfl Try.underlying33 rfl ti33 rfl) (zm rfl (zm rfl ?_))
    replace au := au.ch jH.ch
    replace aE := aE.ch jH.ch
    replace ay := ay.ch jH.ch
    replace av := av.ch jH.ch
    replace aP := aP.ch jH.ch
    refine GoR.call (J0a body31 rfl (J0d (a0 := r19) hO.lt au aE ay av aP H)) rfl rfl ?_
    rintro abV abX ⟨r158, rfl, RS, H⟩
    have uj := Stp.same hO RS
    replace hO := uj.own
    cases r158
    ·replace H := ifn Bool.false_ne_true H
     refine zo (J0g rfl) (zo (J04 rfl rfl rfl) (zo (J05 rfl rfl rfl) (zn (zt rfl rfl (zq ?_)))))
     refine Go1.cut [] trivial ?_
     intro σ _
     refine zr (za rfl (zn ?_))
     refine Go1.ret1 Try.func7 rfl ?_
     replace hB := (((((((((((hB.trans dX.fr).trans k8.fr).trans m7.fr).trans gt.fr).trans ke.fr).trans sX.fr).trans vK.fr).trans pE.fr).trans gJ.fr).trans nQ.fr).trans jH.fr).trans uj.fr
     exact ⟨false, rfl, hB.same, H⟩
    replace H := ifp rfl H
    refine zo (J0g rfl) (zo (J04 rfl rfl rfl) (zo (J05 rfl rfl rfl) (zn (zf rfl rfl (zk ?_)))))
    refine zq (zq ?_)
    refine Go1.drawSF [0, 1, 2, 2, 10, 2, 50, 66, 2, 386, 514, 2, 2050, 2, 12290, 16386, 2, 98306, 131074, 263174, 524290, 1572866, 2097152, 2097152, 10485760, 2097152, 52428800, 69206016, 2097152, 404750336, 538968064, 2097152, 2149580800, 2097152, 12886999040, 17181966336, 2097152, 103081312256, 137441050624, 275957940224, 549757911040, 1099513724930, 2748779069442, 4398046511104, 13194139533312, 4398046511104, 57174604644352, 74766790688768, 145135534866432, 281474976710656, 844424930131968, 281474976710656, 3659174697238528, 4785074604081152, 9288674231451648, 18300271532703744, 36033195065475074, 72057594037927938] [1, 3, 7, 15, 31, 63, 127, 255, 511, 1023, 2047, 4095, 8191, 16383, 32767, 65535, 131071, 262143, 524287, 1048575, 2097151, 4194303, 8388607, 16777215, 33554431, 67108863, 134217727, 268435455, 536870911, 1073741823, 2147483647, 4294967295, 8589934591, 17179869183, 34359738367, 68719476735, 137438953471, 274877906943, 549755813887, 1099511627775, 2199023255551, 4398046511103, 8796093022207, 17592186044415, 35184372088831, 70368744177663, 140737488355327, 281474976710655, 562949953421311, 1125899906842623, 2251799813685247, 4503599627370495, 9007199254740991, 18014398509481983, 36028797018963967, 72057594037927935, 144115188075855871, 288230376151711743] 0 [(0, .pure), (1, .pure), (2, .stable), (3, .pure), (4, .stable), (5, .pure), (6, .pure), (7, .stable), (8, .pure), (9, .pure), (10, .stable), (11, .pure), (12, .stable), (13, .pure), (14, .pure), (15, .stable), (16, .pure), (17, .pure), (18, .stable), (19, .loud), (20, .pure), (21, .pure), (22, .stable), (23, .pure), (24, .stable), (25, .pure), (26, .pure), (27, .stable), (28, .pure), (29, .pure), (30, .stable), (31, .pure), (32, .stable), (33, .pure), (34, .pure), (35, .stable), (36, .pure), (37, .pure), (38, .stable), (39, .loud), (40, .pure), (41, .pure), (42, .pure), (43, .pure), (44, .stable), (45, .pure), (46, .pure), (47, .stable), (48, .pure), (49, .pure), (50, .stable), (51, .pure), (52, .pure), (53, .stable), (54, .pure), (55, .pure), (56, .pure), (57, .pure)] mixed (by kernel_rfl) ?_
    intro Ts Fj
    have gz := Stp.same hO Fj
    replace hO := gz.own
    refine GoQ.pure rfl (J03 rfl) rfl rfl ?_
    refine GoQ.pure rfl (J03 rfl) rfl rfl ?_
    refine GoQ.stable rfl (J0l (vs := [.int .i64 r19.Letters, .slice dq r19.Table.length dr, .slice dS r19.Words.length dT, .slice dx r19.Images.length dy, .slice dz r19.Accept.length dA, .slice eg r19.Plus.length eh]) (i := 0) 1 hO rfl rfl Try.underlying33 rfl ti33 rfl) rfl rfl ?_
    refine GoQ.pure rfl (J00 Try.underlying33 rfl ti23 rfl (by decide)) rfl rfl ?_
    refine GoQ.stable rfl (oblk (i := 1) 1 hO rfl rfl Try.underlying23 rfl rfl) rfl rfl ?_
    refine GoQ.pure rfl (J03 rfl) rfl rfl ?_
    obtain ⟨IG, H⟩ := H
    obtain ⟨AG, H⟩ := H
    replace au := (au.ch uj.ch).ch gz.ch
    refine GoQ.pure rfl (J02 Try.underlying23 ti31 rfl rfl IG AG (au.some_ IG AG)) rfl rfl ?_
    have zz := ldSl au IG AG
    obtain ⟨abY, ab0, vO, RT⟩ := zz
    refine GoQ.stable rfl (RT Try.underlying31 rfl rfl) rfl rfl ?_
    refine GoQ.pure rfl (J03 rfl) rfl rfl ?_
    obtain ⟨ws, H⟩ := H
    obtain ⟨AH, H⟩ := H
    refine GoQ.pure rfl (J02 Try.underlying31 ti3 rfl rfl ws AH (vO.some_ ws AH)) rfl rfl ?_
    refine GoQ.stable rfl (ldInt vO ws AH Try.underlying3 rfl rfl) rfl rfl ?_
    refine GoQ.pure rfl (J00 Try.underlying33 rfl ti23 rfl (by decide)) rfl rfl ?_
    refine GoQ.stable rfl (oblk (i := 1) 1 hO rfl rfl Try.underlying23 rfl rfl) rfl rfl ?_
    refine GoQ.pure rfl (J03 rfl) rfl rfl ?_
    obtain ⟨xN, H⟩ := H
    obtain ⟨IH, H⟩ := H
    refine GoQ.pure rfl (J02 Try.underlying23 ti31 rfl rfl xN IH (au.some_ xN IH)) rfl rfl ?_
    have zz := ldSl au xN IH
    obtain ⟨Uw, ab1, vP, RU⟩ := zz
    refine GoQ.stable rfl (RU Try.underlying31 rfl rfl) rfl rfl ?_
    refine GoQ.pure rfl (J03 rfl) rfl rfl ?_
    obtain ⟨II, H⟩ := H
    obtain ⟨DE, H⟩ := H
    refine GoQ.pure rfl (J02 Try.underlying31 ti3 rfl rfl II DE (vP.some_ II DE)) rfl rfl ?_
    refine GoQ.stable rfl (ldInt vP II DE Try.underlying3 rfl rfl) rfl rfl ?_
    have Z4 := uj.ch.trans gz.ch
    replace aE := aE.ch Z4
    replace ay := ay.ch Z4
    replace av := av.ch Z4
    replace aP := aP.ch Z4
    refine GoQ.call rfl (J0a body31 rfl (J0d (a0 := r19) hO.lt au aE ay av aP H)) (fun v w hr => by obtain ⟨_, _, hs, _⟩ := hr; assumption) rfl rfl ?_
    rintro ab2 ab3 ⟨r183, rfl, RV, H⟩
    have sF := Stp.same hO RV
    replace hO := sF.own
    cases r183
    ·replace H := ifn Bool.false_ne_true H
     refine GoQ.pure rfl (J0g rfl) rfl rfl ?_
     refine GoQ.pure rfl (J03 rfl) rfl rfl ?_
     refine GoQ.pass rfl rfl rfl ?_
     refine GoQ.pass rfl rfl rfl ?_
     refine GoQ.pass rfl rfl rfl ?_
     refine GoQ.pass rfl rfl rfl ?_
     refine GoQ.pass rfl rfl rfl ?_
     refine GoQ.pass rfl rfl rfl ?_
     refine GoQ.pass rfl rfl rfl ?_
     refine GoQ.pass rfl rfl rfl ?_
     refine GoQ.pass rfl rfl rfl ?_
     refine GoQ.pass rfl rfl rfl ?_
     refine GoQ.pass rfl rfl rfl ?_
     refine GoQ.pass rfl rfl rfl ?_
     refine GoQ.pass rfl rfl rfl ?_
     refine GoQ.pass rfl rfl rfl ?_
     refine GoQ.pass rfl rfl rfl ?_
     refine GoQ.pass rfl rfl rfl ?_
     refine GoQ.pass rfl rfl rfl ?_
     refine GoQ.pass rfl rfl rfl ?_
     refine GoQ.pass rfl rfl rfl ?_
     refine GoQ.pure rfl (J04 rfl rfl rfl) rfl rfl ?_
     refine GoQ.pure rfl (J03 rfl) rfl rfl ?_
     refine GoQ.pass rfl rfl rfl ?_
     refine GoQ.pass rfl rfl rfl ?_
     refine GoQ.pass rfl rfl rfl ?_
     refine GoQ.pass rfl rfl rfl ?_
     refine GoQ.pass rfl rfl rfl ?_
     refine GoQ.pass rfl rfl rfl ?_
     refine GoQ.pass rfl rfl rfl ?_
     refine GoQ.pass rfl rfl rfl ?_
     refine GoQ.pass rfl rfl rfl ?_
     refine GoQ.pass rfl rfl rfl ?_
     refine GoQ.pass rfl rfl rfl ?_
     refine GoQ.pass rfl rfl rfl ?_
     refine GoQ.pass rfl rfl rfl ?_
     refine GoQ.pure rfl (J04 rfl rfl rfl) rfl rfl ?_
     refine GoQ.pure rfl (J04 rfl rfl rfl) rfl rfl ?_
     refine GoQ.nil ?_
     refine zt rfl rfl (zq ?_)
     refine Go1.cut [] trivial ?_
     intro σ _
     refine zr (za rfl (zn ?_))
     refine Go1.ret1 Try.func7 rfl ?_
     replace hB := (((((((((((((hB.trans dX.fr).trans k8.fr).trans m7.fr).trans gt.fr).trans ke.fr).trans sX.fr).trans vK.fr).trans pE.fr).trans gJ.fr).trans nQ.fr).trans jH.fr).trans uj.fr).trans gz.fr).trans sF.fr
     exact ⟨false, rfl, hB.same, H⟩
    replace H := ifp rfl H
    refine GoQ.pure rfl (J0g rfl) rfl rfl ?_
    refine GoQ.pure rfl (J03 rfl) rfl rfl ?_
    refine GoQ.stable rfl (J0l (vs := [.int .i64 r19.Letters, .slice dq r19.Table.length dr, .slice dS r19.Words.length dT, .slice dx r19.Images.length dy, .slice dz r19.Accept.length dA, .slice eg r19.Plus.length eh]) (i := 0) 1 hO rfl rfl Try.underlying33 rfl ti33 rfl) rfl rfl ?_
    refine GoQ.pure rfl (J00 Try.underlying33 rfl ti23 rfl (by decide)) rfl rfl ?_
    refine GoQ.stable rfl (oblk (i := 1) 1 hO rfl rfl Try.underlying23 rfl rfl) rfl rfl ?_
    refine GoQ.pure rfl (J03 rfl) rfl rfl ?_
    obtain ⟨El, H⟩ := H
    obtain ⟨wr, H⟩ := H
    replace au := au.ch sF.ch
    refine GoQ.pure rfl (J02 Try.underlying23 ti31 rfl rfl El wr (au.some_ El wr)) rfl rfl ?_
    have zz := ldSl au El wr
    obtain ⟨cj, ck, xA, RW⟩ := zz
    refine GoQ.stable rfl (RW Try.underlying31 rfl rfl) rfl rfl ?_
    refine GoQ.pure rfl (J03 rfl) rfl rfl ?_
    obtain ⟨IJ, H⟩ := H
    obtain ⟨IK, H⟩ := H
    refine GoQ.pure rfl (J02 Try.underlying31 ti3 rfl rfl IJ IK (xA.some_ IJ IK)) rfl rfl ?_
    refine GoQ.stable rfl (ldInt xA IJ IK Try.underlying3 rfl rfl) rfl rfl ?_
    refine GoQ.pure rfl (J00 Try.underlying33 rfl ti23 rfl (by decide)) rfl rfl ?_
    refine GoQ.stable rfl (oblk (i := 1) 1 hO rfl rfl Try.underlying23 rfl rfl) rfl rfl ?_
    refine GoQ.pure rfl (J03 rfl) rfl rfl ?_
    obtain ⟨IL, H⟩ := H
    obtain ⟨IM, H⟩ := H
    refine GoQ.pure rfl (J02 Try.underlying23 ti31 rfl rfl IL IM (au.some_ IL IM)) rfl rfl ?_
    have zz := ldSl au IL IM
    obtain ⟨vh, ab4, xB, RX⟩ := zz
    refine GoQ.stable rfl (RX Try.underlying31 rfl rfl) rfl rfl ?_
    refine GoQ.pure rfl (J03 rfl) rfl rfl ?_
    obtain ⟨At, H⟩ := H
    obtain ⟨wQ, H⟩ := H
    refine GoQ.pure rfl (J02 Try.underlying31 ti3 rfl rfl At wQ (xB.some_ At wQ)) rfl rfl ?_
    refine GoQ.stable rfl (ldInt xB At wQ Try.underlying3 rfl rfl) rfl rfl ?_
    replace aE := aE.ch sF.ch
    replace ay := ay.ch sF.ch
    replace av := av.ch sF.ch
    replace aP := aP.ch sF.ch
    refine GoQ.call rfl (J0a body31 rfl (J0d (a0 := r19) hO.lt au aE ay av aP H)) (fun v w hr => by obtain ⟨_, _, hs, _⟩ := hr; assumption) rfl rfl ?_
    rintro ab5 LH ⟨r205, rfl, RY, H⟩
    have po := Stp.same hO RY
    replace hO := po.own
    cases r205
    ·replace H := ifn Bool.false_ne_true H
     refine GoQ.pure rfl (J0g rfl) rfl rfl ?_
     refine GoQ.pure rfl (J05 rfl rfl rfl) rfl rfl ?_
     refine GoQ.pure rfl (J03 rfl) rfl rfl ?_
     refine GoQ.pass rfl rfl rfl ?_
     refine GoQ.pass rfl rfl rfl ?_
     refine GoQ.pass rfl rfl rfl ?_
     refine GoQ.pass rfl rfl rfl ?_
     refine GoQ.pass rfl rfl rfl ?_
     refine GoQ.pass rfl rfl rfl ?_
     refine GoQ.pass rfl rfl rfl ?_
     refine GoQ.pass rfl rfl rfl ?_
     refine GoQ.pass rfl rfl rfl ?_
     refine GoQ.pass rfl rfl rfl ?_
     refine GoQ.pass rfl rfl rfl ?_
     refine GoQ.pass rfl rfl rfl ?_
     refine GoQ.pass rfl rfl rfl ?_
     refine GoQ.pure rfl (J04 rfl rfl rfl) rfl rfl ?_
     refine GoQ.pure rfl (J04 rfl rfl rfl) rfl rfl ?_
     refine GoQ.nil ?_
     refine zt rfl rfl (zq ?_)
     refine Go1.cut [] trivial ?_
     intro σ _
     refine zr (za rfl (zn ?_))
     refine Go1.ret1 Try.func7 rfl ?_
     replace hB := ((((((((((((((hB.trans dX.fr).trans k8.fr).trans m7.fr).trans gt.fr).trans ke.fr).trans sX.fr).trans vK.fr).trans pE.fr).trans gJ.fr).trans nQ.fr).trans jH.fr).trans uj.fr).trans gz.fr).trans sF.fr).trans po.fr
     exact ⟨false, rfl, hB.same, H⟩
    replace H := ifp rfl H
    refine GoQ.pure rfl (J0g rfl) rfl rfl ?_
    refine GoQ.pure rfl (J05 rfl rfl rfl) rfl rfl ?_
    refine GoQ.pure rfl (J03 rfl) rfl rfl ?_
    refine GoQ.pure rfl (J00 Try.underlying33 rfl ti22 rfl (by decide)) rfl rfl ?_
    refine GoQ.stable rfl (oblk (i := 4) 1 hO rfl rfl Try.underlying22 rfl rfl) rfl rfl ?_
    refine GoQ.pure rfl (J03 rfl) rfl rfl ?_
    obtain ⟨y8, H⟩ := H
    obtain ⟨xI, H⟩ := H
    replace av := av.ch po.ch
    refine GoQ.pure rfl (J02 Try.underlying22 ti4 rfl rfl y8 xI (av.some_ y8 xI)) rfl rfl ?_
    by_cases yc : ix r19.Accept a1 = true
    ·replace H := ifp yc H
     refine GoQ.stable rfl (fun w hw => opB ((ldBool av y8 xI Try.underlying4 rfl rfl) w hw) (yc)) rfl rfl ?_
     refine GoQ.pure rfl (J03 rfl) rfl rfl ?_
     refine GoQ.pure rfl (J00 Try.underlying33 rfl ti22 rfl (by decide)) rfl rfl ?_
     refine GoQ.stable rfl (oblk (i := 4) 1 hO rfl rfl Try.underlying22 rfl rfl) rfl rfl ?_
     refine GoQ.pure rfl (J03 rfl) rfl rfl ?_
     obtain ⟨yK, H⟩ := H
     obtain ⟨yL, H⟩ := H
     refine GoQ.pure rfl (J02 Try.underlying22 ti4 rfl rfl yK yL (av.some_ yK yL)) rfl rfl ?_
     by_cases F9 : ix r19.Accept a2 = true
     ·replace H := ifp F9 H
      refine GoQ.stable rfl (fun w hw => opB ((ldBool av yK yL Try.underlying4 rfl rfl) w hw) (F9)) rfl rfl ?_
      refine GoQ.pure rfl (J0g rfl) rfl rfl ?_
      refine GoQ.pure rfl (J04 rfl rfl rfl) rfl rfl ?_
      refine GoQ.pure rfl (J05 rfl rfl rfl) rfl rfl ?_
      refine GoQ.pure rfl (J04 rfl rfl rfl) rfl rfl ?_
      refine GoQ.nil ?_
      refine zf rfl rfl (zk (zq ?_))
      refine Go1.cut [] trivial ?_
      intro σ _
      refine zr ?_
      refine GoR.call (J0a body18 rfl (J0m hO.lt H)) rfl rfl ?_
      rintro ab6 ab7 ⟨r217, rfl, R0, H⟩
      have eV := Stp.same hO R0
      replace hO := eV.own
      refine za rfl (zn ?_)
      refine Go1.ret1 Try.func7 rfl ?_
      replace hB := (((((((((((((((hB.trans dX.fr).trans k8.fr).trans m7.fr).trans gt.fr).trans ke.fr).trans sX.fr).trans vK.fr).trans pE.fr).trans gJ.fr).trans nQ.fr).trans jH.fr).trans uj.fr).trans gz.fr).trans sF.fr).trans po.fr).trans eV.fr
      exact ⟨r217, rfl, hB.same, H⟩
     replace H := ifn F9 H
     refine GoQ.stable rfl (fun w hw => opB ((ldBool av yK yL Try.underlying4 rfl rfl) w hw) (Bool.eq_false_iff.2 F9)) rfl rfl ?_
     refine GoQ.pure rfl (J0g rfl) rfl rfl ?_
     refine GoQ.pure rfl (J04 rfl rfl rfl) rfl rfl ?_
     refine GoQ.pure rfl (J05 rfl rfl rfl) rfl rfl ?_
     refine GoQ.pure rfl (J04 rfl rfl rfl) rfl rfl ?_
     refine GoQ.nil ?_
     refine zt rfl rfl (zq (zr (za rfl (zn ?_))))
     refine Go1.ret1 Try.func7 rfl ?_
     replace hB := ((((((((((((((hB.trans dX.fr).trans k8.fr).trans m7.fr).trans gt.fr).trans ke.fr).trans sX.fr).trans vK.fr).trans pE.fr).trans gJ.fr).trans nQ.fr).trans jH.fr).trans uj.fr).trans gz.fr).trans sF.fr).trans po.fr
     exact ⟨false, rfl, hB.same, H⟩
    replace H := ifn yc H
    refine GoQ.stable rfl (fun w hw => opB ((ldBool av y8 xI Try.underlying4 rfl rfl) w hw) (Bool.eq_false_iff.2 yc)) rfl rfl ?_
    refine GoQ.pure rfl (J03 rfl) rfl rfl ?_
    refine GoQ.pass rfl rfl rfl ?_
    refine GoQ.pass rfl rfl rfl ?_
    refine GoQ.pass rfl rfl rfl ?_
    refine GoQ.pass rfl rfl rfl ?_
    refine GoQ.pass rfl rfl rfl ?_
    refine GoQ.pass rfl rfl rfl ?_
    refine GoQ.pure rfl (J05 rfl rfl rfl) rfl rfl ?_
    refine GoQ.pure rfl (J05 rfl rfl rfl) rfl rfl ?_
    refine GoQ.pure rfl (J04 rfl rfl rfl) rfl rfl ?_
    refine GoQ.nil ?_
    refine zf rfl rfl (zk (zq (zr ?_)))
    refine GoR.call (J0a body18 rfl (J0m hO.lt H)) rfl rfl ?_
    rintro ab8 ab9 ⟨r223, rfl, JB, H⟩
    have lm := Stp.same hO JB
    replace hO := lm.own
    refine za rfl (zn ?_)
    refine Go1.ret1 Try.func7 rfl ?_
    replace hB := (((((((((((((((hB.trans dX.fr).trans k8.fr).trans m7.fr).trans gt.fr).trans ke.fr).trans sX.fr).trans vK.fr).trans pE.fr).trans gJ.fr).trans nQ.fr).trans jH.fr).trans uj.fr).trans gz.fr).trans sF.fr).trans po.fr).trans lm.fr
    exact ⟨r223, rfl, hB.same, H⟩
   replace H := ifp rfl H
   refine zm rfl (zm rfl ?_)
   by_cases B6 : a1 = a2
   ·replace H := ifp B6 H
    refine zo (fun w => opB (J0j rfl rfl w) (ndT B6)) (zo (J04 rfl rfl rfl) (zo (J05 rfl rfl rfl) (zm rfl (zm rfl (zm rfl ?_)))))
    refine zs (J0l (vs := [.int .i64 r19.Letters, .slice dq r19.Table.length dr, .slice dS r19.Words.length dT, .slice dx r19.Images.length dy, .slice dz r19.Accept.length dA, .slice eg r19.Plus.length eh]) (i := 0) 1 hO rfl rfl Try.underlying33 rfl ti33 rfl) (zm rfl (zm rfl ?_))
    replace au := au.ch nQ.ch
    replace aE := aE.ch nQ.ch
    replace ay := ay.ch nQ.ch
    replace av := av.ch nQ.ch
    replace aP := aP.ch nQ.ch
    refine GoR.call (J0a body31 rfl (J0d (a0 := r19) hO.lt au aE ay av aP H)) rfl rfl ?_
    rintro aca acb ⟨r230, rfl, R2, H⟩
    have jj := Stp.same hO R2
    replace hO := jj.own
    refine zo (J04 rfl rfl rfl) (zm rfl ?_)
    cases r230
    ·replace H := ifn Bool.false_ne_true H
     refine zp (zp (zp (zp (zp (zo (J05 rfl rfl rfl) ?_)))))
     refine zo (J05 rfl rfl rfl) (zn (zf rfl rfl (zk (zq (zq ?_)))))
     refine Go1.cut [(1, .int .i64 a1), (2, .int .i64 a2), (3, .int .i64 a3), (9, .pointer (some ⟨B27, 0, none⟩)), (11, .bool true)] ⟨rfl, rfl, rfl, rfl, rfl, trivial⟩ ?_
     intro σ _
     refine Go1.drawSF [0, 1, 2, 2, 10, 2, 50, 66, 2, 386, 514, 2, 2050, 2, 12290, 16386, 2, 98306, 131074, 263174, 524290, 1572866, 2097152, 2097152, 10485760, 2097152, 52428800, 69206016, 2097152, 404750336, 538968064, 2097152, 2149580800, 2097152, 12886999040, 17181966336, 2097152, 103081312256, 137441050624, 275957940224, 549757911040, 1099513724930, 2748779069442, 4398046511104, 13194139533312, 4398046511104, 57174604644352, 74766790688768, 145135534866432, 281474976710656, 844424930131968, 281474976710656, 3659174697238528, 4785074604081152, 9288674231451648, 18300271532703744, 36033195065475074, 72057594037927938] [1, 3, 7, 15, 31, 63, 127, 255, 511, 1023, 2047, 4095, 8191, 16383, 32767, 65535, 131071, 262143, 524287, 1048575, 2097151, 4194303, 8388607, 16777215, 33554431, 67108863, 134217727, 268435455, 536870911, 1073741823, 2147483647, 4294967295, 8589934591, 17179869183, 34359738367, 68719476735, 137438953471, 274877906943, 549755813887, 1099511627775, 2199023255551, 4398046511103, 8796093022207, 17592186044415, 35184372088831, 70368744177663, 140737488355327, 281474976710655, 562949953421311, 1125899906842623, 2251799813685247, 4503599627370495, 9007199254740991, 18014398509481983, 36028797018963967, 72057594037927935, 144115188075855871, 288230376151711743] 0 [(0, .pure), (1, .pure), (2, .stable), (3, .pure), (4, .stable), (5, .pure), (6, .pure), (7, .stable), (8, .pure), (9, .pure), (10, .stable), (11, .pure), (12, .stable), (13, .pure), (14, .pure), (15, .stable), (16, .pure), (17, .pure), (18, .stable), (19, .loud), (20, .pure), (21, .pure), (22, .stable), (23, .pure), (24, .stable), (25, .pure), (26, .pure), (27, .stable), (28, .pure), (29, .pure), (30, .stable), (31, .pure), (32, .stable), (33, .pure), (34, .pure), (35, .stable), (36, .pure), (37, .pure), (38, .stable), (39, .loud), (40, .pure), (41, .pure), (42, .pure), (43, .pure), (44, .stable), (45, .pure), (46, .pure), (47, .stable), (48, .pure), (49, .pure), (50, .stable), (51, .pure), (52, .pure), (53, .stable), (54, .pure), (55, .pure), (56, .pure), (57, .pure)] mixed (by kernel_rfl) ?_
     intro JW R3
     have gh := Stp.same hO R3
     replace hO := gh.own
     refine GoQ.pure rfl (J03 rfl) rfl rfl ?_
     refine GoQ.pure rfl (J03 rfl) rfl rfl ?_
     refine GoQ.stable rfl (J0l (vs := [.int .i64 r19.Letters, .slice dq r19.Table.length dr, .slice dS r19.Words.length dT, .slice dx r19.Images.length dy, .slice dz r19.Accept.length dA, .slice eg r19.Plus.length eh]) (i := 0) 1 hO rfl rfl Try.underlying33 rfl ti33 rfl) rfl rfl ?_
     refine GoQ.pure rfl (J00 Try.underlying33 rfl ti23 rfl (by decide)) rfl rfl ?_
     refine GoQ.stable rfl (oblk (i := 1) 1 hO rfl rfl Try.underlying23 rfl rfl) rfl rfl ?_
     refine GoQ.pure rfl (J03 rfl) rfl rfl ?_
     obtain ⟨IN, H⟩ := H
     obtain ⟨IQ, H⟩ := H
     replace au := (au.ch jj.ch).ch gh.ch
     refine GoQ.pure rfl (J02 Try.underlying23 ti31 rfl rfl IN IQ (au.some_ IN IQ)) rfl rfl ?_
     have zz := ldSl au IN IQ
     obtain ⟨acd, ace, jt, R4⟩ := zz
     refine GoQ.stable rfl (R4 Try.underlying31 rfl rfl) rfl rfl ?_
     refine GoQ.pure rfl (J03 rfl) rfl rfl ?_
     obtain ⟨IR, H⟩ := H
     obtain ⟨Dj, H⟩ := H
     refine GoQ.pure rfl (J02 Try.underlying31 ti3 rfl rfl IR Dj (jt.some_ IR Dj)) rfl rfl ?_
     refine GoQ.stable rfl (ldInt jt IR Dj Try.underlying3 rfl rfl) rfl rfl ?_
     refine GoQ.pure rfl (J00 Try.underlying33 rfl ti23 rfl (by decide)) rfl rfl ?_
     refine GoQ.stable rfl (oblk (i := 1) 1 hO rfl rfl Try.underlying23 rfl rfl) rfl rfl ?_
     refine GoQ.pure rfl (J03 rfl) rfl rfl ?_
     obtain ⟨IS, H⟩ := H
     obtain ⟨IT, H⟩ := H
     refine GoQ.pure rfl (J02 Try.underlying23 ti31 rfl rfl IS IT (au.some_ IS IT)) rfl rfl ?_
     have zz := ldSl au IS IT
     obtain ⟨acf, acg, vQ, R5⟩ := zz
     refine GoQ.stable rfl (R5 Try.underlying31 rfl rfl) rfl rfl ?_
     refine GoQ.pure rfl (J03 rfl) rfl rfl ?_
     obtain ⟨AY, H⟩ := H
     obtain ⟨A4, H⟩ := H
     refine GoQ.pure rfl (J02 Try.underlying31 ti3 rfl rfl AY A4 (vQ.some_ AY A4)) rfl rfl ?_
     refine GoQ.stable rfl (ldInt vQ AY A4 Try.underlying3 rfl rfl) rfl rfl ?_
     have Z5 := jj.ch.trans gh.ch
     replace aE := aE.ch Z5
     replace ay := ay.ch Z5
     replace av := av.ch Z5
     replace aP := aP.ch Z5
     refine GoQ.call rfl (J0a body31 rfl (J0d (a0 := r19) hO.lt au aE ay av aP H)) (fun v w hr => by obtain ⟨_, _, hs, _⟩ := hr; assumption) rfl rfl ?_
     rintro ach aci ⟨r255, rfl, R6, H⟩
     have jv := Stp.same hO R6
     replace hO := jv.own
     cases r255
     ·replace H := ifn Bool.false_ne_true H
      refine GoQ.pure rfl (J0g rfl) rfl rfl ?_
      refine GoQ.pure rfl (J03 rfl) rfl rfl ?_
      refine GoQ.pass rfl rfl rfl ?_
      refine GoQ.pass rfl rfl rfl ?_
      refine GoQ.pass rfl rfl rfl ?_
      refine GoQ.pass rfl rfl rfl ?_
      refine GoQ.pass rfl rfl rfl ?_
      refine GoQ.pass rfl rfl rfl ?_
      refine GoQ.pass rfl rfl rfl ?_
      refine GoQ.pass rfl rfl rfl ?_
      refine GoQ.pass rfl rfl rfl ?_
      refine GoQ.pass rfl rfl rfl ?_
      refine GoQ.pass rfl rfl rfl ?_
      refine GoQ.pass rfl rfl rfl ?_
      refine GoQ.pass rfl rfl rfl ?_
      refine GoQ.pass rfl rfl rfl ?_
      refine GoQ.pass rfl rfl rfl ?_
      refine GoQ.pass rfl rfl rfl ?_
      refine GoQ.pass rfl rfl rfl ?_
      refine GoQ.pass rfl rfl rfl ?_
      refine GoQ.pass rfl rfl rfl ?_
      refine GoQ.pure rfl (J04 rfl rfl rfl) rfl rfl ?_
      refine GoQ.pure rfl (J03 rfl) rfl rfl ?_
      refine GoQ.pass rfl rfl rfl ?_
      refine GoQ.pass rfl rfl rfl ?_
      refine GoQ.pass rfl rfl rfl ?_
      refine GoQ.pass rfl rfl rfl ?_
      refine GoQ.pass rfl rfl rfl ?_
      refine GoQ.pass rfl rfl rfl ?_
      refine GoQ.pass rfl rfl rfl ?_
      refine GoQ.pass rfl rfl rfl ?_
      refine GoQ.pass rfl rfl rfl ?_
      refine GoQ.pass rfl rfl rfl ?_
      refine GoQ.pass rfl rfl rfl ?_
      refine GoQ.pass rfl rfl rfl ?_
      refine GoQ.pass rfl rfl rfl ?_
      refine GoQ.pure rfl (J04 rfl rfl rfl) rfl rfl ?_
      refine GoQ.pure rfl (J04 rfl rfl rfl) rfl rfl ?_
      refine GoQ.nil ?_
      refine zt rfl rfl (zq ?_)
      refine Go1.cut [] trivial ?_
      intro σ _
      refine zr (za rfl (zn ?_))
      refine Go1.ret1 Try.func7 rfl ?_
      replace hB := ((((((((((((hB.trans dX.fr).trans k8.fr).trans m7.fr).trans gt.fr).trans ke.fr).trans sX.fr).trans vK.fr).trans pE.fr).trans gJ.fr).trans nQ.fr).trans jj.fr).trans gh.fr).trans jv.fr
      exact ⟨false, rfl, hB.same, H⟩
     replace H := ifp rfl H
     refine GoQ.pure rfl (J0g rfl) rfl rfl ?_
     refine GoQ.pure rfl (J03 rfl) rfl rfl ?_
     refine GoQ.stable rfl (J0l (vs := [.int .i64 r19.Letters, .slice dq r19.Table.length dr, .slice dS r19.Words.length dT, .slice dx r19.Images.length dy, .slice dz r19.Accept.length dA, .slice eg r19.Plus.length eh]) (i := 0) 1 hO rfl rfl Try.underlying33 rfl ti33 rfl) rfl rfl ?_
     refine GoQ.pure rfl (J00 Try.underlying33 rfl ti23 rfl (by decide)) rfl rfl ?_
     refine GoQ.stable rfl (oblk (i := 1) 1 hO rfl rfl Try.underlying23 rfl rfl) rfl rfl ?_
     refine GoQ.pure rfl (J03 rfl) rfl rfl ?_
     obtain ⟨DR, H⟩ := H
     obtain ⟨D5, H⟩ := H
     replace au := au.ch jv.ch
     refine GoQ.pure rfl (J02 Try.underlying23 ti31 rfl rfl DR D5 (au.some_ DR D5)) rfl rfl ?_
     have zz := ldSl au DR D5
     obtain ⟨yt, yu, xC, R7⟩ := zz
     refine GoQ.stable rfl (R7 Try.underlying31 rfl rfl) rfl rfl ?_
     refine GoQ.pure rfl (J03 rfl) rfl rfl ?_
     obtain ⟨IU, H⟩ := H
     obtain ⟨IV, H⟩ := H
     refine GoQ.pure rfl (J02 Try.underlying31 ti3 rfl rfl IU IV (xC.some_ IU IV)) rfl rfl ?_
     refine GoQ.stable rfl (ldInt xC IU IV Try.underlying3 rfl rfl) rfl rfl ?_
     refine GoQ.pure rfl (J00 Try.underlying33 rfl ti23 rfl (by decide)) rfl rfl ?_
     refine GoQ.stable rfl (oblk (i := 1) 1 hO rfl rfl Try.underlying23 rfl rfl) rfl rfl ?_
     refine GoQ.pure rfl (J03 rfl) rfl rfl ?_
     obtain ⟨IW, H⟩ := H
     obtain ⟨IX, H⟩ := H
     refine GoQ.pure rfl (J02 Try.underlying23 ti31 rfl rfl IW IX (au.some_ IW IX)) rfl rfl ?_
     have zz := ldSl au IW IX
     obtain ⟨acj, ack, qP, R8⟩ := zz
     refine GoQ.stable rfl (R8 Try.underlying31 rfl rfl) rfl rfl ?_
     refine GoQ.pure rfl (J03 rfl) rfl rfl ?_
     obtain ⟨IY, H⟩ := H
     obtain ⟨Dl, H⟩ := H
     refine GoQ.pure rfl (J02 Try.underlying31 ti3 rfl rfl IY Dl (qP.some_ IY Dl)) rfl rfl ?_
     refine GoQ.stable rfl (ldInt qP IY Dl Try.underlying3 rfl rfl) rfl rfl ?_
     replace aE := aE.ch jv.ch
     replace ay := ay.ch jv.ch
     replace av := av.ch jv.ch
     replace aP := aP.ch jv.ch
     refine GoQ.call rfl (J0a body31 rfl (J0d (a0 := r19) hO.lt au aE ay av aP H)) (fun v w hr => by obtain ⟨_, _, hs, _⟩ := hr; assumption) rfl rfl ?_
     rintro acl acm ⟨r277, rfl, R9, H⟩
     have pp := Stp.same hO R9
     replace hO := pp.own
     cases r277
     ·replace H := ifn Bool.false_ne_true H
      refine GoQ.pure rfl (J0g rfl) rfl rfl ?_
      refine GoQ.pure rfl (J05 rfl rfl rfl) rfl rfl ?_
      refine GoQ.pure rfl (J03 rfl) rfl rfl ?_
      refine GoQ.pass rfl rfl rfl ?_
      refine GoQ.pass rfl rfl rfl ?_
      refine GoQ.pass rfl rfl rfl ?_
      refine GoQ.pass rfl rfl rfl ?_
      refine GoQ.pass rfl rfl rfl ?_
      refine GoQ.pass rfl rfl rfl ?_
      refine GoQ.pass rfl rfl rfl ?_
      refine GoQ.pass rfl rfl rfl ?_
      refine GoQ.pass rfl rfl rfl ?_
      refine GoQ.pass rfl rfl rfl ?_
      refine GoQ.pass rfl rfl rfl ?_
      refine GoQ.pass rfl rfl rfl ?_
      refine GoQ.pass rfl rfl rfl ?_
      refine GoQ.pure rfl (J04 rfl rfl rfl) rfl rfl ?_
      refine GoQ.pure rfl (J04 rfl rfl rfl) rfl rfl ?_
      refine GoQ.nil ?_
      refine zt rfl rfl (zq ?_)
      refine Go1.cut [] trivial ?_
      intro σ _
      refine zr (za rfl (zn ?_))
      refine Go1.ret1 Try.func7 rfl ?_
      replace hB := (((((((((((((hB.trans dX.fr).trans k8.fr).trans m7.fr).trans gt.fr).trans ke.fr).trans sX.fr).trans vK.fr).trans pE.fr).trans gJ.fr).trans nQ.fr).trans jj.fr).trans gh.fr).trans jv.fr).trans pp.fr
      exact ⟨false, rfl, hB.same, H⟩
     replace H := ifp rfl H
     refine GoQ.pure rfl (J0g rfl) rfl rfl ?_
     refine GoQ.pure rfl (J05 rfl rfl rfl) rfl rfl ?_
     refine GoQ.pure rfl (J03 rfl) rfl rfl ?_
     refine GoQ.pure rfl (J00 Try.underlying33 rfl ti22 rfl (by decide)) rfl rfl ?_
     refine GoQ.stable rfl (oblk (i := 4) 1 hO rfl rfl Try.underlying22 rfl rfl) rfl rfl ?_
     refine GoQ.pure rfl (J03 rfl) rfl rfl ?_
     obtain ⟨BW, H⟩ := H
     obtain ⟨B7, H⟩ := H
     replace av := av.ch pp.ch
     refine GoQ.pure rfl (J02 Try.underlying22 ti4 rfl rfl BW B7 (av.some_ BW B7)) rfl rfl ?_
     by_cases Ga : ix r19.Accept a1 = true
     ·replace H := ifp Ga H
      refine GoQ.stable rfl (fun w hw => opB ((ldBool av BW B7 Try.underlying4 rfl rfl) w hw) (Ga)) rfl rfl ?_
      refine GoQ.pure rfl (J03 rfl) rfl rfl ?_
      refine GoQ.pure rfl (J00 Try.underlying33 rfl ti22 rfl (by decide)) rfl rfl ?_
      refine GoQ.stable rfl (oblk (i := 4) 1 hO rfl rfl Try.underlying22 rfl rfl) rfl rfl ?_
      refine GoQ.pure rfl (J03 rfl) rfl rfl ?_
      obtain ⟨Gb, H⟩ := H
      obtain ⟨Gc, H⟩ := H
      refine GoQ.pure rfl (J02 Try.underlying22 ti4 rfl rfl Gb Gc (av.some_ Gb Gc)) rfl rfl ?_
      by_cases BT : ix r19.Accept a2 = true
      ·replace H := ifp BT H
       refine GoQ.stable rfl (fun w hw => opB ((ldBool av Gb Gc Try.underlying4 rfl rfl) w hw) (BT)) rfl rfl ?_
       refine GoQ.pure rfl (J0g rfl) rfl rfl ?_
       refine GoQ.pure rfl (J04 rfl rfl rfl) rfl rfl ?_
       refine GoQ.pure rfl (J05 rfl rfl rfl) rfl rfl ?_
       refine GoQ.pure rfl (J04 rfl rfl rfl) rfl rfl ?_
       refine GoQ.nil ?_
       refine zf rfl rfl (zk (zq ?_))
       refine Go1.cut [] trivial ?_
       intro σ _
       refine zr ?_
       refine GoR.call (J0a body18 rfl (J0m hO.lt H)) rfl rfl ?_
       rintro acn aco ⟨r289, rfl, Sa, H⟩
       have gm := Stp.same hO Sa
       replace hO := gm.own
       refine za rfl (zn ?_)
       refine Go1.ret1 Try.func7 rfl ?_
       replace hB := ((((((((((((((hB.trans dX.fr).trans k8.fr).trans m7.fr).trans gt.fr).trans ke.fr).trans sX.fr).trans vK.fr).trans pE.fr).trans gJ.fr).trans nQ.fr).trans jj.fr).trans gh.fr).trans jv.fr).trans pp.fr).trans gm.fr
       exact ⟨r289, rfl, hB.same, H⟩
      replace H := ifn BT H
      refine GoQ.stable rfl (fun w hw => opB ((ldBool av Gb Gc Try.underlying4 rfl rfl) w hw) (Bool.eq_false_iff.2 BT)) rfl rfl ?_
      refine GoQ.pure rfl (J0g rfl) rfl rfl ?_
      refine GoQ.pure rfl (J04 rfl rfl rfl) rfl rfl ?_
      refine GoQ.pure rfl (J05 rfl rfl rfl) rfl rfl ?_
      refine GoQ.pure rfl (J04 rfl rfl rfl) rfl rfl ?_
      refine GoQ.nil ?_
      refine zt rfl rfl (zq (zr (za rfl (zn ?_))))
      refine Go1.ret1 Try.func7 rfl ?_
      replace hB := (((((((((((((hB.trans dX.fr).trans k8.fr).trans m7.fr).trans gt.fr).trans ke.fr).trans sX.fr).trans vK.fr).trans pE.fr).trans gJ.fr).trans nQ.fr).trans jj.fr).trans gh.fr).trans jv.fr).trans pp.fr
      exact ⟨false, rfl, hB.same, H⟩
     replace H := ifn Ga H
     refine GoQ.stable rfl (fun w hw => opB ((ldBool av BW B7 Try.underlying4 rfl rfl) w hw) (Bool.eq_false_iff.2 Ga)) rfl rfl ?_
     refine GoQ.pure rfl (J03 rfl) rfl rfl ?_
     refine GoQ.pass rfl rfl rfl ?_
     refine GoQ.pass rfl rfl rfl ?_
     refine GoQ.pass rfl rfl rfl ?_
     refine GoQ.pass rfl rfl rfl ?_
     refine GoQ.pass rfl rfl rfl ?_
     refine GoQ.pass rfl rfl rfl ?_
     refine GoQ.pure rfl (J05 rfl rfl rfl) rfl rfl ?_
     refine GoQ.pure rfl (J05 rfl rfl rfl) rfl rfl ?_
     refine GoQ.pure rfl (J04 rfl rfl rfl) rfl rfl ?_
     refine GoQ.nil ?_
     refine zf rfl rfl (zk (zq (zr ?_)))
     refine GoR.call (J0a body18 rfl (J0m hO.lt H)) rfl rfl ?_
     rintro acp Ud ⟨r295, rfl, Sb, H⟩
     have pq := Stp.same hO Sb
     replace hO := pq.own
     refine za rfl (zn ?_)
     refine Go1.ret1 Try.func7 rfl ?_
     replace hB := ((((((((((((((hB.trans dX.fr).trans k8.fr).trans m7.fr).trans gt.fr).trans ke.fr).trans sX.fr).trans vK.fr).trans pE.fr).trans gJ.fr).trans nQ.fr).trans jj.fr).trans gh.fr).trans jv.fr).trans pp.fr).trans pq.fr
     exact ⟨r295, rfl, hB.same, H⟩
    replace H := ifp rfl H
    refine zs (J0l (vs := [.int .i64 r19.Letters, .slice dq r19.Table.length dr, .slice dS r19.Words.length dT, .slice dx r19.Images.length dy, .slice dz r19.Accept.length dA, .slice eg r19.Plus.length eh]) (i := 0) 1 hO rfl rfl Try.underlying33 rfl ti33 rfl) (zm rfl (zm rfl ?_))
    replace au := au.ch jj.ch
    replace aE := aE.ch jj.ch
    replace ay := ay.ch jj.ch
    replace av := av.ch jj.ch
    replace aP := aP.ch jj.ch
    refine GoR.call (J0a body31 rfl (J0d (a0 := r19) hO.lt au aE ay av aP H)) rfl rfl ?_
    rintro acq acr ⟨r301, rfl, Sc, H⟩
    have uk := Stp.same hO Sc
    replace hO := uk.own
    cases r301
    ·replace H := ifn Bool.false_ne_true H
     refine zo (J0g rfl) (zo (J04 rfl rfl rfl) (zo (J05 rfl rfl rfl) (zn (zt rfl rfl (zq ?_)))))
     refine Go1.cut [] trivial ?_
     intro σ _
     refine zr (za rfl (zn ?_))
     refine Go1.ret1 Try.func7 rfl ?_
     replace hB := (((((((((((hB.trans dX.fr).trans k8.fr).trans m7.fr).trans gt.fr).trans ke.fr).trans sX.fr).trans vK.fr).trans pE.fr).trans gJ.fr).trans nQ.fr).trans jj.fr).trans uk.fr
     exact ⟨false, rfl, hB.same, H⟩
    replace H := ifp rfl H
    refine zo (J0g rfl) (zo (J04 rfl rfl rfl) (zo (J05 rfl rfl rfl) (zn (zf rfl rfl (zk ?_)))))
    refine zq (zq ?_)
    refine Go1.drawSF [0, 1, 2, 2, 10, 2, 50, 66, 2, 386, 514, 2, 2050, 2, 12290, 16386, 2, 98306, 131074, 263174, 524290, 1572866, 2097152, 2097152, 10485760, 2097152, 52428800, 69206016, 2097152, 404750336, 538968064, 2097152, 2149580800, 2097152, 12886999040, 17181966336, 2097152, 103081312256, 137441050624, 275957940224, 549757911040, 1099513724930, 2748779069442, 4398046511104, 13194139533312, 4398046511104, 57174604644352, 74766790688768, 145135534866432, 281474976710656, 844424930131968, 281474976710656, 3659174697238528, 4785074604081152, 9288674231451648, 18300271532703744, 36033195065475074, 72057594037927938] [1, 3, 7, 15, 31, 63, 127, 255, 511, 1023, 2047, 4095, 8191, 16383, 32767, 65535, 131071, 262143, 524287, 1048575, 2097151, 4194303, 8388607, 16777215, 33554431, 67108863, 134217727, 268435455, 536870911, 1073741823, 2147483647, 4294967295, 8589934591, 17179869183, 34359738367, 68719476735, 137438953471, 274877906943, 549755813887, 1099511627775, 2199023255551, 4398046511103, 8796093022207, 17592186044415, 35184372088831, 70368744177663, 140737488355327, 281474976710655, 562949953421311, 1125899906842623, 2251799813685247, 4503599627370495, 9007199254740991, 18014398509481983, 36028797018963967, 72057594037927935, 144115188075855871, 288230376151711743] 0 [(0, .pure), (1, .pure), (2, .stable), (3, .pure), (4, .stable), (5, .pure), (6, .pure), (7, .stable), (8, .pure), (9, .pure), (10, .stable), (11, .pure), (12, .stable), (13, .pure), (14, .pure), (15, .stable), (16, .pure), (17, .pure), (18, .stable), (19, .loud), (20, .pure), (21, .pure), (22, .stable), (23, .pure), (24, .stable), (25, .pure), (26, .pure), (27, .stable), (28, .pure), (29, .pure), (30, .stable), (31, .pure), (32, .stable), (33, .pure), (34, .pure), (35, .stable), (36, .pure), (37, .pure), (38, .stable), (39, .loud), (40, .pure), (41, .pure), (42, .pure), (43, .pure), (44, .stable), (45, .pure), (46, .pure), (47, .stable), (48, .pure), (49, .pure), (50, .stable), (51, .pure), (52, .pure), (53, .stable), (54, .pure), (55, .pure), (56, .pure), (57, .pure)] mixed (by kernel_rfl) ?_
    intro Uf Sd
    have ul := Stp.same hO Sd
    replace hO := ul.own
    refine GoQ.pure rfl (J03 rfl) rfl rfl ?_
    refine GoQ.pure rfl (J03 rfl) rfl rfl ?_
    refine GoQ.stable rfl (J0l (vs := [.int .i64 r19.Letters, .slice dq r19.Table.length dr, .slice dS r19.Words.length dT, .slice dx r19.Images.length dy, .slice dz r19.Accept.length dA, .slice eg r19.Plus.length eh]) (i := 0) 1 hO rfl rfl Try.underlying33 rfl ti33 rfl) rfl rfl ?_
    refine GoQ.pure rfl (J00 Try.underlying33 rfl ti23 rfl (by decide)) rfl rfl ?_
    refine GoQ.stable rfl (oblk (i := 1) 1 hO rfl rfl Try.underlying23 rfl rfl) rfl rfl ?_
    refine GoQ.pure rfl (J03 rfl) rfl rfl ?_
    obtain ⟨Em, H⟩ := H
    obtain ⟨Aq, H⟩ := H
    replace au := (au.ch uk.ch).ch ul.ch
    refine GoQ.pure rfl (J02 Try.underlying23 ti31 rfl rfl Em Aq (au.some_ Em Aq)) rfl rfl ?_
    have zz := ldSl au Em Aq
    obtain ⟨acs, act, vR, Se⟩ := zz
    refine GoQ.stable rfl (Se Try.underlying31 rfl rfl) rfl rfl ?_
    refine GoQ.pure rfl (J03 rfl) rfl rfl ?_
    obtain ⟨I0, H⟩ := H
    obtain ⟨I1, H⟩ := H
    refine GoQ.pure rfl (J02 Try.underlying31 ti3 rfl rfl I0 I1 (vR.some_ I0 I1)) rfl rfl ?_
    refine GoQ.stable rfl (ldInt vR I0 I1 Try.underlying3 rfl rfl) rfl rfl ?_
    refine GoQ.pure rfl (J00 Try.underlying33 rfl ti23 rfl (by decide)) rfl rfl ?_
    refine GoQ.stable rfl (oblk (i := 1) 1 hO rfl rfl Try.underlying23 rfl rfl) rfl rfl ?_
    refine GoQ.pure rfl (J03 rfl) rfl rfl ?_
    obtain ⟨I2, H⟩ := H
    obtain ⟨yN, H⟩ := H
    refine GoQ.pure rfl (J02 Try.underlying23 ti31 rfl rfl I2 yN (au.some_ I2 yN)) rfl rfl ?_
    have zz := ldSl au I2 yN
    obtain ⟨acu, acv, vS, Sf⟩ := zz
    refine GoQ.stable rfl (Sf Try.underlying31 rfl rfl) rfl rfl ?_
    refine GoQ.pure rfl (J03 rfl) rfl rfl ?_
    obtain ⟨I3, H⟩ := H
    obtain ⟨I4, H⟩ := H
    refine GoQ.pure rfl (J02 Try.underlying31 ti3 rfl rfl I3 I4 (vS.some_ I3 I4)) rfl rfl ?_
    refine GoQ.stable rfl (ldInt vS I3 I4 Try.underlying3 rfl rfl) rfl rfl ?_
    have Z6 := uk.ch.trans ul.ch
    replace aE := aE.ch Z6
    replace ay := ay.ch Z6
    replace av := av.ch Z6
    replace aP := aP.ch Z6
    refine GoQ.call rfl (J0a body31 rfl (J0d (a0 := r19) hO.lt au aE ay av aP H)) (fun v w hr => by obtain ⟨_, _, hs, _⟩ := hr; assumption) rfl rfl ?_
    rintro acw acx ⟨r326, rfl, Sh, H⟩
    have sG := Stp.same hO Sh
    replace hO := sG.own
    cases r326
    ·replace H := ifn Bool.false_ne_true H
     refine GoQ.pure rfl (J0g rfl) rfl rfl ?_
     refine GoQ.pure rfl (J03 rfl) rfl rfl ?_
     refine GoQ.pass rfl rfl rfl ?_
     refine GoQ.pass rfl rfl rfl ?_
     refine GoQ.pass rfl rfl rfl ?_
     refine GoQ.pass rfl rfl rfl ?_
     refine GoQ.pass rfl rfl rfl ?_
     refine GoQ.pass rfl rfl rfl ?_
     refine GoQ.pass rfl rfl rfl ?_
     refine GoQ.pass rfl rfl rfl ?_
     refine GoQ.pass rfl rfl rfl ?_
     refine GoQ.pass rfl rfl rfl ?_
     refine GoQ.pass rfl rfl rfl ?_
     refine GoQ.pass rfl rfl rfl ?_
     refine GoQ.pass rfl rfl rfl ?_
     refine GoQ.pass rfl rfl rfl ?_
     refine GoQ.pass rfl rfl rfl ?_
     refine GoQ.pass rfl rfl rfl ?_
     refine GoQ.pass rfl rfl rfl ?_
     refine GoQ.pass rfl rfl rfl ?_
     refine GoQ.pass rfl rfl rfl ?_
     refine GoQ.pure rfl (J04 rfl rfl rfl) rfl rfl ?_
     refine GoQ.pure rfl (J03 rfl) rfl rfl ?_
     refine GoQ.pass rfl rfl rfl ?_
     refine GoQ.pass rfl rfl rfl ?_
     refine GoQ.pass rfl rfl rfl ?_
     refine GoQ.pass rfl rfl rfl ?_
     refine GoQ.pass rfl rfl rfl ?_
     refine GoQ.pass rfl rfl rfl ?_
     refine GoQ.pass rfl rfl rfl ?_
     refine GoQ.pass rfl rfl rfl ?_
     refine GoQ.pass rfl rfl rfl ?_
     refine GoQ.pass rfl rfl rfl ?_
     refine GoQ.pass rfl rfl rfl ?_
     refine GoQ.pass rfl rfl rfl ?_
     refine GoQ.pass rfl rfl rfl ?_
     refine GoQ.pure rfl (J04 rfl rfl rfl) rfl rfl ?_
     refine GoQ.pure rfl (J04 rfl rfl rfl) rfl rfl ?_
     refine GoQ.nil ?_
     refine zt rfl rfl (zq ?_)
     refine Go1.cut [] trivial ?_
     intro σ _
     refine zr (za rfl (zn ?_))
     refine Go1.ret1 Try.func7 rfl ?_
     replace hB := (((((((((((((hB.trans dX.fr).trans k8.fr).trans m7.fr).trans gt.fr).trans ke.fr).trans sX.fr).trans vK.fr).trans pE.fr).trans gJ.fr).trans nQ.fr).trans jj.fr).trans uk.fr).trans ul.fr).trans sG.fr
     exact ⟨false, rfl, hB.same, H⟩
    replace H := ifp rfl H
    refine GoQ.pure rfl (J0g rfl) rfl rfl ?_
    refine GoQ.pure rfl (J03 rfl) rfl rfl ?_
    refine GoQ.stable rfl (J0l (vs := [.int .i64 r19.Letters, .slice dq r19.Table.length dr, .slice dS r19.Words.length dT, .slice dx r19.Images.length dy, .slice dz r19.Accept.length dA, .slice eg r19.Plus.length eh]) (i := 0) 1 hO rfl rfl Try.underlying33 rfl ti33 rfl) rfl rfl ?_
    refine GoQ.pure rfl (J00 Try.underlying33 rfl ti23 rfl (by decide)) rfl rfl ?_
    refine GoQ.stable rfl (oblk (i := 1) 1 hO rfl rfl Try.underlying23 rfl rfl) rfl rfl ?_
    refine GoQ.pure rfl (J03 rfl) rfl rfl ?_
    obtain ⟨I5, H⟩ := H
    obtain ⟨ye, H⟩ := H
    replace au := au.ch sG.ch
    refine GoQ.pure rfl (J02 Try.underlying23 ti31 rfl rfl I5 ye (au.some_ I5 ye)) rfl rfl ?_
    have zz := ldSl au I5 ye
    obtain ⟨acy, acz, xD, Si⟩ := zz
    refine GoQ.stable rfl (Si Try.underlying31 rfl rfl) rfl rfl ?_
    refine GoQ.pure rfl (J03 rfl) rfl rfl ?_
    obtain ⟨I6, H⟩ := H
    obtain ⟨I7, H⟩ := H
    refine GoQ.pure rfl (J02 Try.underlying31 ti3 rfl rfl I6 I7 (xD.some_ I6 I7)) rfl rfl ?_
    refine GoQ.stable rfl (ldInt xD I6 I7 Try.underlying3 rfl rfl) rfl rfl ?_
    refine GoQ.pure rfl (J00 Try.underlying33 rfl ti23 rfl (by decide)) rfl rfl ?_
    refine GoQ.stable rfl (oblk (i := 1) 1 hO rfl rfl Try.underlying23 rfl rfl) rfl rfl ?_
    refine GoQ.pure rfl (J03 rfl) rfl rfl ?_
    obtain ⟨I8, H⟩ := H
    obtain ⟨I9, H⟩ := H
    refine GoQ.pure rfl (J02 Try.underlying23 ti31 rfl rfl I8 I9 (au.some_ I8 I9)) rfl rfl ?_
    have zz := ldSl au I8 I9
    obtain ⟨acA, acB, xE, Sj⟩ := zz
    refine GoQ.stable rfl (Sj Try.underlying31 rfl rfl) rfl rfl ?_
    refine GoQ.pure rfl (J03 rfl) rfl rfl ?_
    obtain ⟨yC, H⟩ := H
    obtain ⟨Ja, H⟩ := H
    refine GoQ.pure rfl (J02 Try.underlying31 ti3 rfl rfl yC Ja (xE.some_ yC Ja)) rfl rfl ?_
    refine GoQ.stable rfl (ldInt xE yC Ja Try.underlying3 rfl rfl) rfl rfl ?_
    replace aE := aE.ch sG.ch
    replace ay := ay.ch sG.ch
    replace av := av.ch sG.ch
    replace aP := aP.ch sG.ch
    refine GoQ.call rfl (J0a body31 rfl (J0d (a0 := r19) hO.lt au aE ay av aP H)) (fun v w hr => by obtain ⟨_, _, hs, _⟩ := hr; assumption) rfl rfl ?_
    rintro acC acD ⟨r348, rfl, Sk, H⟩
    have pr := Stp.same hO Sk
    replace hO := pr.own
    cases r348
    ·replace H := ifn Bool.false_ne_true H
     refine GoQ.pure rfl (J0g rfl) rfl rfl ?_
     refine GoQ.pure rfl (J05 rfl rfl rfl) rfl rfl ?_
     refine GoQ.pure rfl (J03 rfl) rfl rfl ?_
     refine GoQ.pass rfl rfl rfl ?_
     refine GoQ.pass rfl rfl rfl ?_
     refine GoQ.pass rfl rfl rfl ?_
     refine GoQ.pass rfl rfl rfl ?_
     refine GoQ.pass rfl rfl rfl ?_
     refine GoQ.pass rfl rfl rfl ?_
     refine GoQ.pass rfl rfl rfl ?_
     refine GoQ.pass rfl rfl rfl ?_
     refine GoQ.pass rfl rfl rfl ?_
     refine GoQ.pass rfl rfl rfl ?_
     refine GoQ.pass rfl rfl rfl ?_
     refine GoQ.pass rfl rfl rfl ?_
     refine GoQ.pass rfl rfl rfl ?_
     refine GoQ.pure rfl (J04 rfl rfl rfl) rfl rfl ?_
     refine GoQ.pure rfl (J04 rfl rfl rfl) rfl rfl ?_
     refine GoQ.nil ?_
     refine zt rfl rfl (zq ?_)
     refine Go1.cut [] trivial ?_
     intro σ _
     refine zr (za rfl (zn ?_))
     refine Go1.ret1 Try.func7 rfl ?_
     replace hB := ((((((((((((((hB.trans dX.fr).trans k8.fr).trans m7.fr).trans gt.fr).trans ke.fr).trans sX.fr).trans vK.fr).trans pE.fr).trans gJ.fr).trans nQ.fr).trans jj.fr).trans uk.fr).trans ul.fr).trans sG.fr).trans pr.fr
     exact ⟨false, rfl, hB.same, H⟩
    replace H := ifp rfl H
    refine GoQ.pure rfl (J0g rfl) rfl rfl ?_
    refine GoQ.pure rfl (J05 rfl rfl rfl) rfl rfl ?_
    refine GoQ.pure rfl (J03 rfl) rfl rfl ?_
    refine GoQ.pure rfl (J00 Try.underlying33 rfl ti22 rfl (by decide)) rfl rfl ?_
    refine GoQ.stable rfl (oblk (i := 4) 1 hO rfl rfl Try.underlying22 rfl rfl) rfl rfl ?_
    refine GoQ.pure rfl (J03 rfl) rfl rfl ?_
    obtain ⟨Gd, H⟩ := H
    obtain ⟨zc, H⟩ := H
    replace av := av.ch pr.ch
    refine GoQ.pure rfl (J02 Try.underlying22 ti4 rfl rfl Gd zc (av.some_ Gd zc)) rfl rfl ?_
    by_cases zd : ix r19.Accept a1 = true
    ·replace H := ifp zd H
     refine GoQ.stable rfl (fun w hw => opB ((ldBool av Gd zc Try.underlying4 rfl rfl) w hw) (zd)) rfl rfl ?_
     refine GoQ.pure rfl (J03 rfl) rfl rfl ?_
     refine GoQ.pure rfl (J00 Try.underlying33 rfl ti22 rfl (by decide)) rfl rfl ?_
     refine GoQ.stable rfl (oblk (i := 4) 1 hO rfl rfl Try.underlying22 rfl rfl) rfl rfl ?_
     refine GoQ.pure rfl (J03 rfl) rfl rfl ?_
     obtain ⟨Cl, H⟩ := H
     obtain ⟨Ge, H⟩ := H
     refine GoQ.pure rfl (J02 Try.underlying22 ti4 rfl rfl Cl Ge (av.some_ Cl Ge)) rfl rfl ?_
     by_cases Gf : ix r19.Accept a2 = true
     ·replace H := ifp Gf H
      refine GoQ.stable rfl (fun w hw => opB ((ldBool av Cl Ge Try.underlying4 rfl rfl) w hw) (Gf)) rfl rfl ?_
      refine GoQ.pure rfl (J0g rfl) rfl rfl ?_
      refine GoQ.pure rfl (J04 rfl rfl rfl) rfl rfl ?_
      refine GoQ.pure rfl (J05 rfl rfl rfl) rfl rfl ?_
      refine GoQ.pure rfl (J04 rfl rfl rfl) rfl rfl ?_
      refine GoQ.nil ?_
      refine zf rfl rfl (zk (zq ?_))
      refine Go1.cut [] trivial ?_
      intro σ _
      refine zr ?_
      refine GoR.call (J0a body18 rfl (J0m hO.lt H)) rfl rfl ?_
      rintro acE TB ⟨r360, rfl, F0, H⟩
      have jc := Stp.same hO F0
      replace hO := jc.own
      refine za rfl (zn ?_)
      refine Go1.ret1 Try.func7 rfl ?_
      replace hB := (((((((((((((((hB.trans dX.fr).trans k8.fr).trans m7.fr).trans gt.fr).trans ke.fr).trans sX.fr).trans vK.fr).trans pE.fr).trans gJ.fr).trans nQ.fr).trans jj.fr).trans uk.fr).trans ul.fr).trans sG.fr).trans pr.fr).trans jc.fr
      exact ⟨r360, rfl, hB.same, H⟩
     replace H := ifn Gf H
     refine GoQ.stable rfl (fun w hw => opB ((ldBool av Cl Ge Try.underlying4 rfl rfl) w hw) (Bool.eq_false_iff.2 Gf)) rfl rfl ?_
     refine GoQ.pure rfl (J0g rfl) rfl rfl ?_
     refine GoQ.pure rfl (J04 rfl rfl rfl) rfl rfl ?_
     refine GoQ.pure rfl (J05 rfl rfl rfl) rfl rfl ?_
     refine GoQ.pure rfl (J04 rfl rfl rfl) rfl rfl ?_
     refine GoQ.nil ?_
     refine zt rfl rfl (zq (zr (za rfl (zn ?_))))
     refine Go1.ret1 Try.func7 rfl ?_
     replace hB := ((((((((((((((hB.trans dX.fr).trans k8.fr).trans m7.fr).trans gt.fr).trans ke.fr).trans sX.fr).trans vK.fr).trans pE.fr).trans gJ.fr).trans nQ.fr).trans jj.fr).trans uk.fr).trans ul.fr).trans sG.fr).trans pr.fr
     exact ⟨false, rfl, hB.same, H⟩
    replace H := ifn zd H
    refine GoQ.stable rfl (fun w hw => opB ((ldBool av Gd zc Try.underlying4 rfl rfl) w hw) (Bool.eq_false_iff.2 zd)) rfl rfl ?_
    refine GoQ.pure rfl (J03 rfl) rfl rfl ?_
    refine GoQ.pass rfl rfl rfl ?_
    refine GoQ.pass rfl rfl rfl ?_
    refine GoQ.pass rfl rfl rfl ?_
    refine GoQ.pass rfl rfl rfl ?_
    refine GoQ.pass rfl rfl rfl ?_
    refine GoQ.pass rfl rfl rfl ?_
    refine GoQ.pure rfl (J05 rfl rfl rfl) rfl rfl ?_
    refine GoQ.pure rfl (J05 rfl rfl rfl) rfl rfl ?_
    refine GoQ.pure rfl (J04 rfl rfl rfl) rfl rfl ?_
    refine GoQ.nil ?_
    refine zf rfl rfl (zk (zq (zr ?_)))
    refine GoR.call (J0a body18 rfl (J0m hO.lt H)) rfl rfl ?_
    rintro acF SR ⟨r366, rfl, Sl, H⟩
    have gT := Stp.same hO Sl
    replace hO := gT.own
    refine za rfl (zn ?_)
    refine Go1.ret1 Try.func7 rfl ?_
    replace hB := (((((((((((((((hB.trans dX.fr).trans k8.fr).trans m7.fr).trans gt.fr).trans ke.fr).trans sX.fr).trans vK.fr).trans pE.fr).trans gJ.fr).trans nQ.fr).trans jj.fr).trans uk.fr).trans ul.fr).trans sG.fr).trans pr.fr).trans gT.fr
    exact ⟨r366, rfl, hB.same, H⟩
   replace H := ifn B6 H
   refine zo (fun w => opB (J0j rfl rfl w) (ndF B6)) (zo (J04 rfl rfl rfl) (zo (J05 rfl rfl rfl) (zm rfl (zp (zp ?_)))))
   refine zp (zp (zp (zp (zp (zp ?_)))))
   refine zp (zp (zp (zp (zp (zp ?_)))))
   refine zo (J04 rfl rfl rfl) (zn (zt rfl rfl (zq ?_)))
   refine Go1.cut [] trivial ?_
   intro σ _
   refine zr (za rfl (zn ?_))
   refine Go1.ret1 Try.func7 rfl ?_
   replace hB := (((((((((hB.trans dX.fr).trans k8.fr).trans m7.fr).trans gt.fr).trans ke.fr).trans sX.fr).trans vK.fr).trans pE.fr).trans gJ.fr).trans nQ.fr
   exact ⟨false, rfl, hB.same, H⟩
  replace H := ifn h37 H
  refine zo (fun w => opB (J0j rfl rfl w) (ndF h37)) (zo (J05 rfl rfl rfl) (zn (zt rfl rfl (zq (zr ?_)))))
  refine za rfl (zn ?_)
  refine Go1.ret1 Try.func7 rfl ?_
  replace hB := ((((hB.trans dX.fr).trans k8.fr).trans m7.fr).trans gt.fr).trans ke.fr
  exact ⟨false, rfl, hB.same, H⟩
 replace H := ifn h35 H
 refine zo (fun w => opB (J0j rfl rfl w) (ndF h35)) (zm rfl (zp (zp (zp (zp ?_)))))
 refine zo (J04 rfl rfl rfl) (zm rfl (zp (zp (zp (zp ?_)))))
 refine zp (zp (zp (zo (J04 rfl rfl rfl) (zn (zt rfl rfl ?_)))))
 refine zq (zr (za rfl (zn ?_)))
 refine Go1.ret1 Try.func7 rfl ?_
 replace hB := ((((hB.trans dX.fr).trans k8.fr).trans m7.fr).trans gt.fr).trans ke.fr
 exact ⟨false, rfl, hB.same, H⟩
end Sg
