/- -/
import Derived.Test.YtlneebpmblkllaaTi
import Derived.Test.YtlneebpmblkllaaWSyntacticRefuses
import Derived.Test.YtlneebpmblkllaaAl
namespace Sg
open Go Go.RowKit Go.Proofs
set_option linter.unusedVariables false
set_option linter.unusedSimpArgs false
set_option maxRecDepth 100000
set_option maxHeartbeats 4000000
theorem body31 : Body Try.prog 31 := ⟨Try.f31, Try.func31, rfl, by kernel_rfl⟩
theorem walk_syntactic_Leq {A : List Nat} {w0 : World} {a8 : Option Addr} {a9 : Nat} {bv : Option Addr} {bw : Nat} {bc : Option Addr} {bf : Nat} {bg : Option Addr} {bh : Nat} {bB : Option Addr} {bC : Nat} {a0 : Syntactic} {a1 : Int} {a2 : Int} (hA : ∀ b ∈ A, b < w0.heap.size) (aA : ISl (Rp.sl (Rp.int .i64)) A w0 a8 a9 a0.Table) (bi : ISl (Rp.str) A w0 bv bw a0.Words) (aU : ISl (Rp.int .i64) A w0 bc bf a0.Images) (aE : ISl (Rp.bool) A w0 bg bh a0.Accept) (bx : ISl (Rp.bool) A w0 bB bC a0.Plus) {K : Bool → Prop} (H : J1s a0 a1 a2 K) :
    CallsV Try.prog 31 #[.agg #[.int .i64 a0.Letters, .slice a8 a0.Table.length a9, .slice bv a0.Words.length bw, .slice bc a0.Images.length bf, .slice bg a0.Accept.length bh, .slice bB a0.Plus.length bC], .int .i64 a1, .int .i64 a2] w0 (fun v w' => ∃ (r0 : Bool), v = .bool r0 ∧ Same w0 w' ∧ K r0) := by
 refine CallsV.of (l := [.agg #[.int .i64 a0.Letters, .slice a8 a0.Table.length a9, .slice bv a0.Words.length bw, .slice bc a0.Images.length bf, .slice bg a0.Accept.length bh, .slice bB a0.Plus.length bC], .int .i64 a1, .int .i64 a2]) Try.func31 rfl Try.ntmps31 rfl ?_
 have hO := Owns.start hA
 have hB := Fr.refl (bl []) w0
 unfold J1s at H
 refine zq (zr ?_)
 have zz := obox (t := 33) (v := .agg #[.int .i64 a0.Letters, .slice a8 a0.Table.length a9, .slice bv a0.Words.length bw, .slice bc a0.Images.length bf, .slice bg a0.Accept.length bh, .slice bB a0.Plus.length bC]) (cs := #[.int .i64 a0.Letters, .slice a8 a0.Table.length a9, .slice bv a0.Words.length bw, .slice bc a0.Images.length bf, .slice bg a0.Accept.length bh, .slice bB a0.Plus.length bC]) hO rfl
 obtain ⟨w1, B2, c5, hs4, iQ⟩ := zz
 refine zg (iQ rfl) ?_
 replace hO := c5.own
 refine za rfl (zn (zq (zq (zr (zm rfl ?_)))))
 refine zm rfl ?_
 have zz := J0j (r := Rp.int .i64) (n := 2) (parts := [(0, .int .i64 a1), (1, .int .i64 a2)]) (vs := [.int .i64 a1, .int .i64 a2]) (xs := [a1, a2]) rfl Try.underlying31 ti3 hO (by decide) (by kernel_rfl) (Els.cons rfl rfl (Els.cons rfl rfl (Els.nil _ _ _) (by simp [mx])) (by simp [mx])) rfl
 obtain ⟨w7, p8, f7, lA, xS, Aa⟩ := zz
 refine zg (Aa rfl) ?_
 replace hO := f7.own
 refine zo (J00 Try.underlying33 rfl ti23 rfl (by decide)) (zs (oblk (i := 1) 1 hO rfl rfl Try.underlying23 rfl rfl) (zo (J0d Try.underlying23 rfl) ?_))
 have Z1 := ((Ch.start A w0).trans c5.ch).trans f7.ch
 replace aA := aA.ch Z1
 replace H := H aA.bd
 have zz := rowlend 0 hO rfl lA
 obtain ⟨HK, Bt⟩ := zz
 have hOc16 := hO.drop 0
 refine GoR.call (J0a body76 (show ([.slice p8 2 2, .int .i64 (a0.Table.length : Int)] : List Value) = [.slice p8 ([a1, a2]).length 2, .int .i64 (a0.Table.length : Int)] from by rw [← Bt]) (J17 hOc16.lt HK H)) rfl rfl ?_
 rintro v21 w18 ⟨r17, rfl, CB, H⟩
 have gH := Stp.same hO CB
 replace hO := gH.own
 cases r17
 ·replace H := ifn Bool.false_ne_true H
  refine zo (J0p rfl) (zm rfl (zp (zp (zp (zo (J06 rfl rfl rfl) ?_)))))
  refine zn (zt rfl rfl (zq (zr (za rfl (zn ?_)))))
  refine Go1.ret1 Try.func31 rfl ?_
  replace hB := ((hB.trans c5.fr).trans f7.fr).trans gH.fr
  exact ⟨false, rfl, hB.same, H⟩
 replace H := ifp rfl H
 refine zo (J0p rfl) (zm rfl (zs (J0n (vs := [.int .i64 a0.Letters, .slice a8 a0.Table.length a9, .slice bv a0.Words.length bw, .slice bc a0.Images.length bf, .slice bg a0.Accept.length bh, .slice bB a0.Plus.length bC]) (i := 0) 1 hO rfl rfl Try.underlying33 rfl ti33 rfl) ?_))
 replace aA := aA.ch gH.ch
 have Z2 := Z1.trans gH.ch
 replace bi := bi.ch Z2
 replace aU := aU.ch Z2
 replace aE := aE.ch Z2
 replace bx := bx.ch Z2
 refine GoR.call (J0a body28 rfl (J1w (a0 := a0) hO.lt aA bi aU aE bx H)) rfl rfl ?_
 rintro v27 w24 ⟨r23, rfl, Io, H⟩
 have gp := Stp.same hO Io
 replace hO := gp.own
 by_cases h29 : r23 = (0 : Int)
 ·replace H := ifp h29 H
  refine zo (fun w => opB (J0g rfl rfl w) (ndT h29)) (zo (J05 rfl rfl rfl) (zn (zf rfl rfl (zk (zq ?_)))))
  refine zq ?_
  refine Go1.cut [(1, .int .i64 a1), (2, .int .i64 a2), (3, .pointer (some ⟨B2, 0, none⟩))] ⟨rfl, rfl, rfl, trivial⟩ ?_
  intro σ _
  refine zr (zo (J00 Try.underlying33 rfl ti23 rfl (by decide)) (zs (oblk (i := 1) 1 hO rfl rfl Try.underlying23 rfl rfl) (zo (J0d Try.underlying23 rfl) (zm rfl (zn ?_)))))
  refine zb ?_
  replace hO := hO.drop 0
  have Z3 := gp.ch.trans (Owns.J04 _ _ 0)
  replace aA := aA.ch Z3
  replace bi := bi.ch Z3
  replace aU := aU.ch Z3
  replace aE := aE.ch Z3
  replace bx := bx.ch Z3
  replace hB := ((((hB.trans c5.fr).trans f7.fr).trans gH.fr).trans gp.fr).trans (Owns.J09 _ _ 0)
  refine Go1.loopW (S := Nat) (fun s σ w => agrees σ [(1, .int .i64 a1), (2, .int .i64 a2), (3, .pointer (some ⟨B2, 0, none⟩)), (26, .slice a8 a0.Table.length a9), (27, .int .i64 (a0.Table.length : Int)), (28, .int .i64 (s : Int))] ∧ (fun Z0 => Owns w0.heap.size w Z0 A ∧ ISl (Rp.sl (Rp.int .i64)) (bl Z0 ++ A) w a8 a9 a0.Table ∧ ISl (Rp.str) (bl Z0 ++ A) w bv bw a0.Words ∧ ISl (Rp.int .i64) (bl Z0 ++ A) w bc bf a0.Images ∧ ISl (Rp.bool) (bl Z0 ++ A) w bg bh a0.Accept ∧ ISl (Rp.bool) (bl Z0 ++ A) w bB bC a0.Plus ∧ Fr (bl []) w0 (bl Z0) w) [.blk B2 (.cells #[.int .i64 a0.Letters, .slice a8 a0.Table.length a9, .slice bv a0.Words.length bw, .slice bc a0.Images.length bf, .slice bg a0.Accept.length bh, .slice bB a0.Plus.length bC] 33 (0, 0))]) H ⟨⟨rfl, rfl, rfl, rfl, rfl, rfl, trivial⟩, hO, aA, bi, aU, aE, bx, hB⟩ ?_
  intro X1 k1_31
  intro H hX1 σ w30
  refine andE fun hag => andE fun hO => andE fun aA => andE fun bi => andE fun aU => andE fun aE => andE fun bx => fun hB => ?_
  refine Go1.keep [(1, .int .i64 a1), (2, .int .i64 a2), (3, .pointer (some ⟨B2, 0, none⟩)), (26, .slice a8 a0.Table.length a9), (27, .int .i64 (a0.Table.length : Int)), (28, .int .i64 (k1_31 : Int))] hag ?_
  refine zq (zr ?_)
  by_cases h32 : (k1_31 : Int) < (a0.Table.length : Int)
  ·replace H := ifp h32 H
   refine zo (fun w => opB (J08 rfl rfl w) (decide_eq_true h32)) (zn (zq (zt rfl rfl (zk (zq ?_)))))
   refine zb (zq (zr ?_))
   obtain ⟨h33, H⟩ := H
   obtain ⟨h34, H⟩ := H
   refine zo (J02 Try.underlying23 ti31 rfl rfl h33 h34 (aA.some_ h33 h34)) ?_
   have zz := ldSl aA h33 h34
   obtain ⟨p35, c36, Bx, TF⟩ := zz
   refine zs (TF Try.underlying31 rfl rfl) (za rfl (zn (zq ?_)))
   refine Go1.drawS 0 [(0, .pure), (1, .stable), (2, .pure), (3, .pure), (4, .pure), (5, .stable), (6, .pure), (7, .stable), (8, .pure), (9, .stable), (10, .pure), (11, .pure), (12, .pure), (13, .stable), (14, .pure), (15, .stable), (16, .pure), (17, .pure)] mixed (by kernel_rfl) ?_
   intro w39 TG
   have mS := Stp.same hO TG
   replace hO := mS.own
   refine GoQ.pure rfl (J00 Try.underlying33 rfl ti23 rfl (by decide)) rfl rfl ?_
   refine GoQ.stable rfl (oblk (i := 1) 0 hO rfl rfl Try.underlying23 rfl rfl) rfl rfl ?_
   refine GoQ.pure rfl (J03 rfl) rfl rfl ?_
   refine GoQ.pure rfl (J03 rfl) rfl rfl ?_
   obtain ⟨h42, H⟩ := H
   obtain ⟨h43, H⟩ := H
   replace Bx := Bx.ch mS.ch
   refine GoQ.pure rfl (J02 Try.underlying31 ti3 rfl rfl h42 h43 (Bx.some_ h42 h43)) rfl rfl ?_
   refine GoQ.stable rfl (ldInt Bx h42 h43 Try.underlying3 rfl rfl) rfl rfl ?_
   obtain ⟨h44, H⟩ := H
   obtain ⟨h45, H⟩ := H
   replace aA := aA.ch mS.ch
   refine GoQ.pure rfl (J02 Try.underlying23 ti31 rfl rfl h44 h45 (aA.some_ h44 h45)) rfl rfl ?_
   have zz := ldSl aA h44 h45
   obtain ⟨p46, c47, yq, TH⟩ := zz
   refine GoQ.stable rfl (TH Try.underlying31 rfl rfl) rfl rfl ?_
   refine GoQ.pure rfl (J00 Try.underlying33 rfl ti23 rfl (by decide)) rfl rfl ?_
   refine GoQ.stable rfl (oblk (i := 1) 0 hO rfl rfl Try.underlying23 rfl rfl) rfl rfl ?_
   refine GoQ.pure rfl (J03 rfl) rfl rfl ?_
   refine GoQ.pure rfl (J03 rfl) rfl rfl ?_
   obtain ⟨h50, H⟩ := H
   obtain ⟨h51, H⟩ := H
   refine GoQ.pure rfl (J02 Try.underlying31 ti3 rfl rfl h50 h51 (Bx.some_ h50 h51)) rfl rfl ?_
   refine GoQ.stable rfl (ldInt Bx h50 h51 Try.underlying3 rfl rfl) rfl rfl ?_
   obtain ⟨h52, H⟩ := H
   obtain ⟨h53, H⟩ := H
   refine GoQ.pure rfl (J02 Try.underlying23 ti31 rfl rfl h52 h53 (aA.some_ h52 h53)) rfl rfl ?_
   have zz := ldSl aA h52 h53
   obtain ⟨p54, c55, yr, TI⟩ := zz
   refine GoQ.stable rfl (TI Try.underlying31 rfl rfl) rfl rfl ?_
   refine GoQ.pure rfl (J0e rfl) rfl rfl ?_
   refine GoQ.pure rfl (J0e rfl) rfl rfl ?_
   refine GoQ.nil ?_
   refine zq ?_
   refine Go1.cut [(1, .int .i64 a1), (2, .int .i64 a2), (3, .pointer (some ⟨B2, 0, none⟩)), (9, .slice p46 ((ix a0.Table (ix (ix a0.Table (k1_31 : Int)) a1)).length) c47), (10, .slice p54 ((ix a0.Table (ix (ix a0.Table (k1_31 : Int)) a2)).length) c55), (26, .slice a8 a0.Table.length a9), (27, .int .i64 (a0.Table.length : Int)), (28, .int .i64 (k1_31 : Int))] ⟨rfl, rfl, rfl, rfl, rfl, rfl, rfl, rfl, trivial⟩ ?_
   intro σ _
   refine zr (zo (J00 Try.underlying33 rfl ti23 rfl (by decide)) (zs (oblk (i := 1) 0 hO rfl rfl Try.underlying23 rfl rfl) (zo (J0d Try.underlying23 rfl) (zm rfl (zn ?_)))))
   refine zb ?_
   replace bi := bi.ch mS.ch
   replace aU := aU.ch mS.ch
   replace aE := aE.ch mS.ch
   replace bx := bx.ch mS.ch
   replace hB := hB.trans mS.fr
   refine Go1.loopW (S := Nat) (fun s σ w => agrees σ [(1, .int .i64 a1), (2, .int .i64 a2), (3, .pointer (some ⟨B2, 0, none⟩)), (9, .slice p46 ((ix a0.Table (ix (ix a0.Table (k1_31 : Int)) a1)).length) c47), (10, .slice p54 ((ix a0.Table (ix (ix a0.Table (k1_31 : Int)) a2)).length) c55), (26, .slice a8 a0.Table.length a9), (27, .int .i64 (a0.Table.length : Int)), (28, .int .i64 (k1_31 : Int)), (50, .int .i64 (a0.Table.length : Int)), (51, .int .i64 (s : Int))] ∧ (fun Z0 => Owns w0.heap.size w Z0 A ∧ ISl (Rp.sl (Rp.int .i64)) (bl Z0 ++ A) w a8 a9 a0.Table ∧ ISl (Rp.str) (bl Z0 ++ A) w bv bw a0.Words ∧ ISl (Rp.int .i64) (bl Z0 ++ A) w bc bf a0.Images ∧ ISl (Rp.bool) (bl Z0 ++ A) w bg bh a0.Accept ∧ ISl (Rp.bool) (bl Z0 ++ A) w bB bC a0.Plus ∧ ISl (Rp.int .i64) (bl Z0 ++ A) w p46 c47 (ix a0.Table (ix (ix a0.Table (k1_31 : Int)) a1)) ∧ ISl (Rp.int .i64) (bl Z0 ++ A) w p54 c55 (ix a0.Table (ix (ix a0.Table (k1_31 : Int)) a2)) ∧ Fr (bl []) w0 (bl Z0) w) [.blk B2 (.cells #[.int .i64 a0.Letters, .slice a8 a0.Table.length a9, .slice bv a0.Words.length bw, .slice bc a0.Images.length bf, .slice bg a0.Accept.length bh, .slice bB a0.Plus.length bC] 33 (0, 0))]) H ⟨⟨rfl, rfl, rfl, rfl, rfl, rfl, rfl, rfl, rfl, rfl, trivial⟩, hO, aA, bi, aU, aE, bx, yq, yr, hB⟩ ?_
   intro X2 k2_59
   intro H hX2 σ w58
   refine andE fun hag => andE fun hO => andE fun aA => andE fun bi => andE fun aU => andE fun aE => andE fun bx => andE fun yq => andE fun yr => fun hB => ?_
   refine Go1.keep [(1, .int .i64 a1), (2, .int .i64 a2), (3, .pointer (some ⟨B2, 0, none⟩)), (9, .slice p46 ((ix a0.Table (ix (ix a0.Table (k1_31 : Int)) a1)).length) c47), (10, .slice p54 ((ix a0.Table (ix (ix a0.Table (k1_31 : Int)) a2)).length) c55), (26, .slice a8 a0.Table.length a9), (27, .int .i64 (a0.Table.length : Int)), (28, .int .i64 (k1_31 : Int)), (50, .int .i64 (a0.Table.length : Int)), (51, .int .i64 (k2_59 : Int))] hag ?_
   refine zq (zr ?_)
   by_cases h60 : (k2_59 : Int) < (a0.Table.length : Int)
   ·replace H := ifp h60 H
    refine zo (fun w => opB (J08 rfl rfl w) (decide_eq_true h60)) (zn (zq (zt rfl rfl (zk (zq ?_)))))
    refine zb (zq (zr (zm rfl (za rfl (zn ?_)))))
    refine zq ?_
    refine Go1.drawS 0 [(0, .pure), (1, .stable), (2, .pure), (3, .pure), (4, .pure), (5, .stable), (6, .pure), (7, .stable), (8, .pure), (9, .pure), (10, .stable), (11, .pure), (12, .pure), (13, .pure), (14, .stable), (15, .pure), (16, .stable), (17, .pure), (18, .pure)] mixed (by kernel_rfl) ?_
    intro w61 TJ
    have kX := Stp.same hO TJ
    replace hO := kX.own
    refine GoQ.pure rfl (J00 Try.underlying33 rfl ti22 rfl (by decide)) rfl rfl ?_
    refine GoQ.stable rfl (oblk (i := 4) 0 hO rfl rfl Try.underlying22 rfl rfl) rfl rfl ?_
    refine GoQ.pure rfl (J03 rfl) rfl rfl ?_
    refine GoQ.pure rfl (J03 rfl) rfl rfl ?_
    obtain ⟨h64, H⟩ := H
    obtain ⟨h65, H⟩ := H
    replace yq := yq.ch kX.ch
    refine GoQ.pure rfl (J02 Try.underlying31 ti3 rfl rfl h64 h65 (yq.some_ h64 h65)) rfl rfl ?_
    refine GoQ.stable rfl (ldInt yq h64 h65 Try.underlying3 rfl rfl) rfl rfl ?_
    obtain ⟨h66, H⟩ := H
    obtain ⟨h67, H⟩ := H
    replace aE := aE.ch kX.ch
    refine GoQ.pure rfl (J02 Try.underlying22 ti4 rfl rfl h66 h67 (aE.some_ h66 h67)) rfl rfl ?_
    by_cases h68 : ix a0.Accept (ix (ix a0.Table (ix (ix a0.Table (k1_31 : Int)) a1)) (k2_59 : Int)) = true
    ·replace H := ifp h68 H
     refine GoQ.stable rfl (fun w hw => opB ((ldBool aE h66 h67 Try.underlying4 rfl rfl) w hw) (h68)) rfl rfl ?_
     refine GoQ.pure rfl (J03 rfl) rfl rfl ?_
     refine GoQ.pure rfl (J00 Try.underlying33 rfl ti22 rfl (by decide)) rfl rfl ?_
     refine GoQ.stable rfl (oblk (i := 4) 0 hO rfl rfl Try.underlying22 rfl rfl) rfl rfl ?_
     refine GoQ.pure rfl (J03 rfl) rfl rfl ?_
     refine GoQ.pure rfl (J03 rfl) rfl rfl ?_
     obtain ⟨h69, H⟩ := H
     obtain ⟨h70, H⟩ := H
     replace yr := yr.ch kX.ch
     refine GoQ.pure rfl (J02 Try.underlying31 ti3 rfl rfl h69 h70 (yr.some_ h69 h70)) rfl rfl ?_
     refine GoQ.stable rfl (ldInt yr h69 h70 Try.underlying3 rfl rfl) rfl rfl ?_
     obtain ⟨h71, H⟩ := H
     obtain ⟨h72, H⟩ := H
     refine GoQ.pure rfl (J02 Try.underlying22 ti4 rfl rfl h71 h72 (aE.some_ h71 h72)) rfl rfl ?_
     by_cases h73 : ix a0.Accept (ix (ix a0.Table (ix (ix a0.Table (k1_31 : Int)) a2)) (k2_59 : Int)) = true
     ·replace H := ifp h73 H
      refine GoQ.stable rfl (fun w hw => opB ((ldBool aE h71 h72 Try.underlying4 rfl rfl) w hw) (h73)) rfl rfl ?_
      refine GoQ.pure rfl (J0p rfl) rfl rfl ?_
      refine GoQ.pure rfl (J06 rfl rfl rfl) rfl rfl ?_
      refine GoQ.nil ?_
      refine zf rfl rfl (zk ?_)
      refine Go1.inBlock ?_
      refine Go1.cut [(1, .int .i64 a1), (2, .int .i64 a2), (3, .pointer (some ⟨B2, 0, none⟩)), (9, .slice p46 ((ix a0.Table (ix (ix a0.Table (k1_31 : Int)) a1)).length) c47), (10, .slice p54 ((ix a0.Table (ix (ix a0.Table (k1_31 : Int)) a2)).length) c55), (26, .slice a8 a0.Table.length a9), (27, .int .i64 (a0.Table.length : Int)), (28, .int .i64 (k1_31 : Int)), (50, .int .i64 (a0.Table.length : Int)), (51, .int .i64 (k2_59 : Int))] ⟨rfl, rfl, rfl, rfl, rfl, rfl, rfl, rfl, rfl, rfl, trivial⟩ ?_
      intro σ _
      refine zr ?_
      replace aA := aA.ch kX.ch
      refine zo (J0c rfl rfl (wrap_i64 (natbd h60 aA.bd))) (zm rfl (zn ?_))
      replace bi := bi.ch kX.ch
      replace aU := aU.ch kX.ch
      replace bx := bx.ch kX.ch
      replace hB := hB.trans kX.fr
      exact hX2 _ H _ _ ⟨⟨rfl, rfl, rfl, rfl, rfl, rfl, rfl, rfl, rfl, rfl, trivial⟩, hO, aA, bi, aU, aE, bx, yq, yr, hB⟩
     replace H := ifn h73 H
     refine GoQ.stable rfl (fun w hw => opB ((ldBool aE h71 h72 Try.underlying4 rfl rfl) w hw) (Bool.eq_false_iff.2 h73)) rfl rfl ?_
     refine GoQ.pure rfl (J0p rfl) rfl rfl ?_
     refine GoQ.pure rfl (J06 rfl rfl rfl) rfl rfl ?_
     refine GoQ.nil ?_
     refine zt rfl rfl (zq (zr (za rfl (zn ?_))))
     refine Go1.ret1 Try.func31 rfl ?_
     replace hB := hB.trans kX.fr
     exact ⟨false, rfl, hB.same, H⟩
    replace H := ifn h68 H
    refine GoQ.stable rfl (fun w hw => opB ((ldBool aE h66 h67 Try.underlying4 rfl rfl) w hw) (Bool.eq_false_iff.2 h68)) rfl rfl ?_
    refine GoQ.pure rfl (J03 rfl) rfl rfl ?_
    refine GoQ.pass rfl rfl rfl ?_
    refine GoQ.pass rfl rfl rfl ?_
    refine GoQ.pass rfl rfl rfl ?_
    refine GoQ.pass rfl rfl rfl ?_
    refine GoQ.pass rfl rfl rfl ?_
    refine GoQ.pass rfl rfl rfl ?_
    refine GoQ.pass rfl rfl rfl ?_
    refine GoQ.pass rfl rfl rfl ?_
    refine GoQ.pass rfl rfl rfl ?_
    refine GoQ.pure rfl (J05 rfl rfl rfl) rfl rfl ?_
    refine GoQ.nil ?_
    refine zf rfl rfl (zk ?_)
    refine Go1.inBlock ?_
    refine zr ?_
    replace aA := aA.ch kX.ch
    refine zo (J0c rfl rfl (wrap_i64 (natbd h60 aA.bd))) (zm rfl (zn ?_))
    replace bi := bi.ch kX.ch
    replace aU := aU.ch kX.ch
    replace bx := bx.ch kX.ch
    replace yr := yr.ch kX.ch
    replace hB := hB.trans kX.fr
    exact hX2 _ H _ _ ⟨⟨rfl, rfl, rfl, rfl, rfl, rfl, rfl, rfl, rfl, rfl, trivial⟩, hO, aA, bi, aU, aE, bx, yq, yr, hB⟩
   replace H := ifn h60 H
   refine zo (fun w => opB (J08 rfl rfl w) (decide_eq_false h60)) (zn (zq (zf rfl rfl ?_)))
   refine Go1.exit rfl ?_
   refine Go1.inBlock ?_
   refine zr (zo (J0c rfl rfl (wrap_i64 (natbd h32 aA.bd))) (zm rfl (zn ?_)))
   exact hX1 _ H _ _ ⟨⟨rfl, rfl, rfl, rfl, rfl, rfl, trivial⟩, hO, aA, bi, aU, aE, bx, hB⟩
  replace H := ifn h32 H
  refine zo (fun w => opB (J08 rfl rfl w) (decide_eq_false h32)) (zn (zq (zf rfl rfl ?_)))
  refine Go1.exit rfl ?_
  refine zq ?_
  refine Go1.cut [] trivial ?_
  intro σ _
  refine zr (za rfl (zn ?_))
  refine Go1.ret1 Try.func31 rfl ?_
  exact ⟨true, rfl, hB.same, H⟩
 replace H := ifn h29 H
 refine zo (fun w => opB (J0g rfl rfl w) (ndF h29)) (zo (J05 rfl rfl rfl) (zn (zt rfl rfl (zq (zr ?_)))))
 refine za rfl (zn ?_)
 refine Go1.ret1 Try.func31 rfl ?_
 replace hB := (((hB.trans c5.fr).trans f7.fr).trans gH.fr).trans gp.fr
 exact ⟨false, rfl, hB.same, H⟩
end Sg
