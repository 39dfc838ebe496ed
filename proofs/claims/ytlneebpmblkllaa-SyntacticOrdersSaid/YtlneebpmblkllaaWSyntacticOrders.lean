/- -/
import Derived.Test.YtlneebpmblkllaaTi
import Derived.Test.YtlneebpmblkllaaWSyntacticMonoids
import Derived.Test.YtlneebpmblkllaaWSyntacticMonoidse
import Derived.Test.YtlneebpmblkllaaWSyntacticMonoidsf
import Derived.Test.YtlneebpmblkllaaWSyntacticRefuses
import Derived.Test.YtlneebpmblkllaaWSyntacticStable
import Derived.Test.YtlneebpmblkllaaAl
namespace Sg
open Go Go.RowKit Go.Proofs
set_option linter.unusedVariables false
set_option linter.unusedSimpArgs false
set_option maxRecDepth 100000
set_option maxHeartbeats 4000000
theorem body32 : Body Try.prog 32 := ⟨Try.f32, Try.func32, rfl, by kernel_rfl⟩
theorem walk_ref21_Leq {A : List Nat} {w0 : World} {a8 : Option Addr} {a9 : Nat} {bv : Option Addr} {bw : Nat} {bc : Option Addr} {bf : Nat} {bg : Option Addr} {bh : Nat} {bB : Option Addr} {bC : Nat} {a0 : Syntactic} {a1 : Int} {a2 : Int} (hA : ∀ b ∈ A, b < w0.heap.size) (aA : ISl (Rp.sl (Rp.int .i64)) A w0 a8 a9 a0.Table) (bi : ISl (Rp.str) A w0 bv bw a0.Words) (aU : ISl (Rp.int .i64) A w0 bc bf a0.Images) (aE : ISl (Rp.bool) A w0 bg bh a0.Accept) (bx : ISl (Rp.bool) A w0 bB bC a0.Plus) {K : Bool → Prop} (H : ref21_Leq a0 a1 a2 K) :
    CallsV Try.prog 32 #[.agg #[.int .i64 a0.Letters, .slice a8 a0.Table.length a9, .slice bv a0.Words.length bw, .slice bc a0.Images.length bf, .slice bg a0.Accept.length bh, .slice bB a0.Plus.length bC], .int .i64 a1, .int .i64 a2] w0 (fun v w' => ∃ (r0 : Bool), v = .bool r0 ∧ Same w0 w' ∧ K r0) := by
 refine CallsV.of (l := [.agg #[.int .i64 a0.Letters, .slice a8 a0.Table.length a9, .slice bv a0.Words.length bw, .slice bc a0.Images.length bf, .slice bg a0.Accept.length bh, .slice bB a0.Plus.length bC], .int .i64 a1, .int .i64 a2]) Try.func32 rfl Try.ntmps32 rfl ?_
 have hO := Owns.start hA
 have hB := Fr.refl (bl []) w0
 unfold ref21_Leq at H
 refine zq (zr ?_)
 have zz := obox (t := 33) (v := .agg #[.int .i64 a0.Letters, .slice a8 a0.Table.length a9, .slice bv a0.Words.length bw, .slice bc a0.Images.length bf, .slice bg a0.Accept.length bh, .slice bB a0.Plus.length bC]) (cs := #[.int .i64 a0.Letters, .slice a8 a0.Table.length a9, .slice bv a0.Words.length bw, .slice bc a0.Images.length bf, .slice bg a0.Accept.length bh, .slice bB a0.Plus.length bC]) hO rfl
 obtain ⟨w1, B2, c5, hs4, iQ⟩ := zz
 refine zg (iQ rfl) ?_
 replace hO := c5.own
 refine za rfl (zn (zq (zq (zr (zo (J00 Try.underlying33 rfl ti23 rfl (by decide)) ?_)))))
 refine zs (oblk (i := 1) 0 hO rfl rfl Try.underlying23 rfl rfl) (zm rfl (zm rfl ?_))
 have zz := J0j (r := Rp.int .i64) (n := 2) (parts := [(0, .int .i64 a1), (1, .int .i64 a2)]) (vs := [.int .i64 a1, .int .i64 a2]) (xs := [a1, a2]) rfl Try.underlying31 ti3 hO (by decide) (by kernel_rfl) (Els.cons rfl rfl (Els.cons rfl rfl (Els.nil _ _ _) (by simp [mx])) (by simp [mx])) rfl
 obtain ⟨w7, p8, f7, lA, xS, Aa⟩ := zz
 refine zg (Aa rfl) ?_
 replace hO := f7.own
 have zz := rowlend 0 hO rfl lA
 obtain ⟨HK, Bt⟩ := zz
 have hOc16 := hO.drop 0
 have Z1 := ((Ch.start A w0).trans c5.ch).trans f7.ch
 replace aA := aA.ch Z1
 refine GoR.call (J0a body30 (show ([.slice a8 a0.Table.length a9, .slice p8 2 2] : List Value) = [.slice a8 a0.Table.length a9, .slice p8 ([a1, a2]).length 2] from by rw [← Bt]) (walk_ref14_In hOc16.lt (aA.ch (Owns.J04 _ _ 0)) HK H)) rfl rfl ?_
 rintro v21 w18 ⟨r17, rfl, CB, H⟩
 have gH := Stp.same hO CB
 replace hO := gH.own
 cases r17
 ·replace H := ifn Bool.false_ne_true H
  refine zo (J0p rfl) (zn (zt rfl rfl (zq (zr (za rfl ?_)))))
  refine zn ?_
  refine Go1.ret1 Try.func32 rfl ?_
  replace hB := ((hB.trans c5.fr).trans f7.fr).trans gH.fr
  exact ⟨false, rfl, hB.same, H⟩
 replace H := ifp rfl H
 refine zo (J0p rfl) (zn (zf rfl rfl (zk (zq (zq ?_)))))
 refine zr (zo (J00 Try.underlying33 rfl ti23 rfl (by decide)) (zs (oblk (i := 1) 1 hO rfl rfl Try.underlying23 rfl rfl) (zo (J0d Try.underlying23 rfl) ?_)))
 replace aA := aA.ch gH.ch
 replace H := H aA.bd
 refine zm rfl (zn (zb ?_))
 replace hO := hO.drop 0
 replace aA := aA.ch (Owns.J04 _ _ 0)
 replace hB := (((hB.trans c5.fr).trans f7.fr).trans gH.fr).trans (Owns.J09 _ _ 0)
 have Z2 := (Z1.trans gH.ch).trans (Owns.J04 _ _ 0)
 replace bi := bi.ch Z2
 replace aU := aU.ch Z2
 replace aE := aE.ch Z2
 replace bx := bx.ch Z2
 refine Go1.loopW (S := Nat) (fun s σ w => agrees σ [(1, .int .i64 a1), (2, .int .i64 a2), (3, .pointer (some ⟨B2, 0, none⟩)), (18, .int .i64 (a0.Table.length : Int)), (19, .int .i64 (s : Int))] ∧ (fun Z0 => Owns w0.heap.size w Z0 A ∧ ISl (Rp.sl (Rp.int .i64)) (bl Z0 ++ A) w a8 a9 a0.Table ∧ ISl (Rp.str) (bl Z0 ++ A) w bv bw a0.Words ∧ ISl (Rp.int .i64) (bl Z0 ++ A) w bc bf a0.Images ∧ ISl (Rp.bool) (bl Z0 ++ A) w bg bh a0.Accept ∧ ISl (Rp.bool) (bl Z0 ++ A) w bB bC a0.Plus ∧ Fr (bl []) w0 (bl Z0) w) [.blk B2 (.cells #[.int .i64 a0.Letters, .slice a8 a0.Table.length a9, .slice bv a0.Words.length bw, .slice bc a0.Images.length bf, .slice bg a0.Accept.length bh, .slice bB a0.Plus.length bC] 33 (0, 0))]) H ⟨⟨rfl, rfl, rfl, rfl, rfl, trivial⟩, hO, aA, bi, aU, aE, bx, hB⟩ ?_
 intro X1 k1_24
 intro H hX1 σ w23
 refine andE fun hag => andE fun hO => andE fun aA => andE fun bi => andE fun aU => andE fun aE => andE fun bx => fun hB => ?_
 refine Go1.keep [(1, .int .i64 a1), (2, .int .i64 a2), (3, .pointer (some ⟨B2, 0, none⟩)), (18, .int .i64 (a0.Table.length : Int)), (19, .int .i64 (k1_24 : Int))] hag ?_
 refine zq (zr ?_)
 by_cases h25 : (k1_24 : Int) < (a0.Table.length : Int)
 ·replace H := ifp h25 H
  refine zo (fun w => opB (J08 rfl rfl w) (decide_eq_true h25)) (zn (zq (zt rfl rfl (zk (zq ?_)))))
  refine zb (zq (zr (zm rfl (za rfl (zn ?_)))))
  refine zq (zr (zo (J00 Try.underlying33 rfl ti23 rfl (by decide)) (zs (oblk (i := 1) 0 hO rfl rfl Try.underlying23 rfl rfl) (zo (J0d Try.underlying23 rfl) (zm rfl ?_)))))
  refine zn (zb ?_)
  refine Go1.loopW (S := Nat) (fun s σ w => agrees σ [(1, .int .i64 a1), (2, .int .i64 a2), (3, .pointer (some ⟨B2, 0, none⟩)), (7, .int .i64 (k1_24 : Int)), (18, .int .i64 (a0.Table.length : Int)), (19, .int .i64 (k1_24 : Int)), (24, .int .i64 (a0.Table.length : Int)), (25, .int .i64 (s : Int))] ∧ (fun Z0 => Owns w0.heap.size w Z0 A ∧ ISl (Rp.sl (Rp.int .i64)) (bl Z0 ++ A) w a8 a9 a0.Table ∧ ISl (Rp.str) (bl Z0 ++ A) w bv bw a0.Words ∧ ISl (Rp.int .i64) (bl Z0 ++ A) w bc bf a0.Images ∧ ISl (Rp.bool) (bl Z0 ++ A) w bg bh a0.Accept ∧ ISl (Rp.bool) (bl Z0 ++ A) w bB bC a0.Plus ∧ Fr (bl []) w0 (bl Z0) w) [.blk B2 (.cells #[.int .i64 a0.Letters, .slice a8 a0.Table.length a9, .slice bv a0.Words.length bw, .slice bc a0.Images.length bf, .slice bg a0.Accept.length bh, .slice bB a0.Plus.length bC] 33 (0, 0))]) H ⟨⟨rfl, rfl, rfl, rfl, rfl, rfl, rfl, rfl, trivial⟩, hO, aA, bi, aU, aE, bx, hB⟩ ?_
  intro X2 k2_27
  intro H hX2 σ w26
  refine andE fun hag => andE fun hO => andE fun aA => andE fun bi => andE fun aU => andE fun aE => andE fun bx => fun hB => ?_
  refine Go1.keep [(1, .int .i64 a1), (2, .int .i64 a2), (3, .pointer (some ⟨B2, 0, none⟩)), (7, .int .i64 (k1_24 : Int)), (18, .int .i64 (a0.Table.length : Int)), (19, .int .i64 (k1_24 : Int)), (24, .int .i64 (a0.Table.length : Int)), (25, .int .i64 (k2_27 : Int))] hag ?_
  refine zq (zr ?_)
  by_cases h28 : (k2_27 : Int) < (a0.Table.length : Int)
  ·replace H := ifp h28 H
   refine zo (fun w => opB (J08 rfl rfl w) (decide_eq_true h28)) (zn (zq (zt rfl rfl (zk (zq ?_)))))
   refine zb (zq (zr (zm rfl (za rfl (zn ?_)))))
   refine zq ?_
   refine Go1.drawSF [0, 1, 0, 4, 0, 16, 0, 96, 128, 0, 768, 1024, 2056, 4096, 0, 24576, 32768, 65538, 131072, 262144, 524288, 1572864, 524288, 4718592, 524288, 17301504, 524288, 101187584, 134742016, 524288, 805830656, 1074266112, 2156396544, 4295491584, 524288, 25770328064, 34360262656, 68722098176, 137439477760, 274878431232, 549756338176] [1, 3, 7, 15, 31, 63, 127, 255, 511, 1023, 2047, 4095, 8191, 16383, 32767, 65535, 131071, 262143, 524287, 1048575, 2097151, 4194303, 8388607, 16777215, 33554431, 67108863, 134217727, 268435455, 536870911, 1073741823, 2147483647, 4294967295, 8589934591, 17179869183, 34359738367, 68719476735, 137438953471, 274877906943, 549755813887, 1099511627775, 2199023255551] 0 [(0, .pure), (1, .stable), (2, .pure), (3, .stable), (4, .pure), (5, .stable), (6, .pure), (7, .pure), (8, .stable), (9, .pure), (10, .pure), (11, .stable), (12, .pure), (13, .stable), (14, .pure), (15, .pure), (16, .stable), (17, .pure), (18, .stable), (19, .pure), (20, .pure), (21, .stable), (22, .pure), (23, .stable), (24, .pure), (25, .stable), (26, .pure), (27, .pure), (28, .stable), (29, .pure), (30, .pure), (31, .stable), (32, .pure), (33, .stable), (34, .pure), (35, .pure), (36, .stable), (37, .pure), (38, .stable), (39, .pure), (40, .pure)] mixed (by kernel_rfl) ?_
   intro w29 Fj
   have uk := Stp.same hO Fj
   replace hO := uk.own
   refine GoQ.pure rfl (J00 Try.underlying33 rfl ti22 rfl (by decide)) rfl rfl ?_
   refine GoQ.stable rfl (oblk (i := 4) 0 hO rfl rfl Try.underlying22 rfl rfl) rfl rfl ?_
   refine GoQ.pure rfl (J00 Try.underlying33 rfl ti23 rfl (by decide)) rfl rfl ?_
   refine GoQ.stable rfl (oblk (i := 1) 0 hO rfl rfl Try.underlying23 rfl rfl) rfl rfl ?_
   refine GoQ.pure rfl (J00 Try.underlying33 rfl ti23 rfl (by decide)) rfl rfl ?_
   refine GoQ.stable rfl (oblk (i := 1) 0 hO rfl rfl Try.underlying23 rfl rfl) rfl rfl ?_
   refine GoQ.pure rfl (J03 rfl) rfl rfl ?_
   obtain ⟨h32, H⟩ := H
   obtain ⟨h33, H⟩ := H
   replace aA := aA.ch uk.ch
   refine GoQ.pure rfl (J02 Try.underlying23 ti31 rfl rfl h32 h33 (aA.some_ h32 h33)) rfl rfl ?_
   have zz := ldSl aA h32 h33
   obtain ⟨p34, c35, LH, S4⟩ := zz
   refine GoQ.stable rfl (S4 Try.underlying31 rfl rfl) rfl rfl ?_
   refine GoQ.pure rfl (J03 rfl) rfl rfl ?_
   obtain ⟨h38, H⟩ := H
   obtain ⟨h39, H⟩ := H
   refine GoQ.pure rfl (J02 Try.underlying31 ti3 rfl rfl h38 h39 (LH.some_ h38 h39)) rfl rfl ?_
   refine GoQ.stable rfl (ldInt LH h38 h39 Try.underlying3 rfl rfl) rfl rfl ?_
   obtain ⟨h40, H⟩ := H
   obtain ⟨h41, H⟩ := H
   refine GoQ.pure rfl (J02 Try.underlying23 ti31 rfl rfl h40 h41 (aA.some_ h40 h41)) rfl rfl ?_
   have zz := ldSl aA h40 h41
   obtain ⟨p42, c43, Bu, HL⟩ := zz
   refine GoQ.stable rfl (HL Try.underlying31 rfl rfl) rfl rfl ?_
   refine GoQ.pure rfl (J03 rfl) rfl rfl ?_
   obtain ⟨h46, H⟩ := H
   obtain ⟨h47, H⟩ := H
   refine GoQ.pure rfl (J02 Try.underlying31 ti3 rfl rfl h46 h47 (Bu.some_ h46 h47)) rfl rfl ?_
   refine GoQ.stable rfl (ldInt Bu h46 h47 Try.underlying3 rfl rfl) rfl rfl ?_
   obtain ⟨h48, H⟩ := H
   obtain ⟨h49, H⟩ := H
   replace aE := aE.ch uk.ch
   refine GoQ.pure rfl (J02 Try.underlying22 ti4 rfl rfl h48 h49 (aE.some_ h48 h49)) rfl rfl ?_
   by_cases h50 : ix a0.Accept (ix (ix a0.Table (ix (ix a0.Table (k1_24 : Int)) a1)) (k2_27 : Int)) = true
   ·replace H := ifp h50 H
    refine GoQ.stable rfl (fun w hw => opB ((ldBool aE h48 h49 Try.underlying4 rfl rfl) w hw) (h50)) rfl rfl ?_
    refine GoQ.pure rfl (J03 rfl) rfl rfl ?_
    refine GoQ.pure rfl (J00 Try.underlying33 rfl ti22 rfl (by decide)) rfl rfl ?_
    refine GoQ.stable rfl (oblk (i := 4) 0 hO rfl rfl Try.underlying22 rfl rfl) rfl rfl ?_
    refine GoQ.pure rfl (J00 Try.underlying33 rfl ti23 rfl (by decide)) rfl rfl ?_
    refine GoQ.stable rfl (oblk (i := 1) 0 hO rfl rfl Try.underlying23 rfl rfl) rfl rfl ?_
    refine GoQ.pure rfl (J00 Try.underlying33 rfl ti23 rfl (by decide)) rfl rfl ?_
    refine GoQ.stable rfl (oblk (i := 1) 0 hO rfl rfl Try.underlying23 rfl rfl) rfl rfl ?_
    refine GoQ.pure rfl (J03 rfl) rfl rfl ?_
    obtain ⟨h51, H⟩ := H
    obtain ⟨h52, H⟩ := H
    refine GoQ.pure rfl (J02 Try.underlying23 ti31 rfl rfl h51 h52 (aA.some_ h51 h52)) rfl rfl ?_
    have zz := ldSl aA h51 h52
    obtain ⟨p53, c54, LI, S5⟩ := zz
    refine GoQ.stable rfl (S5 Try.underlying31 rfl rfl) rfl rfl ?_
    refine GoQ.pure rfl (J03 rfl) rfl rfl ?_
    obtain ⟨h57, H⟩ := H
    obtain ⟨h58, H⟩ := H
    refine GoQ.pure rfl (J02 Try.underlying31 ti3 rfl rfl h57 h58 (LI.some_ h57 h58)) rfl rfl ?_
    refine GoQ.stable rfl (ldInt LI h57 h58 Try.underlying3 rfl rfl) rfl rfl ?_
    obtain ⟨h59, H⟩ := H
    obtain ⟨h60, H⟩ := H
    refine GoQ.pure rfl (J02 Try.underlying23 ti31 rfl rfl h59 h60 (aA.some_ h59 h60)) rfl rfl ?_
    have zz := ldSl aA h59 h60
    obtain ⟨p61, c62, vQ, S6⟩ := zz
    refine GoQ.stable rfl (S6 Try.underlying31 rfl rfl) rfl rfl ?_
    refine GoQ.pure rfl (J03 rfl) rfl rfl ?_
    obtain ⟨h65, H⟩ := H
    obtain ⟨h66, H⟩ := H
    refine GoQ.pure rfl (J02 Try.underlying31 ti3 rfl rfl h65 h66 (vQ.some_ h65 h66)) rfl rfl ?_
    refine GoQ.stable rfl (ldInt vQ h65 h66 Try.underlying3 rfl rfl) rfl rfl ?_
    obtain ⟨h67, H⟩ := H
    obtain ⟨h68, H⟩ := H
    refine GoQ.pure rfl (J02 Try.underlying22 ti4 rfl rfl h67 h68 (aE.some_ h67 h68)) rfl rfl ?_
    by_cases h69 : ix a0.Accept (ix (ix a0.Table (ix (ix a0.Table (k1_24 : Int)) a2)) (k2_27 : Int)) = true
    ·replace H := ifp h69 H
     refine GoQ.stable rfl (fun w hw => opB ((ldBool aE h67 h68 Try.underlying4 rfl rfl) w hw) (h69)) rfl rfl ?_
     refine GoQ.pure rfl (J0p rfl) rfl rfl ?_
     refine GoQ.pure rfl (J06 rfl rfl rfl) rfl rfl ?_
     refine GoQ.nil ?_
     refine zf rfl rfl (zk ?_)
     refine Go1.inBlock ?_
     refine Go1.cut [(1, .int .i64 a1), (2, .int .i64 a2), (3, .pointer (some ⟨B2, 0, none⟩)), (7, .int .i64 (k1_24 : Int)), (18, .int .i64 (a0.Table.length : Int)), (19, .int .i64 (k1_24 : Int)), (24, .int .i64 (a0.Table.length : Int)), (25, .int .i64 (k2_27 : Int))] ⟨rfl, rfl, rfl, rfl, rfl, rfl, rfl, rfl, trivial⟩ ?_
     intro σ _
     refine zr (zo (J0c rfl rfl (wrap_i64 (natbd h28 aA.bd))) (zm rfl (zn ?_)))
     replace bi := bi.ch uk.ch
     replace aU := aU.ch uk.ch
     replace bx := bx.ch uk.ch
     replace hB := hB.trans uk.fr
     exact hX2 _ H _ _ ⟨⟨rfl, rfl, rfl, rfl, rfl, rfl, rfl, rfl, trivial⟩, hO, aA, bi, aU, aE, bx, hB⟩
    replace H := ifn h69 H
    refine GoQ.stable rfl (fun w hw => opB ((ldBool aE h67 h68 Try.underlying4 rfl rfl) w hw) (Bool.eq_false_iff.2 h69)) rfl rfl ?_
    refine GoQ.pure rfl (J0p rfl) rfl rfl ?_
    refine GoQ.pure rfl (J06 rfl rfl rfl) rfl rfl ?_
    refine GoQ.nil ?_
    refine zt rfl rfl (zq (zr (za rfl (zn ?_))))
    refine Go1.ret1 Try.func32 rfl ?_
    replace hB := hB.trans uk.fr
    exact ⟨false, rfl, hB.same, H⟩
   replace H := ifn h50 H
   refine GoQ.stable rfl (fun w hw => opB ((ldBool aE h48 h49 Try.underlying4 rfl rfl) w hw) (Bool.eq_false_iff.2 h50)) rfl rfl ?_
   refine GoQ.pure rfl (J03 rfl) rfl rfl ?_
   refine GoQ.pass rfl rfl rfl ?_
   refine GoQ.pass rfl rfl rfl ?_
   refine GoQ.pass rfl rfl rfl ?_
   refine GoQ.pass rfl rfl rfl ?_
   refine GoQ.pass rfl rfl rfl ?_
   refine GoQ.pass rfl rfl rfl ?_
   refine GoQ.pass rfl rfl rfl ?_
   refine GoQ.pass rfl rfl rfl ?_
   refine GoQ.pass rfl rfl rfl ?_
   refine GoQ.pass rfl rfl rfl ?_
   refine GoQ.pass rfl rfl rfl ?_
   refine GoQ.pass rfl rfl rfl ?_
   refine GoQ.pass rfl rfl rfl ?_
   refine GoQ.pass rfl rfl rfl ?_
   refine GoQ.pass rfl rfl rfl ?_
   refine GoQ.pass rfl rfl rfl ?_
   refine GoQ.pass rfl rfl rfl ?_
   refine GoQ.pass rfl rfl rfl ?_
   refine GoQ.pass rfl rfl rfl ?_
   refine GoQ.pass rfl rfl rfl ?_
   refine GoQ.pure rfl (J05 rfl rfl rfl) rfl rfl ?_
   refine GoQ.nil ?_
   refine zf rfl rfl (zk ?_)
   refine Go1.inBlock ?_
   refine Go1.cut [(1, .int .i64 a1), (2, .int .i64 a2), (3, .pointer (some ⟨B2, 0, none⟩)), (7, .int .i64 (k1_24 : Int)), (18, .int .i64 (a0.Table.length : Int)), (19, .int .i64 (k1_24 : Int)), (24, .int .i64 (a0.Table.length : Int)), (25, .int .i64 (k2_27 : Int))] ⟨rfl, rfl, rfl, rfl, rfl, rfl, rfl, rfl, trivial⟩ ?_
   intro σ _
   refine zr (zo (J0c rfl rfl (wrap_i64 (natbd h28 aA.bd))) (zm rfl (zn ?_)))
   replace bi := bi.ch uk.ch
   replace aU := aU.ch uk.ch
   replace bx := bx.ch uk.ch
   replace hB := hB.trans uk.fr
   exact hX2 _ H _ _ ⟨⟨rfl, rfl, rfl, rfl, rfl, rfl, rfl, rfl, trivial⟩, hO, aA, bi, aU, aE, bx, hB⟩
  replace H := ifn h28 H
  refine zo (fun w => opB (J08 rfl rfl w) (decide_eq_false h28)) (zn (zq (zf rfl rfl ?_)))
  refine Go1.exit rfl ?_
  refine Go1.inBlock ?_
  refine zr (zo (J0c rfl rfl (wrap_i64 (natbd h25 aA.bd))) (zm rfl (zn ?_)))
  exact hX1 _ H _ _ ⟨⟨rfl, rfl, rfl, rfl, rfl, trivial⟩, hO, aA, bi, aU, aE, bx, hB⟩
 replace H := ifn h25 H
 refine zo (fun w => opB (J08 rfl rfl w) (decide_eq_false h25)) (zn (zq (zf rfl rfl ?_)))
 refine Go1.exit rfl ?_
 refine zq (zr (za rfl (zn ?_)))
 refine Go1.ret1 Try.func32 rfl ?_
 exact ⟨true, rfl, hB.same, H⟩
theorem body33 : Body Try.prog 33 := ⟨Try.f33, Try.func33, rfl, by kernel_rfl⟩
theorem J1m {A : List Nat} {w0 : World} {bU : Option Addr} {bV : Nat} {b9 : Option Addr} {ca : Nat} {bI : Option Addr} {bK : Nat} {bO : Option Addr} {bP : Nat} {cC : Option Addr} {cD : Nat} {s_ : Syntactic} (hA : ∀ b ∈ A, b < w0.heap.size) (aN : ISl (Rp.sl (Rp.int .i64)) A w0 bU bV s_.Table) (bj : ISl (Rp.str) A w0 b9 ca s_.Words) (aO : ISl (Rp.int .i64) A w0 bI bK s_.Images) (aV : ISl (Rp.bool) A w0 bO bP s_.Accept) (bz : ISl (Rp.bool) A w0 cC cD s_.Plus) {K : Bool → Prop} (H : J0v s_ K) :
    CallsV Try.prog 33 #[.agg #[.int .i64 s_.Letters, .slice bU s_.Table.length bV, .slice b9 s_.Words.length ca, .slice bI s_.Images.length bK, .slice bO s_.Accept.length bP, .slice cC s_.Plus.length cD]] w0 (fun v w' => ∃ (r0 : Bool), v = .bool r0 ∧ Same w0 w' ∧ K r0) := by
 refine CallsV.of (l := [.agg #[.int .i64 s_.Letters, .slice bU s_.Table.length bV, .slice b9 s_.Words.length ca, .slice bI s_.Images.length bK, .slice bO s_.Accept.length bP, .slice cC s_.Plus.length cD]]) Try.func33 rfl Try.ntmps33 rfl ?_
 have hO := Owns.start hA
 have hB := Fr.refl (bl []) w0
 unfold J0v at H
 refine zq (zr ?_)
 have zz := obox (t := 33) (v := .agg #[.int .i64 s_.Letters, .slice bU s_.Table.length bV, .slice b9 s_.Words.length ca, .slice bI s_.Images.length bK, .slice bO s_.Accept.length bP, .slice cC s_.Plus.length cD]) (cs := #[.int .i64 s_.Letters, .slice bU s_.Table.length bV, .slice b9 s_.Words.length ca, .slice bI s_.Images.length bK, .slice bO s_.Accept.length bP, .slice cC s_.Plus.length cD]) hO rfl
 obtain ⟨w1, B2, c5, hs4, iQ⟩ := zz
 refine zg (iQ rfl) ?_
 replace hO := c5.own
 refine za rfl (zn (zq (zq (zr (zs (J0n (vs := [.int .i64 s_.Letters, .slice bU s_.Table.length bV, .slice b9 s_.Words.length ca, .slice bI s_.Images.length bK, .slice bO s_.Accept.length bP, .slice cC s_.Plus.length cD]) (i := 0) 0 hO rfl rfl Try.underlying33 rfl ti33 rfl) ?_)))))
 have Z1 := (Ch.start A w0).trans c5.ch
 replace aN := aN.ch Z1
 replace bj := bj.ch Z1
 replace aO := aO.ch Z1
 replace aV := aV.ch Z1
 replace bz := bz.ch Z1
 refine GoR.call (J0a body28 rfl (J1w (a0 := s_) hO.lt aN bj aO aV bz H)) rfl rfl ?_
 rintro v11 w8 ⟨r7, rfl, hs9, H⟩
 have iK := Stp.same hO hs9
 replace hO := iK.own
 by_cases h13 : r7 = (0 : Int)
 ·replace H := ifp h13 H
  refine zo (fun w => opB (J0g rfl rfl w) (ndT h13)) (zn (zf rfl rfl (zk (zq (zq ?_)))))
  refine zr (zo (J00 Try.underlying33 rfl ti23 rfl (by decide)) (zs (oblk (i := 1) 0 hO rfl rfl Try.underlying23 rfl rfl) (zo (J0d Try.underlying23 rfl) ?_)))
  replace aN := aN.ch iK.ch
  replace H := H aN.bd
  refine zm rfl (zn (zb ?_))
  replace bj := bj.ch iK.ch
  replace aO := aO.ch iK.ch
  replace aV := aV.ch iK.ch
  replace bz := bz.ch iK.ch
  replace hB := (hB.trans c5.fr).trans iK.fr
  refine Go1.loopW (S := Nat) (fun s σ w => agrees σ [(1, .pointer (some ⟨B2, 0, none⟩)), (10, .int .i64 (s_.Table.length : Int)), (11, .int .i64 (s : Int))] ∧ (fun Z0 => Owns w0.heap.size w Z0 A ∧ ISl (Rp.sl (Rp.int .i64)) (bl Z0 ++ A) w bU bV s_.Table ∧ ISl (Rp.str) (bl Z0 ++ A) w b9 ca s_.Words ∧ ISl (Rp.int .i64) (bl Z0 ++ A) w bI bK s_.Images ∧ ISl (Rp.bool) (bl Z0 ++ A) w bO bP s_.Accept ∧ ISl (Rp.bool) (bl Z0 ++ A) w cC cD s_.Plus ∧ Fr (bl []) w0 (bl Z0) w) [.blk B2 (.cells #[.int .i64 s_.Letters, .slice bU s_.Table.length bV, .slice b9 s_.Words.length ca, .slice bI s_.Images.length bK, .slice bO s_.Accept.length bP, .slice cC s_.Plus.length cD] 33 (0, 0))]) H ⟨⟨rfl, rfl, rfl, trivial⟩, hO, aN, bj, aO, aV, bz, hB⟩ ?_
  intro X1 k1_15
  intro H hX1 σ w14
  refine andE fun hag => andE fun hO => andE fun aN => andE fun bj => andE fun aO => andE fun aV => andE fun bz => fun hB => ?_
  refine Go1.keep [(1, .pointer (some ⟨B2, 0, none⟩)), (10, .int .i64 (s_.Table.length : Int)), (11, .int .i64 (k1_15 : Int))] hag ?_
  refine zq (zr ?_)
  by_cases h16 : (k1_15 : Int) < (s_.Table.length : Int)
  ·replace H := ifp h16 H
   refine zo (fun w => opB (J08 rfl rfl w) (decide_eq_true h16)) (zn (zq (zt rfl rfl (zk (zq ?_)))))
   refine zb (zq (zr (zm rfl (za rfl (zn ?_)))))
   refine zq (zr (zm rfl (za rfl (zn (zq ?_)))))
   refine zb ?_
   refine Go1.loopW (S := Int) (fun s σ w => agrees σ [(1, .pointer (some ⟨B2, 0, none⟩)), (3, .int .i64 (k1_15 : Int)), (4, .int .i64 s), (10, .int .i64 (s_.Table.length : Int)), (11, .int .i64 (k1_15 : Int))] ∧ (fun Z0 => Owns w0.heap.size w Z0 A ∧ ISl (Rp.sl (Rp.int .i64)) (bl Z0 ++ A) w bU bV s_.Table ∧ ISl (Rp.str) (bl Z0 ++ A) w b9 ca s_.Words ∧ ISl (Rp.int .i64) (bl Z0 ++ A) w bI bK s_.Images ∧ ISl (Rp.bool) (bl Z0 ++ A) w bO bP s_.Accept ∧ ISl (Rp.bool) (bl Z0 ++ A) w cC cD s_.Plus ∧ Fr (bl []) w0 (bl Z0) w) [.blk B2 (.cells #[.int .i64 s_.Letters, .slice bU s_.Table.length bV, .slice b9 s_.Words.length ca, .slice bI s_.Images.length bK, .slice bO s_.Accept.length bP, .slice cC s_.Plus.length cD] 33 (0, 0))]) H ⟨⟨rfl, rfl, rfl, rfl, rfl, trivial⟩, hO, aN, bj, aO, aV, bz, hB⟩ ?_
   intro X2 e2_18
   intro H hX2 σ w17
   refine andE fun hag => andE fun hO => andE fun aN => andE fun bj => andE fun aO => andE fun aV => andE fun bz => fun hB => ?_
   refine Go1.keep [(1, .pointer (some ⟨B2, 0, none⟩)), (3, .int .i64 (k1_15 : Int)), (4, .int .i64 e2_18), (10, .int .i64 (s_.Table.length : Int)), (11, .int .i64 (k1_15 : Int))] hag ?_
   refine zq (zq (zr (zo (J00 Try.underlying33 rfl ti23 rfl (by decide)) (zs (oblk (i := 1) 0 hO rfl rfl Try.underlying23 rfl rfl) (zm rfl ?_)))))
   obtain ⟨h19, H⟩ := H
   obtain ⟨h20, H⟩ := H
   refine zo (J02 Try.underlying23 ti31 rfl rfl h19 h20 (aN.some_ h19 h20)) ?_
   have zz := ldSl aN h19 h20
   obtain ⟨p21, c22, LJ, S7⟩ := zz
   refine zs (S7 Try.underlying31 rfl rfl) (zm rfl ?_)
   obtain ⟨h25, H⟩ := H
   obtain ⟨h26, H⟩ := H
   refine zo (J02 Try.underlying31 ti3 rfl rfl h25 h26 (LJ.some_ h25 h26)) (zs (ldInt LJ h25 h26 Try.underlying3 rfl rfl) (zm rfl ?_))
   by_cases h27 : (ix (ix s_.Table e2_18) e2_18) = e2_18
   ·replace H := ifp h27 H
    refine zo (fun w => opB (J0g rfl rfl w) (ndT h27)) (zn (zf rfl rfl ?_))
    refine Go1.exit rfl ?_
    refine zq (zr (zo (J00 Try.underlying33 rfl ti23 rfl (by decide)) (zs (oblk (i := 1) 0 hO rfl rfl Try.underlying23 rfl rfl) (zm rfl ?_))))
    obtain ⟨h28, H⟩ := H
    obtain ⟨h29, H⟩ := H
    refine zo (J02 Try.underlying23 ti31 rfl rfl h28 h29 (aN.some_ h28 h29)) ?_
    have zz := ldSl aN h28 h29
    obtain ⟨p30, c31, Fc, S8⟩ := zz
    refine zs (S8 Try.underlying31 rfl rfl) (zm rfl ?_)
    obtain ⟨h34, H⟩ := H
    obtain ⟨h35, H⟩ := H
    refine zo (J02 Try.underlying31 ti3 rfl rfl h34 h35 (Fc.some_ h34 h35)) (zs (ldInt Fc h34 h35 Try.underlying3 rfl rfl) (zm rfl ?_))
    by_cases h36 : (ix (ix s_.Table e2_18) (k1_15 : Int)) = e2_18
    ·replace H := ifp h36 H
     refine zo (fun w => opB (J0g rfl rfl w) (ndT h36)) (zn (zf rfl rfl (zk ?_)))
     refine Go1.inBlock ?_
     refine Go1.cut [(1, .pointer (some ⟨B2, 0, none⟩)), (10, .int .i64 (s_.Table.length : Int)), (11, .int .i64 (k1_15 : Int))] ⟨rfl, rfl, rfl, trivial⟩ ?_
     intro σ _
     refine zr (zo (J0c rfl rfl (wrap_i64 (natbd h16 aN.bd))) (zm rfl (zn ?_)))
     exact hX1 _ H _ _ ⟨⟨rfl, rfl, rfl, trivial⟩, hO, aN, bj, aO, aV, bz, hB⟩
    replace H := ifn h36 H
    refine zo (fun w => opB (J0g rfl rfl w) (ndF h36)) (zn (zt rfl rfl (zq (zr (za rfl ?_)))))
    refine zn ?_
    refine Go1.ret1 Try.func33 rfl ?_
    exact ⟨false, rfl, hB.same, H⟩
   replace H := ifn h27 H
   refine zo (fun w => opB (J0g rfl rfl w) (ndF h27)) (zn (zt rfl rfl (zk (zb (zr ?_)))))
   refine zo (J00 Try.underlying33 rfl ti23 rfl (by decide)) (zs (oblk (i := 1) 0 hO rfl rfl Try.underlying23 rfl rfl) (zm rfl ?_))
   obtain ⟨h37, H⟩ := H
   obtain ⟨h38, H⟩ := H
   refine zo (J02 Try.underlying23 ti31 rfl rfl h37 h38 (aN.some_ h37 h38)) ?_
   have zz := ldSl aN h37 h38
   obtain ⟨p39, c40, uo, S9⟩ := zz
   refine zs (S9 Try.underlying31 rfl rfl) (zm rfl ?_)
   obtain ⟨h43, H⟩ := H
   obtain ⟨h44, H⟩ := H
   refine zo (J02 Try.underlying31 ti3 rfl rfl h43 h44 (uo.some_ h43 h44)) (zs (ldInt uo h43 h44 Try.underlying3 rfl rfl) (za rfl (zn ?_)))
   refine Go1.inBlock ?_
   exact hX2 _ H _ _ ⟨⟨rfl, rfl, rfl, rfl, rfl, trivial⟩, hO, aN, bj, aO, aV, bz, hB⟩
  replace H := ifn h16 H
  refine zo (fun w => opB (J08 rfl rfl w) (decide_eq_false h16)) (zn (zq (zf rfl rfl ?_)))
  refine Go1.exit rfl ?_
  refine zq (zr (za rfl (zn ?_)))
  refine Go1.ret1 Try.func33 rfl ?_
  exact ⟨true, rfl, hB.same, H⟩
 replace H := ifn h13 H
 refine zo (fun w => opB (J0g rfl rfl w) (ndF h13)) (zn (zt rfl rfl (zq (zr (za rfl ?_)))))
 refine zn ?_
 refine Go1.ret1 Try.func33 rfl ?_
 replace hB := (hB.trans c5.fr).trans iK.fr
 exact ⟨false, rfl, hB.same, H⟩
theorem body115 : Body Try.prog 115 := ⟨Try.f115, Try.func115, rfl, by kernel_rfl⟩
theorem walk_ref14_Powers {A : List Nat} {w0 : World} {p_t : Option Addr} {c_t : Nat} {t : List (List Int)} {x : Int} (hA : ∀ b ∈ A, b < w0.heap.size) (h_t : ISl (Rp.sl (Rp.int .i64)) A w0 p_t c_t t) {K : List Int → Int → Prop} (H : ref14_Powers t x K) :
    CallsV Try.prog 115 #[.slice p_t t.length c_t, .int .i64 x] w0 (fun v w' => ∃ (r0 : List Int) (r1 : Int) (qD : Option Addr) (qE : Nat), v = .tuple #[.slice qD r0.length qE, .int .i64 r1] ∧ Same w0 w' ∧ ISl (Rp.int .i64) A w' qD qE r0 ∧ K r0 r1) := by
 refine CallsV.of (l := [.slice p_t t.length c_t, .int .i64 x]) Try.func115 rfl Try.ntmps115 rfl ?_
 have hO := Owns.start hA
 have hB := Fr.refl (bl []) w0
 unfold ref14_Powers at H
 refine zq (zr (za rfl (za rfl (zn (zq ?_)))))
 refine zr (zm rfl ?_)
 have zz := J0j (r := Rp.int .i64) (n := 1) (parts := [(0, .int .i64 x)]) (vs := [.int .i64 x]) (xs := [x]) rfl Try.underlying31 ti3 hO (by decide) (by kernel_rfl) (Els.cons rfl rfl (Els.nil _ _ _) (by simp [mx])) rfl
 obtain ⟨w1, p2, c5, hE4, hs5, Ta⟩ := zz
 refine zg (Ta rfl) ?_
 replace hO := c5.own
 refine za rfl (zn (zb ?_))
 replace hB := hB.trans c5.fr
 replace h_t := (h_t.ch (Ch.start A w0)).ch c5.ch
 refine Go1.loopW (S := List Int) (fun s σ w => ∃ (n14 : Nat) (p12 : Option Addr) (c13 : Nat) (wC : List Value), agrees σ [(0, .slice p_t t.length c_t), (1, .int .i64 x), (6, .slice p12 n14 c13)] ∧ (fun Z0 => Owns w0.heap.size w Z0 A ∧ Els (Rp.int .i64) (bl Z0 ++ A) w wC s ∧ ISl (Rp.sl (Rp.int .i64)) (bl Z0 ++ A) w p_t c_t t ∧ Fr (bl []) w0 (bl Z0) w) [.row 3 1 p12 n14 c13 wC]) H ⟨1, p2, 1, [.int .i64 x], ⟨rfl, rfl, rfl, trivial⟩, hO, hE4, h_t, hB⟩ ?_
 intro X1 l1_9
 intro H hX1 σ w8
 refine exE fun n14 => exE fun p12 => exE fun c13 => exE fun wC => andE fun hag => andE fun hO => andE fun sI => andE fun h_t => fun hB => ?_
 refine Go1.keep [(0, .slice p_t t.length c_t), (1, .int .i64 x), (6, .slice p12 n14 c13)] hag ?_
 refine zb (zq (zr (zm rfl (zm rfl (zm rfl ?_)))))
 refine zo (J0w Try.underlying31 rfl (sI.neq hO 0 rfl)) ?_
 obtain ⟨h15, H⟩ := H
 refine zo (op_sub rfl rfl (wrap_i64 h15)) ?_
 obtain ⟨h16, H⟩ := H
 obtain ⟨h17, H⟩ := H
 refine zo (J02 Try.underlying31 ti3 rfl rfl h16 (ltn (sI.neq hO 0 rfl) h17) (sI.psome hO 0 rfl h16 h17)) (zs (oldInt 0 hO rfl sI h16 h17 Try.underlying3 rfl rfl) ?_)
 obtain ⟨h18, H⟩ := H
 obtain ⟨h19, H⟩ := H
 refine zo (J02 Try.underlying23 ti31 rfl rfl h18 h19 (h_t.some_ h18 h19)) ?_
 have zz := ldSl h_t h18 h19
 obtain ⟨p20, c21, z7, HM⟩ := zz
 refine zs (HM Try.underlying31 rfl rfl) (zm rfl ?_)
 obtain ⟨h24, H⟩ := H
 obtain ⟨h25, H⟩ := H
 refine zo (J02 Try.underlying31 ti3 rfl rfl h24 h25 (z7.some_ h24 h25)) (zs (ldInt z7 h24 h25 Try.underlying3 rfl rfl) (za rfl (zn (zq (zq ?_)))))
 refine zr (zm rfl (zo (J0w Try.underlying31 rfl (sI.neq hO 0 rfl)) (zm rfl (zn (zb ?_)))))
 refine Go1.loopW (S := Nat) (fun s σ w => agrees σ [(0, .slice p_t t.length c_t), (1, .int .i64 x), (6, .slice p12 n14 c13), (7, .int .i64 (ix (ix t (ix l1_9 ((l1_9.length : Int) - (1 : Int)))) x)), (24, .int .i64 (l1_9.length : Int)), (25, .int .i64 (s : Int))] ∧ (fun Z0 => Owns w0.heap.size w Z0 A ∧ Els (Rp.int .i64) (bl Z0 ++ A) w wC l1_9 ∧ ISl (Rp.sl (Rp.int .i64)) (bl Z0 ++ A) w p_t c_t t ∧ Fr (bl []) w0 (bl Z0) w) [.row 3 1 p12 n14 c13 wC]) H ⟨⟨rfl, rfl, rfl, rfl, rfl, rfl, trivial⟩, hO, sI, h_t, hB⟩ ?_
 intro X2 k2_27
 intro H hX2 σ w26
 refine andE fun hag => andE fun hO => andE fun sI => andE fun h_t => fun hB => ?_
 refine Go1.keep [(0, .slice p_t t.length c_t), (1, .int .i64 x), (6, .slice p12 n14 c13), (7, .int .i64 (ix (ix t (ix l1_9 ((l1_9.length : Int) - (1 : Int)))) x)), (24, .int .i64 (l1_9.length : Int)), (25, .int .i64 (k2_27 : Int))] hag ?_
 refine zq (zr ?_)
 by_cases h28 : (k2_27 : Int) < (l1_9.length : Int)
 ·replace H := ifp h28 H
  refine zo (fun w => opB (J08 rfl rfl w) (decide_eq_true h28)) (zn (zq (zt rfl rfl (zk (zq ?_)))))
  refine zb (zq (zr (zm rfl (za rfl (zn ?_)))))
  refine zq (zr (zm rfl (zm rfl ?_)))
  obtain ⟨h29, H⟩ := H
  obtain ⟨h30, H⟩ := H
  refine zo (J02 Try.underlying31 ti3 rfl rfl h29 (ltn (sI.neq hO 0 rfl) h30) (sI.psome hO 0 rfl h29 h30)) (zs (oldInt 0 hO rfl sI h29 h30 Try.underlying3 rfl rfl) (zm rfl ?_))
  by_cases h31 : (ix l1_9 (k2_27 : Int)) = (ix (ix t (ix l1_9 ((l1_9.length : Int) - (1 : Int)))) x)
  ·replace H := ifp h31 H
   refine zo (fun w => opB (J0A rfl rfl w) (decide_eq_true h31)) (zn (zt rfl rfl (zq (zr (zm rfl ?_)))))
   refine zm rfl (za rfl (za rfl (zn ?_)))
   have zz := freeze 0 hO rfl sI
   obtain ⟨hO1, Tc, Fc, Td⟩ := zz
   replace hO := hO1; clear hO1
   refine Go1.ret2 Try.func115 rfl ?_
   replace hB := hB.trans (Owns.J09 _ _ 0)
   exact ⟨l1_9, (k2_27 : Int), p12, c13, (congrArg (fun l => Value.tuple (List.toArray l)) (J0i (congrArg (fun nn => Value.slice p12 nn c13) Td) (J0i rfl rfl))), hB.same, (Fc.ch (Ch.weak _ _ _)), H⟩
  replace H := ifn h31 H
  refine zo (fun w => opB (J0A rfl rfl w) (decide_eq_false h31)) (zn (zf rfl rfl (zk ?_)))
  refine Go1.inBlock ?_
  refine zr (zo (J0c rfl rfl (wrap_i64 (natbd h28 sI.bd))) (zm rfl (zn ?_)))
  exact hX2 _ H _ _ ⟨⟨rfl, rfl, rfl, rfl, rfl, rfl, trivial⟩, hO, sI, h_t, hB⟩
 replace H := ifn h28 H
 refine zo (fun w => opB (J08 rfl rfl w) (decide_eq_false h28)) (zn (zq (zf rfl rfl ?_)))
 refine Go1.exit rfl ?_
 refine zr (zm rfl (zm rfl ?_))
 have zz := J0j (r := Rp.int .i64) (n := 1) (parts := [(0, .int .i64 (ix (ix t (ix l1_9 ((l1_9.length : Int) - (1 : Int)))) x))]) (vs := [.int .i64 (ix (ix t (ix l1_9 ((l1_9.length : Int) - (1 : Int)))) x)]) (xs := [(ix (ix t (ix l1_9 ((l1_9.length : Int) - (1 : Int)))) x)]) rfl Try.underlying31 ti3 hO (by decide) (by kernel_rfl) (Els.cons rfl rfl (Els.nil _ _ _) (by simp [mx])) rfl
 obtain ⟨w35, p36, iu, Te, aaw, EI⟩ := zz
 refine zg (EI rfl) ?_
 replace hO := iu.own
 have zz := freeze 0 hO rfl Te
 obtain ⟨hO1, LK, HN, Tf⟩ := zz
 replace hO := hO1; clear hO1
 obtain ⟨h45, H⟩ := H
 replace sI := (sI.ch iu.ch).ch LK
 have zz := oapp Try.underlying31 ti3 rfl 0 hO rfl sI HN Tf h45 (by decide)
 obtain ⟨w46, p47, c48, Tg, ta, ww, Qp⟩ := zz
 refine zg (Qp (by exact rfl) (by exact rfl)) ?_
 replace hO := ta.own
 refine za rfl (zn ?_)
 refine Go1.inBlock ?_
 have Z1 := (iu.ch.trans LK).trans ta.ch
 replace h_t := h_t.ch Z1
 replace hB := ((hB.trans iu.fr).trans (Owns.J09 _ _ 0)).trans ta.fr
 exact hX1 _ H _ _ ⟨n14 + 1, p47, c48, Tg, ⟨rfl, rfl, rfl, trivial⟩, hO, ww, h_t, hB⟩
theorem body77 : Body Try.prog 77 := ⟨Try.f77, Try.func77, rfl, by kernel_rfl⟩
theorem walk_ref14_IndexPeriod {A : List Nat} {w0 : World} {p_t : Option Addr} {c_t : Nat} {t : List (List Int)} {x : Int} (hA : ∀ b ∈ A, b < w0.heap.size) (h_t : ISl (Rp.sl (Rp.int .i64)) A w0 p_t c_t t) {K : Int → Int → Prop} (H : J0M t x K) :
    CallsV Try.prog 77 #[.slice p_t t.length c_t, .int .i64 x] w0 (fun v w' => ∃ (r0 : Int) (r1 : Int), v = .tuple #[.int .i64 r0, .int .i64 r1] ∧ Same w0 w' ∧ K r0 r1) := by
 refine CallsV.of (l := [.slice p_t t.length c_t, .int .i64 x]) Try.func77 rfl Try.ntmps77 rfl ?_
 have hO := Owns.start hA
 have hB := Fr.refl (bl []) w0
 unfold J0M at H
 refine zq (zr (za rfl (za rfl (zn (zq ?_)))))
 refine zr (zm rfl (zm rfl ?_))
 replace h_t := h_t.ch (Ch.start A w0)
 refine GoR.call (J0a body115 rfl (walk_ref14_Powers hO.lt h_t H)) rfl rfl ?_
 rintro v6 w3 ⟨r1, r2, AX, AY, rfl, hs4, Th, H⟩
 have kQ := Stp.same hO hs4
 replace hO := kQ.own
 refine zm rfl (zo (J07 rfl rfl) (zo (J07 rfl rfl) (za rfl (za rfl (zn ?_)))))
 refine zq (zr (zm rfl ?_))
 obtain ⟨h8, H⟩ := H
 refine zo (J0c rfl rfl (wrap_i64 h8)) (zm rfl (zo (J0d Try.underlying31 rfl) ?_))
 replace H := H Th.bd
 refine zm rfl ?_
 obtain ⟨h9, H⟩ := H
 refine zo (op_sub rfl rfl (wrap_i64 h9)) (za rfl (za rfl (zn ?_)))
 refine Go1.ret2 Try.func77 rfl ?_
 replace hB := hB.trans kQ.fr
 exact ⟨(r2 + (1 : Int)), ((r1.length : Int) - r2), rfl, hB.same, H⟩
theorem body34 : Body Try.prog 34 := ⟨Try.f34, Try.func34, rfl, by kernel_rfl⟩
theorem walk_ref21_Aperiodic {A : List Nat} {w0 : World} {bU : Option Addr} {bV : Nat} {b9 : Option Addr} {ca : Nat} {bI : Option Addr} {bK : Nat} {bO : Option Addr} {bP : Nat} {cC : Option Addr} {cD : Nat} {s_ : Syntactic} (hA : ∀ b ∈ A, b < w0.heap.size) (aN : ISl (Rp.sl (Rp.int .i64)) A w0 bU bV s_.Table) (bj : ISl (Rp.str) A w0 b9 ca s_.Words) (aO : ISl (Rp.int .i64) A w0 bI bK s_.Images) (aV : ISl (Rp.bool) A w0 bO bP s_.Accept) (bz : ISl (Rp.bool) A w0 cC cD s_.Plus) {K : Bool → Prop} (H : J0K s_ K) :
    CallsV Try.prog 34 #[.agg #[.int .i64 s_.Letters, .slice bU s_.Table.length bV, .slice b9 s_.Words.length ca, .slice bI s_.Images.length bK, .slice bO s_.Accept.length bP, .slice cC s_.Plus.length cD]] w0 (fun v w' => ∃ (r0 : Bool), v = .bool r0 ∧ Same w0 w' ∧ K r0) := by
 refine CallsV.of (l := [.agg #[.int .i64 s_.Letters, .slice bU s_.Table.length bV, .slice b9 s_.Words.length ca, .slice bI s_.Images.length bK, .slice bO s_.Accept.length bP, .slice cC s_.Plus.length cD]]) Try.func34 rfl Try.ntmps34 rfl ?_
 have hO := Owns.start hA
 have hB := Fr.refl (bl []) w0
 unfold J0K at H
 refine zq (zr ?_)
 have zz := obox (t := 33) (v := .agg #[.int .i64 s_.Letters, .slice bU s_.Table.length bV, .slice b9 s_.Words.length ca, .slice bI s_.Images.length bK, .slice bO s_.Accept.length bP, .slice cC s_.Plus.length cD]) (cs := #[.int .i64 s_.Letters, .slice bU s_.Table.length bV, .slice b9 s_.Words.length ca, .slice bI s_.Images.length bK, .slice bO s_.Accept.length bP, .slice cC s_.Plus.length cD]) hO rfl
 obtain ⟨w1, B2, c5, hs4, iQ⟩ := zz
 refine zg (iQ rfl) ?_
 replace hO := c5.own
 refine za rfl (zn (zq (zq (zr (zo (J00 Try.underlying33 rfl ti23 rfl (by decide)) ?_)))))
 refine zs (oblk (i := 1) 0 hO rfl rfl Try.underlying23 rfl rfl) (zo (J0d Try.underlying23 rfl) ?_)
 replace aN := (aN.ch (Ch.start A w0)).ch c5.ch
 replace H := H aN.bd
 refine zm rfl (zn (zb ?_))
 replace hB := hB.trans c5.fr
 have Z1 := (Ch.start A w0).trans c5.ch
 replace bj := bj.ch Z1
 replace aO := aO.ch Z1
 replace aV := aV.ch Z1
 replace bz := bz.ch Z1
 refine Go1.loopW (S := Nat) (fun s σ w => agrees σ [(1, .pointer (some ⟨B2, 0, none⟩)), (8, .int .i64 (s_.Table.length : Int)), (9, .int .i64 (s : Int))] ∧ (fun Z0 => Owns w0.heap.size w Z0 A ∧ ISl (Rp.sl (Rp.int .i64)) (bl Z0 ++ A) w bU bV s_.Table ∧ ISl (Rp.str) (bl Z0 ++ A) w b9 ca s_.Words ∧ ISl (Rp.int .i64) (bl Z0 ++ A) w bI bK s_.Images ∧ ISl (Rp.bool) (bl Z0 ++ A) w bO bP s_.Accept ∧ ISl (Rp.bool) (bl Z0 ++ A) w cC cD s_.Plus ∧ Fr (bl []) w0 (bl Z0) w) [.blk B2 (.cells #[.int .i64 s_.Letters, .slice bU s_.Table.length bV, .slice b9 s_.Words.length ca, .slice bI s_.Images.length bK, .slice bO s_.Accept.length bP, .slice cC s_.Plus.length cD] 33 (0, 0))]) H ⟨⟨rfl, rfl, rfl, trivial⟩, hO, aN, bj, aO, aV, bz, hB⟩ ?_
 intro X1 k1_8
 intro H hX1 σ w7
 refine andE fun hag => andE fun hO => andE fun aN => andE fun bj => andE fun aO => andE fun aV => andE fun bz => fun hB => ?_
 refine Go1.keep [(1, .pointer (some ⟨B2, 0, none⟩)), (8, .int .i64 (s_.Table.length : Int)), (9, .int .i64 (k1_8 : Int))] hag ?_
 refine zq (zr ?_)
 by_cases h9 : (k1_8 : Int) < (s_.Table.length : Int)
 ·replace H := ifp h9 H
  refine zo (fun w => opB (J08 rfl rfl w) (decide_eq_true h9)) (zn (zq (zt rfl rfl (zk (zq ?_)))))
  refine zb (zq (zr (zm rfl (za rfl (zn ?_)))))
  refine zq (zr (zo (J00 Try.underlying33 rfl ti23 rfl (by decide)) (zs (oblk (i := 1) 0 hO rfl rfl Try.underlying23 rfl rfl) (zm rfl ?_))))
  refine GoR.call (J0a body77 rfl (walk_ref14_IndexPeriod hO.lt aN H)) rfl rfl ?_
  rintro v15 w12 ⟨r10, r11, rfl, Tj, H⟩
  have lI := Stp.same hO Tj
  replace hO := lI.own
  refine zm rfl (zo (J07 rfl rfl) (zo (J07 rfl rfl) (za rfl (za rfl (zn ?_)))))
  refine zq (zr (zm rfl ?_))
  by_cases h17 : r11 = (1 : Int)
  ·replace H := ifp h17 H
   refine zo (fun w => opB (J0g rfl rfl w) (ndT h17)) (zn (zf rfl rfl (zk ?_)))
   refine Go1.inBlock ?_
   refine zr ?_
   replace aN := aN.ch lI.ch
   refine zo (J0c rfl rfl (wrap_i64 (natbd h9 aN.bd))) (zm rfl (zn ?_))
   replace bj := bj.ch lI.ch
   replace aO := aO.ch lI.ch
   replace aV := aV.ch lI.ch
   replace bz := bz.ch lI.ch
   replace hB := hB.trans lI.fr
   exact hX1 _ H _ _ ⟨⟨rfl, rfl, rfl, trivial⟩, hO, aN, bj, aO, aV, bz, hB⟩
  replace H := ifn h17 H
  refine zo (fun w => opB (J0g rfl rfl w) (ndF h17)) (zn (zt rfl rfl (zq (zr (za rfl ?_)))))
  refine zn ?_
  refine Go1.ret1 Try.func34 rfl ?_
  replace hB := hB.trans lI.fr
  exact ⟨false, rfl, hB.same, H⟩
 replace H := ifn h9 H
 refine zo (fun w => opB (J08 rfl rfl w) (decide_eq_false h9)) (zn (zq (zf rfl rfl ?_)))
 refine Go1.exit rfl ?_
 refine zq (zr (za rfl (zn ?_)))
 refine Go1.ret1 Try.func34 rfl ?_
 exact ⟨true, rfl, hB.same, H⟩
theorem walk_law21_SyntacticOrders {A : List Nat} {w0 : World} {bn : Option Addr} {bo : Nat} {bt : Option Addr} {bu : Nat} {d : DFA} {x : Int} {y : Int} (hA : ∀ b ∈ A, b < w0.heap.size) (ag : ISl (Rp.bool) A w0 bn bo d.Final) (ak : ISl (Rp.sl (Rp.int .i64)) A w0 bt bu d.Next) {K : Bool → Prop} (H : law21_SyntacticOrders d x y K) :
    CallsV Try.prog 8 #[.agg #[.int .i64 d.Letters, .int .i64 d.Start, .slice bn d.Final.length bo, .slice bt d.Next.length bu], .int .i64 x, .int .i64 y] w0 (fun v w' => ∃ (r0 : Bool), v = .bool r0 ∧ Same w0 w' ∧ K r0) := by
 refine CallsV.of (l := [.agg #[.int .i64 d.Letters, .int .i64 d.Start, .slice bn d.Final.length bo, .slice bt d.Next.length bu], .int .i64 x, .int .i64 y]) Try.func8 rfl Try.ntmps8 rfl ?_
 have hO := Owns.start hA
 have hB := Fr.refl (bl []) w0
 unfold law21_SyntacticOrders at H
 refine zq (zr ?_)
 have zz := obox (t := 25) (v := .agg #[.int .i64 d.Letters, .int .i64 d.Start, .slice bn d.Final.length bo, .slice bt d.Next.length bu]) (cs := #[.int .i64 d.Letters, .int .i64 d.Start, .slice bn d.Final.length bo, .slice bt d.Next.length bu]) hO rfl
 obtain ⟨w1, B2, c5, hs4, iQ⟩ := zz
 refine zg (iQ rfl) ?_
 replace hO := c5.own
 refine za rfl (zn (zq (zq (zr (zs (J0n (vs := [.int .i64 d.Letters, .int .i64 d.Start, .slice bn d.Final.length bo, .slice bt d.Next.length bu]) (i := 0) 0 hO rfl rfl Try.underlying25 rfl ti25 rfl) ?_)))))
 have Z1 := (Ch.start A w0).trans c5.ch
 replace ag := ag.ch Z1
 replace ak := ak.ch Z1
 refine GoR.call (J0a body17 rfl (walk_law21_small (d := d) hO.lt ag ak H)) rfl rfl ?_
 rintro v11 w8 ⟨r7, rfl, hs9, H⟩
 have iK := Stp.same hO hs9
 replace hO := iK.own
 cases r7
 ·replace H := ifn Bool.false_ne_true H
  refine zo (J0p rfl) (zn (zt rfl rfl (zq (zr ?_))))
  refine GoR.call (J0a body18 rfl (J0V hO.lt H)) rfl rfl ?_
  rintro v17 w14 ⟨r13, rfl, xw, H⟩
  have gG := Stp.same hO xw
  replace hO := gG.own
  refine za rfl (zn ?_)
  refine Go1.ret1 Try.func8 rfl ?_
  replace hB := ((hB.trans c5.fr).trans iK.fr).trans gG.fr
  exact ⟨r13, rfl, hB.same, H⟩
 replace H := ifp rfl H
 refine zo (J0p rfl) (zn (zf rfl rfl (zk (zq (zr ?_)))))
 refine zs (J0n (vs := [.int .i64 d.Letters, .int .i64 d.Start, .slice bn d.Final.length bo, .slice bt d.Next.length bu]) (i := 0) 0 hO rfl rfl Try.underlying25 rfl ti25 rfl) ?_
 replace ag := ag.ch iK.ch
 replace ak := ak.ch iK.ch
 refine GoR.call (J0a body19 rfl (walk_syntactic_Of (d := d) hO.lt ag ak H)) rfl rfl ?_
 rintro v24 w21 ⟨r19, r20, eQ, eU, fd, fe, eM, eN, eO, eP, fy, fA, rfl, HO, cy, cK, cf, cg, cQ, H⟩
 have mV := Stp.same hO HO
 replace hO := mV.own
 refine zm rfl (zo (J07 rfl rfl) (zo (J07 rfl rfl) ?_))
 have zz := oalloc (t := 33) (cs := #[.int .i64 0, .slice none 0 0, .slice none 0 0, .slice none 0 0, .slice none 0 0, .slice none 0 0]) ti33 hO rfl
 obtain ⟨w26, B27, gp, Tk, Fd⟩ := zz
 refine GoR.op Fd rfl rfl ?_
 replace hO := gp.own
 have zz := J0b (us := [.int .i64 r19.Letters, .slice eQ r19.Table.length eU, .slice fd r19.Words.length fe, .slice eM r19.Images.length eN, .slice eO r19.Accept.length eP, .slice fy r19.Plus.length fA]) (o := 0) (cs' := #[.int .i64 r19.Letters, .slice eQ r19.Table.length eU, .slice fd r19.Words.length fe, .slice eM r19.Images.length eN, .slice eO r19.Accept.length eP, .slice fy r19.Plus.length fA]) 0 hO rfl rfl (Nat.le_of_ble_eq_true rfl) rfl
 obtain ⟨w32, j5, Fe⟩ := zz
 refine zg (Fe ti33 (by exact rfl) (by exact rfl) rfl) ?_
 replace hO := j5.own
 refine za rfl (zn (zq ?_))
 refine Go1.drawS 0 [(0, .pure), (1, .pure), (2, .pure), (3, .stable), (4, .pure), (5, .pure), (7, .stable), (8, .pure), (9, .pure), (6, .loud), (10, .loud), (11, .pure), (12, .pure), (13, .pure), (14, .stable), (16, .stable), (15, .loud), (17, .loud), (18, .pure), (19, .pure), (20, .pure), (21, .loud), (22, .pure), (23, .pure)] mixed (by kernel_rfl) ?_
 intro w35 E3
 have iu := Stp.same hO E3
 replace hO := iu.own
 refine GoQ.pure rfl (J03 rfl) rfl rfl ?_
 by_cases h38 : r20 = (0 : Int)
 ·replace H := ifp h38 H
  refine GoQ.pure rfl (fun w => opB (J0A rfl rfl w) (decide_eq_true h38)) rfl rfl ?_
  refine GoQ.pure rfl (J03 rfl) rfl rfl ?_
  refine GoQ.stable rfl (J0n (vs := [.int .i64 r19.Letters, .slice eQ r19.Table.length eU, .slice fd r19.Words.length fe, .slice eM r19.Images.length eN, .slice eO r19.Accept.length eP, .slice fy r19.Plus.length fA]) (i := 0) 0 hO rfl rfl Try.underlying33 rfl ti33 rfl) rfl rfl ?_
  refine GoQ.pure rfl (J03 rfl) rfl rfl ?_
  refine GoQ.pure rfl (J03 rfl) rfl rfl ?_
  refine GoQ.stable rfl (J0n (vs := [.int .i64 r19.Letters, .slice eQ r19.Table.length eU, .slice fd r19.Words.length fe, .slice eM r19.Images.length eN, .slice eO r19.Accept.length eP, .slice fy r19.Plus.length fA]) (i := 0) 0 hO rfl rfl Try.underlying33 rfl ti33 rfl) rfl rfl ?_
  refine GoQ.pure rfl (J03 rfl) rfl rfl ?_
  refine GoQ.pure rfl (J03 rfl) rfl rfl ?_
  have Z2 := (gp.ch.trans j5.ch).trans iu.ch
  replace cy := cy.ch Z2
  replace cK := cK.ch Z2
  replace cf := cf.ch Z2
  replace cg := cg.ch Z2
  replace cQ := cQ.ch Z2
  refine GoQ.call rfl (J0a body31 rfl (walk_syntactic_Leq (a0 := r19) hO.lt cy cK cf cg cQ H)) (fun v w hr => by obtain ⟨_, _, hs, _⟩ := hr; assumption) rfl rfl ?_
  rintro v43 w40 ⟨r39, rfl, Tl, H⟩
  have qF := Stp.same hO Tl
  replace hO := qF.own
  replace cy := cy.ch qF.ch
  replace cK := cK.ch qF.ch
  replace cf := cf.ch qF.ch
  replace cg := cg.ch qF.ch
  replace cQ := cQ.ch qF.ch
  refine GoQ.call rfl (J0a body32 rfl (walk_ref21_Leq (a0 := r19) hO.lt cy cK cf cg cQ H)) (fun v w hr => by obtain ⟨_, _, hs, _⟩ := hr; assumption) rfl rfl ?_
  rintro v49 w46 ⟨r45, rfl, Tm, H⟩
  have ta := Stp.same hO Tm
  replace hO := ta.own
  cases r39
  ·replace H := ifn Bool.false_ne_true H
   cases r45
   ·replace H := ifn Bool.false_ne_true H
    refine GoQ.pure rfl (op_eqlB Try.underlying4 rfl rfl) rfl rfl ?_
    refine GoQ.pure rfl (J06 rfl rfl rfl) rfl rfl ?_
    refine GoQ.pure rfl (J03 rfl) rfl rfl ?_
    refine GoQ.stable rfl (J0n (vs := [.int .i64 r19.Letters, .slice eQ r19.Table.length eU, .slice fd r19.Words.length fe, .slice eM r19.Images.length eN, .slice eO r19.Accept.length eP, .slice fy r19.Plus.length fA]) (i := 0) 0 hO rfl rfl Try.underlying33 rfl ti33 rfl) rfl rfl ?_
    refine GoQ.stable rfl (J0n (vs := [.int .i64 r19.Letters, .slice eQ r19.Table.length eU, .slice fd r19.Words.length fe, .slice eM r19.Images.length eN, .slice eO r19.Accept.length eP, .slice fy r19.Plus.length fA]) (i := 0) 0 hO rfl rfl Try.underlying33 rfl ti33 rfl) rfl rfl ?_
    replace cy := cy.ch ta.ch
    replace cK := cK.ch ta.ch
    replace cf := cf.ch ta.ch
    replace cg := cg.ch ta.ch
    replace cQ := cQ.ch ta.ch
    refine GoQ.call rfl (J0a body33 rfl (J1m (s_ := r19) hO.lt cy cK cf cg cQ H)) (fun v w hr => by obtain ⟨_, _, hs, _⟩ := hr; assumption) rfl rfl ?_
    rintro v55 w52 ⟨r51, rfl, F4, H⟩
    have og := Stp.same hO F4
    replace hO := og.own
    replace cy := cy.ch og.ch
    replace cK := cK.ch og.ch
    replace cf := cf.ch og.ch
    replace cg := cg.ch og.ch
    replace cQ := cQ.ch og.ch
    refine GoQ.call rfl (J0a body34 rfl (walk_ref21_Aperiodic (s_ := r19) hO.lt cy cK cf cg cQ H)) (fun v w hr => by obtain ⟨_, _, hs, _⟩ := hr; assumption) rfl rfl ?_
    rintro v61 w58 ⟨r57, rfl, Tn, H⟩
    have we := Stp.same hO Tn
    replace hO := we.own
    cases r51
    ·replace H := ifn Bool.false_ne_true H
     cases r57
     ·replace H := ifn Bool.false_ne_true H
      refine GoQ.pure rfl (op_eqlB Try.underlying4 rfl rfl) rfl rfl ?_
      refine GoQ.pure rfl (J06 rfl rfl rfl) rfl rfl ?_
      refine GoQ.pure rfl (J03 rfl) rfl rfl ?_
      refine GoQ.call rfl (J0a body18 rfl (J0V hO.lt H)) (fun v w hr => by obtain ⟨_, _, hs, _⟩ := hr; assumption) rfl rfl ?_
      rintro v67 w64 ⟨r63, rfl, To, H⟩
      have pp := Stp.same hO To
      replace hO := pp.own
      refine GoQ.pure rfl (J06 rfl rfl rfl) rfl rfl ?_
      refine GoQ.pure rfl (J0e rfl) rfl rfl ?_
      refine GoQ.nil ?_
      refine Go1.ret1 Try.func8 rfl ?_
      replace hB := ((((((((((hB.trans c5.fr).trans iK.fr).trans mV.fr).trans gp.fr).trans j5.fr).trans iu.fr).trans qF.fr).trans ta.fr).trans og.fr).trans we.fr).trans pp.fr
      exact ⟨r63, rfl, hB.same, H⟩
     replace H := ifp rfl H
     refine GoQ.pure rfl (op_eqlB Try.underlying4 rfl rfl) rfl rfl ?_
     refine GoQ.pure rfl (J06 rfl rfl rfl) rfl rfl ?_
     refine GoQ.pure rfl (J03 rfl) rfl rfl ?_
     refine GoQ.pass rfl rfl rfl ?_
     refine GoQ.pure rfl (J05 rfl rfl rfl) rfl rfl ?_
     refine GoQ.pure rfl (J0e rfl) rfl rfl ?_
     refine GoQ.nil ?_
     refine Go1.ret1 Try.func8 rfl ?_
     replace hB := (((((((((hB.trans c5.fr).trans iK.fr).trans mV.fr).trans gp.fr).trans j5.fr).trans iu.fr).trans qF.fr).trans ta.fr).trans og.fr).trans we.fr
     exact ⟨false, rfl, hB.same, H⟩
    replace H := ifp rfl H
    cases r57
    ·replace H := ifn Bool.false_ne_true H
     refine GoQ.pure rfl (op_eqlB Try.underlying4 rfl rfl) rfl rfl ?_
     refine GoQ.pure rfl (J06 rfl rfl rfl) rfl rfl ?_
     refine GoQ.pure rfl (J03 rfl) rfl rfl ?_
     refine GoQ.pass rfl rfl rfl ?_
     refine GoQ.pure rfl (J05 rfl rfl rfl) rfl rfl ?_
     refine GoQ.pure rfl (J0e rfl) rfl rfl ?_
     refine GoQ.nil ?_
     refine Go1.ret1 Try.func8 rfl ?_
     replace hB := (((((((((hB.trans c5.fr).trans iK.fr).trans mV.fr).trans gp.fr).trans j5.fr).trans iu.fr).trans qF.fr).trans ta.fr).trans og.fr).trans we.fr
     exact ⟨false, rfl, hB.same, H⟩
    replace H := ifp rfl H
    refine GoQ.pure rfl (op_eqlB Try.underlying4 rfl rfl) rfl rfl ?_
    refine GoQ.pure rfl (J06 rfl rfl rfl) rfl rfl ?_
    refine GoQ.pure rfl (J03 rfl) rfl rfl ?_
    refine GoQ.call rfl (J0a body18 rfl (J0V hO.lt H)) (fun v w hr => by obtain ⟨_, _, hs, _⟩ := hr; assumption) rfl rfl ?_
    rintro v73 w70 ⟨r69, rfl, Tp, H⟩
    have jE := Stp.same hO Tp
    replace hO := jE.own
    refine GoQ.pure rfl (J06 rfl rfl rfl) rfl rfl ?_
    refine GoQ.pure rfl (J0e rfl) rfl rfl ?_
    refine GoQ.nil ?_
    refine Go1.ret1 Try.func8 rfl ?_
    replace hB := ((((((((((hB.trans c5.fr).trans iK.fr).trans mV.fr).trans gp.fr).trans j5.fr).trans iu.fr).trans qF.fr).trans ta.fr).trans og.fr).trans we.fr).trans jE.fr
    exact ⟨r69, rfl, hB.same, H⟩
   replace H := ifp rfl H
   refine GoQ.pure rfl (op_eqlB Try.underlying4 rfl rfl) rfl rfl ?_
   refine GoQ.pure rfl (J06 rfl rfl rfl) rfl rfl ?_
   refine GoQ.pure rfl (J03 rfl) rfl rfl ?_
   refine GoQ.pass rfl rfl rfl ?_
   refine GoQ.pass rfl rfl rfl ?_
   refine GoQ.pass rfl rfl rfl ?_
   refine GoQ.pass rfl rfl rfl ?_
   refine GoQ.pass rfl rfl rfl ?_
   refine GoQ.pure rfl (J05 rfl rfl rfl) rfl rfl ?_
   refine GoQ.pure rfl (J03 rfl) rfl rfl ?_
   refine GoQ.pass rfl rfl rfl ?_
   refine GoQ.pure rfl (J05 rfl rfl rfl) rfl rfl ?_
   refine GoQ.pure rfl (J0e rfl) rfl rfl ?_
   refine GoQ.nil ?_
   refine Go1.ret1 Try.func8 rfl ?_
   replace hB := (((((((hB.trans c5.fr).trans iK.fr).trans mV.fr).trans gp.fr).trans j5.fr).trans iu.fr).trans qF.fr).trans ta.fr
   exact ⟨false, rfl, hB.same, H⟩
  replace H := ifp rfl H
  cases r45
  ·replace H := ifn Bool.false_ne_true H
   refine GoQ.pure rfl (op_eqlB Try.underlying4 rfl rfl) rfl rfl ?_
   refine GoQ.pure rfl (J06 rfl rfl rfl) rfl rfl ?_
   refine GoQ.pure rfl (J03 rfl) rfl rfl ?_
   refine GoQ.pass rfl rfl rfl ?_
   refine GoQ.pass rfl rfl rfl ?_
   refine GoQ.pass rfl rfl rfl ?_
   refine GoQ.pass rfl rfl rfl ?_
   refine GoQ.pass rfl rfl rfl ?_
   refine GoQ.pure rfl (J05 rfl rfl rfl) rfl rfl ?_
   refine GoQ.pure rfl (J03 rfl) rfl rfl ?_
   refine GoQ.pass rfl rfl rfl ?_
   refine GoQ.pure rfl (J05 rfl rfl rfl) rfl rfl ?_
   refine GoQ.pure rfl (J0e rfl) rfl rfl ?_
   refine GoQ.nil ?_
   refine Go1.ret1 Try.func8 rfl ?_
   replace hB := (((((((hB.trans c5.fr).trans iK.fr).trans mV.fr).trans gp.fr).trans j5.fr).trans iu.fr).trans qF.fr).trans ta.fr
   exact ⟨false, rfl, hB.same, H⟩
  replace H := ifp rfl H
  refine GoQ.pure rfl (op_eqlB Try.underlying4 rfl rfl) rfl rfl ?_
  refine GoQ.pure rfl (J06 rfl rfl rfl) rfl rfl ?_
  refine GoQ.pure rfl (J03 rfl) rfl rfl ?_
  refine GoQ.stable rfl (J0n (vs := [.int .i64 r19.Letters, .slice eQ r19.Table.length eU, .slice fd r19.Words.length fe, .slice eM r19.Images.length eN, .slice eO r19.Accept.length eP, .slice fy r19.Plus.length fA]) (i := 0) 0 hO rfl rfl Try.underlying33 rfl ti33 rfl) rfl rfl ?_
  refine GoQ.stable rfl (J0n (vs := [.int .i64 r19.Letters, .slice eQ r19.Table.length eU, .slice fd r19.Words.length fe, .slice eM r19.Images.length eN, .slice eO r19.Accept.length eP, .slice fy r19.Plus.length fA]) (i := 0) 0 hO rfl rfl Try.underlying33 rfl ti33 rfl) rfl rfl ?_
  replace cy := cy.ch ta.ch
  replace cK := cK.ch ta.ch
  replace cf := cf.ch ta.ch
  replace cg := cg.ch ta.ch
  replace cQ := cQ.ch ta.ch
  refine GoQ.call rfl (J0a body33 rfl (J1m (s_ := r19) hO.lt cy cK cf cg cQ H)) (fun v w hr => by obtain ⟨_, _, hs, _⟩ := hr; assumption) rfl rfl ?_
  rintro v79 w76 ⟨r75, rfl, Gj, H⟩
  have gK := Stp.same hO Gj
  replace hO := gK.own
  replace cy := cy.ch gK.ch
  replace cK := cK.ch gK.ch
  replace cf := cf.ch gK.ch
  replace cg := cg.ch gK.ch
  replace cQ := cQ.ch gK.ch
  refine GoQ.call rfl (J0a body34 rfl (walk_ref21_Aperiodic (s_ := r19) hO.lt cy cK cf cg cQ H)) (fun v w hr => by obtain ⟨_, _, hs, _⟩ := hr; assumption) rfl rfl ?_
  rintro v85 w82 ⟨r81, rfl, Tq, H⟩
  have nV := Stp.same hO Tq
  replace hO := nV.own
  cases r75
  ·replace H := ifn Bool.false_ne_true H
   cases r81
   ·replace H := ifn Bool.false_ne_true H
    refine GoQ.pure rfl (op_eqlB Try.underlying4 rfl rfl) rfl rfl ?_
    refine GoQ.pure rfl (J06 rfl rfl rfl) rfl rfl ?_
    refine GoQ.pure rfl (J03 rfl) rfl rfl ?_
    refine GoQ.call rfl (J0a body18 rfl (J0V hO.lt H)) (fun v w hr => by obtain ⟨_, _, hs, _⟩ := hr; assumption) rfl rfl ?_
    rintro v91 w88 ⟨r87, rfl, Ts, H⟩
    have jD := Stp.same hO Ts
    replace hO := jD.own
    refine GoQ.pure rfl (J06 rfl rfl rfl) rfl rfl ?_
    refine GoQ.pure rfl (J0e rfl) rfl rfl ?_
    refine GoQ.nil ?_
    refine Go1.ret1 Try.func8 rfl ?_
    replace hB := ((((((((((hB.trans c5.fr).trans iK.fr).trans mV.fr).trans gp.fr).trans j5.fr).trans iu.fr).trans qF.fr).trans ta.fr).trans gK.fr).trans nV.fr).trans jD.fr
    exact ⟨r87, rfl, hB.same, H⟩
   replace H := ifp rfl H
   refine GoQ.pure rfl (op_eqlB Try.underlying4 rfl rfl) rfl rfl ?_
   refine GoQ.pure rfl (J06 rfl rfl rfl) rfl rfl ?_
   refine GoQ.pure rfl (J03 rfl) rfl rfl ?_
   refine GoQ.pass rfl rfl rfl ?_
   refine GoQ.pure rfl (J05 rfl rfl rfl) rfl rfl ?_
   refine GoQ.pure rfl (J0e rfl) rfl rfl ?_
   refine GoQ.nil ?_
   refine Go1.ret1 Try.func8 rfl ?_
   replace hB := (((((((((hB.trans c5.fr).trans iK.fr).trans mV.fr).trans gp.fr).trans j5.fr).trans iu.fr).trans qF.fr).trans ta.fr).trans gK.fr).trans nV.fr
   exact ⟨false, rfl, hB.same, H⟩
  replace H := ifp rfl H
  cases r81
  ·replace H := ifn Bool.false_ne_true H
   refine GoQ.pure rfl (op_eqlB Try.underlying4 rfl rfl) rfl rfl ?_
   refine GoQ.pure rfl (J06 rfl rfl rfl) rfl rfl ?_
   refine GoQ.pure rfl (J03 rfl) rfl rfl ?_
   refine GoQ.pass rfl rfl rfl ?_
   refine GoQ.pure rfl (J05 rfl rfl rfl) rfl rfl ?_
   refine GoQ.pure rfl (J0e rfl) rfl rfl ?_
   refine GoQ.nil ?_
   refine Go1.ret1 Try.func8 rfl ?_
   replace hB := (((((((((hB.trans c5.fr).trans iK.fr).trans mV.fr).trans gp.fr).trans j5.fr).trans iu.fr).trans qF.fr).trans ta.fr).trans gK.fr).trans nV.fr
   exact ⟨false, rfl, hB.same, H⟩
  replace H := ifp rfl H
  refine GoQ.pure rfl (op_eqlB Try.underlying4 rfl rfl) rfl rfl ?_
  refine GoQ.pure rfl (J06 rfl rfl rfl) rfl rfl ?_
  refine GoQ.pure rfl (J03 rfl) rfl rfl ?_
  refine GoQ.call rfl (J0a body18 rfl (J0V hO.lt H)) (fun v w hr => by obtain ⟨_, _, hs, _⟩ := hr; assumption) rfl rfl ?_
  rintro v97 w94 ⟨r93, rfl, Tt, H⟩
  have iL := Stp.same hO Tt
  replace hO := iL.own
  refine GoQ.pure rfl (J06 rfl rfl rfl) rfl rfl ?_
  refine GoQ.pure rfl (J0e rfl) rfl rfl ?_
  refine GoQ.nil ?_
  refine Go1.ret1 Try.func8 rfl ?_
  replace hB := ((((((((((hB.trans c5.fr).trans iK.fr).trans mV.fr).trans gp.fr).trans j5.fr).trans iu.fr).trans qF.fr).trans ta.fr).trans gK.fr).trans nV.fr).trans iL.fr
  exact ⟨r93, rfl, hB.same, H⟩
 replace H := ifn h38 H
 refine GoQ.pure rfl (fun w => opB (J0A rfl rfl w) (decide_eq_false h38)) rfl rfl ?_
 refine GoQ.pure rfl (J03 rfl) rfl rfl ?_
 refine GoQ.pass rfl rfl rfl ?_
 refine GoQ.pass rfl rfl rfl ?_
 refine GoQ.pass rfl rfl rfl ?_
 refine GoQ.pass rfl rfl rfl ?_
 refine GoQ.pass rfl rfl rfl ?_
 refine GoQ.pass rfl rfl rfl ?_
 refine GoQ.pass rfl rfl rfl ?_
 refine GoQ.pass rfl rfl rfl ?_
 refine GoQ.pass rfl rfl rfl ?_
 refine GoQ.pure rfl (J05 rfl rfl rfl) rfl rfl ?_
 refine GoQ.pure rfl (J03 rfl) rfl rfl ?_
 refine GoQ.pass rfl rfl rfl ?_
 refine GoQ.pass rfl rfl rfl ?_
 refine GoQ.pass rfl rfl rfl ?_
 refine GoQ.pass rfl rfl rfl ?_
 refine GoQ.pass rfl rfl rfl ?_
 refine GoQ.pure rfl (J05 rfl rfl rfl) rfl rfl ?_
 refine GoQ.pure rfl (J03 rfl) rfl rfl ?_
 refine GoQ.pass rfl rfl rfl ?_
 refine GoQ.pure rfl (J05 rfl rfl rfl) rfl rfl ?_
 refine GoQ.pure rfl (J0e rfl) rfl rfl ?_
 refine GoQ.nil ?_
 refine Go1.ret1 Try.func8 rfl ?_
 replace hB := (((((hB.trans c5.fr).trans iK.fr).trans mV.fr).trans gp.fr).trans j5.fr).trans iu.fr
 exact ⟨false, rfl, hB.same, H⟩
end Sg
