/- -/
import Derived.Test.YtlneebpmblkllaaTi
import Derived.Test.YtlneebpmblkllaaWSyntacticMonoids
import Derived.Test.YtlneebpmblkllaaWSyntacticMonoidse
import Derived.Test.YtlneebpmblkllaaAl
namespace Sg
open Go Go.RowKit Go.Proofs
set_option linter.unusedVariables false
set_option linter.unusedSimpArgs false
set_option maxRecDepth 100000
set_option maxHeartbeats 4000000
theorem body48 : Body Try.prog 48 := ⟨Try.f48, Try.func48, rfl, by kernel_rfl⟩
theorem J4g {A : List Nat} {w0 : World} {p_a : Option Addr} {c_a : Nat} {p_b : Option Addr} {c_b : Nat} {a : List Str} {b : List Str} (hA : ∀ b ∈ A, b < w0.heap.size) (h_a : ISl (Rp.str) A w0 p_a c_a a) (h_b : ISl (Rp.str) A w0 p_b c_b b) {K : Bool → Prop} (H : J2o a b K) :
    CallsV Try.prog 48 #[.slice p_a a.length c_a, .slice p_b b.length c_b] w0 (fun v w' => ∃ (r0 : Bool), v = .bool r0 ∧ Same w0 w' ∧ K r0) := by
 refine CallsV.of (l := [.slice p_a a.length c_a, .slice p_b b.length c_b]) Try.func48 rfl Try.ntmps48 rfl ?_
 have hO := Owns.start hA
 have hB := Fr.refl (bl []) w0
 unfold J2o at H
 refine zq (zr (za rfl (zn (zq (zq ?_)))))
 refine zr (zm rfl (zo (J0c Try.underlying30 rfl) ?_))
 replace h_a := h_a.ch (Ch.start A w0)
 replace H := H h_a.bd
 refine zm rfl (zo (J0c Try.underlying30 rfl) ?_)
 replace h_b := h_b.ch (Ch.start A w0)
 replace H := H h_b.bd
 by_cases h1 : (a.length : Int) = (b.length : Int)
 ·replace H := ifp h1 H
  refine zo (fun w => opB (J0j rfl rfl w) (ndT h1)) (zn (zf rfl rfl (zk (zq (zq ?_)))))
  refine zr (zm rfl (zo (J0c Try.underlying30 rfl) (zm rfl (zn (zb ?_)))))
  refine Go1.loopW (S := Nat) (fun s σ w => agrees σ [(0, .slice p_a a.length c_a), (1, .slice p_b b.length c_b), (12, .int .i64 (a.length : Int)), (13, .int .i64 (s : Int))] ∧ Owns w0.heap.size w [] A ∧ ISl (Rp.str) (bl [] ++ A) w p_a c_a a ∧ ISl (Rp.str) (bl [] ++ A) w p_b c_b b ∧ Fr (bl []) w0 (bl []) w) H ⟨⟨rfl, rfl, rfl, rfl, trivial⟩, hO, h_a, h_b, hB⟩ ?_
  intro X1 k1_3
  intro H hX1 σ w2
  refine andE fun hag => andE fun hO => andE fun h_a => andE fun h_b => fun hB => ?_
  refine Go1.keep [(0, .slice p_a a.length c_a), (1, .slice p_b b.length c_b), (12, .int .i64 (a.length : Int)), (13, .int .i64 (k1_3 : Int))] hag ?_
  refine zq (zr ?_)
  by_cases h4 : (k1_3 : Int) < (a.length : Int)
  ·replace H := ifp h4 H
   refine zo (fun w => opB (J08 rfl rfl w) (decide_eq_true h4)) (zn (zq (zt rfl rfl (zk (zq ?_)))))
   refine zb (zq (zr (zm rfl (za rfl (zn ?_)))))
   refine zq ?_
   refine Go1.drawS 0 [(0, .pure), (1, .pure), (2, .pure), (3, .stable), (4, .pure), (5, .pure), (6, .pure), (7, .stable), (8, .pure)] mixed (by kernel_rfl) ?_
   intro w5 hs6
   have m8 := Stp.same hO hs6
   replace hO := m8.own
   refine GoQ.pure rfl (J03 rfl) rfl rfl ?_
   refine GoQ.pure rfl (J03 rfl) rfl rfl ?_
   obtain ⟨h8, H⟩ := H
   obtain ⟨h9, H⟩ := H
   replace h_a := h_a.ch m8.ch
   refine GoQ.pure rfl (J02 Try.underlying30 ti9 rfl rfl h8 h9 (h_a.some_ h8 h9)) rfl rfl ?_
   refine GoQ.stable rfl (ldStr h_a h8 h9 Try.underlying9 rfl rfl) rfl rfl ?_
   have hle10 := ISl.J2m h_a h8 h9
   refine GoQ.pure rfl (J03 rfl) rfl rfl ?_
   refine GoQ.pure rfl (J03 rfl) rfl rfl ?_
   obtain ⟨h11, H⟩ := H
   obtain ⟨h12, H⟩ := H
   replace h_b := h_b.ch m8.ch
   refine GoQ.pure rfl (J02 Try.underlying30 ti9 rfl rfl h11 h12 (h_b.some_ h11 h12)) rfl rfl ?_
   refine GoQ.stable rfl (ldStr h_b h11 h12 Try.underlying9 rfl rfl) rfl rfl ?_
   have hle13 := ISl.J2m h_b h11 h12
   by_cases h14 : (ix a (k1_3 : Int)) = (ix b (k1_3 : Int))
   ·replace H := ifp h14 H
    refine GoQ.pure rfl (fun w => opB (J3Q rfl rfl w) (ndT h14)) rfl rfl ?_
    refine GoQ.nil ?_
    refine zf rfl rfl (zk ?_)
    refine Go1.inBlock ?_
    refine zr (zo (J0e rfl rfl (wrap_i64 (natbd h4 h_a.bd))) (zm rfl (zn ?_)))
    replace hB := hB.trans m8.fr
    exact hX1 _ H _ _ ⟨⟨rfl, rfl, rfl, rfl, trivial⟩, hO, h_a, h_b, hB⟩
   replace H := ifn h14 H
   refine GoQ.pure rfl (fun w => opB (J3Q rfl rfl w) (ndF h14)) rfl rfl ?_
   refine GoQ.nil ?_
   refine zt rfl rfl (zq (zr (za rfl (zn ?_))))
   refine Go1.ret1 Try.func48 rfl ?_
   replace hB := hB.trans m8.fr
   exact ⟨false, rfl, hB.same, H⟩
  replace H := ifn h4 H
  refine zo (fun w => opB (J08 rfl rfl w) (decide_eq_false h4)) (zn (zq (zf rfl rfl ?_)))
  refine Go1.exit rfl ?_
  refine zq (zr (za rfl (zn ?_)))
  refine Go1.ret1 Try.func48 rfl ?_
  exact ⟨true, rfl, hB.same, H⟩
 replace H := ifn h1 H
 refine zo (fun w => opB (J0j rfl rfl w) (ndF h1)) (zn (zt rfl rfl (zq (zr (za rfl ?_)))))
 refine zn ?_
 refine Go1.ret1 Try.func48 rfl ?_
 exact ⟨false, rfl, hB.same, H⟩
theorem body18 : Body Try.prog 18 := ⟨Try.f18, Try.func18, rfl, by kernel_rfl⟩
theorem J0m {A : List Nat} {w0 : World} (hA : ∀ b ∈ A, b < w0.heap.size) {K : Bool → Prop} (H : law21_awake  K) :
    CallsV Try.prog 18 #[] w0 (fun v w' => ∃ (r0 : Bool), v = .bool r0 ∧ Same w0 w' ∧ K r0) := by
 refine CallsV.of (l := []) Try.func18 rfl Try.ntmps18 rfl ?_
 have hO := Owns.start hA
 have hB := Fr.refl (bl []) w0
 unfold law21_awake at H
 refine zq (zr (za rfl (zn (zq (zr ?_)))))
 refine GoR.call (J0a body60 rfl (J4M hO.lt H)) rfl rfl ?_
 rintro v5 w2 ⟨r1, Ry, Rz, Sm, Sn, rfl, hs3, kQ, mj, H⟩
 have yn := Stp.same hO hs3
 replace hO := yn.own
 refine GoR.call (J0a body19 rfl (J1A (d := r1) hO.lt kQ mj H)) rfl rfl ?_
 rintro v12 w9 ⟨r7, r8, BN, BO, wE, wF, Ac, Ad, Ae, Af, Cw, Cx, rfl, xF, pk, nb, nc, gW, qN, H⟩
 have wx := Stp.same hO xF
 replace hO := wx.own
 refine zm rfl (zo (J07 rfl rfl) (zo (J07 rfl rfl) ?_))
 have zz := oalloc (t := 33) (cs := #[.int .i64 0, .slice none 0 0, .slice none 0 0, .slice none 0 0, .slice none 0 0, .slice none 0 0]) ti33 hO rfl
 obtain ⟨w14, B15, tI, abJ, RA⟩ := zz
 refine GoR.op RA rfl rfl ?_
 replace hO := tI.own
 have zz := J0b (us := [.int .i64 r7.Letters, .slice BN r7.Table.length BO, .slice wE r7.Words.length wF, .slice Ac r7.Images.length Ad, .slice Ae r7.Accept.length Af, .slice Cw r7.Plus.length Cx]) (o := 0) (cs' := #[.int .i64 r7.Letters, .slice BN r7.Table.length BO, .slice wE r7.Words.length wF, .slice Ac r7.Images.length Ad, .slice Ae r7.Accept.length Af, .slice Cw r7.Plus.length Cx]) 0 hO rfl rfl (Nat.le_of_ble_eq_true rfl) rfl
 obtain ⟨w20, uB, RB⟩ := zz
 refine zg (RB ti33 (by exact rfl) (by exact rfl) rfl) ?_
 replace hO := uB.own
 refine za rfl (zn (zq (zr (zm rfl ?_))))
 by_cases h23 : r8 = (0 : Int)
 ·replace H := ifp h23 H
  refine zo (fun w => opB (J0D rfl rfl w) (decide_eq_true h23)) (zm rfl (zo (J00 Try.underlying33 rfl ti30 rfl (by decide)) (zs (oblk (i := 2) 0 hO rfl rfl Try.underlying30 rfl rfl) ?_)))
  have zz := J0n (r := Rp.str) (n := 6) (parts := [(0, .string (gstr (([] : Str)))), (1, .string (gstr (([97] : Str)))), (2, .string (gstr (([98] : Str)))), (3, .string (gstr (([97, 97] : Str)))), (4, .string (gstr (([97, 98] : Str)))), (5, .string (gstr (([98, 97] : Str))))]) (vs := [.string (gstr (([] : Str))), .string (gstr (([97] : Str))), .string (gstr (([98] : Str))), .string (gstr (([97, 97] : Str))), .string (gstr (([97, 98] : Str))), .string (gstr (([98, 97] : Str)))]) (xs := [([] : Str), ([97] : Str), ([98] : Str), ([97, 97] : Str), ([97, 98] : Str), ([98, 97] : Str)]) rfl Try.underlying30 ti9 hO (by decide) (by kernel_rfl) (Els.cons rfl ⟨rfl, (by decide)⟩ (Els.cons rfl ⟨rfl, (by decide)⟩ (Els.cons rfl ⟨rfl, (by decide)⟩ (Els.cons rfl ⟨rfl, (by decide)⟩ (Els.cons rfl ⟨rfl, (by decide)⟩ (Els.cons rfl ⟨rfl, (by decide)⟩ (Els.nil _ _ _) (by simp [mx])) (by simp [mx])) (by simp [mx])) (by simp [mx])) (by simp [mx])) (by simp [mx])) rfl
  obtain ⟨w24, p25, m6, Iw, Mt, RD⟩ := zz
  refine zg (RD rfl) ?_
  replace hO := m6.own
  have zz := rowlend 0 hO rfl Iw
  obtain ⟨UI, UJ⟩ := zz
  have hOc33 := hO.drop 0
  have Z1 := (tI.ch.trans uB.ch).trans m6.ch
  replace nb := nb.ch Z1
  refine GoR.call (J0a body48 (show ([.slice wE r7.Words.length wF, .slice p25 6 6] : List Value) = [.slice wE r7.Words.length wF, .slice p25 ([([] : Str), ([97] : Str), ([98] : Str), ([97, 97] : Str), ([97, 98] : Str), ([98, 97] : Str)]).length 6] from by rw [← UJ]) (J4g hOc33.lt (nb.ch (Owns.J06 _ _ 0)) UI H)) rfl rfl ?_
  rintro v38 w35 ⟨r34, rfl, Mu, H⟩
  have vJ := Stp.same hO Mu
  replace hO := vJ.own
  refine zo (J04 rfl rfl rfl) (zm rfl ?_)
  cases r34
  ·replace H := ifn Bool.false_ne_true H
   refine zp (zp (zp (zp (zo (J05 rfl rfl rfl) (zm rfl ?_)))))
   refine zp (zp (zp (zp (zo (J05 rfl rfl rfl) (zm rfl ?_)))))
   refine zp (zp (zp (zp (zp (zo (J05 rfl rfl rfl) ?_)))))
   refine za rfl (zn ?_)
   refine Go1.ret1 Try.func18 rfl ?_
   replace hB := (((((hB.trans yn.fr).trans wx.fr).trans tI.fr).trans uB.fr).trans m6.fr).trans vJ.fr
   exact ⟨false, rfl, hB.same, H⟩
  replace H := ifp rfl H
  refine zo (J00 Try.underlying33 rfl ti22 rfl (by decide)) (zs (oblk (i := 4) 1 hO rfl rfl Try.underlying22 rfl rfl) (zo (J0c Try.underlying22 rfl) ?_))
  replace gW := (gW.ch Z1).ch vJ.ch
  replace H := H gW.bd
  by_cases h40 : (r7.Accept.length : Int) = (6 : Int)
  ·replace H := ifp h40 H
   refine zo (fun w => opB (J0D rfl rfl w) (decide_eq_true h40)) (zo (J04 rfl rfl rfl) (zm rfl (zo (J00 Try.underlying33 rfl ti22 rfl (by decide)) (zs (oblk (i := 4) 1 hO rfl rfl Try.underlying22 rfl rfl) ?_))))
   obtain ⟨h41, H⟩ := H
   obtain ⟨h42, H⟩ := H
   refine zo (J02 Try.underlying22 ti4 rfl rfl h41 h42 (gW.some_ h41 h42)) ?_
   by_cases h43 : ix r7.Accept (4 : Int) = true
   ·replace H := ifp h43 H
    refine zg (opB ((ldBool gW h41 h42 Try.underlying4 rfl rfl) _ (Same.refl _)) (h43)) (zo (J04 rfl rfl rfl) (zm rfl (zo (J00 Try.underlying33 rfl ti22 rfl (by decide)) (zs (oblk (i := 4) 1 hO rfl rfl Try.underlying22 rfl rfl) ?_))))
    obtain ⟨h44, H⟩ := H
    obtain ⟨h45, H⟩ := H
    refine zo (J02 Try.underlying22 ti4 rfl rfl h44 h45 (gW.some_ h44 h45)) ?_
    by_cases h46 : ix r7.Accept (1 : Int) = true
    ·replace H := ifp h46 H
     refine zg (opB ((ldBool gW h44 h45 Try.underlying4 rfl rfl) _ (Same.refl _)) (h46)) (zo (J0g rfl) (zo (J04 rfl rfl rfl) (za rfl (zn ?_))))
     refine Go1.ret1 Try.func18 rfl ?_
     replace hB := (((((hB.trans yn.fr).trans wx.fr).trans tI.fr).trans uB.fr).trans m6.fr).trans vJ.fr
     exact ⟨false, rfl, hB.same, H⟩
    replace H := ifn h46 H
    refine zg (opB ((ldBool gW h44 h45 Try.underlying4 rfl rfl) _ (Same.refl _)) (Bool.eq_false_iff.2 h46)) (zo (J0g rfl) (zo (J04 rfl rfl rfl) (za rfl (zn ?_))))
    refine Go1.ret1 Try.func18 rfl ?_
    replace hB := (((((hB.trans yn.fr).trans wx.fr).trans tI.fr).trans uB.fr).trans m6.fr).trans vJ.fr
    exact ⟨true, rfl, hB.same, H⟩
   replace H := ifn h43 H
   refine zg (opB ((ldBool gW h41 h42 Try.underlying4 rfl rfl) _ (Same.refl _)) (Bool.eq_false_iff.2 h43)) (zo (J04 rfl rfl rfl) (zm rfl (zp (zp (zp ?_)))))
   refine zp (zp (zo (J05 rfl rfl rfl) (za rfl (zn ?_))))
   refine Go1.ret1 Try.func18 rfl ?_
   replace hB := (((((hB.trans yn.fr).trans wx.fr).trans tI.fr).trans uB.fr).trans m6.fr).trans vJ.fr
   exact ⟨false, rfl, hB.same, H⟩
  replace H := ifn h40 H
  refine zo (fun w => opB (J0D rfl rfl w) (decide_eq_false h40)) (zo (J04 rfl rfl rfl) (zm rfl (zp (zp (zp ?_)))))
  refine zp (zo (J05 rfl rfl rfl) (zm rfl (zp (zp (zp ?_)))))
  refine zp (zp (zo (J05 rfl rfl rfl) (za rfl (zn ?_))))
  refine Go1.ret1 Try.func18 rfl ?_
  replace hB := (((((hB.trans yn.fr).trans wx.fr).trans tI.fr).trans uB.fr).trans m6.fr).trans vJ.fr
  exact ⟨false, rfl, hB.same, H⟩
 replace H := ifn h23 H
 refine zo (fun w => opB (J0D rfl rfl w) (decide_eq_false h23)) (zm rfl (zp (zp (zp (zp ?_)))))
 refine zo (J05 rfl rfl rfl) (zm rfl (zp (zp (zp (zp ?_)))))
 refine zo (J05 rfl rfl rfl) (zm rfl (zp (zp (zp (zp ?_)))))
 refine zo (J05 rfl rfl rfl) (zm rfl (zp (zp (zp (zp ?_)))))
 refine zp (zo (J05 rfl rfl rfl) (za rfl (zn ?_)))
 refine Go1.ret1 Try.func18 rfl ?_
 replace hB := (((hB.trans yn.fr).trans wx.fr).trans tI.fr).trans uB.fr
 exact ⟨false, rfl, hB.same, H⟩
end Sg
