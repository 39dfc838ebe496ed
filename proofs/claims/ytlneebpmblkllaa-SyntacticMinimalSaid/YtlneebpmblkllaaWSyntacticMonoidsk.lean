/- -/
import Derived.Test.YtlneebpmblkllaaTi
import Derived.Test.YtlneebpmblkllaaWSyntacticMonoidsf
import Derived.Test.YtlneebpmblkllaaAl
namespace Sg
open Go Go.RowKit Go.Proofs
set_option linter.unusedVariables false
set_option linter.unusedSimpArgs false
set_option maxRecDepth 100000
set_option maxHeartbeats 4000000
theorem body47 : Body Try.prog 47 := ⟨Try.f47, Try.func47, rfl, by kernel_rfl⟩
theorem walk_ref03_SameRows {A : List Nat} {w0 : World} {p_a : Option Addr} {c_a : Nat} {p_b : Option Addr} {c_b : Nat} {a : List (List Int)} {b : List (List Int)} (hA : ∀ b ∈ A, b < w0.heap.size) (h_a : ISl (Rp.sl (Rp.int .i64)) A w0 p_a c_a a) (h_b : ISl (Rp.sl (Rp.int .i64)) A w0 p_b c_b b) {K : Bool → Prop} (H : ref03_SameRows a b K) :
    CallsV Try.prog 47 #[.slice p_a a.length c_a, .slice p_b b.length c_b] w0 (fun v w' => ∃ (r0 : Bool), v = .bool r0 ∧ Same w0 w' ∧ K r0) := by
 refine CallsV.of (l := [.slice p_a a.length c_a, .slice p_b b.length c_b]) Try.func47 rfl Try.ntmps47 rfl ?_
 have hO := Owns.start hA
 have hB := Fr.refl (bl []) w0
 unfold ref03_SameRows at H
 refine zq (zr (za rfl (zn (zq (zq ?_)))))
 refine zr (zm rfl (zo (op_len Try.underlying23 rfl) ?_))
 replace h_a := h_a.ch (Ch.start A w0)
 replace H := H h_a.bd
 refine zm rfl (zo (op_len Try.underlying23 rfl) ?_)
 replace h_b := h_b.ch (Ch.start A w0)
 replace H := H h_b.bd
 by_cases h1 : (a.length : Int) = (b.length : Int)
 ·replace H := ifp h1 H
  refine zo (fun w => opB (op_neq rfl rfl w) (ndT h1)) (zn (zf rfl rfl (zk (zq (zq ?_)))))
  refine zr (zm rfl (zo (op_len Try.underlying23 rfl) (zm rfl (zn (zb ?_)))))
  refine Go1.loopW (S := Nat) (fun s σ w => agrees σ [(0, .slice p_a a.length c_a), (1, .slice p_b b.length c_b), (12, .int .i64 (a.length : Int)), (13, .int .i64 (s : Int))] ∧ Owns w0.heap.size w [] A ∧ ISl (Rp.sl (Rp.int .i64)) (bl [] ++ A) w p_a c_a a ∧ ISl (Rp.sl (Rp.int .i64)) (bl [] ++ A) w p_b c_b b ∧ Fr (bl []) w0 (bl []) w) H ⟨⟨rfl, rfl, rfl, rfl, trivial⟩, hO, h_a, h_b, hB⟩ ?_
  intro X1 k1_3
  intro H hX1 σ w2
  refine andE fun hag => andE fun hO => andE fun h_a => andE fun h_b => fun hB => ?_
  refine Go1.keep [(0, .slice p_a a.length c_a), (1, .slice p_b b.length c_b), (12, .int .i64 (a.length : Int)), (13, .int .i64 (k1_3 : Int))] hag ?_
  refine zq (zr ?_)
  by_cases h4 : (k1_3 : Int) < (a.length : Int)
  ·replace H := ifp h4 H
   refine zo (fun w => opB (op_lss rfl rfl w) (decide_eq_true h4)) (zn (zq (zt rfl rfl (zk (zq ?_)))))
   refine zb (zq (zr (zm rfl (za rfl (zn ?_)))))
   refine zq ?_
   refine Go1.drawS 0 [(0, .pure), (1, .pure), (2, .pure), (3, .stable), (4, .pure), (5, .pure), (6, .pure), (7, .stable), (8, .loud), (9, .pure)] mixed (by kernel_rfl) ?_
   intro w5 hs6
   have lT := Stp.same hO hs6
   replace hO := lT.own
   refine GoQ.pure rfl (op_move rfl) rfl rfl ?_
   refine GoQ.pure rfl (op_move rfl) rfl rfl ?_
   obtain ⟨h8, H⟩ := H
   obtain ⟨h9, H⟩ := H
   replace h_a := h_a.ch lT.ch
   refine GoQ.pure rfl (op_index Try.underlying23 ti31 rfl rfl h8 h9 (h_a.some_ h8 h9)) rfl rfl ?_
   have hobt := ldSl h_a h8 h9
   obtain ⟨p10, c11, Hj, Sn⟩ := hobt
   refine GoQ.stable rfl (Sn Try.underlying31 rfl rfl) rfl rfl ?_
   refine GoQ.pure rfl (op_move rfl) rfl rfl ?_
   refine GoQ.pure rfl (op_move rfl) rfl rfl ?_
   obtain ⟨h14, H⟩ := H
   obtain ⟨h15, H⟩ := H
   replace h_b := h_b.ch lT.ch
   refine GoQ.pure rfl (op_index Try.underlying23 ti31 rfl rfl h14 h15 (h_b.some_ h14 h15)) rfl rfl ?_
   have hobt := ldSl h_b h14 h15
   obtain ⟨p16, c17, Hk, So⟩ := hobt
   refine GoQ.stable rfl (So Try.underlying31 rfl rfl) rfl rfl ?_
   refine GoQ.call rfl (op_call body49 rfl (walk_ref03_Same hO.lt Hj Hk H)) (fun v w hr => by obtain ⟨_, _, hs, _⟩ := hr; assumption) rfl rfl ?_
   rintro v24 w21 ⟨r20, rfl, Hl, H⟩
   have i7 := Stp.same hO Hl
   replace hO := i7.own
   cases r20
   ·replace H := ifn Bool.false_ne_true H
    refine GoQ.pure rfl (op_not rfl) rfl rfl ?_
    refine GoQ.nil ?_
    refine zt rfl rfl (zq (zr (za rfl (zn ?_))))
    refine Go1.ret1 Try.func47 rfl ?_
    replace hB := (hB.trans lT.fr).trans i7.fr
    exact ⟨false, rfl, hB.same, H⟩
   replace H := ifp rfl H
   refine GoQ.pure rfl (op_not rfl) rfl rfl ?_
   refine GoQ.nil ?_
   refine zf rfl rfl (zk ?_)
   refine Go1.inBlock ?_
   refine zr ?_
   replace h_a := h_a.ch i7.ch
   refine zo (op_add rfl rfl (wrap_i64 (natbd h4 h_a.bd))) (zm rfl (zn ?_))
   replace h_b := h_b.ch i7.ch
   replace hB := (hB.trans lT.fr).trans i7.fr
   exact hX1 _ H _ _ ⟨⟨rfl, rfl, rfl, rfl, trivial⟩, hO, h_a, h_b, hB⟩
  replace H := ifn h4 H
  refine zo (fun w => opB (op_lss rfl rfl w) (decide_eq_false h4)) (zn (zq (zf rfl rfl ?_)))
  refine Go1.exit rfl ?_
  refine zq (zr (za rfl (zn ?_)))
  refine Go1.ret1 Try.func47 rfl ?_
  exact ⟨true, rfl, hB.same, H⟩
 replace H := ifn h1 H
 refine zo (fun w => opB (op_neq rfl rfl w) (ndF h1)) (zn (zt rfl rfl (zq ?_)))
 refine Go1.cut [] trivial ?_
 intro σ _
 refine zr (za rfl (zn ?_))
 refine Go1.ret1 Try.func47 rfl ?_
 exact ⟨false, rfl, hB.same, H⟩
theorem body27 : Body Try.prog 27 := ⟨Try.f27, Try.func27, rfl, by kernel_rfl⟩
theorem walk_ref21_SameBools {A : List Nat} {w0 : World} {p_a : Option Addr} {c_a : Nat} {p_b : Option Addr} {c_b : Nat} {a : List Bool} {b : List Bool} (hA : ∀ b ∈ A, b < w0.heap.size) (h_a : ISl (Rp.bool) A w0 p_a c_a a) (h_b : ISl (Rp.bool) A w0 p_b c_b b) {K : Bool → Prop} (H : ref21_SameBools a b K) :
    CallsV Try.prog 27 #[.slice p_a a.length c_a, .slice p_b b.length c_b] w0 (fun v w' => ∃ (r0 : Bool), v = .bool r0 ∧ Same w0 w' ∧ K r0) := by
 refine CallsV.of (l := [.slice p_a a.length c_a, .slice p_b b.length c_b]) Try.func27 rfl Try.ntmps27 rfl ?_
 have hO := Owns.start hA
 have hB := Fr.refl (bl []) w0
 unfold ref21_SameBools at H
 refine zq (zr (za rfl (zn (zq (zq ?_)))))
 refine zr (zm rfl (zo (op_len Try.underlying22 rfl) ?_))
 replace h_a := h_a.ch (Ch.start A w0)
 replace H := H h_a.bd
 refine zm rfl (zo (op_len Try.underlying22 rfl) ?_)
 replace h_b := h_b.ch (Ch.start A w0)
 replace H := H h_b.bd
 by_cases h1 : (a.length : Int) = (b.length : Int)
 ·replace H := ifp h1 H
  refine zo (fun w => opB (op_neq rfl rfl w) (ndT h1)) (zn (zf rfl rfl (zk (zq (zq ?_)))))
  refine zr (zm rfl (zo (op_len Try.underlying22 rfl) (zm rfl (zn (zb ?_)))))
  refine Go1.loopW (S := Nat) (fun s σ w => agrees σ [(0, .slice p_a a.length c_a), (1, .slice p_b b.length c_b), (12, .int .i64 (a.length : Int)), (13, .int .i64 (s : Int))] ∧ Owns w0.heap.size w [] A ∧ ISl (Rp.bool) (bl [] ++ A) w p_a c_a a ∧ ISl (Rp.bool) (bl [] ++ A) w p_b c_b b ∧ Fr (bl []) w0 (bl []) w) H ⟨⟨rfl, rfl, rfl, rfl, trivial⟩, hO, h_a, h_b, hB⟩ ?_
  intro X1 k1_3
  intro H hX1 σ w2
  refine andE fun hag => andE fun hO => andE fun h_a => andE fun h_b => fun hB => ?_
  refine Go1.keep [(0, .slice p_a a.length c_a), (1, .slice p_b b.length c_b), (12, .int .i64 (a.length : Int)), (13, .int .i64 (k1_3 : Int))] hag ?_
  refine zq (zr ?_)
  by_cases h4 : (k1_3 : Int) < (a.length : Int)
  ·replace H := ifp h4 H
   refine zo (fun w => opB (op_lss rfl rfl w) (decide_eq_true h4)) (zn (zq (zt rfl rfl (zk (zq ?_)))))
   refine zb (zq (zr (zm rfl (za rfl (zn ?_)))))
   refine zq ?_
   refine Go1.drawS 0 [(0, .pure), (1, .pure), (2, .pure), (3, .stable), (4, .pure), (5, .pure), (6, .pure), (7, .stable), (8, .pure)] mixed (by kernel_rfl) ?_
   intro w5 hs6
   have lT := Stp.same hO hs6
   replace hO := lT.own
   refine GoQ.pure rfl (op_move rfl) rfl rfl ?_
   refine GoQ.pure rfl (op_move rfl) rfl rfl ?_
   obtain ⟨h8, H⟩ := H
   obtain ⟨h9, H⟩ := H
   replace h_a := h_a.ch lT.ch
   refine GoQ.pure rfl (op_index Try.underlying22 ti4 rfl rfl h8 h9 (h_a.some_ h8 h9)) rfl rfl ?_
   by_cases h10 : ix a (k1_3 : Int) = true
   ·replace H := ifp h10 H
    refine GoQ.stable rfl (fun w hw => opB ((ldBool h_a h8 h9 Try.underlying4 rfl rfl) w hw) (h10)) rfl rfl ?_
    refine GoQ.pure rfl (op_move rfl) rfl rfl ?_
    refine GoQ.pure rfl (op_move rfl) rfl rfl ?_
    obtain ⟨h11, H⟩ := H
    obtain ⟨h12, H⟩ := H
    replace h_b := h_b.ch lT.ch
    refine GoQ.pure rfl (op_index Try.underlying22 ti4 rfl rfl h11 h12 (h_b.some_ h11 h12)) rfl rfl ?_
    by_cases h13 : ix b (k1_3 : Int) = true
    ·replace H := ifp h13 H
     refine GoQ.stable rfl (fun w hw => opB ((ldBool h_b h11 h12 Try.underlying4 rfl rfl) w hw) (h13)) rfl rfl ?_
     refine GoQ.pure rfl (op_neqB Try.underlying4 rfl rfl) rfl rfl ?_
     refine GoQ.nil ?_
     refine zf rfl rfl (zk ?_)
     refine Go1.inBlock ?_
     refine zr (zo (op_add rfl rfl (wrap_i64 (natbd h4 h_a.bd))) (zm rfl (zn ?_)))
     replace hB := hB.trans lT.fr
     exact hX1 _ H _ _ ⟨⟨rfl, rfl, rfl, rfl, trivial⟩, hO, h_a, h_b, hB⟩
    replace H := ifn h13 H
    refine GoQ.stable rfl (fun w hw => opB ((ldBool h_b h11 h12 Try.underlying4 rfl rfl) w hw) (Bool.eq_false_iff.2 h13)) rfl rfl ?_
    refine GoQ.pure rfl (op_neqB Try.underlying4 rfl rfl) rfl rfl ?_
    refine GoQ.nil ?_
    refine zt rfl rfl (zq (zr (za rfl (zn ?_))))
    refine Go1.ret1 Try.func27 rfl ?_
    replace hB := hB.trans lT.fr
    exact ⟨false, rfl, hB.same, H⟩
   replace H := ifn h10 H
   refine GoQ.stable rfl (fun w hw => opB ((ldBool h_a h8 h9 Try.underlying4 rfl rfl) w hw) (Bool.eq_false_iff.2 h10)) rfl rfl ?_
   refine GoQ.pure rfl (op_move rfl) rfl rfl ?_
   refine GoQ.pure rfl (op_move rfl) rfl rfl ?_
   obtain ⟨h14, H⟩ := H
   obtain ⟨h15, H⟩ := H
   replace h_b := h_b.ch lT.ch
   refine GoQ.pure rfl (op_index Try.underlying22 ti4 rfl rfl h14 h15 (h_b.some_ h14 h15)) rfl rfl ?_
   by_cases h16 : ix b (k1_3 : Int) = true
   ·replace H := ifp h16 H
    refine GoQ.stable rfl (fun w hw => opB ((ldBool h_b h14 h15 Try.underlying4 rfl rfl) w hw) (h16)) rfl rfl ?_
    refine GoQ.pure rfl (op_neqB Try.underlying4 rfl rfl) rfl rfl ?_
    refine GoQ.nil ?_
    refine zt rfl rfl (zq ?_)
    refine Go1.cut [] trivial ?_
    intro σ _
    refine zr (za rfl (zn ?_))
    refine Go1.ret1 Try.func27 rfl ?_
    replace hB := hB.trans lT.fr
    exact ⟨false, rfl, hB.same, H⟩
   replace H := ifn h16 H
   refine GoQ.stable rfl (fun w hw => opB ((ldBool h_b h14 h15 Try.underlying4 rfl rfl) w hw) (Bool.eq_false_iff.2 h16)) rfl rfl ?_
   refine GoQ.pure rfl (op_neqB Try.underlying4 rfl rfl) rfl rfl ?_
   refine GoQ.nil ?_
   refine zf rfl rfl (zk ?_)
   refine Go1.inBlock ?_
   refine zr (zo (op_add rfl rfl (wrap_i64 (natbd h4 h_a.bd))) (zm rfl (zn ?_)))
   replace hB := hB.trans lT.fr
   exact hX1 _ H _ _ ⟨⟨rfl, rfl, rfl, rfl, trivial⟩, hO, h_a, h_b, hB⟩
  replace H := ifn h4 H
  refine zo (fun w => opB (op_lss rfl rfl w) (decide_eq_false h4)) (zn (zq (zf rfl rfl ?_)))
  refine Go1.exit rfl ?_
  refine zq (zr (za rfl (zn ?_)))
  refine Go1.ret1 Try.func27 rfl ?_
  exact ⟨true, rfl, hB.same, H⟩
 replace H := ifn h1 H
 refine zo (fun w => opB (op_neq rfl rfl w) (ndF h1)) (zn (zt rfl rfl (zq (zr (za rfl ?_)))))
 refine zn ?_
 refine Go1.ret1 Try.func27 rfl ?_
 exact ⟨false, rfl, hB.same, H⟩
theorem body21 : Body Try.prog 21 := ⟨Try.f21, Try.func21, rfl, by kernel_rfl⟩
theorem walk_ref21_Same {A : List Nat} {w0 : World} {uN : Option Addr} {uO : Nat} {uP : Option Addr} {uQ : Nat} {tR : Option Addr} {tS : Nat} {tT : Option Addr} {tU : Nat} {vR : Option Addr} {vS : Nat} {uR : Option Addr} {uS : Nat} {uT : Option Addr} {uU : Nat} {tV : Option Addr} {tW : Nat} {tX : Option Addr} {tY : Nat} {vT : Option Addr} {vU : Nat} {a : Syntactic} {b : Syntactic} (hA : ∀ b ∈ A, b < w0.heap.size) (gt : ISl (Rp.sl (Rp.int .i64)) A w0 uN uO a.Table) (gu : ISl (Rp.str) A w0 uP uQ a.Words) (fO : ISl (Rp.int .i64) A w0 tR tS a.Images) (fP : ISl (Rp.bool) A w0 tT tU a.Accept) (ii : ISl (Rp.bool) A w0 vR vS a.Plus) (gv : ISl (Rp.sl (Rp.int .i64)) A w0 uR uS b.Table) (gw : ISl (Rp.str) A w0 uT uU b.Words) (fQ : ISl (Rp.int .i64) A w0 tV tW b.Images) (fR : ISl (Rp.bool) A w0 tX tY b.Accept) (ik : ISl (Rp.bool) A w0 vT vU b.Plus) {K : Bool → Prop} (H : ref21_Same a b K) :
    CallsV Try.prog 21 #[.agg #[.int .i64 a.Letters, .slice uN a.Table.length uO, .slice uP a.Words.length uQ, .slice tR a.Images.length tS, .slice tT a.Accept.length tU, .slice vR a.Plus.length vS], .agg #[.int .i64 b.Letters, .slice uR b.Table.length uS, .slice uT b.Words.length uU, .slice tV b.Images.length tW, .slice tX b.Accept.length tY, .slice vT b.Plus.length vU]] w0 (fun v w' => ∃ (r0 : Bool), v = .bool r0 ∧ Same w0 w' ∧ K r0) := by
 refine CallsV.of (l := [.agg #[.int .i64 a.Letters, .slice uN a.Table.length uO, .slice uP a.Words.length uQ, .slice tR a.Images.length tS, .slice tT a.Accept.length tU, .slice vR a.Plus.length vS], .agg #[.int .i64 b.Letters, .slice uR b.Table.length uS, .slice uT b.Words.length uU, .slice tV b.Images.length tW, .slice tX b.Accept.length tY, .slice vT b.Plus.length vU]]) Try.func21 rfl Try.ntmps21 rfl ?_
 have hO := Owns.start hA
 have hB := Fr.refl (bl []) w0
 unfold ref21_Same at H
 refine zq (zr ?_)
 have hobt := obox (t := 33) (v := .agg #[.int .i64 a.Letters, .slice uN a.Table.length uO, .slice uP a.Words.length uQ, .slice tR a.Images.length tS, .slice tT a.Accept.length tU, .slice vR a.Plus.length vS]) (cs := #[.int .i64 a.Letters, .slice uN a.Table.length uO, .slice uP a.Words.length uQ, .slice tR a.Images.length tS, .slice tT a.Accept.length tU, .slice vR a.Plus.length vS]) hO rfl
 obtain ⟨w1, B2, dG, hs4, lb⟩ := hobt
 refine zg (lb rfl) ?_
 replace hO := dG.own
 have hobt := obox (t := 33) (v := .agg #[.int .i64 b.Letters, .slice uR b.Table.length uS, .slice uT b.Words.length uU, .slice tV b.Images.length tW, .slice tX b.Accept.length tY, .slice vT b.Plus.length vU]) (cs := #[.int .i64 b.Letters, .slice uR b.Table.length uS, .slice uT b.Words.length uU, .slice tV b.Images.length tW, .slice tX b.Accept.length tY, .slice vT b.Plus.length vU]) hO rfl
 obtain ⟨w7, B8, gr, xa, tn⟩ := hobt
 refine zg (tn rfl) ?_
 replace hO := gr.own
 refine za rfl (zn (zq (zr (zo (op_fieldAddr Try.underlying33 rfl ti3 rfl (by decide)) (zs (oblk (i := 0) 1 hO rfl rfl Try.underlying3 rfl rfl) ?_)))))
 refine zo (op_fieldAddr Try.underlying33 rfl ti3 rfl (by decide)) (zs (oblk (i := 0) 0 hO rfl rfl Try.underlying3 rfl rfl) ?_)
 by_cases h13 : a.Letters = b.Letters
 ·replace H := ifp h13 H
  refine zo (fun w => opB (op_eql rfl rfl w) (decide_eq_true h13)) (zm rfl (zo (op_fieldAddr Try.underlying33 rfl ti23 rfl (by decide)) (zs (oblk (i := 1) 1 hO rfl rfl Try.underlying23 rfl rfl) (zo (op_fieldAddr Try.underlying33 rfl ti23 rfl (by decide)) (zs (oblk (i := 1) 0 hO rfl rfl Try.underlying23 rfl rfl) ?_)))))
  have Z1 := ((Ch.start A w0).trans dG.ch).trans gr.ch
  replace gt := gt.ch Z1
  replace gv := gv.ch Z1
  refine GoR.call (op_call body47 rfl (walk_ref03_SameRows hO.lt gt gv H)) rfl rfl ?_
  rintro v18 w15 ⟨r14, rfl, Fm, H⟩
  have mM := Stp.same hO Fm
  replace hO := mM.own
  refine zo (op_pickT rfl rfl rfl) (zm rfl ?_)
  cases r14
  ·replace H := ifn Bool.false_ne_true H
   refine zp (zp (zp (zp (zp (zo (op_pickF rfl rfl rfl) ?_)))))
   refine zm rfl (zp (zp (zp (zp (zp ?_)))))
   refine zo (op_pickF rfl rfl rfl) (zm rfl (zp (zp (zp (zp ?_)))))
   refine zp (zo (op_pickF rfl rfl rfl) (zm rfl (zp (zp (zp ?_)))))
   refine zp (zp (zo (op_pickF rfl rfl rfl) (za rfl (zn ?_))))
   refine Go1.ret1 Try.func21 rfl ?_
   replace hB := ((hB.trans dG.fr).trans gr.fr).trans mM.fr
   exact ⟨false, rfl, hB.same, H⟩
  replace H := ifp rfl H
  refine zo (op_fieldAddr Try.underlying33 rfl ti30 rfl (by decide)) (zs (oblk (i := 2) 1 hO rfl rfl Try.underlying30 rfl rfl) (zo (op_fieldAddr Try.underlying33 rfl ti30 rfl (by decide)) (zs (oblk (i := 2) 0 hO rfl rfl Try.underlying30 rfl rfl) ?_)))
  have Z2 := Z1.trans mM.ch
  replace gu := gu.ch Z2
  replace gw := gw.ch Z2
  refine GoR.call (op_call body48 rfl (walk_ref01_Same hO.lt gu gw H)) rfl rfl ?_
  rintro v24 w21 ⟨r20, rfl, Hl, H⟩
  have i7 := Stp.same hO Hl
  replace hO := i7.own
  refine zo (op_pickT rfl rfl rfl) (zm rfl ?_)
  cases r20
  ·replace H := ifn Bool.false_ne_true H
   refine zp (zp (zp (zp (zp (zo (op_pickF rfl rfl rfl) ?_)))))
   refine zm rfl (zp (zp (zp (zp (zp ?_)))))
   refine zo (op_pickF rfl rfl rfl) (zm rfl (zp (zp (zp (zp ?_)))))
   refine zp (zo (op_pickF rfl rfl rfl) (za rfl (zn ?_)))
   refine Go1.ret1 Try.func21 rfl ?_
   replace hB := (((hB.trans dG.fr).trans gr.fr).trans mM.fr).trans i7.fr
   exact ⟨false, rfl, hB.same, H⟩
  replace H := ifp rfl H
  refine zo (op_fieldAddr Try.underlying33 rfl ti31 rfl (by decide)) (zs (oblk (i := 3) 1 hO rfl rfl Try.underlying31 rfl rfl) (zo (op_fieldAddr Try.underlying33 rfl ti31 rfl (by decide)) (zs (oblk (i := 3) 0 hO rfl rfl Try.underlying31 rfl rfl) ?_)))
  have Z3 := Z2.trans i7.ch
  replace fO := fO.ch Z3
  replace fQ := fQ.ch Z3
  refine GoR.call (op_call body49 rfl (walk_ref03_Same hO.lt fO fQ H)) rfl rfl ?_
  rintro v30 w27 ⟨r26, rfl, BH, H⟩
  have m8 := Stp.same hO BH
  replace hO := m8.own
  refine zo (op_pickT rfl rfl rfl) (zm rfl ?_)
  cases r26
  ·replace H := ifn Bool.false_ne_true H
   refine zp (zp (zp (zp (zp (zo (op_pickF rfl rfl rfl) ?_)))))
   refine zm rfl (zp (zp (zp (zp (zp ?_)))))
   refine zo (op_pickF rfl rfl rfl) (za rfl (zn ?_))
   refine Go1.ret1 Try.func21 rfl ?_
   replace hB := ((((hB.trans dG.fr).trans gr.fr).trans mM.fr).trans i7.fr).trans m8.fr
   exact ⟨false, rfl, hB.same, H⟩
  replace H := ifp rfl H
  refine zo (op_fieldAddr Try.underlying33 rfl ti22 rfl (by decide)) (zs (oblk (i := 4) 1 hO rfl rfl Try.underlying22 rfl rfl) (zo (op_fieldAddr Try.underlying33 rfl ti22 rfl (by decide)) (zs (oblk (i := 4) 0 hO rfl rfl Try.underlying22 rfl rfl) ?_)))
  have Z4 := Z3.trans m8.ch
  replace fP := fP.ch Z4
  replace fR := fR.ch Z4
  refine GoR.call (op_call body27 rfl (walk_ref21_SameBools hO.lt fP fR H)) rfl rfl ?_
  rintro v36 w33 ⟨r32, rfl, Sp, H⟩
  have gN := Stp.same hO Sp
  replace hO := gN.own
  refine zo (op_pickT rfl rfl rfl) (zm rfl ?_)
  cases r32
  ·replace H := ifn Bool.false_ne_true H
   refine zp (zp (zp (zp (zp (zo (op_pickF rfl rfl rfl) ?_)))))
   refine za rfl (zn ?_)
   refine Go1.ret1 Try.func21 rfl ?_
   replace hB := (((((hB.trans dG.fr).trans gr.fr).trans mM.fr).trans i7.fr).trans m8.fr).trans gN.fr
   exact ⟨false, rfl, hB.same, H⟩
  replace H := ifp rfl H
  refine zo (op_fieldAddr Try.underlying33 rfl ti22 rfl (by decide)) (zs (oblk (i := 5) 1 hO rfl rfl Try.underlying22 rfl rfl) (zo (op_fieldAddr Try.underlying33 rfl ti22 rfl (by decide)) (zs (oblk (i := 5) 0 hO rfl rfl Try.underlying22 rfl rfl) ?_)))
  have Z5 := Z4.trans gN.ch
  replace ii := ii.ch Z5
  replace ik := ik.ch Z5
  refine GoR.call (op_call body27 rfl (walk_ref21_SameBools hO.lt ii ik H)) rfl rfl ?_
  rintro v42 w39 ⟨r38, rfl, Sq, H⟩
  have i6 := Stp.same hO Sq
  replace hO := i6.own
  refine zo (op_pickT rfl rfl rfl) (za rfl (zn ?_))
  refine Go1.ret1 Try.func21 rfl ?_
  replace hB := ((((((hB.trans dG.fr).trans gr.fr).trans mM.fr).trans i7.fr).trans m8.fr).trans gN.fr).trans i6.fr
  exact ⟨r38, rfl, hB.same, H⟩
 replace H := ifn h13 H
 refine zo (fun w => opB (op_eql rfl rfl w) (decide_eq_false h13)) (zm rfl (zp (zp (zp (zp ?_)))))
 refine zp (zo (op_pickF rfl rfl rfl) (zm rfl (zp (zp (zp ?_)))))
 refine zp (zp (zo (op_pickF rfl rfl rfl) (zm rfl (zp (zp ?_)))))
 refine zp (zp (zp (zo (op_pickF rfl rfl rfl) (zm rfl (zp ?_)))))
 refine zp (zp (zp (zp (zo (op_pickF rfl rfl rfl) (zm rfl ?_)))))
 refine zp (zp (zp (zp (zp (zo (op_pickF rfl rfl rfl) ?_)))))
 refine za rfl (zn ?_)
 refine Go1.ret1 Try.func21 rfl ?_
 replace hB := (hB.trans dG.fr).trans gr.fr
 exact ⟨false, rfl, hB.same, H⟩
end Sg
