/- -/
import Derived.Test.YtlneebpmblkllaaTi
import Derived.Test.YtlneebpmblkllaaAl
namespace Sg
open Go Go.RowKit Go.Proofs
set_option linter.unusedVariables false
set_option linter.unusedSimpArgs false
set_option maxRecDepth 100000
set_option maxHeartbeats 4000000
theorem body59 : Body Try.prog 59 := ⟨Try.f59, Try.func59, rfl, by kernel_rfl⟩
theorem walk_ref01_MayLetters {A : List Nat} {w0 : World} {letters : Int} (hA : ∀ b ∈ A, b < w0.heap.size) {K : Bool → Prop} (H : ref01_MayLetters letters K) :
    CallsV Try.prog 59 #[.int .i64 letters] w0 (fun v w' => ∃ (r0 : Bool), v = .bool r0 ∧ Same w0 w' ∧ K r0) := by
 refine CallsV.of (l := [.int .i64 letters]) Try.func59 rfl Try.ntmps59 rfl ?_
 have hO := Owns.start hA
 have hB := Fr.refl (bl []) w0
 unfold ref01_MayLetters at H
 refine zq (zr (za rfl (zn (zq (zr ?_)))))
 refine zm rfl ?_
 by_cases h1 : (1 : Int) ≤ letters
 ·replace H := ifp h1 H
  refine zo (fun w => opB (op_geq rfl rfl w) (decide_eq_true h1)) (zm rfl (zm rfl ?_))
  by_cases h2 : letters ≤ (6 : Int)
  ·replace H := ifp h2 H
   refine zo (fun w => opB (op_leq rfl rfl w) (decide_eq_true h2)) (zo (op_pickT rfl rfl rfl) (za rfl (zn ?_)))
   refine Go1.ret1 Try.func59 rfl ?_
   exact ⟨true, rfl, hB.same, H⟩
  replace H := ifn h2 H
  refine zo (fun w => opB (op_leq rfl rfl w) (decide_eq_false h2)) (zo (op_pickT rfl rfl rfl) (za rfl (zn ?_)))
  refine Go1.ret1 Try.func59 rfl ?_
  exact ⟨false, rfl, hB.same, H⟩
 replace H := ifn h1 H
 refine zo (fun w => opB (op_geq rfl rfl w) (decide_eq_false h1)) (zm rfl (zp (zp (zo (op_pickF rfl rfl rfl) (za rfl ?_)))))
 refine zn ?_
 refine Go1.ret1 Try.func59 rfl ?_
 exact ⟨false, rfl, hB.same, H⟩
theorem body16 : Body Try.prog 16 := ⟨Try.f16, Try.func16, rfl, by kernel_rfl⟩
theorem walk_ref07_Validate {A : List Nat} {w0 : World} {aU : Option Addr} {aV : Nat} {aX : Option Addr} {aY : Nat} {d : DFA} (hA : ∀ b ∈ A, b < w0.heap.size) (ah : ISl (Rp.bool) A w0 aU aV d.Final) (ak : ISl (Rp.sl (Rp.int .i64)) A w0 aX aY d.Next) {K : Int → Prop} (H : ref07_Validate d K) :
    CallsV Try.prog 16 #[.agg #[.int .i64 d.Letters, .int .i64 d.Start, .slice aU d.Final.length aV, .slice aX d.Next.length aY]] w0 (fun v w' => ∃ (r0 : Int), v = .int .i64 r0 ∧ Same w0 w' ∧ K r0) := by
 refine CallsV.of (l := [.agg #[.int .i64 d.Letters, .int .i64 d.Start, .slice aU d.Final.length aV, .slice aX d.Next.length aY]]) Try.func16 rfl Try.ntmps16 rfl ?_
 have hO := Owns.start hA
 have hB := Fr.refl (bl []) w0
 unfold ref07_Validate at H
 refine zq (zr ?_)
 have hobt := obox (t := 25) (v := .agg #[.int .i64 d.Letters, .int .i64 d.Start, .slice aU d.Final.length aV, .slice aX d.Next.length aY]) (cs := #[.int .i64 d.Letters, .int .i64 d.Start, .slice aU d.Final.length aV, .slice aX d.Next.length aY]) hO rfl
 obtain ⟨w1, B2, dG, hs4, lb⟩ := hobt
 refine zg (lb rfl) ?_
 replace hO := dG.own
 refine za rfl (zn (zq (zr (zo (op_fieldAddr Try.underlying25 rfl ti22 rfl (by decide)) (zs (oblk (i := 2) 0 hO rfl rfl Try.underlying22 rfl rfl) ?_)))))
 refine zo (op_len Try.underlying22 rfl) ?_
 replace ah := (ah.ch (Ch.start A w0)).ch dG.ch
 replace H := H ah.bd
 refine za rfl (zn (zq (zq (zr (zo (op_fieldAddr Try.underlying25 rfl ti3 rfl (by decide)) ?_)))))
 refine zs (oblk (i := 0) 0 hO rfl rfl Try.underlying3 rfl rfl) ?_
 refine GoR.call (op_call body59 rfl (walk_ref01_MayLetters hO.lt H)) rfl rfl ?_
 rintro v11 w8 ⟨r7, rfl, hs9, H⟩
 have ro := Stp.same hO hs9
 replace hO := ro.own
 cases r7
 ·replace H := ifn Bool.false_ne_true H
  refine zo (op_not rfl) (zn (zt rfl rfl (zq (zr (za rfl ?_)))))
  refine zn ?_
  refine Go1.ret1 Try.func16 rfl ?_
  replace hB := (hB.trans dG.fr).trans ro.fr
  exact ⟨(1 : Int), rfl, hB.same, H⟩
 replace H := ifp rfl H
 refine zo (op_not rfl) (zn (zf rfl rfl (zk (zq (zq ?_)))))
 refine zr (zm rfl ?_)
 by_cases h13 : (512 : Int) < (d.Final.length : Int)
 ·replace H := ifp h13 H
  refine zo (fun w => opB (op_gtr rfl rfl w) (decide_eq_true h13)) (zn (zt rfl rfl (zq (zr (za rfl ?_)))))
  refine zn ?_
  refine Go1.ret1 Try.func16 rfl ?_
  replace hB := (hB.trans dG.fr).trans ro.fr
  exact ⟨(3 : Int), rfl, hB.same, H⟩
 replace H := ifn h13 H
 refine zo (fun w => opB (op_gtr rfl rfl w) (decide_eq_false h13)) (zn (zf rfl rfl (zk (zq (zq ?_)))))
 refine zr (zm rfl ?_)
 by_cases h14 : (d.Final.length : Int) = (0 : Int)
 ·replace H := ifp h14 H
  refine zo (fun w => opB (op_eql rfl rfl w) (decide_eq_true h14)) (zm rfl (zp (zp (zp (zp ?_)))))
  refine zp (zo (op_pickT rfl rfl rfl) (zm rfl (zp (zp (zp ?_)))))
  refine zo (op_pickT rfl rfl rfl) (zm rfl (zp (zp (zp (zp ?_)))))
  refine zo (op_pickT rfl rfl rfl) (zn (zt rfl rfl (zq ?_)))
  refine Go1.cut [] trivial ?_
  intro σ _
  refine zr (za rfl (zn ?_))
  refine Go1.ret1 Try.func16 rfl ?_
  replace hB := (hB.trans dG.fr).trans ro.fr
  exact ⟨(4 : Int), rfl, hB.same, H⟩
 replace H := ifn h14 H
 refine zo (fun w => opB (op_eql rfl rfl w) (decide_eq_false h14)) (zm rfl (zo (op_fieldAddr Try.underlying25 rfl ti23 rfl (by decide)) (zs (oblk (i := 3) 0 hO rfl rfl Try.underlying23 rfl rfl) (zo (op_len Try.underlying23 rfl) ?_))))
 have Z1 := ((Ch.start A w0).trans dG.ch).trans ro.ch
 replace ak := ak.ch Z1
 replace H := H ak.bd
 refine zm rfl ?_
 by_cases h15 : (d.Next.length : Int) = (d.Final.length : Int)
 ·replace H := ifp h15 H
  refine zo (fun w => opB (op_neq rfl rfl w) (ndT h15)) (zo (op_pickF rfl rfl rfl) (zm rfl (zo (op_fieldAddr Try.underlying25 rfl ti3 rfl (by decide)) (zs (oblk (i := 1) 0 hO rfl rfl Try.underlying3 rfl rfl) ?_))))
  by_cases h16 : d.Start < (0 : Int)
  ·replace H := ifp h16 H
   refine zo (fun w => opB (op_lss rfl rfl w) (decide_eq_true h16)) (zo (op_pickF rfl rfl rfl) (zm rfl (zp (zp (zp ?_)))))
   refine zp (zo (op_pickT rfl rfl rfl) (zn (zt rfl rfl (zq ?_))))
   refine Go1.cut [] trivial ?_
   intro σ _
   refine zr (za rfl (zn ?_))
   refine Go1.ret1 Try.func16 rfl ?_
   replace hB := (hB.trans dG.fr).trans ro.fr
   exact ⟨(4 : Int), rfl, hB.same, H⟩
  replace H := ifn h16 H
  refine zo (fun w => opB (op_lss rfl rfl w) (decide_eq_false h16)) (zo (op_pickF rfl rfl rfl) (zm rfl (zo (op_fieldAddr Try.underlying25 rfl ti3 rfl (by decide)) (zs (oblk (i := 1) 0 hO rfl rfl Try.underlying3 rfl rfl) (zm rfl ?_)))))
  by_cases h17 : (d.Final.length : Int) ≤ d.Start
  ·replace H := ifp h17 H
   refine zo (fun w => opB (op_geq rfl rfl w) (decide_eq_true h17)) (zo (op_pickF rfl rfl rfl) (zn (zt rfl rfl (zq (zr ?_)))))
   refine za rfl (zn ?_)
   refine Go1.ret1 Try.func16 rfl ?_
   replace hB := (hB.trans dG.fr).trans ro.fr
   exact ⟨(4 : Int), rfl, hB.same, H⟩
  replace H := ifn h17 H
  refine zo (fun w => opB (op_geq rfl rfl w) (decide_eq_false h17)) (zo (op_pickF rfl rfl rfl) (zn (zf rfl rfl (zk (zq ?_)))))
  refine zq (zr (zo (op_fieldAddr Try.underlying25 rfl ti23 rfl (by decide)) (zs (oblk (i := 3) 0 hO rfl rfl Try.underlying23 rfl rfl) (zo (op_len Try.underlying23 rfl) (zm rfl ?_)))))
  refine zn (zb ?_)
  replace ah := ah.ch ro.ch
  replace hB := (hB.trans dG.fr).trans ro.fr
  refine Go1.loopW (S := Nat) (fun s σ w => agrees σ [(1, .pointer (some ⟨B2, 0, none⟩)), (3, .int .i64 (d.Final.length : Int)), (38, .slice aX d.Next.length aY), (39, .int .i64 (d.Next.length : Int)), (40, .int .i64 (s : Int))] ∧ (fun Z0 => Owns w0.heap.size w Z0 A ∧ ISl (Rp.bool) (bl Z0 ++ A) w aU aV d.Final ∧ ISl (Rp.sl (Rp.int .i64)) (bl Z0 ++ A) w aX aY d.Next ∧ Fr (bl []) w0 (bl Z0) w) [.blk B2 (.cells #[.int .i64 d.Letters, .int .i64 d.Start, .slice aU d.Final.length aV, .slice aX d.Next.length aY] 25 (0, 0))]) H ⟨⟨rfl, rfl, rfl, rfl, rfl, trivial⟩, hO, ah, ak, hB⟩ ?_
  intro X1 k1_19
  intro H hX1 σ w18
  refine andE fun hag => andE fun hO => andE fun ah => andE fun ak => fun hB => ?_
  refine Go1.keep [(1, .pointer (some ⟨B2, 0, none⟩)), (3, .int .i64 (d.Final.length : Int)), (38, .slice aX d.Next.length aY), (39, .int .i64 (d.Next.length : Int)), (40, .int .i64 (k1_19 : Int))] hag ?_
  refine zq (zr ?_)
  by_cases h20 : (k1_19 : Int) < (d.Next.length : Int)
  ·replace H := ifp h20 H
   refine zo (fun w => opB (op_lss rfl rfl w) (decide_eq_true h20)) (zn (zq (zt rfl rfl (zk (zq ?_)))))
   refine zb (zq (zr ?_))
   obtain ⟨h21, H⟩ := H
   obtain ⟨h22, H⟩ := H
   refine zo (op_index Try.underlying23 ti31 rfl rfl h21 h22 (ak.some_ h21 h22)) ?_
   have hobt := ldSl ak h21 h22
   obtain ⟨p23, c24, yO, PR⟩ := hobt
   refine zs (PR Try.underlying31 rfl rfl) (za rfl (zn (zq (zq (zr ?_)))))
   refine zm rfl (zo (op_len Try.underlying31 rfl) ?_)
   replace H := H yO.bd
   refine zo (op_fieldAddr Try.underlying25 rfl ti3 rfl (by decide)) (zs (oblk (i := 0) 0 hO rfl rfl Try.underlying3 rfl rfl) ?_)
   by_cases h27 : ((ix d.Next (k1_19 : Int)).length : Int) = d.Letters
   ·replace H := ifp h27 H
    refine zo (fun w => opB (op_neq rfl rfl w) (ndT h27)) (zn (zf rfl rfl (zk (zq (zr ?_)))))
    refine zm rfl (zo (op_len Try.underlying31 rfl) (zm rfl (zn (zb ?_))))
    refine Go1.loopW (S := Nat) (fun s σ w => agrees σ [(1, .pointer (some ⟨B2, 0, none⟩)), (3, .int .i64 (d.Final.length : Int)), (38, .slice aX d.Next.length aY), (39, .int .i64 (d.Next.length : Int)), (40, .int .i64 (k1_19 : Int)), (49, .slice p23 ((ix d.Next (k1_19 : Int)).length) c24), (50, .int .i64 ((ix d.Next (k1_19 : Int)).length : Int)), (51, .int .i64 (s : Int))] ∧ (fun Z0 => Owns w0.heap.size w Z0 A ∧ ISl (Rp.bool) (bl Z0 ++ A) w aU aV d.Final ∧ ISl (Rp.sl (Rp.int .i64)) (bl Z0 ++ A) w aX aY d.Next ∧ ISl (Rp.int .i64) (bl Z0 ++ A) w p23 c24 (ix d.Next (k1_19 : Int)) ∧ Fr (bl []) w0 (bl Z0) w) [.blk B2 (.cells #[.int .i64 d.Letters, .int .i64 d.Start, .slice aU d.Final.length aV, .slice aX d.Next.length aY] 25 (0, 0))]) H ⟨⟨rfl, rfl, rfl, rfl, rfl, rfl, rfl, rfl, trivial⟩, hO, ah, ak, yO, hB⟩ ?_
    intro X2 k2_29
    intro H hX2 σ w28
    refine andE fun hag => andE fun hO => andE fun ah => andE fun ak => andE fun yO => fun hB => ?_
    refine Go1.keep [(1, .pointer (some ⟨B2, 0, none⟩)), (3, .int .i64 (d.Final.length : Int)), (38, .slice aX d.Next.length aY), (39, .int .i64 (d.Next.length : Int)), (40, .int .i64 (k1_19 : Int)), (49, .slice p23 ((ix d.Next (k1_19 : Int)).length) c24), (50, .int .i64 ((ix d.Next (k1_19 : Int)).length : Int)), (51, .int .i64 (k2_29 : Int))] hag ?_
    refine zq (zr ?_)
    by_cases h30 : (k2_29 : Int) < ((ix d.Next (k1_19 : Int)).length : Int)
    ·replace H := ifp h30 H
     refine zo (fun w => opB (op_lss rfl rfl w) (decide_eq_true h30)) (zn (zq (zt rfl rfl (zk (zq ?_)))))
     refine zb (zq (zr ?_))
     obtain ⟨h31, H⟩ := H
     obtain ⟨h32, H⟩ := H
     refine zo (op_index Try.underlying31 ti3 rfl rfl h31 h32 (yO.some_ h31 h32)) (zs (ldInt yO h31 h32 Try.underlying3 rfl rfl) (za rfl (zn (zq (zr ?_)))))
     refine zm rfl ?_
     by_cases h33 : (ix (ix d.Next (k1_19 : Int)) (k2_29 : Int)) < (0 : Int)
     ·replace H := ifp h33 H
      refine zo (fun w => opB (op_lss rfl rfl w) (decide_eq_true h33)) (zm rfl (zp (zp (zp (zo (op_pickT rfl rfl rfl) ?_)))))
      refine zn (zt rfl rfl (zq (zr (za rfl (zn ?_)))))
      refine Go1.ret1 Try.func16 rfl ?_
      exact ⟨(4 : Int), rfl, hB.same, H⟩
     replace H := ifn h33 H
     refine zo (fun w => opB (op_lss rfl rfl w) (decide_eq_false h33)) (zm rfl (zm rfl (zm rfl ?_)))
     by_cases h34 : (d.Final.length : Int) ≤ (ix (ix d.Next (k1_19 : Int)) (k2_29 : Int))
     ·replace H := ifp h34 H
      refine zo (fun w => opB (op_geq rfl rfl w) (decide_eq_true h34)) (zo (op_pickF rfl rfl rfl) (zn (zt rfl rfl (zq (zr ?_)))))
      refine za rfl (zn ?_)
      refine Go1.ret1 Try.func16 rfl ?_
      exact ⟨(4 : Int), rfl, hB.same, H⟩
     replace H := ifn h34 H
     refine zo (fun w => opB (op_geq rfl rfl w) (decide_eq_false h34)) (zo (op_pickF rfl rfl rfl) (zn (zf rfl rfl (zk ?_))))
     refine Go1.inBlock ?_
     refine Go1.cut [(1, .pointer (some ⟨B2, 0, none⟩)), (3, .int .i64 (d.Final.length : Int)), (38, .slice aX d.Next.length aY), (39, .int .i64 (d.Next.length : Int)), (40, .int .i64 (k1_19 : Int)), (49, .slice p23 ((ix d.Next (k1_19 : Int)).length) c24), (50, .int .i64 ((ix d.Next (k1_19 : Int)).length : Int)), (51, .int .i64 (k2_29 : Int))] ⟨rfl, rfl, rfl, rfl, rfl, rfl, rfl, rfl, trivial⟩ ?_
     intro σ _
     refine zr (zo (op_add rfl rfl (wrap_i64 (natbd h30 yO.bd))) (zm rfl (zn ?_)))
     exact hX2 _ H _ _ ⟨⟨rfl, rfl, rfl, rfl, rfl, rfl, rfl, rfl, trivial⟩, hO, ah, ak, yO, hB⟩
    replace H := ifn h30 H
    refine zo (fun w => opB (op_lss rfl rfl w) (decide_eq_false h30)) (zn (zq (zf rfl rfl ?_)))
    refine Go1.exit rfl ?_
    refine Go1.inBlock ?_
    refine zr (zo (op_add rfl rfl (wrap_i64 (natbd h20 ak.bd))) (zm rfl (zn ?_)))
    exact hX1 _ H _ _ ⟨⟨rfl, rfl, rfl, rfl, rfl, trivial⟩, hO, ah, ak, hB⟩
   replace H := ifn h27 H
   refine zo (fun w => opB (op_neq rfl rfl w) (ndF h27)) (zn (zt rfl rfl (zq (zr (za rfl ?_)))))
   refine zn ?_
   refine Go1.ret1 Try.func16 rfl ?_
   exact ⟨(4 : Int), rfl, hB.same, H⟩
  replace H := ifn h20 H
  refine zo (fun w => opB (op_lss rfl rfl w) (decide_eq_false h20)) (zn (zq (zf rfl rfl ?_)))
  refine Go1.exit rfl ?_
  refine zq (zr (za rfl (zn ?_)))
  refine Go1.ret1 Try.func16 rfl ?_
  exact ⟨(0 : Int), rfl, hB.same, H⟩
 replace H := ifn h15 H
 refine zo (fun w => opB (op_neq rfl rfl w) (ndF h15)) (zo (op_pickF rfl rfl rfl) (zm rfl (zp (zp (zp ?_)))))
 refine zo (op_pickT rfl rfl rfl) (zm rfl (zp (zp (zp (zp ?_)))))
 refine zo (op_pickT rfl rfl rfl) (zn (zt rfl rfl (zq (zr (za rfl ?_)))))
 refine zn ?_
 refine Go1.ret1 Try.func16 rfl ?_
 replace hB := (hB.trans dG.fr).trans ro.fr
 exact ⟨(4 : Int), rfl, hB.same, H⟩
theorem body17 : Body Try.prog 17 := ⟨Try.f17, Try.func17, rfl, by kernel_rfl⟩
theorem walk_law21_small {A : List Nat} {w0 : World} {aU : Option Addr} {aV : Nat} {aX : Option Addr} {aY : Nat} {d : DFA} {most : Int} (hA : ∀ b ∈ A, b < w0.heap.size) (ah : ISl (Rp.bool) A w0 aU aV d.Final) (ak : ISl (Rp.sl (Rp.int .i64)) A w0 aX aY d.Next) {K : Bool → Prop} (H : law21_small d most K) :
    CallsV Try.prog 17 #[.agg #[.int .i64 d.Letters, .int .i64 d.Start, .slice aU d.Final.length aV, .slice aX d.Next.length aY], .int .i64 most] w0 (fun v w' => ∃ (r0 : Bool), v = .bool r0 ∧ Same w0 w' ∧ K r0) := by
 refine CallsV.of (l := [.agg #[.int .i64 d.Letters, .int .i64 d.Start, .slice aU d.Final.length aV, .slice aX d.Next.length aY], .int .i64 most]) Try.func17 rfl Try.ntmps17 rfl ?_
 have hO := Owns.start hA
 have hB := Fr.refl (bl []) w0
 unfold law21_small at H
 refine zq (zr ?_)
 have hobt := obox (t := 25) (v := .agg #[.int .i64 d.Letters, .int .i64 d.Start, .slice aU d.Final.length aV, .slice aX d.Next.length aY]) (cs := #[.int .i64 d.Letters, .int .i64 d.Start, .slice aU d.Final.length aV, .slice aX d.Next.length aY]) hO rfl
 obtain ⟨w1, B2, dG, hs4, lb⟩ := hobt
 refine zg (lb rfl) ?_
 replace hO := dG.own
 refine za rfl (zn (zq (zr (zo (op_fieldAddr Try.underlying25 rfl ti22 rfl (by decide)) (zs (oblk (i := 2) 0 hO rfl rfl Try.underlying22 rfl rfl) ?_)))))
 refine zo (op_len Try.underlying22 rfl) ?_
 replace ah := (ah.ch (Ch.start A w0)).ch dG.ch
 replace H := H ah.bd
 refine zm rfl ?_
 by_cases h7 : (d.Final.length : Int) ≤ most
 ·replace H := ifp h7 H
  refine zo (fun w => opB (op_leq rfl rfl w) (decide_eq_true h7)) (zm rfl (zo (op_fieldAddr Try.underlying25 rfl ti3 rfl (by decide)) (zs (oblk (i := 0) 0 hO rfl rfl Try.underlying3 rfl rfl) ?_)))
  by_cases h8 : d.Letters ≤ (2 : Int)
  ·replace H := ifp h8 H
   refine zo (fun w => opB (op_leq rfl rfl w) (decide_eq_true h8)) (zo (op_pickT rfl rfl rfl) (zm rfl (zs (oblkAgg (vs := [.int .i64 d.Letters, .int .i64 d.Start, .slice aU d.Final.length aV, .slice aX d.Next.length aY]) (i := 0) 0 hO rfl rfl Try.underlying25 rfl ti25 rfl) ?_)))
   replace ak := (ak.ch (Ch.start A w0)).ch dG.ch
   refine GoR.call (op_call body16 rfl (walk_ref07_Validate (d := d) hO.lt ah ak H)) rfl rfl ?_
   rintro v13 w10 ⟨r9, rfl, Ax, H⟩
   have Bd := Stp.same hO Ax
   replace hO := Bd.own
   by_cases h15 : r9 = (0 : Int)
   ·replace H := ifp h15 H
    refine zo (fun w => opB (op_eql rfl rfl w) (decide_eq_true h15)) (zo (op_pickT rfl rfl rfl) (za rfl (zn ?_)))
    refine Go1.ret1 Try.func17 rfl ?_
    replace hB := (hB.trans dG.fr).trans Bd.fr
    exact ⟨true, rfl, hB.same, H⟩
   replace H := ifn h15 H
   refine zo (fun w => opB (op_eql rfl rfl w) (decide_eq_false h15)) (zo (op_pickT rfl rfl rfl) (za rfl (zn ?_)))
   refine Go1.ret1 Try.func17 rfl ?_
   replace hB := (hB.trans dG.fr).trans Bd.fr
   exact ⟨false, rfl, hB.same, H⟩
  replace H := ifn h8 H
  refine zo (fun w => opB (op_leq rfl rfl w) (decide_eq_false h8)) (zo (op_pickT rfl rfl rfl) (zm rfl (zp (zp (zp ?_)))))
  refine zo (op_pickF rfl rfl rfl) (za rfl (zn ?_))
  refine Go1.ret1 Try.func17 rfl ?_
  replace hB := hB.trans dG.fr
  exact ⟨false, rfl, hB.same, H⟩
 replace H := ifn h7 H
 refine zo (fun w => opB (op_leq rfl rfl w) (decide_eq_false h7)) (zm rfl (zp (zp (zp (zo (op_pickF rfl rfl rfl) ?_)))))
 refine zm rfl (zp (zp (zp (zo (op_pickF rfl rfl rfl) (za rfl ?_)))))
 refine zn ?_
 refine Go1.ret1 Try.func17 rfl ?_
 replace hB := hB.trans dG.fr
 exact ⟨false, rfl, hB.same, H⟩
theorem body60 : Body Try.prog 60 := ⟨Try.f60, Try.func60, rfl, by kernel_rfl⟩
theorem walk_law21_ab {A : List Nat} {w0 : World} (hA : ∀ b ∈ A, b < w0.heap.size) {K : DFA → Prop} (H : law21_ab  K) :
    CallsV Try.prog 60 #[] w0 (fun v w' => ∃ (r0 : DFA), ∃ (jo : Option Addr), ∃ (jp : Nat), ∃ (kq : Option Addr), ∃ (kr : Nat), v = .agg #[.int .i64 r0.Letters, .int .i64 r0.Start, .slice jo r0.Final.length jp, .slice kq r0.Next.length kr] ∧ Same w0 w' ∧ ISl (Rp.bool) A w' jo jp r0.Final ∧ ISl (Rp.sl (Rp.int .i64)) A w' kq kr r0.Next ∧ K r0) := by
 refine CallsV.of (l := []) Try.func60 rfl Try.ntmps60 rfl ?_
 have hO := Owns.start hA
 have hB := Fr.refl (bl []) w0
 unfold law21_ab at H
 refine zq (zr ?_)
 have hobt := oalloc (t := 25) (cs := #[.int .i64 (0 : Int), .int .i64 (0 : Int), .slice none 0 0, .slice none 0 0]) ti25 hO rfl
 obtain ⟨w1, B2, dG, hs4, lb⟩ := hobt
 refine GoR.op lb rfl rfl ?_
 replace hO := dG.own
 refine zn (zq (zr ?_))
 have hobt := obuild (r := Rp.bool) (n := 3) (parts := [(0, .bool true), (1, .bool false), (2, .bool false)]) (vs := [.bool true, .bool false, .bool false]) (xs := [true, false, false]) rfl Try.underlying22 ti4 hO (by decide) (by kernel_rfl) (Els.cons rfl rfl (Els.cons rfl rfl (Els.cons rfl rfl (Els.nil _ _ _) (by simp [mx])) (by simp [mx])) (by simp [mx])) rfl
 obtain ⟨w7, p8, gr, rK, Ax, Lb⟩ := hobt
 refine zg (Lb rfl) ?_
 replace hO := gr.own
 have hobt := obuild (r := Rp.int .i64) (n := 2) (parts := [(0, .int .i64 (1 : Int)), (1, .int .i64 (2 : Int))]) (vs := [.int .i64 (1 : Int), .int .i64 (2 : Int)]) (xs := [(1 : Int), (2 : Int)]) rfl Try.underlying31 ti3 hO (by decide) (by kernel_rfl) (Els.cons rfl rfl (Els.cons rfl rfl (Els.nil _ _ _) (by simp [mx])) (by simp [mx])) rfl
 obtain ⟨w14, p15, rY, wA, TH, Lc⟩ := hobt
 refine zg (Lc rfl) ?_
 replace hO := rY.own
 have hobt := obuild (r := Rp.int .i64) (n := 2) (parts := [(0, .int .i64 (2 : Int)), (1, .int .i64 (0 : Int))]) (vs := [.int .i64 (2 : Int), .int .i64 (0 : Int)]) (xs := [(2 : Int), (0 : Int)]) rfl Try.underlying31 ti3 hO (by decide) (by kernel_rfl) (Els.cons rfl rfl (Els.cons rfl rfl (Els.nil _ _ _) (by simp [mx])) (by simp [mx])) rfl
 obtain ⟨w21, p22, kS, cj, TI, Do⟩ := hobt
 refine zg (Do rfl) ?_
 replace hO := kS.own
 have hobt := obuild (r := Rp.int .i64) (n := 2) (parts := [(0, .int .i64 (2 : Int)), (1, .int .i64 (2 : Int))]) (vs := [.int .i64 (2 : Int), .int .i64 (2 : Int)]) (xs := [(2 : Int), (2 : Int)]) rfl Try.underlying31 ti3 hO (by decide) (by kernel_rfl) (Els.cons rfl rfl (Els.cons rfl rfl (Els.nil _ _ _) (by simp [mx])) (by simp [mx])) rfl
 obtain ⟨w28, p29, zF, BJ, TJ, Dk⟩ := hobt
 refine zg (Dk rfl) ?_
 replace hO := zF.own
 replace wA := (wA.ch kS.ch).ch zF.ch
 have hobt := freeze 2 hO rfl wA
 obtain ⟨hO1, Dp, tm, PS⟩ := hobt
 dsimp only [eS, eZ] at hO1 Dp tm
 replace hB := (((((hB.trans dG.fr).trans gr.fr).trans rY.fr).trans kS.fr).trans zF.fr).trans (Owns.dropFr _ _ 2)
 dsimp only [eS, eZ] at hB
 replace hO := hO1; clear hO1
 replace cj := (cj.ch zF.ch).ch Dp
 have hobt := freeze 1 hO rfl cj
 obtain ⟨hO1, Dq, uV, PT⟩ := hobt
 dsimp only [eS, eZ] at hO1 Dq uV
 replace hB := hB.trans (Owns.dropFr _ _ 1)
 dsimp only [eS, eZ] at hB
 replace hO := hO1; clear hO1
 replace BJ := (BJ.ch Dp).ch Dq
 have hobt := freeze 0 hO rfl BJ
 obtain ⟨hO1, yP, uW, EL⟩ := hobt
 dsimp only [eS, eZ] at hO1 yP uW
 replace hB := hB.trans (Owns.dropFr _ _ 0)
 dsimp only [eS, eZ] at hB
 replace hO := hO1; clear hO1
 replace uV := uV.ch yP
 replace tm := (tm.ch Dq).ch yP
 have hobt := obuild (r := Rp.sl (Rp.int .i64)) (n := 3) (parts := [(0, .slice p15 2 2), (1, .slice p22 2 2), (2, .slice p29 2 2)]) (vs := [.slice p15 2 2, .slice p22 2 2, .slice p29 2 2]) (xs := [[(1 : Int), (2 : Int)], [(2 : Int), (0 : Int)], [(2 : Int), (2 : Int)]]) rfl Try.underlying23 ti31 hO (by decide) (by kernel_rfl) (Els.cons rfl ⟨p15, 2, congrArg some (congrArg (fun nn => Value.slice p15 nn 2) PS), tm⟩ (Els.cons rfl ⟨p22, 2, congrArg some (congrArg (fun nn => Value.slice p22 nn 2) PT), uV⟩ (Els.cons rfl ⟨p29, 2, congrArg some (congrArg (fun nn => Value.slice p29 nn 2) EL), uW⟩ (Els.nil _ _ _) (by simp [mx])) (by simp [mx])) (by simp [mx])) rfl
 obtain ⟨w44, p45, x7, BK, HR, Dn⟩ := hobt
 refine zg (Dn rfl) ?_
 replace hO := x7.own
 refine zo (op_build Try.underlying25 ti25 (pl := [(0, 1), (1, 1), (2, 1), (3, 1)]) (vs := [(0, .int .i64 (2 : Int)), (2, .slice p8 3 3), (3, .slice p45 3 3)]) (cs := #[.int .i64 (2 : Int), .int .i64 (0 : Int), .slice p8 3 3, .slice p45 3 3]) (by kernel_rfl) rfl (by kernel_rfl)) ?_
 have hobt := oblkStAgg (us := [.int .i64 (2 : Int), .int .i64 (0 : Int), .slice p8 3 3, .slice p45 3 3]) (o := 0) (cs' := #[.int .i64 (2 : Int), .int .i64 (0 : Int), .slice p8 3 3, .slice p45 3 3]) 2 hO rfl rfl (Nat.le_of_ble_eq_true rfl) rfl
 obtain ⟨w51, w4, Dr⟩ := hobt
 refine zg (Dr ti25 (by exact rfl) (by exact rfl) rfl) ?_
 replace hO := w4.own
 refine zn ?_
 have Z1 := ((((((rY.ch.trans kS.ch).trans zF.ch).trans Dp).trans Dq).trans yP).trans x7.ch).trans w4.ch
 replace rK := rK.ch Z1
 have hobt := freeze 1 hO rfl rK
 obtain ⟨hO1, yQ, BL, EM⟩ := hobt
 replace hO := hO1; clear hO1
 replace BK := (BK.ch w4.ch).ch yQ
 have hobt := freeze 0 hO rfl BK
 obtain ⟨hO1, Ds, PU, PV⟩ := hobt
 replace hO := hO1; clear hO1
 refine Go1.retC1 Try.func60 rfl rfl (run_loadBlk (vs := [.int .i64 (2 : Int), .int .i64 (0 : Int), .slice p8 3 3, .slice p45 3 3]) 0 hO rfl rfl Try.underlying25 rfl ti25) ?_
 replace BL := BL.ch Ds
 replace hB := (((hB.trans x7.fr).trans w4.fr).trans (Owns.dropFr _ _ 1)).trans (Owns.dropFr _ _ 0)
 exact ⟨(⟨(2 : Int), (0 : Int), [true, false, false], [[(1 : Int), (2 : Int)], [(2 : Int), (0 : Int)], [(2 : Int), (2 : Int)]]⟩ : DFA), p8, 3, p45, 3, (congrArg (fun l => Value.agg (List.toArray l)) (cons_eq rfl (cons_eq rfl (cons_eq (congrArg (fun nn => Value.slice p8 nn 3) EM) (cons_eq (congrArg (fun nn => Value.slice p45 nn 3) PV) rfl))))), hB.same, (BL.ch (Ch.weak _ _ _)), (PU.ch (Ch.weak _ _ _)), H⟩
theorem body61 : Body Try.prog 61 := ⟨Try.f61, Try.func61, rfl, by kernel_rfl⟩
theorem walk_dfa_Validate {A : List Nat} {w0 : World} {aU : Option Addr} {aV : Nat} {aX : Option Addr} {aY : Nat} {d : DFA} (hA : ∀ b ∈ A, b < w0.heap.size) (ah : ISl (Rp.bool) A w0 aU aV d.Final) (ak : ISl (Rp.sl (Rp.int .i64)) A w0 aX aY d.Next) {K : Int → Prop} (H : dfa_Validate d K) :
    CallsV Try.prog 61 #[.agg #[.int .i64 d.Letters, .int .i64 d.Start, .slice aU d.Final.length aV, .slice aX d.Next.length aY]] w0 (fun v w' => ∃ (r0 : Int), v = .int .i64 r0 ∧ Same w0 w' ∧ K r0) := by
 refine CallsV.of (l := [.agg #[.int .i64 d.Letters, .int .i64 d.Start, .slice aU d.Final.length aV, .slice aX d.Next.length aY]]) Try.func61 rfl Try.ntmps61 rfl ?_
 have hO := Owns.start hA
 have hB := Fr.refl (bl []) w0
 unfold dfa_Validate at H
 refine zq (zr ?_)
 have hobt := obox (t := 25) (v := .agg #[.int .i64 d.Letters, .int .i64 d.Start, .slice aU d.Final.length aV, .slice aX d.Next.length aY]) (cs := #[.int .i64 d.Letters, .int .i64 d.Start, .slice aU d.Final.length aV, .slice aX d.Next.length aY]) hO rfl
 obtain ⟨w1, B2, dG, hs4, lb⟩ := hobt
 refine zg (lb rfl) ?_
 replace hO := dG.own
 refine za rfl (zn (zq (zq (zr (zo (op_fieldAddr Try.underlying25 rfl ti3 rfl (by decide)) ?_)))))
 refine zs (oblk (i := 0) 0 hO rfl rfl Try.underlying3 rfl rfl) ?_
 by_cases h7 : d.Letters < (1 : Int)
 ·replace H := ifp h7 H
  refine zo (fun w => opB (op_lss rfl rfl w) (decide_eq_true h7)) (zm rfl (zp (zp (zp (zo (op_pickT rfl rfl rfl) ?_)))))
  refine zn (zt rfl rfl (zq (zr (za rfl (zn ?_)))))
  refine Go1.ret1 Try.func61 rfl ?_
  replace hB := hB.trans dG.fr
  exact ⟨(1 : Int), rfl, hB.same, H⟩
 replace H := ifn h7 H
 refine zo (fun w => opB (op_lss rfl rfl w) (decide_eq_false h7)) (zm rfl (zo (op_fieldAddr Try.underlying25 rfl ti3 rfl (by decide)) (zs (oblk (i := 0) 0 hO rfl rfl Try.underlying3 rfl rfl) ?_)))
 by_cases h8 : (6 : Int) < d.Letters
 ·replace H := ifp h8 H
  refine zo (fun w => opB (op_gtr rfl rfl w) (decide_eq_true h8)) (zo (op_pickF rfl rfl rfl) (zn (zt rfl rfl (zq (zr ?_)))))
  refine za rfl (zn ?_)
  refine Go1.ret1 Try.func61 rfl ?_
  replace hB := hB.trans dG.fr
  exact ⟨(1 : Int), rfl, hB.same, H⟩
 replace H := ifn h8 H
 refine zo (fun w => opB (op_gtr rfl rfl w) (decide_eq_false h8)) (zo (op_pickF rfl rfl rfl) (zn (zf rfl rfl (zk (zq ?_)))))
 refine zr (zo (op_fieldAddr Try.underlying25 rfl ti22 rfl (by decide)) (zs (oblk (i := 2) 0 hO rfl rfl Try.underlying22 rfl rfl) (zo (op_len Try.underlying22 rfl) ?_)))
 replace ah := (ah.ch (Ch.start A w0)).ch dG.ch
 replace H := H ah.bd
 refine za rfl (zn (zq (zq ?_)))
 refine Go1.cut [(1, .pointer (some ⟨B2, 0, none⟩)), (3, .int .i64 (d.Final.length : Int))] ⟨rfl, rfl, trivial⟩ ?_
 intro σ _
 refine zr (zm rfl ?_)
 by_cases h9 : (512 : Int) < (d.Final.length : Int)
 ·replace H := ifp h9 H
  refine zo (fun w => opB (op_gtr rfl rfl w) (decide_eq_true h9)) (zn (zt rfl rfl (zq (zr (za rfl ?_)))))
  refine zn ?_
  refine Go1.ret1 Try.func61 rfl ?_
  replace hB := hB.trans dG.fr
  exact ⟨(3 : Int), rfl, hB.same, H⟩
 replace H := ifn h9 H
 refine zo (fun w => opB (op_gtr rfl rfl w) (decide_eq_false h9)) (zn (zf rfl rfl (zk (zq (zq ?_)))))
 refine zr (zo (op_fieldAddr Try.underlying25 rfl ti23 rfl (by decide)) (zs (oblk (i := 3) 0 hO rfl rfl Try.underlying23 rfl rfl) (zo (op_len Try.underlying23 rfl) ?_)))
 replace ak := (ak.ch (Ch.start A w0)).ch dG.ch
 replace H := H ak.bd
 refine zm rfl ?_
 by_cases h10 : (d.Next.length : Int) = (d.Final.length : Int)
 ·replace H := ifp h10 H
  refine zo (fun w => opB (op_neq rfl rfl w) (ndT h10)) (zm rfl (zo (op_fieldAddr Try.underlying25 rfl ti3 rfl (by decide)) (zs (oblk (i := 1) 0 hO rfl rfl Try.underlying3 rfl rfl) ?_)))
  by_cases h11 : d.Start < (0 : Int)
  ·replace H := ifp h11 H
   refine zo (fun w => opB (op_lss rfl rfl w) (decide_eq_true h11)) (zo (op_pickF rfl rfl rfl) (zm rfl (zp (zp (zp ?_)))))
   refine zp (zo (op_pickT rfl rfl rfl) (zn (zt rfl rfl (zq ?_))))
   refine Go1.cut [] trivial ?_
   intro σ _
   refine zr (za rfl (zn ?_))
   refine Go1.ret1 Try.func61 rfl ?_
   replace hB := hB.trans dG.fr
   exact ⟨(4 : Int), rfl, hB.same, H⟩
  replace H := ifn h11 H
  refine zo (fun w => opB (op_lss rfl rfl w) (decide_eq_false h11)) (zo (op_pickF rfl rfl rfl) (zm rfl (zo (op_fieldAddr Try.underlying25 rfl ti3 rfl (by decide)) (zs (oblk (i := 1) 0 hO rfl rfl Try.underlying3 rfl rfl) (zm rfl ?_)))))
  by_cases h12 : (d.Final.length : Int) ≤ d.Start
  ·replace H := ifp h12 H
   refine zo (fun w => opB (op_geq rfl rfl w) (decide_eq_true h12)) (zo (op_pickF rfl rfl rfl) (zn (zt rfl rfl (zq (zr ?_)))))
   refine za rfl (zn ?_)
   refine Go1.ret1 Try.func61 rfl ?_
   replace hB := hB.trans dG.fr
   exact ⟨(4 : Int), rfl, hB.same, H⟩
  replace H := ifn h12 H
  refine zo (fun w => opB (op_geq rfl rfl w) (decide_eq_false h12)) (zo (op_pickF rfl rfl rfl) (zn (zf rfl rfl (zk (zq ?_)))))
  refine zq (zr (zo (op_fieldAddr Try.underlying25 rfl ti23 rfl (by decide)) (zs (oblk (i := 3) 0 hO rfl rfl Try.underlying23 rfl rfl) (zo (op_len Try.underlying23 rfl) (zm rfl ?_)))))
  refine zn (zb ?_)
  replace hB := hB.trans dG.fr
  refine Go1.loopW (S := Nat) (fun s σ w => agrees σ [(1, .pointer (some ⟨B2, 0, none⟩)), (3, .int .i64 (d.Final.length : Int)), (38, .slice aX d.Next.length aY), (39, .int .i64 (d.Next.length : Int)), (40, .int .i64 (s : Int))] ∧ (fun Z0 => Owns w0.heap.size w Z0 A ∧ ISl (Rp.bool) (bl Z0 ++ A) w aU aV d.Final ∧ ISl (Rp.sl (Rp.int .i64)) (bl Z0 ++ A) w aX aY d.Next ∧ Fr (bl []) w0 (bl Z0) w) [.blk B2 (.cells #[.int .i64 d.Letters, .int .i64 d.Start, .slice aU d.Final.length aV, .slice aX d.Next.length aY] 25 (0, 0))]) H ⟨⟨rfl, rfl, rfl, rfl, rfl, trivial⟩, hO, ah, ak, hB⟩ ?_
  intro X1 k1_14
  intro H hX1 σ w13
  refine andE fun hag => andE fun hO => andE fun ah => andE fun ak => fun hB => ?_
  refine Go1.keep [(1, .pointer (some ⟨B2, 0, none⟩)), (3, .int .i64 (d.Final.length : Int)), (38, .slice aX d.Next.length aY), (39, .int .i64 (d.Next.length : Int)), (40, .int .i64 (k1_14 : Int))] hag ?_
  refine zq (zr ?_)
  by_cases h15 : (k1_14 : Int) < (d.Next.length : Int)
  ·replace H := ifp h15 H
   refine zo (fun w => opB (op_lss rfl rfl w) (decide_eq_true h15)) (zn (zq (zt rfl rfl (zk (zq ?_)))))
   refine zb (zq (zr ?_))
   obtain ⟨h16, H⟩ := H
   obtain ⟨h17, H⟩ := H
   refine zo (op_index Try.underlying23 ti31 rfl rfl h16 h17 (ak.some_ h16 h17)) ?_
   have hobt := ldSl ak h16 h17
   obtain ⟨p18, c19, yR, PW⟩ := hobt
   refine zs (PW Try.underlying31 rfl rfl) (za rfl (zn (zq (zq (zr ?_)))))
   refine zm rfl (zo (op_len Try.underlying31 rfl) ?_)
   replace H := H yR.bd
   refine zo (op_fieldAddr Try.underlying25 rfl ti3 rfl (by decide)) (zs (oblk (i := 0) 0 hO rfl rfl Try.underlying3 rfl rfl) ?_)
   by_cases h22 : ((ix d.Next (k1_14 : Int)).length : Int) = d.Letters
   ·replace H := ifp h22 H
    refine zo (fun w => opB (op_neq rfl rfl w) (ndT h22)) (zn (zf rfl rfl (zk (zq (zr ?_)))))
    refine zm rfl (zo (op_len Try.underlying31 rfl) (zm rfl (zn (zb ?_))))
    refine Go1.loopW (S := Nat) (fun s σ w => agrees σ [(1, .pointer (some ⟨B2, 0, none⟩)), (3, .int .i64 (d.Final.length : Int)), (38, .slice aX d.Next.length aY), (39, .int .i64 (d.Next.length : Int)), (40, .int .i64 (k1_14 : Int)), (49, .slice p18 ((ix d.Next (k1_14 : Int)).length) c19), (50, .int .i64 ((ix d.Next (k1_14 : Int)).length : Int)), (51, .int .i64 (s : Int))] ∧ (fun Z0 => Owns w0.heap.size w Z0 A ∧ ISl (Rp.bool) (bl Z0 ++ A) w aU aV d.Final ∧ ISl (Rp.sl (Rp.int .i64)) (bl Z0 ++ A) w aX aY d.Next ∧ ISl (Rp.int .i64) (bl Z0 ++ A) w p18 c19 (ix d.Next (k1_14 : Int)) ∧ Fr (bl []) w0 (bl Z0) w) [.blk B2 (.cells #[.int .i64 d.Letters, .int .i64 d.Start, .slice aU d.Final.length aV, .slice aX d.Next.length aY] 25 (0, 0))]) H ⟨⟨rfl, rfl, rfl, rfl, rfl, rfl, rfl, rfl, trivial⟩, hO, ah, ak, yR, hB⟩ ?_
    intro X2 k2_24
    intro H hX2 σ w23
    refine andE fun hag => andE fun hO => andE fun ah => andE fun ak => andE fun yR => fun hB => ?_
    refine Go1.keep [(1, .pointer (some ⟨B2, 0, none⟩)), (3, .int .i64 (d.Final.length : Int)), (38, .slice aX d.Next.length aY), (39, .int .i64 (d.Next.length : Int)), (40, .int .i64 (k1_14 : Int)), (49, .slice p18 ((ix d.Next (k1_14 : Int)).length) c19), (50, .int .i64 ((ix d.Next (k1_14 : Int)).length : Int)), (51, .int .i64 (k2_24 : Int))] hag ?_
    refine zq (zr ?_)
    by_cases h25 : (k2_24 : Int) < ((ix d.Next (k1_14 : Int)).length : Int)
    ·replace H := ifp h25 H
     refine zo (fun w => opB (op_lss rfl rfl w) (decide_eq_true h25)) (zn (zq (zt rfl rfl (zk (zq ?_)))))
     refine zb (zq (zr ?_))
     obtain ⟨h26, H⟩ := H
     obtain ⟨h27, H⟩ := H
     refine zo (op_index Try.underlying31 ti3 rfl rfl h26 h27 (yR.some_ h26 h27)) (zs (ldInt yR h26 h27 Try.underlying3 rfl rfl) (za rfl (zn (zq (zr ?_)))))
     refine zm rfl ?_
     by_cases h28 : (ix (ix d.Next (k1_14 : Int)) (k2_24 : Int)) < (0 : Int)
     ·replace H := ifp h28 H
      refine zo (fun w => opB (op_lss rfl rfl w) (decide_eq_true h28)) (zm rfl (zp (zp (zp (zo (op_pickT rfl rfl rfl) ?_)))))
      refine zn (zt rfl rfl (zq (zr (za rfl (zn ?_)))))
      refine Go1.ret1 Try.func61 rfl ?_
      exact ⟨(4 : Int), rfl, hB.same, H⟩
     replace H := ifn h28 H
     refine zo (fun w => opB (op_lss rfl rfl w) (decide_eq_false h28)) (zm rfl (zm rfl (zm rfl ?_)))
     by_cases h29 : (d.Final.length : Int) ≤ (ix (ix d.Next (k1_14 : Int)) (k2_24 : Int))
     ·replace H := ifp h29 H
      refine zo (fun w => opB (op_geq rfl rfl w) (decide_eq_true h29)) (zo (op_pickF rfl rfl rfl) (zn (zt rfl rfl (zq (zr ?_)))))
      refine za rfl (zn ?_)
      refine Go1.ret1 Try.func61 rfl ?_
      exact ⟨(4 : Int), rfl, hB.same, H⟩
     replace H := ifn h29 H
     refine zo (fun w => opB (op_geq rfl rfl w) (decide_eq_false h29)) (zo (op_pickF rfl rfl rfl) (zn (zf rfl rfl (zk ?_))))
     refine Go1.inBlock ?_
     refine Go1.cut [(1, .pointer (some ⟨B2, 0, none⟩)), (3, .int .i64 (d.Final.length : Int)), (38, .slice aX d.Next.length aY), (39, .int .i64 (d.Next.length : Int)), (40, .int .i64 (k1_14 : Int)), (49, .slice p18 ((ix d.Next (k1_14 : Int)).length) c19), (50, .int .i64 ((ix d.Next (k1_14 : Int)).length : Int)), (51, .int .i64 (k2_24 : Int))] ⟨rfl, rfl, rfl, rfl, rfl, rfl, rfl, rfl, trivial⟩ ?_
     intro σ _
     refine zr (zo (op_add rfl rfl (wrap_i64 (natbd h25 yR.bd))) (zm rfl (zn ?_)))
     exact hX2 _ H _ _ ⟨⟨rfl, rfl, rfl, rfl, rfl, rfl, rfl, rfl, trivial⟩, hO, ah, ak, yR, hB⟩
    replace H := ifn h25 H
    refine zo (fun w => opB (op_lss rfl rfl w) (decide_eq_false h25)) (zn (zq (zf rfl rfl ?_)))
    refine Go1.exit rfl ?_
    refine Go1.inBlock ?_
    refine zr (zo (op_add rfl rfl (wrap_i64 (natbd h15 ak.bd))) (zm rfl (zn ?_)))
    exact hX1 _ H _ _ ⟨⟨rfl, rfl, rfl, rfl, rfl, trivial⟩, hO, ah, ak, hB⟩
   replace H := ifn h22 H
   refine zo (fun w => opB (op_neq rfl rfl w) (ndF h22)) (zn (zt rfl rfl (zq (zr (za rfl ?_)))))
   refine zn ?_
   refine Go1.ret1 Try.func61 rfl ?_
   exact ⟨(4 : Int), rfl, hB.same, H⟩
  replace H := ifn h15 H
  refine zo (fun w => opB (op_lss rfl rfl w) (decide_eq_false h15)) (zn (zq (zf rfl rfl ?_)))
  refine Go1.exit rfl ?_
  refine zq (zr (za rfl (zn ?_)))
  refine Go1.ret1 Try.func61 rfl ?_
  exact ⟨(0 : Int), rfl, hB.same, H⟩
 replace H := ifn h10 H
 refine zo (fun w => opB (op_neq rfl rfl w) (ndF h10)) (zm rfl (zp (zp (zp (zo (op_pickT rfl rfl rfl) ?_)))))
 refine zm rfl (zp (zp (zp (zp (zo (op_pickT rfl rfl rfl) ?_)))))
 refine zn (zt rfl rfl (zq (zr (za rfl (zn ?_)))))
 refine Go1.ret1 Try.func61 rfl ?_
 replace hB := hB.trans dG.fr
 exact ⟨(4 : Int), rfl, hB.same, H⟩
theorem body141 : Body Try.prog 141 := ⟨Try.f141, Try.func141, rfl, by kernel_rfl⟩
theorem body140 : Body Try.prog 140 := ⟨Try.f140, Try.func140, rfl, by kernel_rfl⟩
theorem body163 : Body Try.prog 163 := ⟨Try.f163, Try.func163, rfl, by kernel_rfl⟩
theorem body139 : Body Try.prog 139 := ⟨Try.f139, Try.func139, rfl, by kernel_rfl⟩
theorem body109 : Body Try.prog 109 := ⟨Try.f109, Try.func109, rfl, by kernel_rfl⟩
theorem walk_dfa_Trim {A : List Nat} {w0 : World} {aU : Option Addr} {aV : Nat} {aX : Option Addr} {aY : Nat} {d : DFA} (hA : ∀ b ∈ A, b < w0.heap.size) (ah : ISl (Rp.bool) A w0 aU aV d.Final) (ak : ISl (Rp.sl (Rp.int .i64)) A w0 aX aY d.Next) {K : DFA → List Int → Prop} (H : dfa_Trim d K) :
    CallsV Try.prog 109 #[.agg #[.int .i64 d.Letters, .int .i64 d.Start, .slice aU d.Final.length aV, .slice aX d.Next.length aY]] w0 (fun v w' => ∃ (r0 : DFA), ∃ (r1 : List Int), ∃ (jo : Option Addr), ∃ (jp : Nat), ∃ (kq : Option Addr), ∃ (kr : Nat), ∃ (BM : Option Addr), ∃ (BN : Nat), v = .tuple #[.agg #[.int .i64 r0.Letters, .int .i64 r0.Start, .slice jo r0.Final.length jp, .slice kq r0.Next.length kr], .slice BM r1.length BN] ∧ Same w0 w' ∧ ISl (Rp.bool) A w' jo jp r0.Final ∧ ISl (Rp.sl (Rp.int .i64)) A w' kq kr r0.Next ∧ ISl (Rp.int .i64) A w' BM BN r1 ∧ K r0 r1) := by
 refine CallsV.of (l := [.agg #[.int .i64 d.Letters, .int .i64 d.Start, .slice aU d.Final.length aV, .slice aX d.Next.length aY]]) Try.func109 rfl Try.ntmps109 rfl ?_
 have hO := Owns.start hA
 have hB := Fr.refl (bl []) w0
 unfold dfa_Trim at H
 refine zq (zr ?_)
 have hobt := obox (t := 25) (v := .agg #[.int .i64 d.Letters, .int .i64 d.Start, .slice aU d.Final.length aV, .slice aX d.Next.length aY]) (cs := #[.int .i64 d.Letters, .int .i64 d.Start, .slice aU d.Final.length aV, .slice aX d.Next.length aY]) hO rfl
 obtain ⟨w1, B2, dG, hs4, lb⟩ := hobt
 refine zg (lb rfl) ?_
 replace hO := dG.own
 have hobt := oalloc (t := 25) (cs := #[.int .i64 (0 : Int), .int .i64 (0 : Int), .slice none 0 0, .slice none 0 0]) ti25 hO rfl
 obtain ⟨w7, B8, gr, xa, tn⟩ := hobt
 refine GoR.op tn rfl rfl ?_
 replace hO := gr.own
 refine za rfl (zn (zq (zq (zr (zs (oblkAgg (vs := [.int .i64 d.Letters, .int .i64 d.Start, .slice aU d.Final.length aV, .slice aX d.Next.length aY]) (i := 0) 1 hO rfl rfl Try.underlying25 rfl ti25 rfl) ?_)))))
 have Z1 := ((Ch.start A w0).trans dG.ch).trans gr.ch
 replace ah := ah.ch Z1
 replace ak := ak.ch Z1
 refine GoR.call (op_call body61 rfl (walk_dfa_Validate (d := d) hO.lt ah ak H)) rfl rfl ?_
 rintro v17 w14 ⟨r13, rfl, yN, H⟩
 have ji := Stp.same hO yN
 replace hO := ji.own
 by_cases h19 : r13 = (0 : Int)
 ·replace H := ifp h19 H
  refine zo (fun w => opB (op_neq rfl rfl w) (ndT h19)) (zn (zf rfl rfl (zk (zq (zr ?_)))))
  refine zo (op_fieldAddr Try.underlying25 rfl ti3 rfl (by decide)) (zs (oblk (i := 0) 1 hO rfl rfl Try.underlying3 rfl rfl) (zo (op_fieldAddr Try.underlying25 rfl ti3 rfl (by decide)) (zs (oblk (i := 1) 1 hO rfl rfl Try.underlying3 rfl rfl) (zo (op_makeFunc (vs := [.pointer (some ⟨B2, 0, none⟩)]) rfl) (zo (op_makeFunc (vs := [.pointer (some ⟨B2, 0, none⟩)]) rfl) ?_)))))
  refine GoR.inl (vs := [.int .i64 d.Letters, .int .i64 d.Start, .func (.func 140) #[] #[.pointer (some ⟨B2, 0, none⟩)], .func (.func 141) #[] #[.pointer (some ⟨B2, 0, none⟩)]]) (caps := []) rfl rfl body139 Try.func139 rfl Try.ntmps139 rfl rfl rfl ?_
  intro RhR20 hR20
  refine zq (zr ?_)
  have hobt := oalloc (t := 25) (cs := #[.int .i64 (0 : Int), .int .i64 (0 : Int), .slice none 0 0, .slice none 0 0]) ti25 hO rfl
  obtain ⟨w21, B22, kS, TK, zG⟩ := hobt
  refine GoR.op zG rfl rfl ?_
  replace hO := kS.own
  refine za rfl (za rfl (zn (zq (zr ?_))))
  have hobt := oalloc (t := 188) (cs := #[.slice none 0 0, .map none]) ti188 hO rfl
  obtain ⟨w27, B28, sK, PX, Du⟩ := hobt
  refine GoR.op Du rfl rfl ?_
  replace hO := sK.own
  refine zn (zq (zr (zm rfl ?_)))
  refine GoR.inl (vs := [.pointer (some ⟨B28, 0, none⟩), .int .i64 d.Start]) (caps := []) rfl rfl body163 Try.func163 rfl Try.ntmps163 rfl rfl rfl ?_
  intro RhR33 hR33
  refine zq ?_
  refine Go1.cut [(0, .pointer (some ⟨B28, 0, none⟩)), (1, .int .i64 d.Start)] ⟨rfl, rfl, trivial⟩ ?_
  intro σ _
  refine zr (za rfl (zn (zq (zr (zm rfl ?_)))))
  refine zo (op_nilCheck rfl) (zo (op_fieldAddr Try.underlying188 rfl ti168 rfl (by decide)) (zs (oblk (i := 1) 0 hO rfl rfl Try.underlying168 rfl rfl) (zm rfl (zs (fun w _ => olookN (a := d.Start) (MK.int Try.underlying3) Try.underlying168 ti3 rfl rfl w) (zm rfl ?_)))))
  refine zo (op_extract rfl rfl) (zo (op_extract rfl rfl) (za rfl (za rfl (zn (zq ?_)))))
  refine zq (zr (zm rfl (zo (op_not rfl) (zn (zt rfl rfl ?_)))))
  refine zq (zq (zr (zm rfl (zo (op_nilCheck rfl) (zo (op_fieldAddr Try.underlying188 rfl ti168 rfl (by decide)) ?_)))))
  refine zs (oblk (i := 1) 0 hO rfl rfl Try.underlying168 rfl rfl) (zo (fun w => opB (op_nilMap Try.underlying168 rfl rfl w) rfl) (zn (zt rfl rfl ?_)))
  refine Go1.cut [(0, .pointer (some ⟨B28, 0, none⟩)), (1, .int .i64 d.Start)] ⟨rfl, rfl, trivial⟩ ?_
  intro σ _
  refine zr (zm rfl ?_)
  have hobt := omakeMap (fun a : Int => Value.int .i64 a) (fun a : Int => Value.int .i64 a) hO
  obtain ⟨w34, B35, Be, HQ, Dv⟩ := hobt
  refine GoR.op Dv rfl rfl ?_
  replace hO := Be.own
  refine zo (op_nilCheck rfl) (zo (op_fieldAddr Try.underlying188 rfl ti168 rfl (by decide)) ?_)
  have hobt := oblkSt2 (v := .map (some B35)) (i := 1) (cs' := #[.slice none 0 0, .map (some B35)]) 1 hO rfl rfl rfl rfl
  obtain ⟨w40, t7, Ld⟩ := hobt
  dsimp only [sS, sZ] at t7
  refine zg (Ld Try.underlying168 rfl ti168 (by exact rfl) (by exact rfl)) ?_
  replace hO := t7.own
  refine zn (zq (zr (zm rfl (zo (op_nilCheck rfl) (zo (op_fieldAddr Try.underlying188 rfl ti31 rfl (by decide)) ?_)))))
  refine zs (oblk (i := 0) 1 hO rfl rfl Try.underlying31 rfl rfl) (zo (op_len Try.underlying31 rfl) (za rfl (zn (zq (zr ?_)))))
  refine zm rfl (zo (op_nilCheck rfl) (zo (op_fieldAddr Try.underlying188 rfl ti168 rfl (by decide)) (zs (oblk (i := 1) 1 hO rfl rfl Try.underlying168 rfl rfl) (zm rfl (zm rfl ?_)))))
  have hobt := omapUpd (MK.int Try.underlying3) 0 hO rfl Try.underlying168 d.Start (0 : Int)
  obtain ⟨w43, zH, Dl⟩ := hobt
  dsimp only [sS, sZ] at zH
  refine zg (Dl (by exact rfl) (by exact rfl) (by exact rfl)) ?_
  replace hO := zH.own
  refine zn (zr (zm rfl (zm rfl (zo (op_nilCheck rfl) (zo (op_fieldAddr Try.underlying188 rfl ti31 rfl (by decide)) ?_)))))
  refine zs (oblk (i := 0) 1 hO rfl rfl Try.underlying31 rfl rfl) (zm rfl ?_)
  have hobt := obuild (r := Rp.int .i64) (n := 1) (parts := [(0, .int .i64 d.Start)]) (vs := [.int .i64 d.Start]) (xs := [d.Start]) rfl Try.underlying31 ti3 hO (by decide) (by kernel_rfl) (Els.cons rfl rfl (Els.nil _ _ _) (by simp [mx])) rfl
  obtain ⟨w46, p47, iC, EO, TL, Le⟩ := hobt
  refine zg (Le rfl) ?_
  replace hO := iC.own
  have hobt := freeze 0 hO rfl EO
  obtain ⟨hO1, EP, sn, PY⟩ := hobt
  dsimp only [eS, eZ] at hO1 EP sn
  replace hB := (((((((((hB.trans dG.fr).trans gr.fr).trans ji.fr).trans kS.fr).trans sK.fr).trans Be.fr).trans t7.fr).trans zH.fr).trans iC.fr).trans (Owns.dropFr _ _ 0)
  dsimp only [eS, eZ] at hB
  replace hO := hO1; clear hO1
  have zI := Stp.nil (e := 3) (r := 1) hO
  replace hO := zI.own
  have P1 := Els.nil (Rp.int .i64) (bl (.row 3 1 none 0 0 [] :: [.any (mapE (fun a : Int => Value.int .i64 a) (fun a : Int => Value.int .i64 a) B35 (mput (([] : List (Int × Int))) d.Start ((0 : Int)))), .blk B28 (.cells #[.slice none 0 0, .map (some B35)] 188 (0, 0)), .blk B22 (.cells #[.int .i64 (0 : Int), .int .i64 (0 : Int), .slice none 0 0, .slice none 0 0] 25 (0, 0)), .blk B8 (.cells #[.int .i64 (0 : Int), .int .i64 (0 : Int), .slice none 0 0, .slice none 0 0] 25 (0, 0)), .blk B2 (.cells #[.int .i64 d.Letters, .int .i64 d.Start, .slice aU d.Final.length aV, .slice aX d.Next.length aY] 25 (0, 0))]) ++ A) w46
  obtain ⟨h59, H⟩ := H
  replace sn := sn.ch zI.ch
  have hobt := oapp Try.underlying31 ti3 rfl 0 hO rfl P1 sn PY h59 (by decide)
  obtain ⟨w60, p61, c62, EQ, jl, uX, Lf⟩ := hobt
  dsimp only [sS, sZ] at jl uX
  refine zg (Lf (by exact rfl) (by exact rfl)) ?_
  replace hO := jl.own
  refine zo (op_nilCheck rfl) (zo (op_fieldAddr Try.underlying188 rfl ti31 rfl (by decide)) ?_)
  have hobt := oblkSt2 (v := .slice p61 (0 + 1) c62) (i := 0) (cs' := #[.slice p61 (0 + 1) c62, .map (some B35)]) 2 hO rfl rfl rfl rfl
  obtain ⟨w68, xb, Lg⟩ := hobt
  dsimp only [sS, sZ] at xb
  refine zg (Lg Try.underlying31 rfl ti31 (by exact rfl) (by exact rfl)) ?_
  replace hO := xb.own
  refine zn (zq ?_)
  refine Go1.cut [(5, .int .i64 (0 : Int))] ⟨rfl, trivial⟩ ?_
  intro σ _
  refine zr (zm rfl (za rfl (zn ?_)))
  refine Go1.ret1V Try.func163 rfl (show _ = .int .i64 (0 : Int) from rfl) ?_
  refine hR33 _ _ ?_
  refine zn (zq (zr (zm rfl (zo (op_build Try.underlying25 ti25 (pl := [(0, 1), (1, 1), (2, 1), (3, 1)]) (vs := [(0, .int .i64 d.Letters)]) (cs := #[.int .i64 d.Letters, .int .i64 (0 : Int), .slice none 0 0, .slice none 0 0]) (by kernel_rfl) rfl (by kernel_rfl)) ?_))))
  have hobt := oalloc (t := 25) (cs := #[.int .i64 (0 : Int), .int .i64 (0 : Int), .slice none 0 0, .slice none 0 0]) ti25 hO rfl
  obtain ⟨w71, B72, jm, P2, Dw⟩ := hobt
  refine GoR.op Dw rfl rfl ?_
  replace hO := jm.own
  have hobt := oblkStAgg (us := [.int .i64 d.Letters, .int .i64 (0 : Int), .slice none 0 0, .slice none 0 0]) (o := 0) (cs' := #[.int .i64 d.Letters, .int .i64 (0 : Int), .slice none 0 0, .slice none 0 0]) 0 hO rfl rfl (Nat.le_of_ble_eq_true rfl) rfl
  obtain ⟨w77, xc, Lh⟩ := hobt
  dsimp only [sS, sZ] at xc
  refine zg (Lh ti25 (by exact rfl) (by exact rfl) rfl) ?_
  replace hO := xc.own
  refine zn (zq (zq (zr (za rfl (zn ?_)))))
  refine zb ?_
  have gI := Stp.nil (e := 4) (r := 1) hO
  replace hO := gI.own
  have yS := Els.nil (Rp.bool) (bl (.row 4 1 none 0 0 [] :: [.blk B72 (.cells #[.int .i64 d.Letters, .int .i64 (0 : Int), .slice none 0 0, .slice none 0 0] 25 (0, 0)), .row 3 1 p61 (0 + 1) c62 EQ, .any (mapE (fun a : Int => Value.int .i64 a) (fun a : Int => Value.int .i64 a) B35 (mput (([] : List (Int × Int))) d.Start ((0 : Int)))), .blk B28 (.cells #[.slice p61 (0 + 1) c62, .map (some B35)] 188 (0, 0)), .blk B22 (.cells #[.int .i64 (0 : Int), .int .i64 (0 : Int), .slice none 0 0, .slice none 0 0] 25 (0, 0)), .blk B8 (.cells #[.int .i64 (0 : Int), .int .i64 (0 : Int), .slice none 0 0, .slice none 0 0] 25 (0, 0)), .blk B2 (.cells #[.int .i64 d.Letters, .int .i64 d.Start, .slice aU d.Final.length aV, .slice aX d.Next.length aY] 25 (0, 0))]) ++ A) w77
  have sa := Stp.nil (e := 31) (r := 1) hO
  replace hO := sa.own
  have yT := Els.nil (Rp.sl (Rp.int .i64)) (bl (.row 31 1 none 0 0 [] :: [.row 4 1 none 0 0 [], .blk B72 (.cells #[.int .i64 d.Letters, .int .i64 (0 : Int), .slice none 0 0, .slice none 0 0] 25 (0, 0)), .row 3 1 p61 (0 + 1) c62 EQ, .any (mapE (fun a : Int => Value.int .i64 a) (fun a : Int => Value.int .i64 a) B35 (mput (([] : List (Int × Int))) d.Start ((0 : Int)))), .blk B28 (.cells #[.slice p61 (0 + 1) c62, .map (some B35)] 188 (0, 0)), .blk B22 (.cells #[.int .i64 (0 : Int), .int .i64 (0 : Int), .slice none 0 0, .slice none 0 0] 25 (0, 0)), .blk B8 (.cells #[.int .i64 (0 : Int), .int .i64 (0 : Int), .slice none 0 0, .slice none 0 0] 25 (0, 0)), .blk B2 (.cells #[.int .i64 d.Letters, .int .i64 d.Start, .slice aU d.Final.length aV, .slice aX d.Next.length aY] 25 (0, 0))]) ++ A) w77
  replace yS := yS.ch sa.ch
  have Z2 := (((xb.ch.trans jm.ch).trans xc.ch).trans gI.ch).trans sa.ch
  replace uX := uX.ch Z2
  replace hB := ((((((hB.trans zI.fr).trans jl.fr).trans xb.fr).trans jm.fr).trans xc.fr).trans gI.fr).trans sa.fr
  have Z3 := (((((((((((((ji.ch.trans kS.ch).trans sK.ch).trans Be.ch).trans t7.ch).trans zH.ch).trans iC.ch).trans EP).trans zI.ch).trans jl.ch).trans xb.ch).trans jm.ch).trans xc.ch).trans gI.ch).trans sa.ch
  replace ah := ah.ch Z3
  replace ak := ak.ch Z3
  refine Go1.loopW (S := Nat × List (List Int) × List Bool × List Int × (List (Int × Int))) (fun s σ w => match s with | (k1_87, d_88, d_94, d_100, m1_106) => ∃ (n93 : Nat), ∃ (p91 : Option Addr), ∃ (c92 : Nat), ∃ (fA : List Value), ∃ (n99 : Nat), ∃ (p97 : Option Addr), ∃ (c98 : Nat), ∃ (fv : List Value), ∃ (eK : Nat), ∃ (eM : Option Addr), ∃ (eN : Nat), ∃ (fh : List Value), agrees σ [(0, .int .i64 d.Letters), (2, .func (.func 140) #[] #[.pointer (some ⟨B2, 0, none⟩)]), (3, .func (.func 141) #[] #[.pointer (some ⟨B2, 0, none⟩)]), (8, .pointer (some ⟨B22, 0, none⟩)), (11, .pointer (some ⟨B28, 0, none⟩)), (12, .pointer (some ⟨B72, 0, none⟩)), (13, .int .i64 (k1_87 : Int))] ∧ (fun Z0 => Owns w0.heap.size w Z0 A ∧ Els (Rp.sl (Rp.int .i64)) (bl Z0 ++ A) w fA d_88 ∧ Els (Rp.bool) (bl Z0 ++ A) w fv d_94 ∧ Els (Rp.int .i64) (bl Z0 ++ A) w fh d_100 ∧ ISl (Rp.bool) (bl Z0 ++ A) w aU aV d.Final ∧ ISl (Rp.sl (Rp.int .i64)) (bl Z0 ++ A) w aX aY d.Next ∧ Fr (bl []) w0 (bl Z0) w) [.row 31 1 p91 n93 c92 fA, .row 4 1 p97 n99 c98 fv, .blk B72 (.cells #[.int .i64 d.Letters, .int .i64 (0 : Int), .slice p97 n99 c98, .slice p91 n93 c92] 25 (0, 0)), .row 3 1 eM eK eN fh, .any (mapE (fun a : Int => Value.int .i64 a) (fun a : Int => Value.int .i64 a) B35 m1_106), .blk B28 (.cells #[.slice eM eK eN, .map (some B35)] 188 (0, 0)), .blk B22 (.cells #[.int .i64 (0 : Int), .int .i64 (0 : Int), .slice none 0 0, .slice none 0 0] 25 (0, 0)), .blk B8 (.cells #[.int .i64 (0 : Int), .int .i64 (0 : Int), .slice none 0 0, .slice none 0 0] 25 (0, 0)), .blk B2 (.cells #[.int .i64 d.Letters, .int .i64 d.Start, .slice aU d.Final.length aV, .slice aX d.Next.length aY] 25 (0, 0))]) H ⟨0, none, 0, [], 0, none, 0, [], 0 + 1, p61, c62, EQ, ⟨rfl, rfl, rfl, rfl, rfl, rfl, rfl, trivial⟩, hO, yT, yS, uX, ah, ak, hB⟩ ?_
  intro X1
  refine prE fun k1_87 => prE fun d_88 => prE fun d_94 => prE fun d_100 => fun m1_106 => ?_
  intro H hX1 σ w86
  refine exE fun n93 => exE fun p91 => exE fun c92 => exE fun fA => exE fun n99 => exE fun p97 => exE fun c98 => exE fun fv => exE fun eK => exE fun eM => exE fun eN => exE fun fh => andE fun hag => andE fun hO => andE fun b9 => andE fun b7 => andE fun b8 => andE fun ah => andE fun ak => fun hB => ?_
  dsimp only at H
  refine Go1.keep [(0, .int .i64 d.Letters), (2, .func (.func 140) #[] #[.pointer (some ⟨B2, 0, none⟩)]), (3, .func (.func 141) #[] #[.pointer (some ⟨B2, 0, none⟩)]), (8, .pointer (some ⟨B22, 0, none⟩)), (11, .pointer (some ⟨B28, 0, none⟩)), (12, .pointer (some ⟨B72, 0, none⟩)), (13, .int .i64 (k1_87 : Int))] hag ?_
  refine zq (zq (zr (zm rfl (zo (op_fieldAddr Try.underlying188 rfl ti31 rfl (by decide)) (zs (oblk (i := 0) 5 hO rfl rfl Try.underlying31 rfl rfl) ?_)))))
  refine zo (op_lenN Try.underlying31 rfl (b8.neq hO 3 rfl)) ?_
  by_cases qU : (k1_87 : Int) < (d_100.length : Int)
  ·replace H := ifp qU H
   refine zo (fun w => opB (op_lss rfl rfl w) (decide_eq_true qU)) (zn (zt rfl rfl (zk (zq (zb ?_)))))
   refine zq (zr (zo (op_fieldAddr Try.underlying188 rfl ti31 rfl (by decide)) (zs (oblk (i := 0) 5 hO rfl rfl Try.underlying31 rfl rfl) (zm rfl ?_))))
   obtain ⟨tc, H⟩ := H
   obtain ⟨uY, H⟩ := H
   refine zo (op_index Try.underlying31 ti3 rfl rfl tc (ltn (b8.neq hO 3 rfl) uY) (b8.psome hO 3 rfl tc uY)) (zs (oldInt 3 hO rfl b8 tc uY Try.underlying3 rfl rfl) (za rfl (zn (zq (zr ?_)))))
   refine zm rfl ?_
   obtain ⟨Ay, H⟩ := H
   obtain ⟨P3, H⟩ := H
   have hobt := omake (n := d.Letters) (r := Rp.int .i64) (d := (0 : Int)) Try.underlying31 ti3 (fun _ _ => rfl) rfl hO Ay P3 (by decide)
   obtain ⟨TM, tp, n9, vz, Hm, SC, HS⟩ := hobt
   refine zg (HS rfl rfl) ?_
   replace hO := vz.own
   refine za rfl (zn (zq (zq (zr (zm rfl ?_)))))
   refine zo (op_lenN Try.underlying31 rfl (Hm.neq hO 0 rfl)) (zm rfl (zn (zb ?_)))
   replace b9 := b9.ch vz.ch
   replace b7 := b7.ch vz.ch
   replace b8 := b8.ch vz.ch
   replace ah := ah.ch vz.ch
   replace ak := ak.ch vz.ch
   replace hB := hB.trans vz.fr
   refine Go1.loopW (S := Nat × List Int × List Int × (List (Int × Int))) (fun s σ w => match s with | (k2_121, d_122, d_125, m2_131) => ∃ (t8 : List Value), ∃ (lQ : Nat), ∃ (nU : Option Addr), ∃ (nV : Nat), ∃ (sb : List Value), agrees σ [(0, .int .i64 d.Letters), (2, .func (.func 140) #[] #[.pointer (some ⟨B2, 0, none⟩)]), (3, .func (.func 141) #[] #[.pointer (some ⟨B2, 0, none⟩)]), (8, .pointer (some ⟨B22, 0, none⟩)), (11, .pointer (some ⟨B28, 0, none⟩)), (12, .pointer (some ⟨B72, 0, none⟩)), (13, .int .i64 (k1_87 : Int)), (14, .int .i64 (ix d_100 (k1_87 : Int))), (15, .slice tp d.Letters.toNat d.Letters.toNat), (36, .int .i64 ((List.replicate d.Letters.toNat ((0 : Int))).length : Int)), (37, .int .i64 (k2_121 : Int))] ∧ (fun Z0 => Owns w0.heap.size w Z0 A ∧ Els (Rp.int .i64) (bl Z0 ++ A) w t8 d_122 ∧ Els (Rp.sl (Rp.int .i64)) (bl Z0 ++ A) w fA d_88 ∧ Els (Rp.bool) (bl Z0 ++ A) w fv d_94 ∧ Els (Rp.int .i64) (bl Z0 ++ A) w sb d_125 ∧ ISl (Rp.bool) (bl Z0 ++ A) w aU aV d.Final ∧ ISl (Rp.sl (Rp.int .i64)) (bl Z0 ++ A) w aX aY d.Next ∧ Fr (bl []) w0 (bl Z0) w) [.row 3 1 tp d.Letters.toNat d.Letters.toNat t8, .row 31 1 p91 n93 c92 fA, .row 4 1 p97 n99 c98 fv, .blk B72 (.cells #[.int .i64 d.Letters, .int .i64 (0 : Int), .slice p97 n99 c98, .slice p91 n93 c92] 25 (0, 0)), .row 3 1 nU lQ nV sb, .any (mapE (fun a : Int => Value.int .i64 a) (fun a : Int => Value.int .i64 a) B35 m2_131), .blk B28 (.cells #[.slice nU lQ nV, .map (some B35)] 188 (0, 0)), .blk B22 (.cells #[.int .i64 (0 : Int), .int .i64 (0 : Int), .slice none 0 0, .slice none 0 0] 25 (0, 0)), .blk B8 (.cells #[.int .i64 (0 : Int), .int .i64 (0 : Int), .slice none 0 0, .slice none 0 0] 25 (0, 0)), .blk B2 (.cells #[.int .i64 d.Letters, .int .i64 d.Start, .slice aU d.Final.length aV, .slice aX d.Next.length aY] 25 (0, 0))]) H ⟨n9, eK, eM, eN, fh, ⟨rfl, rfl, rfl, rfl, rfl, rfl, rfl, rfl, rfl, rfl, rfl, trivial⟩, hO, Hm, b9, b7, b8, ah, ak, hB⟩ ?_
   intro X2
   refine prE fun k2_121 => prE fun d_122 => prE fun d_125 => fun m2_131 => ?_
   intro H hX2 σ TN
   refine exE fun t8 => exE fun lQ => exE fun nU => exE fun nV => exE fun sb => andE fun hag => andE fun hO => andE fun io => andE fun b9 => andE fun b7 => andE fun dO => andE fun ah => andE fun ak => fun hB => ?_
   dsimp only at H
   refine Go1.keep [(0, .int .i64 d.Letters), (2, .func (.func 140) #[] #[.pointer (some ⟨B2, 0, none⟩)]), (3, .func (.func 141) #[] #[.pointer (some ⟨B2, 0, none⟩)]), (8, .pointer (some ⟨B22, 0, none⟩)), (11, .pointer (some ⟨B28, 0, none⟩)), (12, .pointer (some ⟨B72, 0, none⟩)), (13, .int .i64 (k1_87 : Int)), (14, .int .i64 (ix d_100 (k1_87 : Int))), (15, .slice tp d.Letters.toNat d.Letters.toNat), (36, .int .i64 ((List.replicate d.Letters.toNat ((0 : Int))).length : Int)), (37, .int .i64 (k2_121 : Int))] hag ?_
   refine zq (zr ?_)
   by_cases xC : (k2_121 : Int) < ((List.replicate d.Letters.toNat ((0 : Int))).length : Int)
   ·replace H := ifp xC H
    refine zo (fun w => opB (op_lss rfl rfl w) (decide_eq_true xC)) (zn (zq (zt rfl rfl (zk (zq ?_)))))
    refine zb (zq (zr (zm rfl (za rfl (zn ?_)))))
    refine zr (zm rfl (zm rfl (zm rfl (zm rfl (zm rfl ?_)))))
    refine GoR.inl (vs := [.int .i64 (ix d_100 (k1_87 : Int)), .int .i64 (k2_121 : Int)]) (caps := [.pointer (some ⟨B2, 0, none⟩)]) rfl rfl body140 Try.func140 rfl Try.ntmps140 rfl rfl rfl ?_
    intro RhR133 hR133
    refine zq (zr (za rfl (zn (zq (zr ?_)))))
    refine zo (op_fieldAddr Try.underlying25 rfl ti23 rfl (by decide)) (zs (oblk (i := 3) 9 hO rfl rfl Try.underlying23 rfl rfl) (zm rfl ?_))
    obtain ⟨ER, H⟩ := H
    obtain ⟨ES, H⟩ := H
    refine zo (op_index Try.underlying23 ti31 rfl rfl ER ES (ak.some_ ER ES)) ?_
    have hobt := ldSl ak ER ES
    obtain ⟨TO, TP, jq, Li⟩ := hobt
    refine zs (Li Try.underlying31 rfl rfl) (zm rfl ?_)
    obtain ⟨yU, H⟩ := H
    obtain ⟨xd, H⟩ := H
    refine zo (op_index Try.underlying31 ti3 rfl rfl yU xd (jq.some_ yU xd)) (zs (ldInt jq yU xd Try.underlying3 rfl rfl) (za rfl (zn ?_)))
    refine Go1.ret1V Try.func140 rfl (show _ = .int .i64 (ix (ix d.Next (ix d_100 (k1_87 : Int))) (k2_121 : Int)) from rfl) ?_
    refine hR133 _ _ ?_
    refine GoR.inl (vs := [.pointer (some ⟨B28, 0, none⟩), .int .i64 (ix (ix d.Next (ix d_100 (k1_87 : Int))) (k2_121 : Int))]) (caps := []) rfl rfl body163 Try.func163 rfl Try.ntmps163 rfl rfl rfl ?_
    intro RhR142 hR142
    refine zq ?_
    refine Go1.cut [(0, .pointer (some ⟨B28, 0, none⟩)), (1, .int .i64 (ix (ix d.Next (ix d_100 (k1_87 : Int))) (k2_121 : Int)))] ⟨rfl, rfl, trivial⟩ ?_
    intro σ _
    refine zr (za rfl (zn (zq (zr (zm rfl ?_)))))
    refine zo (op_nilCheck rfl) (zo (op_fieldAddr Try.underlying188 rfl ti168 rfl (by decide)) (zs (oblk (i := 1) 6 hO rfl rfl Try.underlying168 rfl rfl) (zm rfl ?_)))
    by_cases Dx : mhas m2_131 ((ix (ix d.Next (ix d_100 (k1_87 : Int))) (k2_121 : Int))) = true
    ·replace H := ifp Dx H
     refine zs (olookT (a := (ix (ix d.Next (ix d_100 (k1_87 : Int))) (k2_121 : Int))) (MK.int Try.underlying3) 5 hO rfl Try.underlying168 rfl rfl Dx) (zm rfl (zo (op_extract rfl rfl) (zo (op_extract rfl rfl) (za rfl (za rfl ?_)))))
     refine zn (zq (zq (zr (zm rfl (zo (op_not rfl) ?_)))))
     refine zn (zf rfl rfl (zk (zq (zr (zm rfl ?_)))))
     refine za rfl (zn ?_)
     refine Go1.ret1V Try.func163 rfl (show _ = .int .i64 (mgt m2_131 ((ix (ix d.Next (ix d_100 (k1_87 : Int))) (k2_121 : Int)))) from rfl) ?_
     refine hR142 _ _ ?_
     obtain ⟨ET, H⟩ := H
     obtain ⟨EU, H⟩ := H
     refine zo (op_index Try.underlying31 ti3 rfl rfl ET (ltn (io.neq hO 0 rfl) EU) (io.psome hO 0 rfl ET EU)) ?_
     have hobt := ost (r := Rp.int .i64) rfl 0 hO rfl io ET EU (v := .int .i64 (mgt m2_131 ((ix (ix d.Next (ix d_100 (k1_87 : Int))) (k2_121 : Int))))) (u := (mgt m2_131 ((ix (ix d.Next (ix d_100 (k1_87 : Int))) (k2_121 : Int))))) rfl rfl
     obtain ⟨TQ, Dy, lg, dm, HT⟩ := hobt
     dsimp only [sS, sZ] at lg dm
     refine zg (HT Try.underlying3 rfl ti3 (by exact rfl) (by exact rfl)) ?_
     replace hO := lg.own
     refine zn ?_
     refine Go1.inBlock ?_
     refine zr ?_
     obtain ⟨P4, H⟩ := H
     refine zo (op_add rfl rfl (wrap_i64 P4)) (zm rfl (zn ?_))
     replace b9 := b9.ch lg.ch
     replace b7 := b7.ch lg.ch
     replace dO := dO.ch lg.ch
     replace ah := ah.ch lg.ch
     replace ak := ak.ch lg.ch
     replace hB := hB.trans lg.fr
     exact hX2 _ H _ _ ⟨Dy, lQ, nU, nV, sb, ⟨rfl, rfl, rfl, rfl, rfl, rfl, rfl, rfl, rfl, rfl, rfl, trivial⟩, hO, dm, b9, b7, dO, ah, ak, hB⟩
    replace H := ifn Dx H
    refine zs (olookF (a := (ix (ix d.Next (ix d_100 (k1_87 : Int))) (k2_121 : Int))) (MK.int Try.underlying3) 5 hO rfl Try.underlying168 ti3 rfl rfl Dx) (zm rfl (zo (op_extract rfl rfl) (zo (op_extract rfl rfl) (za rfl (za rfl ?_)))))
    refine zn (zq (zq ?_))
    refine Go1.cut [(0, .pointer (some ⟨B28, 0, none⟩)), (1, .int .i64 (ix (ix d.Next (ix d_100 (k1_87 : Int))) (k2_121 : Int))), (5, .int .i64 (0 : Int)), (6, .bool false)] ⟨rfl, rfl, rfl, rfl, trivial⟩ ?_
    intro σ _
    refine zr (zm rfl (zo (op_not rfl) (zn (zt rfl rfl (zq ?_)))))
    refine zq (zr (zm rfl (zo (op_nilCheck rfl) (zo (op_fieldAddr Try.underlying188 rfl ti168 rfl (by decide)) (zs (oblk (i := 1) 6 hO rfl rfl Try.underlying168 rfl rfl) ?_)))))
    refine zo (fun w => opB (op_nilMap Try.underlying168 rfl rfl w) rfl) (zn (zf rfl rfl (zk (zq (zr ?_)))))
    refine zm rfl (zo (op_nilCheck rfl) (zo (op_fieldAddr Try.underlying188 rfl ti31 rfl (by decide)) (zs (oblk (i := 0) 6 hO rfl rfl Try.underlying31 rfl rfl) (zo (op_lenN Try.underlying31 rfl (dO.neq hO 4 rfl)) (za rfl ?_)))))
    refine zn (zq (zr (zm rfl (zo (op_nilCheck rfl) (zo (op_fieldAddr Try.underlying188 rfl ti168 rfl (by decide)) ?_)))))
    refine zs (oblk (i := 1) 6 hO rfl rfl Try.underlying168 rfl rfl) (zm rfl (zm rfl ?_))
    have hobt := omapUpd (MK.int Try.underlying3) 5 hO rfl Try.underlying168 (ix (ix d.Next (ix d_100 (k1_87 : Int))) (k2_121 : Int)) (d_125.length : Int)
    obtain ⟨TS, sy, BO⟩ := hobt
    dsimp only [sS, sZ] at sy
    refine zg (BO (by exact rfl) (by exact rfl) (by exact rfl)) ?_
    replace hO := sy.own
    refine zn ?_
    refine Go1.cut [(0, .pointer (some ⟨B28, 0, none⟩)), (1, .int .i64 (ix (ix d.Next (ix d_100 (k1_87 : Int))) (k2_121 : Int))), (5, .int .i64 (d_125.length : Int))] ⟨rfl, rfl, rfl, trivial⟩ ?_
    intro σ _
    refine zr (zm rfl (zm rfl (zo (op_nilCheck rfl) (zo (op_fieldAddr Try.underlying188 rfl ti31 rfl (by decide)) (zs (oblk (i := 0) 6 hO rfl rfl Try.underlying31 rfl rfl) ?_)))))
    refine zm rfl ?_
    have hobt := obuild (r := Rp.int .i64) (n := 1) (parts := [(0, .int .i64 (ix (ix d.Next (ix d_100 (k1_87 : Int))) (k2_121 : Int)))]) (vs := [.int .i64 (ix (ix d.Next (ix d_100 (k1_87 : Int))) (k2_121 : Int))]) (xs := [(ix (ix d.Next (ix d_100 (k1_87 : Int))) (k2_121 : Int))]) rfl Try.underlying31 ti3 hO (by decide) (by kernel_rfl) (Els.cons rfl rfl (Els.nil _ _ _) (by simp [mx])) rfl
    obtain ⟨TT, TU, tq, Lj, SD, HU⟩ := hobt
    refine zg (HU rfl) ?_
    replace hO := tq.own
    have hobt := freeze 0 hO rfl Lj
    obtain ⟨hO1, vV, vW, Lk⟩ := hobt
    dsimp only [eS, eZ] at hO1 vV vW
    replace hB := ((hB.trans sy.fr).trans tq.fr).trans (Owns.dropFr _ _ 0)
    dsimp only [eS, eZ] at hB
    replace hO := hO1; clear hO1
    obtain ⟨BP, H⟩ := H
    have Z4 := (sy.ch.trans tq.ch).trans vV
    replace dO := dO.ch Z4
    have hobt := oapp Try.underlying31 ti3 rfl 4 hO rfl dO vW Lk BP (by decide)
    obtain ⟨P5, EV, EW, Ll, sA, x8, HV⟩ := hobt
    dsimp only [sS, sZ] at sA x8
    refine zg (HV (by exact rfl) (by exact rfl)) ?_
    replace hO := sA.own
    refine zo (op_nilCheck rfl) (zo (op_fieldAddr Try.underlying188 rfl ti31 rfl (by decide)) ?_)
    have hobt := oblkSt2 (v := .slice EV (lQ + 1) EW) (i := 0) (cs' := #[.slice EV (lQ + 1) EW, .map (some B35)]) 6 hO rfl rfl rfl rfl
    obtain ⟨P6, rL, HW⟩ := hobt
    dsimp only [sS, sZ] at rL
    refine zg (HW Try.underlying31 rfl ti31 (by exact rfl) (by exact rfl)) ?_
    replace hO := rL.own
    refine zn (zq (zr (zm rfl (za rfl (zn ?_)))))
    refine Go1.ret1V Try.func163 rfl (show _ = .int .i64 (d_125.length : Int) from rfl) ?_
    refine hR142 _ _ ?_
    obtain ⟨xD, H⟩ := H
    obtain ⟨xE, H⟩ := H
    replace io := ((io.ch Z4).ch sA.ch).ch rL.ch
    refine zo (op_index Try.underlying31 ti3 rfl rfl xD (ltn (io.neq hO 0 rfl) xE) (io.psome hO 0 rfl xD xE)) ?_
    have hobt := ost (r := Rp.int .i64) rfl 0 hO rfl io xD xE (v := .int .i64 (d_125.length : Int)) (u := (d_125.length : Int)) rfl rfl
    obtain ⟨TV, Lm, sB, Hn, HX⟩ := hobt
    dsimp only [sS, sZ] at sB Hn
    refine zg (HX Try.underlying3 rfl ti3 (by exact rfl) (by exact rfl)) ?_
    replace hO := sB.own
    refine zn ?_
    refine Go1.inBlock ?_
    refine zr ?_
    obtain ⟨P7, H⟩ := H
    refine zo (op_add rfl rfl (wrap_i64 P7)) (zm rfl (zn ?_))
    replace x8 := (x8.ch rL.ch).ch sB.ch
    replace hB := ((hB.trans sA.fr).trans rL.fr).trans sB.fr
    have Z5 := ((Z4.trans sA.ch).trans rL.ch).trans sB.ch
    replace b9 := b9.ch Z5
    replace b7 := b7.ch Z5
    replace ah := ah.ch Z5
    replace ak := ak.ch Z5
    exact hX2 _ H _ _ ⟨Lm, lQ + 1, EV, EW, Ll, ⟨rfl, rfl, rfl, rfl, rfl, rfl, rfl, rfl, rfl, rfl, rfl, trivial⟩, hO, Hn, b9, b7, x8, ah, ak, hB⟩
   replace H := ifn xC H
   refine zo (fun w => opB (op_lss rfl rfl w) (decide_eq_false xC)) (zn (zq (zf rfl rfl ?_)))
   refine Go1.exit rfl ?_
   refine zq (zq (zr (zo (op_fieldAddr Try.underlying188 rfl ti31 rfl (by decide)) (zs (oblk (i := 0) 6 hO rfl rfl Try.underlying31 rfl rfl) (zo (op_lenN Try.underlying31 rfl (dO.neq hO 4 rfl)) ?_)))))
   by_cases Dz : (512 : Int) < (d_125.length : Int)
   ·replace H := ifp Dz H
    refine zo (fun w => opB (op_gtr rfl rfl w) (decide_eq_true Dz)) (zn (zt rfl rfl (zq ?_)))
    refine Go1.cut [(8, .pointer (some ⟨B22, 0, none⟩))] ⟨rfl, trivial⟩ ?_
    intro σ _
    refine zr (zo (op_build Try.underlying25 ti25 (pl := [(0, 1), (1, 1), (2, 1), (3, 1)]) (vs := []) (cs := #[.int .i64 (0 : Int), .int .i64 (0 : Int), .slice none 0 0, .slice none 0 0]) (by kernel_rfl) rfl (by kernel_rfl)) ?_)
    have hobt := oblkStAgg (us := [.int .i64 (0 : Int), .int .i64 (0 : Int), .slice none 0 0, .slice none 0 0]) (o := 0) (cs' := #[.int .i64 (0 : Int), .int .i64 (0 : Int), .slice none 0 0, .slice none 0 0]) 7 hO rfl rfl (Nat.le_of_ble_eq_true rfl) rfl
    obtain ⟨TW, lY, HY⟩ := hobt
    dsimp only [sS, sZ] at lY
    refine zg (HY ti25 (by exact rfl) (by exact rfl) rfl) ?_
    replace hO := lY.own
    refine za rfl (za rfl (zn ?_))
    refine Go1.retC3V Try.func139 rfl rfl (run_loadBlk (vs := [.int .i64 (0 : Int), .int .i64 (0 : Int), .slice none 0 0, .slice none 0 0]) 7 hO rfl rfl Try.underlying25 rfl ti25) (show _ = .slice none 0 0 from rfl) (show _ = .int .i64 (3 : Int) from rfl) ?_
    refine hR20 _ _ ?_
    refine zm rfl (zo (op_extract rfl rfl) (zo (op_extract rfl rfl) (zo (op_extract rfl rfl) ?_)))
    have hobt := oalloc (t := 25) (cs := #[.int .i64 (0 : Int), .int .i64 (0 : Int), .slice none 0 0, .slice none 0 0]) ti25 hO rfl
    obtain ⟨TX, B190, uw, SE, H0⟩ := hobt
    refine GoR.op H0 rfl rfl ?_
    replace hO := uw.own
    have hobt := oblkStAgg (us := [.int .i64 (0 : Int), .int .i64 (0 : Int), .slice none 0 0, .slice none 0 0]) (o := 0) (cs' := #[.int .i64 (0 : Int), .int .i64 (0 : Int), .slice none 0 0, .slice none 0 0]) 0 hO rfl rfl (Nat.le_of_ble_eq_true rfl) rfl
    obtain ⟨P8, tt, BQ⟩ := hobt
    dsimp only [sS, sZ] at tt
    refine zg (BQ ti25 (by exact rfl) (by exact rfl) rfl) ?_
    replace hO := tt.own
    refine za rfl (za rfl (zn (zq (zr (zo (op_fieldAddr Try.underlying25 rfl ti22 rfl (by decide)) ?_)))))
    refine zs (oblk (i := 2) 10 hO rfl rfl Try.underlying22 rfl rfl) (zo (op_len Try.underlying22 rfl) ?_)
    have Z6 := (lY.ch.trans uw.ch).trans tt.ch
    replace ah := ah.ch Z6
    replace H := H ah.bd
    obtain ⟨xe, H⟩ := H
    obtain ⟨BR, H⟩ := H
    have hobt := omake (n := (d.Final.length : Int)) (r := Rp.int .i64) (d := (0 : Int)) Try.underlying31 ti3 (fun _ _ => rfl) rfl hO xe BR (by decide)
    obtain ⟨P9, u0, Ln, ux, gS, SF, BS⟩ := hobt
    refine zg (BS rfl rfl) ?_
    replace hO := ux.own
    refine za rfl (zn (zq (zq (zr (zm rfl ?_)))))
    refine zo (op_lenN Try.underlying31 rfl (gS.neq hO 0 rfl)) (zm rfl (zn (zb ?_)))
    replace hO := hO.drop 2
    replace gS := gS.ch (Owns.dropCh _ _ 2)
    replace ah := (ah.ch ux.ch).ch (Owns.dropCh _ _ 2)
    have Z7 := (Z6.trans ux.ch).trans (Owns.dropCh _ _ 2)
    replace b9 := b9.ch Z7
    replace b7 := b7.ch Z7
    replace dO := dO.ch Z7
    replace ak := ak.ch Z7
    replace hB := ((((hB.trans lY.fr).trans uw.fr).trans tt.fr).trans ux.fr).trans (Owns.dropFr _ _ 2)
    dsimp only [eS, eZ] at hB hO ah ak gS b9 b7 dO
    replace hO := hO.drop 2
    replace ah := ah.ch (Owns.dropCh _ _ 2)
    replace ak := ak.ch (Owns.dropCh _ _ 2)
    replace gS := gS.ch (Owns.dropCh _ _ 2)
    replace b7 := b7.ch (Owns.dropCh _ _ 2)
    replace dO := dO.ch (Owns.dropCh _ _ 2)
    replace hB := hB.trans (Owns.dropFr _ _ 2)
    dsimp only [eS, eZ] at hB hO ah ak gS b7 dO
    replace hO := hO.drop 2
    replace ah := ah.ch (Owns.dropCh _ _ 2)
    replace ak := ak.ch (Owns.dropCh _ _ 2)
    replace gS := gS.ch (Owns.dropCh _ _ 2)
    replace dO := dO.ch (Owns.dropCh _ _ 2)
    replace hB := hB.trans (Owns.dropFr _ _ 2)
    dsimp only [eS, eZ] at hB hO ah ak gS dO
    replace hO := hO.drop 2
    replace ah := ah.ch (Owns.dropCh _ _ 2)
    replace ak := ak.ch (Owns.dropCh _ _ 2)
    replace gS := gS.ch (Owns.dropCh _ _ 2)
    replace dO := dO.ch (Owns.dropCh _ _ 2)
    replace hB := hB.trans (Owns.dropFr _ _ 2)
    dsimp only [eS, eZ] at hB hO ah ak gS dO
    replace hO := hO.drop 2
    replace ah := ah.ch (Owns.dropCh _ _ 2)
    replace ak := ak.ch (Owns.dropCh _ _ 2)
    replace gS := gS.ch (Owns.dropCh _ _ 2)
    replace hB := hB.trans (Owns.dropFr _ _ 2)
    dsimp only [eS, eZ] at hB hO ah ak gS
    replace hO := hO.drop 2
    replace ah := ah.ch (Owns.dropCh _ _ 2)
    replace ak := ak.ch (Owns.dropCh _ _ 2)
    replace gS := gS.ch (Owns.dropCh _ _ 2)
    replace hB := hB.trans (Owns.dropFr _ _ 2)
    dsimp only [eS, eZ] at hB hO ah ak gS
    replace hO := hO.drop 2
    replace ah := ah.ch (Owns.dropCh _ _ 2)
    replace ak := ak.ch (Owns.dropCh _ _ 2)
    replace gS := gS.ch (Owns.dropCh _ _ 2)
    replace hB := hB.trans (Owns.dropFr _ _ 2)
    dsimp only [eS, eZ] at hB hO ah ak gS
    replace hO := hO.drop 2
    replace ah := ah.ch (Owns.dropCh _ _ 2)
    replace ak := ak.ch (Owns.dropCh _ _ 2)
    replace gS := gS.ch (Owns.dropCh _ _ 2)
    replace hB := hB.trans (Owns.dropFr _ _ 2)
    dsimp only [eS, eZ] at hB hO ah ak gS
    replace hO := hO.drop 3
    replace gS := gS.ch (Owns.dropCh _ _ 3)
    replace hB := hB.trans (Owns.dropFr _ _ 3)
    refine Go1.loopW (S := Nat × List Int) (fun s σ w => match s with | (k3_209, number3_210) => ∃ (u7 : List Value), agrees σ [(2, .pointer (some ⟨B8, 0, none⟩)), (4, .pointer (some ⟨B190, 0, none⟩)), (5, .slice none 0 0), (7, .slice u0 d.Final.length d.Final.length), (31, .int .i64 ((List.replicate d.Final.length ((0 : Int))).length : Int)), (32, .int .i64 (k3_209 : Int))] ∧ (fun Z0 => Owns w0.heap.size w Z0 A ∧ Els (Rp.int .i64) (bl Z0 ++ A) w u7 number3_210 ∧ Fr (bl []) w0 (bl Z0) w) [.row 3 1 u0 d.Final.length d.Final.length u7, .blk B190 (.cells #[.int .i64 (0 : Int), .int .i64 (0 : Int), .slice none 0 0, .slice none 0 0] 25 (0, 0)), .blk B8 (.cells #[.int .i64 (0 : Int), .int .i64 (0 : Int), .slice none 0 0, .slice none 0 0] 25 (0, 0))]) H ⟨Ln, ⟨rfl, rfl, rfl, rfl, rfl, rfl, trivial⟩, hO, gS, hB⟩ ?_
    intro X3
    refine prE fun k3_209 => fun number3_210 => ?_
    intro H hX3 σ TY
    refine exE fun u7 => andE fun hag => andE fun hO => andE fun vX => fun hB => ?_
    dsimp only at H
    refine Go1.keep [(2, .pointer (some ⟨B8, 0, none⟩)), (4, .pointer (some ⟨B190, 0, none⟩)), (5, .slice none 0 0), (7, .slice u0 d.Final.length d.Final.length), (31, .int .i64 ((List.replicate d.Final.length ((0 : Int))).length : Int)), (32, .int .i64 (k3_209 : Int))] hag ?_
    refine zq (zr ?_)
    by_cases DA : (k3_209 : Int) < ((List.replicate d.Final.length ((0 : Int))).length : Int)
    ·replace H := ifp DA H
     refine zo (fun w => opB (op_lss rfl rfl w) (decide_eq_true DA)) (zn (zq (zt rfl rfl (zk (zq ?_)))))
     refine zb (zq (zr (zm rfl (za rfl (zn ?_)))))
     refine zr (zm rfl (zm rfl ?_))
     obtain ⟨EX, H⟩ := H
     obtain ⟨EY, H⟩ := H
     refine zo (op_index Try.underlying31 ti3 rfl rfl EX (ltn (vX.neq hO 0 rfl) EY) (vX.psome hO 0 rfl EX EY)) ?_
     have hobt := ost (r := Rp.int .i64) rfl 0 hO rfl vX EX EY (v := .int .i64 (-1 : Int)) (u := (-1 : Int)) rfl rfl
     obtain ⟨T0, Lo, EI, Lp, H1⟩ := hobt
     refine zg (H1 Try.underlying3 rfl ti3 (by exact rfl) (by exact rfl)) ?_
     replace hO := EI.own
     refine zn ?_
     refine Go1.inBlock ?_
     refine zr ?_
     obtain ⟨Qa, H⟩ := H
     refine zo (op_add rfl rfl (wrap_i64 Qa)) (zm rfl (zn ?_))
     replace hB := hB.trans EI.fr
     exact hX3 _ H _ _ ⟨Lo, ⟨rfl, rfl, rfl, rfl, rfl, rfl, trivial⟩, hO, Lp, hB⟩
    replace H := ifn DA H
    refine zo (fun w => opB (op_lss rfl rfl w) (decide_eq_false DA)) (zn (zq (zf rfl rfl ?_)))
    refine Go1.exit rfl ?_
    refine zq (zq (zr (zm rfl (zo (op_len Try.underlying31 rfl) (zm rfl ?_)))))
    refine zn (zb ?_)
    refine Go1.loopW (S := Nat) (fun s σ w => agrees σ [(2, .pointer (some ⟨B8, 0, none⟩)), (4, .pointer (some ⟨B190, 0, none⟩)), (7, .slice u0 d.Final.length d.Final.length), (39, .slice none 0 0), (40, .int .i64 (0 : Int)), (41, .int .i64 (s : Int))] ∧ (fun Z0 => Owns w0.heap.size w Z0 A ∧ Els (Rp.int .i64) (bl Z0 ++ A) w u7 number3_210 ∧ Fr (bl []) w0 (bl Z0) w) [.row 3 1 u0 d.Final.length d.Final.length u7, .blk B190 (.cells #[.int .i64 (0 : Int), .int .i64 (0 : Int), .slice none 0 0, .slice none 0 0] 25 (0, 0)), .blk B8 (.cells #[.int .i64 (0 : Int), .int .i64 (0 : Int), .slice none 0 0, .slice none 0 0] 25 (0, 0))]) H ⟨⟨rfl, rfl, rfl, rfl, rfl, rfl, trivial⟩, hO, vX, hB⟩ ?_
    intro X4 k4_223
    intro H hX4 σ Qb
    refine andE fun hag => andE fun hO => andE fun vX => fun hB => ?_
    refine Go1.keep [(2, .pointer (some ⟨B8, 0, none⟩)), (4, .pointer (some ⟨B190, 0, none⟩)), (7, .slice u0 d.Final.length d.Final.length), (39, .slice none 0 0), (40, .int .i64 (0 : Int)), (41, .int .i64 (k4_223 : Int))] hag ?_
    refine zq (zr ?_)
    by_cases DB : (k4_223 : Int) < (0 : Int)
    ·replace H := ifp DB H
     refine zo (fun w => opB (op_lss rfl rfl w) (decide_eq_true DB)) (zn (zq (zt rfl rfl (zk (zq ?_)))))
     refine zb (zq (zr (zm rfl ?_)))
     obtain ⟨Az, H⟩ := H
     obtain ⟨xF, H⟩ := H
     refine zo (op_index Try.underlying31 ti3 rfl rfl Az xF (absurd xF (by omega))) ?_
     exact absurd xF (by omega)
    replace H := ifn DB H
    refine zo (fun w => opB (op_lss rfl rfl w) (decide_eq_false DB)) (zn (zq (zf rfl rfl ?_)))
    refine Go1.exit rfl ?_
    refine zq (zr (zs (oblkAgg (vs := [.int .i64 (0 : Int), .int .i64 (0 : Int), .slice none 0 0, .slice none 0 0]) (i := 0) 1 hO rfl rfl Try.underlying25 rfl ti25 rfl) (zm rfl ?_)))
    have hobt := oblkStAgg (us := [.int .i64 (0 : Int), .int .i64 (0 : Int), .slice none 0 0, .slice none 0 0]) (o := 0) (cs' := #[.int .i64 (0 : Int), .int .i64 (0 : Int), .slice none 0 0, .slice none 0 0]) 2 hO rfl rfl (Nat.le_of_ble_eq_true rfl) rfl
    obtain ⟨T1, BT, H2⟩ := hobt
    refine zg (H2 ti25 (by exact rfl) (by exact rfl) rfl) ?_
    replace hO := BT.own
    refine za rfl (zn ?_)
    replace vX := vX.ch BT.ch
    have hobt := freeze 0 hO rfl vX
    obtain ⟨hO1, SG, Lr, Lt⟩ := hobt
    replace hO := hO1; clear hO1
    refine Go1.retC2 Try.func109 rfl rfl (run_loadBlk (vs := [.int .i64 (0 : Int), .int .i64 (0 : Int), .slice none 0 0, .slice none 0 0]) 1 hO rfl rfl Try.underlying25 rfl ti25) ?_
    replace hB := (hB.trans BT.fr).trans (Owns.dropFr _ _ 0)
    exact ⟨(⟨(0 : Int), (0 : Int), ([] : List Bool), ([] : List (List Int))⟩ : DFA), number3_210, none, 0, none, 0, u0, d.Final.length, (congrArg (fun l => Value.tuple (List.toArray l)) (cons_eq rfl (cons_eq (congrArg (fun nn => Value.slice u0 nn d.Final.length) Lt) rfl))), hB.same, (ISl.null _ _ _), (ISl.null _ _ _), (Lr.ch (Ch.weak _ _ _)), H⟩
   replace H := ifn Dz H
   refine zo (fun w => opB (op_gtr rfl rfl w) (decide_eq_false Dz)) (zn (zf rfl rfl (zk (zq (zr ?_)))))
   refine zo (op_fieldAddr Try.underlying25 rfl ti23 rfl (by decide)) (zs (oblk (i := 3) 3 hO rfl rfl Try.underlying23 rfl rfl) (zm rfl ?_))
   have hobt := freeze 0 hO rfl io
   obtain ⟨hO1, x9, kT, Lu⟩ := hobt
   dsimp only [eS, eZ] at hO1 x9 kT
   replace hB := hB.trans (Owns.dropFr _ _ 0)
   dsimp only [eS, eZ] at hB
   replace hO := hO1; clear hO1
   have hobt := obuild (r := Rp.sl (Rp.int .i64)) (n := 1) (parts := [(0, .slice tp d.Letters.toNat d.Letters.toNat)]) (vs := [.slice tp d.Letters.toNat d.Letters.toNat]) (xs := [d_122]) rfl Try.underlying23 ti31 hO (by decide) (by kernel_rfl) (Els.cons rfl ⟨tp, d.Letters.toNat, congrArg some (congrArg (fun nn => Value.slice tp nn d.Letters.toNat) Lu), kT⟩ (Els.nil _ _ _) (by simp [mx])) rfl
   obtain ⟨Qc, T3, iq, Lv, SJ, H3⟩ := hobt
   refine zg (H3 rfl) ?_
   replace hO := iq.own
   have hobt := freeze 0 hO rfl Lv
   obtain ⟨hO1, xg, oa, Lw⟩ := hobt
   dsimp only [eS, eZ] at hO1 xg oa
   replace hB := (hB.trans iq.fr).trans (Owns.dropFr _ _ 0)
   dsimp only [eS, eZ] at hB
   replace hO := hO1; clear hO1
   obtain ⟨Qd, H⟩ := H
   have Z8 := (x9.trans iq.ch).trans xg
   replace b9 := b9.ch Z8
   have hobt := oapp Try.underlying23 ti31 rfl 0 hO rfl b9 oa Lw Qd (by decide)
   obtain ⟨T4, AA, AB, Ho, tu, rq, H4⟩ := hobt
   dsimp only [sS, sZ] at tu rq
   refine zg (H4 (by exact rfl) (by exact rfl)) ?_
   replace hO := tu.own
   refine zo (op_fieldAddr Try.underlying25 rfl ti23 rfl (by decide)) ?_
   have hobt := oblkSt2 (v := .slice AA (n93 + 1) AB) (i := 3) (cs' := #[.int .i64 d.Letters, .int .i64 (0 : Int), .slice p97 n99 c98, .slice AA (n93 + 1) AB]) 2 hO rfl rfl rfl rfl
   obtain ⟨T5, sC, BU⟩ := hobt
   dsimp only [sS, sZ] at sC
   refine zg (BU Try.underlying23 rfl ti23 (by exact rfl) (by exact rfl)) ?_
   replace hO := sC.own
   refine zn ?_
   refine Go1.drawT (ok := fun _ => True) (CSv.tr [(some ⟨B72, 2, none⟩)]) [6, 8] 9 (.qp 0 (.qs 1 (.qp 2 (.qp 3 (.alt 4 (.alt 5 (.alt 6 (.qp 7 (.alt 8 .nil .fin)) .fin) .fin) .fin))))) mixed (by kernel_rfl) ?_
   intro Qe Lx
   have tv := Stp.same hO Lx
   replace hO := tv.own
   refine GoT.pure rfl (op_fieldAddr Try.underlying25 rfl ti22 rfl (by decide)) rfl rfl ?_
   refine GoT.stable rfl (loadV (.head _) rfl (blkCell 2 hO rfl rfl) Try.underlying22 rfl rfl) rfl rfl ?_
   refine GoT.pure rfl (op_move rfl) rfl rfl ?_
   refine GoT.pure rfl (op_move rfl) rfl rfl ?_
   skip
   refine GoT.inl (vs := [.int .i64 (ix d_100 (k1_87 : Int))]) (caps := [.pointer (some ⟨B2, 0, none⟩)]) rfl rfl rfl body141 Try.func141 rfl Try.ntmps141 rfl rfl rfl ?_
   intro RhR261 hR261
   have hOs262 := hO
   replace hB := ((hB.trans tu.fr).trans sC.fr).trans tv.fr
   have hBs263 := hB
   have hB := Fr.refl (bl [.row 31 1 AA (n93 + 1) AB Ho, .row 4 1 p97 n99 c98 fv, .blk B72 (.cells #[.int .i64 d.Letters, .int .i64 (0 : Int), .slice p97 n99 c98, .slice AA (n93 + 1) AB] 25 (0, 0)), .row 3 1 nU lQ nV sb, .any (mapE (fun a : Int => Value.int .i64 a) (fun a : Int => Value.int .i64 a) B35 m2_131), .blk B28 (.cells #[.slice nU lQ nV, .map (some B35)] 188 (0, 0)), .blk B22 (.cells #[.int .i64 (0 : Int), .int .i64 (0 : Int), .slice none 0 0, .slice none 0 0] 25 (0, 0)), .blk B8 (.cells #[.int .i64 (0 : Int), .int .i64 (0 : Int), .slice none 0 0, .slice none 0 0] 25 (0, 0)), .blk B2 (.cells #[.int .i64 d.Letters, .int .i64 d.Start, .slice aU d.Final.length aV, .slice aX d.Next.length aY] 25 (0, 0))]) Qe
   refine zq ?_
   refine Go1.cut [(0, .int .i64 (ix d_100 (k1_87 : Int))), (1, .pointer (some ⟨B2, 0, none⟩))] ⟨rfl, rfl, trivial⟩ ?_
   intro σ _
   refine zr (za rfl (zn (zq (zr (zo (op_fieldAddr Try.underlying25 rfl ti22 rfl (by decide)) ?_)))))
   refine zs (oblk (i := 2) 8 hO rfl rfl Try.underlying22 rfl rfl) (zm rfl ?_)
   obtain ⟨E0, H⟩ := H
   obtain ⟨E3, H⟩ := H
   have Z9 := ((Z8.trans tu.ch).trans sC.ch).trans tv.ch
   replace ah := ah.ch Z9
   refine zo (op_index Try.underlying22 ti4 rfl rfl E0 E3 (ah.some_ E0 E3)) (zs (ldBool ah E0 E3 Try.underlying4 rfl rfl) (za rfl (zn ?_)))
   refine Go1.ret1V Try.func141 rfl (show _ = .bool (ix d.Final (ix d_100 (k1_87 : Int))) from rfl) ?_
   refine hR261 _ _ (CSv.cons (cs_eq (blkCell 2 hOs262 rfl rfl) (blkCell 2 hO rfl rfl)) (CSv.nil _ _)) ?_
   replace hB := hBs263.trans hB
   skip
   have hobt := obuild (r := Rp.bool) (n := 1) (parts := [(0, .bool (ix d.Final (ix d_100 (k1_87 : Int))))]) (vs := [.bool (ix d.Final (ix d_100 (k1_87 : Int)))]) (xs := [ix d.Final (ix d_100 (k1_87 : Int))]) rfl Try.underlying22 ti4 hO (by decide) (by kernel_rfl) (Els.cons rfl rfl (Els.nil _ _ _) (by simp [mx])) rfl
   obtain ⟨T6, T7, gE, Ly, Lz, H5⟩ := hobt
   refine GoT.step rfl (H5 rfl) (CSv.same Lz) rfl rfl ?_
   replace hO := gE.own
   skip
   have hobt := freeze 0 hO rfl Ly
   obtain ⟨hO1, vY, ya, LA⟩ := hobt
   dsimp only [eS, eZ] at hO1 vY ya
   replace hB := (hB.trans gE.fr).trans (Owns.dropFr _ _ 0)
   dsimp only [eS, eZ] at hB
   replace hO := hO1; clear hO1
   obtain ⟨Qf, H⟩ := H
   replace b7 := ((b7.ch Z9).ch gE.ch).ch vY
   have hobt := oapp Try.underlying22 ti4 rfl 1 hO rfl b7 ya LA Qf (by decide)
   obtain ⟨T8, E4, E5, LB, sD, Bf, H6⟩ := hobt
   dsimp only [sS, sZ] at sD Bf
   refine GoT.stepX rfl (H6 (by exact rfl) (by exact rfl)) rfl rfl rfl ?_
   replace hO := sD.own
   refine GoT.pure rfl (op_fieldAddr Try.underlying25 rfl ti22 rfl (by decide)) rfl rfl ?_
   skip
   have hobt := oblkSt2 (v := .slice E4 (n99 + 1) E5) (i := 2) (cs' := #[.int .i64 d.Letters, .int .i64 (0 : Int), .slice E4 (n99 + 1) E5, .slice AA (n93 + 1) AB]) 2 hO rfl rfl rfl rfl
   obtain ⟨Qg, rM, H7⟩ := hobt
   dsimp only [sS, sZ] at rM
   refine GoT.stepX rfl (H7 Try.underlying22 rfl ti22 (by exact rfl) (by exact rfl)) rfl rfl rfl ?_
   replace hO := rM.own
   refine GoT.nil ?_
   refine Go1.inBlock ?_
   refine zr (zm rfl ?_)
   obtain ⟨Qh, H⟩ := H
   refine zo (op_add rfl rfl (wrap_i64 Qh)) (za rfl (zn ?_))
   replace Bf := Bf.ch rM.ch
   replace hB := (hB.trans sD.fr).trans rM.fr
   have Z10 := ((gE.ch.trans vY).trans sD.ch).trans rM.ch
   replace ah := ah.ch Z10
   have Z11 := ((((sC.ch.trans tv.ch).trans gE.ch).trans vY).trans sD.ch).trans rM.ch
   replace rq := rq.ch Z11
   have Z12 := (((Z9.trans gE.ch).trans vY).trans sD.ch).trans rM.ch
   replace ak := ak.ch Z12
   replace dO := dO.ch Z12
   exact hX1 _ H _ _ ⟨n93 + 1, AA, AB, Ho, n99 + 1, E4, E5, LB, lQ, nU, nV, sb, ⟨rfl, rfl, rfl, rfl, rfl, rfl, rfl, trivial⟩, hO, rq, Bf, dO, ah, ak, hB⟩
  replace H := ifn qU H
  refine zo (fun w => opB (op_lss rfl rfl w) (decide_eq_false qU)) (zn (zf rfl rfl ?_))
  refine Go1.exit rfl ?_
  refine zq ?_
  refine Go1.drawT (ok := fun _ => True) Same.tr [3] 6 (.qs 0 (.qp 1 (.alt 2 (.alt 3 (.qp 4 (.qp 5 .nil)) .fin) (.alt 3 (.alt 2 (.qp 4 (.qp 5 .nil)) .fin) .fin)))) mixed (by kernel_rfl) ?_
  intro T9 LD
  have vA := Stp.same hO LD
  replace hO := vA.own
  refine GoT.stable rfl (oblkAgg (vs := [.int .i64 d.Letters, .int .i64 (0 : Int), .slice p97 n99 c98, .slice p91 n93 c92]) (i := 0) 2 hO rfl rfl Try.underlying25 rfl ti25 rfl) rfl rfl ?_
  refine GoT.pure rfl (op_fieldAddr Try.underlying188 rfl ti31 rfl (by decide)) rfl rfl ?_
  refine GoT.both ?_ ?_
  ·skip
   replace H := H.1
   refine GoT.step rfl ((oblk (i := 0) 5 hO rfl rfl Try.underlying31 rfl rfl) _ (Same.refl _)) (Same.refl _) rfl rfl ?_
   skip
   have hobt := oblkStAgg (us := [.int .i64 d.Letters, .int .i64 (0 : Int), .slice p97 n99 c98, .slice p91 n93 c92]) (o := 0) (cs' := #[.int .i64 d.Letters, .int .i64 (0 : Int), .slice p97 n99 c98, .slice p91 n93 c92]) 6 hO rfl rfl (Nat.le_of_ble_eq_true rfl) rfl
   obtain ⟨Qi, gM, BV⟩ := hobt
   dsimp only [sS, sZ] at gM
   refine GoT.stepX rfl (BV ti25 (by exact rfl) (by exact rfl) rfl) rfl rfl rfl ?_
   replace hO := gM.own
   refine GoT.pure rfl (op_assign rfl) rfl rfl ?_
   refine GoT.pure rfl (op_assign rfl) rfl rfl ?_
   refine GoT.nil ?_
   refine Go1.retC3V Try.func139 rfl rfl (run_loadBlk (vs := [.int .i64 d.Letters, .int .i64 (0 : Int), .slice p97 n99 c98, .slice p91 n93 c92]) 6 hO rfl rfl Try.underlying25 rfl ti25) (show _ = .slice eM eK eN from rfl) (show _ = .int .i64 (0 : Int) from rfl) ?_
   refine hR20 _ _ ?_
   refine zm rfl (zo (op_extract rfl rfl) (zo (op_extract rfl rfl) (zo (op_extract rfl rfl) ?_)))
   have hobt := oalloc (t := 25) (cs := #[.int .i64 (0 : Int), .int .i64 (0 : Int), .slice none 0 0, .slice none 0 0]) ti25 hO rfl
   obtain ⟨Qj, B296, ir, SK, H8⟩ := hobt
   refine GoR.op H8 rfl rfl ?_
   replace hO := ir.own
   have hobt := oblkStAgg (us := [.int .i64 d.Letters, .int .i64 (0 : Int), .slice p97 n99 c98, .slice p91 n93 c92]) (o := 0) (cs' := #[.int .i64 d.Letters, .int .i64 (0 : Int), .slice p97 n99 c98, .slice p91 n93 c92]) 0 hO rfl rfl (Nat.le_of_ble_eq_true rfl) rfl
   obtain ⟨E6, uy, H9⟩ := hobt
   dsimp only [sS, sZ] at uy
   refine zg (H9 ti25 (by exact rfl) (by exact rfl) rfl) ?_
   replace hO := uy.own
   refine za rfl (za rfl (zn (zq ?_)))
   refine Go1.cut [(1, .pointer (some ⟨B2, 0, none⟩)), (2, .pointer (some ⟨B8, 0, none⟩)), (4, .pointer (some ⟨B296, 0, none⟩)), (5, .slice eM eK eN)] ⟨rfl, rfl, rfl, rfl, trivial⟩ ?_
   intro σ _
   refine zr (zo (op_fieldAddr Try.underlying25 rfl ti22 rfl (by decide)) (zs (oblk (i := 2) 9 hO rfl rfl Try.underlying22 rfl rfl) (zo (op_len Try.underlying22 rfl) ?_)))
   have Z13 := ((vA.ch.trans gM.ch).trans ir.ch).trans uy.ch
   replace ah := ah.ch Z13
   replace H := H ah.bd
   obtain ⟨E7, H⟩ := H
   obtain ⟨Qk, H⟩ := H
   have hobt := omake (n := (d.Final.length : Int)) (r := Rp.int .i64) (d := (0 : Int)) Try.underlying31 ti3 (fun _ _ => rfl) rfl hO E7 Qk (by decide)
   obtain ⟨Ua, qV, LE, vB, mI, SM, Ia⟩ := hobt
   refine zg (Ia rfl rfl) ?_
   replace hO := vB.own
   refine za rfl (zn (zq (zq (zr (zm rfl ?_)))))
   refine zo (op_lenN Try.underlying31 rfl (mI.neq hO 0 rfl)) (zm rfl (zn (zb ?_)))
   replace hO := hO.drop 4
   replace mI := mI.ch (Owns.dropCh _ _ 4)
   replace ah := (ah.ch vB.ch).ch (Owns.dropCh _ _ 4)
   have Z14 := (Z13.trans vB.ch).trans (Owns.dropCh _ _ 4)
   replace b9 := b9.ch Z14
   replace b7 := b7.ch Z14
   replace b8 := b8.ch Z14
   replace ak := ak.ch Z14
   replace hB := (((((hB.trans vA.fr).trans gM.fr).trans ir.fr).trans uy.fr).trans vB.fr).trans (Owns.dropFr _ _ 4)
   dsimp only [eS, eZ] at hB hO ah ak mI b9 b7 b8
   replace hO := hO.drop 5
   replace ah := ah.ch (Owns.dropCh _ _ 5)
   replace ak := ak.ch (Owns.dropCh _ _ 5)
   replace mI := mI.ch (Owns.dropCh _ _ 5)
   replace b9 := b9.ch (Owns.dropCh _ _ 5)
   replace b7 := b7.ch (Owns.dropCh _ _ 5)
   replace b8 := b8.ch (Owns.dropCh _ _ 5)
   replace hB := hB.trans (Owns.dropFr _ _ 5)
   dsimp only [eS, eZ] at hB hO ah ak mI b9 b7 b8
   replace hO := hO.drop 5
   replace ah := ah.ch (Owns.dropCh _ _ 5)
   replace ak := ak.ch (Owns.dropCh _ _ 5)
   replace mI := mI.ch (Owns.dropCh _ _ 5)
   replace b9 := b9.ch (Owns.dropCh _ _ 5)
   replace b7 := b7.ch (Owns.dropCh _ _ 5)
   replace b8 := b8.ch (Owns.dropCh _ _ 5)
   replace hB := hB.trans (Owns.dropFr _ _ 5)
   dsimp only [eS, eZ] at hB hO ah ak mI b9 b7 b8
   replace hO := hO.drop 5
   replace ah := ah.ch (Owns.dropCh _ _ 5)
   replace ak := ak.ch (Owns.dropCh _ _ 5)
   replace mI := mI.ch (Owns.dropCh _ _ 5)
   replace b9 := b9.ch (Owns.dropCh _ _ 5)
   replace b7 := b7.ch (Owns.dropCh _ _ 5)
   replace b8 := b8.ch (Owns.dropCh _ _ 5)
   replace hB := hB.trans (Owns.dropFr _ _ 5)
   dsimp only [eS, eZ] at hB hO ah ak mI b9 b7 b8
   replace hO := hO.drop 6
   replace ah := ah.ch (Owns.dropCh _ _ 6)
   replace ak := ak.ch (Owns.dropCh _ _ 6)
   replace mI := mI.ch (Owns.dropCh _ _ 6)
   replace b9 := b9.ch (Owns.dropCh _ _ 6)
   replace b7 := b7.ch (Owns.dropCh _ _ 6)
   replace b8 := b8.ch (Owns.dropCh _ _ 6)
   replace hB := hB.trans (Owns.dropFr _ _ 6)
   dsimp only [eS, eZ] at hB hO ah ak mI b9 b7 b8
   refine Go1.loopW (S := Nat × List Int) (fun s σ w => match s with | (k5_315, number5_316) => ∃ (u9 : List Value), agrees σ [(2, .pointer (some ⟨B8, 0, none⟩)), (4, .pointer (some ⟨B296, 0, none⟩)), (5, .slice eM eK eN), (7, .slice qV d.Final.length d.Final.length), (31, .int .i64 ((List.replicate d.Final.length ((0 : Int))).length : Int)), (32, .int .i64 (k5_315 : Int))] ∧ (fun Z0 => Owns w0.heap.size w Z0 A ∧ Els (Rp.int .i64) (bl Z0 ++ A) w u9 number5_316 ∧ Els (Rp.sl (Rp.int .i64)) (bl Z0 ++ A) w fA d_88 ∧ Els (Rp.bool) (bl Z0 ++ A) w fv d_94 ∧ Els (Rp.int .i64) (bl Z0 ++ A) w fh d_100 ∧ Fr (bl []) w0 (bl Z0) w) [.row 3 1 qV d.Final.length d.Final.length u9, .blk B296 (.cells #[.int .i64 d.Letters, .int .i64 (0 : Int), .slice p97 n99 c98, .slice p91 n93 c92] 25 (0, 0)), .row 31 1 p91 n93 c92 fA, .row 4 1 p97 n99 c98 fv, .row 3 1 eM eK eN fh, .blk B8 (.cells #[.int .i64 (0 : Int), .int .i64 (0 : Int), .slice none 0 0, .slice none 0 0] 25 (0, 0))]) H ⟨LE, ⟨rfl, rfl, rfl, rfl, rfl, rfl, trivial⟩, hO, mI, b9, b7, b8, hB⟩ ?_
   intro X5
   refine prE fun k5_315 => fun number5_316 => ?_
   intro H hX5 σ Ql
   refine exE fun u9 => andE fun hag => andE fun hO => andE fun Bg => andE fun b9 => andE fun b7 => andE fun b8 => fun hB => ?_
   dsimp only at H
   refine Go1.keep [(2, .pointer (some ⟨B8, 0, none⟩)), (4, .pointer (some ⟨B296, 0, none⟩)), (5, .slice eM eK eN), (7, .slice qV d.Final.length d.Final.length), (31, .int .i64 ((List.replicate d.Final.length ((0 : Int))).length : Int)), (32, .int .i64 (k5_315 : Int))] hag ?_
   refine zq (zr ?_)
   by_cases DD : (k5_315 : Int) < ((List.replicate d.Final.length ((0 : Int))).length : Int)
   ·replace H := ifp DD H
    refine zo (fun w => opB (op_lss rfl rfl w) (decide_eq_true DD)) (zn (zq (zt rfl rfl (zk (zq ?_)))))
    refine zb (zq (zr (zm rfl (za rfl (zn ?_)))))
    refine zr (zm rfl (zm rfl ?_))
    obtain ⟨E8, H⟩ := H
    obtain ⟨E9, H⟩ := H
    refine zo (op_index Try.underlying31 ti3 rfl rfl E8 (ltn (Bg.neq hO 0 rfl) E9) (Bg.psome hO 0 rfl E8 E9)) ?_
    have hobt := ost (r := Rp.int .i64) rfl 0 hO rfl Bg E8 E9 (v := .int .i64 (-1 : Int)) (u := (-1 : Int)) rfl rfl
    obtain ⟨Ub, LF, wI, Hp, Ib⟩ := hobt
    dsimp only [sS, sZ] at wI Hp
    refine zg (Ib Try.underlying3 rfl ti3 (by exact rfl) (by exact rfl)) ?_
    replace hO := wI.own
    refine zn ?_
    refine Go1.inBlock ?_
    refine zr ?_
    obtain ⟨Fa, H⟩ := H
    refine zo (op_add rfl rfl (wrap_i64 Fa)) (zm rfl (zn ?_))
    replace b9 := b9.ch wI.ch
    replace b7 := b7.ch wI.ch
    replace b8 := b8.ch wI.ch
    replace hB := hB.trans wI.fr
    exact hX5 _ H _ _ ⟨LF, ⟨rfl, rfl, rfl, rfl, rfl, rfl, trivial⟩, hO, Hp, b9, b7, b8, hB⟩
   replace H := ifn DD H
   refine zo (fun w => opB (op_lss rfl rfl w) (decide_eq_false DD)) (zn (zq (zf rfl rfl ?_)))
   refine Go1.exit rfl ?_
   refine zq (zq (zr (zm rfl (zo (op_lenN Try.underlying31 rfl (b8.neq hO 4 rfl)) (zm rfl ?_)))))
   refine zn (zb ?_)
   refine Go1.loopW (S := Nat × List Int) (fun s σ w => match s with | (k6_329, number6_330) => ∃ (t9 : List Value), agrees σ [(2, .pointer (some ⟨B8, 0, none⟩)), (4, .pointer (some ⟨B296, 0, none⟩)), (7, .slice qV d.Final.length d.Final.length), (39, .slice eM eK eN), (40, .int .i64 (d_100.length : Int)), (41, .int .i64 (k6_329 : Int))] ∧ (fun Z0 => Owns w0.heap.size w Z0 A ∧ Els (Rp.int .i64) (bl Z0 ++ A) w t9 number6_330 ∧ Els (Rp.sl (Rp.int .i64)) (bl Z0 ++ A) w fA d_88 ∧ Els (Rp.bool) (bl Z0 ++ A) w fv d_94 ∧ Els (Rp.int .i64) (bl Z0 ++ A) w fh d_100 ∧ Fr (bl []) w0 (bl Z0) w) [.row 3 1 qV d.Final.length d.Final.length t9, .blk B296 (.cells #[.int .i64 d.Letters, .int .i64 (0 : Int), .slice p97 n99 c98, .slice p91 n93 c92] 25 (0, 0)), .row 31 1 p91 n93 c92 fA, .row 4 1 p97 n99 c98 fv, .row 3 1 eM eK eN fh, .blk B8 (.cells #[.int .i64 (0 : Int), .int .i64 (0 : Int), .slice none 0 0, .slice none 0 0] 25 (0, 0))]) H ⟨u9, ⟨rfl, rfl, rfl, rfl, rfl, rfl, trivial⟩, hO, Bg, b9, b7, b8, hB⟩ ?_
   intro X6
   refine prE fun k6_329 => fun number6_330 => ?_
   intro H hX6 σ Ic
   refine exE fun t9 => andE fun hag => andE fun hO => andE fun ua => andE fun b9 => andE fun b7 => andE fun b8 => fun hB => ?_
   dsimp only at H
   refine Go1.keep [(2, .pointer (some ⟨B8, 0, none⟩)), (4, .pointer (some ⟨B296, 0, none⟩)), (7, .slice qV d.Final.length d.Final.length), (39, .slice eM eK eN), (40, .int .i64 (d_100.length : Int)), (41, .int .i64 (k6_329 : Int))] hag ?_
   refine zq (zr ?_)
   by_cases BW : (k6_329 : Int) < (d_100.length : Int)
   ·replace H := ifp BW H
    refine zo (fun w => opB (op_lss rfl rfl w) (decide_eq_true BW)) (zn (zq (zt rfl rfl (zk (zq ?_)))))
    refine zb (zq (zr (zm rfl ?_)))
    obtain ⟨Fb, H⟩ := H
    obtain ⟨Fc, H⟩ := H
    refine zo (op_index Try.underlying31 ti3 rfl rfl Fb (ltn (b8.neq hO 4 rfl) Fc) (b8.psome hO 4 rfl Fb Fc)) (zs (oldInt 4 hO rfl b8 Fb Fc Try.underlying3 rfl rfl) (za rfl (za rfl (zn (zr ?_)))))
    refine zm rfl (zm rfl (zm rfl ?_))
    obtain ⟨Fd, H⟩ := H
    obtain ⟨Fe, H⟩ := H
    refine zo (op_index Try.underlying31 ti3 rfl rfl Fd (ltn (ua.neq hO 0 rfl) Fe) (ua.psome hO 0 rfl Fd Fe)) ?_
    have hobt := ost (r := Rp.int .i64) rfl 0 hO rfl ua Fd Fe (v := .int .i64 (k6_329 : Int)) (u := (k6_329 : Int)) rfl rfl
    obtain ⟨Qm, LG, wJ, Hq, Id⟩ := hobt
    dsimp only [sS, sZ] at wJ Hq
    refine zg (Id Try.underlying3 rfl ti3 (by exact rfl) (by exact rfl)) ?_
    replace hO := wJ.own
    refine zn ?_
    refine Go1.inBlock ?_
    refine zr ?_
    replace b8 := b8.ch wJ.ch
    refine zo (op_add rfl rfl (wrap_i64 (natbd BW b8.bd))) (zm rfl (zn ?_))
    replace b9 := b9.ch wJ.ch
    replace b7 := b7.ch wJ.ch
    replace hB := hB.trans wJ.fr
    exact hX6 _ H _ _ ⟨LG, ⟨rfl, rfl, rfl, rfl, rfl, rfl, trivial⟩, hO, Hq, b9, b7, b8, hB⟩
   replace H := ifn BW H
   refine zo (fun w => opB (op_lss rfl rfl w) (decide_eq_false BW)) (zn (zq (zf rfl rfl ?_)))
   refine Go1.exit rfl ?_
   refine zq (zr (zs (oblkAgg (vs := [.int .i64 d.Letters, .int .i64 (0 : Int), .slice p97 n99 c98, .slice p91 n93 c92]) (i := 0) 1 hO rfl rfl Try.underlying25 rfl ti25 rfl) (zm rfl ?_)))
   have hobt := oblkStAgg (us := [.int .i64 d.Letters, .int .i64 (0 : Int), .slice p97 n99 c98, .slice p91 n93 c92]) (o := 0) (cs' := #[.int .i64 d.Letters, .int .i64 (0 : Int), .slice p97 n99 c98, .slice p91 n93 c92]) 5 hO rfl rfl (Nat.le_of_ble_eq_true rfl) rfl
   obtain ⟨Uc, vC, BX⟩ := hobt
   dsimp only [sS, sZ] at vC
   refine zg (BX ti25 (by exact rfl) (by exact rfl) rfl) ?_
   replace hO := vC.own
   refine za rfl (zn ?_)
   replace b7 := b7.ch vC.ch
   have hobt := freeze 3 hO rfl b7
   obtain ⟨hO1, kU, ko, DE⟩ := hobt
   dsimp only [eS, eZ] at hO1 kU ko
   replace hB := (hB.trans vC.fr).trans (Owns.dropFr _ _ 3)
   dsimp only [eS, eZ] at hB
   replace hO := hO1; clear hO1
   replace b9 := (b9.ch vC.ch).ch kU
   have hobt := freeze 2 hO rfl b9
   obtain ⟨hO1, Bi, Bj, LH⟩ := hobt
   dsimp only [eS, eZ] at hO1 Bi Bj
   replace hB := hB.trans (Owns.dropFr _ _ 2)
   dsimp only [eS, eZ] at hB
   replace hO := hO1; clear hO1
   have Z15 := (vC.ch.trans kU).trans Bi
   replace ua := ua.ch Z15
   have hobt := freeze 0 hO rfl ua
   obtain ⟨hO1, Bk, Hr, LI⟩ := hobt
   dsimp only [eS, eZ] at hO1 Bk Hr
   replace hB := hB.trans (Owns.dropFr _ _ 0)
   dsimp only [eS, eZ] at hB
   replace hO := hO1; clear hO1
   refine Go1.retC2 Try.func109 rfl rfl (run_loadBlk (vs := [.int .i64 d.Letters, .int .i64 (0 : Int), .slice p97 n99 c98, .slice p91 n93 c92]) 2 hO rfl rfl Try.underlying25 rfl ti25) ?_
   replace Bj := Bj.ch Bk
   replace ko := (ko.ch Bi).ch Bk
   exact ⟨(⟨d.Letters, (0 : Int), d_94, d_88⟩ : DFA), number6_330, p97, c98, p91, c92, qV, d.Final.length, (congrArg (fun l => Value.tuple (List.toArray l)) (cons_eq (congrArg (fun l => Value.agg (List.toArray l)) (cons_eq rfl (cons_eq rfl (cons_eq (congrArg (fun nn => Value.slice p97 nn c98) DE) (cons_eq (congrArg (fun nn => Value.slice p91 nn c92) LH) rfl))))) (cons_eq (congrArg (fun nn => Value.slice qV nn d.Final.length) LI) rfl))), hB.same, (ko.ch (Ch.weak _ _ _)), (Bj.ch (Ch.weak _ _ _)), (Hr.ch (Ch.weak _ _ _)), H⟩
  replace H := H.2
  have hobt := oblkStAgg (us := [.int .i64 d.Letters, .int .i64 (0 : Int), .slice p97 n99 c98, .slice p91 n93 c92]) (o := 0) (cs' := #[.int .i64 d.Letters, .int .i64 (0 : Int), .slice p97 n99 c98, .slice p91 n93 c92]) 6 hO rfl rfl (Nat.le_of_ble_eq_true rfl) rfl
  obtain ⟨Ud, uz, BY⟩ := hobt
  dsimp only [sS, sZ] at uz
  refine GoT.stepX rfl (BY ti25 (by exact rfl) (by exact rfl) rfl) rfl rfl rfl ?_
  replace hO := uz.own
  skip
  refine GoT.step rfl ((oblk (i := 0) 5 hO rfl rfl Try.underlying31 rfl rfl) _ (Same.refl _)) (Same.refl _) rfl rfl ?_
  refine GoT.pure rfl (op_assign rfl) rfl rfl ?_
  refine GoT.pure rfl (op_assign rfl) rfl rfl ?_
  refine GoT.nil ?_
  refine Go1.retC3V Try.func139 rfl rfl (run_loadBlk (vs := [.int .i64 d.Letters, .int .i64 (0 : Int), .slice p97 n99 c98, .slice p91 n93 c92]) 6 hO rfl rfl Try.underlying25 rfl ti25) (show _ = .slice eM eK eN from rfl) (show _ = .int .i64 (0 : Int) from rfl) ?_
  refine hR20 _ _ ?_
  refine zm rfl (zo (op_extract rfl rfl) (zo (op_extract rfl rfl) (zo (op_extract rfl rfl) ?_)))
  have hobt := oalloc (t := 25) (cs := #[.int .i64 (0 : Int), .int .i64 (0 : Int), .slice none 0 0, .slice none 0 0]) ti25 hO rfl
  obtain ⟨Ie, B359, dP, SN, Ig⟩ := hobt
  refine GoR.op Ig rfl rfl ?_
  replace hO := dP.own
  have hobt := oblkStAgg (us := [.int .i64 d.Letters, .int .i64 (0 : Int), .slice p97 n99 c98, .slice p91 n93 c92]) (o := 0) (cs' := #[.int .i64 d.Letters, .int .i64 (0 : Int), .slice p97 n99 c98, .slice p91 n93 c92]) 0 hO rfl rfl (Nat.le_of_ble_eq_true rfl) rfl
  obtain ⟨Qn, uA, B1⟩ := hobt
  dsimp only [sS, sZ] at uA
  refine zg (B1 ti25 (by exact rfl) (by exact rfl) rfl) ?_
  replace hO := uA.own
  refine za rfl (za rfl (zn (zq ?_)))
  refine Go1.cut [(1, .pointer (some ⟨B2, 0, none⟩)), (2, .pointer (some ⟨B8, 0, none⟩)), (4, .pointer (some ⟨B359, 0, none⟩)), (5, .slice eM eK eN)] ⟨rfl, rfl, rfl, rfl, trivial⟩ ?_
  intro σ _
  refine zr (zo (op_fieldAddr Try.underlying25 rfl ti22 rfl (by decide)) (zs (oblk (i := 2) 9 hO rfl rfl Try.underlying22 rfl rfl) (zo (op_len Try.underlying22 rfl) ?_)))
  have Z16 := ((vA.ch.trans uz.ch).trans dP.ch).trans uA.ch
  replace ah := ah.ch Z16
  replace H := H ah.bd
  obtain ⟨B3, H⟩ := H
  obtain ⟨xh, H⟩ := H
  have hobt := omake (n := (d.Final.length : Int)) (r := Rp.int .i64) (d := (0 : Int)) Try.underlying31 ti3 (fun _ _ => rfl) rfl hO B3 xh (by decide)
  obtain ⟨Ue, qW, LJ, vD, mJ, SO, B5⟩ := hobt
  refine zg (B5 rfl rfl) ?_
  replace hO := vD.own
  refine za rfl (zn (zq (zq (zr (zm rfl ?_)))))
  refine zo (op_lenN Try.underlying31 rfl (mJ.neq hO 0 rfl)) (zm rfl (zn (zb ?_)))
  replace hO := hO.drop 4
  replace mJ := mJ.ch (Owns.dropCh _ _ 4)
  replace ah := (ah.ch vD.ch).ch (Owns.dropCh _ _ 4)
  have Z17 := (Z16.trans vD.ch).trans (Owns.dropCh _ _ 4)
  replace b9 := b9.ch Z17
  replace b7 := b7.ch Z17
  replace b8 := b8.ch Z17
  replace ak := ak.ch Z17
  replace hB := (((((hB.trans vA.fr).trans uz.fr).trans dP.fr).trans uA.fr).trans vD.fr).trans (Owns.dropFr _ _ 4)
  dsimp only [eS, eZ] at hB hO ah ak mJ b9 b7 b8
  replace hO := hO.drop 5
  replace ah := ah.ch (Owns.dropCh _ _ 5)
  replace ak := ak.ch (Owns.dropCh _ _ 5)
  replace mJ := mJ.ch (Owns.dropCh _ _ 5)
  replace b9 := b9.ch (Owns.dropCh _ _ 5)
  replace b7 := b7.ch (Owns.dropCh _ _ 5)
  replace b8 := b8.ch (Owns.dropCh _ _ 5)
  replace hB := hB.trans (Owns.dropFr _ _ 5)
  dsimp only [eS, eZ] at hB hO ah ak mJ b9 b7 b8
  replace hO := hO.drop 5
  replace ah := ah.ch (Owns.dropCh _ _ 5)
  replace ak := ak.ch (Owns.dropCh _ _ 5)
  replace mJ := mJ.ch (Owns.dropCh _ _ 5)
  replace b9 := b9.ch (Owns.dropCh _ _ 5)
  replace b7 := b7.ch (Owns.dropCh _ _ 5)
  replace b8 := b8.ch (Owns.dropCh _ _ 5)
  replace hB := hB.trans (Owns.dropFr _ _ 5)
  dsimp only [eS, eZ] at hB hO ah ak mJ b9 b7 b8
  replace hO := hO.drop 5
  replace ah := ah.ch (Owns.dropCh _ _ 5)
  replace ak := ak.ch (Owns.dropCh _ _ 5)
  replace mJ := mJ.ch (Owns.dropCh _ _ 5)
  replace b9 := b9.ch (Owns.dropCh _ _ 5)
  replace b7 := b7.ch (Owns.dropCh _ _ 5)
  replace b8 := b8.ch (Owns.dropCh _ _ 5)
  replace hB := hB.trans (Owns.dropFr _ _ 5)
  dsimp only [eS, eZ] at hB hO ah ak mJ b9 b7 b8
  replace hO := hO.drop 6
  replace ah := ah.ch (Owns.dropCh _ _ 6)
  replace ak := ak.ch (Owns.dropCh _ _ 6)
  replace mJ := mJ.ch (Owns.dropCh _ _ 6)
  replace b9 := b9.ch (Owns.dropCh _ _ 6)
  replace b7 := b7.ch (Owns.dropCh _ _ 6)
  replace b8 := b8.ch (Owns.dropCh _ _ 6)
  replace hB := hB.trans (Owns.dropFr _ _ 6)
  dsimp only [eS, eZ] at hB hO ah ak mJ b9 b7 b8
  refine Go1.loopW (S := Nat × List Int) (fun s σ w => match s with | (k7_378, number7_379) => ∃ (va : List Value), agrees σ [(2, .pointer (some ⟨B8, 0, none⟩)), (4, .pointer (some ⟨B359, 0, none⟩)), (5, .slice eM eK eN), (7, .slice qW d.Final.length d.Final.length), (31, .int .i64 ((List.replicate d.Final.length ((0 : Int))).length : Int)), (32, .int .i64 (k7_378 : Int))] ∧ (fun Z0 => Owns w0.heap.size w Z0 A ∧ Els (Rp.int .i64) (bl Z0 ++ A) w va number7_379 ∧ Els (Rp.sl (Rp.int .i64)) (bl Z0 ++ A) w fA d_88 ∧ Els (Rp.bool) (bl Z0 ++ A) w fv d_94 ∧ Els (Rp.int .i64) (bl Z0 ++ A) w fh d_100 ∧ Fr (bl []) w0 (bl Z0) w) [.row 3 1 qW d.Final.length d.Final.length va, .blk B359 (.cells #[.int .i64 d.Letters, .int .i64 (0 : Int), .slice p97 n99 c98, .slice p91 n93 c92] 25 (0, 0)), .row 31 1 p91 n93 c92 fA, .row 4 1 p97 n99 c98 fv, .row 3 1 eM eK eN fh, .blk B8 (.cells #[.int .i64 (0 : Int), .int .i64 (0 : Int), .slice none 0 0, .slice none 0 0] 25 (0, 0))]) H ⟨LJ, ⟨rfl, rfl, rfl, rfl, rfl, rfl, trivial⟩, hO, mJ, b9, b7, b8, hB⟩ ?_
  intro X7
  refine prE fun k7_378 => fun number7_379 => ?_
  intro H hX7 σ Uf
  refine exE fun va => andE fun hag => andE fun hO => andE fun Bl => andE fun b9 => andE fun b7 => andE fun b8 => fun hB => ?_
  dsimp only at H
  refine Go1.keep [(2, .pointer (some ⟨B8, 0, none⟩)), (4, .pointer (some ⟨B359, 0, none⟩)), (5, .slice eM eK eN), (7, .slice qW d.Final.length d.Final.length), (31, .int .i64 ((List.replicate d.Final.length ((0 : Int))).length : Int)), (32, .int .i64 (k7_378 : Int))] hag ?_
  refine zq (zr ?_)
  by_cases DF : (k7_378 : Int) < ((List.replicate d.Final.length ((0 : Int))).length : Int)
  ·replace H := ifp DF H
   refine zo (fun w => opB (op_lss rfl rfl w) (decide_eq_true DF)) (zn (zq (zt rfl rfl (zk (zq ?_)))))
   refine zb (zq (zr (zm rfl (za rfl (zn ?_)))))
   refine zr (zm rfl (zm rfl ?_))
   obtain ⟨Ff, H⟩ := H
   obtain ⟨Fg, H⟩ := H
   refine zo (op_index Try.underlying31 ti3 rfl rfl Ff (ltn (Bl.neq hO 0 rfl) Fg) (Bl.psome hO 0 rfl Ff Fg)) ?_
   have hobt := ost (r := Rp.int .i64) rfl 0 hO rfl Bl Ff Fg (v := .int .i64 (-1 : Int)) (u := (-1 : Int)) rfl rfl
   obtain ⟨Ug, LK, jr, Hs, B6⟩ := hobt
   dsimp only [sS, sZ] at jr Hs
   refine zg (B6 Try.underlying3 rfl ti3 (by exact rfl) (by exact rfl)) ?_
   replace hO := jr.own
   refine zn ?_
   refine Go1.inBlock ?_
   refine zr ?_
   obtain ⟨B7, H⟩ := H
   refine zo (op_add rfl rfl (wrap_i64 B7)) (zm rfl (zn ?_))
   replace b9 := b9.ch jr.ch
   replace b7 := b7.ch jr.ch
   replace b8 := b8.ch jr.ch
   replace hB := hB.trans jr.fr
   exact hX7 _ H _ _ ⟨LK, ⟨rfl, rfl, rfl, rfl, rfl, rfl, trivial⟩, hO, Hs, b9, b7, b8, hB⟩
  replace H := ifn DF H
  refine zo (fun w => opB (op_lss rfl rfl w) (decide_eq_false DF)) (zn (zq (zf rfl rfl ?_)))
  refine Go1.exit rfl ?_
  refine zq (zq (zr (zm rfl (zo (op_lenN Try.underlying31 rfl (b8.neq hO 4 rfl)) (zm rfl ?_)))))
  refine zn (zb ?_)
  refine Go1.loopW (S := Nat × List Int) (fun s σ w => match s with | (k8_392, number8_393) => ∃ (v7 : List Value), agrees σ [(2, .pointer (some ⟨B8, 0, none⟩)), (4, .pointer (some ⟨B359, 0, none⟩)), (7, .slice qW d.Final.length d.Final.length), (39, .slice eM eK eN), (40, .int .i64 (d_100.length : Int)), (41, .int .i64 (k8_392 : Int))] ∧ (fun Z0 => Owns w0.heap.size w Z0 A ∧ Els (Rp.int .i64) (bl Z0 ++ A) w v7 number8_393 ∧ Els (Rp.sl (Rp.int .i64)) (bl Z0 ++ A) w fA d_88 ∧ Els (Rp.bool) (bl Z0 ++ A) w fv d_94 ∧ Els (Rp.int .i64) (bl Z0 ++ A) w fh d_100 ∧ Fr (bl []) w0 (bl Z0) w) [.row 3 1 qW d.Final.length d.Final.length v7, .blk B359 (.cells #[.int .i64 d.Letters, .int .i64 (0 : Int), .slice p97 n99 c98, .slice p91 n93 c92] 25 (0, 0)), .row 31 1 p91 n93 c92 fA, .row 4 1 p97 n99 c98 fv, .row 3 1 eM eK eN fh, .blk B8 (.cells #[.int .i64 (0 : Int), .int .i64 (0 : Int), .slice none 0 0, .slice none 0 0] 25 (0, 0))]) H ⟨va, ⟨rfl, rfl, rfl, rfl, rfl, rfl, trivial⟩, hO, Bl, b9, b7, b8, hB⟩ ?_
  intro X8
  refine prE fun k8_392 => fun number8_393 => ?_
  intro H hX8 σ Uh
  refine exE fun v7 => andE fun hag => andE fun hO => andE fun ub => andE fun b9 => andE fun b7 => andE fun b8 => fun hB => ?_
  dsimp only at H
  refine Go1.keep [(2, .pointer (some ⟨B8, 0, none⟩)), (4, .pointer (some ⟨B359, 0, none⟩)), (7, .slice qW d.Final.length d.Final.length), (39, .slice eM eK eN), (40, .int .i64 (d_100.length : Int)), (41, .int .i64 (k8_392 : Int))] hag ?_
  refine zq (zr ?_)
  by_cases B9 : (k8_392 : Int) < (d_100.length : Int)
  ·replace H := ifp B9 H
   refine zo (fun w => opB (op_lss rfl rfl w) (decide_eq_true B9)) (zn (zq (zt rfl rfl (zk (zq ?_)))))
   refine zb (zq (zr (zm rfl ?_)))
   obtain ⟨Fh, H⟩ := H
   obtain ⟨xG, H⟩ := H
   refine zo (op_index Try.underlying31 ti3 rfl rfl Fh (ltn (b8.neq hO 4 rfl) xG) (b8.psome hO 4 rfl Fh xG)) (zs (oldInt 4 hO rfl b8 Fh xG Try.underlying3 rfl rfl) (za rfl (za rfl (zn (zr ?_)))))
   refine zm rfl (zm rfl (zm rfl ?_))
   obtain ⟨xH, H⟩ := H
   obtain ⟨h400, H⟩ := H
   refine zo (op_index Try.underlying31 ti3 rfl rfl xH (ltn (ub.neq hO 0 rfl) h400) (ub.psome hO 0 rfl xH h400)) ?_
   have hobt := ost (r := Rp.int .i64) rfl 0 hO rfl ub xH h400 (v := .int .i64 (k8_392 : Int)) (u := (k8_392 : Int)) rfl rfl
   obtain ⟨Qo, LN, wK, Ht, Ih⟩ := hobt
   dsimp only [sS, sZ] at wK Ht
   refine zg (Ih Try.underlying3 rfl ti3 (by exact rfl) (by exact rfl)) ?_
   replace hO := wK.own
   refine zn ?_
   refine Go1.inBlock ?_
   refine zr ?_
   replace b8 := b8.ch wK.ch
   refine zo (op_add rfl rfl (wrap_i64 (natbd B9 b8.bd))) (zm rfl (zn ?_))
   replace b9 := b9.ch wK.ch
   replace b7 := b7.ch wK.ch
   replace hB := hB.trans wK.fr
   exact hX8 _ H _ _ ⟨LN, ⟨rfl, rfl, rfl, rfl, rfl, rfl, trivial⟩, hO, Ht, b9, b7, b8, hB⟩
  replace H := ifn B9 H
  refine zo (fun w => opB (op_lss rfl rfl w) (decide_eq_false B9)) (zn (zq (zf rfl rfl ?_)))
  refine Go1.exit rfl ?_
  refine zq (zr (zs (oblkAgg (vs := [.int .i64 d.Letters, .int .i64 (0 : Int), .slice p97 n99 c98, .slice p91 n93 c92]) (i := 0) 1 hO rfl rfl Try.underlying25 rfl ti25 rfl) (zm rfl ?_)))
  have hobt := oblkStAgg (us := [.int .i64 d.Letters, .int .i64 (0 : Int), .slice p97 n99 c98, .slice p91 n93 c92]) (o := 0) (cs' := #[.int .i64 d.Letters, .int .i64 (0 : Int), .slice p97 n99 c98, .slice p91 n93 c92]) 5 hO rfl rfl (Nat.le_of_ble_eq_true rfl) rfl
  obtain ⟨Ui, vE, Ii⟩ := hobt
  dsimp only [sS, sZ] at vE
  refine zg (Ii ti25 (by exact rfl) (by exact rfl) rfl) ?_
  replace hO := vE.own
  refine za rfl (zn ?_)
  replace b7 := b7.ch vE.ch
  have hobt := freeze 3 hO rfl b7
  obtain ⟨hO1, Bm, yb, LO⟩ := hobt
  dsimp only [eS, eZ] at hO1 Bm yb
  replace hB := (hB.trans vE.fr).trans (Owns.dropFr _ _ 3)
  dsimp only [eS, eZ] at hB
  replace hO := hO1; clear hO1
  replace b9 := (b9.ch vE.ch).ch Bm
  have hobt := freeze 2 hO rfl b9
  obtain ⟨hO1, Bn, Bo, LP⟩ := hobt
  dsimp only [eS, eZ] at hO1 Bn Bo
  replace hB := hB.trans (Owns.dropFr _ _ 2)
  dsimp only [eS, eZ] at hB
  replace hO := hO1; clear hO1
  have Z18 := (vE.ch.trans Bm).trans Bn
  replace ub := ub.ch Z18
  have hobt := freeze 0 hO rfl ub
  obtain ⟨hO1, Bp, Hu, LQ⟩ := hobt
  dsimp only [eS, eZ] at hO1 Bp Hu
  replace hB := hB.trans (Owns.dropFr _ _ 0)
  dsimp only [eS, eZ] at hB
  replace hO := hO1; clear hO1
  refine Go1.retC2 Try.func109 rfl rfl (run_loadBlk (vs := [.int .i64 d.Letters, .int .i64 (0 : Int), .slice p97 n99 c98, .slice p91 n93 c92]) 2 hO rfl rfl Try.underlying25 rfl ti25) ?_
  replace Bo := Bo.ch Bp
  replace yb := (yb.ch Bn).ch Bp
  exact ⟨(⟨d.Letters, (0 : Int), d_94, d_88⟩ : DFA), number8_393, p97, c98, p91, c92, qW, d.Final.length, (congrArg (fun l => Value.tuple (List.toArray l)) (cons_eq (congrArg (fun l => Value.agg (List.toArray l)) (cons_eq rfl (cons_eq rfl (cons_eq (congrArg (fun nn => Value.slice p97 nn c98) LO) (cons_eq (congrArg (fun nn => Value.slice p91 nn c92) LP) rfl))))) (cons_eq (congrArg (fun nn => Value.slice qW nn d.Final.length) LQ) rfl))), hB.same, (yb.ch (Ch.weak _ _ _)), (Bo.ch (Ch.weak _ _ _)), (Hu.ch (Ch.weak _ _ _)), H⟩
 replace H := ifn h19 H
 refine zo (fun w => opB (op_neq rfl rfl w) (ndF h19)) (zn (zt rfl rfl (zq (zr (zo (op_build Try.underlying25 ti25 (pl := [(0, 1), (1, 1), (2, 1), (3, 1)]) (vs := []) (cs := #[.int .i64 (0 : Int), .int .i64 (0 : Int), .slice none 0 0, .slice none 0 0]) (by kernel_rfl) rfl (by kernel_rfl)) ?_)))))
 have hobt := oblkStAgg (us := [.int .i64 (0 : Int), .int .i64 (0 : Int), .slice none 0 0, .slice none 0 0]) (o := 0) (cs' := #[.int .i64 (0 : Int), .int .i64 (0 : Int), .slice none 0 0, .slice none 0 0]) 0 hO rfl rfl (Nat.le_of_ble_eq_true rfl) rfl
 obtain ⟨Uj, zJ, Ij⟩ := hobt
 refine zg (Ij ti25 (by exact rfl) (by exact rfl) rfl) ?_
 replace hO := zJ.own
 refine za rfl (zn ?_)
 refine Go1.retC2 Try.func109 rfl rfl (run_loadBlk (vs := [.int .i64 (0 : Int), .int .i64 (0 : Int), .slice none 0 0, .slice none 0 0]) 0 hO rfl rfl Try.underlying25 rfl ti25) ?_
 replace hB := (((hB.trans dG.fr).trans gr.fr).trans ji.fr).trans zJ.fr
 exact ⟨(⟨(0 : Int), (0 : Int), ([] : List Bool), ([] : List (List Int))⟩ : DFA), ([] : List Int), none, 0, none, 0, none, 0, rfl, hB.same, (ISl.null _ _ _), (ISl.null _ _ _), (ISl.null _ _ _), H⟩
theorem body110 : Body Try.prog 110 := ⟨Try.f110, Try.func110, rfl, by kernel_rfl⟩
theorem walk_minimize_Classes {A : List Nat} {w0 : World} {bj : Option Addr} {bk : Nat} {bv : Option Addr} {bw : Nat} {a0 : DFA} (hA : ∀ b ∈ A, b < w0.heap.size) (aq : ISl (Rp.bool) A w0 bj bk a0.Final) (av : ISl (Rp.sl (Rp.int .i64)) A w0 bv bw a0.Next) {K : List Int → Prop} (H : minimize_Classes a0 K) :
    CallsV Try.prog 110 #[.agg #[.int .i64 a0.Letters, .int .i64 a0.Start, .slice bj a0.Final.length bk, .slice bv a0.Next.length bw]] w0 (fun v w' => ∃ (r0 : List Int), ∃ (u4 : Option Addr), ∃ (u5 : Nat), v = .slice u4 r0.length u5 ∧ Same w0 w' ∧ ISl (Rp.int .i64) A w' u4 u5 r0 ∧ K r0) := by
 refine CallsV.of (l := [.agg #[.int .i64 a0.Letters, .int .i64 a0.Start, .slice bj a0.Final.length bk, .slice bv a0.Next.length bw]]) Try.func110 rfl Try.ntmps110 rfl ?_
 have hO := Owns.start hA
 have hB := Fr.refl (bl []) w0
 unfold minimize_Classes at H
 refine zq (zr ?_)
 have hobt := obox (t := 25) (v := .agg #[.int .i64 a0.Letters, .int .i64 a0.Start, .slice bj a0.Final.length bk, .slice bv a0.Next.length bw]) (cs := #[.int .i64 a0.Letters, .int .i64 a0.Start, .slice bj a0.Final.length bk, .slice bv a0.Next.length bw]) hO rfl
 obtain ⟨w1, B2, dG, hs4, lb⟩ := hobt
 refine zg (lb rfl) ?_
 replace hO := dG.own
 refine za rfl (zn (zq (zq (zr (zs (oblkAgg (vs := [.int .i64 a0.Letters, .int .i64 a0.Start, .slice bj a0.Final.length bk, .slice bv a0.Next.length bw]) (i := 0) 0 hO rfl rfl Try.underlying25 rfl ti25 rfl) ?_)))))
 have Z1 := (Ch.start A w0).trans dG.ch
 replace aq := aq.ch Z1
 replace av := av.ch Z1
 refine GoR.call (op_call body61 rfl (walk_dfa_Validate (d := a0) hO.lt aq av H)) rfl rfl ?_
 rintro v11 w8 ⟨r7, rfl, hs9, H⟩
 have ro := Stp.same hO hs9
 replace hO := ro.own
 by_cases h13 : r7 = (0 : Int)
 ·replace H := ifp h13 H
  refine zo (fun w => opB (op_neq rfl rfl w) (ndT h13)) (zn (zf rfl rfl (zk (zq (zr ?_)))))
  refine zo (op_fieldAddr Try.underlying25 rfl ti22 rfl (by decide)) (zs (oblk (i := 2) 0 hO rfl rfl Try.underlying22 rfl rfl) (zo (op_len Try.underlying22 rfl) ?_))
  replace aq := aq.ch ro.ch
  replace H := H aq.bd
  obtain ⟨h21, H⟩ := H
  obtain ⟨h22, H⟩ := H
  have hobt := omake (n := (a0.Final.length : Int)) (r := Rp.int .i64) (d := (0 : Int)) Try.underlying31 ti3 (fun _ _ => rfl) rfl hO h21 h22 (by decide)
  obtain ⟨w14, p15, xi, vb, c9, Qp, zK⟩ := hobt
  refine zg (zK rfl rfl) ?_
  replace hO := vb.own
  refine za rfl (za rfl (zn (zq (zq (zr ?_)))))
  refine zo (op_fieldAddr Try.underlying25 rfl ti22 rfl (by decide)) (zs (oblk (i := 2) 1 hO rfl rfl Try.underlying22 rfl rfl) (zo (op_len Try.underlying22 rfl) (zm rfl (zn (zb ?_)))))
  replace aq := aq.ch vb.ch
  replace av := (av.ch ro.ch).ch vb.ch
  replace hB := ((hB.trans dG.fr).trans ro.fr).trans vb.fr
  refine Go1.loopW (S := Int × Nat × List Int) (fun s σ w => match s with | (k1_25, k1_26, d_27) => ∃ (xj : List Value), agrees σ [(1, .pointer (some ⟨B2, 0, none⟩)), (3, .slice p15 a0.Final.length a0.Final.length), (4, .int .i64 k1_25), (24, .slice bj a0.Final.length bk), (25, .int .i64 (a0.Final.length : Int)), (26, .int .i64 (k1_26 : Int))] ∧ (fun Z0 => Owns w0.heap.size w Z0 A ∧ Els (Rp.int .i64) (bl Z0 ++ A) w xj d_27 ∧ ISl (Rp.bool) (bl Z0 ++ A) w bj bk a0.Final ∧ ISl (Rp.sl (Rp.int .i64)) (bl Z0 ++ A) w bv bw a0.Next ∧ Fr (bl []) w0 (bl Z0) w) [.row 3 1 p15 a0.Final.length a0.Final.length xj, .blk B2 (.cells #[.int .i64 a0.Letters, .int .i64 a0.Start, .slice bj a0.Final.length bk, .slice bv a0.Next.length bw] 25 (0, 0))]) H ⟨xi, ⟨rfl, rfl, rfl, rfl, rfl, rfl, trivial⟩, hO, c9, aq, av, hB⟩ ?_
  intro X1
  refine prE fun k1_25 => prE fun k1_26 => fun d_27 => ?_
  intro H hX1 σ w24
  refine exE fun xj => andE fun hag => andE fun hO => andE fun vF => andE fun aq => andE fun av => fun hB => ?_
  dsimp only at H
  refine Go1.keep [(1, .pointer (some ⟨B2, 0, none⟩)), (3, .slice p15 a0.Final.length a0.Final.length), (4, .int .i64 k1_25), (24, .slice bj a0.Final.length bk), (25, .int .i64 (a0.Final.length : Int)), (26, .int .i64 (k1_26 : Int))] hag ?_
  refine zq (zr ?_)
  by_cases h30 : (k1_26 : Int) < (a0.Final.length : Int)
  ·replace H := ifp h30 H
   refine zo (fun w => opB (op_lss rfl rfl w) (decide_eq_true h30)) (zn (zq (zt rfl rfl (zk (zq ?_)))))
   refine zb (zq (zr (zm rfl ?_)))
   obtain ⟨h31, H⟩ := H
   obtain ⟨h32, H⟩ := H
   refine zo (op_index Try.underlying22 ti4 rfl rfl h31 h32 (aq.some_ h31 h32)) ?_
   by_cases h33 : ix a0.Final (k1_26 : Int) = true
   ·replace H := ifp h33 H
    refine zg (opB ((ldBool aq h31 h32 Try.underlying4 rfl rfl) _ (Same.refl _)) (h33)) (za rfl (za rfl (zn (zq (zr ?_)))))
    refine zm rfl (zo (op_fieldAddr Try.underlying25 rfl ti22 rfl (by decide)) (zs (oblk (i := 2) 1 hO rfl rfl Try.underlying22 rfl rfl) ?_))
    obtain ⟨h34, H⟩ := H
    obtain ⟨h35, H⟩ := H
    refine zo (op_index Try.underlying22 ti4 rfl rfl h34 h35 (aq.some_ h34 h35)) ?_
    by_cases h36 : ix a0.Final (0 : Int) = true
    ·replace H := ifp h36 H
     refine zg (opB ((ldBool aq h34 h35 Try.underlying4 rfl rfl) _ (Same.refl _)) (h36)) (zo (op_neqB Try.underlying4 rfl rfl) (zn (zf rfl rfl (zk ?_))))
     refine Go1.inBlock ?_
     refine zr (zo (op_add rfl rfl (wrap_i64 (natbd h30 aq.bd))) (zm rfl (zn ?_)))
     exact hX1 _ H _ _ ⟨xj, ⟨rfl, rfl, rfl, rfl, rfl, rfl, trivial⟩, hO, vF, aq, av, hB⟩
    replace H := ifn h36 H
    refine zg (opB ((ldBool aq h34 h35 Try.underlying4 rfl rfl) _ (Same.refl _)) (Bool.eq_false_iff.2 h36)) (zo (op_neqB Try.underlying4 rfl rfl) (zn (zt rfl rfl (zr (zm rfl ?_)))))
    refine zm rfl ?_
    obtain ⟨h37, H⟩ := H
    obtain ⟨h38, H⟩ := H
    refine zo (op_index Try.underlying31 ti3 rfl rfl h37 (ltn (vF.neq hO 0 rfl) h38) (vF.psome hO 0 rfl h37 h38)) ?_
    have hobt := ost (r := Rp.int .i64) rfl 0 hO rfl vF h37 h38 (v := .int .i64 (1 : Int)) (u := (1 : Int)) rfl rfl
    obtain ⟨w39, Qq, t7, bz, zL⟩ := hobt
    refine zg (zL Try.underlying3 rfl ti3 (by exact rfl) (by exact rfl)) ?_
    replace hO := t7.own
    refine za rfl (zn ?_)
    refine Go1.inBlock ?_
    refine Go1.cut [(1, .pointer (some ⟨B2, 0, none⟩)), (3, .slice p15 a0.Final.length a0.Final.length), (4, .int .i64 (2 : Int)), (24, .slice bj a0.Final.length bk), (25, .int .i64 (a0.Final.length : Int)), (26, .int .i64 (k1_26 : Int))] ⟨rfl, rfl, rfl, rfl, rfl, rfl, trivial⟩ ?_
    intro σ _
    refine zr ?_
    replace aq := aq.ch t7.ch
    refine zo (op_add rfl rfl (wrap_i64 (natbd h30 aq.bd))) (zm rfl (zn ?_))
    replace av := av.ch t7.ch
    replace hB := hB.trans t7.fr
    exact hX1 _ H _ _ ⟨Qq, ⟨rfl, rfl, rfl, rfl, rfl, rfl, trivial⟩, hO, bz, aq, av, hB⟩
   replace H := ifn h33 H
   refine zg (opB ((ldBool aq h31 h32 Try.underlying4 rfl rfl) _ (Same.refl _)) (Bool.eq_false_iff.2 h33)) (za rfl (za rfl (zn (zq (zr ?_)))))
   refine zm rfl (zo (op_fieldAddr Try.underlying25 rfl ti22 rfl (by decide)) (zs (oblk (i := 2) 1 hO rfl rfl Try.underlying22 rfl rfl) ?_))
   obtain ⟨h44, H⟩ := H
   obtain ⟨h45, H⟩ := H
   refine zo (op_index Try.underlying22 ti4 rfl rfl h44 h45 (aq.some_ h44 h45)) ?_
   by_cases h46 : ix a0.Final (0 : Int) = true
   ·replace H := ifp h46 H
    refine zg (opB ((ldBool aq h44 h45 Try.underlying4 rfl rfl) _ (Same.refl _)) (h46)) (zo (op_neqB Try.underlying4 rfl rfl) (zn (zt rfl rfl (zr (zm rfl ?_)))))
    refine zm rfl ?_
    obtain ⟨h47, H⟩ := H
    obtain ⟨h48, H⟩ := H
    refine zo (op_index Try.underlying31 ti3 rfl rfl h47 (ltn (vF.neq hO 0 rfl) h48) (vF.psome hO 0 rfl h47 h48)) ?_
    have hobt := ost (r := Rp.int .i64) rfl 0 hO rfl vF h47 h48 (v := .int .i64 (1 : Int)) (u := (1 : Int)) rfl rfl
    obtain ⟨w49, ou, uc, Qr, Dr⟩ := hobt
    refine zg (Dr Try.underlying3 rfl ti3 (by exact rfl) (by exact rfl)) ?_
    replace hO := uc.own
    refine za rfl (zn ?_)
    refine Go1.inBlock ?_
    refine zr ?_
    replace aq := aq.ch uc.ch
    refine zo (op_add rfl rfl (wrap_i64 (natbd h30 aq.bd))) (zm rfl (zn ?_))
    replace av := av.ch uc.ch
    replace hB := hB.trans uc.fr
    exact hX1 _ H _ _ ⟨ou, ⟨rfl, rfl, rfl, rfl, rfl, rfl, trivial⟩, hO, Qr, aq, av, hB⟩
   replace H := ifn h46 H
   refine zg (opB ((ldBool aq h44 h45 Try.underlying4 rfl rfl) _ (Same.refl _)) (Bool.eq_false_iff.2 h46)) (zo (op_neqB Try.underlying4 rfl rfl) (zn (zf rfl rfl (zk ?_))))
   refine Go1.inBlock ?_
   refine zr (zo (op_add rfl rfl (wrap_i64 (natbd h30 aq.bd))) (zm rfl (zn ?_)))
   exact hX1 _ H _ _ ⟨xj, ⟨rfl, rfl, rfl, rfl, rfl, rfl, trivial⟩, hO, vF, aq, av, hB⟩
  replace H := ifn h30 H
  refine zo (fun w => opB (op_lss rfl rfl w) (decide_eq_false h30)) (zn (zq (zf rfl rfl ?_)))
  refine Go1.exit rfl ?_
  refine zb ?_
  have hobt := freeze 0 hO rfl vF
  obtain ⟨hO1, yQ, BL, EM⟩ := hobt
  replace hO := hO1; clear hO1
  replace aq := aq.ch yQ
  replace av := av.ch yQ
  replace hB := hB.trans (Owns.dropFr _ _ 0)
  refine Go1.loopW (S := List Int × Int) (fun s σ w => match s with | (l2_58, k2_62) => ∃ (p59 : Option Addr), ∃ (c60 : Nat), agrees σ [(1, .pointer (some ⟨B2, 0, none⟩)), (3, .slice p59 l2_58.length c60), (4, .int .i64 k2_62)] ∧ (fun Z0 => Owns w0.heap.size w Z0 A ∧ ISl (Rp.bool) (bl Z0 ++ A) w bj bk a0.Final ∧ ISl (Rp.sl (Rp.int .i64)) (bl Z0 ++ A) w bv bw a0.Next ∧ ISl (Rp.int .i64) (bl Z0 ++ A) w p59 c60 l2_58 ∧ Fr (bl []) w0 (bl Z0) w) [.blk B2 (.cells #[.int .i64 a0.Letters, .int .i64 a0.Start, .slice bj a0.Final.length bk, .slice bv a0.Next.length bw] 25 (0, 0))]) H ⟨p15, a0.Final.length, ⟨rfl, (congrArg (fun nn => Value.slice p15 nn a0.Final.length) EM), rfl, trivial⟩, hO, aq, av, BL, hB⟩ ?_
  intro X2
  refine prE fun l2_58 => fun k2_62 => ?_
  intro H hX2 σ w57
  refine exE fun p59 => exE fun c60 => andE fun hag => andE fun hO => andE fun aq => andE fun av => andE fun gF => fun hB => ?_
  dsimp only at H
  refine Go1.keep [(1, .pointer (some ⟨B2, 0, none⟩)), (3, .slice p59 l2_58.length c60), (4, .int .i64 k2_62)] hag ?_
  refine zb (zq (zr ?_))
  have hobt := omakeMap (fun a : AN 7 => Value.agg (icells .i64 a.1).toArray) (fun a : Int => Value.int .i64 a) hO
  obtain ⟨w63, B64, zM, ph, LS⟩ := hobt
  refine GoR.op LS rfl rfl ?_
  replace hO := zM.own
  refine za rfl (zn (zq (zr (zm rfl (zo (op_len Try.underlying31 rfl) ?_)))))
  replace gF := gF.ch zM.ch
  replace H := H gF.bd
  obtain ⟨h76, H⟩ := H
  obtain ⟨h77, H⟩ := H
  have hobt := omake (n := (l2_58.length : Int)) (r := Rp.int .i64) (d := (0 : Int)) Try.underlying31 ti3 (fun _ _ => rfl) rfl hO h76 h77 (by decide)
  obtain ⟨w69, p70, Qs, zN, Qt, P2, Dw⟩ := hobt
  refine zg (Dw rfl rfl) ?_
  replace hO := zN.own
  refine za rfl (zn (zq (zq (zr (zo (op_fieldAddr Try.underlying25 rfl ti23 rfl (by decide)) ?_)))))
  refine zs (oblk (i := 3) 2 hO rfl rfl Try.underlying23 rfl rfl) (zo (op_len Try.underlying23 rfl) ?_)
  replace av := (av.ch zM.ch).ch zN.ch
  replace H := H av.bd
  refine zm rfl (zn (zb ?_))
  replace gF := gF.ch zN.ch
  replace aq := (aq.ch zM.ch).ch zN.ch
  replace hB := (hB.trans zM.fr).trans zN.fr
  refine Go1.loopW (S := Nat × List Int × (List (AN 7 × Int))) (fun s σ w => match s with | (k3_80, d_81, m3_84) => ∃ (sq : List Value), agrees σ [(1, .pointer (some ⟨B2, 0, none⟩)), (3, .slice p59 l2_58.length c60), (4, .int .i64 k2_62), (7, .map (some B64)), (8, .slice p70 l2_58.length l2_58.length), (46, .slice bv a0.Next.length bw), (47, .int .i64 (a0.Next.length : Int)), (48, .int .i64 (k3_80 : Int))] ∧ (fun Z0 => Owns w0.heap.size w Z0 A ∧ Els (Rp.int .i64) (bl Z0 ++ A) w sq d_81 ∧ ISl (Rp.bool) (bl Z0 ++ A) w bj bk a0.Final ∧ ISl (Rp.sl (Rp.int .i64)) (bl Z0 ++ A) w bv bw a0.Next ∧ ISl (Rp.int .i64) (bl Z0 ++ A) w p59 c60 l2_58 ∧ Fr (bl []) w0 (bl Z0) w) [.row 3 1 p70 l2_58.length l2_58.length sq, .any (mapE (fun a : AN 7 => Value.agg (icells .i64 a.1).toArray) (fun a : Int => Value.int .i64 a) B64 m3_84), .blk B2 (.cells #[.int .i64 a0.Letters, .int .i64 a0.Start, .slice bj a0.Final.length bk, .slice bv a0.Next.length bw] 25 (0, 0))]) H ⟨Qs, ⟨rfl, rfl, rfl, rfl, rfl, rfl, rfl, rfl, trivial⟩, hO, Qt, aq, av, gF, hB⟩ ?_
  intro X3
  refine prE fun k3_80 => prE fun d_81 => fun m3_84 => ?_
  intro H hX3 σ w79
  refine exE fun sq => andE fun hag => andE fun hO => andE fun pk => andE fun aq => andE fun av => andE fun gF => fun hB => ?_
  dsimp only at H
  refine Go1.keep [(1, .pointer (some ⟨B2, 0, none⟩)), (3, .slice p59 l2_58.length c60), (4, .int .i64 k2_62), (7, .map (some B64)), (8, .slice p70 l2_58.length l2_58.length), (46, .slice bv a0.Next.length bw), (47, .int .i64 (a0.Next.length : Int)), (48, .int .i64 (k3_80 : Int))] hag ?_
  refine zq (zr ?_)
  by_cases h85 : (k3_80 : Int) < (a0.Next.length : Int)
  ·replace H := ifp h85 H
   refine zo (fun w => opB (op_lss rfl rfl w) (decide_eq_true h85)) (zn (zq (zt rfl rfl (zk (zq ?_)))))
   refine zb (zq (zr (zm rfl ?_)))
   obtain ⟨h86, H⟩ := H
   obtain ⟨h87, H⟩ := H
   refine zo (op_index Try.underlying23 ti31 rfl rfl h86 h87 (av.some_ h86 h87)) ?_
   have hobt := ldSl av h86 h87
   obtain ⟨p88, c89, l5, Qu⟩ := hobt
   refine zs (Qu Try.underlying31 rfl rfl) (za rfl (za rfl (zn (zq (zr ?_)))))
   refine zm rfl (zm rfl ?_)
   obtain ⟨h92, H⟩ := H
   obtain ⟨h93, H⟩ := H
   refine zo (op_index Try.underlying31 ti3 rfl rfl h92 h93 (gF.some_ h92 h93)) (zs (ldInt gF h92 h93 Try.underlying3 rfl rfl) (zo (op_buildArr Try.underlying166 ti166 ti3 (vs := [(0, .int .i64 (ix l2_58 (k3_80 : Int)))]) (cs := #[.int .i64 (ix l2_58 (k3_80 : Int)), .int .i64 (0 : Int), .int .i64 (0 : Int), .int .i64 (0 : Int), .int .i64 (0 : Int), .int .i64 (0 : Int), .int .i64 (0 : Int)]) rfl (by kernel_rfl)) ?_))
   have hobt := oalloc (t := 166) (cs := (icells .i64 (([(0 : Int), (0 : Int), (0 : Int), (0 : Int), (0 : Int), (0 : Int), (0 : Int)] : List Int))).toArray) ti166 hO rfl
   obtain ⟨w94, B95, xk, Uk, LT⟩ := hobt
   refine GoR.op LT rfl rfl ?_
   replace hO := xk.own
   obtain ⟨Qv, H⟩ := H
   have hobt := oarrStA (M := [(ix l2_58 (k3_80 : Int)), (0 : Int), (0 : Int), (0 : Int), (0 : Int), (0 : Int), (0 : Int)]) 0 hO rfl (by rw [Qv]; rfl)
   obtain ⟨Ul, fV, Ik⟩ := hobt
   refine zg (Ik ti166 (by exact rfl) (by exact rfl)) ?_
   replace hO := fV.own
   refine zn (zq (zq (zr (zm rfl (zo (op_len Try.underlying31 rfl) ?_)))))
   replace l5 := (l5.ch xk.ch).ch fV.ch
   replace H := H l5.bd
   refine zm rfl (zn (zb ?_))
   have Z2 := xk.ch.trans fV.ch
   replace pk := pk.ch Z2
   replace aq := aq.ch Z2
   replace av := av.ch Z2
   replace gF := gF.ch Z2
   replace hB := (hB.trans xk.fr).trans fV.fr
   refine Go1.loopW (S := Nat × List Int) (fun s σ w => match s with | (k4_105, y4_106) => agrees σ [(1, .pointer (some ⟨B2, 0, none⟩)), (3, .slice p59 l2_58.length c60), (4, .int .i64 k2_62), (7, .map (some B64)), (8, .slice p70 l2_58.length l2_58.length), (9, .int .i64 (k3_80 : Int)), (11, .pointer (some ⟨B95, 0, none⟩)), (46, .slice bv a0.Next.length bw), (47, .int .i64 (a0.Next.length : Int)), (48, .int .i64 (k3_80 : Int)), (58, .slice p88 ((ix a0.Next (k3_80 : Int)).length) c89), (59, .int .i64 ((ix a0.Next (k3_80 : Int)).length : Int)), (60, .int .i64 (k4_105 : Int))] ∧ (fun Z0 => Owns w0.heap.size w Z0 A ∧ Els (Rp.int .i64) (bl Z0 ++ A) w sq d_81 ∧ ISl (Rp.bool) (bl Z0 ++ A) w bj bk a0.Final ∧ ISl (Rp.sl (Rp.int .i64)) (bl Z0 ++ A) w bv bw a0.Next ∧ ISl (Rp.int .i64) (bl Z0 ++ A) w p59 c60 l2_58 ∧ ISl (Rp.int .i64) (bl Z0 ++ A) w p88 c89 (ix a0.Next (k3_80 : Int)) ∧ Fr (bl []) w0 (bl Z0) w) [.blk B95 (.cells (icells .i64 y4_106).toArray 166 (0, 0)), .row 3 1 p70 l2_58.length l2_58.length sq, .any (mapE (fun a : AN 7 => Value.agg (icells .i64 a.1).toArray) (fun a : Int => Value.int .i64 a) B64 m3_84), .blk B2 (.cells #[.int .i64 a0.Letters, .int .i64 a0.Start, .slice bj a0.Final.length bk, .slice bv a0.Next.length bw] 25 (0, 0))]) H ⟨⟨rfl, rfl, rfl, rfl, rfl, rfl, rfl, rfl, rfl, rfl, rfl, rfl, rfl, trivial⟩, hO, pk, aq, av, gF, l5, hB⟩ ?_
   intro X4
   refine prE fun k4_105 => fun y4_106 => ?_
   intro H hX4 σ Um
   refine andE fun hag => andE fun hO => andE fun pk => andE fun aq => andE fun av => andE fun gF => andE fun l5 => fun hB => ?_
   dsimp only at H
   refine Go1.keep [(1, .pointer (some ⟨B2, 0, none⟩)), (3, .slice p59 l2_58.length c60), (4, .int .i64 k2_62), (7, .map (some B64)), (8, .slice p70 l2_58.length l2_58.length), (9, .int .i64 (k3_80 : Int)), (11, .pointer (some ⟨B95, 0, none⟩)), (46, .slice bv a0.Next.length bw), (47, .int .i64 (a0.Next.length : Int)), (48, .int .i64 (k3_80 : Int)), (58, .slice p88 ((ix a0.Next (k3_80 : Int)).length) c89), (59, .int .i64 ((ix a0.Next (k3_80 : Int)).length : Int)), (60, .int .i64 (k4_105 : Int))] hag ?_
   refine zq (zr ?_)
   by_cases qU : (k4_105 : Int) < ((ix a0.Next (k3_80 : Int)).length : Int)
   ·replace H := ifp qU H
    refine zo (fun w => opB (op_lss rfl rfl w) (decide_eq_true qU)) (zn (zq (zt rfl rfl (zk (zq ?_)))))
    refine zb (zq (zr (zm rfl ?_)))
    obtain ⟨tc, H⟩ := H
    obtain ⟨uY, H⟩ := H
    refine zo (op_index Try.underlying31 ti3 rfl rfl tc uY (l5.some_ tc uY)) (zs (ldInt l5 tc uY Try.underlying3 rfl rfl) (za rfl (za rfl (zn (zr ?_)))))
    refine zm rfl ?_
    obtain ⟨Ca, H⟩ := H
    refine zo (op_add rfl rfl (wrap_i64 Ca)) (zm rfl (zm rfl ?_))
    obtain ⟨yV, H⟩ := H
    obtain ⟨xI, H⟩ := H
    refine zo (op_index Try.underlying31 ti3 rfl rfl yV xI (gF.some_ yV xI)) (zs (ldInt gF yV xI Try.underlying3 rfl rfl) ?_)
    obtain ⟨Qw, H⟩ := H
    obtain ⟨Il, H⟩ := H
    obtain ⟨Im, H⟩ := H
    refine zo (op_indexArr (n := 7) Try.underlying166 ti3 rfl rfl Il Im) ?_
    have hobt := oarrSt (v := (ix l2_58 (ix (ix a0.Next (k3_80 : Int)) (k4_105 : Int)))) 0 hO rfl Il (arrLt Qw Im)
    obtain ⟨Un, vG, Io⟩ := hobt
    refine zg (Io Try.underlying3 rfl ti3 (by exact rfl) (by exact rfl)) ?_
    replace hO := vG.own
    refine zn ?_
    refine Go1.inBlock ?_
    refine zr ?_
    replace l5 := l5.ch vG.ch
    refine zo (op_add rfl rfl (wrap_i64 (natbd qU l5.bd))) (zm rfl (zn ?_))
    replace pk := pk.ch vG.ch
    replace aq := aq.ch vG.ch
    replace av := av.ch vG.ch
    replace gF := gF.ch vG.ch
    replace hB := hB.trans vG.fr
    exact hX4 _ H _ _ ⟨⟨rfl, rfl, rfl, rfl, rfl, rfl, rfl, rfl, rfl, rfl, rfl, rfl, rfl, trivial⟩, hO, pk, aq, av, gF, l5, hB⟩
   replace H := ifn qU H
   refine zo (fun w => opB (op_lss rfl rfl w) (decide_eq_false qU)) (zn (zq (zf rfl rfl ?_)))
   refine Go1.exit rfl ?_
   refine zq (zr (zm rfl ?_))
   obtain ⟨Qx, H⟩ := H
   refine zs (oarrLd 0 hO rfl Qx Try.underlying166 rfl ti166 rfl) ?_
   by_cases DG : mhas m3_84 ((toAN 7 y4_106)) = true
   ·replace H := ifp DG H
    refine zs (olookT (a := (toAN 7 y4_106)) (MK.arrN Try.underlying166 Try.underlying3 ti3) 2 hO rfl Try.underlying164 rfl rfl DG) (zm rfl (zo (op_extract rfl rfl) (zo (op_extract rfl rfl) (za rfl (za rfl ?_)))))
    refine zn (zq (zq ?_))
    refine Go1.cut [(1, .pointer (some ⟨B2, 0, none⟩)), (3, .slice p59 l2_58.length c60), (4, .int .i64 k2_62), (7, .map (some B64)), (8, .slice p70 l2_58.length l2_58.length), (9, .int .i64 (k3_80 : Int)), (11, .pointer (some ⟨B95, 0, none⟩)), (14, .int .i64 (mgt m3_84 ((toAN 7 y4_106)))), (15, .bool true), (46, .slice bv a0.Next.length bw), (47, .int .i64 (a0.Next.length : Int)), (48, .int .i64 (k3_80 : Int))] ⟨rfl, rfl, rfl, rfl, rfl, rfl, rfl, rfl, rfl, rfl, rfl, rfl, trivial⟩ ?_
    intro σ _
    refine zr (zm rfl (zo (op_not rfl) (zn (zf rfl rfl (zk ?_)))))
    refine zr (zm rfl (zm rfl (zm rfl ?_)))
    obtain ⟨Fi, H⟩ := H
    obtain ⟨Fj, H⟩ := H
    refine zo (op_index Try.underlying31 ti3 rfl rfl Fi (ltn (pk.neq hO 1 rfl) Fj) (pk.psome hO 1 rfl Fi Fj)) ?_
    have hobt := ost (r := Rp.int .i64) rfl 1 hO rfl pk Fi Fj (v := .int .i64 (mgt m3_84 ((toAN 7 y4_106)))) (u := (mgt m3_84 ((toAN 7 y4_106)))) rfl rfl
    obtain ⟨Uo, mK, wL, xl, Cb⟩ := hobt
    refine zg (Cb Try.underlying3 rfl ti3 (by exact rfl) (by exact rfl)) ?_
    replace hO := wL.own
    refine zn ?_
    refine Go1.inBlock ?_
    refine zr ?_
    replace av := av.ch wL.ch
    refine zo (op_add rfl rfl (wrap_i64 (natbd h85 av.bd))) (zm rfl (zn ?_))
    replace hO := hO.drop 0
    replace av := av.ch (Owns.dropCh _ _ 0)
    replace xl := xl.ch (Owns.dropCh _ _ 0)
    have Z3 := wL.ch.trans (Owns.dropCh _ _ 0)
    replace aq := aq.ch Z3
    replace gF := gF.ch Z3
    replace hB := (hB.trans wL.fr).trans (Owns.dropFr _ _ 0)
    exact hX3 _ H _ _ ⟨mK, ⟨rfl, rfl, rfl, rfl, rfl, rfl, rfl, rfl, trivial⟩, hO, xl, aq, av, gF, hB⟩
   replace H := ifn DG H
   refine zs (olookF (a := (toAN 7 y4_106)) (MK.arrN Try.underlying166 Try.underlying3 ti3) 2 hO rfl Try.underlying164 ti3 rfl rfl DG) (zm rfl (zo (op_extract rfl rfl) (zo (op_extract rfl rfl) (za rfl (za rfl ?_)))))
   refine zn (zq (zq (zr (zm rfl (zo (op_not rfl) ?_)))))
   refine zn (zt rfl rfl (zq (zr (zm rfl (zs (omapLen 2 hO rfl Try.underlying164 rfl) ?_)))))
   refine za rfl (zn ?_)
   refine Go1.cut [(1, .pointer (some ⟨B2, 0, none⟩)), (3, .slice p59 l2_58.length c60), (4, .int .i64 k2_62), (7, .map (some B64)), (8, .slice p70 l2_58.length l2_58.length), (9, .int .i64 (k3_80 : Int)), (11, .pointer (some ⟨B95, 0, none⟩)), (14, .int .i64 (m3_84.length : Int)), (46, .slice bv a0.Next.length bw), (47, .int .i64 (a0.Next.length : Int)), (48, .int .i64 (k3_80 : Int))] ⟨rfl, rfl, rfl, rfl, rfl, rfl, rfl, rfl, rfl, rfl, rfl, trivial⟩ ?_
   intro σ _
   refine zr (zm rfl ?_)
   obtain ⟨Qy, H⟩ := H
   refine zs (oarrLd 0 hO rfl Qy Try.underlying166 rfl ti166 rfl) (zm rfl ?_)
   have hobt := omapUpd (MK.arrN Try.underlying166 Try.underlying3 ti3) 2 hO rfl Try.underlying164 (toAN 7 y4_106) (m3_84.length : Int)
   obtain ⟨Cc, vH, Ip⟩ := hobt
   refine zg (Ip (by exact rfl) (by exact rfl) (by exact rfl)) ?_
   replace hO := vH.own
   refine zn (zr (zm rfl (zm rfl (zm rfl ?_))))
   obtain ⟨xC, H⟩ := H
   obtain ⟨Fk, H⟩ := H
   replace pk := pk.ch vH.ch
   refine zo (op_index Try.underlying31 ti3 rfl rfl xC (ltn (pk.neq hO 1 rfl) Fk) (pk.psome hO 1 rfl xC Fk)) ?_
   have hobt := ost (r := Rp.int .i64) rfl 1 hO rfl pk xC Fk (v := .int .i64 (m3_84.length : Int)) (u := (m3_84.length : Int)) rfl rfl
   obtain ⟨Up, LU, wM, cI, Iq⟩ := hobt
   refine zg (Iq Try.underlying3 rfl ti3 (by exact rfl) (by exact rfl)) ?_
   replace hO := wM.own
   refine zn ?_
   refine Go1.inBlock ?_
   refine zr ?_
   replace av := (av.ch vH.ch).ch wM.ch
   refine zo (op_add rfl rfl (wrap_i64 (natbd h85 av.bd))) (zm rfl (zn ?_))
   replace hO := hO.drop 0
   replace av := av.ch (Owns.dropCh _ _ 0)
   replace cI := cI.ch (Owns.dropCh _ _ 0)
   have Z4 := (vH.ch.trans wM.ch).trans (Owns.dropCh _ _ 0)
   replace aq := aq.ch Z4
   replace gF := gF.ch Z4
   replace hB := ((hB.trans vH.fr).trans wM.fr).trans (Owns.dropFr _ _ 0)
   exact hX3 _ H _ _ ⟨LU, ⟨rfl, rfl, rfl, rfl, rfl, rfl, rfl, rfl, trivial⟩, hO, cI, aq, av, gF, hB⟩
  replace H := ifn h85 H
  refine zo (fun w => opB (op_lss rfl rfl w) (decide_eq_false h85)) (zn (zq (zf rfl rfl ?_)))
  refine Go1.exit rfl ?_
  refine zq (zq (zr (zm rfl (zs (omapLen 1 hO rfl Try.underlying164 rfl) (zm rfl ?_)))))
  by_cases xJ : (m3_84.length : Int) = k2_62
  ·replace H := ifp xJ H
   refine zo (fun w => opB (op_eql rfl rfl w) (decide_eq_true xJ)) (zn (zt rfl rfl (zq (zr (zm rfl ?_)))))
   refine za rfl (zn ?_)
   have hobt := freeze 0 hO rfl pk
   obtain ⟨hO1, DH, LV, LX⟩ := hobt
   replace hO := hO1; clear hO1
   refine Go1.ret1 Try.func110 rfl ?_
   replace hB := hB.trans (Owns.dropFr _ _ 0)
   exact ⟨d_81, p70, l2_58.length, (congrArg (fun nn => Value.slice p70 nn l2_58.length) LX), hB.same, (LV.ch (Ch.weak _ _ _)), H⟩
  replace H := ifn xJ H
  refine zo (fun w => opB (op_eql rfl rfl w) (decide_eq_false xJ)) (zn (zf rfl rfl (zk (zr (zm rfl ?_)))))
  refine zm rfl (zs (omapLen 1 hO rfl Try.underlying164 rfl) (za rfl (za rfl (zn ?_))))
  refine Go1.inBlock ?_
  have hobt := freeze 0 hO rfl pk
  obtain ⟨hO1, DJ, DK, LY⟩ := hobt
  replace hO := hO1; clear hO1
  replace hO := hO.drop 0
  replace DK := DK.ch (Owns.dropCh _ _ 0)
  have Z5 := DJ.trans (Owns.dropCh _ _ 0)
  replace aq := aq.ch Z5
  replace av := av.ch Z5
  replace hB := (hB.trans (Owns.dropFr _ _ 0)).trans (Owns.dropFr _ _ 0)
  exact hX2 _ H _ _ ⟨p70, l2_58.length, ⟨rfl, (congrArg (fun nn => Value.slice p70 nn l2_58.length) LY), rfl, trivial⟩, hO, aq, av, DK, hB⟩
 replace H := ifn h13 H
 refine zo (fun w => opB (op_neq rfl rfl w) (ndF h13)) (zn (zt rfl rfl (zq ?_)))
 refine Go1.cut [] trivial ?_
 intro σ _
 refine zr (za rfl (zn ?_))
 refine Go1.ret1 Try.func110 rfl ?_
 replace hB := (hB.trans dG.fr).trans ro.fr
 exact ⟨([] : List Int), none, 0, rfl, hB.same, (ISl.null _ _ _), H⟩
end Sg
