/- -/
import Derived.Test.YtlneebpmblkllaaTi
import Derived.Test.YtlneebpmblkllaaAl
namespace Sg
open Go Go.RowKit Go.Proofs
set_option linter.unusedVariables false
set_option linter.unusedSimpArgs false
set_option maxRecDepth 100000
set_option maxHeartbeats 4000000
theorem body59 : Body Try.prog 59 := ⟨Try.f59, Try.func59, rfl, by kernel_rfl⟩
theorem walk_ref01_MayLetters {A : List Nat} {w0 : World} {letters : Int} (hA : ∀ b ∈ A, b < w0.heap.size) {K : Bool → Prop} (H : ref01_MayLetters letters K) :
    CallsV Try.prog 59 #[.int .i64 letters] w0 (fun v w' => ∃ (r0 : Bool), v = .bool r0 ∧ Same w0 w' ∧ K r0) := by
 refine CallsV.of (l := [.int .i64 letters]) Try.func59 rfl Try.ntmps59 rfl ?_
 have hO := Owns.start hA
 have hB := Fr.refl (bl []) w0
 unfold ref01_MayLetters at H
 refine zq (zr (za rfl (zn (zq (zr ?_)))))
 refine zm rfl ?_
 by_cases h1 : (1 : Int) ≤ letters
 ·replace H := ifp h1 H
  refine zo (fun w => opB (op_geq rfl rfl w) (decide_eq_true h1)) (zm rfl (zm rfl ?_))
  by_cases h2 : letters ≤ (6 : Int)
  ·replace H := ifp h2 H
   refine zo (fun w => opB (op_leq rfl rfl w) (decide_eq_true h2)) (zo (op_pickT rfl rfl rfl) (za rfl (zn ?_)))
   refine Go1.ret1 Try.func59 rfl ?_
   exact ⟨true, rfl, hB.same, H⟩
  replace H := ifn h2 H
  refine zo (fun w => opB (op_leq rfl rfl w) (decide_eq_false h2)) (zo (op_pickT rfl rfl rfl) (za rfl (zn ?_)))
  refine Go1.ret1 Try.func59 rfl ?_
  exact ⟨false, rfl, hB.same, H⟩
 replace H := ifn h1 H
 refine zo (fun w => opB (op_geq rfl rfl w) (decide_eq_false h1)) (zm rfl (zp (zp (zo (op_pickF rfl rfl rfl) (za rfl ?_)))))
 refine zn ?_
 refine Go1.ret1 Try.func59 rfl ?_
 exact ⟨false, rfl, hB.same, H⟩
theorem body16 : Body Try.prog 16 := ⟨Try.f16, Try.func16, rfl, by kernel_rfl⟩
theorem walk_ref07_Validate {A : List Nat} {w0 : World} {aU : Option Addr} {aV : Nat} {aX : Option Addr} {aY : Nat} {d : DFA} (hA : ∀ b ∈ A, b < w0.heap.size) (ah : ISl (Rp.bool) A w0 aU aV d.Final) (ak : ISl (Rp.sl (Rp.int .i64)) A w0 aX aY d.Next) {K : Int → Prop} (H : ref07_Validate d K) :
    CallsV Try.prog 16 #[.agg #[.int .i64 d.Letters, .int .i64 d.Start, .slice aU d.Final.length aV, .slice aX d.Next.length aY]] w0 (fun v w' => ∃ (r0 : Int), v = .int .i64 r0 ∧ Same w0 w' ∧ K r0) := by
 refine CallsV.of (l := [.agg #[.int .i64 d.Letters, .int .i64 d.Start, .slice aU d.Final.length aV, .slice aX d.Next.length aY]]) Try.func16 rfl Try.ntmps16 rfl ?_
 have hO := Owns.start hA
 have hB := Fr.refl (bl []) w0
 unfold ref07_Validate at H
 refine zq (zr ?_)
 have hobt := obox (t := 25) (v := .agg #[.int .i64 d.Letters, .int .i64 d.Start, .slice aU d.Final.length aV, .slice aX d.Next.length aY]) (cs := #[.int .i64 d.Letters, .int .i64 d.Start, .slice aU d.Final.length aV, .slice aX d.Next.length aY]) hO rfl
 obtain ⟨w1, B2, dG, hs4, lb⟩ := hobt
 refine zg (lb rfl) ?_
 replace hO := dG.own
 refine za rfl (zn (zq (zr (zo (op_fieldAddr Try.underlying25 rfl ti22 rfl (by decide)) (zs (oblk (i := 2) 0 hO rfl rfl Try.underlying22 rfl rfl) ?_)))))
 refine zo (op_len Try.underlying22 rfl) ?_
 replace ah := (ah.ch (Ch.start A w0)).ch dG.ch
 replace H := H ah.bd
 refine za rfl (zn (zq (zq (zr (zo (op_fieldAddr Try.underlying25 rfl ti3 rfl (by decide)) ?_)))))
 refine zs (oblk (i := 0) 0 hO rfl rfl Try.underlying3 rfl rfl) ?_
 refine GoR.call (op_call body59 rfl (walk_ref01_MayLetters hO.lt H)) rfl rfl ?_
 rintro v11 w8 ⟨r7, rfl, hs9, H⟩
 have rf := Stp.same hO hs9
 replace hO := rf.own
 cases r7
 ·replace H := ifn Bool.false_ne_true H
  refine zo (op_not rfl) (zn (zt rfl rfl (zq (zr (za rfl ?_)))))
  refine zn ?_
  refine Go1.ret1 Try.func16 rfl ?_
  replace hB := (hB.trans dG.fr).trans rf.fr
  exact ⟨(1 : Int), rfl, hB.same, H⟩
 replace H := ifp rfl H
 refine zo (op_not rfl) (zn (zf rfl rfl (zk (zq (zq ?_)))))
 refine zr (zm rfl ?_)
 by_cases h13 : (512 : Int) < (d.Final.length : Int)
 ·replace H := ifp h13 H
  refine zo (fun w => opB (op_gtr rfl rfl w) (decide_eq_true h13)) (zn (zt rfl rfl (zq (zr (za rfl ?_)))))
  refine zn ?_
  refine Go1.ret1 Try.func16 rfl ?_
  replace hB := (hB.trans dG.fr).trans rf.fr
  exact ⟨(3 : Int), rfl, hB.same, H⟩
 replace H := ifn h13 H
 refine zo (fun w => opB (op_gtr rfl rfl w) (decide_eq_false h13)) (zn (zf rfl rfl (zk (zq (zq ?_)))))
 refine zr (zm rfl ?_)
 by_cases h14 : (d.Final.length : Int) = (0 : Int)
 ·replace H := ifp h14 H
  refine zo (fun w => opB (op_eql rfl rfl w) (decide_eq_true h14)) (zm rfl (zp (zp (zp (zp ?_)))))
  refine zp (zo (op_pickT rfl rfl rfl) (zm rfl (zp (zp (zp ?_)))))
  refine zo (op_pickT rfl rfl rfl) (zm rfl (zp (zp (zp (zp ?_)))))
  refine zo (op_pickT rfl rfl rfl) (zn (zt rfl rfl (zq ?_)))
  refine Go1.cut [] trivial ?_
  intro σ _
  refine zr (za rfl (zn ?_))
  refine Go1.ret1 Try.func16 rfl ?_
  replace hB := (hB.trans dG.fr).trans rf.fr
  exact ⟨(4 : Int), rfl, hB.same, H⟩
 replace H := ifn h14 H
 refine zo (fun w => opB (op_eql rfl rfl w) (decide_eq_false h14)) (zm rfl (zo (op_fieldAddr Try.underlying25 rfl ti23 rfl (by decide)) (zs (oblk (i := 3) 0 hO rfl rfl Try.underlying23 rfl rfl) (zo (op_len Try.underlying23 rfl) ?_))))
 have Z1 := ((Ch.start A w0).trans dG.ch).trans rf.ch
 replace ak := ak.ch Z1
 replace H := H ak.bd
 refine zm rfl ?_
 by_cases h15 : (d.Next.length : Int) = (d.Final.length : Int)
 ·replace H := ifp h15 H
  refine zo (fun w => opB (op_neq rfl rfl w) (ndT h15)) (zo (op_pickF rfl rfl rfl) (zm rfl (zo (op_fieldAddr Try.underlying25 rfl ti3 rfl (by decide)) (zs (oblk (i := 1) 0 hO rfl rfl Try.underlying3 rfl rfl) ?_))))
  by_cases h16 : d.Start < (0 : Int)
  ·replace H := ifp h16 H
   refine zo (fun w => opB (op_lss rfl rfl w) (decide_eq_true h16)) (zo (op_pickF rfl rfl rfl) (zm rfl (zp (zp (zp ?_)))))
   refine zp (zo (op_pickT rfl rfl rfl) (zn (zt rfl rfl (zq ?_))))
   refine Go1.cut [] trivial ?_
   intro σ _
   refine zr (za rfl (zn ?_))
   refine Go1.ret1 Try.func16 rfl ?_
   replace hB := (hB.trans dG.fr).trans rf.fr
   exact ⟨(4 : Int), rfl, hB.same, H⟩
  replace H := ifn h16 H
  refine zo (fun w => opB (op_lss rfl rfl w) (decide_eq_false h16)) (zo (op_pickF rfl rfl rfl) (zm rfl (zo (op_fieldAddr Try.underlying25 rfl ti3 rfl (by decide)) (zs (oblk (i := 1) 0 hO rfl rfl Try.underlying3 rfl rfl) (zm rfl ?_)))))
  by_cases h17 : (d.Final.length : Int) ≤ d.Start
  ·replace H := ifp h17 H
   refine zo (fun w => opB (op_geq rfl rfl w) (decide_eq_true h17)) (zo (op_pickF rfl rfl rfl) (zn (zt rfl rfl (zq (zr ?_)))))
   refine za rfl (zn ?_)
   refine Go1.ret1 Try.func16 rfl ?_
   replace hB := (hB.trans dG.fr).trans rf.fr
   exact ⟨(4 : Int), rfl, hB.same, H⟩
  replace H := ifn h17 H
  refine zo (fun w => opB (op_geq rfl rfl w) (decide_eq_false h17)) (zo (op_pickF rfl rfl rfl) (zn (zf rfl rfl (zk (zq ?_)))))
  refine zq (zr (zo (op_fieldAddr Try.underlying25 rfl ti23 rfl (by decide)) (zs (oblk (i := 3) 0 hO rfl rfl Try.underlying23 rfl rfl) (zo (op_len Try.underlying23 rfl) (zm rfl ?_)))))
  refine zn (zb ?_)
  replace ah := ah.ch rf.ch
  replace hB := (hB.trans dG.fr).trans rf.fr
  refine Go1.loopW (S := Nat) (fun s σ w => agrees σ [(1, .pointer (some ⟨B2, 0, none⟩)), (3, .int .i64 (d.Final.length : Int)), (38, .slice aX d.Next.length aY), (39, .int .i64 (d.Next.length : Int)), (40, .int .i64 (s : Int))] ∧ (fun Z0 => Owns w0.heap.size w Z0 A ∧ ISl (Rp.bool) (bl Z0 ++ A) w aU aV d.Final ∧ ISl (Rp.sl (Rp.int .i64)) (bl Z0 ++ A) w aX aY d.Next ∧ Fr (bl []) w0 (bl Z0) w) [.blk B2 (.cells #[.int .i64 d.Letters, .int .i64 d.Start, .slice aU d.Final.length aV, .slice aX d.Next.length aY] 25 (0, 0))]) H ⟨⟨rfl, rfl, rfl, rfl, rfl, trivial⟩, hO, ah, ak, hB⟩ ?_
  intro X1 k1_19
  intro H hX1 σ w18
  refine andE fun hag => andE fun hO => andE fun ah => andE fun ak => fun hB => ?_
  refine Go1.keep [(1, .pointer (some ⟨B2, 0, none⟩)), (3, .int .i64 (d.Final.length : Int)), (38, .slice aX d.Next.length aY), (39, .int .i64 (d.Next.length : Int)), (40, .int .i64 (k1_19 : Int))] hag ?_
  refine zq (zr ?_)
  by_cases h20 : (k1_19 : Int) < (d.Next.length : Int)
  ·replace H := ifp h20 H
   refine zo (fun w => opB (op_lss rfl rfl w) (decide_eq_true h20)) (zn (zq (zt rfl rfl (zk (zq ?_)))))
   refine zb (zq (zr ?_))
   obtain ⟨h21, H⟩ := H
   obtain ⟨h22, H⟩ := H
   refine zo (op_index Try.underlying23 ti31 rfl rfl h21 h22 (ak.some_ h21 h22)) ?_
   have hobt := ldSl ak h21 h22
   obtain ⟨p23, c24, yJ, PK⟩ := hobt
   refine zs (PK Try.underlying31 rfl rfl) (za rfl (zn (zq (zq (zr ?_)))))
   refine zm rfl (zo (op_len Try.underlying31 rfl) ?_)
   replace H := H yJ.bd
   refine zo (op_fieldAddr Try.underlying25 rfl ti3 rfl (by decide)) (zs (oblk (i := 0) 0 hO rfl rfl Try.underlying3 rfl rfl) ?_)
   by_cases h27 : ((ix d.Next (k1_19 : Int)).length : Int) = d.Letters
   ·replace H := ifp h27 H
    refine zo (fun w => opB (op_neq rfl rfl w) (ndT h27)) (zn (zf rfl rfl (zk (zq (zr ?_)))))
    refine zm rfl (zo (op_len Try.underlying31 rfl) (zm rfl (zn (zb ?_))))
    refine Go1.loopW (S := Nat) (fun s σ w => agrees σ [(1, .pointer (some ⟨B2, 0, none⟩)), (3, .int .i64 (d.Final.length : Int)), (38, .slice aX d.Next.length aY), (39, .int .i64 (d.Next.length : Int)), (40, .int .i64 (k1_19 : Int)), (49, .slice p23 ((ix d.Next (k1_19 : Int)).length) c24), (50, .int .i64 ((ix d.Next (k1_19 : Int)).length : Int)), (51, .int .i64 (s : Int))] ∧ (fun Z0 => Owns w0.heap.size w Z0 A ∧ ISl (Rp.bool) (bl Z0 ++ A) w aU aV d.Final ∧ ISl (Rp.sl (Rp.int .i64)) (bl Z0 ++ A) w aX aY d.Next ∧ ISl (Rp.int .i64) (bl Z0 ++ A) w p23 c24 (ix d.Next (k1_19 : Int)) ∧ Fr (bl []) w0 (bl Z0) w) [.blk B2 (.cells #[.int .i64 d.Letters, .int .i64 d.Start, .slice aU d.Final.length aV, .slice aX d.Next.length aY] 25 (0, 0))]) H ⟨⟨rfl, rfl, rfl, rfl, rfl, rfl, rfl, rfl, trivial⟩, hO, ah, ak, yJ, hB⟩ ?_
    intro X2 k2_29
    intro H hX2 σ w28
    refine andE fun hag => andE fun hO => andE fun ah => andE fun ak => andE fun yJ => fun hB => ?_
    refine Go1.keep [(1, .pointer (some ⟨B2, 0, none⟩)), (3, .int .i64 (d.Final.length : Int)), (38, .slice aX d.Next.length aY), (39, .int .i64 (d.Next.length : Int)), (40, .int .i64 (k1_19 : Int)), (49, .slice p23 ((ix d.Next (k1_19 : Int)).length) c24), (50, .int .i64 ((ix d.Next (k1_19 : Int)).length : Int)), (51, .int .i64 (k2_29 : Int))] hag ?_
    refine zq (zr ?_)
    by_cases h30 : (k2_29 : Int) < ((ix d.Next (k1_19 : Int)).length : Int)
    ·replace H := ifp h30 H
     refine zo (fun w => opB (op_lss rfl rfl w) (decide_eq_true h30)) (zn (zq (zt rfl rfl (zk (zq ?_)))))
     refine zb (zq (zr ?_))
     obtain ⟨h31, H⟩ := H
     obtain ⟨h32, H⟩ := H
     refine zo (op_index Try.underlying31 ti3 rfl rfl h31 h32 (yJ.some_ h31 h32)) (zs (ldInt yJ h31 h32 Try.underlying3 rfl rfl) (za rfl (zn (zq (zr ?_)))))
     refine zm rfl ?_
     by_cases h33 : (ix (ix d.Next (k1_19 : Int)) (k2_29 : Int)) < (0 : Int)
     ·replace H := ifp h33 H
      refine zo (fun w => opB (op_lss rfl rfl w) (decide_eq_true h33)) (zm rfl (zp (zp (zp (zo (op_pickT rfl rfl rfl) ?_)))))
      refine zn (zt rfl rfl (zq (zr (za rfl (zn ?_)))))
      refine Go1.ret1 Try.func16 rfl ?_
      exact ⟨(4 : Int), rfl, hB.same, H⟩
     replace H := ifn h33 H
     refine zo (fun w => opB (op_lss rfl rfl w) (decide_eq_false h33)) (zm rfl (zm rfl (zm rfl ?_)))
     by_cases h34 : (d.Final.length : Int) ≤ (ix (ix d.Next (k1_19 : Int)) (k2_29 : Int))
     ·replace H := ifp h34 H
      refine zo (fun w => opB (op_geq rfl rfl w) (decide_eq_true h34)) (zo (op_pickF rfl rfl rfl) (zn (zt rfl rfl (zq (zr ?_)))))
      refine za rfl (zn ?_)
      refine Go1.ret1 Try.func16 rfl ?_
      exact ⟨(4 : Int), rfl, hB.same, H⟩
     replace H := ifn h34 H
     refine zo (fun w => opB (op_geq rfl rfl w) (decide_eq_false h34)) (zo (op_pickF rfl rfl rfl) (zn (zf rfl rfl (zk ?_))))
     refine Go1.inBlock ?_
     refine Go1.cut [(1, .pointer (some ⟨B2, 0, none⟩)), (3, .int .i64 (d.Final.length : Int)), (38, .slice aX d.Next.length aY), (39, .int .i64 (d.Next.length : Int)), (40, .int .i64 (k1_19 : Int)), (49, .slice p23 ((ix d.Next (k1_19 : Int)).length) c24), (50, .int .i64 ((ix d.Next (k1_19 : Int)).length : Int)), (51, .int .i64 (k2_29 : Int))] ⟨rfl, rfl, rfl, rfl, rfl, rfl, rfl, rfl, trivial⟩ ?_
     intro σ _
     refine zr (zo (op_add rfl rfl (wrap_i64 (natbd h30 yJ.bd))) (zm rfl (zn ?_)))
     exact hX2 _ H _ _ ⟨⟨rfl, rfl, rfl, rfl, rfl, rfl, rfl, rfl, trivial⟩, hO, ah, ak, yJ, hB⟩
    replace H := ifn h30 H
    refine zo (fun w => opB (op_lss rfl rfl w) (decide_eq_false h30)) (zn (zq (zf rfl rfl ?_)))
    refine Go1.exit rfl ?_
    refine Go1.inBlock ?_
    refine zr (zo (op_add rfl rfl (wrap_i64 (natbd h20 ak.bd))) (zm rfl (zn ?_)))
    exact hX1 _ H _ _ ⟨⟨rfl, rfl, rfl, rfl, rfl, trivial⟩, hO, ah, ak, hB⟩
   replace H := ifn h27 H
   refine zo (fun w => opB (op_neq rfl rfl w) (ndF h27)) (zn (zt rfl rfl (zq (zr (za rfl ?_)))))
   refine zn ?_
   refine Go1.ret1 Try.func16 rfl ?_
   exact ⟨(4 : Int), rfl, hB.same, H⟩
  replace H := ifn h20 H
  refine zo (fun w => opB (op_lss rfl rfl w) (decide_eq_false h20)) (zn (zq (zf rfl rfl ?_)))
  refine Go1.exit rfl ?_
  refine zq (zr (za rfl (zn ?_)))
  refine Go1.ret1 Try.func16 rfl ?_
  exact ⟨(0 : Int), rfl, hB.same, H⟩
 replace H := ifn h15 H
 refine zo (fun w => opB (op_neq rfl rfl w) (ndF h15)) (zo (op_pickF rfl rfl rfl) (zm rfl (zp (zp (zp ?_)))))
 refine zo (op_pickT rfl rfl rfl) (zm rfl (zp (zp (zp (zp ?_)))))
 refine zo (op_pickT rfl rfl rfl) (zn (zt rfl rfl (zq (zr (za rfl ?_)))))
 refine zn ?_
 refine Go1.ret1 Try.func16 rfl ?_
 replace hB := (hB.trans dG.fr).trans rf.fr
 exact ⟨(4 : Int), rfl, hB.same, H⟩
theorem body17 : Body Try.prog 17 := ⟨Try.f17, Try.func17, rfl, by kernel_rfl⟩
theorem walk_law21_small {A : List Nat} {w0 : World} {aU : Option Addr} {aV : Nat} {aX : Option Addr} {aY : Nat} {d : DFA} {most : Int} (hA : ∀ b ∈ A, b < w0.heap.size) (ah : ISl (Rp.bool) A w0 aU aV d.Final) (ak : ISl (Rp.sl (Rp.int .i64)) A w0 aX aY d.Next) {K : Bool → Prop} (H : law21_small d most K) :
    CallsV Try.prog 17 #[.agg #[.int .i64 d.Letters, .int .i64 d.Start, .slice aU d.Final.length aV, .slice aX d.Next.length aY], .int .i64 most] w0 (fun v w' => ∃ (r0 : Bool), v = .bool r0 ∧ Same w0 w' ∧ K r0) := by
 refine CallsV.of (l := [.agg #[.int .i64 d.Letters, .int .i64 d.Start, .slice aU d.Final.length aV, .slice aX d.Next.length aY], .int .i64 most]) Try.func17 rfl Try.ntmps17 rfl ?_
 have hO := Owns.start hA
 have hB := Fr.refl (bl []) w0
 unfold law21_small at H
 refine zq (zr ?_)
 have hobt := obox (t := 25) (v := .agg #[.int .i64 d.Letters, .int .i64 d.Start, .slice aU d.Final.length aV, .slice aX d.Next.length aY]) (cs := #[.int .i64 d.Letters, .int .i64 d.Start, .slice aU d.Final.length aV, .slice aX d.Next.length aY]) hO rfl
 obtain ⟨w1, B2, dG, hs4, lb⟩ := hobt
 refine zg (lb rfl) ?_
 replace hO := dG.own
 refine za rfl (zn (zq (zr (zo (op_fieldAddr Try.underlying25 rfl ti22 rfl (by decide)) (zs (oblk (i := 2) 0 hO rfl rfl Try.underlying22 rfl rfl) ?_)))))
 refine zo (op_len Try.underlying22 rfl) ?_
 replace ah := (ah.ch (Ch.start A w0)).ch dG.ch
 replace H := H ah.bd
 refine zm rfl ?_
 by_cases h7 : (d.Final.length : Int) ≤ most
 ·replace H := ifp h7 H
  refine zo (fun w => opB (op_leq rfl rfl w) (decide_eq_true h7)) (zm rfl (zo (op_fieldAddr Try.underlying25 rfl ti3 rfl (by decide)) (zs (oblk (i := 0) 0 hO rfl rfl Try.underlying3 rfl rfl) ?_)))
  by_cases h8 : d.Letters ≤ (2 : Int)
  ·replace H := ifp h8 H
   refine zo (fun w => opB (op_leq rfl rfl w) (decide_eq_true h8)) (zo (op_pickT rfl rfl rfl) (zm rfl (zs (oblkAgg (vs := [.int .i64 d.Letters, .int .i64 d.Start, .slice aU d.Final.length aV, .slice aX d.Next.length aY]) (i := 0) 0 hO rfl rfl Try.underlying25 rfl ti25 rfl) ?_)))
   replace ak := (ak.ch (Ch.start A w0)).ch dG.ch
   refine GoR.call (op_call body16 rfl (walk_ref07_Validate (d := d) hO.lt ah ak H)) rfl rfl ?_
   rintro v13 w10 ⟨r9, rfl, Aq, H⟩
   have A8 := Stp.same hO Aq
   replace hO := A8.own
   by_cases h15 : r9 = (0 : Int)
   ·replace H := ifp h15 H
    refine zo (fun w => opB (op_eql rfl rfl w) (decide_eq_true h15)) (zo (op_pickT rfl rfl rfl) (za rfl (zn ?_)))
    refine Go1.ret1 Try.func17 rfl ?_
    replace hB := (hB.trans dG.fr).trans A8.fr
    exact ⟨true, rfl, hB.same, H⟩
   replace H := ifn h15 H
   refine zo (fun w => opB (op_eql rfl rfl w) (decide_eq_false h15)) (zo (op_pickT rfl rfl rfl) (za rfl (zn ?_)))
   refine Go1.ret1 Try.func17 rfl ?_
   replace hB := (hB.trans dG.fr).trans A8.fr
   exact ⟨false, rfl, hB.same, H⟩
  replace H := ifn h8 H
  refine zo (fun w => opB (op_leq rfl rfl w) (decide_eq_false h8)) (zo (op_pickT rfl rfl rfl) (zm rfl (zp (zp (zp ?_)))))
  refine zo (op_pickF rfl rfl rfl) (za rfl (zn ?_))
  refine Go1.ret1 Try.func17 rfl ?_
  replace hB := hB.trans dG.fr
  exact ⟨false, rfl, hB.same, H⟩
 replace H := ifn h7 H
 refine zo (fun w => opB (op_leq rfl rfl w) (decide_eq_false h7)) (zm rfl (zp (zp (zp (zo (op_pickF rfl rfl rfl) ?_)))))
 refine zm rfl (zp (zp (zp (zo (op_pickF rfl rfl rfl) (za rfl ?_)))))
 refine zn ?_
 refine Go1.ret1 Try.func17 rfl ?_
 replace hB := hB.trans dG.fr
 exact ⟨false, rfl, hB.same, H⟩
theorem body60 : Body Try.prog 60 := ⟨Try.f60, Try.func60, rfl, by kernel_rfl⟩
theorem walk_law21_ab {A : List Nat} {w0 : World} (hA : ∀ b ∈ A, b < w0.heap.size) {K : DFA → Prop} (H : law21_ab  K) :
    CallsV Try.prog 60 #[] w0 (fun v w' => ∃ (r0 : DFA), ∃ (jo : Option Addr), ∃ (jp : Nat), ∃ (kq : Option Addr), ∃ (kr : Nat), v = .agg #[.int .i64 r0.Letters, .int .i64 r0.Start, .slice jo r0.Final.length jp, .slice kq r0.Next.length kr] ∧ Same w0 w' ∧ ISl (Rp.bool) A w' jo jp r0.Final ∧ ISl (Rp.sl (Rp.int .i64)) A w' kq kr r0.Next ∧ K r0) := by
 refine CallsV.of (l := []) Try.func60 rfl Try.ntmps60 rfl ?_
 have hO := Owns.start hA
 have hB := Fr.refl (bl []) w0
 unfold law21_ab at H
 refine zq (zr ?_)
 have hobt := oalloc (t := 25) (cs := #[.int .i64 (0 : Int), .int .i64 (0 : Int), .slice none 0 0, .slice none 0 0]) ti25 hO rfl
 obtain ⟨w1, B2, dG, hs4, lb⟩ := hobt
 refine GoR.op lb rfl rfl ?_
 replace hO := dG.own
 refine zn (zq (zr ?_))
 have hobt := obuild (r := Rp.bool) (n := 3) (parts := [(0, .bool true), (1, .bool false), (2, .bool false)]) (vs := [.bool true, .bool false, .bool false]) (xs := [true, false, false]) rfl Try.underlying22 ti4 hO (by decide) (by kernel_rfl) (Els.cons rfl rfl (Els.cons rfl rfl (Els.cons rfl rfl (Els.nil _ _ _) (by simp [mx])) (by simp [mx])) (by simp [mx])) rfl
 obtain ⟨w7, p8, gr, rF, Aq, K6⟩ := hobt
 refine zg (K6 rfl) ?_
 replace hO := gr.own
 have hobt := obuild (r := Rp.int .i64) (n := 2) (parts := [(0, .int .i64 (1 : Int)), (1, .int .i64 (2 : Int))]) (vs := [.int .i64 (1 : Int), .int .i64 (2 : Int)]) (xs := [(1 : Int), (2 : Int)]) rfl Try.underlying31 ti3 hO (by decide) (by kernel_rfl) (Els.cons rfl rfl (Els.cons rfl rfl (Els.nil _ _ _) (by simp [mx])) (by simp [mx])) rfl
 obtain ⟨w14, p15, rT, wv, TC, K7⟩ := hobt
 refine zg (K7 rfl) ?_
 replace hO := rT.own
 have hobt := obuild (r := Rp.int .i64) (n := 2) (parts := [(0, .int .i64 (2 : Int)), (1, .int .i64 (0 : Int))]) (vs := [.int .i64 (2 : Int), .int .i64 (0 : Int)]) (xs := [(2 : Int), (0 : Int)]) rfl Try.underlying31 ti3 hO (by decide) (by kernel_rfl) (Els.cons rfl rfl (Els.cons rfl rfl (Els.nil _ _ _) (by simp [mx])) (by simp [mx])) rfl
 obtain ⟨w21, p22, kS, cj, TD, Di⟩ := hobt
 refine zg (Di rfl) ?_
 replace hO := kS.own
 have hobt := obuild (r := Rp.int .i64) (n := 2) (parts := [(0, .int .i64 (2 : Int)), (1, .int .i64 (2 : Int))]) (vs := [.int .i64 (2 : Int), .int .i64 (2 : Int)]) (xs := [(2 : Int), (2 : Int)]) rfl Try.underlying31 ti3 hO (by decide) (by kernel_rfl) (Els.cons rfl rfl (Els.cons rfl rfl (Els.nil _ _ _) (by simp [mx])) (by simp [mx])) rfl
 obtain ⟨w28, p29, zA, BC, TE, Df⟩ := hobt
 refine zg (Df rfl) ?_
 replace hO := zA.own
 replace wv := (wv.ch kS.ch).ch zA.ch
 have hobt := freeze 2 hO rfl wv
 obtain ⟨hO1, Dj, tc, PM⟩ := hobt
 dsimp only [eS, eZ] at hO1 Dj tc
 replace hB := (((((hB.trans dG.fr).trans gr.fr).trans rT.fr).trans kS.fr).trans zA.fr).trans (Owns.dropFr _ _ 2)
 dsimp only [eS, eZ] at hB
 replace hO := hO1; clear hO1
 replace cj := (cj.ch zA.ch).ch Dj
 have hobt := freeze 1 hO rfl cj
 obtain ⟨hO1, Dk, uQ, PO⟩ := hobt
 dsimp only [eS, eZ] at hO1 Dk uQ
 replace hB := hB.trans (Owns.dropFr _ _ 1)
 dsimp only [eS, eZ] at hB
 replace hO := hO1; clear hO1
 replace BC := (BC.ch Dj).ch Dk
 have hobt := freeze 0 hO rfl BC
 obtain ⟨hO1, yK, uR, EG⟩ := hobt
 dsimp only [eS, eZ] at hO1 yK uR
 replace hB := hB.trans (Owns.dropFr _ _ 0)
 dsimp only [eS, eZ] at hB
 replace hO := hO1; clear hO1
 replace uQ := uQ.ch yK
 replace tc := (tc.ch Dk).ch yK
 have hobt := obuild (r := Rp.sl (Rp.int .i64)) (n := 3) (parts := [(0, .slice p15 2 2), (1, .slice p22 2 2), (2, .slice p29 2 2)]) (vs := [.slice p15 2 2, .slice p22 2 2, .slice p29 2 2]) (xs := [[(1 : Int), (2 : Int)], [(2 : Int), (0 : Int)], [(2 : Int), (2 : Int)]]) rfl Try.underlying23 ti31 hO (by decide) (by kernel_rfl) (Els.cons rfl ⟨p15, 2, congrArg some (congrArg (fun nn => Value.slice p15 nn 2) PM), tc⟩ (Els.cons rfl ⟨p22, 2, congrArg some (congrArg (fun nn => Value.slice p22 nn 2) PO), uQ⟩ (Els.cons rfl ⟨p29, 2, congrArg some (congrArg (fun nn => Value.slice p29 nn 2) EG), uR⟩ (Els.nil _ _ _) (by simp [mx])) (by simp [mx])) (by simp [mx])) rfl
 obtain ⟨w44, p45, xX, BD, HM, Dh⟩ := hobt
 refine zg (Dh rfl) ?_
 replace hO := xX.own
 refine zo (op_build Try.underlying25 ti25 (pl := [(0, 1), (1, 1), (2, 1), (3, 1)]) (vs := [(0, .int .i64 (2 : Int)), (2, .slice p8 3 3), (3, .slice p45 3 3)]) (cs := #[.int .i64 (2 : Int), .int .i64 (0 : Int), .slice p8 3 3, .slice p45 3 3]) (by kernel_rfl) rfl (by kernel_rfl)) ?_
 have hobt := oblkStAgg (us := [.int .i64 (2 : Int), .int .i64 (0 : Int), .slice p8 3 3, .slice p45 3 3]) (o := 0) (cs' := #[.int .i64 (2 : Int), .int .i64 (0 : Int), .slice p8 3 3, .slice p45 3 3]) 2 hO rfl rfl (Nat.le_of_ble_eq_true rfl) rfl
 obtain ⟨w51, wU, Dl⟩ := hobt
 refine zg (Dl ti25 (by exact rfl) (by exact rfl) rfl) ?_
 replace hO := wU.own
 refine zn ?_
 have Z1 := ((((((rT.ch.trans kS.ch).trans zA.ch).trans Dj).trans Dk).trans yK).trans xX.ch).trans wU.ch
 replace rF := rF.ch Z1
 have hobt := freeze 1 hO rfl rF
 obtain ⟨hO1, yL, BE, EH⟩ := hobt
 replace hO := hO1; clear hO1
 replace BD := (BD.ch wU.ch).ch yL
 have hobt := freeze 0 hO rfl BD
 obtain ⟨hO1, Dn, PP, PQ⟩ := hobt
 replace hO := hO1; clear hO1
 refine Go1.retC1 Try.func60 rfl rfl (run_loadBlk (vs := [.int .i64 (2 : Int), .int .i64 (0 : Int), .slice p8 3 3, .slice p45 3 3]) 0 hO rfl rfl Try.underlying25 rfl ti25) ?_
 replace BE := BE.ch Dn
 replace hB := (((hB.trans xX.fr).trans wU.fr).trans (Owns.dropFr _ _ 1)).trans (Owns.dropFr _ _ 0)
 exact ⟨(⟨(2 : Int), (0 : Int), [true, false, false], [[(1 : Int), (2 : Int)], [(2 : Int), (0 : Int)], [(2 : Int), (2 : Int)]]⟩ : DFA), p8, 3, p45, 3, (congrArg (fun l => Value.agg (List.toArray l)) (cons_eq rfl (cons_eq rfl (cons_eq (congrArg (fun nn => Value.slice p8 nn 3) EH) (cons_eq (congrArg (fun nn => Value.slice p45 nn 3) PQ) rfl))))), hB.same, (BE.ch (Ch.weak _ _ _)), (PP.ch (Ch.weak _ _ _)), H⟩
theorem body61 : Body Try.prog 61 := ⟨Try.f61, Try.func61, rfl, by kernel_rfl⟩
theorem walk_dfa_Validate {A : List Nat} {w0 : World} {aU : Option Addr} {aV : Nat} {aX : Option Addr} {aY : Nat} {d : DFA} (hA : ∀ b ∈ A, b < w0.heap.size) (ah : ISl (Rp.bool) A w0 aU aV d.Final) (ak : ISl (Rp.sl (Rp.int .i64)) A w0 aX aY d.Next) {K : Int → Prop} (H : dfa_Validate d K) :
    CallsV Try.prog 61 #[.agg #[.int .i64 d.Letters, .int .i64 d.Start, .slice aU d.Final.length aV, .slice aX d.Next.length aY]] w0 (fun v w' => ∃ (r0 : Int), v = .int .i64 r0 ∧ Same w0 w' ∧ K r0) := by
 refine CallsV.of (l := [.agg #[.int .i64 d.Letters, .int .i64 d.Start, .slice aU d.Final.length aV, .slice aX d.Next.length aY]]) Try.func61 rfl Try.ntmps61 rfl ?_
 have hO := Owns.start hA
 have hB := Fr.refl (bl []) w0
 unfold dfa_Validate at H
 refine zq (zr ?_)
 have hobt := obox (t := 25) (v := .agg #[.int .i64 d.Letters, .int .i64 d.Start, .slice aU d.Final.length aV, .slice aX d.Next.length aY]) (cs := #[.int .i64 d.Letters, .int .i64 d.Start, .slice aU d.Final.length aV, .slice aX d.Next.length aY]) hO rfl
 obtain ⟨w1, B2, dG, hs4, lb⟩ := hobt
 refine zg (lb rfl) ?_
 replace hO := dG.own
 refine za rfl (zn (zq (zq (zr (zo (op_fieldAddr Try.underlying25 rfl ti3 rfl (by decide)) ?_)))))
 refine zs (oblk (i := 0) 0 hO rfl rfl Try.underlying3 rfl rfl) ?_
 by_cases h7 : d.Letters < (1 : Int)
 ·replace H := ifp h7 H
  refine zo (fun w => opB (op_lss rfl rfl w) (decide_eq_true h7)) (zm rfl (zp (zp (zp (zo (op_pickT rfl rfl rfl) ?_)))))
  refine zn (zt rfl rfl (zq (zr (za rfl (zn ?_)))))
  refine Go1.ret1 Try.func61 rfl ?_
  replace hB := hB.trans dG.fr
  exact ⟨(1 : Int), rfl, hB.same, H⟩
 replace H := ifn h7 H
 refine zo (fun w => opB (op_lss rfl rfl w) (decide_eq_false h7)) (zm rfl (zo (op_fieldAddr Try.underlying25 rfl ti3 rfl (by decide)) (zs (oblk (i := 0) 0 hO rfl rfl Try.underlying3 rfl rfl) ?_)))
 by_cases h8 : (6 : Int) < d.Letters
 ·replace H := ifp h8 H
  refine zo (fun w => opB (op_gtr rfl rfl w) (decide_eq_true h8)) (zo (op_pickF rfl rfl rfl) (zn (zt rfl rfl (zq (zr ?_)))))
  refine za rfl (zn ?_)
  refine Go1.ret1 Try.func61 rfl ?_
  replace hB := hB.trans dG.fr
  exact ⟨(1 : Int), rfl, hB.same, H⟩
 replace H := ifn h8 H
 refine zo (fun w => opB (op_gtr rfl rfl w) (decide_eq_false h8)) (zo (op_pickF rfl rfl rfl) (zn (zf rfl rfl (zk (zq ?_)))))
 refine zr (zo (op_fieldAddr Try.underlying25 rfl ti22 rfl (by decide)) (zs (oblk (i := 2) 0 hO rfl rfl Try.underlying22 rfl rfl) (zo (op_len Try.underlying22 rfl) ?_)))
 replace ah := (ah.ch (Ch.start A w0)).ch dG.ch
 replace H := H ah.bd
 refine za rfl (zn (zq (zq ?_)))
 refine Go1.cut [(1, .pointer (some ⟨B2, 0, none⟩)), (3, .int .i64 (d.Final.length : Int))] ⟨rfl, rfl, trivial⟩ ?_
 intro σ _
 refine zr (zm rfl ?_)
 by_cases h9 : (512 : Int) < (d.Final.length : Int)
 ·replace H := ifp h9 H
  refine zo (fun w => opB (op_gtr rfl rfl w) (decide_eq_true h9)) (zn (zt rfl rfl (zq (zr (za rfl ?_)))))
  refine zn ?_
  refine Go1.ret1 Try.func61 rfl ?_
  replace hB := hB.trans dG.fr
  exact ⟨(3 : Int), rfl, hB.same, H⟩
 replace H := ifn h9 H
 refine zo (fun w => opB (op_gtr rfl rfl w) (decide_eq_false h9)) (zn (zf rfl rfl (zk (zq (zq ?_)))))
 refine zr (zo (op_fieldAddr Try.underlying25 rfl ti23 rfl (by decide)) (zs (oblk (i := 3) 0 hO rfl rfl Try.underlying23 rfl rfl) (zo (op_len Try.underlying23 rfl) ?_)))
 replace ak := (ak.ch (Ch.start A w0)).ch dG.ch
 replace H := H ak.bd
 refine zm rfl ?_
 by_cases h10 : (d.Next.length : Int) = (d.Final.length : Int)
 ·replace H := ifp h10 H
  refine zo (fun w => opB (op_neq rfl rfl w) (ndT h10)) (zm rfl (zo (op_fieldAddr Try.underlying25 rfl ti3 rfl (by decide)) (zs (oblk (i := 1) 0 hO rfl rfl Try.underlying3 rfl rfl) ?_)))
  by_cases h11 : d.Start < (0 : Int)
  ·replace H := ifp h11 H
   refine zo (fun w => opB (op_lss rfl rfl w) (decide_eq_true h11)) (zo (op_pickF rfl rfl rfl) (zm rfl (zp (zp (zp ?_)))))
   refine zp (zo (op_pickT rfl rfl rfl) (zn (zt rfl rfl (zq ?_))))
   refine Go1.cut [] trivial ?_
   intro σ _
   refine zr (za rfl (zn ?_))
   refine Go1.ret1 Try.func61 rfl ?_
   replace hB := hB.trans dG.fr
   exact ⟨(4 : Int), rfl, hB.same, H⟩
  replace H := ifn h11 H
  refine zo (fun w => opB (op_lss rfl rfl w) (decide_eq_false h11)) (zo (op_pickF rfl rfl rfl) (zm rfl (zo (op_fieldAddr Try.underlying25 rfl ti3 rfl (by decide)) (zs (oblk (i := 1) 0 hO rfl rfl Try.underlying3 rfl rfl) (zm rfl ?_)))))
  by_cases h12 : (d.Final.length : Int) ≤ d.Start
  ·replace H := ifp h12 H
   refine zo (fun w => opB (op_geq rfl rfl w) (decide_eq_true h12)) (zo (op_pickF rfl rfl rfl) (zn (zt rfl rfl (zq (zr ?_)))))
   refine za rfl (zn ?_)
   refine Go1.ret1 Try.func61 rfl ?_
   replace hB := hB.trans dG.fr
   exact ⟨(4 : Int), rfl, hB.same, H⟩
  replace H := ifn h12 H
  refine zo (fun w => opB (op_geq rfl rfl w) (decide_eq_false h12)) (zo (op_pickF rfl rfl rfl) (zn (zf rfl rfl (zk (zq ?_)))))
  refine zq (zr (zo (op_fieldAddr Try.underlying25 rfl ti23 rfl (by decide)) (zs (oblk (i := 3) 0 hO rfl rfl Try.underlying23 rfl rfl) (zo (op_len Try.underlying23 rfl) (zm rfl ?_)))))
  refine zn (zb ?_)
  replace hB := hB.trans dG.fr
  refine Go1.loopW (S := Nat) (fun s σ w => agrees σ [(1, .pointer (some ⟨B2, 0, none⟩)), (3, .int .i64 (d.Final.length : Int)), (38, .slice aX d.Next.length aY), (39, .int .i64 (d.Next.length : Int)), (40, .int .i64 (s : Int))] ∧ (fun Z0 => Owns w0.heap.size w Z0 A ∧ ISl (Rp.bool) (bl Z0 ++ A) w aU aV d.Final ∧ ISl (Rp.sl (Rp.int .i64)) (bl Z0 ++ A) w aX aY d.Next ∧ Fr (bl []) w0 (bl Z0) w) [.blk B2 (.cells #[.int .i64 d.Letters, .int .i64 d.Start, .slice aU d.Final.length aV, .slice aX d.Next.length aY] 25 (0, 0))]) H ⟨⟨rfl, rfl, rfl, rfl, rfl, trivial⟩, hO, ah, ak, hB⟩ ?_
  intro X1 k1_14
  intro H hX1 σ w13
  refine andE fun hag => andE fun hO => andE fun ah => andE fun ak => fun hB => ?_
  refine Go1.keep [(1, .pointer (some ⟨B2, 0, none⟩)), (3, .int .i64 (d.Final.length : Int)), (38, .slice aX d.Next.length aY), (39, .int .i64 (d.Next.length : Int)), (40, .int .i64 (k1_14 : Int))] hag ?_
  refine zq (zr ?_)
  by_cases h15 : (k1_14 : Int) < (d.Next.length : Int)
  ·replace H := ifp h15 H
   refine zo (fun w => opB (op_lss rfl rfl w) (decide_eq_true h15)) (zn (zq (zt rfl rfl (zk (zq ?_)))))
   refine zb (zq (zr ?_))
   obtain ⟨h16, H⟩ := H
   obtain ⟨h17, H⟩ := H
   refine zo (op_index Try.underlying23 ti31 rfl rfl h16 h17 (ak.some_ h16 h17)) ?_
   have hobt := ldSl ak h16 h17
   obtain ⟨p18, c19, yM, PR⟩ := hobt
   refine zs (PR Try.underlying31 rfl rfl) (za rfl (zn (zq (zq (zr ?_)))))
   refine zm rfl (zo (op_len Try.underlying31 rfl) ?_)
   replace H := H yM.bd
   refine zo (op_fieldAddr Try.underlying25 rfl ti3 rfl (by decide)) (zs (oblk (i := 0) 0 hO rfl rfl Try.underlying3 rfl rfl) ?_)
   by_cases h22 : ((ix d.Next (k1_14 : Int)).length : Int) = d.Letters
   ·replace H := ifp h22 H
    refine zo (fun w => opB (op_neq rfl rfl w) (ndT h22)) (zn (zf rfl rfl (zk (zq (zr ?_)))))
    refine zm rfl (zo (op_len Try.underlying31 rfl) (zm rfl (zn (zb ?_))))
    refine Go1.loopW (S := Nat) (fun s σ w => agrees σ [(1, .pointer (some ⟨B2, 0, none⟩)), (3, .int .i64 (d.Final.length : Int)), (38, .slice aX d.Next.length aY), (39, .int .i64 (d.Next.length : Int)), (40, .int .i64 (k1_14 : Int)), (49, .slice p18 ((ix d.Next (k1_14 : Int)).length) c19), (50, .int .i64 ((ix d.Next (k1_14 : Int)).length : Int)), (51, .int .i64 (s : Int))] ∧ (fun Z0 => Owns w0.heap.size w Z0 A ∧ ISl (Rp.bool) (bl Z0 ++ A) w aU aV d.Final ∧ ISl (Rp.sl (Rp.int .i64)) (bl Z0 ++ A) w aX aY d.Next ∧ ISl (Rp.int .i64) (bl Z0 ++ A) w p18 c19 (ix d.Next (k1_14 : Int)) ∧ Fr (bl []) w0 (bl Z0) w) [.blk B2 (.cells #[.int .i64 d.Letters, .int .i64 d.Start, .slice aU d.Final.length aV, .slice aX d.Next.length aY] 25 (0, 0))]) H ⟨⟨rfl, rfl, rfl, rfl, rfl, rfl, rfl, rfl, trivial⟩, hO, ah, ak, yM, hB⟩ ?_
    intro X2 k2_24
    intro H hX2 σ w23
    refine andE fun hag => andE fun hO => andE fun ah => andE fun ak => andE fun yM => fun hB => ?_
    refine Go1.keep [(1, .pointer (some ⟨B2, 0, none⟩)), (3, .int .i64 (d.Final.length : Int)), (38, .slice aX d.Next.length aY), (39, .int .i64 (d.Next.length : Int)), (40, .int .i64 (k1_14 : Int)), (49, .slice p18 ((ix d.Next (k1_14 : Int)).length) c19), (50, .int .i64 ((ix d.Next (k1_14 : Int)).length : Int)), (51, .int .i64 (k2_24 : Int))] hag ?_
    refine zq (zr ?_)
    by_cases h25 : (k2_24 : Int) < ((ix d.Next (k1_14 : Int)).length : Int)
    ·replace H := ifp h25 H
     refine zo (fun w => opB (op_lss rfl rfl w) (decide_eq_true h25)) (zn (zq (zt rfl rfl (zk (zq ?_)))))
     refine zb (zq (zr ?_))
     obtain ⟨h26, H⟩ := H
     obtain ⟨h27, H⟩ := H
     refine zo (op_index Try.underlying31 ti3 rfl rfl h26 h27 (yM.some_ h26 h27)) (zs (ldInt yM h26 h27 Try.underlying3 rfl rfl) (za rfl (zn (zq (zr ?_)))))
     refine zm rfl ?_
     by_cases h28 : (ix (ix d.Next (k1_14 : Int)) (k2_24 : Int)) < (0 : Int)
     ·replace H := ifp h28 H
      refine zo (fun w => opB (op_lss rfl rfl w) (decide_eq_true h28)) (zm rfl (zp (zp (zp (zo (op_pickT rfl rfl rfl) ?_)))))
      refine zn (zt rfl rfl (zq (zr (za rfl (zn ?_)))))
      refine Go1.ret1 Try.func61 rfl ?_
      exact ⟨(4 : Int), rfl, hB.same, H⟩
     replace H := ifn h28 H
     refine zo (fun w => opB (op_lss rfl rfl w) (decide_eq_false h28)) (zm rfl (zm rfl (zm rfl ?_)))
     by_cases h29 : (d.Final.length : Int) ≤ (ix (ix d.Next (k1_14 : Int)) (k2_24 : Int))
     ·replace H := ifp h29 H
      refine zo (fun w => opB (op_geq rfl rfl w) (decide_eq_true h29)) (zo (op_pickF rfl rfl rfl) (zn (zt rfl rfl (zq (zr ?_)))))
      refine za rfl (zn ?_)
      refine Go1.ret1 Try.func61 rfl ?_
      exact ⟨(4 : Int), rfl, hB.same, H⟩
     replace H := ifn h29 H
     refine zo (fun w => opB (op_geq rfl rfl w) (decide_eq_false h29)) (zo (op_pickF rfl rfl rfl) (zn (zf rfl rfl (zk ?_))))
     refine Go1.inBlock ?_
     refine Go1.cut [(1, .pointer (some ⟨B2, 0, none⟩)), (3, .int .i64 (d.Final.length : Int)), (38, .slice aX d.Next.length aY), (39, .int .i64 (d.Next.length : Int)), (40, .int .i64 (k1_14 : Int)), (49, .slice p18 ((ix d.Next (k1_14 : Int)).length) c19), (50, .int .i64 ((ix d.Next (k1_14 : Int)).length : Int)), (51, .int .i64 (k2_24 : Int))] ⟨rfl, rfl, rfl, rfl, rfl, rfl, rfl, rfl, trivial⟩ ?_
     intro σ _
     refine zr (zo (op_add rfl rfl (wrap_i64 (natbd h25 yM.bd))) (zm rfl (zn ?_)))
     exact hX2 _ H _ _ ⟨⟨rfl, rfl, rfl, rfl, rfl, rfl, rfl, rfl, trivial⟩, hO, ah, ak, yM, hB⟩
    replace H := ifn h25 H
    refine zo (fun w => opB (op_lss rfl rfl w) (decide_eq_false h25)) (zn (zq (zf rfl rfl ?_)))
    refine Go1.exit rfl ?_
    refine Go1.inBlock ?_
    refine zr (zo (op_add rfl rfl (wrap_i64 (natbd h15 ak.bd))) (zm rfl (zn ?_)))
    exact hX1 _ H _ _ ⟨⟨rfl, rfl, rfl, rfl, rfl, trivial⟩, hO, ah, ak, hB⟩
   replace H := ifn h22 H
   refine zo (fun w => opB (op_neq rfl rfl w) (ndF h22)) (zn (zt rfl rfl (zq (zr (za rfl ?_)))))
   refine zn ?_
   refine Go1.ret1 Try.func61 rfl ?_
   exact ⟨(4 : Int), rfl, hB.same, H⟩
  replace H := ifn h15 H
  refine zo (fun w => opB (op_lss rfl rfl w) (decide_eq_false h15)) (zn (zq (zf rfl rfl ?_)))
  refine Go1.exit rfl ?_
  refine zq (zr (za rfl (zn ?_)))
  refine Go1.ret1 Try.func61 rfl ?_
  exact ⟨(0 : Int), rfl, hB.same, H⟩
 replace H := ifn h10 H
 refine zo (fun w => opB (op_neq rfl rfl w) (ndF h10)) (zm rfl (zp (zp (zp (zo (op_pickT rfl rfl rfl) ?_)))))
 refine zm rfl (zp (zp (zp (zp (zo (op_pickT rfl rfl rfl) ?_)))))
 refine zn (zt rfl rfl (zq (zr (za rfl (zn ?_)))))
 refine Go1.ret1 Try.func61 rfl ?_
 replace hB := hB.trans dG.fr
 exact ⟨(4 : Int), rfl, hB.same, H⟩
theorem body141 : Body Try.prog 141 := ⟨Try.f141, Try.func141, rfl, by kernel_rfl⟩
theorem body140 : Body Try.prog 140 := ⟨Try.f140, Try.func140, rfl, by kernel_rfl⟩
theorem body163 : Body Try.prog 163 := ⟨Try.f163, Try.func163, rfl, by kernel_rfl⟩
theorem body139 : Body Try.prog 139 := ⟨Try.f139, Try.func139, rfl, by kernel_rfl⟩
theorem body109 : Body Try.prog 109 := ⟨Try.f109, Try.func109, rfl, by kernel_rfl⟩
theorem walk_dfa_Trim {A : List Nat} {w0 : World} {aU : Option Addr} {aV : Nat} {aX : Option Addr} {aY : Nat} {d : DFA} (hA : ∀ b ∈ A, b < w0.heap.size) (ah : ISl (Rp.bool) A w0 aU aV d.Final) (ak : ISl (Rp.sl (Rp.int .i64)) A w0 aX aY d.Next) {K : DFA → List Int → Prop} (H : dfa_Trim d K) :
    CallsV Try.prog 109 #[.agg #[.int .i64 d.Letters, .int .i64 d.Start, .slice aU d.Final.length aV, .slice aX d.Next.length aY]] w0 (fun v w' => ∃ (r0 : DFA), ∃ (r1 : List Int), ∃ (jo : Option Addr), ∃ (jp : Nat), ∃ (kq : Option Addr), ∃ (kr : Nat), ∃ (BG : Option Addr), ∃ (BH : Nat), v = .tuple #[.agg #[.int .i64 r0.Letters, .int .i64 r0.Start, .slice jo r0.Final.length jp, .slice kq r0.Next.length kr], .slice BG r1.length BH] ∧ Same w0 w' ∧ ISl (Rp.bool) A w' jo jp r0.Final ∧ ISl (Rp.sl (Rp.int .i64)) A w' kq kr r0.Next ∧ ISl (Rp.int .i64) A w' BG BH r1 ∧ K r0 r1) := by
 refine CallsV.of (l := [.agg #[.int .i64 d.Letters, .int .i64 d.Start, .slice aU d.Final.length aV, .slice aX d.Next.length aY]]) Try.func109 rfl Try.ntmps109 rfl ?_
 have hO := Owns.start hA
 have hB := Fr.refl (bl []) w0
 unfold dfa_Trim at H
 refine zq (zr ?_)
 have hobt := obox (t := 25) (v := .agg #[.int .i64 d.Letters, .int .i64 d.Start, .slice aU d.Final.length aV, .slice aX d.Next.length aY]) (cs := #[.int .i64 d.Letters, .int .i64 d.Start, .slice aU d.Final.length aV, .slice aX d.Next.length aY]) hO rfl
 obtain ⟨w1, B2, dG, hs4, lb⟩ := hobt
 refine zg (lb rfl) ?_
 replace hO := dG.own
 have hobt := oalloc (t := 25) (cs := #[.int .i64 (0 : Int), .int .i64 (0 : Int), .slice none 0 0, .slice none 0 0]) ti25 hO rfl
 obtain ⟨w7, B8, gr, wV, te⟩ := hobt
 refine GoR.op te rfl rfl ?_
 replace hO := gr.own
 refine za rfl (zn (zq (zq (zr (zs (oblkAgg (vs := [.int .i64 d.Letters, .int .i64 d.Start, .slice aU d.Final.length aV, .slice aX d.Next.length aY]) (i := 0) 1 hO rfl rfl Try.underlying25 rfl ti25 rfl) ?_)))))
 have Z1 := ((Ch.start A w0).trans dG.ch).trans gr.ch
 replace ah := ah.ch Z1
 replace ak := ak.ch Z1
 refine GoR.call (op_call body61 rfl (walk_dfa_Validate (d := d) hO.lt ah ak H)) rfl rfl ?_
 rintro v17 w14 ⟨r13, rfl, yI, H⟩
 have ji := Stp.same hO yI
 replace hO := ji.own
 by_cases h19 : r13 = (0 : Int)
 ·replace H := ifp h19 H
  refine zo (fun w => opB (op_neq rfl rfl w) (ndT h19)) (zn (zf rfl rfl (zk (zq (zr ?_)))))
  refine zo (op_fieldAddr Try.underlying25 rfl ti3 rfl (by decide)) (zs (oblk (i := 0) 1 hO rfl rfl Try.underlying3 rfl rfl) (zo (op_fieldAddr Try.underlying25 rfl ti3 rfl (by decide)) (zs (oblk (i := 1) 1 hO rfl rfl Try.underlying3 rfl rfl) (zo (op_makeFunc (vs := [.pointer (some ⟨B2, 0, none⟩)]) rfl) (zo (op_makeFunc (vs := [.pointer (some ⟨B2, 0, none⟩)]) rfl) ?_)))))
  refine GoR.inl (vs := [.int .i64 d.Letters, .int .i64 d.Start, .func (.func 140) #[] #[.pointer (some ⟨B2, 0, none⟩)], .func (.func 141) #[] #[.pointer (some ⟨B2, 0, none⟩)]]) (caps := []) rfl rfl body139 Try.func139 rfl Try.ntmps139 rfl rfl rfl ?_
  intro RhR20 hR20
  refine zq (zr ?_)
  have hobt := oalloc (t := 25) (cs := #[.int .i64 (0 : Int), .int .i64 (0 : Int), .slice none 0 0, .slice none 0 0]) ti25 hO rfl
  obtain ⟨w21, B22, kS, TF, zB⟩ := hobt
  refine GoR.op zB rfl rfl ?_
  replace hO := kS.own
  refine za rfl (za rfl (zn (zq (zr ?_))))
  have hobt := oalloc (t := 188) (cs := #[.slice none 0 0, .map none]) ti188 hO rfl
  obtain ⟨w27, B28, sF, PS, Do⟩ := hobt
  refine GoR.op Do rfl rfl ?_
  replace hO := sF.own
  refine zn (zq (zr (zm rfl ?_)))
  refine GoR.inl (vs := [.pointer (some ⟨B28, 0, none⟩), .int .i64 d.Start]) (caps := []) rfl rfl body163 Try.func163 rfl Try.ntmps163 rfl rfl rfl ?_
  intro RhR33 hR33
  refine zq ?_
  refine Go1.cut [(0, .pointer (some ⟨B28, 0, none⟩)), (1, .int .i64 d.Start)] ⟨rfl, rfl, trivial⟩ ?_
  intro σ _
  refine zr (za rfl (zn (zq (zr (zm rfl ?_)))))
  refine zo (op_nilCheck rfl) (zo (op_fieldAddr Try.underlying188 rfl ti168 rfl (by decide)) (zs (oblk (i := 1) 0 hO rfl rfl Try.underlying168 rfl rfl) (zm rfl (zs (fun w _ => olookN (a := d.Start) (MK.int Try.underlying3) Try.underlying168 ti3 rfl rfl w) (zm rfl ?_)))))
  refine zo (op_extract rfl rfl) (zo (op_extract rfl rfl) (za rfl (za rfl (zn (zq ?_)))))
  refine zq (zr (zm rfl (zo (op_not rfl) (zn (zt rfl rfl ?_)))))
  refine zq (zq (zr (zm rfl (zo (op_nilCheck rfl) (zo (op_fieldAddr Try.underlying188 rfl ti168 rfl (by decide)) ?_)))))
  refine zs (oblk (i := 1) 0 hO rfl rfl Try.underlying168 rfl rfl) (zo (fun w => opB (op_nilMap Try.underlying168 rfl rfl w) rfl) (zn (zt rfl rfl ?_)))
  refine Go1.cut [(0, .pointer (some ⟨B28, 0, none⟩)), (1, .int .i64 d.Start)] ⟨rfl, rfl, trivial⟩ ?_
  intro σ _
  refine zr (zm rfl ?_)
  have hobt := omakeMap (fun a : Int => Value.int .i64 a) (fun a : Int => Value.int .i64 a) hO
  obtain ⟨w34, B35, A9, HL, Dp⟩ := hobt
  refine GoR.op Dp rfl rfl ?_
  replace hO := A9.own
  refine zo (op_nilCheck rfl) (zo (op_fieldAddr Try.underlying188 rfl ti168 rfl (by decide)) ?_)
  have hobt := oblkSt2 (v := .map (some B35)) (i := 1) (cs' := #[.slice none 0 0, .map (some B35)]) 1 hO rfl rfl rfl rfl
  obtain ⟨w40, tW, K8⟩ := hobt
  dsimp only [sS, sZ] at tW
  refine zg (K8 Try.underlying168 rfl ti168 (by exact rfl) (by exact rfl)) ?_
  replace hO := tW.own
  refine zn (zq (zr (zm rfl (zo (op_nilCheck rfl) (zo (op_fieldAddr Try.underlying188 rfl ti31 rfl (by decide)) ?_)))))
  refine zs (oblk (i := 0) 1 hO rfl rfl Try.underlying31 rfl rfl) (zo (op_len Try.underlying31 rfl) (za rfl (zn (zq (zr ?_)))))
  refine zm rfl (zo (op_nilCheck rfl) (zo (op_fieldAddr Try.underlying188 rfl ti168 rfl (by decide)) (zs (oblk (i := 1) 1 hO rfl rfl Try.underlying168 rfl rfl) (zm rfl (zm rfl ?_)))))
  have hobt := omapUpd (MK.int Try.underlying3) 0 hO rfl Try.underlying168 d.Start (0 : Int)
  obtain ⟨w43, zC, Dg⟩ := hobt
  dsimp only [sS, sZ] at zC
  refine zg (Dg (by exact rfl) (by exact rfl) (by exact rfl)) ?_
  replace hO := zC.own
  refine zn (zr (zm rfl (zm rfl (zo (op_nilCheck rfl) (zo (op_fieldAddr Try.underlying188 rfl ti31 rfl (by decide)) ?_)))))
  refine zs (oblk (i := 0) 1 hO rfl rfl Try.underlying31 rfl rfl) (zm rfl ?_)
  have hobt := obuild (r := Rp.int .i64) (n := 1) (parts := [(0, .int .i64 d.Start)]) (vs := [.int .i64 d.Start]) (xs := [d.Start]) rfl Try.underlying31 ti3 hO (by decide) (by kernel_rfl) (Els.cons rfl rfl (Els.nil _ _ _) (by simp [mx])) rfl
  obtain ⟨w46, p47, iC, EI, TG, K9⟩ := hobt
  refine zg (K9 rfl) ?_
  replace hO := iC.own
  have hobt := freeze 0 hO rfl EI
  obtain ⟨hO1, EJ, se, PT⟩ := hobt
  dsimp only [eS, eZ] at hO1 EJ se
  replace hB := (((((((((hB.trans dG.fr).trans gr.fr).trans ji.fr).trans kS.fr).trans sF.fr).trans A9.fr).trans tW.fr).trans zC.fr).trans iC.fr).trans (Owns.dropFr _ _ 0)
  dsimp only [eS, eZ] at hB
  replace hO := hO1; clear hO1
  have zD := Stp.nil (e := 3) (r := 1) hO
  replace hO := zD.own
  have PU := Els.nil (Rp.int .i64) (bl (.row 3 1 none 0 0 [] :: [.any (mapE (fun a : Int => Value.int .i64 a) (fun a : Int => Value.int .i64 a) B35 (mput (([] : List (Int × Int))) d.Start ((0 : Int)))), .blk B28 (.cells #[.slice none 0 0, .map (some B35)] 188 (0, 0)), .blk B22 (.cells #[.int .i64 (0 : Int), .int .i64 (0 : Int), .slice none 0 0, .slice none 0 0] 25 (0, 0)), .blk B8 (.cells #[.int .i64 (0 : Int), .int .i64 (0 : Int), .slice none 0 0, .slice none 0 0] 25 (0, 0)), .blk B2 (.cells #[.int .i64 d.Letters, .int .i64 d.Start, .slice aU d.Final.length aV, .slice aX d.Next.length aY] 25 (0, 0))]) ++ A) w46
  obtain ⟨h59, H⟩ := H
  replace se := se.ch zD.ch
  have hobt := oapp Try.underlying31 ti3 rfl 0 hO rfl PU se PT h59 (by decide)
  obtain ⟨w60, p61, c62, EK, jl, uS, La⟩ := hobt
  dsimp only [sS, sZ] at jl uS
  refine zg (La (by exact rfl) (by exact rfl)) ?_
  replace hO := jl.own
  refine zo (op_nilCheck rfl) (zo (op_fieldAddr Try.underlying188 rfl ti31 rfl (by decide)) ?_)
  have hobt := oblkSt2 (v := .slice p61 (0 + 1) c62) (i := 0) (cs' := #[.slice p61 (0 + 1) c62, .map (some B35)]) 2 hO rfl rfl rfl rfl
  obtain ⟨w68, wW, Lb⟩ := hobt
  dsimp only [sS, sZ] at wW
  refine zg (Lb Try.underlying31 rfl ti31 (by exact rfl) (by exact rfl)) ?_
  replace hO := wW.own
  refine zn (zq ?_)
  refine Go1.cut [(5, .int .i64 (0 : Int))] ⟨rfl, trivial⟩ ?_
  intro σ _
  refine zr (zm rfl (za rfl (zn ?_)))
  refine Go1.ret1V Try.func163 rfl (show _ = .int .i64 (0 : Int) from rfl) ?_
  refine hR33 _ _ ?_
  refine zn (zq (zr (zm rfl (zo (op_build Try.underlying25 ti25 (pl := [(0, 1), (1, 1), (2, 1), (3, 1)]) (vs := [(0, .int .i64 d.Letters)]) (cs := #[.int .i64 d.Letters, .int .i64 (0 : Int), .slice none 0 0, .slice none 0 0]) (by kernel_rfl) rfl (by kernel_rfl)) ?_))))
  have hobt := oalloc (t := 25) (cs := #[.int .i64 (0 : Int), .int .i64 (0 : Int), .slice none 0 0, .slice none 0 0]) ti25 hO rfl
  obtain ⟨w71, B72, jm, PV, Dq⟩ := hobt
  refine GoR.op Dq rfl rfl ?_
  replace hO := jm.own
  have hobt := oblkStAgg (us := [.int .i64 d.Letters, .int .i64 (0 : Int), .slice none 0 0, .slice none 0 0]) (o := 0) (cs' := #[.int .i64 d.Letters, .int .i64 (0 : Int), .slice none 0 0, .slice none 0 0]) 0 hO rfl rfl (Nat.le_of_ble_eq_true rfl) rfl
  obtain ⟨w77, wX, Lc⟩ := hobt
  dsimp only [sS, sZ] at wX
  refine zg (Lc ti25 (by exact rfl) (by exact rfl) rfl) ?_
  replace hO := wX.own
  refine zn (zq (zq (zr (za rfl (zn ?_)))))
  refine zb ?_
  have gI := Stp.nil (e := 4) (r := 1) hO
  replace hO := gI.own
  have yN := Els.nil (Rp.bool) (bl (.row 4 1 none 0 0 [] :: [.blk B72 (.cells #[.int .i64 d.Letters, .int .i64 (0 : Int), .slice none 0 0, .slice none 0 0] 25 (0, 0)), .row 3 1 p61 (0 + 1) c62 EK, .any (mapE (fun a : Int => Value.int .i64 a) (fun a : Int => Value.int .i64 a) B35 (mput (([] : List (Int × Int))) d.Start ((0 : Int)))), .blk B28 (.cells #[.slice p61 (0 + 1) c62, .map (some B35)] 188 (0, 0)), .blk B22 (.cells #[.int .i64 (0 : Int), .int .i64 (0 : Int), .slice none 0 0, .slice none 0 0] 25 (0, 0)), .blk B8 (.cells #[.int .i64 (0 : Int), .int .i64 (0 : Int), .slice none 0 0, .slice none 0 0] 25 (0, 0)), .blk B2 (.cells #[.int .i64 d.Letters, .int .i64 d.Start, .slice aU d.Final.length aV, .slice aX d.Next.length aY] 25 (0, 0))]) ++ A) w77
  have rU := Stp.nil (e := 31) (r := 1) hO
  replace hO := rU.own
  have yO := Els.nil (Rp.sl (Rp.int .i64)) (bl (.row 31 1 none 0 0 [] :: [.row 4 1 none 0 0 [], .blk B72 (.cells #[.int .i64 d.Letters, .int .i64 (0 : Int), .slice none 0 0, .slice none 0 0] 25 (0, 0)), .row 3 1 p61 (0 + 1) c62 EK, .any (mapE (fun a : Int => Value.int .i64 a) (fun a : Int => Value.int .i64 a) B35 (mput (([] : List (Int × Int))) d.Start ((0 : Int)))), .blk B28 (.cells #[.slice p61 (0 + 1) c62, .map (some B35)] 188 (0, 0)), .blk B22 (.cells #[.int .i64 (0 : Int), .int .i64 (0 : Int), .slice none 0 0, .slice none 0 0] 25 (0, 0)), .blk B8 (.cells #[.int .i64 (0 : Int), .int .i64 (0 : Int), .slice none 0 0, .slice none 0 0] 25 (0, 0)), .blk B2 (.cells #[.int .i64 d.Letters, .int .i64 d.Start, .slice aU d.Final.length aV, .slice aX d.Next.length aY] 25 (0, 0))]) ++ A) w77
  replace yN := yN.ch rU.ch
  have Z2 := (((wW.ch.trans jm.ch).trans wX.ch).trans gI.ch).trans rU.ch
  replace uS := uS.ch Z2
  replace hB := ((((((hB.trans zD.fr).trans jl.fr).trans wW.fr).trans jm.fr).trans wX.fr).trans gI.fr).trans rU.fr
  have Z3 := (((((((((((((ji.ch.trans kS.ch).trans sF.ch).trans A9.ch).trans tW.ch).trans zC.ch).trans iC.ch).trans EJ).trans zD.ch).trans jl.ch).trans wW.ch).trans jm.ch).trans wX.ch).trans gI.ch).trans rU.ch
  replace ah := ah.ch Z3
  replace ak := ak.ch Z3
  refine Go1.loopW (S := Nat × List (List Int) × List Bool × List Int × (List (Int × Int))) (fun s σ w => match s with | (k1_87, d_88, d_94, d_100, m1_106) => ∃ (n93 : Nat), ∃ (p91 : Option Addr), ∃ (c92 : Nat), ∃ (fA : List Value), ∃ (n99 : Nat), ∃ (p97 : Option Addr), ∃ (c98 : Nat), ∃ (fv : List Value), ∃ (eK : Nat), ∃ (eM : Option Addr), ∃ (eN : Nat), ∃ (fh : List Value), agrees σ [(0, .int .i64 d.Letters), (2, .func (.func 140) #[] #[.pointer (some ⟨B2, 0, none⟩)]), (3, .func (.func 141) #[] #[.pointer (some ⟨B2, 0, none⟩)]), (8, .pointer (some ⟨B22, 0, none⟩)), (11, .pointer (some ⟨B28, 0, none⟩)), (12, .pointer (some ⟨B72, 0, none⟩)), (13, .int .i64 (k1_87 : Int))] ∧ (fun Z0 => Owns w0.heap.size w Z0 A ∧ Els (Rp.sl (Rp.int .i64)) (bl Z0 ++ A) w fA d_88 ∧ Els (Rp.bool) (bl Z0 ++ A) w fv d_94 ∧ Els (Rp.int .i64) (bl Z0 ++ A) w fh d_100 ∧ ISl (Rp.bool) (bl Z0 ++ A) w aU aV d.Final ∧ ISl (Rp.sl (Rp.int .i64)) (bl Z0 ++ A) w aX aY d.Next ∧ Fr (bl []) w0 (bl Z0) w) [.row 31 1 p91 n93 c92 fA, .row 4 1 p97 n99 c98 fv, .blk B72 (.cells #[.int .i64 d.Letters, .int .i64 (0 : Int), .slice p97 n99 c98, .slice p91 n93 c92] 25 (0, 0)), .row 3 1 eM eK eN fh, .any (mapE (fun a : Int => Value.int .i64 a) (fun a : Int => Value.int .i64 a) B35 m1_106), .blk B28 (.cells #[.slice eM eK eN, .map (some B35)] 188 (0, 0)), .blk B22 (.cells #[.int .i64 (0 : Int), .int .i64 (0 : Int), .slice none 0 0, .slice none 0 0] 25 (0, 0)), .blk B8 (.cells #[.int .i64 (0 : Int), .int .i64 (0 : Int), .slice none 0 0, .slice none 0 0] 25 (0, 0)), .blk B2 (.cells #[.int .i64 d.Letters, .int .i64 d.Start, .slice aU d.Final.length aV, .slice aX d.Next.length aY] 25 (0, 0))]) H ⟨0, none, 0, [], 0, none, 0, [], 0 + 1, p61, c62, EK, ⟨rfl, rfl, rfl, rfl, rfl, rfl, rfl, trivial⟩, hO, yO, yN, uS, ah, ak, hB⟩ ?_
  intro X1
  refine prE fun k1_87 => prE fun d_88 => prE fun d_94 => prE fun d_100 => fun m1_106 => ?_
  intro H hX1 σ w86
  refine exE fun n93 => exE fun p91 => exE fun c92 => exE fun fA => exE fun n99 => exE fun p97 => exE fun c98 => exE fun fv => exE fun eK => exE fun eM => exE fun eN => exE fun fh => andE fun hag => andE fun hO => andE fun b9 => andE fun b7 => andE fun b8 => andE fun ah => andE fun ak => fun hB => ?_
  dsimp only at H
  refine Go1.keep [(0, .int .i64 d.Letters), (2, .func (.func 140) #[] #[.pointer (some ⟨B2, 0, none⟩)]), (3, .func (.func 141) #[] #[.pointer (some ⟨B2, 0, none⟩)]), (8, .pointer (some ⟨B22, 0, none⟩)), (11, .pointer (some ⟨B28, 0, none⟩)), (12, .pointer (some ⟨B72, 0, none⟩)), (13, .int .i64 (k1_87 : Int))] hag ?_
  refine zq (zq (zr (zm rfl (zo (op_fieldAddr Try.underlying188 rfl ti31 rfl (by decide)) (zs (oblk (i := 0) 5 hO rfl rfl Try.underlying31 rfl rfl) ?_)))))
  refine zo (op_lenN Try.underlying31 rfl (b8.neq hO 3 rfl)) ?_
  by_cases qR : (k1_87 : Int) < (d_100.length : Int)
  ·replace H := ifp qR H
   refine zo (fun w => opB (op_lss rfl rfl w) (decide_eq_true qR)) (zn (zt rfl rfl (zk (zq (zb ?_)))))
   refine zq (zr (zo (op_fieldAddr Try.underlying188 rfl ti31 rfl (by decide)) (zs (oblk (i := 0) 5 hO rfl rfl Try.underlying31 rfl rfl) (zm rfl ?_))))
   obtain ⟨sV, H⟩ := H
   obtain ⟨uT, H⟩ := H
   refine zo (op_index Try.underlying31 ti3 rfl rfl sV (ltn (b8.neq hO 3 rfl) uT) (b8.psome hO 3 rfl sV uT)) (zs (oldInt 3 hO rfl b8 sV uT Try.underlying3 rfl rfl) (za rfl (zn (zq (zr ?_)))))
   refine zm rfl ?_
   obtain ⟨Ar, H⟩ := H
   obtain ⟨PW, H⟩ := H
   have hobt := omake (n := d.Letters) (r := Rp.int .i64) (d := (0 : Int)) Try.underlying31 ti3 (fun _ _ => rfl) rfl hO Ar PW (by decide)
   obtain ⟨TH, tf, nY, vq, Hh, Sx, HN⟩ := hobt
   refine zg (HN rfl rfl) ?_
   replace hO := vq.own
   refine za rfl (zn (zq (zq (zr (zm rfl ?_)))))
   refine zo (op_lenN Try.underlying31 rfl (Hh.neq hO 0 rfl)) (zm rfl (zn (zb ?_)))
   replace b9 := b9.ch vq.ch
   replace b7 := b7.ch vq.ch
   replace b8 := b8.ch vq.ch
   replace ah := ah.ch vq.ch
   replace ak := ak.ch vq.ch
   replace hB := hB.trans vq.fr
   refine Go1.loopW (S := Nat × List Int × List Int × (List (Int × Int))) (fun s σ w => match s with | (k2_121, d_122, d_125, m2_131) => ∃ (tX : List Value), ∃ (lN : Nat), ∃ (nQ : Option Addr), ∃ (nS : Nat), ∃ (rV : List Value), agrees σ [(0, .int .i64 d.Letters), (2, .func (.func 140) #[] #[.pointer (some ⟨B2, 0, none⟩)]), (3, .func (.func 141) #[] #[.pointer (some ⟨B2, 0, none⟩)]), (8, .pointer (some ⟨B22, 0, none⟩)), (11, .pointer (some ⟨B28, 0, none⟩)), (12, .pointer (some ⟨B72, 0, none⟩)), (13, .int .i64 (k1_87 : Int)), (14, .int .i64 (ix d_100 (k1_87 : Int))), (15, .slice tf d.Letters.toNat d.Letters.toNat), (36, .int .i64 ((List.replicate d.Letters.toNat ((0 : Int))).length : Int)), (37, .int .i64 (k2_121 : Int))] ∧ (fun Z0 => Owns w0.heap.size w Z0 A ∧ Els (Rp.int .i64) (bl Z0 ++ A) w tX d_122 ∧ Els (Rp.sl (Rp.int .i64)) (bl Z0 ++ A) w fA d_88 ∧ Els (Rp.bool) (bl Z0 ++ A) w fv d_94 ∧ Els (Rp.int .i64) (bl Z0 ++ A) w rV d_125 ∧ ISl (Rp.bool) (bl Z0 ++ A) w aU aV d.Final ∧ ISl (Rp.sl (Rp.int .i64)) (bl Z0 ++ A) w aX aY d.Next ∧ Fr (bl []) w0 (bl Z0) w) [.row 3 1 tf d.Letters.toNat d.Letters.toNat tX, .row 31 1 p91 n93 c92 fA, .row 4 1 p97 n99 c98 fv, .blk B72 (.cells #[.int .i64 d.Letters, .int .i64 (0 : Int), .slice p97 n99 c98, .slice p91 n93 c92] 25 (0, 0)), .row 3 1 nQ lN nS rV, .any (mapE (fun a : Int => Value.int .i64 a) (fun a : Int => Value.int .i64 a) B35 m2_131), .blk B28 (.cells #[.slice nQ lN nS, .map (some B35)] 188 (0, 0)), .blk B22 (.cells #[.int .i64 (0 : Int), .int .i64 (0 : Int), .slice none 0 0, .slice none 0 0] 25 (0, 0)), .blk B8 (.cells #[.int .i64 (0 : Int), .int .i64 (0 : Int), .slice none 0 0, .slice none 0 0] 25 (0, 0)), .blk B2 (.cells #[.int .i64 d.Letters, .int .i64 d.Start, .slice aU d.Final.length aV, .slice aX d.Next.length aY] 25 (0, 0))]) H ⟨nY, eK, eM, eN, fh, ⟨rfl, rfl, rfl, rfl, rfl, rfl, rfl, rfl, rfl, rfl, rfl, trivial⟩, hO, Hh, b9, b7, b8, ah, ak, hB⟩ ?_
   intro X2
   refine prE fun k2_121 => prE fun d_122 => prE fun d_125 => fun m2_131 => ?_
   intro H hX2 σ TI
   refine exE fun tX => exE fun lN => exE fun nQ => exE fun nS => exE fun rV => andE fun hag => andE fun hO => andE fun io => andE fun b9 => andE fun b7 => andE fun dO => andE fun ah => andE fun ak => fun hB => ?_
   dsimp only at H
   refine Go1.keep [(0, .int .i64 d.Letters), (2, .func (.func 140) #[] #[.pointer (some ⟨B2, 0, none⟩)]), (3, .func (.func 141) #[] #[.pointer (some ⟨B2, 0, none⟩)]), (8, .pointer (some ⟨B22, 0, none⟩)), (11, .pointer (some ⟨B28, 0, none⟩)), (12, .pointer (some ⟨B72, 0, none⟩)), (13, .int .i64 (k1_87 : Int)), (14, .int .i64 (ix d_100 (k1_87 : Int))), (15, .slice tf d.Letters.toNat d.Letters.toNat), (36, .int .i64 ((List.replicate d.Letters.toNat ((0 : Int))).length : Int)), (37, .int .i64 (k2_121 : Int))] hag ?_
   refine zq (zr ?_)
   by_cases xw : (k2_121 : Int) < ((List.replicate d.Letters.toNat ((0 : Int))).length : Int)
   ·replace H := ifp xw H
    refine zo (fun w => opB (op_lss rfl rfl w) (decide_eq_true xw)) (zn (zq (zt rfl rfl (zk (zq ?_)))))
    refine zb (zq (zr (zm rfl (za rfl (zn ?_)))))
    refine zr (zm rfl (zm rfl (zm rfl (zm rfl (zm rfl ?_)))))
    refine GoR.inl (vs := [.int .i64 (ix d_100 (k1_87 : Int)), .int .i64 (k2_121 : Int)]) (caps := [.pointer (some ⟨B2, 0, none⟩)]) rfl rfl body140 Try.func140 rfl Try.ntmps140 rfl rfl rfl ?_
    intro RhR133 hR133
    refine zq (zr (za rfl (zn (zq (zr ?_)))))
    refine zo (op_fieldAddr Try.underlying25 rfl ti23 rfl (by decide)) (zs (oblk (i := 3) 9 hO rfl rfl Try.underlying23 rfl rfl) (zm rfl ?_))
    obtain ⟨EL, H⟩ := H
    obtain ⟨EM, H⟩ := H
    refine zo (op_index Try.underlying23 ti31 rfl rfl EL EM (ak.some_ EL EM)) ?_
    have hobt := ldSl ak EL EM
    obtain ⟨TJ, TK, jq, Ld⟩ := hobt
    refine zs (Ld Try.underlying31 rfl rfl) (zm rfl ?_)
    obtain ⟨yP, H⟩ := H
    obtain ⟨wY, H⟩ := H
    refine zo (op_index Try.underlying31 ti3 rfl rfl yP wY (jq.some_ yP wY)) (zs (ldInt jq yP wY Try.underlying3 rfl rfl) (za rfl (zn ?_)))
    refine Go1.ret1V Try.func140 rfl (show _ = .int .i64 (ix (ix d.Next (ix d_100 (k1_87 : Int))) (k2_121 : Int)) from rfl) ?_
    refine hR133 _ _ ?_
    refine GoR.inl (vs := [.pointer (some ⟨B28, 0, none⟩), .int .i64 (ix (ix d.Next (ix d_100 (k1_87 : Int))) (k2_121 : Int))]) (caps := []) rfl rfl body163 Try.func163 rfl Try.ntmps163 rfl rfl rfl ?_
    intro RhR142 hR142
    refine zq ?_
    refine Go1.cut [(0, .pointer (some ⟨B28, 0, none⟩)), (1, .int .i64 (ix (ix d.Next (ix d_100 (k1_87 : Int))) (k2_121 : Int)))] ⟨rfl, rfl, trivial⟩ ?_
    intro σ _
    refine zr (za rfl (zn (zq (zr (zm rfl ?_)))))
    refine zo (op_nilCheck rfl) (zo (op_fieldAddr Try.underlying188 rfl ti168 rfl (by decide)) (zs (oblk (i := 1) 6 hO rfl rfl Try.underlying168 rfl rfl) (zm rfl ?_)))
    by_cases Dr : mhas m2_131 ((ix (ix d.Next (ix d_100 (k1_87 : Int))) (k2_121 : Int))) = true
    ·replace H := ifp Dr H
     refine zs (olookT (a := (ix (ix d.Next (ix d_100 (k1_87 : Int))) (k2_121 : Int))) (MK.int Try.underlying3) 5 hO rfl Try.underlying168 rfl rfl Dr) (zm rfl (zo (op_extract rfl rfl) (zo (op_extract rfl rfl) (za rfl (za rfl ?_)))))
     refine zn (zq (zq (zr (zm rfl (zo (op_not rfl) ?_)))))
     refine zn (zf rfl rfl (zk (zq (zr (zm rfl ?_)))))
     refine za rfl (zn ?_)
     refine Go1.ret1V Try.func163 rfl (show _ = .int .i64 (mgt m2_131 ((ix (ix d.Next (ix d_100 (k1_87 : Int))) (k2_121 : Int)))) from rfl) ?_
     refine hR142 _ _ ?_
     obtain ⟨EO, H⟩ := H
     obtain ⟨EP, H⟩ := H
     refine zo (op_index Try.underlying31 ti3 rfl rfl EO (ltn (io.neq hO 0 rfl) EP) (io.psome hO 0 rfl EO EP)) ?_
     have hobt := ost (r := Rp.int .i64) rfl 0 hO rfl io EO EP (v := .int .i64 (mgt m2_131 ((ix (ix d.Next (ix d_100 (k1_87 : Int))) (k2_121 : Int))))) (u := (mgt m2_131 ((ix (ix d.Next (ix d_100 (k1_87 : Int))) (k2_121 : Int))))) rfl rfl
     obtain ⟨TL, Ds, lg, dm, HO⟩ := hobt
     dsimp only [sS, sZ] at lg dm
     refine zg (HO Try.underlying3 rfl ti3 (by exact rfl) (by exact rfl)) ?_
     replace hO := lg.own
     refine zn ?_
     refine Go1.inBlock ?_
     refine zr ?_
     obtain ⟨PX, H⟩ := H
     refine zo (op_add rfl rfl (wrap_i64 PX)) (zm rfl (zn ?_))
     replace b9 := b9.ch lg.ch
     replace b7 := b7.ch lg.ch
     replace dO := dO.ch lg.ch
     replace ah := ah.ch lg.ch
     replace ak := ak.ch lg.ch
     replace hB := hB.trans lg.fr
     exact hX2 _ H _ _ ⟨Ds, lN, nQ, nS, rV, ⟨rfl, rfl, rfl, rfl, rfl, rfl, rfl, rfl, rfl, rfl, rfl, trivial⟩, hO, dm, b9, b7, dO, ah, ak, hB⟩
    replace H := ifn Dr H
    refine zs (olookF (a := (ix (ix d.Next (ix d_100 (k1_87 : Int))) (k2_121 : Int))) (MK.int Try.underlying3) 5 hO rfl Try.underlying168 ti3 rfl rfl Dr) (zm rfl (zo (op_extract rfl rfl) (zo (op_extract rfl rfl) (za rfl (za rfl ?_)))))
    refine zn (zq (zq ?_))
    refine Go1.cut [(0, .pointer (some ⟨B28, 0, none⟩)), (1, .int .i64 (ix (ix d.Next (ix d_100 (k1_87 : Int))) (k2_121 : Int))), (5, .int .i64 (0 : Int)), (6, .bool false)] ⟨rfl, rfl, rfl, rfl, trivial⟩ ?_
    intro σ _
    refine zr (zm rfl (zo (op_not rfl) (zn (zt rfl rfl (zq ?_)))))
    refine zq (zr (zm rfl (zo (op_nilCheck rfl) (zo (op_fieldAddr Try.underlying188 rfl ti168 rfl (by decide)) (zs (oblk (i := 1) 6 hO rfl rfl Try.underlying168 rfl rfl) ?_)))))
    refine zo (fun w => opB (op_nilMap Try.underlying168 rfl rfl w) rfl) (zn (zf rfl rfl (zk (zq (zr ?_)))))
    refine zm rfl (zo (op_nilCheck rfl) (zo (op_fieldAddr Try.underlying188 rfl ti31 rfl (by decide)) (zs (oblk (i := 0) 6 hO rfl rfl Try.underlying31 rfl rfl) (zo (op_lenN Try.underlying31 rfl (dO.neq hO 4 rfl)) (za rfl ?_)))))
    refine zn (zq (zr (zm rfl (zo (op_nilCheck rfl) (zo (op_fieldAddr Try.underlying188 rfl ti168 rfl (by decide)) ?_)))))
    refine zs (oblk (i := 1) 6 hO rfl rfl Try.underlying168 rfl rfl) (zm rfl (zm rfl ?_))
    have hobt := omapUpd (MK.int Try.underlying3) 5 hO rfl Try.underlying168 (ix (ix d.Next (ix d_100 (k1_87 : Int))) (k2_121 : Int)) (d_125.length : Int)
    obtain ⟨TM, ss, BJ⟩ := hobt
    dsimp only [sS, sZ] at ss
    refine zg (BJ (by exact rfl) (by exact rfl) (by exact rfl)) ?_
    replace hO := ss.own
    refine zn ?_
    refine Go1.cut [(0, .pointer (some ⟨B28, 0, none⟩)), (1, .int .i64 (ix (ix d.Next (ix d_100 (k1_87 : Int))) (k2_121 : Int))), (5, .int .i64 (d_125.length : Int))] ⟨rfl, rfl, rfl, trivial⟩ ?_
    intro σ _
    refine zr (zm rfl (zm rfl (zo (op_nilCheck rfl) (zo (op_fieldAddr Try.underlying188 rfl ti31 rfl (by decide)) (zs (oblk (i := 0) 6 hO rfl rfl Try.underlying31 rfl rfl) ?_)))))
    refine zm rfl ?_
    have hobt := obuild (r := Rp.int .i64) (n := 1) (parts := [(0, .int .i64 (ix (ix d.Next (ix d_100 (k1_87 : Int))) (k2_121 : Int)))]) (vs := [.int .i64 (ix (ix d.Next (ix d_100 (k1_87 : Int))) (k2_121 : Int))]) (xs := [(ix (ix d.Next (ix d_100 (k1_87 : Int))) (k2_121 : Int))]) rfl Try.underlying31 ti3 hO (by decide) (by kernel_rfl) (Els.cons rfl rfl (Els.nil _ _ _) (by simp [mx])) rfl
    obtain ⟨TN, TO, tg, Le, Sy, HP⟩ := hobt
    refine zg (HP rfl) ?_
    replace hO := tg.own
    have hobt := freeze 0 hO rfl Le
    obtain ⟨hO1, vQ, vR, Lf⟩ := hobt
    dsimp only [eS, eZ] at hO1 vQ vR
    replace hB := ((hB.trans ss.fr).trans tg.fr).trans (Owns.dropFr _ _ 0)
    dsimp only [eS, eZ] at hB
    replace hO := hO1; clear hO1
    obtain ⟨BK, H⟩ := H
    have Z4 := (ss.ch.trans tg.ch).trans vQ
    replace dO := dO.ch Z4
    have hobt := oapp Try.underlying31 ti3 rfl 4 hO rfl dO vR Lf BK (by decide)
    obtain ⟨PY, EQ, ER, Lg, su, xY, HQ⟩ := hobt
    dsimp only [sS, sZ] at su xY
    refine zg (HQ (by exact rfl) (by exact rfl)) ?_
    replace hO := su.own
    refine zo (op_nilCheck rfl) (zo (op_fieldAddr Try.underlying188 rfl ti31 rfl (by decide)) ?_)
    have hobt := oblkSt2 (v := .slice EQ (lN + 1) ER) (i := 0) (cs' := #[.slice EQ (lN + 1) ER, .map (some B35)]) 6 hO rfl rfl rfl rfl
    obtain ⟨P1, rG, HR⟩ := hobt
    dsimp only [sS, sZ] at rG
    refine zg (HR Try.underlying31 rfl ti31 (by exact rfl) (by exact rfl)) ?_
    replace hO := rG.own
    refine zn (zq (zr (zm rfl (za rfl (zn ?_)))))
    refine Go1.ret1V Try.func163 rfl (show _ = .int .i64 (d_125.length : Int) from rfl) ?_
    refine hR142 _ _ ?_
    obtain ⟨xx, H⟩ := H
    obtain ⟨xz, H⟩ := H
    replace io := ((io.ch Z4).ch su.ch).ch rG.ch
    refine zo (op_index Try.underlying31 ti3 rfl rfl xx (ltn (io.neq hO 0 rfl) xz) (io.psome hO 0 rfl xx xz)) ?_
    have hobt := ost (r := Rp.int .i64) rfl 0 hO rfl io xx xz (v := .int .i64 (d_125.length : Int)) (u := (d_125.length : Int)) rfl rfl
    obtain ⟨TP, Lh, sv, Hi, HS⟩ := hobt
    dsimp only [sS, sZ] at sv Hi
    refine zg (HS Try.underlying3 rfl ti3 (by exact rfl) (by exact rfl)) ?_
    replace hO := sv.own
    refine zn ?_
    refine Go1.inBlock ?_
    refine zr ?_
    obtain ⟨P2, H⟩ := H
    refine zo (op_add rfl rfl (wrap_i64 P2)) (zm rfl (zn ?_))
    replace xY := (xY.ch rG.ch).ch sv.ch
    replace hB := ((hB.trans su.fr).trans rG.fr).trans sv.fr
    have Z5 := ((Z4.trans su.ch).trans rG.ch).trans sv.ch
    replace b9 := b9.ch Z5
    replace b7 := b7.ch Z5
    replace ah := ah.ch Z5
    replace ak := ak.ch Z5
    exact hX2 _ H _ _ ⟨Lh, lN + 1, EQ, ER, Lg, ⟨rfl, rfl, rfl, rfl, rfl, rfl, rfl, rfl, rfl, rfl, rfl, trivial⟩, hO, Hi, b9, b7, xY, ah, ak, hB⟩
   replace H := ifn xw H
   refine zo (fun w => opB (op_lss rfl rfl w) (decide_eq_false xw)) (zn (zq (zf rfl rfl ?_)))
   refine Go1.exit rfl ?_
   refine zq (zq (zr (zo (op_fieldAddr Try.underlying188 rfl ti31 rfl (by decide)) (zs (oblk (i := 0) 6 hO rfl rfl Try.underlying31 rfl rfl) (zo (op_lenN Try.underlying31 rfl (dO.neq hO 4 rfl)) ?_)))))
   by_cases Du : (512 : Int) < (d_125.length : Int)
   ·replace H := ifp Du H
    refine zo (fun w => opB (op_gtr rfl rfl w) (decide_eq_true Du)) (zn (zt rfl rfl (zq ?_)))
    refine Go1.cut [(8, .pointer (some ⟨B22, 0, none⟩))] ⟨rfl, trivial⟩ ?_
    intro σ _
    refine zr (zo (op_build Try.underlying25 ti25 (pl := [(0, 1), (1, 1), (2, 1), (3, 1)]) (vs := []) (cs := #[.int .i64 (0 : Int), .int .i64 (0 : Int), .slice none 0 0, .slice none 0 0]) (by kernel_rfl) rfl (by kernel_rfl)) ?_)
    have hobt := oblkStAgg (us := [.int .i64 (0 : Int), .int .i64 (0 : Int), .slice none 0 0, .slice none 0 0]) (o := 0) (cs' := #[.int .i64 (0 : Int), .int .i64 (0 : Int), .slice none 0 0, .slice none 0 0]) 7 hO rfl rfl (Nat.le_of_ble_eq_true rfl) rfl
    obtain ⟨TQ, lV, HT⟩ := hobt
    dsimp only [sS, sZ] at lV
    refine zg (HT ti25 (by exact rfl) (by exact rfl) rfl) ?_
    replace hO := lV.own
    refine za rfl (za rfl (zn ?_))
    refine Go1.retC3V Try.func139 rfl rfl (run_loadBlk (vs := [.int .i64 (0 : Int), .int .i64 (0 : Int), .slice none 0 0, .slice none 0 0]) 7 hO rfl rfl Try.underlying25 rfl ti25) (show _ = .slice none 0 0 from rfl) (show _ = .int .i64 (3 : Int) from rfl) ?_
    refine hR20 _ _ ?_
    refine zm rfl (zo (op_extract rfl rfl) (zo (op_extract rfl rfl) (zo (op_extract rfl rfl) ?_)))
    have hobt := oalloc (t := 25) (cs := #[.int .i64 (0 : Int), .int .i64 (0 : Int), .slice none 0 0, .slice none 0 0]) ti25 hO rfl
    obtain ⟨TS, B190, uq, Sz, HU⟩ := hobt
    refine GoR.op HU rfl rfl ?_
    replace hO := uq.own
    have hobt := oblkStAgg (us := [.int .i64 (0 : Int), .int .i64 (0 : Int), .slice none 0 0, .slice none 0 0]) (o := 0) (cs' := #[.int .i64 (0 : Int), .int .i64 (0 : Int), .slice none 0 0, .slice none 0 0]) 0 hO rfl rfl (Nat.le_of_ble_eq_true rfl) rfl
    obtain ⟨P3, tj, BL⟩ := hobt
    dsimp only [sS, sZ] at tj
    refine zg (BL ti25 (by exact rfl) (by exact rfl) rfl) ?_
    replace hO := tj.own
    refine za rfl (za rfl (zn (zq (zr (zo (op_fieldAddr Try.underlying25 rfl ti22 rfl (by decide)) ?_)))))
    refine zs (oblk (i := 2) 10 hO rfl rfl Try.underlying22 rfl rfl) (zo (op_len Try.underlying22 rfl) ?_)
    have Z6 := (lV.ch.trans uq.ch).trans tj.ch
    replace ah := ah.ch Z6
    replace H := H ah.bd
    obtain ⟨w4, H⟩ := H
    obtain ⟨BM, H⟩ := H
    have hobt := omake (n := (d.Final.length : Int)) (r := Rp.int .i64) (d := (0 : Int)) Try.underlying31 ti3 (fun _ _ => rfl) rfl hO w4 BM (by decide)
    obtain ⟨P4, uU, Li, ur, gS, SA, BN⟩ := hobt
    refine zg (BN rfl rfl) ?_
    replace hO := ur.own
    refine za rfl (zn (zq (zq (zr (zm rfl ?_)))))
    refine zo (op_lenN Try.underlying31 rfl (gS.neq hO 0 rfl)) (zm rfl (zn (zb ?_)))
    replace hO := hO.drop 2
    replace gS := gS.ch (Owns.dropCh _ _ 2)
    replace ah := (ah.ch ur.ch).ch (Owns.dropCh _ _ 2)
    have Z7 := (Z6.trans ur.ch).trans (Owns.dropCh _ _ 2)
    replace b9 := b9.ch Z7
    replace b7 := b7.ch Z7
    replace dO := dO.ch Z7
    replace ak := ak.ch Z7
    replace hB := ((((hB.trans lV.fr).trans uq.fr).trans tj.fr).trans ur.fr).trans (Owns.dropFr _ _ 2)
    dsimp only [eS, eZ] at hB hO ah ak gS b9 b7 dO
    replace hO := hO.drop 2
    replace ah := ah.ch (Owns.dropCh _ _ 2)
    replace ak := ak.ch (Owns.dropCh _ _ 2)
    replace gS := gS.ch (Owns.dropCh _ _ 2)
    replace b7 := b7.ch (Owns.dropCh _ _ 2)
    replace dO := dO.ch (Owns.dropCh _ _ 2)
    replace hB := hB.trans (Owns.dropFr _ _ 2)
    dsimp only [eS, eZ] at hB hO ah ak gS b7 dO
    replace hO := hO.drop 2
    replace ah := ah.ch (Owns.dropCh _ _ 2)
    replace ak := ak.ch (Owns.dropCh _ _ 2)
    replace gS := gS.ch (Owns.dropCh _ _ 2)
    replace dO := dO.ch (Owns.dropCh _ _ 2)
    replace hB := hB.trans (Owns.dropFr _ _ 2)
    dsimp only [eS, eZ] at hB hO ah ak gS dO
    replace hO := hO.drop 2
    replace ah := ah.ch (Owns.dropCh _ _ 2)
    replace ak := ak.ch (Owns.dropCh _ _ 2)
    replace gS := gS.ch (Owns.dropCh _ _ 2)
    replace dO := dO.ch (Owns.dropCh _ _ 2)
    replace hB := hB.trans (Owns.dropFr _ _ 2)
    dsimp only [eS, eZ] at hB hO ah ak gS dO
    replace hO := hO.drop 2
    replace ah := ah.ch (Owns.dropCh _ _ 2)
    replace ak := ak.ch (Owns.dropCh _ _ 2)
    replace gS := gS.ch (Owns.dropCh _ _ 2)
    replace hB := hB.trans (Owns.dropFr _ _ 2)
    dsimp only [eS, eZ] at hB hO ah ak gS
    replace hO := hO.drop 2
    replace ah := ah.ch (Owns.dropCh _ _ 2)
    replace ak := ak.ch (Owns.dropCh _ _ 2)
    replace gS := gS.ch (Owns.dropCh _ _ 2)
    replace hB := hB.trans (Owns.dropFr _ _ 2)
    dsimp only [eS, eZ] at hB hO ah ak gS
    replace hO := hO.drop 2
    replace ah := ah.ch (Owns.dropCh _ _ 2)
    replace ak := ak.ch (Owns.dropCh _ _ 2)
    replace gS := gS.ch (Owns.dropCh _ _ 2)
    replace hB := hB.trans (Owns.dropFr _ _ 2)
    dsimp only [eS, eZ] at hB hO ah ak gS
    replace hO := hO.drop 2
    replace ah := ah.ch (Owns.dropCh _ _ 2)
    replace ak := ak.ch (Owns.dropCh _ _ 2)
    replace gS := gS.ch (Owns.dropCh _ _ 2)
    replace hB := hB.trans (Owns.dropFr _ _ 2)
    dsimp only [eS, eZ] at hB hO ah ak gS
    replace hO := hO.drop 3
    replace gS := gS.ch (Owns.dropCh _ _ 3)
    replace hB := hB.trans (Owns.dropFr _ _ 3)
    refine Go1.loopW (S := Nat × List Int) (fun s σ w => match s with | (k3_209, number3_210) => ∃ (uY : List Value), agrees σ [(2, .pointer (some ⟨B8, 0, none⟩)), (4, .pointer (some ⟨B190, 0, none⟩)), (5, .slice none 0 0), (7, .slice uU d.Final.length d.Final.length), (31, .int .i64 ((List.replicate d.Final.length ((0 : Int))).length : Int)), (32, .int .i64 (k3_209 : Int))] ∧ (fun Z0 => Owns w0.heap.size w Z0 A ∧ Els (Rp.int .i64) (bl Z0 ++ A) w uY number3_210 ∧ Fr (bl []) w0 (bl Z0) w) [.row 3 1 uU d.Final.length d.Final.length uY, .blk B190 (.cells #[.int .i64 (0 : Int), .int .i64 (0 : Int), .slice none 0 0, .slice none 0 0] 25 (0, 0)), .blk B8 (.cells #[.int .i64 (0 : Int), .int .i64 (0 : Int), .slice none 0 0, .slice none 0 0] 25 (0, 0))]) H ⟨Li, ⟨rfl, rfl, rfl, rfl, rfl, rfl, trivial⟩, hO, gS, hB⟩ ?_
    intro X3
    refine prE fun k3_209 => fun number3_210 => ?_
    intro H hX3 σ TT
    refine exE fun uY => andE fun hag => andE fun hO => andE fun vS => fun hB => ?_
    dsimp only at H
    refine Go1.keep [(2, .pointer (some ⟨B8, 0, none⟩)), (4, .pointer (some ⟨B190, 0, none⟩)), (5, .slice none 0 0), (7, .slice uU d.Final.length d.Final.length), (31, .int .i64 ((List.replicate d.Final.length ((0 : Int))).length : Int)), (32, .int .i64 (k3_209 : Int))] hag ?_
    refine zq (zr ?_)
    by_cases Dv : (k3_209 : Int) < ((List.replicate d.Final.length ((0 : Int))).length : Int)
    ·replace H := ifp Dv H
     refine zo (fun w => opB (op_lss rfl rfl w) (decide_eq_true Dv)) (zn (zq (zt rfl rfl (zk (zq ?_)))))
     refine zb (zq (zr (zm rfl (za rfl (zn ?_)))))
     refine zr (zm rfl (zm rfl ?_))
     obtain ⟨ES, H⟩ := H
     obtain ⟨ET, H⟩ := H
     refine zo (op_index Try.underlying31 ti3 rfl rfl ES (ltn (vS.neq hO 0 rfl) ET) (vS.psome hO 0 rfl ES ET)) ?_
     have hobt := ost (r := Rp.int .i64) rfl 0 hO rfl vS ES ET (v := .int .i64 (-1 : Int)) (u := (-1 : Int)) rfl rfl
     obtain ⟨TU, Lj, ED, Lk, HV⟩ := hobt
     refine zg (HV Try.underlying3 rfl ti3 (by exact rfl) (by exact rfl)) ?_
     replace hO := ED.own
     refine zn ?_
     refine Go1.inBlock ?_
     refine zr ?_
     obtain ⟨P5, H⟩ := H
     refine zo (op_add rfl rfl (wrap_i64 P5)) (zm rfl (zn ?_))
     replace hB := hB.trans ED.fr
     exact hX3 _ H _ _ ⟨Lj, ⟨rfl, rfl, rfl, rfl, rfl, rfl, trivial⟩, hO, Lk, hB⟩
    replace H := ifn Dv H
    refine zo (fun w => opB (op_lss rfl rfl w) (decide_eq_false Dv)) (zn (zq (zf rfl rfl ?_)))
    refine Go1.exit rfl ?_
    refine zq (zq (zr (zm rfl (zo (op_len Try.underlying31 rfl) (zm rfl ?_)))))
    refine zn (zb ?_)
    refine Go1.loopW (S := Nat) (fun s σ w => agrees σ [(2, .pointer (some ⟨B8, 0, none⟩)), (4, .pointer (some ⟨B190, 0, none⟩)), (7, .slice uU d.Final.length d.Final.length), (39, .slice none 0 0), (40, .int .i64 (0 : Int)), (41, .int .i64 (s : Int))] ∧ (fun Z0 => Owns w0.heap.size w Z0 A ∧ Els (Rp.int .i64) (bl Z0 ++ A) w uY number3_210 ∧ Fr (bl []) w0 (bl Z0) w) [.row 3 1 uU d.Final.length d.Final.length uY, .blk B190 (.cells #[.int .i64 (0 : Int), .int .i64 (0 : Int), .slice none 0 0, .slice none 0 0] 25 (0, 0)), .blk B8 (.cells #[.int .i64 (0 : Int), .int .i64 (0 : Int), .slice none 0 0, .slice none 0 0] 25 (0, 0))]) H ⟨⟨rfl, rfl, rfl, rfl, rfl, rfl, trivial⟩, hO, vS, hB⟩ ?_
    intro X4 k4_223
    intro H hX4 σ P6
    refine andE fun hag => andE fun hO => andE fun vS => fun hB => ?_
    refine Go1.keep [(2, .pointer (some ⟨B8, 0, none⟩)), (4, .pointer (some ⟨B190, 0, none⟩)), (7, .slice uU d.Final.length d.Final.length), (39, .slice none 0 0), (40, .int .i64 (0 : Int)), (41, .int .i64 (k4_223 : Int))] hag ?_
    refine zq (zr ?_)
    by_cases Dw : (k4_223 : Int) < (0 : Int)
    ·replace H := ifp Dw H
     refine zo (fun w => opB (op_lss rfl rfl w) (decide_eq_true Dw)) (zn (zq (zt rfl rfl (zk (zq ?_)))))
     refine zb (zq (zr (zm rfl ?_)))
     obtain ⟨At, H⟩ := H
     obtain ⟨xA, H⟩ := H
     refine zo (op_index Try.underlying31 ti3 rfl rfl At xA (absurd xA (by omega))) ?_
     exact absurd xA (by omega)
    replace H := ifn Dw H
    refine zo (fun w => opB (op_lss rfl rfl w) (decide_eq_false Dw)) (zn (zq (zf rfl rfl ?_)))
    refine Go1.exit rfl ?_
    refine zq (zr (zs (oblkAgg (vs := [.int .i64 (0 : Int), .int .i64 (0 : Int), .slice none 0 0, .slice none 0 0]) (i := 0) 1 hO rfl rfl Try.underlying25 rfl ti25 rfl) (zm rfl ?_)))
    have hobt := oblkStAgg (us := [.int .i64 (0 : Int), .int .i64 (0 : Int), .slice none 0 0, .slice none 0 0]) (o := 0) (cs' := #[.int .i64 (0 : Int), .int .i64 (0 : Int), .slice none 0 0, .slice none 0 0]) 2 hO rfl rfl (Nat.le_of_ble_eq_true rfl) rfl
    obtain ⟨TV, BO, HW⟩ := hobt
    refine zg (HW ti25 (by exact rfl) (by exact rfl) rfl) ?_
    replace hO := BO.own
    refine za rfl (zn ?_)
    replace vS := vS.ch BO.ch
    have hobt := freeze 0 hO rfl vS
    obtain ⟨hO1, SB, Ll, Lm⟩ := hobt
    replace hO := hO1; clear hO1
    refine Go1.retC2 Try.func109 rfl rfl (run_loadBlk (vs := [.int .i64 (0 : Int), .int .i64 (0 : Int), .slice none 0 0, .slice none 0 0]) 1 hO rfl rfl Try.underlying25 rfl ti25) ?_
    replace hB := (hB.trans BO.fr).trans (Owns.dropFr _ _ 0)
    exact ⟨(⟨(0 : Int), (0 : Int), ([] : List Bool), ([] : List (List Int))⟩ : DFA), number3_210, none, 0, none, 0, uU, d.Final.length, (congrArg (fun l => Value.tuple (List.toArray l)) (cons_eq rfl (cons_eq (congrArg (fun nn => Value.slice uU nn d.Final.length) Lm) rfl))), hB.same, (ISl.null _ _ _), (ISl.null _ _ _), (Ll.ch (Ch.weak _ _ _)), H⟩
   replace H := ifn Du H
   refine zo (fun w => opB (op_gtr rfl rfl w) (decide_eq_false Du)) (zn (zf rfl rfl (zk (zq (zr ?_)))))
   refine zo (op_fieldAddr Try.underlying25 rfl ti23 rfl (by decide)) (zs (oblk (i := 3) 3 hO rfl rfl Try.underlying23 rfl rfl) (zm rfl ?_))
   have hobt := freeze 0 hO rfl io
   obtain ⟨hO1, x4, kT, Ln⟩ := hobt
   dsimp only [eS, eZ] at hO1 x4 kT
   replace hB := hB.trans (Owns.dropFr _ _ 0)
   dsimp only [eS, eZ] at hB
   replace hO := hO1; clear hO1
   have hobt := obuild (r := Rp.sl (Rp.int .i64)) (n := 1) (parts := [(0, .slice tf d.Letters.toNat d.Letters.toNat)]) (vs := [.slice tf d.Letters.toNat d.Letters.toNat]) (xs := [d_122]) rfl Try.underlying23 ti31 hO (by decide) (by kernel_rfl) (Els.cons rfl ⟨tf, d.Letters.toNat, congrArg some (congrArg (fun nn => Value.slice tf nn d.Letters.toNat) Ln), kT⟩ (Els.nil _ _ _) (by simp [mx])) rfl
   obtain ⟨P7, TW, iq, Lo, SC, HX⟩ := hobt
   refine zg (HX rfl) ?_
   replace hO := iq.own
   have hobt := freeze 0 hO rfl Lo
   obtain ⟨hO1, xa, n7, Lp⟩ := hobt
   dsimp only [eS, eZ] at hO1 xa n7
   replace hB := (hB.trans iq.fr).trans (Owns.dropFr _ _ 0)
   dsimp only [eS, eZ] at hB
   replace hO := hO1; clear hO1
   obtain ⟨P8, H⟩ := H
   have Z8 := (x4.trans iq.ch).trans xa
   replace b9 := b9.ch Z8
   have hobt := oapp Try.underlying23 ti31 rfl 0 hO rfl b9 n7 Lp P8 (by decide)
   obtain ⟨TX, Au, Aw, Hj, tm, rk, HY⟩ := hobt
   dsimp only [sS, sZ] at tm rk
   refine zg (HY (by exact rfl) (by exact rfl)) ?_
   replace hO := tm.own
   refine zo (op_fieldAddr Try.underlying25 rfl ti23 rfl (by decide)) ?_
   have hobt := oblkSt2 (v := .slice Au (n93 + 1) Aw) (i := 3) (cs' := #[.int .i64 d.Letters, .int .i64 (0 : Int), .slice p97 n99 c98, .slice Au (n93 + 1) Aw]) 2 hO rfl rfl rfl rfl
   obtain ⟨TY, sw, BP⟩ := hobt
   dsimp only [sS, sZ] at sw
   refine zg (BP Try.underlying23 rfl ti23 (by exact rfl) (by exact rfl)) ?_
   replace hO := sw.own
   refine zn ?_
   refine Go1.drawT (ok := fun _ => True) (CSv.tr [(some ⟨B72, 2, none⟩)]) [6, 8] 9 (.qp 0 (.qs 1 (.qp 2 (.qp 3 (.alt 4 (.alt 5 (.alt 6 (.qp 7 (.alt 8 .nil .fin)) .fin) .fin) .fin))))) mixed (by kernel_rfl) ?_
   intro P9 Lr
   have tn := Stp.same hO Lr
   replace hO := tn.own
   refine GoT.pure rfl (op_fieldAddr Try.underlying25 rfl ti22 rfl (by decide)) rfl rfl ?_
   refine GoT.stable rfl (loadV (.head _) rfl (blkCell 2 hO rfl rfl) Try.underlying22 rfl rfl) rfl rfl ?_
   refine GoT.pure rfl (op_move rfl) rfl rfl ?_
   refine GoT.pure rfl (op_move rfl) rfl rfl ?_
   skip
   refine GoT.inl (vs := [.int .i64 (ix d_100 (k1_87 : Int))]) (caps := [.pointer (some ⟨B2, 0, none⟩)]) rfl rfl rfl body141 Try.func141 rfl Try.ntmps141 rfl rfl rfl ?_
   intro RhR261 hR261
   have hOs262 := hO
   replace hB := ((hB.trans tm.fr).trans sw.fr).trans tn.fr
   have hBs263 := hB
   have hB := Fr.refl (bl [.row 31 1 Au (n93 + 1) Aw Hj, .row 4 1 p97 n99 c98 fv, .blk B72 (.cells #[.int .i64 d.Letters, .int .i64 (0 : Int), .slice p97 n99 c98, .slice Au (n93 + 1) Aw] 25 (0, 0)), .row 3 1 nQ lN nS rV, .any (mapE (fun a : Int => Value.int .i64 a) (fun a : Int => Value.int .i64 a) B35 m2_131), .blk B28 (.cells #[.slice nQ lN nS, .map (some B35)] 188 (0, 0)), .blk B22 (.cells #[.int .i64 (0 : Int), .int .i64 (0 : Int), .slice none 0 0, .slice none 0 0] 25 (0, 0)), .blk B8 (.cells #[.int .i64 (0 : Int), .int .i64 (0 : Int), .slice none 0 0, .slice none 0 0] 25 (0, 0)), .blk B2 (.cells #[.int .i64 d.Letters, .int .i64 d.Start, .slice aU d.Final.length aV, .slice aX d.Next.length aY] 25 (0, 0))]) P9
   refine zq ?_
   refine Go1.cut [(0, .int .i64 (ix d_100 (k1_87 : Int))), (1, .pointer (some ⟨B2, 0, none⟩))] ⟨rfl, rfl, trivial⟩ ?_
   intro σ _
   refine zr (za rfl (zn (zq (zr (zo (op_fieldAddr Try.underlying25 rfl ti22 rfl (by decide)) ?_)))))
   refine zs (oblk (i := 2) 8 hO rfl rfl Try.underlying22 rfl rfl) (zm rfl ?_)
   obtain ⟨EU, H⟩ := H
   obtain ⟨EV, H⟩ := H
   have Z9 := ((Z8.trans tm.ch).trans sw.ch).trans tn.ch
   replace ah := ah.ch Z9
   refine zo (op_index Try.underlying22 ti4 rfl rfl EU EV (ah.some_ EU EV)) (zs (ldBool ah EU EV Try.underlying4 rfl rfl) (za rfl (zn ?_)))
   refine Go1.ret1V Try.func141 rfl (show _ = .bool (ix d.Final (ix d_100 (k1_87 : Int))) from rfl) ?_
   refine hR261 _ _ (CSv.cons (cs_eq (blkCell 2 hOs262 rfl rfl) (blkCell 2 hO rfl rfl)) (CSv.nil _ _)) ?_
   replace hB := hBs263.trans hB
   skip
   have hobt := obuild (r := Rp.bool) (n := 1) (parts := [(0, .bool (ix d.Final (ix d_100 (k1_87 : Int))))]) (vs := [.bool (ix d.Final (ix d_100 (k1_87 : Int)))]) (xs := [ix d.Final (ix d_100 (k1_87 : Int))]) rfl Try.underlying22 ti4 hO (by decide) (by kernel_rfl) (Els.cons rfl rfl (Els.nil _ _ _) (by simp [mx])) rfl
   obtain ⟨T0, T1, gE, Lt, Lu, H0⟩ := hobt
   refine GoT.step rfl (H0 rfl) (CSv.same Lu) rfl rfl ?_
   replace hO := gE.own
   skip
   have hobt := freeze 0 hO rfl Lt
   obtain ⟨hO1, vT, x5, Lv⟩ := hobt
   dsimp only [eS, eZ] at hO1 vT x5
   replace hB := (hB.trans gE.fr).trans (Owns.dropFr _ _ 0)
   dsimp only [eS, eZ] at hB
   replace hO := hO1; clear hO1
   obtain ⟨Qa, H⟩ := H
   replace b7 := ((b7.ch Z9).ch gE.ch).ch vT
   have hobt := oapp Try.underlying22 ti4 rfl 1 hO rfl b7 x5 Lv Qa (by decide)
   obtain ⟨T3, EW, EX, Lw, sx, Ba, H1⟩ := hobt
   dsimp only [sS, sZ] at sx Ba
   refine GoT.stepX rfl (H1 (by exact rfl) (by exact rfl)) rfl rfl rfl ?_
   replace hO := sx.own
   refine GoT.pure rfl (op_fieldAddr Try.underlying25 rfl ti22 rfl (by decide)) rfl rfl ?_
   skip
   have hobt := oblkSt2 (v := .slice EW (n99 + 1) EX) (i := 2) (cs' := #[.int .i64 d.Letters, .int .i64 (0 : Int), .slice EW (n99 + 1) EX, .slice Au (n93 + 1) Aw]) 2 hO rfl rfl rfl rfl
   obtain ⟨Qb, rH, H2⟩ := hobt
   dsimp only [sS, sZ] at rH
   refine GoT.stepX rfl (H2 Try.underlying22 rfl ti22 (by exact rfl) (by exact rfl)) rfl rfl rfl ?_
   replace hO := rH.own
   refine GoT.nil ?_
   refine Go1.inBlock ?_
   refine zr (zm rfl ?_)
   obtain ⟨Qc, H⟩ := H
   refine zo (op_add rfl rfl (wrap_i64 Qc)) (za rfl (zn ?_))
   replace Ba := Ba.ch rH.ch
   replace hB := (hB.trans sx.fr).trans rH.fr
   have Z10 := ((gE.ch.trans vT).trans sx.ch).trans rH.ch
   replace ah := ah.ch Z10
   have Z11 := ((((sw.ch.trans tn.ch).trans gE.ch).trans vT).trans sx.ch).trans rH.ch
   replace rk := rk.ch Z11
   have Z12 := (((Z9.trans gE.ch).trans vT).trans sx.ch).trans rH.ch
   replace ak := ak.ch Z12
   replace dO := dO.ch Z12
   exact hX1 _ H _ _ ⟨n93 + 1, Au, Aw, Hj, n99 + 1, EW, EX, Lw, lN, nQ, nS, rV, ⟨rfl, rfl, rfl, rfl, rfl, rfl, rfl, trivial⟩, hO, rk, Ba, dO, ah, ak, hB⟩
  replace H := ifn qR H
  refine zo (fun w => opB (op_lss rfl rfl w) (decide_eq_false qR)) (zn (zf rfl rfl ?_))
  refine Go1.exit rfl ?_
  refine zq ?_
  refine Go1.drawT (ok := fun _ => True) Same.tr [3] 6 (.qs 0 (.qp 1 (.alt 2 (.alt 3 (.qp 4 (.qp 5 .nil)) .fin) (.alt 3 (.alt 2 (.qp 4 (.qp 5 .nil)) .fin) .fin)))) mixed (by kernel_rfl) ?_
  intro T4 Lx
  have vr := Stp.same hO Lx
  replace hO := vr.own
  refine GoT.stable rfl (oblkAgg (vs := [.int .i64 d.Letters, .int .i64 (0 : Int), .slice p97 n99 c98, .slice p91 n93 c92]) (i := 0) 2 hO rfl rfl Try.underlying25 rfl ti25 rfl) rfl rfl ?_
  refine GoT.pure rfl (op_fieldAddr Try.underlying188 rfl ti31 rfl (by decide)) rfl rfl ?_
  refine GoT.both ?_ ?_
  ·skip
   replace H := H.1
   refine GoT.step rfl ((oblk (i := 0) 5 hO rfl rfl Try.underlying31 rfl rfl) _ (Same.refl _)) (Same.refl _) rfl rfl ?_
   skip
   have hobt := oblkStAgg (us := [.int .i64 d.Letters, .int .i64 (0 : Int), .slice p97 n99 c98, .slice p91 n93 c92]) (o := 0) (cs' := #[.int .i64 d.Letters, .int .i64 (0 : Int), .slice p97 n99 c98, .slice p91 n93 c92]) 6 hO rfl rfl (Nat.le_of_ble_eq_true rfl) rfl
   obtain ⟨Qd, gM, BQ⟩ := hobt
   dsimp only [sS, sZ] at gM
   refine GoT.stepX rfl (BQ ti25 (by exact rfl) (by exact rfl) rfl) rfl rfl rfl ?_
   replace hO := gM.own
   refine GoT.pure rfl (op_assign rfl) rfl rfl ?_
   refine GoT.pure rfl (op_assign rfl) rfl rfl ?_
   refine GoT.nil ?_
   refine Go1.retC3V Try.func139 rfl rfl (run_loadBlk (vs := [.int .i64 d.Letters, .int .i64 (0 : Int), .slice p97 n99 c98, .slice p91 n93 c92]) 6 hO rfl rfl Try.underlying25 rfl ti25) (show _ = .slice eM eK eN from rfl) (show _ = .int .i64 (0 : Int) from rfl) ?_
   refine hR20 _ _ ?_
   refine zm rfl (zo (op_extract rfl rfl) (zo (op_extract rfl rfl) (zo (op_extract rfl rfl) ?_)))
   have hobt := oalloc (t := 25) (cs := #[.int .i64 (0 : Int), .int .i64 (0 : Int), .slice none 0 0, .slice none 0 0]) ti25 hO rfl
   obtain ⟨Qe, B296, ir, SD, H3⟩ := hobt
   refine GoR.op H3 rfl rfl ?_
   replace hO := ir.own
   have hobt := oblkStAgg (us := [.int .i64 d.Letters, .int .i64 (0 : Int), .slice p97 n99 c98, .slice p91 n93 c92]) (o := 0) (cs' := #[.int .i64 d.Letters, .int .i64 (0 : Int), .slice p97 n99 c98, .slice p91 n93 c92]) 0 hO rfl rfl (Nat.le_of_ble_eq_true rfl) rfl
   obtain ⟨EY, ut, H4⟩ := hobt
   dsimp only [sS, sZ] at ut
   refine zg (H4 ti25 (by exact rfl) (by exact rfl) rfl) ?_
   replace hO := ut.own
   refine za rfl (za rfl (zn (zq ?_)))
   refine Go1.cut [(1, .pointer (some ⟨B2, 0, none⟩)), (2, .pointer (some ⟨B8, 0, none⟩)), (4, .pointer (some ⟨B296, 0, none⟩)), (5, .slice eM eK eN)] ⟨rfl, rfl, rfl, rfl, trivial⟩ ?_
   intro σ _
   refine zr (zo (op_fieldAddr Try.underlying25 rfl ti22 rfl (by decide)) (zs (oblk (i := 2) 9 hO rfl rfl Try.underlying22 rfl rfl) (zo (op_len Try.underlying22 rfl) ?_)))
   have Z13 := ((vr.ch.trans gM.ch).trans ir.ch).trans ut.ch
   replace ah := ah.ch Z13
   replace H := H ah.bd
   obtain ⟨E0, H⟩ := H
   obtain ⟨Qf, H⟩ := H
   have hobt := omake (n := (d.Final.length : Int)) (r := Rp.int .i64) (d := (0 : Int)) Try.underlying31 ti3 (fun _ _ => rfl) rfl hO E0 Qf (by decide)
   obtain ⟨T5, qS, Ly, vu, mF, SE, H5⟩ := hobt
   refine zg (H5 rfl rfl) ?_
   replace hO := vu.own
   refine za rfl (zn (zq (zq (zr (zm rfl ?_)))))
   refine zo (op_lenN Try.underlying31 rfl (mF.neq hO 0 rfl)) (zm rfl (zn (zb ?_)))
   replace hO := hO.drop 4
   replace mF := mF.ch (Owns.dropCh _ _ 4)
   replace ah := (ah.ch vu.ch).ch (Owns.dropCh _ _ 4)
   have Z14 := (Z13.trans vu.ch).trans (Owns.dropCh _ _ 4)
   replace b9 := b9.ch Z14
   replace b7 := b7.ch Z14
   replace b8 := b8.ch Z14
   replace ak := ak.ch Z14
   replace hB := (((((hB.trans vr.fr).trans gM.fr).trans ir.fr).trans ut.fr).trans vu.fr).trans (Owns.dropFr _ _ 4)
   dsimp only [eS, eZ] at hB hO ah ak mF b9 b7 b8
   replace hO := hO.drop 5
   replace ah := ah.ch (Owns.dropCh _ _ 5)
   replace ak := ak.ch (Owns.dropCh _ _ 5)
   replace mF := mF.ch (Owns.dropCh _ _ 5)
   replace b9 := b9.ch (Owns.dropCh _ _ 5)
   replace b7 := b7.ch (Owns.dropCh _ _ 5)
   replace b8 := b8.ch (Owns.dropCh _ _ 5)
   replace hB := hB.trans (Owns.dropFr _ _ 5)
   dsimp only [eS, eZ] at hB hO ah ak mF b9 b7 b8
   replace hO := hO.drop 5
   replace ah := ah.ch (Owns.dropCh _ _ 5)
   replace ak := ak.ch (Owns.dropCh _ _ 5)
   replace mF := mF.ch (Owns.dropCh _ _ 5)
   replace b9 := b9.ch (Owns.dropCh _ _ 5)
   replace b7 := b7.ch (Owns.dropCh _ _ 5)
   replace b8 := b8.ch (Owns.dropCh _ _ 5)
   replace hB := hB.trans (Owns.dropFr _ _ 5)
   dsimp only [eS, eZ] at hB hO ah ak mF b9 b7 b8
   replace hO := hO.drop 5
   replace ah := ah.ch (Owns.dropCh _ _ 5)
   replace ak := ak.ch (Owns.dropCh _ _ 5)
   replace mF := mF.ch (Owns.dropCh _ _ 5)
   replace b9 := b9.ch (Owns.dropCh _ _ 5)
   replace b7 := b7.ch (Owns.dropCh _ _ 5)
   replace b8 := b8.ch (Owns.dropCh _ _ 5)
   replace hB := hB.trans (Owns.dropFr _ _ 5)
   dsimp only [eS, eZ] at hB hO ah ak mF b9 b7 b8
   replace hO := hO.drop 6
   replace ah := ah.ch (Owns.dropCh _ _ 6)
   replace ak := ak.ch (Owns.dropCh _ _ 6)
   replace mF := mF.ch (Owns.dropCh _ _ 6)
   replace b9 := b9.ch (Owns.dropCh _ _ 6)
   replace b7 := b7.ch (Owns.dropCh _ _ 6)
   replace b8 := b8.ch (Owns.dropCh _ _ 6)
   replace hB := hB.trans (Owns.dropFr _ _ 6)
   dsimp only [eS, eZ] at hB hO ah ak mF b9 b7 b8
   refine Go1.loopW (S := Nat × List Int) (fun s σ w => match s with | (k5_315, number5_316) => ∃ (u0 : List Value), agrees σ [(2, .pointer (some ⟨B8, 0, none⟩)), (4, .pointer (some ⟨B296, 0, none⟩)), (5, .slice eM eK eN), (7, .slice qS d.Final.length d.Final.length), (31, .int .i64 ((List.replicate d.Final.length ((0 : Int))).length : Int)), (32, .int .i64 (k5_315 : Int))] ∧ (fun Z0 => Owns w0.heap.size w Z0 A ∧ Els (Rp.int .i64) (bl Z0 ++ A) w u0 number5_316 ∧ Els (Rp.sl (Rp.int .i64)) (bl Z0 ++ A) w fA d_88 ∧ Els (Rp.bool) (bl Z0 ++ A) w fv d_94 ∧ Els (Rp.int .i64) (bl Z0 ++ A) w fh d_100 ∧ Fr (bl []) w0 (bl Z0) w) [.row 3 1 qS d.Final.length d.Final.length u0, .blk B296 (.cells #[.int .i64 d.Letters, .int .i64 (0 : Int), .slice p97 n99 c98, .slice p91 n93 c92] 25 (0, 0)), .row 31 1 p91 n93 c92 fA, .row 4 1 p97 n99 c98 fv, .row 3 1 eM eK eN fh, .blk B8 (.cells #[.int .i64 (0 : Int), .int .i64 (0 : Int), .slice none 0 0, .slice none 0 0] 25 (0, 0))]) H ⟨Ly, ⟨rfl, rfl, rfl, rfl, rfl, rfl, trivial⟩, hO, mF, b9, b7, b8, hB⟩ ?_
   intro X5
   refine prE fun k5_315 => fun number5_316 => ?_
   intro H hX5 σ Qg
   refine exE fun u0 => andE fun hag => andE fun hO => andE fun Bb => andE fun b9 => andE fun b7 => andE fun b8 => fun hB => ?_
   dsimp only at H
   refine Go1.keep [(2, .pointer (some ⟨B8, 0, none⟩)), (4, .pointer (some ⟨B296, 0, none⟩)), (5, .slice eM eK eN), (7, .slice qS d.Final.length d.Final.length), (31, .int .i64 ((List.replicate d.Final.length ((0 : Int))).length : Int)), (32, .int .i64 (k5_315 : Int))] hag ?_
   refine zq (zr ?_)
   by_cases Dx : (k5_315 : Int) < ((List.replicate d.Final.length ((0 : Int))).length : Int)
   ·replace H := ifp Dx H
    refine zo (fun w => opB (op_lss rfl rfl w) (decide_eq_true Dx)) (zn (zq (zt rfl rfl (zk (zq ?_)))))
    refine zb (zq (zr (zm rfl (za rfl (zn ?_)))))
    refine zr (zm rfl (zm rfl ?_))
    obtain ⟨E3, H⟩ := H
    obtain ⟨E4, H⟩ := H
    refine zo (op_index Try.underlying31 ti3 rfl rfl E3 (ltn (Bb.neq hO 0 rfl) E4) (Bb.psome hO 0 rfl E3 E4)) ?_
    have hobt := ost (r := Rp.int .i64) rfl 0 hO rfl Bb E3 E4 (v := .int .i64 (-1 : Int)) (u := (-1 : Int)) rfl rfl
    obtain ⟨T6, Lz, wD, Hk, H6⟩ := hobt
    dsimp only [sS, sZ] at wD Hk
    refine zg (H6 Try.underlying3 rfl ti3 (by exact rfl) (by exact rfl)) ?_
    replace hO := wD.own
    refine zn ?_
    refine Go1.inBlock ?_
    refine zr ?_
    obtain ⟨E5, H⟩ := H
    refine zo (op_add rfl rfl (wrap_i64 E5)) (zm rfl (zn ?_))
    replace b9 := b9.ch wD.ch
    replace b7 := b7.ch wD.ch
    replace b8 := b8.ch wD.ch
    replace hB := hB.trans wD.fr
    exact hX5 _ H _ _ ⟨Lz, ⟨rfl, rfl, rfl, rfl, rfl, rfl, trivial⟩, hO, Hk, b9, b7, b8, hB⟩
   replace H := ifn Dx H
   refine zo (fun w => opB (op_lss rfl rfl w) (decide_eq_false Dx)) (zn (zq (zf rfl rfl ?_)))
   refine Go1.exit rfl ?_
   refine zq (zq (zr (zm rfl (zo (op_lenN Try.underlying31 rfl (b8.neq hO 4 rfl)) (zm rfl ?_)))))
   refine zn (zb ?_)
   refine Go1.loopW (S := Nat × List Int) (fun s σ w => match s with | (k6_329, number6_330) => ∃ (tY : List Value), agrees σ [(2, .pointer (some ⟨B8, 0, none⟩)), (4, .pointer (some ⟨B296, 0, none⟩)), (7, .slice qS d.Final.length d.Final.length), (39, .slice eM eK eN), (40, .int .i64 (d_100.length : Int)), (41, .int .i64 (k6_329 : Int))] ∧ (fun Z0 => Owns w0.heap.size w Z0 A ∧ Els (Rp.int .i64) (bl Z0 ++ A) w tY number6_330 ∧ Els (Rp.sl (Rp.int .i64)) (bl Z0 ++ A) w fA d_88 ∧ Els (Rp.bool) (bl Z0 ++ A) w fv d_94 ∧ Els (Rp.int .i64) (bl Z0 ++ A) w fh d_100 ∧ Fr (bl []) w0 (bl Z0) w) [.row 3 1 qS d.Final.length d.Final.length tY, .blk B296 (.cells #[.int .i64 d.Letters, .int .i64 (0 : Int), .slice p97 n99 c98, .slice p91 n93 c92] 25 (0, 0)), .row 31 1 p91 n93 c92 fA, .row 4 1 p97 n99 c98 fv, .row 3 1 eM eK eN fh, .blk B8 (.cells #[.int .i64 (0 : Int), .int .i64 (0 : Int), .slice none 0 0, .slice none 0 0] 25 (0, 0))]) H ⟨u0, ⟨rfl, rfl, rfl, rfl, rfl, rfl, trivial⟩, hO, Bb, b9, b7, b8, hB⟩ ?_
   intro X6
   refine prE fun k6_329 => fun number6_330 => ?_
   intro H hX6 σ H7
   refine exE fun tY => andE fun hag => andE fun hO => andE fun t5 => andE fun b9 => andE fun b7 => andE fun b8 => fun hB => ?_
   dsimp only at H
   refine Go1.keep [(2, .pointer (some ⟨B8, 0, none⟩)), (4, .pointer (some ⟨B296, 0, none⟩)), (7, .slice qS d.Final.length d.Final.length), (39, .slice eM eK eN), (40, .int .i64 (d_100.length : Int)), (41, .int .i64 (k6_329 : Int))] hag ?_
   refine zq (zr ?_)
   by_cases BR : (k6_329 : Int) < (d_100.length : Int)
   ·replace H := ifp BR H
    refine zo (fun w => opB (op_lss rfl rfl w) (decide_eq_true BR)) (zn (zq (zt rfl rfl (zk (zq ?_)))))
    refine zb (zq (zr (zm rfl ?_)))
    obtain ⟨E6, H⟩ := H
    obtain ⟨E7, H⟩ := H
    refine zo (op_index Try.underlying31 ti3 rfl rfl E6 (ltn (b8.neq hO 4 rfl) E7) (b8.psome hO 4 rfl E6 E7)) (zs (oldInt 4 hO rfl b8 E6 E7 Try.underlying3 rfl rfl) (za rfl (za rfl (zn (zr ?_)))))
    refine zm rfl (zm rfl (zm rfl ?_))
    obtain ⟨E8, H⟩ := H
    obtain ⟨E9, H⟩ := H
    refine zo (op_index Try.underlying31 ti3 rfl rfl E8 (ltn (t5.neq hO 0 rfl) E9) (t5.psome hO 0 rfl E8 E9)) ?_
    have hobt := ost (r := Rp.int .i64) rfl 0 hO rfl t5 E8 E9 (v := .int .i64 (k6_329 : Int)) (u := (k6_329 : Int)) rfl rfl
    obtain ⟨Qh, LA, wE, Hl, H8⟩ := hobt
    dsimp only [sS, sZ] at wE Hl
    refine zg (H8 Try.underlying3 rfl ti3 (by exact rfl) (by exact rfl)) ?_
    replace hO := wE.own
    refine zn ?_
    refine Go1.inBlock ?_
    refine zr ?_
    replace b8 := b8.ch wE.ch
    refine zo (op_add rfl rfl (wrap_i64 (natbd BR b8.bd))) (zm rfl (zn ?_))
    replace b9 := b9.ch wE.ch
    replace b7 := b7.ch wE.ch
    replace hB := hB.trans wE.fr
    exact hX6 _ H _ _ ⟨LA, ⟨rfl, rfl, rfl, rfl, rfl, rfl, trivial⟩, hO, Hl, b9, b7, b8, hB⟩
   replace H := ifn BR H
   refine zo (fun w => opB (op_lss rfl rfl w) (decide_eq_false BR)) (zn (zq (zf rfl rfl ?_)))
   refine Go1.exit rfl ?_
   refine zq (zr (zs (oblkAgg (vs := [.int .i64 d.Letters, .int .i64 (0 : Int), .slice p97 n99 c98, .slice p91 n93 c92]) (i := 0) 1 hO rfl rfl Try.underlying25 rfl ti25 rfl) (zm rfl ?_)))
   have hobt := oblkStAgg (us := [.int .i64 d.Letters, .int .i64 (0 : Int), .slice p97 n99 c98, .slice p91 n93 c92]) (o := 0) (cs' := #[.int .i64 d.Letters, .int .i64 (0 : Int), .slice p97 n99 c98, .slice p91 n93 c92]) 5 hO rfl rfl (Nat.le_of_ble_eq_true rfl) rfl
   obtain ⟨T7, vw, BS⟩ := hobt
   dsimp only [sS, sZ] at vw
   refine zg (BS ti25 (by exact rfl) (by exact rfl) rfl) ?_
   replace hO := vw.own
   refine za rfl (zn ?_)
   replace b7 := b7.ch vw.ch
   have hobt := freeze 3 hO rfl b7
   obtain ⟨hO1, kU, ko, Dy⟩ := hobt
   dsimp only [eS, eZ] at hO1 kU ko
   replace hB := (hB.trans vw.fr).trans (Owns.dropFr _ _ 3)
   dsimp only [eS, eZ] at hB
   replace hO := hO1; clear hO1
   replace b9 := (b9.ch vw.ch).ch kU
   have hobt := freeze 2 hO rfl b9
   obtain ⟨hO1, Bc, Bd, LB⟩ := hobt
   dsimp only [eS, eZ] at hO1 Bc Bd
   replace hB := hB.trans (Owns.dropFr _ _ 2)
   dsimp only [eS, eZ] at hB
   replace hO := hO1; clear hO1
   have Z15 := (vw.ch.trans kU).trans Bc
   replace t5 := t5.ch Z15
   have hobt := freeze 0 hO rfl t5
   obtain ⟨hO1, Be, Hm, LD⟩ := hobt
   dsimp only [eS, eZ] at hO1 Be Hm
   replace hB := hB.trans (Owns.dropFr _ _ 0)
   dsimp only [eS, eZ] at hB
   replace hO := hO1; clear hO1
   refine Go1.retC2 Try.func109 rfl rfl (run_loadBlk (vs := [.int .i64 d.Letters, .int .i64 (0 : Int), .slice p97 n99 c98, .slice p91 n93 c92]) 2 hO rfl rfl Try.underlying25 rfl ti25) ?_
   replace Bd := Bd.ch Be
   replace ko := (ko.ch Bc).ch Be
   exact ⟨(⟨d.Letters, (0 : Int), d_94, d_88⟩ : DFA), number6_330, p97, c98, p91, c92, qS, d.Final.length, (congrArg (fun l => Value.tuple (List.toArray l)) (cons_eq (congrArg (fun l => Value.agg (List.toArray l)) (cons_eq rfl (cons_eq rfl (cons_eq (congrArg (fun nn => Value.slice p97 nn c98) Dy) (cons_eq (congrArg (fun nn => Value.slice p91 nn c92) LB) rfl))))) (cons_eq (congrArg (fun nn => Value.slice qS nn d.Final.length) LD) rfl))), hB.same, (ko.ch (Ch.weak _ _ _)), (Bd.ch (Ch.weak _ _ _)), (Hm.ch (Ch.weak _ _ _)), H⟩
  replace H := H.2
  have hobt := oblkStAgg (us := [.int .i64 d.Letters, .int .i64 (0 : Int), .slice p97 n99 c98, .slice p91 n93 c92]) (o := 0) (cs' := #[.int .i64 d.Letters, .int .i64 (0 : Int), .slice p97 n99 c98, .slice p91 n93 c92]) 6 hO rfl rfl (Nat.le_of_ble_eq_true rfl) rfl
  obtain ⟨T8, uu, BT⟩ := hobt
  dsimp only [sS, sZ] at uu
  refine GoT.stepX rfl (BT ti25 (by exact rfl) (by exact rfl) rfl) rfl rfl rfl ?_
  replace hO := uu.own
  skip
  refine GoT.step rfl ((oblk (i := 0) 5 hO rfl rfl Try.underlying31 rfl rfl) _ (Same.refl _)) (Same.refl _) rfl rfl ?_
  refine GoT.pure rfl (op_assign rfl) rfl rfl ?_
  refine GoT.pure rfl (op_assign rfl) rfl rfl ?_
  refine GoT.nil ?_
  refine Go1.retC3V Try.func139 rfl rfl (run_loadBlk (vs := [.int .i64 d.Letters, .int .i64 (0 : Int), .slice p97 n99 c98, .slice p91 n93 c92]) 6 hO rfl rfl Try.underlying25 rfl ti25) (show _ = .slice eM eK eN from rfl) (show _ = .int .i64 (0 : Int) from rfl) ?_
  refine hR20 _ _ ?_
  refine zm rfl (zo (op_extract rfl rfl) (zo (op_extract rfl rfl) (zo (op_extract rfl rfl) ?_)))
  have hobt := oalloc (t := 25) (cs := #[.int .i64 (0 : Int), .int .i64 (0 : Int), .slice none 0 0, .slice none 0 0]) ti25 hO rfl
  obtain ⟨H9, B359, dP, SF, Ia⟩ := hobt
  refine GoR.op Ia rfl rfl ?_
  replace hO := dP.own
  have hobt := oblkStAgg (us := [.int .i64 d.Letters, .int .i64 (0 : Int), .slice p97 n99 c98, .slice p91 n93 c92]) (o := 0) (cs' := #[.int .i64 d.Letters, .int .i64 (0 : Int), .slice p97 n99 c98, .slice p91 n93 c92]) 0 hO rfl rfl (Nat.le_of_ble_eq_true rfl) rfl
  obtain ⟨Qi, uv, BU⟩ := hobt
  dsimp only [sS, sZ] at uv
  refine zg (BU ti25 (by exact rfl) (by exact rfl) rfl) ?_
  replace hO := uv.own
  refine za rfl (za rfl (zn (zq ?_)))
  refine Go1.cut [(1, .pointer (some ⟨B2, 0, none⟩)), (2, .pointer (some ⟨B8, 0, none⟩)), (4, .pointer (some ⟨B359, 0, none⟩)), (5, .slice eM eK eN)] ⟨rfl, rfl, rfl, rfl, trivial⟩ ?_
  intro σ _
  refine zr (zo (op_fieldAddr Try.underlying25 rfl ti22 rfl (by decide)) (zs (oblk (i := 2) 9 hO rfl rfl Try.underlying22 rfl rfl) (zo (op_len Try.underlying22 rfl) ?_)))
  have Z16 := ((vr.ch.trans uu.ch).trans dP.ch).trans uv.ch
  replace ah := ah.ch Z16
  replace H := H ah.bd
  obtain ⟨BV, H⟩ := H
  obtain ⟨xb, H⟩ := H
  have hobt := omake (n := (d.Final.length : Int)) (r := Rp.int .i64) (d := (0 : Int)) Try.underlying31 ti3 (fun _ _ => rfl) rfl hO BV xb (by decide)
  obtain ⟨T9, qT, LE, vy, mG, SG, BW⟩ := hobt
  refine zg (BW rfl rfl) ?_
  replace hO := vy.own
  refine za rfl (zn (zq (zq (zr (zm rfl ?_)))))
  refine zo (op_lenN Try.underlying31 rfl (mG.neq hO 0 rfl)) (zm rfl (zn (zb ?_)))
  replace hO := hO.drop 4
  replace mG := mG.ch (Owns.dropCh _ _ 4)
  replace ah := (ah.ch vy.ch).ch (Owns.dropCh _ _ 4)
  have Z17 := (Z16.trans vy.ch).trans (Owns.dropCh _ _ 4)
  replace b9 := b9.ch Z17
  replace b7 := b7.ch Z17
  replace b8 := b8.ch Z17
  replace ak := ak.ch Z17
  replace hB := (((((hB.trans vr.fr).trans uu.fr).trans dP.fr).trans uv.fr).trans vy.fr).trans (Owns.dropFr _ _ 4)
  dsimp only [eS, eZ] at hB hO ah ak mG b9 b7 b8
  replace hO := hO.drop 5
  replace ah := ah.ch (Owns.dropCh _ _ 5)
  replace ak := ak.ch (Owns.dropCh _ _ 5)
  replace mG := mG.ch (Owns.dropCh _ _ 5)
  replace b9 := b9.ch (Owns.dropCh _ _ 5)
  replace b7 := b7.ch (Owns.dropCh _ _ 5)
  replace b8 := b8.ch (Owns.dropCh _ _ 5)
  replace hB := hB.trans (Owns.dropFr _ _ 5)
  dsimp only [eS, eZ] at hB hO ah ak mG b9 b7 b8
  replace hO := hO.drop 5
  replace ah := ah.ch (Owns.dropCh _ _ 5)
  replace ak := ak.ch (Owns.dropCh _ _ 5)
  replace mG := mG.ch (Owns.dropCh _ _ 5)
  replace b9 := b9.ch (Owns.dropCh _ _ 5)
  replace b7 := b7.ch (Owns.dropCh _ _ 5)
  replace b8 := b8.ch (Owns.dropCh _ _ 5)
  replace hB := hB.trans (Owns.dropFr _ _ 5)
  dsimp only [eS, eZ] at hB hO ah ak mG b9 b7 b8
  replace hO := hO.drop 5
  replace ah := ah.ch (Owns.dropCh _ _ 5)
  replace ak := ak.ch (Owns.dropCh _ _ 5)
  replace mG := mG.ch (Owns.dropCh _ _ 5)
  replace b9 := b9.ch (Owns.dropCh _ _ 5)
  replace b7 := b7.ch (Owns.dropCh _ _ 5)
  replace b8 := b8.ch (Owns.dropCh _ _ 5)
  replace hB := hB.trans (Owns.dropFr _ _ 5)
  dsimp only [eS, eZ] at hB hO ah ak mG b9 b7 b8
  replace hO := hO.drop 6
  replace ah := ah.ch (Owns.dropCh _ _ 6)
  replace ak := ak.ch (Owns.dropCh _ _ 6)
  replace mG := mG.ch (Owns.dropCh _ _ 6)
  replace b9 := b9.ch (Owns.dropCh _ _ 6)
  replace b7 := b7.ch (Owns.dropCh _ _ 6)
  replace b8 := b8.ch (Owns.dropCh _ _ 6)
  replace hB := hB.trans (Owns.dropFr _ _ 6)
  dsimp only [eS, eZ] at hB hO ah ak mG b9 b7 b8
  refine Go1.loopW (S := Nat × List Int) (fun s σ w => match s with | (k7_378, number7_379) => ∃ (u4 : List Value), agrees σ [(2, .pointer (some ⟨B8, 0, none⟩)), (4, .pointer (some ⟨B359, 0, none⟩)), (5, .slice eM eK eN), (7, .slice qT d.Final.length d.Final.length), (31, .int .i64 ((List.replicate d.Final.length ((0 : Int))).length : Int)), (32, .int .i64 (k7_378 : Int))] ∧ (fun Z0 => Owns w0.heap.size w Z0 A ∧ Els (Rp.int .i64) (bl Z0 ++ A) w u4 number7_379 ∧ Els (Rp.sl (Rp.int .i64)) (bl Z0 ++ A) w fA d_88 ∧ Els (Rp.bool) (bl Z0 ++ A) w fv d_94 ∧ Els (Rp.int .i64) (bl Z0 ++ A) w fh d_100 ∧ Fr (bl []) w0 (bl Z0) w) [.row 3 1 qT d.Final.length d.Final.length u4, .blk B359 (.cells #[.int .i64 d.Letters, .int .i64 (0 : Int), .slice p97 n99 c98, .slice p91 n93 c92] 25 (0, 0)), .row 31 1 p91 n93 c92 fA, .row 4 1 p97 n99 c98 fv, .row 3 1 eM eK eN fh, .blk B8 (.cells #[.int .i64 (0 : Int), .int .i64 (0 : Int), .slice none 0 0, .slice none 0 0] 25 (0, 0))]) H ⟨LE, ⟨rfl, rfl, rfl, rfl, rfl, rfl, trivial⟩, hO, mG, b9, b7, b8, hB⟩ ?_
  intro X7
  refine prE fun k7_378 => fun number7_379 => ?_
  intro H hX7 σ Ua
  refine exE fun u4 => andE fun hag => andE fun hO => andE fun Bf => andE fun b9 => andE fun b7 => andE fun b8 => fun hB => ?_
  dsimp only at H
  refine Go1.keep [(2, .pointer (some ⟨B8, 0, none⟩)), (4, .pointer (some ⟨B359, 0, none⟩)), (5, .slice eM eK eN), (7, .slice qT d.Final.length d.Final.length), (31, .int .i64 ((List.replicate d.Final.length ((0 : Int))).length : Int)), (32, .int .i64 (k7_378 : Int))] hag ?_
  refine zq (zr ?_)
  by_cases Dz : (k7_378 : Int) < ((List.replicate d.Final.length ((0 : Int))).length : Int)
  ·replace H := ifp Dz H
   refine zo (fun w => opB (op_lss rfl rfl w) (decide_eq_true Dz)) (zn (zq (zt rfl rfl (zk (zq ?_)))))
   refine zb (zq (zr (zm rfl (za rfl (zn ?_)))))
   refine zr (zm rfl (zm rfl ?_))
   obtain ⟨Fa, H⟩ := H
   obtain ⟨Fb, H⟩ := H
   refine zo (op_index Try.underlying31 ti3 rfl rfl Fa (ltn (Bf.neq hO 0 rfl) Fb) (Bf.psome hO 0 rfl Fa Fb)) ?_
   have hobt := ost (r := Rp.int .i64) rfl 0 hO rfl Bf Fa Fb (v := .int .i64 (-1 : Int)) (u := (-1 : Int)) rfl rfl
   obtain ⟨Ub, LF, jr, Hn, BX⟩ := hobt
   dsimp only [sS, sZ] at jr Hn
   refine zg (BX Try.underlying3 rfl ti3 (by exact rfl) (by exact rfl)) ?_
   replace hO := jr.own
   refine zn ?_
   refine Go1.inBlock ?_
   refine zr ?_
   obtain ⟨BY, H⟩ := H
   refine zo (op_add rfl rfl (wrap_i64 BY)) (zm rfl (zn ?_))
   replace b9 := b9.ch jr.ch
   replace b7 := b7.ch jr.ch
   replace b8 := b8.ch jr.ch
   replace hB := hB.trans jr.fr
   exact hX7 _ H _ _ ⟨LF, ⟨rfl, rfl, rfl, rfl, rfl, rfl, trivial⟩, hO, Hn, b9, b7, b8, hB⟩
  replace H := ifn Dz H
  refine zo (fun w => opB (op_lss rfl rfl w) (decide_eq_false Dz)) (zn (zq (zf rfl rfl ?_)))
  refine Go1.exit rfl ?_
  refine zq (zq (zr (zm rfl (zo (op_lenN Try.underlying31 rfl (b8.neq hO 4 rfl)) (zm rfl ?_)))))
  refine zn (zb ?_)
  refine Go1.loopW (S := Nat × List Int) (fun s σ w => match s with | (k8_392, number8_393) => ∃ (vU : List Value), agrees σ [(2, .pointer (some ⟨B8, 0, none⟩)), (4, .pointer (some ⟨B359, 0, none⟩)), (7, .slice qT d.Final.length d.Final.length), (39, .slice eM eK eN), (40, .int .i64 (d_100.length : Int)), (41, .int .i64 (k8_392 : Int))] ∧ (fun Z0 => Owns w0.heap.size w Z0 A ∧ Els (Rp.int .i64) (bl Z0 ++ A) w vU number8_393 ∧ Els (Rp.sl (Rp.int .i64)) (bl Z0 ++ A) w fA d_88 ∧ Els (Rp.bool) (bl Z0 ++ A) w fv d_94 ∧ Els (Rp.int .i64) (bl Z0 ++ A) w fh d_100 ∧ Fr (bl []) w0 (bl Z0) w) [.row 3 1 qT d.Final.length d.Final.length vU, .blk B359 (.cells #[.int .i64 d.Letters, .int .i64 (0 : Int), .slice p97 n99 c98, .slice p91 n93 c92] 25 (0, 0)), .row 31 1 p91 n93 c92 fA, .row 4 1 p97 n99 c98 fv, .row 3 1 eM eK eN fh, .blk B8 (.cells #[.int .i64 (0 : Int), .int .i64 (0 : Int), .slice none 0 0, .slice none 0 0] 25 (0, 0))]) H ⟨u4, ⟨rfl, rfl, rfl, rfl, rfl, rfl, trivial⟩, hO, Bf, b9, b7, b8, hB⟩ ?_
  intro X8
  refine prE fun k8_392 => fun number8_393 => ?_
  intro H hX8 σ Uc
  refine exE fun vU => andE fun hag => andE fun hO => andE fun t6 => andE fun b9 => andE fun b7 => andE fun b8 => fun hB => ?_
  dsimp only at H
  refine Go1.keep [(2, .pointer (some ⟨B8, 0, none⟩)), (4, .pointer (some ⟨B359, 0, none⟩)), (7, .slice qT d.Final.length d.Final.length), (39, .slice eM eK eN), (40, .int .i64 (d_100.length : Int)), (41, .int .i64 (k8_392 : Int))] hag ?_
  refine zq (zr ?_)
  by_cases B1 : (k8_392 : Int) < (d_100.length : Int)
  ·replace H := ifp B1 H
   refine zo (fun w => opB (op_lss rfl rfl w) (decide_eq_true B1)) (zn (zq (zt rfl rfl (zk (zq ?_)))))
   refine zb (zq (zr (zm rfl ?_)))
   obtain ⟨Fc, H⟩ := H
   obtain ⟨xB, H⟩ := H
   refine zo (op_index Try.underlying31 ti3 rfl rfl Fc (ltn (b8.neq hO 4 rfl) xB) (b8.psome hO 4 rfl Fc xB)) (zs (oldInt 4 hO rfl b8 Fc xB Try.underlying3 rfl rfl) (za rfl (za rfl (zn (zr ?_)))))
   refine zm rfl (zm rfl (zm rfl ?_))
   obtain ⟨xC, H⟩ := H
   obtain ⟨h400, H⟩ := H
   refine zo (op_index Try.underlying31 ti3 rfl rfl xC (ltn (t6.neq hO 0 rfl) h400) (t6.psome hO 0 rfl xC h400)) ?_
   have hobt := ost (r := Rp.int .i64) rfl 0 hO rfl t6 xC h400 (v := .int .i64 (k8_392 : Int)) (u := (k8_392 : Int)) rfl rfl
   obtain ⟨Qj, LG, wF, Ho, Ib⟩ := hobt
   dsimp only [sS, sZ] at wF Ho
   refine zg (Ib Try.underlying3 rfl ti3 (by exact rfl) (by exact rfl)) ?_
   replace hO := wF.own
   refine zn ?_
   refine Go1.inBlock ?_
   refine zr ?_
   replace b8 := b8.ch wF.ch
   refine zo (op_add rfl rfl (wrap_i64 (natbd B1 b8.bd))) (zm rfl (zn ?_))
   replace b9 := b9.ch wF.ch
   replace b7 := b7.ch wF.ch
   replace hB := hB.trans wF.fr
   exact hX8 _ H _ _ ⟨LG, ⟨rfl, rfl, rfl, rfl, rfl, rfl, trivial⟩, hO, Ho, b9, b7, b8, hB⟩
  replace H := ifn B1 H
  refine zo (fun w => opB (op_lss rfl rfl w) (decide_eq_false B1)) (zn (zq (zf rfl rfl ?_)))
  refine Go1.exit rfl ?_
  refine zq (zr (zs (oblkAgg (vs := [.int .i64 d.Letters, .int .i64 (0 : Int), .slice p97 n99 c98, .slice p91 n93 c92]) (i := 0) 1 hO rfl rfl Try.underlying25 rfl ti25 rfl) (zm rfl ?_)))
  have hobt := oblkStAgg (us := [.int .i64 d.Letters, .int .i64 (0 : Int), .slice p97 n99 c98, .slice p91 n93 c92]) (o := 0) (cs' := #[.int .i64 d.Letters, .int .i64 (0 : Int), .slice p97 n99 c98, .slice p91 n93 c92]) 5 hO rfl rfl (Nat.le_of_ble_eq_true rfl) rfl
  obtain ⟨Ud, vz, Ic⟩ := hobt
  dsimp only [sS, sZ] at vz
  refine zg (Ic ti25 (by exact rfl) (by exact rfl) rfl) ?_
  replace hO := vz.own
  refine za rfl (zn ?_)
  replace b7 := b7.ch vz.ch
  have hobt := freeze 3 hO rfl b7
  obtain ⟨hO1, Bg, x6, LH⟩ := hobt
  dsimp only [eS, eZ] at hO1 Bg x6
  replace hB := (hB.trans vz.fr).trans (Owns.dropFr _ _ 3)
  dsimp only [eS, eZ] at hB
  replace hO := hO1; clear hO1
  replace b9 := (b9.ch vz.ch).ch Bg
  have hobt := freeze 2 hO rfl b9
  obtain ⟨hO1, Bi, Bj, LI⟩ := hobt
  dsimp only [eS, eZ] at hO1 Bi Bj
  replace hB := hB.trans (Owns.dropFr _ _ 2)
  dsimp only [eS, eZ] at hB
  replace hO := hO1; clear hO1
  have Z18 := (vz.ch.trans Bg).trans Bi
  replace t6 := t6.ch Z18
  have hobt := freeze 0 hO rfl t6
  obtain ⟨hO1, Bk, Hp, LJ⟩ := hobt
  dsimp only [eS, eZ] at hO1 Bk Hp
  replace hB := hB.trans (Owns.dropFr _ _ 0)
  dsimp only [eS, eZ] at hB
  replace hO := hO1; clear hO1
  refine Go1.retC2 Try.func109 rfl rfl (run_loadBlk (vs := [.int .i64 d.Letters, .int .i64 (0 : Int), .slice p97 n99 c98, .slice p91 n93 c92]) 2 hO rfl rfl Try.underlying25 rfl ti25) ?_
  replace Bj := Bj.ch Bk
  replace x6 := (x6.ch Bi).ch Bk
  exact ⟨(⟨d.Letters, (0 : Int), d_94, d_88⟩ : DFA), number8_393, p97, c98, p91, c92, qT, d.Final.length, (congrArg (fun l => Value.tuple (List.toArray l)) (cons_eq (congrArg (fun l => Value.agg (List.toArray l)) (cons_eq rfl (cons_eq rfl (cons_eq (congrArg (fun nn => Value.slice p97 nn c98) LH) (cons_eq (congrArg (fun nn => Value.slice p91 nn c92) LI) rfl))))) (cons_eq (congrArg (fun nn => Value.slice qT nn d.Final.length) LJ) rfl))), hB.same, (x6.ch (Ch.weak _ _ _)), (Bj.ch (Ch.weak _ _ _)), (Hp.ch (Ch.weak _ _ _)), H⟩
 replace H := ifn h19 H
 refine zo (fun w => opB (op_neq rfl rfl w) (ndF h19)) (zn (zt rfl rfl (zq (zr (zo (op_build Try.underlying25 ti25 (pl := [(0, 1), (1, 1), (2, 1), (3, 1)]) (vs := []) (cs := #[.int .i64 (0 : Int), .int .i64 (0 : Int), .slice none 0 0, .slice none 0 0]) (by kernel_rfl) rfl (by kernel_rfl)) ?_)))))
 have hobt := oblkStAgg (us := [.int .i64 (0 : Int), .int .i64 (0 : Int), .slice none 0 0, .slice none 0 0]) (o := 0) (cs' := #[.int .i64 (0 : Int), .int .i64 (0 : Int), .slice none 0 0, .slice none 0 0]) 0 hO rfl rfl (Nat.le_of_ble_eq_true rfl) rfl
 obtain ⟨Ue, zE, Id⟩ := hobt
 refine zg (Id ti25 (by exact rfl) (by exact rfl) rfl) ?_
 replace hO := zE.own
 refine za rfl (zn ?_)
 refine Go1.retC2 Try.func109 rfl rfl (run_loadBlk (vs := [.int .i64 (0 : Int), .int .i64 (0 : Int), .slice none 0 0, .slice none 0 0]) 0 hO rfl rfl Try.underlying25 rfl ti25) ?_
 replace hB := (((hB.trans dG.fr).trans gr.fr).trans ji.fr).trans zE.fr
 exact ⟨(⟨(0 : Int), (0 : Int), ([] : List Bool), ([] : List (List Int))⟩ : DFA), ([] : List Int), none, 0, none, 0, none, 0, rfl, hB.same, (ISl.null _ _ _), (ISl.null _ _ _), (ISl.null _ _ _), H⟩
theorem body110 : Body Try.prog 110 := ⟨Try.f110, Try.func110, rfl, by kernel_rfl⟩
theorem walk_minimize_Classes {A : List Nat} {w0 : World} {bj : Option Addr} {bk : Nat} {bv : Option Addr} {bw : Nat} {a0 : DFA} (hA : ∀ b ∈ A, b < w0.heap.size) (aq : ISl (Rp.bool) A w0 bj bk a0.Final) (av : ISl (Rp.sl (Rp.int .i64)) A w0 bv bw a0.Next) {K : List Int → Prop} (H : minimize_Classes a0 K) :
    CallsV Try.prog 110 #[.agg #[.int .i64 a0.Letters, .int .i64 a0.Start, .slice bj a0.Final.length bk, .slice bv a0.Next.length bw]] w0 (fun v w' => ∃ (r0 : List Int), ∃ (uV : Option Addr), ∃ (uW : Nat), v = .slice uV r0.length uW ∧ Same w0 w' ∧ ISl (Rp.int .i64) A w' uV uW r0 ∧ K r0) := by
 refine CallsV.of (l := [.agg #[.int .i64 a0.Letters, .int .i64 a0.Start, .slice bj a0.Final.length bk, .slice bv a0.Next.length bw]]) Try.func110 rfl Try.ntmps110 rfl ?_
 have hO := Owns.start hA
 have hB := Fr.refl (bl []) w0
 unfold minimize_Classes at H
 refine zq (zr ?_)
 have hobt := obox (t := 25) (v := .agg #[.int .i64 a0.Letters, .int .i64 a0.Start, .slice bj a0.Final.length bk, .slice bv a0.Next.length bw]) (cs := #[.int .i64 a0.Letters, .int .i64 a0.Start, .slice bj a0.Final.length bk, .slice bv a0.Next.length bw]) hO rfl
 obtain ⟨w1, B2, dG, hs4, lb⟩ := hobt
 refine zg (lb rfl) ?_
 replace hO := dG.own
 refine za rfl (zn (zq (zq (zr (zs (oblkAgg (vs := [.int .i64 a0.Letters, .int .i64 a0.Start, .slice bj a0.Final.length bk, .slice bv a0.Next.length bw]) (i := 0) 0 hO rfl rfl Try.underlying25 rfl ti25 rfl) ?_)))))
 have Z1 := (Ch.start A w0).trans dG.ch
 replace aq := aq.ch Z1
 replace av := av.ch Z1
 refine GoR.call (op_call body61 rfl (walk_dfa_Validate (d := a0) hO.lt aq av H)) rfl rfl ?_
 rintro v11 w8 ⟨r7, rfl, hs9, H⟩
 have rf := Stp.same hO hs9
 replace hO := rf.own
 by_cases h13 : r7 = (0 : Int)
 ·replace H := ifp h13 H
  refine zo (fun w => opB (op_neq rfl rfl w) (ndT h13)) (zn (zf rfl rfl (zk (zq (zr ?_)))))
  refine zo (op_fieldAddr Try.underlying25 rfl ti22 rfl (by decide)) (zs (oblk (i := 2) 0 hO rfl rfl Try.underlying22 rfl rfl) (zo (op_len Try.underlying22 rfl) ?_))
  replace aq := aq.ch rf.ch
  replace H := H aq.bd
  obtain ⟨h21, H⟩ := H
  obtain ⟨h22, H⟩ := H
  have hobt := omake (n := (a0.Final.length : Int)) (r := Rp.int .i64) (d := (0 : Int)) Try.underlying31 ti3 (fun _ _ => rfl) rfl hO h21 h22 (by decide)
  obtain ⟨w14, p15, xc, u5, c9, Qk, zF⟩ := hobt
  refine zg (zF rfl rfl) ?_
  replace hO := u5.own
  refine za rfl (za rfl (zn (zq (zq (zr ?_)))))
  refine zo (op_fieldAddr Try.underlying25 rfl ti22 rfl (by decide)) (zs (oblk (i := 2) 1 hO rfl rfl Try.underlying22 rfl rfl) (zo (op_len Try.underlying22 rfl) (zm rfl (zn (zb ?_)))))
  replace aq := aq.ch u5.ch
  replace av := (av.ch rf.ch).ch u5.ch
  replace hB := ((hB.trans dG.fr).trans rf.fr).trans u5.fr
  refine Go1.loopW (S := Int × Nat × List Int) (fun s σ w => match s with | (k1_25, k1_26, d_27) => ∃ (xd : List Value), agrees σ [(1, .pointer (some ⟨B2, 0, none⟩)), (3, .slice p15 a0.Final.length a0.Final.length), (4, .int .i64 k1_25), (24, .slice bj a0.Final.length bk), (25, .int .i64 (a0.Final.length : Int)), (26, .int .i64 (k1_26 : Int))] ∧ (fun Z0 => Owns w0.heap.size w Z0 A ∧ Els (Rp.int .i64) (bl Z0 ++ A) w xd d_27 ∧ ISl (Rp.bool) (bl Z0 ++ A) w bj bk a0.Final ∧ ISl (Rp.sl (Rp.int .i64)) (bl Z0 ++ A) w bv bw a0.Next ∧ Fr (bl []) w0 (bl Z0) w) [.row 3 1 p15 a0.Final.length a0.Final.length xd, .blk B2 (.cells #[.int .i64 a0.Letters, .int .i64 a0.Start, .slice bj a0.Final.length bk, .slice bv a0.Next.length bw] 25 (0, 0))]) H ⟨xc, ⟨rfl, rfl, rfl, rfl, rfl, rfl, trivial⟩, hO, c9, aq, av, hB⟩ ?_
  intro X1
  refine prE fun k1_25 => prE fun k1_26 => fun d_27 => ?_
  intro H hX1 σ w24
  refine exE fun xd => andE fun hag => andE fun hO => andE fun vA => andE fun aq => andE fun av => fun hB => ?_
  dsimp only at H
  refine Go1.keep [(1, .pointer (some ⟨B2, 0, none⟩)), (3, .slice p15 a0.Final.length a0.Final.length), (4, .int .i64 k1_25), (24, .slice bj a0.Final.length bk), (25, .int .i64 (a0.Final.length : Int)), (26, .int .i64 (k1_26 : Int))] hag ?_
  refine zq (zr ?_)
  by_cases h30 : (k1_26 : Int) < (a0.Final.length : Int)
  ·replace H := ifp h30 H
   refine zo (fun w => opB (op_lss rfl rfl w) (decide_eq_true h30)) (zn (zq (zt rfl rfl (zk (zq ?_)))))
   refine zb (zq (zr (zm rfl ?_)))
   obtain ⟨h31, H⟩ := H
   obtain ⟨h32, H⟩ := H
   refine zo (op_index Try.underlying22 ti4 rfl rfl h31 h32 (aq.some_ h31 h32)) ?_
   by_cases h33 : ix a0.Final (k1_26 : Int) = true
   ·replace H := ifp h33 H
    refine zg (opB ((ldBool aq h31 h32 Try.underlying4 rfl rfl) _ (Same.refl _)) (h33)) (za rfl (za rfl (zn (zq (zr ?_)))))
    refine zm rfl (zo (op_fieldAddr Try.underlying25 rfl ti22 rfl (by decide)) (zs (oblk (i := 2) 1 hO rfl rfl Try.underlying22 rfl rfl) ?_))
    obtain ⟨h34, H⟩ := H
    obtain ⟨h35, H⟩ := H
    refine zo (op_index Try.underlying22 ti4 rfl rfl h34 h35 (aq.some_ h34 h35)) ?_
    by_cases h36 : ix a0.Final (0 : Int) = true
    ·replace H := ifp h36 H
     refine zg (opB ((ldBool aq h34 h35 Try.underlying4 rfl rfl) _ (Same.refl _)) (h36)) (zo (op_neqB Try.underlying4 rfl rfl) (zn (zf rfl rfl (zk ?_))))
     refine Go1.inBlock ?_
     refine zr (zo (op_add rfl rfl (wrap_i64 (natbd h30 aq.bd))) (zm rfl (zn ?_)))
     exact hX1 _ H _ _ ⟨xd, ⟨rfl, rfl, rfl, rfl, rfl, rfl, trivial⟩, hO, vA, aq, av, hB⟩
    replace H := ifn h36 H
    refine zg (opB ((ldBool aq h34 h35 Try.underlying4 rfl rfl) _ (Same.refl _)) (Bool.eq_false_iff.2 h36)) (zo (op_neqB Try.underlying4 rfl rfl) (zn (zt rfl rfl (zr (zm rfl ?_)))))
    refine zm rfl ?_
    obtain ⟨h37, H⟩ := H
    obtain ⟨h38, H⟩ := H
    refine zo (op_index Try.underlying31 ti3 rfl rfl h37 (ltn (vA.neq hO 0 rfl) h38) (vA.psome hO 0 rfl h37 h38)) ?_
    have hobt := ost (r := Rp.int .i64) rfl 0 hO rfl vA h37 h38 (v := .int .i64 (1 : Int)) (u := (1 : Int)) rfl rfl
    obtain ⟨w39, Ql, tW, bz, zG⟩ := hobt
    refine zg (zG Try.underlying3 rfl ti3 (by exact rfl) (by exact rfl)) ?_
    replace hO := tW.own
    refine za rfl (zn ?_)
    refine Go1.inBlock ?_
    refine Go1.cut [(1, .pointer (some ⟨B2, 0, none⟩)), (3, .slice p15 a0.Final.length a0.Final.length), (4, .int .i64 (2 : Int)), (24, .slice bj a0.Final.length bk), (25, .int .i64 (a0.Final.length : Int)), (26, .int .i64 (k1_26 : Int))] ⟨rfl, rfl, rfl, rfl, rfl, rfl, trivial⟩ ?_
    intro σ _
    refine zr ?_
    replace aq := aq.ch tW.ch
    refine zo (op_add rfl rfl (wrap_i64 (natbd h30 aq.bd))) (zm rfl (zn ?_))
    replace av := av.ch tW.ch
    replace hB := hB.trans tW.fr
    exact hX1 _ H _ _ ⟨Ql, ⟨rfl, rfl, rfl, rfl, rfl, rfl, trivial⟩, hO, bz, aq, av, hB⟩
   replace H := ifn h33 H
   refine zg (opB ((ldBool aq h31 h32 Try.underlying4 rfl rfl) _ (Same.refl _)) (Bool.eq_false_iff.2 h33)) (za rfl (za rfl (zn (zq (zr ?_)))))
   refine zm rfl (zo (op_fieldAddr Try.underlying25 rfl ti22 rfl (by decide)) (zs (oblk (i := 2) 1 hO rfl rfl Try.underlying22 rfl rfl) ?_))
   obtain ⟨h44, H⟩ := H
   obtain ⟨h45, H⟩ := H
   refine zo (op_index Try.underlying22 ti4 rfl rfl h44 h45 (aq.some_ h44 h45)) ?_
   by_cases h46 : ix a0.Final (0 : Int) = true
   ·replace H := ifp h46 H
    refine zg (opB ((ldBool aq h44 h45 Try.underlying4 rfl rfl) _ (Same.refl _)) (h46)) (zo (op_neqB Try.underlying4 rfl rfl) (zn (zt rfl rfl (zr (zm rfl ?_)))))
    refine zm rfl ?_
    obtain ⟨h47, H⟩ := H
    obtain ⟨h48, H⟩ := H
    refine zo (op_index Try.underlying31 ti3 rfl rfl h47 (ltn (vA.neq hO 0 rfl) h48) (vA.psome hO 0 rfl h47 h48)) ?_
    have hobt := ost (r := Rp.int .i64) rfl 0 hO rfl vA h47 h48 (v := .int .i64 (1 : Int)) (u := (1 : Int)) rfl rfl
    obtain ⟨w49, oo, t7, Qm, Dl⟩ := hobt
    refine zg (Dl Try.underlying3 rfl ti3 (by exact rfl) (by exact rfl)) ?_
    replace hO := t7.own
    refine za rfl (zn ?_)
    refine Go1.inBlock ?_
    refine zr ?_
    replace aq := aq.ch t7.ch
    refine zo (op_add rfl rfl (wrap_i64 (natbd h30 aq.bd))) (zm rfl (zn ?_))
    replace av := av.ch t7.ch
    replace hB := hB.trans t7.fr
    exact hX1 _ H _ _ ⟨oo, ⟨rfl, rfl, rfl, rfl, rfl, rfl, trivial⟩, hO, Qm, aq, av, hB⟩
   replace H := ifn h46 H
   refine zg (opB ((ldBool aq h44 h45 Try.underlying4 rfl rfl) _ (Same.refl _)) (Bool.eq_false_iff.2 h46)) (zo (op_neqB Try.underlying4 rfl rfl) (zn (zf rfl rfl (zk ?_))))
   refine Go1.inBlock ?_
   refine zr (zo (op_add rfl rfl (wrap_i64 (natbd h30 aq.bd))) (zm rfl (zn ?_)))
   exact hX1 _ H _ _ ⟨xd, ⟨rfl, rfl, rfl, rfl, rfl, rfl, trivial⟩, hO, vA, aq, av, hB⟩
  replace H := ifn h30 H
  refine zo (fun w => opB (op_lss rfl rfl w) (decide_eq_false h30)) (zn (zq (zf rfl rfl ?_)))
  refine Go1.exit rfl ?_
  refine zb ?_
  have hobt := freeze 0 hO rfl vA
  obtain ⟨hO1, yL, BE, EH⟩ := hobt
  replace hO := hO1; clear hO1
  replace aq := aq.ch yL
  replace av := av.ch yL
  replace hB := hB.trans (Owns.dropFr _ _ 0)
  refine Go1.loopW (S := List Int × Int) (fun s σ w => match s with | (l2_58, k2_62) => ∃ (p59 : Option Addr), ∃ (c60 : Nat), agrees σ [(1, .pointer (some ⟨B2, 0, none⟩)), (3, .slice p59 l2_58.length c60), (4, .int .i64 k2_62)] ∧ (fun Z0 => Owns w0.heap.size w Z0 A ∧ ISl (Rp.bool) (bl Z0 ++ A) w bj bk a0.Final ∧ ISl (Rp.sl (Rp.int .i64)) (bl Z0 ++ A) w bv bw a0.Next ∧ ISl (Rp.int .i64) (bl Z0 ++ A) w p59 c60 l2_58 ∧ Fr (bl []) w0 (bl Z0) w) [.blk B2 (.cells #[.int .i64 a0.Letters, .int .i64 a0.Start, .slice bj a0.Final.length bk, .slice bv a0.Next.length bw] 25 (0, 0))]) H ⟨p15, a0.Final.length, ⟨rfl, (congrArg (fun nn => Value.slice p15 nn a0.Final.length) EH), rfl, trivial⟩, hO, aq, av, BE, hB⟩ ?_
  intro X2
  refine prE fun l2_58 => fun k2_62 => ?_
  intro H hX2 σ w57
  refine exE fun p59 => exE fun c60 => andE fun hag => andE fun hO => andE fun aq => andE fun av => andE fun gF => fun hB => ?_
  dsimp only at H
  refine Go1.keep [(1, .pointer (some ⟨B2, 0, none⟩)), (3, .slice p59 l2_58.length c60), (4, .int .i64 k2_62)] hag ?_
  refine zb (zq (zr ?_))
  have hobt := omakeMap (fun a : AN 7 => Value.agg (icells .i64 a.1).toArray) (fun a : Int => Value.int .i64 a) hO
  obtain ⟨w63, B64, zH, pc, LK⟩ := hobt
  refine GoR.op LK rfl rfl ?_
  replace hO := zH.own
  refine za rfl (zn (zq (zr (zm rfl (zo (op_len Try.underlying31 rfl) ?_)))))
  replace gF := gF.ch zH.ch
  replace H := H gF.bd
  obtain ⟨h76, H⟩ := H
  obtain ⟨h77, H⟩ := H
  have hobt := omake (n := (l2_58.length : Int)) (r := Rp.int .i64) (d := (0 : Int)) Try.underlying31 ti3 (fun _ _ => rfl) rfl hO h76 h77 (by decide)
  obtain ⟨w69, p70, Qn, zI, Qo, PV, Dq⟩ := hobt
  refine zg (Dq rfl rfl) ?_
  replace hO := zI.own
  refine za rfl (zn (zq (zq (zr (zo (op_fieldAddr Try.underlying25 rfl ti23 rfl (by decide)) ?_)))))
  refine zs (oblk (i := 3) 2 hO rfl rfl Try.underlying23 rfl rfl) (zo (op_len Try.underlying23 rfl) ?_)
  replace av := (av.ch zH.ch).ch zI.ch
  replace H := H av.bd
  refine zm rfl (zn (zb ?_))
  replace gF := gF.ch zI.ch
  replace aq := (aq.ch zH.ch).ch zI.ch
  replace hB := (hB.trans zH.fr).trans zI.fr
  refine Go1.loopW (S := Nat × List Int × (List (AN 7 × Int))) (fun s σ w => match s with | (k3_80, d_81, m3_84) => ∃ (sf : List Value), agrees σ [(1, .pointer (some ⟨B2, 0, none⟩)), (3, .slice p59 l2_58.length c60), (4, .int .i64 k2_62), (7, .map (some B64)), (8, .slice p70 l2_58.length l2_58.length), (46, .slice bv a0.Next.length bw), (47, .int .i64 (a0.Next.length : Int)), (48, .int .i64 (k3_80 : Int))] ∧ (fun Z0 => Owns w0.heap.size w Z0 A ∧ Els (Rp.int .i64) (bl Z0 ++ A) w sf d_81 ∧ ISl (Rp.bool) (bl Z0 ++ A) w bj bk a0.Final ∧ ISl (Rp.sl (Rp.int .i64)) (bl Z0 ++ A) w bv bw a0.Next ∧ ISl (Rp.int .i64) (bl Z0 ++ A) w p59 c60 l2_58 ∧ Fr (bl []) w0 (bl Z0) w) [.row 3 1 p70 l2_58.length l2_58.length sf, .any (mapE (fun a : AN 7 => Value.agg (icells .i64 a.1).toArray) (fun a : Int => Value.int .i64 a) B64 m3_84), .blk B2 (.cells #[.int .i64 a0.Letters, .int .i64 a0.Start, .slice bj a0.Final.length bk, .slice bv a0.Next.length bw] 25 (0, 0))]) H ⟨Qn, ⟨rfl, rfl, rfl, rfl, rfl, rfl, rfl, rfl, trivial⟩, hO, Qo, aq, av, gF, hB⟩ ?_
  intro X3
  refine prE fun k3_80 => prE fun d_81 => fun m3_84 => ?_
  intro H hX3 σ w79
  refine exE fun sf => andE fun hag => andE fun hO => andE fun pe => andE fun aq => andE fun av => andE fun gF => fun hB => ?_
  dsimp only at H
  refine Go1.keep [(1, .pointer (some ⟨B2, 0, none⟩)), (3, .slice p59 l2_58.length c60), (4, .int .i64 k2_62), (7, .map (some B64)), (8, .slice p70 l2_58.length l2_58.length), (46, .slice bv a0.Next.length bw), (47, .int .i64 (a0.Next.length : Int)), (48, .int .i64 (k3_80 : Int))] hag ?_
  refine zq (zr ?_)
  by_cases h85 : (k3_80 : Int) < (a0.Next.length : Int)
  ·replace H := ifp h85 H
   refine zo (fun w => opB (op_lss rfl rfl w) (decide_eq_true h85)) (zn (zq (zt rfl rfl (zk (zq ?_)))))
   refine zb (zq (zr (zm rfl ?_)))
   obtain ⟨h86, H⟩ := H
   obtain ⟨h87, H⟩ := H
   refine zo (op_index Try.underlying23 ti31 rfl rfl h86 h87 (av.some_ h86 h87)) ?_
   have hobt := ldSl av h86 h87
   obtain ⟨p88, c89, lW, Qp⟩ := hobt
   refine zs (Qp Try.underlying31 rfl rfl) (za rfl (za rfl (zn (zq (zr ?_)))))
   refine zm rfl (zm rfl ?_)
   obtain ⟨h92, H⟩ := H
   obtain ⟨h93, H⟩ := H
   refine zo (op_index Try.underlying31 ti3 rfl rfl h92 h93 (gF.some_ h92 h93)) (zs (ldInt gF h92 h93 Try.underlying3 rfl rfl) (zo (op_buildArr Try.underlying166 ti166 ti3 (vs := [(0, .int .i64 (ix l2_58 (k3_80 : Int)))]) (cs := #[.int .i64 (ix l2_58 (k3_80 : Int)), .int .i64 (0 : Int), .int .i64 (0 : Int), .int .i64 (0 : Int), .int .i64 (0 : Int), .int .i64 (0 : Int), .int .i64 (0 : Int)]) rfl (by kernel_rfl)) ?_))
   have hobt := oalloc (t := 166) (cs := (icells .i64 (([(0 : Int), (0 : Int), (0 : Int), (0 : Int), (0 : Int), (0 : Int), (0 : Int)] : List Int))).toArray) ti166 hO rfl
   obtain ⟨w94, B95, xe, Uf, LN⟩ := hobt
   refine GoR.op LN rfl rfl ?_
   replace hO := xe.own
   obtain ⟨Qq, H⟩ := H
   have hobt := oarrStA (M := [(ix l2_58 (k3_80 : Int)), (0 : Int), (0 : Int), (0 : Int), (0 : Int), (0 : Int), (0 : Int)]) 0 hO rfl (by rw [Qq]; rfl)
   obtain ⟨Ug, fV, Ie⟩ := hobt
   refine zg (Ie ti166 (by exact rfl) (by exact rfl)) ?_
   replace hO := fV.own
   refine zn (zq (zq (zr (zm rfl (zo (op_len Try.underlying31 rfl) ?_)))))
   replace lW := (lW.ch xe.ch).ch fV.ch
   replace H := H lW.bd
   refine zm rfl (zn (zb ?_))
   have Z2 := xe.ch.trans fV.ch
   replace pe := pe.ch Z2
   replace aq := aq.ch Z2
   replace av := av.ch Z2
   replace gF := gF.ch Z2
   replace hB := (hB.trans xe.fr).trans fV.fr
   refine Go1.loopW (S := Nat × List Int) (fun s σ w => match s with | (k4_105, y4_106) => agrees σ [(1, .pointer (some ⟨B2, 0, none⟩)), (3, .slice p59 l2_58.length c60), (4, .int .i64 k2_62), (7, .map (some B64)), (8, .slice p70 l2_58.length l2_58.length), (9, .int .i64 (k3_80 : Int)), (11, .pointer (some ⟨B95, 0, none⟩)), (46, .slice bv a0.Next.length bw), (47, .int .i64 (a0.Next.length : Int)), (48, .int .i64 (k3_80 : Int)), (58, .slice p88 ((ix a0.Next (k3_80 : Int)).length) c89), (59, .int .i64 ((ix a0.Next (k3_80 : Int)).length : Int)), (60, .int .i64 (k4_105 : Int))] ∧ (fun Z0 => Owns w0.heap.size w Z0 A ∧ Els (Rp.int .i64) (bl Z0 ++ A) w sf d_81 ∧ ISl (Rp.bool) (bl Z0 ++ A) w bj bk a0.Final ∧ ISl (Rp.sl (Rp.int .i64)) (bl Z0 ++ A) w bv bw a0.Next ∧ ISl (Rp.int .i64) (bl Z0 ++ A) w p59 c60 l2_58 ∧ ISl (Rp.int .i64) (bl Z0 ++ A) w p88 c89 (ix a0.Next (k3_80 : Int)) ∧ Fr (bl []) w0 (bl Z0) w) [.blk B95 (.cells (icells .i64 y4_106).toArray 166 (0, 0)), .row 3 1 p70 l2_58.length l2_58.length sf, .any (mapE (fun a : AN 7 => Value.agg (icells .i64 a.1).toArray) (fun a : Int => Value.int .i64 a) B64 m3_84), .blk B2 (.cells #[.int .i64 a0.Letters, .int .i64 a0.Start, .slice bj a0.Final.length bk, .slice bv a0.Next.length bw] 25 (0, 0))]) H ⟨⟨rfl, rfl, rfl, rfl, rfl, rfl, rfl, rfl, rfl, rfl, rfl, rfl, rfl, trivial⟩, hO, pe, aq, av, gF, lW, hB⟩ ?_
   intro X4
   refine prE fun k4_105 => fun y4_106 => ?_
   intro H hX4 σ Uh
   refine andE fun hag => andE fun hO => andE fun pe => andE fun aq => andE fun av => andE fun gF => andE fun lW => fun hB => ?_
   dsimp only at H
   refine Go1.keep [(1, .pointer (some ⟨B2, 0, none⟩)), (3, .slice p59 l2_58.length c60), (4, .int .i64 k2_62), (7, .map (some B64)), (8, .slice p70 l2_58.length l2_58.length), (9, .int .i64 (k3_80 : Int)), (11, .pointer (some ⟨B95, 0, none⟩)), (46, .slice bv a0.Next.length bw), (47, .int .i64 (a0.Next.length : Int)), (48, .int .i64 (k3_80 : Int)), (58, .slice p88 ((ix a0.Next (k3_80 : Int)).length) c89), (59, .int .i64 ((ix a0.Next (k3_80 : Int)).length : Int)), (60, .int .i64 (k4_105 : Int))] hag ?_
   refine zq (zr ?_)
   by_cases qR : (k4_105 : Int) < ((ix a0.Next (k3_80 : Int)).length : Int)
   ·replace H := ifp qR H
    refine zo (fun w => opB (op_lss rfl rfl w) (decide_eq_true qR)) (zn (zq (zt rfl rfl (zk (zq ?_)))))
    refine zb (zq (zr (zm rfl ?_)))
    obtain ⟨sV, H⟩ := H
    obtain ⟨uT, H⟩ := H
    refine zo (op_index Try.underlying31 ti3 rfl rfl sV uT (lW.some_ sV uT)) (zs (ldInt lW sV uT Try.underlying3 rfl rfl) (za rfl (za rfl (zn (zr ?_)))))
    refine zm rfl ?_
    obtain ⟨B3, H⟩ := H
    refine zo (op_add rfl rfl (wrap_i64 B3)) (zm rfl (zm rfl ?_))
    obtain ⟨yQ, H⟩ := H
    obtain ⟨xD, H⟩ := H
    refine zo (op_index Try.underlying31 ti3 rfl rfl yQ xD (gF.some_ yQ xD)) (zs (ldInt gF yQ xD Try.underlying3 rfl rfl) ?_)
    obtain ⟨Qr, H⟩ := H
    obtain ⟨Ig, H⟩ := H
    obtain ⟨Ih, H⟩ := H
    refine zo (op_indexArr (n := 7) Try.underlying166 ti3 rfl rfl Ig Ih) ?_
    have hobt := oarrSt (v := (ix l2_58 (ix (ix a0.Next (k3_80 : Int)) (k4_105 : Int)))) 0 hO rfl Ig (arrLt Qr Ih)
    obtain ⟨Ui, vB, Ii⟩ := hobt
    refine zg (Ii Try.underlying3 rfl ti3 (by exact rfl) (by exact rfl)) ?_
    replace hO := vB.own
    refine zn ?_
    refine Go1.inBlock ?_
    refine zr ?_
    replace lW := lW.ch vB.ch
    refine zo (op_add rfl rfl (wrap_i64 (natbd qR lW.bd))) (zm rfl (zn ?_))
    replace pe := pe.ch vB.ch
    replace aq := aq.ch vB.ch
    replace av := av.ch vB.ch
    replace gF := gF.ch vB.ch
    replace hB := hB.trans vB.fr
    exact hX4 _ H _ _ ⟨⟨rfl, rfl, rfl, rfl, rfl, rfl, rfl, rfl, rfl, rfl, rfl, rfl, rfl, trivial⟩, hO, pe, aq, av, gF, lW, hB⟩
   replace H := ifn qR H
   refine zo (fun w => opB (op_lss rfl rfl w) (decide_eq_false qR)) (zn (zq (zf rfl rfl ?_)))
   refine Go1.exit rfl ?_
   refine zq (zr (zm rfl ?_))
   obtain ⟨Qs, H⟩ := H
   refine zs (oarrLd 0 hO rfl Qs Try.underlying166 rfl ti166 rfl) ?_
   by_cases DA : mhas m3_84 ((toAN 7 y4_106)) = true
   ·replace H := ifp DA H
    refine zs (olookT (a := (toAN 7 y4_106)) (MK.arrN Try.underlying166 Try.underlying3 ti3) 2 hO rfl Try.underlying164 rfl rfl DA) (zm rfl (zo (op_extract rfl rfl) (zo (op_extract rfl rfl) (za rfl (za rfl ?_)))))
    refine zn (zq (zq ?_))
    refine Go1.cut [(1, .pointer (some ⟨B2, 0, none⟩)), (3, .slice p59 l2_58.length c60), (4, .int .i64 k2_62), (7, .map (some B64)), (8, .slice p70 l2_58.length l2_58.length), (9, .int .i64 (k3_80 : Int)), (11, .pointer (some ⟨B95, 0, none⟩)), (14, .int .i64 (mgt m3_84 ((toAN 7 y4_106)))), (15, .bool true), (46, .slice bv a0.Next.length bw), (47, .int .i64 (a0.Next.length : Int)), (48, .int .i64 (k3_80 : Int))] ⟨rfl, rfl, rfl, rfl, rfl, rfl, rfl, rfl, rfl, rfl, rfl, rfl, trivial⟩ ?_
    intro σ _
    refine zr (zm rfl (zo (op_not rfl) (zn (zf rfl rfl (zk ?_)))))
    refine zr (zm rfl (zm rfl (zm rfl ?_)))
    obtain ⟨Fd, H⟩ := H
    obtain ⟨Fe, H⟩ := H
    refine zo (op_index Try.underlying31 ti3 rfl rfl Fd (ltn (pe.neq hO 1 rfl) Fe) (pe.psome hO 1 rfl Fd Fe)) ?_
    have hobt := ost (r := Rp.int .i64) rfl 1 hO rfl pe Fd Fe (v := .int .i64 (mgt m3_84 ((toAN 7 y4_106)))) (u := (mgt m3_84 ((toAN 7 y4_106)))) rfl rfl
    obtain ⟨Uj, mH, wG, xg, B5⟩ := hobt
    refine zg (B5 Try.underlying3 rfl ti3 (by exact rfl) (by exact rfl)) ?_
    replace hO := wG.own
    refine zn ?_
    refine Go1.inBlock ?_
    refine zr ?_
    replace av := av.ch wG.ch
    refine zo (op_add rfl rfl (wrap_i64 (natbd h85 av.bd))) (zm rfl (zn ?_))
    replace hO := hO.drop 0
    replace av := av.ch (Owns.dropCh _ _ 0)
    replace xg := xg.ch (Owns.dropCh _ _ 0)
    have Z3 := wG.ch.trans (Owns.dropCh _ _ 0)
    replace aq := aq.ch Z3
    replace gF := gF.ch Z3
    replace hB := (hB.trans wG.fr).trans (Owns.dropFr _ _ 0)
    exact hX3 _ H _ _ ⟨mH, ⟨rfl, rfl, rfl, rfl, rfl, rfl, rfl, rfl, trivial⟩, hO, xg, aq, av, gF, hB⟩
   replace H := ifn DA H
   refine zs (olookF (a := (toAN 7 y4_106)) (MK.arrN Try.underlying166 Try.underlying3 ti3) 2 hO rfl Try.underlying164 ti3 rfl rfl DA) (zm rfl (zo (op_extract rfl rfl) (zo (op_extract rfl rfl) (za rfl (za rfl ?_)))))
   refine zn (zq (zq (zr (zm rfl (zo (op_not rfl) ?_)))))
   refine zn (zt rfl rfl (zq (zr (zm rfl (zs (omapLen 2 hO rfl Try.underlying164 rfl) ?_)))))
   refine za rfl (zn ?_)
   refine Go1.cut [(1, .pointer (some ⟨B2, 0, none⟩)), (3, .slice p59 l2_58.length c60), (4, .int .i64 k2_62), (7, .map (some B64)), (8, .slice p70 l2_58.length l2_58.length), (9, .int .i64 (k3_80 : Int)), (11, .pointer (some ⟨B95, 0, none⟩)), (14, .int .i64 (m3_84.length : Int)), (46, .slice bv a0.Next.length bw), (47, .int .i64 (a0.Next.length : Int)), (48, .int .i64 (k3_80 : Int))] ⟨rfl, rfl, rfl, rfl, rfl, rfl, rfl, rfl, rfl, rfl, rfl, trivial⟩ ?_
   intro σ _
   refine zr (zm rfl ?_)
   obtain ⟨Qt, H⟩ := H
   refine zs (oarrLd 0 hO rfl Qt Try.underlying166 rfl ti166 rfl) (zm rfl ?_)
   have hobt := omapUpd (MK.arrN Try.underlying166 Try.underlying3 ti3) 2 hO rfl Try.underlying164 (toAN 7 y4_106) (m3_84.length : Int)
   obtain ⟨B6, vC, Ij⟩ := hobt
   refine zg (Ij (by exact rfl) (by exact rfl) (by exact rfl)) ?_
   replace hO := vC.own
   refine zn (zr (zm rfl (zm rfl (zm rfl ?_))))
   obtain ⟨xw, H⟩ := H
   obtain ⟨Ff, H⟩ := H
   replace pe := pe.ch vC.ch
   refine zo (op_index Try.underlying31 ti3 rfl rfl xw (ltn (pe.neq hO 1 rfl) Ff) (pe.psome hO 1 rfl xw Ff)) ?_
   have hobt := ost (r := Rp.int .i64) rfl 1 hO rfl pe xw Ff (v := .int .i64 (m3_84.length : Int)) (u := (m3_84.length : Int)) rfl rfl
   obtain ⟨Uk, LO, wH, cI, Ik⟩ := hobt
   refine zg (Ik Try.underlying3 rfl ti3 (by exact rfl) (by exact rfl)) ?_
   replace hO := wH.own
   refine zn ?_
   refine Go1.inBlock ?_
   refine zr ?_
   replace av := (av.ch vC.ch).ch wH.ch
   refine zo (op_add rfl rfl (wrap_i64 (natbd h85 av.bd))) (zm rfl (zn ?_))
   replace hO := hO.drop 0
   replace av := av.ch (Owns.dropCh _ _ 0)
   replace cI := cI.ch (Owns.dropCh _ _ 0)
   have Z4 := (vC.ch.trans wH.ch).trans (Owns.dropCh _ _ 0)
   replace aq := aq.ch Z4
   replace gF := gF.ch Z4
   replace hB := ((hB.trans vC.fr).trans wH.fr).trans (Owns.dropFr _ _ 0)
   exact hX3 _ H _ _ ⟨LO, ⟨rfl, rfl, rfl, rfl, rfl, rfl, rfl, rfl, trivial⟩, hO, cI, aq, av, gF, hB⟩
  replace H := ifn h85 H
  refine zo (fun w => opB (op_lss rfl rfl w) (decide_eq_false h85)) (zn (zq (zf rfl rfl ?_)))
  refine Go1.exit rfl ?_
  refine zq (zq (zr (zm rfl (zs (omapLen 1 hO rfl Try.underlying164 rfl) (zm rfl ?_)))))
  by_cases xE : (m3_84.length : Int) = k2_62
  ·replace H := ifp xE H
   refine zo (fun w => opB (op_eql rfl rfl w) (decide_eq_true xE)) (zn (zt rfl rfl (zq (zr (zm rfl ?_)))))
   refine za rfl (zn ?_)
   have hobt := freeze 0 hO rfl pe
   obtain ⟨hO1, DB, LP, LQ⟩ := hobt
   replace hO := hO1; clear hO1
   refine Go1.ret1 Try.func110 rfl ?_
   replace hB := hB.trans (Owns.dropFr _ _ 0)
   exact ⟨d_81, p70, l2_58.length, (congrArg (fun nn => Value.slice p70 nn l2_58.length) LQ), hB.same, (LP.ch (Ch.weak _ _ _)), H⟩
  replace H := ifn xE H
  refine zo (fun w => opB (op_eql rfl rfl w) (decide_eq_false xE)) (zn (zf rfl rfl (zk (zr (zm rfl ?_)))))
  refine zm rfl (zs (omapLen 1 hO rfl Try.underlying164 rfl) (za rfl (za rfl (zn ?_))))
  refine Go1.inBlock ?_
  have hobt := freeze 0 hO rfl pe
  obtain ⟨hO1, DD, DE, LS⟩ := hobt
  replace hO := hO1; clear hO1
  replace hO := hO.drop 0
  replace DE := DE.ch (Owns.dropCh _ _ 0)
  have Z5 := DD.trans (Owns.dropCh _ _ 0)
  replace aq := aq.ch Z5
  replace av := av.ch Z5
  replace hB := (hB.trans (Owns.dropFr _ _ 0)).trans (Owns.dropFr _ _ 0)
  exact hX2 _ H _ _ ⟨p70, l2_58.length, ⟨rfl, (congrArg (fun nn => Value.slice p70 nn l2_58.length) LS), rfl, trivial⟩, hO, aq, av, DE, hB⟩
 replace H := ifn h13 H
 refine zo (fun w => opB (op_neq rfl rfl w) (ndF h13)) (zn (zt rfl rfl (zq ?_)))
 refine Go1.cut [] trivial ?_
 intro σ _
 refine zr (za rfl (zn ?_))
 refine Go1.ret1 Try.func110 rfl ?_
 replace hB := (hB.trans dG.fr).trans rf.fr
 exact ⟨([] : List Int), none, 0, rfl, hB.same, (ISl.null _ _ _), H⟩
end Sg
