/- -/
import Derived.Test.YtlneebpmblkllaaTi
import Derived.Test.YtlneebpmblkllaaAl
namespace Sg
open Go Go.RowKit Go.Proofs
set_option linter.unusedVariables false
set_option linter.unusedSimpArgs false
set_option maxRecDepth 100000
set_option maxHeartbeats 4000000
theorem body59 : Body Try.prog 59 := ⟨Try.f59, Try.func59, rfl, by kernel_rfl⟩
theorem walk_ref01_MayLetters {A : List Nat} {w0 : World} {letters : Int} (hA : ∀ b ∈ A, b < w0.heap.size) {K : Bool → Prop} (H : J0G letters K) :
    CallsV Try.prog 59 #[.int .i64 letters] w0 (fun v w' => ∃ (r0 : Bool), v = .bool r0 ∧ Same w0 w' ∧ K r0) := by
 refine CallsV.of (l := [.int .i64 letters]) Try.func59 rfl Try.ntmps59 rfl ?_
 have hO := Owns.start hA
 have hB := Fr.refl (bl []) w0
 unfold J0G at H
 refine zq (zr (za rfl (zn (zq (zr ?_)))))
 refine zm rfl ?_
 by_cases h1 : (1 : Int) ≤ letters
 ·replace H := ifp h1 H
  refine zo (fun w => opB (J0L rfl rfl w) (decide_eq_true h1)) (zm rfl (zm rfl ?_))
  by_cases h2 : letters ≤ (6 : Int)
  ·replace H := ifp h2 H
   refine zo (fun w => opB (op_leq rfl rfl w) (decide_eq_true h2)) (zo (J05 rfl rfl rfl) (za rfl (zn ?_)))
   refine Go1.ret1 Try.func59 rfl ?_
   exact ⟨true, rfl, hB.same, H⟩
  replace H := ifn h2 H
  refine zo (fun w => opB (op_leq rfl rfl w) (decide_eq_false h2)) (zo (J05 rfl rfl rfl) (za rfl (zn ?_)))
  refine Go1.ret1 Try.func59 rfl ?_
  exact ⟨false, rfl, hB.same, H⟩
 replace H := ifn h1 H
 refine zo (fun w => opB (J0L rfl rfl w) (decide_eq_false h1)) (zm rfl (zp (zp (zo (J04 rfl rfl rfl) (za rfl ?_)))))
 refine zn ?_
 refine Go1.ret1 Try.func59 rfl ?_
 exact ⟨false, rfl, hB.same, H⟩
theorem body16 : Body Try.prog 16 := ⟨Try.f16, Try.func16, rfl, by kernel_rfl⟩
theorem walk_ref07_Validate {A : List Nat} {w0 : World} {aQ : Option Addr} {aR : Nat} {aW : Option Addr} {aX : Nat} {d : DFA} (hA : ∀ b ∈ A, b < w0.heap.size) (aa : ISl (Rp.bool) A w0 aQ aR d.Final) (ai : ISl (Rp.sl (Rp.int .i64)) A w0 aW aX d.Next) {K : Int → Prop} (H : J1b d K) :
    CallsV Try.prog 16 #[.agg #[.int .i64 d.Letters, .int .i64 d.Start, .slice aQ d.Final.length aR, .slice aW d.Next.length aX]] w0 (fun v w' => ∃ (r0 : Int), v = .int .i64 r0 ∧ Same w0 w' ∧ K r0) := by
 refine CallsV.of (l := [.agg #[.int .i64 d.Letters, .int .i64 d.Start, .slice aQ d.Final.length aR, .slice aW d.Next.length aX]]) Try.func16 rfl Try.ntmps16 rfl ?_
 have hO := Owns.start hA
 have hB := Fr.refl (bl []) w0
 unfold J1b at H
 refine zq (zr ?_)
 have zz := obox (t := 25) (v := .agg #[.int .i64 d.Letters, .int .i64 d.Start, .slice aQ d.Final.length aR, .slice aW d.Next.length aX]) (cs := #[.int .i64 d.Letters, .int .i64 d.Start, .slice aQ d.Final.length aR, .slice aW d.Next.length aX]) hO rfl
 obtain ⟨w1, B2, cB, hs4, ic⟩ := zz
 refine zg (ic rfl) ?_
 replace hO := cB.own
 refine za rfl (zn (zq (zr (zo (J00 Try.underlying25 rfl ti22 rfl (by decide)) (zs (oblk (i := 2) 0 hO rfl rfl Try.underlying22 rfl rfl) ?_)))))
 refine zo (J0d Try.underlying22 rfl) ?_
 replace aa := (aa.ch (Ch.start A w0)).ch cB.ch
 replace H := H aa.bd
 refine za rfl (zn (zq (zq (zr (zo (J00 Try.underlying25 rfl ti3 rfl (by decide)) ?_)))))
 refine zs (oblk (i := 0) 0 hO rfl rfl Try.underlying3 rfl rfl) ?_
 refine GoR.call (J0a body59 rfl (walk_ref01_MayLetters hO.lt H)) rfl rfl ?_
 rintro v11 w8 ⟨r7, rfl, hs9, H⟩
 have d8 := Stp.same hO hs9
 replace hO := d8.own
 cases r7
 ·replace H := ifn Bool.false_ne_true H
  refine zo (J0l rfl) (zn (zt rfl rfl (zq (zr (za rfl ?_)))))
  refine zn ?_
  refine Go1.ret1 Try.func16 rfl ?_
  replace hB := (hB.trans cB.fr).trans d8.fr
  exact ⟨(1 : Int), rfl, hB.same, H⟩
 replace H := ifp rfl H
 refine zo (J0l rfl) (zn (zf rfl rfl (zk (zq (zq ?_)))))
 refine zr (zm rfl ?_)
 by_cases h13 : (512 : Int) < (d.Final.length : Int)
 ·replace H := ifp h13 H
  refine zo (fun w => opB (J0M rfl rfl w) (decide_eq_true h13)) (zn (zt rfl rfl (zq (zr (za rfl ?_)))))
  refine zn ?_
  refine Go1.ret1 Try.func16 rfl ?_
  replace hB := (hB.trans cB.fr).trans d8.fr
  exact ⟨(3 : Int), rfl, hB.same, H⟩
 replace H := ifn h13 H
 refine zo (fun w => opB (J0M rfl rfl w) (decide_eq_false h13)) (zn (zf rfl rfl (zk (zq (zq ?_)))))
 refine zr (zm rfl ?_)
 by_cases h14 : (d.Final.length : Int) = (0 : Int)
 ·replace H := ifp h14 H
  refine zo (fun w => opB (J0w rfl rfl w) (decide_eq_true h14)) (zm rfl (zp (zp (zp (zp ?_)))))
  refine zp (zo (J05 rfl rfl rfl) (zm rfl (zp (zp (zp ?_)))))
  refine zo (J05 rfl rfl rfl) (zm rfl (zp (zp (zp (zp ?_)))))
  refine zo (J05 rfl rfl rfl) (zn (zt rfl rfl (zq ?_)))
  refine Go1.cut [] trivial ?_
  intro σ _
  refine zr (za rfl (zn ?_))
  refine Go1.ret1 Try.func16 rfl ?_
  replace hB := (hB.trans cB.fr).trans d8.fr
  exact ⟨(4 : Int), rfl, hB.same, H⟩
 replace H := ifn h14 H
 refine zo (fun w => opB (J0w rfl rfl w) (decide_eq_false h14)) (zm rfl (zo (J00 Try.underlying25 rfl ti23 rfl (by decide)) (zs (oblk (i := 3) 0 hO rfl rfl Try.underlying23 rfl rfl) (zo (J0d Try.underlying23 rfl) ?_))))
 have Z1 := ((Ch.start A w0).trans cB.ch).trans d8.ch
 replace ai := ai.ch Z1
 replace H := H ai.bd
 refine zm rfl ?_
 by_cases h15 : (d.Next.length : Int) = (d.Final.length : Int)
 ·replace H := ifp h15 H
  refine zo (fun w => opB (J0g rfl rfl w) (ndT h15)) (zo (J04 rfl rfl rfl) (zm rfl (zo (J00 Try.underlying25 rfl ti3 rfl (by decide)) (zs (oblk (i := 1) 0 hO rfl rfl Try.underlying3 rfl rfl) ?_))))
  by_cases h16 : d.Start < (0 : Int)
  ·replace H := ifp h16 H
   refine zo (fun w => opB (J08 rfl rfl w) (decide_eq_true h16)) (zo (J04 rfl rfl rfl) (zm rfl (zp (zp (zp ?_)))))
   refine zp (zo (J05 rfl rfl rfl) (zn (zt rfl rfl (zq ?_))))
   refine Go1.cut [] trivial ?_
   intro σ _
   refine zr (za rfl (zn ?_))
   refine Go1.ret1 Try.func16 rfl ?_
   replace hB := (hB.trans cB.fr).trans d8.fr
   exact ⟨(4 : Int), rfl, hB.same, H⟩
  replace H := ifn h16 H
  refine zo (fun w => opB (J08 rfl rfl w) (decide_eq_false h16)) (zo (J04 rfl rfl rfl) (zm rfl (zo (J00 Try.underlying25 rfl ti3 rfl (by decide)) (zs (oblk (i := 1) 0 hO rfl rfl Try.underlying3 rfl rfl) (zm rfl ?_)))))
  by_cases h17 : (d.Final.length : Int) ≤ d.Start
  ·replace H := ifp h17 H
   refine zo (fun w => opB (J0L rfl rfl w) (decide_eq_true h17)) (zo (J04 rfl rfl rfl) (zn (zt rfl rfl (zq (zr ?_)))))
   refine za rfl (zn ?_)
   refine Go1.ret1 Try.func16 rfl ?_
   replace hB := (hB.trans cB.fr).trans d8.fr
   exact ⟨(4 : Int), rfl, hB.same, H⟩
  replace H := ifn h17 H
  refine zo (fun w => opB (J0L rfl rfl w) (decide_eq_false h17)) (zo (J04 rfl rfl rfl) (zn (zf rfl rfl (zk (zq ?_)))))
  refine zq (zr (zo (J00 Try.underlying25 rfl ti23 rfl (by decide)) (zs (oblk (i := 3) 0 hO rfl rfl Try.underlying23 rfl rfl) (zo (J0d Try.underlying23 rfl) (zm rfl ?_)))))
  refine zn (zb ?_)
  replace aa := aa.ch d8.ch
  replace hB := (hB.trans cB.fr).trans d8.fr
  refine Go1.loopW (S := Nat) (fun s σ w => agrees σ [(1, .pointer (some ⟨B2, 0, none⟩)), (3, .int .i64 (d.Final.length : Int)), (38, .slice aW d.Next.length aX), (39, .int .i64 (d.Next.length : Int)), (40, .int .i64 (s : Int))] ∧ (fun Z0 => Owns w0.heap.size w Z0 A ∧ ISl (Rp.bool) (bl Z0 ++ A) w aQ aR d.Final ∧ ISl (Rp.sl (Rp.int .i64)) (bl Z0 ++ A) w aW aX d.Next ∧ Fr (bl []) w0 (bl Z0) w) [.blk B2 (.cells #[.int .i64 d.Letters, .int .i64 d.Start, .slice aQ d.Final.length aR, .slice aW d.Next.length aX] 25 (0, 0))]) H ⟨⟨rfl, rfl, rfl, rfl, rfl, trivial⟩, hO, aa, ai, hB⟩ ?_
  intro X1 k1_19
  intro H hX1 σ w18
  refine andE fun hag => andE fun hO => andE fun aa => andE fun ai => fun hB => ?_
  refine Go1.keep [(1, .pointer (some ⟨B2, 0, none⟩)), (3, .int .i64 (d.Final.length : Int)), (38, .slice aW d.Next.length aX), (39, .int .i64 (d.Next.length : Int)), (40, .int .i64 (k1_19 : Int))] hag ?_
  refine zq (zr ?_)
  by_cases h20 : (k1_19 : Int) < (d.Next.length : Int)
  ·replace H := ifp h20 H
   refine zo (fun w => opB (J08 rfl rfl w) (decide_eq_true h20)) (zn (zq (zt rfl rfl (zk (zq ?_)))))
   refine zb (zq (zr ?_))
   obtain ⟨h21, H⟩ := H
   obtain ⟨h22, H⟩ := H
   refine zo (J02 Try.underlying23 ti31 rfl rfl h21 h22 (ai.some_ h21 h22)) ?_
   have zz := ldSl ai h21 h22
   obtain ⟨p23, c24, zN, QE⟩ := zz
   refine zs (QE Try.underlying31 rfl rfl) (za rfl (zn (zq (zq (zr ?_)))))
   refine zm rfl (zo (J0d Try.underlying31 rfl) ?_)
   replace H := H zN.bd
   refine zo (J00 Try.underlying25 rfl ti3 rfl (by decide)) (zs (oblk (i := 0) 0 hO rfl rfl Try.underlying3 rfl rfl) ?_)
   by_cases h27 : ((ix d.Next (k1_19 : Int)).length : Int) = d.Letters
   ·replace H := ifp h27 H
    refine zo (fun w => opB (J0g rfl rfl w) (ndT h27)) (zn (zf rfl rfl (zk (zq (zr ?_)))))
    refine zm rfl (zo (J0d Try.underlying31 rfl) (zm rfl (zn (zb ?_))))
    refine Go1.loopW (S := Nat) (fun s σ w => agrees σ [(1, .pointer (some ⟨B2, 0, none⟩)), (3, .int .i64 (d.Final.length : Int)), (38, .slice aW d.Next.length aX), (39, .int .i64 (d.Next.length : Int)), (40, .int .i64 (k1_19 : Int)), (49, .slice p23 ((ix d.Next (k1_19 : Int)).length) c24), (50, .int .i64 ((ix d.Next (k1_19 : Int)).length : Int)), (51, .int .i64 (s : Int))] ∧ (fun Z0 => Owns w0.heap.size w Z0 A ∧ ISl (Rp.bool) (bl Z0 ++ A) w aQ aR d.Final ∧ ISl (Rp.sl (Rp.int .i64)) (bl Z0 ++ A) w aW aX d.Next ∧ ISl (Rp.int .i64) (bl Z0 ++ A) w p23 c24 (ix d.Next (k1_19 : Int)) ∧ Fr (bl []) w0 (bl Z0) w) [.blk B2 (.cells #[.int .i64 d.Letters, .int .i64 d.Start, .slice aQ d.Final.length aR, .slice aW d.Next.length aX] 25 (0, 0))]) H ⟨⟨rfl, rfl, rfl, rfl, rfl, rfl, rfl, rfl, trivial⟩, hO, aa, ai, zN, hB⟩ ?_
    intro X2 k2_29
    intro H hX2 σ w28
    refine andE fun hag => andE fun hO => andE fun aa => andE fun ai => andE fun zN => fun hB => ?_
    refine Go1.keep [(1, .pointer (some ⟨B2, 0, none⟩)), (3, .int .i64 (d.Final.length : Int)), (38, .slice aW d.Next.length aX), (39, .int .i64 (d.Next.length : Int)), (40, .int .i64 (k1_19 : Int)), (49, .slice p23 ((ix d.Next (k1_19 : Int)).length) c24), (50, .int .i64 ((ix d.Next (k1_19 : Int)).length : Int)), (51, .int .i64 (k2_29 : Int))] hag ?_
    refine zq (zr ?_)
    by_cases h30 : (k2_29 : Int) < ((ix d.Next (k1_19 : Int)).length : Int)
    ·replace H := ifp h30 H
     refine zo (fun w => opB (J08 rfl rfl w) (decide_eq_true h30)) (zn (zq (zt rfl rfl (zk (zq ?_)))))
     refine zb (zq (zr ?_))
     obtain ⟨h31, H⟩ := H
     obtain ⟨h32, H⟩ := H
     refine zo (J02 Try.underlying31 ti3 rfl rfl h31 h32 (zN.some_ h31 h32)) (zs (ldInt zN h31 h32 Try.underlying3 rfl rfl) (za rfl (zn (zq (zr ?_)))))
     refine zm rfl ?_
     by_cases h33 : (ix (ix d.Next (k1_19 : Int)) (k2_29 : Int)) < (0 : Int)
     ·replace H := ifp h33 H
      refine zo (fun w => opB (J08 rfl rfl w) (decide_eq_true h33)) (zm rfl (zp (zp (zp (zo (J05 rfl rfl rfl) ?_)))))
      refine zn (zt rfl rfl (zq (zr (za rfl (zn ?_)))))
      refine Go1.ret1 Try.func16 rfl ?_
      exact ⟨(4 : Int), rfl, hB.same, H⟩
     replace H := ifn h33 H
     refine zo (fun w => opB (J08 rfl rfl w) (decide_eq_false h33)) (zm rfl (zm rfl (zm rfl ?_)))
     by_cases h34 : (d.Final.length : Int) ≤ (ix (ix d.Next (k1_19 : Int)) (k2_29 : Int))
     ·replace H := ifp h34 H
      refine zo (fun w => opB (J0L rfl rfl w) (decide_eq_true h34)) (zo (J04 rfl rfl rfl) (zn (zt rfl rfl (zq (zr ?_)))))
      refine za rfl (zn ?_)
      refine Go1.ret1 Try.func16 rfl ?_
      exact ⟨(4 : Int), rfl, hB.same, H⟩
     replace H := ifn h34 H
     refine zo (fun w => opB (J0L rfl rfl w) (decide_eq_false h34)) (zo (J04 rfl rfl rfl) (zn (zf rfl rfl (zk ?_))))
     refine Go1.inBlock ?_
     refine Go1.cut [(1, .pointer (some ⟨B2, 0, none⟩)), (3, .int .i64 (d.Final.length : Int)), (38, .slice aW d.Next.length aX), (39, .int .i64 (d.Next.length : Int)), (40, .int .i64 (k1_19 : Int)), (49, .slice p23 ((ix d.Next (k1_19 : Int)).length) c24), (50, .int .i64 ((ix d.Next (k1_19 : Int)).length : Int)), (51, .int .i64 (k2_29 : Int))] ⟨rfl, rfl, rfl, rfl, rfl, rfl, rfl, rfl, trivial⟩ ?_
     intro σ _
     refine zr (zo (J0c rfl rfl (wrap_i64 (natbd h30 zN.bd))) (zm rfl (zn ?_)))
     exact hX2 _ H _ _ ⟨⟨rfl, rfl, rfl, rfl, rfl, rfl, rfl, rfl, trivial⟩, hO, aa, ai, zN, hB⟩
    replace H := ifn h30 H
    refine zo (fun w => opB (J08 rfl rfl w) (decide_eq_false h30)) (zn (zq (zf rfl rfl ?_)))
    refine Go1.exit rfl ?_
    refine Go1.inBlock ?_
    refine zr (zo (J0c rfl rfl (wrap_i64 (natbd h20 ai.bd))) (zm rfl (zn ?_)))
    exact hX1 _ H _ _ ⟨⟨rfl, rfl, rfl, rfl, rfl, trivial⟩, hO, aa, ai, hB⟩
   replace H := ifn h27 H
   refine zo (fun w => opB (J0g rfl rfl w) (ndF h27)) (zn (zt rfl rfl (zq (zr (za rfl ?_)))))
   refine zn ?_
   refine Go1.ret1 Try.func16 rfl ?_
   exact ⟨(4 : Int), rfl, hB.same, H⟩
  replace H := ifn h20 H
  refine zo (fun w => opB (J08 rfl rfl w) (decide_eq_false h20)) (zn (zq (zf rfl rfl ?_)))
  refine Go1.exit rfl ?_
  refine zq (zr (za rfl (zn ?_)))
  refine Go1.ret1 Try.func16 rfl ?_
  exact ⟨(0 : Int), rfl, hB.same, H⟩
 replace H := ifn h15 H
 refine zo (fun w => opB (J0g rfl rfl w) (ndF h15)) (zo (J04 rfl rfl rfl) (zm rfl (zp (zp (zp ?_)))))
 refine zo (J05 rfl rfl rfl) (zm rfl (zp (zp (zp (zp ?_)))))
 refine zo (J05 rfl rfl rfl) (zn (zt rfl rfl (zq (zr (za rfl ?_)))))
 refine zn ?_
 refine Go1.ret1 Try.func16 rfl ?_
 replace hB := (hB.trans cB.fr).trans d8.fr
 exact ⟨(4 : Int), rfl, hB.same, H⟩
theorem body17 : Body Try.prog 17 := ⟨Try.f17, Try.func17, rfl, by kernel_rfl⟩
theorem walk_law21_small {A : List Nat} {w0 : World} {aQ : Option Addr} {aR : Nat} {aW : Option Addr} {aX : Nat} {d : DFA} {most : Int} (hA : ∀ b ∈ A, b < w0.heap.size) (aa : ISl (Rp.bool) A w0 aQ aR d.Final) (ai : ISl (Rp.sl (Rp.int .i64)) A w0 aW aX d.Next) {K : Bool → Prop} (H : law21_small d most K) :
    CallsV Try.prog 17 #[.agg #[.int .i64 d.Letters, .int .i64 d.Start, .slice aQ d.Final.length aR, .slice aW d.Next.length aX], .int .i64 most] w0 (fun v w' => ∃ (r0 : Bool), v = .bool r0 ∧ Same w0 w' ∧ K r0) := by
 refine CallsV.of (l := [.agg #[.int .i64 d.Letters, .int .i64 d.Start, .slice aQ d.Final.length aR, .slice aW d.Next.length aX], .int .i64 most]) Try.func17 rfl Try.ntmps17 rfl ?_
 have hO := Owns.start hA
 have hB := Fr.refl (bl []) w0
 unfold law21_small at H
 refine zq (zr ?_)
 have zz := obox (t := 25) (v := .agg #[.int .i64 d.Letters, .int .i64 d.Start, .slice aQ d.Final.length aR, .slice aW d.Next.length aX]) (cs := #[.int .i64 d.Letters, .int .i64 d.Start, .slice aQ d.Final.length aR, .slice aW d.Next.length aX]) hO rfl
 obtain ⟨w1, B2, cB, hs4, ic⟩ := zz
 refine zg (ic rfl) ?_
 replace hO := cB.own
 refine za rfl (zn (zq (zr (zo (J00 Try.underlying25 rfl ti22 rfl (by decide)) (zs (oblk (i := 2) 0 hO rfl rfl Try.underlying22 rfl rfl) ?_)))))
 refine zo (J0d Try.underlying22 rfl) ?_
 replace aa := (aa.ch (Ch.start A w0)).ch cB.ch
 replace H := H aa.bd
 refine zm rfl ?_
 by_cases h7 : (d.Final.length : Int) ≤ most
 ·replace H := ifp h7 H
  refine zo (fun w => opB (op_leq rfl rfl w) (decide_eq_true h7)) (zm rfl (zo (J00 Try.underlying25 rfl ti3 rfl (by decide)) (zs (oblk (i := 0) 0 hO rfl rfl Try.underlying3 rfl rfl) ?_)))
  by_cases h8 : d.Letters ≤ (2 : Int)
  ·replace H := ifp h8 H
   refine zo (fun w => opB (op_leq rfl rfl w) (decide_eq_true h8)) (zo (J05 rfl rfl rfl) (zm rfl (zs (J0j (vs := [.int .i64 d.Letters, .int .i64 d.Start, .slice aQ d.Final.length aR, .slice aW d.Next.length aX]) (i := 0) 0 hO rfl rfl Try.underlying25 rfl ti25 rfl) ?_)))
   replace ai := (ai.ch (Ch.start A w0)).ch cB.ch
   refine GoR.call (J0a body16 rfl (walk_ref07_Validate (d := d) hO.lt aa ai H)) rfl rfl ?_
   rintro v13 w10 ⟨r9, rfl, Bg, H⟩
   have BT := Stp.same hO Bg
   replace hO := BT.own
   by_cases h15 : r9 = (0 : Int)
   ·replace H := ifp h15 H
    refine zo (fun w => opB (J0w rfl rfl w) (decide_eq_true h15)) (zo (J05 rfl rfl rfl) (za rfl (zn ?_)))
    refine Go1.ret1 Try.func17 rfl ?_
    replace hB := (hB.trans cB.fr).trans BT.fr
    exact ⟨true, rfl, hB.same, H⟩
   replace H := ifn h15 H
   refine zo (fun w => opB (J0w rfl rfl w) (decide_eq_false h15)) (zo (J05 rfl rfl rfl) (za rfl (zn ?_)))
   refine Go1.ret1 Try.func17 rfl ?_
   replace hB := (hB.trans cB.fr).trans BT.fr
   exact ⟨false, rfl, hB.same, H⟩
  replace H := ifn h8 H
  refine zo (fun w => opB (op_leq rfl rfl w) (decide_eq_false h8)) (zo (J05 rfl rfl rfl) (zm rfl (zp (zp (zp ?_)))))
  refine zo (J04 rfl rfl rfl) (za rfl (zn ?_))
  refine Go1.ret1 Try.func17 rfl ?_
  replace hB := hB.trans cB.fr
  exact ⟨false, rfl, hB.same, H⟩
 replace H := ifn h7 H
 refine zo (fun w => opB (op_leq rfl rfl w) (decide_eq_false h7)) (zm rfl (zp (zp (zp (zo (J04 rfl rfl rfl) ?_)))))
 refine zm rfl (zp (zp (zp (zo (J04 rfl rfl rfl) (za rfl ?_)))))
 refine zn ?_
 refine Go1.ret1 Try.func17 rfl ?_
 replace hB := hB.trans cB.fr
 exact ⟨false, rfl, hB.same, H⟩
theorem body60 : Body Try.prog 60 := ⟨Try.f60, Try.func60, rfl, by kernel_rfl⟩
theorem walk_law21_ab {A : List Nat} {w0 : World} (hA : ∀ b ∈ A, b < w0.heap.size) {K : DFA → Prop} (H : law21_ab  K) :
    CallsV Try.prog 60 #[] w0 (fun v w' => ∃ (r0 : DFA) (iT : Option Addr) (iU : Nat) (jy : Option Addr) (jz : Nat), v = .agg #[.int .i64 r0.Letters, .int .i64 r0.Start, .slice iT r0.Final.length iU, .slice jy r0.Next.length jz] ∧ Same w0 w' ∧ ISl (Rp.bool) A w' iT iU r0.Final ∧ ISl (Rp.sl (Rp.int .i64)) A w' jy jz r0.Next ∧ K r0) := by
 refine CallsV.of (l := []) Try.func60 rfl Try.ntmps60 rfl ?_
 have hO := Owns.start hA
 have hB := Fr.refl (bl []) w0
 unfold law21_ab at H
 refine zq (zr ?_)
 have zz := oalloc (t := 25) (cs := #[.int .i64 0, .int .i64 0, .slice none 0 0, .slice none 0 0]) ti25 hO rfl
 obtain ⟨w1, B2, cB, hs4, ic⟩ := zz
 refine GoR.op ic rfl rfl ?_
 replace hO := cB.own
 refine zn (zq (zr ?_))
 have zz := J0k (r := Rp.bool) (n := 3) (parts := [(0, .bool true), (1, .bool false), (2, .bool false)]) (vs := [.bool true, .bool false, .bool false]) (xs := [true, false, false]) rfl Try.underlying22 ti4 hO (by decide) (by kernel_rfl) (Els.cons rfl rfl (Els.cons rfl rfl (Els.cons rfl rfl (Els.nil _ _ _) (by simp [mx])) (by simp [mx])) (by simp [mx])) rfl
 obtain ⟨w7, p8, ja, tu, Bg, LT⟩ := zz
 refine zg (LT rfl) ?_
 replace hO := ja.own
 have zz := J0k (r := Rp.int .i64) (n := 2) (parts := [(0, .int .i64 1), (1, .int .i64 2)]) (vs := [.int .i64 1, .int .i64 2]) (xs := [(1 : Int), (2 : Int)]) rfl Try.underlying31 ti3 hO (by decide) (by kernel_rfl) (Els.cons rfl rfl (Els.cons rfl rfl (Els.nil _ _ _) (by simp [mx])) (by simp [mx])) rfl
 obtain ⟨w14, p15, tJ, xr, Bi, LU⟩ := zz
 refine zg (LU rfl) ?_
 replace hO := tJ.own
 have zz := J0k (r := Rp.int .i64) (n := 2) (parts := [(0, .int .i64 2), (1, .int .i64 0)]) (vs := [.int .i64 2, .int .i64 0]) (xs := [(2 : Int), (0 : Int)]) rfl Try.underlying31 ti3 hO (by decide) (by kernel_rfl) (Els.cons rfl rfl (Els.cons rfl rfl (Els.nil _ _ _) (by simp [mx])) (by simp [mx])) rfl
 obtain ⟨w21, p22, l9, cI, UF, D4⟩ := zz
 refine zg (D4 rfl) ?_
 replace hO := l9.own
 have zz := J0k (r := Rp.int .i64) (n := 2) (parts := [(0, .int .i64 2), (1, .int .i64 2)]) (vs := [.int .i64 2, .int .i64 2]) (xs := [(2 : Int), (2 : Int)]) rfl Try.underlying31 ti3 hO (by decide) (by kernel_rfl) (Els.cons rfl rfl (Els.cons rfl rfl (Els.nil _ _ _) (by simp [mx])) (by simp [mx])) rfl
 obtain ⟨w28, p29, sT, Cp, UG, LV⟩ := zz
 refine zg (LV rfl) ?_
 replace hO := sT.own
 replace xr := (xr.ch l9.ch).ch sT.ch
 have zz := freeze 2 hO rfl xr
 obtain ⟨hO1, D5, uI, QF⟩ := zz
 dsimp only [eS, eZ] at hO1 D5 uI
 replace hB := (((((hB.trans cB.fr).trans ja.fr).trans tJ.fr).trans l9.fr).trans sT.fr).trans (Owns.J09 _ _ 2)
 dsimp only [eS, eZ] at hB
 replace hO := hO1; clear hO1
 replace cI := (cI.ch sT.ch).ch D5
 have zz := freeze 1 hO rfl cI
 obtain ⟨hO1, D6, wa, QG⟩ := zz
 dsimp only [eS, eZ] at hO1 D6 wa
 replace hB := hB.trans (Owns.J09 _ _ 1)
 dsimp only [eS, eZ] at hB
 replace hO := hO1; clear hO1
 replace Cp := (Cp.ch D5).ch D6
 have zz := freeze 0 hO rfl Cp
 obtain ⟨hO1, zO, wb, Fq⟩ := zz
 dsimp only [eS, eZ] at hO1 zO wb
 replace hB := hB.trans (Owns.J09 _ _ 0)
 dsimp only [eS, eZ] at hB
 replace hO := hO1; clear hO1
 replace wa := wa.ch zO
 replace uI := (uI.ch D6).ch zO
 have zz := J0k (r := Rp.sl (Rp.int .i64)) (n := 3) (parts := [(0, .slice p15 2 2), (1, .slice p22 2 2), (2, .slice p29 2 2)]) (vs := [.slice p15 2 2, .slice p22 2 2, .slice p29 2 2]) (xs := [[(1 : Int), (2 : Int)], [(2 : Int), (0 : Int)], [(2 : Int), (2 : Int)]]) rfl Try.underlying23 ti31 hO (by decide) (by kernel_rfl) (Els.cons rfl ⟨p15, 2, congrArg some (congrArg (fun nn => Value.slice p15 nn 2) QF), uI⟩ (Els.cons rfl ⟨p22, 2, congrArg some (congrArg (fun nn => Value.slice p22 nn 2) QG), wa⟩ (Els.cons rfl ⟨p29, 2, congrArg some (congrArg (fun nn => Value.slice p29 nn 2) Fq), wb⟩ (Els.nil _ _ _) (by simp [mx])) (by simp [mx])) (by simp [mx])) rfl
 obtain ⟨w44, p45, pe, Cq, Iw, LX⟩ := zz
 refine zg (LX rfl) ?_
 replace hO := pe.own
 refine zo (J0q Try.underlying25 ti25 (pl := [(0, 1), (1, 1), (2, 1), (3, 1)]) (vs := [(0, .int .i64 2), (2, .slice p8 3 3), (3, .slice p45 3 3)]) (cs := #[.int .i64 2, .int .i64 0, .slice p8 3 3, .slice p45 3 3]) (by kernel_rfl) rfl (by kernel_rfl)) ?_
 have zz := J0b (us := [.int .i64 2, .int .i64 0, .slice p8 3 3, .slice p45 3 3]) (o := 0) (cs' := #[.int .i64 2, .int .i64 0, .slice p8 3 3, .slice p45 3 3]) 2 hO rfl rfl (Nat.le_of_ble_eq_true rfl) rfl
 obtain ⟨w51, xO, D7⟩ := zz
 refine zg (D7 ti25 (by exact rfl) (by exact rfl) rfl) ?_
 replace hO := xO.own
 refine zn ?_
 have Z1 := ((((((tJ.ch.trans l9.ch).trans sT.ch).trans D5).trans D6).trans zO).trans pe.ch).trans xO.ch
 replace tu := tu.ch Z1
 have zz := freeze 1 hO rfl tu
 obtain ⟨hO1, zP, Cr, Fs⟩ := zz
 replace hO := hO1; clear hO1
 replace Cq := (Cq.ch xO.ch).ch zP
 have zz := freeze 0 hO rfl Cq
 obtain ⟨hO1, D8, QH, QI⟩ := zz
 replace hO := hO1; clear hO1
 refine Go1.retC1 Try.func60 rfl rfl (J0f (vs := [.int .i64 2, .int .i64 0, .slice p8 3 3, .slice p45 3 3]) 0 hO rfl rfl Try.underlying25 rfl ti25) ?_
 replace Cr := Cr.ch D8
 replace hB := (((hB.trans pe.fr).trans xO.fr).trans (Owns.J09 _ _ 1)).trans (Owns.J09 _ _ 0)
 exact ⟨(⟨(2 : Int), (0 : Int), [true, false, false], [[(1 : Int), (2 : Int)], [(2 : Int), (0 : Int)], [(2 : Int), (2 : Int)]]⟩ : DFA), p8, 3, p45, 3, (congrArg (fun l => Value.agg (List.toArray l)) (J0h rfl (J0h rfl (J0h (congrArg (fun nn => Value.slice p8 nn 3) Fs) (J0h (congrArg (fun nn => Value.slice p45 nn 3) QI) rfl))))), hB.same, (Cr.ch (Ch.weak _ _ _)), (QH.ch (Ch.weak _ _ _)), H⟩
theorem body61 : Body Try.prog 61 := ⟨Try.f61, Try.func61, rfl, by kernel_rfl⟩
theorem J0P {A : List Nat} {w0 : World} {aQ : Option Addr} {aR : Nat} {aW : Option Addr} {aX : Nat} {d : DFA} (hA : ∀ b ∈ A, b < w0.heap.size) (aa : ISl (Rp.bool) A w0 aQ aR d.Final) (ai : ISl (Rp.sl (Rp.int .i64)) A w0 aW aX d.Next) {K : Int → Prop} (H : J0K d K) :
    CallsV Try.prog 61 #[.agg #[.int .i64 d.Letters, .int .i64 d.Start, .slice aQ d.Final.length aR, .slice aW d.Next.length aX]] w0 (fun v w' => ∃ (r0 : Int), v = .int .i64 r0 ∧ Same w0 w' ∧ K r0) := by
 refine CallsV.of (l := [.agg #[.int .i64 d.Letters, .int .i64 d.Start, .slice aQ d.Final.length aR, .slice aW d.Next.length aX]]) Try.func61 rfl Try.ntmps61 rfl ?_
 have hO := Owns.start hA
 have hB := Fr.refl (bl []) w0
 unfold J0K at H
 refine zq (zr ?_)
 have zz := obox (t := 25) (v := .agg #[.int .i64 d.Letters, .int .i64 d.Start, .slice aQ d.Final.length aR, .slice aW d.Next.length aX]) (cs := #[.int .i64 d.Letters, .int .i64 d.Start, .slice aQ d.Final.length aR, .slice aW d.Next.length aX]) hO rfl
 obtain ⟨w1, B2, cB, hs4, ic⟩ := zz
 refine zg (ic rfl) ?_
 replace hO := cB.own
 refine za rfl (zn (zq (zq (zr (zo (J00 Try.underlying25 rfl ti3 rfl (by decide)) ?_)))))
 refine zs (oblk (i := 0) 0 hO rfl rfl Try.underlying3 rfl rfl) ?_
 by_cases h7 : d.Letters < (1 : Int)
 ·replace H := ifp h7 H
  refine zo (fun w => opB (J08 rfl rfl w) (decide_eq_true h7)) (zm rfl (zp (zp (zp (zo (J05 rfl rfl rfl) ?_)))))
  refine zn (zt rfl rfl (zq (zr (za rfl (zn ?_)))))
  refine Go1.ret1 Try.func61 rfl ?_
  replace hB := hB.trans cB.fr
  exact ⟨(1 : Int), rfl, hB.same, H⟩
 replace H := ifn h7 H
 refine zo (fun w => opB (J08 rfl rfl w) (decide_eq_false h7)) (zm rfl (zo (J00 Try.underlying25 rfl ti3 rfl (by decide)) (zs (oblk (i := 0) 0 hO rfl rfl Try.underlying3 rfl rfl) ?_)))
 by_cases h8 : (6 : Int) < d.Letters
 ·replace H := ifp h8 H
  refine zo (fun w => opB (J0M rfl rfl w) (decide_eq_true h8)) (zo (J04 rfl rfl rfl) (zn (zt rfl rfl (zq (zr ?_)))))
  refine za rfl (zn ?_)
  refine Go1.ret1 Try.func61 rfl ?_
  replace hB := hB.trans cB.fr
  exact ⟨(1 : Int), rfl, hB.same, H⟩
 replace H := ifn h8 H
 refine zo (fun w => opB (J0M rfl rfl w) (decide_eq_false h8)) (zo (J04 rfl rfl rfl) (zn (zf rfl rfl (zk (zq ?_)))))
 refine zr (zo (J00 Try.underlying25 rfl ti22 rfl (by decide)) (zs (oblk (i := 2) 0 hO rfl rfl Try.underlying22 rfl rfl) (zo (J0d Try.underlying22 rfl) ?_)))
 replace aa := (aa.ch (Ch.start A w0)).ch cB.ch
 replace H := H aa.bd
 refine za rfl (zn (zq (zq ?_)))
 refine Go1.cut [(1, .pointer (some ⟨B2, 0, none⟩)), (3, .int .i64 (d.Final.length : Int))] ⟨rfl, rfl, trivial⟩ ?_
 intro σ _
 refine zr (zm rfl ?_)
 by_cases h9 : (512 : Int) < (d.Final.length : Int)
 ·replace H := ifp h9 H
  refine zo (fun w => opB (J0M rfl rfl w) (decide_eq_true h9)) (zn (zt rfl rfl (zq (zr (za rfl ?_)))))
  refine zn ?_
  refine Go1.ret1 Try.func61 rfl ?_
  replace hB := hB.trans cB.fr
  exact ⟨(3 : Int), rfl, hB.same, H⟩
 replace H := ifn h9 H
 refine zo (fun w => opB (J0M rfl rfl w) (decide_eq_false h9)) (zn (zf rfl rfl (zk (zq (zq ?_)))))
 refine zr (zo (J00 Try.underlying25 rfl ti23 rfl (by decide)) (zs (oblk (i := 3) 0 hO rfl rfl Try.underlying23 rfl rfl) (zo (J0d Try.underlying23 rfl) ?_)))
 replace ai := (ai.ch (Ch.start A w0)).ch cB.ch
 replace H := H ai.bd
 refine zm rfl ?_
 by_cases h10 : (d.Next.length : Int) = (d.Final.length : Int)
 ·replace H := ifp h10 H
  refine zo (fun w => opB (J0g rfl rfl w) (ndT h10)) (zm rfl (zo (J00 Try.underlying25 rfl ti3 rfl (by decide)) (zs (oblk (i := 1) 0 hO rfl rfl Try.underlying3 rfl rfl) ?_)))
  by_cases h11 : d.Start < (0 : Int)
  ·replace H := ifp h11 H
   refine zo (fun w => opB (J08 rfl rfl w) (decide_eq_true h11)) (zo (J04 rfl rfl rfl) (zm rfl (zp (zp (zp ?_)))))
   refine zp (zo (J05 rfl rfl rfl) (zn (zt rfl rfl (zq ?_))))
   refine Go1.cut [] trivial ?_
   intro σ _
   refine zr (za rfl (zn ?_))
   refine Go1.ret1 Try.func61 rfl ?_
   replace hB := hB.trans cB.fr
   exact ⟨(4 : Int), rfl, hB.same, H⟩
  replace H := ifn h11 H
  refine zo (fun w => opB (J08 rfl rfl w) (decide_eq_false h11)) (zo (J04 rfl rfl rfl) (zm rfl (zo (J00 Try.underlying25 rfl ti3 rfl (by decide)) (zs (oblk (i := 1) 0 hO rfl rfl Try.underlying3 rfl rfl) (zm rfl ?_)))))
  by_cases h12 : (d.Final.length : Int) ≤ d.Start
  ·replace H := ifp h12 H
   refine zo (fun w => opB (J0L rfl rfl w) (decide_eq_true h12)) (zo (J04 rfl rfl rfl) (zn (zt rfl rfl (zq (zr ?_)))))
   refine za rfl (zn ?_)
   refine Go1.ret1 Try.func61 rfl ?_
   replace hB := hB.trans cB.fr
   exact ⟨(4 : Int), rfl, hB.same, H⟩
  replace H := ifn h12 H
  refine zo (fun w => opB (J0L rfl rfl w) (decide_eq_false h12)) (zo (J04 rfl rfl rfl) (zn (zf rfl rfl (zk (zq ?_)))))
  refine zq (zr (zo (J00 Try.underlying25 rfl ti23 rfl (by decide)) (zs (oblk (i := 3) 0 hO rfl rfl Try.underlying23 rfl rfl) (zo (J0d Try.underlying23 rfl) (zm rfl ?_)))))
  refine zn (zb ?_)
  replace hB := hB.trans cB.fr
  refine Go1.loopW (S := Nat) (fun s σ w => agrees σ [(1, .pointer (some ⟨B2, 0, none⟩)), (3, .int .i64 (d.Final.length : Int)), (38, .slice aW d.Next.length aX), (39, .int .i64 (d.Next.length : Int)), (40, .int .i64 (s : Int))] ∧ (fun Z0 => Owns w0.heap.size w Z0 A ∧ ISl (Rp.bool) (bl Z0 ++ A) w aQ aR d.Final ∧ ISl (Rp.sl (Rp.int .i64)) (bl Z0 ++ A) w aW aX d.Next ∧ Fr (bl []) w0 (bl Z0) w) [.blk B2 (.cells #[.int .i64 d.Letters, .int .i64 d.Start, .slice aQ d.Final.length aR, .slice aW d.Next.length aX] 25 (0, 0))]) H ⟨⟨rfl, rfl, rfl, rfl, rfl, trivial⟩, hO, aa, ai, hB⟩ ?_
  intro X1 k1_14
  intro H hX1 σ w13
  refine andE fun hag => andE fun hO => andE fun aa => andE fun ai => fun hB => ?_
  refine Go1.keep [(1, .pointer (some ⟨B2, 0, none⟩)), (3, .int .i64 (d.Final.length : Int)), (38, .slice aW d.Next.length aX), (39, .int .i64 (d.Next.length : Int)), (40, .int .i64 (k1_14 : Int))] hag ?_
  refine zq (zr ?_)
  by_cases h15 : (k1_14 : Int) < (d.Next.length : Int)
  ·replace H := ifp h15 H
   refine zo (fun w => opB (J08 rfl rfl w) (decide_eq_true h15)) (zn (zq (zt rfl rfl (zk (zq ?_)))))
   refine zb (zq (zr ?_))
   obtain ⟨h16, H⟩ := H
   obtain ⟨h17, H⟩ := H
   refine zo (J02 Try.underlying23 ti31 rfl rfl h16 h17 (ai.some_ h16 h17)) ?_
   have zz := ldSl ai h16 h17
   obtain ⟨p18, c19, zQ, QJ⟩ := zz
   refine zs (QJ Try.underlying31 rfl rfl) (za rfl (zn (zq (zq (zr ?_)))))
   refine zm rfl (zo (J0d Try.underlying31 rfl) ?_)
   replace H := H zQ.bd
   refine zo (J00 Try.underlying25 rfl ti3 rfl (by decide)) (zs (oblk (i := 0) 0 hO rfl rfl Try.underlying3 rfl rfl) ?_)
   by_cases h22 : ((ix d.Next (k1_14 : Int)).length : Int) = d.Letters
   ·replace H := ifp h22 H
    refine zo (fun w => opB (J0g rfl rfl w) (ndT h22)) (zn (zf rfl rfl (zk (zq (zr ?_)))))
    refine zm rfl (zo (J0d Try.underlying31 rfl) (zm rfl (zn (zb ?_))))
    refine Go1.loopW (S := Nat) (fun s σ w => agrees σ [(1, .pointer (some ⟨B2, 0, none⟩)), (3, .int .i64 (d.Final.length : Int)), (38, .slice aW d.Next.length aX), (39, .int .i64 (d.Next.length : Int)), (40, .int .i64 (k1_14 : Int)), (49, .slice p18 ((ix d.Next (k1_14 : Int)).length) c19), (50, .int .i64 ((ix d.Next (k1_14 : Int)).length : Int)), (51, .int .i64 (s : Int))] ∧ (fun Z0 => Owns w0.heap.size w Z0 A ∧ ISl (Rp.bool) (bl Z0 ++ A) w aQ aR d.Final ∧ ISl (Rp.sl (Rp.int .i64)) (bl Z0 ++ A) w aW aX d.Next ∧ ISl (Rp.int .i64) (bl Z0 ++ A) w p18 c19 (ix d.Next (k1_14 : Int)) ∧ Fr (bl []) w0 (bl Z0) w) [.blk B2 (.cells #[.int .i64 d.Letters, .int .i64 d.Start, .slice aQ d.Final.length aR, .slice aW d.Next.length aX] 25 (0, 0))]) H ⟨⟨rfl, rfl, rfl, rfl, rfl, rfl, rfl, rfl, trivial⟩, hO, aa, ai, zQ, hB⟩ ?_
    intro X2 k2_24
    intro H hX2 σ w23
    refine andE fun hag => andE fun hO => andE fun aa => andE fun ai => andE fun zQ => fun hB => ?_
    refine Go1.keep [(1, .pointer (some ⟨B2, 0, none⟩)), (3, .int .i64 (d.Final.length : Int)), (38, .slice aW d.Next.length aX), (39, .int .i64 (d.Next.length : Int)), (40, .int .i64 (k1_14 : Int)), (49, .slice p18 ((ix d.Next (k1_14 : Int)).length) c19), (50, .int .i64 ((ix d.Next (k1_14 : Int)).length : Int)), (51, .int .i64 (k2_24 : Int))] hag ?_
    refine zq (zr ?_)
    by_cases h25 : (k2_24 : Int) < ((ix d.Next (k1_14 : Int)).length : Int)
    ·replace H := ifp h25 H
     refine zo (fun w => opB (J08 rfl rfl w) (decide_eq_true h25)) (zn (zq (zt rfl rfl (zk (zq ?_)))))
     refine zb (zq (zr ?_))
     obtain ⟨h26, H⟩ := H
     obtain ⟨h27, H⟩ := H
     refine zo (J02 Try.underlying31 ti3 rfl rfl h26 h27 (zQ.some_ h26 h27)) (zs (ldInt zQ h26 h27 Try.underlying3 rfl rfl) (za rfl (zn (zq (zr ?_)))))
     refine zm rfl ?_
     by_cases h28 : (ix (ix d.Next (k1_14 : Int)) (k2_24 : Int)) < (0 : Int)
     ·replace H := ifp h28 H
      refine zo (fun w => opB (J08 rfl rfl w) (decide_eq_true h28)) (zm rfl (zp (zp (zp (zo (J05 rfl rfl rfl) ?_)))))
      refine zn (zt rfl rfl (zq (zr (za rfl (zn ?_)))))
      refine Go1.ret1 Try.func61 rfl ?_
      exact ⟨(4 : Int), rfl, hB.same, H⟩
     replace H := ifn h28 H
     refine zo (fun w => opB (J08 rfl rfl w) (decide_eq_false h28)) (zm rfl (zm rfl (zm rfl ?_)))
     by_cases h29 : (d.Final.length : Int) ≤ (ix (ix d.Next (k1_14 : Int)) (k2_24 : Int))
     ·replace H := ifp h29 H
      refine zo (fun w => opB (J0L rfl rfl w) (decide_eq_true h29)) (zo (J04 rfl rfl rfl) (zn (zt rfl rfl (zq (zr ?_)))))
      refine za rfl (zn ?_)
      refine Go1.ret1 Try.func61 rfl ?_
      exact ⟨(4 : Int), rfl, hB.same, H⟩
     replace H := ifn h29 H
     refine zo (fun w => opB (J0L rfl rfl w) (decide_eq_false h29)) (zo (J04 rfl rfl rfl) (zn (zf rfl rfl (zk ?_))))
     refine Go1.inBlock ?_
     refine Go1.cut [(1, .pointer (some ⟨B2, 0, none⟩)), (3, .int .i64 (d.Final.length : Int)), (38, .slice aW d.Next.length aX), (39, .int .i64 (d.Next.length : Int)), (40, .int .i64 (k1_14 : Int)), (49, .slice p18 ((ix d.Next (k1_14 : Int)).length) c19), (50, .int .i64 ((ix d.Next (k1_14 : Int)).length : Int)), (51, .int .i64 (k2_24 : Int))] ⟨rfl, rfl, rfl, rfl, rfl, rfl, rfl, rfl, trivial⟩ ?_
     intro σ _
     refine zr (zo (J0c rfl rfl (wrap_i64 (natbd h25 zQ.bd))) (zm rfl (zn ?_)))
     exact hX2 _ H _ _ ⟨⟨rfl, rfl, rfl, rfl, rfl, rfl, rfl, rfl, trivial⟩, hO, aa, ai, zQ, hB⟩
    replace H := ifn h25 H
    refine zo (fun w => opB (J08 rfl rfl w) (decide_eq_false h25)) (zn (zq (zf rfl rfl ?_)))
    refine Go1.exit rfl ?_
    refine Go1.inBlock ?_
    refine zr (zo (J0c rfl rfl (wrap_i64 (natbd h15 ai.bd))) (zm rfl (zn ?_)))
    exact hX1 _ H _ _ ⟨⟨rfl, rfl, rfl, rfl, rfl, trivial⟩, hO, aa, ai, hB⟩
   replace H := ifn h22 H
   refine zo (fun w => opB (J0g rfl rfl w) (ndF h22)) (zn (zt rfl rfl (zq (zr (za rfl ?_)))))
   refine zn ?_
   refine Go1.ret1 Try.func61 rfl ?_
   exact ⟨(4 : Int), rfl, hB.same, H⟩
  replace H := ifn h15 H
  refine zo (fun w => opB (J08 rfl rfl w) (decide_eq_false h15)) (zn (zq (zf rfl rfl ?_)))
  refine Go1.exit rfl ?_
  refine zq (zr (za rfl (zn ?_)))
  refine Go1.ret1 Try.func61 rfl ?_
  exact ⟨(0 : Int), rfl, hB.same, H⟩
 replace H := ifn h10 H
 refine zo (fun w => opB (J0g rfl rfl w) (ndF h10)) (zm rfl (zp (zp (zp (zo (J05 rfl rfl rfl) ?_)))))
 refine zm rfl (zp (zp (zp (zp (zo (J05 rfl rfl rfl) ?_)))))
 refine zn (zt rfl rfl (zq (zr (za rfl (zn ?_)))))
 refine Go1.ret1 Try.func61 rfl ?_
 replace hB := hB.trans cB.fr
 exact ⟨(4 : Int), rfl, hB.same, H⟩
theorem body141 : Body Try.prog 141 := ⟨Try.f141, Try.func141, rfl, by kernel_rfl⟩
theorem body140 : Body Try.prog 140 := ⟨Try.f140, Try.func140, rfl, by kernel_rfl⟩
theorem body163 : Body Try.prog 163 := ⟨Try.f163, Try.func163, rfl, by kernel_rfl⟩
theorem body139 : Body Try.prog 139 := ⟨Try.f139, Try.func139, rfl, by kernel_rfl⟩
theorem body109 : Body Try.prog 109 := ⟨Try.f109, Try.func109, rfl, by kernel_rfl⟩
theorem walk_dfa_Trim {A : List Nat} {w0 : World} {aQ : Option Addr} {aR : Nat} {aW : Option Addr} {aX : Nat} {d : DFA} (hA : ∀ b ∈ A, b < w0.heap.size) (aa : ISl (Rp.bool) A w0 aQ aR d.Final) (ai : ISl (Rp.sl (Rp.int .i64)) A w0 aW aX d.Next) {K : DFA → List Int → Prop} (H : dfa_Trim d K) :
    CallsV Try.prog 109 #[.agg #[.int .i64 d.Letters, .int .i64 d.Start, .slice aQ d.Final.length aR, .slice aW d.Next.length aX]] w0 (fun v w' => ∃ (r0 : DFA) (r1 : List Int) (iT : Option Addr) (iU : Nat) (jy : Option Addr) (jz : Nat) (Cs : Option Addr) (Ct : Nat), v = .tuple #[.agg #[.int .i64 r0.Letters, .int .i64 r0.Start, .slice iT r0.Final.length iU, .slice jy r0.Next.length jz], .slice Cs r1.length Ct] ∧ Same w0 w' ∧ ISl (Rp.bool) A w' iT iU r0.Final ∧ ISl (Rp.sl (Rp.int .i64)) A w' jy jz r0.Next ∧ ISl (Rp.int .i64) A w' Cs Ct r1 ∧ K r0 r1) := by
 refine CallsV.of (l := [.agg #[.int .i64 d.Letters, .int .i64 d.Start, .slice aQ d.Final.length aR, .slice aW d.Next.length aX]]) Try.func109 rfl Try.ntmps109 rfl ?_
 have hO := Owns.start hA
 have hB := Fr.refl (bl []) w0
 unfold dfa_Trim at H
 refine zq (zr ?_)
 have zz := obox (t := 25) (v := .agg #[.int .i64 d.Letters, .int .i64 d.Start, .slice aQ d.Final.length aR, .slice aW d.Next.length aX]) (cs := #[.int .i64 d.Letters, .int .i64 d.Start, .slice aQ d.Final.length aR, .slice aW d.Next.length aX]) hO rfl
 obtain ⟨w1, B2, cB, hs4, ic⟩ := zz
 refine zg (ic rfl) ?_
 replace hO := cB.own
 have zz := oalloc (t := 25) (cs := #[.int .i64 0, .int .i64 0, .slice none 0 0, .slice none 0 0]) ti25 hO rfl
 obtain ⟨w7, B8, ja, xq, tI⟩ := zz
 refine GoR.op tI rfl rfl ?_
 replace hO := ja.own
 refine za rfl (zn (zq (zq (zr (zs (J0j (vs := [.int .i64 d.Letters, .int .i64 d.Start, .slice aQ d.Final.length aR, .slice aW d.Next.length aX]) (i := 0) 1 hO rfl rfl Try.underlying25 rfl ti25 rfl) ?_)))))
 have Z1 := ((Ch.start A w0).trans cB.ch).trans ja.ch
 replace aa := aa.ch Z1
 replace ai := ai.ch Z1
 refine GoR.call (J0a body61 rfl (J0P (d := d) hO.lt aa ai H)) rfl rfl ?_
 rintro v17 w14 ⟨r13, rfl, xP, H⟩
 have gG := Stp.same hO xP
 replace hO := gG.own
 by_cases h19 : r13 = (0 : Int)
 ·replace H := ifp h19 H
  refine zo (fun w => opB (J0g rfl rfl w) (ndT h19)) (zn (zf rfl rfl (zk (zq (zr ?_)))))
  refine zo (J00 Try.underlying25 rfl ti3 rfl (by decide)) (zs (oblk (i := 0) 1 hO rfl rfl Try.underlying3 rfl rfl) (zo (J00 Try.underlying25 rfl ti3 rfl (by decide)) (zs (oblk (i := 1) 1 hO rfl rfl Try.underlying3 rfl rfl) (zo (op_makeFunc (vs := [.pointer (some ⟨B2, 0, none⟩)]) rfl) (zo (op_makeFunc (vs := [.pointer (some ⟨B2, 0, none⟩)]) rfl) ?_)))))
  refine GoR.inl (vs := [.int .i64 d.Letters, .int .i64 d.Start, .func (.func 140) #[] #[.pointer (some ⟨B2, 0, none⟩)], .func (.func 141) #[] #[.pointer (some ⟨B2, 0, none⟩)]]) (caps := []) rfl rfl body139 Try.func139 rfl Try.ntmps139 rfl rfl rfl ?_
  intro RhR20 hR20
  refine zq (zr ?_)
  have zz := oalloc (t := 25) (cs := #[.int .i64 0, .int .i64 0, .slice none 0 0, .slice none 0 0]) ti25 hO rfl
  obtain ⟨w21, B22, l9, Ix, Ar⟩ := zz
  refine GoR.op Ar rfl rfl ?_
  replace hO := l9.own
  refine za rfl (za rfl (zn (zq (zr ?_))))
  have zz := oalloc (t := 188) (cs := #[.slice none 0 0, .map none]) ti188 hO rfl
  obtain ⟨w27, B28, um, QK, D9⟩ := zz
  refine GoR.op D9 rfl rfl ?_
  replace hO := um.own
  refine zn (zq (zr (zm rfl ?_)))
  refine GoR.inl (vs := [.pointer (some ⟨B28, 0, none⟩), .int .i64 d.Start]) (caps := []) rfl rfl body163 Try.func163 rfl Try.ntmps163 rfl rfl rfl ?_
  intro RhR33 hR33
  refine zq ?_
  refine Go1.cut [(0, .pointer (some ⟨B28, 0, none⟩)), (1, .int .i64 d.Start)] ⟨rfl, rfl, trivial⟩ ?_
  intro σ _
  refine zr (za rfl (zn (zq (zr (zm rfl ?_)))))
  refine zo (J01 rfl) (zo (J00 Try.underlying188 rfl ti168 rfl (by decide)) (zs (oblk (i := 1) 0 hO rfl rfl Try.underlying168 rfl rfl) (zm rfl (zs (fun w _ => olookN (a := d.Start) (MK.int Try.underlying3) Try.underlying168 ti3 rfl rfl w) (zm rfl ?_)))))
  refine zo (J07 rfl rfl) (zo (J07 rfl rfl) (za rfl (za rfl (zn (zq ?_)))))
  refine zq (zr (zm rfl (zo (J0l rfl) (zn (zt rfl rfl ?_)))))
  refine zq (zq (zr (zm rfl (zo (J01 rfl) (zo (J00 Try.underlying188 rfl ti168 rfl (by decide)) ?_)))))
  refine zs (oblk (i := 1) 0 hO rfl rfl Try.underlying168 rfl rfl) (zo (fun w => opB (op_nilMap Try.underlying168 rfl rfl w) rfl) (zn (zt rfl rfl ?_)))
  refine Go1.cut [(0, .pointer (some ⟨B28, 0, none⟩)), (1, .int .i64 d.Start)] ⟨rfl, rfl, trivial⟩ ?_
  intro σ _
  refine zr (zm rfl ?_)
  have zz := omakeMap (fun a : Int => Value.int .i64 a) (fun a : Int => Value.int .i64 a) hO
  obtain ⟨w34, B35, uo, UH, Ea⟩ := zz
  refine GoR.op Ea rfl rfl ?_
  replace hO := uo.own
  refine zo (J01 rfl) (zo (J00 Try.underlying188 rfl ti168 rfl (by decide)) ?_)
  have zz := J0e (v := .map (some B35)) (i := 1) (cs' := #[.slice none 0 0, .map (some B35)]) 1 hO rfl rfl rfl rfl
  obtain ⟨w40, ma, LY⟩ := zz
  dsimp only [sS, sZ] at ma
  refine zg (LY Try.underlying168 rfl ti168 (by exact rfl) (by exact rfl)) ?_
  replace hO := ma.own
  refine zn (zq (zr (zm rfl (zo (J01 rfl) (zo (J00 Try.underlying188 rfl ti31 rfl (by decide)) ?_)))))
  refine zs (oblk (i := 0) 1 hO rfl rfl Try.underlying31 rfl rfl) (zo (J0d Try.underlying31 rfl) (za rfl (zn (zq (zr ?_)))))
  refine zm rfl (zo (J01 rfl) (zo (J00 Try.underlying188 rfl ti168 rfl (by decide)) (zs (oblk (i := 1) 1 hO rfl rfl Try.underlying168 rfl rfl) (zm rfl (zm rfl ?_)))))
  have zz := omapUpd (MK.int Try.underlying3) 0 hO rfl Try.underlying168 d.Start (0 : Int)
  obtain ⟨w43, At, L1⟩ := zz
  dsimp only [sS, sZ] at At
  refine zg (L1 (by exact rfl) (by exact rfl) (by exact rfl)) ?_
  replace hO := At.own
  refine zn (zr (zm rfl (zm rfl (zo (J01 rfl) (zo (J00 Try.underlying188 rfl ti31 rfl (by decide)) ?_)))))
  refine zs (oblk (i := 0) 1 hO rfl rfl Try.underlying31 rfl rfl) (zm rfl ?_)
  have zz := J0k (r := Rp.int .i64) (n := 1) (parts := [(0, .int .i64 d.Start)]) (vs := [.int .i64 d.Start]) (xs := [d.Start]) rfl Try.underlying31 ti3 hO (by decide) (by kernel_rfl) (Els.cons rfl rfl (Els.nil _ _ _) (by simp [mx])) rfl
  obtain ⟨w46, p47, sU, Ft, UI, L5⟩ := zz
  refine zg (L5 rfl) ?_
  replace hO := sU.own
  have zz := freeze 0 hO rfl Ft
  obtain ⟨hO1, Fu, tX, QL⟩ := zz
  dsimp only [eS, eZ] at hO1 Fu tX
  replace hB := (((((((((hB.trans cB.fr).trans ja.fr).trans gG.fr).trans l9.fr).trans um.fr).trans uo.fr).trans ma.fr).trans At.fr).trans sU.fr).trans (Owns.J09 _ _ 0)
  dsimp only [eS, eZ] at hB
  replace hO := hO1; clear hO1
  have iv := Stp.nil (e := 3) (r := 1) hO
  replace hO := iv.own
  have QM := Els.nil (Rp.int .i64) (bl (.row 3 1 none 0 0 [] :: [.any (mapE (fun a : Int => Value.int .i64 a) (fun a : Int => Value.int .i64 a) B35 (mput (([] : List (Int × Int))) d.Start ((0 : Int)))), .blk B28 (.cells #[.slice none 0 0, .map (some B35)] 188 (0, 0)), .blk B22 (.cells #[.int .i64 0, .int .i64 0, .slice none 0 0, .slice none 0 0] 25 (0, 0)), .blk B8 (.cells #[.int .i64 0, .int .i64 0, .slice none 0 0, .slice none 0 0] 25 (0, 0)), .blk B2 (.cells #[.int .i64 d.Letters, .int .i64 d.Start, .slice aQ d.Final.length aR, .slice aW d.Next.length aX] 25 (0, 0))]) ++ A) w46
  obtain ⟨h59, H⟩ := H
  replace tX := tX.ch iv.ch
  have zz := oapp Try.underlying31 ti3 rfl 0 hO rfl QM tX QL h59 (by decide)
  obtain ⟨w60, p61, c62, Fv, pg, wc, L6⟩ := zz
  dsimp only [sS, sZ] at pg wc
  refine zg (L6 (by exact rfl) (by exact rfl)) ?_
  replace hO := pg.own
  refine zo (J01 rfl) (zo (J00 Try.underlying188 rfl ti31 rfl (by decide)) ?_)
  have zz := J0e (v := .slice p61 (0 + 1) c62) (i := 0) (cs' := #[.slice p61 (0 + 1) c62, .map (some B35)]) 2 hO rfl rfl rfl rfl
  obtain ⟨w68, mb, L7⟩ := zz
  dsimp only [sS, sZ] at mb
  refine zg (L7 Try.underlying31 rfl ti31 (by exact rfl) (by exact rfl)) ?_
  replace hO := mb.own
  refine zn (zq ?_)
  refine Go1.cut [(5, .int .i64 0)] ⟨rfl, trivial⟩ ?_
  intro σ _
  refine zr (zm rfl (za rfl (zn ?_)))
  refine Go1.ret1V Try.func163 rfl (show _ = .int .i64 0 from rfl) ?_
  refine hR33 _ _ ?_
  refine zn (zq (zr (zm rfl (zo (J0q Try.underlying25 ti25 (pl := [(0, 1), (1, 1), (2, 1), (3, 1)]) (vs := [(0, .int .i64 d.Letters)]) (cs := #[.int .i64 d.Letters, .int .i64 0, .slice none 0 0, .slice none 0 0]) (by kernel_rfl) rfl (by kernel_rfl)) ?_))))
  have zz := oalloc (t := 25) (cs := #[.int .i64 0, .int .i64 0, .slice none 0 0, .slice none 0 0]) ti25 hO rfl
  obtain ⟨w71, B72, yO, Fw, Eb⟩ := zz
  refine GoR.op Eb rfl rfl ?_
  replace hO := yO.own
  have zz := J0b (us := [.int .i64 d.Letters, .int .i64 0, .slice none 0 0, .slice none 0 0]) (o := 0) (cs' := #[.int .i64 d.Letters, .int .i64 0, .slice none 0 0, .slice none 0 0]) 0 hO rfl rfl (Nat.le_of_ble_eq_true rfl) rfl
  obtain ⟨w77, xQ, L8⟩ := zz
  dsimp only [sS, sZ] at xQ
  refine zg (L8 ti25 (by exact rfl) (by exact rfl) rfl) ?_
  replace hO := xQ.own
  refine zn (zq (zq (zr (za rfl (zn ?_)))))
  refine zb ?_
  have jA := Stp.nil (e := 4) (r := 1) hO
  replace hO := jA.own
  have zR := Els.nil (Rp.bool) (bl (.row 4 1 none 0 0 [] :: [.blk B72 (.cells #[.int .i64 d.Letters, .int .i64 0, .slice none 0 0, .slice none 0 0] 25 (0, 0)), .row 3 1 p61 (0 + 1) c62 Fv, .any (mapE (fun a : Int => Value.int .i64 a) (fun a : Int => Value.int .i64 a) B35 (mput (([] : List (Int × Int))) d.Start ((0 : Int)))), .blk B28 (.cells #[.slice p61 (0 + 1) c62, .map (some B35)] 188 (0, 0)), .blk B22 (.cells #[.int .i64 0, .int .i64 0, .slice none 0 0, .slice none 0 0] 25 (0, 0)), .blk B8 (.cells #[.int .i64 0, .int .i64 0, .slice none 0 0, .slice none 0 0] 25 (0, 0)), .blk B2 (.cells #[.int .i64 d.Letters, .int .i64 d.Start, .slice aQ d.Final.length aR, .slice aW d.Next.length aX] 25 (0, 0))]) ++ A) w77
  have tK := Stp.nil (e := 31) (r := 1) hO
  replace hO := tK.own
  have zS := Els.nil (Rp.sl (Rp.int .i64)) (bl (.row 31 1 none 0 0 [] :: [.row 4 1 none 0 0 [], .blk B72 (.cells #[.int .i64 d.Letters, .int .i64 0, .slice none 0 0, .slice none 0 0] 25 (0, 0)), .row 3 1 p61 (0 + 1) c62 Fv, .any (mapE (fun a : Int => Value.int .i64 a) (fun a : Int => Value.int .i64 a) B35 (mput (([] : List (Int × Int))) d.Start ((0 : Int)))), .blk B28 (.cells #[.slice p61 (0 + 1) c62, .map (some B35)] 188 (0, 0)), .blk B22 (.cells #[.int .i64 0, .int .i64 0, .slice none 0 0, .slice none 0 0] 25 (0, 0)), .blk B8 (.cells #[.int .i64 0, .int .i64 0, .slice none 0 0, .slice none 0 0] 25 (0, 0)), .blk B2 (.cells #[.int .i64 d.Letters, .int .i64 d.Start, .slice aQ d.Final.length aR, .slice aW d.Next.length aX] 25 (0, 0))]) ++ A) w77
  replace zR := zR.ch tK.ch
  have Z2 := (((mb.ch.trans yO.ch).trans xQ.ch).trans jA.ch).trans tK.ch
  replace wc := wc.ch Z2
  replace hB := ((((((hB.trans iv.fr).trans pg.fr).trans mb.fr).trans yO.fr).trans xQ.fr).trans jA.fr).trans tK.fr
  have Z3 := (((((((((((((gG.ch.trans l9.ch).trans um.ch).trans uo.ch).trans ma.ch).trans At.ch).trans sU.ch).trans Fu).trans iv.ch).trans pg.ch).trans mb.ch).trans yO.ch).trans xQ.ch).trans jA.ch).trans tK.ch
  replace aa := aa.ch Z3
  replace ai := ai.ch Z3
  refine Go1.loopW (S := Nat × List (List Int) × List Bool × List Int × (List (Int × Int))) (fun s σ w => match s with | (k1_87, d_88, d_94, d_100, m1_106) => ∃ (n93 : Nat) (p91 : Option Addr) (c92 : Nat) (gy : List Value) (n99 : Nat) (p97 : Option Addr) (c98 : Nat) (gp : List Value) (fP : Nat) (fQ : Option Addr) (fR : Nat) (gi : List Value), agrees σ [(0, .int .i64 d.Letters), (2, .func (.func 140) #[] #[.pointer (some ⟨B2, 0, none⟩)]), (3, .func (.func 141) #[] #[.pointer (some ⟨B2, 0, none⟩)]), (8, .pointer (some ⟨B22, 0, none⟩)), (11, .pointer (some ⟨B28, 0, none⟩)), (12, .pointer (some ⟨B72, 0, none⟩)), (13, .int .i64 (k1_87 : Int))] ∧ (fun Z0 => Owns w0.heap.size w Z0 A ∧ Els (Rp.sl (Rp.int .i64)) (bl Z0 ++ A) w gy d_88 ∧ Els (Rp.bool) (bl Z0 ++ A) w gp d_94 ∧ Els (Rp.int .i64) (bl Z0 ++ A) w gi d_100 ∧ ISl (Rp.bool) (bl Z0 ++ A) w aQ aR d.Final ∧ ISl (Rp.sl (Rp.int .i64)) (bl Z0 ++ A) w aW aX d.Next ∧ Fr (bl []) w0 (bl Z0) w) [.row 31 1 p91 n93 c92 gy, .row 4 1 p97 n99 c98 gp, .blk B72 (.cells #[.int .i64 d.Letters, .int .i64 0, .slice p97 n99 c98, .slice p91 n93 c92] 25 (0, 0)), .row 3 1 fQ fP fR gi, .any (mapE (fun a : Int => Value.int .i64 a) (fun a : Int => Value.int .i64 a) B35 m1_106), .blk B28 (.cells #[.slice fQ fP fR, .map (some B35)] 188 (0, 0)), .blk B22 (.cells #[.int .i64 0, .int .i64 0, .slice none 0 0, .slice none 0 0] 25 (0, 0)), .blk B8 (.cells #[.int .i64 0, .int .i64 0, .slice none 0 0, .slice none 0 0] 25 (0, 0)), .blk B2 (.cells #[.int .i64 d.Letters, .int .i64 d.Start, .slice aQ d.Final.length aR, .slice aW d.Next.length aX] 25 (0, 0))]) H ⟨0, none, 0, [], 0, none, 0, [], 0 + 1, p61, c62, Fv, ⟨rfl, rfl, rfl, rfl, rfl, rfl, rfl, trivial⟩, hO, zS, zR, wc, aa, ai, hB⟩ ?_
  intro X1
  refine prE fun k1_87 => prE fun d_88 => prE fun d_94 => prE fun d_100 => fun m1_106 => ?_
  intro H hX1 σ w86
  refine exE fun n93 => exE fun p91 => exE fun c92 => exE fun gy => exE fun n99 => exE fun p97 => exE fun c98 => exE fun gp => exE fun fP => exE fun fQ => exE fun fR => exE fun gi => andE fun hag => andE fun hO => andE fun cw => andE fun cr => andE fun cv => andE fun aa => andE fun ai => fun hB => ?_
  dsimp only at H
  refine Go1.keep [(0, .int .i64 d.Letters), (2, .func (.func 140) #[] #[.pointer (some ⟨B2, 0, none⟩)]), (3, .func (.func 141) #[] #[.pointer (some ⟨B2, 0, none⟩)]), (8, .pointer (some ⟨B22, 0, none⟩)), (11, .pointer (some ⟨B28, 0, none⟩)), (12, .pointer (some ⟨B72, 0, none⟩)), (13, .int .i64 (k1_87 : Int))] hag ?_
  refine zq (zq (zr (zm rfl (zo (J00 Try.underlying188 rfl ti31 rfl (by decide)) (zs (oblk (i := 0) 5 hO rfl rfl Try.underlying31 rfl rfl) ?_)))))
  refine zo (J0y Try.underlying31 rfl (cv.neq hO 3 rfl)) ?_
  by_cases nM : (k1_87 : Int) < (d_100.length : Int)
  ·replace H := ifp nM H
   refine zo (fun w => opB (J08 rfl rfl w) (decide_eq_true nM)) (zn (zt rfl rfl (zk (zq (zb ?_)))))
   refine zq (zr (zo (J00 Try.underlying188 rfl ti31 rfl (by decide)) (zs (oblk (i := 0) 5 hO rfl rfl Try.underlying31 rfl rfl) (zm rfl ?_))))
   obtain ⟨qJ, H⟩ := H
   obtain ⟨we, H⟩ := H
   refine zo (J02 Try.underlying31 ti3 rfl rfl qJ (ltn (cv.neq hO 3 rfl) we) (cv.psome hO 3 rfl qJ we)) (zs (oldInt 3 hO rfl cv qJ we Try.underlying3 rfl rfl) (za rfl (zn (zq (zr ?_)))))
   refine zm rfl ?_
   obtain ⟨Bj, H⟩ := H
   obtain ⟨QO, H⟩ := H
   have zz := omake (n := d.Letters) (r := Rp.int .i64) (d := (0 : Int)) Try.underlying31 ti3 (fun _ _ => rfl) rfl hO Bj QO (by decide)
   obtain ⟨UJ, uJ, ph, kX, HW, TJ, Iy⟩ := zz
   refine zg (Iy rfl rfl) ?_
   replace hO := kX.own
   refine za rfl (zn (zq (zq (zr (zm rfl ?_)))))
   refine zo (J0y Try.underlying31 rfl (HW.neq hO 0 rfl)) (zm rfl (zn (zb ?_)))
   replace cw := cw.ch kX.ch
   replace cr := cr.ch kX.ch
   replace cv := cv.ch kX.ch
   replace aa := aa.ch kX.ch
   replace ai := ai.ch kX.ch
   replace hB := hB.trans kX.fr
   refine Go1.loopW (S := Nat × List Int × List Int × (List (Int × Int))) (fun s σ w => match s with | (k2_121, d_122, d_125, m2_131) => ∃ (vk : List Value) (mQ : Nat) (o5 : Option Addr) (o6 : Nat) (tL : List Value), agrees σ [(0, .int .i64 d.Letters), (2, .func (.func 140) #[] #[.pointer (some ⟨B2, 0, none⟩)]), (3, .func (.func 141) #[] #[.pointer (some ⟨B2, 0, none⟩)]), (8, .pointer (some ⟨B22, 0, none⟩)), (11, .pointer (some ⟨B28, 0, none⟩)), (12, .pointer (some ⟨B72, 0, none⟩)), (13, .int .i64 (k1_87 : Int)), (14, .int .i64 (ix d_100 (k1_87 : Int))), (15, .slice uJ d.Letters.toNat d.Letters.toNat), (36, .int .i64 ((List.replicate d.Letters.toNat ((0 : Int))).length : Int)), (37, .int .i64 (k2_121 : Int))] ∧ (fun Z0 => Owns w0.heap.size w Z0 A ∧ Els (Rp.int .i64) (bl Z0 ++ A) w vk d_122 ∧ Els (Rp.sl (Rp.int .i64)) (bl Z0 ++ A) w gy d_88 ∧ Els (Rp.bool) (bl Z0 ++ A) w gp d_94 ∧ Els (Rp.int .i64) (bl Z0 ++ A) w tL d_125 ∧ ISl (Rp.bool) (bl Z0 ++ A) w aQ aR d.Final ∧ ISl (Rp.sl (Rp.int .i64)) (bl Z0 ++ A) w aW aX d.Next ∧ Fr (bl []) w0 (bl Z0) w) [.row 3 1 uJ d.Letters.toNat d.Letters.toNat vk, .row 31 1 p91 n93 c92 gy, .row 4 1 p97 n99 c98 gp, .blk B72 (.cells #[.int .i64 d.Letters, .int .i64 0, .slice p97 n99 c98, .slice p91 n93 c92] 25 (0, 0)), .row 3 1 o5 mQ o6 tL, .any (mapE (fun a : Int => Value.int .i64 a) (fun a : Int => Value.int .i64 a) B35 m2_131), .blk B28 (.cells #[.slice o5 mQ o6, .map (some B35)] 188 (0, 0)), .blk B22 (.cells #[.int .i64 0, .int .i64 0, .slice none 0 0, .slice none 0 0] 25 (0, 0)), .blk B8 (.cells #[.int .i64 0, .int .i64 0, .slice none 0 0, .slice none 0 0] 25 (0, 0)), .blk B2 (.cells #[.int .i64 d.Letters, .int .i64 d.Start, .slice aQ d.Final.length aR, .slice aW d.Next.length aX] 25 (0, 0))]) H ⟨ph, fP, fQ, fR, gi, ⟨rfl, rfl, rfl, rfl, rfl, rfl, rfl, rfl, rfl, rfl, rfl, trivial⟩, hO, HW, cw, cr, cv, aa, ai, hB⟩ ?_
   intro X2
   refine prE fun k2_121 => prE fun d_122 => prE fun d_125 => fun m2_131 => ?_
   intro H hX2 σ UK
   refine exE fun vk => exE fun mQ => exE fun o5 => exE fun o6 => exE fun tL => andE fun hag => andE fun hO => andE fun jo => andE fun cw => andE fun cr => andE fun eV => andE fun aa => andE fun ai => fun hB => ?_
   dsimp only at H
   refine Go1.keep [(0, .int .i64 d.Letters), (2, .func (.func 140) #[] #[.pointer (some ⟨B2, 0, none⟩)]), (3, .func (.func 141) #[] #[.pointer (some ⟨B2, 0, none⟩)]), (8, .pointer (some ⟨B22, 0, none⟩)), (11, .pointer (some ⟨B28, 0, none⟩)), (12, .pointer (some ⟨B72, 0, none⟩)), (13, .int .i64 (k1_87 : Int)), (14, .int .i64 (ix d_100 (k1_87 : Int))), (15, .slice uJ d.Letters.toNat d.Letters.toNat), (36, .int .i64 ((List.replicate d.Letters.toNat ((0 : Int))).length : Int)), (37, .int .i64 (k2_121 : Int))] hag ?_
   refine zq (zr ?_)
   by_cases yl : (k2_121 : Int) < ((List.replicate d.Letters.toNat ((0 : Int))).length : Int)
   ·replace H := ifp yl H
    refine zo (fun w => opB (J08 rfl rfl w) (decide_eq_true yl)) (zn (zq (zt rfl rfl (zk (zq ?_)))))
    refine zb (zq (zr (zm rfl (za rfl (zn ?_)))))
    refine zr (zm rfl (zm rfl (zm rfl (zm rfl (zm rfl ?_)))))
    refine GoR.inl (vs := [.int .i64 (ix d_100 (k1_87 : Int)), .int .i64 (k2_121 : Int)]) (caps := [.pointer (some ⟨B2, 0, none⟩)]) rfl rfl body140 Try.func140 rfl Try.ntmps140 rfl rfl rfl ?_
    intro RhR133 hR133
    refine zq (zr (za rfl (zn (zq (zr ?_)))))
    refine zo (J00 Try.underlying25 rfl ti23 rfl (by decide)) (zs (oblk (i := 3) 9 hO rfl rfl Try.underlying23 rfl rfl) (zm rfl ?_))
    obtain ⟨Fx, H⟩ := H
    obtain ⟨Fy, H⟩ := H
    refine zo (J02 Try.underlying23 ti31 rfl rfl Fx Fy (ai.some_ Fx Fy)) ?_
    have zz := ldSl ai Fx Fy
    obtain ⟨UL, UM, kh, L9⟩ := zz
    refine zs (L9 Try.underlying31 rfl rfl) (zm rfl ?_)
    obtain ⟨zT, H⟩ := H
    obtain ⟨xR, H⟩ := H
    refine zo (J02 Try.underlying31 ti3 rfl rfl zT xR (kh.some_ zT xR)) (zs (ldInt kh zT xR Try.underlying3 rfl rfl) (za rfl (zn ?_)))
    refine Go1.ret1V Try.func140 rfl (show _ = .int .i64 (ix (ix d.Next (ix d_100 (k1_87 : Int))) (k2_121 : Int)) from rfl) ?_
    refine hR133 _ _ ?_
    refine GoR.inl (vs := [.pointer (some ⟨B28, 0, none⟩), .int .i64 (ix (ix d.Next (ix d_100 (k1_87 : Int))) (k2_121 : Int))]) (caps := []) rfl rfl body163 Try.func163 rfl Try.ntmps163 rfl rfl rfl ?_
    intro RhR142 hR142
    refine zq ?_
    refine Go1.cut [(0, .pointer (some ⟨B28, 0, none⟩)), (1, .int .i64 (ix (ix d.Next (ix d_100 (k1_87 : Int))) (k2_121 : Int)))] ⟨rfl, rfl, trivial⟩ ?_
    intro σ _
    refine zr (za rfl (zn (zq (zr (zm rfl ?_)))))
    refine zo (J01 rfl) (zo (J00 Try.underlying188 rfl ti168 rfl (by decide)) (zs (oblk (i := 1) 6 hO rfl rfl Try.underlying168 rfl rfl) (zm rfl ?_)))
    by_cases Ec : mhas m2_131 ((ix (ix d.Next (ix d_100 (k1_87 : Int))) (k2_121 : Int))) = true
    ·replace H := ifp Ec H
     refine zs (olookT (a := (ix (ix d.Next (ix d_100 (k1_87 : Int))) (k2_121 : Int))) (MK.int Try.underlying3) 5 hO rfl Try.underlying168 rfl rfl Ec) (zm rfl (zo (J07 rfl rfl) (zo (J07 rfl rfl) (za rfl (za rfl ?_)))))
     refine zn (zq (zq (zr (zm rfl (zo (J0l rfl) ?_)))))
     refine zn (zf rfl rfl (zk (zq (zr (zm rfl ?_)))))
     refine za rfl (zn ?_)
     refine Go1.ret1V Try.func163 rfl (show _ = .int .i64 (mgt m2_131 ((ix (ix d.Next (ix d_100 (k1_87 : Int))) (k2_121 : Int)))) from rfl) ?_
     refine hR142 _ _ ?_
     obtain ⟨Fz, H⟩ := H
     obtain ⟨FA, H⟩ := H
     refine zo (J02 Try.underlying31 ti3 rfl rfl Fz (ltn (jo.neq hO 0 rfl) FA) (jo.psome hO 0 rfl Fz FA)) ?_
     have zz := ost (r := Rp.int .i64) rfl 0 hO rfl jo Fz FA (v := .int .i64 (mgt m2_131 ((ix (ix d.Next (ix d_100 (k1_87 : Int))) (k2_121 : Int))))) (u := (mgt m2_131 ((ix (ix d.Next (ix d_100 (k1_87 : Int))) (k2_121 : Int))))) rfl rfl
     obtain ⟨UN, Ed, mo, dR, Iz⟩ := zz
     dsimp only [sS, sZ] at mo dR
     refine zg (Iz Try.underlying3 rfl ti3 (by exact rfl) (by exact rfl)) ?_
     replace hO := mo.own
     refine zn ?_
     refine Go1.inBlock ?_
     refine zr ?_
     obtain ⟨QP, H⟩ := H
     refine zo (J0c rfl rfl (wrap_i64 QP)) (zm rfl (zn ?_))
     replace cw := cw.ch mo.ch
     replace cr := cr.ch mo.ch
     replace eV := eV.ch mo.ch
     replace aa := aa.ch mo.ch
     replace ai := ai.ch mo.ch
     replace hB := hB.trans mo.fr
     exact hX2 _ H _ _ ⟨Ed, mQ, o5, o6, tL, ⟨rfl, rfl, rfl, rfl, rfl, rfl, rfl, rfl, rfl, rfl, rfl, trivial⟩, hO, dR, cw, cr, eV, aa, ai, hB⟩
    replace H := ifn Ec H
    refine zs (olookF (a := (ix (ix d.Next (ix d_100 (k1_87 : Int))) (k2_121 : Int))) (MK.int Try.underlying3) 5 hO rfl Try.underlying168 ti3 rfl rfl Ec) (zm rfl (zo (J07 rfl rfl) (zo (J07 rfl rfl) (za rfl (za rfl ?_)))))
    refine zn (zq (zq ?_))
    refine Go1.cut [(0, .pointer (some ⟨B28, 0, none⟩)), (1, .int .i64 (ix (ix d.Next (ix d_100 (k1_87 : Int))) (k2_121 : Int))), (5, .int .i64 0), (6, .bool false)] ⟨rfl, rfl, rfl, rfl, trivial⟩ ?_
    intro σ _
    refine zr (zm rfl (zo (J0l rfl) (zn (zt rfl rfl (zq ?_)))))
    refine zq (zr (zm rfl (zo (J01 rfl) (zo (J00 Try.underlying188 rfl ti168 rfl (by decide)) (zs (oblk (i := 1) 6 hO rfl rfl Try.underlying168 rfl rfl) ?_)))))
    refine zo (fun w => opB (op_nilMap Try.underlying168 rfl rfl w) rfl) (zn (zf rfl rfl (zk (zq (zr ?_)))))
    refine zm rfl (zo (J01 rfl) (zo (J00 Try.underlying188 rfl ti31 rfl (by decide)) (zs (oblk (i := 0) 6 hO rfl rfl Try.underlying31 rfl rfl) (zo (J0y Try.underlying31 rfl (eV.neq hO 4 rfl)) (za rfl ?_)))))
    refine zn (zq (zr (zm rfl (zo (J01 rfl) (zo (J00 Try.underlying188 rfl ti168 rfl (by decide)) ?_)))))
    refine zs (oblk (i := 1) 6 hO rfl rfl Try.underlying168 rfl rfl) (zm rfl (zm rfl ?_))
    have zz := omapUpd (MK.int Try.underlying3) 5 hO rfl Try.underlying168 (ix (ix d.Next (ix d_100 (k1_87 : Int))) (k2_121 : Int)) (d_125.length : Int)
    obtain ⟨UO, ua, Cu⟩ := zz
    dsimp only [sS, sZ] at ua
    refine zg (Cu (by exact rfl) (by exact rfl) (by exact rfl)) ?_
    replace hO := ua.own
    refine zn ?_
    refine Go1.cut [(0, .pointer (some ⟨B28, 0, none⟩)), (1, .int .i64 (ix (ix d.Next (ix d_100 (k1_87 : Int))) (k2_121 : Int))), (5, .int .i64 (d_125.length : Int))] ⟨rfl, rfl, rfl, trivial⟩ ?_
    intro σ _
    refine zr (zm rfl (zm rfl (zo (J01 rfl) (zo (J00 Try.underlying188 rfl ti31 rfl (by decide)) (zs (oblk (i := 0) 6 hO rfl rfl Try.underlying31 rfl rfl) ?_)))))
    refine zm rfl ?_
    have zz := J0k (r := Rp.int .i64) (n := 1) (parts := [(0, .int .i64 (ix (ix d.Next (ix d_100 (k1_87 : Int))) (k2_121 : Int)))]) (vs := [.int .i64 (ix (ix d.Next (ix d_100 (k1_87 : Int))) (k2_121 : Int))]) (xs := [(ix (ix d.Next (ix d_100 (k1_87 : Int))) (k2_121 : Int))]) rfl Try.underlying31 ti3 hO (by decide) (by kernel_rfl) (Els.cons rfl rfl (Els.nil _ _ _) (by simp [mx])) rfl
    obtain ⟨UP, UQ, uK, Ma, TK, IA⟩ := zz
    refine zg (IA rfl) ?_
    replace hO := uK.own
    have zz := freeze 0 hO rfl Ma
    obtain ⟨hO1, wW, wX, Mb⟩ := zz
    dsimp only [eS, eZ] at hO1 wW wX
    replace hB := ((hB.trans ua.fr).trans uK.fr).trans (Owns.J09 _ _ 0)
    dsimp only [eS, eZ] at hB
    replace hO := hO1; clear hO1
    obtain ⟨Cv, H⟩ := H
    have Z4 := (ua.ch.trans uK.ch).trans wW
    replace eV := eV.ch Z4
    have zz := oapp Try.underlying31 ti3 rfl 4 hO rfl eV wX Mb Cv (by decide)
    obtain ⟨QQ, FB, FC, Mc, ub, yP, IB⟩ := zz
    dsimp only [sS, sZ] at ub yP
    refine zg (IB (by exact rfl) (by exact rfl)) ?_
    replace hO := ub.own
    refine zo (J01 rfl) (zo (J00 Try.underlying188 rfl ti31 rfl (by decide)) ?_)
    have zz := J0e (v := .slice FB (mQ + 1) FC) (i := 0) (cs' := #[.slice FB (mQ + 1) FC, .map (some B35)]) 6 hO rfl rfl rfl rfl
    obtain ⟨QR, tv, IC⟩ := zz
    dsimp only [sS, sZ] at tv
    refine zg (IC Try.underlying31 rfl ti31 (by exact rfl) (by exact rfl)) ?_
    replace hO := tv.own
    refine zn (zq (zr (zm rfl (za rfl (zn ?_)))))
    refine Go1.ret1V Try.func163 rfl (show _ = .int .i64 (d_125.length : Int) from rfl) ?_
    refine hR142 _ _ ?_
    obtain ⟨ym, H⟩ := H
    obtain ⟨yn, H⟩ := H
    replace jo := ((jo.ch Z4).ch ub.ch).ch tv.ch
    refine zo (J02 Try.underlying31 ti3 rfl rfl ym (ltn (jo.neq hO 0 rfl) yn) (jo.psome hO 0 rfl ym yn)) ?_
    have zz := ost (r := Rp.int .i64) rfl 0 hO rfl jo ym yn (v := .int .i64 (d_125.length : Int)) (u := (d_125.length : Int)) rfl rfl
    obtain ⟨UR, Me, uc, HX, ID⟩ := zz
    dsimp only [sS, sZ] at uc HX
    refine zg (ID Try.underlying3 rfl ti3 (by exact rfl) (by exact rfl)) ?_
    replace hO := uc.own
    refine zn ?_
    refine Go1.inBlock ?_
    refine zr ?_
    obtain ⟨QS, H⟩ := H
    refine zo (J0c rfl rfl (wrap_i64 QS)) (zm rfl (zn ?_))
    replace yP := (yP.ch tv.ch).ch uc.ch
    replace hB := ((hB.trans ub.fr).trans tv.fr).trans uc.fr
    have Z5 := ((Z4.trans ub.ch).trans tv.ch).trans uc.ch
    replace cw := cw.ch Z5
    replace cr := cr.ch Z5
    replace aa := aa.ch Z5
    replace ai := ai.ch Z5
    exact hX2 _ H _ _ ⟨Me, mQ + 1, FB, FC, Mc, ⟨rfl, rfl, rfl, rfl, rfl, rfl, rfl, rfl, rfl, rfl, rfl, trivial⟩, hO, HX, cw, cr, yP, aa, ai, hB⟩
   replace H := ifn yl H
   refine zo (fun w => opB (J08 rfl rfl w) (decide_eq_false yl)) (zn (zq (zf rfl rfl ?_)))
   refine Go1.exit rfl ?_
   refine zq (zq (zr (zo (J00 Try.underlying188 rfl ti31 rfl (by decide)) (zs (oblk (i := 0) 6 hO rfl rfl Try.underlying31 rfl rfl) (zo (J0y Try.underlying31 rfl (eV.neq hO 4 rfl)) ?_)))))
   by_cases Ee : (512 : Int) < (d_125.length : Int)
   ·replace H := ifp Ee H
    refine zo (fun w => opB (J0M rfl rfl w) (decide_eq_true Ee)) (zn (zt rfl rfl (zq ?_)))
    refine Go1.cut [(8, .pointer (some ⟨B22, 0, none⟩))] ⟨rfl, trivial⟩ ?_
    intro σ _
    refine zr (zo (J0q Try.underlying25 ti25 (pl := [(0, 1), (1, 1), (2, 1), (3, 1)]) (vs := []) (cs := #[.int .i64 0, .int .i64 0, .slice none 0 0, .slice none 0 0]) (by kernel_rfl) rfl (by kernel_rfl)) ?_)
    have zz := J0b (us := [.int .i64 0, .int .i64 0, .slice none 0 0, .slice none 0 0]) (o := 0) (cs' := #[.int .i64 0, .int .i64 0, .slice none 0 0, .slice none 0 0]) 7 hO rfl rfl (Nat.le_of_ble_eq_true rfl) rfl
    obtain ⟨US, m5, IE⟩ := zz
    dsimp only [sS, sZ] at m5
    refine zg (IE ti25 (by exact rfl) (by exact rfl) rfl) ?_
    replace hO := m5.own
    refine za rfl (za rfl (zn ?_))
    refine Go1.retC3V Try.func139 rfl rfl (J0f (vs := [.int .i64 0, .int .i64 0, .slice none 0 0, .slice none 0 0]) 7 hO rfl rfl Try.underlying25 rfl ti25) (show _ = .slice none 0 0 from rfl) (show _ = .int .i64 3 from rfl) ?_
    refine hR20 _ _ ?_
    refine zm rfl (zo (J07 rfl rfl) (zo (J07 rfl rfl) (zo (J07 rfl rfl) ?_)))
    have zz := oalloc (t := 25) (cs := #[.int .i64 0, .int .i64 0, .slice none 0 0, .slice none 0 0]) ti25 hO rfl
    obtain ⟨UT, B190, vK, TL, IF⟩ := zz
    refine GoR.op IF rfl rfl ?_
    replace hO := vK.own
    have zz := J0b (us := [.int .i64 0, .int .i64 0, .slice none 0 0, .slice none 0 0]) (o := 0) (cs' := #[.int .i64 0, .int .i64 0, .slice none 0 0, .slice none 0 0]) 0 hO rfl rfl (Nat.le_of_ble_eq_true rfl) rfl
    obtain ⟨QT, uL, Cw⟩ := zz
    dsimp only [sS, sZ] at uL
    refine zg (Cw ti25 (by exact rfl) (by exact rfl) rfl) ?_
    replace hO := uL.own
    refine za rfl (za rfl (zn (zq (zr (zo (J00 Try.underlying25 rfl ti22 rfl (by decide)) ?_)))))
    refine zs (oblk (i := 2) 10 hO rfl rfl Try.underlying22 rfl rfl) (zo (J0d Try.underlying22 rfl) ?_)
    have Z6 := (m5.ch.trans vK.ch).trans uL.ch
    replace aa := aa.ch Z6
    replace H := H aa.bd
    obtain ⟨xS, H⟩ := H
    obtain ⟨Cx, H⟩ := H
    have zz := omake (n := (d.Final.length : Int)) (r := Rp.int .i64) (d := (0 : Int)) Try.underlying31 ti3 (fun _ _ => rfl) rfl hO xS Cx (by decide)
    obtain ⟨QU, wg, Mf, vL, i5, TM, Cy⟩ := zz
    refine zg (Cy rfl rfl) ?_
    replace hO := vL.own
    refine za rfl (zn (zq (zq (zr (zm rfl ?_)))))
    refine zo (J0y Try.underlying31 rfl (i5.neq hO 0 rfl)) (zm rfl (zn (zb ?_)))
    replace hO := hO.drop 2
    replace i5 := i5.ch (Owns.J06 _ _ 2)
    replace aa := (aa.ch vL.ch).ch (Owns.J06 _ _ 2)
    have Z7 := (Z6.trans vL.ch).trans (Owns.J06 _ _ 2)
    replace cw := cw.ch Z7
    replace cr := cr.ch Z7
    replace eV := eV.ch Z7
    replace ai := ai.ch Z7
    replace hB := ((((hB.trans m5.fr).trans vK.fr).trans uL.fr).trans vL.fr).trans (Owns.J09 _ _ 2)
    dsimp only [eS, eZ] at hB hO aa ai i5 cw cr eV
    replace hO := hO.drop 2
    replace aa := aa.ch (Owns.J06 _ _ 2)
    replace ai := ai.ch (Owns.J06 _ _ 2)
    replace i5 := i5.ch (Owns.J06 _ _ 2)
    replace cr := cr.ch (Owns.J06 _ _ 2)
    replace eV := eV.ch (Owns.J06 _ _ 2)
    replace hB := hB.trans (Owns.J09 _ _ 2)
    dsimp only [eS, eZ] at hB hO aa ai i5 cr eV
    replace hO := hO.drop 2
    replace aa := aa.ch (Owns.J06 _ _ 2)
    replace ai := ai.ch (Owns.J06 _ _ 2)
    replace i5 := i5.ch (Owns.J06 _ _ 2)
    replace eV := eV.ch (Owns.J06 _ _ 2)
    replace hB := hB.trans (Owns.J09 _ _ 2)
    dsimp only [eS, eZ] at hB hO aa ai i5 eV
    replace hO := hO.drop 2
    replace aa := aa.ch (Owns.J06 _ _ 2)
    replace ai := ai.ch (Owns.J06 _ _ 2)
    replace i5 := i5.ch (Owns.J06 _ _ 2)
    replace eV := eV.ch (Owns.J06 _ _ 2)
    replace hB := hB.trans (Owns.J09 _ _ 2)
    dsimp only [eS, eZ] at hB hO aa ai i5 eV
    replace hO := hO.drop 2
    replace aa := aa.ch (Owns.J06 _ _ 2)
    replace ai := ai.ch (Owns.J06 _ _ 2)
    replace i5 := i5.ch (Owns.J06 _ _ 2)
    replace hB := hB.trans (Owns.J09 _ _ 2)
    dsimp only [eS, eZ] at hB hO aa ai i5
    replace hO := hO.drop 2
    replace aa := aa.ch (Owns.J06 _ _ 2)
    replace ai := ai.ch (Owns.J06 _ _ 2)
    replace i5 := i5.ch (Owns.J06 _ _ 2)
    replace hB := hB.trans (Owns.J09 _ _ 2)
    dsimp only [eS, eZ] at hB hO aa ai i5
    replace hO := hO.drop 2
    replace aa := aa.ch (Owns.J06 _ _ 2)
    replace ai := ai.ch (Owns.J06 _ _ 2)
    replace i5 := i5.ch (Owns.J06 _ _ 2)
    replace hB := hB.trans (Owns.J09 _ _ 2)
    dsimp only [eS, eZ] at hB hO aa ai i5
    replace hO := hO.drop 2
    replace aa := aa.ch (Owns.J06 _ _ 2)
    replace ai := ai.ch (Owns.J06 _ _ 2)
    replace i5 := i5.ch (Owns.J06 _ _ 2)
    replace hB := hB.trans (Owns.J09 _ _ 2)
    dsimp only [eS, eZ] at hB hO aa ai i5
    replace hO := hO.drop 3
    replace i5 := i5.ch (Owns.J06 _ _ 3)
    replace hB := hB.trans (Owns.J09 _ _ 3)
    refine Go1.loopW (S := Nat × List Int) (fun s σ w => match s with | (k3_209, number3_210) => ∃ (wi : List Value), agrees σ [(2, .pointer (some ⟨B8, 0, none⟩)), (4, .pointer (some ⟨B190, 0, none⟩)), (5, .slice none 0 0), (7, .slice wg d.Final.length d.Final.length), (31, .int .i64 ((List.replicate d.Final.length ((0 : Int))).length : Int)), (32, .int .i64 (k3_209 : Int))] ∧ (fun Z0 => Owns w0.heap.size w Z0 A ∧ Els (Rp.int .i64) (bl Z0 ++ A) w wi number3_210 ∧ Fr (bl []) w0 (bl Z0) w) [.row 3 1 wg d.Final.length d.Final.length wi, .blk B190 (.cells #[.int .i64 0, .int .i64 0, .slice none 0 0, .slice none 0 0] 25 (0, 0)), .blk B8 (.cells #[.int .i64 0, .int .i64 0, .slice none 0 0, .slice none 0 0] 25 (0, 0))]) H ⟨Mf, ⟨rfl, rfl, rfl, rfl, rfl, rfl, trivial⟩, hO, i5, hB⟩ ?_
    intro X3
    refine prE fun k3_209 => fun number3_210 => ?_
    intro H hX3 σ UU
    refine exE fun wi => andE fun hag => andE fun hO => andE fun wY => fun hB => ?_
    dsimp only at H
    refine Go1.keep [(2, .pointer (some ⟨B8, 0, none⟩)), (4, .pointer (some ⟨B190, 0, none⟩)), (5, .slice none 0 0), (7, .slice wg d.Final.length d.Final.length), (31, .int .i64 ((List.replicate d.Final.length ((0 : Int))).length : Int)), (32, .int .i64 (k3_209 : Int))] hag ?_
    refine zq (zr ?_)
    by_cases Ef : (k3_209 : Int) < ((List.replicate d.Final.length ((0 : Int))).length : Int)
    ·replace H := ifp Ef H
     refine zo (fun w => opB (J08 rfl rfl w) (decide_eq_true Ef)) (zn (zq (zt rfl rfl (zk (zq ?_)))))
     refine zb (zq (zr (zm rfl (za rfl (zn ?_)))))
     refine zr (zm rfl (zm rfl ?_))
     obtain ⟨FD, H⟩ := H
     obtain ⟨FE, H⟩ := H
     refine zo (J02 Try.underlying31 ti3 rfl rfl FD (ltn (wY.neq hO 0 rfl) FE) (wY.psome hO 0 rfl FD FE)) ?_
     have zz := ost (r := Rp.int .i64) rfl 0 hO rfl wY FD FE (v := .int .i64 (-1)) (u := (-1 : Int)) rfl rfl
     obtain ⟨UV, Mg, Fo, Mh, IG⟩ := zz
     refine zg (IG Try.underlying3 rfl ti3 (by exact rfl) (by exact rfl)) ?_
     replace hO := Fo.own
     refine zn ?_
     refine Go1.inBlock ?_
     refine zr ?_
     obtain ⟨QV, H⟩ := H
     refine zo (J0c rfl rfl (wrap_i64 QV)) (zm rfl (zn ?_))
     replace hB := hB.trans Fo.fr
     exact hX3 _ H _ _ ⟨Mg, ⟨rfl, rfl, rfl, rfl, rfl, rfl, trivial⟩, hO, Mh, hB⟩
    replace H := ifn Ef H
    refine zo (fun w => opB (J08 rfl rfl w) (decide_eq_false Ef)) (zn (zq (zf rfl rfl ?_)))
    refine Go1.exit rfl ?_
    refine zq (zq (zr (zm rfl (zo (J0d Try.underlying31 rfl) (zm rfl ?_)))))
    refine zn (zb ?_)
    refine Go1.loopW (S := Nat) (fun s σ w => agrees σ [(2, .pointer (some ⟨B8, 0, none⟩)), (4, .pointer (some ⟨B190, 0, none⟩)), (7, .slice wg d.Final.length d.Final.length), (39, .slice none 0 0), (40, .int .i64 0), (41, .int .i64 (s : Int))] ∧ (fun Z0 => Owns w0.heap.size w Z0 A ∧ Els (Rp.int .i64) (bl Z0 ++ A) w wi number3_210 ∧ Fr (bl []) w0 (bl Z0) w) [.row 3 1 wg d.Final.length d.Final.length wi, .blk B190 (.cells #[.int .i64 0, .int .i64 0, .slice none 0 0, .slice none 0 0] 25 (0, 0)), .blk B8 (.cells #[.int .i64 0, .int .i64 0, .slice none 0 0, .slice none 0 0] 25 (0, 0))]) H ⟨⟨rfl, rfl, rfl, rfl, rfl, rfl, trivial⟩, hO, wY, hB⟩ ?_
    intro X4 k4_223
    intro H hX4 σ QW
    refine andE fun hag => andE fun hO => andE fun wY => fun hB => ?_
    refine Go1.keep [(2, .pointer (some ⟨B8, 0, none⟩)), (4, .pointer (some ⟨B190, 0, none⟩)), (7, .slice wg d.Final.length d.Final.length), (39, .slice none 0 0), (40, .int .i64 0), (41, .int .i64 (k4_223 : Int))] hag ?_
    refine zq (zr ?_)
    by_cases Eg : (k4_223 : Int) < (0 : Int)
    ·replace H := ifp Eg H
     refine zo (fun w => opB (J08 rfl rfl w) (decide_eq_true Eg)) (zn (zq (zt rfl rfl (zk (zq ?_)))))
     refine zb (zq (zr (zm rfl ?_)))
     obtain ⟨Bk, H⟩ := H
     obtain ⟨yo, H⟩ := H
     refine zo (J02 Try.underlying31 ti3 rfl rfl Bk yo (absurd yo (by omega))) ?_
     exact absurd yo (by omega)
    replace H := ifn Eg H
    refine zo (fun w => opB (J08 rfl rfl w) (decide_eq_false Eg)) (zn (zq (zf rfl rfl ?_)))
    refine Go1.exit rfl ?_
    refine zq (zr (zs (J0j (vs := [.int .i64 0, .int .i64 0, .slice none 0 0, .slice none 0 0]) (i := 0) 1 hO rfl rfl Try.underlying25 rfl ti25 rfl) (zm rfl ?_)))
    have zz := J0b (us := [.int .i64 0, .int .i64 0, .slice none 0 0, .slice none 0 0]) (o := 0) (cs' := #[.int .i64 0, .int .i64 0, .slice none 0 0, .slice none 0 0]) 2 hO rfl rfl (Nat.le_of_ble_eq_true rfl) rfl
    obtain ⟨UW, Cz, IH⟩ := zz
    refine zg (IH ti25 (by exact rfl) (by exact rfl) rfl) ?_
    replace hO := Cz.own
    refine za rfl (zn ?_)
    replace wY := wY.ch Cz.ch
    have zz := freeze 0 hO rfl wY
    obtain ⟨hO1, TN, Mi, Mj⟩ := zz
    replace hO := hO1; clear hO1
    refine Go1.retC2 Try.func109 rfl rfl (J0f (vs := [.int .i64 0, .int .i64 0, .slice none 0 0, .slice none 0 0]) 1 hO rfl rfl Try.underlying25 rfl ti25) ?_
    replace hB := (hB.trans Cz.fr).trans (Owns.J09 _ _ 0)
    exact ⟨(⟨(0 : Int), (0 : Int), ([] : List Bool), ([] : List (List Int))⟩ : DFA), number3_210, none, 0, none, 0, wg, d.Final.length, (congrArg (fun l => Value.tuple (List.toArray l)) (J0h rfl (J0h (congrArg (fun nn => Value.slice wg nn d.Final.length) Mj) rfl))), hB.same, (ISl.null _ _ _), (ISl.null _ _ _), (Mi.ch (Ch.weak _ _ _)), H⟩
   replace H := ifn Ee H
   refine zo (fun w => opB (J0M rfl rfl w) (decide_eq_false Ee)) (zn (zf rfl rfl (zk (zq (zr ?_)))))
   refine zo (J00 Try.underlying25 rfl ti23 rfl (by decide)) (zs (oblk (i := 3) 3 hO rfl rfl Try.underlying23 rfl rfl) (zm rfl ?_))
   have zz := freeze 0 hO rfl jo
   obtain ⟨hO1, yQ, mc, Mk⟩ := zz
   dsimp only [eS, eZ] at hO1 yQ mc
   replace hB := hB.trans (Owns.J09 _ _ 0)
   dsimp only [eS, eZ] at hB
   replace hO := hO1; clear hO1
   have zz := J0k (r := Rp.sl (Rp.int .i64)) (n := 1) (parts := [(0, .slice uJ d.Letters.toNat d.Letters.toNat)]) (vs := [.slice uJ d.Letters.toNat d.Letters.toNat]) (xs := [d_122]) rfl Try.underlying23 ti31 hO (by decide) (by kernel_rfl) (Els.cons rfl ⟨uJ, d.Letters.toNat, congrArg some (congrArg (fun nn => Value.slice uJ nn d.Letters.toNat) Mk), mc⟩ (Els.nil _ _ _) (by simp [mx])) rfl
   obtain ⟨QX, UX, jq, Ml, TO, II⟩ := zz
   refine zg (II rfl) ?_
   replace hO := jq.own
   have zz := freeze 0 hO rfl Ml
   obtain ⟨hO1, xT, pk, Mm⟩ := zz
   dsimp only [eS, eZ] at hO1 xT pk
   replace hB := (hB.trans jq.fr).trans (Owns.J09 _ _ 0)
   dsimp only [eS, eZ] at hB
   replace hO := hO1; clear hO1
   obtain ⟨QY, H⟩ := H
   have Z8 := (yQ.trans jq.ch).trans xT
   replace cw := cw.ch Z8
   have zz := oapp Try.underlying23 ti31 rfl 0 hO rfl cw pk Mm QY (by decide)
   obtain ⟨UY, Bl, Bm, HY, uM, sV, IJ⟩ := zz
   dsimp only [sS, sZ] at uM sV
   refine zg (IJ (by exact rfl) (by exact rfl)) ?_
   replace hO := uM.own
   refine zo (J00 Try.underlying25 rfl ti23 rfl (by decide)) ?_
   have zz := J0e (v := .slice Bl (n93 + 1) Bm) (i := 3) (cs' := #[.int .i64 d.Letters, .int .i64 0, .slice p97 n99 c98, .slice Bl (n93 + 1) Bm]) 2 hO rfl rfl rfl rfl
   obtain ⟨U0, ud, CA⟩ := zz
   dsimp only [sS, sZ] at ud
   refine zg (CA Try.underlying23 rfl ti23 (by exact rfl) (by exact rfl)) ?_
   replace hO := ud.own
   refine zn ?_
   refine Go1.drawT (ok := fun _ => True) (CSv.tr [(some ⟨B72, 2, none⟩)]) [6, 8] 9 (.qp 0 (.qs 1 (.qp 2 (.qp 3 (.alt 4 (.alt 5 (.alt 6 (.qp 7 (.alt 8 .nil .fin)) .fin) .fin) .fin))))) mixed (by kernel_rfl) ?_
   intro Q0 Mn
   have uN := Stp.same hO Mn
   replace hO := uN.own
   refine GoT.pure rfl (J00 Try.underlying25 rfl ti22 rfl (by decide)) rfl rfl ?_
   refine GoT.stable rfl (loadV (.head _) rfl (blkCell 2 hO rfl rfl) Try.underlying22 rfl rfl) rfl rfl ?_
   refine GoT.pure rfl (J03 rfl) rfl rfl ?_
   refine GoT.pure rfl (J03 rfl) rfl rfl ?_
   skip
   refine GoT.inl (vs := [.int .i64 (ix d_100 (k1_87 : Int))]) (caps := [.pointer (some ⟨B2, 0, none⟩)]) rfl rfl rfl body141 Try.func141 rfl Try.ntmps141 rfl rfl rfl ?_
   intro RhR261 hR261
   have hOs262 := hO
   replace hB := ((hB.trans uM.fr).trans ud.fr).trans uN.fr
   have hBs263 := hB
   have hB := Fr.refl (bl [.row 31 1 Bl (n93 + 1) Bm HY, .row 4 1 p97 n99 c98 gp, .blk B72 (.cells #[.int .i64 d.Letters, .int .i64 0, .slice p97 n99 c98, .slice Bl (n93 + 1) Bm] 25 (0, 0)), .row 3 1 o5 mQ o6 tL, .any (mapE (fun a : Int => Value.int .i64 a) (fun a : Int => Value.int .i64 a) B35 m2_131), .blk B28 (.cells #[.slice o5 mQ o6, .map (some B35)] 188 (0, 0)), .blk B22 (.cells #[.int .i64 0, .int .i64 0, .slice none 0 0, .slice none 0 0] 25 (0, 0)), .blk B8 (.cells #[.int .i64 0, .int .i64 0, .slice none 0 0, .slice none 0 0] 25 (0, 0)), .blk B2 (.cells #[.int .i64 d.Letters, .int .i64 d.Start, .slice aQ d.Final.length aR, .slice aW d.Next.length aX] 25 (0, 0))]) Q0
   refine zq ?_
   refine Go1.cut [(0, .int .i64 (ix d_100 (k1_87 : Int))), (1, .pointer (some ⟨B2, 0, none⟩))] ⟨rfl, rfl, trivial⟩ ?_
   intro σ _
   refine zr (za rfl (zn (zq (zr (zo (J00 Try.underlying25 rfl ti22 rfl (by decide)) ?_)))))
   refine zs (oblk (i := 2) 8 hO rfl rfl Try.underlying22 rfl rfl) (zm rfl ?_)
   obtain ⟨FF, H⟩ := H
   obtain ⟨FG, H⟩ := H
   have Z9 := ((Z8.trans uM.ch).trans ud.ch).trans uN.ch
   replace aa := aa.ch Z9
   refine zo (J02 Try.underlying22 ti4 rfl rfl FF FG (aa.some_ FF FG)) (zs (ldBool aa FF FG Try.underlying4 rfl rfl) (za rfl (zn ?_)))
   refine Go1.ret1V Try.func141 rfl (show _ = .bool (ix d.Final (ix d_100 (k1_87 : Int))) from rfl) ?_
   refine hR261 _ _ (CSv.cons (cs_eq (blkCell 2 hOs262 rfl rfl) (blkCell 2 hO rfl rfl)) (CSv.nil _ _)) ?_
   replace hB := hBs263.trans hB
   skip
   have zz := J0k (r := Rp.bool) (n := 1) (parts := [(0, .bool (ix d.Final (ix d_100 (k1_87 : Int))))]) (vs := [.bool (ix d.Final (ix d_100 (k1_87 : Int)))]) (xs := [ix d.Final (ix d_100 (k1_87 : Int))]) rfl Try.underlying22 ti4 hO (by decide) (by kernel_rfl) (Els.cons rfl rfl (Els.nil _ _ _) (by simp [mx])) rfl
   obtain ⟨U1, U2, iI, Mo, Mp, IK⟩ := zz
   refine GoT.step rfl (IK rfl) (CSv.same Mp) rfl rfl ?_
   replace hO := iI.own
   skip
   have zz := freeze 0 hO rfl Mo
   obtain ⟨hO1, xa, yR, Mq⟩ := zz
   dsimp only [eS, eZ] at hO1 xa yR
   replace hB := (hB.trans iI.fr).trans (Owns.J09 _ _ 0)
   dsimp only [eS, eZ] at hB
   replace hO := hO1; clear hO1
   obtain ⟨Q1, H⟩ := H
   replace cr := ((cr.ch Z9).ch iI.ch).ch xa
   have zz := oapp Try.underlying22 ti4 rfl 1 hO rfl cr yR Mq Q1 (by decide)
   obtain ⟨U3, FH, FI, Mr, ue, BU, IL⟩ := zz
   dsimp only [sS, sZ] at ue BU
   refine GoT.stepX rfl (IL (by exact rfl) (by exact rfl)) rfl rfl rfl ?_
   replace hO := ue.own
   refine GoT.pure rfl (J00 Try.underlying25 rfl ti22 rfl (by decide)) rfl rfl ?_
   skip
   have zz := J0e (v := .slice FH (n99 + 1) FI) (i := 2) (cs' := #[.int .i64 d.Letters, .int .i64 0, .slice FH (n99 + 1) FI, .slice Bl (n93 + 1) Bm]) 2 hO rfl rfl rfl rfl
   obtain ⟨Q2, tw, IM⟩ := zz
   dsimp only [sS, sZ] at tw
   refine GoT.stepX rfl (IM Try.underlying22 rfl ti22 (by exact rfl) (by exact rfl)) rfl rfl rfl ?_
   replace hO := tw.own
   refine GoT.nil ?_
   refine Go1.inBlock ?_
   refine zr (zm rfl ?_)
   obtain ⟨Q3, H⟩ := H
   refine zo (J0c rfl rfl (wrap_i64 Q3)) (za rfl (zn ?_))
   replace BU := BU.ch tw.ch
   replace hB := (hB.trans ue.fr).trans tw.fr
   have Z10 := ((iI.ch.trans xa).trans ue.ch).trans tw.ch
   replace aa := aa.ch Z10
   have Z11 := ((((ud.ch.trans uN.ch).trans iI.ch).trans xa).trans ue.ch).trans tw.ch
   replace sV := sV.ch Z11
   have Z12 := (((Z9.trans iI.ch).trans xa).trans ue.ch).trans tw.ch
   replace ai := ai.ch Z12
   replace eV := eV.ch Z12
   exact hX1 _ H _ _ ⟨n93 + 1, Bl, Bm, HY, n99 + 1, FH, FI, Mr, mQ, o5, o6, tL, ⟨rfl, rfl, rfl, rfl, rfl, rfl, rfl, trivial⟩, hO, sV, BU, eV, aa, ai, hB⟩
  replace H := ifn nM H
  refine zo (fun w => opB (J08 rfl rfl w) (decide_eq_false nM)) (zn (zf rfl rfl ?_))
  refine Go1.exit rfl ?_
  refine zq ?_
  refine Go1.drawT (ok := fun _ => True) Same.tr [3] 6 (.qs 0 (.qp 1 (.alt 2 (.alt 3 (.qp 4 (.qp 5 .nil)) .fin) (.alt 3 (.alt 2 (.qp 4 (.qp 5 .nil)) .fin) .fin)))) mixed (by kernel_rfl) ?_
  intro U4 Mt
  have wC := Stp.same hO Mt
  replace hO := wC.own
  refine GoT.stable rfl (J0j (vs := [.int .i64 d.Letters, .int .i64 0, .slice p97 n99 c98, .slice p91 n93 c92]) (i := 0) 2 hO rfl rfl Try.underlying25 rfl ti25 rfl) rfl rfl ?_
  refine GoT.pure rfl (J00 Try.underlying188 rfl ti31 rfl (by decide)) rfl rfl ?_
  refine GoT.both ?_ ?_
  ·skip
   replace H := H.1
   refine GoT.step rfl ((oblk (i := 0) 5 hO rfl rfl Try.underlying31 rfl rfl) _ (Same.refl _)) (Same.refl _) rfl rfl ?_
   skip
   have zz := J0b (us := [.int .i64 d.Letters, .int .i64 0, .slice p97 n99 c98, .slice p91 n93 c92]) (o := 0) (cs' := #[.int .i64 d.Letters, .int .i64 0, .slice p97 n99 c98, .slice p91 n93 c92]) 6 hO rfl rfl (Nat.le_of_ble_eq_true rfl) rfl
   obtain ⟨Q4, iV, CB⟩ := zz
   dsimp only [sS, sZ] at iV
   refine GoT.stepX rfl (CB ti25 (by exact rfl) (by exact rfl) rfl) rfl rfl rfl ?_
   replace hO := iV.own
   refine GoT.pure rfl (J0i rfl) rfl rfl ?_
   refine GoT.pure rfl (J0i rfl) rfl rfl ?_
   refine GoT.nil ?_
   refine Go1.retC3V Try.func139 rfl rfl (J0f (vs := [.int .i64 d.Letters, .int .i64 0, .slice p97 n99 c98, .slice p91 n93 c92]) 6 hO rfl rfl Try.underlying25 rfl ti25) (show _ = .slice fQ fP fR from rfl) (show _ = .int .i64 0 from rfl) ?_
   refine hR20 _ _ ?_
   refine zm rfl (zo (J07 rfl rfl) (zo (J07 rfl rfl) (zo (J07 rfl rfl) ?_)))
   have zz := oalloc (t := 25) (cs := #[.int .i64 0, .int .i64 0, .slice none 0 0, .slice none 0 0]) ti25 hO rfl
   obtain ⟨Q5, B296, jr, TP, IN⟩ := zz
   refine GoR.op IN rfl rfl ?_
   replace hO := jr.own
   have zz := J0b (us := [.int .i64 d.Letters, .int .i64 0, .slice p97 n99 c98, .slice p91 n93 c92]) (o := 0) (cs' := #[.int .i64 d.Letters, .int .i64 0, .slice p97 n99 c98, .slice p91 n93 c92]) 0 hO rfl rfl (Nat.le_of_ble_eq_true rfl) rfl
   obtain ⟨FJ, vM, IQ⟩ := zz
   dsimp only [sS, sZ] at vM
   refine zg (IQ ti25 (by exact rfl) (by exact rfl) rfl) ?_
   replace hO := vM.own
   refine za rfl (za rfl (zn (zq ?_)))
   refine Go1.cut [(1, .pointer (some ⟨B2, 0, none⟩)), (2, .pointer (some ⟨B8, 0, none⟩)), (4, .pointer (some ⟨B296, 0, none⟩)), (5, .slice fQ fP fR)] ⟨rfl, rfl, rfl, rfl, trivial⟩ ?_
   intro σ _
   refine zr (zo (J00 Try.underlying25 rfl ti22 rfl (by decide)) (zs (oblk (i := 2) 9 hO rfl rfl Try.underlying22 rfl rfl) (zo (J0d Try.underlying22 rfl) ?_)))
   have Z13 := ((wC.ch.trans iV.ch).trans jr.ch).trans vM.ch
   replace aa := aa.ch Z13
   replace H := H aa.bd
   obtain ⟨FK, H⟩ := H
   obtain ⟨Q6, H⟩ := H
   have zz := omake (n := (d.Final.length : Int)) (r := Rp.int .i64) (d := (0 : Int)) Try.underlying31 ti3 (fun _ _ => rfl) rfl hO FK Q6 (by decide)
   obtain ⟨U5, sJ, Mu, wD, nN, TQ, IR⟩ := zz
   refine zg (IR rfl rfl) ?_
   replace hO := wD.own
   refine za rfl (zn (zq (zq (zr (zm rfl ?_)))))
   refine zo (J0y Try.underlying31 rfl (nN.neq hO 0 rfl)) (zm rfl (zn (zb ?_)))
   replace hO := hO.drop 4
   replace nN := nN.ch (Owns.J06 _ _ 4)
   replace aa := (aa.ch wD.ch).ch (Owns.J06 _ _ 4)
   have Z14 := (Z13.trans wD.ch).trans (Owns.J06 _ _ 4)
   replace cw := cw.ch Z14
   replace cr := cr.ch Z14
   replace cv := cv.ch Z14
   replace ai := ai.ch Z14
   replace hB := (((((hB.trans wC.fr).trans iV.fr).trans jr.fr).trans vM.fr).trans wD.fr).trans (Owns.J09 _ _ 4)
   dsimp only [eS, eZ] at hB hO aa ai nN cw cr cv
   replace hO := hO.drop 5
   replace aa := aa.ch (Owns.J06 _ _ 5)
   replace ai := ai.ch (Owns.J06 _ _ 5)
   replace nN := nN.ch (Owns.J06 _ _ 5)
   replace cw := cw.ch (Owns.J06 _ _ 5)
   replace cr := cr.ch (Owns.J06 _ _ 5)
   replace cv := cv.ch (Owns.J06 _ _ 5)
   replace hB := hB.trans (Owns.J09 _ _ 5)
   dsimp only [eS, eZ] at hB hO aa ai nN cw cr cv
   replace hO := hO.drop 5
   replace aa := aa.ch (Owns.J06 _ _ 5)
   replace ai := ai.ch (Owns.J06 _ _ 5)
   replace nN := nN.ch (Owns.J06 _ _ 5)
   replace cw := cw.ch (Owns.J06 _ _ 5)
   replace cr := cr.ch (Owns.J06 _ _ 5)
   replace cv := cv.ch (Owns.J06 _ _ 5)
   replace hB := hB.trans (Owns.J09 _ _ 5)
   dsimp only [eS, eZ] at hB hO aa ai nN cw cr cv
   replace hO := hO.drop 5
   replace aa := aa.ch (Owns.J06 _ _ 5)
   replace ai := ai.ch (Owns.J06 _ _ 5)
   replace nN := nN.ch (Owns.J06 _ _ 5)
   replace cw := cw.ch (Owns.J06 _ _ 5)
   replace cr := cr.ch (Owns.J06 _ _ 5)
   replace cv := cv.ch (Owns.J06 _ _ 5)
   replace hB := hB.trans (Owns.J09 _ _ 5)
   dsimp only [eS, eZ] at hB hO aa ai nN cw cr cv
   replace hO := hO.drop 6
   replace aa := aa.ch (Owns.J06 _ _ 6)
   replace ai := ai.ch (Owns.J06 _ _ 6)
   replace nN := nN.ch (Owns.J06 _ _ 6)
   replace cw := cw.ch (Owns.J06 _ _ 6)
   replace cr := cr.ch (Owns.J06 _ _ 6)
   replace cv := cv.ch (Owns.J06 _ _ 6)
   replace hB := hB.trans (Owns.J09 _ _ 6)
   dsimp only [eS, eZ] at hB hO aa ai nN cw cr cv
   refine Go1.loopW (S := Nat × List Int) (fun s σ w => match s with | (k5_315, number5_316) => ∃ (wj : List Value), agrees σ [(2, .pointer (some ⟨B8, 0, none⟩)), (4, .pointer (some ⟨B296, 0, none⟩)), (5, .slice fQ fP fR), (7, .slice sJ d.Final.length d.Final.length), (31, .int .i64 ((List.replicate d.Final.length ((0 : Int))).length : Int)), (32, .int .i64 (k5_315 : Int))] ∧ (fun Z0 => Owns w0.heap.size w Z0 A ∧ Els (Rp.int .i64) (bl Z0 ++ A) w wj number5_316 ∧ Els (Rp.sl (Rp.int .i64)) (bl Z0 ++ A) w gy d_88 ∧ Els (Rp.bool) (bl Z0 ++ A) w gp d_94 ∧ Els (Rp.int .i64) (bl Z0 ++ A) w gi d_100 ∧ Fr (bl []) w0 (bl Z0) w) [.row 3 1 sJ d.Final.length d.Final.length wj, .blk B296 (.cells #[.int .i64 d.Letters, .int .i64 0, .slice p97 n99 c98, .slice p91 n93 c92] 25 (0, 0)), .row 31 1 p91 n93 c92 gy, .row 4 1 p97 n99 c98 gp, .row 3 1 fQ fP fR gi, .blk B8 (.cells #[.int .i64 0, .int .i64 0, .slice none 0 0, .slice none 0 0] 25 (0, 0))]) H ⟨Mu, ⟨rfl, rfl, rfl, rfl, rfl, rfl, trivial⟩, hO, nN, cw, cr, cv, hB⟩ ?_
   intro X5
   refine prE fun k5_315 => fun number5_316 => ?_
   intro H hX5 σ Q7
   refine exE fun wj => andE fun hag => andE fun hO => andE fun BV => andE fun cw => andE fun cr => andE fun cv => fun hB => ?_
   dsimp only at H
   refine Go1.keep [(2, .pointer (some ⟨B8, 0, none⟩)), (4, .pointer (some ⟨B296, 0, none⟩)), (5, .slice fQ fP fR), (7, .slice sJ d.Final.length d.Final.length), (31, .int .i64 ((List.replicate d.Final.length ((0 : Int))).length : Int)), (32, .int .i64 (k5_315 : Int))] hag ?_
   refine zq (zr ?_)
   by_cases Eh : (k5_315 : Int) < ((List.replicate d.Final.length ((0 : Int))).length : Int)
   ·replace H := ifp Eh H
    refine zo (fun w => opB (J08 rfl rfl w) (decide_eq_true Eh)) (zn (zq (zt rfl rfl (zk (zq ?_)))))
    refine zb (zq (zr (zm rfl (za rfl (zn ?_)))))
    refine zr (zm rfl (zm rfl ?_))
    obtain ⟨FL, H⟩ := H
    obtain ⟨FM, H⟩ := H
    refine zo (J02 Try.underlying31 ti3 rfl rfl FL (ltn (BV.neq hO 0 rfl) FM) (BV.psome hO 0 rfl FL FM)) ?_
    have zz := ost (r := Rp.int .i64) rfl 0 hO rfl BV FL FM (v := .int .i64 (-1)) (u := (-1 : Int)) rfl rfl
    obtain ⟨U6, Mv, xC, H0, IS⟩ := zz
    dsimp only [sS, sZ] at xC H0
    refine zg (IS Try.underlying3 rfl ti3 (by exact rfl) (by exact rfl)) ?_
    replace hO := xC.own
    refine zn ?_
    refine Go1.inBlock ?_
    refine zr ?_
    obtain ⟨FN, H⟩ := H
    refine zo (J0c rfl rfl (wrap_i64 FN)) (zm rfl (zn ?_))
    replace cw := cw.ch xC.ch
    replace cr := cr.ch xC.ch
    replace cv := cv.ch xC.ch
    replace hB := hB.trans xC.fr
    exact hX5 _ H _ _ ⟨Mv, ⟨rfl, rfl, rfl, rfl, rfl, rfl, trivial⟩, hO, H0, cw, cr, cv, hB⟩
   replace H := ifn Eh H
   refine zo (fun w => opB (J08 rfl rfl w) (decide_eq_false Eh)) (zn (zq (zf rfl rfl ?_)))
   refine Go1.exit rfl ?_
   refine zq (zq (zr (zm rfl (zo (J0y Try.underlying31 rfl (cv.neq hO 4 rfl)) (zm rfl ?_)))))
   refine zn (zb ?_)
   refine Go1.loopW (S := Nat × List Int) (fun s σ w => match s with | (k6_329, number6_330) => ∃ (vm : List Value), agrees σ [(2, .pointer (some ⟨B8, 0, none⟩)), (4, .pointer (some ⟨B296, 0, none⟩)), (7, .slice sJ d.Final.length d.Final.length), (39, .slice fQ fP fR), (40, .int .i64 (d_100.length : Int)), (41, .int .i64 (k6_329 : Int))] ∧ (fun Z0 => Owns w0.heap.size w Z0 A ∧ Els (Rp.int .i64) (bl Z0 ++ A) w vm number6_330 ∧ Els (Rp.sl (Rp.int .i64)) (bl Z0 ++ A) w gy d_88 ∧ Els (Rp.bool) (bl Z0 ++ A) w gp d_94 ∧ Els (Rp.int .i64) (bl Z0 ++ A) w gi d_100 ∧ Fr (bl []) w0 (bl Z0) w) [.row 3 1 sJ d.Final.length d.Final.length vm, .blk B296 (.cells #[.int .i64 d.Letters, .int .i64 0, .slice p97 n99 c98, .slice p91 n93 c92] 25 (0, 0)), .row 31 1 p91 n93 c92 gy, .row 4 1 p97 n99 c98 gp, .row 3 1 fQ fP fR gi, .blk B8 (.cells #[.int .i64 0, .int .i64 0, .slice none 0 0, .slice none 0 0] 25 (0, 0))]) H ⟨wj, ⟨rfl, rfl, rfl, rfl, rfl, rfl, trivial⟩, hO, BV, cw, cr, cv, hB⟩ ?_
   intro X6
   refine prE fun k6_329 => fun number6_330 => ?_
   intro H hX6 σ IT
   refine exE fun vm => andE fun hag => andE fun hO => andE fun vn => andE fun cw => andE fun cr => andE fun cv => fun hB => ?_
   dsimp only at H
   refine Go1.keep [(2, .pointer (some ⟨B8, 0, none⟩)), (4, .pointer (some ⟨B296, 0, none⟩)), (7, .slice sJ d.Final.length d.Final.length), (39, .slice fQ fP fR), (40, .int .i64 (d_100.length : Int)), (41, .int .i64 (k6_329 : Int))] hag ?_
   refine zq (zr ?_)
   by_cases CC : (k6_329 : Int) < (d_100.length : Int)
   ·replace H := ifp CC H
    refine zo (fun w => opB (J08 rfl rfl w) (decide_eq_true CC)) (zn (zq (zt rfl rfl (zk (zq ?_)))))
    refine zb (zq (zr (zm rfl ?_)))
    obtain ⟨FO, H⟩ := H
    obtain ⟨FP, H⟩ := H
    refine zo (J02 Try.underlying31 ti3 rfl rfl FO (ltn (cv.neq hO 4 rfl) FP) (cv.psome hO 4 rfl FO FP)) (zs (oldInt 4 hO rfl cv FO FP Try.underlying3 rfl rfl) (za rfl (za rfl (zn (zr ?_)))))
    refine zm rfl (zm rfl (zm rfl ?_))
    obtain ⟨FQ, H⟩ := H
    obtain ⟨FS, H⟩ := H
    refine zo (J02 Try.underlying31 ti3 rfl rfl FQ (ltn (vn.neq hO 0 rfl) FS) (vn.psome hO 0 rfl FQ FS)) ?_
    have zz := ost (r := Rp.int .i64) rfl 0 hO rfl vn FQ FS (v := .int .i64 (k6_329 : Int)) (u := (k6_329 : Int)) rfl rfl
    obtain ⟨Q8, Mw, xD, H1, IU⟩ := zz
    dsimp only [sS, sZ] at xD H1
    refine zg (IU Try.underlying3 rfl ti3 (by exact rfl) (by exact rfl)) ?_
    replace hO := xD.own
    refine zn ?_
    refine Go1.inBlock ?_
    refine zr ?_
    replace cv := cv.ch xD.ch
    refine zo (J0c rfl rfl (wrap_i64 (natbd CC cv.bd))) (zm rfl (zn ?_))
    replace cw := cw.ch xD.ch
    replace cr := cr.ch xD.ch
    replace hB := hB.trans xD.fr
    exact hX6 _ H _ _ ⟨Mw, ⟨rfl, rfl, rfl, rfl, rfl, rfl, trivial⟩, hO, H1, cw, cr, cv, hB⟩
   replace H := ifn CC H
   refine zo (fun w => opB (J08 rfl rfl w) (decide_eq_false CC)) (zn (zq (zf rfl rfl ?_)))
   refine Go1.exit rfl ?_
   refine zq (zr (zs (J0j (vs := [.int .i64 d.Letters, .int .i64 0, .slice p97 n99 c98, .slice p91 n93 c92]) (i := 0) 1 hO rfl rfl Try.underlying25 rfl ti25 rfl) (zm rfl ?_)))
   have zz := J0b (us := [.int .i64 d.Letters, .int .i64 0, .slice p97 n99 c98, .slice p91 n93 c92]) (o := 0) (cs' := #[.int .i64 d.Letters, .int .i64 0, .slice p97 n99 c98, .slice p91 n93 c92]) 5 hO rfl rfl (Nat.le_of_ble_eq_true rfl) rfl
   obtain ⟨U7, wE, CD⟩ := zz
   dsimp only [sS, sZ] at wE
   refine zg (CD ti25 (by exact rfl) (by exact rfl) rfl) ?_
   replace hO := wE.own
   refine za rfl (zn ?_)
   replace cr := cr.ch wE.ch
   have zz := freeze 3 hO rfl cr
   obtain ⟨hO1, me, lG, Ei⟩ := zz
   dsimp only [eS, eZ] at hO1 me lG
   replace hB := (hB.trans wE.fr).trans (Owns.J09 _ _ 3)
   dsimp only [eS, eZ] at hB
   replace hO := hO1; clear hO1
   replace cw := (cw.ch wE.ch).ch me
   have zz := freeze 2 hO rfl cw
   obtain ⟨hO1, BW, BX, Mx⟩ := zz
   dsimp only [eS, eZ] at hO1 BW BX
   replace hB := hB.trans (Owns.J09 _ _ 2)
   dsimp only [eS, eZ] at hB
   replace hO := hO1; clear hO1
   have Z15 := (wE.ch.trans me).trans BW
   replace vn := vn.ch Z15
   have zz := freeze 0 hO rfl vn
   obtain ⟨hO1, BY, H2, My⟩ := zz
   dsimp only [eS, eZ] at hO1 BY H2
   replace hB := hB.trans (Owns.J09 _ _ 0)
   dsimp only [eS, eZ] at hB
   replace hO := hO1; clear hO1
   refine Go1.retC2 Try.func109 rfl rfl (J0f (vs := [.int .i64 d.Letters, .int .i64 0, .slice p97 n99 c98, .slice p91 n93 c92]) 2 hO rfl rfl Try.underlying25 rfl ti25) ?_
   replace BX := BX.ch BY
   replace lG := (lG.ch BW).ch BY
   exact ⟨(⟨d.Letters, (0 : Int), d_94, d_88⟩ : DFA), number6_330, p97, c98, p91, c92, sJ, d.Final.length, (congrArg (fun l => Value.tuple (List.toArray l)) (J0h (congrArg (fun l => Value.agg (List.toArray l)) (J0h rfl (J0h rfl (J0h (congrArg (fun nn => Value.slice p97 nn c98) Ei) (J0h (congrArg (fun nn => Value.slice p91 nn c92) Mx) rfl))))) (J0h (congrArg (fun nn => Value.slice sJ nn d.Final.length) My) rfl))), hB.same, (lG.ch (Ch.weak _ _ _)), (BX.ch (Ch.weak _ _ _)), (H2.ch (Ch.weak _ _ _)), H⟩
  replace H := H.2
  have zz := J0b (us := [.int .i64 d.Letters, .int .i64 0, .slice p97 n99 c98, .slice p91 n93 c92]) (o := 0) (cs' := #[.int .i64 d.Letters, .int .i64 0, .slice p97 n99 c98, .slice p91 n93 c92]) 6 hO rfl rfl (Nat.le_of_ble_eq_true rfl) rfl
  obtain ⟨U8, vN, CE⟩ := zz
  dsimp only [sS, sZ] at vN
  refine GoT.stepX rfl (CE ti25 (by exact rfl) (by exact rfl) rfl) rfl rfl rfl ?_
  replace hO := vN.own
  skip
  refine GoT.step rfl ((oblk (i := 0) 5 hO rfl rfl Try.underlying31 rfl rfl) _ (Same.refl _)) (Same.refl _) rfl rfl ?_
  refine GoT.pure rfl (J0i rfl) rfl rfl ?_
  refine GoT.pure rfl (J0i rfl) rfl rfl ?_
  refine GoT.nil ?_
  refine Go1.retC3V Try.func139 rfl rfl (J0f (vs := [.int .i64 d.Letters, .int .i64 0, .slice p97 n99 c98, .slice p91 n93 c92]) 6 hO rfl rfl Try.underlying25 rfl ti25) (show _ = .slice fQ fP fR from rfl) (show _ = .int .i64 0 from rfl) ?_
  refine hR20 _ _ ?_
  refine zm rfl (zo (J07 rfl rfl) (zo (J07 rfl rfl) (zo (J07 rfl rfl) ?_)))
  have zz := oalloc (t := 25) (cs := #[.int .i64 0, .int .i64 0, .slice none 0 0, .slice none 0 0]) ti25 hO rfl
  obtain ⟨IV, B359, eX, TS, IW⟩ := zz
  refine GoR.op IW rfl rfl ?_
  replace hO := eX.own
  have zz := J0b (us := [.int .i64 d.Letters, .int .i64 0, .slice p97 n99 c98, .slice p91 n93 c92]) (o := 0) (cs' := #[.int .i64 d.Letters, .int .i64 0, .slice p97 n99 c98, .slice p91 n93 c92]) 0 hO rfl rfl (Nat.le_of_ble_eq_true rfl) rfl
  obtain ⟨Q9, vO, CF⟩ := zz
  dsimp only [sS, sZ] at vO
  refine zg (CF ti25 (by exact rfl) (by exact rfl) rfl) ?_
  replace hO := vO.own
  refine za rfl (za rfl (zn (zq ?_)))
  refine Go1.cut [(1, .pointer (some ⟨B2, 0, none⟩)), (2, .pointer (some ⟨B8, 0, none⟩)), (4, .pointer (some ⟨B359, 0, none⟩)), (5, .slice fQ fP fR)] ⟨rfl, rfl, rfl, rfl, trivial⟩ ?_
  intro σ _
  refine zr (zo (J00 Try.underlying25 rfl ti22 rfl (by decide)) (zs (oblk (i := 2) 9 hO rfl rfl Try.underlying22 rfl rfl) (zo (J0d Try.underlying22 rfl) ?_)))
  have Z16 := ((wC.ch.trans vN.ch).trans eX.ch).trans vO.ch
  replace aa := aa.ch Z16
  replace H := H aa.bd
  obtain ⟨CG, H⟩ := H
  obtain ⟨xU, H⟩ := H
  have zz := omake (n := (d.Final.length : Int)) (r := Rp.int .i64) (d := (0 : Int)) Try.underlying31 ti3 (fun _ _ => rfl) rfl hO CG xU (by decide)
  obtain ⟨U9, sK, Mz, wF, nO, TT, CH⟩ := zz
  refine zg (CH rfl rfl) ?_
  replace hO := wF.own
  refine za rfl (zn (zq (zq (zr (zm rfl ?_)))))
  refine zo (J0y Try.underlying31 rfl (nO.neq hO 0 rfl)) (zm rfl (zn (zb ?_)))
  replace hO := hO.drop 4
  replace nO := nO.ch (Owns.J06 _ _ 4)
  replace aa := (aa.ch wF.ch).ch (Owns.J06 _ _ 4)
  have Z17 := (Z16.trans wF.ch).trans (Owns.J06 _ _ 4)
  replace cw := cw.ch Z17
  replace cr := cr.ch Z17
  replace cv := cv.ch Z17
  replace ai := ai.ch Z17
  replace hB := (((((hB.trans wC.fr).trans vN.fr).trans eX.fr).trans vO.fr).trans wF.fr).trans (Owns.J09 _ _ 4)
  dsimp only [eS, eZ] at hB hO aa ai nO cw cr cv
  replace hO := hO.drop 5
  replace aa := aa.ch (Owns.J06 _ _ 5)
  replace ai := ai.ch (Owns.J06 _ _ 5)
  replace nO := nO.ch (Owns.J06 _ _ 5)
  replace cw := cw.ch (Owns.J06 _ _ 5)
  replace cr := cr.ch (Owns.J06 _ _ 5)
  replace cv := cv.ch (Owns.J06 _ _ 5)
  replace hB := hB.trans (Owns.J09 _ _ 5)
  dsimp only [eS, eZ] at hB hO aa ai nO cw cr cv
  replace hO := hO.drop 5
  replace aa := aa.ch (Owns.J06 _ _ 5)
  replace ai := ai.ch (Owns.J06 _ _ 5)
  replace nO := nO.ch (Owns.J06 _ _ 5)
  replace cw := cw.ch (Owns.J06 _ _ 5)
  replace cr := cr.ch (Owns.J06 _ _ 5)
  replace cv := cv.ch (Owns.J06 _ _ 5)
  replace hB := hB.trans (Owns.J09 _ _ 5)
  dsimp only [eS, eZ] at hB hO aa ai nO cw cr cv
  replace hO := hO.drop 5
  replace aa := aa.ch (Owns.J06 _ _ 5)
  replace ai := ai.ch (Owns.J06 _ _ 5)
  replace nO := nO.ch (Owns.J06 _ _ 5)
  replace cw := cw.ch (Owns.J06 _ _ 5)
  replace cr := cr.ch (Owns.J06 _ _ 5)
  replace cv := cv.ch (Owns.J06 _ _ 5)
  replace hB := hB.trans (Owns.J09 _ _ 5)
  dsimp only [eS, eZ] at hB hO aa ai nO cw cr cv
  replace hO := hO.drop 6
  replace aa := aa.ch (Owns.J06 _ _ 6)
  replace ai := ai.ch (Owns.J06 _ _ 6)
  replace nO := nO.ch (Owns.J06 _ _ 6)
  replace cw := cw.ch (Owns.J06 _ _ 6)
  replace cr := cr.ch (Owns.J06 _ _ 6)
  replace cv := cv.ch (Owns.J06 _ _ 6)
  replace hB := hB.trans (Owns.J09 _ _ 6)
  dsimp only [eS, eZ] at hB hO aa ai nO cw cr cv
  refine Go1.loopW (S := Nat × List Int) (fun s σ w => match s with | (k7_378, number7_379) => ∃ (wk : List Value), agrees σ [(2, .pointer (some ⟨B8, 0, none⟩)), (4, .pointer (some ⟨B359, 0, none⟩)), (5, .slice fQ fP fR), (7, .slice sK d.Final.length d.Final.length), (31, .int .i64 ((List.replicate d.Final.length ((0 : Int))).length : Int)), (32, .int .i64 (k7_378 : Int))] ∧ (fun Z0 => Owns w0.heap.size w Z0 A ∧ Els (Rp.int .i64) (bl Z0 ++ A) w wk number7_379 ∧ Els (Rp.sl (Rp.int .i64)) (bl Z0 ++ A) w gy d_88 ∧ Els (Rp.bool) (bl Z0 ++ A) w gp d_94 ∧ Els (Rp.int .i64) (bl Z0 ++ A) w gi d_100 ∧ Fr (bl []) w0 (bl Z0) w) [.row 3 1 sK d.Final.length d.Final.length wk, .blk B359 (.cells #[.int .i64 d.Letters, .int .i64 0, .slice p97 n99 c98, .slice p91 n93 c92] 25 (0, 0)), .row 31 1 p91 n93 c92 gy, .row 4 1 p97 n99 c98 gp, .row 3 1 fQ fP fR gi, .blk B8 (.cells #[.int .i64 0, .int .i64 0, .slice none 0 0, .slice none 0 0] 25 (0, 0))]) H ⟨Mz, ⟨rfl, rfl, rfl, rfl, rfl, rfl, trivial⟩, hO, nO, cw, cr, cv, hB⟩ ?_
  intro X7
  refine prE fun k7_378 => fun number7_379 => ?_
  intro H hX7 σ Va
  refine exE fun wk => andE fun hag => andE fun hO => andE fun B1 => andE fun cw => andE fun cr => andE fun cv => fun hB => ?_
  dsimp only at H
  refine Go1.keep [(2, .pointer (some ⟨B8, 0, none⟩)), (4, .pointer (some ⟨B359, 0, none⟩)), (5, .slice fQ fP fR), (7, .slice sK d.Final.length d.Final.length), (31, .int .i64 ((List.replicate d.Final.length ((0 : Int))).length : Int)), (32, .int .i64 (k7_378 : Int))] hag ?_
  refine zq (zr ?_)
  by_cases Ej : (k7_378 : Int) < ((List.replicate d.Final.length ((0 : Int))).length : Int)
  ·replace H := ifp Ej H
   refine zo (fun w => opB (J08 rfl rfl w) (decide_eq_true Ej)) (zn (zq (zt rfl rfl (zk (zq ?_)))))
   refine zb (zq (zr (zm rfl (za rfl (zn ?_)))))
   refine zr (zm rfl (zm rfl ?_))
   obtain ⟨FT, H⟩ := H
   obtain ⟨FU, H⟩ := H
   refine zo (J02 Try.underlying31 ti3 rfl rfl FT (ltn (B1.neq hO 0 rfl) FU) (B1.psome hO 0 rfl FT FU)) ?_
   have zz := ost (r := Rp.int .i64) rfl 0 hO rfl B1 FT FU (v := .int .i64 (-1)) (u := (-1 : Int)) rfl rfl
   obtain ⟨Vb, MA, ki, H3, CJ⟩ := zz
   dsimp only [sS, sZ] at ki H3
   refine zg (CJ Try.underlying3 rfl ti3 (by exact rfl) (by exact rfl)) ?_
   replace hO := ki.own
   refine zn ?_
   refine Go1.inBlock ?_
   refine zr ?_
   obtain ⟨CK, H⟩ := H
   refine zo (J0c rfl rfl (wrap_i64 CK)) (zm rfl (zn ?_))
   replace cw := cw.ch ki.ch
   replace cr := cr.ch ki.ch
   replace cv := cv.ch ki.ch
   replace hB := hB.trans ki.fr
   exact hX7 _ H _ _ ⟨MA, ⟨rfl, rfl, rfl, rfl, rfl, rfl, trivial⟩, hO, H3, cw, cr, cv, hB⟩
  replace H := ifn Ej H
  refine zo (fun w => opB (J08 rfl rfl w) (decide_eq_false Ej)) (zn (zq (zf rfl rfl ?_)))
  refine Go1.exit rfl ?_
  refine zq (zq (zr (zm rfl (zo (J0y Try.underlying31 rfl (cv.neq hO 4 rfl)) (zm rfl ?_)))))
  refine zn (zb ?_)
  refine Go1.loopW (S := Nat × List Int) (fun s σ w => match s with | (k8_392, number8_393) => ∃ (xb : List Value), agrees σ [(2, .pointer (some ⟨B8, 0, none⟩)), (4, .pointer (some ⟨B359, 0, none⟩)), (7, .slice sK d.Final.length d.Final.length), (39, .slice fQ fP fR), (40, .int .i64 (d_100.length : Int)), (41, .int .i64 (k8_392 : Int))] ∧ (fun Z0 => Owns w0.heap.size w Z0 A ∧ Els (Rp.int .i64) (bl Z0 ++ A) w xb number8_393 ∧ Els (Rp.sl (Rp.int .i64)) (bl Z0 ++ A) w gy d_88 ∧ Els (Rp.bool) (bl Z0 ++ A) w gp d_94 ∧ Els (Rp.int .i64) (bl Z0 ++ A) w gi d_100 ∧ Fr (bl []) w0 (bl Z0) w) [.row 3 1 sK d.Final.length d.Final.length xb, .blk B359 (.cells #[.int .i64 d.Letters, .int .i64 0, .slice p97 n99 c98, .slice p91 n93 c92] 25 (0, 0)), .row 31 1 p91 n93 c92 gy, .row 4 1 p97 n99 c98 gp, .row 3 1 fQ fP fR gi, .blk B8 (.cells #[.int .i64 0, .int .i64 0, .slice none 0 0, .slice none 0 0] 25 (0, 0))]) H ⟨wk, ⟨rfl, rfl, rfl, rfl, rfl, rfl, trivial⟩, hO, B1, cw, cr, cv, hB⟩ ?_
  intro X8
  refine prE fun k8_392 => fun number8_393 => ?_
  intro H hX8 σ Vc
  refine exE fun xb => andE fun hag => andE fun hO => andE fun vo => andE fun cw => andE fun cr => andE fun cv => fun hB => ?_
  dsimp only at H
  refine Go1.keep [(2, .pointer (some ⟨B8, 0, none⟩)), (4, .pointer (some ⟨B359, 0, none⟩)), (7, .slice sK d.Final.length d.Final.length), (39, .slice fQ fP fR), (40, .int .i64 (d_100.length : Int)), (41, .int .i64 (k8_392 : Int))] hag ?_
  refine zq (zr ?_)
  by_cases CM : (k8_392 : Int) < (d_100.length : Int)
  ·replace H := ifp CM H
   refine zo (fun w => opB (J08 rfl rfl w) (decide_eq_true CM)) (zn (zq (zt rfl rfl (zk (zq ?_)))))
   refine zb (zq (zr (zm rfl ?_)))
   obtain ⟨FV, H⟩ := H
   obtain ⟨yp, H⟩ := H
   refine zo (J02 Try.underlying31 ti3 rfl rfl FV (ltn (cv.neq hO 4 rfl) yp) (cv.psome hO 4 rfl FV yp)) (zs (oldInt 4 hO rfl cv FV yp Try.underlying3 rfl rfl) (za rfl (za rfl (zn (zr ?_)))))
   refine zm rfl (zm rfl (zm rfl ?_))
   obtain ⟨yq, H⟩ := H
   obtain ⟨h400, H⟩ := H
   refine zo (J02 Try.underlying31 ti3 rfl rfl yq (ltn (vo.neq hO 0 rfl) h400) (vo.psome hO 0 rfl yq h400)) ?_
   have zz := ost (r := Rp.int .i64) rfl 0 hO rfl vo yq h400 (v := .int .i64 (k8_392 : Int)) (u := (k8_392 : Int)) rfl rfl
   obtain ⟨Ra, MB, xE, H4, IX⟩ := zz
   dsimp only [sS, sZ] at xE H4
   refine zg (IX Try.underlying3 rfl ti3 (by exact rfl) (by exact rfl)) ?_
   replace hO := xE.own
   refine zn ?_
   refine Go1.inBlock ?_
   refine zr ?_
   replace cv := cv.ch xE.ch
   refine zo (J0c rfl rfl (wrap_i64 (natbd CM cv.bd))) (zm rfl (zn ?_))
   replace cw := cw.ch xE.ch
   replace cr := cr.ch xE.ch
   replace hB := hB.trans xE.fr
   exact hX8 _ H _ _ ⟨MB, ⟨rfl, rfl, rfl, rfl, rfl, rfl, trivial⟩, hO, H4, cw, cr, cv, hB⟩
  replace H := ifn CM H
  refine zo (fun w => opB (J08 rfl rfl w) (decide_eq_false CM)) (zn (zq (zf rfl rfl ?_)))
  refine Go1.exit rfl ?_
  refine zq (zr (zs (J0j (vs := [.int .i64 d.Letters, .int .i64 0, .slice p97 n99 c98, .slice p91 n93 c92]) (i := 0) 1 hO rfl rfl Try.underlying25 rfl ti25 rfl) (zm rfl ?_)))
  have zz := J0b (us := [.int .i64 d.Letters, .int .i64 0, .slice p97 n99 c98, .slice p91 n93 c92]) (o := 0) (cs' := #[.int .i64 d.Letters, .int .i64 0, .slice p97 n99 c98, .slice p91 n93 c92]) 5 hO rfl rfl (Nat.le_of_ble_eq_true rfl) rfl
  obtain ⟨Vd, wG, IY⟩ := zz
  dsimp only [sS, sZ] at wG
  refine zg (IY ti25 (by exact rfl) (by exact rfl) rfl) ?_
  replace hO := wG.own
  refine za rfl (zn ?_)
  replace cr := cr.ch wG.ch
  have zz := freeze 3 hO rfl cr
  obtain ⟨hO1, B3, yS, MC⟩ := zz
  dsimp only [eS, eZ] at hO1 B3 yS
  replace hB := (hB.trans wG.fr).trans (Owns.J09 _ _ 3)
  dsimp only [eS, eZ] at hB
  replace hO := hO1; clear hO1
  replace cw := (cw.ch wG.ch).ch B3
  have zz := freeze 2 hO rfl cw
  obtain ⟨hO1, B5, B6, MD⟩ := zz
  dsimp only [eS, eZ] at hO1 B5 B6
  replace hB := hB.trans (Owns.J09 _ _ 2)
  dsimp only [eS, eZ] at hB
  replace hO := hO1; clear hO1
  have Z18 := (wG.ch.trans B3).trans B5
  replace vo := vo.ch Z18
  have zz := freeze 0 hO rfl vo
  obtain ⟨hO1, B7, H5, ME⟩ := zz
  dsimp only [eS, eZ] at hO1 B7 H5
  replace hB := hB.trans (Owns.J09 _ _ 0)
  dsimp only [eS, eZ] at hB
  replace hO := hO1; clear hO1
  refine Go1.retC2 Try.func109 rfl rfl (J0f (vs := [.int .i64 d.Letters, .int .i64 0, .slice p97 n99 c98, .slice p91 n93 c92]) 2 hO rfl rfl Try.underlying25 rfl ti25) ?_
  replace B6 := B6.ch B7
  replace yS := (yS.ch B5).ch B7
  exact ⟨(⟨d.Letters, (0 : Int), d_94, d_88⟩ : DFA), number8_393, p97, c98, p91, c92, sK, d.Final.length, (congrArg (fun l => Value.tuple (List.toArray l)) (J0h (congrArg (fun l => Value.agg (List.toArray l)) (J0h rfl (J0h rfl (J0h (congrArg (fun nn => Value.slice p97 nn c98) MC) (J0h (congrArg (fun nn => Value.slice p91 nn c92) MD) rfl))))) (J0h (congrArg (fun nn => Value.slice sK nn d.Final.length) ME) rfl))), hB.same, (yS.ch (Ch.weak _ _ _)), (B6.ch (Ch.weak _ _ _)), (H5.ch (Ch.weak _ _ _)), H⟩
 replace H := ifn h19 H
 refine zo (fun w => opB (J0g rfl rfl w) (ndF h19)) (zn (zt rfl rfl (zq (zr (zo (J0q Try.underlying25 ti25 (pl := [(0, 1), (1, 1), (2, 1), (3, 1)]) (vs := []) (cs := #[.int .i64 0, .int .i64 0, .slice none 0 0, .slice none 0 0]) (by kernel_rfl) rfl (by kernel_rfl)) ?_)))))
 have zz := J0b (us := [.int .i64 0, .int .i64 0, .slice none 0 0, .slice none 0 0]) (o := 0) (cs' := #[.int .i64 0, .int .i64 0, .slice none 0 0, .slice none 0 0]) 0 hO rfl rfl (Nat.le_of_ble_eq_true rfl) rfl
 obtain ⟨Ve, Au, I0⟩ := zz
 refine zg (I0 ti25 (by exact rfl) (by exact rfl) rfl) ?_
 replace hO := Au.own
 refine za rfl (zn ?_)
 refine Go1.retC2 Try.func109 rfl rfl (J0f (vs := [.int .i64 0, .int .i64 0, .slice none 0 0, .slice none 0 0]) 0 hO rfl rfl Try.underlying25 rfl ti25) ?_
 replace hB := (((hB.trans cB.fr).trans ja.fr).trans gG.fr).trans Au.fr
 exact ⟨(⟨(0 : Int), (0 : Int), ([] : List Bool), ([] : List (List Int))⟩ : DFA), ([] : List Int), none, 0, none, 0, none, 0, rfl, hB.same, (ISl.null _ _ _), (ISl.null _ _ _), (ISl.null _ _ _), H⟩
theorem body110 : Body Try.prog 110 := ⟨Try.f110, Try.func110, rfl, by kernel_rfl⟩
theorem walk_minimize_Classes {A : List Nat} {w0 : World} {bB : Option Addr} {bC : Nat} {bK : Option Addr} {bM : Nat} {a0 : DFA} (hA : ∀ b ∈ A, b < w0.heap.size) (aq : ISl (Rp.bool) A w0 bB bC a0.Final) (aw : ISl (Rp.sl (Rp.int .i64)) A w0 bK bM a0.Next) {K : List Int → Prop} (H : J0T a0 K) :
    CallsV Try.prog 110 #[.agg #[.int .i64 a0.Letters, .int .i64 a0.Start, .slice bB a0.Final.length bC, .slice bK a0.Next.length bM]] w0 (fun v w' => ∃ (r0 : List Int) (tV : Option Addr) (tW : Nat), v = .slice tV r0.length tW ∧ Same w0 w' ∧ ISl (Rp.int .i64) A w' tV tW r0 ∧ K r0) := by
 refine CallsV.of (l := [.agg #[.int .i64 a0.Letters, .int .i64 a0.Start, .slice bB a0.Final.length bC, .slice bK a0.Next.length bM]]) Try.func110 rfl Try.ntmps110 rfl ?_
 have hO := Owns.start hA
 have hB := Fr.refl (bl []) w0
 unfold J0T at H
 refine zq (zr ?_)
 have zz := obox (t := 25) (v := .agg #[.int .i64 a0.Letters, .int .i64 a0.Start, .slice bB a0.Final.length bC, .slice bK a0.Next.length bM]) (cs := #[.int .i64 a0.Letters, .int .i64 a0.Start, .slice bB a0.Final.length bC, .slice bK a0.Next.length bM]) hO rfl
 obtain ⟨w1, B2, cB, hs4, ic⟩ := zz
 refine zg (ic rfl) ?_
 replace hO := cB.own
 refine za rfl (zn (zq (zq (zr (zs (J0j (vs := [.int .i64 a0.Letters, .int .i64 a0.Start, .slice bB a0.Final.length bC, .slice bK a0.Next.length bM]) (i := 0) 0 hO rfl rfl Try.underlying25 rfl ti25 rfl) ?_)))))
 have Z1 := (Ch.start A w0).trans cB.ch
 replace aq := aq.ch Z1
 replace aw := aw.ch Z1
 refine GoR.call (J0a body61 rfl (J0P (d := a0) hO.lt aq aw H)) rfl rfl ?_
 rintro v11 w8 ⟨r7, rfl, hs9, H⟩
 have d8 := Stp.same hO hs9
 replace hO := d8.own
 by_cases h13 : r7 = (0 : Int)
 ·replace H := ifp h13 H
  refine zo (fun w => opB (J0g rfl rfl w) (ndT h13)) (zn (zf rfl rfl (zk (zq (zr ?_)))))
  refine zo (J00 Try.underlying25 rfl ti22 rfl (by decide)) (zs (oblk (i := 2) 0 hO rfl rfl Try.underlying22 rfl rfl) (zo (J0d Try.underlying22 rfl) ?_))
  replace aq := aq.ch d8.ch
  replace H := H aq.bd
  obtain ⟨h21, H⟩ := H
  obtain ⟨h22, H⟩ := H
  have zz := omake (n := (a0.Final.length : Int)) (r := Rp.int .i64) (d := (0 : Int)) Try.underlying31 ti3 (fun _ _ => rfl) rfl hO h21 h22 (by decide)
  obtain ⟨w14, p15, xV, nP, dC, Rb, xN⟩ := zz
  refine zg (xN rfl rfl) ?_
  replace hO := nP.own
  refine za rfl (za rfl (zn (zq (zq (zr ?_)))))
  refine zo (J00 Try.underlying25 rfl ti22 rfl (by decide)) (zs (oblk (i := 2) 1 hO rfl rfl Try.underlying22 rfl rfl) (zo (J0d Try.underlying22 rfl) (zm rfl (zn (zb ?_)))))
  replace aq := aq.ch nP.ch
  replace aw := (aw.ch d8.ch).ch nP.ch
  replace hB := ((hB.trans cB.fr).trans d8.fr).trans nP.fr
  refine Go1.loopW (S := Int × Nat × List Int) (fun s σ w => match s with | (k1_25, k1_26, d_27) => ∃ (xW : List Value), agrees σ [(1, .pointer (some ⟨B2, 0, none⟩)), (3, .slice p15 a0.Final.length a0.Final.length), (4, .int .i64 k1_25), (24, .slice bB a0.Final.length bC), (25, .int .i64 (a0.Final.length : Int)), (26, .int .i64 (k1_26 : Int))] ∧ (fun Z0 => Owns w0.heap.size w Z0 A ∧ Els (Rp.int .i64) (bl Z0 ++ A) w xW d_27 ∧ ISl (Rp.bool) (bl Z0 ++ A) w bB bC a0.Final ∧ ISl (Rp.sl (Rp.int .i64)) (bl Z0 ++ A) w bK bM a0.Next ∧ Fr (bl []) w0 (bl Z0) w) [.row 3 1 p15 a0.Final.length a0.Final.length xW, .blk B2 (.cells #[.int .i64 a0.Letters, .int .i64 a0.Start, .slice bB a0.Final.length bC, .slice bK a0.Next.length bM] 25 (0, 0))]) H ⟨xV, ⟨rfl, rfl, rfl, rfl, rfl, rfl, trivial⟩, hO, dC, aq, aw, hB⟩ ?_
  intro X1
  refine prE fun k1_25 => prE fun k1_26 => fun d_27 => ?_
  intro H hX1 σ w24
  refine exE fun xW => andE fun hag => andE fun hO => andE fun wH => andE fun aq => andE fun aw => fun hB => ?_
  dsimp only at H
  refine Go1.keep [(1, .pointer (some ⟨B2, 0, none⟩)), (3, .slice p15 a0.Final.length a0.Final.length), (4, .int .i64 k1_25), (24, .slice bB a0.Final.length bC), (25, .int .i64 (a0.Final.length : Int)), (26, .int .i64 (k1_26 : Int))] hag ?_
  refine zq (zr ?_)
  by_cases h30 : (k1_26 : Int) < (a0.Final.length : Int)
  ·replace H := ifp h30 H
   refine zo (fun w => opB (J08 rfl rfl w) (decide_eq_true h30)) (zn (zq (zt rfl rfl (zk (zq ?_)))))
   refine zb (zq (zr (zm rfl ?_)))
   obtain ⟨h31, H⟩ := H
   obtain ⟨h32, H⟩ := H
   refine zo (J02 Try.underlying22 ti4 rfl rfl h31 h32 (aq.some_ h31 h32)) ?_
   by_cases h33 : ix a0.Final (k1_26 : Int) = true
   ·replace H := ifp h33 H
    refine zg (opB ((ldBool aq h31 h32 Try.underlying4 rfl rfl) _ (Same.refl _)) (h33)) (za rfl (za rfl (zn (zq (zr ?_)))))
    refine zm rfl (zo (J00 Try.underlying25 rfl ti22 rfl (by decide)) (zs (oblk (i := 2) 1 hO rfl rfl Try.underlying22 rfl rfl) ?_))
    obtain ⟨h34, H⟩ := H
    obtain ⟨h35, H⟩ := H
    refine zo (J02 Try.underlying22 ti4 rfl rfl h34 h35 (aq.some_ h34 h35)) ?_
    by_cases h36 : ix a0.Final (0 : Int) = true
    ·replace H := ifp h36 H
     refine zg (opB ((ldBool aq h34 h35 Try.underlying4 rfl rfl) _ (Same.refl _)) (h36)) (zo (op_neqB Try.underlying4 rfl rfl) (zn (zf rfl rfl (zk ?_))))
     refine Go1.inBlock ?_
     refine zr (zo (J0c rfl rfl (wrap_i64 (natbd h30 aq.bd))) (zm rfl (zn ?_)))
     exact hX1 _ H _ _ ⟨xW, ⟨rfl, rfl, rfl, rfl, rfl, rfl, trivial⟩, hO, wH, aq, aw, hB⟩
    replace H := ifn h36 H
    refine zg (opB ((ldBool aq h34 h35 Try.underlying4 rfl rfl) _ (Same.refl _)) (Bool.eq_false_iff.2 h36)) (zo (op_neqB Try.underlying4 rfl rfl) (zn (zt rfl rfl (zr (zm rfl ?_)))))
    refine zm rfl ?_
    obtain ⟨h37, H⟩ := H
    obtain ⟨h38, H⟩ := H
    refine zo (J02 Try.underlying31 ti3 rfl rfl h37 (ltn (wH.neq hO 0 rfl) h38) (wH.psome hO 0 rfl h37 h38)) ?_
    have zz := ost (r := Rp.int .i64) rfl 0 hO rfl wH h37 h38 (v := .int .i64 1) (u := (1 : Int)) rfl rfl
    obtain ⟨w39, Rc, ma, bQ, xX⟩ := zz
    refine zg (xX Try.underlying3 rfl ti3 (by exact rfl) (by exact rfl)) ?_
    replace hO := ma.own
    refine za rfl (zn ?_)
    refine Go1.inBlock ?_
    refine Go1.cut [(1, .pointer (some ⟨B2, 0, none⟩)), (3, .slice p15 a0.Final.length a0.Final.length), (4, .int .i64 2), (24, .slice bB a0.Final.length bC), (25, .int .i64 (a0.Final.length : Int)), (26, .int .i64 (k1_26 : Int))] ⟨rfl, rfl, rfl, rfl, rfl, rfl, trivial⟩ ?_
    intro σ _
    refine zr ?_
    replace aq := aq.ch ma.ch
    refine zo (J0c rfl rfl (wrap_i64 (natbd h30 aq.bd))) (zm rfl (zn ?_))
    replace aw := aw.ch ma.ch
    replace hB := hB.trans ma.fr
    exact hX1 _ H _ _ ⟨Rc, ⟨rfl, rfl, rfl, rfl, rfl, rfl, trivial⟩, hO, bQ, aq, aw, hB⟩
   replace H := ifn h33 H
   refine zg (opB ((ldBool aq h31 h32 Try.underlying4 rfl rfl) _ (Same.refl _)) (Bool.eq_false_iff.2 h33)) (za rfl (za rfl (zn (zq (zr ?_)))))
   refine zm rfl (zo (J00 Try.underlying25 rfl ti22 rfl (by decide)) (zs (oblk (i := 2) 1 hO rfl rfl Try.underlying22 rfl rfl) ?_))
   obtain ⟨h44, H⟩ := H
   obtain ⟨h45, H⟩ := H
   refine zo (J02 Try.underlying22 ti4 rfl rfl h44 h45 (aq.some_ h44 h45)) ?_
   by_cases h46 : ix a0.Final (0 : Int) = true
   ·replace H := ifp h46 H
    refine zg (opB ((ldBool aq h44 h45 Try.underlying4 rfl rfl) _ (Same.refl _)) (h46)) (zo (op_neqB Try.underlying4 rfl rfl) (zn (zt rfl rfl (zr (zm rfl ?_)))))
    refine zm rfl ?_
    obtain ⟨h47, H⟩ := H
    obtain ⟨h48, H⟩ := H
    refine zo (J02 Try.underlying31 ti3 rfl rfl h47 (ltn (wH.neq hO 0 rfl) h48) (wH.psome hO 0 rfl h47 h48)) ?_
    have zz := ost (r := Rp.int .i64) rfl 0 hO rfl wH h47 h48 (v := .int .i64 1) (u := (1 : Int)) rfl rfl
    obtain ⟨w49, pK, vp, Rd, D7⟩ := zz
    refine zg (D7 Try.underlying3 rfl ti3 (by exact rfl) (by exact rfl)) ?_
    replace hO := vp.own
    refine za rfl (zn ?_)
    refine Go1.inBlock ?_
    refine zr ?_
    replace aq := aq.ch vp.ch
    refine zo (J0c rfl rfl (wrap_i64 (natbd h30 aq.bd))) (zm rfl (zn ?_))
    replace aw := aw.ch vp.ch
    replace hB := hB.trans vp.fr
    exact hX1 _ H _ _ ⟨pK, ⟨rfl, rfl, rfl, rfl, rfl, rfl, trivial⟩, hO, Rd, aq, aw, hB⟩
   replace H := ifn h46 H
   refine zg (opB ((ldBool aq h44 h45 Try.underlying4 rfl rfl) _ (Same.refl _)) (Bool.eq_false_iff.2 h46)) (zo (op_neqB Try.underlying4 rfl rfl) (zn (zf rfl rfl (zk ?_))))
   refine Go1.inBlock ?_
   refine zr (zo (J0c rfl rfl (wrap_i64 (natbd h30 aq.bd))) (zm rfl (zn ?_)))
   exact hX1 _ H _ _ ⟨xW, ⟨rfl, rfl, rfl, rfl, rfl, rfl, trivial⟩, hO, wH, aq, aw, hB⟩
  replace H := ifn h30 H
  refine zo (fun w => opB (J08 rfl rfl w) (decide_eq_false h30)) (zn (zq (zf rfl rfl ?_)))
  refine Go1.exit rfl ?_
  refine zb ?_
  have zz := freeze 0 hO rfl wH
  obtain ⟨hO1, zP, Cr, Fs⟩ := zz
  replace hO := hO1; clear hO1
  replace aq := aq.ch zP
  replace aw := aw.ch zP
  replace hB := hB.trans (Owns.J09 _ _ 0)
  refine Go1.loopW (S := List Int × Int) (fun s σ w => match s with | (l2_58, k2_62) => ∃ (p59 : Option Addr) (c60 : Nat), agrees σ [(1, .pointer (some ⟨B2, 0, none⟩)), (3, .slice p59 l2_58.length c60), (4, .int .i64 k2_62)] ∧ (fun Z0 => Owns w0.heap.size w Z0 A ∧ ISl (Rp.bool) (bl Z0 ++ A) w bB bC a0.Final ∧ ISl (Rp.sl (Rp.int .i64)) (bl Z0 ++ A) w bK bM a0.Next ∧ ISl (Rp.int .i64) (bl Z0 ++ A) w p59 c60 l2_58 ∧ Fr (bl []) w0 (bl Z0) w) [.blk B2 (.cells #[.int .i64 a0.Letters, .int .i64 a0.Start, .slice bB a0.Final.length bC, .slice bK a0.Next.length bM] 25 (0, 0))]) H ⟨p15, a0.Final.length, ⟨rfl, (congrArg (fun nn => Value.slice p15 nn a0.Final.length) Fs), rfl, trivial⟩, hO, aq, aw, Cr, hB⟩ ?_
  intro X2
  refine prE fun l2_58 => fun k2_62 => ?_
  intro H hX2 σ w57
  refine exE fun p59 => exE fun c60 => andE fun hag => andE fun hO => andE fun aq => andE fun aw => andE fun iJ => fun hB => ?_
  dsimp only at H
  refine Go1.keep [(1, .pointer (some ⟨B2, 0, none⟩)), (3, .slice p59 l2_58.length c60), (4, .int .i64 k2_62)] hag ?_
  refine zb (zq (zr ?_))
  have zz := omakeMap (fun a : AN 7 => Value.agg (icells .i64 a.1).toArray) (fun a : Int => Value.int .i64 a) hO
  obtain ⟨w63, B64, Aw, ie, MF⟩ := zz
  refine GoR.op MF rfl rfl ?_
  replace hO := Aw.own
  refine za rfl (zn (zq (zr (zm rfl (zo (J0d Try.underlying31 rfl) ?_)))))
  replace iJ := iJ.ch Aw.ch
  replace H := H iJ.bd
  obtain ⟨h76, H⟩ := H
  obtain ⟨h77, H⟩ := H
  have zz := omake (n := (l2_58.length : Int)) (r := Rp.int .i64) (d := (0 : Int)) Try.underlying31 ti3 (fun _ _ => rfl) rfl hO h76 h77 (by decide)
  obtain ⟨w69, p70, Re, Ax, Rf, Fw, Eb⟩ := zz
  refine zg (Eb rfl rfl) ?_
  replace hO := Ax.own
  refine za rfl (zn (zq (zq (zr (zo (J00 Try.underlying25 rfl ti23 rfl (by decide)) ?_)))))
  refine zs (oblk (i := 3) 2 hO rfl rfl Try.underlying23 rfl rfl) (zo (J0d Try.underlying23 rfl) ?_)
  replace aw := (aw.ch Aw.ch).ch Ax.ch
  replace H := H aw.bd
  refine zm rfl (zn (zb ?_))
  replace iJ := iJ.ch Ax.ch
  replace aq := (aq.ch Aw.ch).ch Ax.ch
  replace hB := (hB.trans Aw.fr).trans Ax.fr
  refine Go1.loopW (S := Nat × List Int × (List (AN 7 × Int))) (fun s σ w => match s with | (k3_80, d_81, m3_84) => ∃ (tY : List Value), agrees σ [(1, .pointer (some ⟨B2, 0, none⟩)), (3, .slice p59 l2_58.length c60), (4, .int .i64 k2_62), (7, .map (some B64)), (8, .slice p70 l2_58.length l2_58.length), (46, .slice bK a0.Next.length bM), (47, .int .i64 (a0.Next.length : Int)), (48, .int .i64 (k3_80 : Int))] ∧ (fun Z0 => Owns w0.heap.size w Z0 A ∧ Els (Rp.int .i64) (bl Z0 ++ A) w tY d_81 ∧ ISl (Rp.bool) (bl Z0 ++ A) w bB bC a0.Final ∧ ISl (Rp.sl (Rp.int .i64)) (bl Z0 ++ A) w bK bM a0.Next ∧ ISl (Rp.int .i64) (bl Z0 ++ A) w p59 c60 l2_58 ∧ Fr (bl []) w0 (bl Z0) w) [.row 3 1 p70 l2_58.length l2_58.length tY, .any (mapE (fun a : AN 7 => Value.agg (icells .i64 a.1).toArray) (fun a : Int => Value.int .i64 a) B64 m3_84), .blk B2 (.cells #[.int .i64 a0.Letters, .int .i64 a0.Start, .slice bB a0.Final.length bC, .slice bK a0.Next.length bM] 25 (0, 0))]) H ⟨Re, ⟨rfl, rfl, rfl, rfl, rfl, rfl, rfl, rfl, trivial⟩, hO, Rf, aq, aw, iJ, hB⟩ ?_
  intro X3
  refine prE fun k3_80 => prE fun d_81 => fun m3_84 => ?_
  intro H hX3 σ w79
  refine exE fun tY => andE fun hag => andE fun hO => andE fun qK => andE fun aq => andE fun aw => andE fun iJ => fun hB => ?_
  dsimp only at H
  refine Go1.keep [(1, .pointer (some ⟨B2, 0, none⟩)), (3, .slice p59 l2_58.length c60), (4, .int .i64 k2_62), (7, .map (some B64)), (8, .slice p70 l2_58.length l2_58.length), (46, .slice bK a0.Next.length bM), (47, .int .i64 (a0.Next.length : Int)), (48, .int .i64 (k3_80 : Int))] hag ?_
  refine zq (zr ?_)
  by_cases h85 : (k3_80 : Int) < (a0.Next.length : Int)
  ·replace H := ifp h85 H
   refine zo (fun w => opB (J08 rfl rfl w) (decide_eq_true h85)) (zn (zq (zt rfl rfl (zk (zq ?_)))))
   refine zb (zq (zr (zm rfl ?_)))
   obtain ⟨h86, H⟩ := H
   obtain ⟨h87, H⟩ := H
   refine zo (J02 Try.underlying23 ti31 rfl rfl h86 h87 (aw.some_ h86 h87)) ?_
   have zz := ldSl aw h86 h87
   obtain ⟨p88, c89, m6, Rg⟩ := zz
   refine zs (Rg Try.underlying31 rfl rfl) (za rfl (za rfl (zn (zq (zr ?_)))))
   refine zm rfl (zm rfl ?_)
   obtain ⟨h92, H⟩ := H
   obtain ⟨h93, H⟩ := H
   refine zo (J02 Try.underlying31 ti3 rfl rfl h92 h93 (iJ.some_ h92 h93)) (zs (ldInt iJ h92 h93 Try.underlying3 rfl rfl) (zo (op_buildArr Try.underlying166 ti166 ti3 (vs := [(0, .int .i64 (ix l2_58 (k3_80 : Int)))]) (cs := #[.int .i64 (ix l2_58 (k3_80 : Int)), .int .i64 0, .int .i64 0, .int .i64 0, .int .i64 0, .int .i64 0, .int .i64 0]) rfl (by kernel_rfl)) ?_))
   have zz := oalloc (t := 166) (cs := (icells .i64 (([(0 : Int), (0 : Int), (0 : Int), (0 : Int), (0 : Int), (0 : Int), (0 : Int)] : List Int))).toArray) ti166 hO rfl
   obtain ⟨w94, B95, xY, Vf, MG⟩ := zz
   refine GoR.op MG rfl rfl ?_
   replace hO := xY.own
   obtain ⟨zU, H⟩ := H
   have zz := oarrStA (M := [(ix l2_58 (k3_80 : Int)), (0 : Int), (0 : Int), (0 : Int), (0 : Int), (0 : Int), (0 : Int)]) 0 hO rfl (by rw [zU]; rfl)
   obtain ⟨Rh, gR, I1⟩ := zz
   refine zg (I1 ti166 (by exact rfl) (by exact rfl)) ?_
   replace hO := gR.own
   refine zn (zq (zq (zr (zm rfl (zo (J0d Try.underlying31 rfl) ?_)))))
   replace m6 := (m6.ch xY.ch).ch gR.ch
   replace H := H m6.bd
   refine zm rfl (zn (zb ?_))
   have Z2 := xY.ch.trans gR.ch
   replace qK := qK.ch Z2
   replace aq := aq.ch Z2
   replace aw := aw.ch Z2
   replace iJ := iJ.ch Z2
   replace hB := (hB.trans xY.fr).trans gR.fr
   refine Go1.loopW (S := Nat × List Int) (fun s σ w => match s with | (k4_105, y4_106) => agrees σ [(1, .pointer (some ⟨B2, 0, none⟩)), (3, .slice p59 l2_58.length c60), (4, .int .i64 k2_62), (7, .map (some B64)), (8, .slice p70 l2_58.length l2_58.length), (9, .int .i64 (k3_80 : Int)), (11, .pointer (some ⟨B95, 0, none⟩)), (46, .slice bK a0.Next.length bM), (47, .int .i64 (a0.Next.length : Int)), (48, .int .i64 (k3_80 : Int)), (58, .slice p88 ((ix a0.Next (k3_80 : Int)).length) c89), (59, .int .i64 ((ix a0.Next (k3_80 : Int)).length : Int)), (60, .int .i64 (k4_105 : Int))] ∧ (fun Z0 => Owns w0.heap.size w Z0 A ∧ Els (Rp.int .i64) (bl Z0 ++ A) w tY d_81 ∧ ISl (Rp.bool) (bl Z0 ++ A) w bB bC a0.Final ∧ ISl (Rp.sl (Rp.int .i64)) (bl Z0 ++ A) w bK bM a0.Next ∧ ISl (Rp.int .i64) (bl Z0 ++ A) w p59 c60 l2_58 ∧ ISl (Rp.int .i64) (bl Z0 ++ A) w p88 c89 (ix a0.Next (k3_80 : Int)) ∧ Fr (bl []) w0 (bl Z0) w) [.blk B95 (.cells (icells .i64 y4_106).toArray 166 (0, 0)), .row 3 1 p70 l2_58.length l2_58.length tY, .any (mapE (fun a : AN 7 => Value.agg (icells .i64 a.1).toArray) (fun a : Int => Value.int .i64 a) B64 m3_84), .blk B2 (.cells #[.int .i64 a0.Letters, .int .i64 a0.Start, .slice bB a0.Final.length bC, .slice bK a0.Next.length bM] 25 (0, 0))]) H ⟨⟨rfl, rfl, rfl, rfl, rfl, rfl, rfl, rfl, rfl, rfl, rfl, rfl, rfl, trivial⟩, hO, qK, aq, aw, iJ, m6, hB⟩ ?_
   intro X4
   refine prE fun k4_105 => fun y4_106 => ?_
   intro H hX4 σ Vg
   refine andE fun hag => andE fun hO => andE fun qK => andE fun aq => andE fun aw => andE fun iJ => andE fun m6 => fun hB => ?_
   dsimp only at H
   refine Go1.keep [(1, .pointer (some ⟨B2, 0, none⟩)), (3, .slice p59 l2_58.length c60), (4, .int .i64 k2_62), (7, .map (some B64)), (8, .slice p70 l2_58.length l2_58.length), (9, .int .i64 (k3_80 : Int)), (11, .pointer (some ⟨B95, 0, none⟩)), (46, .slice bK a0.Next.length bM), (47, .int .i64 (a0.Next.length : Int)), (48, .int .i64 (k3_80 : Int)), (58, .slice p88 ((ix a0.Next (k3_80 : Int)).length) c89), (59, .int .i64 ((ix a0.Next (k3_80 : Int)).length : Int)), (60, .int .i64 (k4_105 : Int))] hag ?_
   refine zq (zr ?_)
   by_cases nM : (k4_105 : Int) < ((ix a0.Next (k3_80 : Int)).length : Int)
   ·replace H := ifp nM H
    refine zo (fun w => opB (J08 rfl rfl w) (decide_eq_true nM)) (zn (zq (zt rfl rfl (zk (zq ?_)))))
    refine zb (zq (zr (zm rfl ?_)))
    obtain ⟨qJ, H⟩ := H
    obtain ⟨we, H⟩ := H
    refine zo (J02 Try.underlying31 ti3 rfl rfl qJ we (m6.some_ qJ we)) (zs (ldInt m6 qJ we Try.underlying3 rfl rfl) (za rfl (za rfl (zn (zr ?_)))))
    refine zm rfl ?_
    obtain ⟨CO, H⟩ := H
    refine zo (J0c rfl rfl (wrap_i64 CO)) (zm rfl (zm rfl ?_))
    obtain ⟨zV, H⟩ := H
    obtain ⟨yr, H⟩ := H
    refine zo (J02 Try.underlying31 ti3 rfl rfl zV yr (iJ.some_ zV yr)) (zs (ldInt iJ zV yr Try.underlying3 rfl rfl) ?_)
    obtain ⟨Ri, H⟩ := H
    obtain ⟨I2, H⟩ := H
    obtain ⟨I3, H⟩ := H
    refine zo (op_indexArr (n := 7) Try.underlying166 ti3 rfl rfl I2 I3) ?_
    have zz := oarrSt (v := (ix l2_58 (ix (ix a0.Next (k3_80 : Int)) (k4_105 : Int)))) 0 hO rfl I2 (arrLt Ri I3)
    obtain ⟨Vh, wI, I4⟩ := zz
    refine zg (I4 Try.underlying3 rfl ti3 (by exact rfl) (by exact rfl)) ?_
    replace hO := wI.own
    refine zn ?_
    refine Go1.inBlock ?_
    refine zr ?_
    replace m6 := m6.ch wI.ch
    refine zo (J0c rfl rfl (wrap_i64 (natbd nM m6.bd))) (zm rfl (zn ?_))
    replace qK := qK.ch wI.ch
    replace aq := aq.ch wI.ch
    replace aw := aw.ch wI.ch
    replace iJ := iJ.ch wI.ch
    replace hB := hB.trans wI.fr
    exact hX4 _ H _ _ ⟨⟨rfl, rfl, rfl, rfl, rfl, rfl, rfl, rfl, rfl, rfl, rfl, rfl, rfl, trivial⟩, hO, qK, aq, aw, iJ, m6, hB⟩
   replace H := ifn nM H
   refine zo (fun w => opB (J08 rfl rfl w) (decide_eq_false nM)) (zn (zq (zf rfl rfl ?_)))
   refine Go1.exit rfl ?_
   refine zq (zr (zm rfl ?_))
   obtain ⟨Rj, H⟩ := H
   refine zs (oarrLd 0 hO rfl Rj Try.underlying166 rfl ti166 rfl) ?_
   by_cases Ek : mhas m3_84 ((toAN 7 y4_106)) = true
   ·replace H := ifp Ek H
    refine zs (olookT (a := (toAN 7 y4_106)) (MK.arrN Try.underlying166 Try.underlying3 ti3) 2 hO rfl Try.underlying164 rfl rfl Ek) (zm rfl (zo (J07 rfl rfl) (zo (J07 rfl rfl) (za rfl (za rfl ?_)))))
    refine zn (zq (zq ?_))
    refine Go1.cut [(1, .pointer (some ⟨B2, 0, none⟩)), (3, .slice p59 l2_58.length c60), (4, .int .i64 k2_62), (7, .map (some B64)), (8, .slice p70 l2_58.length l2_58.length), (9, .int .i64 (k3_80 : Int)), (11, .pointer (some ⟨B95, 0, none⟩)), (14, .int .i64 (mgt m3_84 ((toAN 7 y4_106)))), (15, .bool true), (46, .slice bK a0.Next.length bM), (47, .int .i64 (a0.Next.length : Int)), (48, .int .i64 (k3_80 : Int))] ⟨rfl, rfl, rfl, rfl, rfl, rfl, rfl, rfl, rfl, rfl, rfl, rfl, trivial⟩ ?_
    intro σ _
    refine zr (zm rfl (zo (J0l rfl) (zn (zf rfl rfl (zk ?_)))))
    refine zr (zm rfl (zm rfl (zm rfl ?_)))
    obtain ⟨FW, H⟩ := H
    obtain ⟨FX, H⟩ := H
    refine zo (J02 Try.underlying31 ti3 rfl rfl FW (ltn (qK.neq hO 1 rfl) FX) (qK.psome hO 1 rfl FW FX)) ?_
    have zz := ost (r := Rp.int .i64) rfl 1 hO rfl qK FW FX (v := .int .i64 (mgt m3_84 ((toAN 7 y4_106)))) (u := (mgt m3_84 ((toAN 7 y4_106)))) rfl rfl
    obtain ⟨Vi, nQ, xF, x4, CP⟩ := zz
    refine zg (CP Try.underlying3 rfl ti3 (by exact rfl) (by exact rfl)) ?_
    replace hO := xF.own
    refine zn ?_
    refine Go1.inBlock ?_
    refine zr ?_
    replace aw := aw.ch xF.ch
    refine zo (J0c rfl rfl (wrap_i64 (natbd h85 aw.bd))) (zm rfl (zn ?_))
    replace hO := hO.drop 0
    replace aw := aw.ch (Owns.J06 _ _ 0)
    replace x4 := x4.ch (Owns.J06 _ _ 0)
    have Z3 := xF.ch.trans (Owns.J06 _ _ 0)
    replace aq := aq.ch Z3
    replace iJ := iJ.ch Z3
    replace hB := (hB.trans xF.fr).trans (Owns.J09 _ _ 0)
    exact hX3 _ H _ _ ⟨nQ, ⟨rfl, rfl, rfl, rfl, rfl, rfl, rfl, rfl, trivial⟩, hO, x4, aq, aw, iJ, hB⟩
   replace H := ifn Ek H
   refine zs (olookF (a := (toAN 7 y4_106)) (MK.arrN Try.underlying166 Try.underlying3 ti3) 2 hO rfl Try.underlying164 ti3 rfl rfl Ek) (zm rfl (zo (J07 rfl rfl) (zo (J07 rfl rfl) (za rfl (za rfl ?_)))))
   refine zn (zq (zq (zr (zm rfl (zo (J0l rfl) ?_)))))
   refine zn (zt rfl rfl (zq (zr (zm rfl (zs (omapLen 2 hO rfl Try.underlying164 rfl) ?_)))))
   refine za rfl (zn ?_)
   refine Go1.cut [(1, .pointer (some ⟨B2, 0, none⟩)), (3, .slice p59 l2_58.length c60), (4, .int .i64 k2_62), (7, .map (some B64)), (8, .slice p70 l2_58.length l2_58.length), (9, .int .i64 (k3_80 : Int)), (11, .pointer (some ⟨B95, 0, none⟩)), (14, .int .i64 (m3_84.length : Int)), (46, .slice bK a0.Next.length bM), (47, .int .i64 (a0.Next.length : Int)), (48, .int .i64 (k3_80 : Int))] ⟨rfl, rfl, rfl, rfl, rfl, rfl, rfl, rfl, rfl, rfl, rfl, trivial⟩ ?_
   intro σ _
   refine zr (zm rfl ?_)
   obtain ⟨Rk, H⟩ := H
   refine zs (oarrLd 0 hO rfl Rk Try.underlying166 rfl ti166 rfl) (zm rfl ?_)
   have zz := omapUpd (MK.arrN Try.underlying166 Try.underlying3 ti3) 2 hO rfl Try.underlying164 (toAN 7 y4_106) (m3_84.length : Int)
   obtain ⟨CQ, wJ, I5⟩ := zz
   refine zg (I5 (by exact rfl) (by exact rfl) (by exact rfl)) ?_
   replace hO := wJ.own
   refine zn (zr (zm rfl (zm rfl (zm rfl ?_))))
   obtain ⟨yl, H⟩ := H
   obtain ⟨FY, H⟩ := H
   replace qK := qK.ch wJ.ch
   refine zo (J02 Try.underlying31 ti3 rfl rfl yl (ltn (qK.neq hO 1 rfl) FY) (qK.psome hO 1 rfl yl FY)) ?_
   have zz := ost (r := Rp.int .i64) rfl 1 hO rfl qK yl FY (v := .int .i64 (m3_84.length : Int)) (u := (m3_84.length : Int)) rfl rfl
   obtain ⟨Vj, MH, xG, c8, I6⟩ := zz
   refine zg (I6 Try.underlying3 rfl ti3 (by exact rfl) (by exact rfl)) ?_
   replace hO := xG.own
   refine zn ?_
   refine Go1.inBlock ?_
   refine zr ?_
   replace aw := (aw.ch wJ.ch).ch xG.ch
   refine zo (J0c rfl rfl (wrap_i64 (natbd h85 aw.bd))) (zm rfl (zn ?_))
   replace hO := hO.drop 0
   replace aw := aw.ch (Owns.J06 _ _ 0)
   replace c8 := c8.ch (Owns.J06 _ _ 0)
   have Z4 := (wJ.ch.trans xG.ch).trans (Owns.J06 _ _ 0)
   replace aq := aq.ch Z4
   replace iJ := iJ.ch Z4
   replace hB := ((hB.trans wJ.fr).trans xG.fr).trans (Owns.J09 _ _ 0)
   exact hX3 _ H _ _ ⟨MH, ⟨rfl, rfl, rfl, rfl, rfl, rfl, rfl, rfl, trivial⟩, hO, c8, aq, aw, iJ, hB⟩
  replace H := ifn h85 H
  refine zo (fun w => opB (J08 rfl rfl w) (decide_eq_false h85)) (zn (zq (zf rfl rfl ?_)))
  refine Go1.exit rfl ?_
  refine zq (zq (zr (zm rfl (zs (omapLen 1 hO rfl Try.underlying164 rfl) (zm rfl ?_)))))
  by_cases yt : (m3_84.length : Int) = k2_62
  ·replace H := ifp yt H
   refine zo (fun w => opB (J0w rfl rfl w) (decide_eq_true yt)) (zn (zt rfl rfl (zq (zr (zm rfl ?_)))))
   refine za rfl (zn ?_)
   have zz := freeze 0 hO rfl qK
   obtain ⟨hO1, El, MJ, ML⟩ := zz
   replace hO := hO1; clear hO1
   refine Go1.ret1 Try.func110 rfl ?_
   replace hB := hB.trans (Owns.J09 _ _ 0)
   exact ⟨d_81, p70, l2_58.length, (congrArg (fun nn => Value.slice p70 nn l2_58.length) ML), hB.same, (MJ.ch (Ch.weak _ _ _)), H⟩
  replace H := ifn yt H
  refine zo (fun w => opB (J0w rfl rfl w) (decide_eq_false yt)) (zn (zf rfl rfl (zk (zr (zm rfl ?_)))))
  refine zm rfl (zs (omapLen 1 hO rfl Try.underlying164 rfl) (za rfl (za rfl (zn ?_))))
  refine Go1.inBlock ?_
  have zz := freeze 0 hO rfl qK
  obtain ⟨hO1, Em, En, MM⟩ := zz
  replace hO := hO1; clear hO1
  replace hO := hO.drop 0
  replace En := En.ch (Owns.J06 _ _ 0)
  have Z5 := Em.trans (Owns.J06 _ _ 0)
  replace aq := aq.ch Z5
  replace aw := aw.ch Z5
  replace hB := (hB.trans (Owns.J09 _ _ 0)).trans (Owns.J09 _ _ 0)
  exact hX2 _ H _ _ ⟨p70, l2_58.length, ⟨rfl, (congrArg (fun nn => Value.slice p70 nn l2_58.length) MM), rfl, trivial⟩, hO, aq, aw, En, hB⟩
 replace H := ifn h13 H
 refine zo (fun w => opB (J0g rfl rfl w) (ndF h13)) (zn (zt rfl rfl (zq ?_)))
 refine Go1.cut [] trivial ?_
 intro σ _
 refine zr (za rfl (zn ?_))
 refine Go1.ret1 Try.func110 rfl ?_
 replace hB := (hB.trans cB.fr).trans d8.fr
 exact ⟨([] : List Int), none, 0, rfl, hB.same, (ISl.null _ _ _), H⟩
end Sg
