/- -/
import Derived.Test.YtlneebpmblkllaaTi
import Derived.Test.YtlneebpmblkllaaAl
namespace Sg
open Go Go.RowKit Go.Proofs
set_option linter.unusedVariables false
set_option linter.unusedSimpArgs false
set_option maxRecDepth 100000
set_option maxHeartbeats 4000000
theorem body59 : Body Try.prog 59 := ⟨Try.f59, Try.func59, rfl, by kernel_rfl⟩
theorem walk_ref01_MayLetters {A : List Nat} {w0 : World} {letters : Int} (hA : ∀ b ∈ A, b < w0.heap.size) {K : Bool → Prop} (H : J1f letters K) :
    CallsV Try.prog 59 #[.int .i64 letters] w0 (fun v w' => ∃ (r0 : Bool), v = .bool r0 ∧ Same w0 w' ∧ K r0) := by
 refine CallsV.of (l := [.int .i64 letters]) Try.func59 rfl Try.ntmps59 rfl ?_
 have hO := Owns.start hA
 have hB := Fr.refl (bl []) w0
 unfold J1f at H
 refine zq (zr (za rfl (zn (zq (zr ?_)))))
 refine zm rfl ?_
 by_cases h1 : (1 : Int) ≤ letters
 ·replace H := ifp h1 H
  refine zo (fun w => opB (J1n rfl rfl w) (decide_eq_true h1)) (zm rfl (zm rfl ?_))
  by_cases h2 : letters ≤ (6 : Int)
  ·replace H := ifp h2 H
   refine zo (fun w => opB (op_leq rfl rfl w) (decide_eq_true h2)) (zo (J06 rfl rfl rfl) (za rfl (zn ?_)))
   refine Go1.ret1 Try.func59 rfl ?_
   exact ⟨true, rfl, hB.same, H⟩
  replace H := ifn h2 H
  refine zo (fun w => opB (op_leq rfl rfl w) (decide_eq_false h2)) (zo (J06 rfl rfl rfl) (za rfl (zn ?_)))
  refine Go1.ret1 Try.func59 rfl ?_
  exact ⟨false, rfl, hB.same, H⟩
 replace H := ifn h1 H
 refine zo (fun w => opB (J1n rfl rfl w) (decide_eq_false h1)) (zm rfl (zp (zp (zo (J05 rfl rfl rfl) (za rfl ?_)))))
 refine zn ?_
 refine Go1.ret1 Try.func59 rfl ?_
 exact ⟨false, rfl, hB.same, H⟩
theorem body16 : Body Try.prog 16 := ⟨Try.f16, Try.func16, rfl, by kernel_rfl⟩
theorem walk_ref07_Validate {A : List Nat} {w0 : World} {bn : Option Addr} {bo : Nat} {bt : Option Addr} {bu : Nat} {d : DFA} (hA : ∀ b ∈ A, b < w0.heap.size) (ag : ISl (Rp.bool) A w0 bn bo d.Final) (ak : ISl (Rp.sl (Rp.int .i64)) A w0 bt bu d.Next) {K : Int → Prop} (H : J1b d K) :
    CallsV Try.prog 16 #[.agg #[.int .i64 d.Letters, .int .i64 d.Start, .slice bn d.Final.length bo, .slice bt d.Next.length bu]] w0 (fun v w' => ∃ (r0 : Int), v = .int .i64 r0 ∧ Same w0 w' ∧ K r0) := by
 refine CallsV.of (l := [.agg #[.int .i64 d.Letters, .int .i64 d.Start, .slice bn d.Final.length bo, .slice bt d.Next.length bu]]) Try.func16 rfl Try.ntmps16 rfl ?_
 have hO := Owns.start hA
 have hB := Fr.refl (bl []) w0
 unfold J1b at H
 refine zq (zr ?_)
 have zz := obox (t := 25) (v := .agg #[.int .i64 d.Letters, .int .i64 d.Start, .slice bn d.Final.length bo, .slice bt d.Next.length bu]) (cs := #[.int .i64 d.Letters, .int .i64 d.Start, .slice bn d.Final.length bo, .slice bt d.Next.length bu]) hO rfl
 obtain ⟨w1, B2, c5, hs4, iQ⟩ := zz
 refine zg (iQ rfl) ?_
 replace hO := c5.own
 refine za rfl (zn (zq (zr (zo (J00 Try.underlying25 rfl ti22 rfl (by decide)) (zs (oblk (i := 2) 0 hO rfl rfl Try.underlying22 rfl rfl) ?_)))))
 refine zo (J0d Try.underlying22 rfl) ?_
 replace ag := (ag.ch (Ch.start A w0)).ch c5.ch
 replace H := H ag.bd
 refine za rfl (zn (zq (zq (zr (zo (J00 Try.underlying25 rfl ti3 rfl (by decide)) ?_)))))
 refine zs (oblk (i := 0) 0 hO rfl rfl Try.underlying3 rfl rfl) ?_
 refine GoR.call (J0a body59 rfl (walk_ref01_MayLetters hO.lt H)) rfl rfl ?_
 rintro v11 w8 ⟨r7, rfl, hs9, H⟩
 have iK := Stp.same hO hs9
 replace hO := iK.own
 cases r7
 ·replace H := ifn Bool.false_ne_true H
  refine zo (J0p rfl) (zn (zt rfl rfl (zq (zr (za rfl ?_)))))
  refine zn ?_
  refine Go1.ret1 Try.func16 rfl ?_
  replace hB := (hB.trans c5.fr).trans iK.fr
  exact ⟨(1 : Int), rfl, hB.same, H⟩
 replace H := ifp rfl H
 refine zo (J0p rfl) (zn (zf rfl rfl (zk (zq (zq ?_)))))
 refine zr (zm rfl ?_)
 by_cases h13 : (512 : Int) < (d.Final.length : Int)
 ·replace H := ifp h13 H
  refine zo (fun w => opB (J1a rfl rfl w) (decide_eq_true h13)) (zn (zt rfl rfl (zq (zr (za rfl ?_)))))
  refine zn ?_
  refine Go1.ret1 Try.func16 rfl ?_
  replace hB := (hB.trans c5.fr).trans iK.fr
  exact ⟨(3 : Int), rfl, hB.same, H⟩
 replace H := ifn h13 H
 refine zo (fun w => opB (J1a rfl rfl w) (decide_eq_false h13)) (zn (zf rfl rfl (zk (zq (zq ?_)))))
 refine zr (zm rfl ?_)
 by_cases h14 : (d.Final.length : Int) = (0 : Int)
 ·replace H := ifp h14 H
  refine zo (fun w => opB (J0A rfl rfl w) (decide_eq_true h14)) (zm rfl (zp (zp (zp (zp ?_)))))
  refine zp (zo (J06 rfl rfl rfl) (zm rfl (zp (zp (zp ?_)))))
  refine zo (J06 rfl rfl rfl) (zm rfl (zp (zp (zp (zp ?_)))))
  refine zo (J06 rfl rfl rfl) (zn (zt rfl rfl (zq ?_)))
  refine Go1.cut [] trivial ?_
  intro σ _
  refine zr (za rfl (zn ?_))
  refine Go1.ret1 Try.func16 rfl ?_
  replace hB := (hB.trans c5.fr).trans iK.fr
  exact ⟨(4 : Int), rfl, hB.same, H⟩
 replace H := ifn h14 H
 refine zo (fun w => opB (J0A rfl rfl w) (decide_eq_false h14)) (zm rfl (zo (J00 Try.underlying25 rfl ti23 rfl (by decide)) (zs (oblk (i := 3) 0 hO rfl rfl Try.underlying23 rfl rfl) (zo (J0d Try.underlying23 rfl) ?_))))
 have Z1 := ((Ch.start A w0).trans c5.ch).trans iK.ch
 replace ak := ak.ch Z1
 replace H := H ak.bd
 refine zm rfl ?_
 by_cases h15 : (d.Next.length : Int) = (d.Final.length : Int)
 ·replace H := ifp h15 H
  refine zo (fun w => opB (J0g rfl rfl w) (ndT h15)) (zo (J05 rfl rfl rfl) (zm rfl (zo (J00 Try.underlying25 rfl ti3 rfl (by decide)) (zs (oblk (i := 1) 0 hO rfl rfl Try.underlying3 rfl rfl) ?_))))
  by_cases h16 : d.Start < (0 : Int)
  ·replace H := ifp h16 H
   refine zo (fun w => opB (J08 rfl rfl w) (decide_eq_true h16)) (zo (J05 rfl rfl rfl) (zm rfl (zp (zp (zp ?_)))))
   refine zp (zo (J06 rfl rfl rfl) (zn (zt rfl rfl (zq ?_))))
   refine Go1.cut [] trivial ?_
   intro σ _
   refine zr (za rfl (zn ?_))
   refine Go1.ret1 Try.func16 rfl ?_
   replace hB := (hB.trans c5.fr).trans iK.fr
   exact ⟨(4 : Int), rfl, hB.same, H⟩
  replace H := ifn h16 H
  refine zo (fun w => opB (J08 rfl rfl w) (decide_eq_false h16)) (zo (J05 rfl rfl rfl) (zm rfl (zo (J00 Try.underlying25 rfl ti3 rfl (by decide)) (zs (oblk (i := 1) 0 hO rfl rfl Try.underlying3 rfl rfl) (zm rfl ?_)))))
  by_cases h17 : (d.Final.length : Int) ≤ d.Start
  ·replace H := ifp h17 H
   refine zo (fun w => opB (J1n rfl rfl w) (decide_eq_true h17)) (zo (J05 rfl rfl rfl) (zn (zt rfl rfl (zq (zr ?_)))))
   refine za rfl (zn ?_)
   refine Go1.ret1 Try.func16 rfl ?_
   replace hB := (hB.trans c5.fr).trans iK.fr
   exact ⟨(4 : Int), rfl, hB.same, H⟩
  replace H := ifn h17 H
  refine zo (fun w => opB (J1n rfl rfl w) (decide_eq_false h17)) (zo (J05 rfl rfl rfl) (zn (zf rfl rfl (zk (zq ?_)))))
  refine zq (zr (zo (J00 Try.underlying25 rfl ti23 rfl (by decide)) (zs (oblk (i := 3) 0 hO rfl rfl Try.underlying23 rfl rfl) (zo (J0d Try.underlying23 rfl) (zm rfl ?_)))))
  refine zn (zb ?_)
  replace ag := ag.ch iK.ch
  replace hB := (hB.trans c5.fr).trans iK.fr
  refine Go1.loopW (S := Nat) (fun s σ w => agrees σ [(1, .pointer (some ⟨B2, 0, none⟩)), (3, .int .i64 (d.Final.length : Int)), (38, .slice bt d.Next.length bu), (39, .int .i64 (d.Next.length : Int)), (40, .int .i64 (s : Int))] ∧ (fun Z0 => Owns w0.heap.size w Z0 A ∧ ISl (Rp.bool) (bl Z0 ++ A) w bn bo d.Final ∧ ISl (Rp.sl (Rp.int .i64)) (bl Z0 ++ A) w bt bu d.Next ∧ Fr (bl []) w0 (bl Z0) w) [.blk B2 (.cells #[.int .i64 d.Letters, .int .i64 d.Start, .slice bn d.Final.length bo, .slice bt d.Next.length bu] 25 (0, 0))]) H ⟨⟨rfl, rfl, rfl, rfl, rfl, trivial⟩, hO, ag, ak, hB⟩ ?_
  intro X1 k1_19
  intro H hX1 σ w18
  refine andE fun hag => andE fun hO => andE fun ag => andE fun ak => fun hB => ?_
  refine Go1.keep [(1, .pointer (some ⟨B2, 0, none⟩)), (3, .int .i64 (d.Final.length : Int)), (38, .slice bt d.Next.length bu), (39, .int .i64 (d.Next.length : Int)), (40, .int .i64 (k1_19 : Int))] hag ?_
  refine zq (zr ?_)
  by_cases h20 : (k1_19 : Int) < (d.Next.length : Int)
  ·replace H := ifp h20 H
   refine zo (fun w => opB (J08 rfl rfl w) (decide_eq_true h20)) (zn (zq (zt rfl rfl (zk (zq ?_)))))
   refine zb (zq (zr ?_))
   obtain ⟨h21, H⟩ := H
   obtain ⟨h22, H⟩ := H
   refine zo (J02 Try.underlying23 ti31 rfl rfl h21 h22 (ak.some_ h21 h22)) ?_
   have zz := ldSl ak h21 h22
   obtain ⟨p23, c24, zl, Qx⟩ := zz
   refine zs (Qx Try.underlying31 rfl rfl) (za rfl (zn (zq (zq (zr ?_)))))
   refine zm rfl (zo (J0d Try.underlying31 rfl) ?_)
   replace H := H zl.bd
   refine zo (J00 Try.underlying25 rfl ti3 rfl (by decide)) (zs (oblk (i := 0) 0 hO rfl rfl Try.underlying3 rfl rfl) ?_)
   by_cases h27 : ((ix d.Next (k1_19 : Int)).length : Int) = d.Letters
   ·replace H := ifp h27 H
    refine zo (fun w => opB (J0g rfl rfl w) (ndT h27)) (zn (zf rfl rfl (zk (zq (zr ?_)))))
    refine zm rfl (zo (J0d Try.underlying31 rfl) (zm rfl (zn (zb ?_))))
    refine Go1.loopW (S := Nat) (fun s σ w => agrees σ [(1, .pointer (some ⟨B2, 0, none⟩)), (3, .int .i64 (d.Final.length : Int)), (38, .slice bt d.Next.length bu), (39, .int .i64 (d.Next.length : Int)), (40, .int .i64 (k1_19 : Int)), (49, .slice p23 ((ix d.Next (k1_19 : Int)).length) c24), (50, .int .i64 ((ix d.Next (k1_19 : Int)).length : Int)), (51, .int .i64 (s : Int))] ∧ (fun Z0 => Owns w0.heap.size w Z0 A ∧ ISl (Rp.bool) (bl Z0 ++ A) w bn bo d.Final ∧ ISl (Rp.sl (Rp.int .i64)) (bl Z0 ++ A) w bt bu d.Next ∧ ISl (Rp.int .i64) (bl Z0 ++ A) w p23 c24 (ix d.Next (k1_19 : Int)) ∧ Fr (bl []) w0 (bl Z0) w) [.blk B2 (.cells #[.int .i64 d.Letters, .int .i64 d.Start, .slice bn d.Final.length bo, .slice bt d.Next.length bu] 25 (0, 0))]) H ⟨⟨rfl, rfl, rfl, rfl, rfl, rfl, rfl, rfl, trivial⟩, hO, ag, ak, zl, hB⟩ ?_
    intro X2 k2_29
    intro H hX2 σ w28
    refine andE fun hag => andE fun hO => andE fun ag => andE fun ak => andE fun zl => fun hB => ?_
    refine Go1.keep [(1, .pointer (some ⟨B2, 0, none⟩)), (3, .int .i64 (d.Final.length : Int)), (38, .slice bt d.Next.length bu), (39, .int .i64 (d.Next.length : Int)), (40, .int .i64 (k1_19 : Int)), (49, .slice p23 ((ix d.Next (k1_19 : Int)).length) c24), (50, .int .i64 ((ix d.Next (k1_19 : Int)).length : Int)), (51, .int .i64 (k2_29 : Int))] hag ?_
    refine zq (zr ?_)
    by_cases h30 : (k2_29 : Int) < ((ix d.Next (k1_19 : Int)).length : Int)
    ·replace H := ifp h30 H
     refine zo (fun w => opB (J08 rfl rfl w) (decide_eq_true h30)) (zn (zq (zt rfl rfl (zk (zq ?_)))))
     refine zb (zq (zr ?_))
     obtain ⟨h31, H⟩ := H
     obtain ⟨h32, H⟩ := H
     refine zo (J02 Try.underlying31 ti3 rfl rfl h31 h32 (zl.some_ h31 h32)) (zs (ldInt zl h31 h32 Try.underlying3 rfl rfl) (za rfl (zn (zq (zr ?_)))))
     refine zm rfl ?_
     by_cases h33 : (ix (ix d.Next (k1_19 : Int)) (k2_29 : Int)) < (0 : Int)
     ·replace H := ifp h33 H
      refine zo (fun w => opB (J08 rfl rfl w) (decide_eq_true h33)) (zm rfl (zp (zp (zp (zo (J06 rfl rfl rfl) ?_)))))
      refine zn (zt rfl rfl (zq (zr (za rfl (zn ?_)))))
      refine Go1.ret1 Try.func16 rfl ?_
      exact ⟨(4 : Int), rfl, hB.same, H⟩
     replace H := ifn h33 H
     refine zo (fun w => opB (J08 rfl rfl w) (decide_eq_false h33)) (zm rfl (zm rfl (zm rfl ?_)))
     by_cases h34 : (d.Final.length : Int) ≤ (ix (ix d.Next (k1_19 : Int)) (k2_29 : Int))
     ·replace H := ifp h34 H
      refine zo (fun w => opB (J1n rfl rfl w) (decide_eq_true h34)) (zo (J05 rfl rfl rfl) (zn (zt rfl rfl (zq (zr ?_)))))
      refine za rfl (zn ?_)
      refine Go1.ret1 Try.func16 rfl ?_
      exact ⟨(4 : Int), rfl, hB.same, H⟩
     replace H := ifn h34 H
     refine zo (fun w => opB (J1n rfl rfl w) (decide_eq_false h34)) (zo (J05 rfl rfl rfl) (zn (zf rfl rfl (zk ?_))))
     refine Go1.inBlock ?_
     refine Go1.cut [(1, .pointer (some ⟨B2, 0, none⟩)), (3, .int .i64 (d.Final.length : Int)), (38, .slice bt d.Next.length bu), (39, .int .i64 (d.Next.length : Int)), (40, .int .i64 (k1_19 : Int)), (49, .slice p23 ((ix d.Next (k1_19 : Int)).length) c24), (50, .int .i64 ((ix d.Next (k1_19 : Int)).length : Int)), (51, .int .i64 (k2_29 : Int))] ⟨rfl, rfl, rfl, rfl, rfl, rfl, rfl, rfl, trivial⟩ ?_
     intro σ _
     refine zr (zo (J0c rfl rfl (wrap_i64 (natbd h30 zl.bd))) (zm rfl (zn ?_)))
     exact hX2 _ H _ _ ⟨⟨rfl, rfl, rfl, rfl, rfl, rfl, rfl, rfl, trivial⟩, hO, ag, ak, zl, hB⟩
    replace H := ifn h30 H
    refine zo (fun w => opB (J08 rfl rfl w) (decide_eq_false h30)) (zn (zq (zf rfl rfl ?_)))
    refine Go1.exit rfl ?_
    refine Go1.inBlock ?_
    refine zr (zo (J0c rfl rfl (wrap_i64 (natbd h20 ak.bd))) (zm rfl (zn ?_)))
    exact hX1 _ H _ _ ⟨⟨rfl, rfl, rfl, rfl, rfl, trivial⟩, hO, ag, ak, hB⟩
   replace H := ifn h27 H
   refine zo (fun w => opB (J0g rfl rfl w) (ndF h27)) (zn (zt rfl rfl (zq (zr (za rfl ?_)))))
   refine zn ?_
   refine Go1.ret1 Try.func16 rfl ?_
   exact ⟨(4 : Int), rfl, hB.same, H⟩
  replace H := ifn h20 H
  refine zo (fun w => opB (J08 rfl rfl w) (decide_eq_false h20)) (zn (zq (zf rfl rfl ?_)))
  refine Go1.exit rfl ?_
  refine zq (zr (za rfl (zn ?_)))
  refine Go1.ret1 Try.func16 rfl ?_
  exact ⟨(0 : Int), rfl, hB.same, H⟩
 replace H := ifn h15 H
 refine zo (fun w => opB (J0g rfl rfl w) (ndF h15)) (zo (J05 rfl rfl rfl) (zm rfl (zp (zp (zp ?_)))))
 refine zo (J06 rfl rfl rfl) (zm rfl (zp (zp (zp (zp ?_)))))
 refine zo (J06 rfl rfl rfl) (zn (zt rfl rfl (zq (zr (za rfl ?_)))))
 refine zn ?_
 refine Go1.ret1 Try.func16 rfl ?_
 replace hB := (hB.trans c5.fr).trans iK.fr
 exact ⟨(4 : Int), rfl, hB.same, H⟩
theorem body17 : Body Try.prog 17 := ⟨Try.f17, Try.func17, rfl, by kernel_rfl⟩
theorem walk_law21_small {A : List Nat} {w0 : World} {bn : Option Addr} {bo : Nat} {bt : Option Addr} {bu : Nat} {d : DFA} {most : Int} (hA : ∀ b ∈ A, b < w0.heap.size) (ag : ISl (Rp.bool) A w0 bn bo d.Final) (ak : ISl (Rp.sl (Rp.int .i64)) A w0 bt bu d.Next) {K : Bool → Prop} (H : law21_small d most K) :
    CallsV Try.prog 17 #[.agg #[.int .i64 d.Letters, .int .i64 d.Start, .slice bn d.Final.length bo, .slice bt d.Next.length bu], .int .i64 most] w0 (fun v w' => ∃ (r0 : Bool), v = .bool r0 ∧ Same w0 w' ∧ K r0) := by
 refine CallsV.of (l := [.agg #[.int .i64 d.Letters, .int .i64 d.Start, .slice bn d.Final.length bo, .slice bt d.Next.length bu], .int .i64 most]) Try.func17 rfl Try.ntmps17 rfl ?_
 have hO := Owns.start hA
 have hB := Fr.refl (bl []) w0
 unfold law21_small at H
 refine zq (zr ?_)
 have zz := obox (t := 25) (v := .agg #[.int .i64 d.Letters, .int .i64 d.Start, .slice bn d.Final.length bo, .slice bt d.Next.length bu]) (cs := #[.int .i64 d.Letters, .int .i64 d.Start, .slice bn d.Final.length bo, .slice bt d.Next.length bu]) hO rfl
 obtain ⟨w1, B2, c5, hs4, iQ⟩ := zz
 refine zg (iQ rfl) ?_
 replace hO := c5.own
 refine za rfl (zn (zq (zr (zo (J00 Try.underlying25 rfl ti22 rfl (by decide)) (zs (oblk (i := 2) 0 hO rfl rfl Try.underlying22 rfl rfl) ?_)))))
 refine zo (J0d Try.underlying22 rfl) ?_
 replace ag := (ag.ch (Ch.start A w0)).ch c5.ch
 replace H := H ag.bd
 refine zm rfl ?_
 by_cases h7 : (d.Final.length : Int) ≤ most
 ·replace H := ifp h7 H
  refine zo (fun w => opB (op_leq rfl rfl w) (decide_eq_true h7)) (zm rfl (zo (J00 Try.underlying25 rfl ti3 rfl (by decide)) (zs (oblk (i := 0) 0 hO rfl rfl Try.underlying3 rfl rfl) ?_)))
  by_cases h8 : d.Letters ≤ (2 : Int)
  ·replace H := ifp h8 H
   refine zo (fun w => opB (op_leq rfl rfl w) (decide_eq_true h8)) (zo (J06 rfl rfl rfl) (zm rfl (zs (J0n (vs := [.int .i64 d.Letters, .int .i64 d.Start, .slice bn d.Final.length bo, .slice bt d.Next.length bu]) (i := 0) 0 hO rfl rfl Try.underlying25 rfl ti25 rfl) ?_)))
   replace ak := (ak.ch (Ch.start A w0)).ch c5.ch
   refine GoR.call (J0a body16 rfl (walk_ref07_Validate (d := d) hO.lt ag ak H)) rfl rfl ?_
   rintro v13 w10 ⟨r9, rfl, xS, H⟩
   have BH := Stp.same hO xS
   replace hO := BH.own
   by_cases h15 : r9 = (0 : Int)
   ·replace H := ifp h15 H
    refine zo (fun w => opB (J0A rfl rfl w) (decide_eq_true h15)) (zo (J06 rfl rfl rfl) (za rfl (zn ?_)))
    refine Go1.ret1 Try.func17 rfl ?_
    replace hB := (hB.trans c5.fr).trans BH.fr
    exact ⟨true, rfl, hB.same, H⟩
   replace H := ifn h15 H
   refine zo (fun w => opB (J0A rfl rfl w) (decide_eq_false h15)) (zo (J06 rfl rfl rfl) (za rfl (zn ?_)))
   refine Go1.ret1 Try.func17 rfl ?_
   replace hB := (hB.trans c5.fr).trans BH.fr
   exact ⟨false, rfl, hB.same, H⟩
  replace H := ifn h8 H
  refine zo (fun w => opB (op_leq rfl rfl w) (decide_eq_false h8)) (zo (J06 rfl rfl rfl) (zm rfl (zp (zp (zp ?_)))))
  refine zo (J05 rfl rfl rfl) (za rfl (zn ?_))
  refine Go1.ret1 Try.func17 rfl ?_
  replace hB := hB.trans c5.fr
  exact ⟨false, rfl, hB.same, H⟩
 replace H := ifn h7 H
 refine zo (fun w => opB (op_leq rfl rfl w) (decide_eq_false h7)) (zm rfl (zp (zp (zp (zo (J05 rfl rfl rfl) ?_)))))
 refine zm rfl (zp (zp (zp (zo (J05 rfl rfl rfl) (za rfl ?_)))))
 refine zn ?_
 refine Go1.ret1 Try.func17 rfl ?_
 replace hB := hB.trans c5.fr
 exact ⟨false, rfl, hB.same, H⟩
theorem body60 : Body Try.prog 60 := ⟨Try.f60, Try.func60, rfl, by kernel_rfl⟩
theorem walk_law21_ab {A : List Nat} {w0 : World} (hA : ∀ b ∈ A, b < w0.heap.size) {K : DFA → Prop} (H : law21_ab  K) :
    CallsV Try.prog 60 #[] w0 (fun v w' => ∃ (r0 : DFA) (iR : Option Addr) (iT : Nat) (jv : Option Addr) (jw : Nat), v = .agg #[.int .i64 r0.Letters, .int .i64 r0.Start, .slice iR r0.Final.length iT, .slice jv r0.Next.length jw] ∧ Same w0 w' ∧ ISl (Rp.bool) A w' iR iT r0.Final ∧ ISl (Rp.sl (Rp.int .i64)) A w' jv jw r0.Next ∧ K r0) := by
 refine CallsV.of (l := []) Try.func60 rfl Try.ntmps60 rfl ?_
 have hO := Owns.start hA
 have hB := Fr.refl (bl []) w0
 unfold law21_ab at H
 refine zq (zr ?_)
 have zz := oalloc (t := 25) (cs := #[.int .i64 0, .int .i64 0, .slice none 0 0, .slice none 0 0]) ti25 hO rfl
 obtain ⟨w1, B2, c5, hs4, iQ⟩ := zz
 refine GoR.op iQ rfl rfl ?_
 replace hO := c5.own
 refine zn (zq (zr ?_))
 have zz := J0j (r := Rp.bool) (n := 3) (parts := [(0, .bool true), (1, .bool false), (2, .bool false)]) (vs := [.bool true, .bool false, .bool false]) (xs := [true, false, false]) rfl Try.underlying22 ti4 hO (by decide) (by kernel_rfl) (Els.cons rfl rfl (Els.cons rfl rfl (Els.cons rfl rfl (Els.nil _ _ _) (by simp [mx])) (by simp [mx])) (by simp [mx])) rfl
 obtain ⟨w7, p8, f7, lA, xS, Aa⟩ := zz
 refine zg (Aa rfl) ?_
 replace hO := f7.own
 have zz := J0j (r := Rp.int .i64) (n := 2) (parts := [(0, .int .i64 1), (1, .int .i64 2)]) (vs := [.int .i64 1, .int .i64 2]) (xs := [(1 : Int), (2 : Int)]) rfl Try.underlying31 ti3 hO (by decide) (by kernel_rfl) (Els.cons rfl rfl (Els.cons rfl rfl (Els.nil _ _ _) (by simp [mx])) (by simp [mx])) rfl
 obtain ⟨w14, p15, lI, wY, UR, LP⟩ := zz
 refine zg (LP rfl) ?_
 replace hO := lI.own
 have zz := J0j (r := Rp.int .i64) (n := 2) (parts := [(0, .int .i64 2), (1, .int .i64 0)]) (vs := [.int .i64 2, .int .i64 0]) (xs := [(2 : Int), (0 : Int)]) rfl Try.underlying31 ti3 hO (by decide) (by kernel_rfl) (Els.cons rfl rfl (Els.cons rfl rfl (Els.nil _ _ _) (by simp [mx])) (by simp [mx])) rfl
 obtain ⟨w21, p22, mc, cY, Io, DS⟩ := zz
 refine zg (DS rfl) ?_
 replace hO := mc.own
 have zz := J0j (r := Rp.int .i64) (n := 2) (parts := [(0, .int .i64 2), (1, .int .i64 2)]) (vs := [.int .i64 2, .int .i64 2]) (xs := [(2 : Int), (2 : Int)]) rfl Try.underlying31 ti3 hO (by decide) (by kernel_rfl) (Els.cons rfl rfl (Els.cons rfl rfl (Els.nil _ _ _) (by simp [mx])) (by simp [mx])) rfl
 obtain ⟨w28, p29, sJ, Cg, US, LQ⟩ := zz
 refine zg (LQ rfl) ?_
 replace hO := sJ.own
 replace wY := (wY.ch mc.ch).ch sJ.ch
 have zz := freeze 2 hO rfl wY
 obtain ⟨hO1, DT, uu, Qy⟩ := zz
 dsimp only [eS, eZ] at hO1 DT uu
 replace hB := (((((hB.trans c5.fr).trans f7.fr).trans lI.fr).trans mc.fr).trans sJ.fr).trans (Owns.J09 _ _ 2)
 dsimp only [eS, eZ] at hB
 replace hO := hO1; clear hO1
 replace cY := (cY.ch sJ.ch).ch DT
 have zz := freeze 1 hO rfl cY
 obtain ⟨hO1, DU, vM, Qz⟩ := zz
 dsimp only [eS, eZ] at hO1 DU vM
 replace hB := hB.trans (Owns.J09 _ _ 1)
 dsimp only [eS, eZ] at hB
 replace hO := hO1; clear hO1
 replace Cg := (Cg.ch DT).ch DU
 have zz := freeze 0 hO rfl Cg
 obtain ⟨hO1, zu, uo, Fh⟩ := zz
 dsimp only [eS, eZ] at hO1 zu uo
 replace hB := hB.trans (Owns.J09 _ _ 0)
 dsimp only [eS, eZ] at hB
 replace hO := hO1; clear hO1
 replace vM := vM.ch zu
 replace uu := (uu.ch DU).ch zu
 have zz := J0j (r := Rp.sl (Rp.int .i64)) (n := 3) (parts := [(0, .slice p15 2 2), (1, .slice p22 2 2), (2, .slice p29 2 2)]) (vs := [.slice p15 2 2, .slice p22 2 2, .slice p29 2 2]) (xs := [[(1 : Int), (2 : Int)], [(2 : Int), (0 : Int)], [(2 : Int), (2 : Int)]]) rfl Try.underlying23 ti31 hO (by decide) (by kernel_rfl) (Els.cons rfl ⟨p15, 2, congrArg some (congrArg (fun nn => Value.slice p15 nn 2) Qy), uu⟩ (Els.cons rfl ⟨p22, 2, congrArg some (congrArg (fun nn => Value.slice p22 nn 2) Qz), vM⟩ (Els.cons rfl ⟨p29, 2, congrArg some (congrArg (fun nn => Value.slice p29 nn 2) Fh), uo⟩ (Els.nil _ _ _) (by simp [mx])) (by simp [mx])) (by simp [mx])) rfl
 obtain ⟨w44, p45, yt, Ci, Ip, LS⟩ := zz
 refine zg (LS rfl) ?_
 replace hO := yt.own
 refine zo (J0s Try.underlying25 ti25 (pl := [(0, 1), (1, 1), (2, 1), (3, 1)]) (vs := [(0, .int .i64 2), (2, .slice p8 3 3), (3, .slice p45 3 3)]) (cs := #[.int .i64 2, .int .i64 0, .slice p8 3 3, .slice p45 3 3]) (by kernel_rfl) rfl (by kernel_rfl)) ?_
 have zz := J0b (us := [.int .i64 2, .int .i64 0, .slice p8 3 3, .slice p45 3 3]) (o := 0) (cs' := #[.int .i64 2, .int .i64 0, .slice p8 3 3, .slice p45 3 3]) 2 hO rfl rfl (Nat.le_of_ble_eq_true rfl) rfl
 obtain ⟨w51, xv, DW⟩ := zz
 refine zg (DW ti25 (by exact rfl) (by exact rfl) rfl) ?_
 replace hO := xv.own
 refine zn ?_
 have Z1 := ((((((lI.ch.trans mc.ch).trans sJ.ch).trans DT).trans DU).trans zu).trans yt.ch).trans xv.ch
 replace lA := lA.ch Z1
 have zz := freeze 1 hO rfl lA
 obtain ⟨hO1, zw, Cj, Fi⟩ := zz
 replace hO := hO1; clear hO1
 replace Ci := (Ci.ch xv.ch).ch zw
 have zz := freeze 0 hO rfl Ci
 obtain ⟨hO1, DX, QA, QB⟩ := zz
 replace hO := hO1; clear hO1
 refine Go1.retC1 Try.func60 rfl rfl (J0h (vs := [.int .i64 2, .int .i64 0, .slice p8 3 3, .slice p45 3 3]) 0 hO rfl rfl Try.underlying25 rfl ti25) ?_
 replace Cj := Cj.ch DX
 replace hB := (((hB.trans yt.fr).trans xv.fr).trans (Owns.J09 _ _ 1)).trans (Owns.J09 _ _ 0)
 exact ⟨(⟨(2 : Int), (0 : Int), [true, false, false], [[(1 : Int), (2 : Int)], [(2 : Int), (0 : Int)], [(2 : Int), (2 : Int)]]⟩ : DFA), p8, 3, p45, 3, (congrArg (fun l => Value.agg (List.toArray l)) (J0i rfl (J0i rfl (J0i (congrArg (fun nn => Value.slice p8 nn 3) Fi) (J0i (congrArg (fun nn => Value.slice p45 nn 3) QB) rfl))))), hB.same, (Cj.ch (Ch.weak _ _ _)), (QA.ch (Ch.weak _ _ _)), H⟩
theorem body61 : Body Try.prog 61 := ⟨Try.f61, Try.func61, rfl, by kernel_rfl⟩
theorem J18 {A : List Nat} {w0 : World} {bn : Option Addr} {bo : Nat} {bt : Option Addr} {bu : Nat} {d : DFA} (hA : ∀ b ∈ A, b < w0.heap.size) (ag : ISl (Rp.bool) A w0 bn bo d.Final) (ak : ISl (Rp.sl (Rp.int .i64)) A w0 bt bu d.Next) {K : Int → Prop} (H : J0O d K) :
    CallsV Try.prog 61 #[.agg #[.int .i64 d.Letters, .int .i64 d.Start, .slice bn d.Final.length bo, .slice bt d.Next.length bu]] w0 (fun v w' => ∃ (r0 : Int), v = .int .i64 r0 ∧ Same w0 w' ∧ K r0) := by
 refine CallsV.of (l := [.agg #[.int .i64 d.Letters, .int .i64 d.Start, .slice bn d.Final.length bo, .slice bt d.Next.length bu]]) Try.func61 rfl Try.ntmps61 rfl ?_
 have hO := Owns.start hA
 have hB := Fr.refl (bl []) w0
 unfold J0O at H
 refine zq (zr ?_)
 have zz := obox (t := 25) (v := .agg #[.int .i64 d.Letters, .int .i64 d.Start, .slice bn d.Final.length bo, .slice bt d.Next.length bu]) (cs := #[.int .i64 d.Letters, .int .i64 d.Start, .slice bn d.Final.length bo, .slice bt d.Next.length bu]) hO rfl
 obtain ⟨w1, B2, c5, hs4, iQ⟩ := zz
 refine zg (iQ rfl) ?_
 replace hO := c5.own
 refine za rfl (zn (zq (zq (zr (zo (J00 Try.underlying25 rfl ti3 rfl (by decide)) ?_)))))
 refine zs (oblk (i := 0) 0 hO rfl rfl Try.underlying3 rfl rfl) ?_
 by_cases h7 : d.Letters < (1 : Int)
 ·replace H := ifp h7 H
  refine zo (fun w => opB (J08 rfl rfl w) (decide_eq_true h7)) (zm rfl (zp (zp (zp (zo (J06 rfl rfl rfl) ?_)))))
  refine zn (zt rfl rfl (zq (zr (za rfl (zn ?_)))))
  refine Go1.ret1 Try.func61 rfl ?_
  replace hB := hB.trans c5.fr
  exact ⟨(1 : Int), rfl, hB.same, H⟩
 replace H := ifn h7 H
 refine zo (fun w => opB (J08 rfl rfl w) (decide_eq_false h7)) (zm rfl (zo (J00 Try.underlying25 rfl ti3 rfl (by decide)) (zs (oblk (i := 0) 0 hO rfl rfl Try.underlying3 rfl rfl) ?_)))
 by_cases h8 : (6 : Int) < d.Letters
 ·replace H := ifp h8 H
  refine zo (fun w => opB (J1a rfl rfl w) (decide_eq_true h8)) (zo (J05 rfl rfl rfl) (zn (zt rfl rfl (zq (zr ?_)))))
  refine za rfl (zn ?_)
  refine Go1.ret1 Try.func61 rfl ?_
  replace hB := hB.trans c5.fr
  exact ⟨(1 : Int), rfl, hB.same, H⟩
 replace H := ifn h8 H
 refine zo (fun w => opB (J1a rfl rfl w) (decide_eq_false h8)) (zo (J05 rfl rfl rfl) (zn (zf rfl rfl (zk (zq ?_)))))
 refine zr (zo (J00 Try.underlying25 rfl ti22 rfl (by decide)) (zs (oblk (i := 2) 0 hO rfl rfl Try.underlying22 rfl rfl) (zo (J0d Try.underlying22 rfl) ?_)))
 replace ag := (ag.ch (Ch.start A w0)).ch c5.ch
 replace H := H ag.bd
 refine za rfl (zn (zq (zq ?_)))
 refine Go1.cut [(1, .pointer (some ⟨B2, 0, none⟩)), (3, .int .i64 (d.Final.length : Int))] ⟨rfl, rfl, trivial⟩ ?_
 intro σ _
 refine zr (zm rfl ?_)
 by_cases h9 : (512 : Int) < (d.Final.length : Int)
 ·replace H := ifp h9 H
  refine zo (fun w => opB (J1a rfl rfl w) (decide_eq_true h9)) (zn (zt rfl rfl (zq (zr (za rfl ?_)))))
  refine zn ?_
  refine Go1.ret1 Try.func61 rfl ?_
  replace hB := hB.trans c5.fr
  exact ⟨(3 : Int), rfl, hB.same, H⟩
 replace H := ifn h9 H
 refine zo (fun w => opB (J1a rfl rfl w) (decide_eq_false h9)) (zn (zf rfl rfl (zk (zq (zq ?_)))))
 refine zr (zo (J00 Try.underlying25 rfl ti23 rfl (by decide)) (zs (oblk (i := 3) 0 hO rfl rfl Try.underlying23 rfl rfl) (zo (J0d Try.underlying23 rfl) ?_)))
 replace ak := (ak.ch (Ch.start A w0)).ch c5.ch
 replace H := H ak.bd
 refine zm rfl ?_
 by_cases h10 : (d.Next.length : Int) = (d.Final.length : Int)
 ·replace H := ifp h10 H
  refine zo (fun w => opB (J0g rfl rfl w) (ndT h10)) (zm rfl (zo (J00 Try.underlying25 rfl ti3 rfl (by decide)) (zs (oblk (i := 1) 0 hO rfl rfl Try.underlying3 rfl rfl) ?_)))
  by_cases h11 : d.Start < (0 : Int)
  ·replace H := ifp h11 H
   refine zo (fun w => opB (J08 rfl rfl w) (decide_eq_true h11)) (zo (J05 rfl rfl rfl) (zm rfl (zp (zp (zp ?_)))))
   refine zp (zo (J06 rfl rfl rfl) (zn (zt rfl rfl (zq ?_))))
   refine Go1.cut [] trivial ?_
   intro σ _
   refine zr (za rfl (zn ?_))
   refine Go1.ret1 Try.func61 rfl ?_
   replace hB := hB.trans c5.fr
   exact ⟨(4 : Int), rfl, hB.same, H⟩
  replace H := ifn h11 H
  refine zo (fun w => opB (J08 rfl rfl w) (decide_eq_false h11)) (zo (J05 rfl rfl rfl) (zm rfl (zo (J00 Try.underlying25 rfl ti3 rfl (by decide)) (zs (oblk (i := 1) 0 hO rfl rfl Try.underlying3 rfl rfl) (zm rfl ?_)))))
  by_cases h12 : (d.Final.length : Int) ≤ d.Start
  ·replace H := ifp h12 H
   refine zo (fun w => opB (J1n rfl rfl w) (decide_eq_true h12)) (zo (J05 rfl rfl rfl) (zn (zt rfl rfl (zq (zr ?_)))))
   refine za rfl (zn ?_)
   refine Go1.ret1 Try.func61 rfl ?_
   replace hB := hB.trans c5.fr
   exact ⟨(4 : Int), rfl, hB.same, H⟩
  replace H := ifn h12 H
  refine zo (fun w => opB (J1n rfl rfl w) (decide_eq_false h12)) (zo (J05 rfl rfl rfl) (zn (zf rfl rfl (zk (zq ?_)))))
  refine zq (zr (zo (J00 Try.underlying25 rfl ti23 rfl (by decide)) (zs (oblk (i := 3) 0 hO rfl rfl Try.underlying23 rfl rfl) (zo (J0d Try.underlying23 rfl) (zm rfl ?_)))))
  refine zn (zb ?_)
  replace hB := hB.trans c5.fr
  refine Go1.loopW (S := Nat) (fun s σ w => agrees σ [(1, .pointer (some ⟨B2, 0, none⟩)), (3, .int .i64 (d.Final.length : Int)), (38, .slice bt d.Next.length bu), (39, .int .i64 (d.Next.length : Int)), (40, .int .i64 (s : Int))] ∧ (fun Z0 => Owns w0.heap.size w Z0 A ∧ ISl (Rp.bool) (bl Z0 ++ A) w bn bo d.Final ∧ ISl (Rp.sl (Rp.int .i64)) (bl Z0 ++ A) w bt bu d.Next ∧ Fr (bl []) w0 (bl Z0) w) [.blk B2 (.cells #[.int .i64 d.Letters, .int .i64 d.Start, .slice bn d.Final.length bo, .slice bt d.Next.length bu] 25 (0, 0))]) H ⟨⟨rfl, rfl, rfl, rfl, rfl, trivial⟩, hO, ag, ak, hB⟩ ?_
  intro X1 k1_14
  intro H hX1 σ w13
  refine andE fun hag => andE fun hO => andE fun ag => andE fun ak => fun hB => ?_
  refine Go1.keep [(1, .pointer (some ⟨B2, 0, none⟩)), (3, .int .i64 (d.Final.length : Int)), (38, .slice bt d.Next.length bu), (39, .int .i64 (d.Next.length : Int)), (40, .int .i64 (k1_14 : Int))] hag ?_
  refine zq (zr ?_)
  by_cases h15 : (k1_14 : Int) < (d.Next.length : Int)
  ·replace H := ifp h15 H
   refine zo (fun w => opB (J08 rfl rfl w) (decide_eq_true h15)) (zn (zq (zt rfl rfl (zk (zq ?_)))))
   refine zb (zq (zr ?_))
   obtain ⟨h16, H⟩ := H
   obtain ⟨h17, H⟩ := H
   refine zo (J02 Try.underlying23 ti31 rfl rfl h16 h17 (ak.some_ h16 h17)) ?_
   have zz := ldSl ak h16 h17
   obtain ⟨p18, c19, zx, QC⟩ := zz
   refine zs (QC Try.underlying31 rfl rfl) (za rfl (zn (zq (zq (zr ?_)))))
   refine zm rfl (zo (J0d Try.underlying31 rfl) ?_)
   replace H := H zx.bd
   refine zo (J00 Try.underlying25 rfl ti3 rfl (by decide)) (zs (oblk (i := 0) 0 hO rfl rfl Try.underlying3 rfl rfl) ?_)
   by_cases h22 : ((ix d.Next (k1_14 : Int)).length : Int) = d.Letters
   ·replace H := ifp h22 H
    refine zo (fun w => opB (J0g rfl rfl w) (ndT h22)) (zn (zf rfl rfl (zk (zq (zr ?_)))))
    refine zm rfl (zo (J0d Try.underlying31 rfl) (zm rfl (zn (zb ?_))))
    refine Go1.loopW (S := Nat) (fun s σ w => agrees σ [(1, .pointer (some ⟨B2, 0, none⟩)), (3, .int .i64 (d.Final.length : Int)), (38, .slice bt d.Next.length bu), (39, .int .i64 (d.Next.length : Int)), (40, .int .i64 (k1_14 : Int)), (49, .slice p18 ((ix d.Next (k1_14 : Int)).length) c19), (50, .int .i64 ((ix d.Next (k1_14 : Int)).length : Int)), (51, .int .i64 (s : Int))] ∧ (fun Z0 => Owns w0.heap.size w Z0 A ∧ ISl (Rp.bool) (bl Z0 ++ A) w bn bo d.Final ∧ ISl (Rp.sl (Rp.int .i64)) (bl Z0 ++ A) w bt bu d.Next ∧ ISl (Rp.int .i64) (bl Z0 ++ A) w p18 c19 (ix d.Next (k1_14 : Int)) ∧ Fr (bl []) w0 (bl Z0) w) [.blk B2 (.cells #[.int .i64 d.Letters, .int .i64 d.Start, .slice bn d.Final.length bo, .slice bt d.Next.length bu] 25 (0, 0))]) H ⟨⟨rfl, rfl, rfl, rfl, rfl, rfl, rfl, rfl, trivial⟩, hO, ag, ak, zx, hB⟩ ?_
    intro X2 k2_24
    intro H hX2 σ w23
    refine andE fun hag => andE fun hO => andE fun ag => andE fun ak => andE fun zx => fun hB => ?_
    refine Go1.keep [(1, .pointer (some ⟨B2, 0, none⟩)), (3, .int .i64 (d.Final.length : Int)), (38, .slice bt d.Next.length bu), (39, .int .i64 (d.Next.length : Int)), (40, .int .i64 (k1_14 : Int)), (49, .slice p18 ((ix d.Next (k1_14 : Int)).length) c19), (50, .int .i64 ((ix d.Next (k1_14 : Int)).length : Int)), (51, .int .i64 (k2_24 : Int))] hag ?_
    refine zq (zr ?_)
    by_cases h25 : (k2_24 : Int) < ((ix d.Next (k1_14 : Int)).length : Int)
    ·replace H := ifp h25 H
     refine zo (fun w => opB (J08 rfl rfl w) (decide_eq_true h25)) (zn (zq (zt rfl rfl (zk (zq ?_)))))
     refine zb (zq (zr ?_))
     obtain ⟨h26, H⟩ := H
     obtain ⟨h27, H⟩ := H
     refine zo (J02 Try.underlying31 ti3 rfl rfl h26 h27 (zx.some_ h26 h27)) (zs (ldInt zx h26 h27 Try.underlying3 rfl rfl) (za rfl (zn (zq (zr ?_)))))
     refine zm rfl ?_
     by_cases h28 : (ix (ix d.Next (k1_14 : Int)) (k2_24 : Int)) < (0 : Int)
     ·replace H := ifp h28 H
      refine zo (fun w => opB (J08 rfl rfl w) (decide_eq_true h28)) (zm rfl (zp (zp (zp (zo (J06 rfl rfl rfl) ?_)))))
      refine zn (zt rfl rfl (zq (zr (za rfl (zn ?_)))))
      refine Go1.ret1 Try.func61 rfl ?_
      exact ⟨(4 : Int), rfl, hB.same, H⟩
     replace H := ifn h28 H
     refine zo (fun w => opB (J08 rfl rfl w) (decide_eq_false h28)) (zm rfl (zm rfl (zm rfl ?_)))
     by_cases h29 : (d.Final.length : Int) ≤ (ix (ix d.Next (k1_14 : Int)) (k2_24 : Int))
     ·replace H := ifp h29 H
      refine zo (fun w => opB (J1n rfl rfl w) (decide_eq_true h29)) (zo (J05 rfl rfl rfl) (zn (zt rfl rfl (zq (zr ?_)))))
      refine za rfl (zn ?_)
      refine Go1.ret1 Try.func61 rfl ?_
      exact ⟨(4 : Int), rfl, hB.same, H⟩
     replace H := ifn h29 H
     refine zo (fun w => opB (J1n rfl rfl w) (decide_eq_false h29)) (zo (J05 rfl rfl rfl) (zn (zf rfl rfl (zk ?_))))
     refine Go1.inBlock ?_
     refine Go1.cut [(1, .pointer (some ⟨B2, 0, none⟩)), (3, .int .i64 (d.Final.length : Int)), (38, .slice bt d.Next.length bu), (39, .int .i64 (d.Next.length : Int)), (40, .int .i64 (k1_14 : Int)), (49, .slice p18 ((ix d.Next (k1_14 : Int)).length) c19), (50, .int .i64 ((ix d.Next (k1_14 : Int)).length : Int)), (51, .int .i64 (k2_24 : Int))] ⟨rfl, rfl, rfl, rfl, rfl, rfl, rfl, rfl, trivial⟩ ?_
     intro σ _
     refine zr (zo (J0c rfl rfl (wrap_i64 (natbd h25 zx.bd))) (zm rfl (zn ?_)))
     exact hX2 _ H _ _ ⟨⟨rfl, rfl, rfl, rfl, rfl, rfl, rfl, rfl, trivial⟩, hO, ag, ak, zx, hB⟩
    replace H := ifn h25 H
    refine zo (fun w => opB (J08 rfl rfl w) (decide_eq_false h25)) (zn (zq (zf rfl rfl ?_)))
    refine Go1.exit rfl ?_
    refine Go1.inBlock ?_
    refine zr (zo (J0c rfl rfl (wrap_i64 (natbd h15 ak.bd))) (zm rfl (zn ?_)))
    exact hX1 _ H _ _ ⟨⟨rfl, rfl, rfl, rfl, rfl, trivial⟩, hO, ag, ak, hB⟩
   replace H := ifn h22 H
   refine zo (fun w => opB (J0g rfl rfl w) (ndF h22)) (zn (zt rfl rfl (zq (zr (za rfl ?_)))))
   refine zn ?_
   refine Go1.ret1 Try.func61 rfl ?_
   exact ⟨(4 : Int), rfl, hB.same, H⟩
  replace H := ifn h15 H
  refine zo (fun w => opB (J08 rfl rfl w) (decide_eq_false h15)) (zn (zq (zf rfl rfl ?_)))
  refine Go1.exit rfl ?_
  refine zq (zr (za rfl (zn ?_)))
  refine Go1.ret1 Try.func61 rfl ?_
  exact ⟨(0 : Int), rfl, hB.same, H⟩
 replace H := ifn h10 H
 refine zo (fun w => opB (J0g rfl rfl w) (ndF h10)) (zm rfl (zp (zp (zp (zo (J06 rfl rfl rfl) ?_)))))
 refine zm rfl (zp (zp (zp (zp (zo (J06 rfl rfl rfl) ?_)))))
 refine zn (zt rfl rfl (zq (zr (za rfl (zn ?_)))))
 refine Go1.ret1 Try.func61 rfl ?_
 replace hB := hB.trans c5.fr
 exact ⟨(4 : Int), rfl, hB.same, H⟩
theorem body141 : Body Try.prog 141 := ⟨Try.f141, Try.func141, rfl, by kernel_rfl⟩
theorem body140 : Body Try.prog 140 := ⟨Try.f140, Try.func140, rfl, by kernel_rfl⟩
theorem body163 : Body Try.prog 163 := ⟨Try.f163, Try.func163, rfl, by kernel_rfl⟩
theorem body139 : Body Try.prog 139 := ⟨Try.f139, Try.func139, rfl, by kernel_rfl⟩
theorem body109 : Body Try.prog 109 := ⟨Try.f109, Try.func109, rfl, by kernel_rfl⟩
theorem walk_dfa_Trim {A : List Nat} {w0 : World} {bn : Option Addr} {bo : Nat} {bt : Option Addr} {bu : Nat} {d : DFA} (hA : ∀ b ∈ A, b < w0.heap.size) (ag : ISl (Rp.bool) A w0 bn bo d.Final) (ak : ISl (Rp.sl (Rp.int .i64)) A w0 bt bu d.Next) {K : DFA → List Int → Prop} (H : dfa_Trim d K) :
    CallsV Try.prog 109 #[.agg #[.int .i64 d.Letters, .int .i64 d.Start, .slice bn d.Final.length bo, .slice bt d.Next.length bu]] w0 (fun v w' => ∃ (r0 : DFA) (r1 : List Int) (iR : Option Addr) (iT : Nat) (jv : Option Addr) (jw : Nat) (AX : Option Addr) (AY : Nat), v = .tuple #[.agg #[.int .i64 r0.Letters, .int .i64 r0.Start, .slice iR r0.Final.length iT, .slice jv r0.Next.length jw], .slice AX r1.length AY] ∧ Same w0 w' ∧ ISl (Rp.bool) A w' iR iT r0.Final ∧ ISl (Rp.sl (Rp.int .i64)) A w' jv jw r0.Next ∧ ISl (Rp.int .i64) A w' AX AY r1 ∧ K r0 r1) := by
 refine CallsV.of (l := [.agg #[.int .i64 d.Letters, .int .i64 d.Start, .slice bn d.Final.length bo, .slice bt d.Next.length bu]]) Try.func109 rfl Try.ntmps109 rfl ?_
 have hO := Owns.start hA
 have hB := Fr.refl (bl []) w0
 unfold dfa_Trim at H
 refine zq (zr ?_)
 have zz := obox (t := 25) (v := .agg #[.int .i64 d.Letters, .int .i64 d.Start, .slice bn d.Final.length bo, .slice bt d.Next.length bu]) (cs := #[.int .i64 d.Letters, .int .i64 d.Start, .slice bn d.Final.length bo, .slice bt d.Next.length bu]) hO rfl
 obtain ⟨w1, B2, c5, hs4, iQ⟩ := zz
 refine zg (iQ rfl) ?_
 replace hO := c5.own
 have zz := oalloc (t := 25) (cs := #[.int .i64 0, .int .i64 0, .slice none 0 0, .slice none 0 0]) ti25 hO rfl
 obtain ⟨w7, B8, f7, wX, tw⟩ := zz
 refine GoR.op tw rfl rfl ?_
 replace hO := f7.own
 refine za rfl (zn (zq (zq (zr (zs (J0n (vs := [.int .i64 d.Letters, .int .i64 d.Start, .slice bn d.Final.length bo, .slice bt d.Next.length bu]) (i := 0) 1 hO rfl rfl Try.underlying25 rfl ti25 rfl) ?_)))))
 have Z1 := ((Ch.start A w0).trans c5.ch).trans f7.ch
 replace ag := ag.ch Z1
 replace ak := ak.ch Z1
 refine GoR.call (J0a body61 rfl (J18 (d := d) hO.lt ag ak H)) rfl rfl ?_
 rintro v17 w14 ⟨r13, rfl, xw, H⟩
 have gG := Stp.same hO xw
 replace hO := gG.own
 by_cases h19 : r13 = (0 : Int)
 ·replace H := ifp h19 H
  refine zo (fun w => opB (J0g rfl rfl w) (ndT h19)) (zn (zf rfl rfl (zk (zq (zr ?_)))))
  refine zo (J00 Try.underlying25 rfl ti3 rfl (by decide)) (zs (oblk (i := 0) 1 hO rfl rfl Try.underlying3 rfl rfl) (zo (J00 Try.underlying25 rfl ti3 rfl (by decide)) (zs (oblk (i := 1) 1 hO rfl rfl Try.underlying3 rfl rfl) (zo (op_makeFunc (vs := [.pointer (some ⟨B2, 0, none⟩)]) rfl) (zo (op_makeFunc (vs := [.pointer (some ⟨B2, 0, none⟩)]) rfl) ?_)))))
  refine GoR.inl (vs := [.int .i64 d.Letters, .int .i64 d.Start, .func (.func 140) #[] #[.pointer (some ⟨B2, 0, none⟩)], .func (.func 141) #[] #[.pointer (some ⟨B2, 0, none⟩)]]) (caps := []) rfl rfl body139 Try.func139 rfl Try.ntmps139 rfl rfl rfl ?_
  intro RhR20 hR20
  refine zq (zr ?_)
  have zz := oalloc (t := 25) (cs := #[.int .i64 0, .int .i64 0, .slice none 0 0, .slice none 0 0]) ti25 hO rfl
  obtain ⟨w21, B22, mc, Iq, Ab⟩ := zz
  refine GoR.op Ab rfl rfl ?_
  replace hO := mc.own
  refine za rfl (za rfl (zn (zq (zr ?_))))
  have zz := oalloc (t := 188) (cs := #[.slice none 0 0, .map none]) ti188 hO rfl
  obtain ⟨w27, B28, t6, Fj, DY⟩ := zz
  refine GoR.op DY rfl rfl ?_
  replace hO := t6.own
  refine zn (zq (zr (zm rfl ?_)))
  refine GoR.inl (vs := [.pointer (some ⟨B28, 0, none⟩), .int .i64 d.Start]) (caps := []) rfl rfl body163 Try.func163 rfl Try.ntmps163 rfl rfl rfl ?_
  intro RhR33 hR33
  refine zq ?_
  refine Go1.cut [(0, .pointer (some ⟨B28, 0, none⟩)), (1, .int .i64 d.Start)] ⟨rfl, rfl, trivial⟩ ?_
  intro σ _
  refine zr (za rfl (zn (zq (zr (zm rfl ?_)))))
  refine zo (J01 rfl) (zo (J00 Try.underlying188 rfl ti168 rfl (by decide)) (zs (oblk (i := 1) 0 hO rfl rfl Try.underlying168 rfl rfl) (zm rfl (zs (fun w _ => olookN (a := d.Start) (MK.int Try.underlying3) Try.underlying168 ti3 rfl rfl w) (zm rfl ?_)))))
  refine zo (J07 rfl rfl) (zo (J07 rfl rfl) (za rfl (za rfl (zn (zq ?_)))))
  refine zq (zr (zm rfl (zo (J0p rfl) (zn (zt rfl rfl ?_)))))
  refine zq (zq (zr (zm rfl (zo (J01 rfl) (zo (J00 Try.underlying188 rfl ti168 rfl (by decide)) ?_)))))
  refine zs (oblk (i := 1) 0 hO rfl rfl Try.underlying168 rfl rfl) (zo (fun w => opB (op_nilMap Try.underlying168 rfl rfl w) rfl) (zn (zt rfl rfl ?_)))
  refine Go1.cut [(0, .pointer (some ⟨B28, 0, none⟩)), (1, .int .i64 d.Start)] ⟨rfl, rfl, trivial⟩ ?_
  intro σ _
  refine zr (zm rfl ?_)
  have zz := omakeMap (fun a : Int => Value.int .i64 a) (fun a : Int => Value.int .i64 a) hO
  obtain ⟨w34, B35, t7, UT, D0⟩ := zz
  refine GoR.op D0 rfl rfl ?_
  replace hO := t7.own
  refine zo (J01 rfl) (zo (J00 Try.underlying188 rfl ti168 rfl (by decide)) ?_)
  have zz := J0f (v := .map (some B35)) (i := 1) (cs' := #[.slice none 0 0, .map (some B35)]) 1 hO rfl rfl rfl rfl
  obtain ⟨w40, mS, LT⟩ := zz
  dsimp only [sS, sZ] at mS
  refine zg (LT Try.underlying168 rfl ti168 (by exact rfl) (by exact rfl)) ?_
  replace hO := mS.own
  refine zn (zq (zr (zm rfl (zo (J01 rfl) (zo (J00 Try.underlying188 rfl ti31 rfl (by decide)) ?_)))))
  refine zs (oblk (i := 0) 1 hO rfl rfl Try.underlying31 rfl rfl) (zo (J0d Try.underlying31 rfl) (za rfl (zn (zq (zr ?_)))))
  refine zm rfl (zo (J01 rfl) (zo (J00 Try.underlying188 rfl ti168 rfl (by decide)) (zs (oblk (i := 1) 1 hO rfl rfl Try.underlying168 rfl rfl) (zm rfl (zm rfl ?_)))))
  have zz := omapUpd (MK.int Try.underlying3) 0 hO rfl Try.underlying168 d.Start (0 : Int)
  obtain ⟨w43, qF, LU⟩ := zz
  dsimp only [sS, sZ] at qF
  refine zg (LU (by exact rfl) (by exact rfl) (by exact rfl)) ?_
  replace hO := qF.own
  refine zn (zr (zm rfl (zm rfl (zo (J01 rfl) (zo (J00 Try.underlying188 rfl ti31 rfl (by decide)) ?_)))))
  refine zs (oblk (i := 0) 1 hO rfl rfl Try.underlying31 rfl rfl) (zm rfl ?_)
  have zz := J0j (r := Rp.int .i64) (n := 1) (parts := [(0, .int .i64 d.Start)]) (vs := [.int .i64 d.Start]) (xs := [d.Start]) rfl Try.underlying31 ti3 hO (by decide) (by kernel_rfl) (Els.cons rfl rfl (Els.nil _ _ _) (by simp [mx])) rfl
  obtain ⟨w46, p47, sK, Fk, UU, LV⟩ := zz
  refine zg (LV rfl) ?_
  replace hO := sK.own
  have zz := freeze 0 hO rfl Fk
  obtain ⟨hO1, Fm, tH, QD⟩ := zz
  dsimp only [eS, eZ] at hO1 Fm tH
  replace hB := (((((((((hB.trans c5.fr).trans f7.fr).trans gG.fr).trans mc.fr).trans t6.fr).trans t7.fr).trans mS.fr).trans qF.fr).trans sK.fr).trans (Owns.J09 _ _ 0)
  dsimp only [eS, eZ] at hB
  replace hO := hO1; clear hO1
  have ir := Stp.nil (e := 3) (r := 1) hO
  replace hO := ir.own
  have QE := Els.nil (Rp.int .i64) (bl (.row 3 1 none 0 0 [] :: [.any (mapE (fun a : Int => Value.int .i64 a) (fun a : Int => Value.int .i64 a) B35 (mput (([] : List (Int × Int))) d.Start ((0 : Int)))), .blk B28 (.cells #[.slice none 0 0, .map (some B35)] 188 (0, 0)), .blk B22 (.cells #[.int .i64 0, .int .i64 0, .slice none 0 0, .slice none 0 0] 25 (0, 0)), .blk B8 (.cells #[.int .i64 0, .int .i64 0, .slice none 0 0, .slice none 0 0] 25 (0, 0)), .blk B2 (.cells #[.int .i64 d.Letters, .int .i64 d.Start, .slice bn d.Final.length bo, .slice bt d.Next.length bu] 25 (0, 0))]) ++ A) w46
  obtain ⟨h59, H⟩ := H
  replace tH := tH.ch ir.ch
  have zz := oapp Try.underlying31 ti3 rfl 0 hO rfl QE tH QD h59 (by decide)
  obtain ⟨w60, p61, c62, Fo, yu, vN, LX⟩ := zz
  dsimp only [sS, sZ] at yu vN
  refine zg (LX (by exact rfl) (by exact rfl)) ?_
  replace hO := yu.own
  refine zo (J01 rfl) (zo (J00 Try.underlying188 rfl ti31 rfl (by decide)) ?_)
  have zz := J0f (v := .slice p61 (0 + 1) c62) (i := 0) (cs' := #[.slice p61 (0 + 1) c62, .map (some B35)]) 2 hO rfl rfl rfl rfl
  obtain ⟨w68, me, LY⟩ := zz
  dsimp only [sS, sZ] at me
  refine zg (LY Try.underlying31 rfl ti31 (by exact rfl) (by exact rfl)) ?_
  replace hO := me.own
  refine zn (zq ?_)
  refine Go1.cut [(5, .int .i64 0)] ⟨rfl, trivial⟩ ?_
  intro σ _
  refine zr (zm rfl (za rfl (zn ?_)))
  refine Go1.ret1V Try.func163 rfl (show _ = .int .i64 0 from rfl) ?_
  refine hR33 _ _ ?_
  refine zn (zq (zr (zm rfl (zo (J0s Try.underlying25 ti25 (pl := [(0, 1), (1, 1), (2, 1), (3, 1)]) (vs := [(0, .int .i64 d.Letters)]) (cs := #[.int .i64 d.Letters, .int .i64 0, .slice none 0 0, .slice none 0 0]) (by kernel_rfl) rfl (by kernel_rfl)) ?_))))
  have zz := oalloc (t := 25) (cs := #[.int .i64 0, .int .i64 0, .slice none 0 0, .slice none 0 0]) ti25 hO rfl
  obtain ⟨w71, B72, yv, QF, D1⟩ := zz
  refine GoR.op D1 rfl rfl ?_
  replace hO := yv.own
  have zz := J0b (us := [.int .i64 d.Letters, .int .i64 0, .slice none 0 0, .slice none 0 0]) (o := 0) (cs' := #[.int .i64 d.Letters, .int .i64 0, .slice none 0 0, .slice none 0 0]) 0 hO rfl rfl (Nat.le_of_ble_eq_true rfl) rfl
  obtain ⟨w77, xx, L1⟩ := zz
  dsimp only [sS, sZ] at xx
  refine zg (L1 ti25 (by exact rfl) (by exact rfl) rfl) ?_
  replace hO := xx.own
  refine zn (zq (zq (zr (za rfl (zn ?_)))))
  refine zb ?_
  have jx := Stp.nil (e := 4) (r := 1) hO
  replace hO := jx.own
  have zy := Els.nil (Rp.bool) (bl (.row 4 1 none 0 0 [] :: [.blk B72 (.cells #[.int .i64 d.Letters, .int .i64 0, .slice none 0 0, .slice none 0 0] 25 (0, 0)), .row 3 1 p61 (0 + 1) c62 Fo, .any (mapE (fun a : Int => Value.int .i64 a) (fun a : Int => Value.int .i64 a) B35 (mput (([] : List (Int × Int))) d.Start ((0 : Int)))), .blk B28 (.cells #[.slice p61 (0 + 1) c62, .map (some B35)] 188 (0, 0)), .blk B22 (.cells #[.int .i64 0, .int .i64 0, .slice none 0 0, .slice none 0 0] 25 (0, 0)), .blk B8 (.cells #[.int .i64 0, .int .i64 0, .slice none 0 0, .slice none 0 0] 25 (0, 0)), .blk B2 (.cells #[.int .i64 d.Letters, .int .i64 d.Start, .slice bn d.Final.length bo, .slice bt d.Next.length bu] 25 (0, 0))]) ++ A) w77
  have tx := Stp.nil (e := 31) (r := 1) hO
  replace hO := tx.own
  have zA := Els.nil (Rp.sl (Rp.int .i64)) (bl (.row 31 1 none 0 0 [] :: [.row 4 1 none 0 0 [], .blk B72 (.cells #[.int .i64 d.Letters, .int .i64 0, .slice none 0 0, .slice none 0 0] 25 (0, 0)), .row 3 1 p61 (0 + 1) c62 Fo, .any (mapE (fun a : Int => Value.int .i64 a) (fun a : Int => Value.int .i64 a) B35 (mput (([] : List (Int × Int))) d.Start ((0 : Int)))), .blk B28 (.cells #[.slice p61 (0 + 1) c62, .map (some B35)] 188 (0, 0)), .blk B22 (.cells #[.int .i64 0, .int .i64 0, .slice none 0 0, .slice none 0 0] 25 (0, 0)), .blk B8 (.cells #[.int .i64 0, .int .i64 0, .slice none 0 0, .slice none 0 0] 25 (0, 0)), .blk B2 (.cells #[.int .i64 d.Letters, .int .i64 d.Start, .slice bn d.Final.length bo, .slice bt d.Next.length bu] 25 (0, 0))]) ++ A) w77
  replace zy := zy.ch tx.ch
  have Z2 := (((me.ch.trans yv.ch).trans xx.ch).trans jx.ch).trans tx.ch
  replace vN := vN.ch Z2
  replace hB := ((((((hB.trans ir.fr).trans yu.fr).trans me.fr).trans yv.fr).trans xx.fr).trans jx.fr).trans tx.fr
  have Z3 := (((((((((((((gG.ch.trans mc.ch).trans t6.ch).trans t7.ch).trans mS.ch).trans qF.ch).trans sK.ch).trans Fm).trans ir.ch).trans yu.ch).trans me.ch).trans yv.ch).trans xx.ch).trans jx.ch).trans tx.ch
  replace ag := ag.ch Z3
  replace ak := ak.ch Z3
  refine Go1.loopW (S := Nat × List (List Int) × List Bool × List Int × (List (Int × Int))) (fun s σ w => match s with | (k1_87, d_88, d_94, d_100, m1_106) => ∃ (n93 : Nat) (p91 : Option Addr) (c92 : Nat) (gy : List Value) (n99 : Nat) (p97 : Option Addr) (c98 : Nat) (gu : List Value) (fV : Nat) (fW : Option Addr) (fX : Nat) (gn : List Value), agrees σ [(0, .int .i64 d.Letters), (2, .func (.func 140) #[] #[.pointer (some ⟨B2, 0, none⟩)]), (3, .func (.func 141) #[] #[.pointer (some ⟨B2, 0, none⟩)]), (8, .pointer (some ⟨B22, 0, none⟩)), (11, .pointer (some ⟨B28, 0, none⟩)), (12, .pointer (some ⟨B72, 0, none⟩)), (13, .int .i64 (k1_87 : Int))] ∧ (fun Z0 => Owns w0.heap.size w Z0 A ∧ Els (Rp.sl (Rp.int .i64)) (bl Z0 ++ A) w gy d_88 ∧ Els (Rp.bool) (bl Z0 ++ A) w gu d_94 ∧ Els (Rp.int .i64) (bl Z0 ++ A) w gn d_100 ∧ ISl (Rp.bool) (bl Z0 ++ A) w bn bo d.Final ∧ ISl (Rp.sl (Rp.int .i64)) (bl Z0 ++ A) w bt bu d.Next ∧ Fr (bl []) w0 (bl Z0) w) [.row 31 1 p91 n93 c92 gy, .row 4 1 p97 n99 c98 gu, .blk B72 (.cells #[.int .i64 d.Letters, .int .i64 0, .slice p97 n99 c98, .slice p91 n93 c92] 25 (0, 0)), .row 3 1 fW fV fX gn, .any (mapE (fun a : Int => Value.int .i64 a) (fun a : Int => Value.int .i64 a) B35 m1_106), .blk B28 (.cells #[.slice fW fV fX, .map (some B35)] 188 (0, 0)), .blk B22 (.cells #[.int .i64 0, .int .i64 0, .slice none 0 0, .slice none 0 0] 25 (0, 0)), .blk B8 (.cells #[.int .i64 0, .int .i64 0, .slice none 0 0, .slice none 0 0] 25 (0, 0)), .blk B2 (.cells #[.int .i64 d.Letters, .int .i64 d.Start, .slice bn d.Final.length bo, .slice bt d.Next.length bu] 25 (0, 0))]) H ⟨0, none, 0, [], 0, none, 0, [], 0 + 1, p61, c62, Fo, ⟨rfl, rfl, rfl, rfl, rfl, rfl, rfl, trivial⟩, hO, zA, zy, vN, ag, ak, hB⟩ ?_
  intro X1
  refine prE fun k1_87 => prE fun d_88 => prE fun d_94 => prE fun d_100 => fun m1_106 => ?_
  intro H hX1 σ w86
  refine exE fun n93 => exE fun p91 => exE fun c92 => exE fun gy => exE fun n99 => exE fun p97 => exE fun c98 => exE fun gu => exE fun fV => exE fun fW => exE fun fX => exE fun gn => andE fun hag => andE fun hO => andE fun cP => andE fun cN => andE fun cO => andE fun ag => andE fun ak => fun hB => ?_
  dsimp only at H
  refine Go1.keep [(0, .int .i64 d.Letters), (2, .func (.func 140) #[] #[.pointer (some ⟨B2, 0, none⟩)]), (3, .func (.func 141) #[] #[.pointer (some ⟨B2, 0, none⟩)]), (8, .pointer (some ⟨B22, 0, none⟩)), (11, .pointer (some ⟨B28, 0, none⟩)), (12, .pointer (some ⟨B72, 0, none⟩)), (13, .int .i64 (k1_87 : Int))] hag ?_
  refine zq (zq (zr (zm rfl (zo (J00 Try.underlying188 rfl ti31 rfl (by decide)) (zs (oblk (i := 0) 5 hO rfl rfl Try.underlying31 rfl rfl) ?_)))))
  refine zo (J0w Try.underlying31 rfl (cO.neq hO 3 rfl)) ?_
  by_cases nN : (k1_87 : Int) < (d_100.length : Int)
  ·replace H := ifp nN H
   refine zo (fun w => opB (J08 rfl rfl w) (decide_eq_true nN)) (zn (zt rfl rfl (zk (zq (zb ?_)))))
   refine zq (zr (zo (J00 Try.underlying188 rfl ti31 rfl (by decide)) (zs (oblk (i := 0) 5 hO rfl rfl Try.underlying31 rfl rfl) (zm rfl ?_))))
   obtain ⟨qG, H⟩ := H
   obtain ⟨vO, H⟩ := H
   refine zo (J02 Try.underlying31 ti3 rfl rfl qG (ltn (cO.neq hO 3 rfl) vO) (cO.psome hO 3 rfl qG vO)) (zs (oldInt 3 hO rfl cO qG vO Try.underlying3 rfl rfl) (za rfl (zn (zq (zr ?_)))))
   refine zm rfl ?_
   obtain ⟨A4, H⟩ := H
   obtain ⟨QG, H⟩ := H
   have zz := omake (n := d.Letters) (r := Rp.int .i64) (d := (0 : Int)) Try.underlying31 ti3 (fun _ _ => rfl) rfl hO A4 QG (by decide)
   obtain ⟨UV, uv, pg, kY, HQ, TW, Ir⟩ := zz
   refine zg (Ir rfl rfl) ?_
   replace hO := kY.own
   refine za rfl (zn (zq (zq (zr (zm rfl ?_)))))
   refine zo (J0w Try.underlying31 rfl (HQ.neq hO 0 rfl)) (zm rfl (zn (zb ?_)))
   replace cP := cP.ch kY.ch
   replace cN := cN.ch kY.ch
   replace cO := cO.ch kY.ch
   replace ag := ag.ch kY.ch
   replace ak := ak.ch kY.ch
   replace hB := hB.trans kY.fr
   refine Go1.loopW (S := Nat × List Int × List Int × (List (Int × Int))) (fun s σ w => match s with | (k2_121, d_122, d_125, m2_131) => ∃ (u4 : List Value) (mT : Nat) (o6 : Option Addr) (o7 : Nat) (tz : List Value), agrees σ [(0, .int .i64 d.Letters), (2, .func (.func 140) #[] #[.pointer (some ⟨B2, 0, none⟩)]), (3, .func (.func 141) #[] #[.pointer (some ⟨B2, 0, none⟩)]), (8, .pointer (some ⟨B22, 0, none⟩)), (11, .pointer (some ⟨B28, 0, none⟩)), (12, .pointer (some ⟨B72, 0, none⟩)), (13, .int .i64 (k1_87 : Int)), (14, .int .i64 (ix d_100 (k1_87 : Int))), (15, .slice uv d.Letters.toNat d.Letters.toNat), (36, .int .i64 ((List.replicate d.Letters.toNat ((0 : Int))).length : Int)), (37, .int .i64 (k2_121 : Int))] ∧ (fun Z0 => Owns w0.heap.size w Z0 A ∧ Els (Rp.int .i64) (bl Z0 ++ A) w u4 d_122 ∧ Els (Rp.sl (Rp.int .i64)) (bl Z0 ++ A) w gy d_88 ∧ Els (Rp.bool) (bl Z0 ++ A) w gu d_94 ∧ Els (Rp.int .i64) (bl Z0 ++ A) w tz d_125 ∧ ISl (Rp.bool) (bl Z0 ++ A) w bn bo d.Final ∧ ISl (Rp.sl (Rp.int .i64)) (bl Z0 ++ A) w bt bu d.Next ∧ Fr (bl []) w0 (bl Z0) w) [.row 3 1 uv d.Letters.toNat d.Letters.toNat u4, .row 31 1 p91 n93 c92 gy, .row 4 1 p97 n99 c98 gu, .blk B72 (.cells #[.int .i64 d.Letters, .int .i64 0, .slice p97 n99 c98, .slice p91 n93 c92] 25 (0, 0)), .row 3 1 o6 mT o7 tz, .any (mapE (fun a : Int => Value.int .i64 a) (fun a : Int => Value.int .i64 a) B35 m2_131), .blk B28 (.cells #[.slice o6 mT o7, .map (some B35)] 188 (0, 0)), .blk B22 (.cells #[.int .i64 0, .int .i64 0, .slice none 0 0, .slice none 0 0] 25 (0, 0)), .blk B8 (.cells #[.int .i64 0, .int .i64 0, .slice none 0 0, .slice none 0 0] 25 (0, 0)), .blk B2 (.cells #[.int .i64 d.Letters, .int .i64 d.Start, .slice bn d.Final.length bo, .slice bt d.Next.length bu] 25 (0, 0))]) H ⟨pg, fV, fW, fX, gn, ⟨rfl, rfl, rfl, rfl, rfl, rfl, rfl, rfl, rfl, rfl, rfl, trivial⟩, hO, HQ, cP, cN, cO, ag, ak, hB⟩ ?_
   intro X2
   refine prE fun k2_121 => prE fun d_122 => prE fun d_125 => fun m2_131 => ?_
   intro H hX2 σ UW
   refine exE fun u4 => exE fun mT => exE fun o6 => exE fun o7 => exE fun tz => andE fun hag => andE fun hO => andE fun jk => andE fun cP => andE fun cN => andE fun fh => andE fun ag => andE fun ak => fun hB => ?_
   dsimp only at H
   refine Go1.keep [(0, .int .i64 d.Letters), (2, .func (.func 140) #[] #[.pointer (some ⟨B2, 0, none⟩)]), (3, .func (.func 141) #[] #[.pointer (some ⟨B2, 0, none⟩)]), (8, .pointer (some ⟨B22, 0, none⟩)), (11, .pointer (some ⟨B28, 0, none⟩)), (12, .pointer (some ⟨B72, 0, none⟩)), (13, .int .i64 (k1_87 : Int)), (14, .int .i64 (ix d_100 (k1_87 : Int))), (15, .slice uv d.Letters.toNat d.Letters.toNat), (36, .int .i64 ((List.replicate d.Letters.toNat ((0 : Int))).length : Int)), (37, .int .i64 (k2_121 : Int))] hag ?_
   refine zq (zr ?_)
   by_cases xT : (k2_121 : Int) < ((List.replicate d.Letters.toNat ((0 : Int))).length : Int)
   ·replace H := ifp xT H
    refine zo (fun w => opB (J08 rfl rfl w) (decide_eq_true xT)) (zn (zq (zt rfl rfl (zk (zq ?_)))))
    refine zb (zq (zr (zm rfl (za rfl (zn ?_)))))
    refine zr (zm rfl (zm rfl (zm rfl (zm rfl (zm rfl ?_)))))
    refine GoR.inl (vs := [.int .i64 (ix d_100 (k1_87 : Int)), .int .i64 (k2_121 : Int)]) (caps := [.pointer (some ⟨B2, 0, none⟩)]) rfl rfl body140 Try.func140 rfl Try.ntmps140 rfl rfl rfl ?_
    intro RhR133 hR133
    refine zq (zr (za rfl (zn (zq (zr ?_)))))
    refine zo (J00 Try.underlying25 rfl ti23 rfl (by decide)) (zs (oblk (i := 3) 9 hO rfl rfl Try.underlying23 rfl rfl) (zm rfl ?_))
    obtain ⟨Fp, H⟩ := H
    obtain ⟨Fq, H⟩ := H
    refine zo (J02 Try.underlying23 ti31 rfl rfl Fp Fq (ak.some_ Fp Fq)) ?_
    have zz := ldSl ak Fp Fq
    obtain ⟨UX, UY, kg, L5⟩ := zz
    refine zs (L5 Try.underlying31 rfl rfl) (zm rfl ?_)
    obtain ⟨zB, H⟩ := H
    obtain ⟨xz, H⟩ := H
    refine zo (J02 Try.underlying31 ti3 rfl rfl zB xz (kg.some_ zB xz)) (zs (ldInt kg zB xz Try.underlying3 rfl rfl) (za rfl (zn ?_)))
    refine Go1.ret1V Try.func140 rfl (show _ = .int .i64 (ix (ix d.Next (ix d_100 (k1_87 : Int))) (k2_121 : Int)) from rfl) ?_
    refine hR133 _ _ ?_
    refine GoR.inl (vs := [.pointer (some ⟨B28, 0, none⟩), .int .i64 (ix (ix d.Next (ix d_100 (k1_87 : Int))) (k2_121 : Int))]) (caps := []) rfl rfl body163 Try.func163 rfl Try.ntmps163 rfl rfl rfl ?_
    intro RhR142 hR142
    refine zq ?_
    refine Go1.cut [(0, .pointer (some ⟨B28, 0, none⟩)), (1, .int .i64 (ix (ix d.Next (ix d_100 (k1_87 : Int))) (k2_121 : Int)))] ⟨rfl, rfl, trivial⟩ ?_
    intro σ _
    refine zr (za rfl (zn (zq (zr (zm rfl ?_)))))
    refine zo (J01 rfl) (zo (J00 Try.underlying188 rfl ti168 rfl (by decide)) (zs (oblk (i := 1) 6 hO rfl rfl Try.underlying168 rfl rfl) (zm rfl ?_)))
    by_cases D2 : mhas m2_131 ((ix (ix d.Next (ix d_100 (k1_87 : Int))) (k2_121 : Int))) = true
    ·replace H := ifp D2 H
     refine zs (olookT (a := (ix (ix d.Next (ix d_100 (k1_87 : Int))) (k2_121 : Int))) (MK.int Try.underlying3) 5 hO rfl Try.underlying168 rfl rfl D2) (zm rfl (zo (J07 rfl rfl) (zo (J07 rfl rfl) (za rfl (za rfl ?_)))))
     refine zn (zq (zq (zr (zm rfl (zo (J0p rfl) ?_)))))
     refine zn (zf rfl rfl (zk (zq (zr (zm rfl ?_)))))
     refine za rfl (zn ?_)
     refine Go1.ret1V Try.func163 rfl (show _ = .int .i64 (mgt m2_131 ((ix (ix d.Next (ix d_100 (k1_87 : Int))) (k2_121 : Int)))) from rfl) ?_
     refine hR142 _ _ ?_
     obtain ⟨Fs, H⟩ := H
     obtain ⟨Ft, H⟩ := H
     refine zo (J02 Try.underlying31 ti3 rfl rfl Fs (ltn (jk.neq hO 0 rfl) Ft) (jk.psome hO 0 rfl Fs Ft)) ?_
     have zz := ost (r := Rp.int .i64) rfl 0 hO rfl jk Fs Ft (v := .int .i64 (mgt m2_131 ((ix (ix d.Next (ix d_100 (k1_87 : Int))) (k2_121 : Int))))) (u := (mgt m2_131 ((ix (ix d.Next (ix d_100 (k1_87 : Int))) (k2_121 : Int))))) rfl rfl
     obtain ⟨U0, D3, mp, d5, Iu⟩ := zz
     dsimp only [sS, sZ] at mp d5
     refine zg (Iu Try.underlying3 rfl ti3 (by exact rfl) (by exact rfl)) ?_
     replace hO := mp.own
     refine zn ?_
     refine Go1.inBlock ?_
     refine zr ?_
     obtain ⟨QH, H⟩ := H
     refine zo (J0c rfl rfl (wrap_i64 QH)) (zm rfl (zn ?_))
     replace cP := cP.ch mp.ch
     replace cN := cN.ch mp.ch
     replace fh := fh.ch mp.ch
     replace ag := ag.ch mp.ch
     replace ak := ak.ch mp.ch
     replace hB := hB.trans mp.fr
     exact hX2 _ H _ _ ⟨D3, mT, o6, o7, tz, ⟨rfl, rfl, rfl, rfl, rfl, rfl, rfl, rfl, rfl, rfl, rfl, trivial⟩, hO, d5, cP, cN, fh, ag, ak, hB⟩
    replace H := ifn D2 H
    refine zs (olookF (a := (ix (ix d.Next (ix d_100 (k1_87 : Int))) (k2_121 : Int))) (MK.int Try.underlying3) 5 hO rfl Try.underlying168 ti3 rfl rfl D2) (zm rfl (zo (J07 rfl rfl) (zo (J07 rfl rfl) (za rfl (za rfl ?_)))))
    refine zn (zq (zq ?_))
    refine Go1.cut [(0, .pointer (some ⟨B28, 0, none⟩)), (1, .int .i64 (ix (ix d.Next (ix d_100 (k1_87 : Int))) (k2_121 : Int))), (5, .int .i64 0), (6, .bool false)] ⟨rfl, rfl, rfl, rfl, trivial⟩ ?_
    intro σ _
    refine zr (zm rfl (zo (J0p rfl) (zn (zt rfl rfl (zq ?_)))))
    refine zq (zr (zm rfl (zo (J01 rfl) (zo (J00 Try.underlying188 rfl ti168 rfl (by decide)) (zs (oblk (i := 1) 6 hO rfl rfl Try.underlying168 rfl rfl) ?_)))))
    refine zo (fun w => opB (op_nilMap Try.underlying168 rfl rfl w) rfl) (zn (zf rfl rfl (zk (zq (zr ?_)))))
    refine zm rfl (zo (J01 rfl) (zo (J00 Try.underlying188 rfl ti31 rfl (by decide)) (zs (oblk (i := 0) 6 hO rfl rfl Try.underlying31 rfl rfl) (zo (J0w Try.underlying31 rfl (fh.neq hO 4 rfl)) (za rfl ?_)))))
    refine zn (zq (zr (zm rfl (zo (J01 rfl) (zo (J00 Try.underlying188 rfl ti168 rfl (by decide)) ?_)))))
    refine zs (oblk (i := 1) 6 hO rfl rfl Try.underlying168 rfl rfl) (zm rfl (zm rfl ?_))
    have zz := omapUpd (MK.int Try.underlying3) 5 hO rfl Try.underlying168 (ix (ix d.Next (ix d_100 (k1_87 : Int))) (k2_121 : Int)) (d_125.length : Int)
    obtain ⟨U1, tO, Ck⟩ := zz
    dsimp only [sS, sZ] at tO
    refine zg (Ck (by exact rfl) (by exact rfl) (by exact rfl)) ?_
    replace hO := tO.own
    refine zn ?_
    refine Go1.cut [(0, .pointer (some ⟨B28, 0, none⟩)), (1, .int .i64 (ix (ix d.Next (ix d_100 (k1_87 : Int))) (k2_121 : Int))), (5, .int .i64 (d_125.length : Int))] ⟨rfl, rfl, rfl, trivial⟩ ?_
    intro σ _
    refine zr (zm rfl (zm rfl (zo (J01 rfl) (zo (J00 Try.underlying188 rfl ti31 rfl (by decide)) (zs (oblk (i := 0) 6 hO rfl rfl Try.underlying31 rfl rfl) ?_)))))
    refine zm rfl ?_
    have zz := J0j (r := Rp.int .i64) (n := 1) (parts := [(0, .int .i64 (ix (ix d.Next (ix d_100 (k1_87 : Int))) (k2_121 : Int)))]) (vs := [.int .i64 (ix (ix d.Next (ix d_100 (k1_87 : Int))) (k2_121 : Int))]) (xs := [(ix (ix d.Next (ix d_100 (k1_87 : Int))) (k2_121 : Int))]) rfl Try.underlying31 ti3 hO (by decide) (by kernel_rfl) (Els.cons rfl rfl (Els.nil _ _ _) (by simp [mx])) rfl
    obtain ⟨U2, U3, uw, L6, TX, Iv⟩ := zz
    refine zg (Iv rfl) ?_
    replace hO := uw.own
    have zz := freeze 0 hO rfl L6
    obtain ⟨hO1, wF, wG, L7⟩ := zz
    dsimp only [eS, eZ] at hO1 wF wG
    replace hB := ((hB.trans tO.fr).trans uw.fr).trans (Owns.J09 _ _ 0)
    dsimp only [eS, eZ] at hB
    replace hO := hO1; clear hO1
    obtain ⟨Cl, H⟩ := H
    have Z4 := (tO.ch.trans uw.ch).trans wF
    replace fh := fh.ch Z4
    have zz := oapp Try.underlying31 ti3 rfl 4 hO rfl fh wG L7 Cl (by decide)
    obtain ⟨QI, Fu, Fv, L8, tP, yw, Iw⟩ := zz
    dsimp only [sS, sZ] at tP yw
    refine zg (Iw (by exact rfl) (by exact rfl)) ?_
    replace hO := tP.own
    refine zo (J01 rfl) (zo (J00 Try.underlying188 rfl ti31 rfl (by decide)) ?_)
    have zz := J0f (v := .slice Fu (mT + 1) Fv) (i := 0) (cs' := #[.slice Fu (mT + 1) Fv, .map (some B35)]) 6 hO rfl rfl rfl rfl
    obtain ⟨QJ, tc, Ix⟩ := zz
    dsimp only [sS, sZ] at tc
    refine zg (Ix Try.underlying31 rfl ti31 (by exact rfl) (by exact rfl)) ?_
    replace hO := tc.own
    refine zn (zq (zr (zm rfl (za rfl (zn ?_)))))
    refine Go1.ret1V Try.func163 rfl (show _ = .int .i64 (d_125.length : Int) from rfl) ?_
    refine hR142 _ _ ?_
    obtain ⟨xU, H⟩ := H
    obtain ⟨xV, H⟩ := H
    replace jk := ((jk.ch Z4).ch tP.ch).ch tc.ch
    refine zo (J02 Try.underlying31 ti3 rfl rfl xU (ltn (jk.neq hO 0 rfl) xV) (jk.psome hO 0 rfl xU xV)) ?_
    have zz := ost (r := Rp.int .i64) rfl 0 hO rfl jk xU xV (v := .int .i64 (d_125.length : Int)) (u := (d_125.length : Int)) rfl rfl
    obtain ⟨U4, L9, tQ, HR, Iy⟩ := zz
    dsimp only [sS, sZ] at tQ HR
    refine zg (Iy Try.underlying3 rfl ti3 (by exact rfl) (by exact rfl)) ?_
    replace hO := tQ.own
    refine zn ?_
    refine Go1.inBlock ?_
    refine zr ?_
    obtain ⟨QK, H⟩ := H
    refine zo (J0c rfl rfl (wrap_i64 QK)) (zm rfl (zn ?_))
    replace yw := (yw.ch tc.ch).ch tQ.ch
    replace hB := ((hB.trans tP.fr).trans tc.fr).trans tQ.fr
    have Z5 := ((Z4.trans tP.ch).trans tc.ch).trans tQ.ch
    replace cP := cP.ch Z5
    replace cN := cN.ch Z5
    replace ag := ag.ch Z5
    replace ak := ak.ch Z5
    exact hX2 _ H _ _ ⟨L9, mT + 1, Fu, Fv, L8, ⟨rfl, rfl, rfl, rfl, rfl, rfl, rfl, rfl, rfl, rfl, rfl, trivial⟩, hO, HR, cP, cN, yw, ag, ak, hB⟩
   replace H := ifn xT H
   refine zo (fun w => opB (J08 rfl rfl w) (decide_eq_false xT)) (zn (zq (zf rfl rfl ?_)))
   refine Go1.exit rfl ?_
   refine zq (zq (zr (zo (J00 Try.underlying188 rfl ti31 rfl (by decide)) (zs (oblk (i := 0) 6 hO rfl rfl Try.underlying31 rfl rfl) (zo (J0w Try.underlying31 rfl (fh.neq hO 4 rfl)) ?_)))))
   by_cases D4 : (512 : Int) < (d_125.length : Int)
   ·replace H := ifp D4 H
    refine zo (fun w => opB (J1a rfl rfl w) (decide_eq_true D4)) (zn (zt rfl rfl (zq ?_)))
    refine Go1.cut [(8, .pointer (some ⟨B22, 0, none⟩))] ⟨rfl, trivial⟩ ?_
    intro σ _
    refine zr (zo (J0s Try.underlying25 ti25 (pl := [(0, 1), (1, 1), (2, 1), (3, 1)]) (vs := []) (cs := #[.int .i64 0, .int .i64 0, .slice none 0 0, .slice none 0 0]) (by kernel_rfl) rfl (by kernel_rfl)) ?_)
    have zz := J0b (us := [.int .i64 0, .int .i64 0, .slice none 0 0, .slice none 0 0]) (o := 0) (cs' := #[.int .i64 0, .int .i64 0, .slice none 0 0, .slice none 0 0]) 7 hO rfl rfl (Nat.le_of_ble_eq_true rfl) rfl
    obtain ⟨U5, m6, Iz⟩ := zz
    dsimp only [sS, sZ] at m6
    refine zg (Iz ti25 (by exact rfl) (by exact rfl) rfl) ?_
    replace hO := m6.own
    refine za rfl (za rfl (zn ?_))
    refine Go1.retC3V Try.func139 rfl rfl (J0h (vs := [.int .i64 0, .int .i64 0, .slice none 0 0, .slice none 0 0]) 7 hO rfl rfl Try.underlying25 rfl ti25) (show _ = .slice none 0 0 from rfl) (show _ = .int .i64 3 from rfl) ?_
    refine hR20 _ _ ?_
    refine zm rfl (zo (J07 rfl rfl) (zo (J07 rfl rfl) (zo (J07 rfl rfl) ?_)))
    have zz := oalloc (t := 25) (cs := #[.int .i64 0, .int .i64 0, .slice none 0 0, .slice none 0 0]) ti25 hO rfl
    obtain ⟨U6, B190, vu, TY, IA⟩ := zz
    refine GoR.op IA rfl rfl ?_
    replace hO := vu.own
    have zz := J0b (us := [.int .i64 0, .int .i64 0, .slice none 0 0, .slice none 0 0]) (o := 0) (cs' := #[.int .i64 0, .int .i64 0, .slice none 0 0, .slice none 0 0]) 0 hO rfl rfl (Nat.le_of_ble_eq_true rfl) rfl
    obtain ⟨QL, ux, Cm⟩ := zz
    dsimp only [sS, sZ] at ux
    refine zg (Cm ti25 (by exact rfl) (by exact rfl) rfl) ?_
    replace hO := ux.own
    refine za rfl (za rfl (zn (zq (zr (zo (J00 Try.underlying25 rfl ti22 rfl (by decide)) ?_)))))
    refine zs (oblk (i := 2) 10 hO rfl rfl Try.underlying22 rfl rfl) (zo (J0d Try.underlying22 rfl) ?_)
    have Z6 := (m6.ch.trans vu.ch).trans ux.ch
    replace ag := ag.ch Z6
    replace H := H ag.bd
    obtain ⟨xA, H⟩ := H
    obtain ⟨Cn, H⟩ := H
    have zz := omake (n := (d.Final.length : Int)) (r := Rp.int .i64) (d := (0 : Int)) Try.underlying31 ti3 (fun _ _ => rfl) rfl hO xA Cn (by decide)
    obtain ⟨QM, vP, Ma, vw, i4, T0, Co⟩ := zz
    refine zg (Co rfl rfl) ?_
    replace hO := vw.own
    refine za rfl (zn (zq (zq (zr (zm rfl ?_)))))
    refine zo (J0w Try.underlying31 rfl (i4.neq hO 0 rfl)) (zm rfl (zn (zb ?_)))
    replace hO := hO.drop 2
    replace i4 := i4.ch (Owns.J04 _ _ 2)
    replace ag := (ag.ch vw.ch).ch (Owns.J04 _ _ 2)
    have Z7 := (Z6.trans vw.ch).trans (Owns.J04 _ _ 2)
    replace cP := cP.ch Z7
    replace cN := cN.ch Z7
    replace fh := fh.ch Z7
    replace ak := ak.ch Z7
    replace hB := ((((hB.trans m6.fr).trans vu.fr).trans ux.fr).trans vw.fr).trans (Owns.J09 _ _ 2)
    dsimp only [eS, eZ] at hB hO ag ak i4 cP cN fh
    replace hO := hO.drop 2
    replace ag := ag.ch (Owns.J04 _ _ 2)
    replace ak := ak.ch (Owns.J04 _ _ 2)
    replace i4 := i4.ch (Owns.J04 _ _ 2)
    replace cN := cN.ch (Owns.J04 _ _ 2)
    replace fh := fh.ch (Owns.J04 _ _ 2)
    replace hB := hB.trans (Owns.J09 _ _ 2)
    dsimp only [eS, eZ] at hB hO ag ak i4 cN fh
    replace hO := hO.drop 2
    replace ag := ag.ch (Owns.J04 _ _ 2)
    replace ak := ak.ch (Owns.J04 _ _ 2)
    replace i4 := i4.ch (Owns.J04 _ _ 2)
    replace fh := fh.ch (Owns.J04 _ _ 2)
    replace hB := hB.trans (Owns.J09 _ _ 2)
    dsimp only [eS, eZ] at hB hO ag ak i4 fh
    replace hO := hO.drop 2
    replace ag := ag.ch (Owns.J04 _ _ 2)
    replace ak := ak.ch (Owns.J04 _ _ 2)
    replace i4 := i4.ch (Owns.J04 _ _ 2)
    replace fh := fh.ch (Owns.J04 _ _ 2)
    replace hB := hB.trans (Owns.J09 _ _ 2)
    dsimp only [eS, eZ] at hB hO ag ak i4 fh
    replace hO := hO.drop 2
    replace ag := ag.ch (Owns.J04 _ _ 2)
    replace ak := ak.ch (Owns.J04 _ _ 2)
    replace i4 := i4.ch (Owns.J04 _ _ 2)
    replace hB := hB.trans (Owns.J09 _ _ 2)
    dsimp only [eS, eZ] at hB hO ag ak i4
    replace hO := hO.drop 2
    replace ag := ag.ch (Owns.J04 _ _ 2)
    replace ak := ak.ch (Owns.J04 _ _ 2)
    replace i4 := i4.ch (Owns.J04 _ _ 2)
    replace hB := hB.trans (Owns.J09 _ _ 2)
    dsimp only [eS, eZ] at hB hO ag ak i4
    replace hO := hO.drop 2
    replace ag := ag.ch (Owns.J04 _ _ 2)
    replace ak := ak.ch (Owns.J04 _ _ 2)
    replace i4 := i4.ch (Owns.J04 _ _ 2)
    replace hB := hB.trans (Owns.J09 _ _ 2)
    dsimp only [eS, eZ] at hB hO ag ak i4
    replace hO := hO.drop 2
    replace ag := ag.ch (Owns.J04 _ _ 2)
    replace ak := ak.ch (Owns.J04 _ _ 2)
    replace i4 := i4.ch (Owns.J04 _ _ 2)
    replace hB := hB.trans (Owns.J09 _ _ 2)
    dsimp only [eS, eZ] at hB hO ag ak i4
    replace hO := hO.drop 3
    replace i4 := i4.ch (Owns.J04 _ _ 3)
    replace hB := hB.trans (Owns.J09 _ _ 3)
    refine Go1.loopW (S := Nat × List Int) (fun s σ w => match s with | (k3_209, number3_210) => ∃ (vS : List Value), agrees σ [(2, .pointer (some ⟨B8, 0, none⟩)), (4, .pointer (some ⟨B190, 0, none⟩)), (5, .slice none 0 0), (7, .slice vP d.Final.length d.Final.length), (31, .int .i64 ((List.replicate d.Final.length ((0 : Int))).length : Int)), (32, .int .i64 (k3_209 : Int))] ∧ (fun Z0 => Owns w0.heap.size w Z0 A ∧ Els (Rp.int .i64) (bl Z0 ++ A) w vS number3_210 ∧ Fr (bl []) w0 (bl Z0) w) [.row 3 1 vP d.Final.length d.Final.length vS, .blk B190 (.cells #[.int .i64 0, .int .i64 0, .slice none 0 0, .slice none 0 0] 25 (0, 0)), .blk B8 (.cells #[.int .i64 0, .int .i64 0, .slice none 0 0, .slice none 0 0] 25 (0, 0))]) H ⟨Ma, ⟨rfl, rfl, rfl, rfl, rfl, rfl, trivial⟩, hO, i4, hB⟩ ?_
    intro X3
    refine prE fun k3_209 => fun number3_210 => ?_
    intro H hX3 σ U7
    refine exE fun vS => andE fun hag => andE fun hO => andE fun wH => fun hB => ?_
    dsimp only at H
    refine Go1.keep [(2, .pointer (some ⟨B8, 0, none⟩)), (4, .pointer (some ⟨B190, 0, none⟩)), (5, .slice none 0 0), (7, .slice vP d.Final.length d.Final.length), (31, .int .i64 ((List.replicate d.Final.length ((0 : Int))).length : Int)), (32, .int .i64 (k3_209 : Int))] hag ?_
    refine zq (zr ?_)
    by_cases D5 : (k3_209 : Int) < ((List.replicate d.Final.length ((0 : Int))).length : Int)
    ·replace H := ifp D5 H
     refine zo (fun w => opB (J08 rfl rfl w) (decide_eq_true D5)) (zn (zq (zt rfl rfl (zk (zq ?_)))))
     refine zb (zq (zr (zm rfl (za rfl (zn ?_)))))
     refine zr (zm rfl (zm rfl ?_))
     obtain ⟨Fw, H⟩ := H
     obtain ⟨Fx, H⟩ := H
     refine zo (J02 Try.underlying31 ti3 rfl rfl Fw (ltn (wH.neq hO 0 rfl) Fx) (wH.psome hO 0 rfl Fw Fx)) ?_
     have zz := ost (r := Rp.int .i64) rfl 0 hO rfl wH Fw Fx (v := .int .i64 (-1)) (u := (-1 : Int)) rfl rfl
     obtain ⟨U8, Mb, Ff, Mc, IB⟩ := zz
     refine zg (IB Try.underlying3 rfl ti3 (by exact rfl) (by exact rfl)) ?_
     replace hO := Ff.own
     refine zn ?_
     refine Go1.inBlock ?_
     refine zr ?_
     obtain ⟨QO, H⟩ := H
     refine zo (J0c rfl rfl (wrap_i64 QO)) (zm rfl (zn ?_))
     replace hB := hB.trans Ff.fr
     exact hX3 _ H _ _ ⟨Mb, ⟨rfl, rfl, rfl, rfl, rfl, rfl, trivial⟩, hO, Mc, hB⟩
    replace H := ifn D5 H
    refine zo (fun w => opB (J08 rfl rfl w) (decide_eq_false D5)) (zn (zq (zf rfl rfl ?_)))
    refine Go1.exit rfl ?_
    refine zq (zq (zr (zm rfl (zo (J0d Try.underlying31 rfl) (zm rfl ?_)))))
    refine zn (zb ?_)
    refine Go1.loopW (S := Nat) (fun s σ w => agrees σ [(2, .pointer (some ⟨B8, 0, none⟩)), (4, .pointer (some ⟨B190, 0, none⟩)), (7, .slice vP d.Final.length d.Final.length), (39, .slice none 0 0), (40, .int .i64 0), (41, .int .i64 (s : Int))] ∧ (fun Z0 => Owns w0.heap.size w Z0 A ∧ Els (Rp.int .i64) (bl Z0 ++ A) w vS number3_210 ∧ Fr (bl []) w0 (bl Z0) w) [.row 3 1 vP d.Final.length d.Final.length vS, .blk B190 (.cells #[.int .i64 0, .int .i64 0, .slice none 0 0, .slice none 0 0] 25 (0, 0)), .blk B8 (.cells #[.int .i64 0, .int .i64 0, .slice none 0 0, .slice none 0 0] 25 (0, 0))]) H ⟨⟨rfl, rfl, rfl, rfl, rfl, rfl, trivial⟩, hO, wH, hB⟩ ?_
    intro X4 k4_223
    intro H hX4 σ QP
    refine andE fun hag => andE fun hO => andE fun wH => fun hB => ?_
    refine Go1.keep [(2, .pointer (some ⟨B8, 0, none⟩)), (4, .pointer (some ⟨B190, 0, none⟩)), (7, .slice vP d.Final.length d.Final.length), (39, .slice none 0 0), (40, .int .i64 0), (41, .int .i64 (k4_223 : Int))] hag ?_
    refine zq (zr ?_)
    by_cases D6 : (k4_223 : Int) < (0 : Int)
    ·replace H := ifp D6 H
     refine zo (fun w => opB (J08 rfl rfl w) (decide_eq_true D6)) (zn (zq (zt rfl rfl (zk (zq ?_)))))
     refine zb (zq (zr (zm rfl ?_)))
     obtain ⟨A5, H⟩ := H
     obtain ⟨xW, H⟩ := H
     refine zo (J02 Try.underlying31 ti3 rfl rfl A5 xW (absurd xW (by omega))) ?_
     exact absurd xW (by omega)
    replace H := ifn D6 H
    refine zo (fun w => opB (J08 rfl rfl w) (decide_eq_false D6)) (zn (zq (zf rfl rfl ?_)))
    refine Go1.exit rfl ?_
    refine zq (zr (zs (J0n (vs := [.int .i64 0, .int .i64 0, .slice none 0 0, .slice none 0 0]) (i := 0) 1 hO rfl rfl Try.underlying25 rfl ti25 rfl) (zm rfl ?_)))
    have zz := J0b (us := [.int .i64 0, .int .i64 0, .slice none 0 0, .slice none 0 0]) (o := 0) (cs' := #[.int .i64 0, .int .i64 0, .slice none 0 0, .slice none 0 0]) 2 hO rfl rfl (Nat.le_of_ble_eq_true rfl) rfl
    obtain ⟨U9, Cp, IC⟩ := zz
    refine zg (IC ti25 (by exact rfl) (by exact rfl) rfl) ?_
    replace hO := Cp.own
    refine za rfl (zn ?_)
    replace wH := wH.ch Cp.ch
    have zz := freeze 0 hO rfl wH
    obtain ⟨hO1, T1, Me, Mf⟩ := zz
    replace hO := hO1; clear hO1
    refine Go1.retC2 Try.func109 rfl rfl (J0h (vs := [.int .i64 0, .int .i64 0, .slice none 0 0, .slice none 0 0]) 1 hO rfl rfl Try.underlying25 rfl ti25) ?_
    replace hB := (hB.trans Cp.fr).trans (Owns.J09 _ _ 0)
    exact ⟨(⟨(0 : Int), (0 : Int), ([] : List Bool), ([] : List (List Int))⟩ : DFA), number3_210, none, 0, none, 0, vP, d.Final.length, (congrArg (fun l => Value.tuple (List.toArray l)) (J0i rfl (J0i (congrArg (fun nn => Value.slice vP nn d.Final.length) Mf) rfl))), hB.same, (ISl.null _ _ _), (ISl.null _ _ _), (Me.ch (Ch.weak _ _ _)), H⟩
   replace H := ifn D4 H
   refine zo (fun w => opB (J1a rfl rfl w) (decide_eq_false D4)) (zn (zf rfl rfl (zk (zq (zr ?_)))))
   refine zo (J00 Try.underlying25 rfl ti23 rfl (by decide)) (zs (oblk (i := 3) 3 hO rfl rfl Try.underlying23 rfl rfl) (zm rfl ?_))
   have zz := freeze 0 hO rfl jk
   obtain ⟨hO1, yy, mf, Mg⟩ := zz
   dsimp only [eS, eZ] at hO1 yy mf
   replace hB := hB.trans (Owns.J09 _ _ 0)
   dsimp only [eS, eZ] at hB
   replace hO := hO1; clear hO1
   have zz := J0j (r := Rp.sl (Rp.int .i64)) (n := 1) (parts := [(0, .slice uv d.Letters.toNat d.Letters.toNat)]) (vs := [.slice uv d.Letters.toNat d.Letters.toNat]) (xs := [d_122]) rfl Try.underlying23 ti31 hO (by decide) (by kernel_rfl) (Els.cons rfl ⟨uv, d.Letters.toNat, congrArg some (congrArg (fun nn => Value.slice uv nn d.Letters.toNat) Mg), mf⟩ (Els.nil _ _ _) (by simp [mx])) rfl
   obtain ⟨QQ, Va, jm, Mh, T3, ID⟩ := zz
   refine zg (ID rfl) ?_
   replace hO := jm.own
   have zz := freeze 0 hO rfl Mh
   obtain ⟨hO1, xB, ph, Mi⟩ := zz
   dsimp only [eS, eZ] at hO1 xB ph
   replace hB := (hB.trans jm.fr).trans (Owns.J09 _ _ 0)
   dsimp only [eS, eZ] at hB
   replace hO := hO1; clear hO1
   obtain ⟨QR, H⟩ := H
   have Z8 := (yy.trans jm.ch).trans xB
   replace cP := cP.ch Z8
   have zz := oapp Try.underlying23 ti31 rfl 0 hO rfl cP ph Mi QR (by decide)
   obtain ⟨Vb, A6, A7, HS, uy, sL, IE⟩ := zz
   dsimp only [sS, sZ] at uy sL
   refine zg (IE (by exact rfl) (by exact rfl)) ?_
   replace hO := uy.own
   refine zo (J00 Try.underlying25 rfl ti23 rfl (by decide)) ?_
   have zz := J0f (v := .slice A6 (n93 + 1) A7) (i := 3) (cs' := #[.int .i64 d.Letters, .int .i64 0, .slice p97 n99 c98, .slice A6 (n93 + 1) A7]) 2 hO rfl rfl rfl rfl
   obtain ⟨Vc, tR, Cq⟩ := zz
   dsimp only [sS, sZ] at tR
   refine zg (Cq Try.underlying23 rfl ti23 (by exact rfl) (by exact rfl)) ?_
   replace hO := tR.own
   refine zn ?_
   refine Go1.drawT (ok := fun _ => True) (CSv.tr [(some ⟨B72, 2, none⟩)]) [6, 8] 9 (.qp 0 (.qs 1 (.qp 2 (.qp 3 (.alt 4 (.alt 5 (.alt 6 (.qp 7 (.alt 8 .nil .fin)) .fin) .fin) .fin))))) mixed (by kernel_rfl) ?_
   intro QS Mj
   have uz := Stp.same hO Mj
   replace hO := uz.own
   refine GoT.pure rfl (J00 Try.underlying25 rfl ti22 rfl (by decide)) rfl rfl ?_
   refine GoT.stable rfl (loadV (.head _) rfl (blkCell 2 hO rfl rfl) Try.underlying22 rfl rfl) rfl rfl ?_
   refine GoT.pure rfl (J03 rfl) rfl rfl ?_
   refine GoT.pure rfl (J03 rfl) rfl rfl ?_
   skip
   refine GoT.inl (vs := [.int .i64 (ix d_100 (k1_87 : Int))]) (caps := [.pointer (some ⟨B2, 0, none⟩)]) rfl rfl rfl body141 Try.func141 rfl Try.ntmps141 rfl rfl rfl ?_
   intro RhR261 hR261
   have hOs262 := hO
   replace hB := ((hB.trans uy.fr).trans tR.fr).trans uz.fr
   have hBs263 := hB
   have hB := Fr.refl (bl [.row 31 1 A6 (n93 + 1) A7 HS, .row 4 1 p97 n99 c98 gu, .blk B72 (.cells #[.int .i64 d.Letters, .int .i64 0, .slice p97 n99 c98, .slice A6 (n93 + 1) A7] 25 (0, 0)), .row 3 1 o6 mT o7 tz, .any (mapE (fun a : Int => Value.int .i64 a) (fun a : Int => Value.int .i64 a) B35 m2_131), .blk B28 (.cells #[.slice o6 mT o7, .map (some B35)] 188 (0, 0)), .blk B22 (.cells #[.int .i64 0, .int .i64 0, .slice none 0 0, .slice none 0 0] 25 (0, 0)), .blk B8 (.cells #[.int .i64 0, .int .i64 0, .slice none 0 0, .slice none 0 0] 25 (0, 0)), .blk B2 (.cells #[.int .i64 d.Letters, .int .i64 d.Start, .slice bn d.Final.length bo, .slice bt d.Next.length bu] 25 (0, 0))]) QS
   refine zq ?_
   refine Go1.cut [(0, .int .i64 (ix d_100 (k1_87 : Int))), (1, .pointer (some ⟨B2, 0, none⟩))] ⟨rfl, rfl, trivial⟩ ?_
   intro σ _
   refine zr (za rfl (zn (zq (zr (zo (J00 Try.underlying25 rfl ti22 rfl (by decide)) ?_)))))
   refine zs (oblk (i := 2) 8 hO rfl rfl Try.underlying22 rfl rfl) (zm rfl ?_)
   obtain ⟨Fy, H⟩ := H
   obtain ⟨Fz, H⟩ := H
   have Z9 := ((Z8.trans uy.ch).trans tR.ch).trans uz.ch
   replace ag := ag.ch Z9
   refine zo (J02 Try.underlying22 ti4 rfl rfl Fy Fz (ag.some_ Fy Fz)) (zs (ldBool ag Fy Fz Try.underlying4 rfl rfl) (za rfl (zn ?_)))
   refine Go1.ret1V Try.func141 rfl (show _ = .bool (ix d.Final (ix d_100 (k1_87 : Int))) from rfl) ?_
   refine hR261 _ _ (CSv.cons (cs_eq (blkCell 2 hOs262 rfl rfl) (blkCell 2 hO rfl rfl)) (CSv.nil _ _)) ?_
   replace hB := hBs263.trans hB
   skip
   have zz := J0j (r := Rp.bool) (n := 1) (parts := [(0, .bool (ix d.Final (ix d_100 (k1_87 : Int))))]) (vs := [.bool (ix d.Final (ix d_100 (k1_87 : Int)))]) (xs := [ix d.Final (ix d_100 (k1_87 : Int))]) rfl Try.underlying22 ti4 hO (by decide) (by kernel_rfl) (Els.cons rfl rfl (Els.nil _ _ _) (by simp [mx])) rfl
   obtain ⟨Vd, Ve, iF, Mk, Ml, IF⟩ := zz
   refine GoT.step rfl (IF rfl) (CSv.same Ml) rfl rfl ?_
   replace hO := iF.own
   skip
   have zz := freeze 0 hO rfl Mk
   obtain ⟨hO1, wI, yz, Mm⟩ := zz
   dsimp only [eS, eZ] at hO1 wI yz
   replace hB := (hB.trans iF.fr).trans (Owns.J09 _ _ 0)
   dsimp only [eS, eZ] at hB
   replace hO := hO1; clear hO1
   obtain ⟨QT, H⟩ := H
   replace cN := ((cN.ch Z9).ch iF.ch).ch wI
   have zz := oapp Try.underlying22 ti4 rfl 1 hO rfl cN yz Mm QT (by decide)
   obtain ⟨Vf, FA, FB, Mn, tS, BJ, IG⟩ := zz
   dsimp only [sS, sZ] at tS BJ
   refine GoT.stepX rfl (IG (by exact rfl) (by exact rfl)) rfl rfl rfl ?_
   replace hO := tS.own
   refine GoT.pure rfl (J00 Try.underlying25 rfl ti22 rfl (by decide)) rfl rfl ?_
   skip
   have zz := J0f (v := .slice FA (n99 + 1) FB) (i := 2) (cs' := #[.int .i64 d.Letters, .int .i64 0, .slice FA (n99 + 1) FB, .slice A6 (n93 + 1) A7]) 2 hO rfl rfl rfl rfl
   obtain ⟨QU, te, IH⟩ := zz
   dsimp only [sS, sZ] at te
   refine GoT.stepX rfl (IH Try.underlying22 rfl ti22 (by exact rfl) (by exact rfl)) rfl rfl rfl ?_
   replace hO := te.own
   refine GoT.nil ?_
   refine Go1.inBlock ?_
   refine zr (zm rfl ?_)
   obtain ⟨QV, H⟩ := H
   refine zo (J0c rfl rfl (wrap_i64 QV)) (za rfl (zn ?_))
   replace BJ := BJ.ch te.ch
   replace hB := (hB.trans tS.fr).trans te.fr
   have Z10 := ((iF.ch.trans wI).trans tS.ch).trans te.ch
   replace ag := ag.ch Z10
   have Z11 := ((((tR.ch.trans uz.ch).trans iF.ch).trans wI).trans tS.ch).trans te.ch
   replace sL := sL.ch Z11
   have Z12 := (((Z9.trans iF.ch).trans wI).trans tS.ch).trans te.ch
   replace ak := ak.ch Z12
   replace fh := fh.ch Z12
   exact hX1 _ H _ _ ⟨n93 + 1, A6, A7, HS, n99 + 1, FA, FB, Mn, mT, o6, o7, tz, ⟨rfl, rfl, rfl, rfl, rfl, rfl, rfl, trivial⟩, hO, sL, BJ, fh, ag, ak, hB⟩
  replace H := ifn nN H
  refine zo (fun w => opB (J08 rfl rfl w) (decide_eq_false nN)) (zn (zf rfl rfl ?_))
  refine Go1.exit rfl ?_
  refine zq ?_
  refine Go1.drawT (ok := fun _ => True) Same.tr [3] 6 (.qs 0 (.qp 1 (.alt 2 (.alt 3 (.qp 4 (.qp 5 .nil)) .fin) (.alt 3 (.alt 2 (.qp 4 (.qp 5 .nil)) .fin) .fin)))) mixed (by kernel_rfl) ?_
  intro Vg Mo
  have wh := Stp.same hO Mo
  replace hO := wh.own
  refine GoT.stable rfl (J0n (vs := [.int .i64 d.Letters, .int .i64 0, .slice p97 n99 c98, .slice p91 n93 c92]) (i := 0) 2 hO rfl rfl Try.underlying25 rfl ti25 rfl) rfl rfl ?_
  refine GoT.pure rfl (J00 Try.underlying188 rfl ti31 rfl (by decide)) rfl rfl ?_
  refine GoT.both ?_ ?_
  ·skip
   replace H := H.1
   refine GoT.step rfl ((oblk (i := 0) 5 hO rfl rfl Try.underlying31 rfl rfl) _ (Same.refl _)) (Same.refl _) rfl rfl ?_
   skip
   have zz := J0b (us := [.int .i64 d.Letters, .int .i64 0, .slice p97 n99 c98, .slice p91 n93 c92]) (o := 0) (cs' := #[.int .i64 d.Letters, .int .i64 0, .slice p97 n99 c98, .slice p91 n93 c92]) 6 hO rfl rfl (Nat.le_of_ble_eq_true rfl) rfl
   obtain ⟨QW, iU, Cr⟩ := zz
   dsimp only [sS, sZ] at iU
   refine GoT.stepX rfl (Cr ti25 (by exact rfl) (by exact rfl) rfl) rfl rfl rfl ?_
   replace hO := iU.own
   refine GoT.pure rfl (J0e rfl) rfl rfl ?_
   refine GoT.pure rfl (J0e rfl) rfl rfl ?_
   refine GoT.nil ?_
   refine Go1.retC3V Try.func139 rfl rfl (J0h (vs := [.int .i64 d.Letters, .int .i64 0, .slice p97 n99 c98, .slice p91 n93 c92]) 6 hO rfl rfl Try.underlying25 rfl ti25) (show _ = .slice fW fV fX from rfl) (show _ = .int .i64 0 from rfl) ?_
   refine hR20 _ _ ?_
   refine zm rfl (zo (J07 rfl rfl) (zo (J07 rfl rfl) (zo (J07 rfl rfl) ?_)))
   have zz := oalloc (t := 25) (cs := #[.int .i64 0, .int .i64 0, .slice none 0 0, .slice none 0 0]) ti25 hO rfl
   obtain ⟨QX, B296, jo, T4, II⟩ := zz
   refine GoR.op II rfl rfl ?_
   replace hO := jo.own
   have zz := J0b (us := [.int .i64 d.Letters, .int .i64 0, .slice p97 n99 c98, .slice p91 n93 c92]) (o := 0) (cs' := #[.int .i64 d.Letters, .int .i64 0, .slice p97 n99 c98, .slice p91 n93 c92]) 0 hO rfl rfl (Nat.le_of_ble_eq_true rfl) rfl
   obtain ⟨FC, vy, IJ⟩ := zz
   dsimp only [sS, sZ] at vy
   refine zg (IJ ti25 (by exact rfl) (by exact rfl) rfl) ?_
   replace hO := vy.own
   refine za rfl (za rfl (zn (zq ?_)))
   refine Go1.cut [(1, .pointer (some ⟨B2, 0, none⟩)), (2, .pointer (some ⟨B8, 0, none⟩)), (4, .pointer (some ⟨B296, 0, none⟩)), (5, .slice fW fV fX)] ⟨rfl, rfl, rfl, rfl, trivial⟩ ?_
   intro σ _
   refine zr (zo (J00 Try.underlying25 rfl ti22 rfl (by decide)) (zs (oblk (i := 2) 9 hO rfl rfl Try.underlying22 rfl rfl) (zo (J0d Try.underlying22 rfl) ?_)))
   have Z13 := ((wh.ch.trans iU.ch).trans jo.ch).trans vy.ch
   replace ag := ag.ch Z13
   replace H := H ag.bd
   obtain ⟨FD, H⟩ := H
   obtain ⟨QY, H⟩ := H
   have zz := omake (n := (d.Final.length : Int)) (r := Rp.int .i64) (d := (0 : Int)) Try.underlying31 ti3 (fun _ _ => rfl) rfl hO FD QY (by decide)
   obtain ⟨Vh, sy, Mp, wi, nO, T5, IK⟩ := zz
   refine zg (IK rfl rfl) ?_
   replace hO := wi.own
   refine za rfl (zn (zq (zq (zr (zm rfl ?_)))))
   refine zo (J0w Try.underlying31 rfl (nO.neq hO 0 rfl)) (zm rfl (zn (zb ?_)))
   replace hO := hO.drop 4
   replace nO := nO.ch (Owns.J04 _ _ 4)
   replace ag := (ag.ch wi.ch).ch (Owns.J04 _ _ 4)
   have Z14 := (Z13.trans wi.ch).trans (Owns.J04 _ _ 4)
   replace cP := cP.ch Z14
   replace cN := cN.ch Z14
   replace cO := cO.ch Z14
   replace ak := ak.ch Z14
   replace hB := (((((hB.trans wh.fr).trans iU.fr).trans jo.fr).trans vy.fr).trans wi.fr).trans (Owns.J09 _ _ 4)
   dsimp only [eS, eZ] at hB hO ag ak nO cP cN cO
   replace hO := hO.drop 5
   replace ag := ag.ch (Owns.J04 _ _ 5)
   replace ak := ak.ch (Owns.J04 _ _ 5)
   replace nO := nO.ch (Owns.J04 _ _ 5)
   replace cP := cP.ch (Owns.J04 _ _ 5)
   replace cN := cN.ch (Owns.J04 _ _ 5)
   replace cO := cO.ch (Owns.J04 _ _ 5)
   replace hB := hB.trans (Owns.J09 _ _ 5)
   dsimp only [eS, eZ] at hB hO ag ak nO cP cN cO
   replace hO := hO.drop 5
   replace ag := ag.ch (Owns.J04 _ _ 5)
   replace ak := ak.ch (Owns.J04 _ _ 5)
   replace nO := nO.ch (Owns.J04 _ _ 5)
   replace cP := cP.ch (Owns.J04 _ _ 5)
   replace cN := cN.ch (Owns.J04 _ _ 5)
   replace cO := cO.ch (Owns.J04 _ _ 5)
   replace hB := hB.trans (Owns.J09 _ _ 5)
   dsimp only [eS, eZ] at hB hO ag ak nO cP cN cO
   replace hO := hO.drop 5
   replace ag := ag.ch (Owns.J04 _ _ 5)
   replace ak := ak.ch (Owns.J04 _ _ 5)
   replace nO := nO.ch (Owns.J04 _ _ 5)
   replace cP := cP.ch (Owns.J04 _ _ 5)
   replace cN := cN.ch (Owns.J04 _ _ 5)
   replace cO := cO.ch (Owns.J04 _ _ 5)
   replace hB := hB.trans (Owns.J09 _ _ 5)
   dsimp only [eS, eZ] at hB hO ag ak nO cP cN cO
   replace hO := hO.drop 6
   replace ag := ag.ch (Owns.J04 _ _ 6)
   replace ak := ak.ch (Owns.J04 _ _ 6)
   replace nO := nO.ch (Owns.J04 _ _ 6)
   replace cP := cP.ch (Owns.J04 _ _ 6)
   replace cN := cN.ch (Owns.J04 _ _ 6)
   replace cO := cO.ch (Owns.J04 _ _ 6)
   replace hB := hB.trans (Owns.J09 _ _ 6)
   dsimp only [eS, eZ] at hB hO ag ak nO cP cN cO
   refine Go1.loopW (S := Nat × List Int) (fun s σ w => match s with | (k5_315, number5_316) => ∃ (vT : List Value), agrees σ [(2, .pointer (some ⟨B8, 0, none⟩)), (4, .pointer (some ⟨B296, 0, none⟩)), (5, .slice fW fV fX), (7, .slice sy d.Final.length d.Final.length), (31, .int .i64 ((List.replicate d.Final.length ((0 : Int))).length : Int)), (32, .int .i64 (k5_315 : Int))] ∧ (fun Z0 => Owns w0.heap.size w Z0 A ∧ Els (Rp.int .i64) (bl Z0 ++ A) w vT number5_316 ∧ Els (Rp.sl (Rp.int .i64)) (bl Z0 ++ A) w gy d_88 ∧ Els (Rp.bool) (bl Z0 ++ A) w gu d_94 ∧ Els (Rp.int .i64) (bl Z0 ++ A) w gn d_100 ∧ Fr (bl []) w0 (bl Z0) w) [.row 3 1 sy d.Final.length d.Final.length vT, .blk B296 (.cells #[.int .i64 d.Letters, .int .i64 0, .slice p97 n99 c98, .slice p91 n93 c92] 25 (0, 0)), .row 31 1 p91 n93 c92 gy, .row 4 1 p97 n99 c98 gu, .row 3 1 fW fV fX gn, .blk B8 (.cells #[.int .i64 0, .int .i64 0, .slice none 0 0, .slice none 0 0] 25 (0, 0))]) H ⟨Mp, ⟨rfl, rfl, rfl, rfl, rfl, rfl, trivial⟩, hO, nO, cP, cN, cO, hB⟩ ?_
   intro X5
   refine prE fun k5_315 => fun number5_316 => ?_
   intro H hX5 σ Q0
   refine exE fun vT => andE fun hag => andE fun hO => andE fun BK => andE fun cP => andE fun cN => andE fun cO => fun hB => ?_
   dsimp only at H
   refine Go1.keep [(2, .pointer (some ⟨B8, 0, none⟩)), (4, .pointer (some ⟨B296, 0, none⟩)), (5, .slice fW fV fX), (7, .slice sy d.Final.length d.Final.length), (31, .int .i64 ((List.replicate d.Final.length ((0 : Int))).length : Int)), (32, .int .i64 (k5_315 : Int))] hag ?_
   refine zq (zr ?_)
   by_cases D7 : (k5_315 : Int) < ((List.replicate d.Final.length ((0 : Int))).length : Int)
   ·replace H := ifp D7 H
    refine zo (fun w => opB (J08 rfl rfl w) (decide_eq_true D7)) (zn (zq (zt rfl rfl (zk (zq ?_)))))
    refine zb (zq (zr (zm rfl (za rfl (zn ?_)))))
    refine zr (zm rfl (zm rfl ?_))
    obtain ⟨FE, H⟩ := H
    obtain ⟨FF, H⟩ := H
    refine zo (J02 Try.underlying31 ti3 rfl rfl FE (ltn (BK.neq hO 0 rfl) FF) (BK.psome hO 0 rfl FE FF)) ?_
    have zz := ost (r := Rp.int .i64) rfl 0 hO rfl BK FE FF (v := .int .i64 (-1)) (u := (-1 : Int)) rfl rfl
    obtain ⟨Vi, Mq, xh, HT, IL⟩ := zz
    dsimp only [sS, sZ] at xh HT
    refine zg (IL Try.underlying3 rfl ti3 (by exact rfl) (by exact rfl)) ?_
    replace hO := xh.own
    refine zn ?_
    refine Go1.inBlock ?_
    refine zr ?_
    obtain ⟨FG, H⟩ := H
    refine zo (J0c rfl rfl (wrap_i64 FG)) (zm rfl (zn ?_))
    replace cP := cP.ch xh.ch
    replace cN := cN.ch xh.ch
    replace cO := cO.ch xh.ch
    replace hB := hB.trans xh.fr
    exact hX5 _ H _ _ ⟨Mq, ⟨rfl, rfl, rfl, rfl, rfl, rfl, trivial⟩, hO, HT, cP, cN, cO, hB⟩
   replace H := ifn D7 H
   refine zo (fun w => opB (J08 rfl rfl w) (decide_eq_false D7)) (zn (zq (zf rfl rfl ?_)))
   refine Go1.exit rfl ?_
   refine zq (zq (zr (zm rfl (zo (J0w Try.underlying31 rfl (cO.neq hO 4 rfl)) (zm rfl ?_)))))
   refine zn (zb ?_)
   refine Go1.loopW (S := Nat × List Int) (fun s σ w => match s with | (k6_329, number6_330) => ∃ (u5 : List Value), agrees σ [(2, .pointer (some ⟨B8, 0, none⟩)), (4, .pointer (some ⟨B296, 0, none⟩)), (7, .slice sy d.Final.length d.Final.length), (39, .slice fW fV fX), (40, .int .i64 (d_100.length : Int)), (41, .int .i64 (k6_329 : Int))] ∧ (fun Z0 => Owns w0.heap.size w Z0 A ∧ Els (Rp.int .i64) (bl Z0 ++ A) w u5 number6_330 ∧ Els (Rp.sl (Rp.int .i64)) (bl Z0 ++ A) w gy d_88 ∧ Els (Rp.bool) (bl Z0 ++ A) w gu d_94 ∧ Els (Rp.int .i64) (bl Z0 ++ A) w gn d_100 ∧ Fr (bl []) w0 (bl Z0) w) [.row 3 1 sy d.Final.length d.Final.length u5, .blk B296 (.cells #[.int .i64 d.Letters, .int .i64 0, .slice p97 n99 c98, .slice p91 n93 c92] 25 (0, 0)), .row 31 1 p91 n93 c92 gy, .row 4 1 p97 n99 c98 gu, .row 3 1 fW fV fX gn, .blk B8 (.cells #[.int .i64 0, .int .i64 0, .slice none 0 0, .slice none 0 0] 25 (0, 0))]) H ⟨vT, ⟨rfl, rfl, rfl, rfl, rfl, rfl, trivial⟩, hO, BK, cP, cN, cO, hB⟩ ?_
   intro X6
   refine prE fun k6_329 => fun number6_330 => ?_
   intro H hX6 σ IM
   refine exE fun u5 => andE fun hag => andE fun hO => andE fun u6 => andE fun cP => andE fun cN => andE fun cO => fun hB => ?_
   dsimp only at H
   refine Go1.keep [(2, .pointer (some ⟨B8, 0, none⟩)), (4, .pointer (some ⟨B296, 0, none⟩)), (7, .slice sy d.Final.length d.Final.length), (39, .slice fW fV fX), (40, .int .i64 (d_100.length : Int)), (41, .int .i64 (k6_329 : Int))] hag ?_
   refine zq (zr ?_)
   by_cases Cs : (k6_329 : Int) < (d_100.length : Int)
   ·replace H := ifp Cs H
    refine zo (fun w => opB (J08 rfl rfl w) (decide_eq_true Cs)) (zn (zq (zt rfl rfl (zk (zq ?_)))))
    refine zb (zq (zr (zm rfl ?_)))
    obtain ⟨FH, H⟩ := H
    obtain ⟨FI, H⟩ := H
    refine zo (J02 Try.underlying31 ti3 rfl rfl FH (ltn (cO.neq hO 4 rfl) FI) (cO.psome hO 4 rfl FH FI)) (zs (oldInt 4 hO rfl cO FH FI Try.underlying3 rfl rfl) (za rfl (za rfl (zn (zr ?_)))))
    refine zm rfl (zm rfl (zm rfl ?_))
    obtain ⟨FJ, H⟩ := H
    obtain ⟨FK, H⟩ := H
    refine zo (J02 Try.underlying31 ti3 rfl rfl FJ (ltn (u6.neq hO 0 rfl) FK) (u6.psome hO 0 rfl FJ FK)) ?_
    have zz := ost (r := Rp.int .i64) rfl 0 hO rfl u6 FJ FK (v := .int .i64 (k6_329 : Int)) (u := (k6_329 : Int)) rfl rfl
    obtain ⟨Q1, Mr, xi, HU, IN⟩ := zz
    dsimp only [sS, sZ] at xi HU
    refine zg (IN Try.underlying3 rfl ti3 (by exact rfl) (by exact rfl)) ?_
    replace hO := xi.own
    refine zn ?_
    refine Go1.inBlock ?_
    refine zr ?_
    replace cO := cO.ch xi.ch
    refine zo (J0c rfl rfl (wrap_i64 (natbd Cs cO.bd))) (zm rfl (zn ?_))
    replace cP := cP.ch xi.ch
    replace cN := cN.ch xi.ch
    replace hB := hB.trans xi.fr
    exact hX6 _ H _ _ ⟨Mr, ⟨rfl, rfl, rfl, rfl, rfl, rfl, trivial⟩, hO, HU, cP, cN, cO, hB⟩
   replace H := ifn Cs H
   refine zo (fun w => opB (J08 rfl rfl w) (decide_eq_false Cs)) (zn (zq (zf rfl rfl ?_)))
   refine Go1.exit rfl ?_
   refine zq (zr (zs (J0n (vs := [.int .i64 d.Letters, .int .i64 0, .slice p97 n99 c98, .slice p91 n93 c92]) (i := 0) 1 hO rfl rfl Try.underlying25 rfl ti25 rfl) (zm rfl ?_)))
   have zz := J0b (us := [.int .i64 d.Letters, .int .i64 0, .slice p97 n99 c98, .slice p91 n93 c92]) (o := 0) (cs' := #[.int .i64 d.Letters, .int .i64 0, .slice p97 n99 c98, .slice p91 n93 c92]) 5 hO rfl rfl (Nat.le_of_ble_eq_true rfl) rfl
   obtain ⟨Vj, wj, Ct⟩ := zz
   dsimp only [sS, sZ] at wj
   refine zg (Ct ti25 (by exact rfl) (by exact rfl) rfl) ?_
   replace hO := wj.own
   refine za rfl (zn ?_)
   replace cN := cN.ch wj.ch
   have zz := freeze 3 hO rfl cN
   obtain ⟨hO1, mg, lJ, D8⟩ := zz
   dsimp only [eS, eZ] at hO1 mg lJ
   replace hB := (hB.trans wj.fr).trans (Owns.J09 _ _ 3)
   dsimp only [eS, eZ] at hB
   replace hO := hO1; clear hO1
   replace cP := (cP.ch wj.ch).ch mg
   have zz := freeze 2 hO rfl cP
   obtain ⟨hO1, BL, BM, Mt⟩ := zz
   dsimp only [eS, eZ] at hO1 BL BM
   replace hB := hB.trans (Owns.J09 _ _ 2)
   dsimp only [eS, eZ] at hB
   replace hO := hO1; clear hO1
   have Z15 := (wj.ch.trans mg).trans BL
   replace u6 := u6.ch Z15
   have zz := freeze 0 hO rfl u6
   obtain ⟨hO1, BN, HV, Mu⟩ := zz
   dsimp only [eS, eZ] at hO1 BN HV
   replace hB := hB.trans (Owns.J09 _ _ 0)
   dsimp only [eS, eZ] at hB
   replace hO := hO1; clear hO1
   refine Go1.retC2 Try.func109 rfl rfl (J0h (vs := [.int .i64 d.Letters, .int .i64 0, .slice p97 n99 c98, .slice p91 n93 c92]) 2 hO rfl rfl Try.underlying25 rfl ti25) ?_
   replace BM := BM.ch BN
   replace lJ := (lJ.ch BL).ch BN
   exact ⟨(⟨d.Letters, (0 : Int), d_94, d_88⟩ : DFA), number6_330, p97, c98, p91, c92, sy, d.Final.length, (congrArg (fun l => Value.tuple (List.toArray l)) (J0i (congrArg (fun l => Value.agg (List.toArray l)) (J0i rfl (J0i rfl (J0i (congrArg (fun nn => Value.slice p97 nn c98) D8) (J0i (congrArg (fun nn => Value.slice p91 nn c92) Mt) rfl))))) (J0i (congrArg (fun nn => Value.slice sy nn d.Final.length) Mu) rfl))), hB.same, (lJ.ch (Ch.weak _ _ _)), (BM.ch (Ch.weak _ _ _)), (HV.ch (Ch.weak _ _ _)), H⟩
  replace H := H.2
  have zz := J0b (us := [.int .i64 d.Letters, .int .i64 0, .slice p97 n99 c98, .slice p91 n93 c92]) (o := 0) (cs' := #[.int .i64 d.Letters, .int .i64 0, .slice p97 n99 c98, .slice p91 n93 c92]) 6 hO rfl rfl (Nat.le_of_ble_eq_true rfl) rfl
  obtain ⟨Vk, vz, Cu⟩ := zz
  dsimp only [sS, sZ] at vz
  refine GoT.stepX rfl (Cu ti25 (by exact rfl) (by exact rfl) rfl) rfl rfl rfl ?_
  replace hO := vz.own
  skip
  refine GoT.step rfl ((oblk (i := 0) 5 hO rfl rfl Try.underlying31 rfl rfl) _ (Same.refl _)) (Same.refl _) rfl rfl ?_
  refine GoT.pure rfl (J0e rfl) rfl rfl ?_
  refine GoT.pure rfl (J0e rfl) rfl rfl ?_
  refine GoT.nil ?_
  refine Go1.retC3V Try.func139 rfl rfl (J0h (vs := [.int .i64 d.Letters, .int .i64 0, .slice p97 n99 c98, .slice p91 n93 c92]) 6 hO rfl rfl Try.underlying25 rfl ti25) (show _ = .slice fW fV fX from rfl) (show _ = .int .i64 0 from rfl) ?_
  refine hR20 _ _ ?_
  refine zm rfl (zo (J07 rfl rfl) (zo (J07 rfl rfl) (zo (J07 rfl rfl) ?_)))
  have zz := oalloc (t := 25) (cs := #[.int .i64 0, .int .i64 0, .slice none 0 0, .slice none 0 0]) ti25 hO rfl
  obtain ⟨IQ, B359, fk, T6, IR⟩ := zz
  refine GoR.op IR rfl rfl ?_
  replace hO := fk.own
  have zz := J0b (us := [.int .i64 d.Letters, .int .i64 0, .slice p97 n99 c98, .slice p91 n93 c92]) (o := 0) (cs' := #[.int .i64 d.Letters, .int .i64 0, .slice p97 n99 c98, .slice p91 n93 c92]) 0 hO rfl rfl (Nat.le_of_ble_eq_true rfl) rfl
  obtain ⟨Q2, vA, Cv⟩ := zz
  dsimp only [sS, sZ] at vA
  refine zg (Cv ti25 (by exact rfl) (by exact rfl) rfl) ?_
  replace hO := vA.own
  refine za rfl (za rfl (zn (zq ?_)))
  refine Go1.cut [(1, .pointer (some ⟨B2, 0, none⟩)), (2, .pointer (some ⟨B8, 0, none⟩)), (4, .pointer (some ⟨B359, 0, none⟩)), (5, .slice fW fV fX)] ⟨rfl, rfl, rfl, rfl, trivial⟩ ?_
  intro σ _
  refine zr (zo (J00 Try.underlying25 rfl ti22 rfl (by decide)) (zs (oblk (i := 2) 9 hO rfl rfl Try.underlying22 rfl rfl) (zo (J0d Try.underlying22 rfl) ?_)))
  have Z16 := ((wh.ch.trans vz.ch).trans fk.ch).trans vA.ch
  replace ag := ag.ch Z16
  replace H := H ag.bd
  obtain ⟨Cw, H⟩ := H
  obtain ⟨xC, H⟩ := H
  have zz := omake (n := (d.Final.length : Int)) (r := Rp.int .i64) (d := (0 : Int)) Try.underlying31 ti3 (fun _ _ => rfl) rfl hO Cw xC (by decide)
  obtain ⟨Vl, sA, Mv, wk, nP, T7, Cx⟩ := zz
  refine zg (Cx rfl rfl) ?_
  replace hO := wk.own
  refine za rfl (zn (zq (zq (zr (zm rfl ?_)))))
  refine zo (J0w Try.underlying31 rfl (nP.neq hO 0 rfl)) (zm rfl (zn (zb ?_)))
  replace hO := hO.drop 4
  replace nP := nP.ch (Owns.J04 _ _ 4)
  replace ag := (ag.ch wk.ch).ch (Owns.J04 _ _ 4)
  have Z17 := (Z16.trans wk.ch).trans (Owns.J04 _ _ 4)
  replace cP := cP.ch Z17
  replace cN := cN.ch Z17
  replace cO := cO.ch Z17
  replace ak := ak.ch Z17
  replace hB := (((((hB.trans wh.fr).trans vz.fr).trans fk.fr).trans vA.fr).trans wk.fr).trans (Owns.J09 _ _ 4)
  dsimp only [eS, eZ] at hB hO ag ak nP cP cN cO
  replace hO := hO.drop 5
  replace ag := ag.ch (Owns.J04 _ _ 5)
  replace ak := ak.ch (Owns.J04 _ _ 5)
  replace nP := nP.ch (Owns.J04 _ _ 5)
  replace cP := cP.ch (Owns.J04 _ _ 5)
  replace cN := cN.ch (Owns.J04 _ _ 5)
  replace cO := cO.ch (Owns.J04 _ _ 5)
  replace hB := hB.trans (Owns.J09 _ _ 5)
  dsimp only [eS, eZ] at hB hO ag ak nP cP cN cO
  replace hO := hO.drop 5
  replace ag := ag.ch (Owns.J04 _ _ 5)
  replace ak := ak.ch (Owns.J04 _ _ 5)
  replace nP := nP.ch (Owns.J04 _ _ 5)
  replace cP := cP.ch (Owns.J04 _ _ 5)
  replace cN := cN.ch (Owns.J04 _ _ 5)
  replace cO := cO.ch (Owns.J04 _ _ 5)
  replace hB := hB.trans (Owns.J09 _ _ 5)
  dsimp only [eS, eZ] at hB hO ag ak nP cP cN cO
  replace hO := hO.drop 5
  replace ag := ag.ch (Owns.J04 _ _ 5)
  replace ak := ak.ch (Owns.J04 _ _ 5)
  replace nP := nP.ch (Owns.J04 _ _ 5)
  replace cP := cP.ch (Owns.J04 _ _ 5)
  replace cN := cN.ch (Owns.J04 _ _ 5)
  replace cO := cO.ch (Owns.J04 _ _ 5)
  replace hB := hB.trans (Owns.J09 _ _ 5)
  dsimp only [eS, eZ] at hB hO ag ak nP cP cN cO
  replace hO := hO.drop 6
  replace ag := ag.ch (Owns.J04 _ _ 6)
  replace ak := ak.ch (Owns.J04 _ _ 6)
  replace nP := nP.ch (Owns.J04 _ _ 6)
  replace cP := cP.ch (Owns.J04 _ _ 6)
  replace cN := cN.ch (Owns.J04 _ _ 6)
  replace cO := cO.ch (Owns.J04 _ _ 6)
  replace hB := hB.trans (Owns.J09 _ _ 6)
  dsimp only [eS, eZ] at hB hO ag ak nP cP cN cO
  refine Go1.loopW (S := Nat × List Int) (fun s σ w => match s with | (k7_378, number7_379) => ∃ (vU : List Value), agrees σ [(2, .pointer (some ⟨B8, 0, none⟩)), (4, .pointer (some ⟨B359, 0, none⟩)), (5, .slice fW fV fX), (7, .slice sA d.Final.length d.Final.length), (31, .int .i64 ((List.replicate d.Final.length ((0 : Int))).length : Int)), (32, .int .i64 (k7_378 : Int))] ∧ (fun Z0 => Owns w0.heap.size w Z0 A ∧ Els (Rp.int .i64) (bl Z0 ++ A) w vU number7_379 ∧ Els (Rp.sl (Rp.int .i64)) (bl Z0 ++ A) w gy d_88 ∧ Els (Rp.bool) (bl Z0 ++ A) w gu d_94 ∧ Els (Rp.int .i64) (bl Z0 ++ A) w gn d_100 ∧ Fr (bl []) w0 (bl Z0) w) [.row 3 1 sA d.Final.length d.Final.length vU, .blk B359 (.cells #[.int .i64 d.Letters, .int .i64 0, .slice p97 n99 c98, .slice p91 n93 c92] 25 (0, 0)), .row 31 1 p91 n93 c92 gy, .row 4 1 p97 n99 c98 gu, .row 3 1 fW fV fX gn, .blk B8 (.cells #[.int .i64 0, .int .i64 0, .slice none 0 0, .slice none 0 0] 25 (0, 0))]) H ⟨Mv, ⟨rfl, rfl, rfl, rfl, rfl, rfl, trivial⟩, hO, nP, cP, cN, cO, hB⟩ ?_
  intro X7
  refine prE fun k7_378 => fun number7_379 => ?_
  intro H hX7 σ Vm
  refine exE fun vU => andE fun hag => andE fun hO => andE fun BO => andE fun cP => andE fun cN => andE fun cO => fun hB => ?_
  dsimp only at H
  refine Go1.keep [(2, .pointer (some ⟨B8, 0, none⟩)), (4, .pointer (some ⟨B359, 0, none⟩)), (5, .slice fW fV fX), (7, .slice sA d.Final.length d.Final.length), (31, .int .i64 ((List.replicate d.Final.length ((0 : Int))).length : Int)), (32, .int .i64 (k7_378 : Int))] hag ?_
  refine zq (zr ?_)
  by_cases D9 : (k7_378 : Int) < ((List.replicate d.Final.length ((0 : Int))).length : Int)
  ·replace H := ifp D9 H
   refine zo (fun w => opB (J08 rfl rfl w) (decide_eq_true D9)) (zn (zq (zt rfl rfl (zk (zq ?_)))))
   refine zb (zq (zr (zm rfl (za rfl (zn ?_)))))
   refine zr (zm rfl (zm rfl ?_))
   obtain ⟨FL, H⟩ := H
   obtain ⟨FM, H⟩ := H
   refine zo (J02 Try.underlying31 ti3 rfl rfl FL (ltn (BO.neq hO 0 rfl) FM) (BO.psome hO 0 rfl FL FM)) ?_
   have zz := ost (r := Rp.int .i64) rfl 0 hO rfl BO FL FM (v := .int .i64 (-1)) (u := (-1 : Int)) rfl rfl
   obtain ⟨Vn, Mw, kh, HW, Cy⟩ := zz
   dsimp only [sS, sZ] at kh HW
   refine zg (Cy Try.underlying3 rfl ti3 (by exact rfl) (by exact rfl)) ?_
   replace hO := kh.own
   refine zn ?_
   refine Go1.inBlock ?_
   refine zr ?_
   obtain ⟨Cz, H⟩ := H
   refine zo (J0c rfl rfl (wrap_i64 Cz)) (zm rfl (zn ?_))
   replace cP := cP.ch kh.ch
   replace cN := cN.ch kh.ch
   replace cO := cO.ch kh.ch
   replace hB := hB.trans kh.fr
   exact hX7 _ H _ _ ⟨Mw, ⟨rfl, rfl, rfl, rfl, rfl, rfl, trivial⟩, hO, HW, cP, cN, cO, hB⟩
  replace H := ifn D9 H
  refine zo (fun w => opB (J08 rfl rfl w) (decide_eq_false D9)) (zn (zq (zf rfl rfl ?_)))
  refine Go1.exit rfl ?_
  refine zq (zq (zr (zm rfl (zo (J0w Try.underlying31 rfl (cO.neq hO 4 rfl)) (zm rfl ?_)))))
  refine zn (zb ?_)
  refine Go1.loopW (S := Nat × List Int) (fun s σ w => match s with | (k8_392, number8_393) => ∃ (wJ : List Value), agrees σ [(2, .pointer (some ⟨B8, 0, none⟩)), (4, .pointer (some ⟨B359, 0, none⟩)), (7, .slice sA d.Final.length d.Final.length), (39, .slice fW fV fX), (40, .int .i64 (d_100.length : Int)), (41, .int .i64 (k8_392 : Int))] ∧ (fun Z0 => Owns w0.heap.size w Z0 A ∧ Els (Rp.int .i64) (bl Z0 ++ A) w wJ number8_393 ∧ Els (Rp.sl (Rp.int .i64)) (bl Z0 ++ A) w gy d_88 ∧ Els (Rp.bool) (bl Z0 ++ A) w gu d_94 ∧ Els (Rp.int .i64) (bl Z0 ++ A) w gn d_100 ∧ Fr (bl []) w0 (bl Z0) w) [.row 3 1 sA d.Final.length d.Final.length wJ, .blk B359 (.cells #[.int .i64 d.Letters, .int .i64 0, .slice p97 n99 c98, .slice p91 n93 c92] 25 (0, 0)), .row 31 1 p91 n93 c92 gy, .row 4 1 p97 n99 c98 gu, .row 3 1 fW fV fX gn, .blk B8 (.cells #[.int .i64 0, .int .i64 0, .slice none 0 0, .slice none 0 0] 25 (0, 0))]) H ⟨vU, ⟨rfl, rfl, rfl, rfl, rfl, rfl, trivial⟩, hO, BO, cP, cN, cO, hB⟩ ?_
  intro X8
  refine prE fun k8_392 => fun number8_393 => ?_
  intro H hX8 σ Vo
  refine exE fun wJ => andE fun hag => andE fun hO => andE fun u7 => andE fun cP => andE fun cN => andE fun cO => fun hB => ?_
  dsimp only at H
  refine Go1.keep [(2, .pointer (some ⟨B8, 0, none⟩)), (4, .pointer (some ⟨B359, 0, none⟩)), (7, .slice sA d.Final.length d.Final.length), (39, .slice fW fV fX), (40, .int .i64 (d_100.length : Int)), (41, .int .i64 (k8_392 : Int))] hag ?_
  refine zq (zr ?_)
  by_cases CA : (k8_392 : Int) < (d_100.length : Int)
  ·replace H := ifp CA H
   refine zo (fun w => opB (J08 rfl rfl w) (decide_eq_true CA)) (zn (zq (zt rfl rfl (zk (zq ?_)))))
   refine zb (zq (zr (zm rfl ?_)))
   obtain ⟨FN, H⟩ := H
   obtain ⟨xX, H⟩ := H
   refine zo (J02 Try.underlying31 ti3 rfl rfl FN (ltn (cO.neq hO 4 rfl) xX) (cO.psome hO 4 rfl FN xX)) (zs (oldInt 4 hO rfl cO FN xX Try.underlying3 rfl rfl) (za rfl (za rfl (zn (zr ?_)))))
   refine zm rfl (zm rfl (zm rfl ?_))
   obtain ⟨xY, H⟩ := H
   obtain ⟨h400, H⟩ := H
   refine zo (J02 Try.underlying31 ti3 rfl rfl xY (ltn (u7.neq hO 0 rfl) h400) (u7.psome hO 0 rfl xY h400)) ?_
   have zz := ost (r := Rp.int .i64) rfl 0 hO rfl u7 xY h400 (v := .int .i64 (k8_392 : Int)) (u := (k8_392 : Int)) rfl rfl
   obtain ⟨Q3, Mx, xj, HX, IS⟩ := zz
   dsimp only [sS, sZ] at xj HX
   refine zg (IS Try.underlying3 rfl ti3 (by exact rfl) (by exact rfl)) ?_
   replace hO := xj.own
   refine zn ?_
   refine Go1.inBlock ?_
   refine zr ?_
   replace cO := cO.ch xj.ch
   refine zo (J0c rfl rfl (wrap_i64 (natbd CA cO.bd))) (zm rfl (zn ?_))
   replace cP := cP.ch xj.ch
   replace cN := cN.ch xj.ch
   replace hB := hB.trans xj.fr
   exact hX8 _ H _ _ ⟨Mx, ⟨rfl, rfl, rfl, rfl, rfl, rfl, trivial⟩, hO, HX, cP, cN, cO, hB⟩
  replace H := ifn CA H
  refine zo (fun w => opB (J08 rfl rfl w) (decide_eq_false CA)) (zn (zq (zf rfl rfl ?_)))
  refine Go1.exit rfl ?_
  refine zq (zr (zs (J0n (vs := [.int .i64 d.Letters, .int .i64 0, .slice p97 n99 c98, .slice p91 n93 c92]) (i := 0) 1 hO rfl rfl Try.underlying25 rfl ti25 rfl) (zm rfl ?_)))
  have zz := J0b (us := [.int .i64 d.Letters, .int .i64 0, .slice p97 n99 c98, .slice p91 n93 c92]) (o := 0) (cs' := #[.int .i64 d.Letters, .int .i64 0, .slice p97 n99 c98, .slice p91 n93 c92]) 5 hO rfl rfl (Nat.le_of_ble_eq_true rfl) rfl
  obtain ⟨Vp, wm, IT⟩ := zz
  dsimp only [sS, sZ] at wm
  refine zg (IT ti25 (by exact rfl) (by exact rfl) rfl) ?_
  replace hO := wm.own
  refine za rfl (zn ?_)
  replace cN := cN.ch wm.ch
  have zz := freeze 3 hO rfl cN
  obtain ⟨hO1, BP, yA, My⟩ := zz
  dsimp only [eS, eZ] at hO1 BP yA
  replace hB := (hB.trans wm.fr).trans (Owns.J09 _ _ 3)
  dsimp only [eS, eZ] at hB
  replace hO := hO1; clear hO1
  replace cP := (cP.ch wm.ch).ch BP
  have zz := freeze 2 hO rfl cP
  obtain ⟨hO1, BQ, BR, Mz⟩ := zz
  dsimp only [eS, eZ] at hO1 BQ BR
  replace hB := hB.trans (Owns.J09 _ _ 2)
  dsimp only [eS, eZ] at hB
  replace hO := hO1; clear hO1
  have Z18 := (wm.ch.trans BP).trans BQ
  replace u7 := u7.ch Z18
  have zz := freeze 0 hO rfl u7
  obtain ⟨hO1, BS, HY, MA⟩ := zz
  dsimp only [eS, eZ] at hO1 BS HY
  replace hB := hB.trans (Owns.J09 _ _ 0)
  dsimp only [eS, eZ] at hB
  replace hO := hO1; clear hO1
  refine Go1.retC2 Try.func109 rfl rfl (J0h (vs := [.int .i64 d.Letters, .int .i64 0, .slice p97 n99 c98, .slice p91 n93 c92]) 2 hO rfl rfl Try.underlying25 rfl ti25) ?_
  replace BR := BR.ch BS
  replace yA := (yA.ch BQ).ch BS
  exact ⟨(⟨d.Letters, (0 : Int), d_94, d_88⟩ : DFA), number8_393, p97, c98, p91, c92, sA, d.Final.length, (congrArg (fun l => Value.tuple (List.toArray l)) (J0i (congrArg (fun l => Value.agg (List.toArray l)) (J0i rfl (J0i rfl (J0i (congrArg (fun nn => Value.slice p97 nn c98) My) (J0i (congrArg (fun nn => Value.slice p91 nn c92) Mz) rfl))))) (J0i (congrArg (fun nn => Value.slice sA nn d.Final.length) MA) rfl))), hB.same, (yA.ch (Ch.weak _ _ _)), (BR.ch (Ch.weak _ _ _)), (HY.ch (Ch.weak _ _ _)), H⟩
 replace H := ifn h19 H
 refine zo (fun w => opB (J0g rfl rfl w) (ndF h19)) (zn (zt rfl rfl (zq (zr (zo (J0s Try.underlying25 ti25 (pl := [(0, 1), (1, 1), (2, 1), (3, 1)]) (vs := []) (cs := #[.int .i64 0, .int .i64 0, .slice none 0 0, .slice none 0 0]) (by kernel_rfl) rfl (by kernel_rfl)) ?_)))))
 have zz := J0b (us := [.int .i64 0, .int .i64 0, .slice none 0 0, .slice none 0 0]) (o := 0) (cs' := #[.int .i64 0, .int .i64 0, .slice none 0 0, .slice none 0 0]) 0 hO rfl rfl (Nat.le_of_ble_eq_true rfl) rfl
 obtain ⟨Vq, Ac, IU⟩ := zz
 refine zg (IU ti25 (by exact rfl) (by exact rfl) rfl) ?_
 replace hO := Ac.own
 refine za rfl (zn ?_)
 refine Go1.retC2 Try.func109 rfl rfl (J0h (vs := [.int .i64 0, .int .i64 0, .slice none 0 0, .slice none 0 0]) 0 hO rfl rfl Try.underlying25 rfl ti25) ?_
 replace hB := (((hB.trans c5.fr).trans f7.fr).trans gG.fr).trans Ac.fr
 exact ⟨(⟨(0 : Int), (0 : Int), ([] : List Bool), ([] : List (List Int))⟩ : DFA), ([] : List Int), none, 0, none, 0, none, 0, rfl, hB.same, (ISl.null _ _ _), (ISl.null _ _ _), (ISl.null _ _ _), H⟩
theorem body110 : Body Try.prog 110 := ⟨Try.f110, Try.func110, rfl, by kernel_rfl⟩
theorem walk_minimize_Classes {A : List Nat} {w0 : World} {bQ : Option Addr} {bS : Nat} {b7 : Option Addr} {b8 : Nat} {a0 : DFA} (hA : ∀ b ∈ A, b < w0.heap.size) (aq : ISl (Rp.bool) A w0 bQ bS a0.Final) (av : ISl (Rp.sl (Rp.int .i64)) A w0 b7 b8 a0.Next) {K : List Int → Prop} (H : J0W a0 K) :
    CallsV Try.prog 110 #[.agg #[.int .i64 a0.Letters, .int .i64 a0.Start, .slice bQ a0.Final.length bS, .slice b7 a0.Next.length b8]] w0 (fun v w' => ∃ (r0 : List Int) (qD : Option Addr) (qE : Nat), v = .slice qD r0.length qE ∧ Same w0 w' ∧ ISl (Rp.int .i64) A w' qD qE r0 ∧ K r0) := by
 refine CallsV.of (l := [.agg #[.int .i64 a0.Letters, .int .i64 a0.Start, .slice bQ a0.Final.length bS, .slice b7 a0.Next.length b8]]) Try.func110 rfl Try.ntmps110 rfl ?_
 have hO := Owns.start hA
 have hB := Fr.refl (bl []) w0
 unfold J0W at H
 refine zq (zr ?_)
 have zz := obox (t := 25) (v := .agg #[.int .i64 a0.Letters, .int .i64 a0.Start, .slice bQ a0.Final.length bS, .slice b7 a0.Next.length b8]) (cs := #[.int .i64 a0.Letters, .int .i64 a0.Start, .slice bQ a0.Final.length bS, .slice b7 a0.Next.length b8]) hO rfl
 obtain ⟨w1, B2, c5, hs4, iQ⟩ := zz
 refine zg (iQ rfl) ?_
 replace hO := c5.own
 refine za rfl (zn (zq (zq (zr (zs (J0n (vs := [.int .i64 a0.Letters, .int .i64 a0.Start, .slice bQ a0.Final.length bS, .slice b7 a0.Next.length b8]) (i := 0) 0 hO rfl rfl Try.underlying25 rfl ti25 rfl) ?_)))))
 have Z1 := (Ch.start A w0).trans c5.ch
 replace aq := aq.ch Z1
 replace av := av.ch Z1
 refine GoR.call (J0a body61 rfl (J18 (d := a0) hO.lt aq av H)) rfl rfl ?_
 rintro v11 w8 ⟨r7, rfl, hs9, H⟩
 have iK := Stp.same hO hs9
 replace hO := iK.own
 by_cases h13 : r7 = (0 : Int)
 ·replace H := ifp h13 H
  refine zo (fun w => opB (J0g rfl rfl w) (ndT h13)) (zn (zf rfl rfl (zk (zq (zr ?_)))))
  refine zo (J00 Try.underlying25 rfl ti22 rfl (by decide)) (zs (oblk (i := 2) 0 hO rfl rfl Try.underlying22 rfl rfl) (zo (J0d Try.underlying22 rfl) ?_))
  replace aq := aq.ch iK.ch
  replace H := H aq.bd
  obtain ⟨h21, H⟩ := H
  obtain ⟨h22, H⟩ := H
  have zz := omake (n := (a0.Final.length : Int)) (r := Rp.int .i64) (d := (0 : Int)) Try.underlying31 ti3 (fun _ _ => rfl) rfl hO h21 h22 (by decide)
  obtain ⟨w14, p15, xD, nQ, dS, CB, xt⟩ := zz
  refine zg (xt rfl rfl) ?_
  replace hO := nQ.own
  refine za rfl (za rfl (zn (zq (zq (zr ?_)))))
  refine zo (J00 Try.underlying25 rfl ti22 rfl (by decide)) (zs (oblk (i := 2) 1 hO rfl rfl Try.underlying22 rfl rfl) (zo (J0d Try.underlying22 rfl) (zm rfl (zn (zb ?_)))))
  replace aq := aq.ch nQ.ch
  replace av := (av.ch iK.ch).ch nQ.ch
  replace hB := ((hB.trans c5.fr).trans iK.fr).trans nQ.fr
  refine Go1.loopW (S := Int × Nat × List Int) (fun s σ w => match s with | (k1_25, k1_26, d_27) => ∃ (xE : List Value), agrees σ [(1, .pointer (some ⟨B2, 0, none⟩)), (3, .slice p15 a0.Final.length a0.Final.length), (4, .int .i64 k1_25), (24, .slice bQ a0.Final.length bS), (25, .int .i64 (a0.Final.length : Int)), (26, .int .i64 (k1_26 : Int))] ∧ (fun Z0 => Owns w0.heap.size w Z0 A ∧ Els (Rp.int .i64) (bl Z0 ++ A) w xE d_27 ∧ ISl (Rp.bool) (bl Z0 ++ A) w bQ bS a0.Final ∧ ISl (Rp.sl (Rp.int .i64)) (bl Z0 ++ A) w b7 b8 a0.Next ∧ Fr (bl []) w0 (bl Z0) w) [.row 3 1 p15 a0.Final.length a0.Final.length xE, .blk B2 (.cells #[.int .i64 a0.Letters, .int .i64 a0.Start, .slice bQ a0.Final.length bS, .slice b7 a0.Next.length b8] 25 (0, 0))]) H ⟨xD, ⟨rfl, rfl, rfl, rfl, rfl, rfl, trivial⟩, hO, dS, aq, av, hB⟩ ?_
  intro X1
  refine prE fun k1_25 => prE fun k1_26 => fun d_27 => ?_
  intro H hX1 σ w24
  refine exE fun xE => andE fun hag => andE fun hO => andE fun wn => andE fun aq => andE fun av => fun hB => ?_
  dsimp only at H
  refine Go1.keep [(1, .pointer (some ⟨B2, 0, none⟩)), (3, .slice p15 a0.Final.length a0.Final.length), (4, .int .i64 k1_25), (24, .slice bQ a0.Final.length bS), (25, .int .i64 (a0.Final.length : Int)), (26, .int .i64 (k1_26 : Int))] hag ?_
  refine zq (zr ?_)
  by_cases h30 : (k1_26 : Int) < (a0.Final.length : Int)
  ·replace H := ifp h30 H
   refine zo (fun w => opB (J08 rfl rfl w) (decide_eq_true h30)) (zn (zq (zt rfl rfl (zk (zq ?_)))))
   refine zb (zq (zr (zm rfl ?_)))
   obtain ⟨h31, H⟩ := H
   obtain ⟨h32, H⟩ := H
   refine zo (J02 Try.underlying22 ti4 rfl rfl h31 h32 (aq.some_ h31 h32)) ?_
   by_cases h33 : ix a0.Final (k1_26 : Int) = true
   ·replace H := ifp h33 H
    refine zg (opB ((ldBool aq h31 h32 Try.underlying4 rfl rfl) _ (Same.refl _)) (h33)) (za rfl (za rfl (zn (zq (zr ?_)))))
    refine zm rfl (zo (J00 Try.underlying25 rfl ti22 rfl (by decide)) (zs (oblk (i := 2) 1 hO rfl rfl Try.underlying22 rfl rfl) ?_))
    obtain ⟨h34, H⟩ := H
    obtain ⟨h35, H⟩ := H
    refine zo (J02 Try.underlying22 ti4 rfl rfl h34 h35 (aq.some_ h34 h35)) ?_
    by_cases h36 : ix a0.Final (0 : Int) = true
    ·replace H := ifp h36 H
     refine zg (opB ((ldBool aq h34 h35 Try.underlying4 rfl rfl) _ (Same.refl _)) (h36)) (zo (op_neqB Try.underlying4 rfl rfl) (zn (zf rfl rfl (zk ?_))))
     refine Go1.inBlock ?_
     refine zr (zo (J0c rfl rfl (wrap_i64 (natbd h30 aq.bd))) (zm rfl (zn ?_)))
     exact hX1 _ H _ _ ⟨xE, ⟨rfl, rfl, rfl, rfl, rfl, rfl, trivial⟩, hO, wn, aq, av, hB⟩
    replace H := ifn h36 H
    refine zg (opB ((ldBool aq h34 h35 Try.underlying4 rfl rfl) _ (Same.refl _)) (Bool.eq_false_iff.2 h36)) (zo (op_neqB Try.underlying4 rfl rfl) (zn (zt rfl rfl (zr (zm rfl ?_)))))
    refine zm rfl ?_
    obtain ⟨h37, H⟩ := H
    obtain ⟨h38, H⟩ := H
    refine zo (J02 Try.underlying31 ti3 rfl rfl h37 (ltn (wn.neq hO 0 rfl) h38) (wn.psome hO 0 rfl h37 h38)) ?_
    have zz := ost (r := Rp.int .i64) rfl 0 hO rfl wn h37 h38 (v := .int .i64 1) (u := (1 : Int)) rfl rfl
    obtain ⟨w39, Q4, mS, cd, Ad⟩ := zz
    refine zg (Ad Try.underlying3 rfl ti3 (by exact rfl) (by exact rfl)) ?_
    replace hO := mS.own
    refine za rfl (zn ?_)
    refine Go1.inBlock ?_
    refine Go1.cut [(1, .pointer (some ⟨B2, 0, none⟩)), (3, .slice p15 a0.Final.length a0.Final.length), (4, .int .i64 2), (24, .slice bQ a0.Final.length bS), (25, .int .i64 (a0.Final.length : Int)), (26, .int .i64 (k1_26 : Int))] ⟨rfl, rfl, rfl, rfl, rfl, rfl, trivial⟩ ?_
    intro σ _
    refine zr ?_
    replace aq := aq.ch mS.ch
    refine zo (J0c rfl rfl (wrap_i64 (natbd h30 aq.bd))) (zm rfl (zn ?_))
    replace av := av.ch mS.ch
    replace hB := hB.trans mS.fr
    exact hX1 _ H _ _ ⟨Q4, ⟨rfl, rfl, rfl, rfl, rfl, rfl, trivial⟩, hO, cd, aq, av, hB⟩
   replace H := ifn h33 H
   refine zg (opB ((ldBool aq h31 h32 Try.underlying4 rfl rfl) _ (Same.refl _)) (Bool.eq_false_iff.2 h33)) (za rfl (za rfl (zn (zq (zr ?_)))))
   refine zm rfl (zo (J00 Try.underlying25 rfl ti22 rfl (by decide)) (zs (oblk (i := 2) 1 hO rfl rfl Try.underlying22 rfl rfl) ?_))
   obtain ⟨h44, H⟩ := H
   obtain ⟨h45, H⟩ := H
   refine zo (J02 Try.underlying22 ti4 rfl rfl h44 h45 (aq.some_ h44 h45)) ?_
   by_cases h46 : ix a0.Final (0 : Int) = true
   ·replace H := ifp h46 H
    refine zg (opB ((ldBool aq h44 h45 Try.underlying4 rfl rfl) _ (Same.refl _)) (h46)) (zo (op_neqB Try.underlying4 rfl rfl) (zn (zt rfl rfl (zr (zm rfl ?_)))))
    refine zm rfl ?_
    obtain ⟨h47, H⟩ := H
    obtain ⟨h48, H⟩ := H
    refine zo (J02 Try.underlying31 ti3 rfl rfl h47 (ltn (wn.neq hO 0 rfl) h48) (wn.psome hO 0 rfl h47 h48)) ?_
    have zz := ost (r := Rp.int .i64) rfl 0 hO rfl wn h47 h48 (v := .int .i64 1) (u := (1 : Int)) rfl rfl
    obtain ⟨w49, pG, u9, Q5, DW⟩ := zz
    refine zg (DW Try.underlying3 rfl ti3 (by exact rfl) (by exact rfl)) ?_
    replace hO := u9.own
    refine za rfl (zn ?_)
    refine Go1.inBlock ?_
    refine zr ?_
    replace aq := aq.ch u9.ch
    refine zo (J0c rfl rfl (wrap_i64 (natbd h30 aq.bd))) (zm rfl (zn ?_))
    replace av := av.ch u9.ch
    replace hB := hB.trans u9.fr
    exact hX1 _ H _ _ ⟨pG, ⟨rfl, rfl, rfl, rfl, rfl, rfl, trivial⟩, hO, Q5, aq, av, hB⟩
   replace H := ifn h46 H
   refine zg (opB ((ldBool aq h44 h45 Try.underlying4 rfl rfl) _ (Same.refl _)) (Bool.eq_false_iff.2 h46)) (zo (op_neqB Try.underlying4 rfl rfl) (zn (zf rfl rfl (zk ?_))))
   refine Go1.inBlock ?_
   refine zr (zo (J0c rfl rfl (wrap_i64 (natbd h30 aq.bd))) (zm rfl (zn ?_)))
   exact hX1 _ H _ _ ⟨xE, ⟨rfl, rfl, rfl, rfl, rfl, rfl, trivial⟩, hO, wn, aq, av, hB⟩
  replace H := ifn h30 H
  refine zo (fun w => opB (J08 rfl rfl w) (decide_eq_false h30)) (zn (zq (zf rfl rfl ?_)))
  refine Go1.exit rfl ?_
  refine zb ?_
  have zz := freeze 0 hO rfl wn
  obtain ⟨hO1, zw, Cj, Fi⟩ := zz
  replace hO := hO1; clear hO1
  replace aq := aq.ch zw
  replace av := av.ch zw
  replace hB := hB.trans (Owns.J09 _ _ 0)
  refine Go1.loopW (S := List Int × Int) (fun s σ w => match s with | (l2_58, k2_62) => ∃ (p59 : Option Addr) (c60 : Nat), agrees σ [(1, .pointer (some ⟨B2, 0, none⟩)), (3, .slice p59 l2_58.length c60), (4, .int .i64 k2_62)] ∧ (fun Z0 => Owns w0.heap.size w Z0 A ∧ ISl (Rp.bool) (bl Z0 ++ A) w bQ bS a0.Final ∧ ISl (Rp.sl (Rp.int .i64)) (bl Z0 ++ A) w b7 b8 a0.Next ∧ ISl (Rp.int .i64) (bl Z0 ++ A) w p59 c60 l2_58 ∧ Fr (bl []) w0 (bl Z0) w) [.blk B2 (.cells #[.int .i64 a0.Letters, .int .i64 a0.Start, .slice bQ a0.Final.length bS, .slice b7 a0.Next.length b8] 25 (0, 0))]) H ⟨p15, a0.Final.length, ⟨rfl, (congrArg (fun nn => Value.slice p15 nn a0.Final.length) Fi), rfl, trivial⟩, hO, aq, av, Cj, hB⟩ ?_
  intro X2
  refine prE fun l2_58 => fun k2_62 => ?_
  intro H hX2 σ w57
  refine exE fun p59 => exE fun c60 => andE fun hag => andE fun hO => andE fun aq => andE fun av => andE fun iG => fun hB => ?_
  dsimp only at H
  refine Go1.keep [(1, .pointer (some ⟨B2, 0, none⟩)), (3, .slice p59 l2_58.length c60), (4, .int .i64 k2_62)] hag ?_
  refine zb (zq (zr ?_))
  have zz := omakeMap (fun a : AN 7 => Value.agg (icells .i64 a.1).toArray) (fun a : Int => Value.int .i64 a) hO
  obtain ⟨w63, B64, Ae, ia, MB⟩ := zz
  refine GoR.op MB rfl rfl ?_
  replace hO := Ae.own
  refine za rfl (zn (zq (zr (zm rfl (zo (J0d Try.underlying31 rfl) ?_)))))
  replace iG := iG.ch Ae.ch
  replace H := H iG.bd
  obtain ⟨h76, H⟩ := H
  obtain ⟨h77, H⟩ := H
  have zz := omake (n := (l2_58.length : Int)) (r := Rp.int .i64) (d := (0 : Int)) Try.underlying31 ti3 (fun _ _ => rfl) rfl hO h76 h77 (by decide)
  obtain ⟨w69, p70, Q6, Af, Q7, QF, D1⟩ := zz
  refine zg (D1 rfl rfl) ?_
  replace hO := Af.own
  refine za rfl (zn (zq (zq (zr (zo (J00 Try.underlying25 rfl ti23 rfl (by decide)) ?_)))))
  refine zs (oblk (i := 3) 2 hO rfl rfl Try.underlying23 rfl rfl) (zo (J0d Try.underlying23 rfl) ?_)
  replace av := (av.ch Ae.ch).ch Af.ch
  replace H := H av.bd
  refine zm rfl (zn (zb ?_))
  replace iG := iG.ch Af.ch
  replace aq := (aq.ch Ae.ch).ch Af.ch
  replace hB := (hB.trans Ae.fr).trans Af.fr
  refine Go1.loopW (S := Nat × List Int × (List (AN 7 × Int))) (fun s σ w => match s with | (k3_80, d_81, m3_84) => ∃ (tI : List Value), agrees σ [(1, .pointer (some ⟨B2, 0, none⟩)), (3, .slice p59 l2_58.length c60), (4, .int .i64 k2_62), (7, .map (some B64)), (8, .slice p70 l2_58.length l2_58.length), (46, .slice b7 a0.Next.length b8), (47, .int .i64 (a0.Next.length : Int)), (48, .int .i64 (k3_80 : Int))] ∧ (fun Z0 => Owns w0.heap.size w Z0 A ∧ Els (Rp.int .i64) (bl Z0 ++ A) w tI d_81 ∧ ISl (Rp.bool) (bl Z0 ++ A) w bQ bS a0.Final ∧ ISl (Rp.sl (Rp.int .i64)) (bl Z0 ++ A) w b7 b8 a0.Next ∧ ISl (Rp.int .i64) (bl Z0 ++ A) w p59 c60 l2_58 ∧ Fr (bl []) w0 (bl Z0) w) [.row 3 1 p70 l2_58.length l2_58.length tI, .any (mapE (fun a : AN 7 => Value.agg (icells .i64 a.1).toArray) (fun a : Int => Value.int .i64 a) B64 m3_84), .blk B2 (.cells #[.int .i64 a0.Letters, .int .i64 a0.Start, .slice bQ a0.Final.length bS, .slice b7 a0.Next.length b8] 25 (0, 0))]) H ⟨Q6, ⟨rfl, rfl, rfl, rfl, rfl, rfl, rfl, rfl, trivial⟩, hO, Q7, aq, av, iG, hB⟩ ?_
  intro X3
  refine prE fun k3_80 => prE fun d_81 => fun m3_84 => ?_
  intro H hX3 σ w79
  refine exE fun tI => andE fun hag => andE fun hO => andE fun qH => andE fun aq => andE fun av => andE fun iG => fun hB => ?_
  dsimp only at H
  refine Go1.keep [(1, .pointer (some ⟨B2, 0, none⟩)), (3, .slice p59 l2_58.length c60), (4, .int .i64 k2_62), (7, .map (some B64)), (8, .slice p70 l2_58.length l2_58.length), (46, .slice b7 a0.Next.length b8), (47, .int .i64 (a0.Next.length : Int)), (48, .int .i64 (k3_80 : Int))] hag ?_
  refine zq (zr ?_)
  by_cases h85 : (k3_80 : Int) < (a0.Next.length : Int)
  ·replace H := ifp h85 H
   refine zo (fun w => opB (J08 rfl rfl w) (decide_eq_true h85)) (zn (zq (zt rfl rfl (zk (zq ?_)))))
   refine zb (zq (zr (zm rfl ?_)))
   obtain ⟨h86, H⟩ := H
   obtain ⟨h87, H⟩ := H
   refine zo (J02 Try.underlying23 ti31 rfl rfl h86 h87 (av.some_ h86 h87)) ?_
   have zz := ldSl av h86 h87
   obtain ⟨p88, c89, m7, Q8⟩ := zz
   refine zs (Q8 Try.underlying31 rfl rfl) (za rfl (za rfl (zn (zq (zr ?_)))))
   refine zm rfl (zm rfl ?_)
   obtain ⟨h92, H⟩ := H
   obtain ⟨h93, H⟩ := H
   refine zo (J02 Try.underlying31 ti3 rfl rfl h92 h93 (iG.some_ h92 h93)) (zs (ldInt iG h92 h93 Try.underlying3 rfl rfl) (zo (op_buildArr Try.underlying166 ti166 ti3 (vs := [(0, .int .i64 (ix l2_58 (k3_80 : Int)))]) (cs := #[.int .i64 (ix l2_58 (k3_80 : Int)), .int .i64 0, .int .i64 0, .int .i64 0, .int .i64 0, .int .i64 0, .int .i64 0]) rfl (by kernel_rfl)) ?_))
   have zz := oalloc (t := 166) (cs := (icells .i64 (([(0 : Int), (0 : Int), (0 : Int), (0 : Int), (0 : Int), (0 : Int), (0 : Int)] : List Int))).toArray) ti166 hO rfl
   obtain ⟨w94, B95, xF, Vr, MC⟩ := zz
   refine GoR.op MC rfl rfl ?_
   replace hO := xF.own
   obtain ⟨zC, H⟩ := H
   have zz := oarrStA (M := [(ix l2_58 (k3_80 : Int)), (0 : Int), (0 : Int), (0 : Int), (0 : Int), (0 : Int), (0 : Int)]) 0 hO rfl (by rw [zC]; rfl)
   obtain ⟨Q9, gQ, IV⟩ := zz
   refine zg (IV ti166 (by exact rfl) (by exact rfl)) ?_
   replace hO := gQ.own
   refine zn (zq (zq (zr (zm rfl (zo (J0d Try.underlying31 rfl) ?_)))))
   replace m7 := (m7.ch xF.ch).ch gQ.ch
   replace H := H m7.bd
   refine zm rfl (zn (zb ?_))
   have Z2 := xF.ch.trans gQ.ch
   replace qH := qH.ch Z2
   replace aq := aq.ch Z2
   replace av := av.ch Z2
   replace iG := iG.ch Z2
   replace hB := (hB.trans xF.fr).trans gQ.fr
   refine Go1.loopW (S := Nat × List Int) (fun s σ w => match s with | (k4_105, y4_106) => agrees σ [(1, .pointer (some ⟨B2, 0, none⟩)), (3, .slice p59 l2_58.length c60), (4, .int .i64 k2_62), (7, .map (some B64)), (8, .slice p70 l2_58.length l2_58.length), (9, .int .i64 (k3_80 : Int)), (11, .pointer (some ⟨B95, 0, none⟩)), (46, .slice b7 a0.Next.length b8), (47, .int .i64 (a0.Next.length : Int)), (48, .int .i64 (k3_80 : Int)), (58, .slice p88 ((ix a0.Next (k3_80 : Int)).length) c89), (59, .int .i64 ((ix a0.Next (k3_80 : Int)).length : Int)), (60, .int .i64 (k4_105 : Int))] ∧ (fun Z0 => Owns w0.heap.size w Z0 A ∧ Els (Rp.int .i64) (bl Z0 ++ A) w tI d_81 ∧ ISl (Rp.bool) (bl Z0 ++ A) w bQ bS a0.Final ∧ ISl (Rp.sl (Rp.int .i64)) (bl Z0 ++ A) w b7 b8 a0.Next ∧ ISl (Rp.int .i64) (bl Z0 ++ A) w p59 c60 l2_58 ∧ ISl (Rp.int .i64) (bl Z0 ++ A) w p88 c89 (ix a0.Next (k3_80 : Int)) ∧ Fr (bl []) w0 (bl Z0) w) [.blk B95 (.cells (icells .i64 y4_106).toArray 166 (0, 0)), .row 3 1 p70 l2_58.length l2_58.length tI, .any (mapE (fun a : AN 7 => Value.agg (icells .i64 a.1).toArray) (fun a : Int => Value.int .i64 a) B64 m3_84), .blk B2 (.cells #[.int .i64 a0.Letters, .int .i64 a0.Start, .slice bQ a0.Final.length bS, .slice b7 a0.Next.length b8] 25 (0, 0))]) H ⟨⟨rfl, rfl, rfl, rfl, rfl, rfl, rfl, rfl, rfl, rfl, rfl, rfl, rfl, trivial⟩, hO, qH, aq, av, iG, m7, hB⟩ ?_
   intro X4
   refine prE fun k4_105 => fun y4_106 => ?_
   intro H hX4 σ Vt
   refine andE fun hag => andE fun hO => andE fun qH => andE fun aq => andE fun av => andE fun iG => andE fun m7 => fun hB => ?_
   dsimp only at H
   refine Go1.keep [(1, .pointer (some ⟨B2, 0, none⟩)), (3, .slice p59 l2_58.length c60), (4, .int .i64 k2_62), (7, .map (some B64)), (8, .slice p70 l2_58.length l2_58.length), (9, .int .i64 (k3_80 : Int)), (11, .pointer (some ⟨B95, 0, none⟩)), (46, .slice b7 a0.Next.length b8), (47, .int .i64 (a0.Next.length : Int)), (48, .int .i64 (k3_80 : Int)), (58, .slice p88 ((ix a0.Next (k3_80 : Int)).length) c89), (59, .int .i64 ((ix a0.Next (k3_80 : Int)).length : Int)), (60, .int .i64 (k4_105 : Int))] hag ?_
   refine zq (zr ?_)
   by_cases nN : (k4_105 : Int) < ((ix a0.Next (k3_80 : Int)).length : Int)
   ·replace H := ifp nN H
    refine zo (fun w => opB (J08 rfl rfl w) (decide_eq_true nN)) (zn (zq (zt rfl rfl (zk (zq ?_)))))
    refine zb (zq (zr (zm rfl ?_)))
    obtain ⟨qG, H⟩ := H
    obtain ⟨vO, H⟩ := H
    refine zo (J02 Try.underlying31 ti3 rfl rfl qG vO (m7.some_ qG vO)) (zs (ldInt m7 qG vO Try.underlying3 rfl rfl) (za rfl (za rfl (zn (zr ?_)))))
    refine zm rfl ?_
    obtain ⟨CC, H⟩ := H
    refine zo (J0c rfl rfl (wrap_i64 CC)) (zm rfl (zm rfl ?_))
    obtain ⟨zD, H⟩ := H
    obtain ⟨x4, H⟩ := H
    refine zo (J02 Try.underlying31 ti3 rfl rfl zD x4 (iG.some_ zD x4)) (zs (ldInt iG zD x4 Try.underlying3 rfl rfl) ?_)
    obtain ⟨Ra, H⟩ := H
    obtain ⟨IW, H⟩ := H
    obtain ⟨IX, H⟩ := H
    refine zo (op_indexArr (n := 7) Try.underlying166 ti3 rfl rfl IW IX) ?_
    have zz := oarrSt (v := (ix l2_58 (ix (ix a0.Next (k3_80 : Int)) (k4_105 : Int)))) 0 hO rfl IW (arrLt Ra IX)
    obtain ⟨Vu, wo, IY⟩ := zz
    refine zg (IY Try.underlying3 rfl ti3 (by exact rfl) (by exact rfl)) ?_
    replace hO := wo.own
    refine zn ?_
    refine Go1.inBlock ?_
    refine zr ?_
    replace m7 := m7.ch wo.ch
    refine zo (J0c rfl rfl (wrap_i64 (natbd nN m7.bd))) (zm rfl (zn ?_))
    replace qH := qH.ch wo.ch
    replace aq := aq.ch wo.ch
    replace av := av.ch wo.ch
    replace iG := iG.ch wo.ch
    replace hB := hB.trans wo.fr
    exact hX4 _ H _ _ ⟨⟨rfl, rfl, rfl, rfl, rfl, rfl, rfl, rfl, rfl, rfl, rfl, rfl, rfl, trivial⟩, hO, qH, aq, av, iG, m7, hB⟩
   replace H := ifn nN H
   refine zo (fun w => opB (J08 rfl rfl w) (decide_eq_false nN)) (zn (zq (zf rfl rfl ?_)))
   refine Go1.exit rfl ?_
   refine zq (zr (zm rfl ?_))
   obtain ⟨Rb, H⟩ := H
   refine zs (oarrLd 0 hO rfl Rb Try.underlying166 rfl ti166 rfl) ?_
   by_cases Ea : mhas m3_84 ((toAN 7 y4_106)) = true
   ·replace H := ifp Ea H
    refine zs (olookT (a := (toAN 7 y4_106)) (MK.arrN Try.underlying166 Try.underlying3 ti3) 2 hO rfl Try.underlying164 rfl rfl Ea) (zm rfl (zo (J07 rfl rfl) (zo (J07 rfl rfl) (za rfl (za rfl ?_)))))
    refine zn (zq (zq ?_))
    refine Go1.cut [(1, .pointer (some ⟨B2, 0, none⟩)), (3, .slice p59 l2_58.length c60), (4, .int .i64 k2_62), (7, .map (some B64)), (8, .slice p70 l2_58.length l2_58.length), (9, .int .i64 (k3_80 : Int)), (11, .pointer (some ⟨B95, 0, none⟩)), (14, .int .i64 (mgt m3_84 ((toAN 7 y4_106)))), (15, .bool true), (46, .slice b7 a0.Next.length b8), (47, .int .i64 (a0.Next.length : Int)), (48, .int .i64 (k3_80 : Int))] ⟨rfl, rfl, rfl, rfl, rfl, rfl, rfl, rfl, rfl, rfl, rfl, rfl, trivial⟩ ?_
    intro σ _
    refine zr (zm rfl (zo (J0p rfl) (zn (zf rfl rfl (zk ?_)))))
    refine zr (zm rfl (zm rfl (zm rfl ?_)))
    obtain ⟨FO, H⟩ := H
    obtain ⟨FP, H⟩ := H
    refine zo (J02 Try.underlying31 ti3 rfl rfl FO (ltn (qH.neq hO 1 rfl) FP) (qH.psome hO 1 rfl FO FP)) ?_
    have zz := ost (r := Rp.int .i64) rfl 1 hO rfl qH FO FP (v := .int .i64 (mgt m3_84 ((toAN 7 y4_106)))) (u := (mgt m3_84 ((toAN 7 y4_106)))) rfl rfl
    obtain ⟨Vv, nS, xk, xG, CD⟩ := zz
    refine zg (CD Try.underlying3 rfl ti3 (by exact rfl) (by exact rfl)) ?_
    replace hO := xk.own
    refine zn ?_
    refine Go1.inBlock ?_
    refine zr ?_
    replace av := av.ch xk.ch
    refine zo (J0c rfl rfl (wrap_i64 (natbd h85 av.bd))) (zm rfl (zn ?_))
    replace hO := hO.drop 0
    replace av := av.ch (Owns.J04 _ _ 0)
    replace xG := xG.ch (Owns.J04 _ _ 0)
    have Z3 := xk.ch.trans (Owns.J04 _ _ 0)
    replace aq := aq.ch Z3
    replace iG := iG.ch Z3
    replace hB := (hB.trans xk.fr).trans (Owns.J09 _ _ 0)
    exact hX3 _ H _ _ ⟨nS, ⟨rfl, rfl, rfl, rfl, rfl, rfl, rfl, rfl, trivial⟩, hO, xG, aq, av, iG, hB⟩
   replace H := ifn Ea H
   refine zs (olookF (a := (toAN 7 y4_106)) (MK.arrN Try.underlying166 Try.underlying3 ti3) 2 hO rfl Try.underlying164 ti3 rfl rfl Ea) (zm rfl (zo (J07 rfl rfl) (zo (J07 rfl rfl) (za rfl (za rfl ?_)))))
   refine zn (zq (zq (zr (zm rfl (zo (J0p rfl) ?_)))))
   refine zn (zt rfl rfl (zq (zr (zm rfl (zs (omapLen 2 hO rfl Try.underlying164 rfl) ?_)))))
   refine za rfl (zn ?_)
   refine Go1.cut [(1, .pointer (some ⟨B2, 0, none⟩)), (3, .slice p59 l2_58.length c60), (4, .int .i64 k2_62), (7, .map (some B64)), (8, .slice p70 l2_58.length l2_58.length), (9, .int .i64 (k3_80 : Int)), (11, .pointer (some ⟨B95, 0, none⟩)), (14, .int .i64 (m3_84.length : Int)), (46, .slice b7 a0.Next.length b8), (47, .int .i64 (a0.Next.length : Int)), (48, .int .i64 (k3_80 : Int))] ⟨rfl, rfl, rfl, rfl, rfl, rfl, rfl, rfl, rfl, rfl, rfl, trivial⟩ ?_
   intro σ _
   refine zr (zm rfl ?_)
   obtain ⟨Rc, H⟩ := H
   refine zs (oarrLd 0 hO rfl Rc Try.underlying166 rfl ti166 rfl) (zm rfl ?_)
   have zz := omapUpd (MK.arrN Try.underlying166 Try.underlying3 ti3) 2 hO rfl Try.underlying164 (toAN 7 y4_106) (m3_84.length : Int)
   obtain ⟨CE, wq, I0⟩ := zz
   refine zg (I0 (by exact rfl) (by exact rfl) (by exact rfl)) ?_
   replace hO := wq.own
   refine zn (zr (zm rfl (zm rfl (zm rfl ?_))))
   obtain ⟨xT, H⟩ := H
   obtain ⟨FQ, H⟩ := H
   replace qH := qH.ch wq.ch
   refine zo (J02 Try.underlying31 ti3 rfl rfl xT (ltn (qH.neq hO 1 rfl) FQ) (qH.psome hO 1 rfl xT FQ)) ?_
   have zz := ost (r := Rp.int .i64) rfl 1 hO rfl qH xT FQ (v := .int .i64 (m3_84.length : Int)) (u := (m3_84.length : Int)) rfl rfl
   obtain ⟨Vw, MD, xl, dw, I1⟩ := zz
   refine zg (I1 Try.underlying3 rfl ti3 (by exact rfl) (by exact rfl)) ?_
   replace hO := xl.own
   refine zn ?_
   refine Go1.inBlock ?_
   refine zr ?_
   replace av := (av.ch wq.ch).ch xl.ch
   refine zo (J0c rfl rfl (wrap_i64 (natbd h85 av.bd))) (zm rfl (zn ?_))
   replace hO := hO.drop 0
   replace av := av.ch (Owns.J04 _ _ 0)
   replace dw := dw.ch (Owns.J04 _ _ 0)
   have Z4 := (wq.ch.trans xl.ch).trans (Owns.J04 _ _ 0)
   replace aq := aq.ch Z4
   replace iG := iG.ch Z4
   replace hB := ((hB.trans wq.fr).trans xl.fr).trans (Owns.J09 _ _ 0)
   exact hX3 _ H _ _ ⟨MD, ⟨rfl, rfl, rfl, rfl, rfl, rfl, rfl, rfl, trivial⟩, hO, dw, aq, av, iG, hB⟩
  replace H := ifn h85 H
  refine zo (fun w => opB (J08 rfl rfl w) (decide_eq_false h85)) (zn (zq (zf rfl rfl ?_)))
  refine Go1.exit rfl ?_
  refine zq (zq (zr (zm rfl (zs (omapLen 1 hO rfl Try.underlying164 rfl) (zm rfl ?_)))))
  by_cases x5 : (m3_84.length : Int) = k2_62
  ·replace H := ifp x5 H
   refine zo (fun w => opB (J0A rfl rfl w) (decide_eq_true x5)) (zn (zt rfl rfl (zq (zr (zm rfl ?_)))))
   refine za rfl (zn ?_)
   have zz := freeze 0 hO rfl qH
   obtain ⟨hO1, Eb, ME, MF⟩ := zz
   replace hO := hO1; clear hO1
   refine Go1.ret1 Try.func110 rfl ?_
   replace hB := hB.trans (Owns.J09 _ _ 0)
   exact ⟨d_81, p70, l2_58.length, (congrArg (fun nn => Value.slice p70 nn l2_58.length) MF), hB.same, (ME.ch (Ch.weak _ _ _)), H⟩
  replace H := ifn x5 H
  refine zo (fun w => opB (J0A rfl rfl w) (decide_eq_false x5)) (zn (zf rfl rfl (zk (zr (zm rfl ?_)))))
  refine zm rfl (zs (omapLen 1 hO rfl Try.underlying164 rfl) (za rfl (za rfl (zn ?_))))
  refine Go1.inBlock ?_
  have zz := freeze 0 hO rfl qH
  obtain ⟨hO1, Ec, Ed, MG⟩ := zz
  replace hO := hO1; clear hO1
  replace hO := hO.drop 0
  replace Ed := Ed.ch (Owns.J04 _ _ 0)
  have Z5 := Ec.trans (Owns.J04 _ _ 0)
  replace aq := aq.ch Z5
  replace av := av.ch Z5
  replace hB := (hB.trans (Owns.J09 _ _ 0)).trans (Owns.J09 _ _ 0)
  exact hX2 _ H _ _ ⟨p70, l2_58.length, ⟨rfl, (congrArg (fun nn => Value.slice p70 nn l2_58.length) MG), rfl, trivial⟩, hO, aq, av, Ed, hB⟩
 replace H := ifn h13 H
 refine zo (fun w => opB (J0g rfl rfl w) (ndF h13)) (zn (zt rfl rfl (zq ?_)))
 refine Go1.cut [] trivial ?_
 intro σ _
 refine zr (za rfl (zn ?_))
 refine Go1.ret1 Try.func110 rfl ?_
 replace hB := (hB.trans c5.fr).trans iK.fr
 exact ⟨([] : List Int), none, 0, rfl, hB.same, (ISl.null _ _ _), H⟩
end Sg
