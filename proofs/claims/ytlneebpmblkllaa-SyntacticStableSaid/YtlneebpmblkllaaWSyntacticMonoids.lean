/- -/
import Derived.Test.YtlneebpmblkllaaTi
import Derived.Test.YtlneebpmblkllaaAl
namespace Sg
open Go Go.RowKit Go.Proofs
set_option linter.unusedVariables false
set_option linter.unusedSimpArgs false
set_option maxRecDepth 100000
set_option maxHeartbeats 4000000
theorem body59 : Body Try.prog 59 := ⟨Try.f59, Try.func59, rfl, by kernel_rfl⟩
theorem J2E {A : List Nat} {w0 : World} {letters : Int} (hA : ∀ b ∈ A, b < w0.heap.size) {K : Bool → Prop} (H : J1a letters K) :
    CallsV Try.prog 59 #[.int .i64 letters] w0 (fun v w' => ∃ (r0 : Bool), v = .bool r0 ∧ Same w0 w' ∧ K r0) := by
 refine CallsV.of (l := [.int .i64 letters]) Try.func59 rfl Try.ntmps59 rfl ?_
 have hO := Owns.start hA
 have hB := Fr.refl (bl []) w0
 unfold J1a at H
 refine zq (zr (za rfl (zn (zq (zr ?_)))))
 refine zm rfl ?_
 by_cases h1 : (1 : Int) ≤ letters
 ·replace H := ifp h1 H
  refine zo (fun w => opB (J1k rfl rfl w) (decide_eq_true h1)) (zm rfl (zm rfl ?_))
  by_cases h2 : letters ≤ (6 : Int)
  ·replace H := ifp h2 H
   refine zo (fun w => opB (J4E rfl rfl w) (decide_eq_true h2)) (zo (J04 rfl rfl rfl) (za rfl (zn ?_)))
   refine Go1.ret1 Try.func59 rfl ?_
   exact ⟨true, rfl, hB.same, H⟩
  replace H := ifn h2 H
  refine zo (fun w => opB (J4E rfl rfl w) (decide_eq_false h2)) (zo (J04 rfl rfl rfl) (za rfl (zn ?_)))
  refine Go1.ret1 Try.func59 rfl ?_
  exact ⟨false, rfl, hB.same, H⟩
 replace H := ifn h1 H
 refine zo (fun w => opB (J1k rfl rfl w) (decide_eq_false h1)) (zm rfl (zp (zp (zo (J05 rfl rfl rfl) (za rfl ?_)))))
 refine zn ?_
 refine Go1.ret1 Try.func59 rfl ?_
 exact ⟨false, rfl, hB.same, H⟩
theorem body16 : Body Try.prog 16 := ⟨Try.f16, Try.func16, rfl, by kernel_rfl⟩
theorem J3i {A : List Nat} {w0 : World} {bj : Option Addr} {bk : Nat} {bm : Option Addr} {bn : Nat} {d : DFA} (hA : ∀ b ∈ A, b < w0.heap.size) (ak : ISl (Rp.bool) A w0 bj bk d.Final) (ap : ISl (Rp.sl (Rp.int .i64)) A w0 bm bn d.Next) {K : Int → Prop} (H : J18 d K) :
    CallsV Try.prog 16 #[.agg #[.int .i64 d.Letters, .int .i64 d.Start, .slice bj d.Final.length bk, .slice bm d.Next.length bn]] w0 (fun v w' => ∃ (r0 : Int), v = .int .i64 r0 ∧ Same w0 w' ∧ K r0) := by
 refine CallsV.of (l := [.agg #[.int .i64 d.Letters, .int .i64 d.Start, .slice bj d.Final.length bk, .slice bm d.Next.length bn]]) Try.func16 rfl Try.ntmps16 rfl ?_
 have hO := Owns.start hA
 have hB := Fr.refl (bl []) w0
 unfold J18 at H
 refine zq (zr ?_)
 have zz := obox (t := 25) (v := .agg #[.int .i64 d.Letters, .int .i64 d.Start, .slice bj d.Final.length bk, .slice bm d.Next.length bn]) (cs := #[.int .i64 d.Letters, .int .i64 d.Start, .slice bj d.Final.length bk, .slice bm d.Next.length bn]) hO rfl
 obtain ⟨w1, B2, dX, hs4, jU⟩ := zz
 refine zg (jU rfl) ?_
 replace hO := dX.own
 refine za rfl (zn (zq (zr (zo (J00 Try.underlying25 rfl ti22 rfl (by decide)) (zs (oblk (i := 2) 0 hO rfl rfl Try.underlying22 rfl rfl) ?_)))))
 refine zo (J0c Try.underlying22 rfl) ?_
 replace ak := (ak.ch (Ch.start A w0)).ch dX.ch
 replace H := H ak.bd
 refine za rfl (zn (zq (zq (zr (zo (J00 Try.underlying25 rfl ti3 rfl (by decide)) ?_)))))
 refine zs (oblk (i := 0) 0 hO rfl rfl Try.underlying3 rfl rfl) ?_
 refine GoR.call (J0a body59 rfl (J2E hO.lt H)) rfl rfl ?_
 rintro v11 w8 ⟨r7, rfl, hs9, H⟩
 have k8 := Stp.same hO hs9
 replace hO := k8.own
 cases r7
 ·replace H := ifn Bool.false_ne_true H
  refine zo (J0g rfl) (zn (zt rfl rfl (zq (zr (za rfl ?_)))))
  refine zn ?_
  refine Go1.ret1 Try.func16 rfl ?_
  replace hB := (hB.trans dX.fr).trans k8.fr
  exact ⟨(1 : Int), rfl, hB.same, H⟩
 replace H := ifp rfl H
 refine zo (J0g rfl) (zn (zf rfl rfl (zk (zq (zq ?_)))))
 refine zr (zm rfl ?_)
 by_cases h13 : (512 : Int) < (d.Final.length : Int)
 ·replace H := ifp h13 H
  refine zo (fun w => opB (J17 rfl rfl w) (decide_eq_true h13)) (zn (zt rfl rfl (zq (zr (za rfl ?_)))))
  refine zn ?_
  refine Go1.ret1 Try.func16 rfl ?_
  replace hB := (hB.trans dX.fr).trans k8.fr
  exact ⟨(3 : Int), rfl, hB.same, H⟩
 replace H := ifn h13 H
 refine zo (fun w => opB (J17 rfl rfl w) (decide_eq_false h13)) (zn (zf rfl rfl (zk (zq (zq ?_)))))
 refine zr (zm rfl ?_)
 by_cases h14 : (d.Final.length : Int) = (0 : Int)
 ·replace H := ifp h14 H
  refine zo (fun w => opB (J0D rfl rfl w) (decide_eq_true h14)) (zm rfl (zp (zp (zp (zp ?_)))))
  refine zp (zo (J04 rfl rfl rfl) (zm rfl (zp (zp (zp ?_)))))
  refine zo (J04 rfl rfl rfl) (zm rfl (zp (zp (zp (zp ?_)))))
  refine zo (J04 rfl rfl rfl) (zn (zt rfl rfl (zq ?_)))
  refine Go1.cut [] trivial ?_
  intro σ _
  refine zr (za rfl (zn ?_))
  refine Go1.ret1 Try.func16 rfl ?_
  replace hB := (hB.trans dX.fr).trans k8.fr
  exact ⟨(4 : Int), rfl, hB.same, H⟩
 replace H := ifn h14 H
 refine zo (fun w => opB (J0D rfl rfl w) (decide_eq_false h14)) (zm rfl (zo (J00 Try.underlying25 rfl ti23 rfl (by decide)) (zs (oblk (i := 3) 0 hO rfl rfl Try.underlying23 rfl rfl) (zo (J0c Try.underlying23 rfl) ?_))))
 have Z1 := ((Ch.start A w0).trans dX.ch).trans k8.ch
 replace ap := ap.ch Z1
 replace H := H ap.bd
 refine zm rfl ?_
 by_cases h15 : (d.Next.length : Int) = (d.Final.length : Int)
 ·replace H := ifp h15 H
  refine zo (fun w => opB (J0j rfl rfl w) (ndT h15)) (zo (J05 rfl rfl rfl) (zm rfl (zo (J00 Try.underlying25 rfl ti3 rfl (by decide)) (zs (oblk (i := 1) 0 hO rfl rfl Try.underlying3 rfl rfl) ?_))))
  by_cases h16 : d.Start < (0 : Int)
  ·replace H := ifp h16 H
   refine zo (fun w => opB (J08 rfl rfl w) (decide_eq_true h16)) (zo (J05 rfl rfl rfl) (zm rfl (zp (zp (zp ?_)))))
   refine zp (zo (J04 rfl rfl rfl) (zn (zt rfl rfl (zq ?_))))
   refine Go1.cut [] trivial ?_
   intro σ _
   refine zr (za rfl (zn ?_))
   refine Go1.ret1 Try.func16 rfl ?_
   replace hB := (hB.trans dX.fr).trans k8.fr
   exact ⟨(4 : Int), rfl, hB.same, H⟩
  replace H := ifn h16 H
  refine zo (fun w => opB (J08 rfl rfl w) (decide_eq_false h16)) (zo (J05 rfl rfl rfl) (zm rfl (zo (J00 Try.underlying25 rfl ti3 rfl (by decide)) (zs (oblk (i := 1) 0 hO rfl rfl Try.underlying3 rfl rfl) (zm rfl ?_)))))
  by_cases h17 : (d.Final.length : Int) ≤ d.Start
  ·replace H := ifp h17 H
   refine zo (fun w => opB (J1k rfl rfl w) (decide_eq_true h17)) (zo (J05 rfl rfl rfl) (zn (zt rfl rfl (zq (zr ?_)))))
   refine za rfl (zn ?_)
   refine Go1.ret1 Try.func16 rfl ?_
   replace hB := (hB.trans dX.fr).trans k8.fr
   exact ⟨(4 : Int), rfl, hB.same, H⟩
  replace H := ifn h17 H
  refine zo (fun w => opB (J1k rfl rfl w) (decide_eq_false h17)) (zo (J05 rfl rfl rfl) (zn (zf rfl rfl (zk (zq ?_)))))
  refine zq (zr (zo (J00 Try.underlying25 rfl ti23 rfl (by decide)) (zs (oblk (i := 3) 0 hO rfl rfl Try.underlying23 rfl rfl) (zo (J0c Try.underlying23 rfl) (zm rfl ?_)))))
  refine zn (zb ?_)
  replace ak := ak.ch k8.ch
  replace hB := (hB.trans dX.fr).trans k8.fr
  refine Go1.loopW (S := Nat) (fun s σ w => agrees σ [(1, .pointer (some ⟨B2, 0, none⟩)), (3, .int .i64 (d.Final.length : Int)), (38, .slice bm d.Next.length bn), (39, .int .i64 (d.Next.length : Int)), (40, .int .i64 (s : Int))] ∧ (fun Z0 => Owns w0.heap.size w Z0 A ∧ ISl (Rp.bool) (bl Z0 ++ A) w bj bk d.Final ∧ ISl (Rp.sl (Rp.int .i64)) (bl Z0 ++ A) w bm bn d.Next ∧ Fr (bl []) w0 (bl Z0) w) [.blk B2 (.cells #[.int .i64 d.Letters, .int .i64 d.Start, .slice bj d.Final.length bk, .slice bm d.Next.length bn] 25 (0, 0))]) H ⟨⟨rfl, rfl, rfl, rfl, rfl, trivial⟩, hO, ak, ap, hB⟩ ?_
  intro X1 k1_19
  intro H hX1 σ w18
  refine andE fun hag => andE fun hO => andE fun ak => andE fun ap => fun hB => ?_
  refine Go1.keep [(1, .pointer (some ⟨B2, 0, none⟩)), (3, .int .i64 (d.Final.length : Int)), (38, .slice bm d.Next.length bn), (39, .int .i64 (d.Next.length : Int)), (40, .int .i64 (k1_19 : Int))] hag ?_
  refine zq (zr ?_)
  by_cases h20 : (k1_19 : Int) < (d.Next.length : Int)
  ·replace H := ifp h20 H
   refine zo (fun w => opB (J08 rfl rfl w) (decide_eq_true h20)) (zn (zq (zt rfl rfl (zk (zq ?_)))))
   refine zb (zq (zr ?_))
   obtain ⟨h21, H⟩ := H
   obtain ⟨h22, H⟩ := H
   refine zo (J02 Try.underlying23 ti31 rfl rfl h21 h22 (ap.some_ h21 h22)) ?_
   have zz := ldSl ap h21 h22
   obtain ⟨p23, c24, Ai, So⟩ := zz
   refine zs (So Try.underlying31 rfl rfl) (za rfl (zn (zq (zq (zr ?_)))))
   refine zm rfl (zo (J0c Try.underlying31 rfl) ?_)
   replace H := H Ai.bd
   refine zo (J00 Try.underlying25 rfl ti3 rfl (by decide)) (zs (oblk (i := 0) 0 hO rfl rfl Try.underlying3 rfl rfl) ?_)
   by_cases h27 : ((ix d.Next (k1_19 : Int)).length : Int) = d.Letters
   ·replace H := ifp h27 H
    refine zo (fun w => opB (J0j rfl rfl w) (ndT h27)) (zn (zf rfl rfl (zk (zq (zr ?_)))))
    refine zm rfl (zo (J0c Try.underlying31 rfl) (zm rfl (zn (zb ?_))))
    refine Go1.loopW (S := Nat) (fun s σ w => agrees σ [(1, .pointer (some ⟨B2, 0, none⟩)), (3, .int .i64 (d.Final.length : Int)), (38, .slice bm d.Next.length bn), (39, .int .i64 (d.Next.length : Int)), (40, .int .i64 (k1_19 : Int)), (49, .slice p23 ((ix d.Next (k1_19 : Int)).length) c24), (50, .int .i64 ((ix d.Next (k1_19 : Int)).length : Int)), (51, .int .i64 (s : Int))] ∧ (fun Z0 => Owns w0.heap.size w Z0 A ∧ ISl (Rp.bool) (bl Z0 ++ A) w bj bk d.Final ∧ ISl (Rp.sl (Rp.int .i64)) (bl Z0 ++ A) w bm bn d.Next ∧ ISl (Rp.int .i64) (bl Z0 ++ A) w p23 c24 (ix d.Next (k1_19 : Int)) ∧ Fr (bl []) w0 (bl Z0) w) [.blk B2 (.cells #[.int .i64 d.Letters, .int .i64 d.Start, .slice bj d.Final.length bk, .slice bm d.Next.length bn] 25 (0, 0))]) H ⟨⟨rfl, rfl, rfl, rfl, rfl, rfl, rfl, rfl, trivial⟩, hO, ak, ap, Ai, hB⟩ ?_
    intro X2 k2_29
    intro H hX2 σ w28
    refine andE fun hag => andE fun hO => andE fun ak => andE fun ap => andE fun Ai => fun hB => ?_
    refine Go1.keep [(1, .pointer (some ⟨B2, 0, none⟩)), (3, .int .i64 (d.Final.length : Int)), (38, .slice bm d.Next.length bn), (39, .int .i64 (d.Next.length : Int)), (40, .int .i64 (k1_19 : Int)), (49, .slice p23 ((ix d.Next (k1_19 : Int)).length) c24), (50, .int .i64 ((ix d.Next (k1_19 : Int)).length : Int)), (51, .int .i64 (k2_29 : Int))] hag ?_
    refine zq (zr ?_)
    by_cases h30 : (k2_29 : Int) < ((ix d.Next (k1_19 : Int)).length : Int)
    ·replace H := ifp h30 H
     refine zo (fun w => opB (J08 rfl rfl w) (decide_eq_true h30)) (zn (zq (zt rfl rfl (zk (zq ?_)))))
     refine zb (zq (zr ?_))
     obtain ⟨h31, H⟩ := H
     obtain ⟨h32, H⟩ := H
     refine zo (J02 Try.underlying31 ti3 rfl rfl h31 h32 (Ai.some_ h31 h32)) (zs (ldInt Ai h31 h32 Try.underlying3 rfl rfl) (za rfl (zn (zq (zr ?_)))))
     refine zm rfl ?_
     by_cases h33 : (ix (ix d.Next (k1_19 : Int)) (k2_29 : Int)) < (0 : Int)
     ·replace H := ifp h33 H
      refine zo (fun w => opB (J08 rfl rfl w) (decide_eq_true h33)) (zm rfl (zp (zp (zp (zo (J04 rfl rfl rfl) ?_)))))
      refine zn (zt rfl rfl (zq (zr (za rfl (zn ?_)))))
      refine Go1.ret1 Try.func16 rfl ?_
      exact ⟨(4 : Int), rfl, hB.same, H⟩
     replace H := ifn h33 H
     refine zo (fun w => opB (J08 rfl rfl w) (decide_eq_false h33)) (zm rfl (zm rfl (zm rfl ?_)))
     by_cases h34 : (d.Final.length : Int) ≤ (ix (ix d.Next (k1_19 : Int)) (k2_29 : Int))
     ·replace H := ifp h34 H
      refine zo (fun w => opB (J1k rfl rfl w) (decide_eq_true h34)) (zo (J05 rfl rfl rfl) (zn (zt rfl rfl (zq (zr ?_)))))
      refine za rfl (zn ?_)
      refine Go1.ret1 Try.func16 rfl ?_
      exact ⟨(4 : Int), rfl, hB.same, H⟩
     replace H := ifn h34 H
     refine zo (fun w => opB (J1k rfl rfl w) (decide_eq_false h34)) (zo (J05 rfl rfl rfl) (zn (zf rfl rfl (zk ?_))))
     refine Go1.inBlock ?_
     refine Go1.cut [(1, .pointer (some ⟨B2, 0, none⟩)), (3, .int .i64 (d.Final.length : Int)), (38, .slice bm d.Next.length bn), (39, .int .i64 (d.Next.length : Int)), (40, .int .i64 (k1_19 : Int)), (49, .slice p23 ((ix d.Next (k1_19 : Int)).length) c24), (50, .int .i64 ((ix d.Next (k1_19 : Int)).length : Int)), (51, .int .i64 (k2_29 : Int))] ⟨rfl, rfl, rfl, rfl, rfl, rfl, rfl, rfl, trivial⟩ ?_
     intro σ _
     refine zr (zo (J0e rfl rfl (wrap_i64 (natbd h30 Ai.bd))) (zm rfl (zn ?_)))
     exact hX2 _ H _ _ ⟨⟨rfl, rfl, rfl, rfl, rfl, rfl, rfl, rfl, trivial⟩, hO, ak, ap, Ai, hB⟩
    replace H := ifn h30 H
    refine zo (fun w => opB (J08 rfl rfl w) (decide_eq_false h30)) (zn (zq (zf rfl rfl ?_)))
    refine Go1.exit rfl ?_
    refine Go1.inBlock ?_
    refine zr (zo (J0e rfl rfl (wrap_i64 (natbd h20 ap.bd))) (zm rfl (zn ?_)))
    exact hX1 _ H _ _ ⟨⟨rfl, rfl, rfl, rfl, rfl, trivial⟩, hO, ak, ap, hB⟩
   replace H := ifn h27 H
   refine zo (fun w => opB (J0j rfl rfl w) (ndF h27)) (zn (zt rfl rfl (zq (zr (za rfl ?_)))))
   refine zn ?_
   refine Go1.ret1 Try.func16 rfl ?_
   exact ⟨(4 : Int), rfl, hB.same, H⟩
  replace H := ifn h20 H
  refine zo (fun w => opB (J08 rfl rfl w) (decide_eq_false h20)) (zn (zq (zf rfl rfl ?_)))
  refine Go1.exit rfl ?_
  refine zq (zr (za rfl (zn ?_)))
  refine Go1.ret1 Try.func16 rfl ?_
  exact ⟨(0 : Int), rfl, hB.same, H⟩
 replace H := ifn h15 H
 refine zo (fun w => opB (J0j rfl rfl w) (ndF h15)) (zo (J05 rfl rfl rfl) (zm rfl (zp (zp (zp ?_)))))
 refine zo (J04 rfl rfl rfl) (zm rfl (zp (zp (zp (zp ?_)))))
 refine zo (J04 rfl rfl rfl) (zn (zt rfl rfl (zq (zr (za rfl ?_)))))
 refine zn ?_
 refine Go1.ret1 Try.func16 rfl ?_
 replace hB := (hB.trans dX.fr).trans k8.fr
 exact ⟨(4 : Int), rfl, hB.same, H⟩
theorem body17 : Body Try.prog 17 := ⟨Try.f17, Try.func17, rfl, by kernel_rfl⟩
theorem J3Z {A : List Nat} {w0 : World} {bj : Option Addr} {bk : Nat} {bm : Option Addr} {bn : Nat} {d : DFA} {most : Int} (hA : ∀ b ∈ A, b < w0.heap.size) (ak : ISl (Rp.bool) A w0 bj bk d.Final) (ap : ISl (Rp.sl (Rp.int .i64)) A w0 bm bn d.Next) {K : Bool → Prop} (H : law21_small d most K) :
    CallsV Try.prog 17 #[.agg #[.int .i64 d.Letters, .int .i64 d.Start, .slice bj d.Final.length bk, .slice bm d.Next.length bn], .int .i64 most] w0 (fun v w' => ∃ (r0 : Bool), v = .bool r0 ∧ Same w0 w' ∧ K r0) := by
 refine CallsV.of (l := [.agg #[.int .i64 d.Letters, .int .i64 d.Start, .slice bj d.Final.length bk, .slice bm d.Next.length bn], .int .i64 most]) Try.func17 rfl Try.ntmps17 rfl ?_
 have hO := Owns.start hA
 have hB := Fr.refl (bl []) w0
 unfold law21_small at H
 refine zq (zr ?_)
 have zz := obox (t := 25) (v := .agg #[.int .i64 d.Letters, .int .i64 d.Start, .slice bj d.Final.length bk, .slice bm d.Next.length bn]) (cs := #[.int .i64 d.Letters, .int .i64 d.Start, .slice bj d.Final.length bk, .slice bm d.Next.length bn]) hO rfl
 obtain ⟨w1, B2, dX, hs4, jU⟩ := zz
 refine zg (jU rfl) ?_
 replace hO := dX.own
 refine za rfl (zn (zq (zr (zo (J00 Try.underlying25 rfl ti22 rfl (by decide)) (zs (oblk (i := 2) 0 hO rfl rfl Try.underlying22 rfl rfl) ?_)))))
 refine zo (J0c Try.underlying22 rfl) ?_
 replace ak := (ak.ch (Ch.start A w0)).ch dX.ch
 replace H := H ak.bd
 refine zm rfl ?_
 by_cases h7 : (d.Final.length : Int) ≤ most
 ·replace H := ifp h7 H
  refine zo (fun w => opB (J4E rfl rfl w) (decide_eq_true h7)) (zm rfl (zo (J00 Try.underlying25 rfl ti3 rfl (by decide)) (zs (oblk (i := 0) 0 hO rfl rfl Try.underlying3 rfl rfl) ?_)))
  by_cases h8 : d.Letters ≤ (2 : Int)
  ·replace H := ifp h8 H
   refine zo (fun w => opB (J4E rfl rfl w) (decide_eq_true h8)) (zo (J04 rfl rfl rfl) (zm rfl (zs (J0l (vs := [.int .i64 d.Letters, .int .i64 d.Start, .slice bj d.Final.length bk, .slice bm d.Next.length bn]) (i := 0) 0 hO rfl rfl Try.underlying25 rfl ti25 rfl) ?_)))
   replace ap := (ap.ch (Ch.start A w0)).ch dX.ch
   refine GoR.call (J0a body16 rfl (J3i (d := d) hO.lt ak ap H)) rfl rfl ?_
   rintro v13 w10 ⟨r9, rfl, Aj, H⟩
   have Cy := Stp.same hO Aj
   replace hO := Cy.own
   by_cases h15 : r9 = (0 : Int)
   ·replace H := ifp h15 H
    refine zo (fun w => opB (J0D rfl rfl w) (decide_eq_true h15)) (zo (J04 rfl rfl rfl) (za rfl (zn ?_)))
    refine Go1.ret1 Try.func17 rfl ?_
    replace hB := (hB.trans dX.fr).trans Cy.fr
    exact ⟨true, rfl, hB.same, H⟩
   replace H := ifn h15 H
   refine zo (fun w => opB (J0D rfl rfl w) (decide_eq_false h15)) (zo (J04 rfl rfl rfl) (za rfl (zn ?_)))
   refine Go1.ret1 Try.func17 rfl ?_
   replace hB := (hB.trans dX.fr).trans Cy.fr
   exact ⟨false, rfl, hB.same, H⟩
  replace H := ifn h8 H
  refine zo (fun w => opB (J4E rfl rfl w) (decide_eq_false h8)) (zo (J04 rfl rfl rfl) (zm rfl (zp (zp (zp ?_)))))
  refine zo (J05 rfl rfl rfl) (za rfl (zn ?_))
  refine Go1.ret1 Try.func17 rfl ?_
  replace hB := hB.trans dX.fr
  exact ⟨false, rfl, hB.same, H⟩
 replace H := ifn h7 H
 refine zo (fun w => opB (J4E rfl rfl w) (decide_eq_false h7)) (zm rfl (zp (zp (zp (zo (J05 rfl rfl rfl) ?_)))))
 refine zm rfl (zp (zp (zp (zo (J05 rfl rfl rfl) (za rfl ?_)))))
 refine zn ?_
 refine Go1.ret1 Try.func17 rfl ?_
 replace hB := hB.trans dX.fr
 exact ⟨false, rfl, hB.same, H⟩
theorem body60 : Body Try.prog 60 := ⟨Try.f60, Try.func60, rfl, by kernel_rfl⟩
theorem J4M {A : List Nat} {w0 : World} (hA : ∀ b ∈ A, b < w0.heap.size) {K : DFA → Prop} (H : law21_ab  K) :
    CallsV Try.prog 60 #[] w0 (fun v w' => ∃ (r0 : DFA) (iV : Option Addr) (iW : Nat) (jD : Option Addr) (jE : Nat), v = .agg #[.int .i64 r0.Letters, .int .i64 r0.Start, .slice iV r0.Final.length iW, .slice jD r0.Next.length jE] ∧ Same w0 w' ∧ ISl (Rp.bool) A w' iV iW r0.Final ∧ ISl (Rp.sl (Rp.int .i64)) A w' jD jE r0.Next ∧ K r0) := by
 refine CallsV.of (l := []) Try.func60 rfl Try.ntmps60 rfl ?_
 have hO := Owns.start hA
 have hB := Fr.refl (bl []) w0
 unfold law21_ab at H
 refine zq (zr ?_)
 have zz := oalloc (t := 25) (cs := #[.int .i64 0, .int .i64 0, .slice none 0 0, .slice none 0 0]) ti25 hO rfl
 obtain ⟨w1, B2, dX, hs4, jU⟩ := zz
 refine GoR.op jU rfl rfl ?_
 replace hO := dX.own
 refine zn (zq (zr ?_))
 have zz := J0n (r := Rp.bool) (n := 3) (parts := [(0, .bool true), (1, .bool false), (2, .bool false)]) (vs := [.bool true, .bool false, .bool false]) (xs := [true, false, false]) rfl Try.underlying22 ti4 hO (by decide) (by kernel_rfl) (Els.cons rfl rfl (Els.cons rfl rfl (Els.cons rfl rfl (Els.nil _ _ _) (by simp [mx])) (by simp [mx])) (by simp [mx])) rfl
 obtain ⟨w7, p8, gU, nf, Aj, EL⟩ := zz
 refine zg (EL rfl) ?_
 replace hO := gU.own
 have zz := J0n (r := Rp.int .i64) (n := 2) (parts := [(0, .int .i64 1), (1, .int .i64 2)]) (vs := [.int .i64 1, .int .i64 2]) (xs := [(1 : Int), (2 : Int)]) rfl Try.underlying31 ti3 hO (by decide) (by kernel_rfl) (Els.cons rfl rfl (Els.cons rfl rfl (Els.nil _ _ _) (by simp [mx])) (by simp [mx])) rfl
 obtain ⟨w14, p15, tI, xG, Wf, Ng⟩ := zz
 refine zg (Ng rfl) ?_
 replace hO := tI.own
 have zz := J0n (r := Rp.int .i64) (n := 2) (parts := [(0, .int .i64 2), (1, .int .i64 0)]) (vs := [.int .i64 2, .int .i64 0]) (xs := [(2 : Int), (0 : Int)]) rfl Try.underlying31 ti3 hO (by decide) (by kernel_rfl) (Els.cons rfl rfl (Els.cons rfl rfl (Els.nil _ _ _) (by simp [mx])) (by simp [mx])) rfl
 obtain ⟨w21, p22, ml, cO, JI, EM⟩ := zz
 refine zg (EM rfl) ?_
 replace hO := ml.own
 have zz := J0n (r := Rp.int .i64) (n := 2) (parts := [(0, .int .i64 2), (1, .int .i64 2)]) (vs := [.int .i64 2, .int .i64 2]) (xs := [(2 : Int), (2 : Int)]) rfl Try.underlying31 ti3 hO (by decide) (by kernel_rfl) (Els.cons rfl rfl (Els.cons rfl rfl (Els.nil _ _ _) (by simp [mx])) (by simp [mx])) rfl
 obtain ⟨w28, p29, sU, C7, Wg, Nh⟩ := zz
 refine zg (Nh rfl) ?_
 replace hO := sU.own
 replace xG := (xG.ch ml.ch).ch sU.ch
 have zz := freeze 2 hO rfl xG
 obtain ⟨hO1, EO, uJ, Sp⟩ := zz
 dsimp only [eS, eZ] at hO1 EO uJ
 replace hB := (((((hB.trans dX.fr).trans gU.fr).trans tI.fr).trans ml.fr).trans sU.fr).trans (Owns.J09 _ _ 2)
 dsimp only [eS, eZ] at hB
 replace hO := hO1; clear hO1
 replace cO := (cO.ch sU.ch).ch EO
 have zz := freeze 1 hO rfl cO
 obtain ⟨hO1, EP, wj, Sq⟩ := zz
 dsimp only [eS, eZ] at hO1 EP wj
 replace hB := hB.trans (Owns.J09 _ _ 1)
 dsimp only [eS, eZ] at hB
 replace hO := hO1; clear hO1
 replace C7 := (C7.ch EO).ch EP
 have zz := freeze 0 hO rfl C7
 obtain ⟨hO1, Ak, wk, Gi⟩ := zz
 dsimp only [eS, eZ] at hO1 Ak wk
 replace hB := hB.trans (Owns.J09 _ _ 0)
 dsimp only [eS, eZ] at hB
 replace hO := hO1; clear hO1
 replace wj := wj.ch Ak
 replace uJ := (uJ.ch EP).ch Ak
 have zz := J0n (r := Rp.sl (Rp.int .i64)) (n := 3) (parts := [(0, .slice p15 2 2), (1, .slice p22 2 2), (2, .slice p29 2 2)]) (vs := [.slice p15 2 2, .slice p22 2 2, .slice p29 2 2]) (xs := [[(1 : Int), (2 : Int)], [(2 : Int), (0 : Int)], [(2 : Int), (2 : Int)]]) rfl Try.underlying23 ti31 hO (by decide) (by kernel_rfl) (Els.cons rfl ⟨p15, 2, congrArg some (congrArg (fun nn => Value.slice p15 nn 2) Sp), uJ⟩ (Els.cons rfl ⟨p22, 2, congrArg some (congrArg (fun nn => Value.slice p22 nn 2) Sq), wj⟩ (Els.cons rfl ⟨p29, 2, congrArg some (congrArg (fun nn => Value.slice p29 nn 2) Gi), wk⟩ (Els.nil _ _ _) (by simp [mx])) (by simp [mx])) (by simp [mx])) rfl
 obtain ⟨w44, p45, zx, C8, JJ, Ni⟩ := zz
 refine zg (Ni rfl) ?_
 replace hO := zx.own
 refine zo (J0w Try.underlying25 ti25 (pl := [(0, 1), (1, 1), (2, 1), (3, 1)]) (vs := [(0, .int .i64 2), (2, .slice p8 3 3), (3, .slice p45 3 3)]) (cs := #[.int .i64 2, .int .i64 0, .slice p8 3 3, .slice p45 3 3]) (by kernel_rfl) rfl (by kernel_rfl)) ?_
 have zz := J0b (us := [.int .i64 2, .int .i64 0, .slice p8 3 3, .slice p45 3 3]) (o := 0) (cs' := #[.int .i64 2, .int .i64 0, .slice p8 3 3, .slice p45 3 3]) 2 hO rfl rfl (Nat.le_of_ble_eq_true rfl) rfl
 obtain ⟨w51, x7, EQ⟩ := zz
 refine zg (EQ ti25 (by exact rfl) (by exact rfl) rfl) ?_
 replace hO := x7.own
 refine zn ?_
 have Z1 := ((((((tI.ch.trans ml.ch).trans sU.ch).trans EO).trans EP).trans Ak).trans zx.ch).trans x7.ch
 replace nf := nf.ch Z1
 have zz := freeze 1 hO rfl nf
 obtain ⟨hO1, Al, C9, Gj⟩ := zz
 replace hO := hO1; clear hO1
 replace C8 := (C8.ch x7.ch).ch Al
 have zz := freeze 0 hO rfl C8
 obtain ⟨hO1, ER, Sr, Ss⟩ := zz
 replace hO := hO1; clear hO1
 refine Go1.retC1 Try.func60 rfl rfl (J0i (vs := [.int .i64 2, .int .i64 0, .slice p8 3 3, .slice p45 3 3]) 0 hO rfl rfl Try.underlying25 rfl ti25) ?_
 replace C9 := C9.ch ER
 replace hB := (((hB.trans zx.fr).trans x7.fr).trans (Owns.J09 _ _ 1)).trans (Owns.J09 _ _ 0)
 exact ⟨(⟨(2 : Int), (0 : Int), [true, false, false], [[(1 : Int), (2 : Int)], [(2 : Int), (0 : Int)], [(2 : Int), (2 : Int)]]⟩ : DFA), p8, 3, p45, 3, (congrArg (fun l => Value.agg (List.toArray l)) (J0k rfl (J0k rfl (J0k (congrArg (fun nn => Value.slice p8 nn 3) Gj) (J0k (congrArg (fun nn => Value.slice p45 nn 3) Ss) rfl))))), hB.same, (C9.ch (Ch.weak _ _ _)), (Sr.ch (Ch.weak _ _ _)), H⟩
theorem body61 : Body Try.prog 61 := ⟨Try.f61, Try.func61, rfl, by kernel_rfl⟩
theorem J15 {A : List Nat} {w0 : World} {bj : Option Addr} {bk : Nat} {bm : Option Addr} {bn : Nat} {d : DFA} (hA : ∀ b ∈ A, b < w0.heap.size) (ak : ISl (Rp.bool) A w0 bj bk d.Final) (ap : ISl (Rp.sl (Rp.int .i64)) A w0 bm bn d.Next) {K : Int → Prop} (H : J0P d K) :
    CallsV Try.prog 61 #[.agg #[.int .i64 d.Letters, .int .i64 d.Start, .slice bj d.Final.length bk, .slice bm d.Next.length bn]] w0 (fun v w' => ∃ (r0 : Int), v = .int .i64 r0 ∧ Same w0 w' ∧ K r0) := by
 refine CallsV.of (l := [.agg #[.int .i64 d.Letters, .int .i64 d.Start, .slice bj d.Final.length bk, .slice bm d.Next.length bn]]) Try.func61 rfl Try.ntmps61 rfl ?_
 have hO := Owns.start hA
 have hB := Fr.refl (bl []) w0
 unfold J0P at H
 refine zq (zr ?_)
 have zz := obox (t := 25) (v := .agg #[.int .i64 d.Letters, .int .i64 d.Start, .slice bj d.Final.length bk, .slice bm d.Next.length bn]) (cs := #[.int .i64 d.Letters, .int .i64 d.Start, .slice bj d.Final.length bk, .slice bm d.Next.length bn]) hO rfl
 obtain ⟨w1, B2, dX, hs4, jU⟩ := zz
 refine zg (jU rfl) ?_
 replace hO := dX.own
 refine za rfl (zn (zq (zq (zr (zo (J00 Try.underlying25 rfl ti3 rfl (by decide)) ?_)))))
 refine zs (oblk (i := 0) 0 hO rfl rfl Try.underlying3 rfl rfl) ?_
 by_cases h7 : d.Letters < (1 : Int)
 ·replace H := ifp h7 H
  refine zo (fun w => opB (J08 rfl rfl w) (decide_eq_true h7)) (zm rfl (zp (zp (zp (zo (J04 rfl rfl rfl) ?_)))))
  refine zn (zt rfl rfl (zq (zr (za rfl (zn ?_)))))
  refine Go1.ret1 Try.func61 rfl ?_
  replace hB := hB.trans dX.fr
  exact ⟨(1 : Int), rfl, hB.same, H⟩
 replace H := ifn h7 H
 refine zo (fun w => opB (J08 rfl rfl w) (decide_eq_false h7)) (zm rfl (zo (J00 Try.underlying25 rfl ti3 rfl (by decide)) (zs (oblk (i := 0) 0 hO rfl rfl Try.underlying3 rfl rfl) ?_)))
 by_cases h8 : (6 : Int) < d.Letters
 ·replace H := ifp h8 H
  refine zo (fun w => opB (J17 rfl rfl w) (decide_eq_true h8)) (zo (J05 rfl rfl rfl) (zn (zt rfl rfl (zq (zr ?_)))))
  refine za rfl (zn ?_)
  refine Go1.ret1 Try.func61 rfl ?_
  replace hB := hB.trans dX.fr
  exact ⟨(1 : Int), rfl, hB.same, H⟩
 replace H := ifn h8 H
 refine zo (fun w => opB (J17 rfl rfl w) (decide_eq_false h8)) (zo (J05 rfl rfl rfl) (zn (zf rfl rfl (zk (zq ?_)))))
 refine zr (zo (J00 Try.underlying25 rfl ti22 rfl (by decide)) (zs (oblk (i := 2) 0 hO rfl rfl Try.underlying22 rfl rfl) (zo (J0c Try.underlying22 rfl) ?_)))
 replace ak := (ak.ch (Ch.start A w0)).ch dX.ch
 replace H := H ak.bd
 refine za rfl (zn (zq (zq ?_)))
 refine Go1.cut [(1, .pointer (some ⟨B2, 0, none⟩)), (3, .int .i64 (d.Final.length : Int))] ⟨rfl, rfl, trivial⟩ ?_
 intro σ _
 refine zr (zm rfl ?_)
 by_cases h9 : (512 : Int) < (d.Final.length : Int)
 ·replace H := ifp h9 H
  refine zo (fun w => opB (J17 rfl rfl w) (decide_eq_true h9)) (zn (zt rfl rfl (zq (zr (za rfl ?_)))))
  refine zn ?_
  refine Go1.ret1 Try.func61 rfl ?_
  replace hB := hB.trans dX.fr
  exact ⟨(3 : Int), rfl, hB.same, H⟩
 replace H := ifn h9 H
 refine zo (fun w => opB (J17 rfl rfl w) (decide_eq_false h9)) (zn (zf rfl rfl (zk (zq (zq ?_)))))
 refine zr (zo (J00 Try.underlying25 rfl ti23 rfl (by decide)) (zs (oblk (i := 3) 0 hO rfl rfl Try.underlying23 rfl rfl) (zo (J0c Try.underlying23 rfl) ?_)))
 replace ap := (ap.ch (Ch.start A w0)).ch dX.ch
 replace H := H ap.bd
 refine zm rfl ?_
 by_cases h10 : (d.Next.length : Int) = (d.Final.length : Int)
 ·replace H := ifp h10 H
  refine zo (fun w => opB (J0j rfl rfl w) (ndT h10)) (zm rfl (zo (J00 Try.underlying25 rfl ti3 rfl (by decide)) (zs (oblk (i := 1) 0 hO rfl rfl Try.underlying3 rfl rfl) ?_)))
  by_cases h11 : d.Start < (0 : Int)
  ·replace H := ifp h11 H
   refine zo (fun w => opB (J08 rfl rfl w) (decide_eq_true h11)) (zo (J05 rfl rfl rfl) (zm rfl (zp (zp (zp ?_)))))
   refine zp (zo (J04 rfl rfl rfl) (zn (zt rfl rfl (zq ?_))))
   refine Go1.cut [] trivial ?_
   intro σ _
   refine zr (za rfl (zn ?_))
   refine Go1.ret1 Try.func61 rfl ?_
   replace hB := hB.trans dX.fr
   exact ⟨(4 : Int), rfl, hB.same, H⟩
  replace H := ifn h11 H
  refine zo (fun w => opB (J08 rfl rfl w) (decide_eq_false h11)) (zo (J05 rfl rfl rfl) (zm rfl (zo (J00 Try.underlying25 rfl ti3 rfl (by decide)) (zs (oblk (i := 1) 0 hO rfl rfl Try.underlying3 rfl rfl) (zm rfl ?_)))))
  by_cases h12 : (d.Final.length : Int) ≤ d.Start
  ·replace H := ifp h12 H
   refine zo (fun w => opB (J1k rfl rfl w) (decide_eq_true h12)) (zo (J05 rfl rfl rfl) (zn (zt rfl rfl (zq (zr ?_)))))
   refine za rfl (zn ?_)
   refine Go1.ret1 Try.func61 rfl ?_
   replace hB := hB.trans dX.fr
   exact ⟨(4 : Int), rfl, hB.same, H⟩
  replace H := ifn h12 H
  refine zo (fun w => opB (J1k rfl rfl w) (decide_eq_false h12)) (zo (J05 rfl rfl rfl) (zn (zf rfl rfl (zk (zq ?_)))))
  refine zq (zr (zo (J00 Try.underlying25 rfl ti23 rfl (by decide)) (zs (oblk (i := 3) 0 hO rfl rfl Try.underlying23 rfl rfl) (zo (J0c Try.underlying23 rfl) (zm rfl ?_)))))
  refine zn (zb ?_)
  replace hB := hB.trans dX.fr
  refine Go1.loopW (S := Nat) (fun s σ w => agrees σ [(1, .pointer (some ⟨B2, 0, none⟩)), (3, .int .i64 (d.Final.length : Int)), (38, .slice bm d.Next.length bn), (39, .int .i64 (d.Next.length : Int)), (40, .int .i64 (s : Int))] ∧ (fun Z0 => Owns w0.heap.size w Z0 A ∧ ISl (Rp.bool) (bl Z0 ++ A) w bj bk d.Final ∧ ISl (Rp.sl (Rp.int .i64)) (bl Z0 ++ A) w bm bn d.Next ∧ Fr (bl []) w0 (bl Z0) w) [.blk B2 (.cells #[.int .i64 d.Letters, .int .i64 d.Start, .slice bj d.Final.length bk, .slice bm d.Next.length bn] 25 (0, 0))]) H ⟨⟨rfl, rfl, rfl, rfl, rfl, trivial⟩, hO, ak, ap, hB⟩ ?_
  intro X1 k1_14
  intro H hX1 σ w13
  refine andE fun hag => andE fun hO => andE fun ak => andE fun ap => fun hB => ?_
  refine Go1.keep [(1, .pointer (some ⟨B2, 0, none⟩)), (3, .int .i64 (d.Final.length : Int)), (38, .slice bm d.Next.length bn), (39, .int .i64 (d.Next.length : Int)), (40, .int .i64 (k1_14 : Int))] hag ?_
  refine zq (zr ?_)
  by_cases h15 : (k1_14 : Int) < (d.Next.length : Int)
  ·replace H := ifp h15 H
   refine zo (fun w => opB (J08 rfl rfl w) (decide_eq_true h15)) (zn (zq (zt rfl rfl (zk (zq ?_)))))
   refine zb (zq (zr ?_))
   obtain ⟨h16, H⟩ := H
   obtain ⟨h17, H⟩ := H
   refine zo (J02 Try.underlying23 ti31 rfl rfl h16 h17 (ap.some_ h16 h17)) ?_
   have zz := ldSl ap h16 h17
   obtain ⟨p18, c19, Am, St⟩ := zz
   refine zs (St Try.underlying31 rfl rfl) (za rfl (zn (zq (zq (zr ?_)))))
   refine zm rfl (zo (J0c Try.underlying31 rfl) ?_)
   replace H := H Am.bd
   refine zo (J00 Try.underlying25 rfl ti3 rfl (by decide)) (zs (oblk (i := 0) 0 hO rfl rfl Try.underlying3 rfl rfl) ?_)
   by_cases h22 : ((ix d.Next (k1_14 : Int)).length : Int) = d.Letters
   ·replace H := ifp h22 H
    refine zo (fun w => opB (J0j rfl rfl w) (ndT h22)) (zn (zf rfl rfl (zk (zq (zr ?_)))))
    refine zm rfl (zo (J0c Try.underlying31 rfl) (zm rfl (zn (zb ?_))))
    refine Go1.loopW (S := Nat) (fun s σ w => agrees σ [(1, .pointer (some ⟨B2, 0, none⟩)), (3, .int .i64 (d.Final.length : Int)), (38, .slice bm d.Next.length bn), (39, .int .i64 (d.Next.length : Int)), (40, .int .i64 (k1_14 : Int)), (49, .slice p18 ((ix d.Next (k1_14 : Int)).length) c19), (50, .int .i64 ((ix d.Next (k1_14 : Int)).length : Int)), (51, .int .i64 (s : Int))] ∧ (fun Z0 => Owns w0.heap.size w Z0 A ∧ ISl (Rp.bool) (bl Z0 ++ A) w bj bk d.Final ∧ ISl (Rp.sl (Rp.int .i64)) (bl Z0 ++ A) w bm bn d.Next ∧ ISl (Rp.int .i64) (bl Z0 ++ A) w p18 c19 (ix d.Next (k1_14 : Int)) ∧ Fr (bl []) w0 (bl Z0) w) [.blk B2 (.cells #[.int .i64 d.Letters, .int .i64 d.Start, .slice bj d.Final.length bk, .slice bm d.Next.length bn] 25 (0, 0))]) H ⟨⟨rfl, rfl, rfl, rfl, rfl, rfl, rfl, rfl, trivial⟩, hO, ak, ap, Am, hB⟩ ?_
    intro X2 k2_24
    intro H hX2 σ w23
    refine andE fun hag => andE fun hO => andE fun ak => andE fun ap => andE fun Am => fun hB => ?_
    refine Go1.keep [(1, .pointer (some ⟨B2, 0, none⟩)), (3, .int .i64 (d.Final.length : Int)), (38, .slice bm d.Next.length bn), (39, .int .i64 (d.Next.length : Int)), (40, .int .i64 (k1_14 : Int)), (49, .slice p18 ((ix d.Next (k1_14 : Int)).length) c19), (50, .int .i64 ((ix d.Next (k1_14 : Int)).length : Int)), (51, .int .i64 (k2_24 : Int))] hag ?_
    refine zq (zr ?_)
    by_cases h25 : (k2_24 : Int) < ((ix d.Next (k1_14 : Int)).length : Int)
    ·replace H := ifp h25 H
     refine zo (fun w => opB (J08 rfl rfl w) (decide_eq_true h25)) (zn (zq (zt rfl rfl (zk (zq ?_)))))
     refine zb (zq (zr ?_))
     obtain ⟨h26, H⟩ := H
     obtain ⟨h27, H⟩ := H
     refine zo (J02 Try.underlying31 ti3 rfl rfl h26 h27 (Am.some_ h26 h27)) (zs (ldInt Am h26 h27 Try.underlying3 rfl rfl) (za rfl (zn (zq (zr ?_)))))
     refine zm rfl ?_
     by_cases h28 : (ix (ix d.Next (k1_14 : Int)) (k2_24 : Int)) < (0 : Int)
     ·replace H := ifp h28 H
      refine zo (fun w => opB (J08 rfl rfl w) (decide_eq_true h28)) (zm rfl (zp (zp (zp (zo (J04 rfl rfl rfl) ?_)))))
      refine zn (zt rfl rfl (zq (zr (za rfl (zn ?_)))))
      refine Go1.ret1 Try.func61 rfl ?_
      exact ⟨(4 : Int), rfl, hB.same, H⟩
     replace H := ifn h28 H
     refine zo (fun w => opB (J08 rfl rfl w) (decide_eq_false h28)) (zm rfl (zm rfl (zm rfl ?_)))
     by_cases h29 : (d.Final.length : Int) ≤ (ix (ix d.Next (k1_14 : Int)) (k2_24 : Int))
     ·replace H := ifp h29 H
      refine zo (fun w => opB (J1k rfl rfl w) (decide_eq_true h29)) (zo (J05 rfl rfl rfl) (zn (zt rfl rfl (zq (zr ?_)))))
      refine za rfl (zn ?_)
      refine Go1.ret1 Try.func61 rfl ?_
      exact ⟨(4 : Int), rfl, hB.same, H⟩
     replace H := ifn h29 H
     refine zo (fun w => opB (J1k rfl rfl w) (decide_eq_false h29)) (zo (J05 rfl rfl rfl) (zn (zf rfl rfl (zk ?_))))
     refine Go1.inBlock ?_
     refine Go1.cut [(1, .pointer (some ⟨B2, 0, none⟩)), (3, .int .i64 (d.Final.length : Int)), (38, .slice bm d.Next.length bn), (39, .int .i64 (d.Next.length : Int)), (40, .int .i64 (k1_14 : Int)), (49, .slice p18 ((ix d.Next (k1_14 : Int)).length) c19), (50, .int .i64 ((ix d.Next (k1_14 : Int)).length : Int)), (51, .int .i64 (k2_24 : Int))] ⟨rfl, rfl, rfl, rfl, rfl, rfl, rfl, rfl, trivial⟩ ?_
     intro σ _
     refine zr (zo (J0e rfl rfl (wrap_i64 (natbd h25 Am.bd))) (zm rfl (zn ?_)))
     exact hX2 _ H _ _ ⟨⟨rfl, rfl, rfl, rfl, rfl, rfl, rfl, rfl, trivial⟩, hO, ak, ap, Am, hB⟩
    replace H := ifn h25 H
    refine zo (fun w => opB (J08 rfl rfl w) (decide_eq_false h25)) (zn (zq (zf rfl rfl ?_)))
    refine Go1.exit rfl ?_
    refine Go1.inBlock ?_
    refine zr (zo (J0e rfl rfl (wrap_i64 (natbd h15 ap.bd))) (zm rfl (zn ?_)))
    exact hX1 _ H _ _ ⟨⟨rfl, rfl, rfl, rfl, rfl, trivial⟩, hO, ak, ap, hB⟩
   replace H := ifn h22 H
   refine zo (fun w => opB (J0j rfl rfl w) (ndF h22)) (zn (zt rfl rfl (zq (zr (za rfl ?_)))))
   refine zn ?_
   refine Go1.ret1 Try.func61 rfl ?_
   exact ⟨(4 : Int), rfl, hB.same, H⟩
  replace H := ifn h15 H
  refine zo (fun w => opB (J08 rfl rfl w) (decide_eq_false h15)) (zn (zq (zf rfl rfl ?_)))
  refine Go1.exit rfl ?_
  refine zq (zr (za rfl (zn ?_)))
  refine Go1.ret1 Try.func61 rfl ?_
  exact ⟨(0 : Int), rfl, hB.same, H⟩
 replace H := ifn h10 H
 refine zo (fun w => opB (J0j rfl rfl w) (ndF h10)) (zm rfl (zp (zp (zp (zo (J04 rfl rfl rfl) ?_)))))
 refine zm rfl (zp (zp (zp (zp (zo (J04 rfl rfl rfl) ?_)))))
 refine zn (zt rfl rfl (zq (zr (za rfl (zn ?_)))))
 refine Go1.ret1 Try.func61 rfl ?_
 replace hB := hB.trans dX.fr
 exact ⟨(4 : Int), rfl, hB.same, H⟩
theorem body141 : Body Try.prog 141 := ⟨Try.f141, Try.func141, rfl, by kernel_rfl⟩
theorem body140 : Body Try.prog 140 := ⟨Try.f140, Try.func140, rfl, by kernel_rfl⟩
theorem body163 : Body Try.prog 163 := ⟨Try.f163, Try.func163, rfl, by kernel_rfl⟩
theorem body139 : Body Try.prog 139 := ⟨Try.f139, Try.func139, rfl, by kernel_rfl⟩
theorem body109 : Body Try.prog 109 := ⟨Try.f109, Try.func109, rfl, by kernel_rfl⟩
theorem J3A {A : List Nat} {w0 : World} {bj : Option Addr} {bk : Nat} {bm : Option Addr} {bn : Nat} {d : DFA} (hA : ∀ b ∈ A, b < w0.heap.size) (ak : ISl (Rp.bool) A w0 bj bk d.Final) (ap : ISl (Rp.sl (Rp.int .i64)) A w0 bm bn d.Next) {K : DFA → List Int → Prop} (H : J32 d K) :
    CallsV Try.prog 109 #[.agg #[.int .i64 d.Letters, .int .i64 d.Start, .slice bj d.Final.length bk, .slice bm d.Next.length bn]] w0 (fun v w' => ∃ (r0 : DFA) (r1 : List Int) (iV : Option Addr) (iW : Nat) (jD : Option Addr) (jE : Nat) (Db : Option Addr) (Dc : Nat), v = .tuple #[.agg #[.int .i64 r0.Letters, .int .i64 r0.Start, .slice iV r0.Final.length iW, .slice jD r0.Next.length jE], .slice Db r1.length Dc] ∧ Same w0 w' ∧ ISl (Rp.bool) A w' iV iW r0.Final ∧ ISl (Rp.sl (Rp.int .i64)) A w' jD jE r0.Next ∧ ISl (Rp.int .i64) A w' Db Dc r1 ∧ K r0 r1) := by
 refine CallsV.of (l := [.agg #[.int .i64 d.Letters, .int .i64 d.Start, .slice bj d.Final.length bk, .slice bm d.Next.length bn]]) Try.func109 rfl Try.ntmps109 rfl ?_
 have hO := Owns.start hA
 have hB := Fr.refl (bl []) w0
 unfold J32 at H
 refine zq (zr ?_)
 have zz := obox (t := 25) (v := .agg #[.int .i64 d.Letters, .int .i64 d.Start, .slice bj d.Final.length bk, .slice bm d.Next.length bn]) (cs := #[.int .i64 d.Letters, .int .i64 d.Start, .slice bj d.Final.length bk, .slice bm d.Next.length bn]) hO rfl
 obtain ⟨w1, B2, dX, hs4, jU⟩ := zz
 refine zg (jU rfl) ?_
 replace hO := dX.own
 have zz := oalloc (t := 25) (cs := #[.int .i64 0, .int .i64 0, .slice none 0 0, .slice none 0 0]) ti25 hO rfl
 obtain ⟨w7, B8, gU, xF, tH⟩ := zz
 refine GoR.op tH rfl rfl ?_
 replace hO := gU.own
 refine za rfl (zn (zq (zq (zr (zs (J0l (vs := [.int .i64 d.Letters, .int .i64 d.Start, .slice bj d.Final.length bk, .slice bm d.Next.length bn]) (i := 0) 1 hO rfl rfl Try.underlying25 rfl ti25 rfl) ?_)))))
 have Z1 := ((Ch.start A w0).trans dX.ch).trans gU.ch
 replace ak := ak.ch Z1
 replace ap := ap.ch Z1
 refine GoR.call (J0a body61 rfl (J15 (d := d) hO.lt ak ap H)) rfl rfl ?_
 rintro v17 w14 ⟨r13, rfl, x8, H⟩
 have gN := Stp.same hO x8
 replace hO := gN.own
 by_cases h19 : r13 = (0 : Int)
 ·replace H := ifp h19 H
  refine zo (fun w => opB (J0j rfl rfl w) (ndT h19)) (zn (zf rfl rfl (zk (zq (zr ?_)))))
  refine zo (J00 Try.underlying25 rfl ti3 rfl (by decide)) (zs (oblk (i := 0) 1 hO rfl rfl Try.underlying3 rfl rfl) (zo (J00 Try.underlying25 rfl ti3 rfl (by decide)) (zs (oblk (i := 1) 1 hO rfl rfl Try.underlying3 rfl rfl) (zo (J48 (vs := [.pointer (some ⟨B2, 0, none⟩)]) rfl) (zo (J48 (vs := [.pointer (some ⟨B2, 0, none⟩)]) rfl) ?_)))))
  refine GoR.inl (vs := [.int .i64 d.Letters, .int .i64 d.Start, .func (.func 140) #[] #[.pointer (some ⟨B2, 0, none⟩)], .func (.func 141) #[] #[.pointer (some ⟨B2, 0, none⟩)]]) (caps := []) rfl rfl body139 Try.func139 rfl Try.ntmps139 rfl rfl rfl ?_
  intro RhR20 hR20
  refine zq (zr ?_)
  have zz := oalloc (t := 25) (cs := #[.int .i64 0, .int .i64 0, .slice none 0 0, .slice none 0 0]) ti25 hO rfl
  obtain ⟨w21, B22, ml, JK, A7⟩ := zz
  refine GoR.op A7 rfl rfl ?_
  replace hO := ml.own
  refine za rfl (za rfl (zn (zq (zr ?_))))
  have zz := oalloc (t := 188) (cs := #[.slice none 0 0, .map none]) ti188 hO rfl
  obtain ⟨w27, B28, um, Su, ES⟩ := zz
  refine GoR.op ES rfl rfl ?_
  replace hO := um.own
  refine zn (zq (zr (zm rfl ?_)))
  refine GoR.inl (vs := [.pointer (some ⟨B28, 0, none⟩), .int .i64 d.Start]) (caps := []) rfl rfl body163 Try.func163 rfl Try.ntmps163 rfl rfl rfl ?_
  intro RhR33 hR33
  refine zq ?_
  refine Go1.cut [(0, .pointer (some ⟨B28, 0, none⟩)), (1, .int .i64 d.Start)] ⟨rfl, rfl, trivial⟩ ?_
  intro σ _
  refine zr (za rfl (zn (zq (zr (zm rfl ?_)))))
  refine zo (J01 rfl) (zo (J00 Try.underlying188 rfl ti168 rfl (by decide)) (zs (oblk (i := 1) 0 hO rfl rfl Try.underlying168 rfl rfl) (zm rfl (zs (fun w _ => olookN (a := d.Start) (MK.int Try.underlying3) Try.underlying168 ti3 rfl rfl w) (zm rfl ?_)))))
  refine zo (J07 rfl rfl) (zo (J07 rfl rfl) (za rfl (za rfl (zn (zq ?_)))))
  refine zq (zr (zm rfl (zo (J0g rfl) (zn (zt rfl rfl ?_)))))
  refine zq (zq (zr (zm rfl (zo (J01 rfl) (zo (J00 Try.underlying188 rfl ti168 rfl (by decide)) ?_)))))
  refine zs (oblk (i := 1) 0 hO rfl rfl Try.underlying168 rfl rfl) (zo (fun w => opB (J5b Try.underlying168 rfl rfl w) rfl) (zn (zt rfl rfl ?_)))
  refine Go1.cut [(0, .pointer (some ⟨B28, 0, none⟩)), (1, .int .i64 d.Start)] ⟨rfl, rfl, trivial⟩ ?_
  intro σ _
  refine zr (zm rfl ?_)
  have zz := omakeMap (fun a : Int => Value.int .i64 a) (fun a : Int => Value.int .i64 a) hO
  obtain ⟨w34, B35, uo, Wh, ET⟩ := zz
  refine GoR.op ET rfl rfl ?_
  replace hO := uo.own
  refine zo (J01 rfl) (zo (J00 Try.underlying188 rfl ti168 rfl (by decide)) ?_)
  have zz := J0h (v := .map (some B35)) (i := 1) (cs' := #[.slice none 0 0, .map (some B35)]) 1 hO rfl rfl rfl rfl
  obtain ⟨w40, m3, Nj⟩ := zz
  dsimp only [sS, sZ] at m3
  refine zg (Nj Try.underlying168 rfl ti168 (by exact rfl) (by exact rfl)) ?_
  replace hO := m3.own
  refine zn (zq (zr (zm rfl (zo (J01 rfl) (zo (J00 Try.underlying188 rfl ti31 rfl (by decide)) ?_)))))
  refine zs (oblk (i := 0) 1 hO rfl rfl Try.underlying31 rfl rfl) (zo (J0c Try.underlying31 rfl) (za rfl (zn (zq (zr ?_)))))
  refine zm rfl (zo (J01 rfl) (zo (J00 Try.underlying188 rfl ti168 rfl (by decide)) (zs (oblk (i := 1) 1 hO rfl rfl Try.underlying168 rfl rfl) (zm rfl (zm rfl ?_)))))
  have zz := omapUpd (MK.int Try.underlying3) 0 hO rfl Try.underlying168 d.Start (0 : Int)
  obtain ⟨w43, A8, Nk⟩ := zz
  dsimp only [sS, sZ] at A8
  refine zg (Nk (by exact rfl) (by exact rfl) (by exact rfl)) ?_
  replace hO := A8.own
  refine zn (zr (zm rfl (zm rfl (zo (J01 rfl) (zo (J00 Try.underlying188 rfl ti31 rfl (by decide)) ?_)))))
  refine zs (oblk (i := 0) 1 hO rfl rfl Try.underlying31 rfl rfl) (zm rfl ?_)
  have zz := J0n (r := Rp.int .i64) (n := 1) (parts := [(0, .int .i64 d.Start)]) (vs := [.int .i64 d.Start]) (xs := [d.Start]) rfl Try.underlying31 ti3 hO (by decide) (by kernel_rfl) (Els.cons rfl rfl (Els.nil _ _ _) (by simp [mx])) rfl
  obtain ⟨w46, p47, sV, Gk, JL, Nl⟩ := zz
  refine zg (Nl rfl) ?_
  replace hO := sV.own
  have zz := freeze 0 hO rfl Gk
  obtain ⟨hO1, Gl, tU, Sv⟩ := zz
  dsimp only [eS, eZ] at hO1 Gl tU
  replace hB := (((((((((hB.trans dX.fr).trans gU.fr).trans gN.fr).trans ml.fr).trans um.fr).trans uo.fr).trans m3.fr).trans A8.fr).trans sV.fr).trans (Owns.J09 _ _ 0)
  dsimp only [eS, eZ] at hB
  replace hO := hO1; clear hO1
  have iD := Stp.nil (e := 3) (r := 1) hO
  replace hO := iD.own
  have Sw := Els.nil (Rp.int .i64) (bl (.row 3 1 none 0 0 [] :: [.any (mapE (fun a : Int => Value.int .i64 a) (fun a : Int => Value.int .i64 a) B35 (mput (([] : List (Int × Int))) d.Start ((0 : Int)))), .blk B28 (.cells #[.slice none 0 0, .map (some B35)] 188 (0, 0)), .blk B22 (.cells #[.int .i64 0, .int .i64 0, .slice none 0 0, .slice none 0 0] 25 (0, 0)), .blk B8 (.cells #[.int .i64 0, .int .i64 0, .slice none 0 0, .slice none 0 0] 25 (0, 0)), .blk B2 (.cells #[.int .i64 d.Letters, .int .i64 d.Start, .slice bj d.Final.length bk, .slice bm d.Next.length bn] 25 (0, 0))]) ++ A) w46
  obtain ⟨h59, H⟩ := H
  replace tU := tU.ch iD.ch
  have zz := oapp Try.underlying31 ti3 rfl 0 hO rfl Sw tU Sv h59 (by decide)
  obtain ⟨w60, p61, c62, Gm, zy, wm, Nm⟩ := zz
  dsimp only [sS, sZ] at zy wm
  refine zg (Nm (by exact rfl) (by exact rfl)) ?_
  replace hO := zy.own
  refine zo (J01 rfl) (zo (J00 Try.underlying188 rfl ti31 rfl (by decide)) ?_)
  have zz := J0h (v := .slice p61 (0 + 1) c62) (i := 0) (cs' := #[.slice p61 (0 + 1) c62, .map (some B35)]) 2 hO rfl rfl rfl rfl
  obtain ⟨w68, mm, Nn⟩ := zz
  dsimp only [sS, sZ] at mm
  refine zg (Nn Try.underlying31 rfl ti31 (by exact rfl) (by exact rfl)) ?_
  replace hO := mm.own
  refine zn (zq ?_)
  refine Go1.cut [(5, .int .i64 0)] ⟨rfl, trivial⟩ ?_
  intro σ _
  refine zr (zm rfl (za rfl (zn ?_)))
  refine Go1.ret1V Try.func163 rfl (show _ = .int .i64 0 from rfl) ?_
  refine hR33 _ _ ?_
  refine zn (zq (zr (zm rfl (zo (J0w Try.underlying25 ti25 (pl := [(0, 1), (1, 1), (2, 1), (3, 1)]) (vs := [(0, .int .i64 d.Letters)]) (cs := #[.int .i64 d.Letters, .int .i64 0, .slice none 0 0, .slice none 0 0]) (by kernel_rfl) rfl (by kernel_rfl)) ?_))))
  have zz := oalloc (t := 25) (cs := #[.int .i64 0, .int .i64 0, .slice none 0 0, .slice none 0 0]) ti25 hO rfl
  obtain ⟨w71, B72, zA, Sx, EU⟩ := zz
  refine GoR.op EU rfl rfl ?_
  replace hO := zA.own
  have zz := J0b (us := [.int .i64 d.Letters, .int .i64 0, .slice none 0 0, .slice none 0 0]) (o := 0) (cs' := #[.int .i64 d.Letters, .int .i64 0, .slice none 0 0, .slice none 0 0]) 0 hO rfl rfl (Nat.le_of_ble_eq_true rfl) rfl
  obtain ⟨w77, x9, Np⟩ := zz
  dsimp only [sS, sZ] at x9
  refine zg (Np ti25 (by exact rfl) (by exact rfl) rfl) ?_
  replace hO := x9.own
  refine zn (zq (zq (zr (za rfl (zn ?_)))))
  refine zb ?_
  have jF := Stp.nil (e := 4) (r := 1) hO
  replace hO := jF.own
  have Ao := Els.nil (Rp.bool) (bl (.row 4 1 none 0 0 [] :: [.blk B72 (.cells #[.int .i64 d.Letters, .int .i64 0, .slice none 0 0, .slice none 0 0] 25 (0, 0)), .row 3 1 p61 (0 + 1) c62 Gm, .any (mapE (fun a : Int => Value.int .i64 a) (fun a : Int => Value.int .i64 a) B35 (mput (([] : List (Int × Int))) d.Start ((0 : Int)))), .blk B28 (.cells #[.slice p61 (0 + 1) c62, .map (some B35)] 188 (0, 0)), .blk B22 (.cells #[.int .i64 0, .int .i64 0, .slice none 0 0, .slice none 0 0] 25 (0, 0)), .blk B8 (.cells #[.int .i64 0, .int .i64 0, .slice none 0 0, .slice none 0 0] 25 (0, 0)), .blk B2 (.cells #[.int .i64 d.Letters, .int .i64 d.Start, .slice bj d.Final.length bk, .slice bm d.Next.length bn] 25 (0, 0))]) ++ A) w77
  have tJ := Stp.nil (e := 31) (r := 1) hO
  replace hO := tJ.own
  have Ap := Els.nil (Rp.sl (Rp.int .i64)) (bl (.row 31 1 none 0 0 [] :: [.row 4 1 none 0 0 [], .blk B72 (.cells #[.int .i64 d.Letters, .int .i64 0, .slice none 0 0, .slice none 0 0] 25 (0, 0)), .row 3 1 p61 (0 + 1) c62 Gm, .any (mapE (fun a : Int => Value.int .i64 a) (fun a : Int => Value.int .i64 a) B35 (mput (([] : List (Int × Int))) d.Start ((0 : Int)))), .blk B28 (.cells #[.slice p61 (0 + 1) c62, .map (some B35)] 188 (0, 0)), .blk B22 (.cells #[.int .i64 0, .int .i64 0, .slice none 0 0, .slice none 0 0] 25 (0, 0)), .blk B8 (.cells #[.int .i64 0, .int .i64 0, .slice none 0 0, .slice none 0 0] 25 (0, 0)), .blk B2 (.cells #[.int .i64 d.Letters, .int .i64 d.Start, .slice bj d.Final.length bk, .slice bm d.Next.length bn] 25 (0, 0))]) ++ A) w77
  replace Ao := Ao.ch tJ.ch
  have Z2 := (((mm.ch.trans zA.ch).trans x9.ch).trans jF.ch).trans tJ.ch
  replace wm := wm.ch Z2
  replace hB := ((((((hB.trans iD.fr).trans zy.fr).trans mm.fr).trans zA.fr).trans x9.fr).trans jF.fr).trans tJ.fr
  have Z3 := (((((((((((((gN.ch.trans ml.ch).trans um.ch).trans uo.ch).trans m3.ch).trans A8.ch).trans sV.ch).trans Gl).trans iD.ch).trans zy.ch).trans mm.ch).trans zA.ch).trans x9.ch).trans jF.ch).trans tJ.ch
  replace ak := ak.ch Z3
  replace ap := ap.ch Z3
  refine Go1.loopW (S := Nat × List (List Int) × List Bool × List Int × (List (Int × Int))) (fun s σ w => match s with | (k1_87, d_88, d_94, d_100, m1_106) => ∃ (n93 : Nat) (p91 : Option Addr) (c92 : Nat) (gC : List Value) (n99 : Nat) (p97 : Option Addr) (c98 : Nat) (gy : List Value) (fX : Nat) (fY : Option Addr) (f0 : Nat) (gs : List Value), agrees σ [(0, .int .i64 d.Letters), (2, .func (.func 140) #[] #[.pointer (some ⟨B2, 0, none⟩)]), (3, .func (.func 141) #[] #[.pointer (some ⟨B2, 0, none⟩)]), (8, .pointer (some ⟨B22, 0, none⟩)), (11, .pointer (some ⟨B28, 0, none⟩)), (12, .pointer (some ⟨B72, 0, none⟩)), (13, .int .i64 (k1_87 : Int))] ∧ (fun Z0 => Owns w0.heap.size w Z0 A ∧ Els (Rp.sl (Rp.int .i64)) (bl Z0 ++ A) w gC d_88 ∧ Els (Rp.bool) (bl Z0 ++ A) w gy d_94 ∧ Els (Rp.int .i64) (bl Z0 ++ A) w gs d_100 ∧ ISl (Rp.bool) (bl Z0 ++ A) w bj bk d.Final ∧ ISl (Rp.sl (Rp.int .i64)) (bl Z0 ++ A) w bm bn d.Next ∧ Fr (bl []) w0 (bl Z0) w) [.row 31 1 p91 n93 c92 gC, .row 4 1 p97 n99 c98 gy, .blk B72 (.cells #[.int .i64 d.Letters, .int .i64 0, .slice p97 n99 c98, .slice p91 n93 c92] 25 (0, 0)), .row 3 1 fY fX f0 gs, .any (mapE (fun a : Int => Value.int .i64 a) (fun a : Int => Value.int .i64 a) B35 m1_106), .blk B28 (.cells #[.slice fY fX f0, .map (some B35)] 188 (0, 0)), .blk B22 (.cells #[.int .i64 0, .int .i64 0, .slice none 0 0, .slice none 0 0] 25 (0, 0)), .blk B8 (.cells #[.int .i64 0, .int .i64 0, .slice none 0 0, .slice none 0 0] 25 (0, 0)), .blk B2 (.cells #[.int .i64 d.Letters, .int .i64 d.Start, .slice bj d.Final.length bk, .slice bm d.Next.length bn] 25 (0, 0))]) H ⟨0, none, 0, [], 0, none, 0, [], 0 + 1, p61, c62, Gm, ⟨rfl, rfl, rfl, rfl, rfl, rfl, rfl, trivial⟩, hO, Ap, Ao, wm, ak, ap, hB⟩ ?_
  intro X1
  refine prE fun k1_87 => prE fun d_88 => prE fun d_94 => prE fun d_100 => fun m1_106 => ?_
  intro H hX1 σ w86
  refine exE fun n93 => exE fun p91 => exE fun c92 => exE fun gC => exE fun n99 => exE fun p97 => exE fun c98 => exE fun gy => exE fun fX => exE fun fY => exE fun f0 => exE fun gs => andE fun hag => andE fun hO => andE fun cG => andE fun cC => andE fun cD => andE fun ak => andE fun ap => fun hB => ?_
  dsimp only at H
  refine Go1.keep [(0, .int .i64 d.Letters), (2, .func (.func 140) #[] #[.pointer (some ⟨B2, 0, none⟩)]), (3, .func (.func 141) #[] #[.pointer (some ⟨B2, 0, none⟩)]), (8, .pointer (some ⟨B22, 0, none⟩)), (11, .pointer (some ⟨B28, 0, none⟩)), (12, .pointer (some ⟨B72, 0, none⟩)), (13, .int .i64 (k1_87 : Int))] hag ?_
  refine zq (zq (zr (zm rfl (zo (J00 Try.underlying188 rfl ti31 rfl (by decide)) (zs (oblk (i := 0) 5 hO rfl rfl Try.underlying31 rfl rfl) ?_)))))
  refine zo (J0A Try.underlying31 rfl (cD.neq hO 3 rfl)) ?_
  by_cases nX : (k1_87 : Int) < (d_100.length : Int)
  ·replace H := ifp nX H
   refine zo (fun w => opB (J08 rfl rfl w) (decide_eq_true nX)) (zn (zt rfl rfl (zk (zq (zb ?_)))))
   refine zq (zr (zo (J00 Try.underlying188 rfl ti31 rfl (by decide)) (zs (oblk (i := 0) 5 hO rfl rfl Try.underlying31 rfl rfl) (zm rfl ?_))))
   obtain ⟨qO, H⟩ := H
   obtain ⟨wn, H⟩ := H
   refine zo (J02 Try.underlying31 ti3 rfl rfl qO (ltn (cD.neq hO 3 rfl) wn) (cD.psome hO 3 rfl qO wn)) (zs (oldInt 3 hO rfl cD qO wn Try.underlying3 rfl rfl) (za rfl (zn (zq (zr ?_)))))
   refine zm rfl ?_
   obtain ⟨BP, H⟩ := H
   obtain ⟨Dd, H⟩ := H
   have zz := omake (n := d.Letters) (r := Rp.int .i64) (d := (0 : Int)) Try.underlying31 ti3 (fun _ _ => rfl) rfl hO BP Dd (by decide)
   obtain ⟨Wi, uK, pD, lk, Jb, Vj, JM⟩ := zz
   refine zg (JM rfl rfl) ?_
   replace hO := lk.own
   refine za rfl (zn (zq (zq (zr (zm rfl ?_)))))
   refine zo (J0A Try.underlying31 rfl (Jb.neq hO 0 rfl)) (zm rfl (zn (zb ?_)))
   replace cG := cG.ch lk.ch
   replace cC := cC.ch lk.ch
   replace cD := cD.ch lk.ch
   replace ak := ak.ch lk.ch
   replace ap := ap.ch lk.ch
   replace hB := hB.trans lk.fr
   refine Go1.loopW (S := Nat × List Int × List Int × (List (Int × Int))) (fun s σ w => match s with | (k2_121, d_122, d_125, m2_131) => ∃ (vk : List Value) (m5 : Nat) (nY : Option Addr) (n7 : Nat) (tK : List Value), agrees σ [(0, .int .i64 d.Letters), (2, .func (.func 140) #[] #[.pointer (some ⟨B2, 0, none⟩)]), (3, .func (.func 141) #[] #[.pointer (some ⟨B2, 0, none⟩)]), (8, .pointer (some ⟨B22, 0, none⟩)), (11, .pointer (some ⟨B28, 0, none⟩)), (12, .pointer (some ⟨B72, 0, none⟩)), (13, .int .i64 (k1_87 : Int)), (14, .int .i64 (ix d_100 (k1_87 : Int))), (15, .slice uK d.Letters.toNat d.Letters.toNat), (36, .int .i64 ((List.replicate d.Letters.toNat ((0 : Int))).length : Int)), (37, .int .i64 (k2_121 : Int))] ∧ (fun Z0 => Owns w0.heap.size w Z0 A ∧ Els (Rp.int .i64) (bl Z0 ++ A) w vk d_122 ∧ Els (Rp.sl (Rp.int .i64)) (bl Z0 ++ A) w gC d_88 ∧ Els (Rp.bool) (bl Z0 ++ A) w gy d_94 ∧ Els (Rp.int .i64) (bl Z0 ++ A) w tK d_125 ∧ ISl (Rp.bool) (bl Z0 ++ A) w bj bk d.Final ∧ ISl (Rp.sl (Rp.int .i64)) (bl Z0 ++ A) w bm bn d.Next ∧ Fr (bl []) w0 (bl Z0) w) [.row 3 1 uK d.Letters.toNat d.Letters.toNat vk, .row 31 1 p91 n93 c92 gC, .row 4 1 p97 n99 c98 gy, .blk B72 (.cells #[.int .i64 d.Letters, .int .i64 0, .slice p97 n99 c98, .slice p91 n93 c92] 25 (0, 0)), .row 3 1 nY m5 n7 tK, .any (mapE (fun a : Int => Value.int .i64 a) (fun a : Int => Value.int .i64 a) B35 m2_131), .blk B28 (.cells #[.slice nY m5 n7, .map (some B35)] 188 (0, 0)), .blk B22 (.cells #[.int .i64 0, .int .i64 0, .slice none 0 0, .slice none 0 0] 25 (0, 0)), .blk B8 (.cells #[.int .i64 0, .int .i64 0, .slice none 0 0, .slice none 0 0] 25 (0, 0)), .blk B2 (.cells #[.int .i64 d.Letters, .int .i64 d.Start, .slice bj d.Final.length bk, .slice bm d.Next.length bn] 25 (0, 0))]) H ⟨pD, fX, fY, f0, gs, ⟨rfl, rfl, rfl, rfl, rfl, rfl, rfl, rfl, rfl, rfl, rfl, trivial⟩, hO, Jb, cG, cC, cD, ak, ap, hB⟩ ?_
   intro X2
   refine prE fun k2_121 => prE fun d_122 => prE fun d_125 => fun m2_131 => ?_
   intro H hX2 σ Wj
   refine exE fun vk => exE fun m5 => exE fun nY => exE fun n7 => exE fun tK => andE fun hag => andE fun hO => andE fun jr => andE fun cG => andE fun cC => andE fun ff => andE fun ak => andE fun ap => fun hB => ?_
   dsimp only at H
   refine Go1.keep [(0, .int .i64 d.Letters), (2, .func (.func 140) #[] #[.pointer (some ⟨B2, 0, none⟩)]), (3, .func (.func 141) #[] #[.pointer (some ⟨B2, 0, none⟩)]), (8, .pointer (some ⟨B22, 0, none⟩)), (11, .pointer (some ⟨B28, 0, none⟩)), (12, .pointer (some ⟨B72, 0, none⟩)), (13, .int .i64 (k1_87 : Int)), (14, .int .i64 (ix d_100 (k1_87 : Int))), (15, .slice uK d.Letters.toNat d.Letters.toNat), (36, .int .i64 ((List.replicate d.Letters.toNat ((0 : Int))).length : Int)), (37, .int .i64 (k2_121 : Int))] hag ?_
   refine zq (zr ?_)
   by_cases wo : (k2_121 : Int) < ((List.replicate d.Letters.toNat ((0 : Int))).length : Int)
   ·replace H := ifp wo H
    refine zo (fun w => opB (J08 rfl rfl w) (decide_eq_true wo)) (zn (zq (zt rfl rfl (zk (zq ?_)))))
    refine zb (zq (zr (zm rfl (za rfl (zn ?_)))))
    refine zr (zm rfl (zm rfl (zm rfl (zm rfl (zm rfl ?_)))))
    refine GoR.inl (vs := [.int .i64 (ix d_100 (k1_87 : Int)), .int .i64 (k2_121 : Int)]) (caps := [.pointer (some ⟨B2, 0, none⟩)]) rfl rfl body140 Try.func140 rfl Try.ntmps140 rfl rfl rfl ?_
    intro RhR133 hR133
    refine zq (zr (za rfl (zn (zq (zr ?_)))))
    refine zo (J00 Try.underlying25 rfl ti23 rfl (by decide)) (zs (oblk (i := 3) 9 hO rfl rfl Try.underlying23 rfl rfl) (zm rfl ?_))
    obtain ⟨Gn, H⟩ := H
    obtain ⟨Gp, H⟩ := H
    refine zo (J02 Try.underlying23 ti31 rfl rfl Gn Gp (ap.some_ Gn Gp)) ?_
    have zz := ldSl ap Gn Gp
    obtain ⟨Wk, Wl, kq, Nq⟩ := zz
    refine zs (Nq Try.underlying31 rfl rfl) (zm rfl ?_)
    obtain ⟨wq, H⟩ := H
    obtain ⟨uL, H⟩ := H
    refine zo (J02 Try.underlying31 ti3 rfl rfl wq uL (kq.some_ wq uL)) (zs (ldInt kq wq uL Try.underlying3 rfl rfl) (za rfl (zn ?_)))
    refine Go1.ret1V Try.func140 rfl (show _ = .int .i64 (ix (ix d.Next (ix d_100 (k1_87 : Int))) (k2_121 : Int)) from rfl) ?_
    refine hR133 _ _ ?_
    refine GoR.inl (vs := [.pointer (some ⟨B28, 0, none⟩), .int .i64 (ix (ix d.Next (ix d_100 (k1_87 : Int))) (k2_121 : Int))]) (caps := []) rfl rfl body163 Try.func163 rfl Try.ntmps163 rfl rfl rfl ?_
    intro RhR142 hR142
    refine zq ?_
    refine Go1.cut [(0, .pointer (some ⟨B28, 0, none⟩)), (1, .int .i64 (ix (ix d.Next (ix d_100 (k1_87 : Int))) (k2_121 : Int)))] ⟨rfl, rfl, trivial⟩ ?_
    intro σ _
    refine zr (za rfl (zn (zq (zr (zm rfl ?_)))))
    refine zo (J01 rfl) (zo (J00 Try.underlying188 rfl ti168 rfl (by decide)) (zs (oblk (i := 1) 6 hO rfl rfl Try.underlying168 rfl rfl) (zm rfl ?_)))
    by_cases ya : mhas m2_131 ((ix (ix d.Next (ix d_100 (k1_87 : Int))) (k2_121 : Int))) = true
    ·replace H := ifp ya H
     refine zs (olookT (a := (ix (ix d.Next (ix d_100 (k1_87 : Int))) (k2_121 : Int))) (MK.int Try.underlying3) 5 hO rfl Try.underlying168 rfl rfl ya) (zm rfl (zo (J07 rfl rfl) (zo (J07 rfl rfl) (za rfl (za rfl ?_)))))
     refine zn (zq (zq (zr (zm rfl (zo (J0g rfl) ?_)))))
     refine zn (zf rfl rfl (zk (zq (zr (zm rfl ?_)))))
     refine za rfl (zn ?_)
     refine Go1.ret1V Try.func163 rfl (show _ = .int .i64 (mgt m2_131 ((ix (ix d.Next (ix d_100 (k1_87 : Int))) (k2_121 : Int)))) from rfl) ?_
     refine hR142 _ _ ?_
     obtain ⟨yG, H⟩ := H
     obtain ⟨yH, H⟩ := H
     refine zo (J02 Try.underlying31 ti3 rfl rfl yG (ltn (jr.neq hO 0 rfl) yH) (jr.psome hO 0 rfl yG yH)) ?_
     have zz := ost (r := Rp.int .i64) rfl 0 hO rfl jr yG yH (v := .int .i64 (mgt m2_131 ((ix (ix d.Next (ix d_100 (k1_87 : Int))) (k2_121 : Int))))) (u := (mgt m2_131 ((ix (ix d.Next (ix d_100 (k1_87 : Int))) (k2_121 : Int))))) rfl rfl
     obtain ⟨Wm, EV, my, dY, JN⟩ := zz
     dsimp only [sS, sZ] at my dY
     refine zg (JN Try.underlying3 rfl ti3 (by exact rfl) (by exact rfl)) ?_
     replace hO := my.own
     refine zn ?_
     refine Go1.inBlock ?_
     refine zr ?_
     obtain ⟨Sy, H⟩ := H
     refine zo (J0e rfl rfl (wrap_i64 Sy)) (zm rfl (zn ?_))
     replace cG := cG.ch my.ch
     replace cC := cC.ch my.ch
     replace ff := ff.ch my.ch
     replace ak := ak.ch my.ch
     replace ap := ap.ch my.ch
     replace hB := hB.trans my.fr
     exact hX2 _ H _ _ ⟨EV, m5, nY, n7, tK, ⟨rfl, rfl, rfl, rfl, rfl, rfl, rfl, rfl, rfl, rfl, rfl, trivial⟩, hO, dY, cG, cC, ff, ak, ap, hB⟩
    replace H := ifn ya H
    refine zs (olookF (a := (ix (ix d.Next (ix d_100 (k1_87 : Int))) (k2_121 : Int))) (MK.int Try.underlying3) 5 hO rfl Try.underlying168 ti3 rfl rfl ya) (zm rfl (zo (J07 rfl rfl) (zo (J07 rfl rfl) (za rfl (za rfl ?_)))))
    refine zn (zq (zq ?_))
    refine Go1.cut [(0, .pointer (some ⟨B28, 0, none⟩)), (1, .int .i64 (ix (ix d.Next (ix d_100 (k1_87 : Int))) (k2_121 : Int))), (5, .int .i64 0), (6, .bool false)] ⟨rfl, rfl, rfl, rfl, trivial⟩ ?_
    intro σ _
    refine zr (zm rfl (zo (J0g rfl) (zn (zt rfl rfl (zq ?_)))))
    refine zq (zr (zm rfl (zo (J01 rfl) (zo (J00 Try.underlying188 rfl ti168 rfl (by decide)) (zs (oblk (i := 1) 6 hO rfl rfl Try.underlying168 rfl rfl) ?_)))))
    refine zo (fun w => opB (J5b Try.underlying168 rfl rfl w) rfl) (zn (zf rfl rfl (zk (zq (zr ?_)))))
    refine zm rfl (zo (J01 rfl) (zo (J00 Try.underlying188 rfl ti31 rfl (by decide)) (zs (oblk (i := 0) 6 hO rfl rfl Try.underlying31 rfl rfl) (zo (J0A Try.underlying31 rfl (ff.neq hO 4 rfl)) (za rfl ?_)))))
    refine zn (zq (zr (zm rfl (zo (J01 rfl) (zo (J00 Try.underlying188 rfl ti168 rfl (by decide)) ?_)))))
    refine zs (oblk (i := 1) 6 hO rfl rfl Try.underlying168 rfl rfl) (zm rfl (zm rfl ?_))
    have zz := omapUpd (MK.int Try.underlying3) 5 hO rfl Try.underlying168 (ix (ix d.Next (ix d_100 (k1_87 : Int))) (k2_121 : Int)) (d_125.length : Int)
    obtain ⟨Wn, t7, De⟩ := zz
    dsimp only [sS, sZ] at t7
    refine zg (De (by exact rfl) (by exact rfl) (by exact rfl)) ?_
    replace hO := t7.own
    refine zn ?_
    refine Go1.cut [(0, .pointer (some ⟨B28, 0, none⟩)), (1, .int .i64 (ix (ix d.Next (ix d_100 (k1_87 : Int))) (k2_121 : Int))), (5, .int .i64 (d_125.length : Int))] ⟨rfl, rfl, rfl, trivial⟩ ?_
    intro σ _
    refine zr (zm rfl (zm rfl (zo (J01 rfl) (zo (J00 Try.underlying188 rfl ti31 rfl (by decide)) (zs (oblk (i := 0) 6 hO rfl rfl Try.underlying31 rfl rfl) ?_)))))
    refine zm rfl ?_
    have zz := J0n (r := Rp.int .i64) (n := 1) (parts := [(0, .int .i64 (ix (ix d.Next (ix d_100 (k1_87 : Int))) (k2_121 : Int)))]) (vs := [.int .i64 (ix (ix d.Next (ix d_100 (k1_87 : Int))) (k2_121 : Int))]) (xs := [(ix (ix d.Next (ix d_100 (k1_87 : Int))) (k2_121 : Int))]) rfl Try.underlying31 ti3 hO (by decide) (by kernel_rfl) (Els.cons rfl rfl (Els.nil _ _ _) (by simp [mx])) rfl
    obtain ⟨Wo, Wp, iX, Nr, Vk, JO⟩ := zz
    refine zg (JO rfl) ?_
    replace hO := iX.own
    have zz := freeze 0 hO rfl Nr
    obtain ⟨hO1, xc, xd, Nt⟩ := zz
    dsimp only [eS, eZ] at hO1 xc xd
    replace hB := ((hB.trans t7.fr).trans iX.fr).trans (Owns.J09 _ _ 0)
    dsimp only [eS, eZ] at hB
    replace hO := hO1; clear hO1
    obtain ⟨Df, H⟩ := H
    have Z4 := (t7.ch.trans iX.ch).trans xc
    replace ff := ff.ch Z4
    have zz := oapp Try.underlying31 ti3 rfl 4 hO rfl ff xd Nt Df (by decide)
    obtain ⟨Sz, Gq, Gr, Nu, t8, zB, JP⟩ := zz
    dsimp only [sS, sZ] at t8 zB
    refine zg (JP (by exact rfl) (by exact rfl)) ?_
    replace hO := t8.own
    refine zo (J01 rfl) (zo (J00 Try.underlying188 rfl ti31 rfl (by decide)) ?_)
    have zz := J0h (v := .slice Gq (m5 + 1) Gr) (i := 0) (cs' := #[.slice Gq (m5 + 1) Gr, .map (some B35)]) 6 hO rfl rfl rfl rfl
    obtain ⟨SA, tu, JQ⟩ := zz
    dsimp only [sS, sZ] at tu
    refine zg (JQ Try.underlying31 rfl ti31 (by exact rfl) (by exact rfl)) ?_
    replace hO := tu.own
    refine zn (zq (zr (zm rfl (za rfl (zn ?_)))))
    refine Go1.ret1V Try.func163 rfl (show _ = .int .i64 (d_125.length : Int) from rfl) ?_
    refine hR142 _ _ ?_
    obtain ⟨yI, H⟩ := H
    obtain ⟨yJ, H⟩ := H
    replace jr := ((jr.ch Z4).ch t8.ch).ch tu.ch
    refine zo (J02 Try.underlying31 ti3 rfl rfl yI (ltn (jr.neq hO 0 rfl) yJ) (jr.psome hO 0 rfl yI yJ)) ?_
    have zz := ost (r := Rp.int .i64) rfl 0 hO rfl jr yI yJ (v := .int .i64 (d_125.length : Int)) (u := (d_125.length : Int)) rfl rfl
    obtain ⟨Wq, Nv, t9, Jc, JR⟩ := zz
    dsimp only [sS, sZ] at t9 Jc
    refine zg (JR Try.underlying3 rfl ti3 (by exact rfl) (by exact rfl)) ?_
    replace hO := t9.own
    refine zn ?_
    refine Go1.inBlock ?_
    refine zr ?_
    obtain ⟨SB, H⟩ := H
    refine zo (J0e rfl rfl (wrap_i64 SB)) (zm rfl (zn ?_))
    replace zB := (zB.ch tu.ch).ch t9.ch
    replace hB := ((hB.trans t8.fr).trans tu.fr).trans t9.fr
    have Z5 := ((Z4.trans t8.ch).trans tu.ch).trans t9.ch
    replace cG := cG.ch Z5
    replace cC := cC.ch Z5
    replace ak := ak.ch Z5
    replace ap := ap.ch Z5
    exact hX2 _ H _ _ ⟨Nv, m5 + 1, Gq, Gr, Nu, ⟨rfl, rfl, rfl, rfl, rfl, rfl, rfl, rfl, rfl, rfl, rfl, trivial⟩, hO, Jc, cG, cC, zB, ak, ap, hB⟩
   replace H := ifn wo H
   refine zo (fun w => opB (J08 rfl rfl w) (decide_eq_false wo)) (zn (zq (zf rfl rfl ?_)))
   refine Go1.exit rfl ?_
   refine zq (zq (zr (zo (J00 Try.underlying188 rfl ti31 rfl (by decide)) (zs (oblk (i := 0) 6 hO rfl rfl Try.underlying31 rfl rfl) (zo (J0A Try.underlying31 rfl (ff.neq hO 4 rfl)) ?_)))))
   by_cases EW : (512 : Int) < (d_125.length : Int)
   ·replace H := ifp EW H
    refine zo (fun w => opB (J17 rfl rfl w) (decide_eq_true EW)) (zn (zt rfl rfl (zq ?_)))
    refine Go1.cut [(8, .pointer (some ⟨B22, 0, none⟩))] ⟨rfl, trivial⟩ ?_
    intro σ _
    refine zr (zo (J0w Try.underlying25 ti25 (pl := [(0, 1), (1, 1), (2, 1), (3, 1)]) (vs := []) (cs := #[.int .i64 0, .int .i64 0, .slice none 0 0, .slice none 0 0]) (by kernel_rfl) rfl (by kernel_rfl)) ?_)
    have zz := J0b (us := [.int .i64 0, .int .i64 0, .slice none 0 0, .slice none 0 0]) (o := 0) (cs' := #[.int .i64 0, .int .i64 0, .slice none 0 0, .slice none 0 0]) 7 hO rfl rfl (Nat.le_of_ble_eq_true rfl) rfl
    obtain ⟨Wr, ng, JS⟩ := zz
    dsimp only [sS, sZ] at ng
    refine zg (JS ti25 (by exact rfl) (by exact rfl) rfl) ?_
    replace hO := ng.own
    refine za rfl (za rfl (zn ?_))
    refine Go1.retC3V Try.func139 rfl rfl (J0i (vs := [.int .i64 0, .int .i64 0, .slice none 0 0, .slice none 0 0]) 7 hO rfl rfl Try.underlying25 rfl ti25) (show _ = .slice none 0 0 from rfl) (show _ = .int .i64 3 from rfl) ?_
    refine hR20 _ _ ?_
    refine zm rfl (zo (J07 rfl rfl) (zo (J07 rfl rfl) (zo (J07 rfl rfl) ?_)))
    have zz := oalloc (t := 25) (cs := #[.int .i64 0, .int .i64 0, .slice none 0 0, .slice none 0 0]) ti25 hO rfl
    obtain ⟨Ws, B190, vT, Vl, JT⟩ := zz
    refine GoR.op JT rfl rfl ?_
    replace hO := vT.own
    have zz := J0b (us := [.int .i64 0, .int .i64 0, .slice none 0 0, .slice none 0 0]) (o := 0) (cs' := #[.int .i64 0, .int .i64 0, .slice none 0 0, .slice none 0 0]) 0 hO rfl rfl (Nat.le_of_ble_eq_true rfl) rfl
    obtain ⟨SC, uM, Dg⟩ := zz
    dsimp only [sS, sZ] at uM
    refine zg (Dg ti25 (by exact rfl) (by exact rfl) rfl) ?_
    replace hO := uM.own
    refine za rfl (za rfl (zn (zq (zr (zo (J00 Try.underlying25 rfl ti22 rfl (by decide)) ?_)))))
    refine zs (oblk (i := 2) 10 hO rfl rfl Try.underlying22 rfl rfl) (zo (J0c Try.underlying22 rfl) ?_)
    have Z6 := (ng.ch.trans vT.ch).trans uM.ch
    replace ak := ak.ch Z6
    replace H := H ak.bd
    obtain ⟨yb, H⟩ := H
    obtain ⟨Dh, H⟩ := H
    have zz := omake (n := (d.Final.length : Int)) (r := Rp.int .i64) (d := (0 : Int)) Try.underlying31 ti3 (fun _ _ => rfl) rfl hO yb Dh (by decide)
    obtain ⟨SD, vh, Nw, vU, i8, Vm, Di⟩ := zz
    refine zg (Di rfl rfl) ?_
    replace hO := vU.own
    refine za rfl (zn (zq (zq (zr (zm rfl ?_)))))
    refine zo (J0A Try.underlying31 rfl (i8.neq hO 0 rfl)) (zm rfl (zn (zb ?_)))
    replace hO := hO.drop 2
    replace i8 := i8.ch (Owns.J06 _ _ 2)
    replace ak := (ak.ch vU.ch).ch (Owns.J06 _ _ 2)
    have Z7 := (Z6.trans vU.ch).trans (Owns.J06 _ _ 2)
    replace cG := cG.ch Z7
    replace cC := cC.ch Z7
    replace ff := ff.ch Z7
    replace ap := ap.ch Z7
    replace hB := ((((hB.trans ng.fr).trans vT.fr).trans uM.fr).trans vU.fr).trans (Owns.J09 _ _ 2)
    dsimp only [eS, eZ] at hB hO ak ap i8 cG cC ff
    replace hO := hO.drop 2
    replace ak := ak.ch (Owns.J06 _ _ 2)
    replace ap := ap.ch (Owns.J06 _ _ 2)
    replace i8 := i8.ch (Owns.J06 _ _ 2)
    replace cC := cC.ch (Owns.J06 _ _ 2)
    replace ff := ff.ch (Owns.J06 _ _ 2)
    replace hB := hB.trans (Owns.J09 _ _ 2)
    dsimp only [eS, eZ] at hB hO ak ap i8 cC ff
    replace hO := hO.drop 2
    replace ak := ak.ch (Owns.J06 _ _ 2)
    replace ap := ap.ch (Owns.J06 _ _ 2)
    replace i8 := i8.ch (Owns.J06 _ _ 2)
    replace ff := ff.ch (Owns.J06 _ _ 2)
    replace hB := hB.trans (Owns.J09 _ _ 2)
    dsimp only [eS, eZ] at hB hO ak ap i8 ff
    replace hO := hO.drop 2
    replace ak := ak.ch (Owns.J06 _ _ 2)
    replace ap := ap.ch (Owns.J06 _ _ 2)
    replace i8 := i8.ch (Owns.J06 _ _ 2)
    replace ff := ff.ch (Owns.J06 _ _ 2)
    replace hB := hB.trans (Owns.J09 _ _ 2)
    dsimp only [eS, eZ] at hB hO ak ap i8 ff
    replace hO := hO.drop 2
    replace ak := ak.ch (Owns.J06 _ _ 2)
    replace ap := ap.ch (Owns.J06 _ _ 2)
    replace i8 := i8.ch (Owns.J06 _ _ 2)
    replace hB := hB.trans (Owns.J09 _ _ 2)
    dsimp only [eS, eZ] at hB hO ak ap i8
    replace hO := hO.drop 2
    replace ak := ak.ch (Owns.J06 _ _ 2)
    replace ap := ap.ch (Owns.J06 _ _ 2)
    replace i8 := i8.ch (Owns.J06 _ _ 2)
    replace hB := hB.trans (Owns.J09 _ _ 2)
    dsimp only [eS, eZ] at hB hO ak ap i8
    replace hO := hO.drop 2
    replace ak := ak.ch (Owns.J06 _ _ 2)
    replace ap := ap.ch (Owns.J06 _ _ 2)
    replace i8 := i8.ch (Owns.J06 _ _ 2)
    replace hB := hB.trans (Owns.J09 _ _ 2)
    dsimp only [eS, eZ] at hB hO ak ap i8
    replace hO := hO.drop 2
    replace ak := ak.ch (Owns.J06 _ _ 2)
    replace ap := ap.ch (Owns.J06 _ _ 2)
    replace i8 := i8.ch (Owns.J06 _ _ 2)
    replace hB := hB.trans (Owns.J09 _ _ 2)
    dsimp only [eS, eZ] at hB hO ak ap i8
    replace hO := hO.drop 3
    replace i8 := i8.ch (Owns.J06 _ _ 3)
    replace hB := hB.trans (Owns.J09 _ _ 3)
    refine Go1.loopW (S := Nat × List Int) (fun s σ w => match s with | (k3_209, number3_210) => ∃ (wu : List Value), agrees σ [(2, .pointer (some ⟨B8, 0, none⟩)), (4, .pointer (some ⟨B190, 0, none⟩)), (5, .slice none 0 0), (7, .slice vh d.Final.length d.Final.length), (31, .int .i64 ((List.replicate d.Final.length ((0 : Int))).length : Int)), (32, .int .i64 (k3_209 : Int))] ∧ (fun Z0 => Owns w0.heap.size w Z0 A ∧ Els (Rp.int .i64) (bl Z0 ++ A) w wu number3_210 ∧ Fr (bl []) w0 (bl Z0) w) [.row 3 1 vh d.Final.length d.Final.length wu, .blk B190 (.cells #[.int .i64 0, .int .i64 0, .slice none 0 0, .slice none 0 0] 25 (0, 0)), .blk B8 (.cells #[.int .i64 0, .int .i64 0, .slice none 0 0, .slice none 0 0] 25 (0, 0))]) H ⟨Nw, ⟨rfl, rfl, rfl, rfl, rfl, rfl, trivial⟩, hO, i8, hB⟩ ?_
    intro X3
    refine prE fun k3_209 => fun number3_210 => ?_
    intro H hX3 σ Wt
    refine exE fun wu => andE fun hag => andE fun hO => andE fun xe => fun hB => ?_
    dsimp only at H
    refine Go1.keep [(2, .pointer (some ⟨B8, 0, none⟩)), (4, .pointer (some ⟨B190, 0, none⟩)), (5, .slice none 0 0), (7, .slice vh d.Final.length d.Final.length), (31, .int .i64 ((List.replicate d.Final.length ((0 : Int))).length : Int)), (32, .int .i64 (k3_209 : Int))] hag ?_
    refine zq (zr ?_)
    by_cases yc : (k3_209 : Int) < ((List.replicate d.Final.length ((0 : Int))).length : Int)
    ·replace H := ifp yc H
     refine zo (fun w => opB (J08 rfl rfl w) (decide_eq_true yc)) (zn (zq (zt rfl rfl (zk (zq ?_)))))
     refine zb (zq (zr (zm rfl (za rfl (zn ?_)))))
     refine zr (zm rfl (zm rfl ?_))
     obtain ⟨yK, H⟩ := H
     obtain ⟨yL, H⟩ := H
     refine zo (J02 Try.underlying31 ti3 rfl rfl yK (ltn (xe.neq hO 0 rfl) yL) (xe.psome hO 0 rfl yK yL)) ?_
     have zz := ost (r := Rp.int .i64) rfl 0 hO rfl xe yK yL (v := .int .i64 (-1)) (u := (-1 : Int)) rfl rfl
     obtain ⟨Wu, Ny, Gg, Nz, JU⟩ := zz
     refine zg (JU Try.underlying3 rfl ti3 (by exact rfl) (by exact rfl)) ?_
     replace hO := Gg.own
     refine zn ?_
     refine Go1.inBlock ?_
     refine zr ?_
     obtain ⟨SE, H⟩ := H
     refine zo (J0e rfl rfl (wrap_i64 SE)) (zm rfl (zn ?_))
     replace hB := hB.trans Gg.fr
     exact hX3 _ H _ _ ⟨Ny, ⟨rfl, rfl, rfl, rfl, rfl, rfl, trivial⟩, hO, Nz, hB⟩
    replace H := ifn yc H
    refine zo (fun w => opB (J08 rfl rfl w) (decide_eq_false yc)) (zn (zq (zf rfl rfl ?_)))
    refine Go1.exit rfl ?_
    refine zq (zq (zr (zm rfl (zo (J0c Try.underlying31 rfl) (zm rfl ?_)))))
    refine zn (zb ?_)
    refine Go1.loopW (S := Nat) (fun s σ w => agrees σ [(2, .pointer (some ⟨B8, 0, none⟩)), (4, .pointer (some ⟨B190, 0, none⟩)), (7, .slice vh d.Final.length d.Final.length), (39, .slice none 0 0), (40, .int .i64 0), (41, .int .i64 (s : Int))] ∧ (fun Z0 => Owns w0.heap.size w Z0 A ∧ Els (Rp.int .i64) (bl Z0 ++ A) w wu number3_210 ∧ Fr (bl []) w0 (bl Z0) w) [.row 3 1 vh d.Final.length d.Final.length wu, .blk B190 (.cells #[.int .i64 0, .int .i64 0, .slice none 0 0, .slice none 0 0] 25 (0, 0)), .blk B8 (.cells #[.int .i64 0, .int .i64 0, .slice none 0 0, .slice none 0 0] 25 (0, 0))]) H ⟨⟨rfl, rfl, rfl, rfl, rfl, rfl, trivial⟩, hO, xe, hB⟩ ?_
    intro X4 k4_223
    intro H hX4 σ SF
    refine andE fun hag => andE fun hO => andE fun xe => fun hB => ?_
    refine Go1.keep [(2, .pointer (some ⟨B8, 0, none⟩)), (4, .pointer (some ⟨B190, 0, none⟩)), (7, .slice vh d.Final.length d.Final.length), (39, .slice none 0 0), (40, .int .i64 0), (41, .int .i64 (k4_223 : Int))] hag ?_
    refine zq (zr ?_)
    by_cases EX : (k4_223 : Int) < (0 : Int)
    ·replace H := ifp EX H
     refine zo (fun w => opB (J08 rfl rfl w) (decide_eq_true EX)) (zn (zq (zt rfl rfl (zk (zq ?_)))))
     refine zb (zq (zr (zm rfl ?_)))
     obtain ⟨BQ, H⟩ := H
     obtain ⟨yM, H⟩ := H
     refine zo (J02 Try.underlying31 ti3 rfl rfl BQ yM (absurd yM (by omega))) ?_
     exact absurd yM (by omega)
    replace H := ifn EX H
    refine zo (fun w => opB (J08 rfl rfl w) (decide_eq_false EX)) (zn (zq (zf rfl rfl ?_)))
    refine Go1.exit rfl ?_
    refine zq (zr (zs (J0l (vs := [.int .i64 0, .int .i64 0, .slice none 0 0, .slice none 0 0]) (i := 0) 1 hO rfl rfl Try.underlying25 rfl ti25 rfl) (zm rfl ?_)))
    have zz := J0b (us := [.int .i64 0, .int .i64 0, .slice none 0 0, .slice none 0 0]) (o := 0) (cs' := #[.int .i64 0, .int .i64 0, .slice none 0 0, .slice none 0 0]) 2 hO rfl rfl (Nat.le_of_ble_eq_true rfl) rfl
    obtain ⟨Wv, lm, JV⟩ := zz
    refine zg (JV ti25 (by exact rfl) (by exact rfl) rfl) ?_
    replace hO := lm.own
    refine za rfl (zn ?_)
    replace xe := xe.ch lm.ch
    have zz := freeze 0 hO rfl xe
    obtain ⟨hO1, Vn, NA, NB⟩ := zz
    replace hO := hO1; clear hO1
    refine Go1.retC2 Try.func109 rfl rfl (J0i (vs := [.int .i64 0, .int .i64 0, .slice none 0 0, .slice none 0 0]) 1 hO rfl rfl Try.underlying25 rfl ti25) ?_
    replace hB := (hB.trans lm.fr).trans (Owns.J09 _ _ 0)
    exact ⟨(⟨(0 : Int), (0 : Int), ([] : List Bool), ([] : List (List Int))⟩ : DFA), number3_210, none, 0, none, 0, vh, d.Final.length, (congrArg (fun l => Value.tuple (List.toArray l)) (J0k rfl (J0k (congrArg (fun nn => Value.slice vh nn d.Final.length) NB) rfl))), hB.same, (ISl.null _ _ _), (ISl.null _ _ _), (NA.ch (Ch.weak _ _ _)), H⟩
   replace H := ifn EW H
   refine zo (fun w => opB (J17 rfl rfl w) (decide_eq_false EW)) (zn (zf rfl rfl (zk (zq (zr ?_)))))
   refine zo (J00 Try.underlying25 rfl ti23 rfl (by decide)) (zs (oblk (i := 3) 3 hO rfl rfl Try.underlying23 rfl rfl) (zm rfl ?_))
   have zz := freeze 0 hO rfl jr
   obtain ⟨hO1, zC, mo, NC⟩ := zz
   dsimp only [eS, eZ] at hO1 zC mo
   replace hB := hB.trans (Owns.J09 _ _ 0)
   dsimp only [eS, eZ] at hB
   replace hO := hO1; clear hO1
   have zz := J0n (r := Rp.sl (Rp.int .i64)) (n := 1) (parts := [(0, .slice uK d.Letters.toNat d.Letters.toNat)]) (vs := [.slice uK d.Letters.toNat d.Letters.toNat]) (xs := [d_122]) rfl Try.underlying23 ti31 hO (by decide) (by kernel_rfl) (Els.cons rfl ⟨uK, d.Letters.toNat, congrArg some (congrArg (fun nn => Value.slice uK nn d.Letters.toNat) NC), mo⟩ (Els.nil _ _ _) (by simp [mx])) rfl
   obtain ⟨JW, Ww, gh, ND, Vo, JX⟩ := zz
   refine zg (JX rfl) ?_
   replace hO := gh.own
   have zz := freeze 0 hO rfl ND
   obtain ⟨hO1, yd, jt, NE⟩ := zz
   dsimp only [eS, eZ] at hO1 yd jt
   replace hB := (hB.trans gh.fr).trans (Owns.J09 _ _ 0)
   dsimp only [eS, eZ] at hB
   replace hO := hO1; clear hO1
   obtain ⟨Dj, H⟩ := H
   have Z8 := (zC.trans gh.ch).trans yd
   replace cG := cG.ch Z8
   have zz := oapp Try.underlying23 ti31 rfl 0 hO rfl cG jt NE Dj (by decide)
   obtain ⟨Wx, BR, BS, Jd, uN, sW, JY⟩ := zz
   dsimp only [sS, sZ] at uN sW
   refine zg (JY (by exact rfl) (by exact rfl)) ?_
   replace hO := uN.own
   refine zo (J00 Try.underlying25 rfl ti23 rfl (by decide)) ?_
   have zz := J0h (v := .slice BR (n93 + 1) BS) (i := 3) (cs' := #[.int .i64 d.Letters, .int .i64 0, .slice p97 n99 c98, .slice BR (n93 + 1) BS]) 2 hO rfl rfl rfl rfl
   obtain ⟨Wy, ua, Dk⟩ := zz
   dsimp only [sS, sZ] at ua
   refine zg (Dk Try.underlying23 rfl ti23 (by exact rfl) (by exact rfl)) ?_
   replace hO := ua.own
   refine zn ?_
   refine Go1.drawT (ok := fun _ => True) (CSv.tr [(some ⟨B72, 2, none⟩)]) [6, 8] 9 (.qp 0 (.qs 1 (.qp 2 (.qp 3 (.alt 4 (.alt 5 (.alt 6 (.qp 7 (.alt 8 .nil .fin)) .fin) .fin) .fin))))) mixed (by kernel_rfl) ?_
   intro SG NF
   have jv := Stp.same hO NF
   replace hO := jv.own
   refine GoT.pure rfl (J00 Try.underlying25 rfl ti22 rfl (by decide)) rfl rfl ?_
   refine GoT.stable rfl (loadV (.head _) rfl (J5i 2 hO rfl rfl) Try.underlying22 rfl rfl) rfl rfl ?_
   refine GoT.pure rfl (J03 rfl) rfl rfl ?_
   refine GoT.pure rfl (J03 rfl) rfl rfl ?_
   skip
   refine GoT.inl (vs := [.int .i64 (ix d_100 (k1_87 : Int))]) (caps := [.pointer (some ⟨B2, 0, none⟩)]) rfl rfl rfl body141 Try.func141 rfl Try.ntmps141 rfl rfl rfl ?_
   intro RhR261 hR261
   have hOs262 := hO
   replace hB := ((hB.trans uN.fr).trans ua.fr).trans jv.fr
   have hBs263 := hB
   have hB := Fr.refl (bl [.row 31 1 BR (n93 + 1) BS Jd, .row 4 1 p97 n99 c98 gy, .blk B72 (.cells #[.int .i64 d.Letters, .int .i64 0, .slice p97 n99 c98, .slice BR (n93 + 1) BS] 25 (0, 0)), .row 3 1 nY m5 n7 tK, .any (mapE (fun a : Int => Value.int .i64 a) (fun a : Int => Value.int .i64 a) B35 m2_131), .blk B28 (.cells #[.slice nY m5 n7, .map (some B35)] 188 (0, 0)), .blk B22 (.cells #[.int .i64 0, .int .i64 0, .slice none 0 0, .slice none 0 0] 25 (0, 0)), .blk B8 (.cells #[.int .i64 0, .int .i64 0, .slice none 0 0, .slice none 0 0] 25 (0, 0)), .blk B2 (.cells #[.int .i64 d.Letters, .int .i64 d.Start, .slice bj d.Final.length bk, .slice bm d.Next.length bn] 25 (0, 0))]) SG
   refine zq ?_
   refine Go1.cut [(0, .int .i64 (ix d_100 (k1_87 : Int))), (1, .pointer (some ⟨B2, 0, none⟩))] ⟨rfl, rfl, trivial⟩ ?_
   intro σ _
   refine zr (za rfl (zn (zq (zr (zo (J00 Try.underlying25 rfl ti22 rfl (by decide)) ?_)))))
   refine zs (oblk (i := 2) 8 hO rfl rfl Try.underlying22 rfl rfl) (zm rfl ?_)
   obtain ⟨Gs, H⟩ := H
   obtain ⟨Gt, H⟩ := H
   have Z9 := ((Z8.trans uN.ch).trans ua.ch).trans jv.ch
   replace ak := ak.ch Z9
   refine zo (J02 Try.underlying22 ti4 rfl rfl Gs Gt (ak.some_ Gs Gt)) (zs (ldBool ak Gs Gt Try.underlying4 rfl rfl) (za rfl (zn ?_)))
   refine Go1.ret1V Try.func141 rfl (show _ = .bool (ix d.Final (ix d_100 (k1_87 : Int))) from rfl) ?_
   refine hR261 _ _ (CSv.cons (cs_eq (J5i 2 hOs262 rfl rfl) (J5i 2 hO rfl rfl)) (CSv.nil _ _)) ?_
   replace hB := hBs263.trans hB
   skip
   have zz := J0n (r := Rp.bool) (n := 1) (parts := [(0, .bool (ix d.Final (ix d_100 (k1_87 : Int))))]) (vs := [.bool (ix d.Final (ix d_100 (k1_87 : Int)))]) (xs := [ix d.Final (ix d_100 (k1_87 : Int))]) rfl Try.underlying22 ti4 hO (by decide) (by kernel_rfl) (Els.cons rfl rfl (Els.nil _ _ _) (by simp [mx])) rfl
   obtain ⟨Wz, WA, iL, NG, NH, J0⟩ := zz
   refine GoT.step rfl (J0 rfl) (CSv.same NH) rfl rfl ?_
   replace hO := iL.own
   skip
   have zz := freeze 0 hO rfl NG
   obtain ⟨hO1, xg, qP, NI⟩ := zz
   dsimp only [eS, eZ] at hO1 xg qP
   replace hB := (hB.trans iL.fr).trans (Owns.J09 _ _ 0)
   dsimp only [eS, eZ] at hB
   replace hO := hO1; clear hO1
   obtain ⟨Dl, H⟩ := H
   replace cC := ((cC.ch Z9).ch iL.ch).ch xg
   have zz := oapp Try.underlying22 ti4 rfl 1 hO rfl cC qP NI Dl (by decide)
   obtain ⟨WB, Gu, Gv, NJ, ub, Cz, J1⟩ := zz
   dsimp only [sS, sZ] at ub Cz
   refine GoT.stepX rfl (J1 (by exact rfl) (by exact rfl)) rfl rfl rfl ?_
   replace hO := ub.own
   refine GoT.pure rfl (J00 Try.underlying25 rfl ti22 rfl (by decide)) rfl rfl ?_
   skip
   have zz := J0h (v := .slice Gu (n99 + 1) Gv) (i := 2) (cs' := #[.int .i64 d.Letters, .int .i64 0, .slice Gu (n99 + 1) Gv, .slice BR (n93 + 1) BS]) 2 hO rfl rfl rfl rfl
   obtain ⟨SJ, tv, J2⟩ := zz
   dsimp only [sS, sZ] at tv
   refine GoT.stepX rfl (J2 Try.underlying22 rfl ti22 (by exact rfl) (by exact rfl)) rfl rfl rfl ?_
   replace hO := tv.own
   refine GoT.nil ?_
   refine Go1.inBlock ?_
   refine zr (zm rfl ?_)
   obtain ⟨BT, H⟩ := H
   refine zo (J0e rfl rfl (wrap_i64 BT)) (za rfl (zn ?_))
   replace Cz := Cz.ch tv.ch
   replace hB := (hB.trans ub.fr).trans tv.fr
   have Z10 := ((iL.ch.trans xg).trans ub.ch).trans tv.ch
   replace ak := ak.ch Z10
   have Z11 := ((((ua.ch.trans jv.ch).trans iL.ch).trans xg).trans ub.ch).trans tv.ch
   replace sW := sW.ch Z11
   have Z12 := (((Z9.trans iL.ch).trans xg).trans ub.ch).trans tv.ch
   replace ap := ap.ch Z12
   replace ff := ff.ch Z12
   exact hX1 _ H _ _ ⟨n93 + 1, BR, BS, Jd, n99 + 1, Gu, Gv, NJ, m5, nY, n7, tK, ⟨rfl, rfl, rfl, rfl, rfl, rfl, rfl, trivial⟩, hO, sW, Cz, ff, ak, ap, hB⟩
  replace H := ifn nX H
  refine zo (fun w => opB (J08 rfl rfl w) (decide_eq_false nX)) (zn (zf rfl rfl ?_))
  refine Go1.exit rfl ?_
  refine zq ?_
  refine Go1.drawT (ok := fun _ => True) Same.tr [3] 6 (.qs 0 (.qp 1 (.alt 2 (.alt 3 (.qp 4 (.qp 5 .nil)) .fin) (.alt 3 (.alt 2 (.qp 4 (.qp 5 .nil)) .fin) .fin)))) mixed (by kernel_rfl) ?_
  intro WC NK
  have wH := Stp.same hO NK
  replace hO := wH.own
  refine GoT.stable rfl (J0l (vs := [.int .i64 d.Letters, .int .i64 0, .slice p97 n99 c98, .slice p91 n93 c92]) (i := 0) 2 hO rfl rfl Try.underlying25 rfl ti25 rfl) rfl rfl ?_
  refine GoT.pure rfl (J00 Try.underlying188 rfl ti31 rfl (by decide)) rfl rfl ?_
  refine GoT.both ?_ ?_
  ·skip
   replace H := H.1
   refine GoT.step rfl ((oblk (i := 0) 5 hO rfl rfl Try.underlying31 rfl rfl) _ (Same.refl _)) (Same.refl _) rfl rfl ?_
   skip
   have zz := J0b (us := [.int .i64 d.Letters, .int .i64 0, .slice p97 n99 c98, .slice p91 n93 c92]) (o := 0) (cs' := #[.int .i64 d.Letters, .int .i64 0, .slice p97 n99 c98, .slice p91 n93 c92]) 6 hO rfl rfl (Nat.le_of_ble_eq_true rfl) rfl
   obtain ⟨SK, iY, Dn⟩ := zz
   dsimp only [sS, sZ] at iY
   refine GoT.stepX rfl (Dn ti25 (by exact rfl) (by exact rfl) rfl) rfl rfl rfl ?_
   replace hO := iY.own
   refine GoT.pure rfl (J0s rfl) rfl rfl ?_
   refine GoT.pure rfl (J0s rfl) rfl rfl ?_
   refine GoT.nil ?_
   refine Go1.retC3V Try.func139 rfl rfl (J0i (vs := [.int .i64 d.Letters, .int .i64 0, .slice p97 n99 c98, .slice p91 n93 c92]) 6 hO rfl rfl Try.underlying25 rfl ti25) (show _ = .slice fY fX f0 from rfl) (show _ = .int .i64 0 from rfl) ?_
   refine hR20 _ _ ?_
   refine zm rfl (zo (J07 rfl rfl) (zo (J07 rfl rfl) (zo (J07 rfl rfl) ?_)))
   have zz := oalloc (t := 25) (cs := #[.int .i64 0, .int .i64 0, .slice none 0 0, .slice none 0 0]) ti25 hO rfl
   obtain ⟨SM, B296, jw, Vp, J3⟩ := zz
   refine GoR.op J3 rfl rfl ?_
   replace hO := jw.own
   have zz := J0b (us := [.int .i64 d.Letters, .int .i64 0, .slice p97 n99 c98, .slice p91 n93 c92]) (o := 0) (cs' := #[.int .i64 d.Letters, .int .i64 0, .slice p97 n99 c98, .slice p91 n93 c92]) 0 hO rfl rfl (Nat.le_of_ble_eq_true rfl) rfl
   obtain ⟨Gw, vV, J4⟩ := zz
   dsimp only [sS, sZ] at vV
   refine zg (J4 ti25 (by exact rfl) (by exact rfl) rfl) ?_
   replace hO := vV.own
   refine za rfl (za rfl (zn (zq ?_)))
   refine Go1.cut [(1, .pointer (some ⟨B2, 0, none⟩)), (2, .pointer (some ⟨B8, 0, none⟩)), (4, .pointer (some ⟨B296, 0, none⟩)), (5, .slice fY fX f0)] ⟨rfl, rfl, rfl, rfl, trivial⟩ ?_
   intro σ _
   refine zr (zo (J00 Try.underlying25 rfl ti22 rfl (by decide)) (zs (oblk (i := 2) 9 hO rfl rfl Try.underlying22 rfl rfl) (zo (J0c Try.underlying22 rfl) ?_)))
   have Z13 := ((wH.ch.trans iY.ch).trans jw.ch).trans vV.ch
   replace ak := ak.ch Z13
   replace H := H ak.bd
   obtain ⟨Aq, H⟩ := H
   obtain ⟨SN, H⟩ := H
   have zz := omake (n := (d.Final.length : Int)) (r := Rp.int .i64) (d := (0 : Int)) Try.underlying31 ti3 (fun _ _ => rfl) rfl hO Aq SN (by decide)
   obtain ⟨WD, sJ, NL, wI, n8, Vq, J5⟩ := zz
   refine zg (J5 rfl rfl) ?_
   replace hO := wI.own
   refine za rfl (zn (zq (zq (zr (zm rfl ?_)))))
   refine zo (J0A Try.underlying31 rfl (n8.neq hO 0 rfl)) (zm rfl (zn (zb ?_)))
   replace hO := hO.drop 4
   replace n8 := n8.ch (Owns.J06 _ _ 4)
   replace ak := (ak.ch wI.ch).ch (Owns.J06 _ _ 4)
   have Z14 := (Z13.trans wI.ch).trans (Owns.J06 _ _ 4)
   replace cG := cG.ch Z14
   replace cC := cC.ch Z14
   replace cD := cD.ch Z14
   replace ap := ap.ch Z14
   replace hB := (((((hB.trans wH.fr).trans iY.fr).trans jw.fr).trans vV.fr).trans wI.fr).trans (Owns.J09 _ _ 4)
   dsimp only [eS, eZ] at hB hO ak ap n8 cG cC cD
   replace hO := hO.drop 5
   replace ak := ak.ch (Owns.J06 _ _ 5)
   replace ap := ap.ch (Owns.J06 _ _ 5)
   replace n8 := n8.ch (Owns.J06 _ _ 5)
   replace cG := cG.ch (Owns.J06 _ _ 5)
   replace cC := cC.ch (Owns.J06 _ _ 5)
   replace cD := cD.ch (Owns.J06 _ _ 5)
   replace hB := hB.trans (Owns.J09 _ _ 5)
   dsimp only [eS, eZ] at hB hO ak ap n8 cG cC cD
   replace hO := hO.drop 5
   replace ak := ak.ch (Owns.J06 _ _ 5)
   replace ap := ap.ch (Owns.J06 _ _ 5)
   replace n8 := n8.ch (Owns.J06 _ _ 5)
   replace cG := cG.ch (Owns.J06 _ _ 5)
   replace cC := cC.ch (Owns.J06 _ _ 5)
   replace cD := cD.ch (Owns.J06 _ _ 5)
   replace hB := hB.trans (Owns.J09 _ _ 5)
   dsimp only [eS, eZ] at hB hO ak ap n8 cG cC cD
   replace hO := hO.drop 5
   replace ak := ak.ch (Owns.J06 _ _ 5)
   replace ap := ap.ch (Owns.J06 _ _ 5)
   replace n8 := n8.ch (Owns.J06 _ _ 5)
   replace cG := cG.ch (Owns.J06 _ _ 5)
   replace cC := cC.ch (Owns.J06 _ _ 5)
   replace cD := cD.ch (Owns.J06 _ _ 5)
   replace hB := hB.trans (Owns.J09 _ _ 5)
   dsimp only [eS, eZ] at hB hO ak ap n8 cG cC cD
   replace hO := hO.drop 6
   replace ak := ak.ch (Owns.J06 _ _ 6)
   replace ap := ap.ch (Owns.J06 _ _ 6)
   replace n8 := n8.ch (Owns.J06 _ _ 6)
   replace cG := cG.ch (Owns.J06 _ _ 6)
   replace cC := cC.ch (Owns.J06 _ _ 6)
   replace cD := cD.ch (Owns.J06 _ _ 6)
   replace hB := hB.trans (Owns.J09 _ _ 6)
   dsimp only [eS, eZ] at hB hO ak ap n8 cG cC cD
   refine Go1.loopW (S := Nat × List Int) (fun s σ w => match s with | (k5_315, number5_316) => ∃ (wv : List Value), agrees σ [(2, .pointer (some ⟨B8, 0, none⟩)), (4, .pointer (some ⟨B296, 0, none⟩)), (5, .slice fY fX f0), (7, .slice sJ d.Final.length d.Final.length), (31, .int .i64 ((List.replicate d.Final.length ((0 : Int))).length : Int)), (32, .int .i64 (k5_315 : Int))] ∧ (fun Z0 => Owns w0.heap.size w Z0 A ∧ Els (Rp.int .i64) (bl Z0 ++ A) w wv number5_316 ∧ Els (Rp.sl (Rp.int .i64)) (bl Z0 ++ A) w gC d_88 ∧ Els (Rp.bool) (bl Z0 ++ A) w gy d_94 ∧ Els (Rp.int .i64) (bl Z0 ++ A) w gs d_100 ∧ Fr (bl []) w0 (bl Z0) w) [.row 3 1 sJ d.Final.length d.Final.length wv, .blk B296 (.cells #[.int .i64 d.Letters, .int .i64 0, .slice p97 n99 c98, .slice p91 n93 c92] 25 (0, 0)), .row 31 1 p91 n93 c92 gC, .row 4 1 p97 n99 c98 gy, .row 3 1 fY fX f0 gs, .blk B8 (.cells #[.int .i64 0, .int .i64 0, .slice none 0 0, .slice none 0 0] 25 (0, 0))]) H ⟨NL, ⟨rfl, rfl, rfl, rfl, rfl, rfl, trivial⟩, hO, n8, cG, cC, cD, hB⟩ ?_
   intro X5
   refine prE fun k5_315 => fun number5_316 => ?_
   intro H hX5 σ SO
   refine exE fun wv => andE fun hag => andE fun hO => andE fun CA => andE fun cG => andE fun cC => andE fun cD => fun hB => ?_
   dsimp only at H
   refine Go1.keep [(2, .pointer (some ⟨B8, 0, none⟩)), (4, .pointer (some ⟨B296, 0, none⟩)), (5, .slice fY fX f0), (7, .slice sJ d.Final.length d.Final.length), (31, .int .i64 ((List.replicate d.Final.length ((0 : Int))).length : Int)), (32, .int .i64 (k5_315 : Int))] hag ?_
   refine zq (zr ?_)
   by_cases yN : (k5_315 : Int) < ((List.replicate d.Final.length ((0 : Int))).length : Int)
   ·replace H := ifp yN H
    refine zo (fun w => opB (J08 rfl rfl w) (decide_eq_true yN)) (zn (zq (zt rfl rfl (zk (zq ?_)))))
    refine zb (zq (zr (zm rfl (za rfl (zn ?_)))))
    refine zr (zm rfl (zm rfl ?_))
    obtain ⟨Gx, H⟩ := H
    obtain ⟨Gy, H⟩ := H
    refine zo (J02 Try.underlying31 ti3 rfl rfl Gx (ltn (CA.neq hO 0 rfl) Gy) (CA.psome hO 0 rfl Gx Gy)) ?_
    have zz := ost (r := Rp.int .i64) rfl 0 hO rfl CA Gx Gy (v := .int .i64 (-1)) (u := (-1 : Int)) rfl rfl
    obtain ⟨WE, NM, xQ, Je, J6⟩ := zz
    dsimp only [sS, sZ] at xQ Je
    refine zg (J6 Try.underlying3 rfl ti3 (by exact rfl) (by exact rfl)) ?_
    replace hO := xQ.own
    refine zn ?_
    refine Go1.inBlock ?_
    refine zr ?_
    obtain ⟨Gz, H⟩ := H
    refine zo (J0e rfl rfl (wrap_i64 Gz)) (zm rfl (zn ?_))
    replace cG := cG.ch xQ.ch
    replace cC := cC.ch xQ.ch
    replace cD := cD.ch xQ.ch
    replace hB := hB.trans xQ.fr
    exact hX5 _ H _ _ ⟨NM, ⟨rfl, rfl, rfl, rfl, rfl, rfl, trivial⟩, hO, Je, cG, cC, cD, hB⟩
   replace H := ifn yN H
   refine zo (fun w => opB (J08 rfl rfl w) (decide_eq_false yN)) (zn (zq (zf rfl rfl ?_)))
   refine Go1.exit rfl ?_
   refine zq (zq (zr (zm rfl (zo (J0A Try.underlying31 rfl (cD.neq hO 4 rfl)) (zm rfl ?_)))))
   refine zn (zb ?_)
   refine Go1.loopW (S := Nat × List Int) (fun s σ w => match s with | (k6_329, number6_330) => ∃ (vm : List Value), agrees σ [(2, .pointer (some ⟨B8, 0, none⟩)), (4, .pointer (some ⟨B296, 0, none⟩)), (7, .slice sJ d.Final.length d.Final.length), (39, .slice fY fX f0), (40, .int .i64 (d_100.length : Int)), (41, .int .i64 (k6_329 : Int))] ∧ (fun Z0 => Owns w0.heap.size w Z0 A ∧ Els (Rp.int .i64) (bl Z0 ++ A) w vm number6_330 ∧ Els (Rp.sl (Rp.int .i64)) (bl Z0 ++ A) w gC d_88 ∧ Els (Rp.bool) (bl Z0 ++ A) w gy d_94 ∧ Els (Rp.int .i64) (bl Z0 ++ A) w gs d_100 ∧ Fr (bl []) w0 (bl Z0) w) [.row 3 1 sJ d.Final.length d.Final.length vm, .blk B296 (.cells #[.int .i64 d.Letters, .int .i64 0, .slice p97 n99 c98, .slice p91 n93 c92] 25 (0, 0)), .row 31 1 p91 n93 c92 gC, .row 4 1 p97 n99 c98 gy, .row 3 1 fY fX f0 gs, .blk B8 (.cells #[.int .i64 0, .int .i64 0, .slice none 0 0, .slice none 0 0] 25 (0, 0))]) H ⟨wv, ⟨rfl, rfl, rfl, rfl, rfl, rfl, trivial⟩, hO, CA, cG, cC, cD, hB⟩ ?_
   intro X6
   refine prE fun k6_329 => fun number6_330 => ?_
   intro H hX6 σ J7
   refine exE fun vm => andE fun hag => andE fun hO => andE fun vn => andE fun cG => andE fun cC => andE fun cD => fun hB => ?_
   dsimp only at H
   refine Go1.keep [(2, .pointer (some ⟨B8, 0, none⟩)), (4, .pointer (some ⟨B296, 0, none⟩)), (7, .slice sJ d.Final.length d.Final.length), (39, .slice fY fX f0), (40, .int .i64 (d_100.length : Int)), (41, .int .i64 (k6_329 : Int))] hag ?_
   refine zq (zr ?_)
   by_cases ye : (k6_329 : Int) < (d_100.length : Int)
   ·replace H := ifp ye H
    refine zo (fun w => opB (J08 rfl rfl w) (decide_eq_true ye)) (zn (zq (zt rfl rfl (zk (zq ?_)))))
    refine zb (zq (zr (zm rfl ?_)))
    obtain ⟨GA, H⟩ := H
    obtain ⟨GB, H⟩ := H
    refine zo (J02 Try.underlying31 ti3 rfl rfl GA (ltn (cD.neq hO 4 rfl) GB) (cD.psome hO 4 rfl GA GB)) (zs (oldInt 4 hO rfl cD GA GB Try.underlying3 rfl rfl) (za rfl (za rfl (zn (zr ?_)))))
    refine zm rfl (zm rfl (zm rfl ?_))
    obtain ⟨GC, H⟩ := H
    obtain ⟨GD, H⟩ := H
    refine zo (J02 Try.underlying31 ti3 rfl rfl GC (ltn (vn.neq hO 0 rfl) GD) (vn.psome hO 0 rfl GC GD)) ?_
    have zz := ost (r := Rp.int .i64) rfl 0 hO rfl vn GC GD (v := .int .i64 (k6_329 : Int)) (u := (k6_329 : Int)) rfl rfl
    obtain ⟨SP, NN, xR, Jf, J8⟩ := zz
    dsimp only [sS, sZ] at xR Jf
    refine zg (J8 Try.underlying3 rfl ti3 (by exact rfl) (by exact rfl)) ?_
    replace hO := xR.own
    refine zn ?_
    refine Go1.inBlock ?_
    refine zr ?_
    replace cD := cD.ch xR.ch
    refine zo (J0e rfl rfl (wrap_i64 (natbd ye cD.bd))) (zm rfl (zn ?_))
    replace cG := cG.ch xR.ch
    replace cC := cC.ch xR.ch
    replace hB := hB.trans xR.fr
    exact hX6 _ H _ _ ⟨NN, ⟨rfl, rfl, rfl, rfl, rfl, rfl, trivial⟩, hO, Jf, cG, cC, cD, hB⟩
   replace H := ifn ye H
   refine zo (fun w => opB (J08 rfl rfl w) (decide_eq_false ye)) (zn (zq (zf rfl rfl ?_)))
   refine Go1.exit rfl ?_
   refine zq (zr (zs (J0l (vs := [.int .i64 d.Letters, .int .i64 0, .slice p97 n99 c98, .slice p91 n93 c92]) (i := 0) 1 hO rfl rfl Try.underlying25 rfl ti25 rfl) (zm rfl ?_)))
   have zz := J0b (us := [.int .i64 d.Letters, .int .i64 0, .slice p97 n99 c98, .slice p91 n93 c92]) (o := 0) (cs' := #[.int .i64 d.Letters, .int .i64 0, .slice p97 n99 c98, .slice p91 n93 c92]) 5 hO rfl rfl (Nat.le_of_ble_eq_true rfl) rfl
   obtain ⟨WF, wJ, Do⟩ := zz
   dsimp only [sS, sZ] at wJ
   refine zg (Do ti25 (by exact rfl) (by exact rfl) rfl) ?_
   replace hO := wJ.own
   refine za rfl (zn ?_)
   replace cC := cC.ch wJ.ch
   have zz := freeze 3 hO rfl cC
   obtain ⟨hO1, mp, lP, EY⟩ := zz
   dsimp only [eS, eZ] at hO1 mp lP
   replace hB := (hB.trans wJ.fr).trans (Owns.J09 _ _ 3)
   dsimp only [eS, eZ] at hB
   replace hO := hO1; clear hO1
   replace cG := (cG.ch wJ.ch).ch mp
   have zz := freeze 2 hO rfl cG
   obtain ⟨hO1, CB, CC, NO⟩ := zz
   dsimp only [eS, eZ] at hO1 CB CC
   replace hB := hB.trans (Owns.J09 _ _ 2)
   dsimp only [eS, eZ] at hB
   replace hO := hO1; clear hO1
   have Z15 := (wJ.ch.trans mp).trans CB
   replace vn := vn.ch Z15
   have zz := freeze 0 hO rfl vn
   obtain ⟨hO1, CD, Jg, NP⟩ := zz
   dsimp only [eS, eZ] at hO1 CD Jg
   replace hB := hB.trans (Owns.J09 _ _ 0)
   dsimp only [eS, eZ] at hB
   replace hO := hO1; clear hO1
   refine Go1.retC2 Try.func109 rfl rfl (J0i (vs := [.int .i64 d.Letters, .int .i64 0, .slice p97 n99 c98, .slice p91 n93 c92]) 2 hO rfl rfl Try.underlying25 rfl ti25) ?_
   replace CC := CC.ch CD
   replace lP := (lP.ch CB).ch CD
   exact ⟨(⟨d.Letters, (0 : Int), d_94, d_88⟩ : DFA), number6_330, p97, c98, p91, c92, sJ, d.Final.length, (congrArg (fun l => Value.tuple (List.toArray l)) (J0k (congrArg (fun l => Value.agg (List.toArray l)) (J0k rfl (J0k rfl (J0k (congrArg (fun nn => Value.slice p97 nn c98) EY) (J0k (congrArg (fun nn => Value.slice p91 nn c92) NO) rfl))))) (J0k (congrArg (fun nn => Value.slice sJ nn d.Final.length) NP) rfl))), hB.same, (lP.ch (Ch.weak _ _ _)), (CC.ch (Ch.weak _ _ _)), (Jg.ch (Ch.weak _ _ _)), H⟩
  replace H := H.2
  have zz := J0b (us := [.int .i64 d.Letters, .int .i64 0, .slice p97 n99 c98, .slice p91 n93 c92]) (o := 0) (cs' := #[.int .i64 d.Letters, .int .i64 0, .slice p97 n99 c98, .slice p91 n93 c92]) 6 hO rfl rfl (Nat.le_of_ble_eq_true rfl) rfl
  obtain ⟨WG, vW, Dp⟩ := zz
  dsimp only [sS, sZ] at vW
  refine GoT.stepX rfl (Dp ti25 (by exact rfl) (by exact rfl) rfl) rfl rfl rfl ?_
  replace hO := vW.own
  skip
  refine GoT.step rfl ((oblk (i := 0) 5 hO rfl rfl Try.underlying31 rfl rfl) _ (Same.refl _)) (Same.refl _) rfl rfl ?_
  refine GoT.pure rfl (J0s rfl) rfl rfl ?_
  refine GoT.pure rfl (J0s rfl) rfl rfl ?_
  refine GoT.nil ?_
  refine Go1.retC3V Try.func139 rfl rfl (J0i (vs := [.int .i64 d.Letters, .int .i64 0, .slice p97 n99 c98, .slice p91 n93 c92]) 6 hO rfl rfl Try.underlying25 rfl ti25) (show _ = .slice fY fX f0 from rfl) (show _ = .int .i64 0 from rfl) ?_
  refine hR20 _ _ ?_
  refine zm rfl (zo (J07 rfl rfl) (zo (J07 rfl rfl) (zo (J07 rfl rfl) ?_)))
  have zz := oalloc (t := 25) (cs := #[.int .i64 0, .int .i64 0, .slice none 0 0, .slice none 0 0]) ti25 hO rfl
  obtain ⟨J9, B359, fm, Vr, Ka⟩ := zz
  refine GoR.op Ka rfl rfl ?_
  replace hO := fm.own
  have zz := J0b (us := [.int .i64 d.Letters, .int .i64 0, .slice p97 n99 c98, .slice p91 n93 c92]) (o := 0) (cs' := #[.int .i64 d.Letters, .int .i64 0, .slice p97 n99 c98, .slice p91 n93 c92]) 0 hO rfl rfl (Nat.le_of_ble_eq_true rfl) rfl
  obtain ⟨SQ, jc, Dq⟩ := zz
  dsimp only [sS, sZ] at jc
  refine zg (Dq ti25 (by exact rfl) (by exact rfl) rfl) ?_
  replace hO := jc.own
  refine za rfl (za rfl (zn (zq ?_)))
  refine Go1.cut [(1, .pointer (some ⟨B2, 0, none⟩)), (2, .pointer (some ⟨B8, 0, none⟩)), (4, .pointer (some ⟨B359, 0, none⟩)), (5, .slice fY fX f0)] ⟨rfl, rfl, rfl, rfl, trivial⟩ ?_
  intro σ _
  refine zr (zo (J00 Try.underlying25 rfl ti22 rfl (by decide)) (zs (oblk (i := 2) 9 hO rfl rfl Try.underlying22 rfl rfl) (zo (J0c Try.underlying22 rfl) ?_)))
  have Z16 := ((wH.ch.trans vW.ch).trans fm.ch).trans jc.ch
  replace ak := ak.ch Z16
  replace H := H ak.bd
  obtain ⟨Dr, H⟩ := H
  obtain ⟨yf, H⟩ := H
  have zz := omake (n := (d.Final.length : Int)) (r := Rp.int .i64) (d := (0 : Int)) Try.underlying31 ti3 (fun _ _ => rfl) rfl hO Dr yf (by decide)
  obtain ⟨SR, sK, NQ, wK, n9, Vt, Ds⟩ := zz
  refine zg (Ds rfl rfl) ?_
  replace hO := wK.own
  refine za rfl (zn (zq (zq (zr (zm rfl ?_)))))
  refine zo (J0A Try.underlying31 rfl (n9.neq hO 0 rfl)) (zm rfl (zn (zb ?_)))
  replace hO := hO.drop 4
  replace n9 := n9.ch (Owns.J06 _ _ 4)
  replace ak := (ak.ch wK.ch).ch (Owns.J06 _ _ 4)
  have Z17 := (Z16.trans wK.ch).trans (Owns.J06 _ _ 4)
  replace cG := cG.ch Z17
  replace cC := cC.ch Z17
  replace cD := cD.ch Z17
  replace ap := ap.ch Z17
  replace hB := (((((hB.trans wH.fr).trans vW.fr).trans fm.fr).trans jc.fr).trans wK.fr).trans (Owns.J09 _ _ 4)
  dsimp only [eS, eZ] at hB hO ak ap n9 cG cC cD
  replace hO := hO.drop 5
  replace ak := ak.ch (Owns.J06 _ _ 5)
  replace ap := ap.ch (Owns.J06 _ _ 5)
  replace n9 := n9.ch (Owns.J06 _ _ 5)
  replace cG := cG.ch (Owns.J06 _ _ 5)
  replace cC := cC.ch (Owns.J06 _ _ 5)
  replace cD := cD.ch (Owns.J06 _ _ 5)
  replace hB := hB.trans (Owns.J09 _ _ 5)
  dsimp only [eS, eZ] at hB hO ak ap n9 cG cC cD
  replace hO := hO.drop 5
  replace ak := ak.ch (Owns.J06 _ _ 5)
  replace ap := ap.ch (Owns.J06 _ _ 5)
  replace n9 := n9.ch (Owns.J06 _ _ 5)
  replace cG := cG.ch (Owns.J06 _ _ 5)
  replace cC := cC.ch (Owns.J06 _ _ 5)
  replace cD := cD.ch (Owns.J06 _ _ 5)
  replace hB := hB.trans (Owns.J09 _ _ 5)
  dsimp only [eS, eZ] at hB hO ak ap n9 cG cC cD
  replace hO := hO.drop 5
  replace ak := ak.ch (Owns.J06 _ _ 5)
  replace ap := ap.ch (Owns.J06 _ _ 5)
  replace n9 := n9.ch (Owns.J06 _ _ 5)
  replace cG := cG.ch (Owns.J06 _ _ 5)
  replace cC := cC.ch (Owns.J06 _ _ 5)
  replace cD := cD.ch (Owns.J06 _ _ 5)
  replace hB := hB.trans (Owns.J09 _ _ 5)
  dsimp only [eS, eZ] at hB hO ak ap n9 cG cC cD
  replace hO := hO.drop 6
  replace ak := ak.ch (Owns.J06 _ _ 6)
  replace ap := ap.ch (Owns.J06 _ _ 6)
  replace n9 := n9.ch (Owns.J06 _ _ 6)
  replace cG := cG.ch (Owns.J06 _ _ 6)
  replace cC := cC.ch (Owns.J06 _ _ 6)
  replace cD := cD.ch (Owns.J06 _ _ 6)
  replace hB := hB.trans (Owns.J09 _ _ 6)
  dsimp only [eS, eZ] at hB hO ak ap n9 cG cC cD
  refine Go1.loopW (S := Nat × List Int) (fun s σ w => match s with | (k7_378, number7_379) => ∃ (ww : List Value), agrees σ [(2, .pointer (some ⟨B8, 0, none⟩)), (4, .pointer (some ⟨B359, 0, none⟩)), (5, .slice fY fX f0), (7, .slice sK d.Final.length d.Final.length), (31, .int .i64 ((List.replicate d.Final.length ((0 : Int))).length : Int)), (32, .int .i64 (k7_378 : Int))] ∧ (fun Z0 => Owns w0.heap.size w Z0 A ∧ Els (Rp.int .i64) (bl Z0 ++ A) w ww number7_379 ∧ Els (Rp.sl (Rp.int .i64)) (bl Z0 ++ A) w gC d_88 ∧ Els (Rp.bool) (bl Z0 ++ A) w gy d_94 ∧ Els (Rp.int .i64) (bl Z0 ++ A) w gs d_100 ∧ Fr (bl []) w0 (bl Z0) w) [.row 3 1 sK d.Final.length d.Final.length ww, .blk B359 (.cells #[.int .i64 d.Letters, .int .i64 0, .slice p97 n99 c98, .slice p91 n93 c92] 25 (0, 0)), .row 31 1 p91 n93 c92 gC, .row 4 1 p97 n99 c98 gy, .row 3 1 fY fX f0 gs, .blk B8 (.cells #[.int .i64 0, .int .i64 0, .slice none 0 0, .slice none 0 0] 25 (0, 0))]) H ⟨NQ, ⟨rfl, rfl, rfl, rfl, rfl, rfl, trivial⟩, hO, n9, cG, cC, cD, hB⟩ ?_
  intro X7
  refine prE fun k7_378 => fun number7_379 => ?_
  intro H hX7 σ WH
  refine exE fun ww => andE fun hag => andE fun hO => andE fun CE => andE fun cG => andE fun cC => andE fun cD => fun hB => ?_
  dsimp only at H
  refine Go1.keep [(2, .pointer (some ⟨B8, 0, none⟩)), (4, .pointer (some ⟨B359, 0, none⟩)), (5, .slice fY fX f0), (7, .slice sK d.Final.length d.Final.length), (31, .int .i64 ((List.replicate d.Final.length ((0 : Int))).length : Int)), (32, .int .i64 (k7_378 : Int))] hag ?_
  refine zq (zr ?_)
  by_cases E0 : (k7_378 : Int) < ((List.replicate d.Final.length ((0 : Int))).length : Int)
  ·replace H := ifp E0 H
   refine zo (fun w => opB (J08 rfl rfl w) (decide_eq_true E0)) (zn (zq (zt rfl rfl (zk (zq ?_)))))
   refine zb (zq (zr (zm rfl (za rfl (zn ?_)))))
   refine zr (zm rfl (zm rfl ?_))
   obtain ⟨GE, H⟩ := H
   obtain ⟨GF, H⟩ := H
   refine zo (J02 Try.underlying31 ti3 rfl rfl GE (ltn (CE.neq hO 0 rfl) GF) (CE.psome hO 0 rfl GE GF)) ?_
   have zz := ost (r := Rp.int .i64) rfl 0 hO rfl CE GE GF (v := .int .i64 (-1)) (u := (-1 : Int)) rfl rfl
   obtain ⟨WI, NR, kr, Jh, Du⟩ := zz
   dsimp only [sS, sZ] at kr Jh
   refine zg (Du Try.underlying3 rfl ti3 (by exact rfl) (by exact rfl)) ?_
   replace hO := kr.own
   refine zn ?_
   refine Go1.inBlock ?_
   refine zr ?_
   obtain ⟨Dv, H⟩ := H
   refine zo (J0e rfl rfl (wrap_i64 Dv)) (zm rfl (zn ?_))
   replace cG := cG.ch kr.ch
   replace cC := cC.ch kr.ch
   replace cD := cD.ch kr.ch
   replace hB := hB.trans kr.fr
   exact hX7 _ H _ _ ⟨NR, ⟨rfl, rfl, rfl, rfl, rfl, rfl, trivial⟩, hO, Jh, cG, cC, cD, hB⟩
  replace H := ifn E0 H
  refine zo (fun w => opB (J08 rfl rfl w) (decide_eq_false E0)) (zn (zq (zf rfl rfl ?_)))
  refine Go1.exit rfl ?_
  refine zq (zq (zr (zm rfl (zo (J0A Try.underlying31 rfl (cD.neq hO 4 rfl)) (zm rfl ?_)))))
  refine zn (zb ?_)
  refine Go1.loopW (S := Nat × List Int) (fun s σ w => match s with | (k8_392, number8_393) => ∃ (xh : List Value), agrees σ [(2, .pointer (some ⟨B8, 0, none⟩)), (4, .pointer (some ⟨B359, 0, none⟩)), (7, .slice sK d.Final.length d.Final.length), (39, .slice fY fX f0), (40, .int .i64 (d_100.length : Int)), (41, .int .i64 (k8_392 : Int))] ∧ (fun Z0 => Owns w0.heap.size w Z0 A ∧ Els (Rp.int .i64) (bl Z0 ++ A) w xh number8_393 ∧ Els (Rp.sl (Rp.int .i64)) (bl Z0 ++ A) w gC d_88 ∧ Els (Rp.bool) (bl Z0 ++ A) w gy d_94 ∧ Els (Rp.int .i64) (bl Z0 ++ A) w gs d_100 ∧ Fr (bl []) w0 (bl Z0) w) [.row 3 1 sK d.Final.length d.Final.length xh, .blk B359 (.cells #[.int .i64 d.Letters, .int .i64 0, .slice p97 n99 c98, .slice p91 n93 c92] 25 (0, 0)), .row 31 1 p91 n93 c92 gC, .row 4 1 p97 n99 c98 gy, .row 3 1 fY fX f0 gs, .blk B8 (.cells #[.int .i64 0, .int .i64 0, .slice none 0 0, .slice none 0 0] 25 (0, 0))]) H ⟨ww, ⟨rfl, rfl, rfl, rfl, rfl, rfl, trivial⟩, hO, CE, cG, cC, cD, hB⟩ ?_
  intro X8
  refine prE fun k8_392 => fun number8_393 => ?_
  intro H hX8 σ WJ
  refine exE fun xh => andE fun hag => andE fun hO => andE fun vo => andE fun cG => andE fun cC => andE fun cD => fun hB => ?_
  dsimp only at H
  refine Go1.keep [(2, .pointer (some ⟨B8, 0, none⟩)), (4, .pointer (some ⟨B359, 0, none⟩)), (7, .slice sK d.Final.length d.Final.length), (39, .slice fY fX f0), (40, .int .i64 (d_100.length : Int)), (41, .int .i64 (k8_392 : Int))] hag ?_
  refine zq (zr ?_)
  by_cases Dw : (k8_392 : Int) < (d_100.length : Int)
  ·replace H := ifp Dw H
   refine zo (fun w => opB (J08 rfl rfl w) (decide_eq_true Dw)) (zn (zq (zt rfl rfl (zk (zq ?_)))))
   refine zb (zq (zr (zm rfl ?_)))
   obtain ⟨GG, H⟩ := H
   obtain ⟨yO, H⟩ := H
   refine zo (J02 Try.underlying31 ti3 rfl rfl GG (ltn (cD.neq hO 4 rfl) yO) (cD.psome hO 4 rfl GG yO)) (zs (oldInt 4 hO rfl cD GG yO Try.underlying3 rfl rfl) (za rfl (za rfl (zn (zr ?_)))))
   refine zm rfl (zm rfl (zm rfl ?_))
   obtain ⟨yP, H⟩ := H
   obtain ⟨h400, H⟩ := H
   refine zo (J02 Try.underlying31 ti3 rfl rfl yP (ltn (vo.neq hO 0 rfl) h400) (vo.psome hO 0 rfl yP h400)) ?_
   have zz := ost (r := Rp.int .i64) rfl 0 hO rfl vo yP h400 (v := .int .i64 (k8_392 : Int)) (u := (k8_392 : Int)) rfl rfl
   obtain ⟨SS, NS, xS, Ji, Kb⟩ := zz
   dsimp only [sS, sZ] at xS Ji
   refine zg (Kb Try.underlying3 rfl ti3 (by exact rfl) (by exact rfl)) ?_
   replace hO := xS.own
   refine zn ?_
   refine Go1.inBlock ?_
   refine zr ?_
   replace cD := cD.ch xS.ch
   refine zo (J0e rfl rfl (wrap_i64 (natbd Dw cD.bd))) (zm rfl (zn ?_))
   replace cG := cG.ch xS.ch
   replace cC := cC.ch xS.ch
   replace hB := hB.trans xS.fr
   exact hX8 _ H _ _ ⟨NS, ⟨rfl, rfl, rfl, rfl, rfl, rfl, trivial⟩, hO, Ji, cG, cC, cD, hB⟩
  replace H := ifn Dw H
  refine zo (fun w => opB (J08 rfl rfl w) (decide_eq_false Dw)) (zn (zq (zf rfl rfl ?_)))
  refine Go1.exit rfl ?_
  refine zq (zr (zs (J0l (vs := [.int .i64 d.Letters, .int .i64 0, .slice p97 n99 c98, .slice p91 n93 c92]) (i := 0) 1 hO rfl rfl Try.underlying25 rfl ti25 rfl) (zm rfl ?_)))
  have zz := J0b (us := [.int .i64 d.Letters, .int .i64 0, .slice p97 n99 c98, .slice p91 n93 c92]) (o := 0) (cs' := #[.int .i64 d.Letters, .int .i64 0, .slice p97 n99 c98, .slice p91 n93 c92]) 5 hO rfl rfl (Nat.le_of_ble_eq_true rfl) rfl
  obtain ⟨WK, wL, Kc⟩ := zz
  dsimp only [sS, sZ] at wL
  refine zg (Kc ti25 (by exact rfl) (by exact rfl) rfl) ?_
  replace hO := wL.own
  refine za rfl (zn ?_)
  replace cC := cC.ch wL.ch
  have zz := freeze 3 hO rfl cC
  obtain ⟨hO1, CF, zD, NT⟩ := zz
  dsimp only [eS, eZ] at hO1 CF zD
  replace hB := (hB.trans wL.fr).trans (Owns.J09 _ _ 3)
  dsimp only [eS, eZ] at hB
  replace hO := hO1; clear hO1
  replace cG := (cG.ch wL.ch).ch CF
  have zz := freeze 2 hO rfl cG
  obtain ⟨hO1, CG, CH, NU⟩ := zz
  dsimp only [eS, eZ] at hO1 CG CH
  replace hB := hB.trans (Owns.J09 _ _ 2)
  dsimp only [eS, eZ] at hB
  replace hO := hO1; clear hO1
  have Z18 := (wL.ch.trans CF).trans CG
  replace vo := vo.ch Z18
  have zz := freeze 0 hO rfl vo
  obtain ⟨hO1, CJ, Jj, NV⟩ := zz
  dsimp only [eS, eZ] at hO1 CJ Jj
  replace hB := hB.trans (Owns.J09 _ _ 0)
  dsimp only [eS, eZ] at hB
  replace hO := hO1; clear hO1
  refine Go1.retC2 Try.func109 rfl rfl (J0i (vs := [.int .i64 d.Letters, .int .i64 0, .slice p97 n99 c98, .slice p91 n93 c92]) 2 hO rfl rfl Try.underlying25 rfl ti25) ?_
  replace CH := CH.ch CJ
  replace zD := (zD.ch CG).ch CJ
  exact ⟨(⟨d.Letters, (0 : Int), d_94, d_88⟩ : DFA), number8_393, p97, c98, p91, c92, sK, d.Final.length, (congrArg (fun l => Value.tuple (List.toArray l)) (J0k (congrArg (fun l => Value.agg (List.toArray l)) (J0k rfl (J0k rfl (J0k (congrArg (fun nn => Value.slice p97 nn c98) NT) (J0k (congrArg (fun nn => Value.slice p91 nn c92) NU) rfl))))) (J0k (congrArg (fun nn => Value.slice sK nn d.Final.length) NV) rfl))), hB.same, (zD.ch (Ch.weak _ _ _)), (CH.ch (Ch.weak _ _ _)), (Jj.ch (Ch.weak _ _ _)), H⟩
 replace H := ifn h19 H
 refine zo (fun w => opB (J0j rfl rfl w) (ndF h19)) (zn (zt rfl rfl (zq (zr (zo (J0w Try.underlying25 ti25 (pl := [(0, 1), (1, 1), (2, 1), (3, 1)]) (vs := []) (cs := #[.int .i64 0, .int .i64 0, .slice none 0 0, .slice none 0 0]) (by kernel_rfl) rfl (by kernel_rfl)) ?_)))))
 have zz := J0b (us := [.int .i64 0, .int .i64 0, .slice none 0 0, .slice none 0 0]) (o := 0) (cs' := #[.int .i64 0, .int .i64 0, .slice none 0 0, .slice none 0 0]) 0 hO rfl rfl (Nat.le_of_ble_eq_true rfl) rfl
 obtain ⟨WL, A9, Kd⟩ := zz
 refine zg (Kd ti25 (by exact rfl) (by exact rfl) rfl) ?_
 replace hO := A9.own
 refine za rfl (zn ?_)
 refine Go1.retC2 Try.func109 rfl rfl (J0i (vs := [.int .i64 0, .int .i64 0, .slice none 0 0, .slice none 0 0]) 0 hO rfl rfl Try.underlying25 rfl ti25) ?_
 replace hB := (((hB.trans dX.fr).trans gU.fr).trans gN.fr).trans A9.fr
 exact ⟨(⟨(0 : Int), (0 : Int), ([] : List Bool), ([] : List (List Int))⟩ : DFA), ([] : List Int), none, 0, none, 0, none, 0, rfl, hB.same, (ISl.null _ _ _), (ISl.null _ _ _), (ISl.null _ _ _), H⟩
theorem body110 : Body Try.prog 110 := ⟨Try.f110, Try.func110, rfl, by kernel_rfl⟩
theorem J2L {A : List Nat} {w0 : World} {bf : Option Addr} {bg : Nat} {bx : Option Addr} {bz : Nat} {a0 : DFA} (hA : ∀ b ∈ A, b < w0.heap.size) (am : ISl (Rp.bool) A w0 bf bg a0.Final) (aq : ISl (Rp.sl (Rp.int .i64)) A w0 bx bz a0.Next) {K : List Int → Prop} (H : J0T a0 K) :
    CallsV Try.prog 110 #[.agg #[.int .i64 a0.Letters, .int .i64 a0.Start, .slice bf a0.Final.length bg, .slice bx a0.Next.length bz]] w0 (fun v w' => ∃ (r0 : List Int) (tS : Option Addr) (tT : Nat), v = .slice tS r0.length tT ∧ Same w0 w' ∧ ISl (Rp.int .i64) A w' tS tT r0 ∧ K r0) := by
 refine CallsV.of (l := [.agg #[.int .i64 a0.Letters, .int .i64 a0.Start, .slice bf a0.Final.length bg, .slice bx a0.Next.length bz]]) Try.func110 rfl Try.ntmps110 rfl ?_
 have hO := Owns.start hA
 have hB := Fr.refl (bl []) w0
 unfold J0T at H
 refine zq (zr ?_)
 have zz := obox (t := 25) (v := .agg #[.int .i64 a0.Letters, .int .i64 a0.Start, .slice bf a0.Final.length bg, .slice bx a0.Next.length bz]) (cs := #[.int .i64 a0.Letters, .int .i64 a0.Start, .slice bf a0.Final.length bg, .slice bx a0.Next.length bz]) hO rfl
 obtain ⟨w1, B2, dX, hs4, jU⟩ := zz
 refine zg (jU rfl) ?_
 replace hO := dX.own
 refine za rfl (zn (zq (zq (zr (zs (J0l (vs := [.int .i64 a0.Letters, .int .i64 a0.Start, .slice bf a0.Final.length bg, .slice bx a0.Next.length bz]) (i := 0) 0 hO rfl rfl Try.underlying25 rfl ti25 rfl) ?_)))))
 have Z1 := (Ch.start A w0).trans dX.ch
 replace am := am.ch Z1
 replace aq := aq.ch Z1
 refine GoR.call (J0a body61 rfl (J15 (d := a0) hO.lt am aq H)) rfl rfl ?_
 rintro v11 w8 ⟨r7, rfl, hs9, H⟩
 have k8 := Stp.same hO hs9
 replace hO := k8.own
 by_cases h13 : r7 = (0 : Int)
 ·replace H := ifp h13 H
  refine zo (fun w => opB (J0j rfl rfl w) (ndT h13)) (zn (zf rfl rfl (zk (zq (zr ?_)))))
  refine zo (J00 Try.underlying25 rfl ti22 rfl (by decide)) (zs (oblk (i := 2) 0 hO rfl rfl Try.underlying22 rfl rfl) (zo (J0c Try.underlying22 rfl) ?_))
  replace am := am.ch k8.ch
  replace H := H am.bd
  obtain ⟨h21, H⟩ := H
  obtain ⟨h22, H⟩ := H
  have zz := omake (n := (a0.Final.length : Int)) (r := Rp.int .i64) (d := (0 : Int)) Try.underlying31 ti3 (fun _ _ => rfl) rfl hO h21 h22 (by decide)
  obtain ⟨w14, p15, yg, oa, dN, GH, x6⟩ := zz
  refine zg (x6 rfl rfl) ?_
  replace hO := oa.own
  refine za rfl (za rfl (zn (zq (zq (zr ?_)))))
  refine zo (J00 Try.underlying25 rfl ti22 rfl (by decide)) (zs (oblk (i := 2) 1 hO rfl rfl Try.underlying22 rfl rfl) (zo (J0c Try.underlying22 rfl) (zm rfl (zn (zb ?_)))))
  replace am := am.ch oa.ch
  replace aq := (aq.ch k8.ch).ch oa.ch
  replace hB := ((hB.trans dX.fr).trans k8.fr).trans oa.fr
  refine Go1.loopW (S := Int × Nat × List Int) (fun s σ w => match s with | (k1_25, k1_26, d_27) => ∃ (yh : List Value), agrees σ [(1, .pointer (some ⟨B2, 0, none⟩)), (3, .slice p15 a0.Final.length a0.Final.length), (4, .int .i64 k1_25), (24, .slice bf a0.Final.length bg), (25, .int .i64 (a0.Final.length : Int)), (26, .int .i64 (k1_26 : Int))] ∧ (fun Z0 => Owns w0.heap.size w Z0 A ∧ Els (Rp.int .i64) (bl Z0 ++ A) w yh d_27 ∧ ISl (Rp.bool) (bl Z0 ++ A) w bf bg a0.Final ∧ ISl (Rp.sl (Rp.int .i64)) (bl Z0 ++ A) w bx bz a0.Next ∧ Fr (bl []) w0 (bl Z0) w) [.row 3 1 p15 a0.Final.length a0.Final.length yh, .blk B2 (.cells #[.int .i64 a0.Letters, .int .i64 a0.Start, .slice bf a0.Final.length bg, .slice bx a0.Next.length bz] 25 (0, 0))]) H ⟨yg, ⟨rfl, rfl, rfl, rfl, rfl, rfl, trivial⟩, hO, dN, am, aq, hB⟩ ?_
  intro X1
  refine prE fun k1_25 => prE fun k1_26 => fun d_27 => ?_
  intro H hX1 σ w24
  refine exE fun yh => andE fun hag => andE fun hO => andE fun wM => andE fun am => andE fun aq => fun hB => ?_
  dsimp only at H
  refine Go1.keep [(1, .pointer (some ⟨B2, 0, none⟩)), (3, .slice p15 a0.Final.length a0.Final.length), (4, .int .i64 k1_25), (24, .slice bf a0.Final.length bg), (25, .int .i64 (a0.Final.length : Int)), (26, .int .i64 (k1_26 : Int))] hag ?_
  refine zq (zr ?_)
  by_cases h30 : (k1_26 : Int) < (a0.Final.length : Int)
  ·replace H := ifp h30 H
   refine zo (fun w => opB (J08 rfl rfl w) (decide_eq_true h30)) (zn (zq (zt rfl rfl (zk (zq ?_)))))
   refine zb (zq (zr (zm rfl ?_)))
   obtain ⟨h31, H⟩ := H
   obtain ⟨h32, H⟩ := H
   refine zo (J02 Try.underlying22 ti4 rfl rfl h31 h32 (am.some_ h31 h32)) ?_
   by_cases h33 : ix a0.Final (k1_26 : Int) = true
   ·replace H := ifp h33 H
    refine zg (opB ((ldBool am h31 h32 Try.underlying4 rfl rfl) _ (Same.refl _)) (h33)) (za rfl (za rfl (zn (zq (zr ?_)))))
    refine zm rfl (zo (J00 Try.underlying25 rfl ti22 rfl (by decide)) (zs (oblk (i := 2) 1 hO rfl rfl Try.underlying22 rfl rfl) ?_))
    obtain ⟨h34, H⟩ := H
    obtain ⟨h35, H⟩ := H
    refine zo (J02 Try.underlying22 ti4 rfl rfl h34 h35 (am.some_ h34 h35)) ?_
    by_cases h36 : ix a0.Final (0 : Int) = true
    ·replace H := ifp h36 H
     refine zg (opB ((ldBool am h34 h35 Try.underlying4 rfl rfl) _ (Same.refl _)) (h36)) (zo (J2T Try.underlying4 rfl rfl) (zn (zf rfl rfl (zk ?_))))
     refine Go1.inBlock ?_
     refine zr (zo (J0e rfl rfl (wrap_i64 (natbd h30 am.bd))) (zm rfl (zn ?_)))
     exact hX1 _ H _ _ ⟨yh, ⟨rfl, rfl, rfl, rfl, rfl, rfl, trivial⟩, hO, wM, am, aq, hB⟩
    replace H := ifn h36 H
    refine zg (opB ((ldBool am h34 h35 Try.underlying4 rfl rfl) _ (Same.refl _)) (Bool.eq_false_iff.2 h36)) (zo (J2T Try.underlying4 rfl rfl) (zn (zt rfl rfl (zr (zm rfl ?_)))))
    refine zm rfl ?_
    obtain ⟨h37, H⟩ := H
    obtain ⟨h38, H⟩ := H
    refine zo (J02 Try.underlying31 ti3 rfl rfl h37 (ltn (wM.neq hO 0 rfl) h38) (wM.psome hO 0 rfl h37 h38)) ?_
    have zz := ost (r := Rp.int .i64) rfl 0 hO rfl wM h37 h38 (v := .int .i64 1) (u := (1 : Int)) rfl rfl
    obtain ⟨w39, ST, m3, bV, yj⟩ := zz
    refine zg (yj Try.underlying3 rfl ti3 (by exact rfl) (by exact rfl)) ?_
    replace hO := m3.own
    refine za rfl (zn ?_)
    refine Go1.inBlock ?_
    refine Go1.cut [(1, .pointer (some ⟨B2, 0, none⟩)), (3, .slice p15 a0.Final.length a0.Final.length), (4, .int .i64 2), (24, .slice bf a0.Final.length bg), (25, .int .i64 (a0.Final.length : Int)), (26, .int .i64 (k1_26 : Int))] ⟨rfl, rfl, rfl, rfl, rfl, rfl, trivial⟩ ?_
    intro σ _
    refine zr ?_
    replace am := am.ch m3.ch
    refine zo (J0e rfl rfl (wrap_i64 (natbd h30 am.bd))) (zm rfl (zn ?_))
    replace aq := aq.ch m3.ch
    replace hB := hB.trans m3.fr
    exact hX1 _ H _ _ ⟨ST, ⟨rfl, rfl, rfl, rfl, rfl, rfl, trivial⟩, hO, bV, am, aq, hB⟩
   replace H := ifn h33 H
   refine zg (opB ((ldBool am h31 h32 Try.underlying4 rfl rfl) _ (Same.refl _)) (Bool.eq_false_iff.2 h33)) (za rfl (za rfl (zn (zq (zr ?_)))))
   refine zm rfl (zo (J00 Try.underlying25 rfl ti22 rfl (by decide)) (zs (oblk (i := 2) 1 hO rfl rfl Try.underlying22 rfl rfl) ?_))
   obtain ⟨h44, H⟩ := H
   obtain ⟨h45, H⟩ := H
   refine zo (J02 Try.underlying22 ti4 rfl rfl h44 h45 (am.some_ h44 h45)) ?_
   by_cases h46 : ix a0.Final (0 : Int) = true
   ·replace H := ifp h46 H
    refine zg (opB ((ldBool am h44 h45 Try.underlying4 rfl rfl) _ (Same.refl _)) (h46)) (zo (J2T Try.underlying4 rfl rfl) (zn (zt rfl rfl (zr (zm rfl ?_)))))
    refine zm rfl ?_
    obtain ⟨h47, H⟩ := H
    obtain ⟨h48, H⟩ := H
    refine zo (J02 Try.underlying31 ti3 rfl rfl h47 (ltn (wM.neq hO 0 rfl) h48) (wM.psome hO 0 rfl h47 h48)) ?_
    have zz := ost (r := Rp.int .i64) rfl 0 hO rfl wM h47 h48 (v := .int .i64 1) (u := (1 : Int)) rfl rfl
    obtain ⟨w49, pV, vp, SU, EQ⟩ := zz
    refine zg (EQ Try.underlying3 rfl ti3 (by exact rfl) (by exact rfl)) ?_
    replace hO := vp.own
    refine za rfl (zn ?_)
    refine Go1.inBlock ?_
    refine zr ?_
    replace am := am.ch vp.ch
    refine zo (J0e rfl rfl (wrap_i64 (natbd h30 am.bd))) (zm rfl (zn ?_))
    replace aq := aq.ch vp.ch
    replace hB := hB.trans vp.fr
    exact hX1 _ H _ _ ⟨pV, ⟨rfl, rfl, rfl, rfl, rfl, rfl, trivial⟩, hO, SU, am, aq, hB⟩
   replace H := ifn h46 H
   refine zg (opB ((ldBool am h44 h45 Try.underlying4 rfl rfl) _ (Same.refl _)) (Bool.eq_false_iff.2 h46)) (zo (J2T Try.underlying4 rfl rfl) (zn (zf rfl rfl (zk ?_))))
   refine Go1.inBlock ?_
   refine zr (zo (J0e rfl rfl (wrap_i64 (natbd h30 am.bd))) (zm rfl (zn ?_)))
   exact hX1 _ H _ _ ⟨yh, ⟨rfl, rfl, rfl, rfl, rfl, rfl, trivial⟩, hO, wM, am, aq, hB⟩
  replace H := ifn h30 H
  refine zo (fun w => opB (J08 rfl rfl w) (decide_eq_false h30)) (zn (zq (zf rfl rfl ?_)))
  refine Go1.exit rfl ?_
  refine zb ?_
  have zz := freeze 0 hO rfl wM
  obtain ⟨hO1, Al, C9, Gj⟩ := zz
  replace hO := hO1; clear hO1
  replace am := am.ch Al
  replace aq := aq.ch Al
  replace hB := hB.trans (Owns.J09 _ _ 0)
  refine Go1.loopW (S := List Int × Int) (fun s σ w => match s with | (l2_58, k2_62) => ∃ (p59 : Option Addr) (c60 : Nat), agrees σ [(1, .pointer (some ⟨B2, 0, none⟩)), (3, .slice p59 l2_58.length c60), (4, .int .i64 k2_62)] ∧ (fun Z0 => Owns w0.heap.size w Z0 A ∧ ISl (Rp.bool) (bl Z0 ++ A) w bf bg a0.Final ∧ ISl (Rp.sl (Rp.int .i64)) (bl Z0 ++ A) w bx bz a0.Next ∧ ISl (Rp.int .i64) (bl Z0 ++ A) w p59 c60 l2_58 ∧ Fr (bl []) w0 (bl Z0) w) [.blk B2 (.cells #[.int .i64 a0.Letters, .int .i64 a0.Start, .slice bf a0.Final.length bg, .slice bx a0.Next.length bz] 25 (0, 0))]) H ⟨p15, a0.Final.length, ⟨rfl, (congrArg (fun nn => Value.slice p15 nn a0.Final.length) Gj), rfl, trivial⟩, hO, am, aq, C9, hB⟩ ?_
  intro X2
  refine prE fun l2_58 => fun k2_62 => ?_
  intro H hX2 σ w57
  refine exE fun p59 => exE fun c60 => andE fun hag => andE fun hO => andE fun am => andE fun aq => andE fun iM => fun hB => ?_
  dsimp only at H
  refine Go1.keep [(1, .pointer (some ⟨B2, 0, none⟩)), (3, .slice p59 l2_58.length c60), (4, .int .i64 k2_62)] hag ?_
  refine zb (zq (zr ?_))
  have zz := omakeMap (fun a : AN 7 => Value.agg (icells .i64 a.1).toArray) (fun a : Int => Value.int .i64 a) hO
  obtain ⟨w63, B64, pE, ip, NW⟩ := zz
  refine GoR.op NW rfl rfl ?_
  replace hO := pE.own
  refine za rfl (zn (zq (zr (zm rfl (zo (J0c Try.underlying31 rfl) ?_)))))
  replace iM := iM.ch pE.ch
  replace H := H iM.bd
  obtain ⟨h76, H⟩ := H
  obtain ⟨h77, H⟩ := H
  have zz := omake (n := (l2_58.length : Int)) (r := Rp.int .i64) (d := (0 : Int)) Try.underlying31 ti3 (fun _ _ => rfl) rfl hO h76 h77 (by decide)
  obtain ⟨w69, p70, SV, Ba, SW, Sx, EU⟩ := zz
  refine zg (EU rfl rfl) ?_
  replace hO := Ba.own
  refine za rfl (zn (zq (zq (zr (zo (J00 Try.underlying25 rfl ti23 rfl (by decide)) ?_)))))
  refine zs (oblk (i := 3) 2 hO rfl rfl Try.underlying23 rfl rfl) (zo (J0c Try.underlying23 rfl) ?_)
  replace aq := (aq.ch pE.ch).ch Ba.ch
  replace H := H aq.bd
  refine zm rfl (zn (zb ?_))
  replace iM := iM.ch Ba.ch
  replace am := (am.ch pE.ch).ch Ba.ch
  replace hB := (hB.trans pE.fr).trans Ba.fr
  refine Go1.loopW (S := Nat × List Int × (List (AN 7 × Int))) (fun s σ w => match s with | (k3_80, d_81, m3_84) => ∃ (tV : List Value), agrees σ [(1, .pointer (some ⟨B2, 0, none⟩)), (3, .slice p59 l2_58.length c60), (4, .int .i64 k2_62), (7, .map (some B64)), (8, .slice p70 l2_58.length l2_58.length), (46, .slice bx a0.Next.length bz), (47, .int .i64 (a0.Next.length : Int)), (48, .int .i64 (k3_80 : Int))] ∧ (fun Z0 => Owns w0.heap.size w Z0 A ∧ Els (Rp.int .i64) (bl Z0 ++ A) w tV d_81 ∧ ISl (Rp.bool) (bl Z0 ++ A) w bf bg a0.Final ∧ ISl (Rp.sl (Rp.int .i64)) (bl Z0 ++ A) w bx bz a0.Next ∧ ISl (Rp.int .i64) (bl Z0 ++ A) w p59 c60 l2_58 ∧ Fr (bl []) w0 (bl Z0) w) [.row 3 1 p70 l2_58.length l2_58.length tV, .any (mapE (fun a : AN 7 => Value.agg (icells .i64 a.1).toArray) (fun a : Int => Value.int .i64 a) B64 m3_84), .blk B2 (.cells #[.int .i64 a0.Letters, .int .i64 a0.Start, .slice bf a0.Final.length bg, .slice bx a0.Next.length bz] 25 (0, 0))]) H ⟨SV, ⟨rfl, rfl, rfl, rfl, rfl, rfl, rfl, rfl, trivial⟩, hO, SW, am, aq, iM, hB⟩ ?_
  intro X3
  refine prE fun k3_80 => prE fun d_81 => fun m3_84 => ?_
  intro H hX3 σ w79
  refine exE fun tV => andE fun hag => andE fun hO => andE fun qQ => andE fun am => andE fun aq => andE fun iM => fun hB => ?_
  dsimp only at H
  refine Go1.keep [(1, .pointer (some ⟨B2, 0, none⟩)), (3, .slice p59 l2_58.length c60), (4, .int .i64 k2_62), (7, .map (some B64)), (8, .slice p70 l2_58.length l2_58.length), (46, .slice bx a0.Next.length bz), (47, .int .i64 (a0.Next.length : Int)), (48, .int .i64 (k3_80 : Int))] hag ?_
  refine zq (zr ?_)
  by_cases h85 : (k3_80 : Int) < (a0.Next.length : Int)
  ·replace H := ifp h85 H
   refine zo (fun w => opB (J08 rfl rfl w) (decide_eq_true h85)) (zn (zq (zt rfl rfl (zk (zq ?_)))))
   refine zb (zq (zr (zm rfl ?_)))
   obtain ⟨h86, H⟩ := H
   obtain ⟨h87, H⟩ := H
   refine zo (J02 Try.underlying23 ti31 rfl rfl h86 h87 (aq.some_ h86 h87)) ?_
   have zz := ldSl aq h86 h87
   obtain ⟨p88, c89, nh, SX⟩ := zz
   refine zs (SX Try.underlying31 rfl rfl) (za rfl (za rfl (zn (zq (zr ?_)))))
   refine zm rfl (zm rfl ?_)
   obtain ⟨h92, H⟩ := H
   obtain ⟨h93, H⟩ := H
   refine zo (J02 Try.underlying31 ti3 rfl rfl h92 h93 (iM.some_ h92 h93)) (zs (ldInt iM h92 h93 Try.underlying3 rfl rfl) (zo (J5G Try.underlying166 ti166 ti3 (vs := [(0, .int .i64 (ix l2_58 (k3_80 : Int)))]) (cs := #[.int .i64 (ix l2_58 (k3_80 : Int)), .int .i64 0, .int .i64 0, .int .i64 0, .int .i64 0, .int .i64 0, .int .i64 0]) rfl (by kernel_rfl)) ?_))
   have zz := oalloc (t := 166) (cs := (icells .i64 (([(0 : Int), (0 : Int), (0 : Int), (0 : Int), (0 : Int), (0 : Int), (0 : Int)] : List Int))).toArray) ti166 hO rfl
   obtain ⟨w94, B95, yk, WM, NX⟩ := zz
   refine GoR.op NX rfl rfl ?_
   replace hO := yk.own
   obtain ⟨wN, H⟩ := H
   have zz := oarrStA (M := [(ix l2_58 (k3_80 : Int)), (0 : Int), (0 : Int), (0 : Int), (0 : Int), (0 : Int), (0 : Int)]) 0 hO rfl (by rw [wN]; rfl)
   obtain ⟨SY, gX, Ke⟩ := zz
   refine zg (Ke ti166 (by exact rfl) (by exact rfl)) ?_
   replace hO := gX.own
   refine zn (zq (zq (zr (zm rfl (zo (J0c Try.underlying31 rfl) ?_)))))
   replace nh := (nh.ch yk.ch).ch gX.ch
   replace H := H nh.bd
   refine zm rfl (zn (zb ?_))
   have Z2 := yk.ch.trans gX.ch
   replace qQ := qQ.ch Z2
   replace am := am.ch Z2
   replace aq := aq.ch Z2
   replace iM := iM.ch Z2
   replace hB := (hB.trans yk.fr).trans gX.fr
   refine Go1.loopW (S := Nat × List Int) (fun s σ w => match s with | (k4_105, y4_106) => agrees σ [(1, .pointer (some ⟨B2, 0, none⟩)), (3, .slice p59 l2_58.length c60), (4, .int .i64 k2_62), (7, .map (some B64)), (8, .slice p70 l2_58.length l2_58.length), (9, .int .i64 (k3_80 : Int)), (11, .pointer (some ⟨B95, 0, none⟩)), (46, .slice bx a0.Next.length bz), (47, .int .i64 (a0.Next.length : Int)), (48, .int .i64 (k3_80 : Int)), (58, .slice p88 ((ix a0.Next (k3_80 : Int)).length) c89), (59, .int .i64 ((ix a0.Next (k3_80 : Int)).length : Int)), (60, .int .i64 (k4_105 : Int))] ∧ (fun Z0 => Owns w0.heap.size w Z0 A ∧ Els (Rp.int .i64) (bl Z0 ++ A) w tV d_81 ∧ ISl (Rp.bool) (bl Z0 ++ A) w bf bg a0.Final ∧ ISl (Rp.sl (Rp.int .i64)) (bl Z0 ++ A) w bx bz a0.Next ∧ ISl (Rp.int .i64) (bl Z0 ++ A) w p59 c60 l2_58 ∧ ISl (Rp.int .i64) (bl Z0 ++ A) w p88 c89 (ix a0.Next (k3_80 : Int)) ∧ Fr (bl []) w0 (bl Z0) w) [.blk B95 (.cells (icells .i64 y4_106).toArray 166 (0, 0)), .row 3 1 p70 l2_58.length l2_58.length tV, .any (mapE (fun a : AN 7 => Value.agg (icells .i64 a.1).toArray) (fun a : Int => Value.int .i64 a) B64 m3_84), .blk B2 (.cells #[.int .i64 a0.Letters, .int .i64 a0.Start, .slice bf a0.Final.length bg, .slice bx a0.Next.length bz] 25 (0, 0))]) H ⟨⟨rfl, rfl, rfl, rfl, rfl, rfl, rfl, rfl, rfl, rfl, rfl, rfl, rfl, trivial⟩, hO, qQ, am, aq, iM, nh, hB⟩ ?_
   intro X4
   refine prE fun k4_105 => fun y4_106 => ?_
   intro H hX4 σ WN
   refine andE fun hag => andE fun hO => andE fun qQ => andE fun am => andE fun aq => andE fun iM => andE fun nh => fun hB => ?_
   dsimp only at H
   refine Go1.keep [(1, .pointer (some ⟨B2, 0, none⟩)), (3, .slice p59 l2_58.length c60), (4, .int .i64 k2_62), (7, .map (some B64)), (8, .slice p70 l2_58.length l2_58.length), (9, .int .i64 (k3_80 : Int)), (11, .pointer (some ⟨B95, 0, none⟩)), (46, .slice bx a0.Next.length bz), (47, .int .i64 (a0.Next.length : Int)), (48, .int .i64 (k3_80 : Int)), (58, .slice p88 ((ix a0.Next (k3_80 : Int)).length) c89), (59, .int .i64 ((ix a0.Next (k3_80 : Int)).length : Int)), (60, .int .i64 (k4_105 : Int))] hag ?_
   refine zq (zr ?_)
   by_cases nX : (k4_105 : Int) < ((ix a0.Next (k3_80 : Int)).length : Int)
   ·replace H := ifp nX H
    refine zo (fun w => opB (J08 rfl rfl w) (decide_eq_true nX)) (zn (zq (zt rfl rfl (zk (zq ?_)))))
    refine zb (zq (zr (zm rfl ?_)))
    obtain ⟨qO, H⟩ := H
    obtain ⟨wn, H⟩ := H
    refine zo (J02 Try.underlying31 ti3 rfl rfl qO wn (nh.some_ qO wn)) (zs (ldInt nh qO wn Try.underlying3 rfl rfl) (za rfl (za rfl (zn (zr ?_)))))
    refine zm rfl ?_
    obtain ⟨yl, H⟩ := H
    refine zo (J0e rfl rfl (wrap_i64 yl)) (zm rfl (zm rfl ?_))
    obtain ⟨wO, H⟩ := H
    obtain ⟨yQ, H⟩ := H
    refine zo (J02 Try.underlying31 ti3 rfl rfl wO yQ (iM.some_ wO yQ)) (zs (ldInt iM wO yQ Try.underlying3 rfl rfl) ?_)
    obtain ⟨S0, H⟩ := H
    obtain ⟨Kf, H⟩ := H
    obtain ⟨Kg, H⟩ := H
    refine zo (J5F (n := 7) Try.underlying166 ti3 rfl rfl Kf Kg) ?_
    have zz := oarrSt (v := (ix l2_58 (ix (ix a0.Next (k3_80 : Int)) (k4_105 : Int)))) 0 hO rfl Kf (arrLt S0 Kg)
    obtain ⟨WO, j4, Kh⟩ := zz
    refine zg (Kh Try.underlying3 rfl ti3 (by exact rfl) (by exact rfl)) ?_
    replace hO := j4.own
    refine zn ?_
    refine Go1.inBlock ?_
    refine zr ?_
    replace nh := nh.ch j4.ch
    refine zo (J0e rfl rfl (wrap_i64 (natbd nX nh.bd))) (zm rfl (zn ?_))
    replace qQ := qQ.ch j4.ch
    replace am := am.ch j4.ch
    replace aq := aq.ch j4.ch
    replace iM := iM.ch j4.ch
    replace hB := hB.trans j4.fr
    exact hX4 _ H _ _ ⟨⟨rfl, rfl, rfl, rfl, rfl, rfl, rfl, rfl, rfl, rfl, rfl, rfl, rfl, trivial⟩, hO, qQ, am, aq, iM, nh, hB⟩
   replace H := ifn nX H
   refine zo (fun w => opB (J08 rfl rfl w) (decide_eq_false nX)) (zn (zq (zf rfl rfl ?_)))
   refine Go1.exit rfl ?_
   refine zq (zr (zm rfl ?_))
   obtain ⟨Dx, H⟩ := H
   refine zs (oarrLd 0 hO rfl Dx Try.underlying166 rfl ti166 rfl) ?_
   by_cases E3 : mhas m3_84 ((toAN 7 y4_106)) = true
   ·replace H := ifp E3 H
    refine zs (olookT (a := (toAN 7 y4_106)) (MK.arrN Try.underlying166 Try.underlying3 ti3) 2 hO rfl Try.underlying164 rfl rfl E3) (zm rfl (zo (J07 rfl rfl) (zo (J07 rfl rfl) (za rfl (za rfl ?_)))))
    refine zn (zq (zq ?_))
    refine Go1.cut [(1, .pointer (some ⟨B2, 0, none⟩)), (3, .slice p59 l2_58.length c60), (4, .int .i64 k2_62), (7, .map (some B64)), (8, .slice p70 l2_58.length l2_58.length), (9, .int .i64 (k3_80 : Int)), (11, .pointer (some ⟨B95, 0, none⟩)), (14, .int .i64 (mgt m3_84 ((toAN 7 y4_106)))), (15, .bool true), (46, .slice bx a0.Next.length bz), (47, .int .i64 (a0.Next.length : Int)), (48, .int .i64 (k3_80 : Int))] ⟨rfl, rfl, rfl, rfl, rfl, rfl, rfl, rfl, rfl, rfl, rfl, rfl, trivial⟩ ?_
    intro σ _
    refine zr (zm rfl (zo (J0g rfl) (zn (zf rfl rfl (zk ?_)))))
    refine zr (zm rfl (zm rfl (zm rfl ?_)))
    obtain ⟨GJ, H⟩ := H
    obtain ⟨GK, H⟩ := H
    refine zo (J02 Try.underlying31 ti3 rfl rfl GJ (ltn (qQ.neq hO 1 rfl) GK) (qQ.psome hO 1 rfl GJ GK)) ?_
    have zz := ost (r := Rp.int .i64) rfl 1 hO rfl qQ GJ GK (v := .int .i64 (mgt m3_84 ((toAN 7 y4_106)))) (u := (mgt m3_84 ((toAN 7 y4_106)))) rfl rfl
    obtain ⟨WP, ob, xT, ym, Dy⟩ := zz
    refine zg (Dy Try.underlying3 rfl ti3 (by exact rfl) (by exact rfl)) ?_
    replace hO := xT.own
    refine zn ?_
    refine Go1.inBlock ?_
    refine zr ?_
    replace aq := aq.ch xT.ch
    refine zo (J0e rfl rfl (wrap_i64 (natbd h85 aq.bd))) (zm rfl (zn ?_))
    replace hO := hO.drop 0
    replace aq := aq.ch (Owns.J06 _ _ 0)
    replace ym := ym.ch (Owns.J06 _ _ 0)
    have Z3 := xT.ch.trans (Owns.J06 _ _ 0)
    replace am := am.ch Z3
    replace iM := iM.ch Z3
    replace hB := (hB.trans xT.fr).trans (Owns.J09 _ _ 0)
    exact hX3 _ H _ _ ⟨ob, ⟨rfl, rfl, rfl, rfl, rfl, rfl, rfl, rfl, trivial⟩, hO, ym, am, aq, iM, hB⟩
   replace H := ifn E3 H
   refine zs (olookF (a := (toAN 7 y4_106)) (MK.arrN Try.underlying166 Try.underlying3 ti3) 2 hO rfl Try.underlying164 ti3 rfl rfl E3) (zm rfl (zo (J07 rfl rfl) (zo (J07 rfl rfl) (za rfl (za rfl ?_)))))
   refine zn (zq (zq (zr (zm rfl (zo (J0g rfl) ?_)))))
   refine zn (zt rfl rfl (zq (zr (zm rfl (zs (omapLen 2 hO rfl Try.underlying164 rfl) ?_)))))
   refine za rfl (zn ?_)
   refine Go1.cut [(1, .pointer (some ⟨B2, 0, none⟩)), (3, .slice p59 l2_58.length c60), (4, .int .i64 k2_62), (7, .map (some B64)), (8, .slice p70 l2_58.length l2_58.length), (9, .int .i64 (k3_80 : Int)), (11, .pointer (some ⟨B95, 0, none⟩)), (14, .int .i64 (m3_84.length : Int)), (46, .slice bx a0.Next.length bz), (47, .int .i64 (a0.Next.length : Int)), (48, .int .i64 (k3_80 : Int))] ⟨rfl, rfl, rfl, rfl, rfl, rfl, rfl, rfl, rfl, rfl, rfl, trivial⟩ ?_
   intro σ _
   refine zr (zm rfl ?_)
   obtain ⟨S1, H⟩ := H
   refine zs (oarrLd 0 hO rfl S1 Try.underlying166 rfl ti166 rfl) (zm rfl ?_)
   have zz := omapUpd (MK.arrN Try.underlying166 Try.underlying3 ti3) 2 hO rfl Try.underlying164 (toAN 7 y4_106) (m3_84.length : Int)
   obtain ⟨Dz, wP, Ki⟩ := zz
   refine zg (Ki (by exact rfl) (by exact rfl) (by exact rfl)) ?_
   replace hO := wP.own
   refine zn (zr (zm rfl (zm rfl (zm rfl ?_))))
   obtain ⟨wo, H⟩ := H
   obtain ⟨Ar, H⟩ := H
   replace qQ := qQ.ch wP.ch
   refine zo (J02 Try.underlying31 ti3 rfl rfl wo (ltn (qQ.neq hO 1 rfl) Ar) (qQ.psome hO 1 rfl wo Ar)) ?_
   have zz := ost (r := Rp.int .i64) rfl 1 hO rfl qQ wo Ar (v := .int .i64 (m3_84.length : Int)) (u := (m3_84.length : Int)) rfl rfl
   obtain ⟨WQ, NY, xU, dh, Kj⟩ := zz
   refine zg (Kj Try.underlying3 rfl ti3 (by exact rfl) (by exact rfl)) ?_
   replace hO := xU.own
   refine zn ?_
   refine Go1.inBlock ?_
   refine zr ?_
   replace aq := (aq.ch wP.ch).ch xU.ch
   refine zo (J0e rfl rfl (wrap_i64 (natbd h85 aq.bd))) (zm rfl (zn ?_))
   replace hO := hO.drop 0
   replace aq := aq.ch (Owns.J06 _ _ 0)
   replace dh := dh.ch (Owns.J06 _ _ 0)
   have Z4 := (wP.ch.trans xU.ch).trans (Owns.J06 _ _ 0)
   replace am := am.ch Z4
   replace iM := iM.ch Z4
   replace hB := ((hB.trans wP.fr).trans xU.fr).trans (Owns.J09 _ _ 0)
   exact hX3 _ H _ _ ⟨NY, ⟨rfl, rfl, rfl, rfl, rfl, rfl, rfl, rfl, trivial⟩, hO, dh, am, aq, iM, hB⟩
  replace H := ifn h85 H
  refine zo (fun w => opB (J08 rfl rfl w) (decide_eq_false h85)) (zn (zq (zf rfl rfl ?_)))
  refine Go1.exit rfl ?_
  refine zq (zq (zr (zm rfl (zs (omapLen 1 hO rfl Try.underlying164 rfl) (zm rfl ?_)))))
  by_cases yR : (m3_84.length : Int) = k2_62
  ·replace H := ifp yR H
   refine zo (fun w => opB (J0D rfl rfl w) (decide_eq_true yR)) (zn (zt rfl rfl (zq (zr (zm rfl ?_)))))
   refine za rfl (zn ?_)
   have zz := freeze 0 hO rfl qQ
   obtain ⟨hO1, E4, N1, N2⟩ := zz
   replace hO := hO1; clear hO1
   refine Go1.ret1 Try.func110 rfl ?_
   replace hB := hB.trans (Owns.J09 _ _ 0)
   exact ⟨d_81, p70, l2_58.length, (congrArg (fun nn => Value.slice p70 nn l2_58.length) N2), hB.same, (N1.ch (Ch.weak _ _ _)), H⟩
  replace H := ifn yR H
  refine zo (fun w => opB (J0D rfl rfl w) (decide_eq_false yR)) (zn (zf rfl rfl (zk (zr (zm rfl ?_)))))
  refine zm rfl (zs (omapLen 1 hO rfl Try.underlying164 rfl) (za rfl (za rfl (zn ?_))))
  refine Go1.inBlock ?_
  have zz := freeze 0 hO rfl qQ
  obtain ⟨hO1, E5, E6, N3⟩ := zz
  replace hO := hO1; clear hO1
  replace hO := hO.drop 0
  replace E6 := E6.ch (Owns.J06 _ _ 0)
  have Z5 := E5.trans (Owns.J06 _ _ 0)
  replace am := am.ch Z5
  replace aq := aq.ch Z5
  replace hB := (hB.trans (Owns.J09 _ _ 0)).trans (Owns.J09 _ _ 0)
  exact hX2 _ H _ _ ⟨p70, l2_58.length, ⟨rfl, (congrArg (fun nn => Value.slice p70 nn l2_58.length) N3), rfl, trivial⟩, hO, am, aq, E6, hB⟩
 replace H := ifn h13 H
 refine zo (fun w => opB (J0j rfl rfl w) (ndF h13)) (zn (zt rfl rfl (zq ?_)))
 refine Go1.cut [] trivial ?_
 intro σ _
 refine zr (za rfl (zn ?_))
 refine Go1.ret1 Try.func110 rfl ?_
 replace hB := (hB.trans dX.fr).trans k8.fr
 exact ⟨([] : List Int), none, 0, rfl, hB.same, (ISl.null _ _ _), H⟩
end Sg
