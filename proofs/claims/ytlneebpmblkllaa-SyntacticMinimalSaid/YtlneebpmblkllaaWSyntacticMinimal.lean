/- -/
import Derived.Test.YtlneebpmblkllaaTi
import Derived.Test.YtlneebpmblkllaaWSyntacticMonoids
import Derived.Test.YtlneebpmblkllaaWSyntacticMonoidsb
import Derived.Test.YtlneebpmblkllaaWSyntacticMonoidse
import Derived.Test.YtlneebpmblkllaaWSyntacticMonoidsf
import Derived.Test.YtlneebpmblkllaaWSyntacticMonoidsk
import Derived.Test.YtlneebpmblkllaaAl
namespace Sg
open Go Go.RowKit Go.Proofs
set_option linter.unusedVariables false
set_option linter.unusedSimpArgs false
set_option maxRecDepth 100000
set_option maxHeartbeats 4000000
theorem walk_law21_SyntacticMinimal {A : List Nat} {w0 : World} {aU : Option Addr} {aV : Nat} {aX : Option Addr} {aY : Nat} {d : DFA} (hA : ∀ b ∈ A, b < w0.heap.size) (ah : ISl (Rp.bool) A w0 aU aV d.Final) (ak : ISl (Rp.sl (Rp.int .i64)) A w0 aX aY d.Next) {K : Bool → Prop} (H : law21_SyntacticMinimal d K) :
    CallsV Try.prog 4 #[.agg #[.int .i64 d.Letters, .int .i64 d.Start, .slice aU d.Final.length aV, .slice aX d.Next.length aY]] w0 (fun v w' => ∃ (r0 : Bool), v = .bool r0 ∧ Same w0 w' ∧ K r0) := by
 refine CallsV.of (l := [.agg #[.int .i64 d.Letters, .int .i64 d.Start, .slice aU d.Final.length aV, .slice aX d.Next.length aY]]) Try.func4 rfl Try.ntmps4 rfl ?_
 have hO := Owns.start hA
 have hB := Fr.refl (bl []) w0
 unfold law21_SyntacticMinimal at H
 refine zq (zr ?_)
 have hobt := obox (t := 25) (v := .agg #[.int .i64 d.Letters, .int .i64 d.Start, .slice aU d.Final.length aV, .slice aX d.Next.length aY]) (cs := #[.int .i64 d.Letters, .int .i64 d.Start, .slice aU d.Final.length aV, .slice aX d.Next.length aY]) hO rfl
 obtain ⟨w1, B2, dG, hs4, lb⟩ := hobt
 refine zg (lb rfl) ?_
 replace hO := dG.own
 refine za rfl (zn (zq (zq (zr (zs (oblkAgg (vs := [.int .i64 d.Letters, .int .i64 d.Start, .slice aU d.Final.length aV, .slice aX d.Next.length aY]) (i := 0) 0 hO rfl rfl Try.underlying25 rfl ti25 rfl) ?_)))))
 have Z1 := (Ch.start A w0).trans dG.ch
 replace ah := ah.ch Z1
 replace ak := ak.ch Z1
 refine GoR.call (op_call body17 rfl (walk_law21_small (d := d) hO.lt ah ak H)) rfl rfl ?_
 rintro v11 w8 ⟨r7, rfl, hs9, H⟩
 have ro := Stp.same hO hs9
 replace hO := ro.own
 cases r7
 ·replace H := ifn Bool.false_ne_true H
  refine zo (op_not rfl) (zn (zt rfl rfl (zq (zr ?_))))
  refine GoR.call (op_call body18 rfl (walk_law21_awake hO.lt H)) rfl rfl ?_
  rintro v17 w14 ⟨r13, rfl, yN, H⟩
  have ji := Stp.same hO yN
  replace hO := ji.own
  refine za rfl (zn ?_)
  refine Go1.ret1 Try.func4 rfl ?_
  replace hB := ((hB.trans dG.fr).trans ro.fr).trans ji.fr
  exact ⟨r13, rfl, hB.same, H⟩
 replace H := ifp rfl H
 refine zo (op_not rfl) (zn (zf rfl rfl (zk (zq (zr ?_)))))
 refine zs (oblkAgg (vs := [.int .i64 d.Letters, .int .i64 d.Start, .slice aU d.Final.length aV, .slice aX d.Next.length aY]) (i := 0) 0 hO rfl rfl Try.underlying25 rfl ti25 rfl) ?_
 replace ah := ah.ch ro.ch
 replace ak := ak.ch ro.ch
 refine GoR.call (op_call body22 rfl (walk_minimize_Minimal (d := d) hO.lt ah ak H)) rfl rfl ?_
 rintro v23 w20 ⟨r19, wq, wr, wT, wU, rfl, PP, dX, eB, H⟩
 have Bc := Stp.same hO PP
 replace hO := Bc.own
 have hobt := oalloc (t := 25) (cs := #[.int .i64 (0 : Int), .int .i64 (0 : Int), .slice none 0 0, .slice none 0 0]) ti25 hO rfl
 obtain ⟨w25, B26, rp, BH, Dj⟩ := hobt
 refine GoR.op Dj rfl rfl ?_
 replace hO := rp.own
 have hobt := oblkStAgg (us := [.int .i64 r19.Letters, .int .i64 r19.Start, .slice wq r19.Final.length wr, .slice wT r19.Next.length wU]) (o := 0) (cs' := #[.int .i64 r19.Letters, .int .i64 r19.Start, .slice wq r19.Final.length wr, .slice wT r19.Next.length wU]) 0 hO rfl rfl (Nat.le_of_ble_eq_true rfl) rfl
 obtain ⟨w31, x6, Dk⟩ := hobt
 refine zg (Dk ti25 (by exact rfl) (by exact rfl) rfl) ?_
 replace hO := x6.own
 refine zn (zq (zr (zs (oblkAgg (vs := [.int .i64 d.Letters, .int .i64 d.Start, .slice aU d.Final.length aV, .slice aX d.Next.length aY]) (i := 0) 1 hO rfl rfl Try.underlying25 rfl ti25 rfl) ?_)))
 have Z2 := (Bc.ch.trans rp.ch).trans x6.ch
 replace ah := ah.ch Z2
 replace ak := ak.ch Z2
 refine GoR.call (op_call body19 rfl (walk_syntactic_Of (d := d) hO.lt ah ak H)) rfl rfl ?_
 rintro v39 w36 ⟨r34, r35, ws, wt, wu, wv, vn, vo, vp, vq, wV, wW, rfl, HQ, fC, fS, ft, fu, gx, H⟩
 have tj := Stp.same hO HQ
 replace hO := tj.own
 refine zm rfl (zo (op_extract rfl rfl) (zo (op_extract rfl rfl) ?_))
 have hobt := oalloc (t := 33) (cs := #[.int .i64 (0 : Int), .slice none 0 0, .slice none 0 0, .slice none 0 0, .slice none 0 0, .slice none 0 0]) ti33 hO rfl
 obtain ⟨w41, B42, i6, TF, Dl⟩ := hobt
 refine GoR.op Dl rfl rfl ?_
 replace hO := i6.own
 have hobt := oblkStAgg (us := [.int .i64 r34.Letters, .slice ws r34.Table.length wt, .slice wu r34.Words.length wv, .slice vn r34.Images.length vo, .slice vp r34.Accept.length vq, .slice wV r34.Plus.length wW]) (o := 0) (cs' := #[.int .i64 r34.Letters, .slice ws r34.Table.length wt, .slice wu r34.Words.length wv, .slice vn r34.Images.length vo, .slice vp r34.Accept.length vq, .slice wV r34.Plus.length wW]) 0 hO rfl rfl (Nat.le_of_ble_eq_true rfl) rfl
 obtain ⟨w47, iC, Dn⟩ := hobt
 refine zg (Dn ti33 (by exact rfl) (by exact rfl) rfl) ?_
 replace hO := iC.own
 refine za rfl (zn (zq ?_))
 refine Go1.cut [(3, .pointer (some ⟨B26, 0, none⟩)), (4, .pointer (some ⟨B42, 0, none⟩)), (5, .int .i64 r35)] ⟨rfl, rfl, rfl, trivial⟩ ?_
 intro σ _
 refine zr (zs (oblkAgg (vs := [.int .i64 r19.Letters, .int .i64 r19.Start, .slice wq r19.Final.length wr, .slice wT r19.Next.length wU]) (i := 0) 1 hO rfl rfl Try.underlying25 rfl ti25 rfl) ?_)
 have Z3 := (((rp.ch.trans x6.ch).trans tj.ch).trans i6.ch).trans iC.ch
 replace dX := dX.ch Z3
 replace eB := eB.ch Z3
 refine GoR.call (op_call body19 rfl (walk_syntactic_Of (d := r19) hO.lt dX eB H)) rfl rfl ?_
 rintro v55 w52 ⟨r50, r51, ww, wx, wy, wz, vr, vu, vw, vy, wX, wY, rfl, EJ, km, kn, jj, jk, lO, H⟩
 have lP := Stp.same hO EJ
 replace hO := lP.own
 refine zm rfl (zo (op_extract rfl rfl) (zo (op_extract rfl rfl) ?_))
 have hobt := oalloc (t := 33) (cs := #[.int .i64 (0 : Int), .slice none 0 0, .slice none 0 0, .slice none 0 0, .slice none 0 0, .slice none 0 0]) ti33 hO rfl
 obtain ⟨w57, B58, n8, TG, K9⟩ := hobt
 refine GoR.op K9 rfl rfl ?_
 replace hO := n8.own
 have hobt := oblkStAgg (us := [.int .i64 r50.Letters, .slice ww r50.Table.length wx, .slice wy r50.Words.length wz, .slice vr r50.Images.length vu, .slice vw r50.Accept.length vy, .slice wX r50.Plus.length wY]) (o := 0) (cs' := #[.int .i64 r50.Letters, .slice ww r50.Table.length wx, .slice wy r50.Words.length wz, .slice vr r50.Images.length vu, .slice vw r50.Accept.length vy, .slice wX r50.Plus.length wY]) 0 hO rfl rfl (Nat.le_of_ble_eq_true rfl) rfl
 obtain ⟨w63, jl, La⟩ := hobt
 refine zg (La ti33 (by exact rfl) (by exact rfl) rfl) ?_
 replace hO := jl.own
 refine za rfl (zn (zq (zr (zm rfl ?_))))
 by_cases h66 : r35 = (0 : Int)
 ·replace H := ifp h66 H
  refine zo (fun w => opB (op_eql rfl rfl w) (decide_eq_true h66)) (zm rfl (zm rfl ?_))
  by_cases h67 : r51 = (0 : Int)
  ·replace H := ifp h67 H
   refine zo (fun w => opB (op_eql rfl rfl w) (decide_eq_true h67)) (zo (op_pickT rfl rfl rfl) (zm rfl (zs (oblkAgg (vs := [.int .i64 r34.Letters, .slice ws r34.Table.length wt, .slice wu r34.Words.length wv, .slice vn r34.Images.length vo, .slice vp r34.Accept.length vq, .slice wV r34.Plus.length wW]) (i := 0) 1 hO rfl rfl Try.underlying33 rfl ti33 rfl) (zs (oblkAgg (vs := [.int .i64 r50.Letters, .slice ww r50.Table.length wx, .slice wy r50.Words.length wz, .slice vr r50.Images.length vu, .slice vw r50.Accept.length vy, .slice wX r50.Plus.length wY]) (i := 0) 0 hO rfl rfl Try.underlying33 rfl ti33 rfl) ?_))))
   have Z4 := n8.ch.trans jl.ch
   replace km := km.ch Z4
   replace kn := kn.ch Z4
   replace jj := jj.ch Z4
   replace jk := jk.ch Z4
   replace lO := lO.ch Z4
   have Z5 := (((i6.ch.trans iC.ch).trans lP.ch).trans n8.ch).trans jl.ch
   replace fC := fC.ch Z5
   replace fS := fS.ch Z5
   replace ft := ft.ch Z5
   replace fu := fu.ch Z5
   replace gx := gx.ch Z5
   refine GoR.call (op_call body21 rfl (walk_ref21_Same (a := r34) (b := r50) hO.lt fC fS ft fu gx km kn jj jk lO H)) rfl rfl ?_
   rintro v72 w69 ⟨r68, rfl, EK, H⟩
   have jm := Stp.same hO EK
   replace hO := jm.own
   refine zo (op_pickT rfl rfl rfl) (zm rfl ?_)
   cases r68
   ·replace H := ifn Bool.false_ne_true H
    refine zp (zp (zp (zp (zp (zp ?_)))))
    refine zp (zo (op_pickF rfl rfl rfl) (zm rfl (zp (zp (zp ?_)))))
    refine zp (zo (op_pickF rfl rfl rfl) (zm rfl (zp (zo (op_pickF rfl rfl rfl) (za rfl ?_)))))
    refine zn ?_
    refine Go1.ret1 Try.func4 rfl ?_
    replace hB := (((((((((((hB.trans dG.fr).trans ro.fr).trans Bc.fr).trans rp.fr).trans x6.fr).trans tj.fr).trans i6.fr).trans iC.fr).trans lP.fr).trans n8.fr).trans jl.fr).trans jm.fr
    exact ⟨false, rfl, hB.same, H⟩
   replace H := ifp rfl H
   refine zo (op_fieldAddr Try.underlying25 rfl ti22 rfl (by decide)) (zs (oblk (i := 2) 2 hO rfl rfl Try.underlying22 rfl rfl) (zo (op_len Try.underlying22 rfl) ?_))
   have Z6 := ((lP.ch.trans n8.ch).trans jl.ch).trans jm.ch
   replace dX := dX.ch Z6
   replace H := H dX.bd
   refine zo (op_fieldAddr Try.underlying33 rfl ti23 rfl (by decide)) (zs (oblk (i := 1) 1 hO rfl rfl Try.underlying23 rfl rfl) (zo (op_len Try.underlying23 rfl) ?_))
   replace fC := fC.ch jm.ch
   replace H := H fC.bd
   by_cases h74 : (r19.Final.length : Int) ≤ (r34.Table.length : Int)
   ·replace H := ifp h74 H
    refine zo (fun w => opB (op_leq rfl rfl w) (decide_eq_true h74)) (zo (op_pickT rfl rfl rfl) (zm rfl (zo (op_fieldAddr Try.underlying25 rfl ti22 rfl (by decide)) (zs (oblk (i := 2) 2 hO rfl rfl Try.underlying22 rfl rfl) (zo (op_len Try.underlying22 rfl) ?_)))))
    by_cases h75 : (0 : Int) < (r19.Final.length : Int)
    ·replace H := ifp h75 H
     refine zo (fun w => opB (op_gtr rfl rfl w) (decide_eq_true h75)) (zo (op_pickT rfl rfl rfl) (zm rfl ?_))
     refine GoR.call (op_call body18 rfl (walk_law21_awake hO.lt H)) rfl rfl ?_
     rintro v80 w77 ⟨r76, rfl, PQ, H⟩
     have gI := Stp.same hO PQ
     replace hO := gI.own
     refine zo (op_pickT rfl rfl rfl) (za rfl (zn ?_))
     refine Go1.ret1 Try.func4 rfl ?_
     replace hB := ((((((((((((hB.trans dG.fr).trans ro.fr).trans Bc.fr).trans rp.fr).trans x6.fr).trans tj.fr).trans i6.fr).trans iC.fr).trans lP.fr).trans n8.fr).trans jl.fr).trans jm.fr).trans gI.fr
     exact ⟨r76, rfl, hB.same, H⟩
    replace H := ifn h75 H
    refine zo (fun w => opB (op_gtr rfl rfl w) (decide_eq_false h75)) (zo (op_pickT rfl rfl rfl) (zm rfl (zp (zo (op_pickF rfl rfl rfl) (za rfl ?_)))))
    refine zn ?_
    refine Go1.ret1 Try.func4 rfl ?_
    replace hB := (((((((((((hB.trans dG.fr).trans ro.fr).trans Bc.fr).trans rp.fr).trans x6.fr).trans tj.fr).trans i6.fr).trans iC.fr).trans lP.fr).trans n8.fr).trans jl.fr).trans jm.fr
    exact ⟨false, rfl, hB.same, H⟩
   replace H := ifn h74 H
   refine zo (fun w => opB (op_leq rfl rfl w) (decide_eq_false h74)) (zo (op_pickT rfl rfl rfl) (zm rfl (zp (zp (zp ?_)))))
   refine zp (zo (op_pickF rfl rfl rfl) (zm rfl (zp (zo (op_pickF rfl rfl rfl) (za rfl ?_)))))
   refine zn ?_
   refine Go1.ret1 Try.func4 rfl ?_
   replace hB := (((((((((((hB.trans dG.fr).trans ro.fr).trans Bc.fr).trans rp.fr).trans x6.fr).trans tj.fr).trans i6.fr).trans iC.fr).trans lP.fr).trans n8.fr).trans jl.fr).trans jm.fr
   exact ⟨false, rfl, hB.same, H⟩
  replace H := ifn h67 H
  refine zo (fun w => opB (op_eql rfl rfl w) (decide_eq_false h67)) (zo (op_pickT rfl rfl rfl) (zm rfl (zp (zp (zp ?_)))))
  refine zo (op_pickF rfl rfl rfl) (zm rfl (zp (zp (zp (zp ?_)))))
  refine zp (zp (zp (zo (op_pickF rfl rfl rfl) (zm rfl (zp ?_)))))
  refine zp (zp (zp (zo (op_pickF rfl rfl rfl) (zm rfl (zp ?_)))))
  refine zo (op_pickF rfl rfl rfl) (za rfl (zn ?_))
  refine Go1.ret1 Try.func4 rfl ?_
  replace hB := ((((((((((hB.trans dG.fr).trans ro.fr).trans Bc.fr).trans rp.fr).trans x6.fr).trans tj.fr).trans i6.fr).trans iC.fr).trans lP.fr).trans n8.fr).trans jl.fr
  exact ⟨false, rfl, hB.same, H⟩
 replace H := ifn h66 H
 refine zo (fun w => opB (op_eql rfl rfl w) (decide_eq_false h66)) (zm rfl (zp (zp (zo (op_pickF rfl rfl rfl) (zm rfl ?_)))))
 refine zp (zp (zp (zo (op_pickF rfl rfl rfl) (zm rfl (zp ?_)))))
 refine zp (zp (zp (zp (zp (zp ?_)))))
 refine zo (op_pickF rfl rfl rfl) (zm rfl (zp (zp (zp (zp ?_)))))
 refine zo (op_pickF rfl rfl rfl) (zm rfl (zp (zo (op_pickF rfl rfl rfl) (za rfl (zn ?_)))))
 refine Go1.ret1 Try.func4 rfl ?_
 replace hB := ((((((((((hB.trans dG.fr).trans ro.fr).trans Bc.fr).trans rp.fr).trans x6.fr).trans tj.fr).trans i6.fr).trans iC.fr).trans lP.fr).trans n8.fr).trans jl.fr
 exact ⟨false, rfl, hB.same, H⟩
end Sg
