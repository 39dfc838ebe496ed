/- The walks: each call keeps to its plain transformer. Printed by walkgen.py. -/
import Derived.Test.YtjegjjdfgefkoaaTi
import Derived.Test.YtjegjjdfgefkoaaWEnumerateBuilds
import Derived.Test.YtjegjjdfgefkoaaWEnumerateBuildsc
import Derived.Test.YtjegjjdfgefkoaaAl
namespace Sg
open Go Go.RowKit Go.Proofs
set_option linter.unusedVariables false
set_option linter.unusedSimpArgs false
set_option maxRecDepth 100000
set_option maxHeartbeats 4000000
theorem body32 : Body Try.prog 32 := ⟨Try.f32, Try.func32, rfl, by kernel_rfl⟩
theorem walk_enumerate_Find {A : List Nat} {w0 : World} {cd : Option Addr} {ce : Nat} {bG : Option Addr} {bH : Nat} {bq : Option Addr} {bt : Nat} {b7 : Option Addr} {b8 : Nat} {bI : Option Addr} {bK : Nat} {bM : Option Addr} {bN : Nat} {p_f : Option Addr} {c_f : Nat} {e : Enum} {f : List Int} (hA : ∀ b ∈ A, b < w0.heap.size) (aR : ISl (Rp.sl (Rp.int .i64)) A w0 cd ce e.Gens) (aK : ISl (Rp.sl (Rp.int .i64)) A w0 bG bH e.Elems) (aC : ISl (Rp.int .i64) A w0 bq bt e.Prefix) (aS : ISl (Rp.int .i64) A w0 b7 b8 e.Last) (aL : ISl (Rp.sl (Rp.int .i64)) A w0 bI bK e.Right) (aM : ISl (rpRule) A w0 bM bN e.Rules) (h_f : ISl (Rp.int .i64) A w0 p_f c_f f) {K : Int → Prop} (H : enumerate_Find e f K) :
    CallsV Try.prog 32 #[.agg #[.int .i64 e.Points, .bool e.Monoid, .slice cd e.Gens.length ce, .slice bG e.Elems.length bH, .slice bq e.Prefix.length bt, .slice b7 e.Last.length b8, .slice bI e.Right.length bK, .slice bM e.Rules.length bN, .int .i64 e.Done], .slice p_f f.length c_f] w0 (fun v w' => ∃ (r0 : Int), v = .int .i64 r0 ∧ Same w0 w' ∧ K r0) := by
 refine CallsV.of (l := [.agg #[.int .i64 e.Points, .bool e.Monoid, .slice cd e.Gens.length ce, .slice bG e.Elems.length bH, .slice bq e.Prefix.length bt, .slice b7 e.Last.length b8, .slice bI e.Right.length bK, .slice bM e.Rules.length bN, .int .i64 e.Done], .slice p_f f.length c_f]) Try.func32 rfl Try.ntmps32 rfl ?_
 have hO := Owns.start hA
 have hB := Fr.refl (bl []) w0
 unfold enumerate_Find at H
 refine zq (zr ?_)
 have hobt := obox (t := 29) (v := .agg #[.int .i64 e.Points, .bool e.Monoid, .slice cd e.Gens.length ce, .slice bG e.Elems.length bH, .slice bq e.Prefix.length bt, .slice b7 e.Last.length b8, .slice bI e.Right.length bK, .slice bM e.Rules.length bN, .int .i64 e.Done]) (cs := #[.int .i64 e.Points, .bool e.Monoid, .slice cd e.Gens.length ce, .slice bG e.Elems.length bH, .slice bq e.Prefix.length bt, .slice b7 e.Last.length b8, .slice bI e.Right.length bK, .slice bM e.Rules.length bN, .int .i64 e.Done]) hO rfl
 obtain ⟨w1, B2, dI, hs4, qb⟩ := hobt
 refine zg (qb rfl) ?_
 replace hO := dI.own
 refine za rfl (zn (zq (zr (zs (oblkAgg (vs := [.int .i64 e.Points, .bool e.Monoid, .slice cd e.Gens.length ce, .slice bG e.Elems.length bH, .slice bq e.Prefix.length bt, .slice b7 e.Last.length b8, .slice bI e.Right.length bK, .slice bM e.Rules.length bN, .int .i64 e.Done]) (i := 0) 0 hO rfl rfl Try.underlying29 rfl ti29 rfl) ?_))))
 have Z1 := (Ch.start A w0).trans dI.ch
 replace aR := aR.ch Z1
 replace aK := aK.ch Z1
 replace aC := aC.ch Z1
 replace aS := aS.ch Z1
 replace aL := aL.ch Z1
 replace aM := aM.ch Z1
 refine GoR.call (op_call body53 rfl (walk_enumerate_replay (e := e) hO.lt aR aK aC aS aL aM H)) rfl rfl ?_
 intro v9 w10 hcase13
 refine Or.elim hcase13 ?_ ?_
 ·refine exE fun r8 => andE fun hv14 => andE fun vL => fun H => ?_
  subst hv14
  clear hcase13
  replace H := oElimN H
  have iJ := Stp.same hO vL
  replace hO := iJ.own
  refine zm rfl (zo (op_extract rfl rfl) (zo (op_extract rfl rfl) (za rfl (za rfl (zn ?_)))))
  refine zq (zq (zr (zm rfl ?_)))
  cases r8
  ·replace H := ifn Bool.false_ne_true H
   refine zo (op_not rfl) (zm rfl (zp (zp (zp (zo (op_pickT rfl rfl rfl) ?_)))))
   refine zn (zt rfl rfl (zq (zr (za rfl (zn ?_)))))
   refine Go1.ret1 Try.func32 rfl ?_
   replace hB := (hB.trans dI.fr).trans iJ.fr
   exact ⟨(-1 : Int), rfl, hB.same, H⟩
  replace H := ifp rfl H
  refine zo (op_not rfl) (zm rfl (zm rfl ?_))
  replace h_f := (h_f.ch Z1).ch iJ.ch
  refine GoR.call (op_call body60 rfl (walk_trans_Valid hO.lt h_f H)) rfl rfl ?_
  rintro v20 w17 ⟨r16, rfl, z8, H⟩
  have m3 := Stp.same hO z8
  replace hO := m3.own
  cases r16
  ·replace H := ifn Bool.false_ne_true H
   refine zo (op_not rfl) (zo (op_pickF rfl rfl rfl) (zn (zt rfl rfl (zq ?_))))
   refine Go1.cut [] trivial ?_
   intro σ _
   refine zr (za rfl (zn ?_))
   refine Go1.ret1 Try.func32 rfl ?_
   replace hB := ((hB.trans dI.fr).trans iJ.fr).trans m3.fr
   exact ⟨(-1 : Int), rfl, hB.same, H⟩
  replace H := ifp rfl H
  refine zo (op_not rfl) (zo (op_pickF rfl rfl rfl) (zn (zf rfl rfl (zk (zq ?_)))))
  refine zq ?_
  refine Go1.drawS 0 [(0, .pure), (1, .pure), (2, .pure), (3, .stable), (4, .pure), (5, .loud), (6, .stable), (7, .pure), (8, .pure), (9, .pure), (10, .pure), (11, .pure)] mixed (by kernel_rfl) ?_
  intro w22 Ob
  have m7 := Stp.same hO Ob
  replace hO := m7.own
  refine GoQ.pure rfl (op_move rfl) rfl rfl ?_
  exact H.elim
 ·refine exE fun r7 => exE fun r8 => exE fun gt => exE fun tD => exE fun tE => exE fun tF => exE fun sg => exE fun si => exE fun sj => exE fun sk => exE fun rv => exE fun ry => exE fun rz => exE fun rB => exE fun qn => exE fun tG => exE fun tH => exE fun tI => exE fun sm => exE fun sn => exE fun sq => exE fun sr => exE fun rC => exE fun ss => exE fun su => exE fun sv => exE fun rD => exE fun bC => exE fun xS => exE fun xT => exE fun xU => exE fun wF => exE fun wG => exE fun wH => exE fun wI => exE fun vT => exE fun wJ => exE fun wK => exE fun wL => exE fun vU => andE fun hv25 => andE fun vL => andE fun hN12 => andE fun eQ => andE fun dX => andE fun dW => andE fun eU => andE fun en => andE fun eo => andE fun fy => andE fun fH => andE fun fI => fun H => ?_
  subst hv25
  clear hcase13
  replace H := oElimS H
  have jA := Stp.more hO vL hN12
  dsimp only [List.cons_append, List.nil_append] at jA
  replace hO := jA.own
  replace eQ := eQ.ch (Ch.assoc _ _ _ _)
  dsimp only [List.cons_append, List.nil_append] at eQ
  replace dX := dX.ch (Ch.assoc _ _ _ _)
  dsimp only [List.cons_append, List.nil_append] at dX
  replace dW := dW.ch (Ch.assoc _ _ _ _)
  dsimp only [List.cons_append, List.nil_append] at dW
  replace eU := eU.ch (Ch.assoc _ _ _ _)
  dsimp only [List.cons_append, List.nil_append] at eU
  replace en := en.ch (Ch.assoc _ _ _ _)
  dsimp only [List.cons_append, List.nil_append] at en
  replace eo := eo.ch (Ch.assoc _ _ _ _)
  dsimp only [List.cons_append, List.nil_append] at eo
  replace fy := fy.ch (Ch.assoc _ _ _ _)
  dsimp only [List.cons_append, List.nil_append] at fy
  replace fH := fH.ch (Ch.assoc _ _ _ _)
  dsimp only [List.cons_append, List.nil_append] at fH
  replace fI := fI.ch (Ch.assoc _ _ _ _)
  dsimp only [List.cons_append, List.nil_append] at fI
  refine zm rfl (zo (op_extract rfl rfl) (zo (op_extract rfl rfl) (za rfl (za rfl (zn ?_)))))
  refine zq (zq (zr (zm rfl ?_)))
  cases r8
  ·replace H := ifn Bool.false_ne_true H
   refine zo (op_not rfl) (zm rfl (zp (zp (zp (zo (op_pickT rfl rfl rfl) ?_)))))
   refine zn (zt rfl rfl (zq (zr (za rfl (zn ?_)))))
   refine Go1.ret1 Try.func32 rfl ?_
   replace hB := (hB.trans dI.fr).trans jA.fr
   exact ⟨(-1 : Int), rfl, hB.same, H⟩
  replace H := ifp rfl H
  refine zo (op_not rfl) (zm rfl (zm rfl ?_))
  replace h_f := (h_f.ch Z1).ch jA.ch
  refine GoR.call (op_call body60 rfl (walk_trans_Valid hO.lt h_f H)) rfl rfl ?_
  rintro v42 w39 ⟨r38, rfl, JX, H⟩
  have eY := Stp.same hO JX
  replace hO := eY.own
  cases r38
  ·replace H := ifn Bool.false_ne_true H
   refine zo (op_not rfl) (zo (op_pickF rfl rfl rfl) (zn (zt rfl rfl (zq ?_))))
   refine Go1.cut [] trivial ?_
   intro σ _
   refine zr (za rfl (zn ?_))
   refine Go1.ret1 Try.func32 rfl ?_
   replace hB := ((hB.trans dI.fr).trans jA.fr).trans eY.fr
   exact ⟨(-1 : Int), rfl, hB.same, H⟩
  replace H := ifp rfl H
  refine zo (op_not rfl) (zo (op_pickF rfl rfl rfl) (zn (zf rfl rfl (zk (zq ?_)))))
  refine zq ?_
  refine Go1.drawS 0 [(0, .pure), (1, .pure), (2, .pure), (3, .stable), (4, .pure), (5, .loud), (6, .stable), (7, .pure), (8, .pure), (9, .pure), (10, .pure), (11, .pure)] mixed (by kernel_rfl) ?_
  intro w44 WQ
  have gD := Stp.same hO WQ
  replace hO := gD.own
  refine GoQ.pure rfl (op_move rfl) rfl rfl ?_
  refine GoQ.pure rfl (op_nilCheck rfl) rfl rfl ?_
  refine GoQ.pure rfl (op_fieldAddr Try.underlying72 rfl ti69 rfl (by decide)) rfl rfl ?_
  refine GoQ.stable rfl (oblk (i := 9) 0 hO rfl rfl Try.underlying69 rfl rfl) rfl rfl ?_
  refine GoQ.pure rfl (op_move rfl) rfl rfl ?_
  replace h_f := (h_f.ch eY.ch).ch gD.ch
  refine GoQ.call rfl (op_call body61 rfl (walk_enumerate_text hO.lt h_f H)) (fun v w hr => by obtain ⟨_, _, hs, _, _⟩ := hr; assumption) rfl rfl ?_
  rintro v51 w48 ⟨r47, rfl, WR, Xd, H⟩
  have rT := Stp.same hO WR
  replace hO := rT.own
  by_cases h53 : mhas r7.number r47 = true
  ·replace H := ifp h53 H
   refine GoQ.stable rfl (olookT (a := r47) (MK.str Try.underlying9) 10 hO rfl Try.underlying69 rfl rfl h53) rfl rfl ?_
   refine GoQ.pure rfl (op_move rfl) rfl rfl ?_
   refine GoQ.pure rfl (op_extract rfl rfl) rfl rfl ?_
   refine GoQ.pure rfl (op_extract rfl rfl) rfl rfl ?_
   refine GoQ.pure rfl (op_assign rfl) rfl rfl ?_
   refine GoQ.pure rfl (op_assign rfl) rfl rfl ?_
   refine GoQ.nil ?_
   refine zq (zr (zm rfl (zn (zt rfl rfl (zq ?_)))))
   refine zr (zm rfl (za rfl (zn ?_)))
   refine Go1.ret1 Try.func32 rfl ?_
   replace hB := ((((hB.trans dI.fr).trans jA.fr).trans eY.fr).trans gD.fr).trans rT.fr
   exact ⟨(mgt r7.number r47), rfl, hB.same, H⟩
  replace H := ifn h53 H
  refine GoQ.stable rfl (olookF (a := r47) (MK.str Try.underlying9) 10 hO rfl Try.underlying69 ti3 rfl rfl h53) rfl rfl ?_
  refine GoQ.pure rfl (op_move rfl) rfl rfl ?_
  refine GoQ.pure rfl (op_extract rfl rfl) rfl rfl ?_
  refine GoQ.pure rfl (op_extract rfl rfl) rfl rfl ?_
  refine GoQ.pure rfl (op_assign rfl) rfl rfl ?_
  refine GoQ.pure rfl (op_assign rfl) rfl rfl ?_
  refine GoQ.nil ?_
  refine zq ?_
  refine Go1.cut [(7, .int .i64 (0 : Int)), (8, .bool false)] ⟨rfl, rfl, trivial⟩ ?_
  intro σ _
  refine zr (zm rfl (zn (zf rfl rfl (zk (zq ?_)))))
  refine zr (za rfl (zn ?_))
  refine Go1.ret1 Try.func32 rfl ?_
  replace hB := ((((hB.trans dI.fr).trans jA.fr).trans eY.fr).trans gD.fr).trans rT.fr
  exact ⟨(-1 : Int), rfl, hB.same, H⟩
end Sg
