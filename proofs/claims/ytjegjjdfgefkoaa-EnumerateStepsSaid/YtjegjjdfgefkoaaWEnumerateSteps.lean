/- The walks: each call keeps to its plain transformer. Printed by walkgen.py. -/
import Derived.Test.YtjegjjdfgefkoaaTi
import Derived.Test.YtjegjjdfgefkoaaWEnumerateBuilds
import Derived.Test.YtjegjjdfgefkoaaWEnumerateBuildsb
import Derived.Test.YtjegjjdfgefkoaaWEnumerateBuildsc
import Derived.Test.YtjegjjdfgefkoaaWEnumerateBuildsd
import Derived.Test.YtjegjjdfgefkoaaWEnumerateBuildsf
import Derived.Test.YtjegjjdfgefkoaaWEnumerateCovers
import Derived.Test.YtjegjjdfgefkoaaWEnumerateRefuses
import Derived.Test.YtjegjjdfgefkoaaWEnumerateResumes
import Derived.Test.YtjegjjdfgefkoaaWEnumerateStarts
import Derived.Test.YtjegjjdfgefkoaaAl
namespace Sg
open Go Go.RowKit Go.Proofs
set_option linter.unusedVariables false
set_option linter.unusedSimpArgs false
set_option maxRecDepth 100000
set_option maxHeartbeats 4000000
theorem body31 : Body Try.prog 31 := ⟨Try.f31, Try.func31, rfl, by kernel_rfl⟩
theorem walk_enumerate_Finished {A : List Nat} {w0 : World} {a8 : Option Addr} {a9 : Nat} {aC : Option Addr} {aD : Nat} {av : Option Addr} {aw : Nat} {aY : Option Addr} {a7 : Nat} {aE : Option Addr} {aF : Nat} {aG : Option Addr} {aH : Nat} {e : Enum} (hA : ∀ b ∈ A, b < w0.heap.size) (ak : ISl (Rp.sl (Rp.int .i64)) A w0 a8 a9 e.Gens) (af : ISl (Rp.sl (Rp.int .i64)) A w0 aC aD e.Elems) (ae : ISl (Rp.int .i64) A w0 av aw e.Prefix) (aj : ISl (Rp.int .i64) A w0 aY a7 e.Last) (ag : ISl (Rp.sl (Rp.int .i64)) A w0 aE aF e.Right) (ah : ISl (rpRule) A w0 aG aH e.Rules) {K : Bool → Prop} (H : enumerate_Finished e K) :
    CallsV Try.prog 31 #[.agg #[.int .i64 e.Points, .bool e.Monoid, .slice a8 e.Gens.length a9, .slice aC e.Elems.length aD, .slice av e.Prefix.length aw, .slice aY e.Last.length a7, .slice aE e.Right.length aF, .slice aG e.Rules.length aH, .int .i64 e.Done]] w0 (fun v w' => ∃ (r0 : Bool), v = .bool r0 ∧ Same w0 w' ∧ K r0) := by
 refine CallsV.of (l := [.agg #[.int .i64 e.Points, .bool e.Monoid, .slice a8 e.Gens.length a9, .slice aC e.Elems.length aD, .slice av e.Prefix.length aw, .slice aY e.Last.length a7, .slice aE e.Right.length aF, .slice aG e.Rules.length aH, .int .i64 e.Done]]) Try.func31 rfl Try.ntmps31 rfl ?_
 have hO := Owns.start hA
 have hB := Fr.refl (bl []) w0
 unfold enumerate_Finished at H
 refine zq (zr ?_)
 have hobt := obox (t := 29) (v := .agg #[.int .i64 e.Points, .bool e.Monoid, .slice a8 e.Gens.length a9, .slice aC e.Elems.length aD, .slice av e.Prefix.length aw, .slice aY e.Last.length a7, .slice aE e.Right.length aF, .slice aG e.Rules.length aH, .int .i64 e.Done]) (cs := #[.int .i64 e.Points, .bool e.Monoid, .slice a8 e.Gens.length a9, .slice aC e.Elems.length aD, .slice av e.Prefix.length aw, .slice aY e.Last.length a7, .slice aE e.Right.length aF, .slice aG e.Rules.length aH, .int .i64 e.Done]) hO rfl
 obtain ⟨w1, B2, cQ, hs4, rh⟩ := hobt
 refine zg (rh rfl) ?_
 replace hO := cQ.own
 refine za rfl (zn (zq (zr (zs (oblkAgg (vs := [.int .i64 e.Points, .bool e.Monoid, .slice a8 e.Gens.length a9, .slice aC e.Elems.length aD, .slice av e.Prefix.length aw, .slice aY e.Last.length a7, .slice aE e.Right.length aF, .slice aG e.Rules.length aH, .int .i64 e.Done]) (i := 0) 0 hO rfl rfl Try.underlying29 rfl ti29 rfl) ?_))))
 refine GoR.inl (vs := [.agg #[.int .i64 e.Points, .bool e.Monoid, .slice a8 e.Gens.length a9, .slice aC e.Elems.length aD, .slice av e.Prefix.length aw, .slice aY e.Last.length a7, .slice aE e.Right.length aF, .slice aG e.Rules.length aH, .int .i64 e.Done]]) (caps := []) rfl rfl body57 Try.func57 rfl Try.ntmps57 rfl rfl rfl ?_
 intro RhR7 hR7
 refine zq (zr ?_)
 have hobt := obox (t := 29) (v := .agg #[.int .i64 e.Points, .bool e.Monoid, .slice a8 e.Gens.length a9, .slice aC e.Elems.length aD, .slice av e.Prefix.length aw, .slice aY e.Last.length a7, .slice aE e.Right.length aF, .slice aG e.Rules.length aH, .int .i64 e.Done]) (cs := #[.int .i64 e.Points, .bool e.Monoid, .slice a8 e.Gens.length a9, .slice aC e.Elems.length aD, .slice av e.Prefix.length aw, .slice aY e.Last.length a7, .slice aE e.Right.length aF, .slice aG e.Rules.length aH, .int .i64 e.Done]) hO rfl
 obtain ⟨w8, B9, yY, u3, Yb⟩ := hobt
 refine zg (Yb rfl) ?_
 replace hO := yY.own
 refine za rfl (za rfl (zn (zq (zr (zs (oblkAgg (vs := [.int .i64 e.Points, .bool e.Monoid, .slice a8 e.Gens.length a9, .slice aC e.Elems.length aD, .slice av e.Prefix.length aw, .slice aY e.Last.length a7, .slice aE e.Right.length aF, .slice aG e.Rules.length aH, .int .i64 e.Done]) (i := 0) 0 hO rfl rfl Try.underlying29 rfl ti29 rfl) ?_)))))
 have Z1 := ((Ch.start A w0).trans cQ.ch).trans yY.ch
 replace ak := ak.ch Z1
 replace af := af.ch Z1
 replace ae := ae.ch Z1
 replace aj := aj.ch Z1
 replace ag := ag.ch Z1
 replace ah := ah.ch Z1
 refine GoR.call (op_call body53 rfl (walk_enumerate_replay (e := e) hO.lt ak af ae aj ag ah H)) rfl rfl ?_
 intro v16 w17 hcase20
 refine Or.elim hcase20 ?_ ?_
 ·refine exE fun r15 => andE fun hv21 => andE fun KO => fun H => ?_
  subst hv21
  clear hcase20
  replace H := oElimN H
  have d9 := Stp.same hO KO
  replace hO := d9.own
  refine zm rfl (zo (op_extract rfl rfl) (zo (op_extract rfl rfl) (za rfl (za rfl (zn ?_)))))
  refine zq (zr (zm rfl (zm rfl (zm rfl ?_))))
  cases r15
  ·replace H := ifn Bool.false_ne_true H
   refine zp (zp (zo (op_pickF rfl rfl rfl) (za rfl (za rfl (zn ?_)))))
   refine Go1.ret2V Try.func57 rfl (show _ = .pointer none from rfl) (show _ = .bool false from rfl) ?_
   refine hR7 _ _ ?_
   refine zm rfl (zo (op_extract rfl rfl) (zo (op_extract rfl rfl) (za rfl (za rfl (zn ?_)))))
   refine zq ?_
   refine Go1.cut [(4, .bool false)] ⟨rfl, trivial⟩ ?_
   intro σ _
   refine zr (zm rfl (za rfl (zn ?_)))
   refine Go1.ret1 Try.func31 rfl ?_
   replace hB := ((hB.trans cQ.fr).trans yY.fr).trans d9.fr
   exact ⟨false, rfl, hB.same, H⟩
  replace H := ifp rfl H
  refine zm rfl ?_
  refine GoR.inl (vs := [.pointer none]) (caps := []) rfl rfl body50 Try.func50 rfl Try.ntmps50 rfl rfl rfl ?_
  intro RhR23 hR23
  refine zq (zr (za rfl (zn (zq ?_))))
  refine Go1.drawS 0 [(0, .pure), (1, .pure), (2, .pure), (3, .pure), (4, .stable), (5, .pure), (6, .pure), (7, .pure), (8, .pure), (9, .stable), (10, .pure), (11, .pure), (12, .pure)] mixed (by kernel_rfl) ?_
  intro w24 JB
  have x7 := Stp.same hO JB
  replace hO := x7.own
  refine GoQ.pure rfl (op_move rfl) rfl rfl ?_
  exact H.elim
 ·refine exE fun r14 => exE fun r15 => exE fun Kf => exE fun Pu => exE fun Pv => exE fun Pw => exE fun OG => exE fun OH => exE fun OI => exE fun OJ => exE fun M7 => exE fun M8 => exE fun M9 => exE fun Na => exE fun M6 => exE fun Px => exE fun Py => exE fun Pz => exE fun OK => exE fun OL => exE fun OM => exE fun ON => exE fun Nb => exE fun OO => exE fun OP => exE fun OQ => exE fun Nc => exE fun S4 => exE fun Tn => exE fun To => exE fun Tp => exE fun S5 => exE fun S6 => exE fun S7 => exE fun S8 => exE fun PF => exE fun S9 => exE fun Ta => exE fun Tc => exE fun PG => andE fun hv27 => andE fun KO => andE fun hN19 => andE fun sJ => andE fun pp => andE fun qT => andE fun sK => andE fun rQ => andE fun rR => andE fun xO => andE fun wK => andE fun wL => fun H => ?_
  subst hv27
  clear hcase20
  replace H := oElimS H
  have fM := Stp.more hO KO hN19
  dsimp only [List.cons_append, List.nil_append] at fM
  replace hO := fM.own
  replace sJ := sJ.ch (Ch.assoc _ _ _ _)
  dsimp only [List.cons_append, List.nil_append] at sJ
  replace pp := pp.ch (Ch.assoc _ _ _ _)
  dsimp only [List.cons_append, List.nil_append] at pp
  replace qT := qT.ch (Ch.assoc _ _ _ _)
  dsimp only [List.cons_append, List.nil_append] at qT
  replace sK := sK.ch (Ch.assoc _ _ _ _)
  dsimp only [List.cons_append, List.nil_append] at sK
  replace rQ := rQ.ch (Ch.assoc _ _ _ _)
  dsimp only [List.cons_append, List.nil_append] at rQ
  replace rR := rR.ch (Ch.assoc _ _ _ _)
  dsimp only [List.cons_append, List.nil_append] at rR
  replace xO := xO.ch (Ch.assoc _ _ _ _)
  dsimp only [List.cons_append, List.nil_append] at xO
  replace wK := wK.ch (Ch.assoc _ _ _ _)
  dsimp only [List.cons_append, List.nil_append] at wK
  replace wL := wL.ch (Ch.assoc _ _ _ _)
  dsimp only [List.cons_append, List.nil_append] at wL
  refine zm rfl (zo (op_extract rfl rfl) (zo (op_extract rfl rfl) (za rfl (za rfl (zn ?_)))))
  refine zq (zr (zm rfl (zm rfl (zm rfl ?_))))
  cases r15
  ·replace H := ifn Bool.false_ne_true H
   refine zp (zp (zo (op_pickF rfl rfl rfl) (za rfl (za rfl (zn ?_)))))
   refine Go1.ret2V Try.func57 rfl (show _ = .pointer (some ⟨Kf, 0, none⟩) from rfl) (show _ = .bool false from rfl) ?_
   refine hR7 _ _ ?_
   refine zm rfl (zo (op_extract rfl rfl) (zo (op_extract rfl rfl) (za rfl (za rfl (zn ?_)))))
   refine zq ?_
   refine Go1.cut [(4, .bool false)] ⟨rfl, trivial⟩ ?_
   intro σ _
   refine zr (zm rfl (za rfl (zn ?_)))
   refine Go1.ret1 Try.func31 rfl ?_
   replace hB := ((hB.trans cQ.fr).trans yY.fr).trans fM.fr
   exact ⟨false, rfl, hB.same, H⟩
  replace H := ifp rfl H
  refine zm rfl ?_
  refine GoR.inl (vs := [.pointer (some ⟨Kf, 0, none⟩)]) (caps := []) rfl rfl body50 Try.func50 rfl Try.ntmps50 rfl rfl rfl ?_
  intro RhR40 hR40
  refine zq (zr (za rfl (zn (zq ?_))))
  refine Go1.drawS 0 [(0, .pure), (1, .pure), (2, .pure), (3, .pure), (4, .stable), (5, .pure), (6, .pure), (7, .pure), (8, .pure), (9, .stable), (10, .pure), (11, .pure), (12, .pure)] mixed (by kernel_rfl) ?_
  intro w41 acH
  have gP := Stp.same hO acH
  replace hO := gP.own
  refine GoQ.pure rfl (op_move rfl) rfl rfl ?_
  refine GoQ.pure rfl (op_nilCheck rfl) rfl rfl ?_
  refine GoQ.pure rfl (op_fieldAddr Try.underlying72 rfl ti29 rfl (by decide)) rfl rfl ?_
  refine GoQ.pure rfl (op_fieldAddr Try.underlying29 rfl ti3 rfl (by decide)) rfl rfl ?_
  refine GoQ.stable rfl (oblk (i := 8) 0 hO rfl rfl Try.underlying3 rfl rfl) rfl rfl ?_
  refine GoQ.pure rfl (op_move rfl) rfl rfl ?_
  refine GoQ.pure rfl (op_nilCheck rfl) rfl rfl ?_
  refine GoQ.pure rfl (op_fieldAddr Try.underlying72 rfl ti29 rfl (by decide)) rfl rfl ?_
  refine GoQ.pure rfl (op_fieldAddr Try.underlying29 rfl ti22 rfl (by decide)) rfl rfl ?_
  refine GoQ.stable rfl (oblk (i := 3) 0 hO rfl rfl Try.underlying22 rfl rfl) rfl rfl ?_
  replace pp := pp.ch gP.ch
  refine GoQ.pure rfl (op_lenN Try.underlying22 rfl (pp.neq hO 2 rfl)) rfl rfl ?_
  by_cases h44 : r14.Enum.Done = (r14.Enum.Elems.length : Int)
  ·replace H := ifp h44 H
   refine GoQ.pure rfl (fun w => opB (op_eql rfl rfl w) (decide_eq_true h44)) rfl rfl ?_
   refine GoQ.pure rfl (op_assign rfl) rfl rfl ?_
   refine GoQ.nil ?_
   refine Go1.ret1V Try.func50 rfl (show _ = .bool true from rfl) ?_
   refine hR40 _ _ ?_
   refine zo (op_pickT rfl rfl rfl) (za rfl (za rfl (zn ?_)))
   refine Go1.ret2V Try.func57 rfl (show _ = .pointer (some ⟨Kf, 0, none⟩) from rfl) (show _ = .bool true from rfl) ?_
   refine hR7 _ _ ?_
   refine zm rfl (zo (op_extract rfl rfl) (zo (op_extract rfl rfl) (za rfl (za rfl (zn ?_)))))
   refine zq ?_
   refine Go1.cut [(4, .bool true)] ⟨rfl, trivial⟩ ?_
   intro σ _
   refine zr (zm rfl (za rfl (zn ?_)))
   refine Go1.ret1 Try.func31 rfl ?_
   replace hB := (((hB.trans cQ.fr).trans yY.fr).trans fM.fr).trans gP.fr
   exact ⟨true, rfl, hB.same, H⟩
  replace H := ifn h44 H
  refine GoQ.pure rfl (fun w => opB (op_eql rfl rfl w) (decide_eq_false h44)) rfl rfl ?_
  refine GoQ.pure rfl (op_assign rfl) rfl rfl ?_
  refine GoQ.nil ?_
  refine Go1.ret1V Try.func50 rfl (show _ = .bool false from rfl) ?_
  refine hR40 _ _ ?_
  refine zo (op_pickT rfl rfl rfl) (za rfl (za rfl (zn ?_)))
  refine Go1.ret2V Try.func57 rfl (show _ = .pointer (some ⟨Kf, 0, none⟩) from rfl) (show _ = .bool false from rfl) ?_
  refine hR7 _ _ ?_
  refine zm rfl (zo (op_extract rfl rfl) (zo (op_extract rfl rfl) (za rfl (za rfl (zn ?_)))))
  refine zq (zr (zm rfl (za rfl (zn ?_))))
  refine Go1.ret1 Try.func31 rfl ?_
  replace hB := (((hB.trans cQ.fr).trans yY.fr).trans fM.fr).trans gP.fr
  exact ⟨false, rfl, hB.same, H⟩
theorem walk_law12_EnumerateSteps {A : List Nat} {w0 : World} {nI : Option Addr} {nJ : Nat} {xP : Option Addr} {xQ : Nat} {a0 : List (List Int)} {a1 : Bool} {a2 : List Int} (hA : ∀ b ∈ A, b < w0.heap.size) (ai : ISl (Rp.sl (Rp.int .i64)) A w0 nI nJ a0) (cj : ISl (Rp.int .i64) A w0 xP xQ a2) {K : Bool → Prop} (H : law12_EnumerateSteps a0 a1 a2 K) :
    CallsV Try.prog 8 #[.slice nI a0.length nJ, .bool a1, .slice xP a2.length xQ] w0 (fun v w' => ∃ (r0 : Bool), v = .bool r0 ∧ Same w0 w' ∧ K r0) := by
 refine CallsV.of (l := [.slice nI a0.length nJ, .bool a1, .slice xP a2.length xQ]) Try.func8 rfl Try.ntmps8 rfl ?_
 have hO := Owns.start hA
 have hB := Fr.refl (bl []) w0
 unfold law12_EnumerateSteps at H
 refine zq (zr (za rfl (zn (zq (zq ?_)))))
 refine zr (zm rfl ?_)
 replace ai := ai.ch (Ch.start A w0)
 refine GoR.call (op_call body14 rfl (walk_ref11_MayGens hO.lt ai H)) rfl rfl ?_
 rintro v5 w2 ⟨r1, rfl, hs3, H⟩
 have Cm := Stp.same hO hs3
 replace hO := Cm.own
 refine zm rfl ?_
 cases r1
 ·replace H := ifn Bool.false_ne_true H
  refine zp (zp (zp (zo (op_pickF rfl rfl rfl) (zm rfl (zm rfl ?_)))))
  refine zo (op_len Try.underlying26 rfl) ?_
  replace cj := (cj.ch (Ch.start A w0)).ch Cm.ch
  replace H := H cj.bd
  by_cases h7 : (4 : Int) < (a2.length : Int)
  ·replace H := ifp h7 H
   refine zo (fun w => opB (op_gtr rfl rfl w) (decide_eq_true h7)) (zo (op_pickF rfl rfl rfl) (zn (zt rfl rfl (zq (zr ?_)))))
   refine GoR.call (op_call body16 rfl (walk_law12_awake hO.lt H)) rfl rfl ?_
   rintro v12 w9 ⟨r8, rfl, Hn, H⟩
   have xX := Stp.same hO Hn
   replace hO := xX.own
   refine za rfl (zn ?_)
   refine Go1.ret1 Try.func8 rfl ?_
   replace hB := (hB.trans Cm.fr).trans xX.fr
   exact ⟨r8, rfl, hB.same, H⟩
  replace H := ifn h7 H
  refine zo (fun w => opB (op_gtr rfl rfl w) (decide_eq_false h7)) (zo (op_pickF rfl rfl rfl) (zn (zf rfl rfl (zk (zq ?_)))))
  refine zr (zm rfl (zm rfl ?_))
  replace ai := ai.ch Cm.ch
  refine GoR.call (op_call body25 rfl (walk_enumerate_Start hO.lt ai H)) rfl rfl ?_
  rintro v19 w16 ⟨r14, r15, Hf, Hg, Fa, Fb, CC, CD, Hh, Hi, Fc, Fd, Fe, Ff, rfl, IC, pk, m9, me, pm, na, nb, H⟩
  have ub := Stp.same hO IC
  replace hO := ub.own
  refine zm rfl (zo (op_extract rfl rfl) (zo (op_extract rfl rfl) ?_))
  have hobt := oalloc (t := 29) (cs := #[.int .i64 (0 : Int), .bool false, .slice none 0 0, .slice none 0 0, .slice none 0 0, .slice none 0 0, .slice none 0 0, .slice none 0 0, .int .i64 (0 : Int)]) ti29 hO rfl
  obtain ⟨w21, B22, iD, ahq, Gd⟩ := hobt
  refine GoR.op Gd rfl rfl ?_
  replace hO := iD.own
  have hobt := oblkStAgg (us := [.int .i64 r14.Points, .bool r14.Monoid, .slice Hf r14.Gens.length Hg, .slice Fa r14.Elems.length Fb, .slice CC r14.Prefix.length CD, .slice Hh r14.Last.length Hi, .slice Fc r14.Right.length Fd, .slice Fe r14.Rules.length Ff, .int .i64 r14.Done]) (o := 0) (cs' := #[.int .i64 r14.Points, .bool r14.Monoid, .slice Hf r14.Gens.length Hg, .slice Fa r14.Elems.length Fb, .slice CC r14.Prefix.length CD, .slice Hh r14.Last.length Hi, .slice Fc r14.Right.length Fd, .slice Fe r14.Rules.length Ff, .int .i64 r14.Done]) 0 hO rfl rfl (Nat.le_of_ble_eq_true rfl) rfl
  obtain ⟨w27, fM, Yc⟩ := hobt
  refine zg (Yc ti29 (by exact rfl) (by exact rfl) rfl) ?_
  replace hO := fM.own
  refine za rfl (zn (zq ?_))
  refine Go1.cut [(0, .slice nI a0.length nJ), (1, .bool a1), (2, .slice xP a2.length xQ), (7, .pointer (some ⟨B22, 0, none⟩)), (8, .int .i64 r15)] ⟨rfl, rfl, rfl, rfl, rfl, trivial⟩ ?_
  intro σ _
  refine zr (zm rfl (zm rfl ?_))
  have Z1 := (ub.ch.trans iD.ch).trans fM.ch
  replace ai := ai.ch Z1
  refine GoR.call (op_call body22 rfl (walk_ref12_Start hO.lt ai H)) rfl rfl ?_
  rintro v35 w32 ⟨r30, r31, Hj, Hk, Fg, Fh, CE, CF, Hl, Hm, Fi, Fj, Fk, Fm, rfl, acI, Ag, yH, xR, Ah, yI, yJ, H⟩
  have AV := Stp.same hO acI
  replace hO := AV.own
  refine zm rfl (zo (op_extract rfl rfl) (zo (op_extract rfl rfl) ?_))
  have hobt := oalloc (t := 29) (cs := #[.int .i64 (0 : Int), .bool false, .slice none 0 0, .slice none 0 0, .slice none 0 0, .slice none 0 0, .slice none 0 0, .slice none 0 0, .int .i64 (0 : Int)]) ti29 hO rfl
  obtain ⟨w37, B38, qm, S0, Yd⟩ := hobt
  refine GoR.op Yd rfl rfl ?_
  replace hO := qm.own
  have hobt := oblkStAgg (us := [.int .i64 r30.Points, .bool r30.Monoid, .slice Hj r30.Gens.length Hk, .slice Fg r30.Elems.length Fh, .slice CE r30.Prefix.length CF, .slice Hl r30.Last.length Hm, .slice Fi r30.Right.length Fj, .slice Fk r30.Rules.length Fm, .int .i64 r30.Done]) (o := 0) (cs' := #[.int .i64 r30.Points, .bool r30.Monoid, .slice Hj r30.Gens.length Hk, .slice Fg r30.Elems.length Fh, .slice CE r30.Prefix.length CF, .slice Hl r30.Last.length Hm, .slice Fi r30.Right.length Fj, .slice Fk r30.Rules.length Fm, .int .i64 r30.Done]) 0 hO rfl rfl (Nat.le_of_ble_eq_true rfl) rfl
  obtain ⟨w43, mS, Mk⟩ := hobt
  refine zg (Mk ti29 (by exact rfl) (by exact rfl) rfl) ?_
  replace hO := mS.own
  refine za rfl (zn (zq (zq (zr (zm rfl ?_)))))
  refine zo (op_len Try.underlying26 rfl) (zm rfl (zn (zb ?_)))
  have Z2 := qm.ch.trans mS.ch
  replace Ag := Ag.ch Z2
  replace yH := yH.ch Z2
  replace xR := xR.ch Z2
  replace Ah := Ah.ch Z2
  replace yI := yI.ch Z2
  replace yJ := yJ.ch Z2
  have Z3 := (((iD.ch.trans fM.ch).trans AV.ch).trans qm.ch).trans mS.ch
  replace pk := pk.ch Z3
  replace m9 := m9.ch Z3
  replace me := me.ch Z3
  replace pm := pm.ch Z3
  replace na := na.ch Z3
  replace nb := nb.ch Z3
  have Z4 := ((Z1.trans AV.ch).trans qm.ch).trans mS.ch
  replace cj := cj.ch Z4
  replace hB := ((((((hB.trans Cm.fr).trans ub.fr).trans iD.fr).trans fM.fr).trans AV.fr).trans qm.fr).trans mS.fr
  refine Go1.loopW (S := Int × Int × Nat × Int × Bool × List (List Int) × List (List Int) × List Int × List Int × List (List Int) × List Rule × Int × Int × Bool × List (List Int) × List (List Int) × List Int × List Int × List (List Int) × List Rule × Int) (fun s σ w => match s with | (k1_47, k1_48, k1_49, k1_50, b1_51, l1_52, l1_56, l1_60, l1_64, l1_68, l1_72, k1_76, k1_77, b1_78, l1_79, l1_83, l1_87, l1_91, l1_95, l1_99, k1_103) => ∃ (p53 : Option Addr), ∃ (c54 : Nat), ∃ (p57 : Option Addr), ∃ (c58 : Nat), ∃ (p61 : Option Addr), ∃ (c62 : Nat), ∃ (p65 : Option Addr), ∃ (c66 : Nat), ∃ (p69 : Option Addr), ∃ (c70 : Nat), ∃ (p73 : Option Addr), ∃ (c74 : Nat), ∃ (p80 : Option Addr), ∃ (c81 : Nat), ∃ (p84 : Option Addr), ∃ (c85 : Nat), ∃ (p88 : Option Addr), ∃ (c89 : Nat), ∃ (p92 : Option Addr), ∃ (c93 : Nat), ∃ (p96 : Option Addr), ∃ (c97 : Nat), ∃ (fG : Option Addr), ∃ (fH : Nat), agrees σ [(7, .pointer (some ⟨B22, 0, none⟩)), (8, .int .i64 k1_47), (9, .pointer (some ⟨B38, 0, none⟩)), (10, .int .i64 k1_48), (38, .slice xP a2.length xQ), (39, .int .i64 (a2.length : Int)), (40, .int .i64 (k1_49 : Int))] ∧ (fun Z0 => Owns w0.heap.size w Z0 A ∧ ISl (Rp.int .i64) (bl Z0 ++ A) w xP xQ a2 ∧ ISl (Rp.sl (Rp.int .i64)) (bl Z0 ++ A) w p53 c54 l1_52 ∧ ISl (Rp.sl (Rp.int .i64)) (bl Z0 ++ A) w p57 c58 l1_56 ∧ ISl (Rp.int .i64) (bl Z0 ++ A) w p61 c62 l1_60 ∧ ISl (Rp.int .i64) (bl Z0 ++ A) w p65 c66 l1_64 ∧ ISl (Rp.sl (Rp.int .i64)) (bl Z0 ++ A) w p69 c70 l1_68 ∧ ISl (rpRule) (bl Z0 ++ A) w p73 c74 l1_72 ∧ ISl (Rp.sl (Rp.int .i64)) (bl Z0 ++ A) w p80 c81 l1_79 ∧ ISl (Rp.sl (Rp.int .i64)) (bl Z0 ++ A) w p84 c85 l1_83 ∧ ISl (Rp.int .i64) (bl Z0 ++ A) w p88 c89 l1_87 ∧ ISl (Rp.int .i64) (bl Z0 ++ A) w p92 c93 l1_91 ∧ ISl (Rp.sl (Rp.int .i64)) (bl Z0 ++ A) w p96 c97 l1_95 ∧ ISl (rpRule) (bl Z0 ++ A) w fG fH l1_99 ∧ Fr (bl []) w0 (bl Z0) w) [.blk B38 (.cells #[.int .i64 k1_50, .bool b1_51, .slice p53 l1_52.length c54, .slice p57 l1_56.length c58, .slice p61 l1_60.length c62, .slice p65 l1_64.length c66, .slice p69 l1_68.length c70, .slice p73 l1_72.length c74, .int .i64 k1_76] 29 (0, 0)), .blk B22 (.cells #[.int .i64 k1_77, .bool b1_78, .slice p80 l1_79.length c81, .slice p84 l1_83.length c85, .slice p88 l1_87.length c89, .slice p92 l1_91.length c93, .slice p96 l1_95.length c97, .slice fG l1_99.length fH, .int .i64 k1_103] 29 (0, 0))]) H ⟨Hj, Hk, Fg, Fh, CE, CF, Hl, Hm, Fi, Fj, Fk, Fm, Hf, Hg, Fa, Fb, CC, CD, Hh, Hi, Fc, Fd, Fe, Ff, ⟨rfl, rfl, rfl, rfl, rfl, rfl, rfl, trivial⟩, hO, cj, Ag, yH, xR, Ah, yI, yJ, pk, m9, me, pm, na, nb, hB⟩ ?_
  intro X1
  refine prE fun k1_47 => prE fun k1_48 => prE fun k1_49 => prE fun k1_50 => prE fun b1_51 => prE fun l1_52 => prE fun l1_56 => prE fun l1_60 => prE fun l1_64 => prE fun l1_68 => prE fun l1_72 => prE fun k1_76 => prE fun k1_77 => prE fun b1_78 => prE fun l1_79 => prE fun l1_83 => prE fun l1_87 => prE fun l1_91 => prE fun l1_95 => prE fun l1_99 => fun k1_103 => ?_
  intro H hX1 σ w46
  refine exE fun p53 => exE fun c54 => exE fun p57 => exE fun c58 => exE fun p61 => exE fun c62 => exE fun p65 => exE fun c66 => exE fun p69 => exE fun c70 => exE fun p73 => exE fun c74 => exE fun p80 => exE fun c81 => exE fun p84 => exE fun c85 => exE fun p88 => exE fun c89 => exE fun p92 => exE fun c93 => exE fun p96 => exE fun c97 => exE fun fG => exE fun fH => andE fun hag => andE fun hO => andE fun cj => andE fun i8 => andE fun iv => andE fun f7 => andE fun i9 => andE fun ja => andE fun jb => andE fun jc => andE fun jd => andE fun je => andE fun jf => andE fun jg => andE fun fR => fun hB => ?_
  dsimp only at H
  refine Go1.keep [(7, .pointer (some ⟨B22, 0, none⟩)), (8, .int .i64 k1_47), (9, .pointer (some ⟨B38, 0, none⟩)), (10, .int .i64 k1_48), (38, .slice xP a2.length xQ), (39, .int .i64 (a2.length : Int)), (40, .int .i64 (k1_49 : Int))] hag ?_
  refine zq (zr ?_)
  by_cases yp : (k1_49 : Int) < (a2.length : Int)
  ·replace H := ifp yp H
   refine zo (fun w => opB (op_lss rfl rfl w) (decide_eq_true yp)) (zn (zq (zt rfl rfl (zk (zq ?_)))))
   refine zb (zq (zr ?_))
   obtain ⟨yq, H⟩ := H
   obtain ⟨yr, H⟩ := H
   refine zo (op_index Try.underlying26 ti3 rfl rfl yq yr (cj.some_ yq yr)) (zs (ldInt cj yq yr Try.underlying3 rfl rfl) (za rfl (zn (zq (zq ?_)))))
   refine zr (zm rfl (zm rfl ?_))
   by_cases Bg : k1_47 = k1_48
   ·replace H := ifp Bg H
    refine zo (fun w => opB (op_neq rfl rfl w) (ndT Bg)) (zm rfl (zs (oblkAgg (vs := [.int .i64 k1_77, .bool b1_78, .slice p80 l1_79.length c81, .slice p84 l1_83.length c85, .slice p88 l1_87.length c89, .slice p92 l1_91.length c93, .slice p96 l1_95.length c97, .slice fG l1_99.length fH, .int .i64 k1_103]) (i := 0) 1 hO rfl rfl Try.underlying29 rfl ti29 rfl) (zs (oblkAgg (vs := [.int .i64 k1_50, .bool b1_51, .slice p53 l1_52.length c54, .slice p57 l1_56.length c58, .slice p61 l1_60.length c62, .slice p65 l1_64.length c66, .slice p69 l1_68.length c70, .slice p73 l1_72.length c74, .int .i64 k1_76]) (i := 0) 0 hO rfl rfl Try.underlying29 rfl ti29 rfl) ?_)))
    refine GoR.call (op_call body19 rfl (walk_ref12_Same (a0 := (⟨k1_77, b1_78, l1_79, l1_83, l1_87, l1_91, l1_95, l1_99, k1_103⟩ : Enum)) (a1 := (⟨k1_50, b1_51, l1_52, l1_56, l1_60, l1_64, l1_68, l1_72, k1_76⟩ : Enum)) hO.lt jc jd je jf jg fR i8 iv f7 i9 ja jb H)) rfl rfl ?_
    rintro ahr PH ⟨r108, rfl, Ye, H⟩
    have sL := Stp.same hO Ye
    replace hO := sL.own
    cases r108
    ·replace H := ifn Bool.false_ne_true H
     refine zo (op_not rfl) (zo (op_pickF rfl rfl rfl) (zn (zt rfl rfl (zq (zr ?_)))))
     refine za rfl (zn ?_)
     refine Go1.ret1 Try.func8 rfl ?_
     replace hB := hB.trans sL.fr
     exact ⟨false, rfl, hB.same, H⟩
    replace H := ifp rfl H
    refine zo (op_not rfl) (zo (op_pickF rfl rfl rfl) (zn (zf rfl rfl (zk (zq ?_)))))
    refine zq (zr (zm rfl ?_))
    by_cases MS : k1_48 = (0 : Int)
    ·replace H := ifp MS H
     refine zo (fun w => opB (op_neq rfl rfl w) (ndT MS)) (zn (zf rfl rfl (zk (zq ?_))))
     refine Go1.cut [(7, .pointer (some ⟨B22, 0, none⟩)), (9, .pointer (some ⟨B38, 0, none⟩)), (12, .int .i64 (ix a2 (k1_49 : Int))), (38, .slice xP a2.length xQ), (39, .int .i64 (a2.length : Int)), (40, .int .i64 (k1_49 : Int))] ⟨rfl, rfl, rfl, rfl, rfl, rfl, trivial⟩ ?_
     intro σ _
     refine zr (zm rfl ?_)
     by_cases Gq : (60 : Int) < (ix a2 (k1_49 : Int))
     ·replace H := ifp Gq H
      refine zo (op_minT rfl rfl Gq) (za rfl (zn (zq (zr (zs (oblkAgg (vs := [.int .i64 k1_77, .bool b1_78, .slice p80 l1_79.length c81, .slice p84 l1_83.length c85, .slice p88 l1_87.length c89, .slice p92 l1_91.length c93, .slice p96 l1_95.length c97, .slice fG l1_99.length fH, .int .i64 k1_103]) (i := 0) 1 hO rfl rfl Try.underlying29 rfl ti29 rfl) ?_)))))
      refine zm rfl ?_
      replace jc := jc.ch sL.ch
      replace jd := jd.ch sL.ch
      replace je := je.ch sL.ch
      replace jf := jf.ch sL.ch
      replace jg := jg.ch sL.ch
      replace fR := fR.ch sL.ch
      refine GoR.call (op_call body26 rfl (walk_enumerate_Step (e := (⟨k1_77, b1_78, l1_79, l1_83, l1_87, l1_91, l1_95, l1_99, k1_103⟩ : Enum)) hO.lt jc jd je jf jg fR H)) rfl rfl ?_
      rintro ahs JJ ⟨r116, r117, Fn, Fo, CG, CH, Bj, Bk, Fp, Fq, CJ, CK, CM, CO, rfl, MQ, uw, sM, ri, ux, sN, sO, H⟩
      have sP := Stp.same hO MQ
      replace hO := sP.own
      refine zm rfl (zo (op_extract rfl rfl) (zo (op_extract rfl rfl) ?_))
      have hobt := oblkStAgg (us := [.int .i64 r116.Points, .bool r116.Monoid, .slice Fn r116.Gens.length Fo, .slice CG r116.Elems.length CH, .slice Bj r116.Prefix.length Bk, .slice Fp r116.Last.length Fq, .slice CJ r116.Right.length CK, .slice CM r116.Rules.length CO, .int .i64 r116.Done]) (o := 0) (cs' := #[.int .i64 r116.Points, .bool r116.Monoid, .slice Fn r116.Gens.length Fo, .slice CG r116.Elems.length CH, .slice Bj r116.Prefix.length Bk, .slice Fp r116.Last.length Fq, .slice CJ r116.Right.length CK, .slice CM r116.Rules.length CO, .int .i64 r116.Done]) 1 hO rfl rfl (Nat.le_of_ble_eq_true rfl) rfl
      obtain ⟨abl, ie, Td⟩ := hobt
      refine zg (Td ti29 (by exact rfl) (by exact rfl) rfl) ?_
      replace hO := ie.own
      refine za rfl (zn (zr (zs (oblkAgg (vs := [.int .i64 k1_50, .bool b1_51, .slice p53 l1_52.length c54, .slice p57 l1_56.length c58, .slice p61 l1_60.length c62, .slice p65 l1_64.length c66, .slice p69 l1_68.length c70, .slice p73 l1_72.length c74, .int .i64 k1_76]) (i := 0) 0 hO rfl rfl Try.underlying29 rfl ti29 rfl) (zm rfl ?_))))
      have Z5 := (sL.ch.trans sP.ch).trans ie.ch
      replace i8 := i8.ch Z5
      replace iv := iv.ch Z5
      replace f7 := f7.ch Z5
      replace i9 := i9.ch Z5
      replace ja := ja.ch Z5
      replace jb := jb.ch Z5
      refine GoR.call (op_call body23 rfl (walk_ref12_Step (e := (⟨k1_50, b1_51, l1_52, l1_56, l1_60, l1_64, l1_68, l1_72, k1_76⟩ : Enum)) hO.lt i8 iv f7 i9 ja jb H)) rfl rfl ?_
      rintro aht ahu ⟨r126, r127, Fs, Ft, CP, CQ, Bl, Bm, Fu, Fv, CR, CT, CU, CV, rfl, Yf, Fw, CW, Bn, Fx, CX, C0, H⟩
      have nc := Stp.same hO Yf
      replace hO := nc.own
      refine zm rfl (zo (op_extract rfl rfl) (zo (op_extract rfl rfl) ?_))
      have hobt := oblkStAgg (us := [.int .i64 r126.Points, .bool r126.Monoid, .slice Fs r126.Gens.length Ft, .slice CP r126.Elems.length CQ, .slice Bl r126.Prefix.length Bm, .slice Fu r126.Last.length Fv, .slice CR r126.Right.length CT, .slice CU r126.Rules.length CV, .int .i64 r126.Done]) (o := 0) (cs' := #[.int .i64 r126.Points, .bool r126.Monoid, .slice Fs r126.Gens.length Ft, .slice CP r126.Elems.length CQ, .slice Bl r126.Prefix.length Bm, .slice Fu r126.Last.length Fv, .slice CR r126.Right.length CT, .slice CU r126.Rules.length CV, .int .i64 r126.Done]) 0 hO rfl rfl (Nat.le_of_ble_eq_true rfl) rfl
      obtain ⟨ahv, dg, Te⟩ := hobt
      refine zg (Te ti29 (by exact rfl) (by exact rfl) rfl) ?_
      replace hO := dg.own
      refine za rfl (zn ?_)
      refine Go1.inBlock ?_
      refine Go1.cut [(7, .pointer (some ⟨B22, 0, none⟩)), (8, .int .i64 r117), (9, .pointer (some ⟨B38, 0, none⟩)), (10, .int .i64 r127), (38, .slice xP a2.length xQ), (39, .int .i64 (a2.length : Int)), (40, .int .i64 (k1_49 : Int))] ⟨rfl, rfl, rfl, rfl, rfl, rfl, rfl, trivial⟩ ?_
      intro σ _
      refine zr ?_
      replace cj := ((cj.ch Z5).ch nc.ch).ch dg.ch
      refine zo (op_add rfl rfl (wrap_i64 (natbd yp cj.bd))) (zm rfl (zn ?_))
      replace Fw := Fw.ch dg.ch
      replace CW := CW.ch dg.ch
      replace Bn := Bn.ch dg.ch
      replace Fx := Fx.ch dg.ch
      replace CX := CX.ch dg.ch
      replace C0 := C0.ch dg.ch
      have Z6 := (ie.ch.trans nc.ch).trans dg.ch
      replace uw := uw.ch Z6
      replace sM := sM.ch Z6
      replace ri := ri.ch Z6
      replace ux := ux.ch Z6
      replace sN := sN.ch Z6
      replace sO := sO.ch Z6
      replace hB := ((((hB.trans sL.fr).trans sP.fr).trans ie.fr).trans nc.fr).trans dg.fr
      exact hX1 _ H _ _ ⟨Fs, Ft, CP, CQ, Bl, Bm, Fu, Fv, CR, CT, CU, CV, Fn, Fo, CG, CH, Bj, Bk, Fp, Fq, CJ, CK, CM, CO, ⟨rfl, rfl, rfl, rfl, rfl, rfl, rfl, trivial⟩, hO, cj, Fw, CW, Bn, Fx, CX, C0, uw, sM, ri, ux, sN, sO, hB⟩
     replace H := ifn Gq H
     refine zo (op_minF rfl rfl Gq) (za rfl (zn (zq (zr (zs (oblkAgg (vs := [.int .i64 k1_77, .bool b1_78, .slice p80 l1_79.length c81, .slice p84 l1_83.length c85, .slice p88 l1_87.length c89, .slice p92 l1_91.length c93, .slice p96 l1_95.length c97, .slice fG l1_99.length fH, .int .i64 k1_103]) (i := 0) 1 hO rfl rfl Try.underlying29 rfl ti29 rfl) ?_)))))
     refine zm rfl ?_
     replace jc := jc.ch sL.ch
     replace jd := jd.ch sL.ch
     replace je := je.ch sL.ch
     replace jf := jf.ch sL.ch
     replace jg := jg.ch sL.ch
     replace fR := fR.ch sL.ch
     refine GoR.call (op_call body26 rfl (walk_enumerate_Step (e := (⟨k1_77, b1_78, l1_79, l1_83, l1_87, l1_91, l1_95, l1_99, k1_103⟩ : Enum)) hO.lt jc jd je jf jg fR H)) rfl rfl ?_
     rintro ahw aaR ⟨r136, r137, Fy, Fz, C1, C2, Bo, Bp, FA, FB, C3, C4, C5, C6, rfl, Yg, uy, sQ, rk, uz, sR, sT, H⟩
     have sU := Stp.same hO Yg
     replace hO := sU.own
     refine zm rfl (zo (op_extract rfl rfl) (zo (op_extract rfl rfl) ?_))
     have hobt := oblkStAgg (us := [.int .i64 r136.Points, .bool r136.Monoid, .slice Fy r136.Gens.length Fz, .slice C1 r136.Elems.length C2, .slice Bo r136.Prefix.length Bp, .slice FA r136.Last.length FB, .slice C3 r136.Right.length C4, .slice C5 r136.Rules.length C6, .int .i64 r136.Done]) (o := 0) (cs' := #[.int .i64 r136.Points, .bool r136.Monoid, .slice Fy r136.Gens.length Fz, .slice C1 r136.Elems.length C2, .slice Bo r136.Prefix.length Bp, .slice FA r136.Last.length FB, .slice C3 r136.Right.length C4, .slice C5 r136.Rules.length C6, .int .i64 r136.Done]) 1 hO rfl rfl (Nat.le_of_ble_eq_true rfl) rfl
     obtain ⟨aaS, ne, Tf⟩ := hobt
     refine zg (Tf ti29 (by exact rfl) (by exact rfl) rfl) ?_
     replace hO := ne.own
     refine za rfl (zn (zr (zs (oblkAgg (vs := [.int .i64 k1_50, .bool b1_51, .slice p53 l1_52.length c54, .slice p57 l1_56.length c58, .slice p61 l1_60.length c62, .slice p65 l1_64.length c66, .slice p69 l1_68.length c70, .slice p73 l1_72.length c74, .int .i64 k1_76]) (i := 0) 0 hO rfl rfl Try.underlying29 rfl ti29 rfl) (zm rfl ?_))))
     have Z7 := (sL.ch.trans sU.ch).trans ne.ch
     replace i8 := i8.ch Z7
     replace iv := iv.ch Z7
     replace f7 := f7.ch Z7
     replace i9 := i9.ch Z7
     replace ja := ja.ch Z7
     replace jb := jb.ch Z7
     refine GoR.call (op_call body23 rfl (walk_ref12_Step (e := (⟨k1_50, b1_51, l1_52, l1_56, l1_60, l1_64, l1_68, l1_72, k1_76⟩ : Enum)) hO.lt i8 iv f7 i9 ja jb H)) rfl rfl ?_
     rintro ahx K4 ⟨r146, r147, FC, FD, C7, C8, Bq, Br, FE, FF, C9, Db, Dc, Dd, rfl, Yh, FG, De, Bs, FH, Df, Dg, H⟩
     have fu := Stp.same hO Yh
     replace hO := fu.own
     refine zm rfl (zo (op_extract rfl rfl) (zo (op_extract rfl rfl) ?_))
     have hobt := oblkStAgg (us := [.int .i64 r146.Points, .bool r146.Monoid, .slice FC r146.Gens.length FD, .slice C7 r146.Elems.length C8, .slice Bq r146.Prefix.length Br, .slice FE r146.Last.length FF, .slice C9 r146.Right.length Db, .slice Dc r146.Rules.length Dd, .int .i64 r146.Done]) (o := 0) (cs' := #[.int .i64 r146.Points, .bool r146.Monoid, .slice FC r146.Gens.length FD, .slice C7 r146.Elems.length C8, .slice Bq r146.Prefix.length Br, .slice FE r146.Last.length FF, .slice C9 r146.Right.length Db, .slice Dc r146.Rules.length Dd, .int .i64 r146.Done]) 0 hO rfl rfl (Nat.le_of_ble_eq_true rfl) rfl
     obtain ⟨ahy, dT, Tg⟩ := hobt
     refine zg (Tg ti29 (by exact rfl) (by exact rfl) rfl) ?_
     replace hO := dT.own
     refine za rfl (zn ?_)
     refine Go1.inBlock ?_
     refine Go1.cut [(7, .pointer (some ⟨B22, 0, none⟩)), (8, .int .i64 r137), (9, .pointer (some ⟨B38, 0, none⟩)), (10, .int .i64 r147), (38, .slice xP a2.length xQ), (39, .int .i64 (a2.length : Int)), (40, .int .i64 (k1_49 : Int))] ⟨rfl, rfl, rfl, rfl, rfl, rfl, rfl, trivial⟩ ?_
     intro σ _
     refine zr ?_
     replace cj := ((cj.ch Z7).ch fu.ch).ch dT.ch
     refine zo (op_add rfl rfl (wrap_i64 (natbd yp cj.bd))) (zm rfl (zn ?_))
     replace FG := FG.ch dT.ch
     replace De := De.ch dT.ch
     replace Bs := Bs.ch dT.ch
     replace FH := FH.ch dT.ch
     replace Df := Df.ch dT.ch
     replace Dg := Dg.ch dT.ch
     have Z8 := (ne.ch.trans fu.ch).trans dT.ch
     replace uy := uy.ch Z8
     replace sQ := sQ.ch Z8
     replace rk := rk.ch Z8
     replace uz := uz.ch Z8
     replace sR := sR.ch Z8
     replace sT := sT.ch Z8
     replace hB := ((((hB.trans sL.fr).trans sU.fr).trans ne.fr).trans fu.fr).trans dT.fr
     exact hX1 _ H _ _ ⟨FC, FD, C7, C8, Bq, Br, FE, FF, C9, Db, Dc, Dd, Fy, Fz, C1, C2, Bo, Bp, FA, FB, C3, C4, C5, C6, ⟨rfl, rfl, rfl, rfl, rfl, rfl, rfl, trivial⟩, hO, cj, FG, De, Bs, FH, Df, Dg, uy, sQ, rk, uz, sR, sT, hB⟩
    replace H := ifn MS H
    refine zo (fun w => opB (op_neq rfl rfl w) (ndF MS)) (zn (zt rfl rfl (zq (zr ?_))))
    refine GoR.call (op_call body16 rfl (walk_law12_awake hO.lt H)) rfl rfl ?_
    rintro ahz QO ⟨r156, rfl, Yi, H⟩
    have fh := Stp.same hO Yi
    replace hO := fh.own
    refine za rfl (zn ?_)
    refine Go1.ret1 Try.func8 rfl ?_
    replace hB := (hB.trans sL.fr).trans fh.fr
    exact ⟨r156, rfl, hB.same, H⟩
   replace H := ifn Bg H
   refine zo (fun w => opB (op_neq rfl rfl w) (ndF Bg)) (zm rfl (zp (zp (zp (zp ?_)))))
   refine zo (op_pickT rfl rfl rfl) (zn (zt rfl rfl (zq (zr (za rfl ?_)))))
   refine zn ?_
   refine Go1.ret1 Try.func8 rfl ?_
   exact ⟨false, rfl, hB.same, H⟩
  replace H := ifn yp H
  refine zo (fun w => opB (op_lss rfl rfl w) (decide_eq_false yp)) (zn (zq (zf rfl rfl ?_)))
  refine Go1.exit rfl ?_
  refine zq ?_
  refine Go1.drawS 0 [(0, .pure), (1, .pure), (2, .pure), (3, .pure), (4, .stable), (5, .stable), (6, .loud), (7, .pure), (8, .pure), (9, .stable), (11, .stable), (10, .loud), (12, .loud), (13, .pure), (14, .pure), (15, .pure), (16, .stable), (18, .stable), (17, .loud), (19, .loud), (20, .pure), (21, .pure), (22, .pure), (23, .stable), (24, .pure), (25, .stable), (26, .pure), (27, .pure), (28, .pure), (29, .pure), (30, .pure), (31, .pure), (32, .loud), (33, .pure), (34, .pure)] mixed (by kernel_rfl) ?_
  intro ahA Yj
  have sV := Stp.same hO Yj
  replace hO := sV.own
  refine GoQ.pure rfl (op_move rfl) rfl rfl ?_
  refine GoQ.pure rfl (op_move rfl) rfl rfl ?_
  by_cases MT : k1_47 = k1_48
  ·replace H := ifp MT H
   refine GoQ.pure rfl (fun w => opB (op_eql rfl rfl w) (decide_eq_true MT)) rfl rfl ?_
   refine GoQ.pure rfl (op_move rfl) rfl rfl ?_
   refine GoQ.stable rfl (oblkAgg (vs := [.int .i64 k1_77, .bool b1_78, .slice p80 l1_79.length c81, .slice p84 l1_83.length c85, .slice p88 l1_87.length c89, .slice p92 l1_91.length c93, .slice p96 l1_95.length c97, .slice fG l1_99.length fH, .int .i64 k1_103]) (i := 0) 1 hO rfl rfl Try.underlying29 rfl ti29 rfl) rfl rfl ?_
   refine GoQ.stable rfl (oblkAgg (vs := [.int .i64 k1_50, .bool b1_51, .slice p53 l1_52.length c54, .slice p57 l1_56.length c58, .slice p61 l1_60.length c62, .slice p65 l1_64.length c66, .slice p69 l1_68.length c70, .slice p73 l1_72.length c74, .int .i64 k1_76]) (i := 0) 0 hO rfl rfl Try.underlying29 rfl ti29 rfl) rfl rfl ?_
   replace i8 := i8.ch sV.ch
   replace iv := iv.ch sV.ch
   replace f7 := f7.ch sV.ch
   replace i9 := i9.ch sV.ch
   replace ja := ja.ch sV.ch
   replace jb := jb.ch sV.ch
   replace jc := jc.ch sV.ch
   replace jd := jd.ch sV.ch
   replace je := je.ch sV.ch
   replace jf := jf.ch sV.ch
   replace jg := jg.ch sV.ch
   replace fR := fR.ch sV.ch
   refine GoQ.call rfl (op_call body19 rfl (walk_ref12_Same (a0 := (⟨k1_77, b1_78, l1_79, l1_83, l1_87, l1_91, l1_95, l1_99, k1_103⟩ : Enum)) (a1 := (⟨k1_50, b1_51, l1_52, l1_56, l1_60, l1_64, l1_68, l1_72, k1_76⟩ : Enum)) hO.lt jc jd je jf jg fR i8 iv f7 i9 ja jb H)) (fun v w hr => by obtain ⟨_, _, hs, _⟩ := hr; assumption) rfl rfl ?_
   rintro ahB ahC ⟨r166, rfl, Yk, H⟩
   have sW := Stp.same hO Yk
   replace hO := sW.own
   refine GoQ.pure rfl (op_pickT rfl rfl rfl) rfl rfl ?_
   refine GoQ.pure rfl (op_move rfl) rfl rfl ?_
   cases r166
   ·replace H := ifn Bool.false_ne_true H
    refine GoQ.pass rfl rfl rfl ?_
    refine GoQ.pass rfl rfl rfl ?_
    refine GoQ.pass rfl rfl rfl ?_
    refine GoQ.pass rfl rfl rfl ?_
    refine GoQ.pass rfl rfl rfl ?_
    refine GoQ.pure rfl (op_pickF rfl rfl rfl) rfl rfl ?_
    refine GoQ.pure rfl (op_move rfl) rfl rfl ?_
    refine GoQ.pass rfl rfl rfl ?_
    refine GoQ.pass rfl rfl rfl ?_
    refine GoQ.pass rfl rfl rfl ?_
    refine GoQ.pass rfl rfl rfl ?_
    refine GoQ.pass rfl rfl rfl ?_
    refine GoQ.pass rfl rfl rfl ?_
    refine GoQ.pass rfl rfl rfl ?_
    refine GoQ.pass rfl rfl rfl ?_
    refine GoQ.pass rfl rfl rfl ?_
    refine GoQ.pass rfl rfl rfl ?_
    refine GoQ.pass rfl rfl rfl ?_
    refine GoQ.pass rfl rfl rfl ?_
    refine GoQ.pass rfl rfl rfl ?_
    refine GoQ.pass rfl rfl rfl ?_
    refine GoQ.pure rfl (op_pickF rfl rfl rfl) rfl rfl ?_
    refine GoQ.pure rfl (op_move rfl) rfl rfl ?_
    refine GoQ.pass rfl rfl rfl ?_
    refine GoQ.pure rfl (op_pickF rfl rfl rfl) rfl rfl ?_
    refine GoQ.pure rfl (op_assign rfl) rfl rfl ?_
    refine GoQ.nil ?_
    refine Go1.ret1 Try.func8 rfl ?_
    replace hB := (hB.trans sV.fr).trans sW.fr
    exact ⟨false, rfl, hB.same, H⟩
   replace H := ifp rfl H
   refine GoQ.stable rfl (oblkAgg (vs := [.int .i64 k1_77, .bool b1_78, .slice p80 l1_79.length c81, .slice p84 l1_83.length c85, .slice p88 l1_87.length c89, .slice p92 l1_91.length c93, .slice p96 l1_95.length c97, .slice fG l1_99.length fH, .int .i64 k1_103]) (i := 0) 1 hO rfl rfl Try.underlying29 rfl ti29 rfl) rfl rfl ?_
   refine GoQ.stable rfl (oblkAgg (vs := [.int .i64 k1_50, .bool b1_51, .slice p53 l1_52.length c54, .slice p57 l1_56.length c58, .slice p61 l1_60.length c62, .slice p65 l1_64.length c66, .slice p69 l1_68.length c70, .slice p73 l1_72.length c74, .int .i64 k1_76]) (i := 0) 0 hO rfl rfl Try.underlying29 rfl ti29 rfl) rfl rfl ?_
   replace jc := jc.ch sW.ch
   replace jd := jd.ch sW.ch
   replace je := je.ch sW.ch
   replace jf := jf.ch sW.ch
   replace jg := jg.ch sW.ch
   replace fR := fR.ch sW.ch
   refine GoQ.call rfl (op_call body20 rfl (walk_enumerate_Validate (e := (⟨k1_77, b1_78, l1_79, l1_83, l1_87, l1_91, l1_95, l1_99, k1_103⟩ : Enum)) hO.lt jc jd je jf jg fR H)) (fun v w hr => by obtain ⟨_, _, hs, _⟩ := hr; assumption) rfl rfl ?_
   rintro ahD ahE ⟨r172, rfl, Yl, H⟩
   have sX := Stp.same hO Yl
   replace hO := sX.own
   have Z9 := sW.ch.trans sX.ch
   replace i8 := i8.ch Z9
   replace iv := iv.ch Z9
   replace f7 := f7.ch Z9
   replace i9 := i9.ch Z9
   replace ja := ja.ch Z9
   replace jb := jb.ch Z9
   refine GoQ.call rfl (op_call body21 rfl (walk_ref12_Validate (e := (⟨k1_50, b1_51, l1_52, l1_56, l1_60, l1_64, l1_68, l1_72, k1_76⟩ : Enum)) hO.lt i8 iv f7 i9 ja jb H)) (fun v w hr => by obtain ⟨_, _, hs, _⟩ := hr; assumption) rfl rfl ?_
   rintro ahF ahG ⟨r178, rfl, Ym, H⟩
   have sY := Stp.same hO Ym
   replace hO := sY.own
   by_cases MU : r172 = r178
   ·replace H := ifp MU H
    refine GoQ.pure rfl (fun w => opB (op_eql rfl rfl w) (decide_eq_true MU)) rfl rfl ?_
    refine GoQ.pure rfl (op_pickT rfl rfl rfl) rfl rfl ?_
    refine GoQ.pure rfl (op_move rfl) rfl rfl ?_
    refine GoQ.stable rfl (oblkAgg (vs := [.int .i64 k1_77, .bool b1_78, .slice p80 l1_79.length c81, .slice p84 l1_83.length c85, .slice p88 l1_87.length c89, .slice p92 l1_91.length c93, .slice p96 l1_95.length c97, .slice fG l1_99.length fH, .int .i64 k1_103]) (i := 0) 1 hO rfl rfl Try.underlying29 rfl ti29 rfl) rfl rfl ?_
    refine GoQ.stable rfl (oblkAgg (vs := [.int .i64 k1_50, .bool b1_51, .slice p53 l1_52.length c54, .slice p57 l1_56.length c58, .slice p61 l1_60.length c62, .slice p65 l1_64.length c66, .slice p69 l1_68.length c70, .slice p73 l1_72.length c74, .int .i64 k1_76]) (i := 0) 0 hO rfl rfl Try.underlying29 rfl ti29 rfl) rfl rfl ?_
    have Z10 := sX.ch.trans sY.ch
    replace jc := jc.ch Z10
    replace jd := jd.ch Z10
    replace je := je.ch Z10
    replace jf := jf.ch Z10
    replace jg := jg.ch Z10
    replace fR := fR.ch Z10
    refine GoQ.call rfl (op_call body31 rfl (walk_enumerate_Finished (e := (⟨k1_77, b1_78, l1_79, l1_83, l1_87, l1_91, l1_95, l1_99, k1_103⟩ : Enum)) hO.lt jc jd je jf jg fR H)) (fun v w hr => by obtain ⟨_, _, hs, _⟩ := hr; assumption) rfl rfl ?_
    rintro ahH ahI ⟨r185, rfl, Yn, H⟩
    have ta := Stp.same hO Yn
    replace hO := ta.own
    have Z11 := sY.ch.trans ta.ch
    replace i8 := i8.ch Z11
    replace iv := iv.ch Z11
    replace f7 := f7.ch Z11
    replace i9 := i9.ch Z11
    replace ja := ja.ch Z11
    replace jb := jb.ch Z11
    refine GoQ.call rfl (op_call body21 rfl (walk_ref12_Validate (e := (⟨k1_50, b1_51, l1_52, l1_56, l1_60, l1_64, l1_68, l1_72, k1_76⟩ : Enum)) hO.lt i8 iv f7 i9 ja jb H)) (fun v w hr => by obtain ⟨_, _, hs, _⟩ := hr; assumption) rfl rfl ?_
    rintro ahJ ahK ⟨r191, rfl, Yo, H⟩
    have tc := Stp.same hO Yo
    replace hO := tc.own
    by_cases MV : r191 = (0 : Int)
    ·replace H := ifp MV H
     refine GoQ.pure rfl (fun w => opB (op_eql rfl rfl w) (decide_eq_true MV)) rfl rfl ?_
     refine GoQ.pure rfl (op_move rfl) rfl rfl ?_
     refine GoQ.pure rfl (op_fieldAddr Try.underlying29 rfl ti3 rfl (by decide)) rfl rfl ?_
     refine GoQ.stable rfl (oblk (i := 8) 0 hO rfl rfl Try.underlying3 rfl rfl) rfl rfl ?_
     refine GoQ.pure rfl (op_fieldAddr Try.underlying29 rfl ti22 rfl (by decide)) rfl rfl ?_
     refine GoQ.stable rfl (oblk (i := 3) 0 hO rfl rfl Try.underlying22 rfl rfl) rfl rfl ?_
     refine GoQ.pure rfl (op_len Try.underlying22 rfl) rfl rfl ?_
     replace iv := iv.ch tc.ch
     replace H := H iv.bd
     by_cases MW : k1_76 = (l1_56.length : Int)
     ·replace H := ifp MW H
      refine GoQ.pure rfl (fun w => opB (op_eql rfl rfl w) (decide_eq_true MW)) rfl rfl ?_
      refine GoQ.pure rfl (op_pickT rfl rfl rfl) rfl rfl ?_
      cases r185
      ·replace H := ifn Bool.false_ne_true H
       refine GoQ.pure rfl (op_eqlB Try.underlying4 rfl rfl) rfl rfl ?_
       refine GoQ.pure rfl (op_pickT rfl rfl rfl) rfl rfl ?_
       refine GoQ.pure rfl (op_move rfl) rfl rfl ?_
       refine GoQ.pass rfl rfl rfl ?_
       refine GoQ.pure rfl (op_pickF rfl rfl rfl) rfl rfl ?_
       refine GoQ.pure rfl (op_assign rfl) rfl rfl ?_
       refine GoQ.nil ?_
       refine Go1.ret1 Try.func8 rfl ?_
       replace hB := (((((hB.trans sV.fr).trans sW.fr).trans sX.fr).trans sY.fr).trans ta.fr).trans tc.fr
       exact ⟨false, rfl, hB.same, H⟩
      replace H := ifp rfl H
      refine GoQ.pure rfl (op_eqlB Try.underlying4 rfl rfl) rfl rfl ?_
      refine GoQ.pure rfl (op_pickT rfl rfl rfl) rfl rfl ?_
      refine GoQ.pure rfl (op_move rfl) rfl rfl ?_
      refine GoQ.call rfl (op_call body16 rfl (walk_law12_awake hO.lt H)) (fun v w hr => by obtain ⟨_, _, hs, _⟩ := hr; assumption) rfl rfl ?_
      rintro ahL ahM ⟨r199, rfl, Yp, H⟩
      have jp := Stp.same hO Yp
      replace hO := jp.own
      refine GoQ.pure rfl (op_pickT rfl rfl rfl) rfl rfl ?_
      refine GoQ.pure rfl (op_assign rfl) rfl rfl ?_
      refine GoQ.nil ?_
      refine Go1.ret1 Try.func8 rfl ?_
      replace hB := ((((((hB.trans sV.fr).trans sW.fr).trans sX.fr).trans sY.fr).trans ta.fr).trans tc.fr).trans jp.fr
      exact ⟨r199, rfl, hB.same, H⟩
     replace H := ifn MW H
     refine GoQ.pure rfl (fun w => opB (op_eql rfl rfl w) (decide_eq_false MW)) rfl rfl ?_
     refine GoQ.pure rfl (op_pickT rfl rfl rfl) rfl rfl ?_
     cases r185
     ·replace H := ifn Bool.false_ne_true H
      refine GoQ.pure rfl (op_eqlB Try.underlying4 rfl rfl) rfl rfl ?_
      refine GoQ.pure rfl (op_pickT rfl rfl rfl) rfl rfl ?_
      refine GoQ.pure rfl (op_move rfl) rfl rfl ?_
      refine GoQ.call rfl (op_call body16 rfl (walk_law12_awake hO.lt H)) (fun v w hr => by obtain ⟨_, _, hs, _⟩ := hr; assumption) rfl rfl ?_
      rintro ahN aaV ⟨r205, rfl, Yq, H⟩
      have te := Stp.same hO Yq
      replace hO := te.own
      refine GoQ.pure rfl (op_pickT rfl rfl rfl) rfl rfl ?_
      refine GoQ.pure rfl (op_assign rfl) rfl rfl ?_
      refine GoQ.nil ?_
      refine Go1.ret1 Try.func8 rfl ?_
      replace hB := ((((((hB.trans sV.fr).trans sW.fr).trans sX.fr).trans sY.fr).trans ta.fr).trans tc.fr).trans te.fr
      exact ⟨r205, rfl, hB.same, H⟩
     replace H := ifp rfl H
     refine GoQ.pure rfl (op_eqlB Try.underlying4 rfl rfl) rfl rfl ?_
     refine GoQ.pure rfl (op_pickT rfl rfl rfl) rfl rfl ?_
     refine GoQ.pure rfl (op_move rfl) rfl rfl ?_
     refine GoQ.pass rfl rfl rfl ?_
     refine GoQ.pure rfl (op_pickF rfl rfl rfl) rfl rfl ?_
     refine GoQ.pure rfl (op_assign rfl) rfl rfl ?_
     refine GoQ.nil ?_
     refine Go1.ret1 Try.func8 rfl ?_
     replace hB := (((((hB.trans sV.fr).trans sW.fr).trans sX.fr).trans sY.fr).trans ta.fr).trans tc.fr
     exact ⟨false, rfl, hB.same, H⟩
    replace H := ifn MV H
    refine GoQ.pure rfl (fun w => opB (op_eql rfl rfl w) (decide_eq_false MV)) rfl rfl ?_
    refine GoQ.pure rfl (op_move rfl) rfl rfl ?_
    refine GoQ.pass rfl rfl rfl ?_
    refine GoQ.pass rfl rfl rfl ?_
    refine GoQ.pass rfl rfl rfl ?_
    refine GoQ.pass rfl rfl rfl ?_
    refine GoQ.pass rfl rfl rfl ?_
    refine GoQ.pass rfl rfl rfl ?_
    refine GoQ.pure rfl (op_pickF rfl rfl rfl) rfl rfl ?_
    cases r185
    ·replace H := ifn Bool.false_ne_true H
     refine GoQ.pure rfl (op_eqlB Try.underlying4 rfl rfl) rfl rfl ?_
     refine GoQ.pure rfl (op_pickT rfl rfl rfl) rfl rfl ?_
     refine GoQ.pure rfl (op_move rfl) rfl rfl ?_
     refine GoQ.call rfl (op_call body16 rfl (walk_law12_awake hO.lt H)) (fun v w hr => by obtain ⟨_, _, hs, _⟩ := hr; assumption) rfl rfl ?_
     rintro ahO ahP ⟨r211, rfl, Yr, H⟩
     have tf := Stp.same hO Yr
     replace hO := tf.own
     refine GoQ.pure rfl (op_pickT rfl rfl rfl) rfl rfl ?_
     refine GoQ.pure rfl (op_assign rfl) rfl rfl ?_
     refine GoQ.nil ?_
     refine Go1.ret1 Try.func8 rfl ?_
     replace hB := ((((((hB.trans sV.fr).trans sW.fr).trans sX.fr).trans sY.fr).trans ta.fr).trans tc.fr).trans tf.fr
     exact ⟨r211, rfl, hB.same, H⟩
    replace H := ifp rfl H
    refine GoQ.pure rfl (op_eqlB Try.underlying4 rfl rfl) rfl rfl ?_
    refine GoQ.pure rfl (op_pickT rfl rfl rfl) rfl rfl ?_
    refine GoQ.pure rfl (op_move rfl) rfl rfl ?_
    refine GoQ.pass rfl rfl rfl ?_
    refine GoQ.pure rfl (op_pickF rfl rfl rfl) rfl rfl ?_
    refine GoQ.pure rfl (op_assign rfl) rfl rfl ?_
    refine GoQ.nil ?_
    refine Go1.ret1 Try.func8 rfl ?_
    replace hB := (((((hB.trans sV.fr).trans sW.fr).trans sX.fr).trans sY.fr).trans ta.fr).trans tc.fr
    exact ⟨false, rfl, hB.same, H⟩
   replace H := ifn MU H
   refine GoQ.pure rfl (fun w => opB (op_eql rfl rfl w) (decide_eq_false MU)) rfl rfl ?_
   refine GoQ.pure rfl (op_pickT rfl rfl rfl) rfl rfl ?_
   refine GoQ.pure rfl (op_move rfl) rfl rfl ?_
   refine GoQ.pass rfl rfl rfl ?_
   refine GoQ.pass rfl rfl rfl ?_
   refine GoQ.pass rfl rfl rfl ?_
   refine GoQ.pass rfl rfl rfl ?_
   refine GoQ.pass rfl rfl rfl ?_
   refine GoQ.pass rfl rfl rfl ?_
   refine GoQ.pass rfl rfl rfl ?_
   refine GoQ.pass rfl rfl rfl ?_
   refine GoQ.pass rfl rfl rfl ?_
   refine GoQ.pass rfl rfl rfl ?_
   refine GoQ.pass rfl rfl rfl ?_
   refine GoQ.pass rfl rfl rfl ?_
   refine GoQ.pass rfl rfl rfl ?_
   refine GoQ.pass rfl rfl rfl ?_
   refine GoQ.pure rfl (op_pickF rfl rfl rfl) rfl rfl ?_
   refine GoQ.pure rfl (op_move rfl) rfl rfl ?_
   refine GoQ.pass rfl rfl rfl ?_
   refine GoQ.pure rfl (op_pickF rfl rfl rfl) rfl rfl ?_
   refine GoQ.pure rfl (op_assign rfl) rfl rfl ?_
   refine GoQ.nil ?_
   refine Go1.ret1 Try.func8 rfl ?_
   replace hB := (((hB.trans sV.fr).trans sW.fr).trans sX.fr).trans sY.fr
   exact ⟨false, rfl, hB.same, H⟩
  replace H := ifn MT H
  refine GoQ.pure rfl (fun w => opB (op_eql rfl rfl w) (decide_eq_false MT)) rfl rfl ?_
  refine GoQ.pure rfl (op_move rfl) rfl rfl ?_
  refine GoQ.pass rfl rfl rfl ?_
  refine GoQ.pass rfl rfl rfl ?_
  refine GoQ.pass rfl rfl rfl ?_
  refine GoQ.pure rfl (op_pickF rfl rfl rfl) rfl rfl ?_
  refine GoQ.pure rfl (op_move rfl) rfl rfl ?_
  refine GoQ.pass rfl rfl rfl ?_
  refine GoQ.pass rfl rfl rfl ?_
  refine GoQ.pass rfl rfl rfl ?_
  refine GoQ.pass rfl rfl rfl ?_
  refine GoQ.pass rfl rfl rfl ?_
  refine GoQ.pure rfl (op_pickF rfl rfl rfl) rfl rfl ?_
  refine GoQ.pure rfl (op_move rfl) rfl rfl ?_
  refine GoQ.pass rfl rfl rfl ?_
  refine GoQ.pass rfl rfl rfl ?_
  refine GoQ.pass rfl rfl rfl ?_
  refine GoQ.pass rfl rfl rfl ?_
  refine GoQ.pass rfl rfl rfl ?_
  refine GoQ.pass rfl rfl rfl ?_
  refine GoQ.pass rfl rfl rfl ?_
  refine GoQ.pass rfl rfl rfl ?_
  refine GoQ.pass rfl rfl rfl ?_
  refine GoQ.pass rfl rfl rfl ?_
  refine GoQ.pass rfl rfl rfl ?_
  refine GoQ.pass rfl rfl rfl ?_
  refine GoQ.pass rfl rfl rfl ?_
  refine GoQ.pass rfl rfl rfl ?_
  refine GoQ.pure rfl (op_pickF rfl rfl rfl) rfl rfl ?_
  refine GoQ.pure rfl (op_move rfl) rfl rfl ?_
  refine GoQ.pass rfl rfl rfl ?_
  refine GoQ.pure rfl (op_pickF rfl rfl rfl) rfl rfl ?_
  refine GoQ.pure rfl (op_assign rfl) rfl rfl ?_
  refine GoQ.nil ?_
  refine Go1.ret1 Try.func8 rfl ?_
  replace hB := hB.trans sV.fr
  exact ⟨false, rfl, hB.same, H⟩
 replace H := ifp rfl H
 refine zm rfl ?_
 replace ai := ai.ch Cm.ch
 refine GoR.call (op_call body15 rfl (walk_law12_little hO.lt ai H)) rfl rfl ?_
 rintro ahQ abB ⟨r217, rfl, Ys, H⟩
 have eg := Stp.same hO Ys
 replace hO := eg.own
 cases r217
 ·replace H := ifn Bool.false_ne_true H
  refine zo (op_not rfl) (zo (op_pickT rfl rfl rfl) (zm rfl (zp (zp (zp ?_)))))
  refine zo (op_pickT rfl rfl rfl) (zn (zt rfl rfl (zq ?_)))
  refine Go1.cut [] trivial ?_
  intro σ _
  refine zr ?_
  refine GoR.call (op_call body16 rfl (walk_law12_awake hO.lt H)) rfl rfl ?_
  rintro ahR Sv ⟨r223, rfl, Yt, H⟩
  have Jj := Stp.same hO Yt
  replace hO := Jj.own
  refine za rfl (zn ?_)
  refine Go1.ret1 Try.func8 rfl ?_
  replace hB := ((hB.trans Cm.fr).trans eg.fr).trans Jj.fr
  exact ⟨r223, rfl, hB.same, H⟩
 replace H := ifp rfl H
 refine zo (op_not rfl) (zo (op_pickT rfl rfl rfl) (zm rfl (zm rfl (zo (op_len Try.underlying26 rfl) ?_))))
 have Z12 := ((Ch.start A w0).trans Cm.ch).trans eg.ch
 replace cj := cj.ch Z12
 replace H := H cj.bd
 by_cases Ju : (4 : Int) < (a2.length : Int)
 ·replace H := ifp Ju H
  refine zo (fun w => opB (op_gtr rfl rfl w) (decide_eq_true Ju)) (zo (op_pickF rfl rfl rfl) (zn (zt rfl rfl (zq (zr ?_)))))
  refine GoR.call (op_call body16 rfl (walk_law12_awake hO.lt H)) rfl rfl ?_
  rintro ahS ahT ⟨r230, rfl, Yu, H⟩
  have qo := Stp.same hO Yu
  replace hO := qo.own
  refine za rfl (zn ?_)
  refine Go1.ret1 Try.func8 rfl ?_
  replace hB := ((hB.trans Cm.fr).trans eg.fr).trans qo.fr
  exact ⟨r230, rfl, hB.same, H⟩
 replace H := ifn Ju H
 refine zo (fun w => opB (op_gtr rfl rfl w) (decide_eq_false Ju)) (zo (op_pickF rfl rfl rfl) (zn (zf rfl rfl (zk (zq ?_)))))
 refine zr (zm rfl (zm rfl ?_))
 replace ai := ai.ch eg.ch
 refine GoR.call (op_call body25 rfl (walk_enumerate_Start hO.lt ai H)) rfl rfl ?_
 rintro ahU ahV ⟨r236, r237, FI, FJ, Dh, Di, Bt, Bu, FK, FL, Dj, Dk, Dl, Dm, rfl, Yv, nf, mf, k8, ng, mg, mh, H⟩
 have od := Stp.same hO Yv
 replace hO := od.own
 refine zm rfl (zo (op_extract rfl rfl) (zo (op_extract rfl rfl) ?_))
 have hobt := oalloc (t := 29) (cs := #[.int .i64 (0 : Int), .bool false, .slice none 0 0, .slice none 0 0, .slice none 0 0, .slice none 0 0, .slice none 0 0, .slice none 0 0, .int .i64 (0 : Int)]) ti29 hO rfl
 obtain ⟨ahW, B244, yK, adE, Km⟩ := hobt
 refine GoR.op Km rfl rfl ?_
 replace hO := yK.own
 have hobt := oblkStAgg (us := [.int .i64 r236.Points, .bool r236.Monoid, .slice FI r236.Gens.length FJ, .slice Dh r236.Elems.length Di, .slice Bt r236.Prefix.length Bu, .slice FK r236.Last.length FL, .slice Dj r236.Right.length Dk, .slice Dl r236.Rules.length Dm, .int .i64 r236.Done]) (o := 0) (cs' := #[.int .i64 r236.Points, .bool r236.Monoid, .slice FI r236.Gens.length FJ, .slice Dh r236.Elems.length Di, .slice Bt r236.Prefix.length Bu, .slice FK r236.Last.length FL, .slice Dj r236.Right.length Dk, .slice Dl r236.Rules.length Dm, .int .i64 r236.Done]) 0 hO rfl rfl (Nat.le_of_ble_eq_true rfl) rfl
 obtain ⟨aaY, jW, KE⟩ := hobt
 refine zg (KE ti29 (by exact rfl) (by exact rfl) rfl) ?_
 replace hO := jW.own
 refine za rfl (zn (zq ?_))
 refine Go1.cut [(0, .slice nI a0.length nJ), (1, .bool a1), (2, .slice xP a2.length xQ), (7, .pointer (some ⟨B244, 0, none⟩)), (8, .int .i64 r237)] ⟨rfl, rfl, rfl, rfl, rfl, trivial⟩ ?_
 intro σ _
 refine zr (zm rfl (zm rfl ?_))
 have Z13 := (od.ch.trans yK.ch).trans jW.ch
 replace ai := ai.ch Z13
 refine GoR.call (op_call body22 rfl (walk_ref12_Start hO.lt ai H)) rfl rfl ?_
 rintro ahX ahY ⟨r252, r253, FM, FN, Dn, Do, Bv, Bw, FO, FP, Dp, Dq, Dr, Ds, rfl, OS, yL, xS, wM, yM, xT, xU, H⟩
 have yN := Stp.same hO OS
 replace hO := yN.own
 refine zm rfl (zo (op_extract rfl rfl) (zo (op_extract rfl rfl) ?_))
 have hobt := oalloc (t := 29) (cs := #[.int .i64 (0 : Int), .bool false, .slice none 0 0, .slice none 0 0, .slice none 0 0, .slice none 0 0, .slice none 0 0, .slice none 0 0, .int .i64 (0 : Int)]) ti29 hO rfl
 obtain ⟨ah0, B260, rS, adF, Th⟩ := hobt
 refine GoR.op Th rfl rfl ?_
 replace hO := rS.own
 have hobt := oblkStAgg (us := [.int .i64 r252.Points, .bool r252.Monoid, .slice FM r252.Gens.length FN, .slice Dn r252.Elems.length Do, .slice Bv r252.Prefix.length Bw, .slice FO r252.Last.length FP, .slice Dp r252.Right.length Dq, .slice Dr r252.Rules.length Ds, .int .i64 r252.Done]) (o := 0) (cs' := #[.int .i64 r252.Points, .bool r252.Monoid, .slice FM r252.Gens.length FN, .slice Dn r252.Elems.length Do, .slice Bv r252.Prefix.length Bw, .slice FO r252.Last.length FP, .slice Dp r252.Right.length Dq, .slice Dr r252.Rules.length Ds, .int .i64 r252.Done]) 0 hO rfl rfl (Nat.le_of_ble_eq_true rfl) rfl
 obtain ⟨ah1, g7, Tj⟩ := hobt
 refine zg (Tj ti29 (by exact rfl) (by exact rfl) rfl) ?_
 replace hO := g7.own
 refine za rfl (zn (zq (zq (zr (zm rfl ?_)))))
 refine zo (op_len Try.underlying26 rfl) (zm rfl (zn (zb ?_)))
 have Z14 := rS.ch.trans g7.ch
 replace yL := yL.ch Z14
 replace xS := xS.ch Z14
 replace wM := wM.ch Z14
 replace yM := yM.ch Z14
 replace xT := xT.ch Z14
 replace xU := xU.ch Z14
 have Z15 := (((yK.ch.trans jW.ch).trans yN.ch).trans rS.ch).trans g7.ch
 replace nf := nf.ch Z15
 replace mf := mf.ch Z15
 replace k8 := k8.ch Z15
 replace ng := ng.ch Z15
 replace mg := mg.ch Z15
 replace mh := mh.ch Z15
 have Z16 := ((Z13.trans yN.ch).trans rS.ch).trans g7.ch
 replace cj := cj.ch Z16
 replace hB := (((((((hB.trans Cm.fr).trans eg.fr).trans od.fr).trans yK.fr).trans jW.fr).trans yN.fr).trans rS.fr).trans g7.fr
 refine Go1.loopW (S := Int × Int × Nat × Int × Bool × List (List Int) × List (List Int) × List Int × List Int × List (List Int) × List Rule × Int × Int × Bool × List (List Int) × List (List Int) × List Int × List Int × List (List Int) × List Rule × Int) (fun s σ w => match s with | (k2_269, k2_270, k2_271, k2_272, b2_273, l2_274, l2_278, l2_282, l2_286, l2_290, l2_294, k2_298, k2_299, b2_300, l2_301, l2_305, l2_309, l2_313, l2_317, l2_321, k2_325) => ∃ (rW : Option Addr), ∃ (tg : Nat), ∃ (th : Option Addr), ∃ (tj : Nat), ∃ (f8 : Option Addr), ∃ (f9 : Nat), ∃ (tk : Option Addr), ∃ (tm : Nat), ∃ (tn : Option Addr), ∃ (tp : Nat), ∃ (tq : Option Addr), ∃ (tt : Nat), ∃ (fd : Option Addr), ∃ (fe : Nat), ∃ (tu : Option Addr), ∃ (tv : Nat), ∃ (tw : Option Addr), ∃ (tx : Nat), ∃ (tz : Option Addr), ∃ (tA : Nat), ∃ (rT : Option Addr), ∃ (tB : Nat), ∃ (tC : Option Addr), ∃ (tD : Nat), agrees σ [(7, .pointer (some ⟨B244, 0, none⟩)), (8, .int .i64 k2_269), (9, .pointer (some ⟨B260, 0, none⟩)), (10, .int .i64 k2_270), (38, .slice xP a2.length xQ), (39, .int .i64 (a2.length : Int)), (40, .int .i64 (k2_271 : Int))] ∧ (fun Z0 => Owns w0.heap.size w Z0 A ∧ ISl (Rp.int .i64) (bl Z0 ++ A) w xP xQ a2 ∧ ISl (Rp.sl (Rp.int .i64)) (bl Z0 ++ A) w rW tg l2_274 ∧ ISl (Rp.sl (Rp.int .i64)) (bl Z0 ++ A) w th tj l2_278 ∧ ISl (Rp.int .i64) (bl Z0 ++ A) w f8 f9 l2_282 ∧ ISl (Rp.int .i64) (bl Z0 ++ A) w tk tm l2_286 ∧ ISl (Rp.sl (Rp.int .i64)) (bl Z0 ++ A) w tn tp l2_290 ∧ ISl (rpRule) (bl Z0 ++ A) w tq tt l2_294 ∧ ISl (Rp.sl (Rp.int .i64)) (bl Z0 ++ A) w fd fe l2_301 ∧ ISl (Rp.sl (Rp.int .i64)) (bl Z0 ++ A) w tu tv l2_305 ∧ ISl (Rp.int .i64) (bl Z0 ++ A) w tw tx l2_309 ∧ ISl (Rp.int .i64) (bl Z0 ++ A) w tz tA l2_313 ∧ ISl (Rp.sl (Rp.int .i64)) (bl Z0 ++ A) w rT tB l2_317 ∧ ISl (rpRule) (bl Z0 ++ A) w tC tD l2_321 ∧ Fr (bl []) w0 (bl Z0) w) [.blk B260 (.cells #[.int .i64 k2_272, .bool b2_273, .slice rW l2_274.length tg, .slice th l2_278.length tj, .slice f8 l2_282.length f9, .slice tk l2_286.length tm, .slice tn l2_290.length tp, .slice tq l2_294.length tt, .int .i64 k2_298] 29 (0, 0)), .blk B244 (.cells #[.int .i64 k2_299, .bool b2_300, .slice fd l2_301.length fe, .slice tu l2_305.length tv, .slice tw l2_309.length tx, .slice tz l2_313.length tA, .slice rT l2_317.length tB, .slice tC l2_321.length tD, .int .i64 k2_325] 29 (0, 0))]) H ⟨FM, FN, Dn, Do, Bv, Bw, FO, FP, Dp, Dq, Dr, Ds, FI, FJ, Dh, Di, Bt, Bu, FK, FL, Dj, Dk, Dl, Dm, ⟨rfl, rfl, rfl, rfl, rfl, rfl, rfl, trivial⟩, hO, cj, yL, xS, wM, yM, xT, xU, nf, mf, k8, ng, mg, mh, hB⟩ ?_
 intro X2
 refine prE fun k2_269 => prE fun k2_270 => prE fun k2_271 => prE fun k2_272 => prE fun b2_273 => prE fun l2_274 => prE fun l2_278 => prE fun l2_282 => prE fun l2_286 => prE fun l2_290 => prE fun l2_294 => prE fun k2_298 => prE fun k2_299 => prE fun b2_300 => prE fun l2_301 => prE fun l2_305 => prE fun l2_309 => prE fun l2_313 => prE fun l2_317 => prE fun l2_321 => fun k2_325 => ?_
 intro H hX2 σ ah2
 refine exE fun rW => exE fun tg => exE fun th => exE fun tj => exE fun f8 => exE fun f9 => exE fun tk => exE fun tm => exE fun tn => exE fun tp => exE fun tq => exE fun tt => exE fun fd => exE fun fe => exE fun tu => exE fun tv => exE fun tw => exE fun tx => exE fun tz => exE fun tA => exE fun rT => exE fun tB => exE fun tC => exE fun tD => andE fun hag => andE fun hO => andE fun cj => andE fun fS => andE fun dp => andE fun fT => andE fun fU => andE fun fV => andE fun fW => andE fun fX => andE fun fY => andE fun eI => andE fun f0 => andE fun f5 => andE fun dP => fun hB => ?_
 dsimp only at H
 refine Go1.keep [(7, .pointer (some ⟨B244, 0, none⟩)), (8, .int .i64 k2_269), (9, .pointer (some ⟨B260, 0, none⟩)), (10, .int .i64 k2_270), (38, .slice xP a2.length xQ), (39, .int .i64 (a2.length : Int)), (40, .int .i64 (k2_271 : Int))] hag ?_
 refine zq (zr ?_)
 by_cases JL : (k2_271 : Int) < (a2.length : Int)
 ·replace H := ifp JL H
  refine zo (fun w => opB (op_lss rfl rfl w) (decide_eq_true JL)) (zn (zq (zt rfl rfl (zk (zq ?_)))))
  refine zb (zq (zr ?_))
  obtain ⟨Kn, H⟩ := H
  obtain ⟨KF, H⟩ := H
  refine zo (op_index Try.underlying26 ti3 rfl rfl Kn KF (cj.some_ Kn KF)) (zs (ldInt cj Kn KF Try.underlying3 rfl rfl) (za rfl (zn (zq (zq ?_)))))
  refine zr (zm rfl (zm rfl ?_))
  by_cases MX : k2_269 = k2_270
  ·replace H := ifp MX H
   refine zo (fun w => opB (op_neq rfl rfl w) (ndT MX)) (zm rfl (zs (oblkAgg (vs := [.int .i64 k2_299, .bool b2_300, .slice fd l2_301.length fe, .slice tu l2_305.length tv, .slice tw l2_309.length tx, .slice tz l2_313.length tA, .slice rT l2_317.length tB, .slice tC l2_321.length tD, .int .i64 k2_325]) (i := 0) 1 hO rfl rfl Try.underlying29 rfl ti29 rfl) (zs (oblkAgg (vs := [.int .i64 k2_272, .bool b2_273, .slice rW l2_274.length tg, .slice th l2_278.length tj, .slice f8 l2_282.length f9, .slice tk l2_286.length tm, .slice tn l2_290.length tp, .slice tq l2_294.length tt, .int .i64 k2_298]) (i := 0) 0 hO rfl rfl Try.underlying29 rfl ti29 rfl) ?_)))
   refine GoR.call (op_call body19 rfl (walk_ref12_Same (a0 := (⟨k2_299, b2_300, l2_301, l2_305, l2_309, l2_313, l2_317, l2_321, k2_325⟩ : Enum)) (a1 := (⟨k2_272, b2_273, l2_274, l2_278, l2_282, l2_286, l2_290, l2_294, k2_298⟩ : Enum)) hO.lt fX fY eI f0 f5 dP fS dp fT fU fV fW H)) rfl rfl ?_
   rintro ah3 ah4 ⟨r330, rfl, Yw, H⟩
   have m3 := Stp.same hO Yw
   replace hO := m3.own
   cases r330
   ·replace H := ifn Bool.false_ne_true H
    refine zo (op_not rfl) (zo (op_pickF rfl rfl rfl) (zn (zt rfl rfl (zq (zr ?_)))))
    refine za rfl (zn ?_)
    refine Go1.ret1 Try.func8 rfl ?_
    replace hB := hB.trans m3.fr
    exact ⟨false, rfl, hB.same, H⟩
   replace H := ifp rfl H
   refine zo (op_not rfl) (zo (op_pickF rfl rfl rfl) (zn (zf rfl rfl (zk (zq ?_)))))
   refine zq (zr (zm rfl ?_))
   by_cases MY : k2_270 = (0 : Int)
   ·replace H := ifp MY H
    refine zo (fun w => opB (op_neq rfl rfl w) (ndT MY)) (zn (zf rfl rfl (zk (zq ?_))))
    refine Go1.cut [(7, .pointer (some ⟨B244, 0, none⟩)), (9, .pointer (some ⟨B260, 0, none⟩)), (12, .int .i64 (ix a2 (k2_271 : Int))), (38, .slice xP a2.length xQ), (39, .int .i64 (a2.length : Int)), (40, .int .i64 (k2_271 : Int))] ⟨rfl, rfl, rfl, rfl, rfl, rfl, trivial⟩ ?_
    intro σ _
    refine zr (zm rfl ?_)
    by_cases M0 : (60 : Int) < (ix a2 (k2_271 : Int))
    ·replace H := ifp M0 H
     refine zo (op_minT rfl rfl M0) (za rfl (zn (zq (zr (zs (oblkAgg (vs := [.int .i64 k2_299, .bool b2_300, .slice fd l2_301.length fe, .slice tu l2_305.length tv, .slice tw l2_309.length tx, .slice tz l2_313.length tA, .slice rT l2_317.length tB, .slice tC l2_321.length tD, .int .i64 k2_325]) (i := 0) 1 hO rfl rfl Try.underlying29 rfl ti29 rfl) ?_)))))
     refine zm rfl ?_
     replace fX := fX.ch m3.ch
     replace fY := fY.ch m3.ch
     replace eI := eI.ch m3.ch
     replace f0 := f0.ch m3.ch
     replace f5 := f5.ch m3.ch
     replace dP := dP.ch m3.ch
     refine GoR.call (op_call body26 rfl (walk_enumerate_Step (e := (⟨k2_299, b2_300, l2_301, l2_305, l2_309, l2_313, l2_317, l2_321, k2_325⟩ : Enum)) hO.lt fX fY eI f0 f5 dP H)) rfl rfl ?_
     rintro ah5 Q9 ⟨r338, r339, FQ, FS, Dt, Du, Bx, By, FT, FU, Dv, Dw, Dx, Dy, rfl, Yx, uA, tE, rm, uB, tF, tG, H⟩
     have tH := Stp.same hO Yx
     replace hO := tH.own
     refine zm rfl (zo (op_extract rfl rfl) (zo (op_extract rfl rfl) ?_))
     have hobt := oblkStAgg (us := [.int .i64 r338.Points, .bool r338.Monoid, .slice FQ r338.Gens.length FS, .slice Dt r338.Elems.length Du, .slice Bx r338.Prefix.length By, .slice FT r338.Last.length FU, .slice Dv r338.Right.length Dw, .slice Dx r338.Rules.length Dy, .int .i64 r338.Done]) (o := 0) (cs' := #[.int .i64 r338.Points, .bool r338.Monoid, .slice FQ r338.Gens.length FS, .slice Dt r338.Elems.length Du, .slice Bx r338.Prefix.length By, .slice FT r338.Last.length FU, .slice Dv r338.Right.length Dw, .slice Dx r338.Rules.length Dy, .int .i64 r338.Done]) 1 hO rfl rfl (Nat.le_of_ble_eq_true rfl) rfl
     obtain ⟨ah6, nh, Tk⟩ := hobt
     refine zg (Tk ti29 (by exact rfl) (by exact rfl) rfl) ?_
     replace hO := nh.own
     refine za rfl (zn (zr (zs (oblkAgg (vs := [.int .i64 k2_272, .bool b2_273, .slice rW l2_274.length tg, .slice th l2_278.length tj, .slice f8 l2_282.length f9, .slice tk l2_286.length tm, .slice tn l2_290.length tp, .slice tq l2_294.length tt, .int .i64 k2_298]) (i := 0) 0 hO rfl rfl Try.underlying29 rfl ti29 rfl) (zm rfl ?_))))
     have Z17 := (m3.ch.trans tH.ch).trans nh.ch
     replace fS := fS.ch Z17
     replace dp := dp.ch Z17
     replace fT := fT.ch Z17
     replace fU := fU.ch Z17
     replace fV := fV.ch Z17
     replace fW := fW.ch Z17
     refine GoR.call (op_call body23 rfl (walk_ref12_Step (e := (⟨k2_272, b2_273, l2_274, l2_278, l2_282, l2_286, l2_290, l2_294, k2_298⟩ : Enum)) hO.lt fS dp fT fU fV fW H)) rfl rfl ?_
     rintro ah7 aad ⟨r348, r349, FV, FW, Dz, DA, Bz, BA, FX, FY, DB, DD, DE, DF, rfl, Pa, F0, DG, BB, F1, DH, DJ, H⟩
     have fA := Stp.same hO Pa
     replace hO := fA.own
     refine zm rfl (zo (op_extract rfl rfl) (zo (op_extract rfl rfl) ?_))
     have hobt := oblkStAgg (us := [.int .i64 r348.Points, .bool r348.Monoid, .slice FV r348.Gens.length FW, .slice Dz r348.Elems.length DA, .slice Bz r348.Prefix.length BA, .slice FX r348.Last.length FY, .slice DB r348.Right.length DD, .slice DE r348.Rules.length DF, .int .i64 r348.Done]) (o := 0) (cs' := #[.int .i64 r348.Points, .bool r348.Monoid, .slice FV r348.Gens.length FW, .slice Dz r348.Elems.length DA, .slice Bz r348.Prefix.length BA, .slice FX r348.Last.length FY, .slice DB r348.Right.length DD, .slice DE r348.Rules.length DF, .int .i64 r348.Done]) 0 hO rfl rfl (Nat.le_of_ble_eq_true rfl) rfl
     obtain ⟨ah8, j4, KH⟩ := hobt
     refine zg (KH ti29 (by exact rfl) (by exact rfl) rfl) ?_
     replace hO := j4.own
     refine za rfl (zn ?_)
     refine Go1.inBlock ?_
     refine Go1.cut [(7, .pointer (some ⟨B244, 0, none⟩)), (8, .int .i64 r339), (9, .pointer (some ⟨B260, 0, none⟩)), (10, .int .i64 r349), (38, .slice xP a2.length xQ), (39, .int .i64 (a2.length : Int)), (40, .int .i64 (k2_271 : Int))] ⟨rfl, rfl, rfl, rfl, rfl, rfl, rfl, trivial⟩ ?_
     intro σ _
     refine zr ?_
     replace cj := ((cj.ch Z17).ch fA.ch).ch j4.ch
     refine zo (op_add rfl rfl (wrap_i64 (natbd JL cj.bd))) (zm rfl (zn ?_))
     replace F0 := F0.ch j4.ch
     replace DG := DG.ch j4.ch
     replace BB := BB.ch j4.ch
     replace F1 := F1.ch j4.ch
     replace DH := DH.ch j4.ch
     replace DJ := DJ.ch j4.ch
     have Z18 := (nh.ch.trans fA.ch).trans j4.ch
     replace uA := uA.ch Z18
     replace tE := tE.ch Z18
     replace rm := rm.ch Z18
     replace uB := uB.ch Z18
     replace tF := tF.ch Z18
     replace tG := tG.ch Z18
     replace hB := ((((hB.trans m3.fr).trans tH.fr).trans nh.fr).trans fA.fr).trans j4.fr
     exact hX2 _ H _ _ ⟨FV, FW, Dz, DA, Bz, BA, FX, FY, DB, DD, DE, DF, FQ, FS, Dt, Du, Bx, By, FT, FU, Dv, Dw, Dx, Dy, ⟨rfl, rfl, rfl, rfl, rfl, rfl, rfl, trivial⟩, hO, cj, F0, DG, BB, F1, DH, DJ, uA, tE, rm, uB, tF, tG, hB⟩
    replace H := ifn M0 H
    refine zo (op_minF rfl rfl M0) (za rfl (zn (zq (zr (zs (oblkAgg (vs := [.int .i64 k2_299, .bool b2_300, .slice fd l2_301.length fe, .slice tu l2_305.length tv, .slice tw l2_309.length tx, .slice tz l2_313.length tA, .slice rT l2_317.length tB, .slice tC l2_321.length tD, .int .i64 k2_325]) (i := 0) 1 hO rfl rfl Try.underlying29 rfl ti29 rfl) ?_)))))
    refine zm rfl ?_
    replace fX := fX.ch m3.ch
    replace fY := fY.ch m3.ch
    replace eI := eI.ch m3.ch
    replace f0 := f0.ch m3.ch
    replace f5 := f5.ch m3.ch
    replace dP := dP.ch m3.ch
    refine GoR.call (op_call body26 rfl (walk_enumerate_Step (e := (⟨k2_299, b2_300, l2_301, l2_305, l2_309, l2_313, l2_317, l2_321, k2_325⟩ : Enum)) hO.lt fX fY eI f0 f5 dP H)) rfl rfl ?_
    rintro ah9 KR ⟨r358, r359, F2, F3, DK, DL, BC, BD, F4, F5, DM, DN, DO, DP, rfl, Yy, uC, tI, ro, uD, tJ, tK, H⟩
    have lz := Stp.same hO Yy
    replace hO := lz.own
    refine zm rfl (zo (op_extract rfl rfl) (zo (op_extract rfl rfl) ?_))
    have hobt := oblkStAgg (us := [.int .i64 r358.Points, .bool r358.Monoid, .slice F2 r358.Gens.length F3, .slice DK r358.Elems.length DL, .slice BC r358.Prefix.length BD, .slice F4 r358.Last.length F5, .slice DM r358.Right.length DN, .slice DO r358.Rules.length DP, .int .i64 r358.Done]) (o := 0) (cs' := #[.int .i64 r358.Points, .bool r358.Monoid, .slice F2 r358.Gens.length F3, .slice DK r358.Elems.length DL, .slice BC r358.Prefix.length BD, .slice F4 r358.Last.length F5, .slice DM r358.Right.length DN, .slice DO r358.Rules.length DP, .int .i64 r358.Done]) 1 hO rfl rfl (Nat.le_of_ble_eq_true rfl) rfl
    obtain ⟨aia, ff, Tl⟩ := hobt
    refine zg (Tl ti29 (by exact rfl) (by exact rfl) rfl) ?_
    replace hO := ff.own
    refine za rfl (zn (zr (zs (oblkAgg (vs := [.int .i64 k2_272, .bool b2_273, .slice rW l2_274.length tg, .slice th l2_278.length tj, .slice f8 l2_282.length f9, .slice tk l2_286.length tm, .slice tn l2_290.length tp, .slice tq l2_294.length tt, .int .i64 k2_298]) (i := 0) 0 hO rfl rfl Try.underlying29 rfl ti29 rfl) (zm rfl ?_))))
    have Z19 := (m3.ch.trans lz.ch).trans ff.ch
    replace fS := fS.ch Z19
    replace dp := dp.ch Z19
    replace fT := fT.ch Z19
    replace fU := fU.ch Z19
    replace fV := fV.ch Z19
    replace fW := fW.ch Z19
    refine GoR.call (op_call body23 rfl (walk_ref12_Step (e := (⟨k2_272, b2_273, l2_274, l2_278, l2_282, l2_286, l2_290, l2_294, k2_298⟩ : Enum)) hO.lt fS dp fT fU fV fW H)) rfl rfl ?_
    rintro aib aic ⟨r368, r369, F6, F7, DQ, DR, BE, BG, F8, F9, DS, DT, DU, DW, rfl, Yz, Ga, DX, BH, Gb, DY, D0, H⟩
    have ni := Stp.same hO Yz
    replace hO := ni.own
    refine zm rfl (zo (op_extract rfl rfl) (zo (op_extract rfl rfl) ?_))
    have hobt := oblkStAgg (us := [.int .i64 r368.Points, .bool r368.Monoid, .slice F6 r368.Gens.length F7, .slice DQ r368.Elems.length DR, .slice BE r368.Prefix.length BG, .slice F8 r368.Last.length F9, .slice DS r368.Right.length DT, .slice DU r368.Rules.length DW, .int .i64 r368.Done]) (o := 0) (cs' := #[.int .i64 r368.Points, .bool r368.Monoid, .slice F6 r368.Gens.length F7, .slice DQ r368.Elems.length DR, .slice BE r368.Prefix.length BG, .slice F8 r368.Last.length F9, .slice DS r368.Right.length DT, .slice DU r368.Rules.length DW, .int .i64 r368.Done]) 0 hO rfl rfl (Nat.le_of_ble_eq_true rfl) rfl
    obtain ⟨aid, er, Tm⟩ := hobt
    refine zg (Tm ti29 (by exact rfl) (by exact rfl) rfl) ?_
    replace hO := er.own
    refine za rfl (zn ?_)
    refine Go1.inBlock ?_
    refine Go1.cut [(7, .pointer (some ⟨B244, 0, none⟩)), (8, .int .i64 r359), (9, .pointer (some ⟨B260, 0, none⟩)), (10, .int .i64 r369), (38, .slice xP a2.length xQ), (39, .int .i64 (a2.length : Int)), (40, .int .i64 (k2_271 : Int))] ⟨rfl, rfl, rfl, rfl, rfl, rfl, rfl, trivial⟩ ?_
    intro σ _
    refine zr ?_
    replace cj := ((cj.ch Z19).ch ni.ch).ch er.ch
    refine zo (op_add rfl rfl (wrap_i64 (natbd JL cj.bd))) (zm rfl (zn ?_))
    replace Ga := Ga.ch er.ch
    replace DX := DX.ch er.ch
    replace BH := BH.ch er.ch
    replace Gb := Gb.ch er.ch
    replace DY := DY.ch er.ch
    replace D0 := D0.ch er.ch
    have Z20 := (ff.ch.trans ni.ch).trans er.ch
    replace uC := uC.ch Z20
    replace tI := tI.ch Z20
    replace ro := ro.ch Z20
    replace uD := uD.ch Z20
    replace tJ := tJ.ch Z20
    replace tK := tK.ch Z20
    replace hB := ((((hB.trans m3.fr).trans lz.fr).trans ff.fr).trans ni.fr).trans er.fr
    exact hX2 _ H _ _ ⟨F6, F7, DQ, DR, BE, BG, F8, F9, DS, DT, DU, DW, F2, F3, DK, DL, BC, BD, F4, F5, DM, DN, DO, DP, ⟨rfl, rfl, rfl, rfl, rfl, rfl, rfl, trivial⟩, hO, cj, Ga, DX, BH, Gb, DY, D0, uC, tI, ro, uD, tJ, tK, hB⟩
   replace H := ifn MY H
   refine zo (fun w => opB (op_neq rfl rfl w) (ndF MY)) (zn (zt rfl rfl (zq (zr ?_))))
   refine GoR.call (op_call body16 rfl (walk_law12_awake hO.lt H)) rfl rfl ?_
   rintro aie aif ⟨r378, rfl, YA, H⟩
   have tL := Stp.same hO YA
   replace hO := tL.own
   refine za rfl (zn ?_)
   refine Go1.ret1 Try.func8 rfl ?_
   replace hB := (hB.trans m3.fr).trans tL.fr
   exact ⟨r378, rfl, hB.same, H⟩
  replace H := ifn MX H
  refine zo (fun w => opB (op_neq rfl rfl w) (ndF MX)) (zm rfl (zp (zp (zp (zp ?_)))))
  refine zo (op_pickT rfl rfl rfl) (zn (zt rfl rfl (zq (zr (za rfl ?_)))))
  refine zn ?_
  refine Go1.ret1 Try.func8 rfl ?_
  exact ⟨false, rfl, hB.same, H⟩
 replace H := ifn JL H
 refine zo (fun w => opB (op_lss rfl rfl w) (decide_eq_false JL)) (zn (zq (zf rfl rfl ?_)))
 refine Go1.exit rfl ?_
 refine zq ?_
 refine Go1.drawS 0 [(0, .pure), (1, .pure), (2, .pure), (3, .pure), (4, .stable), (5, .stable), (6, .loud), (7, .pure), (8, .pure), (9, .stable), (11, .stable), (10, .loud), (12, .loud), (13, .pure), (14, .pure), (15, .pure), (16, .stable), (18, .stable), (17, .loud), (19, .loud), (20, .pure), (21, .pure), (22, .pure), (23, .stable), (24, .pure), (25, .stable), (26, .pure), (27, .pure), (28, .pure), (29, .pure), (30, .pure), (31, .pure), (32, .loud), (33, .pure), (34, .pure)] mixed (by kernel_rfl) ?_
 intro aig YB
 have eO := Stp.same hO YB
 replace hO := eO.own
 refine GoQ.pure rfl (op_move rfl) rfl rfl ?_
 refine GoQ.pure rfl (op_move rfl) rfl rfl ?_
 by_cases M1 : k2_269 = k2_270
 ·replace H := ifp M1 H
  refine GoQ.pure rfl (fun w => opB (op_eql rfl rfl w) (decide_eq_true M1)) rfl rfl ?_
  refine GoQ.pure rfl (op_move rfl) rfl rfl ?_
  refine GoQ.stable rfl (oblkAgg (vs := [.int .i64 k2_299, .bool b2_300, .slice fd l2_301.length fe, .slice tu l2_305.length tv, .slice tw l2_309.length tx, .slice tz l2_313.length tA, .slice rT l2_317.length tB, .slice tC l2_321.length tD, .int .i64 k2_325]) (i := 0) 1 hO rfl rfl Try.underlying29 rfl ti29 rfl) rfl rfl ?_
  refine GoQ.stable rfl (oblkAgg (vs := [.int .i64 k2_272, .bool b2_273, .slice rW l2_274.length tg, .slice th l2_278.length tj, .slice f8 l2_282.length f9, .slice tk l2_286.length tm, .slice tn l2_290.length tp, .slice tq l2_294.length tt, .int .i64 k2_298]) (i := 0) 0 hO rfl rfl Try.underlying29 rfl ti29 rfl) rfl rfl ?_
  replace fS := fS.ch eO.ch
  replace dp := dp.ch eO.ch
  replace fT := fT.ch eO.ch
  replace fU := fU.ch eO.ch
  replace fV := fV.ch eO.ch
  replace fW := fW.ch eO.ch
  replace fX := fX.ch eO.ch
  replace fY := fY.ch eO.ch
  replace eI := eI.ch eO.ch
  replace f0 := f0.ch eO.ch
  replace f5 := f5.ch eO.ch
  replace dP := dP.ch eO.ch
  refine GoQ.call rfl (op_call body19 rfl (walk_ref12_Same (a0 := (⟨k2_299, b2_300, l2_301, l2_305, l2_309, l2_313, l2_317, l2_321, k2_325⟩ : Enum)) (a1 := (⟨k2_272, b2_273, l2_274, l2_278, l2_282, l2_286, l2_290, l2_294, k2_298⟩ : Enum)) hO.lt fX fY eI f0 f5 dP fS dp fT fU fV fW H)) (fun v w hr => by obtain ⟨_, _, hs, _⟩ := hr; assumption) rfl rfl ?_
  rintro aih aii ⟨r388, rfl, YC, H⟩
  have jq := Stp.same hO YC
  replace hO := jq.own
  refine GoQ.pure rfl (op_pickT rfl rfl rfl) rfl rfl ?_
  refine GoQ.pure rfl (op_move rfl) rfl rfl ?_
  cases r388
  ·replace H := ifn Bool.false_ne_true H
   refine GoQ.pass rfl rfl rfl ?_
   refine GoQ.pass rfl rfl rfl ?_
   refine GoQ.pass rfl rfl rfl ?_
   refine GoQ.pass rfl rfl rfl ?_
   refine GoQ.pass rfl rfl rfl ?_
   refine GoQ.pure rfl (op_pickF rfl rfl rfl) rfl rfl ?_
   refine GoQ.pure rfl (op_move rfl) rfl rfl ?_
   refine GoQ.pass rfl rfl rfl ?_
   refine GoQ.pass rfl rfl rfl ?_
   refine GoQ.pass rfl rfl rfl ?_
   refine GoQ.pass rfl rfl rfl ?_
   refine GoQ.pass rfl rfl rfl ?_
   refine GoQ.pass rfl rfl rfl ?_
   refine GoQ.pass rfl rfl rfl ?_
   refine GoQ.pass rfl rfl rfl ?_
   refine GoQ.pass rfl rfl rfl ?_
   refine GoQ.pass rfl rfl rfl ?_
   refine GoQ.pass rfl rfl rfl ?_
   refine GoQ.pass rfl rfl rfl ?_
   refine GoQ.pass rfl rfl rfl ?_
   refine GoQ.pass rfl rfl rfl ?_
   refine GoQ.pure rfl (op_pickF rfl rfl rfl) rfl rfl ?_
   refine GoQ.pure rfl (op_move rfl) rfl rfl ?_
   refine GoQ.pass rfl rfl rfl ?_
   refine GoQ.pure rfl (op_pickF rfl rfl rfl) rfl rfl ?_
   refine GoQ.pure rfl (op_assign rfl) rfl rfl ?_
   refine GoQ.nil ?_
   refine Go1.ret1 Try.func8 rfl ?_
   replace hB := (hB.trans eO.fr).trans jq.fr
   exact ⟨false, rfl, hB.same, H⟩
  replace H := ifp rfl H
  refine GoQ.stable rfl (oblkAgg (vs := [.int .i64 k2_299, .bool b2_300, .slice fd l2_301.length fe, .slice tu l2_305.length tv, .slice tw l2_309.length tx, .slice tz l2_313.length tA, .slice rT l2_317.length tB, .slice tC l2_321.length tD, .int .i64 k2_325]) (i := 0) 1 hO rfl rfl Try.underlying29 rfl ti29 rfl) rfl rfl ?_
  refine GoQ.stable rfl (oblkAgg (vs := [.int .i64 k2_272, .bool b2_273, .slice rW l2_274.length tg, .slice th l2_278.length tj, .slice f8 l2_282.length f9, .slice tk l2_286.length tm, .slice tn l2_290.length tp, .slice tq l2_294.length tt, .int .i64 k2_298]) (i := 0) 0 hO rfl rfl Try.underlying29 rfl ti29 rfl) rfl rfl ?_
  replace fX := fX.ch jq.ch
  replace fY := fY.ch jq.ch
  replace eI := eI.ch jq.ch
  replace f0 := f0.ch jq.ch
  replace f5 := f5.ch jq.ch
  replace dP := dP.ch jq.ch
  refine GoQ.call rfl (op_call body20 rfl (walk_enumerate_Validate (e := (⟨k2_299, b2_300, l2_301, l2_305, l2_309, l2_313, l2_317, l2_321, k2_325⟩ : Enum)) hO.lt fX fY eI f0 f5 dP H)) (fun v w hr => by obtain ⟨_, _, hs, _⟩ := hr; assumption) rfl rfl ?_
  rintro aij aik ⟨r394, rfl, YE, H⟩
  have tM := Stp.same hO YE
  replace hO := tM.own
  have Z21 := jq.ch.trans tM.ch
  replace fS := fS.ch Z21
  replace dp := dp.ch Z21
  replace fT := fT.ch Z21
  replace fU := fU.ch Z21
  replace fV := fV.ch Z21
  replace fW := fW.ch Z21
  refine GoQ.call rfl (op_call body21 rfl (walk_ref12_Validate (e := (⟨k2_272, b2_273, l2_274, l2_278, l2_282, l2_286, l2_290, l2_294, k2_298⟩ : Enum)) hO.lt fS dp fT fU fV fW H)) (fun v w hr => by obtain ⟨_, _, hs, _⟩ := hr; assumption) rfl rfl ?_
  rintro ail aba ⟨r400, rfl, YF, H⟩
  have gu := Stp.same hO YF
  replace hO := gu.own
  by_cases M2 : r394 = r400
  ·replace H := ifp M2 H
   refine GoQ.pure rfl (fun w => opB (op_eql rfl rfl w) (decide_eq_true M2)) rfl rfl ?_
   refine GoQ.pure rfl (op_pickT rfl rfl rfl) rfl rfl ?_
   refine GoQ.pure rfl (op_move rfl) rfl rfl ?_
   refine GoQ.stable rfl (oblkAgg (vs := [.int .i64 k2_299, .bool b2_300, .slice fd l2_301.length fe, .slice tu l2_305.length tv, .slice tw l2_309.length tx, .slice tz l2_313.length tA, .slice rT l2_317.length tB, .slice tC l2_321.length tD, .int .i64 k2_325]) (i := 0) 1 hO rfl rfl Try.underlying29 rfl ti29 rfl) rfl rfl ?_
   refine GoQ.stable rfl (oblkAgg (vs := [.int .i64 k2_272, .bool b2_273, .slice rW l2_274.length tg, .slice th l2_278.length tj, .slice f8 l2_282.length f9, .slice tk l2_286.length tm, .slice tn l2_290.length tp, .slice tq l2_294.length tt, .int .i64 k2_298]) (i := 0) 0 hO rfl rfl Try.underlying29 rfl ti29 rfl) rfl rfl ?_
   have Z22 := tM.ch.trans gu.ch
   replace fX := fX.ch Z22
   replace fY := fY.ch Z22
   replace eI := eI.ch Z22
   replace f0 := f0.ch Z22
   replace f5 := f5.ch Z22
   replace dP := dP.ch Z22
   refine GoQ.call rfl (op_call body31 rfl (walk_enumerate_Finished (e := (⟨k2_299, b2_300, l2_301, l2_305, l2_309, l2_313, l2_317, l2_321, k2_325⟩ : Enum)) hO.lt fX fY eI f0 f5 dP H)) (fun v w hr => by obtain ⟨_, _, hs, _⟩ := hr; assumption) rfl rfl ?_
   rintro aag aah ⟨r407, rfl, Ls, H⟩
   have mV := Stp.same hO Ls
   replace hO := mV.own
   have Z23 := gu.ch.trans mV.ch
   replace fS := fS.ch Z23
   replace dp := dp.ch Z23
   replace fT := fT.ch Z23
   replace fU := fU.ch Z23
   replace fV := fV.ch Z23
   replace fW := fW.ch Z23
   refine GoQ.call rfl (op_call body21 rfl (walk_ref12_Validate (e := (⟨k2_272, b2_273, l2_274, l2_278, l2_282, l2_286, l2_290, l2_294, k2_298⟩ : Enum)) hO.lt fS dp fT fU fV fW H)) (fun v w hr => by obtain ⟨_, _, hs, _⟩ := hr; assumption) rfl rfl ?_
   rintro aim OD ⟨r413, rfl, YG, H⟩
   have mW := Stp.same hO YG
   replace hO := mW.own
   by_cases M3 : r413 = (0 : Int)
   ·replace H := ifp M3 H
    refine GoQ.pure rfl (fun w => opB (op_eql rfl rfl w) (decide_eq_true M3)) rfl rfl ?_
    refine GoQ.pure rfl (op_move rfl) rfl rfl ?_
    refine GoQ.pure rfl (op_fieldAddr Try.underlying29 rfl ti3 rfl (by decide)) rfl rfl ?_
    refine GoQ.stable rfl (oblk (i := 8) 0 hO rfl rfl Try.underlying3 rfl rfl) rfl rfl ?_
    refine GoQ.pure rfl (op_fieldAddr Try.underlying29 rfl ti22 rfl (by decide)) rfl rfl ?_
    refine GoQ.stable rfl (oblk (i := 3) 0 hO rfl rfl Try.underlying22 rfl rfl) rfl rfl ?_
    refine GoQ.pure rfl (op_len Try.underlying22 rfl) rfl rfl ?_
    replace dp := dp.ch mW.ch
    replace H := H dp.bd
    by_cases M4 : k2_298 = (l2_278.length : Int)
    ·replace H := ifp M4 H
     refine GoQ.pure rfl (fun w => opB (op_eql rfl rfl w) (decide_eq_true M4)) rfl rfl ?_
     refine GoQ.pure rfl (op_pickT rfl rfl rfl) rfl rfl ?_
     cases r407
     ·replace H := ifn Bool.false_ne_true H
      refine GoQ.pure rfl (op_eqlB Try.underlying4 rfl rfl) rfl rfl ?_
      refine GoQ.pure rfl (op_pickT rfl rfl rfl) rfl rfl ?_
      refine GoQ.pure rfl (op_move rfl) rfl rfl ?_
      refine GoQ.pass rfl rfl rfl ?_
      refine GoQ.pure rfl (op_pickF rfl rfl rfl) rfl rfl ?_
      refine GoQ.pure rfl (op_assign rfl) rfl rfl ?_
      refine GoQ.nil ?_
      refine Go1.ret1 Try.func8 rfl ?_
      replace hB := (((((hB.trans eO.fr).trans jq.fr).trans tM.fr).trans gu.fr).trans mV.fr).trans mW.fr
      exact ⟨false, rfl, hB.same, H⟩
     replace H := ifp rfl H
     refine GoQ.pure rfl (op_eqlB Try.underlying4 rfl rfl) rfl rfl ?_
     refine GoQ.pure rfl (op_pickT rfl rfl rfl) rfl rfl ?_
     refine GoQ.pure rfl (op_move rfl) rfl rfl ?_
     refine GoQ.call rfl (op_call body16 rfl (walk_law12_awake hO.lt H)) (fun v w hr => by obtain ⟨_, _, hs, _⟩ := hr; assumption) rfl rfl ?_
     rintro ain aio ⟨r421, rfl, YH, H⟩
     have tN := Stp.same hO YH
     replace hO := tN.own
     refine GoQ.pure rfl (op_pickT rfl rfl rfl) rfl rfl ?_
     refine GoQ.pure rfl (op_assign rfl) rfl rfl ?_
     refine GoQ.nil ?_
     refine Go1.ret1 Try.func8 rfl ?_
     replace hB := ((((((hB.trans eO.fr).trans jq.fr).trans tM.fr).trans gu.fr).trans mV.fr).trans mW.fr).trans tN.fr
     exact ⟨r421, rfl, hB.same, H⟩
    replace H := ifn M4 H
    refine GoQ.pure rfl (fun w => opB (op_eql rfl rfl w) (decide_eq_false M4)) rfl rfl ?_
    refine GoQ.pure rfl (op_pickT rfl rfl rfl) rfl rfl ?_
    cases r407
    ·replace H := ifn Bool.false_ne_true H
     refine GoQ.pure rfl (op_eqlB Try.underlying4 rfl rfl) rfl rfl ?_
     refine GoQ.pure rfl (op_pickT rfl rfl rfl) rfl rfl ?_
     refine GoQ.pure rfl (op_move rfl) rfl rfl ?_
     refine GoQ.call rfl (op_call body16 rfl (walk_law12_awake hO.lt H)) (fun v w hr => by obtain ⟨_, _, hs, _⟩ := hr; assumption) rfl rfl ?_
     rintro aip aiq ⟨r427, rfl, YI, H⟩
     have gc := Stp.same hO YI
     replace hO := gc.own
     refine GoQ.pure rfl (op_pickT rfl rfl rfl) rfl rfl ?_
     refine GoQ.pure rfl (op_assign rfl) rfl rfl ?_
     refine GoQ.nil ?_
     refine Go1.ret1 Try.func8 rfl ?_
     replace hB := ((((((hB.trans eO.fr).trans jq.fr).trans tM.fr).trans gu.fr).trans mV.fr).trans mW.fr).trans gc.fr
     exact ⟨r427, rfl, hB.same, H⟩
    replace H := ifp rfl H
    refine GoQ.pure rfl (op_eqlB Try.underlying4 rfl rfl) rfl rfl ?_
    refine GoQ.pure rfl (op_pickT rfl rfl rfl) rfl rfl ?_
    refine GoQ.pure rfl (op_move rfl) rfl rfl ?_
    refine GoQ.pass rfl rfl rfl ?_
    refine GoQ.pure rfl (op_pickF rfl rfl rfl) rfl rfl ?_
    refine GoQ.pure rfl (op_assign rfl) rfl rfl ?_
    refine GoQ.nil ?_
    refine Go1.ret1 Try.func8 rfl ?_
    replace hB := (((((hB.trans eO.fr).trans jq.fr).trans tM.fr).trans gu.fr).trans mV.fr).trans mW.fr
    exact ⟨false, rfl, hB.same, H⟩
   replace H := ifn M3 H
   refine GoQ.pure rfl (fun w => opB (op_eql rfl rfl w) (decide_eq_false M3)) rfl rfl ?_
   refine GoQ.pure rfl (op_move rfl) rfl rfl ?_
   refine GoQ.pass rfl rfl rfl ?_
   refine GoQ.pass rfl rfl rfl ?_
   refine GoQ.pass rfl rfl rfl ?_
   refine GoQ.pass rfl rfl rfl ?_
   refine GoQ.pass rfl rfl rfl ?_
   refine GoQ.pass rfl rfl rfl ?_
   refine GoQ.pure rfl (op_pickF rfl rfl rfl) rfl rfl ?_
   cases r407
   ·replace H := ifn Bool.false_ne_true H
    refine GoQ.pure rfl (op_eqlB Try.underlying4 rfl rfl) rfl rfl ?_
    refine GoQ.pure rfl (op_pickT rfl rfl rfl) rfl rfl ?_
    refine GoQ.pure rfl (op_move rfl) rfl rfl ?_
    refine GoQ.call rfl (op_call body16 rfl (walk_law12_awake hO.lt H)) (fun v w hr => by obtain ⟨_, _, hs, _⟩ := hr; assumption) rfl rfl ?_
    rintro abI Ri ⟨r433, rfl, Mv, H⟩
    have lA := Stp.same hO Mv
    replace hO := lA.own
    refine GoQ.pure rfl (op_pickT rfl rfl rfl) rfl rfl ?_
    refine GoQ.pure rfl (op_assign rfl) rfl rfl ?_
    refine GoQ.nil ?_
    refine Go1.ret1 Try.func8 rfl ?_
    replace hB := ((((((hB.trans eO.fr).trans jq.fr).trans tM.fr).trans gu.fr).trans mV.fr).trans mW.fr).trans lA.fr
    exact ⟨r433, rfl, hB.same, H⟩
   replace H := ifp rfl H
   refine GoQ.pure rfl (op_eqlB Try.underlying4 rfl rfl) rfl rfl ?_
   refine GoQ.pure rfl (op_pickT rfl rfl rfl) rfl rfl ?_
   refine GoQ.pure rfl (op_move rfl) rfl rfl ?_
   refine GoQ.pass rfl rfl rfl ?_
   refine GoQ.pure rfl (op_pickF rfl rfl rfl) rfl rfl ?_
   refine GoQ.pure rfl (op_assign rfl) rfl rfl ?_
   refine GoQ.nil ?_
   refine Go1.ret1 Try.func8 rfl ?_
   replace hB := (((((hB.trans eO.fr).trans jq.fr).trans tM.fr).trans gu.fr).trans mV.fr).trans mW.fr
   exact ⟨false, rfl, hB.same, H⟩
  replace H := ifn M2 H
  refine GoQ.pure rfl (fun w => opB (op_eql rfl rfl w) (decide_eq_false M2)) rfl rfl ?_
  refine GoQ.pure rfl (op_pickT rfl rfl rfl) rfl rfl ?_
  refine GoQ.pure rfl (op_move rfl) rfl rfl ?_
  refine GoQ.pass rfl rfl rfl ?_
  refine GoQ.pass rfl rfl rfl ?_
  refine GoQ.pass rfl rfl rfl ?_
  refine GoQ.pass rfl rfl rfl ?_
  refine GoQ.pass rfl rfl rfl ?_
  refine GoQ.pass rfl rfl rfl ?_
  refine GoQ.pass rfl rfl rfl ?_
  refine GoQ.pass rfl rfl rfl ?_
  refine GoQ.pass rfl rfl rfl ?_
  refine GoQ.pass rfl rfl rfl ?_
  refine GoQ.pass rfl rfl rfl ?_
  refine GoQ.pass rfl rfl rfl ?_
  refine GoQ.pass rfl rfl rfl ?_
  refine GoQ.pass rfl rfl rfl ?_
  refine GoQ.pure rfl (op_pickF rfl rfl rfl) rfl rfl ?_
  refine GoQ.pure rfl (op_move rfl) rfl rfl ?_
  refine GoQ.pass rfl rfl rfl ?_
  refine GoQ.pure rfl (op_pickF rfl rfl rfl) rfl rfl ?_
  refine GoQ.pure rfl (op_assign rfl) rfl rfl ?_
  refine GoQ.nil ?_
  refine Go1.ret1 Try.func8 rfl ?_
  replace hB := (((hB.trans eO.fr).trans jq.fr).trans tM.fr).trans gu.fr
  exact ⟨false, rfl, hB.same, H⟩
 replace H := ifn M1 H
 refine GoQ.pure rfl (fun w => opB (op_eql rfl rfl w) (decide_eq_false M1)) rfl rfl ?_
 refine GoQ.pure rfl (op_move rfl) rfl rfl ?_
 refine GoQ.pass rfl rfl rfl ?_
 refine GoQ.pass rfl rfl rfl ?_
 refine GoQ.pass rfl rfl rfl ?_
 refine GoQ.pure rfl (op_pickF rfl rfl rfl) rfl rfl ?_
 refine GoQ.pure rfl (op_move rfl) rfl rfl ?_
 refine GoQ.pass rfl rfl rfl ?_
 refine GoQ.pass rfl rfl rfl ?_
 refine GoQ.pass rfl rfl rfl ?_
 refine GoQ.pass rfl rfl rfl ?_
 refine GoQ.pass rfl rfl rfl ?_
 refine GoQ.pure rfl (op_pickF rfl rfl rfl) rfl rfl ?_
 refine GoQ.pure rfl (op_move rfl) rfl rfl ?_
 refine GoQ.pass rfl rfl rfl ?_
 refine GoQ.pass rfl rfl rfl ?_
 refine GoQ.pass rfl rfl rfl ?_
 refine GoQ.pass rfl rfl rfl ?_
 refine GoQ.pass rfl rfl rfl ?_
 refine GoQ.pass rfl rfl rfl ?_
 refine GoQ.pass rfl rfl rfl ?_
 refine GoQ.pass rfl rfl rfl ?_
 refine GoQ.pass rfl rfl rfl ?_
 refine GoQ.pass rfl rfl rfl ?_
 refine GoQ.pass rfl rfl rfl ?_
 refine GoQ.pass rfl rfl rfl ?_
 refine GoQ.pass rfl rfl rfl ?_
 refine GoQ.pass rfl rfl rfl ?_
 refine GoQ.pure rfl (op_pickF rfl rfl rfl) rfl rfl ?_
 refine GoQ.pure rfl (op_move rfl) rfl rfl ?_
 refine GoQ.pass rfl rfl rfl ?_
 refine GoQ.pure rfl (op_pickF rfl rfl rfl) rfl rfl ?_
 refine GoQ.pure rfl (op_assign rfl) rfl rfl ?_
 refine GoQ.nil ?_
 refine Go1.ret1 Try.func8 rfl ?_
 replace hB := hB.trans eO.fr
 exact ⟨false, rfl, hB.same, H⟩
end Sg
