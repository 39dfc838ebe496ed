/- The walks: each call keeps to its plain transformer. Printed by walkgen.py. -/
import Derived.Test.YtjegjjdfgefkoaaTi
import Derived.Test.YtjegjjdfgefkoaaWEnumerateBuildsc
import Derived.Test.YtjegjjdfgefkoaaWEnumerateBuildsd
import Derived.Test.YtjegjjdfgefkoaaWEnumerateBuildse
import Derived.Test.YtjegjjdfgefkoaaWEnumerateBuildsf
import Derived.Test.YtjegjjdfgefkoaaAl
namespace Sg
open Go Go.RowKit Go.Proofs
set_option linter.unusedVariables false
set_option linter.unusedSimpArgs false
set_option maxRecDepth 100000
set_option maxHeartbeats 4000000
theorem body20 : Body Try.prog 20 := ⟨Try.f20, Try.func20, rfl, by kernel_rfl⟩
theorem walk_enumerate_Validate {A : List Nat} {w0 : World} {a8 : Option Addr} {a9 : Nat} {aC : Option Addr} {aD : Nat} {av : Option Addr} {aw : Nat} {aY : Option Addr} {a7 : Nat} {aE : Option Addr} {aF : Nat} {aG : Option Addr} {aH : Nat} {e : Enum} (hA : ∀ b ∈ A, b < w0.heap.size) (ak : ISl (Rp.sl (Rp.int .i64)) A w0 a8 a9 e.Gens) (af : ISl (Rp.sl (Rp.int .i64)) A w0 aC aD e.Elems) (ae : ISl (Rp.int .i64) A w0 av aw e.Prefix) (aj : ISl (Rp.int .i64) A w0 aY a7 e.Last) (ag : ISl (Rp.sl (Rp.int .i64)) A w0 aE aF e.Right) (ah : ISl (rpRule) A w0 aG aH e.Rules) {K : Int → Prop} (H : enumerate_Validate e K) :
    CallsV Try.prog 20 #[.agg #[.int .i64 e.Points, .bool e.Monoid, .slice a8 e.Gens.length a9, .slice aC e.Elems.length aD, .slice av e.Prefix.length aw, .slice aY e.Last.length a7, .slice aE e.Right.length aF, .slice aG e.Rules.length aH, .int .i64 e.Done]] w0 (fun v w' => ∃ (r0 : Int), v = .int .i64 r0 ∧ Same w0 w' ∧ K r0) := by
 refine CallsV.of (l := [.agg #[.int .i64 e.Points, .bool e.Monoid, .slice a8 e.Gens.length a9, .slice aC e.Elems.length aD, .slice av e.Prefix.length aw, .slice aY e.Last.length a7, .slice aE e.Right.length aF, .slice aG e.Rules.length aH, .int .i64 e.Done]]) Try.func20 rfl Try.ntmps20 rfl ?_
 have hO := Owns.start hA
 have hB := Fr.refl (bl []) w0
 unfold enumerate_Validate at H
 refine zq (zr ?_)
 have hobt := obox (t := 29) (v := .agg #[.int .i64 e.Points, .bool e.Monoid, .slice a8 e.Gens.length a9, .slice aC e.Elems.length aD, .slice av e.Prefix.length aw, .slice aY e.Last.length a7, .slice aE e.Right.length aF, .slice aG e.Rules.length aH, .int .i64 e.Done]) (cs := #[.int .i64 e.Points, .bool e.Monoid, .slice a8 e.Gens.length a9, .slice aC e.Elems.length aD, .slice av e.Prefix.length aw, .slice aY e.Last.length a7, .slice aE e.Right.length aF, .slice aG e.Rules.length aH, .int .i64 e.Done]) hO rfl
 obtain ⟨w1, B2, cQ, hs4, rh⟩ := hobt
 refine zg (rh rfl) ?_
 replace hO := cQ.own
 refine za rfl (zn (zq (zq (zr (zs (oblkAgg (vs := [.int .i64 e.Points, .bool e.Monoid, .slice a8 e.Gens.length a9, .slice aC e.Elems.length aD, .slice av e.Prefix.length aw, .slice aY e.Last.length a7, .slice aE e.Right.length aF, .slice aG e.Rules.length aH, .int .i64 e.Done]) (i := 0) 0 hO rfl rfl Try.underlying29 rfl ti29 rfl) ?_)))))
 have Z1 := (Ch.start A w0).trans cQ.ch
 replace ak := ak.ch Z1
 replace af := af.ch Z1
 replace ae := ae.ch Z1
 replace aj := aj.ch Z1
 replace ag := ag.ch Z1
 replace ah := ah.ch Z1
 refine GoR.call (op_call body53 rfl (walk_enumerate_replay (e := e) hO.lt ak af ae aj ag ah H)) rfl rfl ?_
 intro v9 w10 hcase13
 refine Or.elim hcase13 ?_ ?_
 ·refine exE fun r8 => andE fun hv14 => andE fun u3 => fun H => ?_
  subst hv14
  clear hcase13
  replace H := oElimN H
  have gq := Stp.same hO u3
  replace hO := gq.own
  refine zm rfl (zo (op_extract rfl rfl) (zo (op_extract rfl rfl) (za rfl (za rfl (zn ?_)))))
  refine zq (zr (zm rfl ?_))
  cases r8
  ·replace H := ifn Bool.false_ne_true H
   refine zo (op_not rfl) (zn (zt rfl rfl (zq (zr (za rfl ?_)))))
   refine zn ?_
   refine Go1.ret1 Try.func20 rfl ?_
   replace hB := (hB.trans cQ.fr).trans gq.fr
   exact ⟨(8 : Int), rfl, hB.same, H⟩
  replace H := ifp rfl H
  refine zo (op_not rfl) (zn (zf rfl rfl (zk (zq (zr ?_)))))
  refine za rfl (zn ?_)
  refine Go1.ret1 Try.func20 rfl ?_
  replace hB := (hB.trans cQ.fr).trans gq.fr
  exact ⟨(0 : Int), rfl, hB.same, H⟩
 ·refine exE fun r7 => exE fun r8 => exE fun eW => exE fun lh => exE fun iw => exE fun iA => exE fun ra => exE fun j8 => exE fun gH => exE fun gI => exE fun qi => exE fun ji => exE fun gm => exE fun gn => exE fun po => exE fun li => exE fun iB => exE fun iC => exE fun rb => exE fun j9 => exE fun gJ => exE fun gK => exE fun qj => exE fun ka => exE fun gL => exE fun gM => exE fun qk => exE fun ap => exE fun x4 => exE fun x5 => exE fun x6 => exE fun wN => exE fun wO => exE fun wP => exE fun wQ => exE fun u4 => exE fun wR => exE fun wS => exE fun wT => exE fun u5 => andE fun hv16 => andE fun u3 => andE fun hN12 => andE fun cR => andE fun cp => andE fun bV => andE fun cf => andE fun bN => andE fun bC => andE fun cz => andE fun cD => andE fun cE => fun H => ?_
  subst hv16
  clear hcase13
  replace H := oElimS H
  have lG := Stp.more hO u3 hN12
  dsimp only [List.cons_append, List.nil_append] at lG
  replace hO := lG.own
  replace cR := cR.ch (Ch.assoc _ _ _ _)
  dsimp only [List.cons_append, List.nil_append] at cR
  replace cp := cp.ch (Ch.assoc _ _ _ _)
  dsimp only [List.cons_append, List.nil_append] at cp
  replace bV := bV.ch (Ch.assoc _ _ _ _)
  dsimp only [List.cons_append, List.nil_append] at bV
  replace cf := cf.ch (Ch.assoc _ _ _ _)
  dsimp only [List.cons_append, List.nil_append] at cf
  replace bN := bN.ch (Ch.assoc _ _ _ _)
  dsimp only [List.cons_append, List.nil_append] at bN
  replace bC := bC.ch (Ch.assoc _ _ _ _)
  dsimp only [List.cons_append, List.nil_append] at bC
  replace cz := cz.ch (Ch.assoc _ _ _ _)
  dsimp only [List.cons_append, List.nil_append] at cz
  replace cD := cD.ch (Ch.assoc _ _ _ _)
  dsimp only [List.cons_append, List.nil_append] at cD
  replace cE := cE.ch (Ch.assoc _ _ _ _)
  dsimp only [List.cons_append, List.nil_append] at cE
  refine zm rfl (zo (op_extract rfl rfl) (zo (op_extract rfl rfl) (za rfl (za rfl (zn ?_)))))
  refine zq ?_
  refine Go1.cut [(4, .bool r8)] ⟨rfl, trivial⟩ ?_
  intro σ _
  refine zr (zm rfl ?_)
  cases r8
  ·replace H := ifn Bool.false_ne_true H
   refine zo (op_not rfl) (zn (zt rfl rfl (zq (zr (za rfl ?_)))))
   refine zn ?_
   refine Go1.ret1 Try.func20 rfl ?_
   replace hB := (hB.trans cQ.fr).trans lG.fr
   exact ⟨(8 : Int), rfl, hB.same, H⟩
  replace H := ifp rfl H
  refine zo (op_not rfl) (zn (zf rfl rfl (zk (zq (zr ?_)))))
  refine za rfl (zn ?_)
  refine Go1.ret1 Try.func20 rfl ?_
  replace hB := (hB.trans cQ.fr).trans lG.fr
  exact ⟨(0 : Int), rfl, hB.same, H⟩
theorem body21 : Body Try.prog 21 := ⟨Try.f21, Try.func21, rfl, by kernel_rfl⟩
theorem walk_ref12_Validate {A : List Nat} {w0 : World} {a8 : Option Addr} {a9 : Nat} {aC : Option Addr} {aD : Nat} {av : Option Addr} {aw : Nat} {aY : Option Addr} {a7 : Nat} {aE : Option Addr} {aF : Nat} {aG : Option Addr} {aH : Nat} {e : Enum} (hA : ∀ b ∈ A, b < w0.heap.size) (ak : ISl (Rp.sl (Rp.int .i64)) A w0 a8 a9 e.Gens) (af : ISl (Rp.sl (Rp.int .i64)) A w0 aC aD e.Elems) (ae : ISl (Rp.int .i64) A w0 av aw e.Prefix) (aj : ISl (Rp.int .i64) A w0 aY a7 e.Last) (ag : ISl (Rp.sl (Rp.int .i64)) A w0 aE aF e.Right) (ah : ISl (rpRule) A w0 aG aH e.Rules) {K : Int → Prop} (H : ref12_Validate e K) :
    CallsV Try.prog 21 #[.agg #[.int .i64 e.Points, .bool e.Monoid, .slice a8 e.Gens.length a9, .slice aC e.Elems.length aD, .slice av e.Prefix.length aw, .slice aY e.Last.length a7, .slice aE e.Right.length aF, .slice aG e.Rules.length aH, .int .i64 e.Done]] w0 (fun v w' => ∃ (r0 : Int), v = .int .i64 r0 ∧ Same w0 w' ∧ K r0) := by
 refine CallsV.of (l := [.agg #[.int .i64 e.Points, .bool e.Monoid, .slice a8 e.Gens.length a9, .slice aC e.Elems.length aD, .slice av e.Prefix.length aw, .slice aY e.Last.length a7, .slice aE e.Right.length aF, .slice aG e.Rules.length aH, .int .i64 e.Done]]) Try.func21 rfl Try.ntmps21 rfl ?_
 have hO := Owns.start hA
 have hB := Fr.refl (bl []) w0
 unfold ref12_Validate at H
 refine zq (zr ?_)
 have hobt := obox (t := 29) (v := .agg #[.int .i64 e.Points, .bool e.Monoid, .slice a8 e.Gens.length a9, .slice aC e.Elems.length aD, .slice av e.Prefix.length aw, .slice aY e.Last.length a7, .slice aE e.Right.length aF, .slice aG e.Rules.length aH, .int .i64 e.Done]) (cs := #[.int .i64 e.Points, .bool e.Monoid, .slice a8 e.Gens.length a9, .slice aC e.Elems.length aD, .slice av e.Prefix.length aw, .slice aY e.Last.length a7, .slice aE e.Right.length aF, .slice aG e.Rules.length aH, .int .i64 e.Done]) hO rfl
 obtain ⟨w1, B2, cQ, hs4, rh⟩ := hobt
 refine zg (rh rfl) ?_
 replace hO := cQ.own
 refine za rfl (zn (zq (zq (zr (zo (op_fieldAddr Try.underlying29 rfl ti22 rfl (by decide)) ?_)))))
 refine zs (oblk (i := 3) 0 hO rfl rfl Try.underlying22 rfl rfl) (zo (op_len Try.underlying22 rfl) ?_)
 replace af := (af.ch (Ch.start A w0)).ch cQ.ch
 replace H := H af.bd
 by_cases h7 : (2000 : Int) < (e.Elems.length : Int)
 ·replace H := ifp h7 H
  refine zo (fun w => opB (op_gtr rfl rfl w) (decide_eq_true h7)) (zm rfl (zp (zp (zp (zo (op_pickT rfl rfl rfl) ?_)))))
  refine zm rfl (zp (zp (zp (zp (zp ?_)))))
  refine zp (zo (op_pickT rfl rfl rfl) (zn (zt rfl rfl (zq ?_))))
  refine Go1.cut [] trivial ?_
  intro σ _
  refine zr (za rfl (zn ?_))
  refine Go1.ret1 Try.func21 rfl ?_
  replace hB := hB.trans cQ.fr
  exact ⟨(8 : Int), rfl, hB.same, H⟩
 replace H := ifn h7 H
 refine zo (fun w => opB (op_gtr rfl rfl w) (decide_eq_false h7)) (zm rfl (zo (op_fieldAddr Try.underlying29 rfl ti3 rfl (by decide)) (zs (oblk (i := 8) 0 hO rfl rfl Try.underlying3 rfl rfl) ?_)))
 by_cases h8 : e.Done < (0 : Int)
 ·replace H := ifp h8 H
  refine zo (fun w => opB (op_lss rfl rfl w) (decide_eq_true h8)) (zo (op_pickF rfl rfl rfl) (zm rfl (zp (zp (zp ?_)))))
  refine zp (zp (zp (zo (op_pickT rfl rfl rfl) (zn (zt rfl rfl ?_)))))
  refine zq (zr (za rfl (zn ?_)))
  refine Go1.ret1 Try.func21 rfl ?_
  replace hB := hB.trans cQ.fr
  exact ⟨(8 : Int), rfl, hB.same, H⟩
 replace H := ifn h8 H
 refine zo (fun w => opB (op_lss rfl rfl w) (decide_eq_false h8)) (zo (op_pickF rfl rfl rfl) (zm rfl (zo (op_fieldAddr Try.underlying29 rfl ti3 rfl (by decide)) (zs (oblk (i := 8) 0 hO rfl rfl Try.underlying3 rfl rfl) (zo (op_fieldAddr Try.underlying29 rfl ti22 rfl (by decide)) ?_)))))
 refine zs (oblk (i := 3) 0 hO rfl rfl Try.underlying22 rfl rfl) (zo (op_len Try.underlying22 rfl) ?_)
 by_cases h9 : (e.Elems.length : Int) < e.Done
 ·replace H := ifp h9 H
  refine zo (fun w => opB (op_gtr rfl rfl w) (decide_eq_true h9)) (zo (op_pickF rfl rfl rfl) (zn (zt rfl rfl (zq ?_))))
  refine Go1.cut [] trivial ?_
  intro σ _
  refine zr (za rfl (zn ?_))
  refine Go1.ret1 Try.func21 rfl ?_
  replace hB := hB.trans cQ.fr
  exact ⟨(8 : Int), rfl, hB.same, H⟩
 replace H := ifn h9 H
 refine zo (fun w => opB (op_gtr rfl rfl w) (decide_eq_false h9)) (zo (op_pickF rfl rfl rfl) (zn (zf rfl rfl (zk (zq ?_)))))
 refine zr (zo (op_fieldAddr Try.underlying29 rfl ti22 rfl (by decide)) (zs (oblk (i := 2) 0 hO rfl rfl Try.underlying22 rfl rfl) (zo (op_fieldAddr Try.underlying29 rfl ti4 rfl (by decide)) (zs (oblk (i := 1) 0 hO rfl rfl Try.underlying4 rfl rfl) ?_))))
 replace ak := (ak.ch (Ch.start A w0)).ch cQ.ch
 refine GoR.call (op_call body22 rfl (walk_ref12_Start hO.lt ak H)) rfl rfl ?_
 rintro v15 w12 ⟨r10, r11, G4, G5, EK, EL, Cx, Cy, G6, G7, EM, EO, EP, EQ, rfl, acx, pc, m6, mb, pe, m7, m8, H⟩
 have Ep := Stp.same hO acx
 replace hO := Ep.own
 refine zm rfl (zo (op_extract rfl rfl) (zo (op_extract rfl rfl) ?_))
 have hobt := oalloc (t := 29) (cs := #[.int .i64 (0 : Int), .bool false, .slice none 0 0, .slice none 0 0, .slice none 0 0, .slice none 0 0, .slice none 0 0, .slice none 0 0, .int .i64 (0 : Int)]) ti29 hO rfl
 obtain ⟨w17, B18, rY, Ru, XP⟩ := hobt
 refine GoR.op XP rfl rfl ?_
 replace hO := rY.own
 have hobt := oblkStAgg (us := [.int .i64 r10.Points, .bool r10.Monoid, .slice G4 r10.Gens.length G5, .slice EK r10.Elems.length EL, .slice Cx r10.Prefix.length Cy, .slice G6 r10.Last.length G7, .slice EM r10.Right.length EO, .slice EP r10.Rules.length EQ, .int .i64 r10.Done]) (o := 0) (cs' := #[.int .i64 r10.Points, .bool r10.Monoid, .slice G4 r10.Gens.length G5, .slice EK r10.Elems.length EL, .slice Cx r10.Prefix.length Cy, .slice G6 r10.Last.length G7, .slice EM r10.Right.length EO, .slice EP r10.Rules.length EQ, .int .i64 r10.Done]) 0 hO rfl rfl (Nat.le_of_ble_eq_true rfl) rfl
 obtain ⟨w23, xz, Gd⟩ := hobt
 refine zg (Gd ti29 (by exact rfl) (by exact rfl) rfl) ?_
 replace hO := xz.own
 refine za rfl (zn (zq (zq (zr (zm rfl ?_)))))
 by_cases h26 : r11 = (0 : Int)
 ·replace H := ifp h26 H
  refine zo (fun w => opB (op_neq rfl rfl w) (ndT h26)) (zn (zf rfl rfl (zk (zq (zr ?_)))))
  refine zs (oblkAgg (vs := [.int .i64 r10.Points, .bool r10.Monoid, .slice G4 r10.Gens.length G5, .slice EK r10.Elems.length EL, .slice Cx r10.Prefix.length Cy, .slice G6 r10.Last.length G7, .slice EM r10.Right.length EO, .slice EP r10.Rules.length EQ, .int .i64 r10.Done]) (i := 0) 0 hO rfl rfl Try.underlying29 rfl ti29 rfl) (zo (op_fieldAddr Try.underlying29 rfl ti3 rfl (by decide)) (zs (oblk (i := 8) 1 hO rfl rfl Try.underlying3 rfl rfl) ?_))
  have Z1 := rY.ch.trans xz.ch
  replace pc := pc.ch Z1
  replace m6 := m6.ch Z1
  replace mb := mb.ch Z1
  replace pe := pe.ch Z1
  replace m7 := m7.ch Z1
  replace m8 := m8.ch Z1
  refine GoR.call (op_call body52 rfl (walk_ref12_process (a0 := r10) hO.lt pc m6 mb pe m7 m8 H)) rfl rfl ?_
  rintro v32 w29 ⟨r27, r28, G8, G9, ER, ES, Cz, CA, Ha, Hb, ET, EU, EV, EW, rfl, acy, Ac, yE, xN, Ad, yF, yG, H⟩
  have xA := Stp.same hO acy
  replace hO := xA.own
  refine zm rfl (zo (op_extract rfl rfl) (zo (op_extract rfl rfl) ?_))
  have hobt := oblkStAgg (us := [.int .i64 r27.Points, .bool r27.Monoid, .slice G8 r27.Gens.length G9, .slice ER r27.Elems.length ES, .slice Cz r27.Prefix.length CA, .slice Ha r27.Last.length Hb, .slice ET r27.Right.length EU, .slice EV r27.Rules.length EW, .int .i64 r27.Done]) (o := 0) (cs' := #[.int .i64 r27.Points, .bool r27.Monoid, .slice G8 r27.Gens.length G9, .slice ER r27.Elems.length ES, .slice Cz r27.Prefix.length CA, .slice Ha r27.Last.length Hb, .slice ET r27.Right.length EU, .slice EV r27.Rules.length EW, .int .i64 r27.Done]) 0 hO rfl rfl (Nat.le_of_ble_eq_true rfl) rfl
  obtain ⟨w34, e9, Gv⟩ := hobt
  refine zg (Gv ti29 (by exact rfl) (by exact rfl) rfl) ?_
  replace hO := e9.own
  refine za rfl (zn (zq (zq ?_)))
  refine Go1.cut [(1, .pointer (some ⟨B2, 0, none⟩)), (3, .pointer (some ⟨B18, 0, none⟩)), (4, .int .i64 r28)] ⟨rfl, rfl, rfl, trivial⟩ ?_
  intro σ _
  refine zr (zm rfl ?_)
  by_cases h37 : r28 = (0 : Int)
  ·replace H := ifp h37 H
   refine zo (fun w => opB (op_neq rfl rfl w) (ndT h37)) (zm rfl (zs (oblkAgg (vs := [.int .i64 r27.Points, .bool r27.Monoid, .slice G8 r27.Gens.length G9, .slice ER r27.Elems.length ES, .slice Cz r27.Prefix.length CA, .slice Ha r27.Last.length Hb, .slice ET r27.Right.length EU, .slice EV r27.Rules.length EW, .int .i64 r27.Done]) (i := 0) 0 hO rfl rfl Try.underlying29 rfl ti29 rfl) (zs (oblkAgg (vs := [.int .i64 e.Points, .bool e.Monoid, .slice a8 e.Gens.length a9, .slice aC e.Elems.length aD, .slice av e.Prefix.length aw, .slice aY e.Last.length a7, .slice aE e.Right.length aF, .slice aG e.Rules.length aH, .int .i64 e.Done]) (i := 0) 1 hO rfl rfl Try.underlying29 rfl ti29 rfl) ?_)))
   replace Ac := Ac.ch e9.ch
   replace yE := yE.ch e9.ch
   replace xN := xN.ch e9.ch
   replace Ad := Ad.ch e9.ch
   replace yF := yF.ch e9.ch
   replace yG := yG.ch e9.ch
   have Z2 := (((Ep.ch.trans rY.ch).trans xz.ch).trans xA.ch).trans e9.ch
   replace ak := ak.ch Z2
   replace af := af.ch Z2
   have Z3 := ((((((Ch.start A w0).trans cQ.ch).trans Ep.ch).trans rY.ch).trans xz.ch).trans xA.ch).trans e9.ch
   replace ae := ae.ch Z3
   replace aj := aj.ch Z3
   replace ag := ag.ch Z3
   replace ah := ah.ch Z3
   refine GoR.call (op_call body19 rfl (walk_ref12_Same (a0 := r27) (a1 := e) hO.lt Ac yE xN Ad yF yG ak af ae aj ag ah H)) rfl rfl ?_
   rintro v42 w39 ⟨r38, rfl, S0, H⟩
   have gP := Stp.same hO S0
   replace hO := gP.own
   cases r38
   ·replace H := ifn Bool.false_ne_true H
    refine zo (op_not rfl) (zo (op_pickF rfl rfl rfl) (zn (zt rfl rfl (zq (zr ?_)))))
    refine za rfl (zn ?_)
    refine Go1.ret1 Try.func21 rfl ?_
    replace hB := ((((((hB.trans cQ.fr).trans Ep.fr).trans rY.fr).trans xz.fr).trans xA.fr).trans e9.fr).trans gP.fr
    exact ⟨(8 : Int), rfl, hB.same, H⟩
   replace H := ifp rfl H
   refine zo (op_not rfl) (zo (op_pickF rfl rfl rfl) (zn (zf rfl rfl (zk (zq ?_)))))
   refine zr (za rfl (zn ?_))
   refine Go1.ret1 Try.func21 rfl ?_
   replace hB := ((((((hB.trans cQ.fr).trans Ep.fr).trans rY.fr).trans xz.fr).trans xA.fr).trans e9.fr).trans gP.fr
   exact ⟨(0 : Int), rfl, hB.same, H⟩
  replace H := ifn h37 H
  refine zo (fun w => opB (op_neq rfl rfl w) (ndF h37)) (zm rfl (zp (zp (zp (zp ?_)))))
  refine zo (op_pickT rfl rfl rfl) (zn (zt rfl rfl (zq ?_)))
  refine Go1.cut [] trivial ?_
  intro σ _
  refine zr (za rfl (zn ?_))
  refine Go1.ret1 Try.func21 rfl ?_
  replace hB := (((((hB.trans cQ.fr).trans Ep.fr).trans rY.fr).trans xz.fr).trans xA.fr).trans e9.fr
  exact ⟨(8 : Int), rfl, hB.same, H⟩
 replace H := ifn h26 H
 refine zo (fun w => opB (op_neq rfl rfl w) (ndF h26)) (zn (zt rfl rfl (zq (zr (za rfl ?_)))))
 refine zn ?_
 refine Go1.ret1 Try.func21 rfl ?_
 replace hB := (((hB.trans cQ.fr).trans Ep.fr).trans rY.fr).trans xz.fr
 exact ⟨(8 : Int), rfl, hB.same, H⟩
theorem body23 : Body Try.prog 23 := ⟨Try.f23, Try.func23, rfl, by kernel_rfl⟩
theorem walk_ref12_Step {A : List Nat} {w0 : World} {a8 : Option Addr} {a9 : Nat} {aC : Option Addr} {aD : Nat} {av : Option Addr} {aw : Nat} {aY : Option Addr} {a7 : Nat} {aE : Option Addr} {aF : Nat} {aG : Option Addr} {aH : Nat} {e : Enum} {budget : Int} (hA : ∀ b ∈ A, b < w0.heap.size) (ak : ISl (Rp.sl (Rp.int .i64)) A w0 a8 a9 e.Gens) (af : ISl (Rp.sl (Rp.int .i64)) A w0 aC aD e.Elems) (ae : ISl (Rp.int .i64) A w0 av aw e.Prefix) (aj : ISl (Rp.int .i64) A w0 aY a7 e.Last) (ag : ISl (Rp.sl (Rp.int .i64)) A w0 aE aF e.Right) (ah : ISl (rpRule) A w0 aG aH e.Rules) {K : Enum → Int → Prop} (H : ref12_Step e budget K) :
    CallsV Try.prog 23 #[.agg #[.int .i64 e.Points, .bool e.Monoid, .slice a8 e.Gens.length a9, .slice aC e.Elems.length aD, .slice av e.Prefix.length aw, .slice aY e.Last.length a7, .slice aE e.Right.length aF, .slice aG e.Rules.length aH, .int .i64 e.Done], .int .i64 budget] w0 (fun v w' => ∃ (r0 : Enum), ∃ (r1 : Int), ∃ (kj : Option Addr), ∃ (kl : Nat), ∃ (iI : Option Addr), ∃ (iJ : Nat), ∃ (gA : Option Addr), ∃ (gB : Nat), ∃ (km : Option Addr), ∃ (kn : Nat), ∃ (iK : Option Addr), ∃ (iL : Nat), ∃ (iM : Option Addr), ∃ (iN : Nat), v = .tuple #[.agg #[.int .i64 r0.Points, .bool r0.Monoid, .slice kj r0.Gens.length kl, .slice iI r0.Elems.length iJ, .slice gA r0.Prefix.length gB, .slice km r0.Last.length kn, .slice iK r0.Right.length iL, .slice iM r0.Rules.length iN, .int .i64 r0.Done], .int .i64 r1] ∧ Same w0 w' ∧ ISl (Rp.sl (Rp.int .i64)) A w' kj kl r0.Gens ∧ ISl (Rp.sl (Rp.int .i64)) A w' iI iJ r0.Elems ∧ ISl (Rp.int .i64) A w' gA gB r0.Prefix ∧ ISl (Rp.int .i64) A w' km kn r0.Last ∧ ISl (Rp.sl (Rp.int .i64)) A w' iK iL r0.Right ∧ ISl (rpRule) A w' iM iN r0.Rules ∧ K r0 r1) := by
 refine CallsV.of (l := [.agg #[.int .i64 e.Points, .bool e.Monoid, .slice a8 e.Gens.length a9, .slice aC e.Elems.length aD, .slice av e.Prefix.length aw, .slice aY e.Last.length a7, .slice aE e.Right.length aF, .slice aG e.Rules.length aH, .int .i64 e.Done], .int .i64 budget]) Try.func23 rfl Try.ntmps23 rfl ?_
 have hO := Owns.start hA
 have hB := Fr.refl (bl []) w0
 unfold ref12_Step at H
 refine zq (zr ?_)
 have hobt := obox (t := 29) (v := .agg #[.int .i64 e.Points, .bool e.Monoid, .slice a8 e.Gens.length a9, .slice aC e.Elems.length aD, .slice av e.Prefix.length aw, .slice aY e.Last.length a7, .slice aE e.Right.length aF, .slice aG e.Rules.length aH, .int .i64 e.Done]) (cs := #[.int .i64 e.Points, .bool e.Monoid, .slice a8 e.Gens.length a9, .slice aC e.Elems.length aD, .slice av e.Prefix.length aw, .slice aY e.Last.length a7, .slice aE e.Right.length aF, .slice aG e.Rules.length aH, .int .i64 e.Done]) hO rfl
 obtain ⟨w1, B2, cQ, hs4, rh⟩ := hobt
 refine zg (rh rfl) ?_
 replace hO := cQ.own
 have hobt := oalloc (t := 29) (cs := #[.int .i64 (0 : Int), .bool false, .slice none 0 0, .slice none 0 0, .slice none 0 0, .slice none 0 0, .slice none 0 0, .slice none 0 0, .int .i64 (0 : Int)]) ti29 hO rfl
 obtain ⟨w7, B8, iq, Hn, BI⟩ := hobt
 refine GoR.op BI rfl rfl ?_
 replace hO := iq.own
 refine za rfl (zn (zq (zq (zr (zs (oblkAgg (vs := [.int .i64 e.Points, .bool e.Monoid, .slice a8 e.Gens.length a9, .slice aC e.Elems.length aD, .slice av e.Prefix.length aw, .slice aY e.Last.length a7, .slice aE e.Right.length aF, .slice aG e.Rules.length aH, .int .i64 e.Done]) (i := 0) 1 hO rfl rfl Try.underlying29 rfl ti29 rfl) ?_)))))
 have Z1 := ((Ch.start A w0).trans cQ.ch).trans iq.ch
 replace ak := ak.ch Z1
 replace af := af.ch Z1
 replace ae := ae.ch Z1
 replace aj := aj.ch Z1
 replace ag := ag.ch Z1
 replace ah := ah.ch Z1
 refine GoR.call (op_call body21 rfl (walk_ref12_Validate (e := e) hO.lt ak af ae aj ag ah H)) rfl rfl ?_
 rintro v17 w14 ⟨r13, rfl, acz, H⟩
 have mO := Stp.same hO acz
 replace hO := mO.own
 refine za rfl (zn (zq (zr (zm rfl ?_))))
 by_cases h19 : r13 = (0 : Int)
 ·replace H := ifp h19 H
  refine zo (fun w => opB (op_neq rfl rfl w) (ndT h19)) (zn (zf rfl rfl (zk (zq (zq ?_)))))
  refine zr (zm rfl ?_)
  by_cases h20 : budget < (0 : Int)
  ·replace H := ifp h20 H
   refine zo (fun w => opB (op_lss rfl rfl w) (decide_eq_true h20)) (zn (zt rfl rfl (zq (zr (zo (op_build Try.underlying29 ti29 (pl := [(0, 1), (1, 1), (2, 1), (3, 1), (4, 1), (5, 1), (6, 1), (7, 1), (8, 1)]) (vs := []) (cs := #[.int .i64 (0 : Int), .bool false, .slice none 0 0, .slice none 0 0, .slice none 0 0, .slice none 0 0, .slice none 0 0, .slice none 0 0, .int .i64 (0 : Int)]) (by kernel_rfl) rfl (by kernel_rfl)) ?_)))))
   have hobt := oblkStAgg (us := [.int .i64 (0 : Int), .bool false, .slice none 0 0, .slice none 0 0, .slice none 0 0, .slice none 0 0, .slice none 0 0, .slice none 0 0, .int .i64 (0 : Int)]) (o := 0) (cs' := #[.int .i64 (0 : Int), .bool false, .slice none 0 0, .slice none 0 0, .slice none 0 0, .slice none 0 0, .slice none 0 0, .slice none 0 0, .int .i64 (0 : Int)]) 0 hO rfl rfl (Nat.le_of_ble_eq_true rfl) rfl
   obtain ⟨w21, d9, Ge⟩ := hobt
   refine zg (Ge ti29 (by exact rfl) (by exact rfl) rfl) ?_
   replace hO := d9.own
   refine za rfl (zn ?_)
   refine Go1.retC2 Try.func23 rfl rfl (run_loadBlk (vs := [.int .i64 (0 : Int), .bool false, .slice none 0 0, .slice none 0 0, .slice none 0 0, .slice none 0 0, .slice none 0 0, .slice none 0 0, .int .i64 (0 : Int)]) 0 hO rfl rfl Try.underlying29 rfl ti29) ?_
   replace hB := (((hB.trans cQ.fr).trans iq.fr).trans mO.fr).trans d9.fr
   exact ⟨(⟨(0 : Int), false, ([] : List (List Int)), ([] : List (List Int)), ([] : List Int), ([] : List Int), ([] : List (List Int)), ([] : List Rule), (0 : Int)⟩ : Enum), (1 : Int), none, 0, none, 0, none, 0, none, 0, none, 0, none, 0, rfl, hB.same, (ISl.null _ _ _), (ISl.null _ _ _), (ISl.null _ _ _), (ISl.null _ _ _), (ISl.null _ _ _), (ISl.null _ _ _), H⟩
  replace H := ifn h20 H
  refine zo (fun w => opB (op_lss rfl rfl w) (decide_eq_false h20)) (zn (zf rfl rfl (zk (zq (zr ?_)))))
  refine zs (oblkAgg (vs := [.int .i64 e.Points, .bool e.Monoid, .slice a8 e.Gens.length a9, .slice aC e.Elems.length aD, .slice av e.Prefix.length aw, .slice aY e.Last.length a7, .slice aE e.Right.length aF, .slice aG e.Rules.length aH, .int .i64 e.Done]) (i := 0) 1 hO rfl rfl Try.underlying29 rfl ti29 rfl) (zm rfl ?_)
  replace ak := ak.ch mO.ch
  replace af := af.ch mO.ch
  replace ae := ae.ch mO.ch
  replace aj := aj.ch mO.ch
  replace ag := ag.ch mO.ch
  replace ah := ah.ch mO.ch
  refine GoR.call (op_call body52 rfl (walk_ref12_process (a0 := e) hO.lt ak af ae aj ag ah H)) rfl rfl ?_
  rintro v29 w26 ⟨r24, r25, BX, BY, AM, AO, Ae, Af, B1, B3, AP, AQ, AR, AT, rfl, acA, Hc, EX, CB, He, EY, E0, H⟩
  have Er := Stp.same hO acA
  replace hO := Er.own
  refine zo (op_extract rfl rfl) (zo (op_extract rfl rfl) ?_)
  have hobt := oblkStAgg (us := [.int .i64 r24.Points, .bool r24.Monoid, .slice BX r24.Gens.length BY, .slice AM r24.Elems.length AO, .slice Ae r24.Prefix.length Af, .slice B1 r24.Last.length B3, .slice AP r24.Right.length AQ, .slice AR r24.Rules.length AT, .int .i64 r24.Done]) (o := 0) (cs' := #[.int .i64 r24.Points, .bool r24.Monoid, .slice BX r24.Gens.length BY, .slice AM r24.Elems.length AO, .slice Ae r24.Prefix.length Af, .slice B1 r24.Last.length B3, .slice AP r24.Right.length AQ, .slice AR r24.Rules.length AT, .int .i64 r24.Done]) 0 hO rfl rfl (Nat.le_of_ble_eq_true rfl) rfl
  obtain ⟨w31, xB, XQ⟩ := hobt
  refine zg (XQ ti29 (by exact rfl) (by exact rfl) rfl) ?_
  replace hO := xB.own
  refine za rfl (zn ?_)
  refine Go1.retC2 Try.func23 rfl rfl (run_loadBlk (vs := [.int .i64 r24.Points, .bool r24.Monoid, .slice BX r24.Gens.length BY, .slice AM r24.Elems.length AO, .slice Ae r24.Prefix.length Af, .slice B1 r24.Last.length B3, .slice AP r24.Right.length AQ, .slice AR r24.Rules.length AT, .int .i64 r24.Done]) 0 hO rfl rfl Try.underlying29 rfl ti29) ?_
  replace Hc := Hc.ch xB.ch
  replace EX := EX.ch xB.ch
  replace CB := CB.ch xB.ch
  replace He := He.ch xB.ch
  replace EY := EY.ch xB.ch
  replace E0 := E0.ch xB.ch
  replace hB := ((((hB.trans cQ.fr).trans iq.fr).trans mO.fr).trans Er.fr).trans xB.fr
  exact ⟨(⟨r24.Points, r24.Monoid, r24.Gens, r24.Elems, r24.Prefix, r24.Last, r24.Right, r24.Rules, r24.Done⟩ : Enum), r25, BX, BY, AM, AO, Ae, Af, B1, B3, AP, AQ, AR, AT, rfl, hB.same, (Hc.ch (Ch.weak _ _ _)), (EX.ch (Ch.weak _ _ _)), (CB.ch (Ch.weak _ _ _)), (He.ch (Ch.weak _ _ _)), (EY.ch (Ch.weak _ _ _)), (E0.ch (Ch.weak _ _ _)), H⟩
 replace H := ifn h19 H
 refine zo (fun w => opB (op_neq rfl rfl w) (ndF h19)) (zn (zt rfl rfl (zq ?_)))
 refine Go1.cut [(4, .pointer (some ⟨B8, 0, none⟩)), (6, .int .i64 r13)] ⟨rfl, rfl, trivial⟩ ?_
 intro σ _
 refine zr (zo (op_build Try.underlying29 ti29 (pl := [(0, 1), (1, 1), (2, 1), (3, 1), (4, 1), (5, 1), (6, 1), (7, 1), (8, 1)]) (vs := []) (cs := #[.int .i64 (0 : Int), .bool false, .slice none 0 0, .slice none 0 0, .slice none 0 0, .slice none 0 0, .slice none 0 0, .slice none 0 0, .int .i64 (0 : Int)]) (by kernel_rfl) rfl (by kernel_rfl)) (zm rfl ?_))
 have hobt := oblkStAgg (us := [.int .i64 (0 : Int), .bool false, .slice none 0 0, .slice none 0 0, .slice none 0 0, .slice none 0 0, .slice none 0 0, .slice none 0 0, .int .i64 (0 : Int)]) (o := 0) (cs' := #[.int .i64 (0 : Int), .bool false, .slice none 0 0, .slice none 0 0, .slice none 0 0, .slice none 0 0, .slice none 0 0, .slice none 0 0, .int .i64 (0 : Int)]) 0 hO rfl rfl (Nat.le_of_ble_eq_true rfl) rfl
 obtain ⟨w34, e9, Gv⟩ := hobt
 refine zg (Gv ti29 (by exact rfl) (by exact rfl) rfl) ?_
 replace hO := e9.own
 refine za rfl (zn ?_)
 refine Go1.retC2 Try.func23 rfl rfl (run_loadBlk (vs := [.int .i64 (0 : Int), .bool false, .slice none 0 0, .slice none 0 0, .slice none 0 0, .slice none 0 0, .slice none 0 0, .slice none 0 0, .int .i64 (0 : Int)]) 0 hO rfl rfl Try.underlying29 rfl ti29) ?_
 replace hB := (((hB.trans cQ.fr).trans iq.fr).trans mO.fr).trans e9.fr
 exact ⟨(⟨(0 : Int), false, ([] : List (List Int)), ([] : List (List Int)), ([] : List Int), ([] : List Int), ([] : List (List Int)), ([] : List Rule), (0 : Int)⟩ : Enum), r13, none, 0, none, 0, none, 0, none, 0, none, 0, none, 0, rfl, hB.same, (ISl.null _ _ _), (ISl.null _ _ _), (ISl.null _ _ _), (ISl.null _ _ _), (ISl.null _ _ _), (ISl.null _ _ _), H⟩
end Sg
