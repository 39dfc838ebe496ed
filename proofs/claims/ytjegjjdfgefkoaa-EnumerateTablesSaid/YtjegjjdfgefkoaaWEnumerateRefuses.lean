/- The walks: each call keeps to its plain transformer. Printed by walkgen.py. -/
import Derived.Test.YtjegjjdfgefkoaaTi
import Derived.Test.YtjegjjdfgefkoaaWEnumerateBuildsd
import Derived.Test.YtjegjjdfgefkoaaWEnumerateBuildse
import Derived.Test.YtjegjjdfgefkoaaWEnumerateBuildsf
import Derived.Test.YtjegjjdfgefkoaaAl
namespace Sg
open Go Go.RowKit Go.Proofs
set_option linter.unusedVariables false
set_option linter.unusedSimpArgs false
set_option maxRecDepth 100000
set_option maxHeartbeats 4000000
theorem body21 : Body Try.prog 21 := ⟨Try.f21, Try.func21, rfl, by kernel_rfl⟩
theorem walk_ref12_Validate {A : List Nat} {w0 : World} {aD : Option Addr} {aE : Nat} {av : Option Addr} {aw : Nat} {ap : Option Addr} {aq : Nat} {aF : Option Addr} {aG : Nat} {ax : Option Addr} {ay : Nat} {az : Option Addr} {aA : Nat} {e : Enum} (hA : ∀ b ∈ A, b < w0.heap.size) (ai : ISl (Rp.sl (Rp.int .i64)) A w0 aD aE e.Gens) (af : ISl (Rp.sl (Rp.int .i64)) A w0 av aw e.Elems) (ad : ISl (Rp.int .i64) A w0 ap aq e.Prefix) (aj : ISl (Rp.int .i64) A w0 aF aG e.Last) (ag : ISl (Rp.sl (Rp.int .i64)) A w0 ax ay e.Right) (ah : ISl (rpRule) A w0 az aA e.Rules) {K : Int → Prop} (H : ref12_Validate e K) :
    CallsV Try.prog 21 #[.agg #[.int .i64 e.Points, .bool e.Monoid, .slice aD e.Gens.length aE, .slice av e.Elems.length aw, .slice ap e.Prefix.length aq, .slice aF e.Last.length aG, .slice ax e.Right.length ay, .slice az e.Rules.length aA, .int .i64 e.Done]] w0 (fun v w' => ∃ (r0 : Int), v = .int .i64 r0 ∧ Same w0 w' ∧ K r0) := by
 refine CallsV.of (l := [.agg #[.int .i64 e.Points, .bool e.Monoid, .slice aD e.Gens.length aE, .slice av e.Elems.length aw, .slice ap e.Prefix.length aq, .slice aF e.Last.length aG, .slice ax e.Right.length ay, .slice az e.Rules.length aA, .int .i64 e.Done]]) Try.func21 rfl Try.ntmps21 rfl ?_
 have hO := Owns.start hA
 have hB := Fr.refl (bl []) w0
 unfold ref12_Validate at H
 refine zq (zr ?_)
 have hobt := obox (t := 29) (v := .agg #[.int .i64 e.Points, .bool e.Monoid, .slice aD e.Gens.length aE, .slice av e.Elems.length aw, .slice ap e.Prefix.length aq, .slice aF e.Last.length aG, .slice ax e.Right.length ay, .slice az e.Rules.length aA, .int .i64 e.Done]) (cs := #[.int .i64 e.Points, .bool e.Monoid, .slice aD e.Gens.length aE, .slice av e.Elems.length aw, .slice ap e.Prefix.length aq, .slice aF e.Last.length aG, .slice ax e.Right.length ay, .slice az e.Rules.length aA, .int .i64 e.Done]) hO rfl
 obtain ⟨w1, B2, d7, hs4, qE⟩ := hobt
 refine zg (qE rfl) ?_
 replace hO := d7.own
 refine za rfl (zn (zq (zq (zr (zo (op_fieldAddr Try.underlying29 rfl ti22 rfl (by decide)) ?_)))))
 refine zs (oblk (i := 3) 0 hO rfl rfl Try.underlying22 rfl rfl) (zo (op_len Try.underlying22 rfl) ?_)
 replace af := (af.ch (Ch.start A w0)).ch d7.ch
 replace H := H af.bd
 by_cases h7 : (2000 : Int) < (e.Elems.length : Int)
 ·replace H := ifp h7 H
  refine zo (fun w => opB (op_gtr rfl rfl w) (decide_eq_true h7)) (zm rfl (zp (zp (zp (zo (op_pickT rfl rfl rfl) ?_)))))
  refine zm rfl (zp (zp (zp (zp (zp ?_)))))
  refine zp (zo (op_pickT rfl rfl rfl) (zn (zt rfl rfl (zq ?_))))
  refine Go1.cut [] trivial ?_
  intro σ _
  refine zr (za rfl (zn ?_))
  refine Go1.ret1 Try.func21 rfl ?_
  replace hB := hB.trans d7.fr
  exact ⟨(8 : Int), rfl, hB.same, H⟩
 replace H := ifn h7 H
 refine zo (fun w => opB (op_gtr rfl rfl w) (decide_eq_false h7)) (zm rfl (zo (op_fieldAddr Try.underlying29 rfl ti3 rfl (by decide)) (zs (oblk (i := 8) 0 hO rfl rfl Try.underlying3 rfl rfl) ?_)))
 by_cases h8 : e.Done < (0 : Int)
 ·replace H := ifp h8 H
  refine zo (fun w => opB (op_lss rfl rfl w) (decide_eq_true h8)) (zo (op_pickF rfl rfl rfl) (zm rfl (zp (zp (zp ?_)))))
  refine zp (zp (zp (zo (op_pickT rfl rfl rfl) (zn (zt rfl rfl ?_)))))
  refine zq (zr (za rfl (zn ?_)))
  refine Go1.ret1 Try.func21 rfl ?_
  replace hB := hB.trans d7.fr
  exact ⟨(8 : Int), rfl, hB.same, H⟩
 replace H := ifn h8 H
 refine zo (fun w => opB (op_lss rfl rfl w) (decide_eq_false h8)) (zo (op_pickF rfl rfl rfl) (zm rfl (zo (op_fieldAddr Try.underlying29 rfl ti3 rfl (by decide)) (zs (oblk (i := 8) 0 hO rfl rfl Try.underlying3 rfl rfl) (zo (op_fieldAddr Try.underlying29 rfl ti22 rfl (by decide)) ?_)))))
 refine zs (oblk (i := 3) 0 hO rfl rfl Try.underlying22 rfl rfl) (zo (op_len Try.underlying22 rfl) ?_)
 by_cases h9 : (e.Elems.length : Int) < e.Done
 ·replace H := ifp h9 H
  refine zo (fun w => opB (op_gtr rfl rfl w) (decide_eq_true h9)) (zo (op_pickF rfl rfl rfl) (zn (zt rfl rfl (zq ?_))))
  refine Go1.cut [] trivial ?_
  intro σ _
  refine zr (za rfl (zn ?_))
  refine Go1.ret1 Try.func21 rfl ?_
  replace hB := hB.trans d7.fr
  exact ⟨(8 : Int), rfl, hB.same, H⟩
 replace H := ifn h9 H
 refine zo (fun w => opB (op_gtr rfl rfl w) (decide_eq_false h9)) (zo (op_pickF rfl rfl rfl) (zn (zf rfl rfl (zk (zq ?_)))))
 refine zr (zo (op_fieldAddr Try.underlying29 rfl ti22 rfl (by decide)) (zs (oblk (i := 2) 0 hO rfl rfl Try.underlying22 rfl rfl) (zo (op_fieldAddr Try.underlying29 rfl ti4 rfl (by decide)) (zs (oblk (i := 1) 0 hO rfl rfl Try.underlying4 rfl rfl) ?_))))
 replace ai := (ai.ch (Ch.start A w0)).ch d7.ch
 refine GoR.call (op_call body22 rfl (walk_ref12_Start hO.lt ai H)) rfl rfl ?_
 rintro v15 w12 ⟨r10, r11, Cc, Cd, A5, A6, Ab, Ac, Ce, Cf, A7, A8, A9, Ba, rfl, U7, oL, mt, lQ, oM, mv, mw, H⟩
 have AM := Stp.same hO U7
 replace hO := AM.own
 refine zm rfl (zo (op_extract rfl rfl) (zo (op_extract rfl rfl) ?_))
 have hobt := oalloc (t := 29) (cs := #[.int .i64 (0 : Int), .bool false, .slice none 0 0, .slice none 0 0, .slice none 0 0, .slice none 0 0, .slice none 0 0, .slice none 0 0, .int .i64 (0 : Int)]) ti29 hO rfl
 obtain ⟨w17, B18, ko, LP, R6⟩ := hobt
 refine GoR.op R6 rfl rfl ?_
 replace hO := ko.own
 have hobt := oblkStAgg (us := [.int .i64 r10.Points, .bool r10.Monoid, .slice Cc r10.Gens.length Cd, .slice A5 r10.Elems.length A6, .slice Ab r10.Prefix.length Ac, .slice Ce r10.Last.length Cf, .slice A7 r10.Right.length A8, .slice A9 r10.Rules.length Ba, .int .i64 r10.Done]) (o := 0) (cs' := #[.int .i64 r10.Points, .bool r10.Monoid, .slice Cc r10.Gens.length Cd, .slice A5 r10.Elems.length A6, .slice Ab r10.Prefix.length Ac, .slice Ce r10.Last.length Cf, .slice A7 r10.Right.length A8, .slice A9 r10.Rules.length Ba, .int .i64 r10.Done]) 0 hO rfl rfl (Nat.le_of_ble_eq_true rfl) rfl
 obtain ⟨w23, vK, D0⟩ := hobt
 refine zg (D0 ti29 (by exact rfl) (by exact rfl) rfl) ?_
 replace hO := vK.own
 refine za rfl (zn (zq (zq (zr (zm rfl ?_)))))
 by_cases h26 : r11 = (0 : Int)
 ·replace H := ifp h26 H
  refine zo (fun w => opB (op_neq rfl rfl w) (ndT h26)) (zn (zf rfl rfl (zk (zq (zr ?_)))))
  refine zs (oblkAgg (vs := [.int .i64 r10.Points, .bool r10.Monoid, .slice Cc r10.Gens.length Cd, .slice A5 r10.Elems.length A6, .slice Ab r10.Prefix.length Ac, .slice Ce r10.Last.length Cf, .slice A7 r10.Right.length A8, .slice A9 r10.Rules.length Ba, .int .i64 r10.Done]) (i := 0) 0 hO rfl rfl Try.underlying29 rfl ti29 rfl) (zo (op_fieldAddr Try.underlying29 rfl ti3 rfl (by decide)) (zs (oblk (i := 8) 1 hO rfl rfl Try.underlying3 rfl rfl) ?_))
  have Z1 := ko.ch.trans vK.ch
  replace oL := oL.ch Z1
  replace mt := mt.ch Z1
  replace lQ := lQ.ch Z1
  replace oM := oM.ch Z1
  replace mv := mv.ch Z1
  replace mw := mw.ch Z1
  refine GoR.call (op_call body52 rfl (walk_ref12_process (a0 := r10) hO.lt oL mt lQ oM mv mw H)) rfl rfl ?_
  rintro v32 w29 ⟨r27, r28, Cg, Ci, Bb, Bc, Ad, Ae, Cj, Ck, Bd, Be, Bf, Bg, rfl, U8, x8, wL, v4, x9, wM, wN, H⟩
  have vL := Stp.same hO U8
  replace hO := vL.own
  refine zm rfl (zo (op_extract rfl rfl) (zo (op_extract rfl rfl) ?_))
  have hobt := oblkStAgg (us := [.int .i64 r27.Points, .bool r27.Monoid, .slice Cg r27.Gens.length Ci, .slice Bb r27.Elems.length Bc, .slice Ad r27.Prefix.length Ae, .slice Cj r27.Last.length Ck, .slice Bd r27.Right.length Be, .slice Bf r27.Rules.length Bg, .int .i64 r27.Done]) (o := 0) (cs' := #[.int .i64 r27.Points, .bool r27.Monoid, .slice Cg r27.Gens.length Ci, .slice Bb r27.Elems.length Bc, .slice Ad r27.Prefix.length Ae, .slice Cj r27.Last.length Ck, .slice Bd r27.Right.length Be, .slice Bf r27.Rules.length Bg, .int .i64 r27.Done]) 0 hO rfl rfl (Nat.le_of_ble_eq_true rfl) rfl
  obtain ⟨w34, jM, D5⟩ := hobt
  refine zg (D5 ti29 (by exact rfl) (by exact rfl) rfl) ?_
  replace hO := jM.own
  refine za rfl (zn (zq (zq ?_)))
  refine Go1.cut [(1, .pointer (some ⟨B2, 0, none⟩)), (3, .pointer (some ⟨B18, 0, none⟩)), (4, .int .i64 r28)] ⟨rfl, rfl, rfl, trivial⟩ ?_
  intro σ _
  refine zr (zm rfl ?_)
  by_cases h37 : r28 = (0 : Int)
  ·replace H := ifp h37 H
   refine zo (fun w => opB (op_neq rfl rfl w) (ndT h37)) (zm rfl (zs (oblkAgg (vs := [.int .i64 r27.Points, .bool r27.Monoid, .slice Cg r27.Gens.length Ci, .slice Bb r27.Elems.length Bc, .slice Ad r27.Prefix.length Ae, .slice Cj r27.Last.length Ck, .slice Bd r27.Right.length Be, .slice Bf r27.Rules.length Bg, .int .i64 r27.Done]) (i := 0) 0 hO rfl rfl Try.underlying29 rfl ti29 rfl) (zs (oblkAgg (vs := [.int .i64 e.Points, .bool e.Monoid, .slice aD e.Gens.length aE, .slice av e.Elems.length aw, .slice ap e.Prefix.length aq, .slice aF e.Last.length aG, .slice ax e.Right.length ay, .slice az e.Rules.length aA, .int .i64 e.Done]) (i := 0) 1 hO rfl rfl Try.underlying29 rfl ti29 rfl) ?_)))
   replace x8 := x8.ch jM.ch
   replace wL := wL.ch jM.ch
   replace v4 := v4.ch jM.ch
   replace x9 := x9.ch jM.ch
   replace wM := wM.ch jM.ch
   replace wN := wN.ch jM.ch
   have Z2 := (((AM.ch.trans ko.ch).trans vK.ch).trans vL.ch).trans jM.ch
   replace ai := ai.ch Z2
   replace af := af.ch Z2
   have Z3 := ((((((Ch.start A w0).trans d7.ch).trans AM.ch).trans ko.ch).trans vK.ch).trans vL.ch).trans jM.ch
   replace ad := ad.ch Z3
   replace aj := aj.ch Z3
   replace ag := ag.ch Z3
   replace ah := ah.ch Z3
   refine GoR.call (op_call body19 rfl (walk_ref12_Same (a0 := r27) (a1 := e) hO.lt x8 wL v4 x9 wM wN ai af ad aj ag ah H)) rfl rfl ?_
   rintro v42 w39 ⟨r38, rfl, U9, H⟩
   have gV := Stp.same hO U9
   replace hO := gV.own
   cases r38
   ·replace H := ifn Bool.false_ne_true H
    refine zo (op_not rfl) (zo (op_pickF rfl rfl rfl) (zn (zt rfl rfl (zq (zr ?_)))))
    refine za rfl (zn ?_)
    refine Go1.ret1 Try.func21 rfl ?_
    replace hB := ((((((hB.trans d7.fr).trans AM.fr).trans ko.fr).trans vK.fr).trans vL.fr).trans jM.fr).trans gV.fr
    exact ⟨(8 : Int), rfl, hB.same, H⟩
   replace H := ifp rfl H
   refine zo (op_not rfl) (zo (op_pickF rfl rfl rfl) (zn (zf rfl rfl (zk (zq ?_)))))
   refine zr (za rfl (zn ?_))
   refine Go1.ret1 Try.func21 rfl ?_
   replace hB := ((((((hB.trans d7.fr).trans AM.fr).trans ko.fr).trans vK.fr).trans vL.fr).trans jM.fr).trans gV.fr
   exact ⟨(0 : Int), rfl, hB.same, H⟩
  replace H := ifn h37 H
  refine zo (fun w => opB (op_neq rfl rfl w) (ndF h37)) (zm rfl (zp (zp (zp (zp ?_)))))
  refine zo (op_pickT rfl rfl rfl) (zn (zt rfl rfl (zq ?_)))
  refine Go1.cut [] trivial ?_
  intro σ _
  refine zr (za rfl (zn ?_))
  refine Go1.ret1 Try.func21 rfl ?_
  replace hB := (((((hB.trans d7.fr).trans AM.fr).trans ko.fr).trans vK.fr).trans vL.fr).trans jM.fr
  exact ⟨(8 : Int), rfl, hB.same, H⟩
 replace H := ifn h26 H
 refine zo (fun w => opB (op_neq rfl rfl w) (ndF h26)) (zn (zt rfl rfl (zq (zr (za rfl ?_)))))
 refine zn ?_
 refine Go1.ret1 Try.func21 rfl ?_
 replace hB := (((hB.trans d7.fr).trans AM.fr).trans ko.fr).trans vK.fr
 exact ⟨(8 : Int), rfl, hB.same, H⟩
theorem body23 : Body Try.prog 23 := ⟨Try.f23, Try.func23, rfl, by kernel_rfl⟩
theorem walk_ref12_Step {A : List Nat} {w0 : World} {aD : Option Addr} {aE : Nat} {av : Option Addr} {aw : Nat} {ap : Option Addr} {aq : Nat} {aF : Option Addr} {aG : Nat} {ax : Option Addr} {ay : Nat} {az : Option Addr} {aA : Nat} {e : Enum} {budget : Int} (hA : ∀ b ∈ A, b < w0.heap.size) (ai : ISl (Rp.sl (Rp.int .i64)) A w0 aD aE e.Gens) (af : ISl (Rp.sl (Rp.int .i64)) A w0 av aw e.Elems) (ad : ISl (Rp.int .i64) A w0 ap aq e.Prefix) (aj : ISl (Rp.int .i64) A w0 aF aG e.Last) (ag : ISl (Rp.sl (Rp.int .i64)) A w0 ax ay e.Right) (ah : ISl (rpRule) A w0 az aA e.Rules) {K : Enum → Int → Prop} (H : ref12_Step e budget K) :
    CallsV Try.prog 23 #[.agg #[.int .i64 e.Points, .bool e.Monoid, .slice aD e.Gens.length aE, .slice av e.Elems.length aw, .slice ap e.Prefix.length aq, .slice aF e.Last.length aG, .slice ax e.Right.length ay, .slice az e.Rules.length aA, .int .i64 e.Done], .int .i64 budget] w0 (fun v w' => ∃ (r0 : Enum), ∃ (r1 : Int), ∃ (qf : Option Addr), ∃ (qg : Nat), ∃ (oq : Option Addr), ∃ (ot : Nat), ∃ (mo : Option Addr), ∃ (mp : Nat), ∃ (qh : Option Addr), ∃ (qi : Nat), ∃ (ou : Option Addr), ∃ (ov : Nat), ∃ (ow : Option Addr), ∃ (oA : Nat), v = .tuple #[.agg #[.int .i64 r0.Points, .bool r0.Monoid, .slice qf r0.Gens.length qg, .slice oq r0.Elems.length ot, .slice mo r0.Prefix.length mp, .slice qh r0.Last.length qi, .slice ou r0.Right.length ov, .slice ow r0.Rules.length oA, .int .i64 r0.Done], .int .i64 r1] ∧ Same w0 w' ∧ ISl (Rp.sl (Rp.int .i64)) A w' qf qg r0.Gens ∧ ISl (Rp.sl (Rp.int .i64)) A w' oq ot r0.Elems ∧ ISl (Rp.int .i64) A w' mo mp r0.Prefix ∧ ISl (Rp.int .i64) A w' qh qi r0.Last ∧ ISl (Rp.sl (Rp.int .i64)) A w' ou ov r0.Right ∧ ISl (rpRule) A w' ow oA r0.Rules ∧ K r0 r1) := by
 refine CallsV.of (l := [.agg #[.int .i64 e.Points, .bool e.Monoid, .slice aD e.Gens.length aE, .slice av e.Elems.length aw, .slice ap e.Prefix.length aq, .slice aF e.Last.length aG, .slice ax e.Right.length ay, .slice az e.Rules.length aA, .int .i64 e.Done], .int .i64 budget]) Try.func23 rfl Try.ntmps23 rfl ?_
 have hO := Owns.start hA
 have hB := Fr.refl (bl []) w0
 unfold ref12_Step at H
 refine zq (zr ?_)
 have hobt := obox (t := 29) (v := .agg #[.int .i64 e.Points, .bool e.Monoid, .slice aD e.Gens.length aE, .slice av e.Elems.length aw, .slice ap e.Prefix.length aq, .slice aF e.Last.length aG, .slice ax e.Right.length ay, .slice az e.Rules.length aA, .int .i64 e.Done]) (cs := #[.int .i64 e.Points, .bool e.Monoid, .slice aD e.Gens.length aE, .slice av e.Elems.length aw, .slice ap e.Prefix.length aq, .slice aF e.Last.length aG, .slice ax e.Right.length ay, .slice az e.Rules.length aA, .int .i64 e.Done]) hO rfl
 obtain ⟨w1, B2, d7, hs4, qE⟩ := hobt
 refine zg (qE rfl) ?_
 replace hO := d7.own
 have hobt := oalloc (t := 29) (cs := #[.int .i64 (0 : Int), .bool false, .slice none 0 0, .slice none 0 0, .slice none 0 0, .slice none 0 0, .slice none 0 0, .slice none 0 0, .int .i64 (0 : Int)]) ti29 hO rfl
 obtain ⟨w7, B8, lm, Fh, Bu⟩ := hobt
 refine GoR.op Bu rfl rfl ?_
 replace hO := lm.own
 refine za rfl (zn (zq (zq (zr (zs (oblkAgg (vs := [.int .i64 e.Points, .bool e.Monoid, .slice aD e.Gens.length aE, .slice av e.Elems.length aw, .slice ap e.Prefix.length aq, .slice aF e.Last.length aG, .slice ax e.Right.length ay, .slice az e.Rules.length aA, .int .i64 e.Done]) (i := 0) 1 hO rfl rfl Try.underlying29 rfl ti29 rfl) ?_)))))
 have Z1 := ((Ch.start A w0).trans d7.ch).trans lm.ch
 replace ai := ai.ch Z1
 replace af := af.ch Z1
 replace ad := ad.ch Z1
 replace aj := aj.ch Z1
 replace ag := ag.ch Z1
 replace ah := ah.ch Z1
 refine GoR.call (op_call body21 rfl (walk_ref12_Validate (e := e) hO.lt ai af ad aj ag ah H)) rfl rfl ?_
 rintro v17 w14 ⟨r13, rfl, Va, H⟩
 have oW := Stp.same hO Va
 replace hO := oW.own
 refine za rfl (zn (zq (zr (zm rfl ?_))))
 by_cases h19 : r13 = (0 : Int)
 ·replace H := ifp h19 H
  refine zo (fun w => opB (op_neq rfl rfl w) (ndT h19)) (zn (zf rfl rfl (zk (zq (zq ?_)))))
  refine zr (zm rfl ?_)
  by_cases h20 : budget < (0 : Int)
  ·replace H := ifp h20 H
   refine zo (fun w => opB (op_lss rfl rfl w) (decide_eq_true h20)) (zn (zt rfl rfl (zq (zr (zo (op_build Try.underlying29 ti29 (pl := [(0, 1), (1, 1), (2, 1), (3, 1), (4, 1), (5, 1), (6, 1), (7, 1), (8, 1)]) (vs := []) (cs := #[.int .i64 (0 : Int), .bool false, .slice none 0 0, .slice none 0 0, .slice none 0 0, .slice none 0 0, .slice none 0 0, .slice none 0 0, .int .i64 (0 : Int)]) (by kernel_rfl) rfl (by kernel_rfl)) ?_)))))
   have hobt := oblkStAgg (us := [.int .i64 (0 : Int), .bool false, .slice none 0 0, .slice none 0 0, .slice none 0 0, .slice none 0 0, .slice none 0 0, .slice none 0 0, .int .i64 (0 : Int)]) (o := 0) (cs' := #[.int .i64 (0 : Int), .bool false, .slice none 0 0, .slice none 0 0, .slice none 0 0, .slice none 0 0, .slice none 0 0, .slice none 0 0, .int .i64 (0 : Int)]) 0 hO rfl rfl (Nat.le_of_ble_eq_true rfl) rfl
   obtain ⟨w21, f0, Bv⟩ := hobt
   refine zg (Bv ti29 (by exact rfl) (by exact rfl) rfl) ?_
   replace hO := f0.own
   refine za rfl (zn ?_)
   refine Go1.retC2 Try.func23 rfl rfl (run_loadBlk (vs := [.int .i64 (0 : Int), .bool false, .slice none 0 0, .slice none 0 0, .slice none 0 0, .slice none 0 0, .slice none 0 0, .slice none 0 0, .int .i64 (0 : Int)]) 0 hO rfl rfl Try.underlying29 rfl ti29) ?_
   replace hB := (((hB.trans d7.fr).trans lm.fr).trans oW.fr).trans f0.fr
   exact ⟨(⟨(0 : Int), false, ([] : List (List Int)), ([] : List (List Int)), ([] : List Int), ([] : List Int), ([] : List (List Int)), ([] : List Rule), (0 : Int)⟩ : Enum), (1 : Int), none, 0, none, 0, none, 0, none, 0, none, 0, none, 0, rfl, hB.same, (ISl.null _ _ _), (ISl.null _ _ _), (ISl.null _ _ _), (ISl.null _ _ _), (ISl.null _ _ _), (ISl.null _ _ _), H⟩
  replace H := ifn h20 H
  refine zo (fun w => opB (op_lss rfl rfl w) (decide_eq_false h20)) (zn (zf rfl rfl (zk (zq (zr ?_)))))
  refine zs (oblkAgg (vs := [.int .i64 e.Points, .bool e.Monoid, .slice aD e.Gens.length aE, .slice av e.Elems.length aw, .slice ap e.Prefix.length aq, .slice aF e.Last.length aG, .slice ax e.Right.length ay, .slice az e.Rules.length aA, .int .i64 e.Done]) (i := 0) 1 hO rfl rfl Try.underlying29 rfl ti29 rfl) (zm rfl ?_)
  replace ai := ai.ch oW.ch
  replace af := af.ch oW.ch
  replace ad := ad.ch oW.ch
  replace aj := aj.ch oW.ch
  replace ag := ag.ch oW.ch
  replace ah := ah.ch oW.ch
  refine GoR.call (op_call body52 rfl (walk_ref12_process (a0 := e) hO.lt ai af ad aj ag ah H)) rfl rfl ?_
  rintro v29 w26 ⟨r24, r25, zN, zO, yJ, yK, ya, yb, zP, zQ, yL, yM, yN, yO, rfl, Vb, Cl, Bh, Af, Cm, Bi, Bj, H⟩
  have AO := Stp.same hO Vb
  replace hO := AO.own
  refine zo (op_extract rfl rfl) (zo (op_extract rfl rfl) ?_)
  have hobt := oblkStAgg (us := [.int .i64 r24.Points, .bool r24.Monoid, .slice zN r24.Gens.length zO, .slice yJ r24.Elems.length yK, .slice ya r24.Prefix.length yb, .slice zP r24.Last.length zQ, .slice yL r24.Right.length yM, .slice yN r24.Rules.length yO, .int .i64 r24.Done]) (o := 0) (cs' := #[.int .i64 r24.Points, .bool r24.Monoid, .slice zN r24.Gens.length zO, .slice yJ r24.Elems.length yK, .slice ya r24.Prefix.length yb, .slice zP r24.Last.length zQ, .slice yL r24.Right.length yM, .slice yN r24.Rules.length yO, .int .i64 r24.Done]) 0 hO rfl rfl (Nat.le_of_ble_eq_true rfl) rfl
  obtain ⟨w31, vM, R7⟩ := hobt
  refine zg (R7 ti29 (by exact rfl) (by exact rfl) rfl) ?_
  replace hO := vM.own
  refine za rfl (zn ?_)
  refine Go1.retC2 Try.func23 rfl rfl (run_loadBlk (vs := [.int .i64 r24.Points, .bool r24.Monoid, .slice zN r24.Gens.length zO, .slice yJ r24.Elems.length yK, .slice ya r24.Prefix.length yb, .slice zP r24.Last.length zQ, .slice yL r24.Right.length yM, .slice yN r24.Rules.length yO, .int .i64 r24.Done]) 0 hO rfl rfl Try.underlying29 rfl ti29) ?_
  replace Cl := Cl.ch vM.ch
  replace Bh := Bh.ch vM.ch
  replace Af := Af.ch vM.ch
  replace Cm := Cm.ch vM.ch
  replace Bi := Bi.ch vM.ch
  replace Bj := Bj.ch vM.ch
  replace hB := ((((hB.trans d7.fr).trans lm.fr).trans oW.fr).trans AO.fr).trans vM.fr
  exact ⟨(⟨r24.Points, r24.Monoid, r24.Gens, r24.Elems, r24.Prefix, r24.Last, r24.Right, r24.Rules, r24.Done⟩ : Enum), r25, zN, zO, yJ, yK, ya, yb, zP, zQ, yL, yM, yN, yO, rfl, hB.same, (Cl.ch (Ch.weak _ _ _)), (Bh.ch (Ch.weak _ _ _)), (Af.ch (Ch.weak _ _ _)), (Cm.ch (Ch.weak _ _ _)), (Bi.ch (Ch.weak _ _ _)), (Bj.ch (Ch.weak _ _ _)), H⟩
 replace H := ifn h19 H
 refine zo (fun w => opB (op_neq rfl rfl w) (ndF h19)) (zn (zt rfl rfl (zq ?_)))
 refine Go1.cut [(4, .pointer (some ⟨B8, 0, none⟩)), (6, .int .i64 r13)] ⟨rfl, rfl, trivial⟩ ?_
 intro σ _
 refine zr (zo (op_build Try.underlying29 ti29 (pl := [(0, 1), (1, 1), (2, 1), (3, 1), (4, 1), (5, 1), (6, 1), (7, 1), (8, 1)]) (vs := []) (cs := #[.int .i64 (0 : Int), .bool false, .slice none 0 0, .slice none 0 0, .slice none 0 0, .slice none 0 0, .slice none 0 0, .slice none 0 0, .int .i64 (0 : Int)]) (by kernel_rfl) rfl (by kernel_rfl)) (zm rfl ?_))
 have hobt := oblkStAgg (us := [.int .i64 (0 : Int), .bool false, .slice none 0 0, .slice none 0 0, .slice none 0 0, .slice none 0 0, .slice none 0 0, .slice none 0 0, .int .i64 (0 : Int)]) (o := 0) (cs' := #[.int .i64 (0 : Int), .bool false, .slice none 0 0, .slice none 0 0, .slice none 0 0, .slice none 0 0, .slice none 0 0, .slice none 0 0, .int .i64 (0 : Int)]) 0 hO rfl rfl (Nat.le_of_ble_eq_true rfl) rfl
 obtain ⟨w34, jM, D5⟩ := hobt
 refine zg (D5 ti29 (by exact rfl) (by exact rfl) rfl) ?_
 replace hO := jM.own
 refine za rfl (zn ?_)
 refine Go1.retC2 Try.func23 rfl rfl (run_loadBlk (vs := [.int .i64 (0 : Int), .bool false, .slice none 0 0, .slice none 0 0, .slice none 0 0, .slice none 0 0, .slice none 0 0, .slice none 0 0, .int .i64 (0 : Int)]) 0 hO rfl rfl Try.underlying29 rfl ti29) ?_
 replace hB := (((hB.trans d7.fr).trans lm.fr).trans oW.fr).trans jM.fr
 exact ⟨(⟨(0 : Int), false, ([] : List (List Int)), ([] : List (List Int)), ([] : List Int), ([] : List Int), ([] : List (List Int)), ([] : List Rule), (0 : Int)⟩ : Enum), r13, none, 0, none, 0, none, 0, none, 0, none, 0, none, 0, rfl, hB.same, (ISl.null _ _ _), (ISl.null _ _ _), (ISl.null _ _ _), (ISl.null _ _ _), (ISl.null _ _ _), (ISl.null _ _ _), H⟩
end Sg
