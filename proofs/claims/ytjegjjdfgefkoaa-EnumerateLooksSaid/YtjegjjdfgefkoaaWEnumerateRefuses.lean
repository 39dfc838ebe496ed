/- The walks: each call keeps to its plain transformer. Printed by walkgen.py. -/
import Derived.Test.YtjegjjdfgefkoaaTi
import Derived.Test.YtjegjjdfgefkoaaWEnumerateBuildsd
import Derived.Test.YtjegjjdfgefkoaaWEnumerateBuildse
import Derived.Test.YtjegjjdfgefkoaaWEnumerateBuildsf
import Derived.Test.YtjegjjdfgefkoaaAl
namespace Sg
open Go Go.RowKit Go.Proofs
set_option linter.unusedVariables false
set_option linter.unusedSimpArgs false
set_option maxRecDepth 100000
set_option maxHeartbeats 4000000
theorem body21 : Body Try.prog 21 := ⟨Try.f21, Try.func21, rfl, by kernel_rfl⟩
theorem walk_ref12_Validate {A : List Nat} {w0 : World} {cd : Option Addr} {ce : Nat} {bG : Option Addr} {bH : Nat} {bq : Option Addr} {bt : Nat} {b7 : Option Addr} {b8 : Nat} {bI : Option Addr} {bK : Nat} {bM : Option Addr} {bN : Nat} {e : Enum} (hA : ∀ b ∈ A, b < w0.heap.size) (aR : ISl (Rp.sl (Rp.int .i64)) A w0 cd ce e.Gens) (aK : ISl (Rp.sl (Rp.int .i64)) A w0 bG bH e.Elems) (aC : ISl (Rp.int .i64) A w0 bq bt e.Prefix) (aS : ISl (Rp.int .i64) A w0 b7 b8 e.Last) (aL : ISl (Rp.sl (Rp.int .i64)) A w0 bI bK e.Right) (aM : ISl (rpRule) A w0 bM bN e.Rules) {K : Int → Prop} (H : ref12_Validate e K) :
    CallsV Try.prog 21 #[.agg #[.int .i64 e.Points, .bool e.Monoid, .slice cd e.Gens.length ce, .slice bG e.Elems.length bH, .slice bq e.Prefix.length bt, .slice b7 e.Last.length b8, .slice bI e.Right.length bK, .slice bM e.Rules.length bN, .int .i64 e.Done]] w0 (fun v w' => ∃ (r0 : Int), v = .int .i64 r0 ∧ Same w0 w' ∧ K r0) := by
 refine CallsV.of (l := [.agg #[.int .i64 e.Points, .bool e.Monoid, .slice cd e.Gens.length ce, .slice bG e.Elems.length bH, .slice bq e.Prefix.length bt, .slice b7 e.Last.length b8, .slice bI e.Right.length bK, .slice bM e.Rules.length bN, .int .i64 e.Done]]) Try.func21 rfl Try.ntmps21 rfl ?_
 have hO := Owns.start hA
 have hB := Fr.refl (bl []) w0
 unfold ref12_Validate at H
 refine zq (zr ?_)
 have hobt := obox (t := 29) (v := .agg #[.int .i64 e.Points, .bool e.Monoid, .slice cd e.Gens.length ce, .slice bG e.Elems.length bH, .slice bq e.Prefix.length bt, .slice b7 e.Last.length b8, .slice bI e.Right.length bK, .slice bM e.Rules.length bN, .int .i64 e.Done]) (cs := #[.int .i64 e.Points, .bool e.Monoid, .slice cd e.Gens.length ce, .slice bG e.Elems.length bH, .slice bq e.Prefix.length bt, .slice b7 e.Last.length b8, .slice bI e.Right.length bK, .slice bM e.Rules.length bN, .int .i64 e.Done]) hO rfl
 obtain ⟨w1, B2, dI, hs4, qb⟩ := hobt
 refine zg (qb rfl) ?_
 replace hO := dI.own
 refine za rfl (zn (zq (zq (zr (zo (op_fieldAddr Try.underlying29 rfl ti22 rfl (by decide)) ?_)))))
 refine zs (oblk (i := 3) 0 hO rfl rfl Try.underlying22 rfl rfl) (zo (op_len Try.underlying22 rfl) ?_)
 replace aK := (aK.ch (Ch.start A w0)).ch dI.ch
 replace H := H aK.bd
 by_cases h7 : (2000 : Int) < (e.Elems.length : Int)
 ·replace H := ifp h7 H
  refine zo (fun w => opB (op_gtr rfl rfl w) (decide_eq_true h7)) (zm rfl (zp (zp (zp (zo (op_pickT rfl rfl rfl) ?_)))))
  refine zm rfl (zp (zp (zp (zp (zp ?_)))))
  refine zp (zo (op_pickT rfl rfl rfl) (zn (zt rfl rfl (zq ?_))))
  refine Go1.cut [] trivial ?_
  intro σ _
  refine zr (za rfl (zn ?_))
  refine Go1.ret1 Try.func21 rfl ?_
  replace hB := hB.trans dI.fr
  exact ⟨(8 : Int), rfl, hB.same, H⟩
 replace H := ifn h7 H
 refine zo (fun w => opB (op_gtr rfl rfl w) (decide_eq_false h7)) (zm rfl (zo (op_fieldAddr Try.underlying29 rfl ti3 rfl (by decide)) (zs (oblk (i := 8) 0 hO rfl rfl Try.underlying3 rfl rfl) ?_)))
 by_cases h8 : e.Done < (0 : Int)
 ·replace H := ifp h8 H
  refine zo (fun w => opB (op_lss rfl rfl w) (decide_eq_true h8)) (zo (op_pickF rfl rfl rfl) (zm rfl (zp (zp (zp ?_)))))
  refine zp (zp (zp (zo (op_pickT rfl rfl rfl) (zn (zt rfl rfl ?_)))))
  refine zq (zr (za rfl (zn ?_)))
  refine Go1.ret1 Try.func21 rfl ?_
  replace hB := hB.trans dI.fr
  exact ⟨(8 : Int), rfl, hB.same, H⟩
 replace H := ifn h8 H
 refine zo (fun w => opB (op_lss rfl rfl w) (decide_eq_false h8)) (zo (op_pickF rfl rfl rfl) (zm rfl (zo (op_fieldAddr Try.underlying29 rfl ti3 rfl (by decide)) (zs (oblk (i := 8) 0 hO rfl rfl Try.underlying3 rfl rfl) (zo (op_fieldAddr Try.underlying29 rfl ti22 rfl (by decide)) ?_)))))
 refine zs (oblk (i := 3) 0 hO rfl rfl Try.underlying22 rfl rfl) (zo (op_len Try.underlying22 rfl) ?_)
 by_cases h9 : (e.Elems.length : Int) < e.Done
 ·replace H := ifp h9 H
  refine zo (fun w => opB (op_gtr rfl rfl w) (decide_eq_true h9)) (zo (op_pickF rfl rfl rfl) (zn (zt rfl rfl (zq ?_))))
  refine Go1.cut [] trivial ?_
  intro σ _
  refine zr (za rfl (zn ?_))
  refine Go1.ret1 Try.func21 rfl ?_
  replace hB := hB.trans dI.fr
  exact ⟨(8 : Int), rfl, hB.same, H⟩
 replace H := ifn h9 H
 refine zo (fun w => opB (op_gtr rfl rfl w) (decide_eq_false h9)) (zo (op_pickF rfl rfl rfl) (zn (zf rfl rfl (zk (zq ?_)))))
 refine zr (zo (op_fieldAddr Try.underlying29 rfl ti22 rfl (by decide)) (zs (oblk (i := 2) 0 hO rfl rfl Try.underlying22 rfl rfl) (zo (op_fieldAddr Try.underlying29 rfl ti4 rfl (by decide)) (zs (oblk (i := 1) 0 hO rfl rfl Try.underlying4 rfl rfl) ?_))))
 replace aR := (aR.ch (Ch.start A w0)).ch dI.ch
 refine GoR.call (op_call body22 rfl (walk_ref12_Start hO.lt aR H)) rfl rfl ?_
 rintro v15 w12 ⟨r10, r11, CA, CB, Bn, Bo, Ao, Ap, CC, CD, Bp, Bq, Br, Bs, rfl, WN, ol, l9, lA, om, ma, mb, H⟩
 have AV := Stp.same hO WN
 replace hO := AV.own
 refine zm rfl (zo (op_extract rfl rfl) (zo (op_extract rfl rfl) ?_))
 have hobt := oalloc (t := 29) (cs := #[.int .i64 (0 : Int), .bool false, .slice none 0 0, .slice none 0 0, .slice none 0 0, .slice none 0 0, .slice none 0 0, .slice none 0 0, .int .i64 (0 : Int)]) ti29 hO rfl
 obtain ⟨w17, B18, m5, Hk, TC⟩ := hobt
 refine GoR.op TC rfl rfl ?_
 replace hO := m5.own
 have hobt := oblkStAgg (us := [.int .i64 r10.Points, .bool r10.Monoid, .slice CA r10.Gens.length CB, .slice Bn r10.Elems.length Bo, .slice Ao r10.Prefix.length Ap, .slice CC r10.Last.length CD, .slice Bp r10.Right.length Bq, .slice Br r10.Rules.length Bs, .int .i64 r10.Done]) (o := 0) (cs' := #[.int .i64 r10.Points, .bool r10.Monoid, .slice CA r10.Gens.length CB, .slice Bn r10.Elems.length Bo, .slice Ao r10.Prefix.length Ap, .slice CC r10.Last.length CD, .slice Bp r10.Right.length Bq, .slice Br r10.Rules.length Bs, .int .i64 r10.Done]) 0 hO rfl rfl (Nat.le_of_ble_eq_true rfl) rfl
 obtain ⟨w23, m7, Ei⟩ := hobt
 refine zg (Ei ti29 (by exact rfl) (by exact rfl) rfl) ?_
 replace hO := m7.own
 refine za rfl (zn (zq (zq (zr (zm rfl ?_)))))
 by_cases h26 : r11 = (0 : Int)
 ·replace H := ifp h26 H
  refine zo (fun w => opB (op_neq rfl rfl w) (ndT h26)) (zn (zf rfl rfl (zk (zq (zr ?_)))))
  refine zs (oblkAgg (vs := [.int .i64 r10.Points, .bool r10.Monoid, .slice CA r10.Gens.length CB, .slice Bn r10.Elems.length Bo, .slice Ao r10.Prefix.length Ap, .slice CC r10.Last.length CD, .slice Bp r10.Right.length Bq, .slice Br r10.Rules.length Bs, .int .i64 r10.Done]) (i := 0) 0 hO rfl rfl Try.underlying29 rfl ti29 rfl) (zo (op_fieldAddr Try.underlying29 rfl ti3 rfl (by decide)) (zs (oblk (i := 8) 1 hO rfl rfl Try.underlying3 rfl rfl) ?_))
  have Z1 := m5.ch.trans m7.ch
  replace ol := ol.ch Z1
  replace l9 := l9.ch Z1
  replace lA := lA.ch Z1
  replace om := om.ch Z1
  replace ma := ma.ch Z1
  replace mb := mb.ch Z1
  refine GoR.call (op_call body52 rfl (walk_ref12_process (a0 := r10) hO.lt ol l9 lA om ma mb H)) rfl rfl ?_
  rintro v32 w29 ⟨r27, r28, CE, CF, Bt, Bu, Aq, Ar, CG, CH, Bv, Bw, Bx, By, rfl, WO, yl, wQ, v7, ym, wR, wS, H⟩
  have vK := Stp.same hO WO
  replace hO := vK.own
  refine zm rfl (zo (op_extract rfl rfl) (zo (op_extract rfl rfl) ?_))
  have hobt := oblkStAgg (us := [.int .i64 r27.Points, .bool r27.Monoid, .slice CE r27.Gens.length CF, .slice Bt r27.Elems.length Bu, .slice Aq r27.Prefix.length Ar, .slice CG r27.Last.length CH, .slice Bv r27.Right.length Bw, .slice Bx r27.Rules.length By, .int .i64 r27.Done]) (o := 0) (cs' := #[.int .i64 r27.Points, .bool r27.Monoid, .slice CE r27.Gens.length CF, .slice Bt r27.Elems.length Bu, .slice Aq r27.Prefix.length Ar, .slice CG r27.Last.length CH, .slice Bv r27.Right.length Bw, .slice Bx r27.Rules.length By, .int .i64 r27.Done]) 0 hO rfl rfl (Nat.le_of_ble_eq_true rfl) rfl
  obtain ⟨w34, jx, Er⟩ := hobt
  refine zg (Er ti29 (by exact rfl) (by exact rfl) rfl) ?_
  replace hO := jx.own
  refine za rfl (zn (zq (zq ?_)))
  refine Go1.cut [(1, .pointer (some ⟨B2, 0, none⟩)), (3, .pointer (some ⟨B18, 0, none⟩)), (4, .int .i64 r28)] ⟨rfl, rfl, rfl, trivial⟩ ?_
  intro σ _
  refine zr (zm rfl ?_)
  by_cases h37 : r28 = (0 : Int)
  ·replace H := ifp h37 H
   refine zo (fun w => opB (op_neq rfl rfl w) (ndT h37)) (zm rfl (zs (oblkAgg (vs := [.int .i64 r27.Points, .bool r27.Monoid, .slice CE r27.Gens.length CF, .slice Bt r27.Elems.length Bu, .slice Aq r27.Prefix.length Ar, .slice CG r27.Last.length CH, .slice Bv r27.Right.length Bw, .slice Bx r27.Rules.length By, .int .i64 r27.Done]) (i := 0) 0 hO rfl rfl Try.underlying29 rfl ti29 rfl) (zs (oblkAgg (vs := [.int .i64 e.Points, .bool e.Monoid, .slice cd e.Gens.length ce, .slice bG e.Elems.length bH, .slice bq e.Prefix.length bt, .slice b7 e.Last.length b8, .slice bI e.Right.length bK, .slice bM e.Rules.length bN, .int .i64 e.Done]) (i := 0) 1 hO rfl rfl Try.underlying29 rfl ti29 rfl) ?_)))
   replace yl := yl.ch jx.ch
   replace wQ := wQ.ch jx.ch
   replace v7 := v7.ch jx.ch
   replace ym := ym.ch jx.ch
   replace wR := wR.ch jx.ch
   replace wS := wS.ch jx.ch
   have Z2 := (((AV.ch.trans m5.ch).trans m7.ch).trans vK.ch).trans jx.ch
   replace aR := aR.ch Z2
   replace aK := aK.ch Z2
   have Z3 := ((((((Ch.start A w0).trans dI.ch).trans AV.ch).trans m5.ch).trans m7.ch).trans vK.ch).trans jx.ch
   replace aC := aC.ch Z3
   replace aS := aS.ch Z3
   replace aL := aL.ch Z3
   replace aM := aM.ch Z3
   refine GoR.call (op_call body19 rfl (walk_ref12_Same (a0 := r27) (a1 := e) hO.lt yl wQ v7 ym wR wS aR aK aC aS aL aM H)) rfl rfl ?_
   rintro v42 w39 ⟨r38, rfl, JX, H⟩
   have eY := Stp.same hO JX
   replace hO := eY.own
   cases r38
   ·replace H := ifn Bool.false_ne_true H
    refine zo (op_not rfl) (zo (op_pickF rfl rfl rfl) (zn (zt rfl rfl (zq (zr ?_)))))
    refine za rfl (zn ?_)
    refine Go1.ret1 Try.func21 rfl ?_
    replace hB := ((((((hB.trans dI.fr).trans AV.fr).trans m5.fr).trans m7.fr).trans vK.fr).trans jx.fr).trans eY.fr
    exact ⟨(8 : Int), rfl, hB.same, H⟩
   replace H := ifp rfl H
   refine zo (op_not rfl) (zo (op_pickF rfl rfl rfl) (zn (zf rfl rfl (zk (zq ?_)))))
   refine zr (za rfl (zn ?_))
   refine Go1.ret1 Try.func21 rfl ?_
   replace hB := ((((((hB.trans dI.fr).trans AV.fr).trans m5.fr).trans m7.fr).trans vK.fr).trans jx.fr).trans eY.fr
   exact ⟨(0 : Int), rfl, hB.same, H⟩
  replace H := ifn h37 H
  refine zo (fun w => opB (op_neq rfl rfl w) (ndF h37)) (zm rfl (zp (zp (zp (zp ?_)))))
  refine zo (op_pickT rfl rfl rfl) (zn (zt rfl rfl (zq ?_)))
  refine Go1.cut [] trivial ?_
  intro σ _
  refine zr (za rfl (zn ?_))
  refine Go1.ret1 Try.func21 rfl ?_
  replace hB := (((((hB.trans dI.fr).trans AV.fr).trans m5.fr).trans m7.fr).trans vK.fr).trans jx.fr
  exact ⟨(8 : Int), rfl, hB.same, H⟩
 replace H := ifn h26 H
 refine zo (fun w => opB (op_neq rfl rfl w) (ndF h26)) (zn (zt rfl rfl (zq (zr (za rfl ?_)))))
 refine zn ?_
 refine Go1.ret1 Try.func21 rfl ?_
 replace hB := (((hB.trans dI.fr).trans AV.fr).trans m5.fr).trans m7.fr
 exact ⟨(8 : Int), rfl, hB.same, H⟩
theorem body23 : Body Try.prog 23 := ⟨Try.f23, Try.func23, rfl, by kernel_rfl⟩
theorem walk_ref12_Step {A : List Nat} {w0 : World} {cd : Option Addr} {ce : Nat} {bG : Option Addr} {bH : Nat} {bq : Option Addr} {bt : Nat} {b7 : Option Addr} {b8 : Nat} {bI : Option Addr} {bK : Nat} {bM : Option Addr} {bN : Nat} {e : Enum} {budget : Int} (hA : ∀ b ∈ A, b < w0.heap.size) (aR : ISl (Rp.sl (Rp.int .i64)) A w0 cd ce e.Gens) (aK : ISl (Rp.sl (Rp.int .i64)) A w0 bG bH e.Elems) (aC : ISl (Rp.int .i64) A w0 bq bt e.Prefix) (aS : ISl (Rp.int .i64) A w0 b7 b8 e.Last) (aL : ISl (Rp.sl (Rp.int .i64)) A w0 bI bK e.Right) (aM : ISl (rpRule) A w0 bM bN e.Rules) {K : Enum → Int → Prop} (H : ref12_Step e budget K) :
    CallsV Try.prog 23 #[.agg #[.int .i64 e.Points, .bool e.Monoid, .slice cd e.Gens.length ce, .slice bG e.Elems.length bH, .slice bq e.Prefix.length bt, .slice b7 e.Last.length b8, .slice bI e.Right.length bK, .slice bM e.Rules.length bN, .int .i64 e.Done], .int .i64 budget] w0 (fun v w' => ∃ (r0 : Enum), ∃ (r1 : Int), ∃ (pt : Option Addr), ∃ (pv : Nat), ∃ (nK : Option Addr), ∃ (nM : Nat), ∃ (l5 : Option Addr), ∃ (l7 : Nat), ∃ (px : Option Addr), ∃ (pz : Nat), ∃ (nN : Option Addr), ∃ (nO : Nat), ∃ (nP : Option Addr), ∃ (nQ : Nat), v = .tuple #[.agg #[.int .i64 r0.Points, .bool r0.Monoid, .slice pt r0.Gens.length pv, .slice nK r0.Elems.length nM, .slice l5 r0.Prefix.length l7, .slice px r0.Last.length pz, .slice nN r0.Right.length nO, .slice nP r0.Rules.length nQ, .int .i64 r0.Done], .int .i64 r1] ∧ Same w0 w' ∧ ISl (Rp.sl (Rp.int .i64)) A w' pt pv r0.Gens ∧ ISl (Rp.sl (Rp.int .i64)) A w' nK nM r0.Elems ∧ ISl (Rp.int .i64) A w' l5 l7 r0.Prefix ∧ ISl (Rp.int .i64) A w' px pz r0.Last ∧ ISl (Rp.sl (Rp.int .i64)) A w' nN nO r0.Right ∧ ISl (rpRule) A w' nP nQ r0.Rules ∧ K r0 r1) := by
 refine CallsV.of (l := [.agg #[.int .i64 e.Points, .bool e.Monoid, .slice cd e.Gens.length ce, .slice bG e.Elems.length bH, .slice bq e.Prefix.length bt, .slice b7 e.Last.length b8, .slice bI e.Right.length bK, .slice bM e.Rules.length bN, .int .i64 e.Done], .int .i64 budget]) Try.func23 rfl Try.ntmps23 rfl ?_
 have hO := Owns.start hA
 have hB := Fr.refl (bl []) w0
 unfold ref12_Step at H
 refine zq (zr ?_)
 have hobt := obox (t := 29) (v := .agg #[.int .i64 e.Points, .bool e.Monoid, .slice cd e.Gens.length ce, .slice bG e.Elems.length bH, .slice bq e.Prefix.length bt, .slice b7 e.Last.length b8, .slice bI e.Right.length bK, .slice bM e.Rules.length bN, .int .i64 e.Done]) (cs := #[.int .i64 e.Points, .bool e.Monoid, .slice cd e.Gens.length ce, .slice bG e.Elems.length bH, .slice bq e.Prefix.length bt, .slice b7 e.Last.length b8, .slice bI e.Right.length bK, .slice bM e.Rules.length bN, .int .i64 e.Done]) hO rfl
 obtain ⟨w1, B2, dI, hs4, qb⟩ := hobt
 refine zg (qb rfl) ?_
 replace hO := dI.own
 have hobt := oalloc (t := 29) (cs := #[.int .i64 (0 : Int), .bool false, .slice none 0 0, .slice none 0 0, .slice none 0 0, .slice none 0 0, .slice none 0 0, .slice none 0 0, .int .i64 (0 : Int)]) ti29 hO rfl
 obtain ⟨w7, B8, kV, FD, BI⟩ := hobt
 refine GoR.op BI rfl rfl ?_
 replace hO := kV.own
 refine za rfl (zn (zq (zq (zr (zs (oblkAgg (vs := [.int .i64 e.Points, .bool e.Monoid, .slice cd e.Gens.length ce, .slice bG e.Elems.length bH, .slice bq e.Prefix.length bt, .slice b7 e.Last.length b8, .slice bI e.Right.length bK, .slice bM e.Rules.length bN, .int .i64 e.Done]) (i := 0) 1 hO rfl rfl Try.underlying29 rfl ti29 rfl) ?_)))))
 have Z1 := ((Ch.start A w0).trans dI.ch).trans kV.ch
 replace aR := aR.ch Z1
 replace aK := aK.ch Z1
 replace aC := aC.ch Z1
 replace aS := aS.ch Z1
 replace aL := aL.ch Z1
 replace aM := aM.ch Z1
 refine GoR.call (op_call body21 rfl (walk_ref12_Validate (e := e) hO.lt aR aK aC aS aL aM H)) rfl rfl ?_
 rintro v17 w14 ⟨r13, rfl, JP, H⟩
 have lC := Stp.same hO JP
 replace hO := lC.own
 refine za rfl (zn (zq (zr (zm rfl ?_))))
 by_cases h19 : r13 = (0 : Int)
 ·replace H := ifp h19 H
  refine zo (fun w => opB (op_neq rfl rfl w) (ndT h19)) (zn (zf rfl rfl (zk (zq (zq ?_)))))
  refine zr (zm rfl ?_)
  by_cases h20 : budget < (0 : Int)
  ·replace H := ifp h20 H
   refine zo (fun w => opB (op_lss rfl rfl w) (decide_eq_true h20)) (zn (zt rfl rfl (zq (zr (zo (op_build Try.underlying29 ti29 (pl := [(0, 1), (1, 1), (2, 1), (3, 1), (4, 1), (5, 1), (6, 1), (7, 1), (8, 1)]) (vs := []) (cs := #[.int .i64 (0 : Int), .bool false, .slice none 0 0, .slice none 0 0, .slice none 0 0, .slice none 0 0, .slice none 0 0, .slice none 0 0, .int .i64 (0 : Int)]) (by kernel_rfl) rfl (by kernel_rfl)) ?_)))))
   have hobt := oblkStAgg (us := [.int .i64 (0 : Int), .bool false, .slice none 0 0, .slice none 0 0, .slice none 0 0, .slice none 0 0, .slice none 0 0, .slice none 0 0, .int .i64 (0 : Int)]) (o := 0) (cs' := #[.int .i64 (0 : Int), .bool false, .slice none 0 0, .slice none 0 0, .slice none 0 0, .slice none 0 0, .slice none 0 0, .slice none 0 0, .int .i64 (0 : Int)]) 0 hO rfl rfl (Nat.le_of_ble_eq_true rfl) rfl
   obtain ⟨w21, eK, BJ⟩ := hobt
   refine zg (BJ ti29 (by exact rfl) (by exact rfl) rfl) ?_
   replace hO := eK.own
   refine za rfl (zn ?_)
   refine Go1.retC2 Try.func23 rfl rfl (run_loadBlk (vs := [.int .i64 (0 : Int), .bool false, .slice none 0 0, .slice none 0 0, .slice none 0 0, .slice none 0 0, .slice none 0 0, .slice none 0 0, .int .i64 (0 : Int)]) 0 hO rfl rfl Try.underlying29 rfl ti29) ?_
   replace hB := (((hB.trans dI.fr).trans kV.fr).trans lC.fr).trans eK.fr
   exact ⟨(⟨(0 : Int), false, ([] : List (List Int)), ([] : List (List Int)), ([] : List Int), ([] : List Int), ([] : List (List Int)), ([] : List Rule), (0 : Int)⟩ : Enum), (1 : Int), none, 0, none, 0, none, 0, none, 0, none, 0, none, 0, rfl, hB.same, (ISl.null _ _ _), (ISl.null _ _ _), (ISl.null _ _ _), (ISl.null _ _ _), (ISl.null _ _ _), (ISl.null _ _ _), H⟩
  replace H := ifn h20 H
  refine zo (fun w => opB (op_lss rfl rfl w) (decide_eq_false h20)) (zn (zf rfl rfl (zk (zq (zr ?_)))))
  refine zs (oblkAgg (vs := [.int .i64 e.Points, .bool e.Monoid, .slice cd e.Gens.length ce, .slice bG e.Elems.length bH, .slice bq e.Prefix.length bt, .slice b7 e.Last.length b8, .slice bI e.Right.length bK, .slice bM e.Rules.length bN, .int .i64 e.Done]) (i := 0) 1 hO rfl rfl Try.underlying29 rfl ti29 rfl) (zm rfl ?_)
  replace aR := aR.ch lC.ch
  replace aK := aK.ch lC.ch
  replace aC := aC.ch lC.ch
  replace aS := aS.ch lC.ch
  replace aL := aL.ch lC.ch
  replace aM := aM.ch lC.ch
  refine GoR.call (op_call body52 rfl (walk_ref12_process (a0 := e) hO.lt aR aK aC aS aL aM H)) rfl rfl ?_
  rintro v29 w26 ⟨r24, r25, zY, z3, yY, y3, yn, yo, z4, z5, y4, y5, y6, y7, rfl, WP, CJ, Bz, At, CK, BA, BB, H⟩
  have AW := Stp.same hO WP
  replace hO := AW.own
  refine zo (op_extract rfl rfl) (zo (op_extract rfl rfl) ?_)
  have hobt := oblkStAgg (us := [.int .i64 r24.Points, .bool r24.Monoid, .slice zY r24.Gens.length z3, .slice yY r24.Elems.length y3, .slice yn r24.Prefix.length yo, .slice z4 r24.Last.length z5, .slice y4 r24.Right.length y5, .slice y6 r24.Rules.length y7, .int .i64 r24.Done]) (o := 0) (cs' := #[.int .i64 r24.Points, .bool r24.Monoid, .slice zY r24.Gens.length z3, .slice yY r24.Elems.length y3, .slice yn r24.Prefix.length yo, .slice z4 r24.Last.length z5, .slice y4 r24.Right.length y5, .slice y6 r24.Rules.length y7, .int .i64 r24.Done]) 0 hO rfl rfl (Nat.le_of_ble_eq_true rfl) rfl
  obtain ⟨w31, ob, TD⟩ := hobt
  refine zg (TD ti29 (by exact rfl) (by exact rfl) rfl) ?_
  replace hO := ob.own
  refine za rfl (zn ?_)
  refine Go1.retC2 Try.func23 rfl rfl (run_loadBlk (vs := [.int .i64 r24.Points, .bool r24.Monoid, .slice zY r24.Gens.length z3, .slice yY r24.Elems.length y3, .slice yn r24.Prefix.length yo, .slice z4 r24.Last.length z5, .slice y4 r24.Right.length y5, .slice y6 r24.Rules.length y7, .int .i64 r24.Done]) 0 hO rfl rfl Try.underlying29 rfl ti29) ?_
  replace CJ := CJ.ch ob.ch
  replace Bz := Bz.ch ob.ch
  replace At := At.ch ob.ch
  replace CK := CK.ch ob.ch
  replace BA := BA.ch ob.ch
  replace BB := BB.ch ob.ch
  replace hB := ((((hB.trans dI.fr).trans kV.fr).trans lC.fr).trans AW.fr).trans ob.fr
  exact ⟨(⟨r24.Points, r24.Monoid, r24.Gens, r24.Elems, r24.Prefix, r24.Last, r24.Right, r24.Rules, r24.Done⟩ : Enum), r25, zY, z3, yY, y3, yn, yo, z4, z5, y4, y5, y6, y7, rfl, hB.same, (CJ.ch (Ch.weak _ _ _)), (Bz.ch (Ch.weak _ _ _)), (At.ch (Ch.weak _ _ _)), (CK.ch (Ch.weak _ _ _)), (BA.ch (Ch.weak _ _ _)), (BB.ch (Ch.weak _ _ _)), H⟩
 replace H := ifn h19 H
 refine zo (fun w => opB (op_neq rfl rfl w) (ndF h19)) (zn (zt rfl rfl (zq ?_)))
 refine Go1.cut [(4, .pointer (some ⟨B8, 0, none⟩)), (6, .int .i64 r13)] ⟨rfl, rfl, trivial⟩ ?_
 intro σ _
 refine zr (zo (op_build Try.underlying29 ti29 (pl := [(0, 1), (1, 1), (2, 1), (3, 1), (4, 1), (5, 1), (6, 1), (7, 1), (8, 1)]) (vs := []) (cs := #[.int .i64 (0 : Int), .bool false, .slice none 0 0, .slice none 0 0, .slice none 0 0, .slice none 0 0, .slice none 0 0, .slice none 0 0, .int .i64 (0 : Int)]) (by kernel_rfl) rfl (by kernel_rfl)) (zm rfl ?_))
 have hobt := oblkStAgg (us := [.int .i64 (0 : Int), .bool false, .slice none 0 0, .slice none 0 0, .slice none 0 0, .slice none 0 0, .slice none 0 0, .slice none 0 0, .int .i64 (0 : Int)]) (o := 0) (cs' := #[.int .i64 (0 : Int), .bool false, .slice none 0 0, .slice none 0 0, .slice none 0 0, .slice none 0 0, .slice none 0 0, .slice none 0 0, .int .i64 (0 : Int)]) 0 hO rfl rfl (Nat.le_of_ble_eq_true rfl) rfl
 obtain ⟨w34, jx, Er⟩ := hobt
 refine zg (Er ti29 (by exact rfl) (by exact rfl) rfl) ?_
 replace hO := jx.own
 refine za rfl (zn ?_)
 refine Go1.retC2 Try.func23 rfl rfl (run_loadBlk (vs := [.int .i64 (0 : Int), .bool false, .slice none 0 0, .slice none 0 0, .slice none 0 0, .slice none 0 0, .slice none 0 0, .slice none 0 0, .int .i64 (0 : Int)]) 0 hO rfl rfl Try.underlying29 rfl ti29) ?_
 replace hB := (((hB.trans dI.fr).trans kV.fr).trans lC.fr).trans jx.fr
 exact ⟨(⟨(0 : Int), false, ([] : List (List Int)), ([] : List (List Int)), ([] : List Int), ([] : List Int), ([] : List (List Int)), ([] : List Rule), (0 : Int)⟩ : Enum), r13, none, 0, none, 0, none, 0, none, 0, none, 0, none, 0, rfl, hB.same, (ISl.null _ _ _), (ISl.null _ _ _), (ISl.null _ _ _), (ISl.null _ _ _), (ISl.null _ _ _), (ISl.null _ _ _), H⟩
end Sg
