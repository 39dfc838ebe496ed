/- The walks: each call keeps to its plain transformer. Printed by walkgen.py. -/
import Derived.Test.YtjegjjdfgefkoaaTi
import Derived.Test.YtjegjjdfgefkoaaWEnumerateBuilds
import Derived.Test.YtjegjjdfgefkoaaWEnumerateBuildsc
import Derived.Test.YtjegjjdfgefkoaaWEnumerateBuildsd
import Derived.Test.YtjegjjdfgefkoaaWEnumerateBuildsf
import Derived.Test.YtjegjjdfgefkoaaAl
namespace Sg
open Go Go.RowKit Go.Proofs
set_option linter.unusedVariables false
set_option linter.unusedSimpArgs false
set_option maxRecDepth 100000
set_option maxHeartbeats 4000000
theorem body25 : Body Try.prog 25 := ⟨Try.f25, Try.func25, rfl, by kernel_rfl⟩
theorem walk_enumerate_Start {A : List Nat} {w0 : World} {iQ : Option Addr} {iR : Nat} {gens : List (List Int)} {monoid : Bool} (hA : ∀ b ∈ A, b < w0.heap.size) (b5 : ISl (Rp.sl (Rp.int .i64)) A w0 iQ iR gens) {K : Enum → Int → Prop} (H : enumerate_Start gens monoid K) :
    CallsV Try.prog 25 #[.slice iQ gens.length iR, .bool monoid] w0 (fun v w' => ∃ (r0 : Enum), ∃ (r1 : Int), ∃ (oN : Option Addr), ∃ (oO : Nat), ∃ (nA : Option Addr), ∃ (nB : Nat), ∃ (mC : Option Addr), ∃ (mD : Nat), ∃ (oP : Option Addr), ∃ (oQ : Nat), ∃ (nC : Option Addr), ∃ (nD : Nat), ∃ (nE : Option Addr), ∃ (nF : Nat), v = .tuple #[.agg #[.int .i64 r0.Points, .bool r0.Monoid, .slice oN r0.Gens.length oO, .slice nA r0.Elems.length nB, .slice mC r0.Prefix.length mD, .slice oP r0.Last.length oQ, .slice nC r0.Right.length nD, .slice nE r0.Rules.length nF, .int .i64 r0.Done], .int .i64 r1] ∧ Same w0 w' ∧ ISl (Rp.sl (Rp.int .i64)) A w' oN oO r0.Gens ∧ ISl (Rp.sl (Rp.int .i64)) A w' nA nB r0.Elems ∧ ISl (Rp.int .i64) A w' mC mD r0.Prefix ∧ ISl (Rp.int .i64) A w' oP oQ r0.Last ∧ ISl (Rp.sl (Rp.int .i64)) A w' nC nD r0.Right ∧ ISl (rpRule) A w' nE nF r0.Rules ∧ K r0 r1) := by
 refine CallsV.of (l := [.slice iQ gens.length iR, .bool monoid]) Try.func25 rfl Try.ntmps25 rfl ?_
 have hO := Owns.start hA
 have hB := Fr.refl (bl []) w0
 unfold enumerate_Start at H
 refine zq (zr ?_)
 have hobt := oalloc (t := 29) (cs := #[.int .i64 (0 : Int), .bool false, .slice none 0 0, .slice none 0 0, .slice none 0 0, .slice none 0 0, .slice none 0 0, .slice none 0 0, .int .i64 (0 : Int)]) ti29 hO rfl
 obtain ⟨w1, B2, et, hs4, sQ⟩ := hobt
 refine GoR.op sQ rfl rfl ?_
 replace hO := et.own
 refine za rfl (zn (zq (zr (zm rfl (zm rfl ?_)))))
 replace b5 := (b5.ch (Ch.start A w0)).ch et.ch
 refine GoR.call (op_call body49 rfl (walk_enumerate_begin hO.lt b5 H)) rfl rfl ?_
 intro v9 w10 hcase13
 refine Or.elim hcase13 ?_ ?_
 ·refine exE fun r8 => andE fun hv14 => andE fun rq => fun H => ?_
  subst hv14
  clear hcase13
  replace H := oElimN H
  have eI := Stp.same hO rq
  replace hO := eI.own
  refine zm rfl (zo (op_extract rfl rfl) (zo (op_extract rfl rfl) (za rfl (za rfl (zn ?_)))))
  refine zq (zq (zr (zm rfl ?_)))
  by_cases h16 : r8 = (0 : Int)
  ·replace H := ifp h16 H
   refine zo (fun w => opB (op_neq rfl rfl w) (ndT h16)) (zn (zf rfl rfl (zk (zq (zr ?_)))))
   refine zm rfl ?_
   exact H.elim
  replace H := ifn h16 H
  refine zo (fun w => opB (op_neq rfl rfl w) (ndF h16)) (zn (zt rfl rfl (zq (zr (zo (op_build Try.underlying29 ti29 (pl := [(0, 1), (1, 1), (2, 1), (3, 1), (4, 1), (5, 1), (6, 1), (7, 1), (8, 1)]) (vs := []) (cs := #[.int .i64 (0 : Int), .bool false, .slice none 0 0, .slice none 0 0, .slice none 0 0, .slice none 0 0, .slice none 0 0, .slice none 0 0, .int .i64 (0 : Int)]) (by kernel_rfl) rfl (by kernel_rfl)) ?_)))))
  refine zm rfl ?_
  have hobt := oblkStAgg (us := [.int .i64 (0 : Int), .bool false, .slice none 0 0, .slice none 0 0, .slice none 0 0, .slice none 0 0, .slice none 0 0, .slice none 0 0, .int .i64 (0 : Int)]) (o := 0) (cs' := #[.int .i64 (0 : Int), .bool false, .slice none 0 0, .slice none 0 0, .slice none 0 0, .slice none 0 0, .slice none 0 0, .slice none 0 0, .int .i64 (0 : Int)]) 0 hO rfl rfl (Nat.le_of_ble_eq_true rfl) rfl
  obtain ⟨w17, nl, I2⟩ := hobt
  refine zg (I2 ti29 (by exact rfl) (by exact rfl) rfl) ?_
  replace hO := nl.own
  refine za rfl (zn ?_)
  refine Go1.retC2 Try.func25 rfl rfl (run_loadBlk (vs := [.int .i64 (0 : Int), .bool false, .slice none 0 0, .slice none 0 0, .slice none 0 0, .slice none 0 0, .slice none 0 0, .slice none 0 0, .int .i64 (0 : Int)]) 0 hO rfl rfl Try.underlying29 rfl ti29) ?_
  replace hB := ((hB.trans et.fr).trans eI.fr).trans nl.fr
  exact ⟨(⟨(0 : Int), false, ([] : List (List Int)), ([] : List (List Int)), ([] : List Int), ([] : List Int), ([] : List (List Int)), ([] : List Rule), (0 : Int)⟩ : Enum), r8, none, 0, none, 0, none, 0, none, 0, none, 0, none, 0, rfl, hB.same, (ISl.null _ _ _), (ISl.null _ _ _), (ISl.null _ _ _), (ISl.null _ _ _), (ISl.null _ _ _), (ISl.null _ _ _), H⟩
 ·refine exE fun r7 => exE fun r8 => exE fun dT => exE fun iN => exE fun gs => exE fun gt => exE fun nG => exE fun ib => exE fun fG => exE fun fH => exE fun m5 => exE fun gJ => exE fun fh => exE fun fk => exE fun ml => exE fun iO => exE fun gu => exE fun gv => exE fun nH => exE fun ic => exE fun fI => exE fun fJ => exE fun m6 => exE fun ie => exE fun fK => exE fun fL => exE fun m7 => exE fun af => exE fun sA => exE fun sB => exE fun sC => exE fun rE => exE fun rF => exE fun rG => exE fun rH => exE fun qT => exE fun rI => exE fun rJ => exE fun rK => exE fun qU => andE fun hv20 => andE fun rq => andE fun hN12 => andE fun cS => andE fun cg => andE fun bT => andE fun bY => andE fun bG => andE fun bw => andE fun ci => andE fun cj => andE fun ck => fun H => ?_
  subst hv20
  clear hcase13
  replace H := oElimS H
  have mz := Stp.more hO rq hN12
  dsimp only [List.cons_append, List.nil_append] at mz
  replace hO := mz.own
  replace cS := cS.ch (Ch.assoc _ _ _ _)
  dsimp only [List.cons_append, List.nil_append] at cS
  replace cg := cg.ch (Ch.assoc _ _ _ _)
  dsimp only [List.cons_append, List.nil_append] at cg
  replace bT := bT.ch (Ch.assoc _ _ _ _)
  dsimp only [List.cons_append, List.nil_append] at bT
  replace bY := bY.ch (Ch.assoc _ _ _ _)
  dsimp only [List.cons_append, List.nil_append] at bY
  replace bG := bG.ch (Ch.assoc _ _ _ _)
  dsimp only [List.cons_append, List.nil_append] at bG
  replace bw := bw.ch (Ch.assoc _ _ _ _)
  dsimp only [List.cons_append, List.nil_append] at bw
  replace ci := ci.ch (Ch.assoc _ _ _ _)
  dsimp only [List.cons_append, List.nil_append] at ci
  replace cj := cj.ch (Ch.assoc _ _ _ _)
  dsimp only [List.cons_append, List.nil_append] at cj
  replace ck := ck.ch (Ch.assoc _ _ _ _)
  dsimp only [List.cons_append, List.nil_append] at ck
  refine zm rfl (zo (op_extract rfl rfl) (zo (op_extract rfl rfl) (za rfl (za rfl (zn ?_)))))
  refine zq (zq ?_)
  refine Go1.cut [(4, .pointer (some ⟨B2, 0, none⟩)), (6, .pointer (some ⟨dT, 0, none⟩)), (7, .int .i64 r8)] ⟨rfl, rfl, rfl, trivial⟩ ?_
  intro σ _
  refine zr (zm rfl ?_)
  by_cases h33 : r8 = (0 : Int)
  ·replace H := ifp h33 H
   refine zo (fun w => opB (op_neq rfl rfl w) (ndT h33)) (zn (zf rfl rfl (zk (zq (zr ?_)))))
   refine zm rfl (zo (op_nilCheck rfl) (zo (op_fieldAddr Try.underlying72 rfl ti29 rfl (by decide)) (zs (oblkAgg (vs := [.int .i64 r7.Enum.Points, .bool r7.Enum.Monoid, .slice gs iN gt, .slice fG ib fH, .slice fh gJ fk, .slice gu iO gv, .slice fI ic fJ, .slice fK ie fL, .int .i64 r7.Enum.Done]) (i := 0) 0 hO rfl rfl Try.underlying29 rfl ti29 rfl) ?_)))
   have hobt := oblkStAgg (us := [.int .i64 r7.Enum.Points, .bool r7.Enum.Monoid, .slice gs iN gt, .slice fG ib fH, .slice fh gJ fk, .slice gu iO gv, .slice fI ic fJ, .slice fK ie fL, .int .i64 r7.Enum.Done]) (o := 0) (cs' := #[.int .i64 r7.Enum.Points, .bool r7.Enum.Monoid, .slice gs iN gt, .slice fG ib fH, .slice fh gJ fk, .slice gu iO gv, .slice fI ic fJ, .slice fK ie fL, .int .i64 r7.Enum.Done]) 11 hO rfl rfl (Nat.le_of_ble_eq_true rfl) rfl
   obtain ⟨w34, nh, zT⟩ := hobt
   dsimp only [sS, sZ] at nh
   refine zg (zT ti29 (by exact rfl) (by exact rfl) rfl) ?_
   replace hO := nh.own
   refine za rfl (zn ?_)
   replace cS := cS.ch nh.ch
   have hobt := freeze 1 hO rfl cS
   obtain ⟨hO1, uR, tQ, Li⟩ := hobt
   dsimp only [eS, eZ] at hO1 uR tQ
   replace hB := (((hB.trans et.fr).trans mz.fr).trans nh.fr).trans (Owns.dropFr _ _ 1)
   dsimp only [eS, eZ] at hB
   replace hO := hO1; clear hO1
   replace cg := (cg.ch nh.ch).ch uR
   have hobt := freeze 1 hO rfl cg
   obtain ⟨hO1, uS, uT, Lj⟩ := hobt
   dsimp only [eS, eZ] at hO1 uS uT
   replace hB := hB.trans (Owns.dropFr _ _ 1)
   dsimp only [eS, eZ] at hB
   replace hO := hO1; clear hO1
   have Z1 := (nh.ch.trans uR).trans uS
   replace bT := bT.ch Z1
   have hobt := freeze 1 hO rfl bT
   obtain ⟨hO1, uU, kl, Lk⟩ := hobt
   dsimp only [eS, eZ] at hO1 uU kl
   replace hB := hB.trans (Owns.dropFr _ _ 1)
   dsimp only [eS, eZ] at hB
   replace hO := hO1; clear hO1
   replace bY := (bY.ch Z1).ch uU
   have hobt := freeze 1 hO rfl bY
   obtain ⟨hO1, uV, xP, Ll⟩ := hobt
   dsimp only [eS, eZ] at hO1 uV xP
   replace hB := hB.trans (Owns.dropFr _ _ 1)
   dsimp only [eS, eZ] at hB
   replace hO := hO1; clear hO1
   replace bG := ((bG.ch Z1).ch uU).ch uV
   have hobt := freeze 1 hO rfl bG
   obtain ⟨hO1, uW, z7, Lm⟩ := hobt
   dsimp only [eS, eZ] at hO1 uW z7
   replace hB := hB.trans (Owns.dropFr _ _ 1)
   dsimp only [eS, eZ] at hB
   replace hO := hO1; clear hO1
   have Z2 := ((Z1.trans uU).trans uV).trans uW
   replace bw := bw.ch Z2
   have hobt := freeze 1 hO rfl bw
   obtain ⟨hO1, uX, EX, Ln⟩ := hobt
   dsimp only [eS, eZ] at hO1 uX EX
   replace hB := hB.trans (Owns.dropFr _ _ 1)
   dsimp only [eS, eZ] at hB
   replace hO := hO1; clear hO1
   refine Go1.retC2 Try.func25 rfl rfl (run_loadBlk (vs := [.int .i64 r7.Enum.Points, .bool r7.Enum.Monoid, .slice gs iN gt, .slice fG ib fH, .slice fh gJ fk, .slice gu iO gv, .slice fI ic fJ, .slice fK ie fL, .int .i64 r7.Enum.Done]) 5 hO rfl rfl Try.underlying29 rfl ti29) ?_
   replace z7 := z7.ch uX
   replace xP := (xP.ch uW).ch uX
   have Z3 := (uV.trans uW).trans uX
   replace kl := kl.ch Z3
   have Z4 := ((uU.trans uV).trans uW).trans uX
   replace uT := uT.ch Z4
   have Z5 := (((uS.trans uU).trans uV).trans uW).trans uX
   replace tQ := tQ.ch Z5
   exact ⟨(⟨r7.Enum.Points, r7.Enum.Monoid, r7.Enum.Gens, r7.Enum.Elems, r7.Enum.Prefix, r7.Enum.Last, r7.Enum.Right, r7.Enum.Rules, r7.Enum.Done⟩ : Enum), (0 : Int), gs, gt, fG, fH, fh, fk, gu, gv, fI, fJ, fK, fL, (congrArg (fun l => Value.tuple (List.toArray l)) (cons_eq (congrArg (fun l => Value.agg (List.toArray l)) (cons_eq rfl (cons_eq rfl (cons_eq (congrArg (fun nn => Value.slice gs nn gt) Li) (cons_eq (congrArg (fun nn => Value.slice fG nn fH) Lj) (cons_eq (congrArg (fun nn => Value.slice fh nn fk) Lk) (cons_eq (congrArg (fun nn => Value.slice gu nn gv) Ll) (cons_eq (congrArg (fun nn => Value.slice fI nn fJ) Lm) (cons_eq (congrArg (fun nn => Value.slice fK nn fL) Ln) (cons_eq rfl rfl)))))))))) (cons_eq rfl rfl))), hB.same, (tQ.ch (Ch.weak _ _ _)), (uT.ch (Ch.weak _ _ _)), (kl.ch (Ch.weak _ _ _)), (xP.ch (Ch.weak _ _ _)), (z7.ch (Ch.weak _ _ _)), (EX.ch (Ch.weak _ _ _)), H⟩
  replace H := ifn h33 H
  refine zo (fun w => opB (op_neq rfl rfl w) (ndF h33)) (zn (zt rfl rfl (zq (zr (zo (op_build Try.underlying29 ti29 (pl := [(0, 1), (1, 1), (2, 1), (3, 1), (4, 1), (5, 1), (6, 1), (7, 1), (8, 1)]) (vs := []) (cs := #[.int .i64 (0 : Int), .bool false, .slice none 0 0, .slice none 0 0, .slice none 0 0, .slice none 0 0, .slice none 0 0, .slice none 0 0, .int .i64 (0 : Int)]) (by kernel_rfl) rfl (by kernel_rfl)) ?_)))))
  refine zm rfl ?_
  have hobt := oblkStAgg (us := [.int .i64 (0 : Int), .bool false, .slice none 0 0, .slice none 0 0, .slice none 0 0, .slice none 0 0, .slice none 0 0, .slice none 0 0, .int .i64 (0 : Int)]) (o := 0) (cs' := #[.int .i64 (0 : Int), .bool false, .slice none 0 0, .slice none 0 0, .slice none 0 0, .slice none 0 0, .slice none 0 0, .slice none 0 0, .int .i64 (0 : Int)]) 11 hO rfl rfl (Nat.le_of_ble_eq_true rfl) rfl
  obtain ⟨w55, rk, I3⟩ := hobt
  dsimp only [sS, sZ] at rk
  refine zg (I3 ti29 (by exact rfl) (by exact rfl) rfl) ?_
  replace hO := rk.own
  refine za rfl (zn ?_)
  refine Go1.retC2 Try.func25 rfl rfl (run_loadBlk (vs := [.int .i64 (0 : Int), .bool false, .slice none 0 0, .slice none 0 0, .slice none 0 0, .slice none 0 0, .slice none 0 0, .slice none 0 0, .int .i64 (0 : Int)]) 11 hO rfl rfl Try.underlying29 rfl ti29) ?_
  replace hB := ((hB.trans et.fr).trans mz.fr).trans rk.fr
  exact ⟨(⟨(0 : Int), false, ([] : List (List Int)), ([] : List (List Int)), ([] : List Int), ([] : List Int), ([] : List (List Int)), ([] : List Rule), (0 : Int)⟩ : Enum), r8, none, 0, none, 0, none, 0, none, 0, none, 0, none, 0, rfl, hB.same, (ISl.null _ _ _), (ISl.null _ _ _), (ISl.null _ _ _), (ISl.null _ _ _), (ISl.null _ _ _), (ISl.null _ _ _), H⟩
theorem walk_law12_EnumerateStarts {A : List Nat} {w0 : World} {iQ : Option Addr} {iR : Nat} {gens : List (List Int)} {monoid : Bool} (hA : ∀ b ∈ A, b < w0.heap.size) (b5 : ISl (Rp.sl (Rp.int .i64)) A w0 iQ iR gens) {K : Bool → Prop} (H : law12_EnumerateStarts gens monoid K) :
    CallsV Try.prog 5 #[.slice iQ gens.length iR, .bool monoid] w0 (fun v w' => ∃ (r0 : Bool), v = .bool r0 ∧ Same w0 w' ∧ K r0) := by
 refine CallsV.of (l := [.slice iQ gens.length iR, .bool monoid]) Try.func5 rfl Try.ntmps5 rfl ?_
 have hO := Owns.start hA
 have hB := Fr.refl (bl []) w0
 unfold law12_EnumerateStarts at H
 refine zq (zr (za rfl (zn (zq (zr ?_)))))
 refine zm rfl (zm rfl ?_)
 replace b5 := b5.ch (Ch.start A w0)
 refine GoR.call (op_call body25 rfl (walk_enumerate_Start hO.lt b5 H)) rfl rfl ?_
 rintro v6 w3 ⟨r1, r2, wb, wc, vE, vF, uY, u0, we, wg, vG, vH, vI, vJ, rfl, hs4, iL, gW, fY, iM, gX, gY, H⟩
 have kr := Stp.same hO hs4
 replace hO := kr.own
 refine zm rfl (zo (op_extract rfl rfl) (zo (op_extract rfl rfl) ?_))
 have hobt := oalloc (t := 29) (cs := #[.int .i64 (0 : Int), .bool false, .slice none 0 0, .slice none 0 0, .slice none 0 0, .slice none 0 0, .slice none 0 0, .slice none 0 0, .int .i64 (0 : Int)]) ti29 hO rfl
 obtain ⟨w8, B9, rh, rq, I4⟩ := hobt
 refine GoR.op I4 rfl rfl ?_
 replace hO := rh.own
 have hobt := oblkStAgg (us := [.int .i64 r1.Points, .bool r1.Monoid, .slice wb r1.Gens.length wc, .slice vE r1.Elems.length vF, .slice uY r1.Prefix.length u0, .slice we r1.Last.length wg, .slice vG r1.Right.length vH, .slice vI r1.Rules.length vJ, .int .i64 r1.Done]) (o := 0) (cs' := #[.int .i64 r1.Points, .bool r1.Monoid, .slice wb r1.Gens.length wc, .slice vE r1.Elems.length vF, .slice uY r1.Prefix.length u0, .slice we r1.Last.length wg, .slice vG r1.Right.length vH, .slice vI r1.Rules.length vJ, .int .i64 r1.Done]) 0 hO rfl rfl (Nat.le_of_ble_eq_true rfl) rfl
 obtain ⟨w14, eI, I5⟩ := hobt
 refine zg (I5 ti29 (by exact rfl) (by exact rfl) rfl) ?_
 replace hO := eI.own
 refine za rfl (zn (zq (zr (zm rfl (zm rfl ?_)))))
 have Z1 := (kr.ch.trans rh.ch).trans eI.ch
 replace b5 := b5.ch Z1
 refine GoR.call (op_call body22 rfl (walk_ref12_Start hO.lt b5 H)) rfl rfl ?_
 rintro v22 w19 ⟨r17, r18, vK, vL, u3, u4, uj, uk, vM, vN, u5, u6, u7, u9, rfl, Bh, mA, kW, kj, mB, kX, kY, H⟩
 have i9 := Stp.same hO Bh
 replace hO := i9.own
 refine zm rfl (zo (op_extract rfl rfl) (zo (op_extract rfl rfl) ?_))
 have hobt := oalloc (t := 29) (cs := #[.int .i64 (0 : Int), .bool false, .slice none 0 0, .slice none 0 0, .slice none 0 0, .slice none 0 0, .slice none 0 0, .slice none 0 0, .int .i64 (0 : Int)]) ti29 hO rfl
 obtain ⟨w24, B25, lO, P5, I6⟩ := hobt
 refine GoR.op I6 rfl rfl ?_
 replace hO := lO.own
 have hobt := oblkStAgg (us := [.int .i64 r17.Points, .bool r17.Monoid, .slice vK r17.Gens.length vL, .slice u3 r17.Elems.length u4, .slice uj r17.Prefix.length uk, .slice vM r17.Last.length vN, .slice u5 r17.Right.length u6, .slice u7 r17.Rules.length u9, .int .i64 r17.Done]) (o := 0) (cs' := #[.int .i64 r17.Points, .bool r17.Monoid, .slice vK r17.Gens.length vL, .slice u3 r17.Elems.length u4, .slice uj r17.Prefix.length uk, .slice vM r17.Last.length vN, .slice u5 r17.Right.length u6, .slice u7 r17.Rules.length u9, .int .i64 r17.Done]) 0 hO rfl rfl (Nat.le_of_ble_eq_true rfl) rfl
 obtain ⟨w30, pm, I7⟩ := hobt
 refine zg (I7 ti29 (by exact rfl) (by exact rfl) rfl) ?_
 replace hO := pm.own
 refine za rfl (zn (zq ?_))
 refine Go1.cut [(5, .pointer (some ⟨B9, 0, none⟩)), (6, .int .i64 r2), (7, .pointer (some ⟨B25, 0, none⟩)), (8, .int .i64 r18)] ⟨rfl, rfl, rfl, rfl, trivial⟩ ?_
 intro σ _
 refine zr (zm rfl (zm rfl ?_))
 by_cases h33 : r2 = r18
 ·replace H := ifp h33 H
  refine zo (fun w => opB (op_eql rfl rfl w) (decide_eq_true h33)) (zm rfl (zs (oblkAgg (vs := [.int .i64 r1.Points, .bool r1.Monoid, .slice wb r1.Gens.length wc, .slice vE r1.Elems.length vF, .slice uY r1.Prefix.length u0, .slice we r1.Last.length wg, .slice vG r1.Right.length vH, .slice vI r1.Rules.length vJ, .int .i64 r1.Done]) (i := 0) 1 hO rfl rfl Try.underlying29 rfl ti29 rfl) (zs (oblkAgg (vs := [.int .i64 r17.Points, .bool r17.Monoid, .slice vK r17.Gens.length vL, .slice u3 r17.Elems.length u4, .slice uj r17.Prefix.length uk, .slice vM r17.Last.length vN, .slice u5 r17.Right.length u6, .slice u7 r17.Rules.length u9, .int .i64 r17.Done]) (i := 0) 0 hO rfl rfl Try.underlying29 rfl ti29 rfl) ?_)))
  have Z2 := lO.ch.trans pm.ch
  replace mA := mA.ch Z2
  replace kW := kW.ch Z2
  replace kj := kj.ch Z2
  replace mB := mB.ch Z2
  replace kX := kX.ch Z2
  replace kY := kY.ch Z2
  have Z3 := (((rh.ch.trans eI.ch).trans i9.ch).trans lO.ch).trans pm.ch
  replace iL := iL.ch Z3
  replace gW := gW.ch Z3
  replace fY := fY.ch Z3
  replace iM := iM.ch Z3
  replace gX := gX.ch Z3
  replace gY := gY.ch Z3
  refine GoR.call (op_call body19 rfl (walk_ref12_Same (a0 := r1) (a1 := r17) hO.lt iL gW fY iM gX gY mA kW kj mB kX kY H)) rfl rfl ?_
  rintro v38 w35 ⟨r34, rfl, Lo, H⟩
  have lP := Stp.same hO Lo
  replace hO := lP.own
  refine zo (op_pickT rfl rfl rfl) (zm rfl ?_)
  cases r34
  ·replace H := ifn Bool.false_ne_true H
   refine zp (zo (op_pickF rfl rfl rfl) (za rfl (zn ?_)))
   refine Go1.ret1 Try.func5 rfl ?_
   replace hB := ((((((hB.trans kr.fr).trans rh.fr).trans eI.fr).trans i9.fr).trans lO.fr).trans pm.fr).trans lP.fr
   exact ⟨false, rfl, hB.same, H⟩
  replace H := ifp rfl H
  refine GoR.call (op_call body16 rfl (walk_law12_awake hO.lt H)) rfl rfl ?_
  rintro v44 w41 ⟨r40, rfl, Lp, H⟩
  have iP := Stp.same hO Lp
  replace hO := iP.own
  refine zo (op_pickT rfl rfl rfl) (za rfl (zn ?_))
  refine Go1.ret1 Try.func5 rfl ?_
  replace hB := (((((((hB.trans kr.fr).trans rh.fr).trans eI.fr).trans i9.fr).trans lO.fr).trans pm.fr).trans lP.fr).trans iP.fr
  exact ⟨r40, rfl, hB.same, H⟩
 replace H := ifn h33 H
 refine zo (fun w => opB (op_eql rfl rfl w) (decide_eq_false h33)) (zm rfl (zp (zp (zp (zo (op_pickF rfl rfl rfl) ?_)))))
 refine zm rfl (zp (zo (op_pickF rfl rfl rfl) (za rfl (zn ?_))))
 refine Go1.ret1 Try.func5 rfl ?_
 replace hB := (((((hB.trans kr.fr).trans rh.fr).trans eI.fr).trans i9.fr).trans lO.fr).trans pm.fr
 exact ⟨false, rfl, hB.same, H⟩
end Sg
