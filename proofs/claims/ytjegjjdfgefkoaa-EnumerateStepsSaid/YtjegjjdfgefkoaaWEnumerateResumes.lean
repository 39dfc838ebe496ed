/- The walks: each call keeps to its plain transformer. Printed by walkgen.py. -/
import Derived.Test.YtjegjjdfgefkoaaTi
import Derived.Test.YtjegjjdfgefkoaaWEnumerateBuildsb
import Derived.Test.YtjegjjdfgefkoaaWEnumerateBuildsc
import Derived.Test.YtjegjjdfgefkoaaAl
namespace Sg
open Go Go.RowKit Go.Proofs
set_option linter.unusedVariables false
set_option linter.unusedSimpArgs false
set_option maxRecDepth 100000
set_option maxHeartbeats 4000000
theorem body26 : Body Try.prog 26 := ⟨Try.f26, Try.func26, rfl, by kernel_rfl⟩
theorem walk_enumerate_Step {A : List Nat} {w0 : World} {a8 : Option Addr} {a9 : Nat} {aC : Option Addr} {aD : Nat} {av : Option Addr} {aw : Nat} {aY : Option Addr} {a7 : Nat} {aE : Option Addr} {aF : Nat} {aG : Option Addr} {aH : Nat} {e : Enum} {budget : Int} (hA : ∀ b ∈ A, b < w0.heap.size) (ak : ISl (Rp.sl (Rp.int .i64)) A w0 a8 a9 e.Gens) (af : ISl (Rp.sl (Rp.int .i64)) A w0 aC aD e.Elems) (ae : ISl (Rp.int .i64) A w0 av aw e.Prefix) (aj : ISl (Rp.int .i64) A w0 aY a7 e.Last) (ag : ISl (Rp.sl (Rp.int .i64)) A w0 aE aF e.Right) (ah : ISl (rpRule) A w0 aG aH e.Rules) {K : Enum → Int → Prop} (H : enumerate_Step e budget K) :
    CallsV Try.prog 26 #[.agg #[.int .i64 e.Points, .bool e.Monoid, .slice a8 e.Gens.length a9, .slice aC e.Elems.length aD, .slice av e.Prefix.length aw, .slice aY e.Last.length a7, .slice aE e.Right.length aF, .slice aG e.Rules.length aH, .int .i64 e.Done], .int .i64 budget] w0 (fun v w' => ∃ (r0 : Enum), ∃ (r1 : Int), ∃ (kj : Option Addr), ∃ (kl : Nat), ∃ (iI : Option Addr), ∃ (iJ : Nat), ∃ (gA : Option Addr), ∃ (gB : Nat), ∃ (km : Option Addr), ∃ (kn : Nat), ∃ (iK : Option Addr), ∃ (iL : Nat), ∃ (iM : Option Addr), ∃ (iN : Nat), v = .tuple #[.agg #[.int .i64 r0.Points, .bool r0.Monoid, .slice kj r0.Gens.length kl, .slice iI r0.Elems.length iJ, .slice gA r0.Prefix.length gB, .slice km r0.Last.length kn, .slice iK r0.Right.length iL, .slice iM r0.Rules.length iN, .int .i64 r0.Done], .int .i64 r1] ∧ Same w0 w' ∧ ISl (Rp.sl (Rp.int .i64)) A w' kj kl r0.Gens ∧ ISl (Rp.sl (Rp.int .i64)) A w' iI iJ r0.Elems ∧ ISl (Rp.int .i64) A w' gA gB r0.Prefix ∧ ISl (Rp.int .i64) A w' km kn r0.Last ∧ ISl (Rp.sl (Rp.int .i64)) A w' iK iL r0.Right ∧ ISl (rpRule) A w' iM iN r0.Rules ∧ K r0 r1) := by
 refine CallsV.of (l := [.agg #[.int .i64 e.Points, .bool e.Monoid, .slice a8 e.Gens.length a9, .slice aC e.Elems.length aD, .slice av e.Prefix.length aw, .slice aY e.Last.length a7, .slice aE e.Right.length aF, .slice aG e.Rules.length aH, .int .i64 e.Done], .int .i64 budget]) Try.func26 rfl Try.ntmps26 rfl ?_
 have hO := Owns.start hA
 have hB := Fr.refl (bl []) w0
 unfold enumerate_Step at H
 refine zq (zr ?_)
 have hobt := obox (t := 29) (v := .agg #[.int .i64 e.Points, .bool e.Monoid, .slice a8 e.Gens.length a9, .slice aC e.Elems.length aD, .slice av e.Prefix.length aw, .slice aY e.Last.length a7, .slice aE e.Right.length aF, .slice aG e.Rules.length aH, .int .i64 e.Done]) (cs := #[.int .i64 e.Points, .bool e.Monoid, .slice a8 e.Gens.length a9, .slice aC e.Elems.length aD, .slice av e.Prefix.length aw, .slice aY e.Last.length a7, .slice aE e.Right.length aF, .slice aG e.Rules.length aH, .int .i64 e.Done]) hO rfl
 obtain ⟨w1, B2, cQ, hs4, rh⟩ := hobt
 refine zg (rh rfl) ?_
 replace hO := cQ.own
 have hobt := oalloc (t := 29) (cs := #[.int .i64 (0 : Int), .bool false, .slice none 0 0, .slice none 0 0, .slice none 0 0, .slice none 0 0, .slice none 0 0, .slice none 0 0, .int .i64 (0 : Int)]) ti29 hO rfl
 obtain ⟨w7, B8, iq, Hn, BI⟩ := hobt
 refine GoR.op BI rfl rfl ?_
 replace hO := iq.own
 refine za rfl (zn (zq (zr (zs (oblkAgg (vs := [.int .i64 e.Points, .bool e.Monoid, .slice a8 e.Gens.length a9, .slice aC e.Elems.length aD, .slice av e.Prefix.length aw, .slice aY e.Last.length a7, .slice aE e.Right.length aF, .slice aG e.Rules.length aH, .int .i64 e.Done]) (i := 0) 1 hO rfl rfl Try.underlying29 rfl ti29 rfl) ?_))))
 have Z1 := ((Ch.start A w0).trans cQ.ch).trans iq.ch
 replace ak := ak.ch Z1
 replace af := af.ch Z1
 replace ae := ae.ch Z1
 replace aj := aj.ch Z1
 replace ag := ag.ch Z1
 replace ah := ah.ch Z1
 refine GoR.call (op_call body53 rfl (walk_enumerate_replay (e := e) hO.lt ak af ae aj ag ah H)) rfl rfl ?_
 intro v15 w16 hcase19
 refine Or.elim hcase19 ?_ ?_
 ·refine exE fun r14 => andE fun hv20 => andE fun IC => fun H => ?_
  subst hv20
  clear hcase19
  replace H := oElimN H
  have lL := Stp.same hO IC
  replace hO := lL.own
  refine zm rfl (zo (op_extract rfl rfl) (zo (op_extract rfl rfl) (za rfl (za rfl (zn ?_)))))
  refine zq (zq (zr (zm rfl ?_)))
  cases r14
  ·replace H := ifn Bool.false_ne_true H
   refine zo (op_not rfl) (zn (zt rfl rfl (zq (zr (zo (op_build Try.underlying29 ti29 (pl := [(0, 1), (1, 1), (2, 1), (3, 1), (4, 1), (5, 1), (6, 1), (7, 1), (8, 1)]) (vs := []) (cs := #[.int .i64 (0 : Int), .bool false, .slice none 0 0, .slice none 0 0, .slice none 0 0, .slice none 0 0, .slice none 0 0, .slice none 0 0, .int .i64 (0 : Int)]) (by kernel_rfl) rfl (by kernel_rfl)) ?_)))))
   have hobt := oblkStAgg (us := [.int .i64 (0 : Int), .bool false, .slice none 0 0, .slice none 0 0, .slice none 0 0, .slice none 0 0, .slice none 0 0, .slice none 0 0, .int .i64 (0 : Int)]) (o := 0) (cs' := #[.int .i64 (0 : Int), .bool false, .slice none 0 0, .slice none 0 0, .slice none 0 0, .slice none 0 0, .slice none 0 0, .slice none 0 0, .int .i64 (0 : Int)]) 0 hO rfl rfl (Nat.le_of_ble_eq_true rfl) rfl
   obtain ⟨w22, iD, L9⟩ := hobt
   refine zg (L9 ti29 (by exact rfl) (by exact rfl) rfl) ?_
   replace hO := iD.own
   refine za rfl (zn ?_)
   refine Go1.retC2 Try.func26 rfl rfl (run_loadBlk (vs := [.int .i64 (0 : Int), .bool false, .slice none 0 0, .slice none 0 0, .slice none 0 0, .slice none 0 0, .slice none 0 0, .slice none 0 0, .int .i64 (0 : Int)]) 0 hO rfl rfl Try.underlying29 rfl ti29) ?_
   replace hB := (((hB.trans cQ.fr).trans iq.fr).trans lL.fr).trans iD.fr
   exact ⟨(⟨(0 : Int), false, ([] : List (List Int)), ([] : List (List Int)), ([] : List Int), ([] : List Int), ([] : List (List Int)), ([] : List Rule), (0 : Int)⟩ : Enum), (8 : Int), none, 0, none, 0, none, 0, none, 0, none, 0, none, 0, rfl, hB.same, (ISl.null _ _ _), (ISl.null _ _ _), (ISl.null _ _ _), (ISl.null _ _ _), (ISl.null _ _ _), (ISl.null _ _ _), H⟩
  replace H := ifp rfl H
  refine zo (op_not rfl) (zn (zf rfl rfl (zk (zq (zq ?_)))))
  refine zr (zm rfl ?_)
  by_cases h25 : budget < (0 : Int)
  ·replace H := ifp h25 H
   refine zo (fun w => opB (op_lss rfl rfl w) (decide_eq_true h25)) (zn (zt rfl rfl (zq ?_)))
   refine Go1.cut [(4, .pointer (some ⟨B8, 0, none⟩))] ⟨rfl, trivial⟩ ?_
   intro σ _
   refine zr (zo (op_build Try.underlying29 ti29 (pl := [(0, 1), (1, 1), (2, 1), (3, 1), (4, 1), (5, 1), (6, 1), (7, 1), (8, 1)]) (vs := []) (cs := #[.int .i64 (0 : Int), .bool false, .slice none 0 0, .slice none 0 0, .slice none 0 0, .slice none 0 0, .slice none 0 0, .slice none 0 0, .int .i64 (0 : Int)]) (by kernel_rfl) rfl (by kernel_rfl)) ?_)
   have hobt := oblkStAgg (us := [.int .i64 (0 : Int), .bool false, .slice none 0 0, .slice none 0 0, .slice none 0 0, .slice none 0 0, .slice none 0 0, .slice none 0 0, .int .i64 (0 : Int)]) (o := 0) (cs' := #[.int .i64 (0 : Int), .bool false, .slice none 0 0, .slice none 0 0, .slice none 0 0, .slice none 0 0, .slice none 0 0, .slice none 0 0, .int .i64 (0 : Int)]) 0 hO rfl rfl (Nat.le_of_ble_eq_true rfl) rfl
   obtain ⟨w26, Et, XR⟩ := hobt
   refine zg (XR ti29 (by exact rfl) (by exact rfl) rfl) ?_
   replace hO := Et.own
   refine za rfl (zn ?_)
   refine Go1.retC2 Try.func26 rfl rfl (run_loadBlk (vs := [.int .i64 (0 : Int), .bool false, .slice none 0 0, .slice none 0 0, .slice none 0 0, .slice none 0 0, .slice none 0 0, .slice none 0 0, .int .i64 (0 : Int)]) 0 hO rfl rfl Try.underlying29 rfl ti29) ?_
   replace hB := (((hB.trans cQ.fr).trans iq.fr).trans lL.fr).trans Et.fr
   exact ⟨(⟨(0 : Int), false, ([] : List (List Int)), ([] : List (List Int)), ([] : List Int), ([] : List Int), ([] : List (List Int)), ([] : List Rule), (0 : Int)⟩ : Enum), (1 : Int), none, 0, none, 0, none, 0, none, 0, none, 0, none, 0, rfl, hB.same, (ISl.null _ _ _), (ISl.null _ _ _), (ISl.null _ _ _), (ISl.null _ _ _), (ISl.null _ _ _), (ISl.null _ _ _), H⟩
  replace H := ifn h25 H
  refine zo (fun w => opB (op_lss rfl rfl w) (decide_eq_false h25)) (zn (zf rfl rfl (zk (zq (zb ?_)))))
  replace hO := hO.drop 1
  replace hB := (((hB.trans cQ.fr).trans iq.fr).trans lL.fr).trans (Owns.dropFr _ _ 1)
  refine Go1.loopW (S := Int) (fun s σ w => agrees σ [(1, .int .i64 s), (4, .pointer (some ⟨B8, 0, none⟩)), (6, .pointer none)] ∧ Owns w0.heap.size w [.blk B8 (.cells #[.int .i64 (0 : Int), .bool false, .slice none 0 0, .slice none 0 0, .slice none 0 0, .slice none 0 0, .slice none 0 0, .slice none 0 0, .int .i64 (0 : Int)] 29 (0, 0))] A ∧ Fr (bl []) w0 (bl [.blk B8 (.cells #[.int .i64 (0 : Int), .bool false, .slice none 0 0, .slice none 0 0, .slice none 0 0, .slice none 0 0, .slice none 0 0, .slice none 0 0, .int .i64 (0 : Int)] 29 (0, 0))]) w) H ⟨⟨rfl, rfl, rfl, trivial⟩, hO, hB⟩ ?_
  intro X1 budget1_30
  intro H hX1 σ w29
  refine andE fun hag => andE fun hO => fun hB => ?_
  refine Go1.keep [(1, .int .i64 budget1_30), (4, .pointer (some ⟨B8, 0, none⟩)), (6, .pointer none)] hag ?_
  refine zq (zq (zr (zm rfl ?_)))
  by_cases h31 : (0 : Int) < budget1_30
  ·replace H := ifp h31 H
   refine zo (fun w => opB (op_gtr rfl rfl w) (decide_eq_true h31)) (zm rfl (zm rfl ?_))
   refine GoR.inl (vs := [.pointer none]) (caps := []) rfl rfl body50 Try.func50 rfl Try.ntmps50 rfl rfl rfl ?_
   intro RhR32 hR32
   refine zq (zr (za rfl (zn (zq ?_))))
   refine Go1.drawS 0 [(0, .pure), (1, .pure), (2, .pure), (3, .pure), (4, .stable), (5, .pure), (6, .pure), (7, .pure), (8, .pure), (9, .stable), (10, .pure), (11, .pure), (12, .pure)] mixed (by kernel_rfl) ?_
   intro w33 Ok
   have e9 := Stp.same hO Ok
   replace hO := e9.own
   refine GoQ.pure rfl (op_move rfl) rfl rfl ?_
   exact H.elim
  replace H := ifn h31 H
  refine zo (fun w => opB (op_gtr rfl rfl w) (decide_eq_false h31)) (zm rfl (zp (zp (zp (zo (op_pickF rfl rfl rfl) ?_)))))
  refine zn (zf rfl rfl ?_)
  refine Go1.exit rfl ?_
  refine zq (zr (zm rfl ?_))
  exact H.elim
 ·refine exE fun r13 => exE fun r14 => exE fun mT => exE fun Jd => exE fun Je => exE fun Jf => exE fun IK => exE fun IL => exE fun IM => exE fun IN => exE fun Ic => exE fun Id => exE fun Ie => exE fun Ig => exE fun HF => exE fun Jg => exE fun Jh => exE fun Ji => exE fun IQ => exE fun IR => exE fun IS => exE fun IT => exE fun Ih => exE fun IU => exE fun IV => exE fun IW => exE fun Ii => exE fun cw => exE fun K5 => exE fun K6 => exE fun K7 => exE fun KV => exE fun KW => exE fun KX => exE fun KY => exE fun JM => exE fun K1 => exE fun K2 => exE fun K3 => exE fun JN => andE fun hv36 => andE fun IC => andE fun hN18 => andE fun gU => andE fun gx => andE fun gf => andE fun gV => andE fun gy => andE fun gz => andE fun mc => andE fun kX => andE fun kY => fun H => ?_
  subst hv36
  clear hcase19
  replace H := oElimS H
  have vS := Stp.more hO IC hN18
  dsimp only [List.cons_append, List.nil_append] at vS
  replace hO := vS.own
  replace gU := gU.ch (Ch.assoc _ _ _ _)
  dsimp only [List.cons_append, List.nil_append] at gU
  replace gx := gx.ch (Ch.assoc _ _ _ _)
  dsimp only [List.cons_append, List.nil_append] at gx
  replace gf := gf.ch (Ch.assoc _ _ _ _)
  dsimp only [List.cons_append, List.nil_append] at gf
  replace gV := gV.ch (Ch.assoc _ _ _ _)
  dsimp only [List.cons_append, List.nil_append] at gV
  replace gy := gy.ch (Ch.assoc _ _ _ _)
  dsimp only [List.cons_append, List.nil_append] at gy
  replace gz := gz.ch (Ch.assoc _ _ _ _)
  dsimp only [List.cons_append, List.nil_append] at gz
  replace mc := mc.ch (Ch.assoc _ _ _ _)
  dsimp only [List.cons_append, List.nil_append] at mc
  replace kX := kX.ch (Ch.assoc _ _ _ _)
  dsimp only [List.cons_append, List.nil_append] at kX
  replace kY := kY.ch (Ch.assoc _ _ _ _)
  dsimp only [List.cons_append, List.nil_append] at kY
  refine zm rfl (zo (op_extract rfl rfl) (zo (op_extract rfl rfl) (za rfl (za rfl (zn ?_)))))
  refine zq (zq ?_)
  refine Go1.cut [(1, .int .i64 budget), (4, .pointer (some ⟨B8, 0, none⟩)), (6, .pointer (some ⟨mT, 0, none⟩)), (7, .bool r14)] ⟨rfl, rfl, rfl, rfl, trivial⟩ ?_
  intro σ _
  refine zr (zm rfl ?_)
  cases r14
  ·replace H := ifn Bool.false_ne_true H
   refine zo (op_not rfl) (zn (zt rfl rfl (zq (zr (zo (op_build Try.underlying29 ti29 (pl := [(0, 1), (1, 1), (2, 1), (3, 1), (4, 1), (5, 1), (6, 1), (7, 1), (8, 1)]) (vs := []) (cs := #[.int .i64 (0 : Int), .bool false, .slice none 0 0, .slice none 0 0, .slice none 0 0, .slice none 0 0, .slice none 0 0, .slice none 0 0, .int .i64 (0 : Int)]) (by kernel_rfl) rfl (by kernel_rfl)) ?_)))))
   have hobt := oblkStAgg (us := [.int .i64 (0 : Int), .bool false, .slice none 0 0, .slice none 0 0, .slice none 0 0, .slice none 0 0, .slice none 0 0, .slice none 0 0, .int .i64 (0 : Int)]) (o := 0) (cs' := #[.int .i64 (0 : Int), .bool false, .slice none 0 0, .slice none 0 0, .slice none 0 0, .slice none 0 0, .slice none 0 0, .slice none 0 0, .int .i64 (0 : Int)]) 11 hO rfl rfl (Nat.le_of_ble_eq_true rfl) rfl
   obtain ⟨w49, tU, XS⟩ := hobt
   dsimp only [sS, sZ] at tU
   refine zg (XS ti29 (by exact rfl) (by exact rfl) rfl) ?_
   replace hO := tU.own
   refine za rfl (zn ?_)
   refine Go1.retC2 Try.func26 rfl rfl (run_loadBlk (vs := [.int .i64 (0 : Int), .bool false, .slice none 0 0, .slice none 0 0, .slice none 0 0, .slice none 0 0, .slice none 0 0, .slice none 0 0, .int .i64 (0 : Int)]) 11 hO rfl rfl Try.underlying29 rfl ti29) ?_
   replace hB := (((hB.trans cQ.fr).trans iq.fr).trans vS.fr).trans tU.fr
   exact ⟨(⟨(0 : Int), false, ([] : List (List Int)), ([] : List (List Int)), ([] : List Int), ([] : List Int), ([] : List (List Int)), ([] : List Rule), (0 : Int)⟩ : Enum), (8 : Int), none, 0, none, 0, none, 0, none, 0, none, 0, none, 0, rfl, hB.same, (ISl.null _ _ _), (ISl.null _ _ _), (ISl.null _ _ _), (ISl.null _ _ _), (ISl.null _ _ _), (ISl.null _ _ _), H⟩
  replace H := ifp rfl H
  refine zo (op_not rfl) (zn (zf rfl rfl (zk (zq (zq ?_)))))
  refine zr (zm rfl ?_)
  by_cases h52 : budget < (0 : Int)
  ·replace H := ifp h52 H
   refine zo (fun w => opB (op_lss rfl rfl w) (decide_eq_true h52)) (zn (zt rfl rfl (zq (zr (zo (op_build Try.underlying29 ti29 (pl := [(0, 1), (1, 1), (2, 1), (3, 1), (4, 1), (5, 1), (6, 1), (7, 1), (8, 1)]) (vs := []) (cs := #[.int .i64 (0 : Int), .bool false, .slice none 0 0, .slice none 0 0, .slice none 0 0, .slice none 0 0, .slice none 0 0, .slice none 0 0, .int .i64 (0 : Int)]) (by kernel_rfl) rfl (by kernel_rfl)) ?_)))))
   have hobt := oblkStAgg (us := [.int .i64 (0 : Int), .bool false, .slice none 0 0, .slice none 0 0, .slice none 0 0, .slice none 0 0, .slice none 0 0, .slice none 0 0, .int .i64 (0 : Int)]) (o := 0) (cs' := #[.int .i64 (0 : Int), .bool false, .slice none 0 0, .slice none 0 0, .slice none 0 0, .slice none 0 0, .slice none 0 0, .slice none 0 0, .int .i64 (0 : Int)]) 11 hO rfl rfl (Nat.le_of_ble_eq_true rfl) rfl
   obtain ⟨w53, oo, XT⟩ := hobt
   dsimp only [sS, sZ] at oo
   refine zg (XT ti29 (by exact rfl) (by exact rfl) rfl) ?_
   replace hO := oo.own
   refine za rfl (zn ?_)
   refine Go1.retC2 Try.func26 rfl rfl (run_loadBlk (vs := [.int .i64 (0 : Int), .bool false, .slice none 0 0, .slice none 0 0, .slice none 0 0, .slice none 0 0, .slice none 0 0, .slice none 0 0, .int .i64 (0 : Int)]) 11 hO rfl rfl Try.underlying29 rfl ti29) ?_
   replace hB := (((hB.trans cQ.fr).trans iq.fr).trans vS.fr).trans oo.fr
   exact ⟨(⟨(0 : Int), false, ([] : List (List Int)), ([] : List (List Int)), ([] : List Int), ([] : List Int), ([] : List (List Int)), ([] : List Rule), (0 : Int)⟩ : Enum), (1 : Int), none, 0, none, 0, none, 0, none, 0, none, 0, none, 0, rfl, hB.same, (ISl.null _ _ _), (ISl.null _ _ _), (ISl.null _ _ _), (ISl.null _ _ _), (ISl.null _ _ _), (ISl.null _ _ _), H⟩
  replace H := ifn h52 H
  refine zo (fun w => opB (op_lss rfl rfl w) (decide_eq_false h52)) (zn (zf rfl rfl (zk (zq (zb ?_)))))
  replace hO := hO.drop 12
  replace gU := gU.ch (Owns.dropCh _ _ 12)
  replace gx := gx.ch (Owns.dropCh _ _ 12)
  replace gf := gf.ch (Owns.dropCh _ _ 12)
  replace gV := gV.ch (Owns.dropCh _ _ 12)
  replace gy := gy.ch (Owns.dropCh _ _ 12)
  replace gz := gz.ch (Owns.dropCh _ _ 12)
  replace mc := mc.ch (Owns.dropCh _ _ 12)
  replace kX := kX.ch (Owns.dropCh _ _ 12)
  replace kY := kY.ch (Owns.dropCh _ _ 12)
  have Z2 := vS.ch.trans (Owns.dropCh _ _ 12)
  replace ak := ak.ch Z2
  replace af := af.ch Z2
  replace ae := ae.ch Z2
  replace aj := aj.ch Z2
  replace ag := ag.ch Z2
  replace ah := ah.ch Z2
  replace hB := (((hB.trans cQ.fr).trans iq.fr).trans vS.fr).trans (Owns.dropFr _ _ 12)
  dsimp only [eS, eZ] at hB hO ak af ae aj ag ah gU gx gf gV gy gz mc kX kY
  refine Go1.loopW (S := Int × Int × Bool × Int × List (List Int) × List (List Int) × List Int × List Int × List (List Int) × List Rule × List Str × List Int × List Int × (List (Str × Int))) (fun s σ w => match s with | (budget2_57, k2_58, b2_59, k2_60, d_61, d_67, d_73, d_79, d_85, d_91, d_97, d_103, d_109, m2_115) => ∃ (n66 : Nat), ∃ (p64 : Option Addr), ∃ (c65 : Nat), ∃ (lj : List Value), ∃ (n72 : Nat), ∃ (p70 : Option Addr), ∃ (c71 : Nat), ∃ (lk : List Value), ∃ (n78 : Nat), ∃ (p76 : Option Addr), ∃ (c77 : Nat), ∃ (ll : List Value), ∃ (n84 : Nat), ∃ (p82 : Option Addr), ∃ (c83 : Nat), ∃ (kq : List Value), ∃ (n90 : Nat), ∃ (p88 : Option Addr), ∃ (c89 : Nat), ∃ (lm : List Value), ∃ (n96 : Nat), ∃ (p94 : Option Addr), ∃ (c95 : Nat), ∃ (lp : List Value), ∃ (mF : Nat), ∃ (fG : Option Addr), ∃ (fH : Nat), ∃ (xa : List Value), ∃ (mG : Nat), ∃ (mH : Option Addr), ∃ (mI : Nat), ∃ (tV : List Value), ∃ (mJ : Nat), ∃ (mK : Option Addr), ∃ (mM : Nat), ∃ (tW : List Value), agrees σ [(1, .int .i64 budget2_57), (4, .pointer (some ⟨B8, 0, none⟩)), (6, .pointer (some ⟨mT, 0, none⟩))] ∧ (fun Z0 => Owns w0.heap.size w Z0 A ∧ Els (Rp.sl (Rp.int .i64)) (bl Z0 ++ A) w lj d_61 ∧ Els (Rp.sl (Rp.int .i64)) (bl Z0 ++ A) w lk d_67 ∧ Els (Rp.int .i64) (bl Z0 ++ A) w ll d_73 ∧ Els (Rp.int .i64) (bl Z0 ++ A) w kq d_79 ∧ Els (Rp.sl (Rp.int .i64)) (bl Z0 ++ A) w lm d_85 ∧ Els (rpRule) (bl Z0 ++ A) w lp d_91 ∧ Els (Rp.str) (bl Z0 ++ A) w xa d_97 ∧ Els (Rp.int .i64) (bl Z0 ++ A) w tV d_103 ∧ Els (Rp.int .i64) (bl Z0 ++ A) w tW d_109 ∧ Fr (bl []) w0 (bl Z0) w) [.blk mT (.cells #[.int .i64 k2_58, .bool b2_59, .slice p64 n66 c65, .slice p70 n72 c71, .slice p76 n78 c77, .slice p82 n84 c83, .slice p88 n90 c89, .slice p94 n96 c95, .int .i64 k2_60, .map (some cw), .slice fG mF fH, .slice mH mG mI, .slice mK mJ mM] 72 (0, 0)), .row 26 1 p64 n66 c65 lj, .row 26 1 p70 n72 c71 lk, .row 3 1 p76 n78 c77 ll, .row 3 1 p82 n84 c83 kq, .row 26 1 p88 n90 c89 lm, .row 39 2 p94 n96 c95 lp, .row 9 1 fG mF fH xa, .row 3 1 mH mG mI tV, .row 3 1 mK mJ mM tW, .any (mapE (fun a : List UInt8 => Value.string (gstr a)) (fun a : Int => Value.int .i64 a) cw m2_115), .blk B8 (.cells #[.int .i64 (0 : Int), .bool false, .slice none 0 0, .slice none 0 0, .slice none 0 0, .slice none 0 0, .slice none 0 0, .slice none 0 0, .int .i64 (0 : Int)] 29 (0, 0))]) H ⟨Jd, Je, Jf, IK, IL, IM, IN, Ic, Id, Ie, Ig, HF, Jg, Jh, Ji, IQ, IR, IS, IT, Ih, IU, IV, IW, Ii, K5, K6, K7, KV, KW, KX, KY, JM, K1, K2, K3, JN, ⟨rfl, rfl, rfl, trivial⟩, hO, gU, gx, gf, gV, gy, gz, mc, kX, kY, hB⟩ ?_
  intro X2
  refine prE fun budget2_57 => prE fun k2_58 => prE fun b2_59 => prE fun k2_60 => prE fun d_61 => prE fun d_67 => prE fun d_73 => prE fun d_79 => prE fun d_85 => prE fun d_91 => prE fun d_97 => prE fun d_103 => prE fun d_109 => fun m2_115 => ?_
  intro H hX2 σ w56
  refine exE fun n66 => exE fun p64 => exE fun c65 => exE fun lj => exE fun n72 => exE fun p70 => exE fun c71 => exE fun lk => exE fun n78 => exE fun p76 => exE fun c77 => exE fun ll => exE fun n84 => exE fun p82 => exE fun c83 => exE fun kq => exE fun n90 => exE fun p88 => exE fun c89 => exE fun lm => exE fun n96 => exE fun p94 => exE fun c95 => exE fun lp => exE fun mF => exE fun fG => exE fun fH => exE fun xa => exE fun mG => exE fun mH => exE fun mI => exE fun tV => exE fun mJ => exE fun mK => exE fun mM => exE fun tW => andE fun hag => andE fun hO => andE fun dU => andE fun ko => andE fun kW => andE fun ks => andE fun dA => andE fun fy => andE fun kr => andE fun iE => andE fun dC => fun hB => ?_
  dsimp only at H
  refine Go1.keep [(1, .int .i64 budget2_57), (4, .pointer (some ⟨B8, 0, none⟩)), (6, .pointer (some ⟨mT, 0, none⟩))] hag ?_
  refine zq (zq (zr (zm rfl ?_)))
  by_cases Gm : (0 : Int) < budget2_57
  ·replace H := ifp Gm H
   refine zo (fun w => opB (op_gtr rfl rfl w) (decide_eq_true Gm)) (zm rfl (zm rfl ?_))
   refine GoR.inl (vs := [.pointer (some ⟨mT, 0, none⟩)]) (caps := []) rfl rfl body50 Try.func50 rfl Try.ntmps50 rfl rfl rfl ?_
   intro RhR117 hR117
   refine zq (zr (za rfl (zn (zq ?_))))
   refine Go1.drawS 0 [(0, .pure), (1, .pure), (2, .pure), (3, .pure), (4, .stable), (5, .pure), (6, .pure), (7, .pure), (8, .pure), (9, .stable), (10, .pure), (11, .pure), (12, .pure)] mixed (by kernel_rfl) ?_
   intro JJ MQ
   have ol := Stp.same hO MQ
   replace hO := ol.own
   refine GoQ.pure rfl (op_move rfl) rfl rfl ?_
   refine GoQ.pure rfl (op_nilCheck rfl) rfl rfl ?_
   refine GoQ.pure rfl (op_fieldAddr Try.underlying72 rfl ti29 rfl (by decide)) rfl rfl ?_
   refine GoQ.pure rfl (op_fieldAddr Try.underlying29 rfl ti3 rfl (by decide)) rfl rfl ?_
   refine GoQ.stable rfl (oblk (i := 8) 0 hO rfl rfl Try.underlying3 rfl rfl) rfl rfl ?_
   refine GoQ.pure rfl (op_move rfl) rfl rfl ?_
   refine GoQ.pure rfl (op_nilCheck rfl) rfl rfl ?_
   refine GoQ.pure rfl (op_fieldAddr Try.underlying72 rfl ti29 rfl (by decide)) rfl rfl ?_
   refine GoQ.pure rfl (op_fieldAddr Try.underlying29 rfl ti22 rfl (by decide)) rfl rfl ?_
   refine GoQ.stable rfl (oblk (i := 3) 0 hO rfl rfl Try.underlying22 rfl rfl) rfl rfl ?_
   replace ko := ko.ch ol.ch
   refine GoQ.pure rfl (op_lenN Try.underlying22 rfl (ko.neq hO 2 rfl)) rfl rfl ?_
   by_cases Gx : k2_60 = (d_67.length : Int)
   ·replace H := ifp Gx H
    refine GoQ.pure rfl (fun w => opB (op_eql rfl rfl w) (decide_eq_true Gx)) rfl rfl ?_
    refine GoQ.pure rfl (op_assign rfl) rfl rfl ?_
    refine GoQ.nil ?_
    refine Go1.ret1V Try.func50 rfl (show _ = .bool true from rfl) ?_
    refine hR117 _ _ ?_
    refine zo (op_not rfl) (zo (op_pickT rfl rfl rfl) (zn (zf rfl rfl ?_)))
    refine Go1.exit rfl ?_
    refine zq ?_
    refine Go1.cut [(4, .pointer (some ⟨B8, 0, none⟩)), (6, .pointer (some ⟨mT, 0, none⟩))] ⟨rfl, rfl, trivial⟩ ?_
    intro σ _
    refine zr (zm rfl (zo (op_nilCheck rfl) (zo (op_fieldAddr Try.underlying72 rfl ti29 rfl (by decide)) (zs (oblkAgg (vs := [.int .i64 k2_58, .bool b2_59, .slice p64 n66 c65, .slice p70 n72 c71, .slice p76 n78 c77, .slice p82 n84 c83, .slice p88 n90 c89, .slice p94 n96 c95, .int .i64 k2_60]) (i := 0) 0 hO rfl rfl Try.underlying29 rfl ti29 rfl) ?_))))
    have hobt := oblkStAgg (us := [.int .i64 k2_58, .bool b2_59, .slice p64 n66 c65, .slice p70 n72 c71, .slice p76 n78 c77, .slice p82 n84 c83, .slice p88 n90 c89, .slice p94 n96 c95, .int .i64 k2_60]) (o := 0) (cs' := #[.int .i64 k2_58, .bool b2_59, .slice p64 n66 c65, .slice p70 n72 c71, .slice p76 n78 c77, .slice p82 n84 c83, .slice p88 n90 c89, .slice p94 n96 c95, .int .i64 k2_60]) 11 hO rfl rfl (Nat.le_of_ble_eq_true rfl) rfl
    obtain ⟨abx, wG, KB⟩ := hobt
    dsimp only [sS, sZ] at wG
    refine zg (KB ti29 (by exact rfl) (by exact rfl) rfl) ?_
    replace hO := wG.own
    refine za rfl (zn ?_)
    replace dU := (dU.ch ol.ch).ch wG.ch
    have hobt := freeze 1 hO rfl dU
    obtain ⟨hO1, B5, zD, XU⟩ := hobt
    dsimp only [eS, eZ] at hO1 B5 zD
    replace hB := ((hB.trans ol.fr).trans wG.fr).trans (Owns.dropFr _ _ 1)
    dsimp only [eS, eZ] at hB
    replace hO := hO1; clear hO1
    replace ko := (ko.ch wG.ch).ch B5
    have hobt := freeze 1 hO rfl ko
    obtain ⟨hO1, B6, AU, Mi⟩ := hobt
    dsimp only [eS, eZ] at hO1 B6 AU
    replace hB := hB.trans (Owns.dropFr _ _ 1)
    dsimp only [eS, eZ] at hB
    replace hO := hO1; clear hO1
    have Z3 := ((ol.ch.trans wG.ch).trans B5).trans B6
    replace kW := kW.ch Z3
    have hobt := freeze 1 hO rfl kW
    obtain ⟨hO1, B7, Eu, Mp⟩ := hobt
    dsimp only [eS, eZ] at hO1 B7 Eu
    replace hB := hB.trans (Owns.dropFr _ _ 1)
    dsimp only [eS, eZ] at hB
    replace hO := hO1; clear hO1
    replace ks := (ks.ch Z3).ch B7
    have hobt := freeze 1 hO rfl ks
    obtain ⟨hO1, Ca, Ia, Mq⟩ := hobt
    dsimp only [eS, eZ] at hO1 Ca Ia
    replace hB := hB.trans (Owns.dropFr _ _ 1)
    dsimp only [eS, eZ] at hB
    replace hO := hO1; clear hO1
    replace dA := ((dA.ch Z3).ch B7).ch Ca
    have hobt := freeze 1 hO rfl dA
    obtain ⟨hO1, Cb, Kd, I2⟩ := hobt
    dsimp only [eS, eZ] at hO1 Cb Kd
    replace hB := hB.trans (Owns.dropFr _ _ 1)
    dsimp only [eS, eZ] at hB
    replace hO := hO1; clear hO1
    have Z4 := ((Z3.trans B7).trans Ca).trans Cb
    replace fy := fy.ch Z4
    have hobt := freeze 1 hO rfl fy
    obtain ⟨hO1, Cc, Pr, Mr⟩ := hobt
    dsimp only [eS, eZ] at hO1 Cc Pr
    replace hB := hB.trans (Owns.dropFr _ _ 1)
    dsimp only [eS, eZ] at hB
    replace hO := hO1; clear hO1
    refine Go1.retC2 Try.func26 rfl rfl (run_loadBlk (vs := [.int .i64 k2_58, .bool b2_59, .slice p64 n66 c65, .slice p70 n72 c71, .slice p76 n78 c77, .slice p82 n84 c83, .slice p88 n90 c89, .slice p94 n96 c95, .int .i64 k2_60]) 5 hO rfl rfl Try.underlying29 rfl ti29) ?_
    replace Kd := Kd.ch Cc
    replace Ia := (Ia.ch Cb).ch Cc
    have Z5 := (Ca.trans Cb).trans Cc
    replace Eu := Eu.ch Z5
    have Z6 := ((B7.trans Ca).trans Cb).trans Cc
    replace AU := AU.ch Z6
    have Z7 := (((B6.trans B7).trans Ca).trans Cb).trans Cc
    replace zD := zD.ch Z7
    exact ⟨(⟨k2_58, b2_59, d_61, d_67, d_73, d_79, d_85, d_91, k2_60⟩ : Enum), (0 : Int), p64, c65, p70, c71, p76, c77, p82, c83, p88, c89, p94, c95, (congrArg (fun l => Value.tuple (List.toArray l)) (cons_eq (congrArg (fun l => Value.agg (List.toArray l)) (cons_eq rfl (cons_eq rfl (cons_eq (congrArg (fun nn => Value.slice p64 nn c65) XU) (cons_eq (congrArg (fun nn => Value.slice p70 nn c71) Mi) (cons_eq (congrArg (fun nn => Value.slice p76 nn c77) Mp) (cons_eq (congrArg (fun nn => Value.slice p82 nn c83) Mq) (cons_eq (congrArg (fun nn => Value.slice p88 nn c89) I2) (cons_eq (congrArg (fun nn => Value.slice p94 nn c95) Mr) (cons_eq rfl rfl)))))))))) (cons_eq rfl rfl))), hB.same, (zD.ch (Ch.weak _ _ _)), (AU.ch (Ch.weak _ _ _)), (Eu.ch (Ch.weak _ _ _)), (Ia.ch (Ch.weak _ _ _)), (Kd.ch (Ch.weak _ _ _)), (Pr.ch (Ch.weak _ _ _)), H⟩
   replace H := ifn Gx H
   refine GoQ.pure rfl (fun w => opB (op_eql rfl rfl w) (decide_eq_false Gx)) rfl rfl ?_
   refine GoQ.pure rfl (op_assign rfl) rfl rfl ?_
   refine GoQ.nil ?_
   refine Go1.ret1V Try.func50 rfl (show _ = .bool false from rfl) ?_
   refine hR117 _ _ ?_
   refine zo (op_not rfl) (zo (op_pickT rfl rfl rfl) (zn (zt rfl rfl (zk (zq ?_)))))
   refine zb (zq (zr (zm rfl ?_)))
   have Ps : Owns w0.heap.size JJ ([.blk mT (.cells #[.int .i64 k2_58, .bool b2_59, .slice p64 n66 c65, .slice p70 n72 c71, .slice p76 n78 c77, .slice p82 n84 c83, .slice p88 n90 c89, .slice p94 n96 c95, .int .i64 k2_60, .map (some cw), .slice fG mF fH, .slice mH mG mI, .slice mK mJ mM] 72 (0, 0)), .row 26 1 p64 n66 c65 lj, .row 26 1 p70 n72 c71 lk, .row 3 1 p76 n78 c77 ll, .row 3 1 p82 n84 c83 kq, .row 26 1 p88 n90 c89 lm, .row 39 2 p94 n96 c95 lp, .row 9 1 fG mF fH xa, .row 3 1 mH mG mI tV, .row 3 1 mK mJ mM tW, .any (mapE (fun a : List UInt8 => Value.string (gstr a)) (fun a : Int => Value.int .i64 a) cw m2_115)] ++ [.blk B8 (.cells #[.int .i64 (0 : Int), .bool false, .slice none 0 0, .slice none 0 0, .slice none 0 0, .slice none 0 0, .slice none 0 0, .slice none 0 0, .int .i64 (0 : Int)] 29 (0, 0))]) A := hO
   have XV := Owns.split Ps
   have hca145 : Ch (bl [.blk mT (.cells #[.int .i64 k2_58, .bool b2_59, .slice p64 n66 c65, .slice p70 n72 c71, .slice p76 n78 c77, .slice p82 n84 c83, .slice p88 n90 c89, .slice p94 n96 c95, .int .i64 k2_60, .map (some cw), .slice fG mF fH, .slice mH mG mI, .slice mK mJ mM] 72 (0, 0)), .row 26 1 p64 n66 c65 lj, .row 26 1 p70 n72 c71 lk, .row 3 1 p76 n78 c77 ll, .row 3 1 p82 n84 c83 kq, .row 26 1 p88 n90 c89 lm, .row 39 2 p94 n96 c95 lp, .row 9 1 fG mF fH xa, .row 3 1 mH mG mI tV, .row 3 1 mK mJ mM tW, .any (mapE (fun a : List UInt8 => Value.string (gstr a)) (fun a : Int => Value.int .i64 a) cw m2_115), .blk B8 (.cells #[.int .i64 (0 : Int), .bool false, .slice none 0 0, .slice none 0 0, .slice none 0 0, .slice none 0 0, .slice none 0 0, .slice none 0 0, .int .i64 (0 : Int)] 29 (0, 0))] ++ A) JJ (bl [.blk mT (.cells #[.int .i64 k2_58, .bool b2_59, .slice p64 n66 c65, .slice p70 n72 c71, .slice p76 n78 c77, .slice p82 n84 c83, .slice p88 n90 c89, .slice p94 n96 c95, .int .i64 k2_60, .map (some cw), .slice fG mF fH, .slice mH mG mI, .slice mK mJ mM] 72 (0, 0)), .row 26 1 p64 n66 c65 lj, .row 26 1 p70 n72 c71 lk, .row 3 1 p76 n78 c77 ll, .row 3 1 p82 n84 c83 kq, .row 26 1 p88 n90 c89 lm, .row 39 2 p94 n96 c95 lp, .row 9 1 fG mF fH xa, .row 3 1 mH mG mI tV, .row 3 1 mK mJ mM tW, .any (mapE (fun a : List UInt8 => Value.string (gstr a)) (fun a : Int => Value.int .i64 a) cw m2_115)] ++ (bl [.blk B8 (.cells #[.int .i64 (0 : Int), .bool false, .slice none 0 0, .slice none 0 0, .slice none 0 0, .slice none 0 0, .slice none 0 0, .slice none 0 0, .int .i64 (0 : Int)] 29 (0, 0))] ++ A)) JJ := Ch.assoc' [.blk mT (.cells #[.int .i64 k2_58, .bool b2_59, .slice p64 n66 c65, .slice p70 n72 c71, .slice p76 n78 c77, .slice p82 n84 c83, .slice p88 n90 c89, .slice p94 n96 c95, .int .i64 k2_60, .map (some cw), .slice fG mF fH, .slice mH mG mI, .slice mK mJ mM] 72 (0, 0)), .row 26 1 p64 n66 c65 lj, .row 26 1 p70 n72 c71 lk, .row 3 1 p76 n78 c77 ll, .row 3 1 p82 n84 c83 kq, .row 26 1 p88 n90 c89 lm, .row 39 2 p94 n96 c95 lp, .row 9 1 fG mF fH xa, .row 3 1 mH mG mI tV, .row 3 1 mK mJ mM tW, .any (mapE (fun a : List UInt8 => Value.string (gstr a)) (fun a : Int => Value.int .i64 a) cw m2_115)] [.blk B8 (.cells #[.int .i64 (0 : Int), .bool false, .slice none 0 0, .slice none 0 0, .slice none 0 0, .slice none 0 0, .slice none 0 0, .slice none 0 0, .int .i64 (0 : Int)] 29 (0, 0))] A JJ
   replace dU := dU.ch ol.ch
   replace kW := kW.ch ol.ch
   replace ks := ks.ch ol.ch
   replace dA := dA.ch ol.ch
   replace fy := fy.ch ol.ch
   replace kr := kr.ch ol.ch
   replace iE := iE.ch ol.ch
   replace dC := dC.ch ol.ch
   refine GoR.call (op_call body51 rfl (walk_enumerate_run_process (a0 := (⟨(⟨k2_58, b2_59, d_61, d_67, d_73, d_79, d_85, d_91, k2_60⟩ : Enum), m2_115, d_97, d_103, d_109⟩ : run)) XV (dU.ch hca145) (ko.ch hca145) (kW.ch hca145) (ks.ch hca145) (dA.ch hca145) (fy.ch hca145) (kr.ch hca145) (iE.ch hca145) (dC.ch hca145) H)) rfl rfl ?_
   intro aho K4
   refine exE fun r146 => exE fun q147 => exE fun kK => exE fun kM => exE fun kN => exE fun rM => exE fun jM => exE fun jN => exE fun jO => exE fun qN => exE fun i5 => exE fun i6 => exE fun i7 => exE fun qc => exE fun kO => exE fun kP => exE fun kQ => exE fun rN => exE fun jP => exE fun jQ => exE fun jR => exE fun qO => exE fun jS => exE fun jT => exE fun jU => exE fun qP => exE fun pg => exE fun ph => exE fun pi => exE fun wH => exE fun nC => exE fun nD => exE fun nE => exE fun vn => exE fun nF => exE fun nG => exE fun nH => exE fun vo => andE fun hv153 => andE fun hN150 => andE fun rO => andE fun qQ => andE fun qd => andE fun rP => andE fun qR => andE fun qS => andE fun wI => andE fun vp => andE fun vq => andE fun hF151 => fun H => ?_
   subst hv153
   have fu : Stp w0.heap.size A JJ [.blk mT (.cells #[.int .i64 k2_58, .bool b2_59, .slice p64 n66 c65, .slice p70 n72 c71, .slice p76 n78 c77, .slice p82 n84 c83, .slice p88 n90 c89, .slice p94 n96 c95, .int .i64 k2_60, .map (some cw), .slice fG mF fH, .slice mH mG mI, .slice mK mJ mM] 72 (0, 0)), .row 26 1 p64 n66 c65 lj, .row 26 1 p70 n72 c71 lk, .row 3 1 p76 n78 c77 ll, .row 3 1 p82 n84 c83 kq, .row 26 1 p88 n90 c89 lm, .row 39 2 p94 n96 c95 lp, .row 9 1 fG mF fH xa, .row 3 1 mH mG mI tV, .row 3 1 mK mJ mM tW, .any (mapE (fun a : List UInt8 => Value.string (gstr a)) (fun a : Int => Value.int .i64 a) cw m2_115), .blk B8 (.cells #[.int .i64 (0 : Int), .bool false, .slice none 0 0, .slice none 0 0, .slice none 0 0, .slice none 0 0, .slice none 0 0, .slice none 0 0, .int .i64 (0 : Int)] 29 (0, 0))] K4 [.blk mT (.cells #[.int .i64 q147.Enum.Points, .bool q147.Enum.Monoid, .slice kM kK kN, .slice jN jM jO, .slice i6 i5 i7, .slice kP kO kQ, .slice jQ jP jR, .slice jT jS jU, .int .i64 q147.Enum.Done, .map (some cw), .slice ph pg pi, .slice nD nC nE, .slice nG nF nH] 72 (0, 0)), .row 26 1 kM kK kN rM, .row 26 1 jN jM jO qN, .row 3 1 i6 i5 i7 qc, .row 3 1 kP kO kQ rN, .row 26 1 jQ jP jR qO, .row 39 2 jT jS jU qP, .row 9 1 ph pg pi wH, .row 3 1 nD nC nE vn, .row 3 1 nG nF nH vo, .any (mapE (fun a : List UInt8 => Value.string (gstr a)) (fun a : Int => Value.int .i64 a) cw q147.number), .blk B8 (.cells #[.int .i64 (0 : Int), .bool false, .slice none 0 0, .slice none 0 0, .slice none 0 0, .slice none 0 0, .slice none 0 0, .slice none 0 0, .int .i64 (0 : Int)] 29 (0, 0))] := Stp.join Ps hN150 hF151
   replace hO := fu.own
   have hca154 : Ch (bl [.blk mT (.cells #[.int .i64 q147.Enum.Points, .bool q147.Enum.Monoid, .slice kM kK kN, .slice jN jM jO, .slice i6 i5 i7, .slice kP kO kQ, .slice jQ jP jR, .slice jT jS jU, .int .i64 q147.Enum.Done, .map (some cw), .slice ph pg pi, .slice nD nC nE, .slice nG nF nH] 72 (0, 0)), .row 26 1 kM kK kN rM, .row 26 1 jN jM jO qN, .row 3 1 i6 i5 i7 qc, .row 3 1 kP kO kQ rN, .row 26 1 jQ jP jR qO, .row 39 2 jT jS jU qP, .row 9 1 ph pg pi wH, .row 3 1 nD nC nE vn, .row 3 1 nG nF nH vo, .any (mapE (fun a : List UInt8 => Value.string (gstr a)) (fun a : Int => Value.int .i64 a) cw q147.number)] ++ (bl [.blk B8 (.cells #[.int .i64 (0 : Int), .bool false, .slice none 0 0, .slice none 0 0, .slice none 0 0, .slice none 0 0, .slice none 0 0, .slice none 0 0, .int .i64 (0 : Int)] 29 (0, 0))] ++ A)) K4 (bl [.blk mT (.cells #[.int .i64 q147.Enum.Points, .bool q147.Enum.Monoid, .slice kM kK kN, .slice jN jM jO, .slice i6 i5 i7, .slice kP kO kQ, .slice jQ jP jR, .slice jT jS jU, .int .i64 q147.Enum.Done, .map (some cw), .slice ph pg pi, .slice nD nC nE, .slice nG nF nH] 72 (0, 0)), .row 26 1 kM kK kN rM, .row 26 1 jN jM jO qN, .row 3 1 i6 i5 i7 qc, .row 3 1 kP kO kQ rN, .row 26 1 jQ jP jR qO, .row 39 2 jT jS jU qP, .row 9 1 ph pg pi wH, .row 3 1 nD nC nE vn, .row 3 1 nG nF nH vo, .any (mapE (fun a : List UInt8 => Value.string (gstr a)) (fun a : Int => Value.int .i64 a) cw q147.number), .blk B8 (.cells #[.int .i64 (0 : Int), .bool false, .slice none 0 0, .slice none 0 0, .slice none 0 0, .slice none 0 0, .slice none 0 0, .slice none 0 0, .int .i64 (0 : Int)] 29 (0, 0))] ++ A) K4 := Ch.assoc [.blk mT (.cells #[.int .i64 q147.Enum.Points, .bool q147.Enum.Monoid, .slice kM kK kN, .slice jN jM jO, .slice i6 i5 i7, .slice kP kO kQ, .slice jQ jP jR, .slice jT jS jU, .int .i64 q147.Enum.Done, .map (some cw), .slice ph pg pi, .slice nD nC nE, .slice nG nF nH] 72 (0, 0)), .row 26 1 kM kK kN rM, .row 26 1 jN jM jO qN, .row 3 1 i6 i5 i7 qc, .row 3 1 kP kO kQ rN, .row 26 1 jQ jP jR qO, .row 39 2 jT jS jU qP, .row 9 1 ph pg pi wH, .row 3 1 nD nC nE vn, .row 3 1 nG nF nH vo, .any (mapE (fun a : List UInt8 => Value.string (gstr a)) (fun a : Int => Value.int .i64 a) cw q147.number)] [.blk B8 (.cells #[.int .i64 (0 : Int), .bool false, .slice none 0 0, .slice none 0 0, .slice none 0 0, .slice none 0 0, .slice none 0 0, .slice none 0 0, .int .i64 (0 : Int)] 29 (0, 0))] A K4
   refine za rfl (zn (zq (zr (zm rfl ?_))))
   by_cases Bf : r146 = (0 : Int)
   ·replace H := ifp Bf H
    refine zo (fun w => opB (op_neq rfl rfl w) (ndT Bf)) (zn (zf rfl rfl (zk ?_)))
    refine Go1.inBlock ?_
    refine zr (zm rfl ?_)
    obtain ⟨Gh, H⟩ := H
    refine zo (op_sub rfl rfl (wrap_i64 Gh)) (za rfl (zn ?_))
    replace rO := rO.ch hca154
    replace qQ := qQ.ch hca154
    replace qd := qd.ch hca154
    replace rP := rP.ch hca154
    replace qR := qR.ch hca154
    replace qS := qS.ch hca154
    replace wI := wI.ch hca154
    replace vp := vp.ch hca154
    replace vq := vq.ch hca154
    replace hB := (hB.trans ol.fr).trans fu.fr
    exact hX2 _ H _ _ ⟨kK, kM, kN, rM, jM, jN, jO, qN, i5, i6, i7, qc, kO, kP, kQ, rN, jP, jQ, jR, qO, jS, jT, jU, qP, pg, ph, pi, wH, nC, nD, nE, vn, nF, nG, nH, vo, ⟨rfl, rfl, rfl, trivial⟩, hO, rO, qQ, qd, rP, qR, qS, wI, vp, vq, hB⟩
   replace H := ifn Bf H
   refine zo (fun w => opB (op_neq rfl rfl w) (ndF Bf)) (zn (zt rfl rfl (zq (zr (zo (op_build Try.underlying29 ti29 (pl := [(0, 1), (1, 1), (2, 1), (3, 1), (4, 1), (5, 1), (6, 1), (7, 1), (8, 1)]) (vs := []) (cs := #[.int .i64 (0 : Int), .bool false, .slice none 0 0, .slice none 0 0, .slice none 0 0, .slice none 0 0, .slice none 0 0, .slice none 0 0, .int .i64 (0 : Int)]) (by kernel_rfl) rfl (by kernel_rfl)) ?_)))))
   refine zm rfl ?_
   have hobt := oblkStAgg (us := [.int .i64 (0 : Int), .bool false, .slice none 0 0, .slice none 0 0, .slice none 0 0, .slice none 0 0, .slice none 0 0, .slice none 0 0, .int .i64 (0 : Int)]) (o := 0) (cs' := #[.int .i64 (0 : Int), .bool false, .slice none 0 0, .slice none 0 0, .slice none 0 0, .slice none 0 0, .slice none 0 0, .slice none 0 0, .int .i64 (0 : Int)]) 11 hO rfl rfl (Nat.le_of_ble_eq_true rfl) rfl
   obtain ⟨QO, wJ, S1⟩ := hobt
   dsimp only [sS, sZ] at wJ
   refine zg (S1 ti29 (by exact rfl) (by exact rfl) rfl) ?_
   replace hO := wJ.own
   refine za rfl (zn ?_)
   refine Go1.retC2 Try.func26 rfl rfl (run_loadBlk (vs := [.int .i64 (0 : Int), .bool false, .slice none 0 0, .slice none 0 0, .slice none 0 0, .slice none 0 0, .slice none 0 0, .slice none 0 0, .int .i64 (0 : Int)]) 11 hO rfl rfl Try.underlying29 rfl ti29) ?_
   replace hB := ((hB.trans ol.fr).trans fu.fr).trans wJ.fr
   exact ⟨(⟨(0 : Int), false, ([] : List (List Int)), ([] : List (List Int)), ([] : List Int), ([] : List Int), ([] : List (List Int)), ([] : List Rule), (0 : Int)⟩ : Enum), r146, none, 0, none, 0, none, 0, none, 0, none, 0, none, 0, rfl, hB.same, (ISl.null _ _ _), (ISl.null _ _ _), (ISl.null _ _ _), (ISl.null _ _ _), (ISl.null _ _ _), (ISl.null _ _ _), H⟩
  replace H := ifn Gm H
  refine zo (fun w => opB (op_gtr rfl rfl w) (decide_eq_false Gm)) (zm rfl (zp (zp (zp (zo (op_pickF rfl rfl rfl) ?_)))))
  refine zn (zf rfl rfl ?_)
  refine Go1.exit rfl ?_
  refine zq ?_
  refine Go1.cut [(4, .pointer (some ⟨B8, 0, none⟩)), (6, .pointer (some ⟨mT, 0, none⟩))] ⟨rfl, rfl, trivial⟩ ?_
  intro σ _
  refine zr (zm rfl (zo (op_nilCheck rfl) (zo (op_fieldAddr Try.underlying72 rfl ti29 rfl (by decide)) (zs (oblkAgg (vs := [.int .i64 k2_58, .bool b2_59, .slice p64 n66 c65, .slice p70 n72 c71, .slice p76 n78 c77, .slice p82 n84 c83, .slice p88 n90 c89, .slice p94 n96 c95, .int .i64 k2_60]) (i := 0) 0 hO rfl rfl Try.underlying29 rfl ti29 rfl) ?_))))
  have hobt := oblkStAgg (us := [.int .i64 k2_58, .bool b2_59, .slice p64 n66 c65, .slice p70 n72 c71, .slice p76 n78 c77, .slice p82 n84 c83, .slice p88 n90 c89, .slice p94 n96 c95, .int .i64 k2_60]) (o := 0) (cs' := #[.int .i64 k2_58, .bool b2_59, .slice p64 n66 c65, .slice p70 n72 c71, .slice p76 n78 c77, .slice p82 n84 c83, .slice p88 n90 c89, .slice p94 n96 c95, .int .i64 k2_60]) 11 hO rfl rfl (Nat.le_of_ble_eq_true rfl) rfl
  obtain ⟨ahp, fh, S2⟩ := hobt
  dsimp only [sS, sZ] at fh
  refine zg (S2 ti29 (by exact rfl) (by exact rfl) rfl) ?_
  replace hO := fh.own
  refine za rfl (zn ?_)
  replace dU := dU.ch fh.ch
  have hobt := freeze 1 hO rfl dU
  obtain ⟨hO1, Cd, zE, XW⟩ := hobt
  dsimp only [eS, eZ] at hO1 Cd zE
  replace hB := (hB.trans fh.fr).trans (Owns.dropFr _ _ 1)
  dsimp only [eS, eZ] at hB
  replace hO := hO1; clear hO1
  replace ko := (ko.ch fh.ch).ch Cd
  have hobt := freeze 1 hO rfl ko
  obtain ⟨hO1, Ce, ly, XX⟩ := hobt
  dsimp only [eS, eZ] at hO1 Ce ly
  replace hB := hB.trans (Owns.dropFr _ _ 1)
  dsimp only [eS, eZ] at hB
  replace hO := hO1; clear hO1
  have Z8 := (fh.ch.trans Cd).trans Ce
  replace kW := kW.ch Z8
  have hobt := freeze 1 hO rfl kW
  obtain ⟨hO1, Cf, Ev, XY⟩ := hobt
  dsimp only [eS, eZ] at hO1 Cf Ev
  replace hB := hB.trans (Owns.dropFr _ _ 1)
  dsimp only [eS, eZ] at hB
  replace hO := hO1; clear hO1
  replace ks := (ks.ch Z8).ch Cf
  have hobt := freeze 1 hO rfl ks
  obtain ⟨hO1, Cg, Ib, X0⟩ := hobt
  dsimp only [eS, eZ] at hO1 Cg Ib
  replace hB := hB.trans (Owns.dropFr _ _ 1)
  dsimp only [eS, eZ] at hB
  replace hO := hO1; clear hO1
  replace dA := ((dA.ch Z8).ch Cf).ch Cg
  have hobt := freeze 1 hO rfl dA
  obtain ⟨hO1, Ci, Ke, HT⟩ := hobt
  dsimp only [eS, eZ] at hO1 Ci Ke
  replace hB := hB.trans (Owns.dropFr _ _ 1)
  dsimp only [eS, eZ] at hB
  replace hO := hO1; clear hO1
  have Z9 := ((Z8.trans Cf).trans Cg).trans Ci
  replace fy := fy.ch Z9
  have hobt := freeze 1 hO rfl fy
  obtain ⟨hO1, Cj, Pt, Mz⟩ := hobt
  dsimp only [eS, eZ] at hO1 Cj Pt
  replace hB := hB.trans (Owns.dropFr _ _ 1)
  dsimp only [eS, eZ] at hB
  replace hO := hO1; clear hO1
  refine Go1.retC2 Try.func26 rfl rfl (run_loadBlk (vs := [.int .i64 k2_58, .bool b2_59, .slice p64 n66 c65, .slice p70 n72 c71, .slice p76 n78 c77, .slice p82 n84 c83, .slice p88 n90 c89, .slice p94 n96 c95, .int .i64 k2_60]) 5 hO rfl rfl Try.underlying29 rfl ti29) ?_
  replace Ke := Ke.ch Cj
  replace Ib := (Ib.ch Ci).ch Cj
  have Z10 := (Cg.trans Ci).trans Cj
  replace Ev := Ev.ch Z10
  have Z11 := ((Cf.trans Cg).trans Ci).trans Cj
  replace ly := ly.ch Z11
  have Z12 := (((Ce.trans Cf).trans Cg).trans Ci).trans Cj
  replace zE := zE.ch Z12
  exact ⟨(⟨k2_58, b2_59, d_61, d_67, d_73, d_79, d_85, d_91, k2_60⟩ : Enum), (0 : Int), p64, c65, p70, c71, p76, c77, p82, c83, p88, c89, p94, c95, (congrArg (fun l => Value.tuple (List.toArray l)) (cons_eq (congrArg (fun l => Value.agg (List.toArray l)) (cons_eq rfl (cons_eq rfl (cons_eq (congrArg (fun nn => Value.slice p64 nn c65) XW) (cons_eq (congrArg (fun nn => Value.slice p70 nn c71) XX) (cons_eq (congrArg (fun nn => Value.slice p76 nn c77) XY) (cons_eq (congrArg (fun nn => Value.slice p82 nn c83) X0) (cons_eq (congrArg (fun nn => Value.slice p88 nn c89) HT) (cons_eq (congrArg (fun nn => Value.slice p94 nn c95) Mz) (cons_eq rfl rfl)))))))))) (cons_eq rfl rfl))), hB.same, (zE.ch (Ch.weak _ _ _)), (ly.ch (Ch.weak _ _ _)), (Ev.ch (Ch.weak _ _ _)), (Ib.ch (Ch.weak _ _ _)), (Ke.ch (Ch.weak _ _ _)), (Pt.ch (Ch.weak _ _ _)), H⟩
end Sg
