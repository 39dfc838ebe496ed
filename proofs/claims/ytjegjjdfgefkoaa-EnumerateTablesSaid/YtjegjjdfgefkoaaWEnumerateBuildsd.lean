/- The walks: each call keeps to its plain transformer. Printed by walkgen.py. -/
import Derived.Test.YtjegjjdfgefkoaaTi
import Derived.Test.YtjegjjdfgefkoaaWEnumerateBuilds
import Derived.Test.YtjegjjdfgefkoaaWEnumerateBuildsc
import Derived.Test.YtjegjjdfgefkoaaAl
namespace Sg
open Go Go.RowKit Go.Proofs
set_option linter.unusedVariables false
set_option linter.unusedSimpArgs false
set_option maxRecDepth 100000
set_option maxHeartbeats 4000000
theorem body22 : Body Try.prog 22 := ⟨Try.f22, Try.func22, rfl, by kernel_rfl⟩
theorem walk_ref12_Start {A : List Nat} {w0 : World} {nU : Option Addr} {nV : Nat} {a0 : List (List Int)} {a1 : Bool} (hA : ∀ b ∈ A, b < w0.heap.size) (am : ISl (Rp.sl (Rp.int .i64)) A w0 nU nV a0) {K : Enum → Int → Prop} (H : ref12_Start a0 a1 K) :
    CallsV Try.prog 22 #[.slice nU a0.length nV, .bool a1] w0 (fun v w' => ∃ (r0 : Enum), ∃ (r1 : Int), ∃ (qf : Option Addr), ∃ (qg : Nat), ∃ (oq : Option Addr), ∃ (ot : Nat), ∃ (mo : Option Addr), ∃ (mp : Nat), ∃ (qh : Option Addr), ∃ (qi : Nat), ∃ (ou : Option Addr), ∃ (ov : Nat), ∃ (ow : Option Addr), ∃ (oA : Nat), v = .tuple #[.agg #[.int .i64 r0.Points, .bool r0.Monoid, .slice qf r0.Gens.length qg, .slice oq r0.Elems.length ot, .slice mo r0.Prefix.length mp, .slice qh r0.Last.length qi, .slice ou r0.Right.length ov, .slice ow r0.Rules.length oA, .int .i64 r0.Done], .int .i64 r1] ∧ Same w0 w' ∧ ISl (Rp.sl (Rp.int .i64)) A w' qf qg r0.Gens ∧ ISl (Rp.sl (Rp.int .i64)) A w' oq ot r0.Elems ∧ ISl (Rp.int .i64) A w' mo mp r0.Prefix ∧ ISl (Rp.int .i64) A w' qh qi r0.Last ∧ ISl (Rp.sl (Rp.int .i64)) A w' ou ov r0.Right ∧ ISl (rpRule) A w' ow oA r0.Rules ∧ K r0 r1) := by
 refine CallsV.of (l := [.slice nU a0.length nV, .bool a1]) Try.func22 rfl Try.ntmps22 rfl ?_
 have hO := Owns.start hA
 have hB := Fr.refl (bl []) w0
 unfold ref12_Start at H
 refine zq (zr ?_)
 have hobt := oalloc (t := 29) (cs := #[.int .i64 (0 : Int), .bool false, .slice none 0 0, .slice none 0 0, .slice none 0 0, .slice none 0 0, .slice none 0 0, .slice none 0 0, .int .i64 (0 : Int)]) ti29 hO rfl
 obtain ⟨w1, B2, d7, hs4, qE⟩ := hobt
 refine GoR.op qE rfl rfl ?_
 replace hO := d7.own
 refine za rfl (zn (zq (zq (zr (zm rfl ?_)))))
 refine zo (op_len Try.underlying22 rfl) ?_
 replace am := (am.ch (Ch.start A w0)).ch d7.ch
 replace H := H am.bd
 by_cases h7 : (a0.length : Int) < (1 : Int)
 ·replace H := ifp h7 H
  refine zo (fun w => opB (op_lss rfl rfl w) (decide_eq_true h7)) (zm rfl (zp (zp (zp (zo (op_pickT rfl rfl rfl) ?_)))))
  refine zn (zt rfl rfl (zq (zr (zo (op_build Try.underlying29 ti29 (pl := [(0, 1), (1, 1), (2, 1), (3, 1), (4, 1), (5, 1), (6, 1), (7, 1), (8, 1)]) (vs := []) (cs := #[.int .i64 (0 : Int), .bool false, .slice none 0 0, .slice none 0 0, .slice none 0 0, .slice none 0 0, .slice none 0 0, .slice none 0 0, .int .i64 (0 : Int)]) (by kernel_rfl) rfl (by kernel_rfl)) ?_))))
  have hobt := oblkStAgg (us := [.int .i64 (0 : Int), .bool false, .slice none 0 0, .slice none 0 0, .slice none 0 0, .slice none 0 0, .slice none 0 0, .slice none 0 0, .int .i64 (0 : Int)]) (o := 0) (cs' := #[.int .i64 (0 : Int), .bool false, .slice none 0 0, .slice none 0 0, .slice none 0 0, .slice none 0 0, .slice none 0 0, .slice none 0 0, .int .i64 (0 : Int)]) 0 hO rfl rfl (Nat.le_of_ble_eq_true rfl) rfl
  obtain ⟨w8, lm, Qb⟩ := hobt
  refine zg (Qb ti29 (by exact rfl) (by exact rfl) rfl) ?_
  replace hO := lm.own
  refine za rfl (zn ?_)
  refine Go1.retC2 Try.func22 rfl rfl (run_loadBlk (vs := [.int .i64 (0 : Int), .bool false, .slice none 0 0, .slice none 0 0, .slice none 0 0, .slice none 0 0, .slice none 0 0, .slice none 0 0, .int .i64 (0 : Int)]) 0 hO rfl rfl Try.underlying29 rfl ti29) ?_
  replace hB := (hB.trans d7.fr).trans lm.fr
  exact ⟨(⟨(0 : Int), false, ([] : List (List Int)), ([] : List (List Int)), ([] : List Int), ([] : List Int), ([] : List (List Int)), ([] : List Rule), (0 : Int)⟩ : Enum), (1 : Int), none, 0, none, 0, none, 0, none, 0, none, 0, none, 0, rfl, hB.same, (ISl.null _ _ _), (ISl.null _ _ _), (ISl.null _ _ _), (ISl.null _ _ _), (ISl.null _ _ _), (ISl.null _ _ _), H⟩
 replace H := ifn h7 H
 refine zo (fun w => opB (op_lss rfl rfl w) (decide_eq_false h7)) (zm rfl (zm rfl (zo (op_len Try.underlying22 rfl) ?_)))
 by_cases h11 : (6 : Int) < (a0.length : Int)
 ·replace H := ifp h11 H
  refine zo (fun w => opB (op_gtr rfl rfl w) (decide_eq_true h11)) (zo (op_pickF rfl rfl rfl) (zn (zt rfl rfl (zq (zr ?_)))))
  refine zo (op_build Try.underlying29 ti29 (pl := [(0, 1), (1, 1), (2, 1), (3, 1), (4, 1), (5, 1), (6, 1), (7, 1), (8, 1)]) (vs := []) (cs := #[.int .i64 (0 : Int), .bool false, .slice none 0 0, .slice none 0 0, .slice none 0 0, .slice none 0 0, .slice none 0 0, .slice none 0 0, .int .i64 (0 : Int)]) (by kernel_rfl) rfl (by kernel_rfl)) ?_
  have hobt := oblkStAgg (us := [.int .i64 (0 : Int), .bool false, .slice none 0 0, .slice none 0 0, .slice none 0 0, .slice none 0 0, .slice none 0 0, .slice none 0 0, .int .i64 (0 : Int)]) (o := 0) (cs' := #[.int .i64 (0 : Int), .bool false, .slice none 0 0, .slice none 0 0, .slice none 0 0, .slice none 0 0, .slice none 0 0, .slice none 0 0, .int .i64 (0 : Int)]) 0 hO rfl rfl (Nat.le_of_ble_eq_true rfl) rfl
  obtain ⟨w12, Am, Qc⟩ := hobt
  refine zg (Qc ti29 (by exact rfl) (by exact rfl) rfl) ?_
  replace hO := Am.own
  refine za rfl (zn ?_)
  refine Go1.retC2 Try.func22 rfl rfl (run_loadBlk (vs := [.int .i64 (0 : Int), .bool false, .slice none 0 0, .slice none 0 0, .slice none 0 0, .slice none 0 0, .slice none 0 0, .slice none 0 0, .int .i64 (0 : Int)]) 0 hO rfl rfl Try.underlying29 rfl ti29) ?_
  replace hB := (hB.trans d7.fr).trans Am.fr
  exact ⟨(⟨(0 : Int), false, ([] : List (List Int)), ([] : List (List Int)), ([] : List Int), ([] : List Int), ([] : List (List Int)), ([] : List Rule), (0 : Int)⟩ : Enum), (1 : Int), none, 0, none, 0, none, 0, none, 0, none, 0, none, 0, rfl, hB.same, (ISl.null _ _ _), (ISl.null _ _ _), (ISl.null _ _ _), (ISl.null _ _ _), (ISl.null _ _ _), (ISl.null _ _ _), H⟩
 replace H := ifn h11 H
 refine zo (fun w => opB (op_gtr rfl rfl w) (decide_eq_false h11)) (zo (op_pickF rfl rfl rfl) (zn (zf rfl rfl (zk (zq ?_)))))
 refine zq ?_
 refine Go1.cut [(0, .slice nU a0.length nV), (1, .bool a1), (4, .pointer (some ⟨B2, 0, none⟩))] ⟨rfl, rfl, rfl, trivial⟩ ?_
 intro σ _
 refine zr (zm rfl ?_)
 refine GoR.call (op_call body14 rfl (walk_ref11_MayGens hO.lt am H)) rfl rfl ?_
 rintro v19 w16 ⟨r15, rfl, T9, H⟩
 have o5 := Stp.same hO T9
 replace hO := o5.own
 cases r15
 ·replace H := ifn Bool.false_ne_true H
  refine zo (op_not rfl) (zn (zt rfl rfl (zq (zr (zo (op_build Try.underlying29 ti29 (pl := [(0, 1), (1, 1), (2, 1), (3, 1), (4, 1), (5, 1), (6, 1), (7, 1), (8, 1)]) (vs := []) (cs := #[.int .i64 (0 : Int), .bool false, .slice none 0 0, .slice none 0 0, .slice none 0 0, .slice none 0 0, .slice none 0 0, .slice none 0 0, .int .i64 (0 : Int)]) (by kernel_rfl) rfl (by kernel_rfl)) ?_)))))
  have hobt := oblkStAgg (us := [.int .i64 (0 : Int), .bool false, .slice none 0 0, .slice none 0 0, .slice none 0 0, .slice none 0 0, .slice none 0 0, .slice none 0 0, .int .i64 (0 : Int)]) (o := 0) (cs' := #[.int .i64 (0 : Int), .bool false, .slice none 0 0, .slice none 0 0, .slice none 0 0, .slice none 0 0, .slice none 0 0, .slice none 0 0, .int .i64 (0 : Int)]) 0 hO rfl rfl (Nat.le_of_ble_eq_true rfl) rfl
  obtain ⟨w21, f0, Bv⟩ := hobt
  refine zg (Bv ti29 (by exact rfl) (by exact rfl) rfl) ?_
  replace hO := f0.own
  refine za rfl (zn ?_)
  refine Go1.retC2 Try.func22 rfl rfl (run_loadBlk (vs := [.int .i64 (0 : Int), .bool false, .slice none 0 0, .slice none 0 0, .slice none 0 0, .slice none 0 0, .slice none 0 0, .slice none 0 0, .int .i64 (0 : Int)]) 0 hO rfl rfl Try.underlying29 rfl ti29) ?_
  replace hB := ((hB.trans d7.fr).trans o5.fr).trans f0.fr
  exact ⟨(⟨(0 : Int), false, ([] : List (List Int)), ([] : List (List Int)), ([] : List Int), ([] : List Int), ([] : List (List Int)), ([] : List Rule), (0 : Int)⟩ : Enum), (4 : Int), none, 0, none, 0, none, 0, none, 0, none, 0, none, 0, rfl, hB.same, (ISl.null _ _ _), (ISl.null _ _ _), (ISl.null _ _ _), (ISl.null _ _ _), (ISl.null _ _ _), (ISl.null _ _ _), H⟩
 replace H := ifp rfl H
 refine zo (op_not rfl) (zn (zf rfl rfl (zk (zq ?_))))
 refine Go1.drawA Same.tr A 1 [(0, .pure), (1, .pure), (2, .stable), (3, .pure), (4, .pure), (5, .pure), (6, .loud), (7, .pure), (8, .alloc), (9, .last)] mixed (by kernel_rfl) trivial hO.bd ?_
 intro w24 Eh
 have jP := Stp.same hO Eh
 replace hO := jP.own
 have IK := hO.le
 replace hB := ((hB.trans d7.fr).trans o5.fr).trans jP.fr
 have hw27 := hB.ch.size
 refine GoQA.pure rfl (op_move rfl) rfl rfl ?_
 obtain ⟨h29, H⟩ := H
 obtain ⟨h30, H⟩ := H
 replace am := (am.ch o5.ch).ch jP.ch
 refine GoQA.pure rfl (op_index Try.underlying22 ti26 rfl rfl h29 h30 (am.some_ h29 h30)) rfl rfl ?_
 have hobt := ldSl am h29 h30
 obtain ⟨p31, c32, kg, Ua⟩ := hobt
 refine GoQA.stable rfl (Ua Try.underlying26 rfl rfl) rfl rfl ?_
 refine GoQA.pure rfl (op_len Try.underlying26 rfl) rfl rfl ?_
 replace H := H kg.bd
 refine GoQA.pure rfl (op_move rfl) rfl rfl ?_
 refine GoQA.pure rfl (op_move rfl) rfl rfl ?_
 refine GoQA.loudI rfl rfl ?_
 intro w35 A36 GY
 replace hO := GY.own hO
 replace am := am.ch (GY.ch _)
 refine GoAt.call (op_call body24 rfl (walk_ref03_Copy hO.lt am H)) (fun v w hr => ⟨fun _ => (by obtain ⟨_, _, _, _, _, _, hs, _, _⟩ := hr; exact hs), Same.kp hO (by obtain ⟨_, _, _, _, _, _, hs, _, _⟩ := hr; exact hs)⟩) rfl ?_
 rintro v43 w40 ⟨r38, dU, dE, dF, ir, rfl, LX, hN42, H⟩
 have zE := Stp.more hO LX hN42
 replace hO := zE.own
 refine GoQA.pure rfl (op_build Try.underlying29 ti29 (pl := [(0, 1), (1, 1), (2, 1), (3, 1), (4, 1), (5, 1), (6, 1), (7, 1), (8, 1)]) (vs := [(0, .int .i64 ((ix a0 (0 : Int)).length : Int)), (1, .bool a1), (2, .slice dE dU dF)]) (cs := #[.int .i64 ((ix a0 (0 : Int)).length : Int), .bool a1, .slice dE dU dF, .slice none 0 0, .slice none 0 0, .slice none 0 0, .slice none 0 0, .slice none 0 0, .int .i64 (0 : Int)]) (by kernel_rfl) rfl (by kernel_rfl)) rfl rfl ?_
 refine GoQA.alloc rfl rfl (alAlloc (cs := #[.int .i64 (0 : Int), .bool false, .slice none 0 0, .slice none 0 0, .slice none 0 0, .slice none 0 0, .slice none 0 0, .slice none 0 0, .int .i64 (0 : Int)]) ti29 rfl) ?_
 intro w47 A48 b49 A50 G0 LY hd53 hnb54 hh55
 replace hO := G0.own hO
 have L1 := gainCh (w := w47) (E := [t2 (Fl.int .i64) 26 3 dE dU dF ir r38, .blk B2 (.cells #[.int .i64 (0 : Int), .bool false, .slice none 0 0, .slice none 0 0, .slice none 0 0, .slice none 0 0, .slice none 0 0, .slice none 0 0, .int .i64 (0 : Int)] 29 (0, 0))]) (e := .blk b49 (.cells #[.int .i64 (0 : Int), .bool false, .slice none 0 0, .slice none 0 0, .slice none 0 0, .slice none 0 0, .slice none 0 0, .slice none 0 0, .int .i64 (0 : Int)] 29 (0, 0))) LY rfl
 replace hB := ((hB.trans (GY.same.fr _)).trans zE.fr).trans (G0.same.fr _)
 replace hB := Fr.gain (e := .blk b49 (.cells #[.int .i64 (0 : Int), .bool false, .slice none 0 0, .slice none 0 0, .slice none 0 0, .slice none 0 0, .slice none 0 0, .slice none 0 0, .int .i64 (0 : Int)] 29 (0, 0))) hB (Nat.le_trans hw27 hnb54) rfl
 replace hO := Owns.gain hO LY IK rfl hh55 hd53
 refine GoQA.lastI rfl rfl ?_
 intro w57 A58 G1
 replace hO := G1.own hO
 have hobt := oblkStAgg (us := [.int .i64 ((ix a0 (0 : Int)).length : Int), .bool a1, .slice dE dU dF, .slice none 0 0, .slice none 0 0, .slice none 0 0, .slice none 0 0, .slice none 0 0, .int .i64 (0 : Int)]) (o := 0) (cs' := #[.int .i64 ((ix a0 (0 : Int)).length : Int), .bool a1, .slice dE dU dF, .slice none 0 0, .slice none 0 0, .slice none 0 0, .slice none 0 0, .slice none 0 0, .int .i64 (0 : Int)]) 0 hO rfl rfl (Nat.le_of_ble_eq_true rfl) rfl
 obtain ⟨w60, xE, Qd⟩ := hobt
 refine GoAt.step (Qd ti29 (by exact rfl) (by exact rfl) rfl) (fun h => nomatch h) (Stp.kp hO xE) rfl ?_
 replace hO := xE.own
 refine GoQA.nil ?_
 intro w63 A64 G3 IL
 replace hO := G3.own hO
 replace hO := hO.permA IL
 refine zq (zr (za rfl (zn (zq (zq ?_)))))
 refine Go1.cut [(0, .slice nU a0.length nV), (1, .bool a1), (4, .pointer (some ⟨B2, 0, none⟩)), (6, .pointer (some ⟨b49, 0, none⟩)), (7, .int .i64 (-1 : Int))] ⟨rfl, rfl, rfl, rfl, rfl, trivial⟩ ?_
 intro σ _
 refine zr (zm rfl (zn ?_))
 cases a1
 ·replace H := ifn Bool.false_ne_true H
  refine zf rfl rfl (zk (zq (zq (zr (zm rfl ?_)))))
  refine zo (op_len Try.underlying22 rfl) (zm rfl (zn (zb ?_)))
  have mf := Stp.nil (e := 26) (r := 1) hO
  replace hO := mf.own
  have q8 := Els.nil (Rp.sl (Rp.int .i64)) (bl (.row 26 1 none 0 0 [] :: [.blk b49 (.cells #[.int .i64 ((ix a0 (0 : Int)).length : Int), .bool false, .slice dE dU dF, .slice none 0 0, .slice none 0 0, .slice none 0 0, .slice none 0 0, .slice none 0 0, .int .i64 (0 : Int)] 29 (0, 0)), t2 (Fl.int .i64) 26 3 dE dU dF ir r38, .blk B2 (.cells #[.int .i64 (0 : Int), .bool false, .slice none 0 0, .slice none 0 0, .slice none 0 0, .slice none 0 0, .slice none 0 0, .slice none 0 0, .int .i64 (0 : Int)] 29 (0, 0))]) ++ A) w63
  have iP := Stp.nil (e := 3) (r := 1) hO
  replace hO := iP.own
  have FJ := Els.nil (Rp.int .i64) (bl (.row 3 1 none 0 0 [] :: [.row 26 1 none 0 0 [], .blk b49 (.cells #[.int .i64 ((ix a0 (0 : Int)).length : Int), .bool false, .slice dE dU dF, .slice none 0 0, .slice none 0 0, .slice none 0 0, .slice none 0 0, .slice none 0 0, .int .i64 (0 : Int)] 29 (0, 0)), t2 (Fl.int .i64) 26 3 dE dU dF ir r38, .blk B2 (.cells #[.int .i64 (0 : Int), .bool false, .slice none 0 0, .slice none 0 0, .slice none 0 0, .slice none 0 0, .slice none 0 0, .slice none 0 0, .int .i64 (0 : Int)] 29 (0, 0))]) ++ A) w63
  have i5 := Stp.nil (e := 3) (r := 1) hO
  replace hO := i5.own
  have tE := Els.nil (Rp.int .i64) (bl (.row 3 1 none 0 0 [] :: [.row 3 1 none 0 0 [], .row 26 1 none 0 0 [], .blk b49 (.cells #[.int .i64 ((ix a0 (0 : Int)).length : Int), .bool false, .slice dE dU dF, .slice none 0 0, .slice none 0 0, .slice none 0 0, .slice none 0 0, .slice none 0 0, .int .i64 (0 : Int)] 29 (0, 0)), t2 (Fl.int .i64) 26 3 dE dU dF ir r38, .blk B2 (.cells #[.int .i64 (0 : Int), .bool false, .slice none 0 0, .slice none 0 0, .slice none 0 0, .slice none 0 0, .slice none 0 0, .slice none 0 0, .int .i64 (0 : Int)] 29 (0, 0))]) ++ A) w63
  have mO := Stp.nil (e := 39) (r := 2) hO
  replace hO := mO.own
  have Ub := Els.nil (rpRule) (bl (.row 39 2 none 0 0 [] :: [.row 3 1 none 0 0 [], .row 3 1 none 0 0 [], .row 26 1 none 0 0 [], .blk b49 (.cells #[.int .i64 ((ix a0 (0 : Int)).length : Int), .bool false, .slice dE dU dF, .slice none 0 0, .slice none 0 0, .slice none 0 0, .slice none 0 0, .slice none 0 0, .int .i64 (0 : Int)] 29 (0, 0)), t2 (Fl.int .i64) 26 3 dE dU dF ir r38, .blk B2 (.cells #[.int .i64 (0 : Int), .bool false, .slice none 0 0, .slice none 0 0, .slice none 0 0, .slice none 0 0, .slice none 0 0, .slice none 0 0, .int .i64 (0 : Int)] 29 (0, 0))]) ++ A) w63
  replace tE := tE.ch mO.ch
  replace FJ := (FJ.ch i5.ch).ch mO.ch
  have Z1 := (iP.ch.trans i5.ch).trans mO.ch
  replace q8 := q8.ch Z1
  replace hB := ((((((hB.trans (G1.same.fr _)).trans xE.fr).trans (G3.same.fr _)).trans mf.fr).trans iP.fr).trans i5.fr).trans mO.fr
  have Z2 := (((((((((zE.ch.trans (G0.ch _)).trans L1).trans (G1.ch _)).trans xE.ch).trans (G3.ch _)).trans (permCh IL _)).trans mf.ch).trans iP.ch).trans i5.ch).trans mO.ch
  replace am := am.ch Z2
  refine Go1.loopW (S := Nat × List Rule × List Int × List Int × List (List Int)) (fun s σ w => match s with | (k1_80, d_81, d_87, d_93, d_99) => ∃ (n86 : Nat), ∃ (p84 : Option Addr), ∃ (c85 : Nat), ∃ (iJ : List Value), ∃ (n92 : Nat), ∃ (p90 : Option Addr), ∃ (c91 : Nat), ∃ (iK : List Value), ∃ (n98 : Nat), ∃ (p96 : Option Addr), ∃ (c97 : Nat), ∃ (vn : List Value), ∃ (jo : Nat), ∃ (kq : Option Addr), ∃ (kr : Nat), ∃ (vB : List Value), agrees σ [(4, .pointer (some ⟨B2, 0, none⟩)), (6, .pointer (some ⟨b49, 0, none⟩)), (7, .int .i64 (-1 : Int)), (42, .slice nU a0.length nV), (43, .int .i64 (a0.length : Int)), (44, .int .i64 (k1_80 : Int))] ∧ (fun Z0 => Owns w0.heap.size w Z0 A ∧ Els (rpRule) (bl Z0 ++ A) w iJ d_81 ∧ Els (Rp.int .i64) (bl Z0 ++ A) w iK d_87 ∧ Els (Rp.int .i64) (bl Z0 ++ A) w vn d_93 ∧ Els (Rp.sl (Rp.int .i64)) (bl Z0 ++ A) w vB d_99 ∧ ISl (Rp.sl (Rp.int .i64)) (bl Z0 ++ A) w nU nV a0 ∧ Fr (bl []) w0 (bl Z0) w) [.row 39 2 p84 n86 c85 iJ, .row 3 1 p90 n92 c91 iK, .row 3 1 p96 n98 c97 vn, .row 26 1 kq jo kr vB, .blk b49 (.cells #[.int .i64 ((ix a0 (0 : Int)).length : Int), .bool false, .slice dE dU dF, .slice kq jo kr, .slice p96 n98 c97, .slice p90 n92 c91, .slice none 0 0, .slice p84 n86 c85, .int .i64 (0 : Int)] 29 (0, 0)), t2 (Fl.int .i64) 26 3 dE dU dF ir r38, .blk B2 (.cells #[.int .i64 (0 : Int), .bool false, .slice none 0 0, .slice none 0 0, .slice none 0 0, .slice none 0 0, .slice none 0 0, .slice none 0 0, .int .i64 (0 : Int)] 29 (0, 0))]) H ⟨0, none, 0, [], 0, none, 0, [], 0, none, 0, [], 0, none, 0, [], ⟨rfl, rfl, rfl, rfl, rfl, rfl, trivial⟩, hO, Ub, tE, FJ, q8, am, hB⟩ ?_
  intro X1
  refine prE fun k1_80 => prE fun d_81 => prE fun d_87 => prE fun d_93 => fun d_99 => ?_
  intro H hX1 σ w79
  refine exE fun n86 => exE fun p84 => exE fun c85 => exE fun iJ => exE fun n92 => exE fun p90 => exE fun c91 => exE fun iK => exE fun n98 => exE fun p96 => exE fun c97 => exE fun vn => exE fun jo => exE fun kq => exE fun kr => exE fun vB => andE fun hag => andE fun hO => andE fun cR => andE fun dn => andE fun ie => andE fun ib => andE fun am => fun hB => ?_
  dsimp only at H
  refine Go1.keep [(4, .pointer (some ⟨B2, 0, none⟩)), (6, .pointer (some ⟨b49, 0, none⟩)), (7, .int .i64 (-1 : Int)), (42, .slice nU a0.length nV), (43, .int .i64 (a0.length : Int)), (44, .int .i64 (k1_80 : Int))] hag ?_
  refine zq (zr ?_)
  by_cases vc : (k1_80 : Int) < (a0.length : Int)
  ·replace H := ifp vc H
   refine zo (fun w => opB (op_lss rfl rfl w) (decide_eq_true vc)) (zn (zq (zt rfl rfl (zk (zq ?_)))))
   refine zb (zq (zr (zm rfl ?_)))
   obtain ⟨vd, H⟩ := H
   obtain ⟨zW, H⟩ := H
   refine zo (op_index Try.underlying22 ti26 rfl rfl vd zW (am.some_ vd zW)) ?_
   have hobt := ldSl am vd zW
   obtain ⟨L5, L6, fF, Qe⟩ := hobt
   refine zs (Qe Try.underlying26 rfl rfl) (za rfl (za rfl (zn (zq (zr ?_)))))
   refine zo (op_fieldAddr Try.underlying29 rfl ti22 rfl (by decide)) (zs (oblk (i := 3) 4 hO rfl rfl Try.underlying22 rfl rfl) (zm rfl ?_))
   have hobt := rowlend 3 hO rfl ib
   obtain ⟨FT, GQ⟩ := hobt
   have hOc114 := hO.drop 3
   refine GoR.call (op_call body41 (show ([.slice kq jo kr, .slice L5 ((ix a0 (k1_80 : Int)).length) L6] : List Value) = [.slice kq d_99.length kr, .slice L5 ((ix a0 (k1_80 : Int)).length) L6] from by rw [← GQ]) (walk_ref12_Find hOc114.lt FT (fF.ch (Owns.dropCh _ _ 3)) H)) rfl rfl ?_
   rintro aaq Uc ⟨r115, rfl, G4, H⟩
   have yY := Stp.same hO G4
   replace hO := yY.own
   refine za rfl (zn (zq (zq (zr (zm rfl ?_)))))
   by_cases AX : (0 : Int) ≤ r115
   ·replace H := ifp AX H
    refine zo (fun w => opB (op_geq rfl rfl w) (decide_eq_true AX)) (zn (zt rfl rfl (zq ?_)))
    refine Go1.drawS 2 [(0, .pure), (1, .stable), (2, .pure), (4, .stable), (5, .pure), (3, .loud), (6, .loud), (7, .pure), (8, .loud), (9, .last), (10, .pure), (11, .last)] mixed (by kernel_rfl) ?_
    intro aar Gv
    have y3 := Stp.same hO Gv
    replace hO := y3.own
    refine GoQ.pure rfl (op_fieldAddr Try.underlying29 rfl ti27 rfl (by decide)) rfl rfl ?_
    refine GoQ.stable rfl (oblk (i := 7) 4 hO rfl rfl Try.underlying27 rfl rfl) rfl rfl ?_
    refine GoQ.pure rfl (op_move rfl) rfl rfl ?_
    refine GoQ.stable rfl (oblkAgg (vs := [.int .i64 ((ix a0 (0 : Int)).length : Int), .bool false, .slice dE dU dF, .slice kq jo kr, .slice p96 n98 c97, .slice p90 n92 c91, .slice none 0 0, .slice p84 n86 c85, .int .i64 (0 : Int)]) (i := 0) 4 hO rfl rfl Try.underlying29 rfl ti29 rfl) rfl rfl ?_
    refine GoQ.pure rfl (op_move rfl) rfl rfl ?_
    refine GoQ.call rfl (op_call body55 rfl (walk_ref12_letter hO.lt H)) (fun v w hr => by obtain ⟨_, _, hs, _, _⟩ := hr; assumption) rfl rfl ?_
    rintro aas Ud ⟨r125, rfl, Qf, JQ, H⟩
    have y4 := Stp.same hO Qf
    replace hO := y4.own
    have Qg := t2lend 5 hO rfl
    have Qh := t2neq 5 hO rfl
    have hOc133 := hO.drop 5
    have Z3 := (yY.ch.trans y3.ch).trans y4.ch
    replace ib := ib.ch Z3
    have hobt := rowlend 3 hOc133 rfl (ib.ch (Owns.dropCh _ _ 5))
    obtain ⟨FU, Qi⟩ := hobt
    have hOc136 := hOc133.drop 3
    replace ie := ie.ch Z3
    have hobt := rowlend 2 hOc136 rfl ((ie.ch (Owns.dropCh _ _ 5)).ch (Owns.dropCh _ _ 3))
    obtain ⟨GU, GW⟩ := hobt
    have hOc139 := hOc136.drop 2
    replace dn := dn.ch Z3
    have hobt := rowlend 1 hOc139 rfl (((dn.ch (Owns.dropCh _ _ 5)).ch (Owns.dropCh _ _ 3)).ch (Owns.dropCh _ _ 2))
    obtain ⟨Qj, G5⟩ := hobt
    have hOc142 := hOc139.drop 1
    replace cR := cR.ch Z3
    have hobt := rowlend 0 hOc142 rfl ((((cR.ch (Owns.dropCh _ _ 5)).ch (Owns.dropCh _ _ 3)).ch (Owns.dropCh _ _ 2)).ch (Owns.dropCh _ _ 1))
    obtain ⟨Qk, FV⟩ := hobt
    have hOc145 := hOc142.drop 0
    refine GoQ.call rfl (op_call body40 (show ([.agg #[.int .i64 ((ix a0 (0 : Int)).length : Int), .bool false, .slice dE dU dF, .slice kq jo kr, .slice p96 n98 c97, .slice p90 n92 c91, .slice none 0 0, .slice p84 n86 c85, .int .i64 (0 : Int)], .int .i64 r115] : List Value) = [.agg #[.int .i64 ((ix a0 (0 : Int)).length : Int), .bool false, .slice dE r38.length dF, .slice kq d_99.length kr, .slice p96 d_93.length c97, .slice p90 d_87.length c91, .slice none 0 0, .slice p84 d_81.length c85, .int .i64 (0 : Int)], .int .i64 r115] from by rw [← Qh, ← Qi, ← GW, ← G5, ← FV]) (walk_ref12_Word (e := (⟨((ix a0 (0 : Int)).length : Int), false, r38, d_99, d_93, d_87, [], d_81, (0 : Int)⟩ : Enum)) hOc145.lt ((((Qg.ch (Owns.dropCh _ _ 3)).ch (Owns.dropCh _ _ 2)).ch (Owns.dropCh _ _ 1)).ch (Owns.dropCh _ _ 0)) (((FU.ch (Owns.dropCh _ _ 2)).ch (Owns.dropCh _ _ 1)).ch (Owns.dropCh _ _ 0)) ((GU.ch (Owns.dropCh _ _ 1)).ch (Owns.dropCh _ _ 0)) (Qj.ch (Owns.dropCh _ _ 0)) (ISl.null _ _ _) Qk H)) (fun v w hr => by obtain ⟨_, _, hs, _, _⟩ := hr; assumption) rfl rfl ?_
    rintro aat aau ⟨r146, rfl, Ql, JR, H⟩
    have y5 := Stp.same hO Ql
    replace hO := y5.own
    refine GoQ.pure rfl (op_build Try.underlying39 ti39 (pl := [(0, 1), (1, 1)]) (vs := [(0, .string (gstr r125)), (1, .string (gstr r146))]) (cs := #[.string (gstr r125), .string (gstr r146)]) (by kernel_rfl) rfl (by kernel_rfl)) rfl rfl ?_
    have hobt := obuildN (r := rpRule) (n := 1) (parts := [(0, .agg #[.string (gstr r125), .string (gstr r146)])]) (vs := [.string (gstr r125), .string (gstr r146)]) (xs := [(⟨r125, r146⟩ : Rule)]) Try.underlying27 ti39 hO (by decide) (by decide) (by kernel_rfl) (Els.flat1 (⟨r125, r146⟩ : Rule) ⟨JQ, JR⟩) rfl
    obtain ⟨Ue, aav, kA, Qm, Qn, L7⟩ := hobt
    refine GoQ.loud rfl (L7 rfl) Qn rfl rfl ?_
    replace hO := kA.own
    have hobt := freeze 0 hO rfl Qm
    obtain ⟨hO1, BE, eo, Qo⟩ := hobt
    dsimp only [eS, eZ] at hO1 BE eo
    replace hB := (((((hB.trans yY.fr).trans y3.fr).trans y4.fr).trans y5.fr).trans kA.fr).trans (Owns.dropFr _ _ 0)
    dsimp only [eS, eZ] at hB
    replace hO := hO1; clear hO1
    obtain ⟨Dx, H⟩ := H
    have Z4 := (y5.ch.trans kA.ch).trans BE
    replace cR := cR.ch Z4
    have hobt := oapp Try.underlying27 ti39 rfl 0 hO rfl cR eo Qo Dx (by decide)
    obtain ⟨aaw, Gw, Gx, Qp, xO, EU, L8⟩ := hobt
    dsimp only [sS, sZ] at xO EU
    refine GoQ.last rfl (L8 (by exact rfl) (by exact rfl)) rfl rfl ?_
    replace hO := xO.own
    refine GoQ.pure rfl (op_fieldAddr Try.underlying29 rfl ti27 rfl (by decide)) rfl rfl ?_
    have hobt := oblkSt2 (v := .slice Gw (n86 + 1) Gx) (i := 7) (cs' := #[.int .i64 ((ix a0 (0 : Int)).length : Int), .bool false, .slice dE dU dF, .slice kq jo kr, .slice p96 n98 c97, .slice p90 n92 c91, .slice none 0 0, .slice Gw (n86 + 1) Gx, .int .i64 (0 : Int)]) 4 hO rfl rfl rfl rfl
    obtain ⟨aax, gW, L9⟩ := hobt
    dsimp only [sS, sZ] at gW
    refine GoQ.last rfl (L9 Try.underlying27 rfl ti27 (by exact rfl) (by exact rfl)) rfl rfl ?_
    replace hO := gW.own
    refine GoQ.nil ?_
    refine Go1.exit rfl ?_
    refine Go1.cut [(4, .pointer (some ⟨B2, 0, none⟩)), (6, .pointer (some ⟨b49, 0, none⟩)), (7, .int .i64 (-1 : Int)), (42, .slice nU a0.length nV), (43, .int .i64 (a0.length : Int)), (44, .int .i64 (k1_80 : Int))] ⟨rfl, rfl, rfl, rfl, rfl, rfl, trivial⟩ ?_
    intro σ _
    refine zr ?_
    have Z5 := ((((Z3.trans y5.ch).trans kA.ch).trans BE).trans xO.ch).trans gW.ch
    replace am := am.ch Z5
    refine zo (op_add rfl rfl (wrap_i64 (natbd vc am.bd))) (zm rfl (zn ?_))
    replace EU := EU.ch gW.ch
    replace hB := (hB.trans xO.fr).trans gW.fr
    have Z6 := (Z4.trans xO.ch).trans gW.ch
    replace dn := dn.ch Z6
    replace ie := ie.ch Z6
    replace ib := ib.ch Z6
    exact hX1 _ H _ _ ⟨n86 + 1, Gw, Gx, Qp, n92, p90, c91, iK, n98, p96, c97, vn, jo, kq, kr, vB, ⟨rfl, rfl, rfl, rfl, rfl, rfl, trivial⟩, hO, EU, dn, ie, ib, am, hB⟩
   replace H := ifn AX H
   refine zo (fun w => opB (op_geq rfl rfl w) (decide_eq_false AX)) (zn (zf rfl rfl (zk ?_)))
   refine Go1.drawA (CSv.tr [(some ⟨b49, 3, none⟩), (some ⟨b49, 4, none⟩), (some ⟨b49, 5, none⟩)]) A 1 [(0, .pure), (1, .stable), (3, .pure), (7, .pure), (8, .stable), (9, .pure), (12, .pure), (13, .stable), (14, .pure), (2, .alloc), (4, .loud), (5, .alloc), (6, .loud), (17, .pure), (10, .alloc), (11, .loud), (15, .alloc), (16, .loud), (18, .last), (19, .pure), (20, .last), (21, .pure), (22, .last)] mixed (by kernel_rfl) trivial hO.bd ?_
   intro SE F7
   have kW := Stp.same hO F7
   replace hO := kW.own
   have EV := hO.le
   replace hB := (hB.trans yY.fr).trans kW.fr
   have hw177 := hB.ch.size
   refine GoQA.pure rfl (op_fieldAddr Try.underlying29 rfl ti22 rfl (by decide)) rfl rfl ?_
   refine GoQA.stable rfl (loadV (.head _) rfl (blkCell 4 hO rfl rfl) Try.underlying22 rfl rfl) rfl rfl ?_
   refine GoQA.pure rfl (op_move rfl) rfl rfl ?_
   refine GoQA.pure rfl (op_fieldAddr Try.underlying29 rfl ti26 rfl (by decide)) rfl rfl ?_
   refine GoQA.stable rfl (loadV (.tail _ (.head _)) rfl (blkCell 4 hO rfl rfl) Try.underlying26 rfl rfl) rfl rfl ?_
   refine GoQA.pure rfl (op_move rfl) rfl rfl ?_
   refine GoQA.pure rfl (op_fieldAddr Try.underlying29 rfl ti26 rfl (by decide)) rfl rfl ?_
   refine GoQA.stable rfl (loadV (.tail _ (.tail _ (.head _))) rfl (blkCell 4 hO rfl rfl) Try.underlying26 rfl rfl) rfl rfl ?_
   refine GoQA.pure rfl (op_move rfl) rfl rfl ?_
   refine GoQA.alloc rfl rfl (alBuild (n := 0) (parts := []) (vs := []) Try.underlying26 ti3 (by decide) (by decide) (by decide) (by kernel_rfl) rfl rfl) ?_
   intro HO A181 Ma A183 Ax Jq hd186 hnb187 hh188
   replace hO := Ax.own hO
   have D6 : Els (Rp.int .i64) (bl [.row 39 2 p84 n86 c85 iJ, .row 3 1 p90 n92 c91 iK, .row 3 1 p96 n98 c97 vn, .row 26 1 kq jo kr vB, .blk b49 (.cells #[.int .i64 ((ix a0 (0 : Int)).length : Int), .bool false, .slice dE dU dF, .slice kq jo kr, .slice p96 n98 c97, .slice p90 n92 c91, .slice none 0 0, .slice p84 n86 c85, .int .i64 (0 : Int)] 29 (0, 0)), t2 (Fl.int .i64) 26 3 dE dU dF ir r38, .blk B2 (.cells #[.int .i64 (0 : Int), .bool false, .slice none 0 0, .slice none 0 0, .slice none 0 0, .slice none 0 0, .slice none 0 0, .slice none 0 0, .int .i64 (0 : Int)] 29 (0, 0))] ++ A181) HO [] (([] : List Int)) := (Els.nil _ _ _)
   have BG := gainCh (w := HO) (E := [.row 39 2 p84 n86 c85 iJ, .row 3 1 p90 n92 c91 iK, .row 3 1 p96 n98 c97 vn, .row 26 1 kq jo kr vB, .blk b49 (.cells #[.int .i64 ((ix a0 (0 : Int)).length : Int), .bool false, .slice dE dU dF, .slice kq jo kr, .slice p96 n98 c97, .slice p90 n92 c91, .slice none 0 0, .slice p84 n86 c85, .int .i64 (0 : Int)] 29 (0, 0)), t2 (Fl.int .i64) 26 3 dE dU dF ir r38, .blk B2 (.cells #[.int .i64 (0 : Int), .bool false, .slice none 0 0, .slice none 0 0, .slice none 0 0, .slice none 0 0, .slice none 0 0, .slice none 0 0, .int .i64 (0 : Int)] 29 (0, 0))]) (e := .row 3 1 (some ⟨Ma, 0, none⟩) 0 0 []) Jq rfl
   replace hB := hB.trans (Ax.same.fr _)
   replace hB := Fr.gain (e := .row 3 1 (some ⟨Ma, 0, none⟩) 0 0 []) hB (Nat.le_trans hw177 hnb187) rfl
   replace hO := Owns.gain hO Jq EV rfl hh188 hd186
   refine GoQA.loudI rfl rfl ?_
   intro SG A192 zF
   replace hO := zF.own hO
   obtain ⟨Uf, H⟩ := H
   replace D6 := (D6.ch BG).ch (zF.ch _)
   have Z7 := (((yY.ch.trans kW.ch).trans (Ax.ch _)).trans BG).trans (zF.ch _)
   replace fF := fF.ch Z7
   have hobt := oapp Try.underlying26 ti3 rfl 0 hO rfl D6 fF rfl Uf (by decide)
   obtain ⟨aay, DP, DQ, Wq, tN, Jr, Fj⟩ := hobt
   dsimp only [sS, sZ] at tN Jr
   refine GoAt.step (Fj (by exact rfl) (by exact rfl)) (fun _ => (CSv.cons (cs_eq (blkCell 5 hO rfl rfl) (blkCell 5 tN.own rfl rfl)) (CSv.cons (cs_eq (blkCell 5 hO rfl rfl) (blkCell 5 tN.own rfl rfl)) (CSv.cons (cs_eq (blkCell 5 hO rfl rfl) (blkCell 5 tN.own rfl rfl)) (CSv.nil _ _))))) (Stp.kp hO tN) rfl ?_
   replace hO := tN.own
   have hobt := freeze 0 hO rfl Jr
   obtain ⟨hO1, BH, g0, Qq⟩ := hobt
   dsimp only [eS, eZ] at hO1 BH g0
   replace hB := ((hB.trans (zF.same.fr _)).trans tN.fr).trans (Owns.dropFr _ _ 0)
   dsimp only [eS, eZ] at hB
   replace hO := hO1; clear hO1
   refine GoQA.alloc rfl rfl (alBuild (n := 1) (parts := [(0, .slice DP (0 + ((ix a0 (k1_80 : Int)).length)) DQ)]) (vs := [.slice DP (0 + ((ix a0 (k1_80 : Int)).length)) DQ]) Try.underlying22 ti26 (by decide) (by decide) (by decide) (by kernel_rfl) rfl rfl) ?_
   intro Mb A205 Mc A207 zG Js hd210 hnb211 hh212
   replace hO := zG.own hO
   replace g0 := g0.ch (zG.ch _)
   have Aq : Els (Rp.sl (Rp.int .i64)) (bl [.row 39 2 p84 n86 c85 iJ, .row 3 1 p90 n92 c91 iK, .row 3 1 p96 n98 c97 vn, .row 26 1 kq jo kr vB, .blk b49 (.cells #[.int .i64 ((ix a0 (0 : Int)).length : Int), .bool false, .slice dE dU dF, .slice kq jo kr, .slice p96 n98 c97, .slice p90 n92 c91, .slice none 0 0, .slice p84 n86 c85, .int .i64 (0 : Int)] 29 (0, 0)), t2 (Fl.int .i64) 26 3 dE dU dF ir r38, .blk B2 (.cells #[.int .i64 (0 : Int), .bool false, .slice none 0 0, .slice none 0 0, .slice none 0 0, .slice none 0 0, .slice none 0 0, .slice none 0 0, .int .i64 (0 : Int)] 29 (0, 0))] ++ A205) Mb [.slice DP (0 + ((ix a0 (k1_80 : Int)).length)) DQ] [(([] : List Int)) ++ (ix a0 (k1_80 : Int))] := (Els.cons rfl ⟨DP, DQ, congrArg some (congrArg (fun nn => Value.slice DP nn DQ) Qq), g0⟩ (Els.nil _ _ _) (by simp [mx]))
   have Ay := gainCh (w := Mb) (E := [.row 39 2 p84 n86 c85 iJ, .row 3 1 p90 n92 c91 iK, .row 3 1 p96 n98 c97 vn, .row 26 1 kq jo kr vB, .blk b49 (.cells #[.int .i64 ((ix a0 (0 : Int)).length : Int), .bool false, .slice dE dU dF, .slice kq jo kr, .slice p96 n98 c97, .slice p90 n92 c91, .slice none 0 0, .slice p84 n86 c85, .int .i64 (0 : Int)] 29 (0, 0)), t2 (Fl.int .i64) 26 3 dE dU dF ir r38, .blk B2 (.cells #[.int .i64 (0 : Int), .bool false, .slice none 0 0, .slice none 0 0, .slice none 0 0, .slice none 0 0, .slice none 0 0, .slice none 0 0, .int .i64 (0 : Int)] 29 (0, 0))]) (e := .row 26 1 (some ⟨Mc, 0, none⟩) 1 1 [.slice DP (0 + ((ix a0 (k1_80 : Int)).length)) DQ]) Js rfl
   replace hB := hB.trans (zG.same.fr _)
   replace hB := Fr.gain (e := .row 26 1 (some ⟨Mc, 0, none⟩) 1 1 [.slice DP (0 + ((ix a0 (k1_80 : Int)).length)) DQ]) hB (Nat.le_trans hw177 hnb211) rfl
   replace hO := Owns.gain hO Js EV rfl hh212 hd210
   refine GoQA.loudI rfl rfl ?_
   intro aaz A219 yw
   replace hO := yw.own hO
   replace Aq := (Aq.ch Ay).ch (yw.ch _)
   have hobt := freeze 0 hO rfl Aq
   obtain ⟨hO1, Az, iG, Qr⟩ := hobt
   dsimp only [eS, eZ] at hO1 Az iG
   replace hB := (hB.trans (yw.same.fr _)).trans (Owns.dropFr _ _ 0)
   dsimp only [eS, eZ] at hB
   replace hO := hO1; clear hO1
   obtain ⟨Ug, H⟩ := H
   have Z8 := (((((Z7.trans tN.ch).trans BH).trans (zG.ch _)).trans Ay).trans (yw.ch _)).trans Az
   replace ib := ib.ch Z8
   have hobt := oapp Try.underlying22 ti26 rfl 3 hO rfl ib iG Qr Ug (by decide)
   obtain ⟨aaA, BI, BJ, rc, sy, iT, Me⟩ := hobt
   dsimp only [sS, sZ] at sy iT
   refine GoAt.step (Me (by exact rfl) (by exact rfl)) (fun _ => (CSv.cons (cs_eq (blkCell 4 hO rfl rfl) (blkCell 4 sy.own rfl rfl)) (CSv.cons (cs_eq (blkCell 4 hO rfl rfl) (blkCell 4 sy.own rfl rfl)) (CSv.cons (cs_eq (blkCell 4 hO rfl rfl) (blkCell 4 sy.own rfl rfl)) (CSv.nil _ _))))) (Stp.kp hO sy) rfl ?_
   replace hO := sy.own
   refine GoQA.pure rfl (op_fieldAddr Try.underlying29 rfl ti22 rfl (by decide)) rfl rfl ?_
   refine GoQA.alloc rfl rfl (alBuild (n := 1) (parts := [(0, .int .i64 (-1 : Int))]) (vs := [.int .i64 (-1 : Int)]) Try.underlying26 ti3 (by decide) (by decide) (by decide) (by kernel_rfl) rfl rfl) ?_
   intro Mf A235 Mg A237 yy Jt hd240 hnb241 hh242
   replace hO := yy.own hO
   have D7 : Els (Rp.int .i64) (bl [.row 39 2 p84 n86 c85 iJ, .row 3 1 p90 n92 c91 iK, .row 3 1 p96 n98 c97 vn, .row 26 1 BI (jo + 1) BJ rc, .blk b49 (.cells #[.int .i64 ((ix a0 (0 : Int)).length : Int), .bool false, .slice dE dU dF, .slice kq jo kr, .slice p96 n98 c97, .slice p90 n92 c91, .slice none 0 0, .slice p84 n86 c85, .int .i64 (0 : Int)] 29 (0, 0)), t2 (Fl.int .i64) 26 3 dE dU dF ir r38, .blk B2 (.cells #[.int .i64 (0 : Int), .bool false, .slice none 0 0, .slice none 0 0, .slice none 0 0, .slice none 0 0, .slice none 0 0, .slice none 0 0, .int .i64 (0 : Int)] 29 (0, 0))] ++ A235) Mf [.int .i64 (-1 : Int)] [(-1 : Int)] := (Els.cons rfl rfl (Els.nil _ _ _) (by simp [mx]))
   have zH := gainCh (w := Mf) (E := [.row 39 2 p84 n86 c85 iJ, .row 3 1 p90 n92 c91 iK, .row 3 1 p96 n98 c97 vn, .row 26 1 BI (jo + 1) BJ rc, .blk b49 (.cells #[.int .i64 ((ix a0 (0 : Int)).length : Int), .bool false, .slice dE dU dF, .slice kq jo kr, .slice p96 n98 c97, .slice p90 n92 c91, .slice none 0 0, .slice p84 n86 c85, .int .i64 (0 : Int)] 29 (0, 0)), t2 (Fl.int .i64) 26 3 dE dU dF ir r38, .blk B2 (.cells #[.int .i64 (0 : Int), .bool false, .slice none 0 0, .slice none 0 0, .slice none 0 0, .slice none 0 0, .slice none 0 0, .slice none 0 0, .int .i64 (0 : Int)] 29 (0, 0))]) (e := .row 3 1 (some ⟨Mg, 0, none⟩) 1 1 [.int .i64 (-1 : Int)]) Jt rfl
   replace hB := (hB.trans sy.fr).trans (yy.same.fr _)
   replace hB := Fr.gain (e := .row 3 1 (some ⟨Mg, 0, none⟩) 1 1 [.int .i64 (-1 : Int)]) hB (Nat.le_trans hw177 hnb241) rfl
   replace hO := Owns.gain hO Jt EV rfl hh242 hd240
   refine GoQA.loudI rfl rfl ?_
   intro SO A246 xP
   replace hO := xP.own hO
   replace D7 := (D7.ch zH).ch (xP.ch _)
   have hobt := freeze 0 hO rfl D7
   obtain ⟨hO1, qx, fd, Gd⟩ := hobt
   dsimp only [eS, eZ] at hO1 qx fd
   replace hB := (hB.trans (xP.same.fr _)).trans (Owns.dropFr _ _ 0)
   dsimp only [eS, eZ] at hB
   replace hO := hO1; clear hO1
   obtain ⟨Uh, H⟩ := H
   have Z9 := ((((Z8.trans sy.ch).trans (yy.ch _)).trans zH).trans (xP.ch _)).trans qx
   replace ie := ie.ch Z9
   have hobt := oapp Try.underlying26 ti3 rfl 2 hO rfl ie fd Gd Uh (by decide)
   obtain ⟨TA, DJ, Ez, G6, rJ, ly, Mh⟩ := hobt
   dsimp only [sS, sZ] at rJ ly
   refine GoAt.step (Mh (by exact rfl) (by exact rfl)) (fun _ => (CSv.cons (cs_eq (blkCell 4 hO rfl rfl) (blkCell 4 rJ.own rfl rfl)) (CSv.cons (cs_eq (blkCell 4 hO rfl rfl) (blkCell 4 rJ.own rfl rfl)) (CSv.cons (cs_eq (blkCell 4 hO rfl rfl) (blkCell 4 rJ.own rfl rfl)) (CSv.nil _ _))))) (Stp.kp hO rJ) rfl ?_
   replace hO := rJ.own
   refine GoQA.alloc rfl rfl (alBuild (n := 1) (parts := [(0, .int .i64 (k1_80 : Int))]) (vs := [.int .i64 (k1_80 : Int)]) Try.underlying26 ti3 (by decide) (by decide) (by decide) (by kernel_rfl) rfl rfl) ?_
   intro Mi A262 Mj A264 xQ Ju hd267 hnb268 hh269
   replace hO := xQ.own hO
   have D8 : Els (Rp.int .i64) (bl [.row 39 2 p84 n86 c85 iJ, .row 3 1 p90 n92 c91 iK, .row 3 1 DJ (n98 + 1) Ez G6, .row 26 1 BI (jo + 1) BJ rc, .blk b49 (.cells #[.int .i64 ((ix a0 (0 : Int)).length : Int), .bool false, .slice dE dU dF, .slice kq jo kr, .slice p96 n98 c97, .slice p90 n92 c91, .slice none 0 0, .slice p84 n86 c85, .int .i64 (0 : Int)] 29 (0, 0)), t2 (Fl.int .i64) 26 3 dE dU dF ir r38, .blk B2 (.cells #[.int .i64 (0 : Int), .bool false, .slice none 0 0, .slice none 0 0, .slice none 0 0, .slice none 0 0, .slice none 0 0, .slice none 0 0, .int .i64 (0 : Int)] 29 (0, 0))] ++ A262) Mi [.int .i64 (k1_80 : Int)] [(k1_80 : Int)] := (Els.cons rfl rfl (Els.nil _ _ _) (by simp [mx]))
   have yz := gainCh (w := Mi) (E := [.row 39 2 p84 n86 c85 iJ, .row 3 1 p90 n92 c91 iK, .row 3 1 DJ (n98 + 1) Ez G6, .row 26 1 BI (jo + 1) BJ rc, .blk b49 (.cells #[.int .i64 ((ix a0 (0 : Int)).length : Int), .bool false, .slice dE dU dF, .slice kq jo kr, .slice p96 n98 c97, .slice p90 n92 c91, .slice none 0 0, .slice p84 n86 c85, .int .i64 (0 : Int)] 29 (0, 0)), t2 (Fl.int .i64) 26 3 dE dU dF ir r38, .blk B2 (.cells #[.int .i64 (0 : Int), .bool false, .slice none 0 0, .slice none 0 0, .slice none 0 0, .slice none 0 0, .slice none 0 0, .slice none 0 0, .int .i64 (0 : Int)] 29 (0, 0))]) (e := .row 3 1 (some ⟨Mj, 0, none⟩) 1 1 [.int .i64 (k1_80 : Int)]) Ju rfl
   replace hB := (hB.trans rJ.fr).trans (xQ.same.fr _)
   replace hB := Fr.gain (e := .row 3 1 (some ⟨Mj, 0, none⟩) 1 1 [.int .i64 (k1_80 : Int)]) hB (Nat.le_trans hw177 hnb268) rfl
   replace hO := Owns.gain hO Ju EV rfl hh269 hd267
   refine GoQA.loudI rfl rfl ?_
   intro Ui A273 wY
   replace hO := wY.own hO
   replace D8 := (D8.ch yz).ch (wY.ch _)
   have hobt := freeze 0 hO rfl D8
   obtain ⟨hO1, yA, qD, Qs⟩ := hobt
   dsimp only [eS, eZ] at hO1 yA qD
   replace hB := (hB.trans (wY.same.fr _)).trans (Owns.dropFr _ _ 0)
   dsimp only [eS, eZ] at hB
   replace hO := hO1; clear hO1
   obtain ⟨Uj, H⟩ := H
   have Z10 := ((((Z9.trans rJ.ch).trans (xQ.ch _)).trans yz).trans (wY.ch _)).trans yA
   replace dn := dn.ch Z10
   have hobt := oapp Try.underlying26 ti3 rfl 1 hO rfl dn qD Qs Uj (by decide)
   obtain ⟨aaB, IM, IN, Qt, qY, sa, Mk⟩ := hobt
   dsimp only [sS, sZ] at qY sa
   refine GoAt.step (Mk (by exact rfl) (by exact rfl)) (fun _ => (CSv.cons (cs_eq (blkCell 4 hO rfl rfl) (blkCell 4 qY.own rfl rfl)) (CSv.cons (cs_eq (blkCell 4 hO rfl rfl) (blkCell 4 qY.own rfl rfl)) (CSv.cons (cs_eq (blkCell 4 hO rfl rfl) (blkCell 4 qY.own rfl rfl)) (CSv.nil _ _))))) (Stp.kp hO qY) rfl ?_
   replace hO := qY.own
   refine GoQA.lastI rfl rfl ?_
   intro aaC A288 w4
   replace hO := w4.own hO
   have hobt := oblkSt2 (v := .slice BI (jo + 1) BJ) (i := 3) (cs' := #[.int .i64 ((ix a0 (0 : Int)).length : Int), .bool false, .slice dE dU dF, .slice BI (jo + 1) BJ, .slice p96 n98 c97, .slice p90 n92 c91, .slice none 0 0, .slice p84 n86 c85, .int .i64 (0 : Int)]) 4 hO rfl rfl rfl rfl
   obtain ⟨aaD, sA, Ml⟩ := hobt
   dsimp only [sS, sZ] at sA
   refine GoAt.step (Ml Try.underlying22 rfl ti22 (by exact rfl) (by exact rfl)) (fun h => nomatch h) (Stp.kp hO sA) rfl ?_
   replace hO := sA.own
   refine GoQA.pure rfl (op_fieldAddr Try.underlying29 rfl ti26 rfl (by decide)) rfl rfl ?_
   refine GoQA.lastI rfl rfl ?_
   intro TD A294 xa
   replace hO := xa.own hO
   have hobt := oblkSt2 (v := .slice DJ (n98 + 1) Ez) (i := 4) (cs' := #[.int .i64 ((ix a0 (0 : Int)).length : Int), .bool false, .slice dE dU dF, .slice BI (jo + 1) BJ, .slice DJ (n98 + 1) Ez, .slice p90 n92 c91, .slice none 0 0, .slice p84 n86 c85, .int .i64 (0 : Int)]) 4 hO rfl rfl rfl rfl
   obtain ⟨TE, jt, Mm⟩ := hobt
   dsimp only [sS, sZ] at jt
   refine GoAt.step (Mm Try.underlying26 rfl ti26 (by exact rfl) (by exact rfl)) (fun h => nomatch h) (Stp.kp hO jt) rfl ?_
   replace hO := jt.own
   refine GoQA.pure rfl (op_fieldAddr Try.underlying29 rfl ti26 rfl (by decide)) rfl rfl ?_
   refine GoQA.lastI rfl rfl ?_
   intro aaE A300 xb
   replace hO := xb.own hO
   have hobt := oblkSt2 (v := .slice IM (n92 + 1) IN) (i := 5) (cs' := #[.int .i64 ((ix a0 (0 : Int)).length : Int), .bool false, .slice dE dU dF, .slice BI (jo + 1) BJ, .slice DJ (n98 + 1) Ez, .slice IM (n92 + 1) IN, .slice none 0 0, .slice p84 n86 c85, .int .i64 (0 : Int)]) 4 hO rfl rfl rfl rfl
   obtain ⟨aaF, sB, Mn⟩ := hobt
   dsimp only [sS, sZ] at sB
   refine GoAt.step (Mn Try.underlying26 rfl ti26 (by exact rfl) (by exact rfl)) (fun h => nomatch h) (Stp.kp hO sB) rfl ?_
   replace hO := sB.own
   refine GoQA.nil ?_
   intro aaG A306 xc xR
   replace hO := xc.own hO
   replace hO := hO.permA xR
   refine Go1.inBlock ?_
   refine Go1.cut [(4, .pointer (some ⟨B2, 0, none⟩)), (6, .pointer (some ⟨b49, 0, none⟩)), (7, .int .i64 (-1 : Int)), (42, .slice nU a0.length nV), (43, .int .i64 (a0.length : Int)), (44, .int .i64 (k1_80 : Int))] ⟨rfl, rfl, rfl, rfl, rfl, rfl, trivial⟩ ?_
   intro σ _
   refine zr ?_
   have Z11 := ((((((((Z10.trans qY.ch).trans (w4.ch _)).trans sA.ch).trans (xa.ch _)).trans jt.ch).trans (xb.ch _)).trans sB.ch).trans (xc.ch _)).trans (permCh xR _)
   replace am := am.ch Z11
   refine zo (op_add rfl rfl (wrap_i64 (natbd vc am.bd))) (zm rfl (zn ?_))
   replace hB := (((((((hB.trans qY.fr).trans (w4.same.fr _)).trans sA.fr).trans (xa.same.fr _)).trans jt.fr).trans (xb.same.fr _)).trans sB.fr).trans (xc.same.fr _)
   have Z12 := (((((((w4.ch _).trans sA.ch).trans (xa.ch _)).trans jt.ch).trans (xb.ch _)).trans sB.ch).trans (xc.ch _)).trans (permCh xR _)
   replace sa := sa.ch Z12
   have Z13 := ((((((((((((xQ.ch _).trans yz).trans (wY.ch _)).trans yA).trans qY.ch).trans (w4.ch _)).trans sA.ch).trans (xa.ch _)).trans jt.ch).trans (xb.ch _)).trans sB.ch).trans (xc.ch _)).trans (permCh xR _)
   replace ly := ly.ch Z13
   have Z14 := (((((((((((((((((yy.ch _).trans zH).trans (xP.ch _)).trans qx).trans rJ.ch).trans (xQ.ch _)).trans yz).trans (wY.ch _)).trans yA).trans qY.ch).trans (w4.ch _)).trans sA.ch).trans (xa.ch _)).trans jt.ch).trans (xb.ch _)).trans sB.ch).trans (xc.ch _)).trans (permCh xR _)
   replace iT := iT.ch Z14
   replace cR := cR.ch Z11
   exact hX1 _ H _ _ ⟨n86, p84, c85, iJ, n92 + 1, IM, IN, Qt, n98 + 1, DJ, Ez, G6, jo + 1, BI, BJ, rc, ⟨rfl, rfl, rfl, rfl, rfl, rfl, trivial⟩, hO, cR, sa, ly, iT, am, hB⟩
  replace H := ifn vc H
  refine zo (fun w => opB (op_lss rfl rfl w) (decide_eq_false vc)) (zn (zq (zf rfl rfl ?_)))
  refine Go1.exit rfl ?_
  refine zq (zr (zs (oblkAgg (vs := [.int .i64 ((ix a0 (0 : Int)).length : Int), .bool false, .slice dE dU dF, .slice kq jo kr, .slice p96 n98 c97, .slice p90 n92 c91, .slice none 0 0, .slice p84 n86 c85, .int .i64 (0 : Int)]) (i := 0) 4 hO rfl rfl Try.underlying29 rfl ti29 rfl) ?_))
  have hobt := oblkStAgg (us := [.int .i64 ((ix a0 (0 : Int)).length : Int), .bool false, .slice dE dU dF, .slice kq jo kr, .slice p96 n98 c97, .slice p90 n92 c91, .slice none 0 0, .slice p84 n86 c85, .int .i64 (0 : Int)]) (o := 0) (cs' := #[.int .i64 ((ix a0 (0 : Int)).length : Int), .bool false, .slice dE dU dF, .slice kq jo kr, .slice p96 n98 c97, .slice p90 n92 c91, .slice none 0 0, .slice p84 n86 c85, .int .i64 (0 : Int)]) 6 hO rfl rfl (Nat.le_of_ble_eq_true rfl) rfl
  obtain ⟨aaH, lb, Mo⟩ := hobt
  dsimp only [sS, sZ] at lb
  refine zg (Mo ti29 (by exact rfl) (by exact rfl) rfl) ?_
  replace hO := lb.own
  refine za rfl (zn ?_)
  have hobt := t2freezeA 5 hO rfl
  obtain ⟨hO1, Db, yB, Qu⟩ := hobt
  dsimp only [eS, eZ] at hO1 Db yB
  replace hB := (hB.trans lb.fr).trans (Owns.dropFr _ _ 5)
  dsimp only [eS, eZ] at hB
  replace hO := hO1; clear hO1
  replace ib := (ib.ch lb.ch).ch Db
  have hobt := freeze 3 hO rfl ib
  obtain ⟨hO1, Dc, AA, Qv⟩ := hobt
  dsimp only [eS, eZ] at hO1 Dc AA
  replace hB := hB.trans (Owns.dropFr _ _ 3)
  dsimp only [eS, eZ] at hB
  replace hO := hO1; clear hO1
  have Z15 := (lb.ch.trans Db).trans Dc
  replace ie := ie.ch Z15
  have hobt := freeze 2 hO rfl ie
  obtain ⟨hO1, Dd, De, Qw⟩ := hobt
  dsimp only [eS, eZ] at hO1 Dd De
  replace hB := hB.trans (Owns.dropFr _ _ 2)
  dsimp only [eS, eZ] at hB
  replace hO := hO1; clear hO1
  replace dn := (dn.ch Z15).ch Dd
  have hobt := freeze 1 hO rfl dn
  obtain ⟨hO1, Df, EW, Qx⟩ := hobt
  dsimp only [eS, eZ] at hO1 Df EW
  replace hB := hB.trans (Owns.dropFr _ _ 1)
  dsimp only [eS, eZ] at hB
  replace hO := hO1; clear hO1
  replace cR := ((cR.ch Z15).ch Dd).ch Df
  have hobt := freeze 0 hO rfl cR
  obtain ⟨hO1, pI, my, Ge⟩ := hobt
  dsimp only [eS, eZ] at hO1 pI my
  replace hB := hB.trans (Owns.dropFr _ _ 0)
  dsimp only [eS, eZ] at hB
  replace hO := hO1; clear hO1
  refine Go1.retC2 Try.func22 rfl rfl (run_loadBlk (vs := [.int .i64 ((ix a0 (0 : Int)).length : Int), .bool false, .slice dE dU dF, .slice kq jo kr, .slice p96 n98 c97, .slice p90 n92 c91, .slice none 0 0, .slice p84 n86 c85, .int .i64 (0 : Int)]) 1 hO rfl rfl Try.underlying29 rfl ti29) ?_
  replace EW := EW.ch pI
  replace De := (De.ch Df).ch pI
  have Z16 := (Dd.trans Df).trans pI
  replace AA := AA.ch Z16
  have Z17 := ((Dc.trans Dd).trans Df).trans pI
  replace yB := yB.ch Z17
  exact ⟨(⟨((ix a0 (0 : Int)).length : Int), false, r38, d_99, d_93, d_87, ([] : List (List Int)), d_81, (0 : Int)⟩ : Enum), (0 : Int), dE, dF, kq, kr, p96, c97, p90, c91, none, 0, p84, c85, (congrArg (fun l => Value.tuple (List.toArray l)) (cons_eq (congrArg (fun l => Value.agg (List.toArray l)) (cons_eq rfl (cons_eq rfl (cons_eq (congrArg (fun nn => Value.slice dE nn dF) Qu) (cons_eq (congrArg (fun nn => Value.slice kq nn kr) Qv) (cons_eq (congrArg (fun nn => Value.slice p96 nn c97) Qw) (cons_eq (congrArg (fun nn => Value.slice p90 nn c91) Qx) (cons_eq rfl (cons_eq (congrArg (fun nn => Value.slice p84 nn c85) Ge) (cons_eq rfl rfl)))))))))) (cons_eq rfl rfl))), hB.same, (yB.ch (Ch.weak _ _ _)), (AA.ch (Ch.weak _ _ _)), (De.ch (Ch.weak _ _ _)), (EW.ch (Ch.weak _ _ _)), (ISl.null _ _ _), (my.ch (Ch.weak _ _ _)), H⟩
 replace H := ifp rfl H
 refine zt rfl rfl (zq (zr (zo (op_fieldAddr Try.underlying29 rfl ti3 rfl (by decide)) (zs (oblk (i := 0) 0 hO rfl rfl Try.underlying3 rfl rfl) ?_))))
 refine GoR.call (op_call body54 rfl (walk_ref03_Discrete hO.lt H)) rfl rfl ?_
 rintro Uk Kj ⟨r327, rK, rL, rfl, G7, bW, H⟩
 have iD := Stp.same hO G7
 replace hO := iD.own
 have hobt := obuild (r := Rp.sl (Rp.int .i64)) (n := 1) (parts := [(0, .slice rK r327.length rL)]) (vs := [.slice rK r327.length rL]) (xs := [r327]) rfl Try.underlying22 ti26 hO (by decide) (by kernel_rfl) (Els.cons rfl ⟨rK, rL, rfl, bW⟩ (Els.nil _ _ _) (by simp [mx])) rfl
 obtain ⟨aaI, DR, CO, wh, Wr, Fp⟩ := hobt
 refine zg (Fp rfl) ?_
 replace hO := CO.own
 have hobt := obuild (r := Rp.int .i64) (n := 1) (parts := [(0, .int .i64 (-1 : Int))]) (vs := [.int .i64 (-1 : Int)]) (xs := [(-1 : Int)]) rfl Try.underlying26 ti3 hO (by decide) (by kernel_rfl) (Els.cons rfl rfl (Els.nil _ _ _) (by simp [mx])) rfl
 obtain ⟨TI, DM, kz, wg, GJ, FC⟩ := hobt
 refine zg (FC rfl) ?_
 replace hO := kz.own
 have hobt := obuild (r := Rp.int .i64) (n := 1) (parts := [(0, .int .i64 (-1 : Int))]) (vs := [.int .i64 (-1 : Int)]) (xs := [(-1 : Int)]) rfl Try.underlying26 ti3 hO (by decide) (by kernel_rfl) (Els.cons rfl rfl (Els.nil _ _ _) (by simp [mx])) rfl
 obtain ⟨aaJ, FK, z8, zI, Ws, Mp⟩ := hobt
 refine zg (Mp rfl) ?_
 replace hO := z8.own
 refine zo (op_fieldAddr Try.underlying29 rfl ti22 rfl (by decide)) ?_
 have hobt := oblkSt2 (v := .slice DR 1 1) (i := 3) (cs' := #[.int .i64 ((ix a0 (0 : Int)).length : Int), .bool true, .slice dE dU dF, .slice DR 1 1, .slice none 0 0, .slice none 0 0, .slice none 0 0, .slice none 0 0, .int .i64 (0 : Int)]) 3 hO rfl rfl rfl rfl
 obtain ⟨Ul, jf, Fq⟩ := hobt
 dsimp only [sS, sZ] at jf
 refine zg (Fq Try.underlying22 rfl ti22 (by exact rfl) (by exact rfl)) ?_
 replace hO := jf.own
 refine zo (op_fieldAddr Try.underlying29 rfl ti26 rfl (by decide)) ?_
 have hobt := oblkSt2 (v := .slice DM 1 1) (i := 4) (cs' := #[.int .i64 ((ix a0 (0 : Int)).length : Int), .bool true, .slice dE dU dF, .slice DR 1 1, .slice DM 1 1, .slice none 0 0, .slice none 0 0, .slice none 0 0, .int .i64 (0 : Int)]) 3 hO rfl rfl rfl rfl
 obtain ⟨aaK, lP, Mq⟩ := hobt
 dsimp only [sS, sZ] at lP
 refine zg (Mq Try.underlying26 rfl ti26 (by exact rfl) (by exact rfl)) ?_
 replace hO := lP.own
 refine zo (op_fieldAddr Try.underlying29 rfl ti26 rfl (by decide)) ?_
 have hobt := oblkSt2 (v := .slice FK 1 1) (i := 5) (cs' := #[.int .i64 ((ix a0 (0 : Int)).length : Int), .bool true, .slice dE dU dF, .slice DR 1 1, .slice DM 1 1, .slice FK 1 1, .slice none 0 0, .slice none 0 0, .int .i64 (0 : Int)]) 3 hO rfl rfl rfl rfl
 obtain ⟨G8, xS, Mr⟩ := hobt
 dsimp only [sS, sZ] at xS
 refine zg (Mr Try.underlying26 rfl ti26 (by exact rfl) (by exact rfl)) ?_
 replace hO := xS.own
 refine zn (zr (za rfl (zn (zq (zq ?_)))))
 refine zr (zm rfl (zo (op_len Try.underlying22 rfl) (zm rfl (zn (zb ?_)))))
 have y6 := Stp.nil (e := 39) (r := 2) hO
 replace hO := y6.own
 have Qy := Els.nil (rpRule) (bl (.row 39 2 none 0 0 [] :: [.row 3 1 FK 1 1 [.int .i64 (-1 : Int)], .row 3 1 DM 1 1 [.int .i64 (-1 : Int)], .row 26 1 DR 1 1 [.slice rK r327.length rL], .blk b49 (.cells #[.int .i64 ((ix a0 (0 : Int)).length : Int), .bool true, .slice dE dU dF, .slice DR 1 1, .slice DM 1 1, .slice FK 1 1, .slice none 0 0, .slice none 0 0, .int .i64 (0 : Int)] 29 (0, 0)), t2 (Fl.int .i64) 26 3 dE dU dF ir r38, .blk B2 (.cells #[.int .i64 (0 : Int), .bool false, .slice none 0 0, .slice none 0 0, .slice none 0 0, .slice none 0 0, .slice none 0 0, .slice none 0 0, .int .i64 (0 : Int)] 29 (0, 0))]) ++ A) G8
 have Z18 := ((jf.ch.trans lP.ch).trans xS.ch).trans y6.ch
 replace zI := zI.ch Z18
 have Z19 := (((z8.ch.trans jf.ch).trans lP.ch).trans xS.ch).trans y6.ch
 replace wg := wg.ch Z19
 have Z20 := ((((kz.ch.trans z8.ch).trans jf.ch).trans lP.ch).trans xS.ch).trans y6.ch
 replace wh := wh.ch Z20
 replace hB := ((((((((((hB.trans (G1.same.fr _)).trans xE.fr).trans (G3.same.fr _)).trans iD.fr).trans CO.fr).trans kz.fr).trans z8.fr).trans jf.fr).trans lP.fr).trans xS.fr).trans y6.fr
 have Z21 := (((((((((((((zE.ch.trans (G0.ch _)).trans L1).trans (G1.ch _)).trans xE.ch).trans (G3.ch _)).trans (permCh IL _)).trans iD.ch).trans CO.ch).trans kz.ch).trans z8.ch).trans jf.ch).trans lP.ch).trans xS.ch).trans y6.ch
 replace am := am.ch Z21
 refine Go1.loopW (S := Nat × List Rule × List Int × List Int × List (List Int)) (fun s σ w => match s with | (k2_367, d_368, d_374, d_380, d_386) => ∃ (jC : Nat), ∃ (jl : Option Addr), ∃ (jm : Nat), ∃ (sb : List Value), ∃ (jD : Nat), ∃ (jE : Option Addr), ∃ (jF : Nat), ∃ (qz : List Value), ∃ (jG : Nat), ∃ (kh : Option Addr), ∃ (ki : Nat), ∃ (o6 : List Value), ∃ (jp : Nat), ∃ (ks : Option Addr), ∃ (kt : Nat), ∃ (vC : List Value), agrees σ [(4, .pointer (some ⟨B2, 0, none⟩)), (6, .pointer (some ⟨b49, 0, none⟩)), (7, .int .i64 (0 : Int)), (42, .slice nU a0.length nV), (43, .int .i64 (a0.length : Int)), (44, .int .i64 (k2_367 : Int))] ∧ (fun Z0 => Owns w0.heap.size w Z0 A ∧ Els (rpRule) (bl Z0 ++ A) w sb d_368 ∧ Els (Rp.int .i64) (bl Z0 ++ A) w qz d_374 ∧ Els (Rp.int .i64) (bl Z0 ++ A) w o6 d_380 ∧ Els (Rp.sl (Rp.int .i64)) (bl Z0 ++ A) w vC d_386 ∧ ISl (Rp.sl (Rp.int .i64)) (bl Z0 ++ A) w nU nV a0 ∧ Fr (bl []) w0 (bl Z0) w) [.row 39 2 jl jC jm sb, .row 3 1 jE jD jF qz, .row 3 1 kh jG ki o6, .row 26 1 ks jp kt vC, .blk b49 (.cells #[.int .i64 ((ix a0 (0 : Int)).length : Int), .bool true, .slice dE dU dF, .slice ks jp kt, .slice kh jG ki, .slice jE jD jF, .slice none 0 0, .slice jl jC jm, .int .i64 (0 : Int)] 29 (0, 0)), t2 (Fl.int .i64) 26 3 dE dU dF ir r38, .blk B2 (.cells #[.int .i64 (0 : Int), .bool false, .slice none 0 0, .slice none 0 0, .slice none 0 0, .slice none 0 0, .slice none 0 0, .slice none 0 0, .int .i64 (0 : Int)] 29 (0, 0))]) H ⟨0, none, 0, [], 1, FK, 1, [.int .i64 (-1 : Int)], 1, DM, 1, [.int .i64 (-1 : Int)], 1, DR, 1, [.slice rK r327.length rL], ⟨rfl, rfl, rfl, rfl, rfl, rfl, trivial⟩, hO, Qy, zI, wg, wh, am, hB⟩ ?_
 intro X2
 refine prE fun k2_367 => prE fun d_368 => prE fun d_374 => prE fun d_380 => fun d_386 => ?_
 intro H hX2 σ aaL
 refine exE fun jC => exE fun jl => exE fun jm => exE fun sb => exE fun jD => exE fun jE => exE fun jF => exE fun qz => exE fun jG => exE fun kh => exE fun ki => exE fun o6 => exE fun jp => exE fun ks => exE fun kt => exE fun vC => andE fun hag => andE fun hO => andE fun eN => andE fun f5 => andE fun gv => andE fun ic => andE fun am => fun hB => ?_
 dsimp only at H
 refine Go1.keep [(4, .pointer (some ⟨B2, 0, none⟩)), (6, .pointer (some ⟨b49, 0, none⟩)), (7, .int .i64 (0 : Int)), (42, .slice nU a0.length nV), (43, .int .i64 (a0.length : Int)), (44, .int .i64 (k2_367 : Int))] hag ?_
 refine zq (zr ?_)
 by_cases EA : (k2_367 : Int) < (a0.length : Int)
 ·replace H := ifp EA H
  refine zo (fun w => opB (op_lss rfl rfl w) (decide_eq_true EA)) (zn (zq (zt rfl rfl (zk (zq ?_)))))
  refine zb (zq (zr (zm rfl ?_)))
  obtain ⟨IQ, H⟩ := H
  obtain ⟨IR, H⟩ := H
  refine zo (op_index Try.underlying22 ti26 rfl rfl IQ IR (am.some_ IQ IR)) ?_
  have hobt := ldSl am IQ IR
  obtain ⟨Ms, Mt, c6, Qz⟩ := hobt
  refine zs (Qz Try.underlying26 rfl rfl) (za rfl (za rfl (zn (zq (zr ?_)))))
  refine zo (op_fieldAddr Try.underlying29 rfl ti22 rfl (by decide)) (zs (oblk (i := 3) 4 hO rfl rfl Try.underlying22 rfl rfl) (zm rfl ?_))
  have hobt := rowlend 3 hO rfl ic
  obtain ⟨QA, QB⟩ := hobt
  have hOc401 := hO.drop 3
  refine GoR.call (op_call body41 (show ([.slice ks jp kt, .slice Ms ((ix a0 (k2_367 : Int)).length) Mt] : List Value) = [.slice ks d_386.length kt, .slice Ms ((ix a0 (k2_367 : Int)).length) Mt] from by rw [← QB]) (walk_ref12_Find hOc401.lt QA (c6.ch (Owns.dropCh _ _ 3)) H)) rfl rfl ?_
  rintro aaM aaN ⟨r402, rfl, QC, H⟩
  have y7 := Stp.same hO QC
  replace hO := y7.own
  refine za rfl (zn (zq (zq (zr (zm rfl ?_)))))
  by_cases G9 : (0 : Int) ≤ r402
  ·replace H := ifp G9 H
   refine zo (fun w => opB (op_geq rfl rfl w) (decide_eq_true G9)) (zn (zt rfl rfl (zq ?_)))
   refine Go1.drawS 2 [(0, .pure), (1, .stable), (2, .pure), (4, .stable), (5, .pure), (3, .loud), (6, .loud), (7, .pure), (8, .loud), (9, .last), (10, .pure), (11, .last)] mixed (by kernel_rfl) ?_
   intro TM QD
   have y8 := Stp.same hO QD
   replace hO := y8.own
   refine GoQ.pure rfl (op_fieldAddr Try.underlying29 rfl ti27 rfl (by decide)) rfl rfl ?_
   refine GoQ.stable rfl (oblk (i := 7) 4 hO rfl rfl Try.underlying27 rfl rfl) rfl rfl ?_
   refine GoQ.pure rfl (op_move rfl) rfl rfl ?_
   refine GoQ.stable rfl (oblkAgg (vs := [.int .i64 ((ix a0 (0 : Int)).length : Int), .bool true, .slice dE dU dF, .slice ks jp kt, .slice kh jG ki, .slice jE jD jF, .slice none 0 0, .slice jl jC jm, .int .i64 (0 : Int)]) (i := 0) 4 hO rfl rfl Try.underlying29 rfl ti29 rfl) rfl rfl ?_
   refine GoQ.pure rfl (op_move rfl) rfl rfl ?_
   refine GoQ.call rfl (op_call body55 rfl (walk_ref12_letter hO.lt H)) (fun v w hr => by obtain ⟨_, _, hs, _, _⟩ := hr; assumption) rfl rfl ?_
   rintro aaO SV ⟨r412, rfl, QE, JS, H⟩
   have y9 := Stp.same hO QE
   replace hO := y9.own
   have QF := t2lend 5 hO rfl
   have QG := t2neq 5 hO rfl
   have hOc420 := hO.drop 5
   have Z22 := (y7.ch.trans y8.ch).trans y9.ch
   replace ic := ic.ch Z22
   have hobt := rowlend 3 hOc420 rfl (ic.ch (Owns.dropCh _ _ 5))
   obtain ⟨QH, QI⟩ := hobt
   have hOc423 := hOc420.drop 3
   replace gv := gv.ch Z22
   have hobt := rowlend 2 hOc423 rfl ((gv.ch (Owns.dropCh _ _ 5)).ch (Owns.dropCh _ _ 3))
   obtain ⟨QJ, QK⟩ := hobt
   have hOc426 := hOc423.drop 2
   replace f5 := f5.ch Z22
   have hobt := rowlend 1 hOc426 rfl (((f5.ch (Owns.dropCh _ _ 5)).ch (Owns.dropCh _ _ 3)).ch (Owns.dropCh _ _ 2))
   obtain ⟨QL, QM⟩ := hobt
   have hOc429 := hOc426.drop 1
   replace eN := eN.ch Z22
   have hobt := rowlend 0 hOc429 rfl ((((eN.ch (Owns.dropCh _ _ 5)).ch (Owns.dropCh _ _ 3)).ch (Owns.dropCh _ _ 2)).ch (Owns.dropCh _ _ 1))
   obtain ⟨QO, QP⟩ := hobt
   have hOc432 := hOc429.drop 0
   refine GoQ.call rfl (op_call body40 (show ([.agg #[.int .i64 ((ix a0 (0 : Int)).length : Int), .bool true, .slice dE dU dF, .slice ks jp kt, .slice kh jG ki, .slice jE jD jF, .slice none 0 0, .slice jl jC jm, .int .i64 (0 : Int)], .int .i64 r402] : List Value) = [.agg #[.int .i64 ((ix a0 (0 : Int)).length : Int), .bool true, .slice dE r38.length dF, .slice ks d_386.length kt, .slice kh d_380.length ki, .slice jE d_374.length jF, .slice none 0 0, .slice jl d_368.length jm, .int .i64 (0 : Int)], .int .i64 r402] from by rw [← QG, ← QI, ← QK, ← QM, ← QP]) (walk_ref12_Word (e := (⟨((ix a0 (0 : Int)).length : Int), true, r38, d_386, d_380, d_374, [], d_368, (0 : Int)⟩ : Enum)) hOc432.lt ((((QF.ch (Owns.dropCh _ _ 3)).ch (Owns.dropCh _ _ 2)).ch (Owns.dropCh _ _ 1)).ch (Owns.dropCh _ _ 0)) (((QH.ch (Owns.dropCh _ _ 2)).ch (Owns.dropCh _ _ 1)).ch (Owns.dropCh _ _ 0)) ((QJ.ch (Owns.dropCh _ _ 1)).ch (Owns.dropCh _ _ 0)) (QL.ch (Owns.dropCh _ _ 0)) (ISl.null _ _ _) QO H)) (fun v w hr => by obtain ⟨_, _, hs, _, _⟩ := hr; assumption) rfl rfl ?_
   rintro aaP TO ⟨r433, rfl, QQ, JT, H⟩
   have zc := Stp.same hO QQ
   replace hO := zc.own
   refine GoQ.pure rfl (op_build Try.underlying39 ti39 (pl := [(0, 1), (1, 1)]) (vs := [(0, .string (gstr r412)), (1, .string (gstr r433))]) (cs := #[.string (gstr r412), .string (gstr r433)]) (by kernel_rfl) rfl (by kernel_rfl)) rfl rfl ?_
   have hobt := obuildN (r := rpRule) (n := 1) (parts := [(0, .agg #[.string (gstr r412), .string (gstr r433)])]) (vs := [.string (gstr r412), .string (gstr r433)]) (xs := [(⟨r412, r433⟩ : Rule)]) Try.underlying27 ti39 hO (by decide) (by decide) (by kernel_rfl) (Els.flat1 (⟨r412, r433⟩ : Rule) ⟨JS, JT⟩) rfl
   obtain ⟨aaQ, aaR, zd, QR, QS, Mu⟩ := hobt
   refine GoQ.loud rfl (Mu rfl) QS rfl rfl ?_
   replace hO := zd.own
   have hobt := freeze 0 hO rfl QR
   obtain ⟨hO1, BK, Dg, QT⟩ := hobt
   dsimp only [eS, eZ] at hO1 BK Dg
   replace hB := (((((hB.trans y7.fr).trans y8.fr).trans y9.fr).trans zc.fr).trans zd.fr).trans (Owns.dropFr _ _ 0)
   dsimp only [eS, eZ] at hB
   replace hO := hO1; clear hO1
   obtain ⟨Um, H⟩ := H
   have Z23 := (zc.ch.trans zd.ch).trans BK
   replace eN := eN.ch Z23
   have hobt := oapp Try.underlying27 ti39 rfl 0 hO rfl eN Dg QT Um (by decide)
   obtain ⟨aaS, IS, IT, QU, jg, EX, Mv⟩ := hobt
   dsimp only [sS, sZ] at jg EX
   refine GoQ.last rfl (Mv (by exact rfl) (by exact rfl)) rfl rfl ?_
   replace hO := jg.own
   refine GoQ.pure rfl (op_fieldAddr Try.underlying29 rfl ti27 rfl (by decide)) rfl rfl ?_
   have hobt := oblkSt2 (v := .slice IS (jC + 1) IT) (i := 7) (cs' := #[.int .i64 ((ix a0 (0 : Int)).length : Int), .bool true, .slice dE dU dF, .slice ks jp kt, .slice kh jG ki, .slice jE jD jF, .slice none 0 0, .slice IS (jC + 1) IT, .int .i64 (0 : Int)]) 4 hO rfl rfl rfl rfl
   obtain ⟨Un, ne, Mw⟩ := hobt
   dsimp only [sS, sZ] at ne
   refine GoQ.last rfl (Mw Try.underlying27 rfl ti27 (by exact rfl) (by exact rfl)) rfl rfl ?_
   replace hO := ne.own
   refine GoQ.nil ?_
   refine Go1.exit rfl ?_
   refine Go1.cut [(4, .pointer (some ⟨B2, 0, none⟩)), (6, .pointer (some ⟨b49, 0, none⟩)), (7, .int .i64 (0 : Int)), (42, .slice nU a0.length nV), (43, .int .i64 (a0.length : Int)), (44, .int .i64 (k2_367 : Int))] ⟨rfl, rfl, rfl, rfl, rfl, rfl, trivial⟩ ?_
   intro σ _
   refine zr ?_
   have Z24 := ((((Z22.trans zc.ch).trans zd.ch).trans BK).trans jg.ch).trans ne.ch
   replace am := am.ch Z24
   refine zo (op_add rfl rfl (wrap_i64 (natbd EA am.bd))) (zm rfl (zn ?_))
   replace EX := EX.ch ne.ch
   replace hB := (hB.trans jg.fr).trans ne.fr
   have Z25 := (Z23.trans jg.ch).trans ne.ch
   replace f5 := f5.ch Z25
   replace gv := gv.ch Z25
   replace ic := ic.ch Z25
   exact hX2 _ H _ _ ⟨jC + 1, IS, IT, QU, jD, jE, jF, qz, jG, kh, ki, o6, jp, ks, kt, vC, ⟨rfl, rfl, rfl, rfl, rfl, rfl, trivial⟩, hO, EX, f5, gv, ic, am, hB⟩
  replace H := ifn G9 H
  refine zo (fun w => opB (op_geq rfl rfl w) (decide_eq_false G9)) (zn (zf rfl rfl (zk ?_)))
  refine Go1.drawA (CSv.tr [(some ⟨b49, 3, none⟩), (some ⟨b49, 4, none⟩), (some ⟨b49, 5, none⟩)]) A 1 [(0, .pure), (1, .stable), (3, .pure), (7, .pure), (8, .stable), (9, .pure), (12, .pure), (13, .stable), (14, .pure), (2, .alloc), (4, .loud), (5, .alloc), (6, .loud), (17, .pure), (10, .alloc), (11, .loud), (15, .alloc), (16, .loud), (18, .last), (19, .pure), (20, .last), (21, .pure), (22, .last)] mixed (by kernel_rfl) trivial hO.bd ?_
  intro aaT QV
  have zh := Stp.same hO QV
  replace hO := zh.own
  have EY := hO.le
  replace hB := (hB.trans y7.fr).trans zh.fr
  have hw464 := hB.ch.size
  refine GoQA.pure rfl (op_fieldAddr Try.underlying29 rfl ti22 rfl (by decide)) rfl rfl ?_
  refine GoQA.stable rfl (loadV (.head _) rfl (blkCell 4 hO rfl rfl) Try.underlying22 rfl rfl) rfl rfl ?_
  refine GoQA.pure rfl (op_move rfl) rfl rfl ?_
  refine GoQA.pure rfl (op_fieldAddr Try.underlying29 rfl ti26 rfl (by decide)) rfl rfl ?_
  refine GoQA.stable rfl (loadV (.tail _ (.head _)) rfl (blkCell 4 hO rfl rfl) Try.underlying26 rfl rfl) rfl rfl ?_
  refine GoQA.pure rfl (op_move rfl) rfl rfl ?_
  refine GoQA.pure rfl (op_fieldAddr Try.underlying29 rfl ti26 rfl (by decide)) rfl rfl ?_
  refine GoQA.stable rfl (loadV (.tail _ (.tail _ (.head _))) rfl (blkCell 4 hO rfl rfl) Try.underlying26 rfl rfl) rfl rfl ?_
  refine GoQA.pure rfl (op_move rfl) rfl rfl ?_
  refine GoQA.alloc rfl rfl (alBuild (n := 0) (parts := []) (vs := []) Try.underlying26 ti3 (by decide) (by decide) (by decide) (by kernel_rfl) rfl rfl) ?_
  intro Iy A468 Mx A470 AB Jv hd473 hnb474 hh475
  replace hO := AB.own hO
  have D9 : Els (Rp.int .i64) (bl [.row 39 2 jl jC jm sb, .row 3 1 jE jD jF qz, .row 3 1 kh jG ki o6, .row 26 1 ks jp kt vC, .blk b49 (.cells #[.int .i64 ((ix a0 (0 : Int)).length : Int), .bool true, .slice dE dU dF, .slice ks jp kt, .slice kh jG ki, .slice jE jD jF, .slice none 0 0, .slice jl jC jm, .int .i64 (0 : Int)] 29 (0, 0)), t2 (Fl.int .i64) 26 3 dE dU dF ir r38, .blk B2 (.cells #[.int .i64 (0 : Int), .bool false, .slice none 0 0, .slice none 0 0, .slice none 0 0, .slice none 0 0, .slice none 0 0, .slice none 0 0, .int .i64 (0 : Int)] 29 (0, 0))] ++ A468) Iy [] (([] : List Int)) := (Els.nil _ _ _)
  have BL := gainCh (w := Iy) (E := [.row 39 2 jl jC jm sb, .row 3 1 jE jD jF qz, .row 3 1 kh jG ki o6, .row 26 1 ks jp kt vC, .blk b49 (.cells #[.int .i64 ((ix a0 (0 : Int)).length : Int), .bool true, .slice dE dU dF, .slice ks jp kt, .slice kh jG ki, .slice jE jD jF, .slice none 0 0, .slice jl jC jm, .int .i64 (0 : Int)] 29 (0, 0)), t2 (Fl.int .i64) 26 3 dE dU dF ir r38, .blk B2 (.cells #[.int .i64 (0 : Int), .bool false, .slice none 0 0, .slice none 0 0, .slice none 0 0, .slice none 0 0, .slice none 0 0, .slice none 0 0, .int .i64 (0 : Int)] 29 (0, 0))]) (e := .row 3 1 (some ⟨Mx, 0, none⟩) 0 0 []) Jv rfl
  replace hB := hB.trans (AB.same.fr _)
  replace hB := Fr.gain (e := .row 3 1 (some ⟨Mx, 0, none⟩) 0 0 []) hB (Nat.le_trans hw464 hnb474) rfl
  replace hO := Owns.gain hO Jv EY rfl hh475 hd473
  refine GoQA.loudI rfl rfl ?_
  intro TS A479 zJ
  replace hO := zJ.own hO
  obtain ⟨Uo, H⟩ := H
  replace D9 := (D9.ch BL).ch (zJ.ch _)
  have Z26 := (((y7.ch.trans zh.ch).trans (AB.ch _)).trans BL).trans (zJ.ch _)
  replace c6 := c6.ch Z26
  have hobt := oapp Try.underlying26 ti3 rfl 0 hO rfl D9 c6 rfl Uo (by decide)
  obtain ⟨aaU, DS, DT, Wt, iX, E0, My⟩ := hobt
  dsimp only [sS, sZ] at iX E0
  refine GoAt.step (My (by exact rfl) (by exact rfl)) (fun _ => (CSv.cons (cs_eq (blkCell 5 hO rfl rfl) (blkCell 5 iX.own rfl rfl)) (CSv.cons (cs_eq (blkCell 5 hO rfl rfl) (blkCell 5 iX.own rfl rfl)) (CSv.cons (cs_eq (blkCell 5 hO rfl rfl) (blkCell 5 iX.own rfl rfl)) (CSv.nil _ _))))) (Stp.kp hO iX) rfl ?_
  replace hO := iX.own
  have hobt := freeze 0 hO rfl E0
  obtain ⟨hO1, BM, g5, QW⟩ := hobt
  dsimp only [eS, eZ] at hO1 BM g5
  replace hB := ((hB.trans (zJ.same.fr _)).trans iX.fr).trans (Owns.dropFr _ _ 0)
  dsimp only [eS, eZ] at hB
  replace hO := hO1; clear hO1
  refine GoQA.alloc rfl rfl (alBuild (n := 1) (parts := [(0, .slice DS (0 + ((ix a0 (k2_367 : Int)).length)) DT)]) (vs := [.slice DS (0 + ((ix a0 (k2_367 : Int)).length)) DT]) Try.underlying22 ti26 (by decide) (by decide) (by decide) (by kernel_rfl) rfl rfl) ?_
  intro Gi A492 Mz A494 zK Jw hd497 hnb498 hh499
  replace hO := zK.own hO
  replace g5 := g5.ch (zK.ch _)
  have Bz : Els (Rp.sl (Rp.int .i64)) (bl [.row 39 2 jl jC jm sb, .row 3 1 jE jD jF qz, .row 3 1 kh jG ki o6, .row 26 1 ks jp kt vC, .blk b49 (.cells #[.int .i64 ((ix a0 (0 : Int)).length : Int), .bool true, .slice dE dU dF, .slice ks jp kt, .slice kh jG ki, .slice jE jD jF, .slice none 0 0, .slice jl jC jm, .int .i64 (0 : Int)] 29 (0, 0)), t2 (Fl.int .i64) 26 3 dE dU dF ir r38, .blk B2 (.cells #[.int .i64 (0 : Int), .bool false, .slice none 0 0, .slice none 0 0, .slice none 0 0, .slice none 0 0, .slice none 0 0, .slice none 0 0, .int .i64 (0 : Int)] 29 (0, 0))] ++ A492) Gi [.slice DS (0 + ((ix a0 (k2_367 : Int)).length)) DT] [(([] : List Int)) ++ (ix a0 (k2_367 : Int))] := (Els.cons rfl ⟨DS, DT, congrArg some (congrArg (fun nn => Value.slice DS nn DT) QW), g5⟩ (Els.nil _ _ _) (by simp [mx]))
  have AC := gainCh (w := Gi) (E := [.row 39 2 jl jC jm sb, .row 3 1 jE jD jF qz, .row 3 1 kh jG ki o6, .row 26 1 ks jp kt vC, .blk b49 (.cells #[.int .i64 ((ix a0 (0 : Int)).length : Int), .bool true, .slice dE dU dF, .slice ks jp kt, .slice kh jG ki, .slice jE jD jF, .slice none 0 0, .slice jl jC jm, .int .i64 (0 : Int)] 29 (0, 0)), t2 (Fl.int .i64) 26 3 dE dU dF ir r38, .blk B2 (.cells #[.int .i64 (0 : Int), .bool false, .slice none 0 0, .slice none 0 0, .slice none 0 0, .slice none 0 0, .slice none 0 0, .slice none 0 0, .int .i64 (0 : Int)] 29 (0, 0))]) (e := .row 26 1 (some ⟨Mz, 0, none⟩) 1 1 [.slice DS (0 + ((ix a0 (k2_367 : Int)).length)) DT]) Jw rfl
  replace hB := hB.trans (zK.same.fr _)
  replace hB := Fr.gain (e := .row 26 1 (some ⟨Mz, 0, none⟩) 1 1 [.slice DS (0 + ((ix a0 (k2_367 : Int)).length)) DT]) hB (Nat.le_trans hw464 hnb498) rfl
  replace hO := Owns.gain hO Jw EY rfl hh499 hd497
  refine GoQA.loudI rfl rfl ?_
  intro S5 A506 yC
  replace hO := yC.own hO
  replace Bz := (Bz.ch AC).ch (yC.ch _)
  have hobt := freeze 0 hO rfl Bz
  obtain ⟨hO1, AD, iH, QX⟩ := hobt
  dsimp only [eS, eZ] at hO1 AD iH
  replace hB := (hB.trans (yC.same.fr _)).trans (Owns.dropFr _ _ 0)
  dsimp only [eS, eZ] at hB
  replace hO := hO1; clear hO1
  obtain ⟨Up, H⟩ := H
  have Z27 := (((((Z26.trans iX.ch).trans BM).trans (zK.ch _)).trans AC).trans (yC.ch _)).trans AD
  replace ic := ic.ch Z27
  have hobt := oapp Try.underlying22 ti26 rfl 3 hO rfl ic iH QX Up (by decide)
  obtain ⟨aaV, BN, BO, Ea, sC, iU, MA⟩ := hobt
  dsimp only [sS, sZ] at sC iU
  refine GoAt.step (MA (by exact rfl) (by exact rfl)) (fun _ => (CSv.cons (cs_eq (blkCell 4 hO rfl rfl) (blkCell 4 sC.own rfl rfl)) (CSv.cons (cs_eq (blkCell 4 hO rfl rfl) (blkCell 4 sC.own rfl rfl)) (CSv.cons (cs_eq (blkCell 4 hO rfl rfl) (blkCell 4 sC.own rfl rfl)) (CSv.nil _ _))))) (Stp.kp hO sC) rfl ?_
  replace hO := sC.own
  refine GoQA.pure rfl (op_fieldAddr Try.underlying29 rfl ti22 rfl (by decide)) rfl rfl ?_
  refine GoQA.alloc rfl rfl (alBuild (n := 1) (parts := [(0, .int .i64 (0 : Int))]) (vs := [.int .i64 (0 : Int)]) Try.underlying26 ti3 (by decide) (by decide) (by decide) (by kernel_rfl) rfl rfl) ?_
  intro ID A522 MB A524 yD Jx hd527 hnb528 hh529
  replace hO := yD.own hO
  have BP : Els (Rp.int .i64) (bl [.row 39 2 jl jC jm sb, .row 3 1 jE jD jF qz, .row 3 1 kh jG ki o6, .row 26 1 BN (jp + 1) BO Ea, .blk b49 (.cells #[.int .i64 ((ix a0 (0 : Int)).length : Int), .bool true, .slice dE dU dF, .slice ks jp kt, .slice kh jG ki, .slice jE jD jF, .slice none 0 0, .slice jl jC jm, .int .i64 (0 : Int)] 29 (0, 0)), t2 (Fl.int .i64) 26 3 dE dU dF ir r38, .blk B2 (.cells #[.int .i64 (0 : Int), .bool false, .slice none 0 0, .slice none 0 0, .slice none 0 0, .slice none 0 0, .slice none 0 0, .slice none 0 0, .int .i64 (0 : Int)] 29 (0, 0))] ++ A522) ID [.int .i64 (0 : Int)] [(0 : Int)] := (Els.cons rfl rfl (Els.nil _ _ _) (by simp [mx]))
  have zL := gainCh (w := ID) (E := [.row 39 2 jl jC jm sb, .row 3 1 jE jD jF qz, .row 3 1 kh jG ki o6, .row 26 1 BN (jp + 1) BO Ea, .blk b49 (.cells #[.int .i64 ((ix a0 (0 : Int)).length : Int), .bool true, .slice dE dU dF, .slice ks jp kt, .slice kh jG ki, .slice jE jD jF, .slice none 0 0, .slice jl jC jm, .int .i64 (0 : Int)] 29 (0, 0)), t2 (Fl.int .i64) 26 3 dE dU dF ir r38, .blk B2 (.cells #[.int .i64 (0 : Int), .bool false, .slice none 0 0, .slice none 0 0, .slice none 0 0, .slice none 0 0, .slice none 0 0, .slice none 0 0, .int .i64 (0 : Int)] 29 (0, 0))]) (e := .row 3 1 (some ⟨MB, 0, none⟩) 1 1 [.int .i64 (0 : Int)]) Jx rfl
  replace hB := (hB.trans sC.fr).trans (yD.same.fr _)
  replace hB := Fr.gain (e := .row 3 1 (some ⟨MB, 0, none⟩) 1 1 [.int .i64 (0 : Int)]) hB (Nat.le_trans hw464 hnb528) rfl
  replace hO := Owns.gain hO Jx EY rfl hh529 hd527
  refine GoQA.loudI rfl rfl ?_
  intro aaW A533 xT
  replace hO := xT.own hO
  replace BP := (BP.ch zL).ch (xT.ch _)
  have hobt := freeze 0 hO rfl BP
  obtain ⟨hO1, zM, la, QY⟩ := hobt
  dsimp only [eS, eZ] at hO1 zM la
  replace hB := (hB.trans (xT.same.fr _)).trans (Owns.dropFr _ _ 0)
  dsimp only [eS, eZ] at hB
  replace hO := hO1; clear hO1
  obtain ⟨Uq, H⟩ := H
  have Z28 := ((((Z27.trans sC.ch).trans (yD.ch _)).trans zL).trans (xT.ch _)).trans zM
  replace gv := gv.ch Z28
  have hobt := oapp Try.underlying26 ti3 rfl 2 hO rfl gv la QY Uq (by decide)
  obtain ⟨aaX, EB, EC, Ha, rM, lz, MC⟩ := hobt
  dsimp only [sS, sZ] at rM lz
  refine GoAt.step (MC (by exact rfl) (by exact rfl)) (fun _ => (CSv.cons (cs_eq (blkCell 4 hO rfl rfl) (blkCell 4 rM.own rfl rfl)) (CSv.cons (cs_eq (blkCell 4 hO rfl rfl) (blkCell 4 rM.own rfl rfl)) (CSv.cons (cs_eq (blkCell 4 hO rfl rfl) (blkCell 4 rM.own rfl rfl)) (CSv.nil _ _))))) (Stp.kp hO rM) rfl ?_
  replace hO := rM.own
  refine GoQA.alloc rfl rfl (alBuild (n := 1) (parts := [(0, .int .i64 (k2_367 : Int))]) (vs := [.int .i64 (k2_367 : Int)]) Try.underlying26 ti3 (by decide) (by decide) (by decide) (by kernel_rfl) rfl rfl) ?_
  intro MD A549 ME A551 xU Jy hd554 hnb555 hh556
  replace hO := xU.own hO
  have dI : Els (Rp.int .i64) (bl [.row 39 2 jl jC jm sb, .row 3 1 jE jD jF qz, .row 3 1 EB (jG + 1) EC Ha, .row 26 1 BN (jp + 1) BO Ea, .blk b49 (.cells #[.int .i64 ((ix a0 (0 : Int)).length : Int), .bool true, .slice dE dU dF, .slice ks jp kt, .slice kh jG ki, .slice jE jD jF, .slice none 0 0, .slice jl jC jm, .int .i64 (0 : Int)] 29 (0, 0)), t2 (Fl.int .i64) 26 3 dE dU dF ir r38, .blk B2 (.cells #[.int .i64 (0 : Int), .bool false, .slice none 0 0, .slice none 0 0, .slice none 0 0, .slice none 0 0, .slice none 0 0, .slice none 0 0, .int .i64 (0 : Int)] 29 (0, 0))] ++ A549) MD [.int .i64 (k2_367 : Int)] [(k2_367 : Int)] := (Els.cons rfl rfl (Els.nil _ _ _) (by simp [mx]))
  have yE := gainCh (w := MD) (E := [.row 39 2 jl jC jm sb, .row 3 1 jE jD jF qz, .row 3 1 EB (jG + 1) EC Ha, .row 26 1 BN (jp + 1) BO Ea, .blk b49 (.cells #[.int .i64 ((ix a0 (0 : Int)).length : Int), .bool true, .slice dE dU dF, .slice ks jp kt, .slice kh jG ki, .slice jE jD jF, .slice none 0 0, .slice jl jC jm, .int .i64 (0 : Int)] 29 (0, 0)), t2 (Fl.int .i64) 26 3 dE dU dF ir r38, .blk B2 (.cells #[.int .i64 (0 : Int), .bool false, .slice none 0 0, .slice none 0 0, .slice none 0 0, .slice none 0 0, .slice none 0 0, .slice none 0 0, .int .i64 (0 : Int)] 29 (0, 0))]) (e := .row 3 1 (some ⟨ME, 0, none⟩) 1 1 [.int .i64 (k2_367 : Int)]) Jy rfl
  replace hB := (hB.trans rM.fr).trans (xU.same.fr _)
  replace hB := Fr.gain (e := .row 3 1 (some ⟨ME, 0, none⟩) 1 1 [.int .i64 (k2_367 : Int)]) hB (Nat.le_trans hw464 hnb555) rfl
  replace hO := Owns.gain hO Jy EY rfl hh556 hd554
  refine GoQA.loudI rfl rfl ?_
  intro aaY A560 xd
  replace hO := xd.own hO
  replace dI := (dI.ch yE).ch (xd.ch _)
  have hobt := freeze 0 hO rfl dI
  obtain ⟨hO1, oH, kd, Hb⟩ := hobt
  dsimp only [eS, eZ] at hO1 oH kd
  replace hB := (hB.trans (xd.same.fr _)).trans (Owns.dropFr _ _ 0)
  dsimp only [eS, eZ] at hB
  replace hO := hO1; clear hO1
  obtain ⟨IU, H⟩ := H
  have Z29 := ((((Z28.trans rM.ch).trans (xU.ch _)).trans yE).trans (xd.ch _)).trans oH
  replace f5 := f5.ch Z29
  have hobt := oapp Try.underlying26 ti3 rfl 1 hO rfl f5 kd Hb IU (by decide)
  obtain ⟨Ur, DU, DW, Hc, iY, lh, FL⟩ := hobt
  dsimp only [sS, sZ] at iY lh
  refine GoAt.step (FL (by exact rfl) (by exact rfl)) (fun _ => (CSv.cons (cs_eq (blkCell 4 hO rfl rfl) (blkCell 4 iY.own rfl rfl)) (CSv.cons (cs_eq (blkCell 4 hO rfl rfl) (blkCell 4 iY.own rfl rfl)) (CSv.cons (cs_eq (blkCell 4 hO rfl rfl) (blkCell 4 iY.own rfl rfl)) (CSv.nil _ _))))) (Stp.kp hO iY) rfl ?_
  replace hO := iY.own
  refine GoQA.lastI rfl rfl ?_
  intro Us A575 xe
  replace hO := xe.own hO
  have hobt := oblkSt2 (v := .slice BN (jp + 1) BO) (i := 3) (cs' := #[.int .i64 ((ix a0 (0 : Int)).length : Int), .bool true, .slice dE dU dF, .slice BN (jp + 1) BO, .slice kh jG ki, .slice jE jD jF, .slice none 0 0, .slice jl jC jm, .int .i64 (0 : Int)]) 4 hO rfl rfl rfl rfl
  obtain ⟨Ut, sD, MF⟩ := hobt
  dsimp only [sS, sZ] at sD
  refine GoAt.step (MF Try.underlying22 rfl ti22 (by exact rfl) (by exact rfl)) (fun h => nomatch h) (Stp.kp hO sD) rfl ?_
  replace hO := sD.own
  refine GoQA.pure rfl (op_fieldAddr Try.underlying29 rfl ti26 rfl (by decide)) rfl rfl ?_
  refine GoQA.lastI rfl rfl ?_
  intro aa0 A581 xg
  replace hO := xg.own hO
  have hobt := oblkSt2 (v := .slice EB (jG + 1) EC) (i := 4) (cs' := #[.int .i64 ((ix a0 (0 : Int)).length : Int), .bool true, .slice dE dU dF, .slice BN (jp + 1) BO, .slice EB (jG + 1) EC, .slice jE jD jF, .slice none 0 0, .slice jl jC jm, .int .i64 (0 : Int)]) 4 hO rfl rfl rfl rfl
  obtain ⟨aa1, sE, MG⟩ := hobt
  dsimp only [sS, sZ] at sE
  refine GoAt.step (MG Try.underlying26 rfl ti26 (by exact rfl) (by exact rfl)) (fun h => nomatch h) (Stp.kp hO sE) rfl ?_
  replace hO := sE.own
  refine GoQA.pure rfl (op_fieldAddr Try.underlying29 rfl ti26 rfl (by decide)) rfl rfl ?_
  refine GoQA.lastI rfl rfl ?_
  intro aa2 A587 xh
  replace hO := xh.own hO
  have hobt := oblkSt2 (v := .slice DU (jD + 1) DW) (i := 5) (cs' := #[.int .i64 ((ix a0 (0 : Int)).length : Int), .bool true, .slice dE dU dF, .slice BN (jp + 1) BO, .slice EB (jG + 1) EC, .slice DU (jD + 1) DW, .slice none 0 0, .slice jl jC jm, .int .i64 (0 : Int)]) 4 hO rfl rfl rfl rfl
  obtain ⟨aa3, sF, MH⟩ := hobt
  dsimp only [sS, sZ] at sF
  refine GoAt.step (MH Try.underlying26 rfl ti26 (by exact rfl) (by exact rfl)) (fun h => nomatch h) (Stp.kp hO sF) rfl ?_
  replace hO := sF.own
  refine GoQA.nil ?_
  intro aa4 A593 xi xV
  replace hO := xi.own hO
  replace hO := hO.permA xV
  refine Go1.inBlock ?_
  refine Go1.cut [(4, .pointer (some ⟨B2, 0, none⟩)), (6, .pointer (some ⟨b49, 0, none⟩)), (7, .int .i64 (0 : Int)), (42, .slice nU a0.length nV), (43, .int .i64 (a0.length : Int)), (44, .int .i64 (k2_367 : Int))] ⟨rfl, rfl, rfl, rfl, rfl, rfl, trivial⟩ ?_
  intro σ _
  refine zr ?_
  have Z30 := ((((((((Z29.trans iY.ch).trans (xe.ch _)).trans sD.ch).trans (xg.ch _)).trans sE.ch).trans (xh.ch _)).trans sF.ch).trans (xi.ch _)).trans (permCh xV _)
  replace am := am.ch Z30
  refine zo (op_add rfl rfl (wrap_i64 (natbd EA am.bd))) (zm rfl (zn ?_))
  replace hB := (((((((hB.trans iY.fr).trans (xe.same.fr _)).trans sD.fr).trans (xg.same.fr _)).trans sE.fr).trans (xh.same.fr _)).trans sF.fr).trans (xi.same.fr _)
  have Z31 := (((((((xe.ch _).trans sD.ch).trans (xg.ch _)).trans sE.ch).trans (xh.ch _)).trans sF.ch).trans (xi.ch _)).trans (permCh xV _)
  replace lh := lh.ch Z31
  have Z32 := ((((((((((((xU.ch _).trans yE).trans (xd.ch _)).trans oH).trans iY.ch).trans (xe.ch _)).trans sD.ch).trans (xg.ch _)).trans sE.ch).trans (xh.ch _)).trans sF.ch).trans (xi.ch _)).trans (permCh xV _)
  replace lz := lz.ch Z32
  have Z33 := (((((((((((((((((yD.ch _).trans zL).trans (xT.ch _)).trans zM).trans rM.ch).trans (xU.ch _)).trans yE).trans (xd.ch _)).trans oH).trans iY.ch).trans (xe.ch _)).trans sD.ch).trans (xg.ch _)).trans sE.ch).trans (xh.ch _)).trans sF.ch).trans (xi.ch _)).trans (permCh xV _)
  replace iU := iU.ch Z33
  replace eN := eN.ch Z30
  exact hX2 _ H _ _ ⟨jC, jl, jm, sb, jD + 1, DU, DW, Hc, jG + 1, EB, EC, Ha, jp + 1, BN, BO, Ea, ⟨rfl, rfl, rfl, rfl, rfl, rfl, trivial⟩, hO, eN, lh, lz, iU, am, hB⟩
 replace H := ifn EA H
 refine zo (fun w => opB (op_lss rfl rfl w) (decide_eq_false EA)) (zn (zq (zf rfl rfl ?_)))
 refine Go1.exit rfl ?_
 refine zq (zr (zs (oblkAgg (vs := [.int .i64 ((ix a0 (0 : Int)).length : Int), .bool true, .slice dE dU dF, .slice ks jp kt, .slice kh jG ki, .slice jE jD jF, .slice none 0 0, .slice jl jC jm, .int .i64 (0 : Int)]) (i := 0) 4 hO rfl rfl Try.underlying29 rfl ti29 rfl) ?_))
 have hobt := oblkStAgg (us := [.int .i64 ((ix a0 (0 : Int)).length : Int), .bool true, .slice dE dU dF, .slice ks jp kt, .slice kh jG ki, .slice jE jD jF, .slice none 0 0, .slice jl jC jm, .int .i64 (0 : Int)]) (o := 0) (cs' := #[.int .i64 ((ix a0 (0 : Int)).length : Int), .bool true, .slice dE dU dF, .slice ks jp kt, .slice kh jG ki, .slice jE jD jF, .slice none 0 0, .slice jl jC jm, .int .i64 (0 : Int)]) 6 hO rfl rfl (Nat.le_of_ble_eq_true rfl) rfl
 obtain ⟨Uu, zi, MJ⟩ := hobt
 dsimp only [sS, sZ] at zi
 refine zg (MJ ti29 (by exact rfl) (by exact rfl) rfl) ?_
 replace hO := zi.own
 refine za rfl (zn ?_)
 have hobt := t2freezeA 5 hO rfl
 obtain ⟨hO1, Dh, yF, Q0⟩ := hobt
 dsimp only [eS, eZ] at hO1 Dh yF
 replace hB := (hB.trans zi.fr).trans (Owns.dropFr _ _ 5)
 dsimp only [eS, eZ] at hB
 replace hO := hO1; clear hO1
 replace ic := (ic.ch zi.ch).ch Dh
 have hobt := freeze 3 hO rfl ic
 obtain ⟨hO1, Di, AE, Q1⟩ := hobt
 dsimp only [eS, eZ] at hO1 Di AE
 replace hB := hB.trans (Owns.dropFr _ _ 3)
 dsimp only [eS, eZ] at hB
 replace hO := hO1; clear hO1
 have Z34 := (zi.ch.trans Dh).trans Di
 replace gv := gv.ch Z34
 have hobt := freeze 2 hO rfl gv
 obtain ⟨hO1, Dj, Dk, Q2⟩ := hobt
 dsimp only [eS, eZ] at hO1 Dj Dk
 replace hB := hB.trans (Owns.dropFr _ _ 2)
 dsimp only [eS, eZ] at hB
 replace hO := hO1; clear hO1
 replace f5 := (f5.ch Z34).ch Dj
 have hobt := freeze 1 hO rfl f5
 obtain ⟨hO1, Dl, E3, Q3⟩ := hobt
 dsimp only [eS, eZ] at hO1 Dl E3
 replace hB := hB.trans (Owns.dropFr _ _ 1)
 dsimp only [eS, eZ] at hB
 replace hO := hO1; clear hO1
 replace eN := ((eN.ch Z34).ch Dj).ch Dl
 have hobt := freeze 0 hO rfl eN
 obtain ⟨hO1, Dm, Jz, Q4⟩ := hobt
 dsimp only [eS, eZ] at hO1 Dm Jz
 replace hB := hB.trans (Owns.dropFr _ _ 0)
 dsimp only [eS, eZ] at hB
 replace hO := hO1; clear hO1
 refine Go1.retC2 Try.func22 rfl rfl (run_loadBlk (vs := [.int .i64 ((ix a0 (0 : Int)).length : Int), .bool true, .slice dE dU dF, .slice ks jp kt, .slice kh jG ki, .slice jE jD jF, .slice none 0 0, .slice jl jC jm, .int .i64 (0 : Int)]) 1 hO rfl rfl Try.underlying29 rfl ti29) ?_
 replace E3 := E3.ch Dm
 replace Dk := (Dk.ch Dl).ch Dm
 have Z35 := (Dj.trans Dl).trans Dm
 replace AE := AE.ch Z35
 have Z36 := ((Di.trans Dj).trans Dl).trans Dm
 replace yF := yF.ch Z36
 exact ⟨(⟨((ix a0 (0 : Int)).length : Int), true, r38, d_386, d_380, d_374, ([] : List (List Int)), d_368, (0 : Int)⟩ : Enum), (0 : Int), dE, dF, ks, kt, kh, ki, jE, jF, none, 0, jl, jm, (congrArg (fun l => Value.tuple (List.toArray l)) (cons_eq (congrArg (fun l => Value.agg (List.toArray l)) (cons_eq rfl (cons_eq rfl (cons_eq (congrArg (fun nn => Value.slice dE nn dF) Q0) (cons_eq (congrArg (fun nn => Value.slice ks nn kt) Q1) (cons_eq (congrArg (fun nn => Value.slice kh nn ki) Q2) (cons_eq (congrArg (fun nn => Value.slice jE nn jF) Q3) (cons_eq rfl (cons_eq (congrArg (fun nn => Value.slice jl nn jm) Q4) (cons_eq rfl rfl)))))))))) (cons_eq rfl rfl))), hB.same, (yF.ch (Ch.weak _ _ _)), (AE.ch (Ch.weak _ _ _)), (Dk.ch (Ch.weak _ _ _)), (E3.ch (Ch.weak _ _ _)), (ISl.null _ _ _), (Jz.ch (Ch.weak _ _ _)), H⟩
theorem body43 : Body Try.prog 43 := ⟨Try.f43, Try.func43, rfl, by kernel_rfl⟩
theorem walk_ref11_Compose {A : List Nat} {w0 : World} {p_f : Option Addr} {c_f : Nat} {p_g : Option Addr} {c_g : Nat} {f : List Int} {g : List Int} (hA : ∀ b ∈ A, b < w0.heap.size) (h_f : ISl (Rp.int .i64) A w0 p_f c_f f) (h_g : ISl (Rp.int .i64) A w0 p_g c_g g) {K : List Int → Prop} (H : ref11_Compose f g K) :
    CallsV Try.prog 43 #[.slice p_f f.length c_f, .slice p_g g.length c_g] w0 (fun v w' => ∃ (r0 : List Int), ∃ (nt : Option Addr), ∃ (nu : Nat), v = .slice nt r0.length nu ∧ Same w0 w' ∧ ISl (Rp.int .i64) A w' nt nu r0 ∧ K r0) := by
 refine CallsV.of (l := [.slice p_f f.length c_f, .slice p_g g.length c_g]) Try.func43 rfl Try.ntmps43 rfl ?_
 have hO := Owns.start hA
 have hB := Fr.refl (bl []) w0
 unfold ref11_Compose at H
 refine zq (zr (za rfl (zn (zq (zr ?_)))))
 refine zm rfl (zo (op_len Try.underlying26 rfl) ?_)
 replace h_f := h_f.ch (Ch.start A w0)
 replace H := H h_f.bd
 obtain ⟨h8, H⟩ := H
 obtain ⟨h9, H⟩ := H
 have hobt := omake (n := (f.length : Int)) (r := Rp.int .i64) (d := (0 : Int)) Try.underlying26 ti3 (fun _ _ => rfl) rfl hO h8 h9 (by decide)
 obtain ⟨w1, p2, vs3, nv, hE5, hs6, zY⟩ := hobt
 refine zg (zY rfl rfl) ?_
 replace hO := nv.own
 refine za rfl (zn (zq (zq (zr (zm rfl ?_)))))
 refine zo (op_len Try.underlying26 rfl) (zm rfl (zn (zb ?_)))
 replace h_f := h_f.ch nv.ch
 replace hB := hB.trans nv.fr
 replace h_g := (h_g.ch (Ch.start A w0)).ch nv.ch
 refine Go1.loopW (S := Nat × List Int) (fun s σ w => match s with | (k1_12, out1_13) => ∃ (lB : List Value), agrees σ [(1, .slice p_g g.length c_g), (5, .slice p2 f.length f.length), (11, .slice p_f f.length c_f), (12, .int .i64 (f.length : Int)), (13, .int .i64 (k1_12 : Int))] ∧ (fun Z0 => Owns w0.heap.size w Z0 A ∧ Els (Rp.int .i64) (bl Z0 ++ A) w lB out1_13 ∧ ISl (Rp.int .i64) (bl Z0 ++ A) w p_f c_f f ∧ ISl (Rp.int .i64) (bl Z0 ++ A) w p_g c_g g ∧ Fr (bl []) w0 (bl Z0) w) [.row 3 1 p2 f.length f.length lB]) H ⟨vs3, ⟨rfl, rfl, rfl, rfl, rfl, trivial⟩, hO, hE5, h_f, h_g, hB⟩ ?_
 intro X1
 refine prE fun k1_12 => fun out1_13 => ?_
 intro H hX1 σ w11
 refine exE fun lB => andE fun hag => andE fun hO => andE fun cH => andE fun h_f => andE fun h_g => fun hB => ?_
 dsimp only at H
 refine Go1.keep [(1, .slice p_g g.length c_g), (5, .slice p2 f.length f.length), (11, .slice p_f f.length c_f), (12, .int .i64 (f.length : Int)), (13, .int .i64 (k1_12 : Int))] hag ?_
 refine zq (zr ?_)
 by_cases h16 : (k1_12 : Int) < (f.length : Int)
 ·replace H := ifp h16 H
  refine zo (fun w => opB (op_lss rfl rfl w) (decide_eq_true h16)) (zn (zq (zt rfl rfl (zk (zq ?_)))))
  refine zb (zq (zr (zm rfl ?_)))
  obtain ⟨h17, H⟩ := H
  obtain ⟨h18, H⟩ := H
  refine zo (op_index Try.underlying26 ti3 rfl rfl h17 h18 (h_f.some_ h17 h18)) (zs (ldInt h_f h17 h18 Try.underlying3 rfl rfl) (za rfl (za rfl (zn (zr ?_)))))
  refine zm rfl (zm rfl (zm rfl (zm rfl ?_)))
  obtain ⟨h19, H⟩ := H
  obtain ⟨h20, H⟩ := H
  refine zo (op_index Try.underlying26 ti3 rfl rfl h19 h20 (h_g.some_ h19 h20)) (zs (ldInt h_g h19 h20 Try.underlying3 rfl rfl) ?_)
  obtain ⟨h21, H⟩ := H
  obtain ⟨h22, H⟩ := H
  refine zo (op_index Try.underlying26 ti3 rfl rfl h21 (ltn (cH.neq hO 0 rfl) h22) (cH.psome hO 0 rfl h21 h22)) ?_
  have hobt := ost (r := Rp.int .i64) rfl 0 hO rfl cH h21 h22 (v := .int .i64 (ix g (ix f (k1_12 : Int)))) (u := (ix g (ix f (k1_12 : Int)))) rfl rfl
  obtain ⟨w23, Uv, sU, xA, Q5⟩ := hobt
  refine zg (Q5 Try.underlying3 rfl ti3 (by exact rfl) (by exact rfl)) ?_
  replace hO := sU.own
  refine zn ?_
  refine Go1.inBlock ?_
  refine zr ?_
  replace h_f := h_f.ch sU.ch
  refine zo (op_add rfl rfl (wrap_i64 (natbd h16 h_f.bd))) (zm rfl (zn ?_))
  replace h_g := h_g.ch sU.ch
  replace hB := hB.trans sU.fr
  exact hX1 _ H _ _ ⟨Uv, ⟨rfl, rfl, rfl, rfl, rfl, trivial⟩, hO, xA, h_f, h_g, hB⟩
 replace H := ifn h16 H
 refine zo (fun w => opB (op_lss rfl rfl w) (decide_eq_false h16)) (zn (zq (zf rfl rfl ?_)))
 refine Go1.exit rfl ?_
 refine zq (zr (zm rfl (za rfl (zn ?_))))
 have hobt := freeze 0 hO rfl cH
 obtain ⟨hO1, FI, z7, IG⟩ := hobt
 replace hO := hO1; clear hO1
 refine Go1.ret1 Try.func43 rfl ?_
 replace hB := hB.trans (Owns.dropFr _ _ 0)
 exact ⟨out1_13, p2, f.length, (congrArg (fun nn => Value.slice p2 nn f.length) IG), hB.same, (z7.ch (Ch.weak _ _ _)), H⟩
end Sg
