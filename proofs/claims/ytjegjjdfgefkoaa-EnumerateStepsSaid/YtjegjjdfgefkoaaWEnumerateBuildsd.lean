/- The walks: each call keeps to its plain transformer. Printed by walkgen.py. -/
import Derived.Test.YtjegjjdfgefkoaaTi
import Derived.Test.YtjegjjdfgefkoaaWEnumerateBuilds
import Derived.Test.YtjegjjdfgefkoaaWEnumerateBuildsc
import Derived.Test.YtjegjjdfgefkoaaAl
namespace Sg
open Go Go.RowKit Go.Proofs
set_option linter.unusedVariables false
set_option linter.unusedSimpArgs false
set_option maxRecDepth 100000
set_option maxHeartbeats 4000000
theorem body22 : Body Try.prog 22 := ⟨Try.f22, Try.func22, rfl, by kernel_rfl⟩
theorem walk_ref12_Start {A : List Nat} {w0 : World} {nI : Option Addr} {nJ : Nat} {a0 : List (List Int)} {a1 : Bool} (hA : ∀ b ∈ A, b < w0.heap.size) (ai : ISl (Rp.sl (Rp.int .i64)) A w0 nI nJ a0) {K : Enum → Int → Prop} (H : ref12_Start a0 a1 K) :
    CallsV Try.prog 22 #[.slice nI a0.length nJ, .bool a1] w0 (fun v w' => ∃ (r0 : Enum), ∃ (r1 : Int), ∃ (kj : Option Addr), ∃ (kl : Nat), ∃ (iI : Option Addr), ∃ (iJ : Nat), ∃ (gA : Option Addr), ∃ (gB : Nat), ∃ (km : Option Addr), ∃ (kn : Nat), ∃ (iK : Option Addr), ∃ (iL : Nat), ∃ (iM : Option Addr), ∃ (iN : Nat), v = .tuple #[.agg #[.int .i64 r0.Points, .bool r0.Monoid, .slice kj r0.Gens.length kl, .slice iI r0.Elems.length iJ, .slice gA r0.Prefix.length gB, .slice km r0.Last.length kn, .slice iK r0.Right.length iL, .slice iM r0.Rules.length iN, .int .i64 r0.Done], .int .i64 r1] ∧ Same w0 w' ∧ ISl (Rp.sl (Rp.int .i64)) A w' kj kl r0.Gens ∧ ISl (Rp.sl (Rp.int .i64)) A w' iI iJ r0.Elems ∧ ISl (Rp.int .i64) A w' gA gB r0.Prefix ∧ ISl (Rp.int .i64) A w' km kn r0.Last ∧ ISl (Rp.sl (Rp.int .i64)) A w' iK iL r0.Right ∧ ISl (rpRule) A w' iM iN r0.Rules ∧ K r0 r1) := by
 refine CallsV.of (l := [.slice nI a0.length nJ, .bool a1]) Try.func22 rfl Try.ntmps22 rfl ?_
 have hO := Owns.start hA
 have hB := Fr.refl (bl []) w0
 unfold ref12_Start at H
 refine zq (zr ?_)
 have hobt := oalloc (t := 29) (cs := #[.int .i64 (0 : Int), .bool false, .slice none 0 0, .slice none 0 0, .slice none 0 0, .slice none 0 0, .slice none 0 0, .slice none 0 0, .int .i64 (0 : Int)]) ti29 hO rfl
 obtain ⟨w1, B2, cQ, hs4, rh⟩ := hobt
 refine GoR.op rh rfl rfl ?_
 replace hO := cQ.own
 refine za rfl (zn (zq (zq (zr (zm rfl ?_)))))
 refine zo (op_len Try.underlying22 rfl) ?_
 replace ai := (ai.ch (Ch.start A w0)).ch cQ.ch
 replace H := H ai.bd
 by_cases h7 : (a0.length : Int) < (1 : Int)
 ·replace H := ifp h7 H
  refine zo (fun w => opB (op_lss rfl rfl w) (decide_eq_true h7)) (zm rfl (zp (zp (zp (zo (op_pickT rfl rfl rfl) ?_)))))
  refine zn (zt rfl rfl (zq (zr (zo (op_build Try.underlying29 ti29 (pl := [(0, 1), (1, 1), (2, 1), (3, 1), (4, 1), (5, 1), (6, 1), (7, 1), (8, 1)]) (vs := []) (cs := #[.int .i64 (0 : Int), .bool false, .slice none 0 0, .slice none 0 0, .slice none 0 0, .slice none 0 0, .slice none 0 0, .slice none 0 0, .int .i64 (0 : Int)]) (by kernel_rfl) rfl (by kernel_rfl)) ?_))))
  have hobt := oblkStAgg (us := [.int .i64 (0 : Int), .bool false, .slice none 0 0, .slice none 0 0, .slice none 0 0, .slice none 0 0, .slice none 0 0, .slice none 0 0, .int .i64 (0 : Int)]) (o := 0) (cs' := #[.int .i64 (0 : Int), .bool false, .slice none 0 0, .slice none 0 0, .slice none 0 0, .slice none 0 0, .slice none 0 0, .slice none 0 0, .int .i64 (0 : Int)]) 0 hO rfl rfl (Nat.le_of_ble_eq_true rfl) rfl
  obtain ⟨w8, iq, VY⟩ := hobt
  refine zg (VY ti29 (by exact rfl) (by exact rfl) rfl) ?_
  replace hO := iq.own
  refine za rfl (zn ?_)
  refine Go1.retC2 Try.func22 rfl rfl (run_loadBlk (vs := [.int .i64 (0 : Int), .bool false, .slice none 0 0, .slice none 0 0, .slice none 0 0, .slice none 0 0, .slice none 0 0, .slice none 0 0, .int .i64 (0 : Int)]) 0 hO rfl rfl Try.underlying29 rfl ti29) ?_
  replace hB := (hB.trans cQ.fr).trans iq.fr
  exact ⟨(⟨(0 : Int), false, ([] : List (List Int)), ([] : List (List Int)), ([] : List Int), ([] : List Int), ([] : List (List Int)), ([] : List Rule), (0 : Int)⟩ : Enum), (1 : Int), none, 0, none, 0, none, 0, none, 0, none, 0, none, 0, rfl, hB.same, (ISl.null _ _ _), (ISl.null _ _ _), (ISl.null _ _ _), (ISl.null _ _ _), (ISl.null _ _ _), (ISl.null _ _ _), H⟩
 replace H := ifn h7 H
 refine zo (fun w => opB (op_lss rfl rfl w) (decide_eq_false h7)) (zm rfl (zm rfl (zo (op_len Try.underlying22 rfl) ?_)))
 by_cases h11 : (6 : Int) < (a0.length : Int)
 ·replace H := ifp h11 H
  refine zo (fun w => opB (op_gtr rfl rfl w) (decide_eq_true h11)) (zo (op_pickF rfl rfl rfl) (zn (zt rfl rfl (zq (zr ?_)))))
  refine zo (op_build Try.underlying29 ti29 (pl := [(0, 1), (1, 1), (2, 1), (3, 1), (4, 1), (5, 1), (6, 1), (7, 1), (8, 1)]) (vs := []) (cs := #[.int .i64 (0 : Int), .bool false, .slice none 0 0, .slice none 0 0, .slice none 0 0, .slice none 0 0, .slice none 0 0, .slice none 0 0, .int .i64 (0 : Int)]) (by kernel_rfl) rfl (by kernel_rfl)) ?_
  have hobt := oblkStAgg (us := [.int .i64 (0 : Int), .bool false, .slice none 0 0, .slice none 0 0, .slice none 0 0, .slice none 0 0, .slice none 0 0, .slice none 0 0, .int .i64 (0 : Int)]) (o := 0) (cs' := #[.int .i64 (0 : Int), .bool false, .slice none 0 0, .slice none 0 0, .slice none 0 0, .slice none 0 0, .slice none 0 0, .slice none 0 0, .int .i64 (0 : Int)]) 0 hO rfl rfl (Nat.le_of_ble_eq_true rfl) rfl
  obtain ⟨w12, xX, V0⟩ := hobt
  refine zg (V0 ti29 (by exact rfl) (by exact rfl) rfl) ?_
  replace hO := xX.own
  refine za rfl (zn ?_)
  refine Go1.retC2 Try.func22 rfl rfl (run_loadBlk (vs := [.int .i64 (0 : Int), .bool false, .slice none 0 0, .slice none 0 0, .slice none 0 0, .slice none 0 0, .slice none 0 0, .slice none 0 0, .int .i64 (0 : Int)]) 0 hO rfl rfl Try.underlying29 rfl ti29) ?_
  replace hB := (hB.trans cQ.fr).trans xX.fr
  exact ⟨(⟨(0 : Int), false, ([] : List (List Int)), ([] : List (List Int)), ([] : List Int), ([] : List Int), ([] : List (List Int)), ([] : List Rule), (0 : Int)⟩ : Enum), (1 : Int), none, 0, none, 0, none, 0, none, 0, none, 0, none, 0, rfl, hB.same, (ISl.null _ _ _), (ISl.null _ _ _), (ISl.null _ _ _), (ISl.null _ _ _), (ISl.null _ _ _), (ISl.null _ _ _), H⟩
 replace H := ifn h11 H
 refine zo (fun w => opB (op_gtr rfl rfl w) (decide_eq_false h11)) (zo (op_pickF rfl rfl rfl) (zn (zf rfl rfl (zk (zq ?_)))))
 refine zq ?_
 refine Go1.cut [(0, .slice nI a0.length nJ), (1, .bool a1), (4, .pointer (some ⟨B2, 0, none⟩))] ⟨rfl, rfl, rfl, trivial⟩ ?_
 intro σ _
 refine zr (zm rfl ?_)
 refine GoR.call (op_call body14 rfl (walk_ref11_MayGens hO.lt ai H)) rfl rfl ?_
 rintro v19 w16 ⟨r15, rfl, IC, H⟩
 have ub := Stp.same hO IC
 replace hO := ub.own
 cases r15
 ·replace H := ifn Bool.false_ne_true H
  refine zo (op_not rfl) (zn (zt rfl rfl (zq (zr (zo (op_build Try.underlying29 ti29 (pl := [(0, 1), (1, 1), (2, 1), (3, 1), (4, 1), (5, 1), (6, 1), (7, 1), (8, 1)]) (vs := []) (cs := #[.int .i64 (0 : Int), .bool false, .slice none 0 0, .slice none 0 0, .slice none 0 0, .slice none 0 0, .slice none 0 0, .slice none 0 0, .int .i64 (0 : Int)]) (by kernel_rfl) rfl (by kernel_rfl)) ?_)))))
  have hobt := oblkStAgg (us := [.int .i64 (0 : Int), .bool false, .slice none 0 0, .slice none 0 0, .slice none 0 0, .slice none 0 0, .slice none 0 0, .slice none 0 0, .int .i64 (0 : Int)]) (o := 0) (cs' := #[.int .i64 (0 : Int), .bool false, .slice none 0 0, .slice none 0 0, .slice none 0 0, .slice none 0 0, .slice none 0 0, .slice none 0 0, .int .i64 (0 : Int)]) 0 hO rfl rfl (Nat.le_of_ble_eq_true rfl) rfl
  obtain ⟨w21, d9, Ge⟩ := hobt
  refine zg (Ge ti29 (by exact rfl) (by exact rfl) rfl) ?_
  replace hO := d9.own
  refine za rfl (zn ?_)
  refine Go1.retC2 Try.func22 rfl rfl (run_loadBlk (vs := [.int .i64 (0 : Int), .bool false, .slice none 0 0, .slice none 0 0, .slice none 0 0, .slice none 0 0, .slice none 0 0, .slice none 0 0, .int .i64 (0 : Int)]) 0 hO rfl rfl Try.underlying29 rfl ti29) ?_
  replace hB := ((hB.trans cQ.fr).trans ub.fr).trans d9.fr
  exact ⟨(⟨(0 : Int), false, ([] : List (List Int)), ([] : List (List Int)), ([] : List Int), ([] : List Int), ([] : List (List Int)), ([] : List Rule), (0 : Int)⟩ : Enum), (4 : Int), none, 0, none, 0, none, 0, none, 0, none, 0, none, 0, rfl, hB.same, (ISl.null _ _ _), (ISl.null _ _ _), (ISl.null _ _ _), (ISl.null _ _ _), (ISl.null _ _ _), (ISl.null _ _ _), H⟩
 replace H := ifp rfl H
 refine zo (op_not rfl) (zn (zf rfl rfl (zk (zq ?_))))
 refine Go1.drawA Same.tr A 1 [(0, .pure), (1, .pure), (2, .stable), (3, .pure), (4, .pure), (5, .pure), (6, .loud), (7, .pure), (8, .alloc), (9, .last)] mixed (by kernel_rfl) trivial hO.bd ?_
 intro w24 JB
 have fM := Stp.same hO JB
 replace hO := fM.own
 have On := hO.le
 replace hB := ((hB.trans cQ.fr).trans ub.fr).trans fM.fr
 have hw27 := hB.ch.size
 refine GoQA.pure rfl (op_move rfl) rfl rfl ?_
 obtain ⟨h29, H⟩ := H
 obtain ⟨h30, H⟩ := H
 replace ai := (ai.ch ub.ch).ch fM.ch
 refine GoQA.pure rfl (op_index Try.underlying22 ti26 rfl rfl h29 h30 (ai.some_ h29 h30)) rfl rfl ?_
 have hobt := ldSl ai h29 h30
 obtain ⟨p31, c32, jX, abv⟩ := hobt
 refine GoQA.stable rfl (abv Try.underlying26 rfl rfl) rfl rfl ?_
 refine GoQA.pure rfl (op_len Try.underlying26 rfl) rfl rfl ?_
 replace H := H jX.bd
 refine GoQA.pure rfl (op_move rfl) rfl rfl ?_
 refine GoQA.pure rfl (op_move rfl) rfl rfl ?_
 refine GoQA.loudI rfl rfl ?_
 intro w35 A36 Ml
 replace hO := Ml.own hO
 replace ai := ai.ch (Ml.ch _)
 refine GoAt.call (op_call body24 rfl (walk_ref03_Copy hO.lt ai H)) (fun v w hr => ⟨fun _ => (by obtain ⟨_, _, _, _, _, _, hs, _, _⟩ := hr; exact hs), Same.kp hO (by obtain ⟨_, _, _, _, _, _, hs, _, _⟩ := hr; exact hs)⟩) rfl ?_
 rintro v43 w40 ⟨r38, cv, cg, ci, f6, rfl, RA, hN42, H⟩
 have mS := Stp.more hO RA hN42
 replace hO := mS.own
 refine GoQA.pure rfl (op_build Try.underlying29 ti29 (pl := [(0, 1), (1, 1), (2, 1), (3, 1), (4, 1), (5, 1), (6, 1), (7, 1), (8, 1)]) (vs := [(0, .int .i64 ((ix a0 (0 : Int)).length : Int)), (1, .bool a1), (2, .slice cg cv ci)]) (cs := #[.int .i64 ((ix a0 (0 : Int)).length : Int), .bool a1, .slice cg cv ci, .slice none 0 0, .slice none 0 0, .slice none 0 0, .slice none 0 0, .slice none 0 0, .int .i64 (0 : Int)]) (by kernel_rfl) rfl (by kernel_rfl)) rfl rfl ?_
 refine GoQA.alloc rfl rfl (alAlloc (cs := #[.int .i64 (0 : Int), .bool false, .slice none 0 0, .slice none 0 0, .slice none 0 0, .slice none 0 0, .slice none 0 0, .slice none 0 0, .int .i64 (0 : Int)]) ti29 rfl) ?_
 intro w47 A48 b49 A50 Mm RB hd53 hnb54 hh55
 replace hO := Mm.own hO
 have RD := gainCh (w := w47) (E := [t2 (Fl.int .i64) 26 3 cg cv ci f6 r38, .blk B2 (.cells #[.int .i64 (0 : Int), .bool false, .slice none 0 0, .slice none 0 0, .slice none 0 0, .slice none 0 0, .slice none 0 0, .slice none 0 0, .int .i64 (0 : Int)] 29 (0, 0))]) (e := .blk b49 (.cells #[.int .i64 (0 : Int), .bool false, .slice none 0 0, .slice none 0 0, .slice none 0 0, .slice none 0 0, .slice none 0 0, .slice none 0 0, .int .i64 (0 : Int)] 29 (0, 0))) RB rfl
 replace hB := ((hB.trans (Ml.same.fr _)).trans mS.fr).trans (Mm.same.fr _)
 replace hB := Fr.gain (e := .blk b49 (.cells #[.int .i64 (0 : Int), .bool false, .slice none 0 0, .slice none 0 0, .slice none 0 0, .slice none 0 0, .slice none 0 0, .slice none 0 0, .int .i64 (0 : Int)] 29 (0, 0))) hB (Nat.le_trans hw27 hnb54) rfl
 replace hO := Owns.gain hO RB On rfl hh55 hd53
 refine GoQA.lastI rfl rfl ?_
 intro w57 A58 Mn
 replace hO := Mn.own hO
 have hobt := oblkStAgg (us := [.int .i64 ((ix a0 (0 : Int)).length : Int), .bool a1, .slice cg cv ci, .slice none 0 0, .slice none 0 0, .slice none 0 0, .slice none 0 0, .slice none 0 0, .int .i64 (0 : Int)]) (o := 0) (cs' := #[.int .i64 ((ix a0 (0 : Int)).length : Int), .bool a1, .slice cg cv ci, .slice none 0 0, .slice none 0 0, .slice none 0 0, .slice none 0 0, .slice none 0 0, .int .i64 (0 : Int)]) 0 hO rfl rfl (Nat.le_of_ble_eq_true rfl) rfl
 obtain ⟨w60, zH, V1⟩ := hobt
 refine GoAt.step (V1 ti29 (by exact rfl) (by exact rfl) rfl) (fun h => nomatch h) (Stp.kp hO zH) rfl ?_
 replace hO := zH.own
 refine GoQA.nil ?_
 intro w63 A64 Mo Oo
 replace hO := Mo.own hO
 replace hO := hO.permA Oo
 refine zq (zr (za rfl (zn (zq (zq ?_)))))
 refine Go1.cut [(0, .slice nI a0.length nJ), (1, .bool a1), (4, .pointer (some ⟨B2, 0, none⟩)), (6, .pointer (some ⟨b49, 0, none⟩)), (7, .int .i64 (-1 : Int))] ⟨rfl, rfl, rfl, rfl, rfl, trivial⟩ ?_
 intro σ _
 refine zr (zm rfl (zn ?_))
 cases a1
 ·replace H := ifn Bool.false_ne_true H
  refine zf rfl rfl (zk (zq (zq (zr (zm rfl ?_)))))
  refine zo (op_len Try.underlying22 rfl) (zm rfl (zn (zb ?_)))
  have mP := Stp.nil (e := 26) (r := 1) hO
  replace hO := mP.own
  have ko := Els.nil (Rp.sl (Rp.int .i64)) (bl (.row 26 1 none 0 0 [] :: [.blk b49 (.cells #[.int .i64 ((ix a0 (0 : Int)).length : Int), .bool false, .slice cg cv ci, .slice none 0 0, .slice none 0 0, .slice none 0 0, .slice none 0 0, .slice none 0 0, .int .i64 (0 : Int)] 29 (0, 0)), t2 (Fl.int .i64) 26 3 cg cv ci f6 r38, .blk B2 (.cells #[.int .i64 (0 : Int), .bool false, .slice none 0 0, .slice none 0 0, .slice none 0 0, .slice none 0 0, .slice none 0 0, .slice none 0 0, .int .i64 (0 : Int)] 29 (0, 0))]) ++ A) w63
  have q9 := Stp.nil (e := 3) (r := 1) hO
  replace hO := q9.own
  have KP := Els.nil (Rp.int .i64) (bl (.row 3 1 none 0 0 [] :: [.row 26 1 none 0 0 [], .blk b49 (.cells #[.int .i64 ((ix a0 (0 : Int)).length : Int), .bool false, .slice cg cv ci, .slice none 0 0, .slice none 0 0, .slice none 0 0, .slice none 0 0, .slice none 0 0, .int .i64 (0 : Int)] 29 (0, 0)), t2 (Fl.int .i64) 26 3 cg cv ci f6 r38, .blk B2 (.cells #[.int .i64 (0 : Int), .bool false, .slice none 0 0, .slice none 0 0, .slice none 0 0, .slice none 0 0, .slice none 0 0, .slice none 0 0, .int .i64 (0 : Int)] 29 (0, 0))]) ++ A) w63
  have gW := Stp.nil (e := 3) (r := 1) hO
  replace hO := gW.own
  have kW := Els.nil (Rp.int .i64) (bl (.row 3 1 none 0 0 [] :: [.row 3 1 none 0 0 [], .row 26 1 none 0 0 [], .blk b49 (.cells #[.int .i64 ((ix a0 (0 : Int)).length : Int), .bool false, .slice cg cv ci, .slice none 0 0, .slice none 0 0, .slice none 0 0, .slice none 0 0, .slice none 0 0, .int .i64 (0 : Int)] 29 (0, 0)), t2 (Fl.int .i64) 26 3 cg cv ci f6 r38, .blk B2 (.cells #[.int .i64 (0 : Int), .bool false, .slice none 0 0, .slice none 0 0, .slice none 0 0, .slice none 0 0, .slice none 0 0, .slice none 0 0, .int .i64 (0 : Int)] 29 (0, 0))]) ++ A) w63
  have Gw := Stp.nil (e := 39) (r := 2) hO
  replace hO := Gw.own
  have abw := Els.nil (rpRule) (bl (.row 39 2 none 0 0 [] :: [.row 3 1 none 0 0 [], .row 3 1 none 0 0 [], .row 26 1 none 0 0 [], .blk b49 (.cells #[.int .i64 ((ix a0 (0 : Int)).length : Int), .bool false, .slice cg cv ci, .slice none 0 0, .slice none 0 0, .slice none 0 0, .slice none 0 0, .slice none 0 0, .int .i64 (0 : Int)] 29 (0, 0)), t2 (Fl.int .i64) 26 3 cg cv ci f6 r38, .blk B2 (.cells #[.int .i64 (0 : Int), .bool false, .slice none 0 0, .slice none 0 0, .slice none 0 0, .slice none 0 0, .slice none 0 0, .slice none 0 0, .int .i64 (0 : Int)] 29 (0, 0))]) ++ A) w63
  replace kW := kW.ch Gw.ch
  replace KP := (KP.ch gW.ch).ch Gw.ch
  have Z1 := (q9.ch.trans gW.ch).trans Gw.ch
  replace ko := ko.ch Z1
  replace hB := ((((((hB.trans (Mn.same.fr _)).trans zH.fr).trans (Mo.same.fr _)).trans mP.fr).trans q9.fr).trans gW.fr).trans Gw.fr
  have Z2 := (((((((((mS.ch.trans (Mm.ch _)).trans RD).trans (Mn.ch _)).trans zH.ch).trans (Mo.ch _)).trans (permCh Oo _)).trans mP.ch).trans q9.ch).trans gW.ch).trans Gw.ch
  replace ai := ai.ch Z2
  refine Go1.loopW (S := Nat × List Rule × List Int × List Int × List (List Int)) (fun s σ w => match s with | (k1_80, d_81, d_87, d_93, d_99) => ∃ (n86 : Nat), ∃ (p84 : Option Addr), ∃ (c85 : Nat), ∃ (gv : List Value), ∃ (n92 : Nat), ∃ (p90 : Option Addr), ∃ (c91 : Nat), ∃ (gw : List Value), ∃ (n98 : Nat), ∃ (p96 : Option Addr), ∃ (c97 : Nat), ∃ (yv : List Value), ∃ (ir : Nat), ∃ (kc : Option Addr), ∃ (kd : Nat), ∃ (xm : List Value), agrees σ [(4, .pointer (some ⟨B2, 0, none⟩)), (6, .pointer (some ⟨b49, 0, none⟩)), (7, .int .i64 (-1 : Int)), (42, .slice nI a0.length nJ), (43, .int .i64 (a0.length : Int)), (44, .int .i64 (k1_80 : Int))] ∧ (fun Z0 => Owns w0.heap.size w Z0 A ∧ Els (rpRule) (bl Z0 ++ A) w gv d_81 ∧ Els (Rp.int .i64) (bl Z0 ++ A) w gw d_87 ∧ Els (Rp.int .i64) (bl Z0 ++ A) w yv d_93 ∧ Els (Rp.sl (Rp.int .i64)) (bl Z0 ++ A) w xm d_99 ∧ ISl (Rp.sl (Rp.int .i64)) (bl Z0 ++ A) w nI nJ a0 ∧ Fr (bl []) w0 (bl Z0) w) [.row 39 2 p84 n86 c85 gv, .row 3 1 p90 n92 c91 gw, .row 3 1 p96 n98 c97 yv, .row 26 1 kc ir kd xm, .blk b49 (.cells #[.int .i64 ((ix a0 (0 : Int)).length : Int), .bool false, .slice cg cv ci, .slice kc ir kd, .slice p96 n98 c97, .slice p90 n92 c91, .slice none 0 0, .slice p84 n86 c85, .int .i64 (0 : Int)] 29 (0, 0)), t2 (Fl.int .i64) 26 3 cg cv ci f6 r38, .blk B2 (.cells #[.int .i64 (0 : Int), .bool false, .slice none 0 0, .slice none 0 0, .slice none 0 0, .slice none 0 0, .slice none 0 0, .slice none 0 0, .int .i64 (0 : Int)] 29 (0, 0))]) H ⟨0, none, 0, [], 0, none, 0, [], 0, none, 0, [], 0, none, 0, [], ⟨rfl, rfl, rfl, rfl, rfl, rfl, trivial⟩, hO, abw, kW, KP, ko, ai, hB⟩ ?_
  intro X1
  refine prE fun k1_80 => prE fun d_81 => prE fun d_87 => prE fun d_93 => fun d_99 => ?_
  intro H hX1 σ w79
  refine exE fun n86 => exE fun p84 => exE fun c85 => exE fun gv => exE fun n92 => exE fun p90 => exE fun c91 => exE fun gw => exE fun n98 => exE fun p96 => exE fun c97 => exE fun yv => exE fun ir => exE fun kc => exE fun kd => exE fun xm => andE fun hag => andE fun hO => andE fun bE => andE fun b5 => andE fun fK => andE fun fI => andE fun ai => fun hB => ?_
  dsimp only at H
  refine Go1.keep [(4, .pointer (some ⟨B2, 0, none⟩)), (6, .pointer (some ⟨b49, 0, none⟩)), (7, .int .i64 (-1 : Int)), (42, .slice nI a0.length nJ), (43, .int .i64 (a0.length : Int)), (44, .int .i64 (k1_80 : Int))] hag ?_
  refine zq (zr ?_)
  by_cases yq : (k1_80 : Int) < (a0.length : Int)
  ·replace H := ifp yq H
   refine zo (fun w => opB (op_lss rfl rfl w) (decide_eq_true yq)) (zn (zq (zt rfl rfl (zk (zq ?_)))))
   refine zb (zq (zr (zm rfl ?_)))
   obtain ⟨yr, H⟩ := H
   obtain ⟨Bg, H⟩ := H
   refine zo (op_index Try.underlying22 ti26 rfl rfl yr Bg (ai.some_ yr Bg)) ?_
   have hobt := ldSl ai yr Bg
   obtain ⟨RE, RF, dz, V2⟩ := hobt
   refine zs (V2 Try.underlying26 rfl rfl) (za rfl (za rfl (zn (zq (zr ?_)))))
   refine zo (op_fieldAddr Try.underlying29 rfl ti22 rfl (by decide)) (zs (oblk (i := 3) 4 hO rfl rfl Try.underlying22 rfl rfl) (zm rfl ?_))
   have hobt := rowlend 3 hO rfl fI
   obtain ⟨V3, Mb⟩ := hobt
   have hOc114 := hO.drop 3
   refine GoR.call (op_call body41 (show ([.slice kc ir kd, .slice RE ((ix a0 (k1_80 : Int)).length) RF] : List Value) = [.slice kc d_99.length kd, .slice RE ((ix a0 (k1_80 : Int)).length) RF] from by rw [← Mb]) (walk_ref12_Find hOc114.lt V3 (dz.ch (Owns.dropCh _ _ 3)) H)) rfl rfl ?_
   rintro afY af0 ⟨r115, rfl, V4, H⟩
   have ol := Stp.same hO V4
   replace hO := ol.own
   refine za rfl (zn (zq (zq (zr (zm rfl ?_)))))
   by_cases Gx : (0 : Int) ≤ r115
   ·replace H := ifp Gx H
    refine zo (fun w => opB (op_geq rfl rfl w) (decide_eq_true Gx)) (zn (zt rfl rfl (zq ?_)))
    refine Go1.drawS 2 [(0, .pure), (1, .stable), (2, .pure), (4, .stable), (5, .pure), (3, .loud), (6, .loud), (7, .pure), (8, .loud), (9, .last), (10, .pure), (11, .last)] mixed (by kernel_rfl) ?_
    intro abx LJ
    have ie := Stp.same hO LJ
    replace hO := ie.own
    refine GoQ.pure rfl (op_fieldAddr Try.underlying29 rfl ti27 rfl (by decide)) rfl rfl ?_
    refine GoQ.stable rfl (oblk (i := 7) 4 hO rfl rfl Try.underlying27 rfl rfl) rfl rfl ?_
    refine GoQ.pure rfl (op_move rfl) rfl rfl ?_
    refine GoQ.stable rfl (oblkAgg (vs := [.int .i64 ((ix a0 (0 : Int)).length : Int), .bool false, .slice cg cv ci, .slice kc ir kd, .slice p96 n98 c97, .slice p90 n92 c91, .slice none 0 0, .slice p84 n86 c85, .int .i64 (0 : Int)]) (i := 0) 4 hO rfl rfl Try.underlying29 rfl ti29 rfl) rfl rfl ?_
    refine GoQ.pure rfl (op_move rfl) rfl rfl ?_
    refine GoQ.call rfl (op_call body55 rfl (walk_ref12_letter hO.lt H)) (fun v w hr => by obtain ⟨_, _, hs, _, _⟩ := hr; assumption) rfl rfl ?_
    rintro af1 aby ⟨r125, rfl, V5, PA, H⟩
    have A7 := Stp.same hO V5
    replace hO := A7.own
    have V6 := t2lend 5 hO rfl
    have Mp := t2neq 5 hO rfl
    have hOc133 := hO.drop 5
    have Z3 := (ol.ch.trans ie.ch).trans A7.ch
    replace fI := fI.ch Z3
    have hobt := rowlend 3 hOc133 rfl (fI.ch (Owns.dropCh _ _ 5))
    obtain ⟨V7, Mq⟩ := hobt
    have hOc136 := hOc133.drop 3
    replace fK := fK.ch Z3
    have hobt := rowlend 2 hOc136 rfl ((fK.ch (Owns.dropCh _ _ 5)).ch (Owns.dropCh _ _ 3))
    obtain ⟨Mj, I2⟩ := hobt
    have hOc139 := hOc136.drop 2
    replace b5 := b5.ch Z3
    have hobt := rowlend 1 hOc139 rfl (((b5.ch (Owns.dropCh _ _ 5)).ch (Owns.dropCh _ _ 3)).ch (Owns.dropCh _ _ 2))
    obtain ⟨V8, Mr⟩ := hobt
    have hOc142 := hOc139.drop 1
    replace bE := bE.ch Z3
    have hobt := rowlend 0 hOc142 rfl ((((bE.ch (Owns.dropCh _ _ 5)).ch (Owns.dropCh _ _ 3)).ch (Owns.dropCh _ _ 2)).ch (Owns.dropCh _ _ 1))
    obtain ⟨V9, Wa⟩ := hobt
    have hOc145 := hOc142.drop 0
    refine GoQ.call rfl (op_call body40 (show ([.agg #[.int .i64 ((ix a0 (0 : Int)).length : Int), .bool false, .slice cg cv ci, .slice kc ir kd, .slice p96 n98 c97, .slice p90 n92 c91, .slice none 0 0, .slice p84 n86 c85, .int .i64 (0 : Int)], .int .i64 r115] : List Value) = [.agg #[.int .i64 ((ix a0 (0 : Int)).length : Int), .bool false, .slice cg r38.length ci, .slice kc d_99.length kd, .slice p96 d_93.length c97, .slice p90 d_87.length c91, .slice none 0 0, .slice p84 d_81.length c85, .int .i64 (0 : Int)], .int .i64 r115] from by rw [← Mp, ← Mq, ← I2, ← Mr, ← Wa]) (walk_ref12_Word (e := (⟨((ix a0 (0 : Int)).length : Int), false, r38, d_99, d_93, d_87, [], d_81, (0 : Int)⟩ : Enum)) hOc145.lt ((((V6.ch (Owns.dropCh _ _ 3)).ch (Owns.dropCh _ _ 2)).ch (Owns.dropCh _ _ 1)).ch (Owns.dropCh _ _ 0)) (((V7.ch (Owns.dropCh _ _ 2)).ch (Owns.dropCh _ _ 1)).ch (Owns.dropCh _ _ 0)) ((Mj.ch (Owns.dropCh _ _ 1)).ch (Owns.dropCh _ _ 0)) (V8.ch (Owns.dropCh _ _ 0)) (ISl.null _ _ _) V9 H)) (fun v w hr => by obtain ⟨_, _, hs, _, _⟩ := hr; assumption) rfl rfl ?_
    rintro af2 af3 ⟨r146, rfl, Wb, PB, H⟩
    have A8 := Stp.same hO Wb
    replace hO := A8.own
    refine GoQ.pure rfl (op_build Try.underlying39 ti39 (pl := [(0, 1), (1, 1)]) (vs := [(0, .string (gstr r125)), (1, .string (gstr r146))]) (cs := #[.string (gstr r125), .string (gstr r146)]) (by kernel_rfl) rfl (by kernel_rfl)) rfl rfl ?_
    have hobt := obuildN (r := rpRule) (n := 1) (parts := [(0, .agg #[.string (gstr r125), .string (gstr r146)])]) (vs := [.string (gstr r125), .string (gstr r146)]) (xs := [(⟨r125, r146⟩ : Rule)]) Try.underlying27 ti39 hO (by decide) (by decide) (by kernel_rfl) (Els.flat1 (⟨r125, r146⟩ : Rule) ⟨PA, PB⟩) rfl
    obtain ⟨abz, af4, dT, Wc, Wd, RG⟩ := hobt
    refine GoQ.loud rfl (RG rfl) Wd rfl rfl ?_
    replace hO := dT.own
    have hobt := freeze 0 hO rfl Wc
    obtain ⟨hO1, Gy, cK, We⟩ := hobt
    dsimp only [eS, eZ] at hO1 Gy cK
    replace hB := (((((hB.trans ol.fr).trans ie.fr).trans A7.fr).trans A8.fr).trans dT.fr).trans (Owns.dropFr _ _ 0)
    dsimp only [eS, eZ] at hB
    replace hO := hO1; clear hO1
    obtain ⟨Il, H⟩ := H
    have Z4 := (A8.ch.trans dT.ch).trans Gy
    replace bE := bE.ch Z4
    have hobt := oapp Try.underlying27 ti39 rfl 0 hO rfl bE cK We Il (by decide)
    obtain ⟨af5, LK, LM, Wf, zR, JY, RH⟩ := hobt
    dsimp only [sS, sZ] at zR JY
    refine GoQ.last rfl (RH (by exact rfl) (by exact rfl)) rfl rfl ?_
    replace hO := zR.own
    refine GoQ.pure rfl (op_fieldAddr Try.underlying29 rfl ti27 rfl (by decide)) rfl rfl ?_
    have hobt := oblkSt2 (v := .slice LK (n86 + 1) LM) (i := 7) (cs' := #[.int .i64 ((ix a0 (0 : Int)).length : Int), .bool false, .slice cg cv ci, .slice kc ir kd, .slice p96 n98 c97, .slice p90 n92 c91, .slice none 0 0, .slice LK (n86 + 1) LM, .int .i64 (0 : Int)]) 4 hO rfl rfl rfl rfl
    obtain ⟨af6, ft, RI⟩ := hobt
    dsimp only [sS, sZ] at ft
    refine GoQ.last rfl (RI Try.underlying27 rfl ti27 (by exact rfl) (by exact rfl)) rfl rfl ?_
    replace hO := ft.own
    refine GoQ.nil ?_
    refine Go1.exit rfl ?_
    refine Go1.cut [(4, .pointer (some ⟨B2, 0, none⟩)), (6, .pointer (some ⟨b49, 0, none⟩)), (7, .int .i64 (-1 : Int)), (42, .slice nI a0.length nJ), (43, .int .i64 (a0.length : Int)), (44, .int .i64 (k1_80 : Int))] ⟨rfl, rfl, rfl, rfl, rfl, rfl, trivial⟩ ?_
    intro σ _
    refine zr ?_
    have Z5 := ((((Z3.trans A8.ch).trans dT.ch).trans Gy).trans zR.ch).trans ft.ch
    replace ai := ai.ch Z5
    refine zo (op_add rfl rfl (wrap_i64 (natbd yq ai.bd))) (zm rfl (zn ?_))
    replace JY := JY.ch ft.ch
    replace hB := (hB.trans zR.fr).trans ft.fr
    have Z6 := (Z4.trans zR.ch).trans ft.ch
    replace b5 := b5.ch Z6
    replace fK := fK.ch Z6
    replace fI := fI.ch Z6
    exact hX1 _ H _ _ ⟨n86 + 1, LK, LM, Wf, n92, p90, c91, gw, n98, p96, c97, yv, ir, kc, kd, xm, ⟨rfl, rfl, rfl, rfl, rfl, rfl, trivial⟩, hO, JY, b5, fK, fI, ai, hB⟩
   replace H := ifn Gx H
   refine zo (fun w => opB (op_geq rfl rfl w) (decide_eq_false Gx)) (zn (zf rfl rfl (zk ?_)))
   refine Go1.drawA (CSv.tr [(some ⟨b49, 3, none⟩), (some ⟨b49, 4, none⟩), (some ⟨b49, 5, none⟩)]) A 1 [(0, .pure), (1, .stable), (3, .pure), (7, .pure), (8, .stable), (9, .pure), (12, .pure), (13, .stable), (14, .pure), (2, .alloc), (4, .loud), (5, .alloc), (6, .loud), (17, .pure), (10, .alloc), (11, .loud), (15, .alloc), (16, .loud), (18, .last), (19, .pure), (20, .last), (21, .pure), (22, .last)] mixed (by kernel_rfl) trivial hO.bd ?_
   intro Y2 Lh
   have kV := Stp.same hO Lh
   replace hO := kV.own
   have HT := hO.le
   replace hB := (hB.trans ol.fr).trans kV.fr
   have hw177 := hB.ch.size
   refine GoQA.pure rfl (op_fieldAddr Try.underlying29 rfl ti22 rfl (by decide)) rfl rfl ?_
   refine GoQA.stable rfl (loadV (.head _) rfl (blkCell 4 hO rfl rfl) Try.underlying22 rfl rfl) rfl rfl ?_
   refine GoQA.pure rfl (op_move rfl) rfl rfl ?_
   refine GoQA.pure rfl (op_fieldAddr Try.underlying29 rfl ti26 rfl (by decide)) rfl rfl ?_
   refine GoQA.stable rfl (loadV (.tail _ (.head _)) rfl (blkCell 4 hO rfl rfl) Try.underlying26 rfl rfl) rfl rfl ?_
   refine GoQA.pure rfl (op_move rfl) rfl rfl ?_
   refine GoQA.pure rfl (op_fieldAddr Try.underlying29 rfl ti26 rfl (by decide)) rfl rfl ?_
   refine GoQA.stable rfl (loadV (.tail _ (.tail _ (.head _))) rfl (blkCell 4 hO rfl rfl) Try.underlying26 rfl rfl) rfl rfl ?_
   refine GoQA.pure rfl (op_move rfl) rfl rfl ?_
   refine GoQA.alloc rfl rfl (alBuild (n := 0) (parts := []) (vs := []) Try.underlying26 ti3 (by decide) (by decide) (by decide) (by kernel_rfl) rfl rfl) ?_
   intro Nn A181 RJ A183 Eb O5 hd186 hnb187 hh188
   replace hO := Eb.own hO
   have I3 : Els (Rp.int .i64) (bl [.row 39 2 p84 n86 c85 gv, .row 3 1 p90 n92 c91 gw, .row 3 1 p96 n98 c97 yv, .row 26 1 kc ir kd xm, .blk b49 (.cells #[.int .i64 ((ix a0 (0 : Int)).length : Int), .bool false, .slice cg cv ci, .slice kc ir kd, .slice p96 n98 c97, .slice p90 n92 c91, .slice none 0 0, .slice p84 n86 c85, .int .i64 (0 : Int)] 29 (0, 0)), t2 (Fl.int .i64) 26 3 cg cv ci f6 r38, .blk B2 (.cells #[.int .i64 (0 : Int), .bool false, .slice none 0 0, .slice none 0 0, .slice none 0 0, .slice none 0 0, .slice none 0 0, .slice none 0 0, .int .i64 (0 : Int)] 29 (0, 0))] ++ A181) Nn [] (([] : List Int)) := (Els.nil _ _ _)
   have Gz := gainCh (w := Nn) (E := [.row 39 2 p84 n86 c85 gv, .row 3 1 p90 n92 c91 gw, .row 3 1 p96 n98 c97 yv, .row 26 1 kc ir kd xm, .blk b49 (.cells #[.int .i64 ((ix a0 (0 : Int)).length : Int), .bool false, .slice cg cv ci, .slice kc ir kd, .slice p96 n98 c97, .slice p90 n92 c91, .slice none 0 0, .slice p84 n86 c85, .int .i64 (0 : Int)] 29 (0, 0)), t2 (Fl.int .i64) 26 3 cg cv ci f6 r38, .blk B2 (.cells #[.int .i64 (0 : Int), .bool false, .slice none 0 0, .slice none 0 0, .slice none 0 0, .slice none 0 0, .slice none 0 0, .slice none 0 0, .int .i64 (0 : Int)] 29 (0, 0))]) (e := .row 3 1 (some ⟨RJ, 0, none⟩) 0 0 []) O5 rfl
   replace hB := hB.trans (Eb.same.fr _)
   replace hB := Fr.gain (e := .row 3 1 (some ⟨RJ, 0, none⟩) 0 0 []) hB (Nat.le_trans hw177 hnb187) rfl
   replace hO := Owns.gain hO O5 HT rfl hh188 hd186
   refine GoQA.loudI rfl rfl ?_
   intro Y4 A192 BP
   replace hO := BP.own hO
   obtain ⟨abA, H⟩ := H
   replace I3 := (I3.ch Gz).ch (BP.ch _)
   have Z7 := (((ol.ch.trans kV.ch).trans (Eb.ch _)).trans Gz).trans (BP.ch _)
   replace dz := dz.ch Z7
   have hobt := oapp Try.underlying26 ti3 rfl 0 hO rfl I3 dz rfl abA (by decide)
   obtain ⟨af7, ID, IE, adt, vg, O6, Kj⟩ := hobt
   dsimp only [sS, sZ] at vg O6
   refine GoAt.step (Kj (by exact rfl) (by exact rfl)) (fun _ => (CSv.cons (cs_eq (blkCell 5 hO rfl rfl) (blkCell 5 vg.own rfl rfl)) (CSv.cons (cs_eq (blkCell 5 hO rfl rfl) (blkCell 5 vg.own rfl rfl)) (CSv.cons (cs_eq (blkCell 5 hO rfl rfl) (blkCell 5 vg.own rfl rfl)) (CSv.nil _ _))))) (Stp.kp hO vg) rfl ?_
   replace hO := vg.own
   have hobt := freeze 0 hO rfl O6
   obtain ⟨hO1, GA, fw, Wg⟩ := hobt
   dsimp only [eS, eZ] at hO1 GA fw
   replace hB := ((hB.trans (BP.same.fr _)).trans vg.fr).trans (Owns.dropFr _ _ 0)
   dsimp only [eS, eZ] at hB
   replace hO := hO1; clear hO1
   refine GoQA.alloc rfl rfl (alBuild (n := 1) (parts := [(0, .slice ID (0 + ((ix a0 (k1_80 : Int)).length)) IE)]) (vs := [.slice ID (0 + ((ix a0 (k1_80 : Int)).length)) IE]) Try.underlying22 ti26 (by decide) (by decide) (by decide) (by kernel_rfl) rfl rfl) ?_
   intro RK A205 RL A207 BQ O7 hd210 hnb211 hh212
   replace hO := BQ.own hO
   replace fw := fw.ch (BQ.ch _)
   have D6 : Els (Rp.sl (Rp.int .i64)) (bl [.row 39 2 p84 n86 c85 gv, .row 3 1 p90 n92 c91 gw, .row 3 1 p96 n98 c97 yv, .row 26 1 kc ir kd xm, .blk b49 (.cells #[.int .i64 ((ix a0 (0 : Int)).length : Int), .bool false, .slice cg cv ci, .slice kc ir kd, .slice p96 n98 c97, .slice p90 n92 c91, .slice none 0 0, .slice p84 n86 c85, .int .i64 (0 : Int)] 29 (0, 0)), t2 (Fl.int .i64) 26 3 cg cv ci f6 r38, .blk B2 (.cells #[.int .i64 (0 : Int), .bool false, .slice none 0 0, .slice none 0 0, .slice none 0 0, .slice none 0 0, .slice none 0 0, .slice none 0 0, .int .i64 (0 : Int)] 29 (0, 0))] ++ A205) RK [.slice ID (0 + ((ix a0 (k1_80 : Int)).length)) IE] [(([] : List Int)) ++ (ix a0 (k1_80 : Int))] := (Els.cons rfl ⟨ID, IE, congrArg some (congrArg (fun nn => Value.slice ID nn IE) Wg), fw⟩ (Els.nil _ _ _) (by simp [mx]))
   have Ec := gainCh (w := RK) (E := [.row 39 2 p84 n86 c85 gv, .row 3 1 p90 n92 c91 gw, .row 3 1 p96 n98 c97 yv, .row 26 1 kc ir kd xm, .blk b49 (.cells #[.int .i64 ((ix a0 (0 : Int)).length : Int), .bool false, .slice cg cv ci, .slice kc ir kd, .slice p96 n98 c97, .slice p90 n92 c91, .slice none 0 0, .slice p84 n86 c85, .int .i64 (0 : Int)] 29 (0, 0)), t2 (Fl.int .i64) 26 3 cg cv ci f6 r38, .blk B2 (.cells #[.int .i64 (0 : Int), .bool false, .slice none 0 0, .slice none 0 0, .slice none 0 0, .slice none 0 0, .slice none 0 0, .slice none 0 0, .int .i64 (0 : Int)] 29 (0, 0))]) (e := .row 26 1 (some ⟨RL, 0, none⟩) 1 1 [.slice ID (0 + ((ix a0 (k1_80 : Int)).length)) IE]) O7 rfl
   replace hB := hB.trans (BQ.same.fr _)
   replace hB := Fr.gain (e := .row 26 1 (some ⟨RL, 0, none⟩) 1 1 [.slice ID (0 + ((ix a0 (k1_80 : Int)).length)) IE]) hB (Nat.le_trans hw177 hnb211) rfl
   replace hO := Owns.gain hO O7 HT rfl hh212 hd210
   refine GoQA.loudI rfl rfl ?_
   intro abB A219 Az
   replace hO := Az.own hO
   replace D6 := (D6.ch Ec).ch (Az.ch _)
   have hobt := freeze 0 hO rfl D6
   obtain ⟨hO1, Ed, gr, Wh⟩ := hobt
   dsimp only [eS, eZ] at hO1 Ed gr
   replace hB := (hB.trans (Az.same.fr _)).trans (Owns.dropFr _ _ 0)
   dsimp only [eS, eZ] at hB
   replace hO := hO1; clear hO1
   obtain ⟨abC, H⟩ := H
   have Z8 := (((((Z7.trans vg.ch).trans GA).trans (BQ.ch _)).trans Ec).trans (Az.ch _)).trans Ed
   replace fI := fI.ch Z8
   have hobt := oapp Try.underlying22 ti26 rfl 3 hO rfl fI gr Wh abC (by decide)
   obtain ⟨af8, GB, GC, sa, ud, gN, RM⟩ := hobt
   dsimp only [sS, sZ] at ud gN
   refine GoAt.step (RM (by exact rfl) (by exact rfl)) (fun _ => (CSv.cons (cs_eq (blkCell 4 hO rfl rfl) (blkCell 4 ud.own rfl rfl)) (CSv.cons (cs_eq (blkCell 4 hO rfl rfl) (blkCell 4 ud.own rfl rfl)) (CSv.cons (cs_eq (blkCell 4 hO rfl rfl) (blkCell 4 ud.own rfl rfl)) (CSv.nil _ _))))) (Stp.kp hO ud) rfl ?_
   replace hO := ud.own
   refine GoQA.pure rfl (op_fieldAddr Try.underlying29 rfl ti22 rfl (by decide)) rfl rfl ?_
   refine GoQA.alloc rfl rfl (alBuild (n := 1) (parts := [(0, .int .i64 (-1 : Int))]) (vs := [.int .i64 (-1 : Int)]) Try.underlying26 ti3 (by decide) (by decide) (by decide) (by kernel_rfl) rfl rfl) ?_
   intro RN A235 RO A237 AA O8 hd240 hnb241 hh242
   replace hO := AA.own hO
   have I4 : Els (Rp.int .i64) (bl [.row 39 2 p84 n86 c85 gv, .row 3 1 p90 n92 c91 gw, .row 3 1 p96 n98 c97 yv, .row 26 1 GB (ir + 1) GC sa, .blk b49 (.cells #[.int .i64 ((ix a0 (0 : Int)).length : Int), .bool false, .slice cg cv ci, .slice kc ir kd, .slice p96 n98 c97, .slice p90 n92 c91, .slice none 0 0, .slice p84 n86 c85, .int .i64 (0 : Int)] 29 (0, 0)), t2 (Fl.int .i64) 26 3 cg cv ci f6 r38, .blk B2 (.cells #[.int .i64 (0 : Int), .bool false, .slice none 0 0, .slice none 0 0, .slice none 0 0, .slice none 0 0, .slice none 0 0, .slice none 0 0, .int .i64 (0 : Int)] 29 (0, 0))] ++ A235) RN [.int .i64 (-1 : Int)] [(-1 : Int)] := (Els.cons rfl rfl (Els.nil _ _ _) (by simp [mx]))
   have BR := gainCh (w := RN) (E := [.row 39 2 p84 n86 c85 gv, .row 3 1 p90 n92 c91 gw, .row 3 1 p96 n98 c97 yv, .row 26 1 GB (ir + 1) GC sa, .blk b49 (.cells #[.int .i64 ((ix a0 (0 : Int)).length : Int), .bool false, .slice cg cv ci, .slice kc ir kd, .slice p96 n98 c97, .slice p90 n92 c91, .slice none 0 0, .slice p84 n86 c85, .int .i64 (0 : Int)] 29 (0, 0)), t2 (Fl.int .i64) 26 3 cg cv ci f6 r38, .blk B2 (.cells #[.int .i64 (0 : Int), .bool false, .slice none 0 0, .slice none 0 0, .slice none 0 0, .slice none 0 0, .slice none 0 0, .slice none 0 0, .int .i64 (0 : Int)] 29 (0, 0))]) (e := .row 3 1 (some ⟨RO, 0, none⟩) 1 1 [.int .i64 (-1 : Int)]) O8 rfl
   replace hB := (hB.trans ud.fr).trans (AA.same.fr _)
   replace hB := Fr.gain (e := .row 3 1 (some ⟨RO, 0, none⟩) 1 1 [.int .i64 (-1 : Int)]) hB (Nat.le_trans hw177 hnb241) rfl
   replace hO := Owns.gain hO O8 HT rfl hh242 hd240
   refine GoQA.loudI rfl rfl ?_
   intro Y9 A246 zS
   replace hO := zS.own hO
   replace I4 := (I4.ch BR).ch (zS.ch _)
   have hobt := freeze 0 hO rfl I4
   obtain ⟨hO1, qV, dh, Ln⟩ := hobt
   dsimp only [eS, eZ] at hO1 qV dh
   replace hB := (hB.trans (zS.same.fr _)).trans (Owns.dropFr _ _ 0)
   dsimp only [eS, eZ] at hB
   replace hO := hO1; clear hO1
   obtain ⟨abD, H⟩ := H
   have Z9 := ((((Z8.trans ud.ch).trans (AA.ch _)).trans BR).trans (zS.ch _)).trans qV
   replace fK := fK.ch Z9
   have hobt := oapp Try.underlying26 ti3 rfl 2 hO rfl fK dh Ln abD (by decide)
   obtain ⟨aa0, Iw, JC, Ms, sC, lM, RQ⟩ := hobt
   dsimp only [sS, sZ] at sC lM
   refine GoAt.step (RQ (by exact rfl) (by exact rfl)) (fun _ => (CSv.cons (cs_eq (blkCell 4 hO rfl rfl) (blkCell 4 sC.own rfl rfl)) (CSv.cons (cs_eq (blkCell 4 hO rfl rfl) (blkCell 4 sC.own rfl rfl)) (CSv.cons (cs_eq (blkCell 4 hO rfl rfl) (blkCell 4 sC.own rfl rfl)) (CSv.nil _ _))))) (Stp.kp hO sC) rfl ?_
   replace hO := sC.own
   refine GoQA.alloc rfl rfl (alBuild (n := 1) (parts := [(0, .int .i64 (k1_80 : Int))]) (vs := [.int .i64 (k1_80 : Int)]) Try.underlying26 ti3 (by decide) (by decide) (by decide) (by kernel_rfl) rfl rfl) ?_
   intro RR A262 RS A264 zT O9 hd267 hnb268 hh269
   replace hO := zT.own hO
   have I5 : Els (Rp.int .i64) (bl [.row 39 2 p84 n86 c85 gv, .row 3 1 p90 n92 c91 gw, .row 3 1 Iw (n98 + 1) JC Ms, .row 26 1 GB (ir + 1) GC sa, .blk b49 (.cells #[.int .i64 ((ix a0 (0 : Int)).length : Int), .bool false, .slice cg cv ci, .slice kc ir kd, .slice p96 n98 c97, .slice p90 n92 c91, .slice none 0 0, .slice p84 n86 c85, .int .i64 (0 : Int)] 29 (0, 0)), t2 (Fl.int .i64) 26 3 cg cv ci f6 r38, .blk B2 (.cells #[.int .i64 (0 : Int), .bool false, .slice none 0 0, .slice none 0 0, .slice none 0 0, .slice none 0 0, .slice none 0 0, .slice none 0 0, .int .i64 (0 : Int)] 29 (0, 0))] ++ A262) RR [.int .i64 (k1_80 : Int)] [(k1_80 : Int)] := (Els.cons rfl rfl (Els.nil _ _ _) (by simp [mx]))
   have AB := gainCh (w := RR) (E := [.row 39 2 p84 n86 c85 gv, .row 3 1 p90 n92 c91 gw, .row 3 1 Iw (n98 + 1) JC Ms, .row 26 1 GB (ir + 1) GC sa, .blk b49 (.cells #[.int .i64 ((ix a0 (0 : Int)).length : Int), .bool false, .slice cg cv ci, .slice kc ir kd, .slice p96 n98 c97, .slice p90 n92 c91, .slice none 0 0, .slice p84 n86 c85, .int .i64 (0 : Int)] 29 (0, 0)), t2 (Fl.int .i64) 26 3 cg cv ci f6 r38, .blk B2 (.cells #[.int .i64 (0 : Int), .bool false, .slice none 0 0, .slice none 0 0, .slice none 0 0, .slice none 0 0, .slice none 0 0, .slice none 0 0, .int .i64 (0 : Int)] 29 (0, 0))]) (e := .row 3 1 (some ⟨RS, 0, none⟩) 1 1 [.int .i64 (k1_80 : Int)]) O9 rfl
   replace hB := (hB.trans sC.fr).trans (zT.same.fr _)
   replace hB := Fr.gain (e := .row 3 1 (some ⟨RS, 0, none⟩) 1 1 [.int .i64 (k1_80 : Int)]) hB (Nat.le_trans hw177 hnb268) rfl
   replace hO := Owns.gain hO O9 HT rfl hh269 hd267
   refine GoQA.loudI rfl rfl ?_
   intro abE A273 y3
   replace hO := y3.own hO
   replace I5 := (I5.ch AB).ch (y3.ch _)
   have hobt := freeze 0 hO rfl I5
   obtain ⟨hO1, AC, rc, Wi⟩ := hobt
   dsimp only [eS, eZ] at hO1 AC rc
   replace hB := (hB.trans (y3.same.fr _)).trans (Owns.dropFr _ _ 0)
   dsimp only [eS, eZ] at hB
   replace hO := hO1; clear hO1
   obtain ⟨abF, H⟩ := H
   have Z10 := ((((Z9.trans sC.ch).trans (zT.ch _)).trans AB).trans (y3.ch _)).trans AC
   replace b5 := b5.ch Z10
   have hobt := oapp Try.underlying26 ti3 rfl 1 hO rfl b5 rc Wi abF (by decide)
   obtain ⟨af9, Oq, Os, Wj, rL, tR, RT⟩ := hobt
   dsimp only [sS, sZ] at rL tR
   refine GoAt.step (RT (by exact rfl) (by exact rfl)) (fun _ => (CSv.cons (cs_eq (blkCell 4 hO rfl rfl) (blkCell 4 rL.own rfl rfl)) (CSv.cons (cs_eq (blkCell 4 hO rfl rfl) (blkCell 4 rL.own rfl rfl)) (CSv.cons (cs_eq (blkCell 4 hO rfl rfl) (blkCell 4 rL.own rfl rfl)) (CSv.nil _ _))))) (Stp.kp hO rL) rfl ?_
   replace hO := rL.own
   refine GoQA.lastI rfl rfl ?_
   intro aga A288 y4
   replace hO := y4.own hO
   have hobt := oblkSt2 (v := .slice GB (ir + 1) GC) (i := 3) (cs' := #[.int .i64 ((ix a0 (0 : Int)).length : Int), .bool false, .slice cg cv ci, .slice GB (ir + 1) GC, .slice p96 n98 c97, .slice p90 n92 c91, .slice none 0 0, .slice p84 n86 c85, .int .i64 (0 : Int)]) 4 hO rfl rfl rfl rfl
   obtain ⟨agb, ue, RU⟩ := hobt
   dsimp only [sS, sZ] at ue
   refine GoAt.step (RU Try.underlying22 rfl ti22 (by exact rfl) (by exact rfl)) (fun h => nomatch h) (Stp.kp hO ue) rfl ?_
   replace hO := ue.own
   refine GoQA.pure rfl (op_fieldAddr Try.underlying29 rfl ti26 rfl (by decide)) rfl rfl ?_
   refine GoQA.lastI rfl rfl ?_
   intro aa3 A294 y5
   replace hO := y5.own hO
   have hobt := oblkSt2 (v := .slice Iw (n98 + 1) JC) (i := 4) (cs' := #[.int .i64 ((ix a0 (0 : Int)).length : Int), .bool false, .slice cg cv ci, .slice GB (ir + 1) GC, .slice Iw (n98 + 1) JC, .slice p90 n92 c91, .slice none 0 0, .slice p84 n86 c85, .int .i64 (0 : Int)]) 4 hO rfl rfl rfl rfl
   obtain ⟨aa4, iG, RV⟩ := hobt
   dsimp only [sS, sZ] at iG
   refine GoAt.step (RV Try.underlying26 rfl ti26 (by exact rfl) (by exact rfl)) (fun h => nomatch h) (Stp.kp hO iG) rfl ?_
   replace hO := iG.own
   refine GoQA.pure rfl (op_fieldAddr Try.underlying29 rfl ti26 rfl (by decide)) rfl rfl ?_
   refine GoQA.lastI rfl rfl ?_
   intro agc A300 y6
   replace hO := y6.own hO
   have hobt := oblkSt2 (v := .slice Oq (n92 + 1) Os) (i := 5) (cs' := #[.int .i64 ((ix a0 (0 : Int)).length : Int), .bool false, .slice cg cv ci, .slice GB (ir + 1) GC, .slice Iw (n98 + 1) JC, .slice Oq (n92 + 1) Os, .slice none 0 0, .slice p84 n86 c85, .int .i64 (0 : Int)]) 4 hO rfl rfl rfl rfl
   obtain ⟨agd, uf, RW⟩ := hobt
   dsimp only [sS, sZ] at uf
   refine GoAt.step (RW Try.underlying26 rfl ti26 (by exact rfl) (by exact rfl)) (fun h => nomatch h) (Stp.kp hO uf) rfl ?_
   replace hO := uf.own
   refine GoQA.nil ?_
   intro age A306 y7 zU
   replace hO := y7.own hO
   replace hO := hO.permA zU
   refine Go1.inBlock ?_
   refine Go1.cut [(4, .pointer (some ⟨B2, 0, none⟩)), (6, .pointer (some ⟨b49, 0, none⟩)), (7, .int .i64 (-1 : Int)), (42, .slice nI a0.length nJ), (43, .int .i64 (a0.length : Int)), (44, .int .i64 (k1_80 : Int))] ⟨rfl, rfl, rfl, rfl, rfl, rfl, trivial⟩ ?_
   intro σ _
   refine zr ?_
   have Z11 := ((((((((Z10.trans rL.ch).trans (y4.ch _)).trans ue.ch).trans (y5.ch _)).trans iG.ch).trans (y6.ch _)).trans uf.ch).trans (y7.ch _)).trans (permCh zU _)
   replace ai := ai.ch Z11
   refine zo (op_add rfl rfl (wrap_i64 (natbd yq ai.bd))) (zm rfl (zn ?_))
   replace hB := (((((((hB.trans rL.fr).trans (y4.same.fr _)).trans ue.fr).trans (y5.same.fr _)).trans iG.fr).trans (y6.same.fr _)).trans uf.fr).trans (y7.same.fr _)
   have Z12 := (((((((y4.ch _).trans ue.ch).trans (y5.ch _)).trans iG.ch).trans (y6.ch _)).trans uf.ch).trans (y7.ch _)).trans (permCh zU _)
   replace tR := tR.ch Z12
   have Z13 := ((((((((((((zT.ch _).trans AB).trans (y3.ch _)).trans AC).trans rL.ch).trans (y4.ch _)).trans ue.ch).trans (y5.ch _)).trans iG.ch).trans (y6.ch _)).trans uf.ch).trans (y7.ch _)).trans (permCh zU _)
   replace lM := lM.ch Z13
   have Z14 := (((((((((((((((((AA.ch _).trans BR).trans (zS.ch _)).trans qV).trans sC.ch).trans (zT.ch _)).trans AB).trans (y3.ch _)).trans AC).trans rL.ch).trans (y4.ch _)).trans ue.ch).trans (y5.ch _)).trans iG.ch).trans (y6.ch _)).trans uf.ch).trans (y7.ch _)).trans (permCh zU _)
   replace gN := gN.ch Z14
   replace bE := bE.ch Z11
   exact hX1 _ H _ _ ⟨n86, p84, c85, gv, n92 + 1, Oq, Os, Wj, n98 + 1, Iw, JC, Ms, ir + 1, GB, GC, sa, ⟨rfl, rfl, rfl, rfl, rfl, rfl, trivial⟩, hO, bE, tR, lM, gN, ai, hB⟩
  replace H := ifn yq H
  refine zo (fun w => opB (op_lss rfl rfl w) (decide_eq_false yq)) (zn (zq (zf rfl rfl ?_)))
  refine Go1.exit rfl ?_
  refine zq (zr (zs (oblkAgg (vs := [.int .i64 ((ix a0 (0 : Int)).length : Int), .bool false, .slice cg cv ci, .slice kc ir kd, .slice p96 n98 c97, .slice p90 n92 c91, .slice none 0 0, .slice p84 n86 c85, .int .i64 (0 : Int)]) (i := 0) 4 hO rfl rfl Try.underlying29 rfl ti29 rfl) ?_))
  have hobt := oblkStAgg (us := [.int .i64 ((ix a0 (0 : Int)).length : Int), .bool false, .slice cg cv ci, .slice kc ir kd, .slice p96 n98 c97, .slice p90 n92 c91, .slice none 0 0, .slice p84 n86 c85, .int .i64 (0 : Int)]) (o := 0) (cs' := #[.int .i64 ((ix a0 (0 : Int)).length : Int), .bool false, .slice cg cv ci, .slice kc ir kd, .slice p96 n98 c97, .slice p90 n92 c91, .slice none 0 0, .slice p84 n86 c85, .int .i64 (0 : Int)]) 6 hO rfl rfl (Nat.le_of_ble_eq_true rfl) rfl
  obtain ⟨agf, lr, RX⟩ := hobt
  dsimp only [sS, sZ] at lr
  refine zg (RX ti29 (by exact rfl) (by exact rfl) rfl) ?_
  replace hO := lr.own
  refine za rfl (zn ?_)
  have hobt := t2freezeA 5 hO rfl
  obtain ⟨hO1, HU, eI, Wk⟩ := hobt
  dsimp only [eS, eZ] at hO1 HU eI
  replace hB := (hB.trans lr.fr).trans (Owns.dropFr _ _ 5)
  dsimp only [eS, eZ] at hB
  replace hO := hO1; clear hO1
  replace fI := (fI.ch lr.ch).ch HU
  have hobt := freeze 3 hO rfl fI
  obtain ⟨hO1, HV, Ee, Wl⟩ := hobt
  dsimp only [eS, eZ] at hO1 HV Ee
  replace hB := hB.trans (Owns.dropFr _ _ 3)
  dsimp only [eS, eZ] at hB
  replace hO := hO1; clear hO1
  have Z15 := (lr.ch.trans HU).trans HV
  replace fK := fK.ch Z15
  have hobt := freeze 2 hO rfl fK
  obtain ⟨hO1, HW, HX, Wm⟩ := hobt
  dsimp only [eS, eZ] at hO1 HW HX
  replace hB := hB.trans (Owns.dropFr _ _ 2)
  dsimp only [eS, eZ] at hB
  replace hO := hO1; clear hO1
  replace b5 := (b5.ch Z15).ch HW
  have hobt := freeze 1 hO rfl b5
  obtain ⟨hO1, HY, J0, Wn⟩ := hobt
  dsimp only [eS, eZ] at hO1 HY J0
  replace hB := hB.trans (Owns.dropFr _ _ 1)
  dsimp only [eS, eZ] at hB
  replace hO := hO1; clear hO1
  replace bE := ((bE.ch Z15).ch HW).ch HY
  have hobt := freeze 0 hO rfl bE
  obtain ⟨hO1, ql, dP, Lo⟩ := hobt
  dsimp only [eS, eZ] at hO1 ql dP
  replace hB := hB.trans (Owns.dropFr _ _ 0)
  dsimp only [eS, eZ] at hB
  replace hO := hO1; clear hO1
  refine Go1.retC2 Try.func22 rfl rfl (run_loadBlk (vs := [.int .i64 ((ix a0 (0 : Int)).length : Int), .bool false, .slice cg cv ci, .slice kc ir kd, .slice p96 n98 c97, .slice p90 n92 c91, .slice none 0 0, .slice p84 n86 c85, .int .i64 (0 : Int)]) 1 hO rfl rfl Try.underlying29 rfl ti29) ?_
  replace J0 := J0.ch ql
  replace HX := (HX.ch HY).ch ql
  have Z16 := (HW.trans HY).trans ql
  replace Ee := Ee.ch Z16
  have Z17 := ((HV.trans HW).trans HY).trans ql
  replace eI := eI.ch Z17
  exact ⟨(⟨((ix a0 (0 : Int)).length : Int), false, r38, d_99, d_93, d_87, ([] : List (List Int)), d_81, (0 : Int)⟩ : Enum), (0 : Int), cg, ci, kc, kd, p96, c97, p90, c91, none, 0, p84, c85, (congrArg (fun l => Value.tuple (List.toArray l)) (cons_eq (congrArg (fun l => Value.agg (List.toArray l)) (cons_eq rfl (cons_eq rfl (cons_eq (congrArg (fun nn => Value.slice cg nn ci) Wk) (cons_eq (congrArg (fun nn => Value.slice kc nn kd) Wl) (cons_eq (congrArg (fun nn => Value.slice p96 nn c97) Wm) (cons_eq (congrArg (fun nn => Value.slice p90 nn c91) Wn) (cons_eq rfl (cons_eq (congrArg (fun nn => Value.slice p84 nn c85) Lo) (cons_eq rfl rfl)))))))))) (cons_eq rfl rfl))), hB.same, (eI.ch (Ch.weak _ _ _)), (Ee.ch (Ch.weak _ _ _)), (HX.ch (Ch.weak _ _ _)), (J0.ch (Ch.weak _ _ _)), (ISl.null _ _ _), (dP.ch (Ch.weak _ _ _)), H⟩
 replace H := ifp rfl H
 refine zt rfl rfl (zq (zr (zo (op_fieldAddr Try.underlying29 rfl ti3 rfl (by decide)) (zs (oblk (i := 0) 0 hO rfl rfl Try.underlying3 rfl rfl) ?_))))
 refine GoR.call (op_call body54 rfl (walk_ref03_Discrete hO.lt H)) rfl rfl ?_
 rintro abG P1 ⟨r327, sD, sE, rfl, Mt, bo, H⟩
 have gk := Stp.same hO Mt
 replace hO := gk.own
 have hobt := obuild (r := Rp.sl (Rp.int .i64)) (n := 1) (parts := [(0, .slice sD r327.length sE)]) (vs := [.slice sD r327.length sE]) (xs := [r327]) rfl Try.underlying22 ti26 hO (by decide) (by kernel_rfl) (Els.cons rfl ⟨sD, sE, rfl, bo⟩ (Els.nil _ _ _) (by simp [mx])) rfl
 obtain ⟨agh, IF, m3, x8, adu, Kr⟩ := hobt
 refine zg (Kr rfl) ?_
 replace hO := m3.own
 have hobt := obuild (r := Rp.int .i64) (n := 1) (parts := [(0, .int .i64 (-1 : Int))]) (vs := [.int .i64 (-1 : Int)]) (xs := [(-1 : Int)]) rfl Try.underlying26 ti3 hO (by decide) (by kernel_rfl) (Els.cons rfl rfl (Els.nil _ _ _) (by simp [mx])) rfl
 obtain ⟨Q9, Iz, ki, x3, L1, KG⟩ := hobt
 refine zg (KG rfl) ?_
 replace hO := ki.own
 have hobt := obuild (r := Rp.int .i64) (n := 1) (parts := [(0, .int .i64 (-1 : Int))]) (vs := [.int .i64 (-1 : Int)]) (xs := [(-1 : Int)]) rfl Try.underlying26 ti3 hO (by decide) (by kernel_rfl) (Els.cons rfl rfl (Els.nil _ _ _) (by simp [mx])) rfl
 obtain ⟨agi, KQ, Cu, BS, Pa, RY⟩ := hobt
 refine zg (RY rfl) ?_
 replace hO := Cu.own
 refine zo (op_fieldAddr Try.underlying29 rfl ti22 rfl (by decide)) ?_
 have hobt := oblkSt2 (v := .slice IF 1 1) (i := 3) (cs' := #[.int .i64 ((ix a0 (0 : Int)).length : Int), .bool true, .slice cg cv ci, .slice IF 1 1, .slice none 0 0, .slice none 0 0, .slice none 0 0, .slice none 0 0, .int .i64 (0 : Int)]) 3 hO rfl rfl rfl rfl
 obtain ⟨abH, ib, Ks⟩ := hobt
 dsimp only [sS, sZ] at ib
 refine zg (Ks Try.underlying22 rfl ti22 (by exact rfl) (by exact rfl)) ?_
 replace hO := ib.own
 refine zo (op_fieldAddr Try.underlying29 rfl ti26 rfl (by decide)) ?_
 have hobt := oblkSt2 (v := .slice Iz 1 1) (i := 4) (cs' := #[.int .i64 ((ix a0 (0 : Int)).length : Int), .bool true, .slice cg cv ci, .slice IF 1 1, .slice Iz 1 1, .slice none 0 0, .slice none 0 0, .slice none 0 0, .int .i64 (0 : Int)]) 3 hO rfl rfl rfl rfl
 obtain ⟨agj, ma, R0⟩ := hobt
 dsimp only [sS, sZ] at ma
 refine zg (R0 Try.underlying26 rfl ti26 (by exact rfl) (by exact rfl)) ?_
 replace hO := ma.own
 refine zo (op_fieldAddr Try.underlying29 rfl ti26 rfl (by decide)) ?_
 have hobt := oblkSt2 (v := .slice KQ 1 1) (i := 5) (cs' := #[.int .i64 ((ix a0 (0 : Int)).length : Int), .bool true, .slice cg cv ci, .slice IF 1 1, .slice Iz 1 1, .slice KQ 1 1, .slice none 0 0, .slice none 0 0, .int .i64 (0 : Int)]) 3 hO rfl rfl rfl rfl
 obtain ⟨KR, zV, R2⟩ := hobt
 dsimp only [sS, sZ] at zV
 refine zg (R2 Try.underlying26 rfl ti26 (by exact rfl) (by exact rfl)) ?_
 replace hO := zV.own
 refine zn (zr (za rfl (zn (zq (zq ?_)))))
 refine zr (zm rfl (zo (op_len Try.underlying22 rfl) (zm rfl (zn (zb ?_)))))
 have lz := Stp.nil (e := 39) (r := 2) hO
 replace hO := lz.own
 have Wo := Els.nil (rpRule) (bl (.row 39 2 none 0 0 [] :: [.row 3 1 KQ 1 1 [.int .i64 (-1 : Int)], .row 3 1 Iz 1 1 [.int .i64 (-1 : Int)], .row 26 1 IF 1 1 [.slice sD r327.length sE], .blk b49 (.cells #[.int .i64 ((ix a0 (0 : Int)).length : Int), .bool true, .slice cg cv ci, .slice IF 1 1, .slice Iz 1 1, .slice KQ 1 1, .slice none 0 0, .slice none 0 0, .int .i64 (0 : Int)] 29 (0, 0)), t2 (Fl.int .i64) 26 3 cg cv ci f6 r38, .blk B2 (.cells #[.int .i64 (0 : Int), .bool false, .slice none 0 0, .slice none 0 0, .slice none 0 0, .slice none 0 0, .slice none 0 0, .slice none 0 0, .int .i64 (0 : Int)] 29 (0, 0))]) ++ A) KR
 have Z18 := ((ib.ch.trans ma.ch).trans zV.ch).trans lz.ch
 replace BS := BS.ch Z18
 have Z19 := (((Cu.ch.trans ib.ch).trans ma.ch).trans zV.ch).trans lz.ch
 replace x3 := x3.ch Z19
 have Z20 := ((((ki.ch.trans Cu.ch).trans ib.ch).trans ma.ch).trans zV.ch).trans lz.ch
 replace x8 := x8.ch Z20
 replace hB := ((((((((((hB.trans (Mn.same.fr _)).trans zH.fr).trans (Mo.same.fr _)).trans gk.fr).trans m3.fr).trans ki.fr).trans Cu.fr).trans ib.fr).trans ma.fr).trans zV.fr).trans lz.fr
 have Z21 := (((((((((((((mS.ch.trans (Mm.ch _)).trans RD).trans (Mn.ch _)).trans zH.ch).trans (Mo.ch _)).trans (permCh Oo _)).trans gk.ch).trans m3.ch).trans ki.ch).trans Cu.ch).trans ib.ch).trans ma.ch).trans zV.ch).trans lz.ch
 replace ai := ai.ch Z21
 refine Go1.loopW (S := Nat × List Rule × List Int × List Int × List (List Int)) (fun s σ w => match s with | (k2_367, d_368, d_374, d_380, d_386) => ∃ (iV : Nat), ∃ (io : Option Addr), ∃ (ip : Nat), ∃ (tS : List Value), ∃ (iW : Nat), ∃ (iX : Option Addr), ∃ (iY : Nat), ∃ (qX : List Value), ∃ (i4 : Nat), ∃ (jY : Option Addr), ∃ (j3 : Nat), ∃ (pI : List Value), ∃ (iu : Nat), ∃ (ke : Option Addr), ∃ (kg : Nat), ∃ (xn : List Value), agrees σ [(4, .pointer (some ⟨B2, 0, none⟩)), (6, .pointer (some ⟨b49, 0, none⟩)), (7, .int .i64 (0 : Int)), (42, .slice nI a0.length nJ), (43, .int .i64 (a0.length : Int)), (44, .int .i64 (k2_367 : Int))] ∧ (fun Z0 => Owns w0.heap.size w Z0 A ∧ Els (rpRule) (bl Z0 ++ A) w tS d_368 ∧ Els (Rp.int .i64) (bl Z0 ++ A) w qX d_374 ∧ Els (Rp.int .i64) (bl Z0 ++ A) w pI d_380 ∧ Els (Rp.sl (Rp.int .i64)) (bl Z0 ++ A) w xn d_386 ∧ ISl (Rp.sl (Rp.int .i64)) (bl Z0 ++ A) w nI nJ a0 ∧ Fr (bl []) w0 (bl Z0) w) [.row 39 2 io iV ip tS, .row 3 1 iX iW iY qX, .row 3 1 jY i4 j3 pI, .row 26 1 ke iu kg xn, .blk b49 (.cells #[.int .i64 ((ix a0 (0 : Int)).length : Int), .bool true, .slice cg cv ci, .slice ke iu kg, .slice jY i4 j3, .slice iX iW iY, .slice none 0 0, .slice io iV ip, .int .i64 (0 : Int)] 29 (0, 0)), t2 (Fl.int .i64) 26 3 cg cv ci f6 r38, .blk B2 (.cells #[.int .i64 (0 : Int), .bool false, .slice none 0 0, .slice none 0 0, .slice none 0 0, .slice none 0 0, .slice none 0 0, .slice none 0 0, .int .i64 (0 : Int)] 29 (0, 0))]) H ⟨0, none, 0, [], 1, KQ, 1, [.int .i64 (-1 : Int)], 1, Iz, 1, [.int .i64 (-1 : Int)], 1, IF, 1, [.slice sD r327.length sE], ⟨rfl, rfl, rfl, rfl, rfl, rfl, trivial⟩, hO, Wo, BS, x3, x8, ai, hB⟩ ?_
 intro X2
 refine prE fun k2_367 => prE fun d_368 => prE fun d_374 => prE fun d_380 => fun d_386 => ?_
 intro H hX2 σ agk
 refine exE fun iV => exE fun io => exE fun ip => exE fun tS => exE fun iW => exE fun iX => exE fun iY => exE fun qX => exE fun i4 => exE fun jY => exE fun j3 => exE fun pI => exE fun iu => exE fun ke => exE fun kg => exE fun xn => andE fun hag => andE fun hO => andE fun cT => andE fun dS => andE fun eh => andE fun fJ => andE fun ai => fun hB => ?_
 dsimp only at H
 refine Go1.keep [(4, .pointer (some ⟨B2, 0, none⟩)), (6, .pointer (some ⟨b49, 0, none⟩)), (7, .int .i64 (0 : Int)), (42, .slice nI a0.length nJ), (43, .int .i64 (a0.length : Int)), (44, .int .i64 (k2_367 : Int))] hag ?_
 refine zq (zr ?_)
 by_cases JD : (k2_367 : Int) < (a0.length : Int)
 ·replace H := ifp JD H
  refine zo (fun w => opB (op_lss rfl rfl w) (decide_eq_true JD)) (zn (zq (zt rfl rfl (zk (zq ?_)))))
  refine zb (zq (zr (zm rfl ?_)))
  obtain ⟨Ot, H⟩ := H
  obtain ⟨Ou, H⟩ := H
  refine zo (op_index Try.underlying22 ti26 rfl rfl Ot Ou (ai.some_ Ot Ou)) ?_
  have hobt := ldSl ai Ot Ou
  obtain ⟨R3, R4, bO, Wp⟩ := hobt
  refine zs (Wp Try.underlying26 rfl rfl) (za rfl (za rfl (zn (zq (zr ?_)))))
  refine zo (op_fieldAddr Try.underlying29 rfl ti22 rfl (by decide)) (zs (oblk (i := 3) 4 hO rfl rfl Try.underlying22 rfl rfl) (zm rfl ?_))
  have hobt := rowlend 3 hO rfl fJ
  obtain ⟨Wq, Wr⟩ := hobt
  have hOc401 := hO.drop 3
  refine GoR.call (op_call body41 (show ([.slice ke iu kg, .slice R3 ((ix a0 (k2_367 : Int)).length) R4] : List Value) = [.slice ke d_386.length kg, .slice R3 ((ix a0 (k2_367 : Int)).length) R4] from by rw [← Wr]) (walk_ref12_Find hOc401.lt Wq (bO.ch (Owns.dropCh _ _ 3)) H)) rfl rfl ?_
  rintro agl agm ⟨r402, rfl, Ws, H⟩
  have A9 := Stp.same hO Ws
  replace hO := A9.own
  refine za rfl (zn (zq (zq (zr (zm rfl ?_)))))
  by_cases Mu : (0 : Int) ≤ r402
  ·replace H := ifp Mu H
   refine zo (fun w => opB (op_geq rfl rfl w) (decide_eq_true Mu)) (zn (zt rfl rfl (zq ?_)))
   refine Go1.drawS 2 [(0, .pure), (1, .stable), (2, .pure), (4, .stable), (5, .pure), (3, .loud), (6, .loud), (7, .pure), (8, .loud), (9, .last), (10, .pure), (11, .last)] mixed (by kernel_rfl) ?_
   intro abb Wt
   have Ba := Stp.same hO Wt
   replace hO := Ba.own
   refine GoQ.pure rfl (op_fieldAddr Try.underlying29 rfl ti27 rfl (by decide)) rfl rfl ?_
   refine GoQ.stable rfl (oblk (i := 7) 4 hO rfl rfl Try.underlying27 rfl rfl) rfl rfl ?_
   refine GoQ.pure rfl (op_move rfl) rfl rfl ?_
   refine GoQ.stable rfl (oblkAgg (vs := [.int .i64 ((ix a0 (0 : Int)).length : Int), .bool true, .slice cg cv ci, .slice ke iu kg, .slice jY i4 j3, .slice iX iW iY, .slice none 0 0, .slice io iV ip, .int .i64 (0 : Int)]) (i := 0) 4 hO rfl rfl Try.underlying29 rfl ti29 rfl) rfl rfl ?_
   refine GoQ.pure rfl (op_move rfl) rfl rfl ?_
   refine GoQ.call rfl (op_call body55 rfl (walk_ref12_letter hO.lt H)) (fun v w hr => by obtain ⟨_, _, hs, _, _⟩ := hr; assumption) rfl rfl ?_
   rintro agn aai ⟨r412, rfl, Wu, PC, H⟩
   have Bb := Stp.same hO Wu
   replace hO := Bb.own
   have Wv := t2lend 5 hO rfl
   have Ww := t2neq 5 hO rfl
   have hOc420 := hO.drop 5
   have Z22 := (A9.ch.trans Ba.ch).trans Bb.ch
   replace fJ := fJ.ch Z22
   have hobt := rowlend 3 hOc420 rfl (fJ.ch (Owns.dropCh _ _ 5))
   obtain ⟨Wx, Wy⟩ := hobt
   have hOc423 := hOc420.drop 3
   replace eh := eh.ch Z22
   have hobt := rowlend 2 hOc423 rfl ((eh.ch (Owns.dropCh _ _ 5)).ch (Owns.dropCh _ _ 3))
   obtain ⟨Wz, WA⟩ := hobt
   have hOc426 := hOc423.drop 2
   replace dS := dS.ch Z22
   have hobt := rowlend 1 hOc426 rfl (((dS.ch (Owns.dropCh _ _ 5)).ch (Owns.dropCh _ _ 3)).ch (Owns.dropCh _ _ 2))
   obtain ⟨WB, WC⟩ := hobt
   have hOc429 := hOc426.drop 1
   replace cT := cT.ch Z22
   have hobt := rowlend 0 hOc429 rfl ((((cT.ch (Owns.dropCh _ _ 5)).ch (Owns.dropCh _ _ 3)).ch (Owns.dropCh _ _ 2)).ch (Owns.dropCh _ _ 1))
   obtain ⟨WD, WE⟩ := hobt
   have hOc432 := hOc429.drop 0
   refine GoQ.call rfl (op_call body40 (show ([.agg #[.int .i64 ((ix a0 (0 : Int)).length : Int), .bool true, .slice cg cv ci, .slice ke iu kg, .slice jY i4 j3, .slice iX iW iY, .slice none 0 0, .slice io iV ip, .int .i64 (0 : Int)], .int .i64 r402] : List Value) = [.agg #[.int .i64 ((ix a0 (0 : Int)).length : Int), .bool true, .slice cg r38.length ci, .slice ke d_386.length kg, .slice jY d_380.length j3, .slice iX d_374.length iY, .slice none 0 0, .slice io d_368.length ip, .int .i64 (0 : Int)], .int .i64 r402] from by rw [← Ww, ← Wy, ← WA, ← WC, ← WE]) (walk_ref12_Word (e := (⟨((ix a0 (0 : Int)).length : Int), true, r38, d_386, d_380, d_374, [], d_368, (0 : Int)⟩ : Enum)) hOc432.lt ((((Wv.ch (Owns.dropCh _ _ 3)).ch (Owns.dropCh _ _ 2)).ch (Owns.dropCh _ _ 1)).ch (Owns.dropCh _ _ 0)) (((Wx.ch (Owns.dropCh _ _ 2)).ch (Owns.dropCh _ _ 1)).ch (Owns.dropCh _ _ 0)) ((Wz.ch (Owns.dropCh _ _ 1)).ch (Owns.dropCh _ _ 0)) (WB.ch (Owns.dropCh _ _ 0)) (ISl.null _ _ _) WD H)) (fun v w hr => by obtain ⟨_, _, hs, _, _⟩ := hr; assumption) rfl rfl ?_
   rintro abI Ri ⟨r433, rfl, Mv, PD, H⟩
   have lA := Stp.same hO Mv
   replace hO := lA.own
   refine GoQ.pure rfl (op_build Try.underlying39 ti39 (pl := [(0, 1), (1, 1)]) (vs := [(0, .string (gstr r412)), (1, .string (gstr r433))]) (cs := #[.string (gstr r412), .string (gstr r433)]) (by kernel_rfl) rfl (by kernel_rfl)) rfl rfl ?_
   have hobt := obuildN (r := rpRule) (n := 1) (parts := [(0, .agg #[.string (gstr r412), .string (gstr r433)])]) (vs := [.string (gstr r412), .string (gstr r433)]) (xs := [(⟨r412, r433⟩ : Rule)]) Try.underlying27 ti39 hO (by decide) (by decide) (by kernel_rfl) (Els.flat1 (⟨r412, r433⟩ : Rule) ⟨PC, PD⟩) rfl
   obtain ⟨ago, agp, Bc, WF, WG, R5⟩ := hobt
   refine GoQ.loud rfl (R5 rfl) WG rfl rfl ?_
   replace hO := Bc.own
   have hobt := freeze 0 hO rfl WF
   obtain ⟨hO1, GD, H0, WH⟩ := hobt
   dsimp only [eS, eZ] at hO1 GD H0
   replace hB := (((((hB.trans A9.fr).trans Ba.fr).trans Bb.fr).trans lA.fr).trans Bc.fr).trans (Owns.dropFr _ _ 0)
   dsimp only [eS, eZ] at hB
   replace hO := hO1; clear hO1
   obtain ⟨abJ, H⟩ := H
   have Z23 := (lA.ch.trans Bc.ch).trans GD
   replace cT := cT.ch Z23
   have hobt := oapp Try.underlying27 ti39 rfl 0 hO rfl cT H0 WH abJ (by decide)
   obtain ⟨agq, Ov, Ow, WI, ic, J1, R6⟩ := hobt
   dsimp only [sS, sZ] at ic J1
   refine GoQ.last rfl (R6 (by exact rfl) (by exact rfl)) rfl rfl ?_
   replace hO := ic.own
   refine GoQ.pure rfl (op_fieldAddr Try.underlying29 rfl ti27 rfl (by decide)) rfl rfl ?_
   have hobt := oblkSt2 (v := .slice Ov (iV + 1) Ow) (i := 7) (cs' := #[.int .i64 ((ix a0 (0 : Int)).length : Int), .bool true, .slice cg cv ci, .slice ke iu kg, .slice jY i4 j3, .slice iX iW iY, .slice none 0 0, .slice Ov (iV + 1) Ow, .int .i64 (0 : Int)]) 4 hO rfl rfl rfl rfl
   obtain ⟨abK, oc, R7⟩ := hobt
   dsimp only [sS, sZ] at oc
   refine GoQ.last rfl (R7 Try.underlying27 rfl ti27 (by exact rfl) (by exact rfl)) rfl rfl ?_
   replace hO := oc.own
   refine GoQ.nil ?_
   refine Go1.exit rfl ?_
   refine Go1.cut [(4, .pointer (some ⟨B2, 0, none⟩)), (6, .pointer (some ⟨b49, 0, none⟩)), (7, .int .i64 (0 : Int)), (42, .slice nI a0.length nJ), (43, .int .i64 (a0.length : Int)), (44, .int .i64 (k2_367 : Int))] ⟨rfl, rfl, rfl, rfl, rfl, rfl, trivial⟩ ?_
   intro σ _
   refine zr ?_
   have Z24 := ((((Z22.trans lA.ch).trans Bc.ch).trans GD).trans ic.ch).trans oc.ch
   replace ai := ai.ch Z24
   refine zo (op_add rfl rfl (wrap_i64 (natbd JD ai.bd))) (zm rfl (zn ?_))
   replace J1 := J1.ch oc.ch
   replace hB := (hB.trans ic.fr).trans oc.fr
   have Z25 := (Z23.trans ic.ch).trans oc.ch
   replace dS := dS.ch Z25
   replace eh := eh.ch Z25
   replace fJ := fJ.ch Z25
   exact hX2 _ H _ _ ⟨iV + 1, Ov, Ow, WI, iW, iX, iY, qX, i4, jY, j3, pI, iu, ke, kg, xn, ⟨rfl, rfl, rfl, rfl, rfl, rfl, trivial⟩, hO, J1, dS, eh, fJ, ai, hB⟩
  replace H := ifn Mu H
  refine zo (fun w => opB (op_geq rfl rfl w) (decide_eq_false Mu)) (zn (zf rfl rfl (zk ?_)))
  refine Go1.drawA (CSv.tr [(some ⟨b49, 3, none⟩), (some ⟨b49, 4, none⟩), (some ⟨b49, 5, none⟩)]) A 1 [(0, .pure), (1, .stable), (3, .pure), (7, .pure), (8, .stable), (9, .pure), (12, .pure), (13, .stable), (14, .pure), (2, .alloc), (4, .loud), (5, .alloc), (6, .loud), (17, .pure), (10, .alloc), (11, .loud), (15, .alloc), (16, .loud), (18, .last), (19, .pure), (20, .last), (21, .pure), (22, .last)] mixed (by kernel_rfl) trivial hO.bd ?_
  intro agr WJ
  have Bd := Stp.same hO WJ
  replace hO := Bd.own
  have J2 := hO.le
  replace hB := (hB.trans A9.fr).trans Bd.fr
  have hw464 := hB.ch.size
  refine GoQA.pure rfl (op_fieldAddr Try.underlying29 rfl ti22 rfl (by decide)) rfl rfl ?_
  refine GoQA.stable rfl (loadV (.head _) rfl (blkCell 4 hO rfl rfl) Try.underlying22 rfl rfl) rfl rfl ?_
  refine GoQA.pure rfl (op_move rfl) rfl rfl ?_
  refine GoQA.pure rfl (op_fieldAddr Try.underlying29 rfl ti26 rfl (by decide)) rfl rfl ?_
  refine GoQA.stable rfl (loadV (.tail _ (.head _)) rfl (blkCell 4 hO rfl rfl) Try.underlying26 rfl rfl) rfl rfl ?_
  refine GoQA.pure rfl (op_move rfl) rfl rfl ?_
  refine GoQA.pure rfl (op_fieldAddr Try.underlying29 rfl ti26 rfl (by decide)) rfl rfl ?_
  refine GoQA.stable rfl (loadV (.tail _ (.tail _ (.head _))) rfl (blkCell 4 hO rfl rfl) Try.underlying26 rfl rfl) rfl rfl ?_
  refine GoQA.pure rfl (op_move rfl) rfl rfl ?_
  refine GoQA.alloc rfl rfl (alBuild (n := 0) (parts := []) (vs := []) Try.underlying26 ti3 (by decide) (by decide) (by decide) (by kernel_rfl) rfl rfl) ?_
  intro Oa A468 R8 A470 Ef Pb hd473 hnb474 hh475
  replace hO := Ef.own hO
  have I6 : Els (Rp.int .i64) (bl [.row 39 2 io iV ip tS, .row 3 1 iX iW iY qX, .row 3 1 jY i4 j3 pI, .row 26 1 ke iu kg xn, .blk b49 (.cells #[.int .i64 ((ix a0 (0 : Int)).length : Int), .bool true, .slice cg cv ci, .slice ke iu kg, .slice jY i4 j3, .slice iX iW iY, .slice none 0 0, .slice io iV ip, .int .i64 (0 : Int)] 29 (0, 0)), t2 (Fl.int .i64) 26 3 cg cv ci f6 r38, .blk B2 (.cells #[.int .i64 (0 : Int), .bool false, .slice none 0 0, .slice none 0 0, .slice none 0 0, .slice none 0 0, .slice none 0 0, .slice none 0 0, .int .i64 (0 : Int)] 29 (0, 0))] ++ A468) Oa [] (([] : List Int)) := (Els.nil _ _ _)
  have GE := gainCh (w := Oa) (E := [.row 39 2 io iV ip tS, .row 3 1 iX iW iY qX, .row 3 1 jY i4 j3 pI, .row 26 1 ke iu kg xn, .blk b49 (.cells #[.int .i64 ((ix a0 (0 : Int)).length : Int), .bool true, .slice cg cv ci, .slice ke iu kg, .slice jY i4 j3, .slice iX iW iY, .slice none 0 0, .slice io iV ip, .int .i64 (0 : Int)] 29 (0, 0)), t2 (Fl.int .i64) 26 3 cg cv ci f6 r38, .blk B2 (.cells #[.int .i64 (0 : Int), .bool false, .slice none 0 0, .slice none 0 0, .slice none 0 0, .slice none 0 0, .slice none 0 0, .slice none 0 0, .int .i64 (0 : Int)] 29 (0, 0))]) (e := .row 3 1 (some ⟨R8, 0, none⟩) 0 0 []) Pb rfl
  replace hB := hB.trans (Ef.same.fr _)
  replace hB := Fr.gain (e := .row 3 1 (some ⟨R8, 0, none⟩) 0 0 []) hB (Nat.le_trans hw464 hnb474) rfl
  replace hO := Owns.gain hO Pb J2 rfl hh475 hd473
  refine GoQA.loudI rfl rfl ?_
  intro abf A479 BT
  replace hO := BT.own hO
  obtain ⟨abL, H⟩ := H
  replace I6 := (I6.ch GE).ch (BT.ch _)
  have Z26 := (((A9.ch.trans Bd.ch).trans (Ef.ch _)).trans GE).trans (BT.ch _)
  replace bO := bO.ch Z26
  have hobt := oapp Try.underlying26 ti3 rfl 0 hO rfl I6 bO rfl abL (by decide)
  obtain ⟨ags, IG, IH, adv, gR, J3, R9⟩ := hobt
  dsimp only [sS, sZ] at gR J3
  refine GoAt.step (R9 (by exact rfl) (by exact rfl)) (fun _ => (CSv.cons (cs_eq (blkCell 5 hO rfl rfl) (blkCell 5 gR.own rfl rfl)) (CSv.cons (cs_eq (blkCell 5 hO rfl rfl) (blkCell 5 gR.own rfl rfl)) (CSv.cons (cs_eq (blkCell 5 hO rfl rfl) (blkCell 5 gR.own rfl rfl)) (CSv.nil _ _))))) (Stp.kp hO gR) rfl ?_
  replace hO := gR.own
  have hobt := freeze 0 hO rfl J3
  obtain ⟨hO1, GF, fx, WK⟩ := hobt
  dsimp only [eS, eZ] at hO1 GF fx
  replace hB := ((hB.trans (BT.same.fr _)).trans gR.fr).trans (Owns.dropFr _ _ 0)
  dsimp only [eS, eZ] at hB
  replace hO := hO1; clear hO1
  refine GoQA.alloc rfl rfl (alBuild (n := 1) (parts := [(0, .slice IG (0 + ((ix a0 (k2_367 : Int)).length)) IH)]) (vs := [.slice IG (0 + ((ix a0 (k2_367 : Int)).length)) IH]) Try.underlying22 ti26 (by decide) (by decide) (by decide) (by kernel_rfl) rfl rfl) ?_
  intro Lu A492 Sa A494 BU Pc hd497 hnb498 hh499
  replace hO := BU.own hO
  replace fx := fx.ch (BU.ch _)
  have Gj : Els (Rp.sl (Rp.int .i64)) (bl [.row 39 2 io iV ip tS, .row 3 1 iX iW iY qX, .row 3 1 jY i4 j3 pI, .row 26 1 ke iu kg xn, .blk b49 (.cells #[.int .i64 ((ix a0 (0 : Int)).length : Int), .bool true, .slice cg cv ci, .slice ke iu kg, .slice jY i4 j3, .slice iX iW iY, .slice none 0 0, .slice io iV ip, .int .i64 (0 : Int)] 29 (0, 0)), t2 (Fl.int .i64) 26 3 cg cv ci f6 r38, .blk B2 (.cells #[.int .i64 (0 : Int), .bool false, .slice none 0 0, .slice none 0 0, .slice none 0 0, .slice none 0 0, .slice none 0 0, .slice none 0 0, .int .i64 (0 : Int)] 29 (0, 0))] ++ A492) Lu [.slice IG (0 + ((ix a0 (k2_367 : Int)).length)) IH] [(([] : List Int)) ++ (ix a0 (k2_367 : Int))] := (Els.cons rfl ⟨IG, IH, congrArg some (congrArg (fun nn => Value.slice IG nn IH) WK), fx⟩ (Els.nil _ _ _) (by simp [mx]))
  have Eg := gainCh (w := Lu) (E := [.row 39 2 io iV ip tS, .row 3 1 iX iW iY qX, .row 3 1 jY i4 j3 pI, .row 26 1 ke iu kg xn, .blk b49 (.cells #[.int .i64 ((ix a0 (0 : Int)).length : Int), .bool true, .slice cg cv ci, .slice ke iu kg, .slice jY i4 j3, .slice iX iW iY, .slice none 0 0, .slice io iV ip, .int .i64 (0 : Int)] 29 (0, 0)), t2 (Fl.int .i64) 26 3 cg cv ci f6 r38, .blk B2 (.cells #[.int .i64 (0 : Int), .bool false, .slice none 0 0, .slice none 0 0, .slice none 0 0, .slice none 0 0, .slice none 0 0, .slice none 0 0, .int .i64 (0 : Int)] 29 (0, 0))]) (e := .row 26 1 (some ⟨Sa, 0, none⟩) 1 1 [.slice IG (0 + ((ix a0 (k2_367 : Int)).length)) IH]) Pc rfl
  replace hB := hB.trans (BU.same.fr _)
  replace hB := Fr.gain (e := .row 26 1 (some ⟨Sa, 0, none⟩) 1 1 [.slice IG (0 + ((ix a0 (k2_367 : Int)).length)) IH]) hB (Nat.le_trans hw464 hnb498) rfl
  replace hO := Owns.gain hO Pc J2 rfl hh499 hd497
  refine GoQA.loudI rfl rfl ?_
  intro aar A506 AD
  replace hO := AD.own hO
  replace Gj := (Gj.ch Eg).ch (AD.ch _)
  have hobt := freeze 0 hO rfl Gj
  obtain ⟨hO1, Eh, gs, WL⟩ := hobt
  dsimp only [eS, eZ] at hO1 Eh gs
  replace hB := (hB.trans (AD.same.fr _)).trans (Owns.dropFr _ _ 0)
  dsimp only [eS, eZ] at hB
  replace hO := hO1; clear hO1
  obtain ⟨abM, H⟩ := H
  have Z27 := (((((Z26.trans gR.ch).trans GF).trans (BU.ch _)).trans Eg).trans (AD.ch _)).trans Eh
  replace fJ := fJ.ch Z27
  have hobt := oapp Try.underlying22 ti26 rfl 3 hO rfl fJ gs WL abM (by decide)
  obtain ⟨agt, GG, GH, I7, ug, gO, Sb⟩ := hobt
  dsimp only [sS, sZ] at ug gO
  refine GoAt.step (Sb (by exact rfl) (by exact rfl)) (fun _ => (CSv.cons (cs_eq (blkCell 4 hO rfl rfl) (blkCell 4 ug.own rfl rfl)) (CSv.cons (cs_eq (blkCell 4 hO rfl rfl) (blkCell 4 ug.own rfl rfl)) (CSv.cons (cs_eq (blkCell 4 hO rfl rfl) (blkCell 4 ug.own rfl rfl)) (CSv.nil _ _))))) (Stp.kp hO ug) rfl ?_
  replace hO := ug.own
  refine GoQA.pure rfl (op_fieldAddr Try.underlying29 rfl ti22 rfl (by decide)) rfl rfl ?_
  refine GoQA.alloc rfl rfl (alBuild (n := 1) (parts := [(0, .int .i64 (0 : Int))]) (vs := [.int .i64 (0 : Int)]) Try.underlying26 ti3 (by decide) (by decide) (by decide) (by kernel_rfl) rfl rfl) ?_
  intro Og A522 Sc A524 AE Pd hd527 hnb528 hh529
  replace hO := AE.own hO
  have GJ : Els (Rp.int .i64) (bl [.row 39 2 io iV ip tS, .row 3 1 iX iW iY qX, .row 3 1 jY i4 j3 pI, .row 26 1 GG (iu + 1) GH I7, .blk b49 (.cells #[.int .i64 ((ix a0 (0 : Int)).length : Int), .bool true, .slice cg cv ci, .slice ke iu kg, .slice jY i4 j3, .slice iX iW iY, .slice none 0 0, .slice io iV ip, .int .i64 (0 : Int)] 29 (0, 0)), t2 (Fl.int .i64) 26 3 cg cv ci f6 r38, .blk B2 (.cells #[.int .i64 (0 : Int), .bool false, .slice none 0 0, .slice none 0 0, .slice none 0 0, .slice none 0 0, .slice none 0 0, .slice none 0 0, .int .i64 (0 : Int)] 29 (0, 0))] ++ A522) Og [.int .i64 (0 : Int)] [(0 : Int)] := (Els.cons rfl rfl (Els.nil _ _ _) (by simp [mx]))
  have BV := gainCh (w := Og) (E := [.row 39 2 io iV ip tS, .row 3 1 iX iW iY qX, .row 3 1 jY i4 j3 pI, .row 26 1 GG (iu + 1) GH I7, .blk b49 (.cells #[.int .i64 ((ix a0 (0 : Int)).length : Int), .bool true, .slice cg cv ci, .slice ke iu kg, .slice jY i4 j3, .slice iX iW iY, .slice none 0 0, .slice io iV ip, .int .i64 (0 : Int)] 29 (0, 0)), t2 (Fl.int .i64) 26 3 cg cv ci f6 r38, .blk B2 (.cells #[.int .i64 (0 : Int), .bool false, .slice none 0 0, .slice none 0 0, .slice none 0 0, .slice none 0 0, .slice none 0 0, .slice none 0 0, .int .i64 (0 : Int)] 29 (0, 0))]) (e := .row 3 1 (some ⟨Sc, 0, none⟩) 1 1 [.int .i64 (0 : Int)]) Pd rfl
  replace hB := (hB.trans ug.fr).trans (AE.same.fr _)
  replace hB := Fr.gain (e := .row 3 1 (some ⟨Sc, 0, none⟩) 1 1 [.int .i64 (0 : Int)]) hB (Nat.le_trans hw464 hnb528) rfl
  replace hO := Owns.gain hO Pd J2 rfl hh529 hd527
  refine GoQA.loudI rfl rfl ?_
  intro agu A533 zW
  replace hO := zW.own hO
  replace GJ := (GJ.ch BV).ch (zW.ch _)
  have hobt := freeze 0 hO rfl GJ
  obtain ⟨hO1, BW, lg, WM⟩ := hobt
  dsimp only [eS, eZ] at hO1 BW lg
  replace hB := (hB.trans (zW.same.fr _)).trans (Owns.dropFr _ _ 0)
  dsimp only [eS, eZ] at hB
  replace hO := hO1; clear hO1
  obtain ⟨abN, H⟩ := H
  have Z28 := ((((Z27.trans ug.ch).trans (AE.ch _)).trans BV).trans (zW.ch _)).trans BW
  replace eh := eh.ch Z28
  have hobt := oapp Try.underlying26 ti3 rfl 2 hO rfl eh lg WM abN (by decide)
  obtain ⟨agv, JE, JF, Mw, sF, lN, Sd⟩ := hobt
  dsimp only [sS, sZ] at sF lN
  refine GoAt.step (Sd (by exact rfl) (by exact rfl)) (fun _ => (CSv.cons (cs_eq (blkCell 4 hO rfl rfl) (blkCell 4 sF.own rfl rfl)) (CSv.cons (cs_eq (blkCell 4 hO rfl rfl) (blkCell 4 sF.own rfl rfl)) (CSv.cons (cs_eq (blkCell 4 hO rfl rfl) (blkCell 4 sF.own rfl rfl)) (CSv.nil _ _))))) (Stp.kp hO sF) rfl ?_
  replace hO := sF.own
  refine GoQA.alloc rfl rfl (alBuild (n := 1) (parts := [(0, .int .i64 (k2_367 : Int))]) (vs := [.int .i64 (k2_367 : Int)]) Try.underlying26 ti3 (by decide) (by decide) (by decide) (by kernel_rfl) rfl rfl) ?_
  intro Se A549 Sf A551 zX Pe hd554 hnb555 hh556
  replace hO := zX.own hO
  have cq : Els (Rp.int .i64) (bl [.row 39 2 io iV ip tS, .row 3 1 iX iW iY qX, .row 3 1 JE (i4 + 1) JF Mw, .row 26 1 GG (iu + 1) GH I7, .blk b49 (.cells #[.int .i64 ((ix a0 (0 : Int)).length : Int), .bool true, .slice cg cv ci, .slice ke iu kg, .slice jY i4 j3, .slice iX iW iY, .slice none 0 0, .slice io iV ip, .int .i64 (0 : Int)] 29 (0, 0)), t2 (Fl.int .i64) 26 3 cg cv ci f6 r38, .blk B2 (.cells #[.int .i64 (0 : Int), .bool false, .slice none 0 0, .slice none 0 0, .slice none 0 0, .slice none 0 0, .slice none 0 0, .slice none 0 0, .int .i64 (0 : Int)] 29 (0, 0))] ++ A549) Se [.int .i64 (k2_367 : Int)] [(k2_367 : Int)] := (Els.cons rfl rfl (Els.nil _ _ _) (by simp [mx]))
  have AF := gainCh (w := Se) (E := [.row 39 2 io iV ip tS, .row 3 1 iX iW iY qX, .row 3 1 JE (i4 + 1) JF Mw, .row 26 1 GG (iu + 1) GH I7, .blk b49 (.cells #[.int .i64 ((ix a0 (0 : Int)).length : Int), .bool true, .slice cg cv ci, .slice ke iu kg, .slice jY i4 j3, .slice iX iW iY, .slice none 0 0, .slice io iV ip, .int .i64 (0 : Int)] 29 (0, 0)), t2 (Fl.int .i64) 26 3 cg cv ci f6 r38, .blk B2 (.cells #[.int .i64 (0 : Int), .bool false, .slice none 0 0, .slice none 0 0, .slice none 0 0, .slice none 0 0, .slice none 0 0, .slice none 0 0, .int .i64 (0 : Int)] 29 (0, 0))]) (e := .row 3 1 (some ⟨Sf, 0, none⟩) 1 1 [.int .i64 (k2_367 : Int)]) Pe rfl
  replace hB := (hB.trans sF.fr).trans (zX.same.fr _)
  replace hB := Fr.gain (e := .row 3 1 (some ⟨Sf, 0, none⟩) 1 1 [.int .i64 (k2_367 : Int)]) hB (Nat.le_trans hw464 hnb555) rfl
  replace hO := Owns.gain hO Pe J2 rfl hh556 hd554
  refine GoQA.loudI rfl rfl ?_
  intro agw A560 y8
  replace hO := y8.own hO
  replace cq := (cq.ch AF).ch (y8.ch _)
  have hobt := freeze 0 hO rfl cq
  obtain ⟨hO1, o6, jL, Mx⟩ := hobt
  dsimp only [eS, eZ] at hO1 o6 jL
  replace hB := (hB.trans (y8.same.fr _)).trans (Owns.dropFr _ _ 0)
  dsimp only [eS, eZ] at hB
  replace hO := hO1; clear hO1
  obtain ⟨Ox, H⟩ := H
  have Z29 := ((((Z28.trans sF.ch).trans (zX.ch _)).trans AF).trans (y8.ch _)).trans o6
  replace dS := dS.ch Z29
  have hobt := oapp Try.underlying26 ti3 rfl 1 hO rfl dS jL Mx Ox (by decide)
  obtain ⟨abO, II, IJ, My, gS, lB, KS⟩ := hobt
  dsimp only [sS, sZ] at gS lB
  refine GoAt.step (KS (by exact rfl) (by exact rfl)) (fun _ => (CSv.cons (cs_eq (blkCell 4 hO rfl rfl) (blkCell 4 gS.own rfl rfl)) (CSv.cons (cs_eq (blkCell 4 hO rfl rfl) (blkCell 4 gS.own rfl rfl)) (CSv.cons (cs_eq (blkCell 4 hO rfl rfl) (blkCell 4 gS.own rfl rfl)) (CSv.nil _ _))))) (Stp.kp hO gS) rfl ?_
  replace hO := gS.own
  refine GoQA.lastI rfl rfl ?_
  intro abP A575 y9
  replace hO := y9.own hO
  have hobt := oblkSt2 (v := .slice GG (iu + 1) GH) (i := 3) (cs' := #[.int .i64 ((ix a0 (0 : Int)).length : Int), .bool true, .slice cg cv ci, .slice GG (iu + 1) GH, .slice jY i4 j3, .slice iX iW iY, .slice none 0 0, .slice io iV ip, .int .i64 (0 : Int)]) 4 hO rfl rfl rfl rfl
  obtain ⟨abQ, uh, Sh⟩ := hobt
  dsimp only [sS, sZ] at uh
  refine GoAt.step (Sh Try.underlying22 rfl ti22 (by exact rfl) (by exact rfl)) (fun h => nomatch h) (Stp.kp hO uh) rfl ?_
  replace hO := uh.own
  refine GoQA.pure rfl (op_fieldAddr Try.underlying29 rfl ti26 rfl (by decide)) rfl rfl ?_
  refine GoQA.lastI rfl rfl ?_
  intro agx A581 zc
  replace hO := zc.own hO
  have hobt := oblkSt2 (v := .slice JE (i4 + 1) JF) (i := 4) (cs' := #[.int .i64 ((ix a0 (0 : Int)).length : Int), .bool true, .slice cg cv ci, .slice GG (iu + 1) GH, .slice JE (i4 + 1) JF, .slice iX iW iY, .slice none 0 0, .slice io iV ip, .int .i64 (0 : Int)]) 4 hO rfl rfl rfl rfl
  obtain ⟨agy, ui, Si⟩ := hobt
  dsimp only [sS, sZ] at ui
  refine GoAt.step (Si Try.underlying26 rfl ti26 (by exact rfl) (by exact rfl)) (fun h => nomatch h) (Stp.kp hO ui) rfl ?_
  replace hO := ui.own
  refine GoQA.pure rfl (op_fieldAddr Try.underlying29 rfl ti26 rfl (by decide)) rfl rfl ?_
  refine GoQA.lastI rfl rfl ?_
  intro agz A587 zd
  replace hO := zd.own hO
  have hobt := oblkSt2 (v := .slice II (iW + 1) IJ) (i := 5) (cs' := #[.int .i64 ((ix a0 (0 : Int)).length : Int), .bool true, .slice cg cv ci, .slice GG (iu + 1) GH, .slice JE (i4 + 1) JF, .slice II (iW + 1) IJ, .slice none 0 0, .slice io iV ip, .int .i64 (0 : Int)]) 4 hO rfl rfl rfl rfl
  obtain ⟨agA, uj, Sj⟩ := hobt
  dsimp only [sS, sZ] at uj
  refine GoAt.step (Sj Try.underlying26 rfl ti26 (by exact rfl) (by exact rfl)) (fun h => nomatch h) (Stp.kp hO uj) rfl ?_
  replace hO := uj.own
  refine GoQA.nil ?_
  intro agB A593 zh zY
  replace hO := zh.own hO
  replace hO := hO.permA zY
  refine Go1.inBlock ?_
  refine Go1.cut [(4, .pointer (some ⟨B2, 0, none⟩)), (6, .pointer (some ⟨b49, 0, none⟩)), (7, .int .i64 (0 : Int)), (42, .slice nI a0.length nJ), (43, .int .i64 (a0.length : Int)), (44, .int .i64 (k2_367 : Int))] ⟨rfl, rfl, rfl, rfl, rfl, rfl, trivial⟩ ?_
  intro σ _
  refine zr ?_
  have Z30 := ((((((((Z29.trans gS.ch).trans (y9.ch _)).trans uh.ch).trans (zc.ch _)).trans ui.ch).trans (zd.ch _)).trans uj.ch).trans (zh.ch _)).trans (permCh zY _)
  replace ai := ai.ch Z30
  refine zo (op_add rfl rfl (wrap_i64 (natbd JD ai.bd))) (zm rfl (zn ?_))
  replace hB := (((((((hB.trans gS.fr).trans (y9.same.fr _)).trans uh.fr).trans (zc.same.fr _)).trans ui.fr).trans (zd.same.fr _)).trans uj.fr).trans (zh.same.fr _)
  have Z31 := (((((((y9.ch _).trans uh.ch).trans (zc.ch _)).trans ui.ch).trans (zd.ch _)).trans uj.ch).trans (zh.ch _)).trans (permCh zY _)
  replace lB := lB.ch Z31
  have Z32 := ((((((((((((zX.ch _).trans AF).trans (y8.ch _)).trans o6).trans gS.ch).trans (y9.ch _)).trans uh.ch).trans (zc.ch _)).trans ui.ch).trans (zd.ch _)).trans uj.ch).trans (zh.ch _)).trans (permCh zY _)
  replace lN := lN.ch Z32
  have Z33 := (((((((((((((((((AE.ch _).trans BV).trans (zW.ch _)).trans BW).trans sF.ch).trans (zX.ch _)).trans AF).trans (y8.ch _)).trans o6).trans gS.ch).trans (y9.ch _)).trans uh.ch).trans (zc.ch _)).trans ui.ch).trans (zd.ch _)).trans uj.ch).trans (zh.ch _)).trans (permCh zY _)
  replace gO := gO.ch Z33
  replace cT := cT.ch Z30
  exact hX2 _ H _ _ ⟨iV, io, ip, tS, iW + 1, II, IJ, My, i4 + 1, JE, JF, Mw, iu + 1, GG, GH, I7, ⟨rfl, rfl, rfl, rfl, rfl, rfl, trivial⟩, hO, cT, lB, lN, gO, ai, hB⟩
 replace H := ifn JD H
 refine zo (fun w => opB (op_lss rfl rfl w) (decide_eq_false JD)) (zn (zq (zf rfl rfl ?_)))
 refine Go1.exit rfl ?_
 refine zq (zr (zs (oblkAgg (vs := [.int .i64 ((ix a0 (0 : Int)).length : Int), .bool true, .slice cg cv ci, .slice ke iu kg, .slice jY i4 j3, .slice iX iW iY, .slice none 0 0, .slice io iV ip, .int .i64 (0 : Int)]) (i := 0) 4 hO rfl rfl Try.underlying29 rfl ti29 rfl) ?_))
 have hobt := oblkStAgg (us := [.int .i64 ((ix a0 (0 : Int)).length : Int), .bool true, .slice cg cv ci, .slice ke iu kg, .slice jY i4 j3, .slice iX iW iY, .slice none 0 0, .slice io iV ip, .int .i64 (0 : Int)]) (o := 0) (cs' := #[.int .i64 ((ix a0 (0 : Int)).length : Int), .bool true, .slice cg cv ci, .slice ke iu kg, .slice jY i4 j3, .slice iX iW iY, .slice none 0 0, .slice io iV ip, .int .i64 (0 : Int)]) 6 hO rfl rfl (Nat.le_of_ble_eq_true rfl) rfl
 obtain ⟨abR, Be, Sk⟩ := hobt
 dsimp only [sS, sZ] at Be
 refine zg (Sk ti29 (by exact rfl) (by exact rfl) rfl) ?_
 replace hO := Be.own
 refine za rfl (zn ?_)
 have hobt := t2freezeA 5 hO rfl
 obtain ⟨hO1, H1, AG, WN⟩ := hobt
 dsimp only [eS, eZ] at hO1 H1 AG
 replace hB := (hB.trans Be.fr).trans (Owns.dropFr _ _ 5)
 dsimp only [eS, eZ] at hB
 replace hO := hO1; clear hO1
 replace fJ := (fJ.ch Be.ch).ch H1
 have hobt := freeze 3 hO rfl fJ
 obtain ⟨hO1, H2, Ei, WO⟩ := hobt
 dsimp only [eS, eZ] at hO1 H2 Ei
 replace hB := hB.trans (Owns.dropFr _ _ 3)
 dsimp only [eS, eZ] at hB
 replace hO := hO1; clear hO1
 have Z34 := (Be.ch.trans H1).trans H2
 replace eh := eh.ch Z34
 have hobt := freeze 2 hO rfl eh
 obtain ⟨hO1, H3, H4, WP⟩ := hobt
 dsimp only [eS, eZ] at hO1 H3 H4
 replace hB := hB.trans (Owns.dropFr _ _ 2)
 dsimp only [eS, eZ] at hB
 replace hO := hO1; clear hO1
 replace dS := (dS.ch Z34).ch H3
 have hobt := freeze 1 hO rfl dS
 obtain ⟨hO1, H5, J4, WQ⟩ := hobt
 dsimp only [eS, eZ] at hO1 H5 J4
 replace hB := hB.trans (Owns.dropFr _ _ 1)
 dsimp only [eS, eZ] at hB
 replace hO := hO1; clear hO1
 replace cT := ((cT.ch Z34).ch H3).ch H5
 have hobt := freeze 0 hO rfl cT
 obtain ⟨hO1, H6, Pf, WR⟩ := hobt
 dsimp only [eS, eZ] at hO1 H6 Pf
 replace hB := hB.trans (Owns.dropFr _ _ 0)
 dsimp only [eS, eZ] at hB
 replace hO := hO1; clear hO1
 refine Go1.retC2 Try.func22 rfl rfl (run_loadBlk (vs := [.int .i64 ((ix a0 (0 : Int)).length : Int), .bool true, .slice cg cv ci, .slice ke iu kg, .slice jY i4 j3, .slice iX iW iY, .slice none 0 0, .slice io iV ip, .int .i64 (0 : Int)]) 1 hO rfl rfl Try.underlying29 rfl ti29) ?_
 replace J4 := J4.ch H6
 replace H4 := (H4.ch H5).ch H6
 have Z35 := (H3.trans H5).trans H6
 replace Ei := Ei.ch Z35
 have Z36 := ((H2.trans H3).trans H5).trans H6
 replace AG := AG.ch Z36
 exact ⟨(⟨((ix a0 (0 : Int)).length : Int), true, r38, d_386, d_380, d_374, ([] : List (List Int)), d_368, (0 : Int)⟩ : Enum), (0 : Int), cg, ci, ke, kg, jY, j3, iX, iY, none, 0, io, ip, (congrArg (fun l => Value.tuple (List.toArray l)) (cons_eq (congrArg (fun l => Value.agg (List.toArray l)) (cons_eq rfl (cons_eq rfl (cons_eq (congrArg (fun nn => Value.slice cg nn ci) WN) (cons_eq (congrArg (fun nn => Value.slice ke nn kg) WO) (cons_eq (congrArg (fun nn => Value.slice jY nn j3) WP) (cons_eq (congrArg (fun nn => Value.slice iX nn iY) WQ) (cons_eq rfl (cons_eq (congrArg (fun nn => Value.slice io nn ip) WR) (cons_eq rfl rfl)))))))))) (cons_eq rfl rfl))), hB.same, (AG.ch (Ch.weak _ _ _)), (Ei.ch (Ch.weak _ _ _)), (H4.ch (Ch.weak _ _ _)), (J4.ch (Ch.weak _ _ _)), (ISl.null _ _ _), (Pf.ch (Ch.weak _ _ _)), H⟩
theorem body43 : Body Try.prog 43 := ⟨Try.f43, Try.func43, rfl, by kernel_rfl⟩
theorem walk_ref11_Compose {A : List Nat} {w0 : World} {p_f : Option Addr} {c_f : Nat} {p_g : Option Addr} {c_g : Nat} {f : List Int} {g : List Int} (hA : ∀ b ∈ A, b < w0.heap.size) (h_f : ISl (Rp.int .i64) A w0 p_f c_f f) (h_g : ISl (Rp.int .i64) A w0 p_g c_g g) {K : List Int → Prop} (H : ref11_Compose f g K) :
    CallsV Try.prog 43 #[.slice p_f f.length c_f, .slice p_g g.length c_g] w0 (fun v w' => ∃ (r0 : List Int), ∃ (wU : Option Addr), ∃ (wV : Nat), v = .slice wU r0.length wV ∧ Same w0 w' ∧ ISl (Rp.int .i64) A w' wU wV r0 ∧ K r0) := by
 refine CallsV.of (l := [.slice p_f f.length c_f, .slice p_g g.length c_g]) Try.func43 rfl Try.ntmps43 rfl ?_
 have hO := Owns.start hA
 have hB := Fr.refl (bl []) w0
 unfold ref11_Compose at H
 refine zq (zr (za rfl (zn (zq (zr ?_)))))
 refine zm rfl (zo (op_len Try.underlying26 rfl) ?_)
 replace h_f := h_f.ch (Ch.start A w0)
 replace H := H h_f.bd
 obtain ⟨h8, H⟩ := H
 obtain ⟨h9, H⟩ := H
 have hobt := omake (n := (f.length : Int)) (r := Rp.int .i64) (d := (0 : Int)) Try.underlying26 ti3 (fun _ _ => rfl) rfl hO h8 h9 (by decide)
 obtain ⟨w1, p2, vs3, ou, hE5, hs6, Cn⟩ := hobt
 refine zg (Cn rfl rfl) ?_
 replace hO := ou.own
 refine za rfl (zn (zq (zq (zr (zm rfl ?_)))))
 refine zo (op_len Try.underlying26 rfl) (zm rfl (zn (zb ?_)))
 replace h_f := h_f.ch ou.ch
 replace hB := hB.trans ou.fr
 replace h_g := (h_g.ch (Ch.start A w0)).ch ou.ch
 refine Go1.loopW (S := Nat × List Int) (fun s σ w => match s with | (k1_12, out1_13) => ∃ (lO : List Value), agrees σ [(1, .slice p_g g.length c_g), (5, .slice p2 f.length f.length), (11, .slice p_f f.length c_f), (12, .int .i64 (f.length : Int)), (13, .int .i64 (k1_12 : Int))] ∧ (fun Z0 => Owns w0.heap.size w Z0 A ∧ Els (Rp.int .i64) (bl Z0 ++ A) w lO out1_13 ∧ ISl (Rp.int .i64) (bl Z0 ++ A) w p_f c_f f ∧ ISl (Rp.int .i64) (bl Z0 ++ A) w p_g c_g g ∧ Fr (bl []) w0 (bl Z0) w) [.row 3 1 p2 f.length f.length lO]) H ⟨vs3, ⟨rfl, rfl, rfl, rfl, rfl, trivial⟩, hO, hE5, h_f, h_g, hB⟩ ?_
 intro X1
 refine prE fun k1_12 => fun out1_13 => ?_
 intro H hX1 σ w11
 refine exE fun lO => andE fun hag => andE fun hO => andE fun bt => andE fun h_f => andE fun h_g => fun hB => ?_
 dsimp only at H
 refine Go1.keep [(1, .slice p_g g.length c_g), (5, .slice p2 f.length f.length), (11, .slice p_f f.length c_f), (12, .int .i64 (f.length : Int)), (13, .int .i64 (k1_12 : Int))] hag ?_
 refine zq (zr ?_)
 by_cases h16 : (k1_12 : Int) < (f.length : Int)
 ·replace H := ifp h16 H
  refine zo (fun w => opB (op_lss rfl rfl w) (decide_eq_true h16)) (zn (zq (zt rfl rfl (zk (zq ?_)))))
  refine zb (zq (zr (zm rfl ?_)))
  obtain ⟨h17, H⟩ := H
  obtain ⟨h18, H⟩ := H
  refine zo (op_index Try.underlying26 ti3 rfl rfl h17 h18 (h_f.some_ h17 h18)) (zs (ldInt h_f h17 h18 Try.underlying3 rfl rfl) (za rfl (za rfl (zn (zr ?_)))))
  refine zm rfl (zm rfl (zm rfl (zm rfl ?_)))
  obtain ⟨h19, H⟩ := H
  obtain ⟨h20, H⟩ := H
  refine zo (op_index Try.underlying26 ti3 rfl rfl h19 h20 (h_g.some_ h19 h20)) (zs (ldInt h_g h19 h20 Try.underlying3 rfl rfl) ?_)
  obtain ⟨h21, H⟩ := H
  obtain ⟨h22, H⟩ := H
  refine zo (op_index Try.underlying26 ti3 rfl rfl h21 (ltn (bt.neq hO 0 rfl) h22) (bt.psome hO 0 rfl h21 h22)) ?_
  have hobt := ost (r := Rp.int .i64) rfl 0 hO rfl bt h21 h22 (v := .int .i64 (ix g (ix f (k1_12 : Int)))) (u := (ix g (ix f (k1_12 : Int)))) rfl rfl
  obtain ⟨w23, abS, uE, abT, WS⟩ := hobt
  refine zg (WS Try.underlying3 rfl ti3 (by exact rfl) (by exact rfl)) ?_
  replace hO := uE.own
  refine zn ?_
  refine Go1.inBlock ?_
  refine zr ?_
  replace h_f := h_f.ch uE.ch
  refine zo (op_add rfl rfl (wrap_i64 (natbd h16 h_f.bd))) (zm rfl (zn ?_))
  replace h_g := h_g.ch uE.ch
  replace hB := hB.trans uE.fr
  exact hX1 _ H _ _ ⟨abS, ⟨rfl, rfl, rfl, rfl, rfl, trivial⟩, hO, abT, h_f, h_g, hB⟩
 replace H := ifn h16 H
 refine zo (fun w => opB (op_lss rfl rfl w) (decide_eq_false h16)) (zn (zq (zf rfl rfl ?_)))
 refine Go1.exit rfl ?_
 refine zq (zr (zm rfl (za rfl (zn ?_))))
 have hobt := freeze 0 hO rfl bt
 obtain ⟨hO1, KN, Cr, Oj⟩ := hobt
 replace hO := hO1; clear hO1
 refine Go1.ret1 Try.func43 rfl ?_
 replace hB := hB.trans (Owns.dropFr _ _ 0)
 exact ⟨out1_13, p2, f.length, (congrArg (fun nn => Value.slice p2 nn f.length) Oj), hB.same, (Cr.ch (Ch.weak _ _ _)), H⟩
end Sg
