/- The walks: each call keeps to its plain transformer. Printed by walkgen.py. -/
import Derived.Test.YtjegjjdfgefkoaaTi
import Derived.Test.YtjegjjdfgefkoaaWEnumerateBuilds
import Derived.Test.YtjegjjdfgefkoaaWEnumerateBuildsc
import Derived.Test.YtjegjjdfgefkoaaAl
namespace Sg
open Go Go.RowKit Go.Proofs
set_option linter.unusedVariables false
set_option linter.unusedSimpArgs false
set_option maxRecDepth 100000
set_option maxHeartbeats 4000000
theorem body22 : Body Try.prog 22 := ⟨Try.f22, Try.func22, rfl, by kernel_rfl⟩
theorem walk_ref12_Start {A : List Nat} {w0 : World} {lV : Option Addr} {lW : Nat} {a0 : List (List Int)} {a1 : Bool} (hA : ∀ b ∈ A, b < w0.heap.size) (ad : ISl (Rp.sl (Rp.int .i64)) A w0 lV lW a0) {K : Enum → Int → Prop} (H : ref12_Start a0 a1 K) :
    CallsV Try.prog 22 #[.slice lV a0.length lW, .bool a1] w0 (fun v w' => ∃ (r0 : Enum), ∃ (r1 : Int), ∃ (oN : Option Addr), ∃ (oO : Nat), ∃ (nA : Option Addr), ∃ (nB : Nat), ∃ (mC : Option Addr), ∃ (mD : Nat), ∃ (oP : Option Addr), ∃ (oQ : Nat), ∃ (nC : Option Addr), ∃ (nD : Nat), ∃ (nE : Option Addr), ∃ (nF : Nat), v = .tuple #[.agg #[.int .i64 r0.Points, .bool r0.Monoid, .slice oN r0.Gens.length oO, .slice nA r0.Elems.length nB, .slice mC r0.Prefix.length mD, .slice oP r0.Last.length oQ, .slice nC r0.Right.length nD, .slice nE r0.Rules.length nF, .int .i64 r0.Done], .int .i64 r1] ∧ Same w0 w' ∧ ISl (Rp.sl (Rp.int .i64)) A w' oN oO r0.Gens ∧ ISl (Rp.sl (Rp.int .i64)) A w' nA nB r0.Elems ∧ ISl (Rp.int .i64) A w' mC mD r0.Prefix ∧ ISl (Rp.int .i64) A w' oP oQ r0.Last ∧ ISl (Rp.sl (Rp.int .i64)) A w' nC nD r0.Right ∧ ISl (rpRule) A w' nE nF r0.Rules ∧ K r0 r1) := by
 refine CallsV.of (l := [.slice lV a0.length lW, .bool a1]) Try.func22 rfl Try.ntmps22 rfl ?_
 have hO := Owns.start hA
 have hB := Fr.refl (bl []) w0
 unfold ref12_Start at H
 refine zq (zr ?_)
 have hobt := oalloc (t := 29) (cs := #[.int .i64 (0 : Int), .bool false, .slice none 0 0, .slice none 0 0, .slice none 0 0, .slice none 0 0, .slice none 0 0, .slice none 0 0, .int .i64 (0 : Int)]) ti29 hO rfl
 obtain ⟨w1, B2, et, hs4, sQ⟩ := hobt
 refine GoR.op sQ rfl rfl ?_
 replace hO := et.own
 refine za rfl (zn (zq (zq (zr (zm rfl ?_)))))
 refine zo (op_len Try.underlying22 rfl) ?_
 replace ad := (ad.ch (Ch.start A w0)).ch et.ch
 replace H := H ad.bd
 by_cases h7 : (a0.length : Int) < (1 : Int)
 ·replace H := ifp h7 H
  refine zo (fun w => opB (op_lss rfl rfl w) (decide_eq_true h7)) (zm rfl (zp (zp (zp (zo (op_pickT rfl rfl rfl) ?_)))))
  refine zn (zt rfl rfl (zq (zr (zo (op_build Try.underlying29 ti29 (pl := [(0, 1), (1, 1), (2, 1), (3, 1), (4, 1), (5, 1), (6, 1), (7, 1), (8, 1)]) (vs := []) (cs := #[.int .i64 (0 : Int), .bool false, .slice none 0 0, .slice none 0 0, .slice none 0 0, .slice none 0 0, .slice none 0 0, .slice none 0 0, .int .i64 (0 : Int)]) (by kernel_rfl) rfl (by kernel_rfl)) ?_))))
  have hobt := oblkStAgg (us := [.int .i64 (0 : Int), .bool false, .slice none 0 0, .slice none 0 0, .slice none 0 0, .slice none 0 0, .slice none 0 0, .slice none 0 0, .int .i64 (0 : Int)]) (o := 0) (cs' := #[.int .i64 (0 : Int), .bool false, .slice none 0 0, .slice none 0 0, .slice none 0 0, .slice none 0 0, .slice none 0 0, .slice none 0 0, .int .i64 (0 : Int)]) 0 hO rfl rfl (Nat.le_of_ble_eq_true rfl) rfl
  obtain ⟨w8, qt, HV⟩ := hobt
  refine zg (HV ti29 (by exact rfl) (by exact rfl) rfl) ?_
  replace hO := qt.own
  refine za rfl (zn ?_)
  refine Go1.retC2 Try.func22 rfl rfl (run_loadBlk (vs := [.int .i64 (0 : Int), .bool false, .slice none 0 0, .slice none 0 0, .slice none 0 0, .slice none 0 0, .slice none 0 0, .slice none 0 0, .int .i64 (0 : Int)]) 0 hO rfl rfl Try.underlying29 rfl ti29) ?_
  replace hB := (hB.trans et.fr).trans qt.fr
  exact ⟨(⟨(0 : Int), false, ([] : List (List Int)), ([] : List (List Int)), ([] : List Int), ([] : List Int), ([] : List (List Int)), ([] : List Rule), (0 : Int)⟩ : Enum), (1 : Int), none, 0, none, 0, none, 0, none, 0, none, 0, none, 0, rfl, hB.same, (ISl.null _ _ _), (ISl.null _ _ _), (ISl.null _ _ _), (ISl.null _ _ _), (ISl.null _ _ _), (ISl.null _ _ _), H⟩
 replace H := ifn h7 H
 refine zo (fun w => opB (op_lss rfl rfl w) (decide_eq_false h7)) (zm rfl (zm rfl (zo (op_len Try.underlying22 rfl) ?_)))
 by_cases h11 : (6 : Int) < (a0.length : Int)
 ·replace H := ifp h11 H
  refine zo (fun w => opB (op_gtr rfl rfl w) (decide_eq_true h11)) (zo (op_pickF rfl rfl rfl) (zn (zt rfl rfl (zq (zr ?_)))))
  refine zo (op_build Try.underlying29 ti29 (pl := [(0, 1), (1, 1), (2, 1), (3, 1), (4, 1), (5, 1), (6, 1), (7, 1), (8, 1)]) (vs := []) (cs := #[.int .i64 (0 : Int), .bool false, .slice none 0 0, .slice none 0 0, .slice none 0 0, .slice none 0 0, .slice none 0 0, .slice none 0 0, .int .i64 (0 : Int)]) (by kernel_rfl) rfl (by kernel_rfl)) ?_
  have hobt := oblkStAgg (us := [.int .i64 (0 : Int), .bool false, .slice none 0 0, .slice none 0 0, .slice none 0 0, .slice none 0 0, .slice none 0 0, .slice none 0 0, .int .i64 (0 : Int)]) (o := 0) (cs' := #[.int .i64 (0 : Int), .bool false, .slice none 0 0, .slice none 0 0, .slice none 0 0, .slice none 0 0, .slice none 0 0, .slice none 0 0, .int .i64 (0 : Int)]) 0 hO rfl rfl (Nat.le_of_ble_eq_true rfl) rfl
  obtain ⟨w12, uo, HW⟩ := hobt
  refine zg (HW ti29 (by exact rfl) (by exact rfl) rfl) ?_
  replace hO := uo.own
  refine za rfl (zn ?_)
  refine Go1.retC2 Try.func22 rfl rfl (run_loadBlk (vs := [.int .i64 (0 : Int), .bool false, .slice none 0 0, .slice none 0 0, .slice none 0 0, .slice none 0 0, .slice none 0 0, .slice none 0 0, .int .i64 (0 : Int)]) 0 hO rfl rfl Try.underlying29 rfl ti29) ?_
  replace hB := (hB.trans et.fr).trans uo.fr
  exact ⟨(⟨(0 : Int), false, ([] : List (List Int)), ([] : List (List Int)), ([] : List Int), ([] : List Int), ([] : List (List Int)), ([] : List Rule), (0 : Int)⟩ : Enum), (1 : Int), none, 0, none, 0, none, 0, none, 0, none, 0, none, 0, rfl, hB.same, (ISl.null _ _ _), (ISl.null _ _ _), (ISl.null _ _ _), (ISl.null _ _ _), (ISl.null _ _ _), (ISl.null _ _ _), H⟩
 replace H := ifn h11 H
 refine zo (fun w => opB (op_gtr rfl rfl w) (decide_eq_false h11)) (zo (op_pickF rfl rfl rfl) (zn (zf rfl rfl (zk (zq ?_)))))
 refine zq ?_
 refine Go1.cut [(0, .slice lV a0.length lW), (1, .bool a1), (4, .pointer (some ⟨B2, 0, none⟩))] ⟨rfl, rfl, rfl, trivial⟩ ?_
 intro σ _
 refine zr (zm rfl ?_)
 refine GoR.call (op_call body14 rfl (walk_ref11_MayGens hO.lt ad H)) rfl rfl ?_
 rintro v19 w16 ⟨r15, rfl, KS, H⟩
 have rV := Stp.same hO KS
 replace hO := rV.own
 cases r15
 ·replace H := ifn Bool.false_ne_true H
  refine zo (op_not rfl) (zn (zt rfl rfl (zq (zr (zo (op_build Try.underlying29 ti29 (pl := [(0, 1), (1, 1), (2, 1), (3, 1), (4, 1), (5, 1), (6, 1), (7, 1), (8, 1)]) (vs := []) (cs := #[.int .i64 (0 : Int), .bool false, .slice none 0 0, .slice none 0 0, .slice none 0 0, .slice none 0 0, .slice none 0 0, .slice none 0 0, .int .i64 (0 : Int)]) (by kernel_rfl) rfl (by kernel_rfl)) ?_)))))
  have hobt := oblkStAgg (us := [.int .i64 (0 : Int), .bool false, .slice none 0 0, .slice none 0 0, .slice none 0 0, .slice none 0 0, .slice none 0 0, .slice none 0 0, .int .i64 (0 : Int)]) (o := 0) (cs' := #[.int .i64 (0 : Int), .bool false, .slice none 0 0, .slice none 0 0, .slice none 0 0, .slice none 0 0, .slice none 0 0, .slice none 0 0, .int .i64 (0 : Int)]) 0 hO rfl rfl (Nat.le_of_ble_eq_true rfl) rfl
  obtain ⟨w21, eK, xh⟩ := hobt
  refine zg (xh ti29 (by exact rfl) (by exact rfl) rfl) ?_
  replace hO := eK.own
  refine za rfl (zn ?_)
  refine Go1.retC2 Try.func22 rfl rfl (run_loadBlk (vs := [.int .i64 (0 : Int), .bool false, .slice none 0 0, .slice none 0 0, .slice none 0 0, .slice none 0 0, .slice none 0 0, .slice none 0 0, .int .i64 (0 : Int)]) 0 hO rfl rfl Try.underlying29 rfl ti29) ?_
  replace hB := ((hB.trans et.fr).trans rV.fr).trans eK.fr
  exact ⟨(⟨(0 : Int), false, ([] : List (List Int)), ([] : List (List Int)), ([] : List Int), ([] : List Int), ([] : List (List Int)), ([] : List Rule), (0 : Int)⟩ : Enum), (4 : Int), none, 0, none, 0, none, 0, none, 0, none, 0, none, 0, rfl, hB.same, (ISl.null _ _ _), (ISl.null _ _ _), (ISl.null _ _ _), (ISl.null _ _ _), (ISl.null _ _ _), (ISl.null _ _ _), H⟩
 replace H := ifp rfl H
 refine zo (op_not rfl) (zn (zf rfl rfl (zk (zq ?_))))
 refine Go1.drawA Same.tr A 1 [(0, .pure), (1, .pure), (2, .stable), (3, .pure), (4, .pure), (5, .pure), (6, .loud), (7, .pure), (8, .alloc), (9, .last)] mixed (by kernel_rfl) trivial hO.bd ?_
 intro w24 zS
 have jS := Stp.same hO zS
 replace hO := jS.own
 have Bm := hO.le
 replace hB := ((hB.trans et.fr).trans rV.fr).trans jS.fr
 have hw27 := hB.ch.size
 refine GoQA.pure rfl (op_move rfl) rfl rfl ?_
 obtain ⟨h29, H⟩ := H
 obtain ⟨h30, H⟩ := H
 replace ad := (ad.ch rV.ch).ch jS.ch
 refine GoQA.pure rfl (op_index Try.underlying22 ti26 rfl rfl h29 h30 (ad.some_ h29 h30)) rfl rfl ?_
 have hobt := ldSl ad h29 h30
 obtain ⟨p31, c32, gw, KT⟩ := hobt
 refine GoQA.stable rfl (KT Try.underlying26 rfl rfl) rfl rfl ?_
 refine GoQA.pure rfl (op_len Try.underlying26 rfl) rfl rfl ?_
 replace H := H gw.bd
 refine GoQA.pure rfl (op_move rfl) rfl rfl ?_
 refine GoQA.pure rfl (op_move rfl) rfl rfl ?_
 refine GoQA.loudI rfl rfl ?_
 intro w35 A36 zU
 replace hO := zU.own hO
 replace ad := ad.ch (zU.ch _)
 refine GoAt.call (op_call body24 rfl (walk_ref03_Copy hO.lt ad H)) (fun v w hr => ⟨fun _ => (by obtain ⟨_, _, _, _, _, _, hs, _, _⟩ := hr; exact hs), Same.kp hO (by obtain ⟨_, _, _, _, _, _, hs, _, _⟩ := hr; exact hs)⟩) rfl ?_
 rintro v43 w40 ⟨r38, bS, bH, bI, eF, rfl, Ed, hN42, H⟩
 have t0 := Stp.more hO Ed hN42
 replace hO := t0.own
 refine GoQA.pure rfl (op_build Try.underlying29 ti29 (pl := [(0, 1), (1, 1), (2, 1), (3, 1), (4, 1), (5, 1), (6, 1), (7, 1), (8, 1)]) (vs := [(0, .int .i64 ((ix a0 (0 : Int)).length : Int)), (1, .bool a1), (2, .slice bH bS bI)]) (cs := #[.int .i64 ((ix a0 (0 : Int)).length : Int), .bool a1, .slice bH bS bI, .slice none 0 0, .slice none 0 0, .slice none 0 0, .slice none 0 0, .slice none 0 0, .int .i64 (0 : Int)]) (by kernel_rfl) rfl (by kernel_rfl)) rfl rfl ?_
 refine GoQA.alloc rfl rfl (alAlloc (cs := #[.int .i64 (0 : Int), .bool false, .slice none 0 0, .slice none 0 0, .slice none 0 0, .slice none 0 0, .slice none 0 0, .slice none 0 0, .int .i64 (0 : Int)]) ti29 rfl) ?_
 intro w47 A48 b49 A50 zV Ee hd53 hnb54 hh55
 replace hO := zV.own hO
 have Ef := gainCh (w := w47) (E := [t2 (Fl.int .i64) 26 3 bH bS bI eF r38, .blk B2 (.cells #[.int .i64 (0 : Int), .bool false, .slice none 0 0, .slice none 0 0, .slice none 0 0, .slice none 0 0, .slice none 0 0, .slice none 0 0, .int .i64 (0 : Int)] 29 (0, 0))]) (e := .blk b49 (.cells #[.int .i64 (0 : Int), .bool false, .slice none 0 0, .slice none 0 0, .slice none 0 0, .slice none 0 0, .slice none 0 0, .slice none 0 0, .int .i64 (0 : Int)] 29 (0, 0))) Ee rfl
 replace hB := ((hB.trans (zU.same.fr _)).trans t0.fr).trans (zV.same.fr _)
 replace hB := Fr.gain (e := .blk b49 (.cells #[.int .i64 (0 : Int), .bool false, .slice none 0 0, .slice none 0 0, .slice none 0 0, .slice none 0 0, .slice none 0 0, .slice none 0 0, .int .i64 (0 : Int)] 29 (0, 0))) hB (Nat.le_trans hw27 hnb54) rfl
 replace hO := Owns.gain hO Ee Bm rfl hh55 hd53
 refine GoQA.lastI rfl rfl ?_
 intro w57 A58 zW
 replace hO := zW.own hO
 have hobt := oblkStAgg (us := [.int .i64 ((ix a0 (0 : Int)).length : Int), .bool a1, .slice bH bS bI, .slice none 0 0, .slice none 0 0, .slice none 0 0, .slice none 0 0, .slice none 0 0, .int .i64 (0 : Int)]) (o := 0) (cs' := #[.int .i64 ((ix a0 (0 : Int)).length : Int), .bool a1, .slice bH bS bI, .slice none 0 0, .slice none 0 0, .slice none 0 0, .slice none 0 0, .slice none 0 0, .int .i64 (0 : Int)]) 0 hO rfl rfl (Nat.le_of_ble_eq_true rfl) rfl
 obtain ⟨w60, sq, HX⟩ := hobt
 refine GoAt.step (HX ti29 (by exact rfl) (by exact rfl) rfl) (fun h => nomatch h) (Stp.kp hO sq) rfl ?_
 replace hO := sq.own
 refine GoQA.nil ?_
 intro w63 A64 zX Bn
 replace hO := zX.own hO
 replace hO := hO.permA Bn
 refine zq (zr (za rfl (zn (zq (zq ?_)))))
 refine Go1.cut [(0, .slice lV a0.length lW), (1, .bool a1), (4, .pointer (some ⟨B2, 0, none⟩)), (6, .pointer (some ⟨b49, 0, none⟩)), (7, .int .i64 (-1 : Int))] ⟨rfl, rfl, rfl, rfl, rfl, trivial⟩ ?_
 intro σ _
 refine zr (zm rfl (zn ?_))
 cases a1
 ·replace H := ifn Bool.false_ne_true H
  refine zf rfl rfl (zk (zq (zq (zr (zm rfl ?_)))))
  refine zo (op_len Try.underlying22 rfl) (zm rfl (zn (zb ?_)))
  have iX := Stp.nil (e := 26) (r := 1) hO
  replace hO := iX.own
  have mw := Els.nil (Rp.sl (Rp.int .i64)) (bl (.row 26 1 none 0 0 [] :: [.blk b49 (.cells #[.int .i64 ((ix a0 (0 : Int)).length : Int), .bool false, .slice bH bS bI, .slice none 0 0, .slice none 0 0, .slice none 0 0, .slice none 0 0, .slice none 0 0, .int .i64 (0 : Int)] 29 (0, 0)), t2 (Fl.int .i64) 26 3 bH bS bI eF r38, .blk B2 (.cells #[.int .i64 (0 : Int), .bool false, .slice none 0 0, .slice none 0 0, .slice none 0 0, .slice none 0 0, .slice none 0 0, .slice none 0 0, .int .i64 (0 : Int)] 29 (0, 0))]) ++ A) w63
  have lN := Stp.nil (e := 3) (r := 1) hO
  replace hO := lN.own
  have yr := Els.nil (Rp.int .i64) (bl (.row 3 1 none 0 0 [] :: [.row 26 1 none 0 0 [], .blk b49 (.cells #[.int .i64 ((ix a0 (0 : Int)).length : Int), .bool false, .slice bH bS bI, .slice none 0 0, .slice none 0 0, .slice none 0 0, .slice none 0 0, .slice none 0 0, .int .i64 (0 : Int)] 29 (0, 0)), t2 (Fl.int .i64) 26 3 bH bS bI eF r38, .blk B2 (.cells #[.int .i64 (0 : Int), .bool false, .slice none 0 0, .slice none 0 0, .slice none 0 0, .slice none 0 0, .slice none 0 0, .slice none 0 0, .int .i64 (0 : Int)] 29 (0, 0))]) ++ A) w63
  have fm := Stp.nil (e := 3) (r := 1) hO
  replace hO := fm.own
  have oC := Els.nil (Rp.int .i64) (bl (.row 3 1 none 0 0 [] :: [.row 3 1 none 0 0 [], .row 26 1 none 0 0 [], .blk b49 (.cells #[.int .i64 ((ix a0 (0 : Int)).length : Int), .bool false, .slice bH bS bI, .slice none 0 0, .slice none 0 0, .slice none 0 0, .slice none 0 0, .slice none 0 0, .int .i64 (0 : Int)] 29 (0, 0)), t2 (Fl.int .i64) 26 3 bH bS bI eF r38, .blk B2 (.cells #[.int .i64 (0 : Int), .bool false, .slice none 0 0, .slice none 0 0, .slice none 0 0, .slice none 0 0, .slice none 0 0, .slice none 0 0, .int .i64 (0 : Int)] 29 (0, 0))]) ++ A) w63
  have vq := Stp.nil (e := 39) (r := 2) hO
  replace hO := vq.own
  have KU := Els.nil (rpRule) (bl (.row 39 2 none 0 0 [] :: [.row 3 1 none 0 0 [], .row 3 1 none 0 0 [], .row 26 1 none 0 0 [], .blk b49 (.cells #[.int .i64 ((ix a0 (0 : Int)).length : Int), .bool false, .slice bH bS bI, .slice none 0 0, .slice none 0 0, .slice none 0 0, .slice none 0 0, .slice none 0 0, .int .i64 (0 : Int)] 29 (0, 0)), t2 (Fl.int .i64) 26 3 bH bS bI eF r38, .blk B2 (.cells #[.int .i64 (0 : Int), .bool false, .slice none 0 0, .slice none 0 0, .slice none 0 0, .slice none 0 0, .slice none 0 0, .slice none 0 0, .int .i64 (0 : Int)] 29 (0, 0))]) ++ A) w63
  replace oC := oC.ch vq.ch
  replace yr := (yr.ch fm.ch).ch vq.ch
  have Z1 := (lN.ch.trans fm.ch).trans vq.ch
  replace mw := mw.ch Z1
  replace hB := ((((((hB.trans (zW.same.fr _)).trans sq.fr).trans (zX.same.fr _)).trans iX.fr).trans lN.fr).trans fm.fr).trans vq.fr
  have Z2 := (((((((((t0.ch.trans (zV.ch _)).trans Ef).trans (zW.ch _)).trans sq.ch).trans (zX.ch _)).trans (permCh Bn _)).trans iX.ch).trans lN.ch).trans fm.ch).trans vq.ch
  replace ad := ad.ch Z2
  refine Go1.loopW (S := Nat × List Rule × List Int × List Int × List (List Int)) (fun s σ w => match s with | (k1_80, d_81, d_87, d_93, d_99) => ∃ (n86 : Nat), ∃ (p84 : Option Addr), ∃ (c85 : Nat), ∃ (eQ : List Value), ∃ (n92 : Nat), ∃ (p90 : Option Addr), ∃ (c91 : Nat), ∃ (eU : List Value), ∃ (n98 : Nat), ∃ (p96 : Option Addr), ∃ (c97 : Nat), ∃ (rv : List Value), ∃ (fB : Nat), ∃ (gD : Option Addr), ∃ (gE : Nat), ∃ (qF : List Value), agrees σ [(4, .pointer (some ⟨B2, 0, none⟩)), (6, .pointer (some ⟨b49, 0, none⟩)), (7, .int .i64 (-1 : Int)), (42, .slice lV a0.length lW), (43, .int .i64 (a0.length : Int)), (44, .int .i64 (k1_80 : Int))] ∧ (fun Z0 => Owns w0.heap.size w Z0 A ∧ Els (rpRule) (bl Z0 ++ A) w eQ d_81 ∧ Els (Rp.int .i64) (bl Z0 ++ A) w eU d_87 ∧ Els (Rp.int .i64) (bl Z0 ++ A) w rv d_93 ∧ Els (Rp.sl (Rp.int .i64)) (bl Z0 ++ A) w qF d_99 ∧ ISl (Rp.sl (Rp.int .i64)) (bl Z0 ++ A) w lV lW a0 ∧ Fr (bl []) w0 (bl Z0) w) [.row 39 2 p84 n86 c85 eQ, .row 3 1 p90 n92 c91 eU, .row 3 1 p96 n98 c97 rv, .row 26 1 gD fB gE qF, .blk b49 (.cells #[.int .i64 ((ix a0 (0 : Int)).length : Int), .bool false, .slice bH bS bI, .slice gD fB gE, .slice p96 n98 c97, .slice p90 n92 c91, .slice none 0 0, .slice p84 n86 c85, .int .i64 (0 : Int)] 29 (0, 0)), t2 (Fl.int .i64) 26 3 bH bS bI eF r38, .blk B2 (.cells #[.int .i64 (0 : Int), .bool false, .slice none 0 0, .slice none 0 0, .slice none 0 0, .slice none 0 0, .slice none 0 0, .slice none 0 0, .int .i64 (0 : Int)] 29 (0, 0))]) H ⟨0, none, 0, [], 0, none, 0, [], 0, none, 0, [], 0, none, 0, [], ⟨rfl, rfl, rfl, rfl, rfl, rfl, trivial⟩, hO, KU, oC, yr, mw, ad, hB⟩ ?_
  intro X1
  refine prE fun k1_80 => prE fun d_81 => prE fun d_87 => prE fun d_93 => fun d_99 => ?_
  intro H hX1 σ w79
  refine exE fun n86 => exE fun p84 => exE fun c85 => exE fun eQ => exE fun n92 => exE fun p90 => exE fun c91 => exE fun eU => exE fun n98 => exE fun p96 => exE fun c97 => exE fun rv => exE fun fB => exE fun gD => exE fun gE => exE fun qF => andE fun hag => andE fun hO => andE fun bk => andE fun bD => andE fun eA => andE fun eo => andE fun ad => fun hB => ?_
  dsimp only at H
  refine Go1.keep [(4, .pointer (some ⟨B2, 0, none⟩)), (6, .pointer (some ⟨b49, 0, none⟩)), (7, .int .i64 (-1 : Int)), (42, .slice lV a0.length lW), (43, .int .i64 (a0.length : Int)), (44, .int .i64 (k1_80 : Int))] hag ?_
  refine zq (zr ?_)
  by_cases uJ : (k1_80 : Int) < (a0.length : Int)
  ·replace H := ifp uJ H
   refine zo (fun w => opB (op_lss rfl rfl w) (decide_eq_true uJ)) (zn (zq (zt rfl rfl (zk (zq ?_)))))
   refine zb (zq (zr (zm rfl ?_)))
   obtain ⟨tN, H⟩ := H
   obtain ⟨wU, H⟩ := H
   refine zo (op_index Try.underlying22 ti26 rfl rfl tN wU (ad.some_ tN wU)) ?_
   have hobt := ldSl ad tN wU
   obtain ⟨Eg, Eh, cP, HY⟩ := hobt
   refine zs (HY Try.underlying26 rfl rfl) (za rfl (za rfl (zn (zq (zr ?_)))))
   refine zo (op_fieldAddr Try.underlying29 rfl ti22 rfl (by decide)) (zs (oblk (i := 3) 4 hO rfl rfl Try.underlying22 rfl rfl) (zm rfl ?_))
   have hobt := rowlend 3 hO rfl eo
   obtain ⟨H0, zJ⟩ := hobt
   have hOc114 := hO.drop 3
   refine GoR.call (op_call body41 (show ([.slice gD fB gE, .slice Eg ((ix a0 (k1_80 : Int)).length) Eh] : List Value) = [.slice gD d_99.length gE, .slice Eg ((ix a0 (k1_80 : Int)).length) Eh] from by rw [← zJ]) (walk_ref12_Find hOc114.lt H0 (cP.ch (Owns.dropCh _ _ 3)) H)) rfl rfl ?_
   rintro Pe Pf ⟨r115, rfl, H1, H⟩
   have tB := Stp.same hO H1
   replace hO := tB.own
   refine za rfl (zn (zq (zq (zr (zm rfl ?_)))))
   by_cases zY : (0 : Int) ≤ r115
   ·replace H := ifp zY H
    refine zo (fun w => opB (op_geq rfl rfl w) (decide_eq_true zY)) (zn (zt rfl rfl (zq ?_)))
    refine Go1.drawS 2 [(0, .pure), (1, .stable), (2, .pure), (4, .stable), (5, .pure), (3, .loud), (6, .loud), (7, .pure), (8, .loud), (9, .last), (10, .pure), (11, .last)] mixed (by kernel_rfl) ?_
    intro Pg zd
    have tC := Stp.same hO zd
    replace hO := tC.own
    refine GoQ.pure rfl (op_fieldAddr Try.underlying29 rfl ti27 rfl (by decide)) rfl rfl ?_
    refine GoQ.stable rfl (oblk (i := 7) 4 hO rfl rfl Try.underlying27 rfl rfl) rfl rfl ?_
    refine GoQ.pure rfl (op_move rfl) rfl rfl ?_
    refine GoQ.stable rfl (oblkAgg (vs := [.int .i64 ((ix a0 (0 : Int)).length : Int), .bool false, .slice bH bS bI, .slice gD fB gE, .slice p96 n98 c97, .slice p90 n92 c91, .slice none 0 0, .slice p84 n86 c85, .int .i64 (0 : Int)]) (i := 0) 4 hO rfl rfl Try.underlying29 rfl ti29 rfl) rfl rfl ?_
    refine GoQ.pure rfl (op_move rfl) rfl rfl ?_
    refine GoQ.call rfl (op_call body55 rfl (walk_ref12_letter hO.lt H)) (fun v w hr => by obtain ⟨_, _, hs, _, _⟩ := hr; assumption) rfl rfl ?_
    rintro Ph Pi ⟨r125, rfl, H2, BU, H⟩
    have tD := Stp.same hO H2
    replace hO := tD.own
    have H3 := t2lend 5 hO rfl
    have H4 := t2neq 5 hO rfl
    have hOc133 := hO.drop 5
    have Z3 := (tB.ch.trans tC.ch).trans tD.ch
    replace eo := eo.ch Z3
    have hobt := rowlend 3 hOc133 rfl (eo.ch (Owns.dropCh _ _ 5))
    obtain ⟨H5, H6⟩ := hobt
    have hOc136 := hOc133.drop 3
    replace eA := eA.ch Z3
    have hobt := rowlend 2 hOc136 rfl ((eA.ch (Owns.dropCh _ _ 5)).ch (Owns.dropCh _ _ 3))
    obtain ⟨zQ, zR⟩ := hobt
    have hOc139 := hOc136.drop 2
    replace bD := bD.ch Z3
    have hobt := rowlend 1 hOc139 rfl (((bD.ch (Owns.dropCh _ _ 5)).ch (Owns.dropCh _ _ 3)).ch (Owns.dropCh _ _ 2))
    obtain ⟨H7, H8⟩ := hobt
    have hOc142 := hOc139.drop 1
    replace bk := bk.ch Z3
    have hobt := rowlend 0 hOc142 rfl ((((bk.ch (Owns.dropCh _ _ 5)).ch (Owns.dropCh _ _ 3)).ch (Owns.dropCh _ _ 2)).ch (Owns.dropCh _ _ 1))
    obtain ⟨H9, Ia⟩ := hobt
    have hOc145 := hOc142.drop 0
    refine GoQ.call rfl (op_call body40 (show ([.agg #[.int .i64 ((ix a0 (0 : Int)).length : Int), .bool false, .slice bH bS bI, .slice gD fB gE, .slice p96 n98 c97, .slice p90 n92 c91, .slice none 0 0, .slice p84 n86 c85, .int .i64 (0 : Int)], .int .i64 r115] : List Value) = [.agg #[.int .i64 ((ix a0 (0 : Int)).length : Int), .bool false, .slice bH r38.length bI, .slice gD d_99.length gE, .slice p96 d_93.length c97, .slice p90 d_87.length c91, .slice none 0 0, .slice p84 d_81.length c85, .int .i64 (0 : Int)], .int .i64 r115] from by rw [← H4, ← H6, ← zR, ← H8, ← Ia]) (walk_ref12_Word (e := (⟨((ix a0 (0 : Int)).length : Int), false, r38, d_99, d_93, d_87, [], d_81, (0 : Int)⟩ : Enum)) hOc145.lt ((((H3.ch (Owns.dropCh _ _ 3)).ch (Owns.dropCh _ _ 2)).ch (Owns.dropCh _ _ 1)).ch (Owns.dropCh _ _ 0)) (((H5.ch (Owns.dropCh _ _ 2)).ch (Owns.dropCh _ _ 1)).ch (Owns.dropCh _ _ 0)) ((zQ.ch (Owns.dropCh _ _ 1)).ch (Owns.dropCh _ _ 0)) (H7.ch (Owns.dropCh _ _ 0)) (ISl.null _ _ _) H9 H)) (fun v w hr => by obtain ⟨_, _, hs, _, _⟩ := hr; assumption) rfl rfl ?_
    rintro Pj Pk ⟨r146, rfl, Ib, BV, H⟩
    have tE := Stp.same hO Ib
    replace hO := tE.own
    refine GoQ.pure rfl (op_build Try.underlying39 ti39 (pl := [(0, 1), (1, 1)]) (vs := [(0, .string (gstr r125)), (1, .string (gstr r146))]) (cs := #[.string (gstr r125), .string (gstr r146)]) (by kernel_rfl) rfl (by kernel_rfl)) rfl rfl ?_
    have hobt := obuildN (r := rpRule) (n := 1) (parts := [(0, .agg #[.string (gstr r125), .string (gstr r146)])]) (vs := [.string (gstr r125), .string (gstr r146)]) (xs := [(⟨r125, r146⟩ : Rule)]) Try.underlying27 ti39 hO (by decide) (by decide) (by kernel_rfl) (Els.flat1 (⟨r125, r146⟩ : Rule) ⟨BU, BV⟩) rfl
    obtain ⟨Pl, Pm, gI, Ic, Id, Ei⟩ := hobt
    refine GoQ.loud rfl (Ei rfl) Id rfl rfl ?_
    replace hO := gI.own
    have hobt := freeze 0 hO rfl Ic
    obtain ⟨hO1, vr, b9, Ie⟩ := hobt
    dsimp only [eS, eZ] at hO1 vr b9
    replace hB := (((((hB.trans tB.fr).trans tC.fr).trans tD.fr).trans tE.fr).trans gI.fr).trans (Owns.dropFr _ _ 0)
    dsimp only [eS, eZ] at hB
    replace hO := hO1; clear hO1
    obtain ⟨wM, H⟩ := H
    have Z4 := (tE.ch.trans gI.ch).trans vr
    replace bk := bk.ch Z4
    have hobt := oapp Try.underlying27 ti39 rfl 0 hO rfl bk b9 Ie wM (by decide)
    obtain ⟨Pn, zh, zi, Ig, sE, x4, Ej⟩ := hobt
    dsimp only [sS, sZ] at sE x4
    refine GoQ.last rfl (Ej (by exact rfl) (by exact rfl)) rfl rfl ?_
    replace hO := sE.own
    refine GoQ.pure rfl (op_fieldAddr Try.underlying29 rfl ti27 rfl (by decide)) rfl rfl ?_
    have hobt := oblkSt2 (v := .slice zh (n86 + 1) zi) (i := 7) (cs' := #[.int .i64 ((ix a0 (0 : Int)).length : Int), .bool false, .slice bH bS bI, .slice gD fB gE, .slice p96 n98 c97, .slice p90 n92 c91, .slice none 0 0, .slice zh (n86 + 1) zi, .int .i64 (0 : Int)]) 4 hO rfl rfl rfl rfl
    obtain ⟨Po, d5, Ek⟩ := hobt
    dsimp only [sS, sZ] at d5
    refine GoQ.last rfl (Ek Try.underlying27 rfl ti27 (by exact rfl) (by exact rfl)) rfl rfl ?_
    replace hO := d5.own
    refine GoQ.nil ?_
    refine Go1.exit rfl ?_
    refine Go1.cut [(4, .pointer (some ⟨B2, 0, none⟩)), (6, .pointer (some ⟨b49, 0, none⟩)), (7, .int .i64 (-1 : Int)), (42, .slice lV a0.length lW), (43, .int .i64 (a0.length : Int)), (44, .int .i64 (k1_80 : Int))] ⟨rfl, rfl, rfl, rfl, rfl, rfl, trivial⟩ ?_
    intro σ _
    refine zr ?_
    have Z5 := ((((Z3.trans tE.ch).trans gI.ch).trans vr).trans sE.ch).trans d5.ch
    replace ad := ad.ch Z5
    refine zo (op_add rfl rfl (wrap_i64 (natbd uJ ad.bd))) (zm rfl (zn ?_))
    replace x4 := x4.ch d5.ch
    replace hB := (hB.trans sE.fr).trans d5.fr
    have Z6 := (Z4.trans sE.ch).trans d5.ch
    replace bD := bD.ch Z6
    replace eA := eA.ch Z6
    replace eo := eo.ch Z6
    exact hX1 _ H _ _ ⟨n86 + 1, zh, zi, Ig, n92, p90, c91, eU, n98, p96, c97, rv, fB, gD, gE, qF, ⟨rfl, rfl, rfl, rfl, rfl, rfl, trivial⟩, hO, x4, bD, eA, eo, ad, hB⟩
   replace H := ifn zY H
   refine zo (fun w => opB (op_geq rfl rfl w) (decide_eq_false zY)) (zn (zf rfl rfl (zk ?_)))
   refine Go1.drawA (CSv.tr [(some ⟨b49, 3, none⟩), (some ⟨b49, 4, none⟩), (some ⟨b49, 5, none⟩)]) A 1 [(0, .pure), (1, .stable), (3, .pure), (7, .pure), (8, .stable), (9, .pure), (12, .pure), (13, .stable), (14, .pure), (2, .alloc), (4, .loud), (5, .alloc), (6, .loud), (17, .pure), (10, .alloc), (11, .loud), (15, .alloc), (16, .loud), (18, .last), (19, .pure), (20, .last), (21, .pure), (22, .last)] mixed (by kernel_rfl) trivial hO.bd ?_
   intro Ju yH
   have g5 := Stp.same hO yH
   replace hO := g5.own
   have x5 := hO.le
   replace hB := (hB.trans tB.fr).trans g5.fr
   have hw177 := hB.ch.size
   refine GoQA.pure rfl (op_fieldAddr Try.underlying29 rfl ti22 rfl (by decide)) rfl rfl ?_
   refine GoQA.stable rfl (loadV (.head _) rfl (blkCell 4 hO rfl rfl) Try.underlying22 rfl rfl) rfl rfl ?_
   refine GoQA.pure rfl (op_move rfl) rfl rfl ?_
   refine GoQA.pure rfl (op_fieldAddr Try.underlying29 rfl ti26 rfl (by decide)) rfl rfl ?_
   refine GoQA.stable rfl (loadV (.tail _ (.head _)) rfl (blkCell 4 hO rfl rfl) Try.underlying26 rfl rfl) rfl rfl ?_
   refine GoQA.pure rfl (op_move rfl) rfl rfl ?_
   refine GoQA.pure rfl (op_fieldAddr Try.underlying29 rfl ti26 rfl (by decide)) rfl rfl ?_
   refine GoQA.stable rfl (loadV (.tail _ (.tail _ (.head _))) rfl (blkCell 4 hO rfl rfl) Try.underlying26 rfl rfl) rfl rfl ?_
   refine GoQA.pure rfl (op_move rfl) rfl rfl ?_
   refine GoQA.alloc rfl rfl (alBuild (n := 0) (parts := []) (vs := []) Try.underlying26 ti3 (by decide) (by decide) (by decide) (by kernel_rfl) rfl rfl) ?_
   intro Ah A181 El A183 uy BJ hd186 hnb187 hh188
   replace hO := uy.own hO
   have xo : Els (Rp.int .i64) (bl [.row 39 2 p84 n86 c85 eQ, .row 3 1 p90 n92 c91 eU, .row 3 1 p96 n98 c97 rv, .row 26 1 gD fB gE qF, .blk b49 (.cells #[.int .i64 ((ix a0 (0 : Int)).length : Int), .bool false, .slice bH bS bI, .slice gD fB gE, .slice p96 n98 c97, .slice p90 n92 c91, .slice none 0 0, .slice p84 n86 c85, .int .i64 (0 : Int)] 29 (0, 0)), t2 (Fl.int .i64) 26 3 bH bS bI eF r38, .blk B2 (.cells #[.int .i64 (0 : Int), .bool false, .slice none 0 0, .slice none 0 0, .slice none 0 0, .slice none 0 0, .slice none 0 0, .slice none 0 0, .int .i64 (0 : Int)] 29 (0, 0))] ++ A181) Ah [] (([] : List Int)) := (Els.nil _ _ _)
   have vt := gainCh (w := Ah) (E := [.row 39 2 p84 n86 c85 eQ, .row 3 1 p90 n92 c91 eU, .row 3 1 p96 n98 c97 rv, .row 26 1 gD fB gE qF, .blk b49 (.cells #[.int .i64 ((ix a0 (0 : Int)).length : Int), .bool false, .slice bH bS bI, .slice gD fB gE, .slice p96 n98 c97, .slice p90 n92 c91, .slice none 0 0, .slice p84 n86 c85, .int .i64 (0 : Int)] 29 (0, 0)), t2 (Fl.int .i64) 26 3 bH bS bI eF r38, .blk B2 (.cells #[.int .i64 (0 : Int), .bool false, .slice none 0 0, .slice none 0 0, .slice none 0 0, .slice none 0 0, .slice none 0 0, .slice none 0 0, .int .i64 (0 : Int)] 29 (0, 0))]) (e := .row 3 1 (some ⟨El, 0, none⟩) 0 0 []) BJ rfl
   replace hB := hB.trans (uy.same.fr _)
   replace hB := Fr.gain (e := .row 3 1 (some ⟨El, 0, none⟩) 0 0 []) hB (Nat.le_trans hw177 hnb187) rfl
   replace hO := Owns.gain hO BJ x5 rfl hh188 hd186
   refine GoQA.loudI rfl rfl ?_
   intro Jw A192 t3
   replace hO := t3.own hO
   obtain ⟨KV, H⟩ := H
   replace xo := (xo.ch vt).ch (t3.ch _)
   have Z7 := (((tB.ch.trans g5.ch).trans (uy.ch _)).trans vt).trans (t3.ch _)
   replace cP := cP.ch Z7
   have hobt := oapp Try.underlying26 ti3 rfl 0 hO rfl xo cP rfl KV (by decide)
   obtain ⟨Pp, xb, xc, Mi, oL, BK, yc⟩ := hobt
   dsimp only [sS, sZ] at oL BK
   refine GoAt.step (yc (by exact rfl) (by exact rfl)) (fun _ => (CSv.cons (cs_eq (blkCell 5 hO rfl rfl) (blkCell 5 oL.own rfl rfl)) (CSv.cons (cs_eq (blkCell 5 hO rfl rfl) (blkCell 5 oL.own rfl rfl)) (CSv.cons (cs_eq (blkCell 5 hO rfl rfl) (blkCell 5 oL.own rfl rfl)) (CSv.nil _ _))))) (Stp.kp hO oL) rfl ?_
   replace hO := oL.own
   have hobt := freeze 0 hO rfl BK
   obtain ⟨hO1, vu, d6, Ih⟩ := hobt
   dsimp only [eS, eZ] at hO1 vu d6
   replace hB := ((hB.trans (t3.same.fr _)).trans oL.fr).trans (Owns.dropFr _ _ 0)
   dsimp only [eS, eZ] at hB
   replace hO := hO1; clear hO1
   refine GoQA.alloc rfl rfl (alBuild (n := 1) (parts := [(0, .slice xb (0 + ((ix a0 (k1_80 : Int)).length)) xc)]) (vs := [.slice xb (0 + ((ix a0 (k1_80 : Int)).length)) xc]) Try.underlying22 ti26 (by decide) (by decide) (by decide) (by kernel_rfl) rfl rfl) ?_
   intro Em A205 En A207 t4 BL hd210 hnb211 hh212
   replace hO := t4.own hO
   replace d6 := d6.ch (t4.ch _)
   have ut : Els (Rp.sl (Rp.int .i64)) (bl [.row 39 2 p84 n86 c85 eQ, .row 3 1 p90 n92 c91 eU, .row 3 1 p96 n98 c97 rv, .row 26 1 gD fB gE qF, .blk b49 (.cells #[.int .i64 ((ix a0 (0 : Int)).length : Int), .bool false, .slice bH bS bI, .slice gD fB gE, .slice p96 n98 c97, .slice p90 n92 c91, .slice none 0 0, .slice p84 n86 c85, .int .i64 (0 : Int)] 29 (0, 0)), t2 (Fl.int .i64) 26 3 bH bS bI eF r38, .blk B2 (.cells #[.int .i64 (0 : Int), .bool false, .slice none 0 0, .slice none 0 0, .slice none 0 0, .slice none 0 0, .slice none 0 0, .slice none 0 0, .int .i64 (0 : Int)] 29 (0, 0))] ++ A205) Em [.slice xb (0 + ((ix a0 (k1_80 : Int)).length)) xc] [(([] : List Int)) ++ (ix a0 (k1_80 : Int))] := (Els.cons rfl ⟨xb, xc, congrArg some (congrArg (fun nn => Value.slice xb nn xc) Ih), d6⟩ (Els.nil _ _ _) (by simp [mx]))
   have uz := gainCh (w := Em) (E := [.row 39 2 p84 n86 c85 eQ, .row 3 1 p90 n92 c91 eU, .row 3 1 p96 n98 c97 rv, .row 26 1 gD fB gE qF, .blk b49 (.cells #[.int .i64 ((ix a0 (0 : Int)).length : Int), .bool false, .slice bH bS bI, .slice gD fB gE, .slice p96 n98 c97, .slice p90 n92 c91, .slice none 0 0, .slice p84 n86 c85, .int .i64 (0 : Int)] 29 (0, 0)), t2 (Fl.int .i64) 26 3 bH bS bI eF r38, .blk B2 (.cells #[.int .i64 (0 : Int), .bool false, .slice none 0 0, .slice none 0 0, .slice none 0 0, .slice none 0 0, .slice none 0 0, .slice none 0 0, .int .i64 (0 : Int)] 29 (0, 0))]) (e := .row 26 1 (some ⟨En, 0, none⟩) 1 1 [.slice xb (0 + ((ix a0 (k1_80 : Int)).length)) xc]) BL rfl
   replace hB := hB.trans (t4.same.fr _)
   replace hB := Fr.gain (e := .row 26 1 (some ⟨En, 0, none⟩) 1 1 [.slice xb (0 + ((ix a0 (k1_80 : Int)).length)) xc]) hB (Nat.le_trans hw177 hnb211) rfl
   replace hO := Owns.gain hO BL x5 rfl hh212 hd210
   refine GoQA.loudI rfl rfl ?_
   intro Pq A219 tf
   replace hO := tf.own hO
   replace ut := (ut.ch uz).ch (tf.ch _)
   have hobt := freeze 0 hO rfl ut
   obtain ⟨hO1, uA, eN, Ii⟩ := hobt
   dsimp only [eS, eZ] at hO1 uA eN
   replace hB := (hB.trans (tf.same.fr _)).trans (Owns.dropFr _ _ 0)
   dsimp only [eS, eZ] at hB
   replace hO := hO1; clear hO1
   obtain ⟨KW, H⟩ := H
   have Z8 := (((((Z7.trans oL.ch).trans vu).trans (t4.ch _)).trans uz).trans (tf.ch _)).trans uA
   replace eo := eo.ch Z8
   have hobt := oapp Try.underlying22 ti26 rfl 3 hO rfl eo eN Ii KW (by decide)
   obtain ⟨Pr, vw, vy, xp, nJ, e9, Eo⟩ := hobt
   dsimp only [sS, sZ] at nJ e9
   refine GoAt.step (Eo (by exact rfl) (by exact rfl)) (fun _ => (CSv.cons (cs_eq (blkCell 4 hO rfl rfl) (blkCell 4 nJ.own rfl rfl)) (CSv.cons (cs_eq (blkCell 4 hO rfl rfl) (blkCell 4 nJ.own rfl rfl)) (CSv.cons (cs_eq (blkCell 4 hO rfl rfl) (blkCell 4 nJ.own rfl rfl)) (CSv.nil _ _))))) (Stp.kp hO nJ) rfl ?_
   replace hO := nJ.own
   refine GoQA.pure rfl (op_fieldAddr Try.underlying29 rfl ti22 rfl (by decide)) rfl rfl ?_
   refine GoQA.alloc rfl rfl (alBuild (n := 1) (parts := [(0, .int .i64 (-1 : Int))]) (vs := [.int .i64 (-1 : Int)]) Try.underlying26 ti3 (by decide) (by decide) (by decide) (by kernel_rfl) rfl rfl) ?_
   intro Ep A235 Er A237 tg BM hd240 hnb241 hh242
   replace hO := tg.own hO
   have xq : Els (Rp.int .i64) (bl [.row 39 2 p84 n86 c85 eQ, .row 3 1 p90 n92 c91 eU, .row 3 1 p96 n98 c97 rv, .row 26 1 vw (fB + 1) vy xp, .blk b49 (.cells #[.int .i64 ((ix a0 (0 : Int)).length : Int), .bool false, .slice bH bS bI, .slice gD fB gE, .slice p96 n98 c97, .slice p90 n92 c91, .slice none 0 0, .slice p84 n86 c85, .int .i64 (0 : Int)] 29 (0, 0)), t2 (Fl.int .i64) 26 3 bH bS bI eF r38, .blk B2 (.cells #[.int .i64 (0 : Int), .bool false, .slice none 0 0, .slice none 0 0, .slice none 0 0, .slice none 0 0, .slice none 0 0, .slice none 0 0, .int .i64 (0 : Int)] 29 (0, 0))] ++ A235) Ep [.int .i64 (-1 : Int)] [(-1 : Int)] := (Els.cons rfl rfl (Els.nil _ _ _) (by simp [mx]))
   have t5 := gainCh (w := Ep) (E := [.row 39 2 p84 n86 c85 eQ, .row 3 1 p90 n92 c91 eU, .row 3 1 p96 n98 c97 rv, .row 26 1 vw (fB + 1) vy xp, .blk b49 (.cells #[.int .i64 ((ix a0 (0 : Int)).length : Int), .bool false, .slice bH bS bI, .slice gD fB gE, .slice p96 n98 c97, .slice p90 n92 c91, .slice none 0 0, .slice p84 n86 c85, .int .i64 (0 : Int)] 29 (0, 0)), t2 (Fl.int .i64) 26 3 bH bS bI eF r38, .blk B2 (.cells #[.int .i64 (0 : Int), .bool false, .slice none 0 0, .slice none 0 0, .slice none 0 0, .slice none 0 0, .slice none 0 0, .slice none 0 0, .int .i64 (0 : Int)] 29 (0, 0))]) (e := .row 3 1 (some ⟨Er, 0, none⟩) 1 1 [.int .i64 (-1 : Int)]) BM rfl
   replace hB := (hB.trans nJ.fr).trans (tg.same.fr _)
   replace hB := Fr.gain (e := .row 3 1 (some ⟨Er, 0, none⟩) 1 1 [.int .i64 (-1 : Int)]) hB (Nat.le_trans hw177 hnb241) rfl
   replace hO := Owns.gain hO BM x5 rfl hh242 hd240
   refine GoQA.loudI rfl rfl ?_
   intro Jz A246 sF
   replace hO := sF.own hO
   replace xq := (xq.ch t5).ch (sF.ch _)
   have hobt := freeze 0 hO rfl xq
   obtain ⟨hO1, lJ, cz, yN⟩ := hobt
   dsimp only [eS, eZ] at hO1 lJ cz
   replace hB := (hB.trans (sF.same.fr _)).trans (Owns.dropFr _ _ 0)
   dsimp only [eS, eZ] at hB
   replace hO := hO1; clear hO1
   obtain ⟨KX, H⟩ := H
   have Z9 := ((((Z8.trans nJ.ch).trans (tg.ch _)).trans t5).trans (sF.ch _)).trans lJ
   replace eA := eA.ch Z9
   have hobt := oapp Try.underlying26 ti3 rfl 2 hO rfl eA cz yN KX (by decide)
   obtain ⟨Kk, wV, xL, z3, m9, ir, Et⟩ := hobt
   dsimp only [sS, sZ] at m9 ir
   refine GoAt.step (Et (by exact rfl) (by exact rfl)) (fun _ => (CSv.cons (cs_eq (blkCell 4 hO rfl rfl) (blkCell 4 m9.own rfl rfl)) (CSv.cons (cs_eq (blkCell 4 hO rfl rfl) (blkCell 4 m9.own rfl rfl)) (CSv.cons (cs_eq (blkCell 4 hO rfl rfl) (blkCell 4 m9.own rfl rfl)) (CSv.nil _ _))))) (Stp.kp hO m9) rfl ?_
   replace hO := m9.own
   refine GoQA.alloc rfl rfl (alBuild (n := 1) (parts := [(0, .int .i64 (k1_80 : Int))]) (vs := [.int .i64 (k1_80 : Int)]) Try.underlying26 ti3 (by decide) (by decide) (by decide) (by kernel_rfl) rfl rfl) ?_
   intro Eu A262 Ev A264 sG BN hd267 hnb268 hh269
   replace hO := sG.own hO
   have xr : Els (Rp.int .i64) (bl [.row 39 2 p84 n86 c85 eQ, .row 3 1 p90 n92 c91 eU, .row 3 1 wV (n98 + 1) xL z3, .row 26 1 vw (fB + 1) vy xp, .blk b49 (.cells #[.int .i64 ((ix a0 (0 : Int)).length : Int), .bool false, .slice bH bS bI, .slice gD fB gE, .slice p96 n98 c97, .slice p90 n92 c91, .slice none 0 0, .slice p84 n86 c85, .int .i64 (0 : Int)] 29 (0, 0)), t2 (Fl.int .i64) 26 3 bH bS bI eF r38, .blk B2 (.cells #[.int .i64 (0 : Int), .bool false, .slice none 0 0, .slice none 0 0, .slice none 0 0, .slice none 0 0, .slice none 0 0, .slice none 0 0, .int .i64 (0 : Int)] 29 (0, 0))] ++ A262) Eu [.int .i64 (k1_80 : Int)] [(k1_80 : Int)] := (Els.cons rfl rfl (Els.nil _ _ _) (by simp [mx]))
   have th := gainCh (w := Eu) (E := [.row 39 2 p84 n86 c85 eQ, .row 3 1 p90 n92 c91 eU, .row 3 1 wV (n98 + 1) xL z3, .row 26 1 vw (fB + 1) vy xp, .blk b49 (.cells #[.int .i64 ((ix a0 (0 : Int)).length : Int), .bool false, .slice bH bS bI, .slice gD fB gE, .slice p96 n98 c97, .slice p90 n92 c91, .slice none 0 0, .slice p84 n86 c85, .int .i64 (0 : Int)] 29 (0, 0)), t2 (Fl.int .i64) 26 3 bH bS bI eF r38, .blk B2 (.cells #[.int .i64 (0 : Int), .bool false, .slice none 0 0, .slice none 0 0, .slice none 0 0, .slice none 0 0, .slice none 0 0, .slice none 0 0, .int .i64 (0 : Int)] 29 (0, 0))]) (e := .row 3 1 (some ⟨Ev, 0, none⟩) 1 1 [.int .i64 (k1_80 : Int)]) BN rfl
   replace hB := (hB.trans m9.fr).trans (sG.same.fr _)
   replace hB := Fr.gain (e := .row 3 1 (some ⟨Ev, 0, none⟩) 1 1 [.int .i64 (k1_80 : Int)]) hB (Nat.le_trans hw177 hnb268) rfl
   replace hO := Owns.gain hO BN x5 rfl hh269 hd267
   refine GoQA.loudI rfl rfl ?_
   intro Ps A273 rW
   replace hO := rW.own hO
   replace xr := (xr.ch th).ch (rW.ch _)
   have hobt := freeze 0 hO rfl xr
   obtain ⟨hO1, tj, lQ, Ij⟩ := hobt
   dsimp only [eS, eZ] at hO1 tj lQ
   replace hB := (hB.trans (rW.same.fr _)).trans (Owns.dropFr _ _ 0)
   dsimp only [eS, eZ] at hB
   replace hO := hO1; clear hO1
   obtain ⟨KY, H⟩ := H
   have Z10 := ((((Z9.trans m9.ch).trans (sG.ch _)).trans th).trans (rW.ch _)).trans tj
   replace bD := bD.ch Z10
   have hobt := oapp Try.underlying26 ti3 rfl 1 hO rfl bD lQ Ij KY (by decide)
   obtain ⟨Pt, Bo, Bp, Ik, mt, ni, Ew⟩ := hobt
   dsimp only [sS, sZ] at mt ni
   refine GoAt.step (Ew (by exact rfl) (by exact rfl)) (fun _ => (CSv.cons (cs_eq (blkCell 4 hO rfl rfl) (blkCell 4 mt.own rfl rfl)) (CSv.cons (cs_eq (blkCell 4 hO rfl rfl) (blkCell 4 mt.own rfl rfl)) (CSv.cons (cs_eq (blkCell 4 hO rfl rfl) (blkCell 4 mt.own rfl rfl)) (CSv.nil _ _))))) (Stp.kp hO mt) rfl ?_
   replace hO := mt.own
   refine GoQA.lastI rfl rfl ?_
   intro Pu A288 rX
   replace hO := rX.own hO
   have hobt := oblkSt2 (v := .slice vw (fB + 1) vy) (i := 3) (cs' := #[.int .i64 ((ix a0 (0 : Int)).length : Int), .bool false, .slice bH bS bI, .slice vw (fB + 1) vy, .slice p96 n98 c97, .slice p90 n92 c91, .slice none 0 0, .slice p84 n86 c85, .int .i64 (0 : Int)]) 4 hO rfl rfl rfl rfl
   obtain ⟨Pv, nK, Ex⟩ := hobt
   dsimp only [sS, sZ] at nK
   refine GoAt.step (Ex Try.underlying22 rfl ti22 (by exact rfl) (by exact rfl)) (fun h => nomatch h) (Stp.kp hO nK) rfl ?_
   replace hO := nK.own
   refine GoQA.pure rfl (op_fieldAddr Try.underlying29 rfl ti26 rfl (by decide)) rfl rfl ?_
   refine GoQA.lastI rfl rfl ?_
   intro Kn A294 rY
   replace hO := rY.own hO
   have hobt := oblkSt2 (v := .slice wV (n98 + 1) xL) (i := 4) (cs' := #[.int .i64 ((ix a0 (0 : Int)).length : Int), .bool false, .slice bH bS bI, .slice vw (fB + 1) vy, .slice wV (n98 + 1) xL, .slice p90 n92 c91, .slice none 0 0, .slice p84 n86 c85, .int .i64 (0 : Int)]) 4 hO rfl rfl rfl rfl
   obtain ⟨Ko, fD, Ey⟩ := hobt
   dsimp only [sS, sZ] at fD
   refine GoAt.step (Ey Try.underlying26 rfl ti26 (by exact rfl) (by exact rfl)) (fun h => nomatch h) (Stp.kp hO fD) rfl ?_
   replace hO := fD.own
   refine GoQA.pure rfl (op_fieldAddr Try.underlying29 rfl ti26 rfl (by decide)) rfl rfl ?_
   refine GoQA.lastI rfl rfl ?_
   intro Pw A300 sa
   replace hO := sa.own hO
   have hobt := oblkSt2 (v := .slice Bo (n92 + 1) Bp) (i := 5) (cs' := #[.int .i64 ((ix a0 (0 : Int)).length : Int), .bool false, .slice bH bS bI, .slice vw (fB + 1) vy, .slice wV (n98 + 1) xL, .slice Bo (n92 + 1) Bp, .slice none 0 0, .slice p84 n86 c85, .int .i64 (0 : Int)]) 4 hO rfl rfl rfl rfl
   obtain ⟨Px, nM, Ez⟩ := hobt
   dsimp only [sS, sZ] at nM
   refine GoAt.step (Ez Try.underlying26 rfl ti26 (by exact rfl) (by exact rfl)) (fun h => nomatch h) (Stp.kp hO nM) rfl ?_
   replace hO := nM.own
   refine GoQA.nil ?_
   intro Py A306 sb sH
   replace hO := sb.own hO
   replace hO := hO.permA sH
   refine Go1.inBlock ?_
   refine Go1.cut [(4, .pointer (some ⟨B2, 0, none⟩)), (6, .pointer (some ⟨b49, 0, none⟩)), (7, .int .i64 (-1 : Int)), (42, .slice lV a0.length lW), (43, .int .i64 (a0.length : Int)), (44, .int .i64 (k1_80 : Int))] ⟨rfl, rfl, rfl, rfl, rfl, rfl, trivial⟩ ?_
   intro σ _
   refine zr ?_
   have Z11 := ((((((((Z10.trans mt.ch).trans (rX.ch _)).trans nK.ch).trans (rY.ch _)).trans fD.ch).trans (sa.ch _)).trans nM.ch).trans (sb.ch _)).trans (permCh sH _)
   replace ad := ad.ch Z11
   refine zo (op_add rfl rfl (wrap_i64 (natbd uJ ad.bd))) (zm rfl (zn ?_))
   replace hB := (((((((hB.trans mt.fr).trans (rX.same.fr _)).trans nK.fr).trans (rY.same.fr _)).trans fD.fr).trans (sa.same.fr _)).trans nM.fr).trans (sb.same.fr _)
   have Z12 := (((((((rX.ch _).trans nK.ch).trans (rY.ch _)).trans fD.ch).trans (sa.ch _)).trans nM.ch).trans (sb.ch _)).trans (permCh sH _)
   replace ni := ni.ch Z12
   have Z13 := ((((((((((((sG.ch _).trans th).trans (rW.ch _)).trans tj).trans mt.ch).trans (rX.ch _)).trans nK.ch).trans (rY.ch _)).trans fD.ch).trans (sa.ch _)).trans nM.ch).trans (sb.ch _)).trans (permCh sH _)
   replace ir := ir.ch Z13
   have Z14 := (((((((((((((((((tg.ch _).trans t5).trans (sF.ch _)).trans lJ).trans m9.ch).trans (sG.ch _)).trans th).trans (rW.ch _)).trans tj).trans mt.ch).trans (rX.ch _)).trans nK.ch).trans (rY.ch _)).trans fD.ch).trans (sa.ch _)).trans nM.ch).trans (sb.ch _)).trans (permCh sH _)
   replace e9 := e9.ch Z14
   replace bk := bk.ch Z11
   exact hX1 _ H _ _ ⟨n86, p84, c85, eQ, n92 + 1, Bo, Bp, Ik, n98 + 1, wV, xL, z3, fB + 1, vw, vy, xp, ⟨rfl, rfl, rfl, rfl, rfl, rfl, trivial⟩, hO, bk, ni, ir, e9, ad, hB⟩
  replace H := ifn uJ H
  refine zo (fun w => opB (op_lss rfl rfl w) (decide_eq_false uJ)) (zn (zq (zf rfl rfl ?_)))
  refine Go1.exit rfl ?_
  refine zq (zr (zs (oblkAgg (vs := [.int .i64 ((ix a0 (0 : Int)).length : Int), .bool false, .slice bH bS bI, .slice gD fB gE, .slice p96 n98 c97, .slice p90 n92 c91, .slice none 0 0, .slice p84 n86 c85, .int .i64 (0 : Int)]) (i := 0) 4 hO rfl rfl Try.underlying29 rfl ti29 rfl) ?_))
  have hobt := oblkStAgg (us := [.int .i64 ((ix a0 (0 : Int)).length : Int), .bool false, .slice bH bS bI, .slice gD fB gE, .slice p96 n98 c97, .slice p90 n92 c91, .slice none 0 0, .slice p84 n86 c85, .int .i64 (0 : Int)]) (o := 0) (cs' := #[.int .i64 ((ix a0 (0 : Int)).length : Int), .bool false, .slice bH bS bI, .slice gD fB gE, .slice p96 n98 c97, .slice p90 n92 c91, .slice none 0 0, .slice p84 n86 c85, .int .i64 (0 : Int)]) 6 hO rfl rfl (Nat.le_of_ble_eq_true rfl) rfl
  obtain ⟨Pz, ia, EA⟩ := hobt
  dsimp only [sS, sZ] at ia
  refine zg (EA ti29 (by exact rfl) (by exact rfl) rfl) ?_
  replace hO := ia.own
  refine za rfl (zn ?_)
  have hobt := t2freezeA 5 hO rfl
  obtain ⟨hO1, wv, tk, Il⟩ := hobt
  dsimp only [eS, eZ] at hO1 wv tk
  replace hB := (hB.trans ia.fr).trans (Owns.dropFr _ _ 5)
  dsimp only [eS, eZ] at hB
  replace hO := hO1; clear hO1
  replace eo := (eo.ch ia.ch).ch wv
  have hobt := freeze 3 hO rfl eo
  obtain ⟨hO1, ww, uB, Im⟩ := hobt
  dsimp only [eS, eZ] at hO1 ww uB
  replace hB := hB.trans (Owns.dropFr _ _ 3)
  dsimp only [eS, eZ] at hB
  replace hO := hO1; clear hO1
  have Z15 := (ia.ch.trans wv).trans ww
  replace eA := eA.ch Z15
  have hobt := freeze 2 hO rfl eA
  obtain ⟨hO1, wx, wy, Io⟩ := hobt
  dsimp only [eS, eZ] at hO1 wx wy
  replace hB := hB.trans (Owns.dropFr _ _ 2)
  dsimp only [eS, eZ] at hB
  replace hO := hO1; clear hO1
  replace bD := (bD.ch Z15).ch wx
  have hobt := freeze 1 hO rfl bD
  obtain ⟨hO1, wz, x6, Ip⟩ := hobt
  dsimp only [eS, eZ] at hO1 wz x6
  replace hB := hB.trans (Owns.dropFr _ _ 1)
  dsimp only [eS, eZ] at hB
  replace hO := hO1; clear hO1
  replace bk := ((bk.ch Z15).ch wx).ch wz
  have hobt := freeze 0 hO rfl bk
  obtain ⟨hO1, kV, ja, yO⟩ := hobt
  dsimp only [eS, eZ] at hO1 kV ja
  replace hB := hB.trans (Owns.dropFr _ _ 0)
  dsimp only [eS, eZ] at hB
  replace hO := hO1; clear hO1
  refine Go1.retC2 Try.func22 rfl rfl (run_loadBlk (vs := [.int .i64 ((ix a0 (0 : Int)).length : Int), .bool false, .slice bH bS bI, .slice gD fB gE, .slice p96 n98 c97, .slice p90 n92 c91, .slice none 0 0, .slice p84 n86 c85, .int .i64 (0 : Int)]) 1 hO rfl rfl Try.underlying29 rfl ti29) ?_
  replace x6 := x6.ch kV
  replace wy := (wy.ch wz).ch kV
  have Z16 := (wx.trans wz).trans kV
  replace uB := uB.ch Z16
  have Z17 := ((ww.trans wx).trans wz).trans kV
  replace tk := tk.ch Z17
  exact ⟨(⟨((ix a0 (0 : Int)).length : Int), false, r38, d_99, d_93, d_87, ([] : List (List Int)), d_81, (0 : Int)⟩ : Enum), (0 : Int), bH, bI, gD, gE, p96, c97, p90, c91, none, 0, p84, c85, (congrArg (fun l => Value.tuple (List.toArray l)) (cons_eq (congrArg (fun l => Value.agg (List.toArray l)) (cons_eq rfl (cons_eq rfl (cons_eq (congrArg (fun nn => Value.slice bH nn bI) Il) (cons_eq (congrArg (fun nn => Value.slice gD nn gE) Im) (cons_eq (congrArg (fun nn => Value.slice p96 nn c97) Io) (cons_eq (congrArg (fun nn => Value.slice p90 nn c91) Ip) (cons_eq rfl (cons_eq (congrArg (fun nn => Value.slice p84 nn c85) yO) (cons_eq rfl rfl)))))))))) (cons_eq rfl rfl))), hB.same, (tk.ch (Ch.weak _ _ _)), (uB.ch (Ch.weak _ _ _)), (wy.ch (Ch.weak _ _ _)), (x6.ch (Ch.weak _ _ _)), (ISl.null _ _ _), (ja.ch (Ch.weak _ _ _)), H⟩
 replace H := ifp rfl H
 refine zt rfl rfl (zq (zr (zo (op_fieldAddr Try.underlying29 rfl ti3 rfl (by decide)) (zs (oblk (i := 0) 0 hO rfl rfl Try.underlying3 rfl rfl) ?_))))
 refine GoR.call (op_call body54 rfl (walk_ref03_Discrete hO.lt H)) rfl rfl ?_
 rintro PA JE ⟨r327, v7, v8, rfl, Iq, na, H⟩
 have i5 := Stp.same hO Iq
 replace hO := i5.own
 have hobt := obuild (r := Rp.sl (Rp.int .i64)) (n := 1) (parts := [(0, .slice v7 r327.length v8)]) (vs := [.slice v7 r327.length v8]) (xs := [r327]) rfl Try.underlying22 ti26 hO (by decide) (by kernel_rfl) (Els.cons rfl ⟨v7, v8, rfl, na⟩ (Els.nil _ _ _) (by simp [mx])) rfl
 obtain ⟨PB, xd, wa, ri, Mj, yg⟩ := hobt
 refine zg (yg rfl) ?_
 replace hO := wa.own
 have hobt := obuild (r := Rp.int .i64) (n := 1) (parts := [(0, .int .i64 (-1 : Int))]) (vs := [.int .i64 (-1 : Int)]) (xs := [(-1 : Int)]) rfl Try.underlying26 ti3 hO (by decide) (by kernel_rfl) (Els.cons rfl rfl (Els.nil _ _ _) (by simp [mx])) rfl
 obtain ⟨Ks, wY, gH, rg, G1, yo⟩ := hobt
 refine zg (yo rfl) ?_
 replace hO := gH.own
 have hobt := obuild (r := Rp.int .i64) (n := 1) (parts := [(0, .int .i64 (-1 : Int))]) (vs := [.int .i64 (-1 : Int)]) (xs := [(-1 : Int)]) rfl Try.underlying26 ti3 hO (by decide) (by kernel_rfl) (Els.cons rfl rfl (Els.nil _ _ _) (by simp [mx])) rfl
 obtain ⟨PC, yt, ui, t6, Mk, EB⟩ := hobt
 refine zg (EB rfl) ?_
 replace hO := ui.own
 refine zo (op_fieldAddr Try.underlying29 rfl ti22 rfl (by decide)) ?_
 have hobt := oblkSt2 (v := .slice xd 1 1) (i := 3) (cs' := #[.int .i64 ((ix a0 (0 : Int)).length : Int), .bool true, .slice bH bS bI, .slice xd 1 1, .slice none 0 0, .slice none 0 0, .slice none 0 0, .slice none 0 0, .int .i64 (0 : Int)]) 3 hO rfl rfl rfl rfl
 obtain ⟨PD, fu, yh⟩ := hobt
 dsimp only [sS, sZ] at fu
 refine zg (yh Try.underlying22 rfl ti22 (by exact rfl) (by exact rfl)) ?_
 replace hO := fu.own
 refine zo (op_fieldAddr Try.underlying29 rfl ti26 rfl (by decide)) ?_
 have hobt := oblkSt2 (v := .slice wY 1 1) (i := 4) (cs' := #[.int .i64 ((ix a0 (0 : Int)).length : Int), .bool true, .slice bH bS bI, .slice xd 1 1, .slice wY 1 1, .slice none 0 0, .slice none 0 0, .slice none 0 0, .int .i64 (0 : Int)]) 3 hO rfl rfl rfl rfl
 obtain ⟨PE, sI, EC⟩ := hobt
 dsimp only [sS, sZ] at sI
 refine zg (EC Try.underlying26 rfl ti26 (by exact rfl) (by exact rfl)) ?_
 replace hO := sI.own
 refine zo (op_fieldAddr Try.underlying29 rfl ti26 rfl (by decide)) ?_
 have hobt := oblkSt2 (v := .slice yt 1 1) (i := 5) (cs' := #[.int .i64 ((ix a0 (0 : Int)).length : Int), .bool true, .slice bH bS bI, .slice xd 1 1, .slice wY 1 1, .slice yt 1 1, .slice none 0 0, .slice none 0 0, .int .i64 (0 : Int)]) 3 hO rfl rfl rfl rfl
 obtain ⟨K1, sJ, ED⟩ := hobt
 dsimp only [sS, sZ] at sJ
 refine zg (ED Try.underlying26 rfl ti26 (by exact rfl) (by exact rfl)) ?_
 replace hO := sJ.own
 refine zn (zr (za rfl (zn (zq (zq ?_)))))
 refine zr (zm rfl (zo (op_len Try.underlying22 rfl) (zm rfl (zn (zb ?_)))))
 have tF := Stp.nil (e := 39) (r := 2) hO
 replace hO := tF.own
 have Ir := Els.nil (rpRule) (bl (.row 39 2 none 0 0 [] :: [.row 3 1 yt 1 1 [.int .i64 (-1 : Int)], .row 3 1 wY 1 1 [.int .i64 (-1 : Int)], .row 26 1 xd 1 1 [.slice v7 r327.length v8], .blk b49 (.cells #[.int .i64 ((ix a0 (0 : Int)).length : Int), .bool true, .slice bH bS bI, .slice xd 1 1, .slice wY 1 1, .slice yt 1 1, .slice none 0 0, .slice none 0 0, .int .i64 (0 : Int)] 29 (0, 0)), t2 (Fl.int .i64) 26 3 bH bS bI eF r38, .blk B2 (.cells #[.int .i64 (0 : Int), .bool false, .slice none 0 0, .slice none 0 0, .slice none 0 0, .slice none 0 0, .slice none 0 0, .slice none 0 0, .int .i64 (0 : Int)] 29 (0, 0))]) ++ A) K1
 have Z18 := ((fu.ch.trans sI.ch).trans sJ.ch).trans tF.ch
 replace t6 := t6.ch Z18
 have Z19 := (((ui.ch.trans fu.ch).trans sI.ch).trans sJ.ch).trans tF.ch
 replace rg := rg.ch Z19
 have Z20 := ((((gH.ch.trans ui.ch).trans fu.ch).trans sI.ch).trans sJ.ch).trans tF.ch
 replace ri := ri.ch Z20
 replace hB := ((((((((((hB.trans (zW.same.fr _)).trans sq.fr).trans (zX.same.fr _)).trans i5.fr).trans wa.fr).trans gH.fr).trans ui.fr).trans fu.fr).trans sI.fr).trans sJ.fr).trans tF.fr
 have Z21 := (((((((((((((t0.ch.trans (zV.ch _)).trans Ef).trans (zW.ch _)).trans sq.ch).trans (zX.ch _)).trans (permCh Bn _)).trans i5.ch).trans wa.ch).trans gH.ch).trans ui.ch).trans fu.ch).trans sI.ch).trans sJ.ch).trans tF.ch
 replace ad := ad.ch Z21
 refine Go1.loopW (S := Nat × List Rule × List Int × List Int × List (List Int)) (fun s σ w => match s with | (k2_367, d_368, d_374, d_380, d_386) => ∃ (fS : Nat), ∃ (fy : Option Addr), ∃ (fA : Nat), ∃ (nj : List Value), ∃ (fT : Nat), ∃ (fU : Option Addr), ∃ (fV : Nat), ∃ (lL : List Value), ∃ (fW : Nat), ∃ (gx : Option Addr), ∃ (gy : Nat), ∃ (oc : List Value), ∃ (fC : Nat), ∃ (gF : Option Addr), ∃ (gG : Nat), ∃ (qG : List Value), agrees σ [(4, .pointer (some ⟨B2, 0, none⟩)), (6, .pointer (some ⟨b49, 0, none⟩)), (7, .int .i64 (0 : Int)), (42, .slice lV a0.length lW), (43, .int .i64 (a0.length : Int)), (44, .int .i64 (k2_367 : Int))] ∧ (fun Z0 => Owns w0.heap.size w Z0 A ∧ Els (rpRule) (bl Z0 ++ A) w nj d_368 ∧ Els (Rp.int .i64) (bl Z0 ++ A) w lL d_374 ∧ Els (Rp.int .i64) (bl Z0 ++ A) w oc d_380 ∧ Els (Rp.sl (Rp.int .i64)) (bl Z0 ++ A) w qG d_386 ∧ ISl (Rp.sl (Rp.int .i64)) (bl Z0 ++ A) w lV lW a0 ∧ Fr (bl []) w0 (bl Z0) w) [.row 39 2 fy fS fA nj, .row 3 1 fU fT fV lL, .row 3 1 gx fW gy oc, .row 26 1 gF fC gG qG, .blk b49 (.cells #[.int .i64 ((ix a0 (0 : Int)).length : Int), .bool true, .slice bH bS bI, .slice gF fC gG, .slice gx fW gy, .slice fU fT fV, .slice none 0 0, .slice fy fS fA, .int .i64 (0 : Int)] 29 (0, 0)), t2 (Fl.int .i64) 26 3 bH bS bI eF r38, .blk B2 (.cells #[.int .i64 (0 : Int), .bool false, .slice none 0 0, .slice none 0 0, .slice none 0 0, .slice none 0 0, .slice none 0 0, .slice none 0 0, .int .i64 (0 : Int)] 29 (0, 0))]) H ⟨0, none, 0, [], 1, yt, 1, [.int .i64 (-1 : Int)], 1, wY, 1, [.int .i64 (-1 : Int)], 1, xd, 1, [.slice v7 r327.length v8], ⟨rfl, rfl, rfl, rfl, rfl, rfl, trivial⟩, hO, Ir, t6, rg, ri, ad, hB⟩ ?_
 intro X2
 refine prE fun k2_367 => prE fun d_368 => prE fun d_374 => prE fun d_380 => fun d_386 => ?_
 intro H hX2 σ PF
 refine exE fun fS => exE fun fy => exE fun fA => exE fun nj => exE fun fT => exE fun fU => exE fun fV => exE fun lL => exE fun fW => exE fun gx => exE fun gy => exE fun oc => exE fun fC => exE fun gF => exE fun gG => exE fun qG => andE fun hag => andE fun hO => andE fun cp => andE fun dq => andE fun dG => andE fun er => andE fun ad => fun hB => ?_
 dsimp only at H
 refine Go1.keep [(4, .pointer (some ⟨B2, 0, none⟩)), (6, .pointer (some ⟨b49, 0, none⟩)), (7, .int .i64 (0 : Int)), (42, .slice lV a0.length lW), (43, .int .i64 (a0.length : Int)), (44, .int .i64 (k2_367 : Int))] hag ?_
 refine zq (zr ?_)
 by_cases xM : (k2_367 : Int) < (a0.length : Int)
 ·replace H := ifp xM H
  refine zo (fun w => opB (op_lss rfl rfl w) (decide_eq_true xM)) (zn (zq (zt rfl rfl (zk (zq ?_)))))
  refine zb (zq (zr (zm rfl ?_)))
  obtain ⟨Bq, H⟩ := H
  obtain ⟨Br, H⟩ := H
  refine zo (op_index Try.underlying22 ti26 rfl rfl Bq Br (ad.some_ Bq Br)) ?_
  have hobt := ldSl ad Bq Br
  obtain ⟨EE, EF, bo, It⟩ := hobt
  refine zs (It Try.underlying26 rfl rfl) (za rfl (za rfl (zn (zq (zr ?_)))))
  refine zo (op_fieldAddr Try.underlying29 rfl ti22 rfl (by decide)) (zs (oblk (i := 3) 4 hO rfl rfl Try.underlying22 rfl rfl) (zm rfl ?_))
  have hobt := rowlend 3 hO rfl er
  obtain ⟨Iu, Iv⟩ := hobt
  have hOc401 := hO.drop 3
  refine GoR.call (op_call body41 (show ([.slice gF fC gG, .slice EE ((ix a0 (k2_367 : Int)).length) EF] : List Value) = [.slice gF d_386.length gG, .slice EE ((ix a0 (k2_367 : Int)).length) EF] from by rw [← Iv]) (walk_ref12_Find hOc401.lt Iu (bo.ch (Owns.dropCh _ _ 3)) H)) rfl rfl ?_
  rintro PG PH ⟨r402, rfl, Iw, H⟩
  have tG := Stp.same hO Iw
  replace hO := tG.own
  refine za rfl (zn (zq (zq (zr (zm rfl ?_)))))
  by_cases z4 : (0 : Int) ≤ r402
  ·replace H := ifp z4 H
   refine zo (fun w => opB (op_geq rfl rfl w) (decide_eq_true z4)) (zn (zt rfl rfl (zq ?_)))
   refine Go1.drawS 2 [(0, .pure), (1, .stable), (2, .pure), (4, .stable), (5, .pure), (3, .loud), (6, .loud), (7, .pure), (8, .loud), (9, .last), (10, .pure), (11, .last)] mixed (by kernel_rfl) ?_
   intro Kv Ix
   have tH := Stp.same hO Ix
   replace hO := tH.own
   refine GoQ.pure rfl (op_fieldAddr Try.underlying29 rfl ti27 rfl (by decide)) rfl rfl ?_
   refine GoQ.stable rfl (oblk (i := 7) 4 hO rfl rfl Try.underlying27 rfl rfl) rfl rfl ?_
   refine GoQ.pure rfl (op_move rfl) rfl rfl ?_
   refine GoQ.stable rfl (oblkAgg (vs := [.int .i64 ((ix a0 (0 : Int)).length : Int), .bool true, .slice bH bS bI, .slice gF fC gG, .slice gx fW gy, .slice fU fT fV, .slice none 0 0, .slice fy fS fA, .int .i64 (0 : Int)]) (i := 0) 4 hO rfl rfl Try.underlying29 rfl ti29 rfl) rfl rfl ?_
   refine GoQ.pure rfl (op_move rfl) rfl rfl ?_
   refine GoQ.call rfl (op_call body55 rfl (walk_ref12_letter hO.lt H)) (fun v w hr => by obtain ⟨_, _, hs, _, _⟩ := hr; assumption) rfl rfl ?_
   rintro PI JH ⟨r412, rfl, Iy, BW, H⟩
   have tI := Stp.same hO Iy
   replace hO := tI.own
   have Iz := t2lend 5 hO rfl
   have IA := t2neq 5 hO rfl
   have hOc420 := hO.drop 5
   have Z22 := (tG.ch.trans tH.ch).trans tI.ch
   replace er := er.ch Z22
   have hobt := rowlend 3 hOc420 rfl (er.ch (Owns.dropCh _ _ 5))
   obtain ⟨IB, IC⟩ := hobt
   have hOc423 := hOc420.drop 3
   replace dG := dG.ch Z22
   have hobt := rowlend 2 hOc423 rfl ((dG.ch (Owns.dropCh _ _ 5)).ch (Owns.dropCh _ _ 3))
   obtain ⟨ID, IE⟩ := hobt
   have hOc426 := hOc423.drop 2
   replace dq := dq.ch Z22
   have hobt := rowlend 1 hOc426 rfl (((dq.ch (Owns.dropCh _ _ 5)).ch (Owns.dropCh _ _ 3)).ch (Owns.dropCh _ _ 2))
   obtain ⟨IF, IG⟩ := hobt
   have hOc429 := hOc426.drop 1
   replace cp := cp.ch Z22
   have hobt := rowlend 0 hOc429 rfl ((((cp.ch (Owns.dropCh _ _ 5)).ch (Owns.dropCh _ _ 3)).ch (Owns.dropCh _ _ 2)).ch (Owns.dropCh _ _ 1))
   obtain ⟨IH, II⟩ := hobt
   have hOc432 := hOc429.drop 0
   refine GoQ.call rfl (op_call body40 (show ([.agg #[.int .i64 ((ix a0 (0 : Int)).length : Int), .bool true, .slice bH bS bI, .slice gF fC gG, .slice gx fW gy, .slice fU fT fV, .slice none 0 0, .slice fy fS fA, .int .i64 (0 : Int)], .int .i64 r402] : List Value) = [.agg #[.int .i64 ((ix a0 (0 : Int)).length : Int), .bool true, .slice bH r38.length bI, .slice gF d_386.length gG, .slice gx d_380.length gy, .slice fU d_374.length fV, .slice none 0 0, .slice fy d_368.length fA, .int .i64 (0 : Int)], .int .i64 r402] from by rw [← IA, ← IC, ← IE, ← IG, ← II]) (walk_ref12_Word (e := (⟨((ix a0 (0 : Int)).length : Int), true, r38, d_386, d_380, d_374, [], d_368, (0 : Int)⟩ : Enum)) hOc432.lt ((((Iz.ch (Owns.dropCh _ _ 3)).ch (Owns.dropCh _ _ 2)).ch (Owns.dropCh _ _ 1)).ch (Owns.dropCh _ _ 0)) (((IB.ch (Owns.dropCh _ _ 2)).ch (Owns.dropCh _ _ 1)).ch (Owns.dropCh _ _ 0)) ((ID.ch (Owns.dropCh _ _ 1)).ch (Owns.dropCh _ _ 0)) (IF.ch (Owns.dropCh _ _ 0)) (ISl.null _ _ _) IH H)) (fun v w hr => by obtain ⟨_, _, hs, _, _⟩ := hr; assumption) rfl rfl ?_
   rintro PJ Kx ⟨r433, rfl, IJ, BX, H⟩
   have tJ := Stp.same hO IJ
   replace hO := tJ.own
   refine GoQ.pure rfl (op_build Try.underlying39 ti39 (pl := [(0, 1), (1, 1)]) (vs := [(0, .string (gstr r412)), (1, .string (gstr r433))]) (cs := #[.string (gstr r412), .string (gstr r433)]) (by kernel_rfl) rfl (by kernel_rfl)) rfl rfl ?_
   have hobt := obuildN (r := rpRule) (n := 1) (parts := [(0, .agg #[.string (gstr r412), .string (gstr r433)])]) (vs := [.string (gstr r412), .string (gstr r433)]) (xs := [(⟨r412, r433⟩ : Rule)]) Try.underlying27 ti39 hO (by decide) (by decide) (by kernel_rfl) (Els.flat1 (⟨r412, r433⟩ : Rule) ⟨BW, BX⟩) rfl
   obtain ⟨PK, PM, tK, IK, IL, EG⟩ := hobt
   refine GoQ.loud rfl (EG rfl) IL rfl rfl ?_
   replace hO := tK.own
   have hobt := freeze 0 hO rfl IK
   obtain ⟨hO1, vz, wA, IM⟩ := hobt
   dsimp only [eS, eZ] at hO1 vz wA
   replace hB := (((((hB.trans tG.fr).trans tH.fr).trans tI.fr).trans tJ.fr).trans tK.fr).trans (Owns.dropFr _ _ 0)
   dsimp only [eS, eZ] at hB
   replace hO := hO1; clear hO1
   obtain ⟨K2, H⟩ := H
   have Z23 := (tJ.ch.trans tK.ch).trans vz
   replace cp := cp.ch Z23
   have hobt := oapp Try.underlying27 ti39 rfl 0 hO rfl cp wA IM K2 (by decide)
   obtain ⟨PN, Bs, Bt, IN, fv, x7, EH⟩ := hobt
   dsimp only [sS, sZ] at fv x7
   refine GoQ.last rfl (EH (by exact rfl) (by exact rfl)) rfl rfl ?_
   replace hO := fv.own
   refine GoQ.pure rfl (op_fieldAddr Try.underlying29 rfl ti27 rfl (by decide)) rfl rfl ?_
   have hobt := oblkSt2 (v := .slice Bs (fS + 1) Bt) (i := 7) (cs' := #[.int .i64 ((ix a0 (0 : Int)).length : Int), .bool true, .slice bH bS bI, .slice gF fC gG, .slice gx fW gy, .slice fU fT fV, .slice none 0 0, .slice Bs (fS + 1) Bt, .int .i64 (0 : Int)]) 4 hO rfl rfl rfl rfl
   obtain ⟨PO, jD, EI⟩ := hobt
   dsimp only [sS, sZ] at jD
   refine GoQ.last rfl (EI Try.underlying27 rfl ti27 (by exact rfl) (by exact rfl)) rfl rfl ?_
   replace hO := jD.own
   refine GoQ.nil ?_
   refine Go1.exit rfl ?_
   refine Go1.cut [(4, .pointer (some ⟨B2, 0, none⟩)), (6, .pointer (some ⟨b49, 0, none⟩)), (7, .int .i64 (0 : Int)), (42, .slice lV a0.length lW), (43, .int .i64 (a0.length : Int)), (44, .int .i64 (k2_367 : Int))] ⟨rfl, rfl, rfl, rfl, rfl, rfl, trivial⟩ ?_
   intro σ _
   refine zr ?_
   have Z24 := ((((Z22.trans tJ.ch).trans tK.ch).trans vz).trans fv.ch).trans jD.ch
   replace ad := ad.ch Z24
   refine zo (op_add rfl rfl (wrap_i64 (natbd xM ad.bd))) (zm rfl (zn ?_))
   replace x7 := x7.ch jD.ch
   replace hB := (hB.trans fv.fr).trans jD.fr
   have Z25 := (Z23.trans fv.ch).trans jD.ch
   replace dq := dq.ch Z25
   replace dG := dG.ch Z25
   replace er := er.ch Z25
   exact hX2 _ H _ _ ⟨fS + 1, Bs, Bt, IN, fT, fU, fV, lL, fW, gx, gy, oc, fC, gF, gG, qG, ⟨rfl, rfl, rfl, rfl, rfl, rfl, trivial⟩, hO, x7, dq, dG, er, ad, hB⟩
  replace H := ifn z4 H
  refine zo (fun w => opB (op_geq rfl rfl w) (decide_eq_false z4)) (zn (zf rfl rfl (zk ?_)))
  refine Go1.drawA (CSv.tr [(some ⟨b49, 3, none⟩), (some ⟨b49, 4, none⟩), (some ⟨b49, 5, none⟩)]) A 1 [(0, .pure), (1, .stable), (3, .pure), (7, .pure), (8, .stable), (9, .pure), (12, .pure), (13, .stable), (14, .pure), (2, .alloc), (4, .loud), (5, .alloc), (6, .loud), (17, .pure), (10, .alloc), (11, .loud), (15, .alloc), (16, .loud), (18, .last), (19, .pure), (20, .last), (21, .pure), (22, .last)] mixed (by kernel_rfl) trivial hO.bd ?_
  intro PP IQ
  have tL := Stp.same hO IQ
  replace hO := tL.own
  have x8 := hO.le
  replace hB := (hB.trans tG.fr).trans tL.fr
  have hw464 := hB.ch.size
  refine GoQA.pure rfl (op_fieldAddr Try.underlying29 rfl ti22 rfl (by decide)) rfl rfl ?_
  refine GoQA.stable rfl (loadV (.head _) rfl (blkCell 4 hO rfl rfl) Try.underlying22 rfl rfl) rfl rfl ?_
  refine GoQA.pure rfl (op_move rfl) rfl rfl ?_
  refine GoQA.pure rfl (op_fieldAddr Try.underlying29 rfl ti26 rfl (by decide)) rfl rfl ?_
  refine GoQA.stable rfl (loadV (.tail _ (.head _)) rfl (blkCell 4 hO rfl rfl) Try.underlying26 rfl rfl) rfl rfl ?_
  refine GoQA.pure rfl (op_move rfl) rfl rfl ?_
  refine GoQA.pure rfl (op_fieldAddr Try.underlying29 rfl ti26 rfl (by decide)) rfl rfl ?_
  refine GoQA.stable rfl (loadV (.tail _ (.tail _ (.head _))) rfl (blkCell 4 hO rfl rfl) Try.underlying26 rfl rfl) rfl rfl ?_
  refine GoQA.pure rfl (op_move rfl) rfl rfl ?_
  refine GoQA.alloc rfl rfl (alBuild (n := 0) (parts := []) (vs := []) Try.underlying26 ti3 (by decide) (by decide) (by decide) (by kernel_rfl) rfl rfl) ?_
  intro Bb A468 EJ A470 uC BO hd473 hnb474 hh475
  replace hO := uC.own hO
  have xt : Els (Rp.int .i64) (bl [.row 39 2 fy fS fA nj, .row 3 1 fU fT fV lL, .row 3 1 gx fW gy oc, .row 26 1 gF fC gG qG, .blk b49 (.cells #[.int .i64 ((ix a0 (0 : Int)).length : Int), .bool true, .slice bH bS bI, .slice gF fC gG, .slice gx fW gy, .slice fU fT fV, .slice none 0 0, .slice fy fS fA, .int .i64 (0 : Int)] 29 (0, 0)), t2 (Fl.int .i64) 26 3 bH bS bI eF r38, .blk B2 (.cells #[.int .i64 (0 : Int), .bool false, .slice none 0 0, .slice none 0 0, .slice none 0 0, .slice none 0 0, .slice none 0 0, .slice none 0 0, .int .i64 (0 : Int)] 29 (0, 0))] ++ A468) Bb [] (([] : List Int)) := (Els.nil _ _ _)
  have vA := gainCh (w := Bb) (E := [.row 39 2 fy fS fA nj, .row 3 1 fU fT fV lL, .row 3 1 gx fW gy oc, .row 26 1 gF fC gG qG, .blk b49 (.cells #[.int .i64 ((ix a0 (0 : Int)).length : Int), .bool true, .slice bH bS bI, .slice gF fC gG, .slice gx fW gy, .slice fU fT fV, .slice none 0 0, .slice fy fS fA, .int .i64 (0 : Int)] 29 (0, 0)), t2 (Fl.int .i64) 26 3 bH bS bI eF r38, .blk B2 (.cells #[.int .i64 (0 : Int), .bool false, .slice none 0 0, .slice none 0 0, .slice none 0 0, .slice none 0 0, .slice none 0 0, .slice none 0 0, .int .i64 (0 : Int)] 29 (0, 0))]) (e := .row 3 1 (some ⟨EJ, 0, none⟩) 0 0 []) BO rfl
  replace hB := hB.trans (uC.same.fr _)
  replace hB := Fr.gain (e := .row 3 1 (some ⟨EJ, 0, none⟩) 0 0 []) hB (Nat.le_trans hw464 hnb474) rfl
  replace hO := Owns.gain hO BO x8 rfl hh475 hd473
  refine GoQA.loudI rfl rfl ?_
  intro KA A479 t7
  replace hO := t7.own hO
  obtain ⟨K3, H⟩ := H
  replace xt := (xt.ch vA).ch (t7.ch _)
  have Z26 := (((tG.ch.trans tL.ch).trans (uC.ch _)).trans vA).trans (t7.ch _)
  replace bo := bo.ch Z26
  have hobt := oapp Try.underlying26 ti3 rfl 0 hO rfl xt bo rfl K3 (by decide)
  obtain ⟨PQ, xe, xg, Ml, oM, BP, EK⟩ := hobt
  dsimp only [sS, sZ] at oM BP
  refine GoAt.step (EK (by exact rfl) (by exact rfl)) (fun _ => (CSv.cons (cs_eq (blkCell 5 hO rfl rfl) (blkCell 5 oM.own rfl rfl)) (CSv.cons (cs_eq (blkCell 5 hO rfl rfl) (blkCell 5 oM.own rfl rfl)) (CSv.cons (cs_eq (blkCell 5 hO rfl rfl) (blkCell 5 oM.own rfl rfl)) (CSv.nil _ _))))) (Stp.kp hO oM) rfl ?_
  replace hO := oM.own
  have hobt := freeze 0 hO rfl BP
  obtain ⟨hO1, vB, d7, IR⟩ := hobt
  dsimp only [eS, eZ] at hO1 vB d7
  replace hB := ((hB.trans (t7.same.fr _)).trans oM.fr).trans (Owns.dropFr _ _ 0)
  dsimp only [eS, eZ] at hB
  replace hO := hO1; clear hO1
  refine GoQA.alloc rfl rfl (alBuild (n := 1) (parts := [(0, .slice xe (0 + ((ix a0 (k2_367 : Int)).length)) xg)]) (vs := [.slice xe (0 + ((ix a0 (k2_367 : Int)).length)) xg]) Try.underlying22 ti26 (by decide) (by decide) (by decide) (by kernel_rfl) rfl rfl) ?_
  intro yS A492 EL A494 t8 BQ hd497 hnb498 hh499
  replace hO := t8.own hO
  replace d7 := d7.ch (t8.ch _)
  have vh : Els (Rp.sl (Rp.int .i64)) (bl [.row 39 2 fy fS fA nj, .row 3 1 fU fT fV lL, .row 3 1 gx fW gy oc, .row 26 1 gF fC gG qG, .blk b49 (.cells #[.int .i64 ((ix a0 (0 : Int)).length : Int), .bool true, .slice bH bS bI, .slice gF fC gG, .slice gx fW gy, .slice fU fT fV, .slice none 0 0, .slice fy fS fA, .int .i64 (0 : Int)] 29 (0, 0)), t2 (Fl.int .i64) 26 3 bH bS bI eF r38, .blk B2 (.cells #[.int .i64 (0 : Int), .bool false, .slice none 0 0, .slice none 0 0, .slice none 0 0, .slice none 0 0, .slice none 0 0, .slice none 0 0, .int .i64 (0 : Int)] 29 (0, 0))] ++ A492) yS [.slice xe (0 + ((ix a0 (k2_367 : Int)).length)) xg] [(([] : List Int)) ++ (ix a0 (k2_367 : Int))] := (Els.cons rfl ⟨xe, xg, congrArg some (congrArg (fun nn => Value.slice xe nn xg) IR), d7⟩ (Els.nil _ _ _) (by simp [mx]))
  have uD := gainCh (w := yS) (E := [.row 39 2 fy fS fA nj, .row 3 1 fU fT fV lL, .row 3 1 gx fW gy oc, .row 26 1 gF fC gG qG, .blk b49 (.cells #[.int .i64 ((ix a0 (0 : Int)).length : Int), .bool true, .slice bH bS bI, .slice gF fC gG, .slice gx fW gy, .slice fU fT fV, .slice none 0 0, .slice fy fS fA, .int .i64 (0 : Int)] 29 (0, 0)), t2 (Fl.int .i64) 26 3 bH bS bI eF r38, .blk B2 (.cells #[.int .i64 (0 : Int), .bool false, .slice none 0 0, .slice none 0 0, .slice none 0 0, .slice none 0 0, .slice none 0 0, .slice none 0 0, .int .i64 (0 : Int)] 29 (0, 0))]) (e := .row 26 1 (some ⟨EL, 0, none⟩) 1 1 [.slice xe (0 + ((ix a0 (k2_367 : Int)).length)) xg]) BQ rfl
  replace hB := hB.trans (t8.same.fr _)
  replace hB := Fr.gain (e := .row 26 1 (some ⟨EL, 0, none⟩) 1 1 [.slice xe (0 + ((ix a0 (k2_367 : Int)).length)) xg]) hB (Nat.le_trans hw464 hnb498) rfl
  replace hO := Owns.gain hO BQ x8 rfl hh499 hd497
  refine GoQA.loudI rfl rfl ?_
  intro JP A506 tm
  replace hO := tm.own hO
  replace vh := (vh.ch uD).ch (tm.ch _)
  have hobt := freeze 0 hO rfl vh
  obtain ⟨hO1, uE, eO, IS⟩ := hobt
  dsimp only [eS, eZ] at hO1 uE eO
  replace hB := (hB.trans (tm.same.fr _)).trans (Owns.dropFr _ _ 0)
  dsimp only [eS, eZ] at hB
  replace hO := hO1; clear hO1
  obtain ⟨K4, H⟩ := H
  have Z27 := (((((Z26.trans oM.ch).trans vB).trans (t8.ch _)).trans uD).trans (tm.ch _)).trans uE
  replace er := er.ch Z27
  have hobt := oapp Try.underlying22 ti26 rfl 3 hO rfl er eO IS K4 (by decide)
  obtain ⟨PR, vC, vD, xv, nN, fd, EM⟩ := hobt
  dsimp only [sS, sZ] at nN fd
  refine GoAt.step (EM (by exact rfl) (by exact rfl)) (fun _ => (CSv.cons (cs_eq (blkCell 4 hO rfl rfl) (blkCell 4 nN.own rfl rfl)) (CSv.cons (cs_eq (blkCell 4 hO rfl rfl) (blkCell 4 nN.own rfl rfl)) (CSv.cons (cs_eq (blkCell 4 hO rfl rfl) (blkCell 4 nN.own rfl rfl)) (CSv.nil _ _))))) (Stp.kp hO nN) rfl ?_
  replace hO := nN.own
  refine GoQA.pure rfl (op_fieldAddr Try.underlying29 rfl ti22 rfl (by decide)) rfl rfl ?_
  refine GoQA.alloc rfl rfl (alBuild (n := 1) (parts := [(0, .int .i64 (0 : Int))]) (vs := [.int .i64 (0 : Int)]) Try.underlying26 ti3 (by decide) (by decide) (by decide) (by kernel_rfl) rfl rfl) ?_
  intro Bg A522 EO A524 tn BR hd527 hnb528 hh529
  replace hO := tn.own hO
  have xw : Els (Rp.int .i64) (bl [.row 39 2 fy fS fA nj, .row 3 1 fU fT fV lL, .row 3 1 gx fW gy oc, .row 26 1 vC (fC + 1) vD xv, .blk b49 (.cells #[.int .i64 ((ix a0 (0 : Int)).length : Int), .bool true, .slice bH bS bI, .slice gF fC gG, .slice gx fW gy, .slice fU fT fV, .slice none 0 0, .slice fy fS fA, .int .i64 (0 : Int)] 29 (0, 0)), t2 (Fl.int .i64) 26 3 bH bS bI eF r38, .blk B2 (.cells #[.int .i64 (0 : Int), .bool false, .slice none 0 0, .slice none 0 0, .slice none 0 0, .slice none 0 0, .slice none 0 0, .slice none 0 0, .int .i64 (0 : Int)] 29 (0, 0))] ++ A522) Bg [.int .i64 (0 : Int)] [(0 : Int)] := (Els.cons rfl rfl (Els.nil _ _ _) (by simp [mx]))
  have t9 := gainCh (w := Bg) (E := [.row 39 2 fy fS fA nj, .row 3 1 fU fT fV lL, .row 3 1 gx fW gy oc, .row 26 1 vC (fC + 1) vD xv, .blk b49 (.cells #[.int .i64 ((ix a0 (0 : Int)).length : Int), .bool true, .slice bH bS bI, .slice gF fC gG, .slice gx fW gy, .slice fU fT fV, .slice none 0 0, .slice fy fS fA, .int .i64 (0 : Int)] 29 (0, 0)), t2 (Fl.int .i64) 26 3 bH bS bI eF r38, .blk B2 (.cells #[.int .i64 (0 : Int), .bool false, .slice none 0 0, .slice none 0 0, .slice none 0 0, .slice none 0 0, .slice none 0 0, .slice none 0 0, .int .i64 (0 : Int)] 29 (0, 0))]) (e := .row 3 1 (some ⟨EO, 0, none⟩) 1 1 [.int .i64 (0 : Int)]) BR rfl
  replace hB := (hB.trans nN.fr).trans (tn.same.fr _)
  replace hB := Fr.gain (e := .row 3 1 (some ⟨EO, 0, none⟩) 1 1 [.int .i64 (0 : Int)]) hB (Nat.le_trans hw464 hnb528) rfl
  replace hO := Owns.gain hO BR x8 rfl hh529 hd527
  refine GoQA.loudI rfl rfl ?_
  intro PS A533 sK
  replace hO := sK.own hO
  replace xw := (xw.ch t9).ch (sK.ch _)
  have hobt := freeze 0 hO rfl xw
  obtain ⟨hO1, ua, hV, IT⟩ := hobt
  dsimp only [eS, eZ] at hO1 ua hV
  replace hB := (hB.trans (sK.same.fr _)).trans (Owns.dropFr _ _ 0)
  dsimp only [eS, eZ] at hB
  replace hO := hO1; clear hO1
  obtain ⟨K5, H⟩ := H
  have Z28 := ((((Z27.trans nN.ch).trans (tn.ch _)).trans t9).trans (sK.ch _)).trans ua
  replace dG := dG.ch Z28
  have hobt := oapp Try.underlying26 ti3 rfl 2 hO rfl dG hV IT K5 (by decide)
  obtain ⟨PT, xN, xO, z5, nb, iu, EP⟩ := hobt
  dsimp only [sS, sZ] at nb iu
  refine GoAt.step (EP (by exact rfl) (by exact rfl)) (fun _ => (CSv.cons (cs_eq (blkCell 4 hO rfl rfl) (blkCell 4 nb.own rfl rfl)) (CSv.cons (cs_eq (blkCell 4 hO rfl rfl) (blkCell 4 nb.own rfl rfl)) (CSv.cons (cs_eq (blkCell 4 hO rfl rfl) (blkCell 4 nb.own rfl rfl)) (CSv.nil _ _))))) (Stp.kp hO nb) rfl ?_
  replace hO := nb.own
  refine GoQA.alloc rfl rfl (alBuild (n := 1) (parts := [(0, .int .i64 (k2_367 : Int))]) (vs := [.int .i64 (k2_367 : Int)]) Try.underlying26 ti3 (by decide) (by decide) (by decide) (by kernel_rfl) rfl rfl) ?_
  intro EQ A549 ER A551 sL BS hd554 hnb555 hh556
  replace hO := sL.own hO
  have bN : Els (Rp.int .i64) (bl [.row 39 2 fy fS fA nj, .row 3 1 fU fT fV lL, .row 3 1 xN (fW + 1) xO z5, .row 26 1 vC (fC + 1) vD xv, .blk b49 (.cells #[.int .i64 ((ix a0 (0 : Int)).length : Int), .bool true, .slice bH bS bI, .slice gF fC gG, .slice gx fW gy, .slice fU fT fV, .slice none 0 0, .slice fy fS fA, .int .i64 (0 : Int)] 29 (0, 0)), t2 (Fl.int .i64) 26 3 bH bS bI eF r38, .blk B2 (.cells #[.int .i64 (0 : Int), .bool false, .slice none 0 0, .slice none 0 0, .slice none 0 0, .slice none 0 0, .slice none 0 0, .slice none 0 0, .int .i64 (0 : Int)] 29 (0, 0))] ++ A549) EQ [.int .i64 (k2_367 : Int)] [(k2_367 : Int)] := (Els.cons rfl rfl (Els.nil _ _ _) (by simp [mx]))
  have tp := gainCh (w := EQ) (E := [.row 39 2 fy fS fA nj, .row 3 1 fU fT fV lL, .row 3 1 xN (fW + 1) xO z5, .row 26 1 vC (fC + 1) vD xv, .blk b49 (.cells #[.int .i64 ((ix a0 (0 : Int)).length : Int), .bool true, .slice bH bS bI, .slice gF fC gG, .slice gx fW gy, .slice fU fT fV, .slice none 0 0, .slice fy fS fA, .int .i64 (0 : Int)] 29 (0, 0)), t2 (Fl.int .i64) 26 3 bH bS bI eF r38, .blk B2 (.cells #[.int .i64 (0 : Int), .bool false, .slice none 0 0, .slice none 0 0, .slice none 0 0, .slice none 0 0, .slice none 0 0, .slice none 0 0, .int .i64 (0 : Int)] 29 (0, 0))]) (e := .row 3 1 (some ⟨ER, 0, none⟩) 1 1 [.int .i64 (k2_367 : Int)]) BS rfl
  replace hB := (hB.trans nb.fr).trans (sL.same.fr _)
  replace hB := Fr.gain (e := .row 3 1 (some ⟨ER, 0, none⟩) 1 1 [.int .i64 (k2_367 : Int)]) hB (Nat.le_trans hw464 hnb555) rfl
  replace hO := Owns.gain hO BS x8 rfl hh556 hd554
  refine GoQA.loudI rfl rfl ?_
  intro PU A560 sc
  replace hO := sc.own hO
  replace bN := (bN.ch tp).ch (sc.ch _)
  have hobt := freeze 0 hO rfl bN
  obtain ⟨hO1, tq, lR, IU⟩ := hobt
  dsimp only [eS, eZ] at hO1 tq lR
  replace hB := (hB.trans (sc.same.fr _)).trans (Owns.dropFr _ _ 0)
  dsimp only [eS, eZ] at hB
  replace hO := hO1; clear hO1
  obtain ⟨K6, H⟩ := H
  have Z29 := ((((Z28.trans nb.ch).trans (sL.ch _)).trans tp).trans (sc.ch _)).trans tq
  replace dq := dq.ch Z29
  have hobt := oapp Try.underlying26 ti3 rfl 1 hO rfl dq lR IU K6 (by decide)
  obtain ⟨PV, Bu, Bv, IV, mv, nk, ES⟩ := hobt
  dsimp only [sS, sZ] at mv nk
  refine GoAt.step (ES (by exact rfl) (by exact rfl)) (fun _ => (CSv.cons (cs_eq (blkCell 4 hO rfl rfl) (blkCell 4 mv.own rfl rfl)) (CSv.cons (cs_eq (blkCell 4 hO rfl rfl) (blkCell 4 mv.own rfl rfl)) (CSv.cons (cs_eq (blkCell 4 hO rfl rfl) (blkCell 4 mv.own rfl rfl)) (CSv.nil _ _))))) (Stp.kp hO mv) rfl ?_
  replace hO := mv.own
  refine GoQA.lastI rfl rfl ?_
  intro PW A575 sd
  replace hO := sd.own hO
  have hobt := oblkSt2 (v := .slice vC (fC + 1) vD) (i := 3) (cs' := #[.int .i64 ((ix a0 (0 : Int)).length : Int), .bool true, .slice bH bS bI, .slice vC (fC + 1) vD, .slice gx fW gy, .slice fU fT fV, .slice none 0 0, .slice fy fS fA, .int .i64 (0 : Int)]) 4 hO rfl rfl rfl rfl
  obtain ⟨PX, nO, ET⟩ := hobt
  dsimp only [sS, sZ] at nO
  refine GoAt.step (ET Try.underlying22 rfl ti22 (by exact rfl) (by exact rfl)) (fun h => nomatch h) (Stp.kp hO nO) rfl ?_
  replace hO := nO.own
  refine GoQA.pure rfl (op_fieldAddr Try.underlying29 rfl ti26 rfl (by decide)) rfl rfl ?_
  refine GoQA.lastI rfl rfl ?_
  intro PY A581 se
  replace hO := se.own hO
  have hobt := oblkSt2 (v := .slice xN (fW + 1) xO) (i := 4) (cs' := #[.int .i64 ((ix a0 (0 : Int)).length : Int), .bool true, .slice bH bS bI, .slice vC (fC + 1) vD, .slice xN (fW + 1) xO, .slice fU fT fV, .slice none 0 0, .slice fy fS fA, .int .i64 (0 : Int)]) 4 hO rfl rfl rfl rfl
  obtain ⟨P0, nP, EU⟩ := hobt
  dsimp only [sS, sZ] at nP
  refine GoAt.step (EU Try.underlying26 rfl ti26 (by exact rfl) (by exact rfl)) (fun h => nomatch h) (Stp.kp hO nP) rfl ?_
  replace hO := nP.own
  refine GoQA.pure rfl (op_fieldAddr Try.underlying29 rfl ti26 rfl (by decide)) rfl rfl ?_
  refine GoQA.lastI rfl rfl ?_
  intro P1 A587 sf
  replace hO := sf.own hO
  have hobt := oblkSt2 (v := .slice Bu (fT + 1) Bv) (i := 5) (cs' := #[.int .i64 ((ix a0 (0 : Int)).length : Int), .bool true, .slice bH bS bI, .slice vC (fC + 1) vD, .slice xN (fW + 1) xO, .slice Bu (fT + 1) Bv, .slice none 0 0, .slice fy fS fA, .int .i64 (0 : Int)]) 4 hO rfl rfl rfl rfl
  obtain ⟨P2, nQ, EV⟩ := hobt
  dsimp only [sS, sZ] at nQ
  refine GoAt.step (EV Try.underlying26 rfl ti26 (by exact rfl) (by exact rfl)) (fun h => nomatch h) (Stp.kp hO nQ) rfl ?_
  replace hO := nQ.own
  refine GoQA.nil ?_
  intro P3 A593 sg sM
  replace hO := sg.own hO
  replace hO := hO.permA sM
  refine Go1.inBlock ?_
  refine Go1.cut [(4, .pointer (some ⟨B2, 0, none⟩)), (6, .pointer (some ⟨b49, 0, none⟩)), (7, .int .i64 (0 : Int)), (42, .slice lV a0.length lW), (43, .int .i64 (a0.length : Int)), (44, .int .i64 (k2_367 : Int))] ⟨rfl, rfl, rfl, rfl, rfl, rfl, trivial⟩ ?_
  intro σ _
  refine zr ?_
  have Z30 := ((((((((Z29.trans mv.ch).trans (sd.ch _)).trans nO.ch).trans (se.ch _)).trans nP.ch).trans (sf.ch _)).trans nQ.ch).trans (sg.ch _)).trans (permCh sM _)
  replace ad := ad.ch Z30
  refine zo (op_add rfl rfl (wrap_i64 (natbd xM ad.bd))) (zm rfl (zn ?_))
  replace hB := (((((((hB.trans mv.fr).trans (sd.same.fr _)).trans nO.fr).trans (se.same.fr _)).trans nP.fr).trans (sf.same.fr _)).trans nQ.fr).trans (sg.same.fr _)
  have Z31 := (((((((sd.ch _).trans nO.ch).trans (se.ch _)).trans nP.ch).trans (sf.ch _)).trans nQ.ch).trans (sg.ch _)).trans (permCh sM _)
  replace nk := nk.ch Z31
  have Z32 := ((((((((((((sL.ch _).trans tp).trans (sc.ch _)).trans tq).trans mv.ch).trans (sd.ch _)).trans nO.ch).trans (se.ch _)).trans nP.ch).trans (sf.ch _)).trans nQ.ch).trans (sg.ch _)).trans (permCh sM _)
  replace iu := iu.ch Z32
  have Z33 := (((((((((((((((((tn.ch _).trans t9).trans (sK.ch _)).trans ua).trans nb.ch).trans (sL.ch _)).trans tp).trans (sc.ch _)).trans tq).trans mv.ch).trans (sd.ch _)).trans nO.ch).trans (se.ch _)).trans nP.ch).trans (sf.ch _)).trans nQ.ch).trans (sg.ch _)).trans (permCh sM _)
  replace fd := fd.ch Z33
  replace cp := cp.ch Z30
  exact hX2 _ H _ _ ⟨fS, fy, fA, nj, fT + 1, Bu, Bv, IV, fW + 1, xN, xO, z5, fC + 1, vC, vD, xv, ⟨rfl, rfl, rfl, rfl, rfl, rfl, trivial⟩, hO, cp, nk, iu, fd, ad, hB⟩
 replace H := ifn xM H
 refine zo (fun w => opB (op_lss rfl rfl w) (decide_eq_false xM)) (zn (zq (zf rfl rfl ?_)))
 refine Go1.exit rfl ?_
 refine zq (zr (zs (oblkAgg (vs := [.int .i64 ((ix a0 (0 : Int)).length : Int), .bool true, .slice bH bS bI, .slice gF fC gG, .slice gx fW gy, .slice fU fT fV, .slice none 0 0, .slice fy fS fA, .int .i64 (0 : Int)]) (i := 0) 4 hO rfl rfl Try.underlying29 rfl ti29 rfl) ?_))
 have hobt := oblkStAgg (us := [.int .i64 ((ix a0 (0 : Int)).length : Int), .bool true, .slice bH bS bI, .slice gF fC gG, .slice gx fW gy, .slice fU fT fV, .slice none 0 0, .slice fy fS fA, .int .i64 (0 : Int)]) (o := 0) (cs' := #[.int .i64 ((ix a0 (0 : Int)).length : Int), .bool true, .slice bH bS bI, .slice gF fC gG, .slice gx fW gy, .slice fU fT fV, .slice none 0 0, .slice fy fS fA, .int .i64 (0 : Int)]) 6 hO rfl rfl (Nat.le_of_ble_eq_true rfl) rfl
 obtain ⟨P4, tM, EW⟩ := hobt
 dsimp only [sS, sZ] at tM
 refine zg (EW ti29 (by exact rfl) (by exact rfl) rfl) ?_
 replace hO := tM.own
 refine za rfl (zn ?_)
 have hobt := t2freezeA 5 hO rfl
 obtain ⟨hO1, wB, tt, IW⟩ := hobt
 dsimp only [eS, eZ] at hO1 wB tt
 replace hB := (hB.trans tM.fr).trans (Owns.dropFr _ _ 5)
 dsimp only [eS, eZ] at hB
 replace hO := hO1; clear hO1
 replace er := (er.ch tM.ch).ch wB
 have hobt := freeze 3 hO rfl er
 obtain ⟨hO1, wC, uF, IX⟩ := hobt
 dsimp only [eS, eZ] at hO1 wC uF
 replace hB := hB.trans (Owns.dropFr _ _ 3)
 dsimp only [eS, eZ] at hB
 replace hO := hO1; clear hO1
 have Z34 := (tM.ch.trans wB).trans wC
 replace dG := dG.ch Z34
 have hobt := freeze 2 hO rfl dG
 obtain ⟨hO1, wD, wE, IY⟩ := hobt
 dsimp only [eS, eZ] at hO1 wD wE
 replace hB := hB.trans (Owns.dropFr _ _ 2)
 dsimp only [eS, eZ] at hB
 replace hO := hO1; clear hO1
 replace dq := (dq.ch Z34).ch wD
 have hobt := freeze 1 hO rfl dq
 obtain ⟨hO1, wF, x9, I0⟩ := hobt
 dsimp only [eS, eZ] at hO1 wF x9
 replace hB := hB.trans (Owns.dropFr _ _ 1)
 dsimp only [eS, eZ] at hB
 replace hO := hO1; clear hO1
 replace cp := ((cp.ch Z34).ch wD).ch wF
 have hobt := freeze 0 hO rfl cp
 obtain ⟨hO1, wG, BT, I1⟩ := hobt
 dsimp only [eS, eZ] at hO1 wG BT
 replace hB := hB.trans (Owns.dropFr _ _ 0)
 dsimp only [eS, eZ] at hB
 replace hO := hO1; clear hO1
 refine Go1.retC2 Try.func22 rfl rfl (run_loadBlk (vs := [.int .i64 ((ix a0 (0 : Int)).length : Int), .bool true, .slice bH bS bI, .slice gF fC gG, .slice gx fW gy, .slice fU fT fV, .slice none 0 0, .slice fy fS fA, .int .i64 (0 : Int)]) 1 hO rfl rfl Try.underlying29 rfl ti29) ?_
 replace x9 := x9.ch wG
 replace wE := (wE.ch wF).ch wG
 have Z35 := (wD.trans wF).trans wG
 replace uF := uF.ch Z35
 have Z36 := ((wC.trans wD).trans wF).trans wG
 replace tt := tt.ch Z36
 exact ⟨(⟨((ix a0 (0 : Int)).length : Int), true, r38, d_386, d_380, d_374, ([] : List (List Int)), d_368, (0 : Int)⟩ : Enum), (0 : Int), bH, bI, gF, gG, gx, gy, fU, fV, none, 0, fy, fA, (congrArg (fun l => Value.tuple (List.toArray l)) (cons_eq (congrArg (fun l => Value.agg (List.toArray l)) (cons_eq rfl (cons_eq rfl (cons_eq (congrArg (fun nn => Value.slice bH nn bI) IW) (cons_eq (congrArg (fun nn => Value.slice gF nn gG) IX) (cons_eq (congrArg (fun nn => Value.slice gx nn gy) IY) (cons_eq (congrArg (fun nn => Value.slice fU nn fV) I0) (cons_eq rfl (cons_eq (congrArg (fun nn => Value.slice fy nn fA) I1) (cons_eq rfl rfl)))))))))) (cons_eq rfl rfl))), hB.same, (tt.ch (Ch.weak _ _ _)), (uF.ch (Ch.weak _ _ _)), (wE.ch (Ch.weak _ _ _)), (x9.ch (Ch.weak _ _ _)), (ISl.null _ _ _), (BT.ch (Ch.weak _ _ _)), H⟩
end Sg
