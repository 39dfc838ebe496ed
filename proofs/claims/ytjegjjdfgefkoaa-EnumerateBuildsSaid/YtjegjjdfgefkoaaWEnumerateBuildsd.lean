/- The walks: each call keeps to its plain transformer. Printed by walkgen.py. -/
import Derived.Test.YtjegjjdfgefkoaaTi
import Derived.Test.YtjegjjdfgefkoaaWEnumerateBuilds
import Derived.Test.YtjegjjdfgefkoaaWEnumerateBuildsc
import Derived.Test.YtjegjjdfgefkoaaAl
namespace Sg
open Go Go.RowKit Go.Proofs
set_option linter.unusedVariables false
set_option linter.unusedSimpArgs false
set_option maxRecDepth 100000
set_option maxHeartbeats 4000000
theorem body22 : Body Try.prog 22 := ⟨Try.f22, Try.func22, rfl, by kernel_rfl⟩
theorem walk_ref12_Start {A : List Nat} {w0 : World} {n7 : Option Addr} {n9 : Nat} {a0 : List (List Int)} {a1 : Bool} (hA : ∀ b ∈ A, b < w0.heap.size) (ae : ISl (Rp.sl (Rp.int .i64)) A w0 n7 n9 a0) {K : Enum → Int → Prop} (H : ref12_Start a0 a1 K) :
    CallsV Try.prog 22 #[.slice n7 a0.length n9, .bool a1] w0 (fun v w' => ∃ (r0 : Enum), ∃ (r1 : Int), ∃ (nv : Option Addr), ∃ (nw : Nat), ∃ (lV : Option Addr), ∃ (lW : Nat), ∃ (kh : Option Addr), ∃ (ki : Nat), ∃ (ny : Option Addr), ∃ (nz : Nat), ∃ (lX : Option Addr), ∃ (lY : Nat), ∃ (l5 : Option Addr), ∃ (l7 : Nat), v = .tuple #[.agg #[.int .i64 r0.Points, .bool r0.Monoid, .slice nv r0.Gens.length nw, .slice lV r0.Elems.length lW, .slice kh r0.Prefix.length ki, .slice ny r0.Last.length nz, .slice lX r0.Right.length lY, .slice l5 r0.Rules.length l7, .int .i64 r0.Done], .int .i64 r1] ∧ Same w0 w' ∧ ISl (Rp.sl (Rp.int .i64)) A w' nv nw r0.Gens ∧ ISl (Rp.sl (Rp.int .i64)) A w' lV lW r0.Elems ∧ ISl (Rp.int .i64) A w' kh ki r0.Prefix ∧ ISl (Rp.int .i64) A w' ny nz r0.Last ∧ ISl (Rp.sl (Rp.int .i64)) A w' lX lY r0.Right ∧ ISl (rpRule) A w' l5 l7 r0.Rules ∧ K r0 r1) := by
 refine CallsV.of (l := [.slice n7 a0.length n9, .bool a1]) Try.func22 rfl Try.ntmps22 rfl ?_
 have hO := Owns.start hA
 have hB := Fr.refl (bl []) w0
 unfold ref12_Start at H
 refine zq (zr ?_)
 have hobt := oalloc (t := 29) (cs := #[.int .i64 (0 : Int), .bool false, .slice none 0 0, .slice none 0 0, .slice none 0 0, .slice none 0 0, .slice none 0 0, .slice none 0 0, .int .i64 (0 : Int)]) ti29 hO rfl
 obtain ⟨w1, B2, eF, hs4, vF⟩ := hobt
 refine GoR.op vF rfl rfl ?_
 replace hO := eF.own
 refine za rfl (zn (zq (zq (zr (zm rfl ?_)))))
 refine zo (op_len Try.underlying22 rfl) ?_
 replace ae := (ae.ch (Ch.start A w0)).ch eF.ch
 replace H := H ae.bd
 by_cases h7 : (a0.length : Int) < (1 : Int)
 ·replace H := ifp h7 H
  refine zo (fun w => opB (op_lss rfl rfl w) (decide_eq_true h7)) (zm rfl (zp (zp (zp (zo (op_pickT rfl rfl rfl) ?_)))))
  refine zn (zt rfl rfl (zq (zr (zo (op_build Try.underlying29 ti29 (pl := [(0, 1), (1, 1), (2, 1), (3, 1), (4, 1), (5, 1), (6, 1), (7, 1), (8, 1)]) (vs := []) (cs := #[.int .i64 (0 : Int), .bool false, .slice none 0 0, .slice none 0 0, .slice none 0 0, .slice none 0 0, .slice none 0 0, .slice none 0 0, .int .i64 (0 : Int)]) (by kernel_rfl) rfl (by kernel_rfl)) ?_))))
  have hobt := oblkStAgg (us := [.int .i64 (0 : Int), .bool false, .slice none 0 0, .slice none 0 0, .slice none 0 0, .slice none 0 0, .slice none 0 0, .slice none 0 0, .int .i64 (0 : Int)]) (o := 0) (cs' := #[.int .i64 (0 : Int), .bool false, .slice none 0 0, .slice none 0 0, .slice none 0 0, .slice none 0 0, .slice none 0 0, .slice none 0 0, .int .i64 (0 : Int)]) 0 hO rfl rfl (Nat.le_of_ble_eq_true rfl) rfl
  obtain ⟨w8, m0, NK⟩ := hobt
  refine zg (NK ti29 (by exact rfl) (by exact rfl) rfl) ?_
  replace hO := m0.own
  refine za rfl (zn ?_)
  refine Go1.retC2 Try.func22 rfl rfl (run_loadBlk (vs := [.int .i64 (0 : Int), .bool false, .slice none 0 0, .slice none 0 0, .slice none 0 0, .slice none 0 0, .slice none 0 0, .slice none 0 0, .int .i64 (0 : Int)]) 0 hO rfl rfl Try.underlying29 rfl ti29) ?_
  replace hB := (hB.trans eF.fr).trans m0.fr
  exact ⟨(⟨(0 : Int), false, ([] : List (List Int)), ([] : List (List Int)), ([] : List Int), ([] : List Int), ([] : List (List Int)), ([] : List Rule), (0 : Int)⟩ : Enum), (1 : Int), none, 0, none, 0, none, 0, none, 0, none, 0, none, 0, rfl, hB.same, (ISl.null _ _ _), (ISl.null _ _ _), (ISl.null _ _ _), (ISl.null _ _ _), (ISl.null _ _ _), (ISl.null _ _ _), H⟩
 replace H := ifn h7 H
 refine zo (fun w => opB (op_lss rfl rfl w) (decide_eq_false h7)) (zm rfl (zm rfl (zo (op_len Try.underlying22 rfl) ?_)))
 by_cases h11 : (6 : Int) < (a0.length : Int)
 ·replace H := ifp h11 H
  refine zo (fun w => opB (op_gtr rfl rfl w) (decide_eq_true h11)) (zo (op_pickF rfl rfl rfl) (zn (zt rfl rfl (zq (zr ?_)))))
  refine zo (op_build Try.underlying29 ti29 (pl := [(0, 1), (1, 1), (2, 1), (3, 1), (4, 1), (5, 1), (6, 1), (7, 1), (8, 1)]) (vs := []) (cs := #[.int .i64 (0 : Int), .bool false, .slice none 0 0, .slice none 0 0, .slice none 0 0, .slice none 0 0, .slice none 0 0, .slice none 0 0, .int .i64 (0 : Int)]) (by kernel_rfl) rfl (by kernel_rfl)) ?_
  have hobt := oblkStAgg (us := [.int .i64 (0 : Int), .bool false, .slice none 0 0, .slice none 0 0, .slice none 0 0, .slice none 0 0, .slice none 0 0, .slice none 0 0, .int .i64 (0 : Int)]) (o := 0) (cs' := #[.int .i64 (0 : Int), .bool false, .slice none 0 0, .slice none 0 0, .slice none 0 0, .slice none 0 0, .slice none 0 0, .slice none 0 0, .int .i64 (0 : Int)]) 0 hO rfl rfl (Nat.le_of_ble_eq_true rfl) rfl
  obtain ⟨w12, qt, NL⟩ := hobt
  refine zg (NL ti29 (by exact rfl) (by exact rfl) rfl) ?_
  replace hO := qt.own
  refine za rfl (zn ?_)
  refine Go1.retC2 Try.func22 rfl rfl (run_loadBlk (vs := [.int .i64 (0 : Int), .bool false, .slice none 0 0, .slice none 0 0, .slice none 0 0, .slice none 0 0, .slice none 0 0, .slice none 0 0, .int .i64 (0 : Int)]) 0 hO rfl rfl Try.underlying29 rfl ti29) ?_
  replace hB := (hB.trans eF.fr).trans qt.fr
  exact ⟨(⟨(0 : Int), false, ([] : List (List Int)), ([] : List (List Int)), ([] : List Int), ([] : List Int), ([] : List (List Int)), ([] : List Rule), (0 : Int)⟩ : Enum), (1 : Int), none, 0, none, 0, none, 0, none, 0, none, 0, none, 0, rfl, hB.same, (ISl.null _ _ _), (ISl.null _ _ _), (ISl.null _ _ _), (ISl.null _ _ _), (ISl.null _ _ _), (ISl.null _ _ _), H⟩
 replace H := ifn h11 H
 refine zo (fun w => opB (op_gtr rfl rfl w) (decide_eq_false h11)) (zo (op_pickF rfl rfl rfl) (zn (zf rfl rfl (zk (zq ?_)))))
 refine zq ?_
 refine Go1.cut [(0, .slice n7 a0.length n9), (1, .bool a1), (4, .pointer (some ⟨B2, 0, none⟩))] ⟨rfl, rfl, rfl, trivial⟩ ?_
 intro σ _
 refine zr (zm rfl ?_)
 refine GoR.call (op_call body14 rfl (walk_ref11_MayGens hO.lt ae H)) rfl rfl ?_
 rintro v19 w16 ⟨r15, rfl, GK, H⟩
 have ve := Stp.same hO GK
 replace hO := ve.own
 cases r15
 ·replace H := ifn Bool.false_ne_true H
  refine zo (op_not rfl) (zn (zt rfl rfl (zq (zr (zo (op_build Try.underlying29 ti29 (pl := [(0, 1), (1, 1), (2, 1), (3, 1), (4, 1), (5, 1), (6, 1), (7, 1), (8, 1)]) (vs := []) (cs := #[.int .i64 (0 : Int), .bool false, .slice none 0 0, .slice none 0 0, .slice none 0 0, .slice none 0 0, .slice none 0 0, .slice none 0 0, .int .i64 (0 : Int)]) (by kernel_rfl) rfl (by kernel_rfl)) ?_)))))
  have hobt := oblkStAgg (us := [.int .i64 (0 : Int), .bool false, .slice none 0 0, .slice none 0 0, .slice none 0 0, .slice none 0 0, .slice none 0 0, .slice none 0 0, .int .i64 (0 : Int)]) (o := 0) (cs' := #[.int .i64 (0 : Int), .bool false, .slice none 0 0, .slice none 0 0, .slice none 0 0, .slice none 0 0, .slice none 0 0, .slice none 0 0, .int .i64 (0 : Int)]) 0 hO rfl rfl (Nat.le_of_ble_eq_true rfl) rfl
  obtain ⟨w21, fH, B6⟩ := hobt
  refine zg (B6 ti29 (by exact rfl) (by exact rfl) rfl) ?_
  replace hO := fH.own
  refine za rfl (zn ?_)
  refine Go1.retC2 Try.func22 rfl rfl (run_loadBlk (vs := [.int .i64 (0 : Int), .bool false, .slice none 0 0, .slice none 0 0, .slice none 0 0, .slice none 0 0, .slice none 0 0, .slice none 0 0, .int .i64 (0 : Int)]) 0 hO rfl rfl Try.underlying29 rfl ti29) ?_
  replace hB := ((hB.trans eF.fr).trans ve.fr).trans fH.fr
  exact ⟨(⟨(0 : Int), false, ([] : List (List Int)), ([] : List (List Int)), ([] : List Int), ([] : List Int), ([] : List (List Int)), ([] : List Rule), (0 : Int)⟩ : Enum), (4 : Int), none, 0, none, 0, none, 0, none, 0, none, 0, none, 0, rfl, hB.same, (ISl.null _ _ _), (ISl.null _ _ _), (ISl.null _ _ _), (ISl.null _ _ _), (ISl.null _ _ _), (ISl.null _ _ _), H⟩
 replace H := ifp rfl H
 refine zo (op_not rfl) (zn (zf rfl rfl (zk (zq ?_))))
 refine Go1.drawA Same.tr A 1 [(0, .pure), (1, .pure), (2, .stable), (3, .pure), (4, .pure), (5, .pure), (6, .loud), (7, .pure), (8, .alloc), (9, .last)] mixed (by kernel_rfl) trivial hO.bd ?_
 intro w24 EY
 have lE := Stp.same hO EY
 replace hO := lE.own
 have GJ := hO.le
 replace hB := ((hB.trans eF.fr).trans ve.fr).trans lE.fr
 have hw27 := hB.ch.size
 refine GoQA.pure rfl (op_move rfl) rfl rfl ?_
 obtain ⟨h29, H⟩ := H
 obtain ⟨h30, H⟩ := H
 replace ae := (ae.ch ve.ch).ch lE.ch
 refine GoQA.pure rfl (op_index Try.underlying22 ti26 rfl rfl h29 h30 (ae.some_ h29 h30)) rfl rfl ?_
 have hobt := ldSl ae h29 h30
 obtain ⟨p31, c32, iq, RG⟩ := hobt
 refine GoQA.stable rfl (RG Try.underlying26 rfl rfl) rfl rfl ?_
 refine GoQA.pure rfl (op_len Try.underlying26 rfl) rfl rfl ?_
 replace H := H iq.bd
 refine GoQA.pure rfl (op_move rfl) rfl rfl ?_
 refine GoQA.pure rfl (op_move rfl) rfl rfl ?_
 refine GoQA.loudI rfl rfl ?_
 intro w35 A36 E3
 replace hO := E3.own hO
 replace ae := ae.ch (E3.ch _)
 refine GoAt.call (op_call body24 rfl (walk_ref03_Copy hO.lt ae H)) (fun v w hr => ⟨fun _ => (by obtain ⟨_, _, _, _, _, _, hs, _, _⟩ := hr; exact hs), Same.kp hO (by obtain ⟨_, _, _, _, _, _, hs, _, _⟩ := hr; exact hs)⟩) rfl ?_
 rintro v43 w40 ⟨r38, cp, cd, ce, fy, rfl, JE, hN42, H⟩
 have xG := Stp.more hO JE hN42
 replace hO := xG.own
 refine GoQA.pure rfl (op_build Try.underlying29 ti29 (pl := [(0, 1), (1, 1), (2, 1), (3, 1), (4, 1), (5, 1), (6, 1), (7, 1), (8, 1)]) (vs := [(0, .int .i64 ((ix a0 (0 : Int)).length : Int)), (1, .bool a1), (2, .slice cd cp ce)]) (cs := #[.int .i64 ((ix a0 (0 : Int)).length : Int), .bool a1, .slice cd cp ce, .slice none 0 0, .slice none 0 0, .slice none 0 0, .slice none 0 0, .slice none 0 0, .int .i64 (0 : Int)]) (by kernel_rfl) rfl (by kernel_rfl)) rfl rfl ?_
 refine GoQA.alloc rfl rfl (alAlloc (cs := #[.int .i64 (0 : Int), .bool false, .slice none 0 0, .slice none 0 0, .slice none 0 0, .slice none 0 0, .slice none 0 0, .slice none 0 0, .int .i64 (0 : Int)]) ti29 rfl) ?_
 intro w47 A48 b49 A50 E4 JF hd53 hnb54 hh55
 replace hO := E4.own hO
 have JG := gainCh (w := w47) (E := [t2 (Fl.int .i64) 26 3 cd cp ce fy r38, .blk B2 (.cells #[.int .i64 (0 : Int), .bool false, .slice none 0 0, .slice none 0 0, .slice none 0 0, .slice none 0 0, .slice none 0 0, .slice none 0 0, .int .i64 (0 : Int)] 29 (0, 0))]) (e := .blk b49 (.cells #[.int .i64 (0 : Int), .bool false, .slice none 0 0, .slice none 0 0, .slice none 0 0, .slice none 0 0, .slice none 0 0, .slice none 0 0, .int .i64 (0 : Int)] 29 (0, 0))) JF rfl
 replace hB := ((hB.trans (E3.same.fr _)).trans xG.fr).trans (E4.same.fr _)
 replace hB := Fr.gain (e := .blk b49 (.cells #[.int .i64 (0 : Int), .bool false, .slice none 0 0, .slice none 0 0, .slice none 0 0, .slice none 0 0, .slice none 0 0, .slice none 0 0, .int .i64 (0 : Int)] 29 (0, 0))) hB (Nat.le_trans hw27 hnb54) rfl
 replace hO := Owns.gain hO JF GJ rfl hh55 hd53
 refine GoQA.lastI rfl rfl ?_
 intro w57 A58 E5
 replace hO := E5.own hO
 have hobt := oblkStAgg (us := [.int .i64 ((ix a0 (0 : Int)).length : Int), .bool a1, .slice cd cp ce, .slice none 0 0, .slice none 0 0, .slice none 0 0, .slice none 0 0, .slice none 0 0, .int .i64 (0 : Int)]) (o := 0) (cs' := #[.int .i64 ((ix a0 (0 : Int)).length : Int), .bool a1, .slice cd cp ce, .slice none 0 0, .slice none 0 0, .slice none 0 0, .slice none 0 0, .slice none 0 0, .int .i64 (0 : Int)]) 0 hO rfl rfl (Nat.le_of_ble_eq_true rfl) rfl
 obtain ⟨w60, vG, NM⟩ := hobt
 refine GoAt.step (NM ti29 (by exact rfl) (by exact rfl) rfl) (fun h => nomatch h) (Stp.kp hO vG) rfl ?_
 replace hO := vG.own
 refine GoQA.nil ?_
 intro w63 A64 E6 GL
 replace hO := E6.own hO
 replace hO := hO.permA GL
 refine zq (zr (za rfl (zn (zq (zq ?_)))))
 refine Go1.cut [(0, .slice n7 a0.length n9), (1, .bool a1), (4, .pointer (some ⟨B2, 0, none⟩)), (6, .pointer (some ⟨b49, 0, none⟩)), (7, .int .i64 (-1 : Int))] ⟨rfl, rfl, rfl, rfl, rfl, trivial⟩ ?_
 intro σ _
 refine zr (zm rfl (zn ?_))
 cases a1
 ·replace H := ifn Bool.false_ne_true H
  refine zf rfl rfl (zk (zq (zq (zr (zm rfl ?_)))))
  refine zo (op_len Try.underlying22 rfl) (zm rfl (zn (zb ?_)))
  have j9 := Stp.nil (e := 26) (r := 1) hO
  replace hO := j9.own
  have oE := Els.nil (Rp.sl (Rp.int .i64)) (bl (.row 26 1 none 0 0 [] :: [.blk b49 (.cells #[.int .i64 ((ix a0 (0 : Int)).length : Int), .bool false, .slice cd cp ce, .slice none 0 0, .slice none 0 0, .slice none 0 0, .slice none 0 0, .slice none 0 0, .int .i64 (0 : Int)] 29 (0, 0)), t2 (Fl.int .i64) 26 3 cd cp ce fy r38, .blk B2 (.cells #[.int .i64 (0 : Int), .bool false, .slice none 0 0, .slice none 0 0, .slice none 0 0, .slice none 0 0, .slice none 0 0, .slice none 0 0, .int .i64 (0 : Int)] 29 (0, 0))]) ++ A) w63
  have nW := Stp.nil (e := 3) (r := 1) hO
  replace hO := nW.own
  have DK := Els.nil (Rp.int .i64) (bl (.row 3 1 none 0 0 [] :: [.row 26 1 none 0 0 [], .blk b49 (.cells #[.int .i64 ((ix a0 (0 : Int)).length : Int), .bool false, .slice cd cp ce, .slice none 0 0, .slice none 0 0, .slice none 0 0, .slice none 0 0, .slice none 0 0, .int .i64 (0 : Int)] 29 (0, 0)), t2 (Fl.int .i64) 26 3 cd cp ce fy r38, .blk B2 (.cells #[.int .i64 (0 : Int), .bool false, .slice none 0 0, .slice none 0 0, .slice none 0 0, .slice none 0 0, .slice none 0 0, .slice none 0 0, .int .i64 (0 : Int)] 29 (0, 0))]) ++ A) w63
  have f7 := Stp.nil (e := 3) (r := 1) hO
  replace hO := f7.own
  have qR := Els.nil (Rp.int .i64) (bl (.row 3 1 none 0 0 [] :: [.row 3 1 none 0 0 [], .row 26 1 none 0 0 [], .blk b49 (.cells #[.int .i64 ((ix a0 (0 : Int)).length : Int), .bool false, .slice cd cp ce, .slice none 0 0, .slice none 0 0, .slice none 0 0, .slice none 0 0, .slice none 0 0, .int .i64 (0 : Int)] 29 (0, 0)), t2 (Fl.int .i64) 26 3 cd cp ce fy r38, .blk B2 (.cells #[.int .i64 (0 : Int), .bool false, .slice none 0 0, .slice none 0 0, .slice none 0 0, .slice none 0 0, .slice none 0 0, .slice none 0 0, .int .i64 (0 : Int)] 29 (0, 0))]) ++ A) w63
  have zS := Stp.nil (e := 39) (r := 2) hO
  replace hO := zS.own
  have RH := Els.nil (rpRule) (bl (.row 39 2 none 0 0 [] :: [.row 3 1 none 0 0 [], .row 3 1 none 0 0 [], .row 26 1 none 0 0 [], .blk b49 (.cells #[.int .i64 ((ix a0 (0 : Int)).length : Int), .bool false, .slice cd cp ce, .slice none 0 0, .slice none 0 0, .slice none 0 0, .slice none 0 0, .slice none 0 0, .int .i64 (0 : Int)] 29 (0, 0)), t2 (Fl.int .i64) 26 3 cd cp ce fy r38, .blk B2 (.cells #[.int .i64 (0 : Int), .bool false, .slice none 0 0, .slice none 0 0, .slice none 0 0, .slice none 0 0, .slice none 0 0, .slice none 0 0, .int .i64 (0 : Int)] 29 (0, 0))]) ++ A) w63
  replace qR := qR.ch zS.ch
  replace DK := (DK.ch f7.ch).ch zS.ch
  have Z1 := (nW.ch.trans f7.ch).trans zS.ch
  replace oE := oE.ch Z1
  replace hB := ((((((hB.trans (E5.same.fr _)).trans vG.fr).trans (E6.same.fr _)).trans j9.fr).trans nW.fr).trans f7.fr).trans zS.fr
  have Z2 := (((((((((xG.ch.trans (E4.ch _)).trans JG).trans (E5.ch _)).trans vG.ch).trans (E6.ch _)).trans (permCh GL _)).trans j9.ch).trans nW.ch).trans f7.ch).trans zS.ch
  replace ae := ae.ch Z2
  refine Go1.loopW (S := Nat × List Rule × List Int × List Int × List (List Int)) (fun s σ w => match s with | (k1_80, d_81, d_87, d_93, d_99) => ∃ (n86 : Nat), ∃ (p84 : Option Addr), ∃ (c85 : Nat), ∃ (fM : List Value), ∃ (n92 : Nat), ∃ (p90 : Option Addr), ∃ (c91 : Nat), ∃ (fN : List Value), ∃ (n98 : Nat), ∃ (p96 : Option Addr), ∃ (c97 : Nat), ∃ (uS : List Value), ∃ (gt : Nat), ∃ (iC : Option Addr), ∃ (iD : Nat), ∃ (tT : List Value), agrees σ [(4, .pointer (some ⟨B2, 0, none⟩)), (6, .pointer (some ⟨b49, 0, none⟩)), (7, .int .i64 (-1 : Int)), (42, .slice n7 a0.length n9), (43, .int .i64 (a0.length : Int)), (44, .int .i64 (k1_80 : Int))] ∧ (fun Z0 => Owns w0.heap.size w Z0 A ∧ Els (rpRule) (bl Z0 ++ A) w fM d_81 ∧ Els (Rp.int .i64) (bl Z0 ++ A) w fN d_87 ∧ Els (Rp.int .i64) (bl Z0 ++ A) w uS d_93 ∧ Els (Rp.sl (Rp.int .i64)) (bl Z0 ++ A) w tT d_99 ∧ ISl (Rp.sl (Rp.int .i64)) (bl Z0 ++ A) w n7 n9 a0 ∧ Fr (bl []) w0 (bl Z0) w) [.row 39 2 p84 n86 c85 fM, .row 3 1 p90 n92 c91 fN, .row 3 1 p96 n98 c97 uS, .row 26 1 iC gt iD tT, .blk b49 (.cells #[.int .i64 ((ix a0 (0 : Int)).length : Int), .bool false, .slice cd cp ce, .slice iC gt iD, .slice p96 n98 c97, .slice p90 n92 c91, .slice none 0 0, .slice p84 n86 c85, .int .i64 (0 : Int)] 29 (0, 0)), t2 (Fl.int .i64) 26 3 cd cp ce fy r38, .blk B2 (.cells #[.int .i64 (0 : Int), .bool false, .slice none 0 0, .slice none 0 0, .slice none 0 0, .slice none 0 0, .slice none 0 0, .slice none 0 0, .int .i64 (0 : Int)] 29 (0, 0))]) H ⟨0, none, 0, [], 0, none, 0, [], 0, none, 0, [], 0, none, 0, [], ⟨rfl, rfl, rfl, rfl, rfl, rfl, trivial⟩, hO, RH, qR, DK, oE, ae, hB⟩ ?_
  intro X1
  refine prE fun k1_80 => prE fun d_81 => prE fun d_87 => prE fun d_93 => fun d_99 => ?_
  intro H hX1 σ w79
  refine exE fun n86 => exE fun p84 => exE fun c85 => exE fun fM => exE fun n92 => exE fun p90 => exE fun c91 => exE fun fN => exE fun n98 => exE fun p96 => exE fun c97 => exE fun uS => exE fun gt => exE fun iC => exE fun iD => exE fun tT => andE fun hag => andE fun hO => andE fun bz => andE fun bV => andE fun ft => andE fun fo => andE fun ae => fun hB => ?_
  dsimp only at H
  refine Go1.keep [(4, .pointer (some ⟨B2, 0, none⟩)), (6, .pointer (some ⟨b49, 0, none⟩)), (7, .int .i64 (-1 : Int)), (42, .slice n7 a0.length n9), (43, .int .i64 (a0.length : Int)), (44, .int .i64 (k1_80 : Int))] hag ?_
  refine zq (zr ?_)
  by_cases xr : (k1_80 : Int) < (a0.length : Int)
  ·replace H := ifp xr H
   refine zo (fun w => opB (op_lss rfl rfl w) (decide_eq_true xr)) (zn (zq (zt rfl rfl (zk (zq ?_)))))
   refine zb (zq (zr (zm rfl ?_)))
   obtain ⟨xt, H⟩ := H
   obtain ⟨BN, H⟩ := H
   refine zo (op_index Try.underlying22 ti26 rfl rfl xt BN (ae.some_ xt BN)) ?_
   have hobt := ldSl ae xt BN
   obtain ⟨JH, JI, di, NN⟩ := hobt
   refine zs (NN Try.underlying26 rfl rfl) (za rfl (za rfl (zn (zq (zr ?_)))))
   refine zo (op_fieldAddr Try.underlying29 rfl ti22 rfl (by decide)) (zs (oblk (i := 3) 4 hO rfl rfl Try.underlying22 rfl rfl) (zm rfl ?_))
   have hobt := rowlend 3 hO rfl fo
   obtain ⟨NO, EO⟩ := hobt
   have hOc114 := hO.drop 3
   refine GoR.call (op_call body41 (show ([.slice iC gt iD, .slice JH ((ix a0 (k1_80 : Int)).length) JI] : List Value) = [.slice iC d_99.length iD, .slice JH ((ix a0 (k1_80 : Int)).length) JI] from by rw [← EO]) (walk_ref12_Find hOc114.lt NO (di.ch (Owns.dropCh _ _ 3)) H)) rfl rfl ?_
   rintro Wm Wn ⟨r115, rfl, NP, H⟩
   have xe := Stp.same hO NP
   replace hO := xe.own
   refine za rfl (zn (zq (zq (zr (zm rfl ?_)))))
   by_cases E7 : (0 : Int) ≤ r115
   ·replace H := ifp E7 H
    refine zo (fun w => opB (op_geq rfl rfl w) (decide_eq_true E7)) (zn (zt rfl rfl (zq ?_)))
    refine Go1.drawS 2 [(0, .pure), (1, .stable), (2, .pure), (4, .stable), (5, .pure), (3, .loud), (6, .loud), (7, .pure), (8, .loud), (9, .last), (10, .pure), (11, .last)] mixed (by kernel_rfl) ?_
    intro Wo Eu
    have xg := Stp.same hO Eu
    replace hO := xg.own
    refine GoQ.pure rfl (op_fieldAddr Try.underlying29 rfl ti27 rfl (by decide)) rfl rfl ?_
    refine GoQ.stable rfl (oblk (i := 7) 4 hO rfl rfl Try.underlying27 rfl rfl) rfl rfl ?_
    refine GoQ.pure rfl (op_move rfl) rfl rfl ?_
    refine GoQ.stable rfl (oblkAgg (vs := [.int .i64 ((ix a0 (0 : Int)).length : Int), .bool false, .slice cd cp ce, .slice iC gt iD, .slice p96 n98 c97, .slice p90 n92 c91, .slice none 0 0, .slice p84 n86 c85, .int .i64 (0 : Int)]) (i := 0) 4 hO rfl rfl Try.underlying29 rfl ti29 rfl) rfl rfl ?_
    refine GoQ.pure rfl (op_move rfl) rfl rfl ?_
    refine GoQ.call rfl (op_call body55 rfl (walk_ref12_letter hO.lt H)) (fun v w hr => by obtain ⟨_, _, hs, _, _⟩ := hr; assumption) rfl rfl ?_
    rintro Wp RI ⟨r125, rfl, NQ, HD, H⟩
    have xh := Stp.same hO NQ
    replace hO := xh.own
    have NR := t2lend 5 hO rfl
    have NS := t2neq 5 hO rfl
    have hOc133 := hO.drop 5
    have Z3 := (xe.ch.trans xg.ch).trans xh.ch
    replace fo := fo.ch Z3
    have hobt := rowlend 3 hOc133 rfl (fo.ch (Owns.dropCh _ _ 5))
    obtain ⟨NT, NU⟩ := hobt
    have hOc136 := hOc133.drop 3
    replace ft := ft.ch Z3
    have hobt := rowlend 2 hOc136 rfl ((ft.ch (Owns.dropCh _ _ 5)).ch (Owns.dropCh _ _ 3))
    obtain ⟨EV, EW⟩ := hobt
    have hOc139 := hOc136.drop 2
    replace bV := bV.ch Z3
    have hobt := rowlend 1 hOc139 rfl (((bV.ch (Owns.dropCh _ _ 5)).ch (Owns.dropCh _ _ 3)).ch (Owns.dropCh _ _ 2))
    obtain ⟨NV, NW⟩ := hobt
    have hOc142 := hOc139.drop 1
    replace bz := bz.ch Z3
    have hobt := rowlend 0 hOc142 rfl ((((bz.ch (Owns.dropCh _ _ 5)).ch (Owns.dropCh _ _ 3)).ch (Owns.dropCh _ _ 2)).ch (Owns.dropCh _ _ 1))
    obtain ⟨NX, NY⟩ := hobt
    have hOc145 := hOc142.drop 0
    refine GoQ.call rfl (op_call body40 (show ([.agg #[.int .i64 ((ix a0 (0 : Int)).length : Int), .bool false, .slice cd cp ce, .slice iC gt iD, .slice p96 n98 c97, .slice p90 n92 c91, .slice none 0 0, .slice p84 n86 c85, .int .i64 (0 : Int)], .int .i64 r115] : List Value) = [.agg #[.int .i64 ((ix a0 (0 : Int)).length : Int), .bool false, .slice cd r38.length ce, .slice iC d_99.length iD, .slice p96 d_93.length c97, .slice p90 d_87.length c91, .slice none 0 0, .slice p84 d_81.length c85, .int .i64 (0 : Int)], .int .i64 r115] from by rw [← NS, ← NU, ← EW, ← NW, ← NY]) (walk_ref12_Word (e := (⟨((ix a0 (0 : Int)).length : Int), false, r38, d_99, d_93, d_87, [], d_81, (0 : Int)⟩ : Enum)) hOc145.lt ((((NR.ch (Owns.dropCh _ _ 3)).ch (Owns.dropCh _ _ 2)).ch (Owns.dropCh _ _ 1)).ch (Owns.dropCh _ _ 0)) (((NT.ch (Owns.dropCh _ _ 2)).ch (Owns.dropCh _ _ 1)).ch (Owns.dropCh _ _ 0)) ((EV.ch (Owns.dropCh _ _ 1)).ch (Owns.dropCh _ _ 0)) (NV.ch (Owns.dropCh _ _ 0)) (ISl.null _ _ _) NX H)) (fun v w hr => by obtain ⟨_, _, hs, _, _⟩ := hr; assumption) rfl rfl ?_
    rintro Wq Wr ⟨r146, rfl, N1, HE, H⟩
    have xi := Stp.same hO N1
    replace hO := xi.own
    refine GoQ.pure rfl (op_build Try.underlying39 ti39 (pl := [(0, 1), (1, 1)]) (vs := [(0, .string (gstr r125)), (1, .string (gstr r146))]) (cs := #[.string (gstr r125), .string (gstr r146)]) (by kernel_rfl) rfl (by kernel_rfl)) rfl rfl ?_
    have hobt := obuildN (r := rpRule) (n := 1) (parts := [(0, .agg #[.string (gstr r125), .string (gstr r146)])]) (vs := [.string (gstr r125), .string (gstr r146)]) (xs := [(⟨r125, r146⟩ : Rule)]) Try.underlying27 ti39 hO (by decide) (by decide) (by kernel_rfl) (Els.flat1 (⟨r125, r146⟩ : Rule) ⟨HD, HE⟩) rfl
    obtain ⟨RJ, Ws, iM, N2, N3, JJ⟩ := hobt
    refine GoQ.loud rfl (JJ rfl) N3 rfl rfl ?_
    replace hO := iM.own
    have hobt := freeze 0 hO rfl N2
    obtain ⟨hO1, zT, cB, N4⟩ := hobt
    dsimp only [eS, eZ] at hO1 zT cB
    replace hB := (((((hB.trans xe.fr).trans xg.fr).trans xh.fr).trans xi.fr).trans iM.fr).trans (Owns.dropFr _ _ 0)
    dsimp only [eS, eZ] at hB
    replace hO := hO1; clear hO1
    obtain ⟨BE, H⟩ := H
    have Z4 := (xi.ch.trans iM.ch).trans zT
    replace bz := bz.ch Z4
    have hobt := oapp Try.underlying27 ti39 rfl 0 hO rfl bz cB N4 BE (by decide)
    obtain ⟨Wt, Ev, Ew, N5, vR, C1, JK⟩ := hobt
    dsimp only [sS, sZ] at vR C1
    refine GoQ.last rfl (JK (by exact rfl) (by exact rfl)) rfl rfl ?_
    replace hO := vR.own
    refine GoQ.pure rfl (op_fieldAddr Try.underlying29 rfl ti27 rfl (by decide)) rfl rfl ?_
    have hobt := oblkSt2 (v := .slice Ev (n86 + 1) Ew) (i := 7) (cs' := #[.int .i64 ((ix a0 (0 : Int)).length : Int), .bool false, .slice cd cp ce, .slice iC gt iD, .slice p96 n98 c97, .slice p90 n92 c91, .slice none 0 0, .slice Ev (n86 + 1) Ew, .int .i64 (0 : Int)]) 4 hO rfl rfl rfl rfl
    obtain ⟨Wu, eV, JL⟩ := hobt
    dsimp only [sS, sZ] at eV
    refine GoQ.last rfl (JL Try.underlying27 rfl ti27 (by exact rfl) (by exact rfl)) rfl rfl ?_
    replace hO := eV.own
    refine GoQ.nil ?_
    refine Go1.exit rfl ?_
    refine Go1.cut [(4, .pointer (some ⟨B2, 0, none⟩)), (6, .pointer (some ⟨b49, 0, none⟩)), (7, .int .i64 (-1 : Int)), (42, .slice n7 a0.length n9), (43, .int .i64 (a0.length : Int)), (44, .int .i64 (k1_80 : Int))] ⟨rfl, rfl, rfl, rfl, rfl, rfl, trivial⟩ ?_
    intro σ _
    refine zr ?_
    have Z5 := ((((Z3.trans xi.ch).trans iM.ch).trans zT).trans vR.ch).trans eV.ch
    replace ae := ae.ch Z5
    refine zo (op_add rfl rfl (wrap_i64 (natbd xr ae.bd))) (zm rfl (zn ?_))
    replace C1 := C1.ch eV.ch
    replace hB := (hB.trans vR.fr).trans eV.fr
    have Z6 := (Z4.trans vR.ch).trans eV.ch
    replace bV := bV.ch Z6
    replace ft := ft.ch Z6
    replace fo := fo.ch Z6
    exact hX1 _ H _ _ ⟨n86 + 1, Ev, Ew, N5, n92, p90, c91, fN, n98, p96, c97, uS, gt, iC, iD, tT, ⟨rfl, rfl, rfl, rfl, rfl, rfl, trivial⟩, hO, C1, bV, ft, fo, ae, hB⟩
   replace H := ifn E7 H
   refine zo (fun w => opB (op_geq rfl rfl w) (decide_eq_false E7)) (zn (zf rfl rfl (zk ?_)))
   refine Go1.drawA (CSv.tr [(some ⟨b49, 3, none⟩), (some ⟨b49, 4, none⟩), (some ⟨b49, 5, none⟩)]) A 1 [(0, .pure), (1, .stable), (3, .pure), (7, .pure), (8, .stable), (9, .pure), (12, .pure), (13, .stable), (14, .pure), (2, .alloc), (4, .loud), (5, .alloc), (6, .loud), (17, .pure), (10, .alloc), (11, .loud), (15, .alloc), (16, .loud), (18, .last), (19, .pure), (20, .last), (21, .pure), (22, .last)] mixed (by kernel_rfl) trivial hO.bd ?_
   intro Qb D2
   have jc := Stp.same hO D2
   replace hO := jc.own
   have C2 := hO.le
   replace hB := (hB.trans xe.fr).trans jc.fr
   have hw177 := hB.ch.size
   refine GoQA.pure rfl (op_fieldAddr Try.underlying29 rfl ti22 rfl (by decide)) rfl rfl ?_
   refine GoQA.stable rfl (loadV (.head _) rfl (blkCell 4 hO rfl rfl) Try.underlying22 rfl rfl) rfl rfl ?_
   refine GoQA.pure rfl (op_move rfl) rfl rfl ?_
   refine GoQA.pure rfl (op_fieldAddr Try.underlying29 rfl ti26 rfl (by decide)) rfl rfl ?_
   refine GoQA.stable rfl (loadV (.tail _ (.head _)) rfl (blkCell 4 hO rfl rfl) Try.underlying26 rfl rfl) rfl rfl ?_
   refine GoQA.pure rfl (op_move rfl) rfl rfl ?_
   refine GoQA.pure rfl (op_fieldAddr Try.underlying29 rfl ti26 rfl (by decide)) rfl rfl ?_
   refine GoQA.stable rfl (loadV (.tail _ (.tail _ (.head _))) rfl (blkCell 4 hO rfl rfl) Try.underlying26 rfl rfl) rfl rfl ?_
   refine GoQA.pure rfl (op_move rfl) rfl rfl ?_
   refine GoQA.alloc rfl rfl (alBuild (n := 0) (parts := []) (vs := []) Try.underlying26 ti3 (by decide) (by decide) (by decide) (by kernel_rfl) rfl rfl) ?_
   intro FK A181 JM A183 yu Hi hd186 hnb187 hh188
   replace hO := yu.own hO
   have Cd : Els (Rp.int .i64) (bl [.row 39 2 p84 n86 c85 fM, .row 3 1 p90 n92 c91 fN, .row 3 1 p96 n98 c97 uS, .row 26 1 iC gt iD tT, .blk b49 (.cells #[.int .i64 ((ix a0 (0 : Int)).length : Int), .bool false, .slice cd cp ce, .slice iC gt iD, .slice p96 n98 c97, .slice p90 n92 c91, .slice none 0 0, .slice p84 n86 c85, .int .i64 (0 : Int)] 29 (0, 0)), t2 (Fl.int .i64) 26 3 cd cp ce fy r38, .blk B2 (.cells #[.int .i64 (0 : Int), .bool false, .slice none 0 0, .slice none 0 0, .slice none 0 0, .slice none 0 0, .slice none 0 0, .slice none 0 0, .int .i64 (0 : Int)] 29 (0, 0))] ++ A181) FK [] (([] : List Int)) := (Els.nil _ _ _)
   have zU := gainCh (w := FK) (E := [.row 39 2 p84 n86 c85 fM, .row 3 1 p90 n92 c91 fN, .row 3 1 p96 n98 c97 uS, .row 26 1 iC gt iD tT, .blk b49 (.cells #[.int .i64 ((ix a0 (0 : Int)).length : Int), .bool false, .slice cd cp ce, .slice iC gt iD, .slice p96 n98 c97, .slice p90 n92 c91, .slice none 0 0, .slice p84 n86 c85, .int .i64 (0 : Int)] 29 (0, 0)), t2 (Fl.int .i64) 26 3 cd cp ce fy r38, .blk B2 (.cells #[.int .i64 (0 : Int), .bool false, .slice none 0 0, .slice none 0 0, .slice none 0 0, .slice none 0 0, .slice none 0 0, .slice none 0 0, .int .i64 (0 : Int)] 29 (0, 0))]) (e := .row 3 1 (some ⟨JM, 0, none⟩) 0 0 []) Hi rfl
   replace hB := hB.trans (yu.same.fr _)
   replace hB := Fr.gain (e := .row 3 1 (some ⟨JM, 0, none⟩) 0 0 []) hB (Nat.le_trans hw177 hnb187) rfl
   replace hO := Owns.gain hO Hi C2 rfl hh188 hd186
   refine GoQA.loudI rfl rfl ?_
   intro Qd A192 xH
   replace hO := xH.own hO
   obtain ⟨RK, H⟩ := H
   replace Cd := (Cd.ch zU).ch (xH.ch _)
   have Z7 := (((xe.ch.trans jc.ch).trans (yu.ch _)).trans zU).trans (xH.ch _)
   replace di := di.ch Z7
   have hobt := oapp Try.underlying26 ti3 rfl 0 hO rfl Cd di rfl RK (by decide)
   obtain ⟨Wv, BU, BV, TC, q9, Hj, Dk⟩ := hobt
   dsimp only [sS, sZ] at q9 Hj
   refine GoAt.step (Dk (by exact rfl) (by exact rfl)) (fun _ => (CSv.cons (cs_eq (blkCell 5 hO rfl rfl) (blkCell 5 q9.own rfl rfl)) (CSv.cons (cs_eq (blkCell 5 hO rfl rfl) (blkCell 5 q9.own rfl rfl)) (CSv.cons (cs_eq (blkCell 5 hO rfl rfl) (blkCell 5 q9.own rfl rfl)) (CSv.nil _ _))))) (Stp.kp hO q9) rfl ?_
   replace hO := q9.own
   have hobt := freeze 0 hO rfl Hj
   obtain ⟨hO1, zV, eY, N6⟩ := hobt
   dsimp only [eS, eZ] at hO1 zV eY
   replace hB := ((hB.trans (xH.same.fr _)).trans q9.fr).trans (Owns.dropFr _ _ 0)
   dsimp only [eS, eZ] at hB
   replace hO := hO1; clear hO1
   refine GoQA.alloc rfl rfl (alBuild (n := 1) (parts := [(0, .slice BU (0 + ((ix a0 (k1_80 : Int)).length)) BV)]) (vs := [.slice BU (0 + ((ix a0 (k1_80 : Int)).length)) BV]) Try.underlying22 ti26 (by decide) (by decide) (by decide) (by kernel_rfl) rfl rfl) ?_
   intro JN A205 JO A207 xI Hk hd210 hnb211 hh212
   replace hO := xI.own hO
   replace eY := eY.ch (xI.ch _)
   have yo : Els (Rp.sl (Rp.int .i64)) (bl [.row 39 2 p84 n86 c85 fM, .row 3 1 p90 n92 c91 fN, .row 3 1 p96 n98 c97 uS, .row 26 1 iC gt iD tT, .blk b49 (.cells #[.int .i64 ((ix a0 (0 : Int)).length : Int), .bool false, .slice cd cp ce, .slice iC gt iD, .slice p96 n98 c97, .slice p90 n92 c91, .slice none 0 0, .slice p84 n86 c85, .int .i64 (0 : Int)] 29 (0, 0)), t2 (Fl.int .i64) 26 3 cd cp ce fy r38, .blk B2 (.cells #[.int .i64 (0 : Int), .bool false, .slice none 0 0, .slice none 0 0, .slice none 0 0, .slice none 0 0, .slice none 0 0, .slice none 0 0, .int .i64 (0 : Int)] 29 (0, 0))] ++ A205) JN [.slice BU (0 + ((ix a0 (k1_80 : Int)).length)) BV] [(([] : List Int)) ++ (ix a0 (k1_80 : Int))] := (Els.cons rfl ⟨BU, BV, congrArg some (congrArg (fun nn => Value.slice BU nn BV) N6), eY⟩ (Els.nil _ _ _) (by simp [mx]))
   have yv := gainCh (w := JN) (E := [.row 39 2 p84 n86 c85 fM, .row 3 1 p90 n92 c91 fN, .row 3 1 p96 n98 c97 uS, .row 26 1 iC gt iD tT, .blk b49 (.cells #[.int .i64 ((ix a0 (0 : Int)).length : Int), .bool false, .slice cd cp ce, .slice iC gt iD, .slice p96 n98 c97, .slice p90 n92 c91, .slice none 0 0, .slice p84 n86 c85, .int .i64 (0 : Int)] 29 (0, 0)), t2 (Fl.int .i64) 26 3 cd cp ce fy r38, .blk B2 (.cells #[.int .i64 (0 : Int), .bool false, .slice none 0 0, .slice none 0 0, .slice none 0 0, .slice none 0 0, .slice none 0 0, .slice none 0 0, .int .i64 (0 : Int)] 29 (0, 0))]) (e := .row 26 1 (some ⟨JO, 0, none⟩) 1 1 [.slice BU (0 + ((ix a0 (k1_80 : Int)).length)) BV]) Hk rfl
   replace hB := hB.trans (xI.same.fr _)
   replace hB := Fr.gain (e := .row 26 1 (some ⟨JO, 0, none⟩) 1 1 [.slice BU (0 + ((ix a0 (k1_80 : Int)).length)) BV]) hB (Nat.le_trans hw177 hnb211) rfl
   replace hO := Owns.gain hO Hk C2 rfl hh212 hd210
   refine GoQA.loudI rfl rfl ?_
   intro Ww A219 wF
   replace hO := wF.own hO
   replace yo := (yo.ch yv).ch (wF.ch _)
   have hobt := freeze 0 hO rfl yo
   obtain ⟨hO1, yw, fJ, N7⟩ := hobt
   dsimp only [eS, eZ] at hO1 yw fJ
   replace hB := (hB.trans (wF.same.fr _)).trans (Owns.dropFr _ _ 0)
   dsimp only [eS, eZ] at hB
   replace hO := hO1; clear hO1
   obtain ⟨RL, H⟩ := H
   have Z8 := (((((Z7.trans q9.ch).trans zV).trans (xI.ch _)).trans yv).trans (wF.ch _)).trans yw
   replace fo := fo.ch Z8
   have hobt := oapp Try.underlying22 ti26 rfl 3 hO rfl fo fJ N7 RL (by decide)
   obtain ⟨Wx, zW, zX, oI, pY, fT, JP⟩ := hobt
   dsimp only [sS, sZ] at pY fT
   refine GoAt.step (JP (by exact rfl) (by exact rfl)) (fun _ => (CSv.cons (cs_eq (blkCell 4 hO rfl rfl) (blkCell 4 pY.own rfl rfl)) (CSv.cons (cs_eq (blkCell 4 hO rfl rfl) (blkCell 4 pY.own rfl rfl)) (CSv.cons (cs_eq (blkCell 4 hO rfl rfl) (blkCell 4 pY.own rfl rfl)) (CSv.nil _ _))))) (Stp.kp hO pY) rfl ?_
   replace hO := pY.own
   refine GoQA.pure rfl (op_fieldAddr Try.underlying29 rfl ti22 rfl (by decide)) rfl rfl ?_
   refine GoQA.alloc rfl rfl (alBuild (n := 1) (parts := [(0, .int .i64 (-1 : Int))]) (vs := [.int .i64 (-1 : Int)]) Try.underlying26 ti3 (by decide) (by decide) (by decide) (by kernel_rfl) rfl rfl) ?_
   intro JQ A235 JR A237 wG Hl hd240 hnb241 hh242
   replace hO := wG.own hO
   have Ce : Els (Rp.int .i64) (bl [.row 39 2 p84 n86 c85 fM, .row 3 1 p90 n92 c91 fN, .row 3 1 p96 n98 c97 uS, .row 26 1 zW (gt + 1) zX oI, .blk b49 (.cells #[.int .i64 ((ix a0 (0 : Int)).length : Int), .bool false, .slice cd cp ce, .slice iC gt iD, .slice p96 n98 c97, .slice p90 n92 c91, .slice none 0 0, .slice p84 n86 c85, .int .i64 (0 : Int)] 29 (0, 0)), t2 (Fl.int .i64) 26 3 cd cp ce fy r38, .blk B2 (.cells #[.int .i64 (0 : Int), .bool false, .slice none 0 0, .slice none 0 0, .slice none 0 0, .slice none 0 0, .slice none 0 0, .slice none 0 0, .int .i64 (0 : Int)] 29 (0, 0))] ++ A235) JQ [.int .i64 (-1 : Int)] [(-1 : Int)] := (Els.cons rfl rfl (Els.nil _ _ _) (by simp [mx]))
   have xJ := gainCh (w := JQ) (E := [.row 39 2 p84 n86 c85 fM, .row 3 1 p90 n92 c91 fN, .row 3 1 p96 n98 c97 uS, .row 26 1 zW (gt + 1) zX oI, .blk b49 (.cells #[.int .i64 ((ix a0 (0 : Int)).length : Int), .bool false, .slice cd cp ce, .slice iC gt iD, .slice p96 n98 c97, .slice p90 n92 c91, .slice none 0 0, .slice p84 n86 c85, .int .i64 (0 : Int)] 29 (0, 0)), t2 (Fl.int .i64) 26 3 cd cp ce fy r38, .blk B2 (.cells #[.int .i64 (0 : Int), .bool false, .slice none 0 0, .slice none 0 0, .slice none 0 0, .slice none 0 0, .slice none 0 0, .slice none 0 0, .int .i64 (0 : Int)] 29 (0, 0))]) (e := .row 3 1 (some ⟨JR, 0, none⟩) 1 1 [.int .i64 (-1 : Int)]) Hl rfl
   replace hB := (hB.trans pY.fr).trans (wG.same.fr _)
   replace hB := Fr.gain (e := .row 3 1 (some ⟨JR, 0, none⟩) 1 1 [.int .i64 (-1 : Int)]) hB (Nat.le_trans hw177 hnb241) rfl
   replace hO := Owns.gain hO Hl C2 rfl hh242 hd240
   refine GoQA.loudI rfl rfl ?_
   intro Qi A246 vS
   replace hO := vS.own hO
   replace Ce := (Ce.ch xJ).ch (vS.ch _)
   have hobt := freeze 0 hO rfl Ce
   obtain ⟨hO1, nQ, cS, D8⟩ := hobt
   dsimp only [eS, eZ] at hO1 nQ cS
   replace hB := (hB.trans (vS.same.fr _)).trans (Owns.dropFr _ _ 0)
   dsimp only [eS, eZ] at hB
   replace hO := hO1; clear hO1
   obtain ⟨RM, H⟩ := H
   have Z9 := ((((Z8.trans pY.ch).trans (wG.ch _)).trans xJ).trans (vS.ch _)).trans nQ
   replace ft := ft.ch Z9
   have hobt := oapp Try.underlying26 ti3 rfl 2 hO rfl ft cS D8 RM (by decide)
   obtain ⟨Q5, BO, CD, E8, pi, jw, JS⟩ := hobt
   dsimp only [sS, sZ] at pi jw
   refine GoAt.step (JS (by exact rfl) (by exact rfl)) (fun _ => (CSv.cons (cs_eq (blkCell 4 hO rfl rfl) (blkCell 4 pi.own rfl rfl)) (CSv.cons (cs_eq (blkCell 4 hO rfl rfl) (blkCell 4 pi.own rfl rfl)) (CSv.cons (cs_eq (blkCell 4 hO rfl rfl) (blkCell 4 pi.own rfl rfl)) (CSv.nil _ _))))) (Stp.kp hO pi) rfl ?_
   replace hO := pi.own
   refine GoQA.alloc rfl rfl (alBuild (n := 1) (parts := [(0, .int .i64 (k1_80 : Int))]) (vs := [.int .i64 (k1_80 : Int)]) Try.underlying26 ti3 (by decide) (by decide) (by decide) (by kernel_rfl) rfl rfl) ?_
   intro JT A262 JU A264 vT Hm hd267 hnb268 hh269
   replace hO := vT.own hO
   have Cf : Els (Rp.int .i64) (bl [.row 39 2 p84 n86 c85 fM, .row 3 1 p90 n92 c91 fN, .row 3 1 BO (n98 + 1) CD E8, .row 26 1 zW (gt + 1) zX oI, .blk b49 (.cells #[.int .i64 ((ix a0 (0 : Int)).length : Int), .bool false, .slice cd cp ce, .slice iC gt iD, .slice p96 n98 c97, .slice p90 n92 c91, .slice none 0 0, .slice p84 n86 c85, .int .i64 (0 : Int)] 29 (0, 0)), t2 (Fl.int .i64) 26 3 cd cp ce fy r38, .blk B2 (.cells #[.int .i64 (0 : Int), .bool false, .slice none 0 0, .slice none 0 0, .slice none 0 0, .slice none 0 0, .slice none 0 0, .slice none 0 0, .int .i64 (0 : Int)] 29 (0, 0))] ++ A262) JT [.int .i64 (k1_80 : Int)] [(k1_80 : Int)] := (Els.cons rfl rfl (Els.nil _ _ _) (by simp [mx]))
   have wH := gainCh (w := JT) (E := [.row 39 2 p84 n86 c85 fM, .row 3 1 p90 n92 c91 fN, .row 3 1 BO (n98 + 1) CD E8, .row 26 1 zW (gt + 1) zX oI, .blk b49 (.cells #[.int .i64 ((ix a0 (0 : Int)).length : Int), .bool false, .slice cd cp ce, .slice iC gt iD, .slice p96 n98 c97, .slice p90 n92 c91, .slice none 0 0, .slice p84 n86 c85, .int .i64 (0 : Int)] 29 (0, 0)), t2 (Fl.int .i64) 26 3 cd cp ce fy r38, .blk B2 (.cells #[.int .i64 (0 : Int), .bool false, .slice none 0 0, .slice none 0 0, .slice none 0 0, .slice none 0 0, .slice none 0 0, .slice none 0 0, .int .i64 (0 : Int)] 29 (0, 0))]) (e := .row 3 1 (some ⟨JU, 0, none⟩) 1 1 [.int .i64 (k1_80 : Int)]) Hm rfl
   replace hB := (hB.trans pi.fr).trans (vT.same.fr _)
   replace hB := Fr.gain (e := .row 3 1 (some ⟨JU, 0, none⟩) 1 1 [.int .i64 (k1_80 : Int)]) hB (Nat.le_trans hw177 hnb268) rfl
   replace hO := Owns.gain hO Hm C2 rfl hh269 hd267
   refine GoQA.loudI rfl rfl ?_
   intro RN A273 vg
   replace hO := vg.own hO
   replace Cf := (Cf.ch wH).ch (vg.ch _)
   have hobt := freeze 0 hO rfl Cf
   obtain ⟨hO1, wI, nX, N8⟩ := hobt
   dsimp only [eS, eZ] at hO1 wI nX
   replace hB := (hB.trans (vg.same.fr _)).trans (Owns.dropFr _ _ 0)
   dsimp only [eS, eZ] at hB
   replace hO := hO1; clear hO1
   obtain ⟨RO, H⟩ := H
   have Z10 := ((((Z9.trans pi.ch).trans (vT.ch _)).trans wH).trans (vg.ch _)).trans wI
   replace bV := bV.ch Z10
   have hobt := oapp Try.underlying26 ti3 rfl 1 hO rfl bV nX N8 RO (by decide)
   obtain ⟨Wy, GM, GN, N9, oD, pF, JV⟩ := hobt
   dsimp only [sS, sZ] at oD pF
   refine GoAt.step (JV (by exact rfl) (by exact rfl)) (fun _ => (CSv.cons (cs_eq (blkCell 4 hO rfl rfl) (blkCell 4 oD.own rfl rfl)) (CSv.cons (cs_eq (blkCell 4 hO rfl rfl) (blkCell 4 oD.own rfl rfl)) (CSv.cons (cs_eq (blkCell 4 hO rfl rfl) (blkCell 4 oD.own rfl rfl)) (CSv.nil _ _))))) (Stp.kp hO oD) rfl ?_
   replace hO := oD.own
   refine GoQA.lastI rfl rfl ?_
   intro Wz A288 vh
   replace hO := vh.own hO
   have hobt := oblkSt2 (v := .slice zW (gt + 1) zX) (i := 3) (cs' := #[.int .i64 ((ix a0 (0 : Int)).length : Int), .bool false, .slice cd cp ce, .slice zW (gt + 1) zX, .slice p96 n98 c97, .slice p90 n92 c91, .slice none 0 0, .slice p84 n86 c85, .int .i64 (0 : Int)]) 4 hO rfl rfl rfl rfl
   obtain ⟨WA, p5, JW⟩ := hobt
   dsimp only [sS, sZ] at p5
   refine GoAt.step (JW Try.underlying22 rfl ti22 (by exact rfl) (by exact rfl)) (fun h => nomatch h) (Stp.kp hO p5) rfl ?_
   replace hO := p5.own
   refine GoQA.pure rfl (op_fieldAddr Try.underlying29 rfl ti26 rfl (by decide)) rfl rfl ?_
   refine GoQA.lastI rfl rfl ?_
   intro Q8 A294 vi
   replace hO := vi.own hO
   have hobt := oblkSt2 (v := .slice BO (n98 + 1) CD) (i := 4) (cs' := #[.int .i64 ((ix a0 (0 : Int)).length : Int), .bool false, .slice cd cp ce, .slice zW (gt + 1) zX, .slice BO (n98 + 1) CD, .slice p90 n92 c91, .slice none 0 0, .slice p84 n86 c85, .int .i64 (0 : Int)]) 4 hO rfl rfl rfl rfl
   obtain ⟨Q9, gw, JX⟩ := hobt
   dsimp only [sS, sZ] at gw
   refine GoAt.step (JX Try.underlying26 rfl ti26 (by exact rfl) (by exact rfl)) (fun h => nomatch h) (Stp.kp hO gw) rfl ?_
   replace hO := gw.own
   refine GoQA.pure rfl (op_fieldAddr Try.underlying29 rfl ti26 rfl (by decide)) rfl rfl ?_
   refine GoQA.lastI rfl rfl ?_
   intro WB A300 vj
   replace hO := vj.own hO
   have hobt := oblkSt2 (v := .slice GM (n92 + 1) GN) (i := 5) (cs' := #[.int .i64 ((ix a0 (0 : Int)).length : Int), .bool false, .slice cd cp ce, .slice zW (gt + 1) zX, .slice BO (n98 + 1) CD, .slice GM (n92 + 1) GN, .slice none 0 0, .slice p84 n86 c85, .int .i64 (0 : Int)]) 4 hO rfl rfl rfl rfl
   obtain ⟨WC, qa, JY⟩ := hobt
   dsimp only [sS, sZ] at qa
   refine GoAt.step (JY Try.underlying26 rfl ti26 (by exact rfl) (by exact rfl)) (fun h => nomatch h) (Stp.kp hO qa) rfl ?_
   replace hO := qa.own
   refine GoQA.nil ?_
   intro WD A306 vk vU
   replace hO := vk.own hO
   replace hO := hO.permA vU
   refine Go1.inBlock ?_
   refine Go1.cut [(4, .pointer (some ⟨B2, 0, none⟩)), (6, .pointer (some ⟨b49, 0, none⟩)), (7, .int .i64 (-1 : Int)), (42, .slice n7 a0.length n9), (43, .int .i64 (a0.length : Int)), (44, .int .i64 (k1_80 : Int))] ⟨rfl, rfl, rfl, rfl, rfl, rfl, trivial⟩ ?_
   intro σ _
   refine zr ?_
   have Z11 := ((((((((Z10.trans oD.ch).trans (vh.ch _)).trans p5.ch).trans (vi.ch _)).trans gw.ch).trans (vj.ch _)).trans qa.ch).trans (vk.ch _)).trans (permCh vU _)
   replace ae := ae.ch Z11
   refine zo (op_add rfl rfl (wrap_i64 (natbd xr ae.bd))) (zm rfl (zn ?_))
   replace hB := (((((((hB.trans oD.fr).trans (vh.same.fr _)).trans p5.fr).trans (vi.same.fr _)).trans gw.fr).trans (vj.same.fr _)).trans qa.fr).trans (vk.same.fr _)
   have Z12 := (((((((vh.ch _).trans p5.ch).trans (vi.ch _)).trans gw.ch).trans (vj.ch _)).trans qa.ch).trans (vk.ch _)).trans (permCh vU _)
   replace pF := pF.ch Z12
   have Z13 := ((((((((((((vT.ch _).trans wH).trans (vg.ch _)).trans wI).trans oD.ch).trans (vh.ch _)).trans p5.ch).trans (vi.ch _)).trans gw.ch).trans (vj.ch _)).trans qa.ch).trans (vk.ch _)).trans (permCh vU _)
   replace jw := jw.ch Z13
   have Z14 := (((((((((((((((((wG.ch _).trans xJ).trans (vS.ch _)).trans nQ).trans pi.ch).trans (vT.ch _)).trans wH).trans (vg.ch _)).trans wI).trans oD.ch).trans (vh.ch _)).trans p5.ch).trans (vi.ch _)).trans gw.ch).trans (vj.ch _)).trans qa.ch).trans (vk.ch _)).trans (permCh vU _)
   replace fT := fT.ch Z14
   replace bz := bz.ch Z11
   exact hX1 _ H _ _ ⟨n86, p84, c85, fM, n92 + 1, GM, GN, N9, n98 + 1, BO, CD, E8, gt + 1, zW, zX, oI, ⟨rfl, rfl, rfl, rfl, rfl, rfl, trivial⟩, hO, bz, pF, jw, fT, ae, hB⟩
  replace H := ifn xr H
  refine zo (fun w => opB (op_lss rfl rfl w) (decide_eq_false xr)) (zn (zq (zf rfl rfl ?_)))
  refine Go1.exit rfl ?_
  refine zq (zr (zs (oblkAgg (vs := [.int .i64 ((ix a0 (0 : Int)).length : Int), .bool false, .slice cd cp ce, .slice iC gt iD, .slice p96 n98 c97, .slice p90 n92 c91, .slice none 0 0, .slice p84 n86 c85, .int .i64 (0 : Int)]) (i := 0) 4 hO rfl rfl Try.underlying29 rfl ti29 rfl) ?_))
  have hobt := oblkStAgg (us := [.int .i64 ((ix a0 (0 : Int)).length : Int), .bool false, .slice cd cp ce, .slice iC gt iD, .slice p96 n98 c97, .slice p90 n92 c91, .slice none 0 0, .slice p84 n86 c85, .int .i64 (0 : Int)]) (o := 0) (cs' := #[.int .i64 ((ix a0 (0 : Int)).length : Int), .bool false, .slice cd cp ce, .slice iC gt iD, .slice p96 n98 c97, .slice p90 n92 c91, .slice none 0 0, .slice p84 n86 c85, .int .i64 (0 : Int)]) 6 hO rfl rfl (Nat.le_of_ble_eq_true rfl) rfl
  obtain ⟨WE, ji, J0⟩ := hobt
  dsimp only [sS, sZ] at ji
  refine zg (J0 ti29 (by exact rfl) (by exact rfl) rfl) ?_
  replace hO := ji.own
  refine za rfl (zn ?_)
  have hobt := t2freezeA 5 hO rfl
  obtain ⟨hO1, Bk, wJ, Oa⟩ := hobt
  dsimp only [eS, eZ] at hO1 Bk wJ
  replace hB := (hB.trans ji.fr).trans (Owns.dropFr _ _ 5)
  dsimp only [eS, eZ] at hB
  replace hO := hO1; clear hO1
  replace fo := (fo.ch ji.ch).ch Bk
  have hobt := freeze 3 hO rfl fo
  obtain ⟨hO1, Bl, yy, Ob⟩ := hobt
  dsimp only [eS, eZ] at hO1 Bl yy
  replace hB := hB.trans (Owns.dropFr _ _ 3)
  dsimp only [eS, eZ] at hB
  replace hO := hO1; clear hO1
  have Z15 := (ji.ch.trans Bk).trans Bl
  replace ft := ft.ch Z15
  have hobt := freeze 2 hO rfl ft
  obtain ⟨hO1, Bm, Bn, Oc⟩ := hobt
  dsimp only [eS, eZ] at hO1 Bm Bn
  replace hB := hB.trans (Owns.dropFr _ _ 2)
  dsimp only [eS, eZ] at hB
  replace hO := hO1; clear hO1
  replace bV := (bV.ch Z15).ch Bm
  have hobt := freeze 1 hO rfl bV
  obtain ⟨hO1, Bo, C3, Od⟩ := hobt
  dsimp only [eS, eZ] at hO1 Bo C3
  replace hB := hB.trans (Owns.dropFr _ _ 1)
  dsimp only [eS, eZ] at hB
  replace hO := hO1; clear hO1
  replace bz := ((bz.ch Z15).ch Bm).ch Bo
  have hobt := freeze 0 hO rfl bz
  obtain ⟨hO1, m5, kl, D9⟩ := hobt
  dsimp only [eS, eZ] at hO1 m5 kl
  replace hB := hB.trans (Owns.dropFr _ _ 0)
  dsimp only [eS, eZ] at hB
  replace hO := hO1; clear hO1
  refine Go1.retC2 Try.func22 rfl rfl (run_loadBlk (vs := [.int .i64 ((ix a0 (0 : Int)).length : Int), .bool false, .slice cd cp ce, .slice iC gt iD, .slice p96 n98 c97, .slice p90 n92 c91, .slice none 0 0, .slice p84 n86 c85, .int .i64 (0 : Int)]) 1 hO rfl rfl Try.underlying29 rfl ti29) ?_
  replace C3 := C3.ch m5
  replace Bn := (Bn.ch Bo).ch m5
  have Z16 := (Bm.trans Bo).trans m5
  replace yy := yy.ch Z16
  have Z17 := ((Bl.trans Bm).trans Bo).trans m5
  replace wJ := wJ.ch Z17
  exact ⟨(⟨((ix a0 (0 : Int)).length : Int), false, r38, d_99, d_93, d_87, ([] : List (List Int)), d_81, (0 : Int)⟩ : Enum), (0 : Int), cd, ce, iC, iD, p96, c97, p90, c91, none, 0, p84, c85, (congrArg (fun l => Value.tuple (List.toArray l)) (cons_eq (congrArg (fun l => Value.agg (List.toArray l)) (cons_eq rfl (cons_eq rfl (cons_eq (congrArg (fun nn => Value.slice cd nn ce) Oa) (cons_eq (congrArg (fun nn => Value.slice iC nn iD) Ob) (cons_eq (congrArg (fun nn => Value.slice p96 nn c97) Oc) (cons_eq (congrArg (fun nn => Value.slice p90 nn c91) Od) (cons_eq rfl (cons_eq (congrArg (fun nn => Value.slice p84 nn c85) D9) (cons_eq rfl rfl)))))))))) (cons_eq rfl rfl))), hB.same, (wJ.ch (Ch.weak _ _ _)), (yy.ch (Ch.weak _ _ _)), (Bn.ch (Ch.weak _ _ _)), (C3.ch (Ch.weak _ _ _)), (ISl.null _ _ _), (kl.ch (Ch.weak _ _ _)), H⟩
 replace H := ifp rfl H
 refine zt rfl rfl (zq (zr (zo (op_fieldAddr Try.underlying29 rfl ti3 rfl (by decide)) (zs (oblk (i := 0) 0 hO rfl rfl Try.underlying3 rfl rfl) ?_))))
 refine GoR.call (op_call body54 rfl (walk_ref03_Discrete hO.lt H)) rfl rfl ?_
 rintro RQ H1 ⟨r327, pk, pm, rfl, E9, a8, H⟩
 have fF := Stp.same hO E9
 replace hO := fF.own
 have hobt := obuild (r := Rp.sl (Rp.int .i64)) (n := 1) (parts := [(0, .slice pk r327.length pm)]) (vs := [.slice pk r327.length pm]) (xs := [r327]) rfl Try.underlying22 ti26 hO (by decide) (by kernel_rfl) (Els.cons rfl ⟨pk, pm, rfl, a8⟩ (Els.nil _ _ _) (by simp [mx])) rfl
 obtain ⟨WF, BW, A4, uA, TD, Dp⟩ := hobt
 refine zg (Dp rfl) ?_
 replace hO := A4.own
 have hobt := obuild (r := Rp.int .i64) (n := 1) (parts := [(0, .int .i64 (-1 : Int))]) (vs := [.int .i64 (-1 : Int)]) (xs := [(-1 : Int)]) rfl Try.underlying26 ti3 hO (by decide) (by kernel_rfl) (Els.cons rfl rfl (Els.nil _ _ _) (by simp [mx])) rfl
 obtain ⟨Rd, BR, iL, ut, EH, DB⟩ := hobt
 refine zg (DB rfl) ?_
 replace hO := iL.own
 have hobt := obuild (r := Rp.int .i64) (n := 1) (parts := [(0, .int .i64 (-1 : Int))]) (vs := [.int .i64 (-1 : Int)]) (xs := [(-1 : Int)]) rfl Try.underlying26 ti3 hO (by decide) (by kernel_rfl) (Els.cons rfl rfl (Els.nil _ _ _) (by simp [mx])) rfl
 obtain ⟨WG, DL, x9, xK, TE, J1⟩ := hobt
 refine zg (J1 rfl) ?_
 replace hO := x9.own
 refine zo (op_fieldAddr Try.underlying29 rfl ti22 rfl (by decide)) ?_
 have hobt := oblkSt2 (v := .slice BW 1 1) (i := 3) (cs' := #[.int .i64 ((ix a0 (0 : Int)).length : Int), .bool true, .slice cd cp ce, .slice BW 1 1, .slice none 0 0, .slice none 0 0, .slice none 0 0, .slice none 0 0, .int .i64 (0 : Int)]) 3 hO rfl rfl rfl rfl
 obtain ⟨RR, gl, Dq⟩ := hobt
 dsimp only [sS, sZ] at gl
 refine zg (Dq Try.underlying22 rfl ti22 (by exact rfl) (by exact rfl)) ?_
 replace hO := gl.own
 refine zo (op_fieldAddr Try.underlying29 rfl ti26 rfl (by decide)) ?_
 have hobt := oblkSt2 (v := .slice BR 1 1) (i := 4) (cs' := #[.int .i64 ((ix a0 (0 : Int)).length : Int), .bool true, .slice cd cp ce, .slice BW 1 1, .slice BR 1 1, .slice none 0 0, .slice none 0 0, .slice none 0 0, .int .i64 (0 : Int)]) 3 hO rfl rfl rfl rfl
 obtain ⟨WH, jM, J2⟩ := hobt
 dsimp only [sS, sZ] at jM
 refine zg (J2 Try.underlying26 rfl ti26 (by exact rfl) (by exact rfl)) ?_
 replace hO := jM.own
 refine zo (op_fieldAddr Try.underlying29 rfl ti26 rfl (by decide)) ?_
 have hobt := oblkSt2 (v := .slice DL 1 1) (i := 5) (cs' := #[.int .i64 ((ix a0 (0 : Int)).length : Int), .bool true, .slice cd cp ce, .slice BW 1 1, .slice BR 1 1, .slice DL 1 1, .slice none 0 0, .slice none 0 0, .int .i64 (0 : Int)]) 3 hO rfl rfl rfl rfl
 obtain ⟨Fa, vV, J3⟩ := hobt
 dsimp only [sS, sZ] at vV
 refine zg (J3 Try.underlying26 rfl ti26 (by exact rfl) (by exact rfl)) ?_
 replace hO := vV.own
 refine zn (zr (za rfl (zn (zq (zq ?_)))))
 refine zr (zm rfl (zo (op_len Try.underlying22 rfl) (zm rfl (zn (zb ?_)))))
 have xj := Stp.nil (e := 39) (r := 2) hO
 replace hO := xj.own
 have Oe := Els.nil (rpRule) (bl (.row 39 2 none 0 0 [] :: [.row 3 1 DL 1 1 [.int .i64 (-1 : Int)], .row 3 1 BR 1 1 [.int .i64 (-1 : Int)], .row 26 1 BW 1 1 [.slice pk r327.length pm], .blk b49 (.cells #[.int .i64 ((ix a0 (0 : Int)).length : Int), .bool true, .slice cd cp ce, .slice BW 1 1, .slice BR 1 1, .slice DL 1 1, .slice none 0 0, .slice none 0 0, .int .i64 (0 : Int)] 29 (0, 0)), t2 (Fl.int .i64) 26 3 cd cp ce fy r38, .blk B2 (.cells #[.int .i64 (0 : Int), .bool false, .slice none 0 0, .slice none 0 0, .slice none 0 0, .slice none 0 0, .slice none 0 0, .slice none 0 0, .int .i64 (0 : Int)] 29 (0, 0))]) ++ A) Fa
 have Z18 := ((gl.ch.trans jM.ch).trans vV.ch).trans xj.ch
 replace xK := xK.ch Z18
 have Z19 := (((x9.ch.trans gl.ch).trans jM.ch).trans vV.ch).trans xj.ch
 replace ut := ut.ch Z19
 have Z20 := ((((iL.ch.trans x9.ch).trans gl.ch).trans jM.ch).trans vV.ch).trans xj.ch
 replace uA := uA.ch Z20
 replace hB := ((((((((((hB.trans (E5.same.fr _)).trans vG.fr).trans (E6.same.fr _)).trans fF.fr).trans A4.fr).trans iL.fr).trans x9.fr).trans gl.fr).trans jM.fr).trans vV.fr).trans xj.fr
 have Z21 := (((((((((((((xG.ch.trans (E4.ch _)).trans JG).trans (E5.ch _)).trans vG.ch).trans (E6.ch _)).trans (permCh GL _)).trans fF.ch).trans A4.ch).trans iL.ch).trans x9.ch).trans gl.ch).trans jM.ch).trans vV.ch).trans xj.ch
 replace ae := ae.ch Z21
 refine Go1.loopW (S := Nat × List Rule × List Int × List Int × List (List Int)) (fun s σ w => match s with | (k2_367, d_368, d_374, d_380, d_386) => ∃ (gF : Nat), ∃ (gr : Option Addr), ∃ (gs : Nat), ∃ (pG : List Value), ∃ (gG : Nat), ∃ (gH : Option Addr), ∃ (gI : Nat), ∃ (nT : List Value), ∃ (gJ : Nat), ∃ (ir : Option Addr), ∃ (iu : Nat), ∃ (mA : List Value), ∃ (gu : Nat), ∃ (iE : Option Addr), ∃ (iF : Nat), ∃ (tU : List Value), agrees σ [(4, .pointer (some ⟨B2, 0, none⟩)), (6, .pointer (some ⟨b49, 0, none⟩)), (7, .int .i64 (0 : Int)), (42, .slice n7 a0.length n9), (43, .int .i64 (a0.length : Int)), (44, .int .i64 (k2_367 : Int))] ∧ (fun Z0 => Owns w0.heap.size w Z0 A ∧ Els (rpRule) (bl Z0 ++ A) w pG d_368 ∧ Els (Rp.int .i64) (bl Z0 ++ A) w nT d_374 ∧ Els (Rp.int .i64) (bl Z0 ++ A) w mA d_380 ∧ Els (Rp.sl (Rp.int .i64)) (bl Z0 ++ A) w tU d_386 ∧ ISl (Rp.sl (Rp.int .i64)) (bl Z0 ++ A) w n7 n9 a0 ∧ Fr (bl []) w0 (bl Z0) w) [.row 39 2 gr gF gs pG, .row 3 1 gH gG gI nT, .row 3 1 ir gJ iu mA, .row 26 1 iE gu iF tU, .blk b49 (.cells #[.int .i64 ((ix a0 (0 : Int)).length : Int), .bool true, .slice cd cp ce, .slice iE gu iF, .slice ir gJ iu, .slice gH gG gI, .slice none 0 0, .slice gr gF gs, .int .i64 (0 : Int)] 29 (0, 0)), t2 (Fl.int .i64) 26 3 cd cp ce fy r38, .blk B2 (.cells #[.int .i64 (0 : Int), .bool false, .slice none 0 0, .slice none 0 0, .slice none 0 0, .slice none 0 0, .slice none 0 0, .slice none 0 0, .int .i64 (0 : Int)] 29 (0, 0))]) H ⟨0, none, 0, [], 1, DL, 1, [.int .i64 (-1 : Int)], 1, BR, 1, [.int .i64 (-1 : Int)], 1, BW, 1, [.slice pk r327.length pm], ⟨rfl, rfl, rfl, rfl, rfl, rfl, trivial⟩, hO, Oe, xK, ut, uA, ae, hB⟩ ?_
 intro X2
 refine prE fun k2_367 => prE fun d_368 => prE fun d_374 => prE fun d_380 => fun d_386 => ?_
 intro H hX2 σ WI
 refine exE fun gF => exE fun gr => exE fun gs => exE fun pG => exE fun gG => exE fun gH => exE fun gI => exE fun nT => exE fun gJ => exE fun ir => exE fun iu => exE fun mA => exE fun gu => exE fun iE => exE fun iF => exE fun tU => andE fun hag => andE fun hO => andE fun cI => andE fun dA => andE fun dN => andE fun fq => andE fun ae => fun hB => ?_
 dsimp only at H
 refine Go1.keep [(4, .pointer (some ⟨B2, 0, none⟩)), (6, .pointer (some ⟨b49, 0, none⟩)), (7, .int .i64 (0 : Int)), (42, .slice n7 a0.length n9), (43, .int .i64 (a0.length : Int)), (44, .int .i64 (k2_367 : Int))] hag ?_
 refine zq (zr ?_)
 by_cases CE : (k2_367 : Int) < (a0.length : Int)
 ·replace H := ifp CE H
  refine zo (fun w => opB (op_lss rfl rfl w) (decide_eq_true CE)) (zn (zq (zt rfl rfl (zk (zq ?_)))))
  refine zb (zq (zr (zm rfl ?_)))
  obtain ⟨GO, H⟩ := H
  obtain ⟨GP, H⟩ := H
  refine zo (op_index Try.underlying22 ti26 rfl rfl GO GP (ae.some_ GO GP)) ?_
  have hobt := ldSl ae GO GP
  obtain ⟨J4, J5, bH, Og⟩ := hobt
  refine zs (Og Try.underlying26 rfl rfl) (za rfl (za rfl (zn (zq (zr ?_)))))
  refine zo (op_fieldAddr Try.underlying29 rfl ti22 rfl (by decide)) (zs (oblk (i := 3) 4 hO rfl rfl Try.underlying22 rfl rfl) (zm rfl ?_))
  have hobt := rowlend 3 hO rfl fq
  obtain ⟨Oh, Oi⟩ := hobt
  have hOc401 := hO.drop 3
  refine GoR.call (op_call body41 (show ([.slice iE gu iF, .slice J4 ((ix a0 (k2_367 : Int)).length) J5] : List Value) = [.slice iE d_386.length iF, .slice J4 ((ix a0 (k2_367 : Int)).length) J5] from by rw [← Oi]) (walk_ref12_Find hOc401.lt Oh (bH.ch (Owns.dropCh _ _ 3)) H)) rfl rfl ?_
  rintro WJ WK ⟨r402, rfl, Oj, H⟩
  have xk := Stp.same hO Oj
  replace hO := xk.own
  refine za rfl (zn (zq (zq (zr (zm rfl ?_)))))
  by_cases Fb : (0 : Int) ≤ r402
  ·replace H := ifp Fb H
   refine zo (fun w => opB (op_geq rfl rfl w) (decide_eq_true Fb)) (zn (zt rfl rfl (zq ?_)))
   refine Go1.drawS 2 [(0, .pure), (1, .stable), (2, .pure), (4, .stable), (5, .pure), (3, .loud), (6, .loud), (7, .pure), (8, .loud), (9, .last), (10, .pure), (11, .last)] mixed (by kernel_rfl) ?_
   intro Rh Ok
   have xl := Stp.same hO Ok
   replace hO := xl.own
   refine GoQ.pure rfl (op_fieldAddr Try.underlying29 rfl ti27 rfl (by decide)) rfl rfl ?_
   refine GoQ.stable rfl (oblk (i := 7) 4 hO rfl rfl Try.underlying27 rfl rfl) rfl rfl ?_
   refine GoQ.pure rfl (op_move rfl) rfl rfl ?_
   refine GoQ.stable rfl (oblkAgg (vs := [.int .i64 ((ix a0 (0 : Int)).length : Int), .bool true, .slice cd cp ce, .slice iE gu iF, .slice ir gJ iu, .slice gH gG gI, .slice none 0 0, .slice gr gF gs, .int .i64 (0 : Int)]) (i := 0) 4 hO rfl rfl Try.underlying29 rfl ti29 rfl) rfl rfl ?_
   refine GoQ.pure rfl (op_move rfl) rfl rfl ?_
   refine GoQ.call rfl (op_call body55 rfl (walk_ref12_letter hO.lt H)) (fun v w hr => by obtain ⟨_, _, hs, _, _⟩ := hr; assumption) rfl rfl ?_
   rintro WL Qp ⟨r412, rfl, Ol, HF, H⟩
   have xm := Stp.same hO Ol
   replace hO := xm.own
   have Om := t2lend 5 hO rfl
   have On := t2neq 5 hO rfl
   have hOc420 := hO.drop 5
   have Z22 := (xk.ch.trans xl.ch).trans xm.ch
   replace fq := fq.ch Z22
   have hobt := rowlend 3 hOc420 rfl (fq.ch (Owns.dropCh _ _ 5))
   obtain ⟨Oo, Oq⟩ := hobt
   have hOc423 := hOc420.drop 3
   replace dN := dN.ch Z22
   have hobt := rowlend 2 hOc423 rfl ((dN.ch (Owns.dropCh _ _ 5)).ch (Owns.dropCh _ _ 3))
   obtain ⟨Os, Ot⟩ := hobt
   have hOc426 := hOc423.drop 2
   replace dA := dA.ch Z22
   have hobt := rowlend 1 hOc426 rfl (((dA.ch (Owns.dropCh _ _ 5)).ch (Owns.dropCh _ _ 3)).ch (Owns.dropCh _ _ 2))
   obtain ⟨Ou, Ov⟩ := hobt
   have hOc429 := hOc426.drop 1
   replace cI := cI.ch Z22
   have hobt := rowlend 0 hOc429 rfl ((((cI.ch (Owns.dropCh _ _ 5)).ch (Owns.dropCh _ _ 3)).ch (Owns.dropCh _ _ 2)).ch (Owns.dropCh _ _ 1))
   obtain ⟨Ow, Ox⟩ := hobt
   have hOc432 := hOc429.drop 0
   refine GoQ.call rfl (op_call body40 (show ([.agg #[.int .i64 ((ix a0 (0 : Int)).length : Int), .bool true, .slice cd cp ce, .slice iE gu iF, .slice ir gJ iu, .slice gH gG gI, .slice none 0 0, .slice gr gF gs, .int .i64 (0 : Int)], .int .i64 r402] : List Value) = [.agg #[.int .i64 ((ix a0 (0 : Int)).length : Int), .bool true, .slice cd r38.length ce, .slice iE d_386.length iF, .slice ir d_380.length iu, .slice gH d_374.length gI, .slice none 0 0, .slice gr d_368.length gs, .int .i64 (0 : Int)], .int .i64 r402] from by rw [← On, ← Oq, ← Ot, ← Ov, ← Ox]) (walk_ref12_Word (e := (⟨((ix a0 (0 : Int)).length : Int), true, r38, d_386, d_380, d_374, [], d_368, (0 : Int)⟩ : Enum)) hOc432.lt ((((Om.ch (Owns.dropCh _ _ 3)).ch (Owns.dropCh _ _ 2)).ch (Owns.dropCh _ _ 1)).ch (Owns.dropCh _ _ 0)) (((Oo.ch (Owns.dropCh _ _ 2)).ch (Owns.dropCh _ _ 1)).ch (Owns.dropCh _ _ 0)) ((Os.ch (Owns.dropCh _ _ 1)).ch (Owns.dropCh _ _ 0)) (Ou.ch (Owns.dropCh _ _ 0)) (ISl.null _ _ _) Ow H)) (fun v w hr => by obtain ⟨_, _, hs, _, _⟩ := hr; assumption) rfl rfl ?_
   rintro WM Rj ⟨r433, rfl, Oy, HG, H⟩
   have xn := Stp.same hO Oy
   replace hO := xn.own
   refine GoQ.pure rfl (op_build Try.underlying39 ti39 (pl := [(0, 1), (1, 1)]) (vs := [(0, .string (gstr r412)), (1, .string (gstr r433))]) (cs := #[.string (gstr r412), .string (gstr r433)]) (by kernel_rfl) rfl (by kernel_rfl)) rfl rfl ?_
   have hobt := obuildN (r := rpRule) (n := 1) (parts := [(0, .agg #[.string (gstr r412), .string (gstr r433)])]) (vs := [.string (gstr r412), .string (gstr r433)]) (xs := [(⟨r412, r433⟩ : Rule)]) Try.underlying27 ti39 hO (by decide) (by decide) (by kernel_rfl) (Els.flat1 (⟨r412, r433⟩ : Rule) ⟨HF, HG⟩) rfl
   obtain ⟨WN, WO, xo, Oz, OA, J6⟩ := hobt
   refine GoQ.loud rfl (J6 rfl) OA rfl rfl ?_
   replace hO := xo.own
   have hobt := freeze 0 hO rfl Oz
   obtain ⟨hO1, zY, Bp, OB⟩ := hobt
   dsimp only [eS, eZ] at hO1 zY Bp
   replace hB := (((((hB.trans xk.fr).trans xl.fr).trans xm.fr).trans xn.fr).trans xo.fr).trans (Owns.dropFr _ _ 0)
   dsimp only [eS, eZ] at hB
   replace hO := hO1; clear hO1
   obtain ⟨RS, H⟩ := H
   have Z23 := (xn.ch.trans xo.ch).trans zY
   replace cI := cI.ch Z23
   have hobt := oapp Try.underlying27 ti39 rfl 0 hO rfl cI Bp OB RS (by decide)
   obtain ⟨WP, GQ, GR, OC, gm, C4, J7⟩ := hobt
   dsimp only [sS, sZ] at gm C4
   refine GoQ.last rfl (J7 (by exact rfl) (by exact rfl)) rfl rfl ?_
   replace hO := gm.own
   refine GoQ.pure rfl (op_fieldAddr Try.underlying29 rfl ti27 rfl (by decide)) rfl rfl ?_
   have hobt := oblkSt2 (v := .slice GQ (gF + 1) GR) (i := 7) (cs' := #[.int .i64 ((ix a0 (0 : Int)).length : Int), .bool true, .slice cd cp ce, .slice iE gu iF, .slice ir gJ iu, .slice gH gG gI, .slice none 0 0, .slice GQ (gF + 1) GR, .int .i64 (0 : Int)]) 4 hO rfl rfl rfl rfl
   obtain ⟨RT, kY, J8⟩ := hobt
   dsimp only [sS, sZ] at kY
   refine GoQ.last rfl (J8 Try.underlying27 rfl ti27 (by exact rfl) (by exact rfl)) rfl rfl ?_
   replace hO := kY.own
   refine GoQ.nil ?_
   refine Go1.exit rfl ?_
   refine Go1.cut [(4, .pointer (some ⟨B2, 0, none⟩)), (6, .pointer (some ⟨b49, 0, none⟩)), (7, .int .i64 (0 : Int)), (42, .slice n7 a0.length n9), (43, .int .i64 (a0.length : Int)), (44, .int .i64 (k2_367 : Int))] ⟨rfl, rfl, rfl, rfl, rfl, rfl, trivial⟩ ?_
   intro σ _
   refine zr ?_
   have Z24 := ((((Z22.trans xn.ch).trans xo.ch).trans zY).trans gm.ch).trans kY.ch
   replace ae := ae.ch Z24
   refine zo (op_add rfl rfl (wrap_i64 (natbd CE ae.bd))) (zm rfl (zn ?_))
   replace C4 := C4.ch kY.ch
   replace hB := (hB.trans gm.fr).trans kY.fr
   have Z25 := (Z23.trans gm.ch).trans kY.ch
   replace dA := dA.ch Z25
   replace dN := dN.ch Z25
   replace fq := fq.ch Z25
   exact hX2 _ H _ _ ⟨gF + 1, GQ, GR, OC, gG, gH, gI, nT, gJ, ir, iu, mA, gu, iE, iF, tU, ⟨rfl, rfl, rfl, rfl, rfl, rfl, trivial⟩, hO, C4, dA, dN, fq, ae, hB⟩
  replace H := ifn Fb H
  refine zo (fun w => opB (op_geq rfl rfl w) (decide_eq_false Fb)) (zn (zf rfl rfl (zk ?_)))
  refine Go1.drawA (CSv.tr [(some ⟨b49, 3, none⟩), (some ⟨b49, 4, none⟩), (some ⟨b49, 5, none⟩)]) A 1 [(0, .pure), (1, .stable), (3, .pure), (7, .pure), (8, .stable), (9, .pure), (12, .pure), (13, .stable), (14, .pure), (2, .alloc), (4, .loud), (5, .alloc), (6, .loud), (17, .pure), (10, .alloc), (11, .loud), (15, .alloc), (16, .loud), (18, .last), (19, .pure), (20, .last), (21, .pure), (22, .last)] mixed (by kernel_rfl) trivial hO.bd ?_
  intro WQ OD
  have xp := Stp.same hO OD
  replace hO := xp.own
  have C5 := hO.le
  replace hB := (hB.trans xk.fr).trans xp.fr
  have hw464 := hB.ch.size
  refine GoQA.pure rfl (op_fieldAddr Try.underlying29 rfl ti22 rfl (by decide)) rfl rfl ?_
  refine GoQA.stable rfl (loadV (.head _) rfl (blkCell 4 hO rfl rfl) Try.underlying22 rfl rfl) rfl rfl ?_
  refine GoQA.pure rfl (op_move rfl) rfl rfl ?_
  refine GoQA.pure rfl (op_fieldAddr Try.underlying29 rfl ti26 rfl (by decide)) rfl rfl ?_
  refine GoQA.stable rfl (loadV (.tail _ (.head _)) rfl (blkCell 4 hO rfl rfl) Try.underlying26 rfl rfl) rfl rfl ?_
  refine GoQA.pure rfl (op_move rfl) rfl rfl ?_
  refine GoQA.pure rfl (op_fieldAddr Try.underlying29 rfl ti26 rfl (by decide)) rfl rfl ?_
  refine GoQA.stable rfl (loadV (.tail _ (.tail _ (.head _))) rfl (blkCell 4 hO rfl rfl) Try.underlying26 rfl rfl) rfl rfl ?_
  refine GoQA.pure rfl (op_move rfl) rfl rfl ?_
  refine GoQA.alloc rfl rfl (alBuild (n := 0) (parts := []) (vs := []) Try.underlying26 ti3 (by decide) (by decide) (by decide) (by kernel_rfl) rfl rfl) ?_
  intro Gx A468 J9 A470 yz Hn hd473 hnb474 hh475
  replace hO := yz.own hO
  have Cg : Els (Rp.int .i64) (bl [.row 39 2 gr gF gs pG, .row 3 1 gH gG gI nT, .row 3 1 ir gJ iu mA, .row 26 1 iE gu iF tU, .blk b49 (.cells #[.int .i64 ((ix a0 (0 : Int)).length : Int), .bool true, .slice cd cp ce, .slice iE gu iF, .slice ir gJ iu, .slice gH gG gI, .slice none 0 0, .slice gr gF gs, .int .i64 (0 : Int)] 29 (0, 0)), t2 (Fl.int .i64) 26 3 cd cp ce fy r38, .blk B2 (.cells #[.int .i64 (0 : Int), .bool false, .slice none 0 0, .slice none 0 0, .slice none 0 0, .slice none 0 0, .slice none 0 0, .slice none 0 0, .int .i64 (0 : Int)] 29 (0, 0))] ++ A468) Gx [] (([] : List Int)) := (Els.nil _ _ _)
  have z3 := gainCh (w := Gx) (E := [.row 39 2 gr gF gs pG, .row 3 1 gH gG gI nT, .row 3 1 ir gJ iu mA, .row 26 1 iE gu iF tU, .blk b49 (.cells #[.int .i64 ((ix a0 (0 : Int)).length : Int), .bool true, .slice cd cp ce, .slice iE gu iF, .slice ir gJ iu, .slice gH gG gI, .slice none 0 0, .slice gr gF gs, .int .i64 (0 : Int)] 29 (0, 0)), t2 (Fl.int .i64) 26 3 cd cp ce fy r38, .blk B2 (.cells #[.int .i64 (0 : Int), .bool false, .slice none 0 0, .slice none 0 0, .slice none 0 0, .slice none 0 0, .slice none 0 0, .slice none 0 0, .int .i64 (0 : Int)] 29 (0, 0))]) (e := .row 3 1 (some ⟨J9, 0, none⟩) 0 0 []) Hn rfl
  replace hB := hB.trans (yz.same.fr _)
  replace hB := Fr.gain (e := .row 3 1 (some ⟨J9, 0, none⟩) 0 0 []) hB (Nat.le_trans hw464 hnb474) rfl
  replace hO := Owns.gain hO Hn C5 rfl hh475 hd473
  refine GoQA.loudI rfl rfl ?_
  intro Rm A479 xL
  replace hO := xL.own hO
  obtain ⟨RU, H⟩ := H
  replace Cg := (Cg.ch z3).ch (xL.ch _)
  have Z26 := (((xk.ch.trans xp.ch).trans (yz.ch _)).trans z3).trans (xL.ch _)
  replace bH := bH.ch Z26
  have hobt := oapp Try.underlying26 ti3 rfl 0 hO rfl Cg bH rfl RU (by decide)
  obtain ⟨WR, BX, BY, TF, fY, C6, Ka⟩ := hobt
  dsimp only [sS, sZ] at fY C6
  refine GoAt.step (Ka (by exact rfl) (by exact rfl)) (fun _ => (CSv.cons (cs_eq (blkCell 5 hO rfl rfl) (blkCell 5 fY.own rfl rfl)) (CSv.cons (cs_eq (blkCell 5 hO rfl rfl) (blkCell 5 fY.own rfl rfl)) (CSv.cons (cs_eq (blkCell 5 hO rfl rfl) (blkCell 5 fY.own rfl rfl)) (CSv.nil _ _))))) (Stp.kp hO fY) rfl ?_
  replace hO := fY.own
  have hobt := freeze 0 hO rfl C6
  obtain ⟨hO1, z4, e8, OE⟩ := hobt
  dsimp only [eS, eZ] at hO1 z4 e8
  replace hB := ((hB.trans (xL.same.fr _)).trans fY.fr).trans (Owns.dropFr _ _ 0)
  dsimp only [eS, eZ] at hB
  replace hO := hO1; clear hO1
  refine GoQA.alloc rfl rfl (alBuild (n := 1) (parts := [(0, .slice BX (0 + ((ix a0 (k2_367 : Int)).length)) BY)]) (vs := [.slice BX (0 + ((ix a0 (k2_367 : Int)).length)) BY]) Try.underlying22 ti26 (by decide) (by decide) (by decide) (by kernel_rfl) rfl rfl) ?_
  intro Ed A492 Kb A494 xM Ho hd497 hnb498 hh499
  replace hO := xM.own hO
  replace e8 := e8.ch (xM.ch _)
  have zI : Els (Rp.sl (Rp.int .i64)) (bl [.row 39 2 gr gF gs pG, .row 3 1 gH gG gI nT, .row 3 1 ir gJ iu mA, .row 26 1 iE gu iF tU, .blk b49 (.cells #[.int .i64 ((ix a0 (0 : Int)).length : Int), .bool true, .slice cd cp ce, .slice iE gu iF, .slice ir gJ iu, .slice gH gG gI, .slice none 0 0, .slice gr gF gs, .int .i64 (0 : Int)] 29 (0, 0)), t2 (Fl.int .i64) 26 3 cd cp ce fy r38, .blk B2 (.cells #[.int .i64 (0 : Int), .bool false, .slice none 0 0, .slice none 0 0, .slice none 0 0, .slice none 0 0, .slice none 0 0, .slice none 0 0, .int .i64 (0 : Int)] 29 (0, 0))] ++ A492) Ed [.slice BX (0 + ((ix a0 (k2_367 : Int)).length)) BY] [(([] : List Int)) ++ (ix a0 (k2_367 : Int))] := (Els.cons rfl ⟨BX, BY, congrArg some (congrArg (fun nn => Value.slice BX nn BY) OE), e8⟩ (Els.nil _ _ _) (by simp [mx]))
  have yA := gainCh (w := Ed) (E := [.row 39 2 gr gF gs pG, .row 3 1 gH gG gI nT, .row 3 1 ir gJ iu mA, .row 26 1 iE gu iF tU, .blk b49 (.cells #[.int .i64 ((ix a0 (0 : Int)).length : Int), .bool true, .slice cd cp ce, .slice iE gu iF, .slice ir gJ iu, .slice gH gG gI, .slice none 0 0, .slice gr gF gs, .int .i64 (0 : Int)] 29 (0, 0)), t2 (Fl.int .i64) 26 3 cd cp ce fy r38, .blk B2 (.cells #[.int .i64 (0 : Int), .bool false, .slice none 0 0, .slice none 0 0, .slice none 0 0, .slice none 0 0, .slice none 0 0, .slice none 0 0, .int .i64 (0 : Int)] 29 (0, 0))]) (e := .row 26 1 (some ⟨Kb, 0, none⟩) 1 1 [.slice BX (0 + ((ix a0 (k2_367 : Int)).length)) BY]) Ho rfl
  replace hB := hB.trans (xM.same.fr _)
  replace hB := Fr.gain (e := .row 26 1 (some ⟨Kb, 0, none⟩) 1 1 [.slice BX (0 + ((ix a0 (k2_367 : Int)).length)) BY]) hB (Nat.le_trans hw464 hnb498) rfl
  replace hO := Owns.gain hO Ho C5 rfl hh499 hd497
  refine GoQA.loudI rfl rfl ?_
  intro Qy A506 wK
  replace hO := wK.own hO
  replace zI := (zI.ch yA).ch (wK.ch _)
  have hobt := freeze 0 hO rfl zI
  obtain ⟨hO1, yB, fK, OF⟩ := hobt
  dsimp only [eS, eZ] at hO1 yB fK
  replace hB := (hB.trans (wK.same.fr _)).trans (Owns.dropFr _ _ 0)
  dsimp only [eS, eZ] at hB
  replace hO := hO1; clear hO1
  obtain ⟨RV, H⟩ := H
  have Z27 := (((((Z26.trans fY.ch).trans z4).trans (xM.ch _)).trans yA).trans (wK.ch _)).trans yB
  replace fq := fq.ch Z27
  have hobt := oapp Try.underlying22 ti26 rfl 3 hO rfl fq fK OF RV (by decide)
  obtain ⟨WS, z5, z6, Ci, qb, fU, Kc⟩ := hobt
  dsimp only [sS, sZ] at qb fU
  refine GoAt.step (Kc (by exact rfl) (by exact rfl)) (fun _ => (CSv.cons (cs_eq (blkCell 4 hO rfl rfl) (blkCell 4 qb.own rfl rfl)) (CSv.cons (cs_eq (blkCell 4 hO rfl rfl) (blkCell 4 qb.own rfl rfl)) (CSv.cons (cs_eq (blkCell 4 hO rfl rfl) (blkCell 4 qb.own rfl rfl)) (CSv.nil _ _))))) (Stp.kp hO qb) rfl ?_
  replace hO := qb.own
  refine GoQA.pure rfl (op_fieldAddr Try.underlying29 rfl ti22 rfl (by decide)) rfl rfl ?_
  refine GoQA.alloc rfl rfl (alBuild (n := 1) (parts := [(0, .int .i64 (0 : Int))]) (vs := [.int .i64 (0 : Int)]) Try.underlying26 ti3 (by decide) (by decide) (by decide) (by kernel_rfl) rfl rfl) ?_
  intro GC A522 Kd A524 wL Hp hd527 hnb528 hh529
  replace hO := wL.own hO
  have z7 : Els (Rp.int .i64) (bl [.row 39 2 gr gF gs pG, .row 3 1 gH gG gI nT, .row 3 1 ir gJ iu mA, .row 26 1 z5 (gu + 1) z6 Ci, .blk b49 (.cells #[.int .i64 ((ix a0 (0 : Int)).length : Int), .bool true, .slice cd cp ce, .slice iE gu iF, .slice ir gJ iu, .slice gH gG gI, .slice none 0 0, .slice gr gF gs, .int .i64 (0 : Int)] 29 (0, 0)), t2 (Fl.int .i64) 26 3 cd cp ce fy r38, .blk B2 (.cells #[.int .i64 (0 : Int), .bool false, .slice none 0 0, .slice none 0 0, .slice none 0 0, .slice none 0 0, .slice none 0 0, .slice none 0 0, .int .i64 (0 : Int)] 29 (0, 0))] ++ A522) GC [.int .i64 (0 : Int)] [(0 : Int)] := (Els.cons rfl rfl (Els.nil _ _ _) (by simp [mx]))
  have xN := gainCh (w := GC) (E := [.row 39 2 gr gF gs pG, .row 3 1 gH gG gI nT, .row 3 1 ir gJ iu mA, .row 26 1 z5 (gu + 1) z6 Ci, .blk b49 (.cells #[.int .i64 ((ix a0 (0 : Int)).length : Int), .bool true, .slice cd cp ce, .slice iE gu iF, .slice ir gJ iu, .slice gH gG gI, .slice none 0 0, .slice gr gF gs, .int .i64 (0 : Int)] 29 (0, 0)), t2 (Fl.int .i64) 26 3 cd cp ce fy r38, .blk B2 (.cells #[.int .i64 (0 : Int), .bool false, .slice none 0 0, .slice none 0 0, .slice none 0 0, .slice none 0 0, .slice none 0 0, .slice none 0 0, .int .i64 (0 : Int)] 29 (0, 0))]) (e := .row 3 1 (some ⟨Kd, 0, none⟩) 1 1 [.int .i64 (0 : Int)]) Hp rfl
  replace hB := (hB.trans qb.fr).trans (wL.same.fr _)
  replace hB := Fr.gain (e := .row 3 1 (some ⟨Kd, 0, none⟩) 1 1 [.int .i64 (0 : Int)]) hB (Nat.le_trans hw464 hnb528) rfl
  replace hO := Owns.gain hO Hp C5 rfl hh529 hd527
  refine GoQA.loudI rfl rfl ?_
  intro WT A533 vW
  replace hO := vW.own hO
  replace z7 := (z7.ch xN).ch (vW.ch _)
  have hobt := freeze 0 hO rfl z7
  obtain ⟨hO1, xO, jh, OG⟩ := hobt
  dsimp only [eS, eZ] at hO1 xO jh
  replace hB := (hB.trans (vW.same.fr _)).trans (Owns.dropFr _ _ 0)
  dsimp only [eS, eZ] at hB
  replace hO := hO1; clear hO1
  obtain ⟨RW, H⟩ := H
  have Z28 := ((((Z27.trans qb.ch).trans (wL.ch _)).trans xN).trans (vW.ch _)).trans xO
  replace dN := dN.ch Z28
  have hobt := oapp Try.underlying26 ti3 rfl 2 hO rfl dN jh OG RW (by decide)
  obtain ⟨WU, CF, CG, Fc, po, jx, Ke⟩ := hobt
  dsimp only [sS, sZ] at po jx
  refine GoAt.step (Ke (by exact rfl) (by exact rfl)) (fun _ => (CSv.cons (cs_eq (blkCell 4 hO rfl rfl) (blkCell 4 po.own rfl rfl)) (CSv.cons (cs_eq (blkCell 4 hO rfl rfl) (blkCell 4 po.own rfl rfl)) (CSv.cons (cs_eq (blkCell 4 hO rfl rfl) (blkCell 4 po.own rfl rfl)) (CSv.nil _ _))))) (Stp.kp hO po) rfl ?_
  replace hO := po.own
  refine GoQA.alloc rfl rfl (alBuild (n := 1) (parts := [(0, .int .i64 (k2_367 : Int))]) (vs := [.int .i64 (k2_367 : Int)]) Try.underlying26 ti3 (by decide) (by decide) (by decide) (by kernel_rfl) rfl rfl) ?_
  intro Kf A549 Kg A551 vX Hq hd554 hnb555 hh556
  replace hO := vX.own hO
  have ci : Els (Rp.int .i64) (bl [.row 39 2 gr gF gs pG, .row 3 1 gH gG gI nT, .row 3 1 CF (gJ + 1) CG Fc, .row 26 1 z5 (gu + 1) z6 Ci, .blk b49 (.cells #[.int .i64 ((ix a0 (0 : Int)).length : Int), .bool true, .slice cd cp ce, .slice iE gu iF, .slice ir gJ iu, .slice gH gG gI, .slice none 0 0, .slice gr gF gs, .int .i64 (0 : Int)] 29 (0, 0)), t2 (Fl.int .i64) 26 3 cd cp ce fy r38, .blk B2 (.cells #[.int .i64 (0 : Int), .bool false, .slice none 0 0, .slice none 0 0, .slice none 0 0, .slice none 0 0, .slice none 0 0, .slice none 0 0, .int .i64 (0 : Int)] 29 (0, 0))] ++ A549) Kf [.int .i64 (k2_367 : Int)] [(k2_367 : Int)] := (Els.cons rfl rfl (Els.nil _ _ _) (by simp [mx]))
  have wM := gainCh (w := Kf) (E := [.row 39 2 gr gF gs pG, .row 3 1 gH gG gI nT, .row 3 1 CF (gJ + 1) CG Fc, .row 26 1 z5 (gu + 1) z6 Ci, .blk b49 (.cells #[.int .i64 ((ix a0 (0 : Int)).length : Int), .bool true, .slice cd cp ce, .slice iE gu iF, .slice ir gJ iu, .slice gH gG gI, .slice none 0 0, .slice gr gF gs, .int .i64 (0 : Int)] 29 (0, 0)), t2 (Fl.int .i64) 26 3 cd cp ce fy r38, .blk B2 (.cells #[.int .i64 (0 : Int), .bool false, .slice none 0 0, .slice none 0 0, .slice none 0 0, .slice none 0 0, .slice none 0 0, .slice none 0 0, .int .i64 (0 : Int)] 29 (0, 0))]) (e := .row 3 1 (some ⟨Kg, 0, none⟩) 1 1 [.int .i64 (k2_367 : Int)]) Hq rfl
  replace hB := (hB.trans po.fr).trans (vX.same.fr _)
  replace hB := Fr.gain (e := .row 3 1 (some ⟨Kg, 0, none⟩) 1 1 [.int .i64 (k2_367 : Int)]) hB (Nat.le_trans hw464 hnb555) rfl
  replace hO := Owns.gain hO Hq C5 rfl hh556 hd554
  refine GoQA.loudI rfl rfl ?_
  intro WW A560 vl
  replace hO := vl.own hO
  replace ci := (ci.ch wM).ch (vl.ch _)
  have hobt := freeze 0 hO rfl ci
  obtain ⟨hO1, mf, io, Fd⟩ := hobt
  dsimp only [eS, eZ] at hO1 mf io
  replace hB := (hB.trans (vl.same.fr _)).trans (Owns.dropFr _ _ 0)
  dsimp only [eS, eZ] at hB
  replace hO := hO1; clear hO1
  obtain ⟨GT, H⟩ := H
  have Z29 := ((((Z28.trans po.ch).trans (vX.ch _)).trans wM).trans (vl.ch _)).trans mf
  replace dA := dA.ch Z29
  have hobt := oapp Try.underlying26 ti3 rfl 1 hO rfl dA io Fd GT (by decide)
  obtain ⟨RX, B1, B3, Fe, f0, jl, DM⟩ := hobt
  dsimp only [sS, sZ] at f0 jl
  refine GoAt.step (DM (by exact rfl) (by exact rfl)) (fun _ => (CSv.cons (cs_eq (blkCell 4 hO rfl rfl) (blkCell 4 f0.own rfl rfl)) (CSv.cons (cs_eq (blkCell 4 hO rfl rfl) (blkCell 4 f0.own rfl rfl)) (CSv.cons (cs_eq (blkCell 4 hO rfl rfl) (blkCell 4 f0.own rfl rfl)) (CSv.nil _ _))))) (Stp.kp hO f0) rfl ?_
  replace hO := f0.own
  refine GoQA.lastI rfl rfl ?_
  intro RY A575 vm
  replace hO := vm.own hO
  have hobt := oblkSt2 (v := .slice z5 (gu + 1) z6) (i := 3) (cs' := #[.int .i64 ((ix a0 (0 : Int)).length : Int), .bool true, .slice cd cp ce, .slice z5 (gu + 1) z6, .slice ir gJ iu, .slice gH gG gI, .slice none 0 0, .slice gr gF gs, .int .i64 (0 : Int)]) 4 hO rfl rfl rfl rfl
  obtain ⟨R0, qc, Kh⟩ := hobt
  dsimp only [sS, sZ] at qc
  refine GoAt.step (Kh Try.underlying22 rfl ti22 (by exact rfl) (by exact rfl)) (fun h => nomatch h) (Stp.kp hO qc) rfl ?_
  replace hO := qc.own
  refine GoQA.pure rfl (op_fieldAddr Try.underlying29 rfl ti26 rfl (by decide)) rfl rfl ?_
  refine GoQA.lastI rfl rfl ?_
  intro WX A581 vn
  replace hO := vn.own hO
  have hobt := oblkSt2 (v := .slice CF (gJ + 1) CG) (i := 4) (cs' := #[.int .i64 ((ix a0 (0 : Int)).length : Int), .bool true, .slice cd cp ce, .slice z5 (gu + 1) z6, .slice CF (gJ + 1) CG, .slice gH gG gI, .slice none 0 0, .slice gr gF gs, .int .i64 (0 : Int)]) 4 hO rfl rfl rfl rfl
  obtain ⟨WY, qd, Ki⟩ := hobt
  dsimp only [sS, sZ] at qd
  refine GoAt.step (Ki Try.underlying26 rfl ti26 (by exact rfl) (by exact rfl)) (fun h => nomatch h) (Stp.kp hO qd) rfl ?_
  replace hO := qd.own
  refine GoQA.pure rfl (op_fieldAddr Try.underlying29 rfl ti26 rfl (by decide)) rfl rfl ?_
  refine GoQA.lastI rfl rfl ?_
  intro W0 A587 vo
  replace hO := vo.own hO
  have hobt := oblkSt2 (v := .slice B1 (gG + 1) B3) (i := 5) (cs' := #[.int .i64 ((ix a0 (0 : Int)).length : Int), .bool true, .slice cd cp ce, .slice z5 (gu + 1) z6, .slice CF (gJ + 1) CG, .slice B1 (gG + 1) B3, .slice none 0 0, .slice gr gF gs, .int .i64 (0 : Int)]) 4 hO rfl rfl rfl rfl
  obtain ⟨W1, qe, Kj⟩ := hobt
  dsimp only [sS, sZ] at qe
  refine GoAt.step (Kj Try.underlying26 rfl ti26 (by exact rfl) (by exact rfl)) (fun h => nomatch h) (Stp.kp hO qe) rfl ?_
  replace hO := qe.own
  refine GoQA.nil ?_
  intro W2 A593 vp vY
  replace hO := vp.own hO
  replace hO := hO.permA vY
  refine Go1.inBlock ?_
  refine Go1.cut [(4, .pointer (some ⟨B2, 0, none⟩)), (6, .pointer (some ⟨b49, 0, none⟩)), (7, .int .i64 (0 : Int)), (42, .slice n7 a0.length n9), (43, .int .i64 (a0.length : Int)), (44, .int .i64 (k2_367 : Int))] ⟨rfl, rfl, rfl, rfl, rfl, rfl, trivial⟩ ?_
  intro σ _
  refine zr ?_
  have Z30 := ((((((((Z29.trans f0.ch).trans (vm.ch _)).trans qc.ch).trans (vn.ch _)).trans qd.ch).trans (vo.ch _)).trans qe.ch).trans (vp.ch _)).trans (permCh vY _)
  replace ae := ae.ch Z30
  refine zo (op_add rfl rfl (wrap_i64 (natbd CE ae.bd))) (zm rfl (zn ?_))
  replace hB := (((((((hB.trans f0.fr).trans (vm.same.fr _)).trans qc.fr).trans (vn.same.fr _)).trans qd.fr).trans (vo.same.fr _)).trans qe.fr).trans (vp.same.fr _)
  have Z31 := (((((((vm.ch _).trans qc.ch).trans (vn.ch _)).trans qd.ch).trans (vo.ch _)).trans qe.ch).trans (vp.ch _)).trans (permCh vY _)
  replace jl := jl.ch Z31
  have Z32 := ((((((((((((vX.ch _).trans wM).trans (vl.ch _)).trans mf).trans f0.ch).trans (vm.ch _)).trans qc.ch).trans (vn.ch _)).trans qd.ch).trans (vo.ch _)).trans qe.ch).trans (vp.ch _)).trans (permCh vY _)
  replace jx := jx.ch Z32
  have Z33 := (((((((((((((((((wL.ch _).trans xN).trans (vW.ch _)).trans xO).trans po.ch).trans (vX.ch _)).trans wM).trans (vl.ch _)).trans mf).trans f0.ch).trans (vm.ch _)).trans qc.ch).trans (vn.ch _)).trans qd.ch).trans (vo.ch _)).trans qe.ch).trans (vp.ch _)).trans (permCh vY _)
  replace fU := fU.ch Z33
  replace cI := cI.ch Z30
  exact hX2 _ H _ _ ⟨gF, gr, gs, pG, gG + 1, B1, B3, Fe, gJ + 1, CF, CG, Fc, gu + 1, z5, z6, Ci, ⟨rfl, rfl, rfl, rfl, rfl, rfl, trivial⟩, hO, cI, jl, jx, fU, ae, hB⟩
 replace H := ifn CE H
 refine zo (fun w => opB (op_lss rfl rfl w) (decide_eq_false CE)) (zn (zq (zf rfl rfl ?_)))
 refine Go1.exit rfl ?_
 refine zq (zr (zs (oblkAgg (vs := [.int .i64 ((ix a0 (0 : Int)).length : Int), .bool true, .slice cd cp ce, .slice iE gu iF, .slice ir gJ iu, .slice gH gG gI, .slice none 0 0, .slice gr gF gs, .int .i64 (0 : Int)]) (i := 0) 4 hO rfl rfl Try.underlying29 rfl ti29 rfl) ?_))
 have hobt := oblkStAgg (us := [.int .i64 ((ix a0 (0 : Int)).length : Int), .bool true, .slice cd cp ce, .slice iE gu iF, .slice ir gJ iu, .slice gH gG gI, .slice none 0 0, .slice gr gF gs, .int .i64 (0 : Int)]) (o := 0) (cs' := #[.int .i64 ((ix a0 (0 : Int)).length : Int), .bool true, .slice cd cp ce, .slice iE gu iF, .slice ir gJ iu, .slice gH gG gI, .slice none 0 0, .slice gr gF gs, .int .i64 (0 : Int)]) 6 hO rfl rfl (Nat.le_of_ble_eq_true rfl) rfl
 obtain ⟨R2, xq, Kk⟩ := hobt
 dsimp only [sS, sZ] at xq
 refine zg (Kk ti29 (by exact rfl) (by exact rfl) rfl) ?_
 replace hO := xq.own
 refine za rfl (zn ?_)
 have hobt := t2freezeA 5 hO rfl
 obtain ⟨hO1, Bq, wN, OH⟩ := hobt
 dsimp only [eS, eZ] at hO1 Bq wN
 replace hB := (hB.trans xq.fr).trans (Owns.dropFr _ _ 5)
 dsimp only [eS, eZ] at hB
 replace hO := hO1; clear hO1
 replace fq := (fq.ch xq.ch).ch Bq
 have hobt := freeze 3 hO rfl fq
 obtain ⟨hO1, Br, yC, OI⟩ := hobt
 dsimp only [eS, eZ] at hO1 Br yC
 replace hB := hB.trans (Owns.dropFr _ _ 3)
 dsimp only [eS, eZ] at hB
 replace hO := hO1; clear hO1
 have Z34 := (xq.ch.trans Bq).trans Br
 replace dN := dN.ch Z34
 have hobt := freeze 2 hO rfl dN
 obtain ⟨hO1, Bs, Bt, OJ⟩ := hobt
 dsimp only [eS, eZ] at hO1 Bs Bt
 replace hB := hB.trans (Owns.dropFr _ _ 2)
 dsimp only [eS, eZ] at hB
 replace hO := hO1; clear hO1
 replace dA := (dA.ch Z34).ch Bs
 have hobt := freeze 1 hO rfl dA
 obtain ⟨hO1, Bu, C7, OK⟩ := hobt
 dsimp only [eS, eZ] at hO1 Bu C7
 replace hB := hB.trans (Owns.dropFr _ _ 1)
 dsimp only [eS, eZ] at hB
 replace hO := hO1; clear hO1
 replace cI := ((cI.ch Z34).ch Bs).ch Bu
 have hobt := freeze 0 hO rfl cI
 obtain ⟨hO1, Bv, Hr, OL⟩ := hobt
 dsimp only [eS, eZ] at hO1 Bv Hr
 replace hB := hB.trans (Owns.dropFr _ _ 0)
 dsimp only [eS, eZ] at hB
 replace hO := hO1; clear hO1
 refine Go1.retC2 Try.func22 rfl rfl (run_loadBlk (vs := [.int .i64 ((ix a0 (0 : Int)).length : Int), .bool true, .slice cd cp ce, .slice iE gu iF, .slice ir gJ iu, .slice gH gG gI, .slice none 0 0, .slice gr gF gs, .int .i64 (0 : Int)]) 1 hO rfl rfl Try.underlying29 rfl ti29) ?_
 replace C7 := C7.ch Bv
 replace Bt := (Bt.ch Bu).ch Bv
 have Z35 := (Bs.trans Bu).trans Bv
 replace yC := yC.ch Z35
 have Z36 := ((Br.trans Bs).trans Bu).trans Bv
 replace wN := wN.ch Z36
 exact ⟨(⟨((ix a0 (0 : Int)).length : Int), true, r38, d_386, d_380, d_374, ([] : List (List Int)), d_368, (0 : Int)⟩ : Enum), (0 : Int), cd, ce, iE, iF, ir, iu, gH, gI, none, 0, gr, gs, (congrArg (fun l => Value.tuple (List.toArray l)) (cons_eq (congrArg (fun l => Value.agg (List.toArray l)) (cons_eq rfl (cons_eq rfl (cons_eq (congrArg (fun nn => Value.slice cd nn ce) OH) (cons_eq (congrArg (fun nn => Value.slice iE nn iF) OI) (cons_eq (congrArg (fun nn => Value.slice ir nn iu) OJ) (cons_eq (congrArg (fun nn => Value.slice gH nn gI) OK) (cons_eq rfl (cons_eq (congrArg (fun nn => Value.slice gr nn gs) OL) (cons_eq rfl rfl)))))))))) (cons_eq rfl rfl))), hB.same, (wN.ch (Ch.weak _ _ _)), (yC.ch (Ch.weak _ _ _)), (Bt.ch (Ch.weak _ _ _)), (C7.ch (Ch.weak _ _ _)), (ISl.null _ _ _), (Hr.ch (Ch.weak _ _ _)), H⟩
theorem body43 : Body Try.prog 43 := ⟨Try.f43, Try.func43, rfl, by kernel_rfl⟩
theorem walk_ref11_Compose {A : List Nat} {w0 : World} {p_f : Option Addr} {c_f : Nat} {p_g : Option Addr} {c_g : Nat} {f : List Int} {g : List Int} (hA : ∀ b ∈ A, b < w0.heap.size) (h_f : ISl (Rp.int .i64) A w0 p_f c_f f) (h_g : ISl (Rp.int .i64) A w0 p_g c_g g) {K : List Int → Prop} (H : ref11_Compose f g K) :
    CallsV Try.prog 43 #[.slice p_f f.length c_f, .slice p_g g.length c_g] w0 (fun v w' => ∃ (r0 : List Int), ∃ (tf : Option Addr), ∃ (tg : Nat), v = .slice tf r0.length tg ∧ Same w0 w' ∧ ISl (Rp.int .i64) A w' tf tg r0 ∧ K r0) := by
 refine CallsV.of (l := [.slice p_f f.length c_f, .slice p_g g.length c_g]) Try.func43 rfl Try.ntmps43 rfl ?_
 have hO := Owns.start hA
 have hB := Fr.refl (bl []) w0
 unfold ref11_Compose at H
 refine zq (zr (za rfl (zn (zq (zr ?_)))))
 refine zm rfl (zo (op_len Try.underlying26 rfl) ?_)
 replace h_f := h_f.ch (Ch.start A w0)
 replace H := H h_f.bd
 obtain ⟨h8, H⟩ := H
 obtain ⟨h9, H⟩ := H
 have hobt := omake (n := (f.length : Int)) (r := Rp.int .i64) (d := (0 : Int)) Try.underlying26 ti3 (fun _ _ => rfl) rfl hO h8 h9 (by decide)
 obtain ⟨w1, p2, vs3, li, hE5, hs6, xY⟩ := hobt
 refine zg (xY rfl rfl) ?_
 replace hO := li.own
 refine za rfl (zn (zq (zq (zr (zm rfl ?_)))))
 refine zo (op_len Try.underlying26 rfl) (zm rfl (zn (zb ?_)))
 replace h_f := h_f.ch li.ch
 replace hB := hB.trans li.fr
 replace h_g := (h_g.ch (Ch.start A w0)).ch li.ch
 refine Go1.loopW (S := Nat × List Int) (fun s σ w => match s with | (k1_12, out1_13) => ∃ (jy : List Value), agrees σ [(1, .slice p_g g.length c_g), (5, .slice p2 f.length f.length), (11, .slice p_f f.length c_f), (12, .int .i64 (f.length : Int)), (13, .int .i64 (k1_12 : Int))] ∧ (fun Z0 => Owns w0.heap.size w Z0 A ∧ Els (Rp.int .i64) (bl Z0 ++ A) w jy out1_13 ∧ ISl (Rp.int .i64) (bl Z0 ++ A) w p_f c_f f ∧ ISl (Rp.int .i64) (bl Z0 ++ A) w p_g c_g g ∧ Fr (bl []) w0 (bl Z0) w) [.row 3 1 p2 f.length f.length jy]) H ⟨vs3, ⟨rfl, rfl, rfl, rfl, rfl, trivial⟩, hO, hE5, h_f, h_g, hB⟩ ?_
 intro X1
 refine prE fun k1_12 => fun out1_13 => ?_
 intro H hX1 σ w11
 refine exE fun jy => andE fun hag => andE fun hO => andE fun bg => andE fun h_f => andE fun h_g => fun hB => ?_
 dsimp only at H
 refine Go1.keep [(1, .slice p_g g.length c_g), (5, .slice p2 f.length f.length), (11, .slice p_f f.length c_f), (12, .int .i64 (f.length : Int)), (13, .int .i64 (k1_12 : Int))] hag ?_
 refine zq (zr ?_)
 by_cases h16 : (k1_12 : Int) < (f.length : Int)
 ·replace H := ifp h16 H
  refine zo (fun w => opB (op_lss rfl rfl w) (decide_eq_true h16)) (zn (zq (zt rfl rfl (zk (zq ?_)))))
  refine zb (zq (zr (zm rfl ?_)))
  obtain ⟨h17, H⟩ := H
  obtain ⟨h18, H⟩ := H
  refine zo (op_index Try.underlying26 ti3 rfl rfl h17 h18 (h_f.some_ h17 h18)) (zs (ldInt h_f h17 h18 Try.underlying3 rfl rfl) (za rfl (za rfl (zn (zr ?_)))))
  refine zm rfl (zm rfl (zm rfl (zm rfl ?_)))
  obtain ⟨h19, H⟩ := H
  obtain ⟨h20, H⟩ := H
  refine zo (op_index Try.underlying26 ti3 rfl rfl h19 h20 (h_g.some_ h19 h20)) (zs (ldInt h_g h19 h20 Try.underlying3 rfl rfl) ?_)
  obtain ⟨h21, H⟩ := H
  obtain ⟨h22, H⟩ := H
  refine zo (op_index Try.underlying26 ti3 rfl rfl h21 (ltn (bg.neq hO 0 rfl) h22) (bg.psome hO 0 rfl h21 h22)) ?_
  have hobt := ost (r := Rp.int .i64) rfl 0 hO rfl bg h21 h22 (v := .int .i64 (ix g (ix f (k1_12 : Int)))) (u := (ix g (ix f (k1_12 : Int)))) rfl rfl
  obtain ⟨w23, R3, qr, R4, OM⟩ := hobt
  refine zg (OM Try.underlying3 rfl ti3 (by exact rfl) (by exact rfl)) ?_
  replace hO := qr.own
  refine zn ?_
  refine Go1.inBlock ?_
  refine zr ?_
  replace h_f := h_f.ch qr.ch
  refine zo (op_add rfl rfl (wrap_i64 (natbd h16 h_f.bd))) (zm rfl (zn ?_))
  replace h_g := h_g.ch qr.ch
  replace hB := hB.trans qr.fr
  exact hX1 _ H _ _ ⟨R3, ⟨rfl, rfl, rfl, rfl, rfl, trivial⟩, hO, R4, h_f, h_g, hB⟩
 replace H := ifn h16 H
 refine zo (fun w => opB (op_lss rfl rfl w) (decide_eq_false h16)) (zn (zq (zf rfl rfl ?_)))
 refine Go1.exit rfl ?_
 refine zq (zr (zm rfl (za rfl (zn ?_))))
 have hobt := freeze 0 hO rfl bg
 obtain ⟨hO1, DJ, x6, GF⟩ := hobt
 replace hO := hO1; clear hO1
 refine Go1.ret1 Try.func43 rfl ?_
 replace hB := hB.trans (Owns.dropFr _ _ 0)
 exact ⟨out1_13, p2, f.length, (congrArg (fun nn => Value.slice p2 nn f.length) GF), hB.same, (x6.ch (Ch.weak _ _ _)), H⟩
end Sg
