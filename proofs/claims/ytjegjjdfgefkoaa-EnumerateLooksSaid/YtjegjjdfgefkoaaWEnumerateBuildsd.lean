/- The walks: each call keeps to its plain transformer. Printed by walkgen.py. -/
import Derived.Test.YtjegjjdfgefkoaaTi
import Derived.Test.YtjegjjdfgefkoaaWEnumerateBuilds
import Derived.Test.YtjegjjdfgefkoaaWEnumerateBuildsc
import Derived.Test.YtjegjjdfgefkoaaAl
namespace Sg
open Go Go.RowKit Go.Proofs
set_option linter.unusedVariables false
set_option linter.unusedSimpArgs false
set_option maxRecDepth 100000
set_option maxHeartbeats 4000000
theorem body22 : Body Try.prog 22 := ⟨Try.f22, Try.func22, rfl, by kernel_rfl⟩
theorem walk_ref12_Start {A : List Nat} {w0 : World} {nr : Option Addr} {ns : Nat} {a0 : List (List Int)} {a1 : Bool} (hA : ∀ b ∈ A, b < w0.heap.size) (ba : ISl (Rp.sl (Rp.int .i64)) A w0 nr ns a0) {K : Enum → Int → Prop} (H : ref12_Start a0 a1 K) :
    CallsV Try.prog 22 #[.slice nr a0.length ns, .bool a1] w0 (fun v w' => ∃ (r0 : Enum), ∃ (r1 : Int), ∃ (pt : Option Addr), ∃ (pv : Nat), ∃ (nK : Option Addr), ∃ (nM : Nat), ∃ (l5 : Option Addr), ∃ (l7 : Nat), ∃ (px : Option Addr), ∃ (pz : Nat), ∃ (nN : Option Addr), ∃ (nO : Nat), ∃ (nP : Option Addr), ∃ (nQ : Nat), v = .tuple #[.agg #[.int .i64 r0.Points, .bool r0.Monoid, .slice pt r0.Gens.length pv, .slice nK r0.Elems.length nM, .slice l5 r0.Prefix.length l7, .slice px r0.Last.length pz, .slice nN r0.Right.length nO, .slice nP r0.Rules.length nQ, .int .i64 r0.Done], .int .i64 r1] ∧ Same w0 w' ∧ ISl (Rp.sl (Rp.int .i64)) A w' pt pv r0.Gens ∧ ISl (Rp.sl (Rp.int .i64)) A w' nK nM r0.Elems ∧ ISl (Rp.int .i64) A w' l5 l7 r0.Prefix ∧ ISl (Rp.int .i64) A w' px pz r0.Last ∧ ISl (Rp.sl (Rp.int .i64)) A w' nN nO r0.Right ∧ ISl (rpRule) A w' nP nQ r0.Rules ∧ K r0 r1) := by
 refine CallsV.of (l := [.slice nr a0.length ns, .bool a1]) Try.func22 rfl Try.ntmps22 rfl ?_
 have hO := Owns.start hA
 have hB := Fr.refl (bl []) w0
 unfold ref12_Start at H
 refine zq (zr ?_)
 have hobt := oalloc (t := 29) (cs := #[.int .i64 (0 : Int), .bool false, .slice none 0 0, .slice none 0 0, .slice none 0 0, .slice none 0 0, .slice none 0 0, .slice none 0 0, .int .i64 (0 : Int)]) ti29 hO rfl
 obtain ⟨w1, B2, dI, hs4, qb⟩ := hobt
 refine GoR.op qb rfl rfl ?_
 replace hO := dI.own
 refine za rfl (zn (zq (zq (zr (zm rfl ?_)))))
 refine zo (op_len Try.underlying22 rfl) ?_
 replace ba := (ba.ch (Ch.start A w0)).ch dI.ch
 replace H := H ba.bd
 by_cases h7 : (a0.length : Int) < (1 : Int)
 ·replace H := ifp h7 H
  refine zo (fun w => opB (op_lss rfl rfl w) (decide_eq_true h7)) (zm rfl (zp (zp (zp (zo (op_pickT rfl rfl rfl) ?_)))))
  refine zn (zt rfl rfl (zq (zr (zo (op_build Try.underlying29 ti29 (pl := [(0, 1), (1, 1), (2, 1), (3, 1), (4, 1), (5, 1), (6, 1), (7, 1), (8, 1)]) (vs := []) (cs := #[.int .i64 (0 : Int), .bool false, .slice none 0 0, .slice none 0 0, .slice none 0 0, .slice none 0 0, .slice none 0 0, .slice none 0 0, .int .i64 (0 : Int)]) (by kernel_rfl) rfl (by kernel_rfl)) ?_))))
  have hobt := oblkStAgg (us := [.int .i64 (0 : Int), .bool false, .slice none 0 0, .slice none 0 0, .slice none 0 0, .slice none 0 0, .slice none 0 0, .slice none 0 0, .int .i64 (0 : Int)]) (o := 0) (cs' := #[.int .i64 (0 : Int), .bool false, .slice none 0 0, .slice none 0 0, .slice none 0 0, .slice none 0 0, .slice none 0 0, .slice none 0 0, .int .i64 (0 : Int)]) 0 hO rfl rfl (Nat.le_of_ble_eq_true rfl) rfl
  obtain ⟨w8, kV, QR⟩ := hobt
  refine zg (QR ti29 (by exact rfl) (by exact rfl) rfl) ?_
  replace hO := kV.own
  refine za rfl (zn ?_)
  refine Go1.retC2 Try.func22 rfl rfl (run_loadBlk (vs := [.int .i64 (0 : Int), .bool false, .slice none 0 0, .slice none 0 0, .slice none 0 0, .slice none 0 0, .slice none 0 0, .slice none 0 0, .int .i64 (0 : Int)]) 0 hO rfl rfl Try.underlying29 rfl ti29) ?_
  replace hB := (hB.trans dI.fr).trans kV.fr
  exact ⟨(⟨(0 : Int), false, ([] : List (List Int)), ([] : List (List Int)), ([] : List Int), ([] : List Int), ([] : List (List Int)), ([] : List Rule), (0 : Int)⟩ : Enum), (1 : Int), none, 0, none, 0, none, 0, none, 0, none, 0, none, 0, rfl, hB.same, (ISl.null _ _ _), (ISl.null _ _ _), (ISl.null _ _ _), (ISl.null _ _ _), (ISl.null _ _ _), (ISl.null _ _ _), H⟩
 replace H := ifn h7 H
 refine zo (fun w => opB (op_lss rfl rfl w) (decide_eq_false h7)) (zm rfl (zm rfl (zo (op_len Try.underlying22 rfl) ?_)))
 by_cases h11 : (6 : Int) < (a0.length : Int)
 ·replace H := ifp h11 H
  refine zo (fun w => opB (op_gtr rfl rfl w) (decide_eq_true h11)) (zo (op_pickF rfl rfl rfl) (zn (zt rfl rfl (zq (zr ?_)))))
  refine zo (op_build Try.underlying29 ti29 (pl := [(0, 1), (1, 1), (2, 1), (3, 1), (4, 1), (5, 1), (6, 1), (7, 1), (8, 1)]) (vs := []) (cs := #[.int .i64 (0 : Int), .bool false, .slice none 0 0, .slice none 0 0, .slice none 0 0, .slice none 0 0, .slice none 0 0, .slice none 0 0, .int .i64 (0 : Int)]) (by kernel_rfl) rfl (by kernel_rfl)) ?_
  have hobt := oblkStAgg (us := [.int .i64 (0 : Int), .bool false, .slice none 0 0, .slice none 0 0, .slice none 0 0, .slice none 0 0, .slice none 0 0, .slice none 0 0, .int .i64 (0 : Int)]) (o := 0) (cs' := #[.int .i64 (0 : Int), .bool false, .slice none 0 0, .slice none 0 0, .slice none 0 0, .slice none 0 0, .slice none 0 0, .slice none 0 0, .int .i64 (0 : Int)]) 0 hO rfl rfl (Nat.le_of_ble_eq_true rfl) rfl
  obtain ⟨w12, Ay, QS⟩ := hobt
  refine zg (QS ti29 (by exact rfl) (by exact rfl) rfl) ?_
  replace hO := Ay.own
  refine za rfl (zn ?_)
  refine Go1.retC2 Try.func22 rfl rfl (run_loadBlk (vs := [.int .i64 (0 : Int), .bool false, .slice none 0 0, .slice none 0 0, .slice none 0 0, .slice none 0 0, .slice none 0 0, .slice none 0 0, .int .i64 (0 : Int)]) 0 hO rfl rfl Try.underlying29 rfl ti29) ?_
  replace hB := (hB.trans dI.fr).trans Ay.fr
  exact ⟨(⟨(0 : Int), false, ([] : List (List Int)), ([] : List (List Int)), ([] : List Int), ([] : List Int), ([] : List (List Int)), ([] : List Rule), (0 : Int)⟩ : Enum), (1 : Int), none, 0, none, 0, none, 0, none, 0, none, 0, none, 0, rfl, hB.same, (ISl.null _ _ _), (ISl.null _ _ _), (ISl.null _ _ _), (ISl.null _ _ _), (ISl.null _ _ _), (ISl.null _ _ _), H⟩
 replace H := ifn h11 H
 refine zo (fun w => opB (op_gtr rfl rfl w) (decide_eq_false h11)) (zo (op_pickF rfl rfl rfl) (zn (zf rfl rfl (zk (zq ?_)))))
 refine zq ?_
 refine Go1.cut [(0, .slice nr a0.length ns), (1, .bool a1), (4, .pointer (some ⟨B2, 0, none⟩))] ⟨rfl, rfl, rfl, trivial⟩ ?_
 intro σ _
 refine zr (zm rfl ?_)
 refine GoR.call (op_call body14 rfl (walk_ref11_MayGens hO.lt ba H)) rfl rfl ?_
 rintro v19 w16 ⟨r15, rfl, VD, H⟩
 have xe := Stp.same hO VD
 replace hO := xe.own
 cases r15
 ·replace H := ifn Bool.false_ne_true H
  refine zo (op_not rfl) (zn (zt rfl rfl (zq (zr (zo (op_build Try.underlying29 ti29 (pl := [(0, 1), (1, 1), (2, 1), (3, 1), (4, 1), (5, 1), (6, 1), (7, 1), (8, 1)]) (vs := []) (cs := #[.int .i64 (0 : Int), .bool false, .slice none 0 0, .slice none 0 0, .slice none 0 0, .slice none 0 0, .slice none 0 0, .slice none 0 0, .int .i64 (0 : Int)]) (by kernel_rfl) rfl (by kernel_rfl)) ?_)))))
  have hobt := oblkStAgg (us := [.int .i64 (0 : Int), .bool false, .slice none 0 0, .slice none 0 0, .slice none 0 0, .slice none 0 0, .slice none 0 0, .slice none 0 0, .int .i64 (0 : Int)]) (o := 0) (cs' := #[.int .i64 (0 : Int), .bool false, .slice none 0 0, .slice none 0 0, .slice none 0 0, .slice none 0 0, .slice none 0 0, .slice none 0 0, .int .i64 (0 : Int)]) 0 hO rfl rfl (Nat.le_of_ble_eq_true rfl) rfl
  obtain ⟨w21, eK, BJ⟩ := hobt
  refine zg (BJ ti29 (by exact rfl) (by exact rfl) rfl) ?_
  replace hO := eK.own
  refine za rfl (zn ?_)
  refine Go1.retC2 Try.func22 rfl rfl (run_loadBlk (vs := [.int .i64 (0 : Int), .bool false, .slice none 0 0, .slice none 0 0, .slice none 0 0, .slice none 0 0, .slice none 0 0, .slice none 0 0, .int .i64 (0 : Int)]) 0 hO rfl rfl Try.underlying29 rfl ti29) ?_
  replace hB := ((hB.trans dI.fr).trans xe.fr).trans eK.fr
  exact ⟨(⟨(0 : Int), false, ([] : List (List Int)), ([] : List (List Int)), ([] : List Int), ([] : List Int), ([] : List (List Int)), ([] : List Rule), (0 : Int)⟩ : Enum), (4 : Int), none, 0, none, 0, none, 0, none, 0, none, 0, none, 0, rfl, hB.same, (ISl.null _ _ _), (ISl.null _ _ _), (ISl.null _ _ _), (ISl.null _ _ _), (ISl.null _ _ _), (ISl.null _ _ _), H⟩
 replace H := ifp rfl H
 refine zo (op_not rfl) (zn (zf rfl rfl (zk (zq ?_))))
 refine Go1.drawA Same.tr A 1 [(0, .pure), (1, .pure), (2, .stable), (3, .pure), (4, .pure), (5, .pure), (6, .loud), (7, .pure), (8, .alloc), (9, .last)] mixed (by kernel_rfl) trivial hO.bd ?_
 intro w24 CM
 have gY := Stp.same hO CM
 replace hO := gY.own
 have Jv := hO.le
 replace hB := ((hB.trans dI.fr).trans xe.fr).trans gY.fr
 have hw27 := hB.ch.size
 refine GoQA.pure rfl (op_move rfl) rfl rfl ?_
 obtain ⟨h29, H⟩ := H
 obtain ⟨h30, H⟩ := H
 replace ba := (ba.ch xe.ch).ch gY.ch
 refine GoQA.pure rfl (op_index Try.underlying22 ti26 rfl rfl h29 h30 (ba.some_ h29 h30)) rfl rfl ?_
 have hobt := ldSl ba h29 h30
 obtain ⟨p31, c32, jV, VE⟩ := hobt
 refine GoQA.stable rfl (VE Try.underlying26 rfl rfl) rfl rfl ?_
 refine GoQA.pure rfl (op_len Try.underlying26 rfl) rfl rfl ?_
 replace H := H jV.bd
 refine GoQA.pure rfl (op_move rfl) rfl rfl ?_
 refine GoQA.pure rfl (op_move rfl) rfl rfl ?_
 refine GoQA.loudI rfl rfl ?_
 intro w35 A36 Hr
 replace hO := Hr.own hO
 replace ba := ba.ch (Hr.ch _)
 refine GoAt.call (op_call body24 rfl (walk_ref03_Copy hO.lt ba H)) (fun v w hr => ⟨fun _ => (by obtain ⟨_, _, _, _, _, _, hs, _, _⟩ := hr; exact hs), Same.kp hO (by obtain ⟨_, _, _, _, _, _, hs, _, _⟩ := hr; exact hs)⟩) rfl ?_
 rintro v43 w40 ⟨r38, dC, dt, du, gX, rfl, Hq, hN42, H⟩
 have qS := Stp.more hO Hq hN42
 replace hO := qS.own
 refine GoQA.pure rfl (op_build Try.underlying29 ti29 (pl := [(0, 1), (1, 1), (2, 1), (3, 1), (4, 1), (5, 1), (6, 1), (7, 1), (8, 1)]) (vs := [(0, .int .i64 ((ix a0 (0 : Int)).length : Int)), (1, .bool a1), (2, .slice dt dC du)]) (cs := #[.int .i64 ((ix a0 (0 : Int)).length : Int), .bool a1, .slice dt dC du, .slice none 0 0, .slice none 0 0, .slice none 0 0, .slice none 0 0, .slice none 0 0, .int .i64 (0 : Int)]) (by kernel_rfl) rfl (by kernel_rfl)) rfl rfl ?_
 refine GoQA.alloc rfl rfl (alAlloc (cs := #[.int .i64 (0 : Int), .bool false, .slice none 0 0, .slice none 0 0, .slice none 0 0, .slice none 0 0, .slice none 0 0, .slice none 0 0, .int .i64 (0 : Int)]) ti29 rfl) ?_
 intro w47 A48 b49 A50 Hs MP hd53 hnb54 hh55
 replace hO := Hs.own hO
 have MQ := gainCh (w := w47) (E := [t2 (Fl.int .i64) 26 3 dt dC du gX r38, .blk B2 (.cells #[.int .i64 (0 : Int), .bool false, .slice none 0 0, .slice none 0 0, .slice none 0 0, .slice none 0 0, .slice none 0 0, .slice none 0 0, .int .i64 (0 : Int)] 29 (0, 0))]) (e := .blk b49 (.cells #[.int .i64 (0 : Int), .bool false, .slice none 0 0, .slice none 0 0, .slice none 0 0, .slice none 0 0, .slice none 0 0, .slice none 0 0, .int .i64 (0 : Int)] 29 (0, 0))) MP rfl
 replace hB := ((hB.trans (Hr.same.fr _)).trans qS.fr).trans (Hs.same.fr _)
 replace hB := Fr.gain (e := .blk b49 (.cells #[.int .i64 (0 : Int), .bool false, .slice none 0 0, .slice none 0 0, .slice none 0 0, .slice none 0 0, .slice none 0 0, .slice none 0 0, .int .i64 (0 : Int)] 29 (0, 0))) hB (Nat.le_trans hw27 hnb54) rfl
 replace hO := Owns.gain hO MP Jv rfl hh55 hd53
 refine GoQA.lastI rfl rfl ?_
 intro w57 A58 Ht
 replace hO := Ht.own hO
 have hobt := oblkStAgg (us := [.int .i64 ((ix a0 (0 : Int)).length : Int), .bool a1, .slice dt dC du, .slice none 0 0, .slice none 0 0, .slice none 0 0, .slice none 0 0, .slice none 0 0, .int .i64 (0 : Int)]) (o := 0) (cs' := #[.int .i64 ((ix a0 (0 : Int)).length : Int), .bool a1, .slice dt dC du, .slice none 0 0, .slice none 0 0, .slice none 0 0, .slice none 0 0, .slice none 0 0, .int .i64 (0 : Int)]) 0 hO rfl rfl (Nat.le_of_ble_eq_true rfl) rfl
 obtain ⟨w60, xK, QT⟩ := hobt
 refine GoAt.step (QT ti29 (by exact rfl) (by exact rfl) rfl) (fun h => nomatch h) (Stp.kp hO xK) rfl ?_
 replace hO := xK.own
 refine GoQA.nil ?_
 intro w63 A64 Hu Jw
 replace hO := Hu.own hO
 replace hO := hO.permA Jw
 refine zq (zr (za rfl (zn (zq (zq ?_)))))
 refine Go1.cut [(0, .slice nr a0.length ns), (1, .bool a1), (4, .pointer (some ⟨B2, 0, none⟩)), (6, .pointer (some ⟨b49, 0, none⟩)), (7, .int .i64 (-1 : Int))] ⟨rfl, rfl, rfl, rfl, rfl, trivial⟩ ?_
 intro σ _
 refine zr (zm rfl (zn ?_))
 cases a1
 ·replace H := ifn Bool.false_ne_true H
  refine zf rfl rfl (zk (zq (zq (zr (zm rfl ?_)))))
  refine zo (op_len Try.underlying22 rfl) (zm rfl (zn (zb ?_)))
  have g0 := Stp.nil (e := 26) (r := 1) hO
  replace hO := g0.own
  have qO := Els.nil (Rp.sl (Rp.int .i64)) (bl (.row 26 1 none 0 0 [] :: [.blk b49 (.cells #[.int .i64 ((ix a0 (0 : Int)).length : Int), .bool false, .slice dt dC du, .slice none 0 0, .slice none 0 0, .slice none 0 0, .slice none 0 0, .slice none 0 0, .int .i64 (0 : Int)] 29 (0, 0)), t2 (Fl.int .i64) 26 3 dt dC du gX r38, .blk B2 (.cells #[.int .i64 (0 : Int), .bool false, .slice none 0 0, .slice none 0 0, .slice none 0 0, .slice none 0 0, .slice none 0 0, .slice none 0 0, .int .i64 (0 : Int)] 29 (0, 0))]) ++ A) w63
  have p5 := Stp.nil (e := 3) (r := 1) hO
  replace hO := p5.own
  have F7 := Els.nil (Rp.int .i64) (bl (.row 3 1 none 0 0 [] :: [.row 26 1 none 0 0 [], .blk b49 (.cells #[.int .i64 ((ix a0 (0 : Int)).length : Int), .bool false, .slice dt dC du, .slice none 0 0, .slice none 0 0, .slice none 0 0, .slice none 0 0, .slice none 0 0, .int .i64 (0 : Int)] 29 (0, 0)), t2 (Fl.int .i64) 26 3 dt dC du gX r38, .blk B2 (.cells #[.int .i64 (0 : Int), .bool false, .slice none 0 0, .slice none 0 0, .slice none 0 0, .slice none 0 0, .slice none 0 0, .slice none 0 0, .int .i64 (0 : Int)] 29 (0, 0))]) ++ A) w63
  have iI := Stp.nil (e := 3) (r := 1) hO
  replace hO := iI.own
  have tJ := Els.nil (Rp.int .i64) (bl (.row 3 1 none 0 0 [] :: [.row 3 1 none 0 0 [], .row 26 1 none 0 0 [], .blk b49 (.cells #[.int .i64 ((ix a0 (0 : Int)).length : Int), .bool false, .slice dt dC du, .slice none 0 0, .slice none 0 0, .slice none 0 0, .slice none 0 0, .slice none 0 0, .int .i64 (0 : Int)] 29 (0, 0)), t2 (Fl.int .i64) 26 3 dt dC du gX r38, .blk B2 (.cells #[.int .i64 (0 : Int), .bool false, .slice none 0 0, .slice none 0 0, .slice none 0 0, .slice none 0 0, .slice none 0 0, .slice none 0 0, .int .i64 (0 : Int)] 29 (0, 0))]) ++ A) w63
  have BX := Stp.nil (e := 39) (r := 2) hO
  replace hO := BX.own
  have VG := Els.nil (rpRule) (bl (.row 39 2 none 0 0 [] :: [.row 3 1 none 0 0 [], .row 3 1 none 0 0 [], .row 26 1 none 0 0 [], .blk b49 (.cells #[.int .i64 ((ix a0 (0 : Int)).length : Int), .bool false, .slice dt dC du, .slice none 0 0, .slice none 0 0, .slice none 0 0, .slice none 0 0, .slice none 0 0, .int .i64 (0 : Int)] 29 (0, 0)), t2 (Fl.int .i64) 26 3 dt dC du gX r38, .blk B2 (.cells #[.int .i64 (0 : Int), .bool false, .slice none 0 0, .slice none 0 0, .slice none 0 0, .slice none 0 0, .slice none 0 0, .slice none 0 0, .int .i64 (0 : Int)] 29 (0, 0))]) ++ A) w63
  replace tJ := tJ.ch BX.ch
  replace F7 := (F7.ch iI.ch).ch BX.ch
  have Z1 := (p5.ch.trans iI.ch).trans BX.ch
  replace qO := qO.ch Z1
  replace hB := ((((((hB.trans (Ht.same.fr _)).trans xK.fr).trans (Hu.same.fr _)).trans g0.fr).trans p5.fr).trans iI.fr).trans BX.fr
  have Z2 := (((((((((qS.ch.trans (Hs.ch _)).trans MQ).trans (Ht.ch _)).trans xK.ch).trans (Hu.ch _)).trans (permCh Jw _)).trans g0.ch).trans p5.ch).trans iI.ch).trans BX.ch
  replace ba := ba.ch Z2
  refine Go1.loopW (S := Nat × List Rule × List Int × List Int × List (List Int)) (fun s σ w => match s with | (k1_80, d_81, d_87, d_93, d_99) => ∃ (n86 : Nat), ∃ (p84 : Option Addr), ∃ (c85 : Nat), ∃ (ik : List Value), ∃ (n92 : Nat), ∃ (p90 : Option Addr), ∃ (c91 : Nat), ∃ (io : List Value), ∃ (n98 : Nat), ∃ (p96 : Option Addr), ∃ (c97 : Nat), ∃ (wB : List Value), ∃ (i7 : Nat), ∃ (j6 : Option Addr), ∃ (j7 : Nat), ∃ (vB : List Value), agrees σ [(4, .pointer (some ⟨B2, 0, none⟩)), (6, .pointer (some ⟨b49, 0, none⟩)), (7, .int .i64 (-1 : Int)), (42, .slice nr a0.length ns), (43, .int .i64 (a0.length : Int)), (44, .int .i64 (k1_80 : Int))] ∧ (fun Z0 => Owns w0.heap.size w Z0 A ∧ Els (rpRule) (bl Z0 ++ A) w ik d_81 ∧ Els (Rp.int .i64) (bl Z0 ++ A) w io d_87 ∧ Els (Rp.int .i64) (bl Z0 ++ A) w wB d_93 ∧ Els (Rp.sl (Rp.int .i64)) (bl Z0 ++ A) w vB d_99 ∧ ISl (Rp.sl (Rp.int .i64)) (bl Z0 ++ A) w nr ns a0 ∧ Fr (bl []) w0 (bl Z0) w) [.row 39 2 p84 n86 c85 ik, .row 3 1 p90 n92 c91 io, .row 3 1 p96 n98 c97 wB, .row 26 1 j6 i7 j7 vB, .blk b49 (.cells #[.int .i64 ((ix a0 (0 : Int)).length : Int), .bool false, .slice dt dC du, .slice j6 i7 j7, .slice p96 n98 c97, .slice p90 n92 c91, .slice none 0 0, .slice p84 n86 c85, .int .i64 (0 : Int)] 29 (0, 0)), t2 (Fl.int .i64) 26 3 dt dC du gX r38, .blk B2 (.cells #[.int .i64 (0 : Int), .bool false, .slice none 0 0, .slice none 0 0, .slice none 0 0, .slice none 0 0, .slice none 0 0, .slice none 0 0, .int .i64 (0 : Int)] 29 (0, 0))]) H ⟨0, none, 0, [], 0, none, 0, [], 0, none, 0, [], 0, none, 0, [], ⟨rfl, rfl, rfl, rfl, rfl, rfl, trivial⟩, hO, VG, tJ, F7, qO, ba, hB⟩ ?_
  intro X1
  refine prE fun k1_80 => prE fun d_81 => prE fun d_87 => prE fun d_93 => fun d_99 => ?_
  intro H hX1 σ w79
  refine exE fun n86 => exE fun p84 => exE fun c85 => exE fun ik => exE fun n92 => exE fun p90 => exE fun c91 => exE fun io => exE fun n98 => exE fun p96 => exE fun c97 => exE fun wB => exE fun i7 => exE fun j6 => exE fun j7 => exE fun vB => andE fun hag => andE fun hO => andE fun cP => andE fun di => andE fun gR => andE fun gP => andE fun ba => fun hB => ?_
  dsimp only at H
  refine Go1.keep [(4, .pointer (some ⟨B2, 0, none⟩)), (6, .pointer (some ⟨b49, 0, none⟩)), (7, .int .i64 (-1 : Int)), (42, .slice nr a0.length ns), (43, .int .i64 (a0.length : Int)), (44, .int .i64 (k1_80 : Int))] hag ?_
  refine zq (zr ?_)
  by_cases vM : (k1_80 : Int) < (a0.length : Int)
  ·replace H := ifp vM H
   refine zo (fun w => opB (op_lss rfl rfl w) (decide_eq_true vM)) (zn (zq (zt rfl rfl (zk (zq ?_)))))
   refine zb (zq (zr (zm rfl ?_)))
   obtain ⟨wv, H⟩ := H
   obtain ⟨z9, H⟩ := H
   refine zo (op_index Try.underlying22 ti26 rfl rfl wv z9 (ba.some_ wv z9)) ?_
   have hobt := ldSl ba wv z9
   obtain ⟨MR, MS, eX, QU⟩ := hobt
   refine zs (QU Try.underlying26 rfl rfl) (za rfl (za rfl (zn (zq (zr ?_)))))
   refine zo (op_fieldAddr Try.underlying29 rfl ti22 rfl (by decide)) (zs (oblk (i := 3) 4 hO rfl rfl Try.underlying22 rfl rfl) (zm rfl ?_))
   have hobt := rowlend 3 hO rfl gP
   obtain ⟨QV, Hn⟩ := hobt
   have hOc114 := hO.drop 3
   refine GoR.call (op_call body41 (show ([.slice j6 i7 j7, .slice MR ((ix a0 (k1_80 : Int)).length) MS] : List Value) = [.slice j6 d_99.length j7, .slice MR ((ix a0 (k1_80 : Int)).length) MS] from by rw [← Hn]) (walk_ref12_Find hOc114.lt QV (eX.ch (Owns.dropCh _ _ 3)) H)) rfl rfl ?_
   rintro abC TF ⟨r115, rfl, QW, H⟩
   have zj := Stp.same hO QW
   replace hO := zj.own
   refine za rfl (zn (zq (zq (zr (zm rfl ?_)))))
   by_cases EE : (0 : Int) ≤ r115
   ·replace H := ifp EE H
    refine zo (fun w => opB (op_geq rfl rfl w) (decide_eq_true EE)) (zn (zt rfl rfl (zq ?_)))
    refine Go1.drawS 2 [(0, .pure), (1, .stable), (2, .pure), (4, .stable), (5, .pure), (3, .loud), (6, .loud), (7, .pure), (8, .loud), (9, .last), (10, .pure), (11, .last)] mixed (by kernel_rfl) ?_
    intro abD G5
    have zl := Stp.same hO G5
    replace hO := zl.own
    refine GoQ.pure rfl (op_fieldAddr Try.underlying29 rfl ti27 rfl (by decide)) rfl rfl ?_
    refine GoQ.stable rfl (oblk (i := 7) 4 hO rfl rfl Try.underlying27 rfl rfl) rfl rfl ?_
    refine GoQ.pure rfl (op_move rfl) rfl rfl ?_
    refine GoQ.stable rfl (oblkAgg (vs := [.int .i64 ((ix a0 (0 : Int)).length : Int), .bool false, .slice dt dC du, .slice j6 i7 j7, .slice p96 n98 c97, .slice p90 n92 c91, .slice none 0 0, .slice p84 n86 c85, .int .i64 (0 : Int)]) (i := 0) 4 hO rfl rfl Try.underlying29 rfl ti29 rfl) rfl rfl ?_
    refine GoQ.pure rfl (op_move rfl) rfl rfl ?_
    refine GoQ.call rfl (op_call body55 rfl (walk_ref12_letter hO.lt H)) (fun v w hr => by obtain ⟨_, _, hs, _, _⟩ := hr; assumption) rfl rfl ?_
    rintro abE VH ⟨r125, rfl, QX, KE, H⟩
    have zu := Stp.same hO QX
    replace hO := zu.own
    have Gg := t2lend 5 hO rfl
    have QY := t2neq 5 hO rfl
    have hOc133 := hO.drop 5
    have Z3 := (zj.ch.trans zl.ch).trans zu.ch
    replace gP := gP.ch Z3
    have hobt := rowlend 3 hOc133 rfl (gP.ch (Owns.dropCh _ _ 5))
    obtain ⟨Q0, Q1⟩ := hobt
    have hOc136 := hOc133.drop 3
    replace gR := gR.ch Z3
    have hobt := rowlend 2 hOc136 rfl ((gR.ch (Owns.dropCh _ _ 5)).ch (Owns.dropCh _ _ 3))
    obtain ⟨Eo, Hp⟩ := hobt
    have hOc139 := hOc136.drop 2
    replace di := di.ch Z3
    have hobt := rowlend 1 hOc139 rfl (((di.ch (Owns.dropCh _ _ 5)).ch (Owns.dropCh _ _ 3)).ch (Owns.dropCh _ _ 2))
    obtain ⟨Q2, Q3⟩ := hobt
    have hOc142 := hOc139.drop 1
    replace cP := cP.ch Z3
    have hobt := rowlend 0 hOc142 rfl ((((cP.ch (Owns.dropCh _ _ 5)).ch (Owns.dropCh _ _ 3)).ch (Owns.dropCh _ _ 2)).ch (Owns.dropCh _ _ 1))
    obtain ⟨Hv, Q4⟩ := hobt
    have hOc145 := hOc142.drop 0
    refine GoQ.call rfl (op_call body40 (show ([.agg #[.int .i64 ((ix a0 (0 : Int)).length : Int), .bool false, .slice dt dC du, .slice j6 i7 j7, .slice p96 n98 c97, .slice p90 n92 c91, .slice none 0 0, .slice p84 n86 c85, .int .i64 (0 : Int)], .int .i64 r115] : List Value) = [.agg #[.int .i64 ((ix a0 (0 : Int)).length : Int), .bool false, .slice dt r38.length du, .slice j6 d_99.length j7, .slice p96 d_93.length c97, .slice p90 d_87.length c91, .slice none 0 0, .slice p84 d_81.length c85, .int .i64 (0 : Int)], .int .i64 r115] from by rw [← QY, ← Q1, ← Hp, ← Q3, ← Q4]) (walk_ref12_Word (e := (⟨((ix a0 (0 : Int)).length : Int), false, r38, d_99, d_93, d_87, [], d_81, (0 : Int)⟩ : Enum)) hOc145.lt ((((Gg.ch (Owns.dropCh _ _ 3)).ch (Owns.dropCh _ _ 2)).ch (Owns.dropCh _ _ 1)).ch (Owns.dropCh _ _ 0)) (((Q0.ch (Owns.dropCh _ _ 2)).ch (Owns.dropCh _ _ 1)).ch (Owns.dropCh _ _ 0)) ((Eo.ch (Owns.dropCh _ _ 1)).ch (Owns.dropCh _ _ 0)) (Q2.ch (Owns.dropCh _ _ 0)) (ISl.null _ _ _) Hv H)) (fun v w hr => by obtain ⟨_, _, hs, _, _⟩ := hr; assumption) rfl rfl ?_
    rintro abF abG ⟨r146, rfl, Q5, KF, H⟩
    have zw := Stp.same hO Q5
    replace hO := zw.own
    refine GoQ.pure rfl (op_build Try.underlying39 ti39 (pl := [(0, 1), (1, 1)]) (vs := [(0, .string (gstr r125)), (1, .string (gstr r146))]) (cs := #[.string (gstr r125), .string (gstr r146)]) (by kernel_rfl) rfl (by kernel_rfl)) rfl rfl ?_
    have hobt := obuildN (r := rpRule) (n := 1) (parts := [(0, .agg #[.string (gstr r125), .string (gstr r146)])]) (vs := [.string (gstr r125), .string (gstr r146)]) (xs := [(⟨r125, r146⟩ : Rule)]) Try.underlying27 ti39 hO (by decide) (by decide) (by kernel_rfl) (Els.flat1 (⟨r125, r146⟩ : Rule) ⟨KE, KF⟩) rfl
    obtain ⟨VI, abH, kg, Q6, Q7, MT⟩ := hobt
    refine GoQ.loud rfl (MT rfl) Q7 rfl rfl ?_
    replace hO := kg.own
    have hobt := freeze 0 hO rfl Q6
    obtain ⟨hO1, BY, dQ, Q8⟩ := hobt
    dsimp only [eS, eZ] at hO1 BY dQ
    replace hB := (((((hB.trans zj.fr).trans zl.fr).trans zu.fr).trans zw.fr).trans kg.fr).trans (Owns.dropFr _ _ 0)
    dsimp only [eS, eZ] at hB
    replace hO := hO1; clear hO1
    obtain ⟨zI, H⟩ := H
    have Z4 := (zw.ch.trans kg.ch).trans BY
    replace cP := cP.ch Z4
    have hobt := oapp Try.underlying27 ti39 rfl 0 hO rfl cP dQ Q8 zI (by decide)
    obtain ⟨abI, G6, G7, Q9, xW, Fi, MU⟩ := hobt
    dsimp only [sS, sZ] at xW Fi
    refine GoQ.last rfl (MU (by exact rfl) (by exact rfl)) rfl rfl ?_
    replace hO := xW.own
    refine GoQ.pure rfl (op_fieldAddr Try.underlying29 rfl ti27 rfl (by decide)) rfl rfl ?_
    have hobt := oblkSt2 (v := .slice G6 (n86 + 1) G7) (i := 7) (cs' := #[.int .i64 ((ix a0 (0 : Int)).length : Int), .bool false, .slice dt dC du, .slice j6 i7 j7, .slice p96 n98 c97, .slice p90 n92 c91, .slice none 0 0, .slice G6 (n86 + 1) G7, .int .i64 (0 : Int)]) 4 hO rfl rfl rfl rfl
    obtain ⟨VJ, gE, MV⟩ := hobt
    dsimp only [sS, sZ] at gE
    refine GoQ.last rfl (MV Try.underlying27 rfl ti27 (by exact rfl) (by exact rfl)) rfl rfl ?_
    replace hO := gE.own
    refine GoQ.nil ?_
    refine Go1.exit rfl ?_
    refine Go1.cut [(4, .pointer (some ⟨B2, 0, none⟩)), (6, .pointer (some ⟨b49, 0, none⟩)), (7, .int .i64 (-1 : Int)), (42, .slice nr a0.length ns), (43, .int .i64 (a0.length : Int)), (44, .int .i64 (k1_80 : Int))] ⟨rfl, rfl, rfl, rfl, rfl, rfl, trivial⟩ ?_
    intro σ _
    refine zr ?_
    have Z5 := ((((Z3.trans zw.ch).trans kg.ch).trans BY).trans xW.ch).trans gE.ch
    replace ba := ba.ch Z5
    refine zo (op_add rfl rfl (wrap_i64 (natbd vM ba.bd))) (zm rfl (zn ?_))
    replace Fi := Fi.ch gE.ch
    replace hB := (hB.trans xW.fr).trans gE.fr
    have Z6 := (Z4.trans xW.ch).trans gE.ch
    replace di := di.ch Z6
    replace gR := gR.ch Z6
    replace gP := gP.ch Z6
    exact hX1 _ H _ _ ⟨n86 + 1, G6, G7, Q9, n92, p90, c91, io, n98, p96, c97, wB, i7, j6, j7, vB, ⟨rfl, rfl, rfl, rfl, rfl, rfl, trivial⟩, hO, Fi, di, gR, gP, ba, hB⟩
   replace H := ifn EE H
   refine zo (fun w => opB (op_geq rfl rfl w) (decide_eq_false EE)) (zn (zf rfl rfl (zk ?_)))
   refine Go1.drawA (CSv.tr [(some ⟨b49, 3, none⟩), (some ⟨b49, 4, none⟩), (some ⟨b49, 5, none⟩)]) A 1 [(0, .pure), (1, .stable), (3, .pure), (7, .pure), (8, .stable), (9, .pure), (12, .pure), (13, .stable), (14, .pure), (2, .alloc), (4, .loud), (5, .alloc), (6, .loud), (17, .pure), (10, .alloc), (11, .loud), (15, .alloc), (16, .loud), (18, .last), (19, .pure), (20, .last), (21, .pure), (22, .last)] mixed (by kernel_rfl) trivial hO.bd ?_
   intro T9 GB
   have kE := Stp.same hO GB
   replace hO := kE.own
   have Fj := hO.le
   replace hB := (hB.trans zj.fr).trans kE.fr
   have hw177 := hB.ch.size
   refine GoQA.pure rfl (op_fieldAddr Try.underlying29 rfl ti22 rfl (by decide)) rfl rfl ?_
   refine GoQA.stable rfl (loadV (.head _) rfl (blkCell 4 hO rfl rfl) Try.underlying22 rfl rfl) rfl rfl ?_
   refine GoQA.pure rfl (op_move rfl) rfl rfl ?_
   refine GoQA.pure rfl (op_fieldAddr Try.underlying29 rfl ti26 rfl (by decide)) rfl rfl ?_
   refine GoQA.stable rfl (loadV (.tail _ (.head _)) rfl (blkCell 4 hO rfl rfl) Try.underlying26 rfl rfl) rfl rfl ?_
   refine GoQA.pure rfl (op_move rfl) rfl rfl ?_
   refine GoQA.pure rfl (op_fieldAddr Try.underlying29 rfl ti26 rfl (by decide)) rfl rfl ?_
   refine GoQA.stable rfl (loadV (.tail _ (.tail _ (.head _))) rfl (blkCell 4 hO rfl rfl) Try.underlying26 rfl rfl) rfl rfl ?_
   refine GoQA.pure rfl (op_move rfl) rfl rfl ?_
   refine GoQA.alloc rfl rfl (alBuild (n := 0) (parts := []) (vs := []) Try.underlying26 ti3 (by decide) (by decide) (by decide) (by kernel_rfl) rfl rfl) ?_
   intro IG A181 MW A183 AF Kg hd186 hnb187 hh188
   replace hO := AF.own hO
   have Et : Els (Rp.int .i64) (bl [.row 39 2 p84 n86 c85 ik, .row 3 1 p90 n92 c91 io, .row 3 1 p96 n98 c97 wB, .row 26 1 j6 i7 j7 vB, .blk b49 (.cells #[.int .i64 ((ix a0 (0 : Int)).length : Int), .bool false, .slice dt dC du, .slice j6 i7 j7, .slice p96 n98 c97, .slice p90 n92 c91, .slice none 0 0, .slice p84 n86 c85, .int .i64 (0 : Int)] 29 (0, 0)), t2 (Fl.int .i64) 26 3 dt dC du gX r38, .blk B2 (.cells #[.int .i64 (0 : Int), .bool false, .slice none 0 0, .slice none 0 0, .slice none 0 0, .slice none 0 0, .slice none 0 0, .slice none 0 0, .int .i64 (0 : Int)] 29 (0, 0))] ++ A181) IG [] (([] : List Int)) := (Els.nil _ _ _)
   have B1 := gainCh (w := IG) (E := [.row 39 2 p84 n86 c85 ik, .row 3 1 p90 n92 c91 io, .row 3 1 p96 n98 c97 wB, .row 26 1 j6 i7 j7 vB, .blk b49 (.cells #[.int .i64 ((ix a0 (0 : Int)).length : Int), .bool false, .slice dt dC du, .slice j6 i7 j7, .slice p96 n98 c97, .slice p90 n92 c91, .slice none 0 0, .slice p84 n86 c85, .int .i64 (0 : Int)] 29 (0, 0)), t2 (Fl.int .i64) 26 3 dt dC du gX r38, .blk B2 (.cells #[.int .i64 (0 : Int), .bool false, .slice none 0 0, .slice none 0 0, .slice none 0 0, .slice none 0 0, .slice none 0 0, .slice none 0 0, .int .i64 (0 : Int)] 29 (0, 0))]) (e := .row 3 1 (some ⟨MW, 0, none⟩) 0 0 []) Kg rfl
   replace hB := hB.trans (AF.same.fr _)
   replace hB := Fr.gain (e := .row 3 1 (some ⟨MW, 0, none⟩) 0 0 []) hB (Nat.le_trans hw177 hnb187) rfl
   replace hO := Owns.gain hO Kg Fj rfl hh188 hd186
   refine GoQA.loudI rfl rfl ?_
   intro KO A192 zQ
   replace hO := zQ.own hO
   obtain ⟨FB, H⟩ := H
   replace Et := (Et.ch B1).ch (zQ.ch _)
   have Z7 := (((zj.ch.trans kE.ch).trans (AF.ch _)).trans B1).trans (zQ.ch _)
   replace eX := eX.ch Z7
   have hobt := oapp Try.underlying26 ti3 rfl 0 hO rfl Et eX rfl FB (by decide)
   obtain ⟨abJ, Eb, Ec, XI, tS, Kh, FG⟩ := hobt
   dsimp only [sS, sZ] at tS Kh
   refine GoAt.step (FG (by exact rfl) (by exact rfl)) (fun _ => (CSv.cons (cs_eq (blkCell 5 hO rfl rfl) (blkCell 5 tS.own rfl rfl)) (CSv.cons (cs_eq (blkCell 5 hO rfl rfl) (blkCell 5 tS.own rfl rfl)) (CSv.cons (cs_eq (blkCell 5 hO rfl rfl) (blkCell 5 tS.own rfl rfl)) (CSv.nil _ _))))) (Stp.kp hO tS) rfl ?_
   replace hO := tS.own
   have hobt := freeze 0 hO rfl Kh
   obtain ⟨hO1, B3, gH, Ra⟩ := hobt
   dsimp only [eS, eZ] at hO1 B3 gH
   replace hB := ((hB.trans (zQ.same.fr _)).trans tS.fr).trans (Owns.dropFr _ _ 0)
   dsimp only [eS, eZ] at hB
   replace hO := hO1; clear hO1
   refine GoQA.alloc rfl rfl (alBuild (n := 1) (parts := [(0, .slice Eb (0 + ((ix a0 (k1_80 : Int)).length)) Ec)]) (vs := [.slice Eb (0 + ((ix a0 (k1_80 : Int)).length)) Ec]) Try.underlying22 ti26 (by decide) (by decide) (by decide) (by kernel_rfl) rfl rfl) ?_
   intro Im A205 MX A207 zR Ki hd210 hnb211 hh212
   replace hO := zR.own hO
   replace gH := gH.ch (zR.ch _)
   have AB : Els (Rp.sl (Rp.int .i64)) (bl [.row 39 2 p84 n86 c85 ik, .row 3 1 p90 n92 c91 io, .row 3 1 p96 n98 c97 wB, .row 26 1 j6 i7 j7 vB, .blk b49 (.cells #[.int .i64 ((ix a0 (0 : Int)).length : Int), .bool false, .slice dt dC du, .slice j6 i7 j7, .slice p96 n98 c97, .slice p90 n92 c91, .slice none 0 0, .slice p84 n86 c85, .int .i64 (0 : Int)] 29 (0, 0)), t2 (Fl.int .i64) 26 3 dt dC du gX r38, .blk B2 (.cells #[.int .i64 (0 : Int), .bool false, .slice none 0 0, .slice none 0 0, .slice none 0 0, .slice none 0 0, .slice none 0 0, .slice none 0 0, .int .i64 (0 : Int)] 29 (0, 0))] ++ A205) Im [.slice Eb (0 + ((ix a0 (k1_80 : Int)).length)) Ec] [(([] : List Int)) ++ (ix a0 (k1_80 : Int))] := (Els.cons rfl ⟨Eb, Ec, congrArg some (congrArg (fun nn => Value.slice Eb nn Ec) Ra), gH⟩ (Els.nil _ _ _) (by simp [mx]))
   have AG := gainCh (w := Im) (E := [.row 39 2 p84 n86 c85 ik, .row 3 1 p90 n92 c91 io, .row 3 1 p96 n98 c97 wB, .row 26 1 j6 i7 j7 vB, .blk b49 (.cells #[.int .i64 ((ix a0 (0 : Int)).length : Int), .bool false, .slice dt dC du, .slice j6 i7 j7, .slice p96 n98 c97, .slice p90 n92 c91, .slice none 0 0, .slice p84 n86 c85, .int .i64 (0 : Int)] 29 (0, 0)), t2 (Fl.int .i64) 26 3 dt dC du gX r38, .blk B2 (.cells #[.int .i64 (0 : Int), .bool false, .slice none 0 0, .slice none 0 0, .slice none 0 0, .slice none 0 0, .slice none 0 0, .slice none 0 0, .int .i64 (0 : Int)] 29 (0, 0))]) (e := .row 26 1 (some ⟨MX, 0, none⟩) 1 1 [.slice Eb (0 + ((ix a0 (k1_80 : Int)).length)) Ec]) Ki rfl
   replace hB := hB.trans (zR.same.fr _)
   replace hB := Fr.gain (e := .row 26 1 (some ⟨MX, 0, none⟩) 1 1 [.slice Eb (0 + ((ix a0 (k1_80 : Int)).length)) Ec]) hB (Nat.le_trans hw177 hnb211) rfl
   replace hO := Owns.gain hO Ki Fj rfl hh212 hd210
   refine GoQA.loudI rfl rfl ?_
   intro abK A219 yI
   replace hO := yI.own hO
   replace AB := (AB.ch AG).ch (yI.ch _)
   have hobt := freeze 0 hO rfl AB
   obtain ⟨hO1, AH, ib, Rb⟩ := hobt
   dsimp only [eS, eZ] at hO1 AH ib
   replace hB := (hB.trans (yI.same.fr _)).trans (Owns.dropFr _ _ 0)
   dsimp only [eS, eZ] at hB
   replace hO := hO1; clear hO1
   obtain ⟨EX, H⟩ := H
   have Z8 := (((((Z7.trans tS.ch).trans B3).trans (zR.ch _)).trans AG).trans (yI.ch _)).trans AH
   replace gP := gP.ch Z8
   have hobt := oapp Try.underlying22 ti26 rfl 3 hO rfl gP ib Rb EX (by decide)
   obtain ⟨abL, B5, B6, qT, sx, iC, MY⟩ := hobt
   dsimp only [sS, sZ] at sx iC
   refine GoAt.step (MY (by exact rfl) (by exact rfl)) (fun _ => (CSv.cons (cs_eq (blkCell 4 hO rfl rfl) (blkCell 4 sx.own rfl rfl)) (CSv.cons (cs_eq (blkCell 4 hO rfl rfl) (blkCell 4 sx.own rfl rfl)) (CSv.cons (cs_eq (blkCell 4 hO rfl rfl) (blkCell 4 sx.own rfl rfl)) (CSv.nil _ _))))) (Stp.kp hO sx) rfl ?_
   replace hO := sx.own
   refine GoQA.pure rfl (op_fieldAddr Try.underlying29 rfl ti22 rfl (by decide)) rfl rfl ?_
   refine GoQA.alloc rfl rfl (alBuild (n := 1) (parts := [(0, .int .i64 (-1 : Int))]) (vs := [.int .i64 (-1 : Int)]) Try.underlying26 ti3 (by decide) (by decide) (by decide) (by kernel_rfl) rfl rfl) ?_
   intro M0 A235 M1 A237 yJ Kj hd240 hnb241 hh242
   replace hO := yJ.own hO
   have Eu : Els (Rp.int .i64) (bl [.row 39 2 p84 n86 c85 ik, .row 3 1 p90 n92 c91 io, .row 3 1 p96 n98 c97 wB, .row 26 1 B5 (i7 + 1) B6 qT, .blk b49 (.cells #[.int .i64 ((ix a0 (0 : Int)).length : Int), .bool false, .slice dt dC du, .slice j6 i7 j7, .slice p96 n98 c97, .slice p90 n92 c91, .slice none 0 0, .slice p84 n86 c85, .int .i64 (0 : Int)] 29 (0, 0)), t2 (Fl.int .i64) 26 3 dt dC du gX r38, .blk B2 (.cells #[.int .i64 (0 : Int), .bool false, .slice none 0 0, .slice none 0 0, .slice none 0 0, .slice none 0 0, .slice none 0 0, .slice none 0 0, .int .i64 (0 : Int)] 29 (0, 0))] ++ A235) M0 [.int .i64 (-1 : Int)] [(-1 : Int)] := (Els.cons rfl rfl (Els.nil _ _ _) (by simp [mx]))
   have zS := gainCh (w := M0) (E := [.row 39 2 p84 n86 c85 ik, .row 3 1 p90 n92 c91 io, .row 3 1 p96 n98 c97 wB, .row 26 1 B5 (i7 + 1) B6 qT, .blk b49 (.cells #[.int .i64 ((ix a0 (0 : Int)).length : Int), .bool false, .slice dt dC du, .slice j6 i7 j7, .slice p96 n98 c97, .slice p90 n92 c91, .slice none 0 0, .slice p84 n86 c85, .int .i64 (0 : Int)] 29 (0, 0)), t2 (Fl.int .i64) 26 3 dt dC du gX r38, .blk B2 (.cells #[.int .i64 (0 : Int), .bool false, .slice none 0 0, .slice none 0 0, .slice none 0 0, .slice none 0 0, .slice none 0 0, .slice none 0 0, .int .i64 (0 : Int)] 29 (0, 0))]) (e := .row 3 1 (some ⟨M1, 0, none⟩) 1 1 [.int .i64 (-1 : Int)]) Kj rfl
   replace hB := (hB.trans sx.fr).trans (yJ.same.fr _)
   replace hB := Fr.gain (e := .row 3 1 (some ⟨M1, 0, none⟩) 1 1 [.int .i64 (-1 : Int)]) hB (Nat.le_trans hw177 hnb241) rfl
   replace hO := Owns.gain hO Kj Fj rfl hh242 hd240
   refine GoQA.loudI rfl rfl ?_
   intro Uf A246 xX
   replace hO := xX.own hO
   replace Eu := (Eu.ch zS).ch (xX.ch _)
   have hobt := freeze 0 hO rfl Eu
   obtain ⟨hO1, pU, eA, GH⟩ := hobt
   dsimp only [eS, eZ] at hO1 pU eA
   replace hB := (hB.trans (xX.same.fr _)).trans (Owns.dropFr _ _ 0)
   dsimp only [eS, eZ] at hB
   replace hO := hO1; clear hO1
   obtain ⟨EY, H⟩ := H
   have Z9 := ((((Z8.trans sx.ch).trans (yJ.ch _)).trans zS).trans (xX.ch _)).trans pU
   replace gR := gR.ch Z9
   have hobt := oapp Try.underlying26 ti3 rfl 2 hO rfl gR eA GH EY (by decide)
   obtain ⟨U5, D5, E0, Hw, rF, k9, M2⟩ := hobt
   dsimp only [sS, sZ] at rF k9
   refine GoAt.step (M2 (by exact rfl) (by exact rfl)) (fun _ => (CSv.cons (cs_eq (blkCell 4 hO rfl rfl) (blkCell 4 rF.own rfl rfl)) (CSv.cons (cs_eq (blkCell 4 hO rfl rfl) (blkCell 4 rF.own rfl rfl)) (CSv.cons (cs_eq (blkCell 4 hO rfl rfl) (blkCell 4 rF.own rfl rfl)) (CSv.nil _ _))))) (Stp.kp hO rF) rfl ?_
   replace hO := rF.own
   refine GoQA.alloc rfl rfl (alBuild (n := 1) (parts := [(0, .int .i64 (k1_80 : Int))]) (vs := [.int .i64 (k1_80 : Int)]) Try.underlying26 ti3 (by decide) (by decide) (by decide) (by kernel_rfl) rfl rfl) ?_
   intro M3 A262 M4 A264 xY Kk hd267 hnb268 hh269
   replace hO := xY.own hO
   have Ev : Els (Rp.int .i64) (bl [.row 39 2 p84 n86 c85 ik, .row 3 1 p90 n92 c91 io, .row 3 1 D5 (n98 + 1) E0 Hw, .row 26 1 B5 (i7 + 1) B6 qT, .blk b49 (.cells #[.int .i64 ((ix a0 (0 : Int)).length : Int), .bool false, .slice dt dC du, .slice j6 i7 j7, .slice p96 n98 c97, .slice p90 n92 c91, .slice none 0 0, .slice p84 n86 c85, .int .i64 (0 : Int)] 29 (0, 0)), t2 (Fl.int .i64) 26 3 dt dC du gX r38, .blk B2 (.cells #[.int .i64 (0 : Int), .bool false, .slice none 0 0, .slice none 0 0, .slice none 0 0, .slice none 0 0, .slice none 0 0, .slice none 0 0, .int .i64 (0 : Int)] 29 (0, 0))] ++ A262) M3 [.int .i64 (k1_80 : Int)] [(k1_80 : Int)] := (Els.cons rfl rfl (Els.nil _ _ _) (by simp [mx]))
   have yK := gainCh (w := M3) (E := [.row 39 2 p84 n86 c85 ik, .row 3 1 p90 n92 c91 io, .row 3 1 D5 (n98 + 1) E0 Hw, .row 26 1 B5 (i7 + 1) B6 qT, .blk b49 (.cells #[.int .i64 ((ix a0 (0 : Int)).length : Int), .bool false, .slice dt dC du, .slice j6 i7 j7, .slice p96 n98 c97, .slice p90 n92 c91, .slice none 0 0, .slice p84 n86 c85, .int .i64 (0 : Int)] 29 (0, 0)), t2 (Fl.int .i64) 26 3 dt dC du gX r38, .blk B2 (.cells #[.int .i64 (0 : Int), .bool false, .slice none 0 0, .slice none 0 0, .slice none 0 0, .slice none 0 0, .slice none 0 0, .slice none 0 0, .int .i64 (0 : Int)] 29 (0, 0))]) (e := .row 3 1 (some ⟨M4, 0, none⟩) 1 1 [.int .i64 (k1_80 : Int)]) Kk rfl
   replace hB := (hB.trans rF.fr).trans (xY.same.fr _)
   replace hB := Fr.gain (e := .row 3 1 (some ⟨M4, 0, none⟩) 1 1 [.int .i64 (k1_80 : Int)]) hB (Nat.le_trans hw177 hnb268) rfl
   replace hO := Owns.gain hO Kk Fj rfl hh269 hd267
   refine GoQA.loudI rfl rfl ?_
   intro M5 A273 xg
   replace hO := xg.own hO
   replace Ev := (Ev.ch yK).ch (xg.ch _)
   have hobt := freeze 0 hO rfl Ev
   obtain ⟨hO1, yL, qa, Rc⟩ := hobt
   dsimp only [eS, eZ] at hO1 yL qa
   replace hB := (hB.trans (xg.same.fr _)).trans (Owns.dropFr _ _ 0)
   dsimp only [eS, eZ] at hB
   replace hO := hO1; clear hO1
   obtain ⟨VK, H⟩ := H
   have Z10 := ((((Z9.trans rF.ch).trans (xY.ch _)).trans yK).trans (xg.ch _)).trans yL
   replace di := di.ch Z10
   have hobt := oapp Try.underlying26 ti3 rfl 1 hO rfl di qa Rc VK (by decide)
   obtain ⟨VL, Jx, Jy, Rd, ip, rQ, M6⟩ := hobt
   dsimp only [sS, sZ] at ip rQ
   refine GoAt.step (M6 (by exact rfl) (by exact rfl)) (fun _ => (CSv.cons (cs_eq (blkCell 4 hO rfl rfl) (blkCell 4 ip.own rfl rfl)) (CSv.cons (cs_eq (blkCell 4 hO rfl rfl) (blkCell 4 ip.own rfl rfl)) (CSv.cons (cs_eq (blkCell 4 hO rfl rfl) (blkCell 4 ip.own rfl rfl)) (CSv.nil _ _))))) (Stp.kp hO ip) rfl ?_
   replace hO := ip.own
   refine GoQA.lastI rfl rfl ?_
   intro abM A288 xh
   replace hO := xh.own hO
   have hobt := oblkSt2 (v := .slice B5 (i7 + 1) B6) (i := 3) (cs' := #[.int .i64 ((ix a0 (0 : Int)).length : Int), .bool false, .slice dt dC du, .slice B5 (i7 + 1) B6, .slice p96 n98 c97, .slice p90 n92 c91, .slice none 0 0, .slice p84 n86 c85, .int .i64 (0 : Int)]) 4 hO rfl rfl rfl rfl
   obtain ⟨abN, sy, M7⟩ := hobt
   dsimp only [sS, sZ] at sy
   refine GoAt.step (M7 Try.underlying22 rfl ti22 (by exact rfl) (by exact rfl)) (fun h => nomatch h) (Stp.kp hO sy) rfl ?_
   replace hO := sy.own
   refine GoQA.pure rfl (op_fieldAddr Try.underlying29 rfl ti26 rfl (by decide)) rfl rfl ?_
   refine GoQA.lastI rfl rfl ?_
   intro U8 A294 xi
   replace hO := xi.own hO
   have hobt := oblkSt2 (v := .slice D5 (n98 + 1) E0) (i := 4) (cs' := #[.int .i64 ((ix a0 (0 : Int)).length : Int), .bool false, .slice dt dC du, .slice B5 (i7 + 1) B6, .slice D5 (n98 + 1) E0, .slice p90 n92 c91, .slice none 0 0, .slice p84 n86 c85, .int .i64 (0 : Int)]) 4 hO rfl rfl rfl rfl
   obtain ⟨U9, jc, M8⟩ := hobt
   dsimp only [sS, sZ] at jc
   refine GoAt.step (M8 Try.underlying26 rfl ti26 (by exact rfl) (by exact rfl)) (fun h => nomatch h) (Stp.kp hO jc) rfl ?_
   replace hO := jc.own
   refine GoQA.pure rfl (op_fieldAddr Try.underlying29 rfl ti26 rfl (by decide)) rfl rfl ?_
   refine GoQA.lastI rfl rfl ?_
   intro abO A300 xj
   replace hO := xj.own hO
   have hobt := oblkSt2 (v := .slice Jx (n92 + 1) Jy) (i := 5) (cs' := #[.int .i64 ((ix a0 (0 : Int)).length : Int), .bool false, .slice dt dC du, .slice B5 (i7 + 1) B6, .slice D5 (n98 + 1) E0, .slice Jx (n92 + 1) Jy, .slice none 0 0, .slice p84 n86 c85, .int .i64 (0 : Int)]) 4 hO rfl rfl rfl rfl
   obtain ⟨abP, sA, M9⟩ := hobt
   dsimp only [sS, sZ] at sA
   refine GoAt.step (M9 Try.underlying26 rfl ti26 (by exact rfl) (by exact rfl)) (fun h => nomatch h) (Stp.kp hO sA) rfl ?_
   replace hO := sA.own
   refine GoQA.nil ?_
   intro abQ A306 xk x2
   replace hO := xk.own hO
   replace hO := hO.permA x2
   refine Go1.inBlock ?_
   refine Go1.cut [(4, .pointer (some ⟨B2, 0, none⟩)), (6, .pointer (some ⟨b49, 0, none⟩)), (7, .int .i64 (-1 : Int)), (42, .slice nr a0.length ns), (43, .int .i64 (a0.length : Int)), (44, .int .i64 (k1_80 : Int))] ⟨rfl, rfl, rfl, rfl, rfl, rfl, trivial⟩ ?_
   intro σ _
   refine zr ?_
   have Z11 := ((((((((Z10.trans ip.ch).trans (xh.ch _)).trans sy.ch).trans (xi.ch _)).trans jc.ch).trans (xj.ch _)).trans sA.ch).trans (xk.ch _)).trans (permCh x2 _)
   replace ba := ba.ch Z11
   refine zo (op_add rfl rfl (wrap_i64 (natbd vM ba.bd))) (zm rfl (zn ?_))
   replace hB := (((((((hB.trans ip.fr).trans (xh.same.fr _)).trans sy.fr).trans (xi.same.fr _)).trans jc.fr).trans (xj.same.fr _)).trans sA.fr).trans (xk.same.fr _)
   have Z12 := (((((((xh.ch _).trans sy.ch).trans (xi.ch _)).trans jc.ch).trans (xj.ch _)).trans sA.ch).trans (xk.ch _)).trans (permCh x2 _)
   replace rQ := rQ.ch Z12
   have Z13 := ((((((((((((xY.ch _).trans yK).trans (xg.ch _)).trans yL).trans ip.ch).trans (xh.ch _)).trans sy.ch).trans (xi.ch _)).trans jc.ch).trans (xj.ch _)).trans sA.ch).trans (xk.ch _)).trans (permCh x2 _)
   replace k9 := k9.ch Z13
   have Z14 := (((((((((((((((((yJ.ch _).trans zS).trans (xX.ch _)).trans pU).trans rF.ch).trans (xY.ch _)).trans yK).trans (xg.ch _)).trans yL).trans ip.ch).trans (xh.ch _)).trans sy.ch).trans (xi.ch _)).trans jc.ch).trans (xj.ch _)).trans sA.ch).trans (xk.ch _)).trans (permCh x2 _)
   replace iC := iC.ch Z14
   replace cP := cP.ch Z11
   exact hX1 _ H _ _ ⟨n86, p84, c85, ik, n92 + 1, Jx, Jy, Rd, n98 + 1, D5, E0, Hw, i7 + 1, B5, B6, qT, ⟨rfl, rfl, rfl, rfl, rfl, rfl, trivial⟩, hO, cP, rQ, k9, iC, ba, hB⟩
  replace H := ifn vM H
  refine zo (fun w => opB (op_lss rfl rfl w) (decide_eq_false vM)) (zn (zq (zf rfl rfl ?_)))
  refine Go1.exit rfl ?_
  refine zq (zr (zs (oblkAgg (vs := [.int .i64 ((ix a0 (0 : Int)).length : Int), .bool false, .slice dt dC du, .slice j6 i7 j7, .slice p96 n98 c97, .slice p90 n92 c91, .slice none 0 0, .slice p84 n86 c85, .int .i64 (0 : Int)]) (i := 0) 4 hO rfl rfl Try.underlying29 rfl ti29 rfl) ?_))
  have hobt := oblkStAgg (us := [.int .i64 ((ix a0 (0 : Int)).length : Int), .bool false, .slice dt dC du, .slice j6 i7 j7, .slice p96 n98 c97, .slice p90 n92 c91, .slice none 0 0, .slice p84 n86 c85, .int .i64 (0 : Int)]) (o := 0) (cs' := #[.int .i64 ((ix a0 (0 : Int)).length : Int), .bool false, .slice dt dC du, .slice j6 i7 j7, .slice p96 n98 c97, .slice p90 n92 c91, .slice none 0 0, .slice p84 n86 c85, .int .i64 (0 : Int)]) 6 hO rfl rfl (Nat.le_of_ble_eq_true rfl) rfl
  obtain ⟨abR, gp, Na⟩ := hobt
  dsimp only [sS, sZ] at gp
  refine zg (Na ti29 (by exact rfl) (by exact rfl) rfl) ?_
  replace hO := gp.own
  refine za rfl (zn ?_)
  have hobt := t2freezeA 5 hO rfl
  obtain ⟨hO1, Du, yM, Re⟩ := hobt
  dsimp only [eS, eZ] at hO1 Du yM
  replace hB := (hB.trans gp.fr).trans (Owns.dropFr _ _ 5)
  dsimp only [eS, eZ] at hB
  replace hO := hO1; clear hO1
  replace gP := (gP.ch gp.ch).ch Du
  have hobt := freeze 3 hO rfl gP
  obtain ⟨hO1, Dv, AI, Rf⟩ := hobt
  dsimp only [eS, eZ] at hO1 Dv AI
  replace hB := hB.trans (Owns.dropFr _ _ 3)
  dsimp only [eS, eZ] at hB
  replace hO := hO1; clear hO1
  have Z15 := (gp.ch.trans Du).trans Dv
  replace gR := gR.ch Z15
  have hobt := freeze 2 hO rfl gR
  obtain ⟨hO1, Dw, Dx, Rg⟩ := hobt
  dsimp only [eS, eZ] at hO1 Dw Dx
  replace hB := hB.trans (Owns.dropFr _ _ 2)
  dsimp only [eS, eZ] at hB
  replace hO := hO1; clear hO1
  replace di := (di.ch Z15).ch Dw
  have hobt := freeze 1 hO rfl di
  obtain ⟨hO1, Dy, Fk, Rh⟩ := hobt
  dsimp only [eS, eZ] at hO1 Dy Fk
  replace hB := hB.trans (Owns.dropFr _ _ 1)
  dsimp only [eS, eZ] at hB
  replace hO := hO1; clear hO1
  replace cP := ((cP.ch Z15).ch Dw).ch Dy
  have hobt := freeze 0 hO rfl cP
  obtain ⟨hO1, o6, mc, GJ⟩ := hobt
  dsimp only [eS, eZ] at hO1 o6 mc
  replace hB := hB.trans (Owns.dropFr _ _ 0)
  dsimp only [eS, eZ] at hB
  replace hO := hO1; clear hO1
  refine Go1.retC2 Try.func22 rfl rfl (run_loadBlk (vs := [.int .i64 ((ix a0 (0 : Int)).length : Int), .bool false, .slice dt dC du, .slice j6 i7 j7, .slice p96 n98 c97, .slice p90 n92 c91, .slice none 0 0, .slice p84 n86 c85, .int .i64 (0 : Int)]) 1 hO rfl rfl Try.underlying29 rfl ti29) ?_
  replace Fk := Fk.ch o6
  replace Dx := (Dx.ch Dy).ch o6
  have Z16 := (Dw.trans Dy).trans o6
  replace AI := AI.ch Z16
  have Z17 := ((Dv.trans Dw).trans Dy).trans o6
  replace yM := yM.ch Z17
  exact ⟨(⟨((ix a0 (0 : Int)).length : Int), false, r38, d_99, d_93, d_87, ([] : List (List Int)), d_81, (0 : Int)⟩ : Enum), (0 : Int), dt, du, j6, j7, p96, c97, p90, c91, none, 0, p84, c85, (congrArg (fun l => Value.tuple (List.toArray l)) (cons_eq (congrArg (fun l => Value.agg (List.toArray l)) (cons_eq rfl (cons_eq rfl (cons_eq (congrArg (fun nn => Value.slice dt nn du) Re) (cons_eq (congrArg (fun nn => Value.slice j6 nn j7) Rf) (cons_eq (congrArg (fun nn => Value.slice p96 nn c97) Rg) (cons_eq (congrArg (fun nn => Value.slice p90 nn c91) Rh) (cons_eq rfl (cons_eq (congrArg (fun nn => Value.slice p84 nn c85) GJ) (cons_eq rfl rfl)))))))))) (cons_eq rfl rfl))), hB.same, (yM.ch (Ch.weak _ _ _)), (AI.ch (Ch.weak _ _ _)), (Dx.ch (Ch.weak _ _ _)), (Fk.ch (Ch.weak _ _ _)), (ISl.null _ _ _), (mc.ch (Ch.weak _ _ _)), H⟩
 replace H := ifp rfl H
 refine zt rfl rfl (zq (zr (zo (op_fieldAddr Try.underlying29 rfl ti3 rfl (by decide)) (zs (oblk (i := 0) 0 hO rfl rfl Try.underlying3 rfl rfl) ?_))))
 refine GoR.call (op_call body54 rfl (walk_ref03_Discrete hO.lt H)) rfl rfl ?_
 rintro VM K6 ⟨r327, rG, rH, rfl, Hx, cD, H⟩
 have g9 := Stp.same hO Hx
 replace hO := g9.own
 have hobt := obuild (r := Rp.sl (Rp.int .i64)) (n := 1) (parts := [(0, .slice rG r327.length rH)]) (vs := [.slice rG r327.length rH]) (xs := [r327]) rfl Try.underlying22 ti26 hO (by decide) (by kernel_rfl) (Els.cons rfl ⟨rG, rH, rfl, cD⟩ (Els.nil _ _ _) (by simp [mx])) rfl
 obtain ⟨abS, Ed, Df, wg, XJ, FK⟩ := hobt
 refine zg (FK rfl) ?_
 replace hO := Df.own
 have hobt := obuild (r := Rp.int .i64) (n := 1) (parts := [(0, .int .i64 (-1 : Int))]) (vs := [.int .i64 (-1 : Int)]) (xs := [(-1 : Int)]) rfl Try.underlying26 ti3 hO (by decide) (by kernel_rfl) (Els.cons rfl rfl (Els.nil _ _ _) (by simp [mx])) rfl
 obtain ⟨Vd, D8, ke, we, Hf, FX⟩ := hobt
 refine zg (FX rfl) ?_
 replace hO := ke.own
 have hobt := obuild (r := Rp.int .i64) (n := 1) (parts := [(0, .int .i64 (-1 : Int))]) (vs := [.int .i64 (-1 : Int)]) (xs := [(-1 : Int)]) rfl Try.underlying26 ti3 hO (by decide) (by kernel_rfl) (Els.cons rfl rfl (Els.nil _ _ _) (by simp [mx])) rfl
 obtain ⟨abT, F8, Ai, zT, XK, Nb⟩ := hobt
 refine zg (Nb rfl) ?_
 replace hO := Ai.own
 refine zo (op_fieldAddr Try.underlying29 rfl ti22 rfl (by decide)) ?_
 have hobt := oblkSt2 (v := .slice Ed 1 1) (i := 3) (cs' := #[.int .i64 ((ix a0 (0 : Int)).length : Int), .bool true, .slice dt dC du, .slice Ed 1 1, .slice none 0 0, .slice none 0 0, .slice none 0 0, .slice none 0 0, .int .i64 (0 : Int)]) 3 hO rfl rfl rfl rfl
 obtain ⟨VN, iU, FL⟩ := hobt
 dsimp only [sS, sZ] at iU
 refine zg (FL Try.underlying22 rfl ti22 (by exact rfl) (by exact rfl)) ?_
 replace hO := iU.own
 refine zo (op_fieldAddr Try.underlying29 rfl ti26 rfl (by decide)) ?_
 have hobt := oblkSt2 (v := .slice D8 1 1) (i := 4) (cs' := #[.int .i64 ((ix a0 (0 : Int)).length : Int), .bool true, .slice dt dC du, .slice Ed 1 1, .slice D8 1 1, .slice none 0 0, .slice none 0 0, .slice none 0 0, .int .i64 (0 : Int)]) 3 hO rfl rfl rfl rfl
 obtain ⟨abU, lz, Nc⟩ := hobt
 dsimp only [sS, sZ] at lz
 refine zg (Nc Try.underlying26 rfl ti26 (by exact rfl) (by exact rfl)) ?_
 replace hO := lz.own
 refine zo (op_fieldAddr Try.underlying29 rfl ti26 rfl (by decide)) ?_
 have hobt := oblkSt2 (v := .slice F8 1 1) (i := 5) (cs' := #[.int .i64 ((ix a0 (0 : Int)).length : Int), .bool true, .slice dt dC du, .slice Ed 1 1, .slice D8 1 1, .slice F8 1 1, .slice none 0 0, .slice none 0 0, .int .i64 (0 : Int)]) 3 hO rfl rfl rfl rfl
 obtain ⟨Hy, x3, Nd⟩ := hobt
 dsimp only [sS, sZ] at x3
 refine zg (Nd Try.underlying26 rfl ti26 (by exact rfl) (by exact rfl)) ?_
 replace hO := x3.own
 refine zn (zr (za rfl (zn (zq (zq ?_)))))
 refine zr (zm rfl (zo (op_len Try.underlying22 rfl) (zm rfl (zn (zb ?_)))))
 have zx := Stp.nil (e := 39) (r := 2) hO
 replace hO := zx.own
 have Ri := Els.nil (rpRule) (bl (.row 39 2 none 0 0 [] :: [.row 3 1 F8 1 1 [.int .i64 (-1 : Int)], .row 3 1 D8 1 1 [.int .i64 (-1 : Int)], .row 26 1 Ed 1 1 [.slice rG r327.length rH], .blk b49 (.cells #[.int .i64 ((ix a0 (0 : Int)).length : Int), .bool true, .slice dt dC du, .slice Ed 1 1, .slice D8 1 1, .slice F8 1 1, .slice none 0 0, .slice none 0 0, .int .i64 (0 : Int)] 29 (0, 0)), t2 (Fl.int .i64) 26 3 dt dC du gX r38, .blk B2 (.cells #[.int .i64 (0 : Int), .bool false, .slice none 0 0, .slice none 0 0, .slice none 0 0, .slice none 0 0, .slice none 0 0, .slice none 0 0, .int .i64 (0 : Int)] 29 (0, 0))]) ++ A) Hy
 have Z18 := ((iU.ch.trans lz.ch).trans x3.ch).trans zx.ch
 replace zT := zT.ch Z18
 have Z19 := (((Ai.ch.trans iU.ch).trans lz.ch).trans x3.ch).trans zx.ch
 replace we := we.ch Z19
 have Z20 := ((((ke.ch.trans Ai.ch).trans iU.ch).trans lz.ch).trans x3.ch).trans zx.ch
 replace wg := wg.ch Z20
 replace hB := ((((((((((hB.trans (Ht.same.fr _)).trans xK.fr).trans (Hu.same.fr _)).trans g9.fr).trans Df.fr).trans ke.fr).trans Ai.fr).trans iU.fr).trans lz.fr).trans x3.fr).trans zx.fr
 have Z21 := (((((((((((((qS.ch.trans (Hs.ch _)).trans MQ).trans (Ht.ch _)).trans xK.ch).trans (Hu.ch _)).trans (permCh Jw _)).trans g9.ch).trans Df.ch).trans ke.ch).trans Ai.ch).trans iU.ch).trans lz.ch).trans x3.ch).trans zx.ch
 replace ba := ba.ch Z21
 refine Go1.loopW (S := Nat × List Rule × List Int × List Int × List (List Int)) (fun s σ w => match s with | (k2_367, d_368, d_374, d_380, d_386) => ∃ (jl : Nat), ∃ (i5 : Option Addr), ∃ (i6 : Nat), ∃ (rR : List Value), ∃ (jm : Nat), ∃ (jo : Option Addr), ∃ (jp : Nat), ∃ (pW : List Value), ∃ (jq : Nat), ∃ (jW : Option Addr), ∃ (jX : Nat), ∃ (oE : List Value), ∃ (i8 : Nat), ∃ (j8 : Option Addr), ∃ (j9 : Nat), ∃ (vC : List Value), agrees σ [(4, .pointer (some ⟨B2, 0, none⟩)), (6, .pointer (some ⟨b49, 0, none⟩)), (7, .int .i64 (0 : Int)), (42, .slice nr a0.length ns), (43, .int .i64 (a0.length : Int)), (44, .int .i64 (k2_367 : Int))] ∧ (fun Z0 => Owns w0.heap.size w Z0 A ∧ Els (rpRule) (bl Z0 ++ A) w rR d_368 ∧ Els (Rp.int .i64) (bl Z0 ++ A) w pW d_374 ∧ Els (Rp.int .i64) (bl Z0 ++ A) w oE d_380 ∧ Els (Rp.sl (Rp.int .i64)) (bl Z0 ++ A) w vC d_386 ∧ ISl (Rp.sl (Rp.int .i64)) (bl Z0 ++ A) w nr ns a0 ∧ Fr (bl []) w0 (bl Z0) w) [.row 39 2 i5 jl i6 rR, .row 3 1 jo jm jp pW, .row 3 1 jW jq jX oE, .row 26 1 j8 i8 j9 vC, .blk b49 (.cells #[.int .i64 ((ix a0 (0 : Int)).length : Int), .bool true, .slice dt dC du, .slice j8 i8 j9, .slice jW jq jX, .slice jo jm jp, .slice none 0 0, .slice i5 jl i6, .int .i64 (0 : Int)] 29 (0, 0)), t2 (Fl.int .i64) 26 3 dt dC du gX r38, .blk B2 (.cells #[.int .i64 (0 : Int), .bool false, .slice none 0 0, .slice none 0 0, .slice none 0 0, .slice none 0 0, .slice none 0 0, .slice none 0 0, .int .i64 (0 : Int)] 29 (0, 0))]) H ⟨0, none, 0, [], 1, F8, 1, [.int .i64 (-1 : Int)], 1, D8, 1, [.int .i64 (-1 : Int)], 1, Ed, 1, [.slice rG r327.length rH], ⟨rfl, rfl, rfl, rfl, rfl, rfl, trivial⟩, hO, Ri, zT, we, wg, ba, hB⟩ ?_
 intro X2
 refine prE fun k2_367 => prE fun d_368 => prE fun d_374 => prE fun d_380 => fun d_386 => ?_
 intro H hX2 σ abV
 refine exE fun jl => exE fun i5 => exE fun i6 => exE fun rR => exE fun jm => exE fun jo => exE fun jp => exE fun pW => exE fun jq => exE fun jW => exE fun jX => exE fun oE => exE fun i8 => exE fun j8 => exE fun j9 => exE fun vC => andE fun hag => andE fun hO => andE fun d4 => andE fun fx => andE fun fV => andE fun gQ => andE fun ba => fun hB => ?_
 dsimp only at H
 refine Go1.keep [(4, .pointer (some ⟨B2, 0, none⟩)), (6, .pointer (some ⟨b49, 0, none⟩)), (7, .int .i64 (0 : Int)), (42, .slice nr a0.length ns), (43, .int .i64 (a0.length : Int)), (44, .int .i64 (k2_367 : Int))] hag ?_
 refine zq (zr ?_)
 by_cases E3 : (k2_367 : Int) < (a0.length : Int)
 ·replace H := ifp E3 H
  refine zo (fun w => opB (op_lss rfl rfl w) (decide_eq_true E3)) (zn (zq (zt rfl rfl (zk (zq ?_)))))
  refine zb (zq (zr (zm rfl ?_)))
  obtain ⟨Jz, H⟩ := H
  obtain ⟨JA, H⟩ := H
  refine zo (op_index Try.underlying22 ti26 rfl rfl Jz JA (ba.some_ Jz JA)) ?_
  have hobt := ldSl ba Jz JA
  obtain ⟨Nf, Ng, cW, Rj⟩ := hobt
  refine zs (Rj Try.underlying26 rfl rfl) (za rfl (za rfl (zn (zq (zr ?_)))))
  refine zo (op_fieldAddr Try.underlying29 rfl ti22 rfl (by decide)) (zs (oblk (i := 3) 4 hO rfl rfl Try.underlying22 rfl rfl) (zm rfl ?_))
  have hobt := rowlend 3 hO rfl gQ
  obtain ⟨Rk, Rl⟩ := hobt
  have hOc401 := hO.drop 3
  refine GoR.call (op_call body41 (show ([.slice j8 i8 j9, .slice Nf ((ix a0 (k2_367 : Int)).length) Ng] : List Value) = [.slice j8 d_386.length j9, .slice Nf ((ix a0 (k2_367 : Int)).length) Ng] from by rw [← Rl]) (walk_ref12_Find hOc401.lt Rk (cW.ch (Owns.dropCh _ _ 3)) H)) rfl rfl ?_
  rintro abW abX ⟨r402, rfl, Rm, H⟩
  have zy := Stp.same hO Rm
  replace hO := zy.own
  refine za rfl (zn (zq (zq (zr (zm rfl ?_)))))
  by_cases Hz : (0 : Int) ≤ r402
  ·replace H := ifp Hz H
   refine zo (fun w => opB (op_geq rfl rfl w) (decide_eq_true Hz)) (zn (zt rfl rfl (zq ?_)))
   refine Go1.drawS 2 [(0, .pure), (1, .stable), (2, .pure), (4, .stable), (5, .pure), (3, .loud), (6, .loud), (7, .pure), (8, .loud), (9, .last), (10, .pure), (11, .last)] mixed (by kernel_rfl) ?_
   intro Vh Rn
   have zA := Stp.same hO Rn
   replace hO := zA.own
   refine GoQ.pure rfl (op_fieldAddr Try.underlying29 rfl ti27 rfl (by decide)) rfl rfl ?_
   refine GoQ.stable rfl (oblk (i := 7) 4 hO rfl rfl Try.underlying27 rfl rfl) rfl rfl ?_
   refine GoQ.pure rfl (op_move rfl) rfl rfl ?_
   refine GoQ.stable rfl (oblkAgg (vs := [.int .i64 ((ix a0 (0 : Int)).length : Int), .bool true, .slice dt dC du, .slice j8 i8 j9, .slice jW jq jX, .slice jo jm jp, .slice none 0 0, .slice i5 jl i6, .int .i64 (0 : Int)]) (i := 0) 4 hO rfl rfl Try.underlying29 rfl ti29 rfl) rfl rfl ?_
   refine GoQ.pure rfl (op_move rfl) rfl rfl ?_
   refine GoQ.call rfl (op_call body55 rfl (walk_ref12_letter hO.lt H)) (fun v w hr => by obtain ⟨_, _, hs, _, _⟩ := hr; assumption) rfl rfl ?_
   rintro abY Up ⟨r412, rfl, Ro, KG, H⟩
   have zB := Stp.same hO Ro
   replace hO := zB.own
   have Rq := t2lend 5 hO rfl
   have Rr := t2neq 5 hO rfl
   have hOc420 := hO.drop 5
   have Z22 := (zy.ch.trans zA.ch).trans zB.ch
   replace gQ := gQ.ch Z22
   have hobt := rowlend 3 hOc420 rfl (gQ.ch (Owns.dropCh _ _ 5))
   obtain ⟨Rs, Rt⟩ := hobt
   have hOc423 := hOc420.drop 3
   replace fV := fV.ch Z22
   have hobt := rowlend 2 hOc423 rfl ((fV.ch (Owns.dropCh _ _ 5)).ch (Owns.dropCh _ _ 3))
   obtain ⟨Ru, Rv⟩ := hobt
   have hOc426 := hOc423.drop 2
   replace fx := fx.ch Z22
   have hobt := rowlend 1 hOc426 rfl (((fx.ch (Owns.dropCh _ _ 5)).ch (Owns.dropCh _ _ 3)).ch (Owns.dropCh _ _ 2))
   obtain ⟨Rw, Rx⟩ := hobt
   have hOc429 := hOc426.drop 1
   replace d4 := d4.ch Z22
   have hobt := rowlend 0 hOc429 rfl ((((d4.ch (Owns.dropCh _ _ 5)).ch (Owns.dropCh _ _ 3)).ch (Owns.dropCh _ _ 2)).ch (Owns.dropCh _ _ 1))
   obtain ⟨Ry, Rz⟩ := hobt
   have hOc432 := hOc429.drop 0
   refine GoQ.call rfl (op_call body40 (show ([.agg #[.int .i64 ((ix a0 (0 : Int)).length : Int), .bool true, .slice dt dC du, .slice j8 i8 j9, .slice jW jq jX, .slice jo jm jp, .slice none 0 0, .slice i5 jl i6, .int .i64 (0 : Int)], .int .i64 r402] : List Value) = [.agg #[.int .i64 ((ix a0 (0 : Int)).length : Int), .bool true, .slice dt r38.length du, .slice j8 d_386.length j9, .slice jW d_380.length jX, .slice jo d_374.length jp, .slice none 0 0, .slice i5 d_368.length i6, .int .i64 (0 : Int)], .int .i64 r402] from by rw [← Rr, ← Rt, ← Rv, ← Rx, ← Rz]) (walk_ref12_Word (e := (⟨((ix a0 (0 : Int)).length : Int), true, r38, d_386, d_380, d_374, [], d_368, (0 : Int)⟩ : Enum)) hOc432.lt ((((Rq.ch (Owns.dropCh _ _ 3)).ch (Owns.dropCh _ _ 2)).ch (Owns.dropCh _ _ 1)).ch (Owns.dropCh _ _ 0)) (((Rs.ch (Owns.dropCh _ _ 2)).ch (Owns.dropCh _ _ 1)).ch (Owns.dropCh _ _ 0)) ((Ru.ch (Owns.dropCh _ _ 1)).ch (Owns.dropCh _ _ 0)) (Rw.ch (Owns.dropCh _ _ 0)) (ISl.null _ _ _) Ry H)) (fun v w hr => by obtain ⟨_, _, hs, _, _⟩ := hr; assumption) rfl rfl ?_
   rintro ab0 Vj ⟨r433, rfl, RA, KH, H⟩
   have zC := Stp.same hO RA
   replace hO := zC.own
   refine GoQ.pure rfl (op_build Try.underlying39 ti39 (pl := [(0, 1), (1, 1)]) (vs := [(0, .string (gstr r412)), (1, .string (gstr r433))]) (cs := #[.string (gstr r412), .string (gstr r433)]) (by kernel_rfl) rfl (by kernel_rfl)) rfl rfl ?_
   have hobt := obuildN (r := rpRule) (n := 1) (parts := [(0, .agg #[.string (gstr r412), .string (gstr r433)])]) (vs := [.string (gstr r412), .string (gstr r433)]) (xs := [(⟨r412, r433⟩ : Rule)]) Try.underlying27 ti39 hO (by decide) (by decide) (by kernel_rfl) (Els.flat1 (⟨r412, r433⟩ : Rule) ⟨KG, KH⟩) rfl
   obtain ⟨ab1, ab2, zD, RB, RD, Nh⟩ := hobt
   refine GoQ.loud rfl (Nh rfl) RD rfl rfl ?_
   replace hO := zD.own
   have hobt := freeze 0 hO rfl RB
   obtain ⟨hO1, B7, Dz, RE⟩ := hobt
   dsimp only [eS, eZ] at hO1 B7 Dz
   replace hB := (((((hB.trans zy.fr).trans zA.fr).trans zB.fr).trans zC.fr).trans zD.fr).trans (Owns.dropFr _ _ 0)
   dsimp only [eS, eZ] at hB
   replace hO := hO1; clear hO1
   obtain ⟨VO, H⟩ := H
   have Z23 := (zC.ch.trans zD.ch).trans B7
   replace d4 := d4.ch Z23
   have hobt := oapp Try.underlying27 ti39 rfl 0 hO rfl d4 Dz RE VO (by decide)
   obtain ⟨ab3, JB, JC, RF, iV, Fm, Ni⟩ := hobt
   dsimp only [sS, sZ] at iV Fm
   refine GoQ.last rfl (Ni (by exact rfl) (by exact rfl)) rfl rfl ?_
   replace hO := iV.own
   refine GoQ.pure rfl (op_fieldAddr Try.underlying29 rfl ti27 rfl (by decide)) rfl rfl ?_
   have hobt := oblkSt2 (v := .slice JB (jl + 1) JC) (i := 7) (cs' := #[.int .i64 ((ix a0 (0 : Int)).length : Int), .bool true, .slice dt dC du, .slice j8 i8 j9, .slice jW jq jX, .slice jo jm jp, .slice none 0 0, .slice JB (jl + 1) JC, .int .i64 (0 : Int)]) 4 hO rfl rfl rfl rfl
   obtain ⟨VP, mQ, Nj⟩ := hobt
   dsimp only [sS, sZ] at mQ
   refine GoQ.last rfl (Nj Try.underlying27 rfl ti27 (by exact rfl) (by exact rfl)) rfl rfl ?_
   replace hO := mQ.own
   refine GoQ.nil ?_
   refine Go1.exit rfl ?_
   refine Go1.cut [(4, .pointer (some ⟨B2, 0, none⟩)), (6, .pointer (some ⟨b49, 0, none⟩)), (7, .int .i64 (0 : Int)), (42, .slice nr a0.length ns), (43, .int .i64 (a0.length : Int)), (44, .int .i64 (k2_367 : Int))] ⟨rfl, rfl, rfl, rfl, rfl, rfl, trivial⟩ ?_
   intro σ _
   refine zr ?_
   have Z24 := ((((Z22.trans zC.ch).trans zD.ch).trans B7).trans iV.ch).trans mQ.ch
   replace ba := ba.ch Z24
   refine zo (op_add rfl rfl (wrap_i64 (natbd E3 ba.bd))) (zm rfl (zn ?_))
   replace Fm := Fm.ch mQ.ch
   replace hB := (hB.trans iV.fr).trans mQ.fr
   have Z25 := (Z23.trans iV.ch).trans mQ.ch
   replace fx := fx.ch Z25
   replace fV := fV.ch Z25
   replace gQ := gQ.ch Z25
   exact hX2 _ H _ _ ⟨jl + 1, JB, JC, RF, jm, jo, jp, pW, jq, jW, jX, oE, i8, j8, j9, vC, ⟨rfl, rfl, rfl, rfl, rfl, rfl, trivial⟩, hO, Fm, fx, fV, gQ, ba, hB⟩
  replace H := ifn Hz H
  refine zo (fun w => opB (op_geq rfl rfl w) (decide_eq_false Hz)) (zn (zf rfl rfl (zk ?_)))
  refine Go1.drawA (CSv.tr [(some ⟨b49, 3, none⟩), (some ⟨b49, 4, none⟩), (some ⟨b49, 5, none⟩)]) A 1 [(0, .pure), (1, .stable), (3, .pure), (7, .pure), (8, .stable), (9, .pure), (12, .pure), (13, .stable), (14, .pure), (2, .alloc), (4, .loud), (5, .alloc), (6, .loud), (17, .pure), (10, .alloc), (11, .loud), (15, .alloc), (16, .loud), (18, .last), (19, .pure), (20, .last), (21, .pure), (22, .last)] mixed (by kernel_rfl) trivial hO.bd ?_
  intro ab4 RG
  have zE := Stp.same hO RG
  replace hO := zE.own
  have Fn := hO.le
  replace hB := (hB.trans zy.fr).trans zE.fr
  have hw464 := hB.ch.size
  refine GoQA.pure rfl (op_fieldAddr Try.underlying29 rfl ti22 rfl (by decide)) rfl rfl ?_
  refine GoQA.stable rfl (loadV (.head _) rfl (blkCell 4 hO rfl rfl) Try.underlying22 rfl rfl) rfl rfl ?_
  refine GoQA.pure rfl (op_move rfl) rfl rfl ?_
  refine GoQA.pure rfl (op_fieldAddr Try.underlying29 rfl ti26 rfl (by decide)) rfl rfl ?_
  refine GoQA.stable rfl (loadV (.tail _ (.head _)) rfl (blkCell 4 hO rfl rfl) Try.underlying26 rfl rfl) rfl rfl ?_
  refine GoQA.pure rfl (op_move rfl) rfl rfl ?_
  refine GoQA.pure rfl (op_fieldAddr Try.underlying29 rfl ti26 rfl (by decide)) rfl rfl ?_
  refine GoQA.stable rfl (loadV (.tail _ (.tail _ (.head _))) rfl (blkCell 4 hO rfl rfl) Try.underlying26 rfl rfl) rfl rfl ?_
  refine GoQA.pure rfl (op_move rfl) rfl rfl ?_
  refine GoQA.alloc rfl rfl (alBuild (n := 0) (parts := []) (vs := []) Try.underlying26 ti3 (by decide) (by decide) (by decide) (by kernel_rfl) rfl rfl) ?_
  intro Jk A468 Nk A470 AJ Kl hd473 hnb474 hh475
  replace hO := AJ.own hO
  have Ew : Els (Rp.int .i64) (bl [.row 39 2 i5 jl i6 rR, .row 3 1 jo jm jp pW, .row 3 1 jW jq jX oE, .row 26 1 j8 i8 j9 vC, .blk b49 (.cells #[.int .i64 ((ix a0 (0 : Int)).length : Int), .bool true, .slice dt dC du, .slice j8 i8 j9, .slice jW jq jX, .slice jo jm jp, .slice none 0 0, .slice i5 jl i6, .int .i64 (0 : Int)] 29 (0, 0)), t2 (Fl.int .i64) 26 3 dt dC du gX r38, .blk B2 (.cells #[.int .i64 (0 : Int), .bool false, .slice none 0 0, .slice none 0 0, .slice none 0 0, .slice none 0 0, .slice none 0 0, .slice none 0 0, .int .i64 (0 : Int)] 29 (0, 0))] ++ A468) Jk [] (([] : List Int)) := (Els.nil _ _ _)
  have Ca := gainCh (w := Jk) (E := [.row 39 2 i5 jl i6 rR, .row 3 1 jo jm jp pW, .row 3 1 jW jq jX oE, .row 26 1 j8 i8 j9 vC, .blk b49 (.cells #[.int .i64 ((ix a0 (0 : Int)).length : Int), .bool true, .slice dt dC du, .slice j8 i8 j9, .slice jW jq jX, .slice jo jm jp, .slice none 0 0, .slice i5 jl i6, .int .i64 (0 : Int)] 29 (0, 0)), t2 (Fl.int .i64) 26 3 dt dC du gX r38, .blk B2 (.cells #[.int .i64 (0 : Int), .bool false, .slice none 0 0, .slice none 0 0, .slice none 0 0, .slice none 0 0, .slice none 0 0, .slice none 0 0, .int .i64 (0 : Int)] 29 (0, 0))]) (e := .row 3 1 (some ⟨Nk, 0, none⟩) 0 0 []) Kl rfl
  replace hB := hB.trans (AJ.same.fr _)
  replace hB := Fr.gain (e := .row 3 1 (some ⟨Nk, 0, none⟩) 0 0 []) hB (Nat.le_trans hw464 hnb474) rfl
  replace hO := Owns.gain hO Kl Fn rfl hh475 hd473
  refine GoQA.loudI rfl rfl ?_
  intro Vm A479 zU
  replace hO := zU.own hO
  obtain ⟨VQ, H⟩ := H
  replace Ew := (Ew.ch Ca).ch (zU.ch _)
  have Z26 := (((zy.ch.trans zE.ch).trans (AJ.ch _)).trans Ca).trans (zU.ch _)
  replace cW := cW.ch Z26
  have hobt := oapp Try.underlying26 ti3 rfl 0 hO rfl Ew cW rfl VQ (by decide)
  obtain ⟨ab5, Ee, Ef, XL, iF, Fo, Nl⟩ := hobt
  dsimp only [sS, sZ] at iF Fo
  refine GoAt.step (Nl (by exact rfl) (by exact rfl)) (fun _ => (CSv.cons (cs_eq (blkCell 5 hO rfl rfl) (blkCell 5 iF.own rfl rfl)) (CSv.cons (cs_eq (blkCell 5 hO rfl rfl) (blkCell 5 iF.own rfl rfl)) (CSv.cons (cs_eq (blkCell 5 hO rfl rfl) (blkCell 5 iF.own rfl rfl)) (CSv.nil _ _))))) (Stp.kp hO iF) rfl ?_
  replace hO := iF.own
  have hobt := freeze 0 hO rfl Fo
  obtain ⟨hO1, Cb, gI, RH⟩ := hobt
  dsimp only [eS, eZ] at hO1 Cb gI
  replace hB := ((hB.trans (zU.same.fr _)).trans iF.fr).trans (Owns.dropFr _ _ 0)
  dsimp only [eS, eZ] at hB
  replace hO := hO1; clear hO1
  refine GoQA.alloc rfl rfl (alBuild (n := 1) (parts := [(0, .slice Ee (0 + ((ix a0 (k2_367 : Int)).length)) Ef)]) (vs := [.slice Ee (0 + ((ix a0 (k2_367 : Int)).length)) Ef]) Try.underlying22 ti26 (by decide) (by decide) (by decide) (by kernel_rfl) rfl rfl) ?_
  intro GN A492 Nm A494 zV Km hd497 hnb498 hh499
  replace hO := zV.own hO
  replace gI := gI.ch (zV.ch _)
  have BO : Els (Rp.sl (Rp.int .i64)) (bl [.row 39 2 i5 jl i6 rR, .row 3 1 jo jm jp pW, .row 3 1 jW jq jX oE, .row 26 1 j8 i8 j9 vC, .blk b49 (.cells #[.int .i64 ((ix a0 (0 : Int)).length : Int), .bool true, .slice dt dC du, .slice j8 i8 j9, .slice jW jq jX, .slice jo jm jp, .slice none 0 0, .slice i5 jl i6, .int .i64 (0 : Int)] 29 (0, 0)), t2 (Fl.int .i64) 26 3 dt dC du gX r38, .blk B2 (.cells #[.int .i64 (0 : Int), .bool false, .slice none 0 0, .slice none 0 0, .slice none 0 0, .slice none 0 0, .slice none 0 0, .slice none 0 0, .int .i64 (0 : Int)] 29 (0, 0))] ++ A492) GN [.slice Ee (0 + ((ix a0 (k2_367 : Int)).length)) Ef] [(([] : List Int)) ++ (ix a0 (k2_367 : Int))] := (Els.cons rfl ⟨Ee, Ef, congrArg some (congrArg (fun nn => Value.slice Ee nn Ef) RH), gI⟩ (Els.nil _ _ _) (by simp [mx]))
  have AK := gainCh (w := GN) (E := [.row 39 2 i5 jl i6 rR, .row 3 1 jo jm jp pW, .row 3 1 jW jq jX oE, .row 26 1 j8 i8 j9 vC, .blk b49 (.cells #[.int .i64 ((ix a0 (0 : Int)).length : Int), .bool true, .slice dt dC du, .slice j8 i8 j9, .slice jW jq jX, .slice jo jm jp, .slice none 0 0, .slice i5 jl i6, .int .i64 (0 : Int)] 29 (0, 0)), t2 (Fl.int .i64) 26 3 dt dC du gX r38, .blk B2 (.cells #[.int .i64 (0 : Int), .bool false, .slice none 0 0, .slice none 0 0, .slice none 0 0, .slice none 0 0, .slice none 0 0, .slice none 0 0, .int .i64 (0 : Int)] 29 (0, 0))]) (e := .row 26 1 (some ⟨Nm, 0, none⟩) 1 1 [.slice Ee (0 + ((ix a0 (k2_367 : Int)).length)) Ef]) Km rfl
  replace hB := hB.trans (zV.same.fr _)
  replace hB := Fr.gain (e := .row 26 1 (some ⟨Nm, 0, none⟩) 1 1 [.slice Ee (0 + ((ix a0 (k2_367 : Int)).length)) Ef]) hB (Nat.le_trans hw464 hnb498) rfl
  replace hO := Owns.gain hO Km Fn rfl hh499 hd497
  refine GoQA.loudI rfl rfl ?_
  intro Uy A506 yN
  replace hO := yN.own hO
  replace BO := (BO.ch AK).ch (yN.ch _)
  have hobt := freeze 0 hO rfl BO
  obtain ⟨hO1, AM, ic, RI⟩ := hobt
  dsimp only [eS, eZ] at hO1 AM ic
  replace hB := (hB.trans (yN.same.fr _)).trans (Owns.dropFr _ _ 0)
  dsimp only [eS, eZ] at hB
  replace hO := hO1; clear hO1
  obtain ⟨VR, H⟩ := H
  have Z27 := (((((Z26.trans iF.ch).trans Cb).trans (zV.ch _)).trans AK).trans (yN.ch _)).trans AM
  replace gQ := gQ.ch Z27
  have hobt := oapp Try.underlying22 ti26 rfl 3 hO rfl gQ ic RI VR (by decide)
  obtain ⟨ab6, Cc, Cd, Ex, sB, iD, Nn⟩ := hobt
  dsimp only [sS, sZ] at sB iD
  refine GoAt.step (Nn (by exact rfl) (by exact rfl)) (fun _ => (CSv.cons (cs_eq (blkCell 4 hO rfl rfl) (blkCell 4 sB.own rfl rfl)) (CSv.cons (cs_eq (blkCell 4 hO rfl rfl) (blkCell 4 sB.own rfl rfl)) (CSv.cons (cs_eq (blkCell 4 hO rfl rfl) (blkCell 4 sB.own rfl rfl)) (CSv.nil _ _))))) (Stp.kp hO sB) rfl ?_
  replace hO := sB.own
  refine GoQA.pure rfl (op_fieldAddr Try.underlying29 rfl ti22 rfl (by decide)) rfl rfl ?_
  refine GoQA.alloc rfl rfl (alBuild (n := 1) (parts := [(0, .int .i64 (0 : Int))]) (vs := [.int .i64 (0 : Int)]) Try.underlying26 ti3 (by decide) (by decide) (by decide) (by kernel_rfl) rfl rfl) ?_
  intro Jq A522 Np A524 yO Kn hd527 hnb528 hh529
  replace hO := yO.own hO
  have Ce : Els (Rp.int .i64) (bl [.row 39 2 i5 jl i6 rR, .row 3 1 jo jm jp pW, .row 3 1 jW jq jX oE, .row 26 1 Cc (i8 + 1) Cd Ex, .blk b49 (.cells #[.int .i64 ((ix a0 (0 : Int)).length : Int), .bool true, .slice dt dC du, .slice j8 i8 j9, .slice jW jq jX, .slice jo jm jp, .slice none 0 0, .slice i5 jl i6, .int .i64 (0 : Int)] 29 (0, 0)), t2 (Fl.int .i64) 26 3 dt dC du gX r38, .blk B2 (.cells #[.int .i64 (0 : Int), .bool false, .slice none 0 0, .slice none 0 0, .slice none 0 0, .slice none 0 0, .slice none 0 0, .slice none 0 0, .int .i64 (0 : Int)] 29 (0, 0))] ++ A522) Jq [.int .i64 (0 : Int)] [(0 : Int)] := (Els.cons rfl rfl (Els.nil _ _ _) (by simp [mx]))
  have zW := gainCh (w := Jq) (E := [.row 39 2 i5 jl i6 rR, .row 3 1 jo jm jp pW, .row 3 1 jW jq jX oE, .row 26 1 Cc (i8 + 1) Cd Ex, .blk b49 (.cells #[.int .i64 ((ix a0 (0 : Int)).length : Int), .bool true, .slice dt dC du, .slice j8 i8 j9, .slice jW jq jX, .slice jo jm jp, .slice none 0 0, .slice i5 jl i6, .int .i64 (0 : Int)] 29 (0, 0)), t2 (Fl.int .i64) 26 3 dt dC du gX r38, .blk B2 (.cells #[.int .i64 (0 : Int), .bool false, .slice none 0 0, .slice none 0 0, .slice none 0 0, .slice none 0 0, .slice none 0 0, .slice none 0 0, .int .i64 (0 : Int)] 29 (0, 0))]) (e := .row 3 1 (some ⟨Np, 0, none⟩) 1 1 [.int .i64 (0 : Int)]) Kn rfl
  replace hB := (hB.trans sB.fr).trans (yO.same.fr _)
  replace hB := Fr.gain (e := .row 3 1 (some ⟨Np, 0, none⟩) 1 1 [.int .i64 (0 : Int)]) hB (Nat.le_trans hw464 hnb528) rfl
  replace hO := Owns.gain hO Kn Fn rfl hh529 hd527
  refine GoQA.loudI rfl rfl ?_
  intro ab7 A533 x4
  replace hO := x4.own hO
  replace Ce := (Ce.ch zW).ch (x4.ch _)
  have hobt := freeze 0 hO rfl Ce
  obtain ⟨hO1, zX, kM, RJ⟩ := hobt
  dsimp only [eS, eZ] at hO1 zX kM
  replace hB := (hB.trans (x4.same.fr _)).trans (Owns.dropFr _ _ 0)
  dsimp only [eS, eZ] at hB
  replace hO := hO1; clear hO1
  obtain ⟨VS, H⟩ := H
  have Z28 := ((((Z27.trans sB.ch).trans (yO.ch _)).trans zW).trans (x4.ch _)).trans zX
  replace fV := fV.ch Z28
  have hobt := oapp Try.underlying26 ti3 rfl 2 hO rfl fV kM RJ VS (by decide)
  obtain ⟨ab8, E4, E5, HA, rI, la, Nq⟩ := hobt
  dsimp only [sS, sZ] at rI la
  refine GoAt.step (Nq (by exact rfl) (by exact rfl)) (fun _ => (CSv.cons (cs_eq (blkCell 4 hO rfl rfl) (blkCell 4 rI.own rfl rfl)) (CSv.cons (cs_eq (blkCell 4 hO rfl rfl) (blkCell 4 rI.own rfl rfl)) (CSv.cons (cs_eq (blkCell 4 hO rfl rfl) (blkCell 4 rI.own rfl rfl)) (CSv.nil _ _))))) (Stp.kp hO rI) rfl ?_
  replace hO := rI.own
  refine GoQA.alloc rfl rfl (alBuild (n := 1) (parts := [(0, .int .i64 (k2_367 : Int))]) (vs := [.int .i64 (k2_367 : Int)]) Try.underlying26 ti3 (by decide) (by decide) (by decide) (by kernel_rfl) rfl rfl) ?_
  intro Nr A549 Ns A551 x5 Ko hd554 hnb555 hh556
  replace hO := x5.own hO
  have dy : Els (Rp.int .i64) (bl [.row 39 2 i5 jl i6 rR, .row 3 1 jo jm jp pW, .row 3 1 E4 (jq + 1) E5 HA, .row 26 1 Cc (i8 + 1) Cd Ex, .blk b49 (.cells #[.int .i64 ((ix a0 (0 : Int)).length : Int), .bool true, .slice dt dC du, .slice j8 i8 j9, .slice jW jq jX, .slice jo jm jp, .slice none 0 0, .slice i5 jl i6, .int .i64 (0 : Int)] 29 (0, 0)), t2 (Fl.int .i64) 26 3 dt dC du gX r38, .blk B2 (.cells #[.int .i64 (0 : Int), .bool false, .slice none 0 0, .slice none 0 0, .slice none 0 0, .slice none 0 0, .slice none 0 0, .slice none 0 0, .int .i64 (0 : Int)] 29 (0, 0))] ++ A549) Nr [.int .i64 (k2_367 : Int)] [(k2_367 : Int)] := (Els.cons rfl rfl (Els.nil _ _ _) (by simp [mx]))
  have yP := gainCh (w := Nr) (E := [.row 39 2 i5 jl i6 rR, .row 3 1 jo jm jp pW, .row 3 1 E4 (jq + 1) E5 HA, .row 26 1 Cc (i8 + 1) Cd Ex, .blk b49 (.cells #[.int .i64 ((ix a0 (0 : Int)).length : Int), .bool true, .slice dt dC du, .slice j8 i8 j9, .slice jW jq jX, .slice jo jm jp, .slice none 0 0, .slice i5 jl i6, .int .i64 (0 : Int)] 29 (0, 0)), t2 (Fl.int .i64) 26 3 dt dC du gX r38, .blk B2 (.cells #[.int .i64 (0 : Int), .bool false, .slice none 0 0, .slice none 0 0, .slice none 0 0, .slice none 0 0, .slice none 0 0, .slice none 0 0, .int .i64 (0 : Int)] 29 (0, 0))]) (e := .row 3 1 (some ⟨Ns, 0, none⟩) 1 1 [.int .i64 (k2_367 : Int)]) Ko rfl
  replace hB := (hB.trans rI.fr).trans (x5.same.fr _)
  replace hB := Fr.gain (e := .row 3 1 (some ⟨Ns, 0, none⟩) 1 1 [.int .i64 (k2_367 : Int)]) hB (Nat.le_trans hw464 hnb555) rfl
  replace hO := Owns.gain hO Ko Fn rfl hh556 hd554
  refine GoQA.loudI rfl rfl ?_
  intro ab9 A560 xl
  replace hO := xl.own hO
  replace dy := (dy.ch yP).ch (xl.ch _)
  have hobt := freeze 0 hO rfl dy
  obtain ⟨hO1, nY, jT, HB⟩ := hobt
  dsimp only [eS, eZ] at hO1 nY jT
  replace hB := (hB.trans (xl.same.fr _)).trans (Owns.dropFr _ _ 0)
  dsimp only [eS, eZ] at hB
  replace hO := hO1; clear hO1
  obtain ⟨JD, H⟩ := H
  have Z29 := ((((Z28.trans rI.ch).trans (x5.ch _)).trans yP).trans (xl.ch _)).trans nY
  replace fx := fx.ch Z29
  have hobt := oapp Try.underlying26 ti3 rfl 1 hO rfl fx jT HB JD (by decide)
  obtain ⟨VU, Eg, Eh, HC, iG, kP, F9⟩ := hobt
  dsimp only [sS, sZ] at iG kP
  refine GoAt.step (F9 (by exact rfl) (by exact rfl)) (fun _ => (CSv.cons (cs_eq (blkCell 4 hO rfl rfl) (blkCell 4 iG.own rfl rfl)) (CSv.cons (cs_eq (blkCell 4 hO rfl rfl) (blkCell 4 iG.own rfl rfl)) (CSv.cons (cs_eq (blkCell 4 hO rfl rfl) (blkCell 4 iG.own rfl rfl)) (CSv.nil _ _))))) (Stp.kp hO iG) rfl ?_
  replace hO := iG.own
  refine GoQA.lastI rfl rfl ?_
  intro VV A575 xm
  replace hO := xm.own hO
  have hobt := oblkSt2 (v := .slice Cc (i8 + 1) Cd) (i := 3) (cs' := #[.int .i64 ((ix a0 (0 : Int)).length : Int), .bool true, .slice dt dC du, .slice Cc (i8 + 1) Cd, .slice jW jq jX, .slice jo jm jp, .slice none 0 0, .slice i5 jl i6, .int .i64 (0 : Int)]) 4 hO rfl rfl rfl rfl
  obtain ⟨VW, sC, Nt⟩ := hobt
  dsimp only [sS, sZ] at sC
  refine GoAt.step (Nt Try.underlying22 rfl ti22 (by exact rfl) (by exact rfl)) (fun h => nomatch h) (Stp.kp hO sC) rfl ?_
  replace hO := sC.own
  refine GoQA.pure rfl (op_fieldAddr Try.underlying29 rfl ti26 rfl (by decide)) rfl rfl ?_
  refine GoQA.lastI rfl rfl ?_
  intro aca A581 xn
  replace hO := xn.own hO
  have hobt := oblkSt2 (v := .slice E4 (jq + 1) E5) (i := 4) (cs' := #[.int .i64 ((ix a0 (0 : Int)).length : Int), .bool true, .slice dt dC du, .slice Cc (i8 + 1) Cd, .slice E4 (jq + 1) E5, .slice jo jm jp, .slice none 0 0, .slice i5 jl i6, .int .i64 (0 : Int)]) 4 hO rfl rfl rfl rfl
  obtain ⟨acb, sD, Nu⟩ := hobt
  dsimp only [sS, sZ] at sD
  refine GoAt.step (Nu Try.underlying26 rfl ti26 (by exact rfl) (by exact rfl)) (fun h => nomatch h) (Stp.kp hO sD) rfl ?_
  replace hO := sD.own
  refine GoQA.pure rfl (op_fieldAddr Try.underlying29 rfl ti26 rfl (by decide)) rfl rfl ?_
  refine GoQA.lastI rfl rfl ?_
  intro acd A587 xo
  replace hO := xo.own hO
  have hobt := oblkSt2 (v := .slice Eg (jm + 1) Eh) (i := 5) (cs' := #[.int .i64 ((ix a0 (0 : Int)).length : Int), .bool true, .slice dt dC du, .slice Cc (i8 + 1) Cd, .slice E4 (jq + 1) E5, .slice Eg (jm + 1) Eh, .slice none 0 0, .slice i5 jl i6, .int .i64 (0 : Int)]) 4 hO rfl rfl rfl rfl
  obtain ⟨ace, sE, Nv⟩ := hobt
  dsimp only [sS, sZ] at sE
  refine GoAt.step (Nv Try.underlying26 rfl ti26 (by exact rfl) (by exact rfl)) (fun h => nomatch h) (Stp.kp hO sE) rfl ?_
  replace hO := sE.own
  refine GoQA.nil ?_
  intro acf A593 xp x6
  replace hO := xp.own hO
  replace hO := hO.permA x6
  refine Go1.inBlock ?_
  refine Go1.cut [(4, .pointer (some ⟨B2, 0, none⟩)), (6, .pointer (some ⟨b49, 0, none⟩)), (7, .int .i64 (0 : Int)), (42, .slice nr a0.length ns), (43, .int .i64 (a0.length : Int)), (44, .int .i64 (k2_367 : Int))] ⟨rfl, rfl, rfl, rfl, rfl, rfl, trivial⟩ ?_
  intro σ _
  refine zr ?_
  have Z30 := ((((((((Z29.trans iG.ch).trans (xm.ch _)).trans sC.ch).trans (xn.ch _)).trans sD.ch).trans (xo.ch _)).trans sE.ch).trans (xp.ch _)).trans (permCh x6 _)
  replace ba := ba.ch Z30
  refine zo (op_add rfl rfl (wrap_i64 (natbd E3 ba.bd))) (zm rfl (zn ?_))
  replace hB := (((((((hB.trans iG.fr).trans (xm.same.fr _)).trans sC.fr).trans (xn.same.fr _)).trans sD.fr).trans (xo.same.fr _)).trans sE.fr).trans (xp.same.fr _)
  have Z31 := (((((((xm.ch _).trans sC.ch).trans (xn.ch _)).trans sD.ch).trans (xo.ch _)).trans sE.ch).trans (xp.ch _)).trans (permCh x6 _)
  replace kP := kP.ch Z31
  have Z32 := ((((((((((((x5.ch _).trans yP).trans (xl.ch _)).trans nY).trans iG.ch).trans (xm.ch _)).trans sC.ch).trans (xn.ch _)).trans sD.ch).trans (xo.ch _)).trans sE.ch).trans (xp.ch _)).trans (permCh x6 _)
  replace la := la.ch Z32
  have Z33 := (((((((((((((((((yO.ch _).trans zW).trans (x4.ch _)).trans zX).trans rI.ch).trans (x5.ch _)).trans yP).trans (xl.ch _)).trans nY).trans iG.ch).trans (xm.ch _)).trans sC.ch).trans (xn.ch _)).trans sD.ch).trans (xo.ch _)).trans sE.ch).trans (xp.ch _)).trans (permCh x6 _)
  replace iD := iD.ch Z33
  replace d4 := d4.ch Z30
  exact hX2 _ H _ _ ⟨jl, i5, i6, rR, jm + 1, Eg, Eh, HC, jq + 1, E4, E5, HA, i8 + 1, Cc, Cd, Ex, ⟨rfl, rfl, rfl, rfl, rfl, rfl, trivial⟩, hO, d4, kP, la, iD, ba, hB⟩
 replace H := ifn E3 H
 refine zo (fun w => opB (op_lss rfl rfl w) (decide_eq_false E3)) (zn (zq (zf rfl rfl ?_)))
 refine Go1.exit rfl ?_
 refine zq (zr (zs (oblkAgg (vs := [.int .i64 ((ix a0 (0 : Int)).length : Int), .bool true, .slice dt dC du, .slice j8 i8 j9, .slice jW jq jX, .slice jo jm jp, .slice none 0 0, .slice i5 jl i6, .int .i64 (0 : Int)]) (i := 0) 4 hO rfl rfl Try.underlying29 rfl ti29 rfl) ?_))
 have hobt := oblkStAgg (us := [.int .i64 ((ix a0 (0 : Int)).length : Int), .bool true, .slice dt dC du, .slice j8 i8 j9, .slice jW jq jX, .slice jo jm jp, .slice none 0 0, .slice i5 jl i6, .int .i64 (0 : Int)]) (o := 0) (cs' := #[.int .i64 ((ix a0 (0 : Int)).length : Int), .bool true, .slice dt dC du, .slice j8 i8 j9, .slice jW jq jX, .slice jo jm jp, .slice none 0 0, .slice i5 jl i6, .int .i64 (0 : Int)]) 6 hO rfl rfl (Nat.le_of_ble_eq_true rfl) rfl
 obtain ⟨VX, zF, Nw⟩ := hobt
 dsimp only [sS, sZ] at zF
 refine zg (Nw ti29 (by exact rfl) (by exact rfl) rfl) ?_
 replace hO := zF.own
 refine za rfl (zn ?_)
 have hobt := t2freezeA 5 hO rfl
 obtain ⟨hO1, DA, yQ, RK⟩ := hobt
 dsimp only [eS, eZ] at hO1 DA yQ
 replace hB := (hB.trans zF.fr).trans (Owns.dropFr _ _ 5)
 dsimp only [eS, eZ] at hB
 replace hO := hO1; clear hO1
 replace gQ := (gQ.ch zF.ch).ch DA
 have hobt := freeze 3 hO rfl gQ
 obtain ⟨hO1, DB, AN, RL⟩ := hobt
 dsimp only [eS, eZ] at hO1 DB AN
 replace hB := hB.trans (Owns.dropFr _ _ 3)
 dsimp only [eS, eZ] at hB
 replace hO := hO1; clear hO1
 have Z34 := (zF.ch.trans DA).trans DB
 replace fV := fV.ch Z34
 have hobt := freeze 2 hO rfl fV
 obtain ⟨hO1, DD, DE, RM⟩ := hobt
 dsimp only [eS, eZ] at hO1 DD DE
 replace hB := hB.trans (Owns.dropFr _ _ 2)
 dsimp only [eS, eZ] at hB
 replace hO := hO1; clear hO1
 replace fx := (fx.ch Z34).ch DD
 have hobt := freeze 1 hO rfl fx
 obtain ⟨hO1, DF, Fp, RN⟩ := hobt
 dsimp only [eS, eZ] at hO1 DF Fp
 replace hB := hB.trans (Owns.dropFr _ _ 1)
 dsimp only [eS, eZ] at hB
 replace hO := hO1; clear hO1
 replace d4 := ((d4.ch Z34).ch DD).ch DF
 have hobt := freeze 0 hO rfl d4
 obtain ⟨hO1, DG, Kq, RO⟩ := hobt
 dsimp only [eS, eZ] at hO1 DG Kq
 replace hB := hB.trans (Owns.dropFr _ _ 0)
 dsimp only [eS, eZ] at hB
 replace hO := hO1; clear hO1
 refine Go1.retC2 Try.func22 rfl rfl (run_loadBlk (vs := [.int .i64 ((ix a0 (0 : Int)).length : Int), .bool true, .slice dt dC du, .slice j8 i8 j9, .slice jW jq jX, .slice jo jm jp, .slice none 0 0, .slice i5 jl i6, .int .i64 (0 : Int)]) 1 hO rfl rfl Try.underlying29 rfl ti29) ?_
 replace Fp := Fp.ch DG
 replace DE := (DE.ch DF).ch DG
 have Z35 := (DD.trans DF).trans DG
 replace AN := AN.ch Z35
 have Z36 := ((DB.trans DD).trans DF).trans DG
 replace yQ := yQ.ch Z36
 exact ⟨(⟨((ix a0 (0 : Int)).length : Int), true, r38, d_386, d_380, d_374, ([] : List (List Int)), d_368, (0 : Int)⟩ : Enum), (0 : Int), dt, du, j8, j9, jW, jX, jo, jp, none, 0, i5, i6, (congrArg (fun l => Value.tuple (List.toArray l)) (cons_eq (congrArg (fun l => Value.agg (List.toArray l)) (cons_eq rfl (cons_eq rfl (cons_eq (congrArg (fun nn => Value.slice dt nn du) RK) (cons_eq (congrArg (fun nn => Value.slice j8 nn j9) RL) (cons_eq (congrArg (fun nn => Value.slice jW nn jX) RM) (cons_eq (congrArg (fun nn => Value.slice jo nn jp) RN) (cons_eq rfl (cons_eq (congrArg (fun nn => Value.slice i5 nn i6) RO) (cons_eq rfl rfl)))))))))) (cons_eq rfl rfl))), hB.same, (yQ.ch (Ch.weak _ _ _)), (AN.ch (Ch.weak _ _ _)), (DE.ch (Ch.weak _ _ _)), (Fp.ch (Ch.weak _ _ _)), (ISl.null _ _ _), (Kq.ch (Ch.weak _ _ _)), H⟩
theorem body43 : Body Try.prog 43 := ⟨Try.f43, Try.func43, rfl, by kernel_rfl⟩
theorem walk_ref11_Compose {A : List Nat} {w0 : World} {p_f : Option Addr} {c_f : Nat} {p_g : Option Addr} {c_g : Nat} {f : List Int} {g : List Int} (hA : ∀ b ∈ A, b < w0.heap.size) (h_f : ISl (Rp.int .i64) A w0 p_f c_f f) (h_g : ISl (Rp.int .i64) A w0 p_g c_g g) {K : List Int → Prop} (H : ref11_Compose f g K) :
    CallsV Try.prog 43 #[.slice p_f f.length c_f, .slice p_g g.length c_g] w0 (fun v w' => ∃ (r0 : List Int), ∃ (sL : Option Addr), ∃ (sM : Nat), v = .slice sL r0.length sM ∧ Same w0 w' ∧ ISl (Rp.int .i64) A w' sL sM r0 ∧ K r0) := by
 refine CallsV.of (l := [.slice p_f f.length c_f, .slice p_g g.length c_g]) Try.func43 rfl Try.ntmps43 rfl ?_
 have hO := Owns.start hA
 have hB := Fr.refl (bl []) w0
 unfold ref11_Compose at H
 refine zq (zr (za rfl (zn (zq (zr ?_)))))
 refine zm rfl (zo (op_len Try.underlying26 rfl) ?_)
 replace h_f := h_f.ch (Ch.start A w0)
 replace H := H h_f.bd
 obtain ⟨h8, H⟩ := H
 obtain ⟨h9, H⟩ := H
 have hobt := omake (n := (f.length : Int)) (r := Rp.int .i64) (d := (0 : Int)) Try.underlying26 ti3 (fun _ _ => rfl) rfl hO h8 h9 (by decide)
 obtain ⟨w1, p2, vs3, m8, hE5, hs6, Ab⟩ := hobt
 refine zg (Ab rfl rfl) ?_
 replace hO := m8.own
 refine za rfl (zn (zq (zq (zr (zm rfl ?_)))))
 refine zo (op_len Try.underlying26 rfl) (zm rfl (zn (zb ?_)))
 replace h_f := h_f.ch m8.ch
 replace hB := hB.trans m8.fr
 replace h_g := (h_g.ch (Ch.start A w0)).ch m8.ch
 refine Go1.loopW (S := Nat × List Int) (fun s σ w => match s with | (k1_12, out1_13) => ∃ (lb : List Value), agrees σ [(1, .slice p_g g.length c_g), (5, .slice p2 f.length f.length), (11, .slice p_f f.length c_f), (12, .int .i64 (f.length : Int)), (13, .int .i64 (k1_12 : Int))] ∧ (fun Z0 => Owns w0.heap.size w Z0 A ∧ Els (Rp.int .i64) (bl Z0 ++ A) w lb out1_13 ∧ ISl (Rp.int .i64) (bl Z0 ++ A) w p_f c_f f ∧ ISl (Rp.int .i64) (bl Z0 ++ A) w p_g c_g g ∧ Fr (bl []) w0 (bl Z0) w) [.row 3 1 p2 f.length f.length lb]) H ⟨vs3, ⟨rfl, rfl, rfl, rfl, rfl, trivial⟩, hO, hE5, h_f, h_g, hB⟩ ?_
 intro X1
 refine prE fun k1_12 => fun out1_13 => ?_
 intro H hX1 σ w11
 refine exE fun lb => andE fun hag => andE fun hO => andE fun cG => andE fun h_f => andE fun h_g => fun hB => ?_
 dsimp only at H
 refine Go1.keep [(1, .slice p_g g.length c_g), (5, .slice p2 f.length f.length), (11, .slice p_f f.length c_f), (12, .int .i64 (f.length : Int)), (13, .int .i64 (k1_12 : Int))] hag ?_
 refine zq (zr ?_)
 by_cases h16 : (k1_12 : Int) < (f.length : Int)
 ·replace H := ifp h16 H
  refine zo (fun w => opB (op_lss rfl rfl w) (decide_eq_true h16)) (zn (zq (zt rfl rfl (zk (zq ?_)))))
  refine zb (zq (zr (zm rfl ?_)))
  obtain ⟨h17, H⟩ := H
  obtain ⟨h18, H⟩ := H
  refine zo (op_index Try.underlying26 ti3 rfl rfl h17 h18 (h_f.some_ h17 h18)) (zs (ldInt h_f h17 h18 Try.underlying3 rfl rfl) (za rfl (za rfl (zn (zr ?_)))))
  refine zm rfl (zm rfl (zm rfl (zm rfl ?_)))
  obtain ⟨h19, H⟩ := H
  obtain ⟨h20, H⟩ := H
  refine zo (op_index Try.underlying26 ti3 rfl rfl h19 h20 (h_g.some_ h19 h20)) (zs (ldInt h_g h19 h20 Try.underlying3 rfl rfl) ?_)
  obtain ⟨h21, H⟩ := H
  obtain ⟨h22, H⟩ := H
  refine zo (op_index Try.underlying26 ti3 rfl rfl h21 (ltn (cG.neq hO 0 rfl) h22) (cG.psome hO 0 rfl h21 h22)) ?_
  have hobt := ost (r := Rp.int .i64) rfl 0 hO rfl cG h21 h22 (v := .int .i64 (ix g (ix f (k1_12 : Int)))) (u := (ix g (ix f (k1_12 : Int)))) rfl rfl
  obtain ⟨w23, VY, sT, V0, RQ⟩ := hobt
  refine zg (RQ Try.underlying3 rfl ti3 (by exact rfl) (by exact rfl)) ?_
  replace hO := sT.own
  refine zn ?_
  refine Go1.inBlock ?_
  refine zr ?_
  replace h_f := h_f.ch sT.ch
  refine zo (op_add rfl rfl (wrap_i64 (natbd h16 h_f.bd))) (zm rfl (zn ?_))
  replace h_g := h_g.ch sT.ch
  replace hB := hB.trans sT.fr
  exact hX1 _ H _ _ ⟨VY, ⟨rfl, rfl, rfl, rfl, rfl, trivial⟩, hO, V0, h_f, h_g, hB⟩
 replace H := ifn h16 H
 refine zo (fun w => opB (op_lss rfl rfl w) (decide_eq_false h16)) (zn (zq (zf rfl rfl ?_)))
 refine Go1.exit rfl ?_
 refine zq (zr (zm rfl (za rfl (zn ?_))))
 have hobt := freeze 0 hO rfl cG
 obtain ⟨hO1, F5, Af, Jt⟩ := hobt
 replace hO := hO1; clear hO1
 refine Go1.ret1 Try.func43 rfl ?_
 replace hB := hB.trans (Owns.dropFr _ _ 0)
 exact ⟨out1_13, p2, f.length, (congrArg (fun nn => Value.slice p2 nn f.length) Jt), hB.same, (Af.ch (Ch.weak _ _ _)), H⟩
end Sg
