/- The walks: each call keeps to its plain transformer. Printed by walkgen.py. -/
import Derived.Test.YtjegjjdfgefkoaaTi
import Derived.Test.YtjegjjdfgefkoaaWEnumerateBuilds
import Derived.Test.YtjegjjdfgefkoaaWEnumerateBuildsc
import Derived.Test.YtjegjjdfgefkoaaAl
namespace Sg
open Go Go.RowKit Go.Proofs
set_option linter.unusedVariables false
set_option linter.unusedSimpArgs false
set_option maxRecDepth 100000
set_option maxHeartbeats 4000000
theorem body22 : Body Try.prog 22 := ⟨Try.f22, Try.func22, rfl, by kernel_rfl⟩
theorem walk_ref12_Start {A : List Nat} {w0 : World} {si : Option Addr} {sj : Nat} {a0 : List (List Int)} {a1 : Bool} (hA : ∀ b ∈ A, b < w0.heap.size) (aL : ISl (Rp.sl (Rp.int .i64)) A w0 si sj a0) {K : Enum → Int → Prop} (H : ref12_Start a0 a1 K) :
    CallsV Try.prog 22 #[.slice si a0.length sj, .bool a1] w0 (fun v w' => ∃ (r0 : Enum), ∃ (r1 : Int), ∃ (rH : Option Addr), ∃ (rI : Nat), ∃ (pQ : Option Addr), ∃ (pS : Nat), ∃ (mH : Option Addr), ∃ (mI : Nat), ∃ (rJ : Option Addr), ∃ (rK : Nat), ∃ (pT : Option Addr), ∃ (pU : Nat), ∃ (pV : Option Addr), ∃ (pW : Nat), v = .tuple #[.agg #[.int .i64 r0.Points, .bool r0.Monoid, .slice rH r0.Gens.length rI, .slice pQ r0.Elems.length pS, .slice mH r0.Prefix.length mI, .slice rJ r0.Last.length rK, .slice pT r0.Right.length pU, .slice pV r0.Rules.length pW, .int .i64 r0.Done], .int .i64 r1] ∧ Same w0 w' ∧ ISl (Rp.sl (Rp.int .i64)) A w' rH rI r0.Gens ∧ ISl (Rp.sl (Rp.int .i64)) A w' pQ pS r0.Elems ∧ ISl (Rp.int .i64) A w' mH mI r0.Prefix ∧ ISl (Rp.int .i64) A w' rJ rK r0.Last ∧ ISl (Rp.sl (Rp.int .i64)) A w' pT pU r0.Right ∧ ISl (rpRule) A w' pV pW r0.Rules ∧ K r0 r1) := by
 refine CallsV.of (l := [.slice si a0.length sj, .bool a1]) Try.func22 rfl Try.ntmps22 rfl ?_
 have hO := Owns.start hA
 have hB := Fr.refl (bl []) w0
 unfold ref12_Start at H
 refine zq (zr ?_)
 have hobt := oalloc (t := 29) (cs := #[.int .i64 (0 : Int), .bool false, .slice none 0 0, .slice none 0 0, .slice none 0 0, .slice none 0 0, .slice none 0 0, .slice none 0 0, .int .i64 (0 : Int)]) ti29 hO rfl
 obtain ⟨w1, B2, d5, hs4, uu⟩ := hobt
 refine GoR.op uu rfl rfl ?_
 replace hO := d5.own
 refine za rfl (zn (zq (zq (zr (zm rfl ?_)))))
 refine zo (op_len Try.underlying22 rfl) ?_
 replace aL := (aL.ch (Ch.start A w0)).ch d5.ch
 replace H := H aL.bd
 by_cases h7 : (a0.length : Int) < (1 : Int)
 ·replace H := ifp h7 H
  refine zo (fun w => opB (op_lss rfl rfl w) (decide_eq_true h7)) (zm rfl (zp (zp (zp (zo (op_pickT rfl rfl rfl) ?_)))))
  refine zn (zt rfl rfl (zq (zr (zo (op_build Try.underlying29 ti29 (pl := [(0, 1), (1, 1), (2, 1), (3, 1), (4, 1), (5, 1), (6, 1), (7, 1), (8, 1)]) (vs := []) (cs := #[.int .i64 (0 : Int), .bool false, .slice none 0 0, .slice none 0 0, .slice none 0 0, .slice none 0 0, .slice none 0 0, .slice none 0 0, .int .i64 (0 : Int)]) (by kernel_rfl) rfl (by kernel_rfl)) ?_))))
  have hobt := oblkStAgg (us := [.int .i64 (0 : Int), .bool false, .slice none 0 0, .slice none 0 0, .slice none 0 0, .slice none 0 0, .slice none 0 0, .slice none 0 0, .int .i64 (0 : Int)]) (o := 0) (cs' := #[.int .i64 (0 : Int), .bool false, .slice none 0 0, .slice none 0 0, .slice none 0 0, .slice none 0 0, .slice none 0 0, .slice none 0 0, .int .i64 (0 : Int)]) 0 hO rfl rfl (Nat.le_of_ble_eq_true rfl) rfl
  obtain ⟨w8, iE, TF⟩ := hobt
  refine zg (TF ti29 (by exact rfl) (by exact rfl) rfl) ?_
  replace hO := iE.own
  refine za rfl (zn ?_)
  refine Go1.retC2 Try.func22 rfl rfl (run_loadBlk (vs := [.int .i64 (0 : Int), .bool false, .slice none 0 0, .slice none 0 0, .slice none 0 0, .slice none 0 0, .slice none 0 0, .slice none 0 0, .int .i64 (0 : Int)]) 0 hO rfl rfl Try.underlying29 rfl ti29) ?_
  replace hB := (hB.trans d5.fr).trans iE.fr
  exact ⟨(⟨(0 : Int), false, ([] : List (List Int)), ([] : List (List Int)), ([] : List Int), ([] : List Int), ([] : List (List Int)), ([] : List Rule), (0 : Int)⟩ : Enum), (1 : Int), none, 0, none, 0, none, 0, none, 0, none, 0, none, 0, rfl, hB.same, (ISl.null _ _ _), (ISl.null _ _ _), (ISl.null _ _ _), (ISl.null _ _ _), (ISl.null _ _ _), (ISl.null _ _ _), H⟩
 replace H := ifn h7 H
 refine zo (fun w => opB (op_lss rfl rfl w) (decide_eq_false h7)) (zm rfl (zm rfl (zo (op_len Try.underlying22 rfl) ?_)))
 by_cases h11 : (6 : Int) < (a0.length : Int)
 ·replace H := ifp h11 H
  refine zo (fun w => opB (op_gtr rfl rfl w) (decide_eq_true h11)) (zo (op_pickF rfl rfl rfl) (zn (zt rfl rfl (zq (zr ?_)))))
  refine zo (op_build Try.underlying29 ti29 (pl := [(0, 1), (1, 1), (2, 1), (3, 1), (4, 1), (5, 1), (6, 1), (7, 1), (8, 1)]) (vs := []) (cs := #[.int .i64 (0 : Int), .bool false, .slice none 0 0, .slice none 0 0, .slice none 0 0, .slice none 0 0, .slice none 0 0, .slice none 0 0, .int .i64 (0 : Int)]) (by kernel_rfl) rfl (by kernel_rfl)) ?_
  have hobt := oblkStAgg (us := [.int .i64 (0 : Int), .bool false, .slice none 0 0, .slice none 0 0, .slice none 0 0, .slice none 0 0, .slice none 0 0, .slice none 0 0, .int .i64 (0 : Int)]) (o := 0) (cs' := #[.int .i64 (0 : Int), .bool false, .slice none 0 0, .slice none 0 0, .slice none 0 0, .slice none 0 0, .slice none 0 0, .slice none 0 0, .int .i64 (0 : Int)]) 0 hO rfl rfl (Nat.le_of_ble_eq_true rfl) rfl
  obtain ⟨w12, BT, TG⟩ := hobt
  refine zg (TG ti29 (by exact rfl) (by exact rfl) rfl) ?_
  replace hO := BT.own
  refine za rfl (zn ?_)
  refine Go1.retC2 Try.func22 rfl rfl (run_loadBlk (vs := [.int .i64 (0 : Int), .bool false, .slice none 0 0, .slice none 0 0, .slice none 0 0, .slice none 0 0, .slice none 0 0, .slice none 0 0, .int .i64 (0 : Int)]) 0 hO rfl rfl Try.underlying29 rfl ti29) ?_
  replace hB := (hB.trans d5.fr).trans BT.fr
  exact ⟨(⟨(0 : Int), false, ([] : List (List Int)), ([] : List (List Int)), ([] : List Int), ([] : List Int), ([] : List (List Int)), ([] : List Rule), (0 : Int)⟩ : Enum), (1 : Int), none, 0, none, 0, none, 0, none, 0, none, 0, none, 0, rfl, hB.same, (ISl.null _ _ _), (ISl.null _ _ _), (ISl.null _ _ _), (ISl.null _ _ _), (ISl.null _ _ _), (ISl.null _ _ _), H⟩
 replace H := ifn h11 H
 refine zo (fun w => opB (op_gtr rfl rfl w) (decide_eq_false h11)) (zo (op_pickF rfl rfl rfl) (zn (zf rfl rfl (zk (zq ?_)))))
 refine zq ?_
 refine Go1.cut [(0, .slice si a0.length sj), (1, .bool a1), (4, .pointer (some ⟨B2, 0, none⟩))] ⟨rfl, rfl, rfl, trivial⟩ ?_
 intro σ _
 refine zr (zm rfl ?_)
 refine GoR.call (op_call body14 rfl (walk_ref11_MayGens hO.lt aL H)) rfl rfl ?_
 rintro v19 w16 ⟨r15, rfl, aaK, H⟩
 have yA := Stp.same hO aaK
 replace hO := yA.own
 cases r15
 ·replace H := ifn Bool.false_ne_true H
  refine zo (op_not rfl) (zn (zt rfl rfl (zq (zr (zo (op_build Try.underlying29 ti29 (pl := [(0, 1), (1, 1), (2, 1), (3, 1), (4, 1), (5, 1), (6, 1), (7, 1), (8, 1)]) (vs := []) (cs := #[.int .i64 (0 : Int), .bool false, .slice none 0 0, .slice none 0 0, .slice none 0 0, .slice none 0 0, .slice none 0 0, .slice none 0 0, .int .i64 (0 : Int)]) (by kernel_rfl) rfl (by kernel_rfl)) ?_)))))
  have hobt := oblkStAgg (us := [.int .i64 (0 : Int), .bool false, .slice none 0 0, .slice none 0 0, .slice none 0 0, .slice none 0 0, .slice none 0 0, .slice none 0 0, .int .i64 (0 : Int)]) (o := 0) (cs' := #[.int .i64 (0 : Int), .bool false, .slice none 0 0, .slice none 0 0, .slice none 0 0, .slice none 0 0, .slice none 0 0, .slice none 0 0, .int .i64 (0 : Int)]) 0 hO rfl rfl (Nat.le_of_ble_eq_true rfl) rfl
  obtain ⟨w21, fq, C9⟩ := hobt
  refine zg (C9 ti29 (by exact rfl) (by exact rfl) rfl) ?_
  replace hO := fq.own
  refine za rfl (zn ?_)
  refine Go1.retC2 Try.func22 rfl rfl (run_loadBlk (vs := [.int .i64 (0 : Int), .bool false, .slice none 0 0, .slice none 0 0, .slice none 0 0, .slice none 0 0, .slice none 0 0, .slice none 0 0, .int .i64 (0 : Int)]) 0 hO rfl rfl Try.underlying29 rfl ti29) ?_
  replace hB := ((hB.trans d5.fr).trans yA.fr).trans fq.fr
  exact ⟨(⟨(0 : Int), false, ([] : List (List Int)), ([] : List (List Int)), ([] : List Int), ([] : List Int), ([] : List (List Int)), ([] : List Rule), (0 : Int)⟩ : Enum), (4 : Int), none, 0, none, 0, none, 0, none, 0, none, 0, none, 0, rfl, hB.same, (ISl.null _ _ _), (ISl.null _ _ _), (ISl.null _ _ _), (ISl.null _ _ _), (ISl.null _ _ _), (ISl.null _ _ _), H⟩
 replace H := ifp rfl H
 refine zo (op_not rfl) (zn (zf rfl rfl (zk (zq ?_))))
 refine Go1.drawA Same.tr A 1 [(0, .pure), (1, .pure), (2, .stable), (3, .pure), (4, .pure), (5, .pure), (6, .loud), (7, .pure), (8, .alloc), (9, .last)] mixed (by kernel_rfl) trivial hO.bd ?_
 intro w24 Jk
 have pt := Stp.same hO Jk
 replace hO := pt.own
 have Ls := hO.le
 replace hB := ((hB.trans d5.fr).trans yA.fr).trans pt.fr
 have hw27 := hB.ch.size
 refine GoQA.pure rfl (op_move rfl) rfl rfl ?_
 obtain ⟨h29, H⟩ := H
 obtain ⟨h30, H⟩ := H
 replace aL := (aL.ch yA.ch).ch pt.ch
 refine GoQA.pure rfl (op_index Try.underlying22 ti26 rfl rfl h29 h30 (aL.some_ h29 h30)) rfl rfl ?_
 have hobt := ldSl aL h29 h30
 obtain ⟨p31, c32, jR, aaL⟩ := hobt
 refine GoQA.stable rfl (aaL Try.underlying26 rfl rfl) rfl rfl ?_
 refine GoQA.pure rfl (op_len Try.underlying26 rfl) rfl rfl ?_
 replace H := H jR.bd
 refine GoQA.pure rfl (op_move rfl) rfl rfl ?_
 refine GoQA.pure rfl (op_move rfl) rfl rfl ?_
 refine GoQA.loudI rfl rfl ?_
 intro w35 A36 Jl
 replace hO := Jl.own hO
 replace aL := aL.ch (Jl.ch _)
 refine GoAt.call (op_call body24 rfl (walk_ref03_Copy hO.lt aL H)) (fun v w hr => ⟨fun _ => (by obtain ⟨_, _, _, _, _, _, hs, _, _⟩ := hr; exact hs), Same.kp hO (by obtain ⟨_, _, _, _, _, _, hs, _, _⟩ := hr; exact hs)⟩) rfl ?_
 rintro v43 w40 ⟨r38, dq, dh, di, gM, rfl, OQ, hN42, H⟩
 have Ba := Stp.more hO OQ hN42
 replace hO := Ba.own
 refine GoQA.pure rfl (op_build Try.underlying29 ti29 (pl := [(0, 1), (1, 1), (2, 1), (3, 1), (4, 1), (5, 1), (6, 1), (7, 1), (8, 1)]) (vs := [(0, .int .i64 ((ix a0 (0 : Int)).length : Int)), (1, .bool a1), (2, .slice dh dq di)]) (cs := #[.int .i64 ((ix a0 (0 : Int)).length : Int), .bool a1, .slice dh dq di, .slice none 0 0, .slice none 0 0, .slice none 0 0, .slice none 0 0, .slice none 0 0, .int .i64 (0 : Int)]) (by kernel_rfl) rfl (by kernel_rfl)) rfl rfl ?_
 refine GoQA.alloc rfl rfl (alAlloc (cs := #[.int .i64 (0 : Int), .bool false, .slice none 0 0, .slice none 0 0, .slice none 0 0, .slice none 0 0, .slice none 0 0, .slice none 0 0, .int .i64 (0 : Int)]) ti29 rfl) ?_
 intro w47 A48 b49 A50 Jm OR hd53 hnb54 hh55
 replace hO := Jm.own hO
 have OS := gainCh (w := w47) (E := [t2 (Fl.int .i64) 26 3 dh dq di gM r38, .blk B2 (.cells #[.int .i64 (0 : Int), .bool false, .slice none 0 0, .slice none 0 0, .slice none 0 0, .slice none 0 0, .slice none 0 0, .slice none 0 0, .int .i64 (0 : Int)] 29 (0, 0))]) (e := .blk b49 (.cells #[.int .i64 (0 : Int), .bool false, .slice none 0 0, .slice none 0 0, .slice none 0 0, .slice none 0 0, .slice none 0 0, .slice none 0 0, .int .i64 (0 : Int)] 29 (0, 0))) OR rfl
 replace hB := ((hB.trans (Jl.same.fr _)).trans Ba.fr).trans (Jm.same.fr _)
 replace hB := Fr.gain (e := .blk b49 (.cells #[.int .i64 (0 : Int), .bool false, .slice none 0 0, .slice none 0 0, .slice none 0 0, .slice none 0 0, .slice none 0 0, .slice none 0 0, .int .i64 (0 : Int)] 29 (0, 0))) hB (Nat.le_trans hw27 hnb54) rfl
 replace hO := Owns.gain hO OR Ls rfl hh55 hd53
 refine GoQA.lastI rfl rfl ?_
 intro w57 A58 Jo
 replace hO := Jo.own hO
 have hobt := oblkStAgg (us := [.int .i64 ((ix a0 (0 : Int)).length : Int), .bool a1, .slice dh dq di, .slice none 0 0, .slice none 0 0, .slice none 0 0, .slice none 0 0, .slice none 0 0, .int .i64 (0 : Int)]) (o := 0) (cs' := #[.int .i64 ((ix a0 (0 : Int)).length : Int), .bool a1, .slice dh dq di, .slice none 0 0, .slice none 0 0, .slice none 0 0, .slice none 0 0, .slice none 0 0, .int .i64 (0 : Int)]) 0 hO rfl rfl (Nat.le_of_ble_eq_true rfl) rfl
 obtain ⟨w60, jw, Jp⟩ := hobt
 refine GoAt.step (Jp ti29 (by exact rfl) (by exact rfl) rfl) (fun h => nomatch h) (Stp.kp hO jw) rfl ?_
 replace hO := jw.own
 refine GoQA.nil ?_
 intro w63 A64 Jq Lt
 replace hO := Jq.own hO
 replace hO := hO.permA Lt
 refine zq (zr (za rfl (zn (zq (zq ?_)))))
 refine Go1.cut [(0, .slice si a0.length sj), (1, .bool a1), (4, .pointer (some ⟨B2, 0, none⟩)), (6, .pointer (some ⟨b49, 0, none⟩)), (7, .int .i64 (-1 : Int))] ⟨rfl, rfl, rfl, rfl, rfl, trivial⟩ ?_
 intro σ _
 refine zr (zm rfl (zn ?_))
 cases a1
 ·replace H := ifn Bool.false_ne_true H
  refine zf rfl rfl (zk (zq (zq (zr (zm rfl ?_)))))
  refine zo (op_len Try.underlying22 rfl) (zm rfl (zn (zb ?_)))
  have mC := Stp.nil (e := 26) (r := 1) hO
  replace hO := mC.own
  have sI := Els.nil (Rp.sl (Rp.int .i64)) (bl (.row 26 1 none 0 0 [] :: [.blk b49 (.cells #[.int .i64 ((ix a0 (0 : Int)).length : Int), .bool false, .slice dh dq di, .slice none 0 0, .slice none 0 0, .slice none 0 0, .slice none 0 0, .slice none 0 0, .int .i64 (0 : Int)] 29 (0, 0)), t2 (Fl.int .i64) 26 3 dh dq di gM r38, .blk B2 (.cells #[.int .i64 (0 : Int), .bool false, .slice none 0 0, .slice none 0 0, .slice none 0 0, .slice none 0 0, .slice none 0 0, .slice none 0 0, .int .i64 (0 : Int)] 29 (0, 0))]) ++ A) w63
  have sb := Stp.nil (e := 3) (r := 1) hO
  replace hO := sb.own
  have HT := Els.nil (Rp.int .i64) (bl (.row 3 1 none 0 0 [] :: [.row 26 1 none 0 0 [], .blk b49 (.cells #[.int .i64 ((ix a0 (0 : Int)).length : Int), .bool false, .slice dh dq di, .slice none 0 0, .slice none 0 0, .slice none 0 0, .slice none 0 0, .slice none 0 0, .int .i64 (0 : Int)] 29 (0, 0)), t2 (Fl.int .i64) 26 3 dh dq di gM r38, .blk B2 (.cells #[.int .i64 (0 : Int), .bool false, .slice none 0 0, .slice none 0 0, .slice none 0 0, .slice none 0 0, .slice none 0 0, .slice none 0 0, .int .i64 (0 : Int)] 29 (0, 0))]) ++ A) w63
  have iC := Stp.nil (e := 3) (r := 1) hO
  replace hO := iC.own
  have u5 := Els.nil (Rp.int .i64) (bl (.row 3 1 none 0 0 [] :: [.row 3 1 none 0 0 [], .row 26 1 none 0 0 [], .blk b49 (.cells #[.int .i64 ((ix a0 (0 : Int)).length : Int), .bool false, .slice dh dq di, .slice none 0 0, .slice none 0 0, .slice none 0 0, .slice none 0 0, .slice none 0 0, .int .i64 (0 : Int)] 29 (0, 0)), t2 (Fl.int .i64) 26 3 dh dq di gM r38, .blk B2 (.cells #[.int .i64 (0 : Int), .bool false, .slice none 0 0, .slice none 0 0, .slice none 0 0, .slice none 0 0, .slice none 0 0, .slice none 0 0, .int .i64 (0 : Int)] 29 (0, 0))]) ++ A) w63
  have Dq := Stp.nil (e := 39) (r := 2) hO
  replace hO := Dq.own
  have aaM := Els.nil (rpRule) (bl (.row 39 2 none 0 0 [] :: [.row 3 1 none 0 0 [], .row 3 1 none 0 0 [], .row 26 1 none 0 0 [], .blk b49 (.cells #[.int .i64 ((ix a0 (0 : Int)).length : Int), .bool false, .slice dh dq di, .slice none 0 0, .slice none 0 0, .slice none 0 0, .slice none 0 0, .slice none 0 0, .int .i64 (0 : Int)] 29 (0, 0)), t2 (Fl.int .i64) 26 3 dh dq di gM r38, .blk B2 (.cells #[.int .i64 (0 : Int), .bool false, .slice none 0 0, .slice none 0 0, .slice none 0 0, .slice none 0 0, .slice none 0 0, .slice none 0 0, .int .i64 (0 : Int)] 29 (0, 0))]) ++ A) w63
  replace u5 := u5.ch Dq.ch
  replace HT := (HT.ch iC.ch).ch Dq.ch
  have Z1 := (sb.ch.trans iC.ch).trans Dq.ch
  replace sI := sI.ch Z1
  replace hB := ((((((hB.trans (Jo.same.fr _)).trans jw.fr).trans (Jq.same.fr _)).trans mC.fr).trans sb.fr).trans iC.fr).trans Dq.fr
  have Z2 := (((((((((Ba.ch.trans (Jm.ch _)).trans OS).trans (Jo.ch _)).trans jw.ch).trans (Jq.ch _)).trans (permCh Lt _)).trans mC.ch).trans sb.ch).trans iC.ch).trans Dq.ch
  replace aL := aL.ch Z2
  refine Go1.loopW (S := Nat × List Rule × List Int × List Int × List (List Int)) (fun s σ w => match s with | (k1_80, d_81, d_87, d_93, d_99) => ∃ (n86 : Nat), ∃ (p84 : Option Addr), ∃ (c85 : Nat), ∃ (ib : List Value), ∃ (n92 : Nat), ∃ (p90 : Option Addr), ∃ (c91 : Nat), ∃ (ic : List Value), ∃ (n98 : Nat), ∃ (p96 : Option Addr), ∃ (c97 : Nat), ∃ (x7 : List Value), ∃ (iW : Nat), ∃ (j3 : Option Addr), ∃ (j4 : Nat), ∃ (xa : List Value), agrees σ [(4, .pointer (some ⟨B2, 0, none⟩)), (6, .pointer (some ⟨b49, 0, none⟩)), (7, .int .i64 (-1 : Int)), (42, .slice si a0.length sj), (43, .int .i64 (a0.length : Int)), (44, .int .i64 (k1_80 : Int))] ∧ (fun Z0 => Owns w0.heap.size w Z0 A ∧ Els (rpRule) (bl Z0 ++ A) w ib d_81 ∧ Els (Rp.int .i64) (bl Z0 ++ A) w ic d_87 ∧ Els (Rp.int .i64) (bl Z0 ++ A) w x7 d_93 ∧ Els (Rp.sl (Rp.int .i64)) (bl Z0 ++ A) w xa d_99 ∧ ISl (Rp.sl (Rp.int .i64)) (bl Z0 ++ A) w si sj a0 ∧ Fr (bl []) w0 (bl Z0) w) [.row 39 2 p84 n86 c85 ib, .row 3 1 p90 n92 c91 ic, .row 3 1 p96 n98 c97 x7, .row 26 1 j3 iW j4 xa, .blk b49 (.cells #[.int .i64 ((ix a0 (0 : Int)).length : Int), .bool false, .slice dh dq di, .slice j3 iW j4, .slice p96 n98 c97, .slice p90 n92 c91, .slice none 0 0, .slice p84 n86 c85, .int .i64 (0 : Int)] 29 (0, 0)), t2 (Fl.int .i64) 26 3 dh dq di gM r38, .blk B2 (.cells #[.int .i64 (0 : Int), .bool false, .slice none 0 0, .slice none 0 0, .slice none 0 0, .slice none 0 0, .slice none 0 0, .slice none 0 0, .int .i64 (0 : Int)] 29 (0, 0))]) H ⟨0, none, 0, [], 0, none, 0, [], 0, none, 0, [], 0, none, 0, [], ⟨rfl, rfl, rfl, rfl, rfl, rfl, trivial⟩, hO, aaM, u5, HT, sI, aL, hB⟩ ?_
  intro X1
  refine prE fun k1_80 => prE fun d_81 => prE fun d_87 => prE fun d_93 => fun d_99 => ?_
  intro H hX1 σ w79
  refine exE fun n86 => exE fun p84 => exE fun c85 => exE fun ib => exE fun n92 => exE fun p90 => exE fun c91 => exE fun ic => exE fun n98 => exE fun p96 => exE fun c97 => exE fun x7 => exE fun iW => exE fun j3 => exE fun j4 => exE fun xa => andE fun hag => andE fun hO => andE fun ct => andE fun cT => andE fun gB => andE fun gx => andE fun aL => fun hB => ?_
  dsimp only at H
  refine Go1.keep [(4, .pointer (some ⟨B2, 0, none⟩)), (6, .pointer (some ⟨b49, 0, none⟩)), (7, .int .i64 (-1 : Int)), (42, .slice si a0.length sj), (43, .int .i64 (a0.length : Int)), (44, .int .i64 (k1_80 : Int))] hag ?_
  refine zq (zr ?_)
  by_cases AU : (k1_80 : Int) < (a0.length : Int)
  ·replace H := ifp AU H
   refine zo (fun w => opB (op_lss rfl rfl w) (decide_eq_true AU)) (zn (zq (zt rfl rfl (zk (zq ?_)))))
   refine zb (zq (zr (zm rfl ?_)))
   obtain ⟨AV, H⟩ := H
   obtain ⟨FF, H⟩ := H
   refine zo (op_index Try.underlying22 ti26 rfl rfl AV FF (aL.some_ AV FF)) ?_
   have hobt := ldSl aL AV FF
   obtain ⟨OT, OU, er, TH⟩ := hobt
   refine zs (TH Try.underlying26 rfl rfl) (za rfl (za rfl (zn (zq (zr ?_)))))
   refine zo (op_fieldAddr Try.underlying29 rfl ti22 rfl (by decide)) (zs (oblk (i := 3) 4 hO rfl rfl Try.underlying22 rfl rfl) (zm rfl ?_))
   have hobt := rowlend 3 hO rfl gx
   obtain ⟨TI, Ja⟩ := hobt
   have hOc114 := hO.drop 3
   refine GoR.call (op_call body41 (show ([.slice j3 iW j4, .slice OT ((ix a0 (k1_80 : Int)).length) OU] : List Value) = [.slice j3 d_99.length j4, .slice OT ((ix a0 (k1_80 : Int)).length) OU] from by rw [← Ja]) (walk_ref12_Find hOc114.lt TI (er.ch (Owns.dropCh _ _ 3)) H)) rfl rfl ?_
   rintro afR afS ⟨r115, rfl, TJ, H⟩
   have AC := Stp.same hO TJ
   replace hO := AC.own
   refine za rfl (zn (zq (zq (zr (zm rfl ?_)))))
   by_cases Jr : (0 : Int) ≤ r115
   ·replace H := ifp Jr H
    refine zo (fun w => opB (op_geq rfl rfl w) (decide_eq_true Jr)) (zn (zt rfl rfl (zq ?_)))
    refine Go1.drawS 2 [(0, .pure), (1, .stable), (2, .pure), (4, .stable), (5, .pure), (3, .loud), (6, .loud), (7, .pure), (8, .loud), (9, .last), (10, .pure), (11, .last)] mixed (by kernel_rfl) ?_
    intro afT IN
    have AD := Stp.same hO IN
    replace hO := AD.own
    refine GoQ.pure rfl (op_fieldAddr Try.underlying29 rfl ti27 rfl (by decide)) rfl rfl ?_
    refine GoQ.stable rfl (oblk (i := 7) 4 hO rfl rfl Try.underlying27 rfl rfl) rfl rfl ?_
    refine GoQ.pure rfl (op_move rfl) rfl rfl ?_
    refine GoQ.stable rfl (oblkAgg (vs := [.int .i64 ((ix a0 (0 : Int)).length : Int), .bool false, .slice dh dq di, .slice j3 iW j4, .slice p96 n98 c97, .slice p90 n92 c91, .slice none 0 0, .slice p84 n86 c85, .int .i64 (0 : Int)]) (i := 0) 4 hO rfl rfl Try.underlying29 rfl ti29 rfl) rfl rfl ?_
    refine GoQ.pure rfl (op_move rfl) rfl rfl ?_
    refine GoQ.call rfl (op_call body55 rfl (walk_ref12_letter hO.lt H)) (fun v w hr => by obtain ⟨_, _, hs, _, _⟩ := hr; assumption) rfl rfl ?_
    rintro afU aaN ⟨r125, rfl, TK, MQ, H⟩
    have AE := Stp.same hO TK
    replace hO := AE.own
    have TL := t2lend 5 hO rfl
    have TM := t2neq 5 hO rfl
    have hOc133 := hO.drop 5
    have Z3 := (AC.ch.trans AD.ch).trans AE.ch
    replace gx := gx.ch Z3
    have hobt := rowlend 3 hOc133 rfl (gx.ch (Owns.dropCh _ _ 5))
    obtain ⟨TN, TO⟩ := hobt
    have hOc136 := hOc133.drop 3
    replace gB := gB.ch Z3
    have hobt := rowlend 2 hOc136 rfl ((gB.ch (Owns.dropCh _ _ 5)).ch (Owns.dropCh _ _ 3))
    obtain ⟨Jh, Ji⟩ := hobt
    have hOc139 := hOc136.drop 2
    replace cT := cT.ch Z3
    have hobt := rowlend 1 hOc139 rfl (((cT.ch (Owns.dropCh _ _ 5)).ch (Owns.dropCh _ _ 3)).ch (Owns.dropCh _ _ 2))
    obtain ⟨TP, TQ⟩ := hobt
    have hOc142 := hOc139.drop 1
    replace ct := ct.ch Z3
    have hobt := rowlend 0 hOc142 rfl ((((ct.ch (Owns.dropCh _ _ 5)).ch (Owns.dropCh _ _ 3)).ch (Owns.dropCh _ _ 2)).ch (Owns.dropCh _ _ 1))
    obtain ⟨TS, TT⟩ := hobt
    have hOc145 := hOc142.drop 0
    refine GoQ.call rfl (op_call body40 (show ([.agg #[.int .i64 ((ix a0 (0 : Int)).length : Int), .bool false, .slice dh dq di, .slice j3 iW j4, .slice p96 n98 c97, .slice p90 n92 c91, .slice none 0 0, .slice p84 n86 c85, .int .i64 (0 : Int)], .int .i64 r115] : List Value) = [.agg #[.int .i64 ((ix a0 (0 : Int)).length : Int), .bool false, .slice dh r38.length di, .slice j3 d_99.length j4, .slice p96 d_93.length c97, .slice p90 d_87.length c91, .slice none 0 0, .slice p84 d_81.length c85, .int .i64 (0 : Int)], .int .i64 r115] from by rw [← TM, ← TO, ← Ji, ← TQ, ← TT]) (walk_ref12_Word (e := (⟨((ix a0 (0 : Int)).length : Int), false, r38, d_99, d_93, d_87, [], d_81, (0 : Int)⟩ : Enum)) hOc145.lt ((((TL.ch (Owns.dropCh _ _ 3)).ch (Owns.dropCh _ _ 2)).ch (Owns.dropCh _ _ 1)).ch (Owns.dropCh _ _ 0)) (((TN.ch (Owns.dropCh _ _ 2)).ch (Owns.dropCh _ _ 1)).ch (Owns.dropCh _ _ 0)) ((Jh.ch (Owns.dropCh _ _ 1)).ch (Owns.dropCh _ _ 0)) (TP.ch (Owns.dropCh _ _ 0)) (ISl.null _ _ _) TS H)) (fun v w hr => by obtain ⟨_, _, hs, _, _⟩ := hr; assumption) rfl rfl ?_
    rintro afV afW ⟨r146, rfl, TU, MR, H⟩
    have AF := Stp.same hO TU
    replace hO := AF.own
    refine GoQ.pure rfl (op_build Try.underlying39 ti39 (pl := [(0, 1), (1, 1)]) (vs := [(0, .string (gstr r125)), (1, .string (gstr r146))]) (cs := #[.string (gstr r125), .string (gstr r146)]) (by kernel_rfl) rfl (by kernel_rfl)) rfl rfl ?_
    have hobt := obuildN (r := rpRule) (n := 1) (parts := [(0, .agg #[.string (gstr r125), .string (gstr r146)])]) (vs := [.string (gstr r125), .string (gstr r146)]) (xs := [(⟨r125, r146⟩ : Rule)]) Try.underlying27 ti39 hO (by decide) (by decide) (by kernel_rfl) (Els.flat1 (⟨r125, r146⟩ : Rule) ⟨MQ, MR⟩) rfl
    obtain ⟨aaO, afX, kc, TV, TW, OV⟩ := hobt
    refine GoQ.loud rfl (OV rfl) TW rfl rfl ?_
    replace hO := kc.own
    have hobt := freeze 0 hO rfl TV
    obtain ⟨hO1, Dr, dD, TX⟩ := hobt
    dsimp only [eS, eZ] at hO1 Dr dD
    replace hB := (((((hB.trans AC.fr).trans AD.fr).trans AE.fr).trans AF.fr).trans kc.fr).trans (Owns.dropFr _ _ 0)
    dsimp only [eS, eZ] at hB
    replace hO := hO1; clear hO1
    obtain ⟨Fx, H⟩ := H
    have Z4 := (AF.ch.trans kc.ch).trans Dr
    replace ct := ct.ch Z4
    have hobt := oapp Try.underlying27 ti39 rfl 0 hO rfl ct dD TX Fx (by decide)
    obtain ⟨afY, IQ, IR, TY, zl, G9, OW⟩ := hobt
    dsimp only [sS, sZ] at zl G9
    refine GoQ.last rfl (OW (by exact rfl) (by exact rfl)) rfl rfl ?_
    replace hO := zl.own
    refine GoQ.pure rfl (op_fieldAddr Try.underlying29 rfl ti27 rfl (by decide)) rfl rfl ?_
    have hobt := oblkSt2 (v := .slice IQ (n86 + 1) IR) (i := 7) (cs' := #[.int .i64 ((ix a0 (0 : Int)).length : Int), .bool false, .slice dh dq di, .slice j3 iW j4, .slice p96 n98 c97, .slice p90 n92 c91, .slice none 0 0, .slice IQ (n86 + 1) IR, .int .i64 (0 : Int)]) 4 hO rfl rfl rfl rfl
    obtain ⟨af0, f8, OX⟩ := hobt
    dsimp only [sS, sZ] at f8
    refine GoQ.last rfl (OX Try.underlying27 rfl ti27 (by exact rfl) (by exact rfl)) rfl rfl ?_
    replace hO := f8.own
    refine GoQ.nil ?_
    refine Go1.exit rfl ?_
    refine Go1.cut [(4, .pointer (some ⟨B2, 0, none⟩)), (6, .pointer (some ⟨b49, 0, none⟩)), (7, .int .i64 (-1 : Int)), (42, .slice si a0.length sj), (43, .int .i64 (a0.length : Int)), (44, .int .i64 (k1_80 : Int))] ⟨rfl, rfl, rfl, rfl, rfl, rfl, trivial⟩ ?_
    intro σ _
    refine zr ?_
    have Z5 := ((((Z3.trans AF.ch).trans kc.ch).trans Dr).trans zl.ch).trans f8.ch
    replace aL := aL.ch Z5
    refine zo (op_add rfl rfl (wrap_i64 (natbd AU aL.bd))) (zm rfl (zn ?_))
    replace G9 := G9.ch f8.ch
    replace hB := (hB.trans zl.fr).trans f8.fr
    have Z6 := (Z4.trans zl.ch).trans f8.ch
    replace cT := cT.ch Z6
    replace gB := gB.ch Z6
    replace gx := gx.ch Z6
    exact hX1 _ H _ _ ⟨n86 + 1, IQ, IR, TY, n92, p90, c91, ic, n98, p96, c97, x7, iW, j3, j4, xa, ⟨rfl, rfl, rfl, rfl, rfl, rfl, trivial⟩, hO, G9, cT, gB, gx, aL, hB⟩
   replace H := ifn Jr H
   refine zo (fun w => opB (op_geq rfl rfl w) (decide_eq_false Jr)) (zn (zf rfl rfl (zk ?_)))
   refine Go1.drawA (CSv.tr [(some ⟨b49, 3, none⟩), (some ⟨b49, 4, none⟩), (some ⟨b49, 5, none⟩)]) A 1 [(0, .pure), (1, .stable), (3, .pure), (7, .pure), (8, .stable), (9, .pure), (12, .pure), (13, .stable), (14, .pure), (2, .alloc), (4, .loud), (5, .alloc), (6, .loud), (17, .pure), (10, .alloc), (11, .loud), (15, .alloc), (16, .loud), (18, .last), (19, .pure), (20, .last), (21, .pure), (22, .last)] mixed (by kernel_rfl) trivial hO.bd ?_
   intro XY Ii
   have kz := Stp.same hO Ii
   replace hO := kz.own
   have Fa := hO.le
   replace hB := (hB.trans AC.fr).trans kz.fr
   have hw177 := hB.ch.size
   refine GoQA.pure rfl (op_fieldAddr Try.underlying29 rfl ti22 rfl (by decide)) rfl rfl ?_
   refine GoQA.stable rfl (loadV (.head _) rfl (blkCell 4 hO rfl rfl) Try.underlying22 rfl rfl) rfl rfl ?_
   refine GoQA.pure rfl (op_move rfl) rfl rfl ?_
   refine GoQA.pure rfl (op_fieldAddr Try.underlying29 rfl ti26 rfl (by decide)) rfl rfl ?_
   refine GoQA.stable rfl (loadV (.tail _ (.head _)) rfl (blkCell 4 hO rfl rfl) Try.underlying26 rfl rfl) rfl rfl ?_
   refine GoQA.pure rfl (op_move rfl) rfl rfl ?_
   refine GoQA.pure rfl (op_fieldAddr Try.underlying29 rfl ti26 rfl (by decide)) rfl rfl ?_
   refine GoQA.stable rfl (loadV (.tail _ (.tail _ (.head _))) rfl (blkCell 4 hO rfl rfl) Try.underlying26 rfl rfl) rfl rfl ?_
   refine GoQA.pure rfl (op_move rfl) rfl rfl ?_
   refine GoQA.alloc rfl rfl (alBuild (n := 0) (parts := []) (vs := []) Try.underlying26 ti3 (by decide) (by decide) (by decide) (by kernel_rfl) rfl rfl) ?_
   intro Kw A181 OY A183 B5 Mn hd186 hnb187 hh188
   replace hO := B5.own hO
   have F3 : Els (Rp.int .i64) (bl [.row 39 2 p84 n86 c85 ib, .row 3 1 p90 n92 c91 ic, .row 3 1 p96 n98 c97 x7, .row 26 1 j3 iW j4 xa, .blk b49 (.cells #[.int .i64 ((ix a0 (0 : Int)).length : Int), .bool false, .slice dh dq di, .slice j3 iW j4, .slice p96 n98 c97, .slice p90 n92 c91, .slice none 0 0, .slice p84 n86 c85, .int .i64 (0 : Int)] 29 (0, 0)), t2 (Fl.int .i64) 26 3 dh dq di gM r38, .blk B2 (.cells #[.int .i64 (0 : Int), .bool false, .slice none 0 0, .slice none 0 0, .slice none 0 0, .slice none 0 0, .slice none 0 0, .slice none 0 0, .int .i64 (0 : Int)] 29 (0, 0))] ++ A181) Kw [] (([] : List Int)) := (Els.nil _ _ _)
   have Ds := gainCh (w := Kw) (E := [.row 39 2 p84 n86 c85 ib, .row 3 1 p90 n92 c91 ic, .row 3 1 p96 n98 c97 x7, .row 26 1 j3 iW j4 xa, .blk b49 (.cells #[.int .i64 ((ix a0 (0 : Int)).length : Int), .bool false, .slice dh dq di, .slice j3 iW j4, .slice p96 n98 c97, .slice p90 n92 c91, .slice none 0 0, .slice p84 n86 c85, .int .i64 (0 : Int)] 29 (0, 0)), t2 (Fl.int .i64) 26 3 dh dq di gM r38, .blk B2 (.cells #[.int .i64 (0 : Int), .bool false, .slice none 0 0, .slice none 0 0, .slice none 0 0, .slice none 0 0, .slice none 0 0, .slice none 0 0, .int .i64 (0 : Int)] 29 (0, 0))]) (e := .row 3 1 (some ⟨OY, 0, none⟩) 0 0 []) Mn rfl
   replace hB := hB.trans (B5.same.fr _)
   replace hB := Fr.gain (e := .row 3 1 (some ⟨OY, 0, none⟩) 0 0 []) hB (Nat.le_trans hw177 hnb187) rfl
   replace hO := Owns.gain hO Mn Fa rfl hh188 hd186
   refine GoQA.loudI rfl rfl ?_
   intro X9 A192 Bb
   replace hO := Bb.own hO
   obtain ⟨aaP, H⟩ := H
   replace F3 := (F3.ch Ds).ch (Bb.ch _)
   have Z7 := (((AC.ch.trans kz.ch).trans (B5.ch _)).trans Ds).trans (Bb.ch _)
   replace er := er.ch Z7
   have hobt := oapp Try.underlying26 ti3 rfl 0 hO rfl F3 er rfl aaP (by decide)
   obtain ⟨aaQ, FM, FN, acU, gN, Mo, Ht⟩ := hobt
   dsimp only [sS, sZ] at gN Mo
   refine GoAt.step (Ht (by exact rfl) (by exact rfl)) (fun _ => (CSv.cons (cs_eq (blkCell 5 hO rfl rfl) (blkCell 5 gN.own rfl rfl)) (CSv.cons (cs_eq (blkCell 5 hO rfl rfl) (blkCell 5 gN.own rfl rfl)) (CSv.cons (cs_eq (blkCell 5 hO rfl rfl) (blkCell 5 gN.own rfl rfl)) (CSv.nil _ _))))) (Stp.kp hO gN) rfl ?_
   replace hO := gN.own
   have hobt := freeze 0 hO rfl Mo
   obtain ⟨hO1, Dt, gk, T0⟩ := hobt
   dsimp only [eS, eZ] at hO1 Dt gk
   replace hB := ((hB.trans (Bb.same.fr _)).trans gN.fr).trans (Owns.dropFr _ _ 0)
   dsimp only [eS, eZ] at hB
   replace hO := hO1; clear hO1
   refine GoQA.alloc rfl rfl (alBuild (n := 1) (parts := [(0, .slice FM (0 + ((ix a0 (k1_80 : Int)).length)) FN)]) (vs := [.slice FM (0 + ((ix a0 (k1_80 : Int)).length)) FN]) Try.underlying22 ti26 (by decide) (by decide) (by decide) (by kernel_rfl) rfl rfl) ?_
   intro O0 A205 O1 A207 Bc Mp hd210 hnb211 hh212
   replace hO := Bc.own hO
   replace gk := gk.ch (Bc.ch _)
   have BW : Els (Rp.sl (Rp.int .i64)) (bl [.row 39 2 p84 n86 c85 ib, .row 3 1 p90 n92 c91 ic, .row 3 1 p96 n98 c97 x7, .row 26 1 j3 iW j4 xa, .blk b49 (.cells #[.int .i64 ((ix a0 (0 : Int)).length : Int), .bool false, .slice dh dq di, .slice j3 iW j4, .slice p96 n98 c97, .slice p90 n92 c91, .slice none 0 0, .slice p84 n86 c85, .int .i64 (0 : Int)] 29 (0, 0)), t2 (Fl.int .i64) 26 3 dh dq di gM r38, .blk B2 (.cells #[.int .i64 (0 : Int), .bool false, .slice none 0 0, .slice none 0 0, .slice none 0 0, .slice none 0 0, .slice none 0 0, .slice none 0 0, .int .i64 (0 : Int)] 29 (0, 0))] ++ A205) O0 [.slice FM (0 + ((ix a0 (k1_80 : Int)).length)) FN] [(([] : List Int)) ++ (ix a0 (k1_80 : Int))] := (Els.cons rfl ⟨FM, FN, congrArg some (congrArg (fun nn => Value.slice FM nn FN) T0), gk⟩ (Els.nil _ _ _) (by simp [mx]))
   have B6 := gainCh (w := O0) (E := [.row 39 2 p84 n86 c85 ib, .row 3 1 p90 n92 c91 ic, .row 3 1 p96 n98 c97 x7, .row 26 1 j3 iW j4 xa, .blk b49 (.cells #[.int .i64 ((ix a0 (0 : Int)).length : Int), .bool false, .slice dh dq di, .slice j3 iW j4, .slice p96 n98 c97, .slice p90 n92 c91, .slice none 0 0, .slice p84 n86 c85, .int .i64 (0 : Int)] 29 (0, 0)), t2 (Fl.int .i64) 26 3 dh dq di gM r38, .blk B2 (.cells #[.int .i64 (0 : Int), .bool false, .slice none 0 0, .slice none 0 0, .slice none 0 0, .slice none 0 0, .slice none 0 0, .slice none 0 0, .int .i64 (0 : Int)] 29 (0, 0))]) (e := .row 26 1 (some ⟨O1, 0, none⟩) 1 1 [.slice FM (0 + ((ix a0 (k1_80 : Int)).length)) FN]) Mp rfl
   replace hB := hB.trans (Bc.same.fr _)
   replace hB := Fr.gain (e := .row 26 1 (some ⟨O1, 0, none⟩) 1 1 [.slice FM (0 + ((ix a0 (k1_80 : Int)).length)) FN]) hB (Nat.le_trans hw177 hnb211) rfl
   replace hO := Owns.gain hO Mp Fa rfl hh212 hd210
   refine GoQA.loudI rfl rfl ?_
   intro af1 A219 z8
   replace hO := z8.own hO
   replace BW := (BW.ch B6).ch (z8.ch _)
   have hobt := freeze 0 hO rfl BW
   obtain ⟨hO1, B7, g9, T1⟩ := hobt
   dsimp only [eS, eZ] at hO1 B7 g9
   replace hB := (hB.trans (z8.same.fr _)).trans (Owns.dropFr _ _ 0)
   dsimp only [eS, eZ] at hB
   replace hO := hO1; clear hO1
   obtain ⟨aaR, H⟩ := H
   have Z8 := (((((Z7.trans gN.ch).trans Dt).trans (Bc.ch _)).trans B6).trans (z8.ch _)).trans B7
   replace gx := gx.ch Z8
   have hobt := oapp Try.underlying22 ti26 rfl 3 hO rfl gx g9 T1 aaR (by decide)
   obtain ⟨af2, Du, Dv, sN, gC, ir, O2⟩ := hobt
   dsimp only [sS, sZ] at gC ir
   refine GoAt.step (O2 (by exact rfl) (by exact rfl)) (fun _ => (CSv.cons (cs_eq (blkCell 4 hO rfl rfl) (blkCell 4 gC.own rfl rfl)) (CSv.cons (cs_eq (blkCell 4 hO rfl rfl) (blkCell 4 gC.own rfl rfl)) (CSv.cons (cs_eq (blkCell 4 hO rfl rfl) (blkCell 4 gC.own rfl rfl)) (CSv.nil _ _))))) (Stp.kp hO gC) rfl ?_
   replace hO := gC.own
   refine GoQA.pure rfl (op_fieldAddr Try.underlying29 rfl ti22 rfl (by decide)) rfl rfl ?_
   refine GoQA.alloc rfl rfl (alBuild (n := 1) (parts := [(0, .int .i64 (-1 : Int))]) (vs := [.int .i64 (-1 : Int)]) Try.underlying26 ti3 (by decide) (by decide) (by decide) (by kernel_rfl) rfl rfl) ?_
   intro Lu A235 O3 A237 z9 Mq hd240 hnb241 hh242
   replace hO := z9.own hO
   have F4 : Els (Rp.int .i64) (bl [.row 39 2 p84 n86 c85 ib, .row 3 1 p90 n92 c91 ic, .row 3 1 p96 n98 c97 x7, .row 26 1 Du (iW + 1) Dv sN, .blk b49 (.cells #[.int .i64 ((ix a0 (0 : Int)).length : Int), .bool false, .slice dh dq di, .slice j3 iW j4, .slice p96 n98 c97, .slice p90 n92 c91, .slice none 0 0, .slice p84 n86 c85, .int .i64 (0 : Int)] 29 (0, 0)), t2 (Fl.int .i64) 26 3 dh dq di gM r38, .blk B2 (.cells #[.int .i64 (0 : Int), .bool false, .slice none 0 0, .slice none 0 0, .slice none 0 0, .slice none 0 0, .slice none 0 0, .slice none 0 0, .int .i64 (0 : Int)] 29 (0, 0))] ++ A235) Lu [.int .i64 (-1 : Int)] [(-1 : Int)] := (Els.cons rfl rfl (Els.nil _ _ _) (by simp [mx]))
   have Bd := gainCh (w := Lu) (E := [.row 39 2 p84 n86 c85 ib, .row 3 1 p90 n92 c91 ic, .row 3 1 p96 n98 c97 x7, .row 26 1 Du (iW + 1) Dv sN, .blk b49 (.cells #[.int .i64 ((ix a0 (0 : Int)).length : Int), .bool false, .slice dh dq di, .slice j3 iW j4, .slice p96 n98 c97, .slice p90 n92 c91, .slice none 0 0, .slice p84 n86 c85, .int .i64 (0 : Int)] 29 (0, 0)), t2 (Fl.int .i64) 26 3 dh dq di gM r38, .blk B2 (.cells #[.int .i64 (0 : Int), .bool false, .slice none 0 0, .slice none 0 0, .slice none 0 0, .slice none 0 0, .slice none 0 0, .slice none 0 0, .int .i64 (0 : Int)] 29 (0, 0))]) (e := .row 3 1 (some ⟨O3, 0, none⟩) 1 1 [.int .i64 (-1 : Int)]) Mq rfl
   replace hB := (hB.trans gC.fr).trans (z9.same.fr _)
   replace hB := Fr.gain (e := .row 3 1 (some ⟨O3, 0, none⟩) 1 1 [.int .i64 (-1 : Int)]) hB (Nat.le_trans hw177 hnb241) rfl
   replace hO := Owns.gain hO Mq Fa rfl hh242 hd240
   refine GoQA.loudI rfl rfl ?_
   intro Ye A246 zu
   replace hO := zu.own hO
   replace F4 := (F4.ch Bd).ch (zu.ch _)
   have hobt := freeze 0 hO rfl F4
   obtain ⟨hO1, rV, dV, Ip⟩ := hobt
   dsimp only [eS, eZ] at hO1 rV dV
   replace hB := (hB.trans (zu.same.fr _)).trans (Owns.dropFr _ _ 0)
   dsimp only [eS, eZ] at hB
   replace hO := hO1; clear hO1
   obtain ⟨aaS, H⟩ := H
   have Z9 := ((((Z8.trans gC.ch).trans (z9.ch _)).trans Bd).trans (zu.ch _)).trans rV
   replace gB := gB.ch Z9
   have hobt := oapp Try.underlying26 ti3 rfl 2 hO rfl gB dV Ip aaS (by decide)
   obtain ⟨Y6, FG, GC, Js, tB, lg, O4⟩ := hobt
   dsimp only [sS, sZ] at tB lg
   refine GoAt.step (O4 (by exact rfl) (by exact rfl)) (fun _ => (CSv.cons (cs_eq (blkCell 4 hO rfl rfl) (blkCell 4 tB.own rfl rfl)) (CSv.cons (cs_eq (blkCell 4 hO rfl rfl) (blkCell 4 tB.own rfl rfl)) (CSv.cons (cs_eq (blkCell 4 hO rfl rfl) (blkCell 4 tB.own rfl rfl)) (CSv.nil _ _))))) (Stp.kp hO tB) rfl ?_
   replace hO := tB.own
   refine GoQA.alloc rfl rfl (alBuild (n := 1) (parts := [(0, .int .i64 (k1_80 : Int))]) (vs := [.int .i64 (k1_80 : Int)]) Try.underlying26 ti3 (by decide) (by decide) (by decide) (by kernel_rfl) rfl rfl) ?_
   intro O5 A262 O6 A264 zw Mr hd267 hnb268 hh269
   replace hO := zw.own hO
   have F5 : Els (Rp.int .i64) (bl [.row 39 2 p84 n86 c85 ib, .row 3 1 p90 n92 c91 ic, .row 3 1 FG (n98 + 1) GC Js, .row 26 1 Du (iW + 1) Dv sN, .blk b49 (.cells #[.int .i64 ((ix a0 (0 : Int)).length : Int), .bool false, .slice dh dq di, .slice j3 iW j4, .slice p96 n98 c97, .slice p90 n92 c91, .slice none 0 0, .slice p84 n86 c85, .int .i64 (0 : Int)] 29 (0, 0)), t2 (Fl.int .i64) 26 3 dh dq di gM r38, .blk B2 (.cells #[.int .i64 (0 : Int), .bool false, .slice none 0 0, .slice none 0 0, .slice none 0 0, .slice none 0 0, .slice none 0 0, .slice none 0 0, .int .i64 (0 : Int)] 29 (0, 0))] ++ A262) O5 [.int .i64 (k1_80 : Int)] [(k1_80 : Int)] := (Els.cons rfl rfl (Els.nil _ _ _) (by simp [mx]))
   have Aa := gainCh (w := O5) (E := [.row 39 2 p84 n86 c85 ib, .row 3 1 p90 n92 c91 ic, .row 3 1 FG (n98 + 1) GC Js, .row 26 1 Du (iW + 1) Dv sN, .blk b49 (.cells #[.int .i64 ((ix a0 (0 : Int)).length : Int), .bool false, .slice dh dq di, .slice j3 iW j4, .slice p96 n98 c97, .slice p90 n92 c91, .slice none 0 0, .slice p84 n86 c85, .int .i64 (0 : Int)] 29 (0, 0)), t2 (Fl.int .i64) 26 3 dh dq di gM r38, .blk B2 (.cells #[.int .i64 (0 : Int), .bool false, .slice none 0 0, .slice none 0 0, .slice none 0 0, .slice none 0 0, .slice none 0 0, .slice none 0 0, .int .i64 (0 : Int)] 29 (0, 0))]) (e := .row 3 1 (some ⟨O6, 0, none⟩) 1 1 [.int .i64 (k1_80 : Int)]) Mr rfl
   replace hB := (hB.trans tB.fr).trans (zw.same.fr _)
   replace hB := Fr.gain (e := .row 3 1 (some ⟨O6, 0, none⟩) 1 1 [.int .i64 (k1_80 : Int)]) hB (Nat.le_trans hw177 hnb268) rfl
   replace hO := Owns.gain hO Mr Fa rfl hh269 hd267
   refine GoQA.loudI rfl rfl ?_
   intro O7 A273 yB
   replace hO := yB.own hO
   replace F5 := (F5.ch Aa).ch (yB.ch _)
   have hobt := freeze 0 hO rfl F5
   obtain ⟨hO1, Ab, sc, T3⟩ := hobt
   dsimp only [eS, eZ] at hO1 Ab sc
   replace hB := (hB.trans (yB.same.fr _)).trans (Owns.dropFr _ _ 0)
   dsimp only [eS, eZ] at hB
   replace hO := hO1; clear hO1
   obtain ⟨aaT, H⟩ := H
   have Z10 := ((((Z9.trans tB.ch).trans (zw.ch _)).trans Aa).trans (yB.ch _)).trans Ab
   replace cT := cT.ch Z10
   have hobt := oapp Try.underlying26 ti3 rfl 1 hO rfl cT sc T3 aaT (by decide)
   obtain ⟨af3, Lv, Lw, T4, sH, tN, O8⟩ := hobt
   dsimp only [sS, sZ] at sH tN
   refine GoAt.step (O8 (by exact rfl) (by exact rfl)) (fun _ => (CSv.cons (cs_eq (blkCell 4 hO rfl rfl) (blkCell 4 sH.own rfl rfl)) (CSv.cons (cs_eq (blkCell 4 hO rfl rfl) (blkCell 4 sH.own rfl rfl)) (CSv.cons (cs_eq (blkCell 4 hO rfl rfl) (blkCell 4 sH.own rfl rfl)) (CSv.nil _ _))))) (Stp.kp hO sH) rfl ?_
   replace hO := sH.own
   refine GoQA.lastI rfl rfl ?_
   intro af4 A288 yC
   replace hO := yC.own hO
   have hobt := oblkSt2 (v := .slice Du (iW + 1) Dv) (i := 3) (cs' := #[.int .i64 ((ix a0 (0 : Int)).length : Int), .bool false, .slice dh dq di, .slice Du (iW + 1) Dv, .slice p96 n98 c97, .slice p90 n92 c91, .slice none 0 0, .slice p84 n86 c85, .int .i64 (0 : Int)]) 4 hO rfl rfl rfl rfl
   obtain ⟨af5, ui, O9⟩ := hobt
   dsimp only [sS, sZ] at ui
   refine GoAt.step (O9 Try.underlying22 rfl ti22 (by exact rfl) (by exact rfl)) (fun h => nomatch h) (Stp.kp hO ui) rfl ?_
   replace hO := ui.own
   refine GoQA.pure rfl (op_fieldAddr Try.underlying29 rfl ti26 rfl (by decide)) rfl rfl ?_
   refine GoQA.lastI rfl rfl ?_
   intro Y9 A294 yD
   replace hO := yD.own hO
   have hobt := oblkSt2 (v := .slice FG (n98 + 1) GC) (i := 4) (cs' := #[.int .i64 ((ix a0 (0 : Int)).length : Int), .bool false, .slice dh dq di, .slice Du (iW + 1) Dv, .slice FG (n98 + 1) GC, .slice p90 n92 c91, .slice none 0 0, .slice p84 n86 c85, .int .i64 (0 : Int)]) 4 hO rfl rfl rfl rfl
   obtain ⟨aaa, i4, Pa⟩ := hobt
   dsimp only [sS, sZ] at i4
   refine GoAt.step (Pa Try.underlying26 rfl ti26 (by exact rfl) (by exact rfl)) (fun h => nomatch h) (Stp.kp hO i4) rfl ?_
   replace hO := i4.own
   refine GoQA.pure rfl (op_fieldAddr Try.underlying29 rfl ti26 rfl (by decide)) rfl rfl ?_
   refine GoQA.lastI rfl rfl ?_
   intro af6 A300 yE
   replace hO := yE.own hO
   have hobt := oblkSt2 (v := .slice Lv (n92 + 1) Lw) (i := 5) (cs' := #[.int .i64 ((ix a0 (0 : Int)).length : Int), .bool false, .slice dh dq di, .slice Du (iW + 1) Dv, .slice FG (n98 + 1) GC, .slice Lv (n92 + 1) Lw, .slice none 0 0, .slice p84 n86 c85, .int .i64 (0 : Int)]) 4 hO rfl rfl rfl rfl
   obtain ⟨af7, uj, Pb⟩ := hobt
   dsimp only [sS, sZ] at uj
   refine GoAt.step (Pb Try.underlying26 rfl ti26 (by exact rfl) (by exact rfl)) (fun h => nomatch h) (Stp.kp hO uj) rfl ?_
   replace hO := uj.own
   refine GoQA.nil ?_
   intro af8 A306 yF zx
   replace hO := yF.own hO
   replace hO := hO.permA zx
   refine Go1.inBlock ?_
   refine Go1.cut [(4, .pointer (some ⟨B2, 0, none⟩)), (6, .pointer (some ⟨b49, 0, none⟩)), (7, .int .i64 (-1 : Int)), (42, .slice si a0.length sj), (43, .int .i64 (a0.length : Int)), (44, .int .i64 (k1_80 : Int))] ⟨rfl, rfl, rfl, rfl, rfl, rfl, trivial⟩ ?_
   intro σ _
   refine zr ?_
   have Z11 := ((((((((Z10.trans sH.ch).trans (yC.ch _)).trans ui.ch).trans (yD.ch _)).trans i4.ch).trans (yE.ch _)).trans uj.ch).trans (yF.ch _)).trans (permCh zx _)
   replace aL := aL.ch Z11
   refine zo (op_add rfl rfl (wrap_i64 (natbd AU aL.bd))) (zm rfl (zn ?_))
   replace hB := (((((((hB.trans sH.fr).trans (yC.same.fr _)).trans ui.fr).trans (yD.same.fr _)).trans i4.fr).trans (yE.same.fr _)).trans uj.fr).trans (yF.same.fr _)
   have Z12 := (((((((yC.ch _).trans ui.ch).trans (yD.ch _)).trans i4.ch).trans (yE.ch _)).trans uj.ch).trans (yF.ch _)).trans (permCh zx _)
   replace tN := tN.ch Z12
   have Z13 := ((((((((((((zw.ch _).trans Aa).trans (yB.ch _)).trans Ab).trans sH.ch).trans (yC.ch _)).trans ui.ch).trans (yD.ch _)).trans i4.ch).trans (yE.ch _)).trans uj.ch).trans (yF.ch _)).trans (permCh zx _)
   replace lg := lg.ch Z13
   have Z14 := (((((((((((((((((z9.ch _).trans Bd).trans (zu.ch _)).trans rV).trans tB.ch).trans (zw.ch _)).trans Aa).trans (yB.ch _)).trans Ab).trans sH.ch).trans (yC.ch _)).trans ui.ch).trans (yD.ch _)).trans i4.ch).trans (yE.ch _)).trans uj.ch).trans (yF.ch _)).trans (permCh zx _)
   replace ir := ir.ch Z14
   replace ct := ct.ch Z11
   exact hX1 _ H _ _ ⟨n86, p84, c85, ib, n92 + 1, Lv, Lw, T4, n98 + 1, FG, GC, Js, iW + 1, Du, Dv, sN, ⟨rfl, rfl, rfl, rfl, rfl, rfl, trivial⟩, hO, ct, tN, lg, ir, aL, hB⟩
  replace H := ifn AU H
  refine zo (fun w => opB (op_lss rfl rfl w) (decide_eq_false AU)) (zn (zq (zf rfl rfl ?_)))
  refine Go1.exit rfl ?_
  refine zq (zr (zs (oblkAgg (vs := [.int .i64 ((ix a0 (0 : Int)).length : Int), .bool false, .slice dh dq di, .slice j3 iW j4, .slice p96 n98 c97, .slice p90 n92 c91, .slice none 0 0, .slice p84 n86 c85, .int .i64 (0 : Int)]) (i := 0) 4 hO rfl rfl Try.underlying29 rfl ti29 rfl) ?_))
  have hobt := oblkStAgg (us := [.int .i64 ((ix a0 (0 : Int)).length : Int), .bool false, .slice dh dq di, .slice j3 iW j4, .slice p96 n98 c97, .slice p90 n92 c91, .slice none 0 0, .slice p84 n86 c85, .int .i64 (0 : Int)]) (o := 0) (cs' := #[.int .i64 ((ix a0 (0 : Int)).length : Int), .bool false, .slice dh dq di, .slice j3 iW j4, .slice p96 n98 c97, .slice p90 n92 c91, .slice none 0 0, .slice p84 n86 c85, .int .i64 (0 : Int)]) 6 hO rfl rfl (Nat.le_of_ble_eq_true rfl) rfl
  obtain ⟨af9, kK, Pc⟩ := hobt
  dsimp only [sS, sZ] at kK
  refine zg (Pc ti29 (by exact rfl) (by exact rfl) rfl) ?_
  replace hO := kK.own
  refine za rfl (zn ?_)
  have hobt := t2freezeA 5 hO rfl
  obtain ⟨hO1, Fb, Ac, T5⟩ := hobt
  dsimp only [eS, eZ] at hO1 Fb Ac
  replace hB := (hB.trans kK.fr).trans (Owns.dropFr _ _ 5)
  dsimp only [eS, eZ] at hB
  replace hO := hO1; clear hO1
  replace gx := (gx.ch kK.ch).ch Fb
  have hobt := freeze 3 hO rfl gx
  obtain ⟨hO1, Fc, B9, T6⟩ := hobt
  dsimp only [eS, eZ] at hO1 Fc B9
  replace hB := hB.trans (Owns.dropFr _ _ 3)
  dsimp only [eS, eZ] at hB
  replace hO := hO1; clear hO1
  have Z15 := (kK.ch.trans Fb).trans Fc
  replace gB := gB.ch Z15
  have hobt := freeze 2 hO rfl gB
  obtain ⟨hO1, Fd, Fe, T7⟩ := hobt
  dsimp only [eS, eZ] at hO1 Fd Fe
  replace hB := hB.trans (Owns.dropFr _ _ 2)
  dsimp only [eS, eZ] at hB
  replace hO := hO1; clear hO1
  replace cT := (cT.ch Z15).ch Fd
  have hobt := freeze 1 hO rfl cT
  obtain ⟨hO1, Ff, Ha, T8⟩ := hobt
  dsimp only [eS, eZ] at hO1 Ff Ha
  replace hB := hB.trans (Owns.dropFr _ _ 1)
  dsimp only [eS, eZ] at hB
  replace hO := hO1; clear hO1
  replace ct := ((ct.ch Z15).ch Fd).ch Ff
  have hobt := freeze 0 hO rfl ct
  obtain ⟨hO1, q9, oa, Iq⟩ := hobt
  dsimp only [eS, eZ] at hO1 q9 oa
  replace hB := hB.trans (Owns.dropFr _ _ 0)
  dsimp only [eS, eZ] at hB
  replace hO := hO1; clear hO1
  refine Go1.retC2 Try.func22 rfl rfl (run_loadBlk (vs := [.int .i64 ((ix a0 (0 : Int)).length : Int), .bool false, .slice dh dq di, .slice j3 iW j4, .slice p96 n98 c97, .slice p90 n92 c91, .slice none 0 0, .slice p84 n86 c85, .int .i64 (0 : Int)]) 1 hO rfl rfl Try.underlying29 rfl ti29) ?_
  replace Ha := Ha.ch q9
  replace Fe := (Fe.ch Ff).ch q9
  have Z16 := (Fd.trans Ff).trans q9
  replace B9 := B9.ch Z16
  have Z17 := ((Fc.trans Fd).trans Ff).trans q9
  replace Ac := Ac.ch Z17
  exact ⟨(⟨((ix a0 (0 : Int)).length : Int), false, r38, d_99, d_93, d_87, ([] : List (List Int)), d_81, (0 : Int)⟩ : Enum), (0 : Int), dh, di, j3, j4, p96, c97, p90, c91, none, 0, p84, c85, (congrArg (fun l => Value.tuple (List.toArray l)) (cons_eq (congrArg (fun l => Value.agg (List.toArray l)) (cons_eq rfl (cons_eq rfl (cons_eq (congrArg (fun nn => Value.slice dh nn di) T5) (cons_eq (congrArg (fun nn => Value.slice j3 nn j4) T6) (cons_eq (congrArg (fun nn => Value.slice p96 nn c97) T7) (cons_eq (congrArg (fun nn => Value.slice p90 nn c91) T8) (cons_eq rfl (cons_eq (congrArg (fun nn => Value.slice p84 nn c85) Iq) (cons_eq rfl rfl)))))))))) (cons_eq rfl rfl))), hB.same, (Ac.ch (Ch.weak _ _ _)), (B9.ch (Ch.weak _ _ _)), (Fe.ch (Ch.weak _ _ _)), (Ha.ch (Ch.weak _ _ _)), (ISl.null _ _ _), (oa.ch (Ch.weak _ _ _)), H⟩
 replace H := ifp rfl H
 refine zt rfl rfl (zq (zr (zo (op_fieldAddr Try.underlying29 rfl ti3 rfl (by decide)) (zs (oblk (i := 0) 0 hO rfl rfl Try.underlying3 rfl rfl) ?_))))
 refine GoR.call (op_call body54 rfl (walk_ref03_Discrete hO.lt H)) rfl rfl ?_
 rintro aaU Nd ⟨r327, tC, tD, rfl, Jt, bT, H⟩
 have gW := Stp.same hO Jt
 replace hO := gW.own
 have hobt := obuild (r := Rp.sl (Rp.int .i64)) (n := 1) (parts := [(0, .slice tC r327.length tD)]) (vs := [.slice tC r327.length tD]) (xs := [r327]) rfl Try.underlying22 ti26 hO (by decide) (by kernel_rfl) (Els.cons rfl ⟨tC, tD, rfl, bT⟩ (Els.nil _ _ _) (by simp [mx])) rfl
 obtain ⟨aga, FO, EA, xK, acV, Hz⟩ := hobt
 refine zg (Hz rfl) ?_
 replace hO := EA.own
 have hobt := obuild (r := Rp.int .i64) (n := 1) (parts := [(0, .int .i64 (-1 : Int))]) (vs := [.int .i64 (-1 : Int)]) (xs := [(-1 : Int)]) rfl Try.underlying26 ti3 hO (by decide) (by kernel_rfl) (Els.cons rfl rfl (Els.nil _ _ _) (by simp [mx])) rfl
 obtain ⟨aaf, FJ, ka, xJ, I3, HN⟩ := hobt
 refine zg (HN rfl) ?_
 replace hO := ka.own
 have hobt := obuild (r := Rp.int .i64) (n := 1) (parts := [(0, .int .i64 (-1 : Int))]) (vs := [.int .i64 (-1 : Int)]) (xs := [(-1 : Int)]) rfl Try.underlying26 ti3 hO (by decide) (by kernel_rfl) (Els.cons rfl rfl (Els.nil _ _ _) (by simp [mx])) rfl
 obtain ⟨agb, HU, By, Be, acW, Pd⟩ := hobt
 refine zg (Pd rfl) ?_
 replace hO := By.own
 refine zo (op_fieldAddr Try.underlying29 rfl ti22 rfl (by decide)) ?_
 have hobt := oblkSt2 (v := .slice FO 1 1) (i := 3) (cs' := #[.int .i64 ((ix a0 (0 : Int)).length : Int), .bool true, .slice dh dq di, .slice FO 1 1, .slice none 0 0, .slice none 0 0, .slice none 0 0, .slice none 0 0, .int .i64 (0 : Int)]) 3 hO rfl rfl rfl rfl
 obtain ⟨aaV, iL, HA⟩ := hobt
 dsimp only [sS, sZ] at iL
 refine zg (HA Try.underlying22 rfl ti22 (by exact rfl) (by exact rfl)) ?_
 replace hO := iL.own
 refine zo (op_fieldAddr Try.underlying29 rfl ti26 rfl (by decide)) ?_
 have hobt := oblkSt2 (v := .slice FJ 1 1) (i := 4) (cs' := #[.int .i64 ((ix a0 (0 : Int)).length : Int), .bool true, .slice dh dq di, .slice FO 1 1, .slice FJ 1 1, .slice none 0 0, .slice none 0 0, .slice none 0 0, .int .i64 (0 : Int)]) 3 hO rfl rfl rfl rfl
 obtain ⟨agc, lD, HV⟩ := hobt
 dsimp only [sS, sZ] at lD
 refine zg (HV Try.underlying26 rfl ti26 (by exact rfl) (by exact rfl)) ?_
 replace hO := lD.own
 refine zo (op_fieldAddr Try.underlying29 rfl ti26 rfl (by decide)) ?_
 have hobt := oblkSt2 (v := .slice HU 1 1) (i := 5) (cs' := #[.int .i64 ((ix a0 (0 : Int)).length : Int), .bool true, .slice dh dq di, .slice FO 1 1, .slice FJ 1 1, .slice HU 1 1, .slice none 0 0, .slice none 0 0, .int .i64 (0 : Int)]) 3 hO rfl rfl rfl rfl
 obtain ⟨Ju, zy, Pe⟩ := hobt
 dsimp only [sS, sZ] at zy
 refine zg (Pe Try.underlying26 rfl ti26 (by exact rfl) (by exact rfl)) ?_
 replace hO := zy.own
 refine zn (zr (za rfl (zn (zq (zq ?_)))))
 refine zr (zm rfl (zo (op_len Try.underlying22 rfl) (zm rfl (zn (zb ?_)))))
 have AG := Stp.nil (e := 39) (r := 2) hO
 replace hO := AG.own
 have T9 := Els.nil (rpRule) (bl (.row 39 2 none 0 0 [] :: [.row 3 1 HU 1 1 [.int .i64 (-1 : Int)], .row 3 1 FJ 1 1 [.int .i64 (-1 : Int)], .row 26 1 FO 1 1 [.slice tC r327.length tD], .blk b49 (.cells #[.int .i64 ((ix a0 (0 : Int)).length : Int), .bool true, .slice dh dq di, .slice FO 1 1, .slice FJ 1 1, .slice HU 1 1, .slice none 0 0, .slice none 0 0, .int .i64 (0 : Int)] 29 (0, 0)), t2 (Fl.int .i64) 26 3 dh dq di gM r38, .blk B2 (.cells #[.int .i64 (0 : Int), .bool false, .slice none 0 0, .slice none 0 0, .slice none 0 0, .slice none 0 0, .slice none 0 0, .slice none 0 0, .int .i64 (0 : Int)] 29 (0, 0))]) ++ A) Ju
 have Z18 := ((iL.ch.trans lD.ch).trans zy.ch).trans AG.ch
 replace Be := Be.ch Z18
 have Z19 := (((By.ch.trans iL.ch).trans lD.ch).trans zy.ch).trans AG.ch
 replace xJ := xJ.ch Z19
 have Z20 := ((((ka.ch.trans By.ch).trans iL.ch).trans lD.ch).trans zy.ch).trans AG.ch
 replace xK := xK.ch Z20
 replace hB := ((((((((((hB.trans (Jo.same.fr _)).trans jw.fr).trans (Jq.same.fr _)).trans gW.fr).trans EA.fr).trans ka.fr).trans By.fr).trans iL.fr).trans lD.fr).trans zy.fr).trans AG.fr
 have Z21 := (((((((((((((Ba.ch.trans (Jm.ch _)).trans OS).trans (Jo.ch _)).trans jw.ch).trans (Jq.ch _)).trans (permCh Lt _)).trans gW.ch).trans EA.ch).trans ka.ch).trans By.ch).trans iL.ch).trans lD.ch).trans zy.ch).trans AG.ch
 replace aL := aL.ch Z21
 refine Go1.loopW (S := Nat × List Rule × List Int × List Int × List (List Int)) (fun s σ w => match s with | (k2_367, d_368, d_374, d_380, d_386) => ∃ (jd : Nat), ∃ (iU : Option Addr), ∃ (iV : Nat), ∃ (tO : List Value), ∃ (je : Nat), ∃ (jf : Option Addr), ∃ (jg : Nat), ∃ (rX : List Value), ∃ (jh : Nat), ∃ (jS : Option Addr), ∃ (jT : Nat), ∃ (qz : List Value), ∃ (iX : Nat), ∃ (j5 : Option Addr), ∃ (j6 : Nat), ∃ (xb : List Value), agrees σ [(4, .pointer (some ⟨B2, 0, none⟩)), (6, .pointer (some ⟨b49, 0, none⟩)), (7, .int .i64 (0 : Int)), (42, .slice si a0.length sj), (43, .int .i64 (a0.length : Int)), (44, .int .i64 (k2_367 : Int))] ∧ (fun Z0 => Owns w0.heap.size w Z0 A ∧ Els (rpRule) (bl Z0 ++ A) w tO d_368 ∧ Els (Rp.int .i64) (bl Z0 ++ A) w rX d_374 ∧ Els (Rp.int .i64) (bl Z0 ++ A) w qz d_380 ∧ Els (Rp.sl (Rp.int .i64)) (bl Z0 ++ A) w xb d_386 ∧ ISl (Rp.sl (Rp.int .i64)) (bl Z0 ++ A) w si sj a0 ∧ Fr (bl []) w0 (bl Z0) w) [.row 39 2 iU jd iV tO, .row 3 1 jf je jg rX, .row 3 1 jS jh jT qz, .row 26 1 j5 iX j6 xb, .blk b49 (.cells #[.int .i64 ((ix a0 (0 : Int)).length : Int), .bool true, .slice dh dq di, .slice j5 iX j6, .slice jS jh jT, .slice jf je jg, .slice none 0 0, .slice iU jd iV, .int .i64 (0 : Int)] 29 (0, 0)), t2 (Fl.int .i64) 26 3 dh dq di gM r38, .blk B2 (.cells #[.int .i64 (0 : Int), .bool false, .slice none 0 0, .slice none 0 0, .slice none 0 0, .slice none 0 0, .slice none 0 0, .slice none 0 0, .int .i64 (0 : Int)] 29 (0, 0))]) H ⟨0, none, 0, [], 1, HU, 1, [.int .i64 (-1 : Int)], 1, FJ, 1, [.int .i64 (-1 : Int)], 1, FO, 1, [.slice tC r327.length tD], ⟨rfl, rfl, rfl, rfl, rfl, rfl, trivial⟩, hO, T9, Be, xJ, xK, aL, hB⟩ ?_
 intro X2
 refine prE fun k2_367 => prE fun d_368 => prE fun d_374 => prE fun d_380 => fun d_386 => ?_
 intro H hX2 σ agd
 refine exE fun jd => exE fun iU => exE fun iV => exE fun tO => exE fun je => exE fun jf => exE fun jg => exE fun rX => exE fun jh => exE fun jS => exE fun jT => exE fun qz => exE fun iX => exE fun j5 => exE fun j6 => exE fun xb => andE fun hag => andE fun hO => andE fun dK => andE fun eU => andE fun fx => andE fun gy => andE fun aL => fun hB => ?_
 dsimp only at H
 refine Go1.keep [(4, .pointer (some ⟨B2, 0, none⟩)), (6, .pointer (some ⟨b49, 0, none⟩)), (7, .int .i64 (0 : Int)), (42, .slice si a0.length sj), (43, .int .i64 (a0.length : Int)), (44, .int .i64 (k2_367 : Int))] hag ?_
 refine zq (zr ?_)
 by_cases Bz : (k2_367 : Int) < (a0.length : Int)
 ·replace H := ifp Bz H
  refine zo (fun w => opB (op_lss rfl rfl w) (decide_eq_true Bz)) (zn (zq (zt rfl rfl (zk (zq ?_)))))
  refine zb (zq (zr (zm rfl ?_)))
  obtain ⟨Lx, H⟩ := H
  obtain ⟨Ly, H⟩ := H
  refine zo (op_index Try.underlying22 ti26 rfl rfl Lx Ly (aL.some_ Lx Ly)) ?_
  have hobt := ldSl aL Lx Ly
  obtain ⟨Pf, Pg, cB, Ua⟩ := hobt
  refine zs (Ua Try.underlying26 rfl rfl) (za rfl (za rfl (zn (zq (zr ?_)))))
  refine zo (op_fieldAddr Try.underlying29 rfl ti22 rfl (by decide)) (zs (oblk (i := 3) 4 hO rfl rfl Try.underlying22 rfl rfl) (zm rfl ?_))
  have hobt := rowlend 3 hO rfl gy
  obtain ⟨Ub, Uc⟩ := hobt
  have hOc401 := hO.drop 3
  refine GoR.call (op_call body41 (show ([.slice j5 iX j6, .slice Pf ((ix a0 (k2_367 : Int)).length) Pg] : List Value) = [.slice j5 d_386.length j6, .slice Pf ((ix a0 (k2_367 : Int)).length) Pg] from by rw [← Uc]) (walk_ref12_Find hOc401.lt Ub (cB.ch (Owns.dropCh _ _ 3)) H)) rfl rfl ?_
  rintro age agf ⟨r402, rfl, Ud, H⟩
  have AH := Stp.same hO Ud
  replace hO := AH.own
  refine za rfl (zn (zq (zq (zr (zm rfl ?_)))))
  by_cases Jv : (0 : Int) ≤ r402
  ·replace H := ifp Jv H
   refine zo (fun w => opB (op_geq rfl rfl w) (decide_eq_true Jv)) (zn (zt rfl rfl (zq ?_)))
   refine Go1.drawS 2 [(0, .pure), (1, .stable), (2, .pure), (4, .stable), (5, .pure), (3, .loud), (6, .loud), (7, .pure), (8, .loud), (9, .last), (10, .pure), (11, .last)] mixed (by kernel_rfl) ?_
   intro aak Ue
   have AI := Stp.same hO Ue
   replace hO := AI.own
   refine GoQ.pure rfl (op_fieldAddr Try.underlying29 rfl ti27 rfl (by decide)) rfl rfl ?_
   refine GoQ.stable rfl (oblk (i := 7) 4 hO rfl rfl Try.underlying27 rfl rfl) rfl rfl ?_
   refine GoQ.pure rfl (op_move rfl) rfl rfl ?_
   refine GoQ.stable rfl (oblkAgg (vs := [.int .i64 ((ix a0 (0 : Int)).length : Int), .bool true, .slice dh dq di, .slice j5 iX j6, .slice jS jh jT, .slice jf je jg, .slice none 0 0, .slice iU jd iV, .int .i64 (0 : Int)]) (i := 0) 4 hO rfl rfl Try.underlying29 rfl ti29 rfl) rfl rfl ?_
   refine GoQ.pure rfl (op_move rfl) rfl rfl ?_
   refine GoQ.call rfl (op_call body55 rfl (walk_ref12_letter hO.lt H)) (fun v w hr => by obtain ⟨_, _, hs, _, _⟩ := hr; assumption) rfl rfl ?_
   rintro aaW Nl ⟨r412, rfl, Jw, MS, H⟩
   have iO := Stp.same hO Jw
   replace hO := iO.own
   have Uf := t2lend 5 hO rfl
   have Ug := t2neq 5 hO rfl
   have hOc420 := hO.drop 5
   have Z22 := (AH.ch.trans AI.ch).trans iO.ch
   replace gy := gy.ch Z22
   have hobt := rowlend 3 hOc420 rfl (gy.ch (Owns.dropCh _ _ 5))
   obtain ⟨Uh, Ui⟩ := hobt
   have hOc423 := hOc420.drop 3
   replace fx := fx.ch Z22
   have hobt := rowlend 2 hOc423 rfl ((fx.ch (Owns.dropCh _ _ 5)).ch (Owns.dropCh _ _ 3))
   obtain ⟨Uj, Uk⟩ := hobt
   have hOc426 := hOc423.drop 2
   replace eU := eU.ch Z22
   have hobt := rowlend 1 hOc426 rfl (((eU.ch (Owns.dropCh _ _ 5)).ch (Owns.dropCh _ _ 3)).ch (Owns.dropCh _ _ 2))
   obtain ⟨Ul, Um⟩ := hobt
   have hOc429 := hOc426.drop 1
   replace dK := dK.ch Z22
   have hobt := rowlend 0 hOc429 rfl ((((dK.ch (Owns.dropCh _ _ 5)).ch (Owns.dropCh _ _ 3)).ch (Owns.dropCh _ _ 2)).ch (Owns.dropCh _ _ 1))
   obtain ⟨Un, Uo⟩ := hobt
   have hOc432 := hOc429.drop 0
   refine GoQ.call rfl (op_call body40 (show ([.agg #[.int .i64 ((ix a0 (0 : Int)).length : Int), .bool true, .slice dh dq di, .slice j5 iX j6, .slice jS jh jT, .slice jf je jg, .slice none 0 0, .slice iU jd iV, .int .i64 (0 : Int)], .int .i64 r402] : List Value) = [.agg #[.int .i64 ((ix a0 (0 : Int)).length : Int), .bool true, .slice dh r38.length di, .slice j5 d_386.length j6, .slice jS d_380.length jT, .slice jf d_374.length jg, .slice none 0 0, .slice iU d_368.length iV, .int .i64 (0 : Int)], .int .i64 r402] from by rw [← Ug, ← Ui, ← Uk, ← Um, ← Uo]) (walk_ref12_Word (e := (⟨((ix a0 (0 : Int)).length : Int), true, r38, d_386, d_380, d_374, [], d_368, (0 : Int)⟩ : Enum)) hOc432.lt ((((Uf.ch (Owns.dropCh _ _ 3)).ch (Owns.dropCh _ _ 2)).ch (Owns.dropCh _ _ 1)).ch (Owns.dropCh _ _ 0)) (((Uh.ch (Owns.dropCh _ _ 2)).ch (Owns.dropCh _ _ 1)).ch (Owns.dropCh _ _ 0)) ((Uj.ch (Owns.dropCh _ _ 1)).ch (Owns.dropCh _ _ 0)) (Ul.ch (Owns.dropCh _ _ 0)) (ISl.null _ _ _) Un H)) (fun v w hr => by obtain ⟨_, _, hs, _, _⟩ := hr; assumption) rfl rfl ?_
   rintro agh aam ⟨r433, rfl, Up, MT, H⟩
   have AJ := Stp.same hO Up
   replace hO := AJ.own
   refine GoQ.pure rfl (op_build Try.underlying39 ti39 (pl := [(0, 1), (1, 1)]) (vs := [(0, .string (gstr r412)), (1, .string (gstr r433))]) (cs := #[.string (gstr r412), .string (gstr r433)]) (by kernel_rfl) rfl (by kernel_rfl)) rfl rfl ?_
   have hobt := obuildN (r := rpRule) (n := 1) (parts := [(0, .agg #[.string (gstr r412), .string (gstr r433)])]) (vs := [.string (gstr r412), .string (gstr r433)]) (xs := [(⟨r412, r433⟩ : Rule)]) Try.underlying27 ti39 hO (by decide) (by decide) (by kernel_rfl) (Els.flat1 (⟨r412, r433⟩ : Rule) ⟨MS, MT⟩) rfl
   obtain ⟨agi, agj, AK, Uq, Ur, Ph⟩ := hobt
   refine GoQ.loud rfl (Ph rfl) Ur rfl rfl ?_
   replace hO := AK.own
   have hobt := freeze 0 hO rfl Uq
   obtain ⟨hO1, Dw, Fg, Us⟩ := hobt
   dsimp only [eS, eZ] at hO1 Dw Fg
   replace hB := (((((hB.trans AH.fr).trans AI.fr).trans iO.fr).trans AJ.fr).trans AK.fr).trans (Owns.dropFr _ _ 0)
   dsimp only [eS, eZ] at hB
   replace hO := hO1; clear hO1
   obtain ⟨aaX, H⟩ := H
   have Z23 := (AJ.ch.trans AK.ch).trans Dw
   replace dK := dK.ch Z23
   have hobt := oapp Try.underlying27 ti39 rfl 0 hO rfl dK Fg Us aaX (by decide)
   obtain ⟨agk, Lz, LA, Ut, iM, Hb, Pi⟩ := hobt
   dsimp only [sS, sZ] at iM Hb
   refine GoQ.last rfl (Pi (by exact rfl) (by exact rfl)) rfl rfl ?_
   replace hO := iM.own
   refine GoQ.pure rfl (op_fieldAddr Try.underlying29 rfl ti27 rfl (by decide)) rfl rfl ?_
   have hobt := oblkSt2 (v := .slice Lz (jd + 1) LA) (i := 7) (cs' := #[.int .i64 ((ix a0 (0 : Int)).length : Int), .bool true, .slice dh dq di, .slice j5 iX j6, .slice jS jh jT, .slice jf je jg, .slice none 0 0, .slice Lz (jd + 1) LA, .int .i64 (0 : Int)]) 4 hO rfl rfl rfl rfl
   obtain ⟨aaY, oR, Pj⟩ := hobt
   dsimp only [sS, sZ] at oR
   refine GoQ.last rfl (Pj Try.underlying27 rfl ti27 (by exact rfl) (by exact rfl)) rfl rfl ?_
   replace hO := oR.own
   refine GoQ.nil ?_
   refine Go1.exit rfl ?_
   refine Go1.cut [(4, .pointer (some ⟨B2, 0, none⟩)), (6, .pointer (some ⟨b49, 0, none⟩)), (7, .int .i64 (0 : Int)), (42, .slice si a0.length sj), (43, .int .i64 (a0.length : Int)), (44, .int .i64 (k2_367 : Int))] ⟨rfl, rfl, rfl, rfl, rfl, rfl, trivial⟩ ?_
   intro σ _
   refine zr ?_
   have Z24 := ((((Z22.trans AJ.ch).trans AK.ch).trans Dw).trans iM.ch).trans oR.ch
   replace aL := aL.ch Z24
   refine zo (op_add rfl rfl (wrap_i64 (natbd Bz aL.bd))) (zm rfl (zn ?_))
   replace Hb := Hb.ch oR.ch
   replace hB := (hB.trans iM.fr).trans oR.fr
   have Z25 := (Z23.trans iM.ch).trans oR.ch
   replace eU := eU.ch Z25
   replace fx := fx.ch Z25
   replace gy := gy.ch Z25
   exact hX2 _ H _ _ ⟨jd + 1, Lz, LA, Ut, je, jf, jg, rX, jh, jS, jT, qz, iX, j5, j6, xb, ⟨rfl, rfl, rfl, rfl, rfl, rfl, trivial⟩, hO, Hb, eU, fx, gy, aL, hB⟩
  replace H := ifn Jv H
  refine zo (fun w => opB (op_geq rfl rfl w) (decide_eq_false Jv)) (zn (zf rfl rfl (zk ?_)))
  refine Go1.drawA (CSv.tr [(some ⟨b49, 3, none⟩), (some ⟨b49, 4, none⟩), (some ⟨b49, 5, none⟩)]) A 1 [(0, .pure), (1, .stable), (3, .pure), (7, .pure), (8, .stable), (9, .pure), (12, .pure), (13, .stable), (14, .pure), (2, .alloc), (4, .loud), (5, .alloc), (6, .loud), (17, .pure), (10, .alloc), (11, .loud), (15, .alloc), (16, .loud), (18, .last), (19, .pure), (20, .last), (21, .pure), (22, .last)] mixed (by kernel_rfl) trivial hO.bd ?_
  intro agl Uu
  have AM := Stp.same hO Uu
  replace hO := AM.own
  have Hc := hO.le
  replace hB := (hB.trans AH.fr).trans AM.fr
  have hw464 := hB.ch.size
  refine GoQA.pure rfl (op_fieldAddr Try.underlying29 rfl ti22 rfl (by decide)) rfl rfl ?_
  refine GoQA.stable rfl (loadV (.head _) rfl (blkCell 4 hO rfl rfl) Try.underlying22 rfl rfl) rfl rfl ?_
  refine GoQA.pure rfl (op_move rfl) rfl rfl ?_
  refine GoQA.pure rfl (op_fieldAddr Try.underlying29 rfl ti26 rfl (by decide)) rfl rfl ?_
  refine GoQA.stable rfl (loadV (.tail _ (.head _)) rfl (blkCell 4 hO rfl rfl) Try.underlying26 rfl rfl) rfl rfl ?_
  refine GoQA.pure rfl (op_move rfl) rfl rfl ?_
  refine GoQA.pure rfl (op_fieldAddr Try.underlying29 rfl ti26 rfl (by decide)) rfl rfl ?_
  refine GoQA.stable rfl (loadV (.tail _ (.tail _ (.head _))) rfl (blkCell 4 hO rfl rfl) Try.underlying26 rfl rfl) rfl rfl ?_
  refine GoQA.pure rfl (op_move rfl) rfl rfl ?_
  refine GoQA.alloc rfl rfl (alBuild (n := 0) (parts := []) (vs := []) Try.underlying26 ti3 (by decide) (by decide) (by decide) (by kernel_rfl) rfl rfl) ?_
  intro Lg A468 Pk A470 Ca Ms hd473 hnb474 hh475
  replace hO := Ca.own hO
  have F6 : Els (Rp.int .i64) (bl [.row 39 2 iU jd iV tO, .row 3 1 jf je jg rX, .row 3 1 jS jh jT qz, .row 26 1 j5 iX j6 xb, .blk b49 (.cells #[.int .i64 ((ix a0 (0 : Int)).length : Int), .bool true, .slice dh dq di, .slice j5 iX j6, .slice jS jh jT, .slice jf je jg, .slice none 0 0, .slice iU jd iV, .int .i64 (0 : Int)] 29 (0, 0)), t2 (Fl.int .i64) 26 3 dh dq di gM r38, .blk B2 (.cells #[.int .i64 (0 : Int), .bool false, .slice none 0 0, .slice none 0 0, .slice none 0 0, .slice none 0 0, .slice none 0 0, .slice none 0 0, .int .i64 (0 : Int)] 29 (0, 0))] ++ A468) Lg [] (([] : List Int)) := (Els.nil _ _ _)
  have Dx := gainCh (w := Lg) (E := [.row 39 2 iU jd iV tO, .row 3 1 jf je jg rX, .row 3 1 jS jh jT qz, .row 26 1 j5 iX j6 xb, .blk b49 (.cells #[.int .i64 ((ix a0 (0 : Int)).length : Int), .bool true, .slice dh dq di, .slice j5 iX j6, .slice jS jh jT, .slice jf je jg, .slice none 0 0, .slice iU jd iV, .int .i64 (0 : Int)] 29 (0, 0)), t2 (Fl.int .i64) 26 3 dh dq di gM r38, .blk B2 (.cells #[.int .i64 (0 : Int), .bool false, .slice none 0 0, .slice none 0 0, .slice none 0 0, .slice none 0 0, .slice none 0 0, .slice none 0 0, .int .i64 (0 : Int)] 29 (0, 0))]) (e := .row 3 1 (some ⟨Pk, 0, none⟩) 0 0 []) Ms rfl
  replace hB := hB.trans (Ca.same.fr _)
  replace hB := Fr.gain (e := .row 3 1 (some ⟨Pk, 0, none⟩) 0 0 []) hB (Nat.le_trans hw464 hnb474) rfl
  replace hO := Owns.gain hO Ms Hc rfl hh475 hd473
  refine GoQA.loudI rfl rfl ?_
  intro aap A479 Bf
  replace hO := Bf.own hO
  obtain ⟨aa0, H⟩ := H
  replace F6 := (F6.ch Dx).ch (Bf.ch _)
  have Z26 := (((AH.ch.trans AM.ch).trans (Ca.ch _)).trans Dx).trans (Bf.ch _)
  replace cB := cB.ch Z26
  have hobt := oapp Try.underlying26 ti3 rfl 0 hO rfl F6 cB rfl aa0 (by decide)
  obtain ⟨agm, FP, FQ, acX, iw, He, Pl⟩ := hobt
  dsimp only [sS, sZ] at iw He
  refine GoAt.step (Pl (by exact rfl) (by exact rfl)) (fun _ => (CSv.cons (cs_eq (blkCell 5 hO rfl rfl) (blkCell 5 iw.own rfl rfl)) (CSv.cons (cs_eq (blkCell 5 hO rfl rfl) (blkCell 5 iw.own rfl rfl)) (CSv.cons (cs_eq (blkCell 5 hO rfl rfl) (blkCell 5 iw.own rfl rfl)) (CSv.nil _ _))))) (Stp.kp hO iw) rfl ?_
  replace hO := iw.own
  have hobt := freeze 0 hO rfl He
  obtain ⟨hO1, Dy, gl, Uv⟩ := hobt
  dsimp only [eS, eZ] at hO1 Dy gl
  replace hB := ((hB.trans (Bf.same.fr _)).trans iw.fr).trans (Owns.dropFr _ _ 0)
  dsimp only [eS, eZ] at hB
  replace hO := hO1; clear hO1
  refine GoQA.alloc rfl rfl (alBuild (n := 1) (parts := [(0, .slice FP (0 + ((ix a0 (k2_367 : Int)).length)) FQ)]) (vs := [.slice FP (0 + ((ix a0 (k2_367 : Int)).length)) FQ]) Try.underlying22 ti26 (by decide) (by decide) (by decide) (by kernel_rfl) rfl rfl) ?_
  intro Iw A492 Pm A494 Bg Mt hd497 hnb498 hh499
  replace hO := Bg.own hO
  replace gl := gl.ch (Bg.ch _)
  have Df : Els (Rp.sl (Rp.int .i64)) (bl [.row 39 2 iU jd iV tO, .row 3 1 jf je jg rX, .row 3 1 jS jh jT qz, .row 26 1 j5 iX j6 xb, .blk b49 (.cells #[.int .i64 ((ix a0 (0 : Int)).length : Int), .bool true, .slice dh dq di, .slice j5 iX j6, .slice jS jh jT, .slice jf je jg, .slice none 0 0, .slice iU jd iV, .int .i64 (0 : Int)] 29 (0, 0)), t2 (Fl.int .i64) 26 3 dh dq di gM r38, .blk B2 (.cells #[.int .i64 (0 : Int), .bool false, .slice none 0 0, .slice none 0 0, .slice none 0 0, .slice none 0 0, .slice none 0 0, .slice none 0 0, .int .i64 (0 : Int)] 29 (0, 0))] ++ A492) Iw [.slice FP (0 + ((ix a0 (k2_367 : Int)).length)) FQ] [(([] : List Int)) ++ (ix a0 (k2_367 : Int))] := (Els.cons rfl ⟨FP, FQ, congrArg some (congrArg (fun nn => Value.slice FP nn FQ) Uv), gl⟩ (Els.nil _ _ _) (by simp [mx]))
  have Cb := gainCh (w := Iw) (E := [.row 39 2 iU jd iV tO, .row 3 1 jf je jg rX, .row 3 1 jS jh jT qz, .row 26 1 j5 iX j6 xb, .blk b49 (.cells #[.int .i64 ((ix a0 (0 : Int)).length : Int), .bool true, .slice dh dq di, .slice j5 iX j6, .slice jS jh jT, .slice jf je jg, .slice none 0 0, .slice iU jd iV, .int .i64 (0 : Int)] 29 (0, 0)), t2 (Fl.int .i64) 26 3 dh dq di gM r38, .blk B2 (.cells #[.int .i64 (0 : Int), .bool false, .slice none 0 0, .slice none 0 0, .slice none 0 0, .slice none 0 0, .slice none 0 0, .slice none 0 0, .int .i64 (0 : Int)] 29 (0, 0))]) (e := .row 26 1 (some ⟨Pm, 0, none⟩) 1 1 [.slice FP (0 + ((ix a0 (k2_367 : Int)).length)) FQ]) Mt rfl
  replace hB := hB.trans (Bg.same.fr _)
  replace hB := Fr.gain (e := .row 26 1 (some ⟨Pm, 0, none⟩) 1 1 [.slice FP (0 + ((ix a0 (k2_367 : Int)).length)) FQ]) hB (Nat.le_trans hw464 hnb498) rfl
  replace hO := Owns.gain hO Mt Hc rfl hh499 hd497
  refine GoQA.loudI rfl rfl ?_
  intro Yv A506 Ad
  replace hO := Ad.own hO
  replace Df := (Df.ch Cb).ch (Ad.ch _)
  have hobt := freeze 0 hO rfl Df
  obtain ⟨hO1, Cc, hV, Uw⟩ := hobt
  dsimp only [eS, eZ] at hO1 Cc hV
  replace hB := (hB.trans (Ad.same.fr _)).trans (Owns.dropFr _ _ 0)
  dsimp only [eS, eZ] at hB
  replace hO := hO1; clear hO1
  obtain ⟨GD, H⟩ := H
  have Z27 := (((((Z26.trans iw.ch).trans Dy).trans (Bg.ch _)).trans Cb).trans (Ad.ch _)).trans Cc
  replace gy := gy.ch Z27
  have hobt := oapp Try.underlying22 ti26 rfl 3 hO rfl gy hV Uw GD (by decide)
  obtain ⟨agn, Dz, DA, F7, uk, iu, Pn⟩ := hobt
  dsimp only [sS, sZ] at uk iu
  refine GoAt.step (Pn (by exact rfl) (by exact rfl)) (fun _ => (CSv.cons (cs_eq (blkCell 4 hO rfl rfl) (blkCell 4 uk.own rfl rfl)) (CSv.cons (cs_eq (blkCell 4 hO rfl rfl) (blkCell 4 uk.own rfl rfl)) (CSv.cons (cs_eq (blkCell 4 hO rfl rfl) (blkCell 4 uk.own rfl rfl)) (CSv.nil _ _))))) (Stp.kp hO uk) rfl ?_
  replace hO := uk.own
  refine GoQA.pure rfl (op_fieldAddr Try.underlying29 rfl ti22 rfl (by decide)) rfl rfl ?_
  refine GoQA.alloc rfl rfl (alBuild (n := 1) (parts := [(0, .int .i64 (0 : Int))]) (vs := [.int .i64 (0 : Int)]) Try.underlying26 ti3 (by decide) (by decide) (by decide) (by kernel_rfl) rfl rfl) ?_
  intro Ll A522 Po A524 Ae Mu hd527 hnb528 hh529
  replace hO := Ae.own hO
  have DB : Els (Rp.int .i64) (bl [.row 39 2 iU jd iV tO, .row 3 1 jf je jg rX, .row 3 1 jS jh jT qz, .row 26 1 Dz (iX + 1) DA F7, .blk b49 (.cells #[.int .i64 ((ix a0 (0 : Int)).length : Int), .bool true, .slice dh dq di, .slice j5 iX j6, .slice jS jh jT, .slice jf je jg, .slice none 0 0, .slice iU jd iV, .int .i64 (0 : Int)] 29 (0, 0)), t2 (Fl.int .i64) 26 3 dh dq di gM r38, .blk B2 (.cells #[.int .i64 (0 : Int), .bool false, .slice none 0 0, .slice none 0 0, .slice none 0 0, .slice none 0 0, .slice none 0 0, .slice none 0 0, .int .i64 (0 : Int)] 29 (0, 0))] ++ A522) Ll [.int .i64 (0 : Int)] [(0 : Int)] := (Els.cons rfl rfl (Els.nil _ _ _) (by simp [mx]))
  have Bh := gainCh (w := Ll) (E := [.row 39 2 iU jd iV tO, .row 3 1 jf je jg rX, .row 3 1 jS jh jT qz, .row 26 1 Dz (iX + 1) DA F7, .blk b49 (.cells #[.int .i64 ((ix a0 (0 : Int)).length : Int), .bool true, .slice dh dq di, .slice j5 iX j6, .slice jS jh jT, .slice jf je jg, .slice none 0 0, .slice iU jd iV, .int .i64 (0 : Int)] 29 (0, 0)), t2 (Fl.int .i64) 26 3 dh dq di gM r38, .blk B2 (.cells #[.int .i64 (0 : Int), .bool false, .slice none 0 0, .slice none 0 0, .slice none 0 0, .slice none 0 0, .slice none 0 0, .slice none 0 0, .int .i64 (0 : Int)] 29 (0, 0))]) (e := .row 3 1 (some ⟨Po, 0, none⟩) 1 1 [.int .i64 (0 : Int)]) Mu rfl
  replace hB := (hB.trans uk.fr).trans (Ae.same.fr _)
  replace hB := Fr.gain (e := .row 3 1 (some ⟨Po, 0, none⟩) 1 1 [.int .i64 (0 : Int)]) hB (Nat.le_trans hw464 hnb528) rfl
  replace hO := Owns.gain hO Mu Hc rfl hh529 hd527
  refine GoQA.loudI rfl rfl ?_
  intro ago A533 zA
  replace hO := zA.own hO
  replace DB := (DB.ch Bh).ch (zA.ch _)
  have hobt := freeze 0 hO rfl DB
  obtain ⟨hO1, Bi, kG, Ux⟩ := hobt
  dsimp only [eS, eZ] at hO1 Bi kG
  replace hB := (hB.trans (zA.same.fr _)).trans (Owns.dropFr _ _ 0)
  dsimp only [eS, eZ] at hB
  replace hO := hO1; clear hO1
  obtain ⟨aa1, H⟩ := H
  have Z28 := ((((Z27.trans uk.ch).trans (Ae.ch _)).trans Bh).trans (zA.ch _)).trans Bi
  replace fx := fx.ch Z28
  have hobt := oapp Try.underlying26 ti3 rfl 2 hO rfl fx kG Ux aa1 (by decide)
  obtain ⟨agp, GE, GF, Jx, tE, lh, Pp⟩ := hobt
  dsimp only [sS, sZ] at tE lh
  refine GoAt.step (Pp (by exact rfl) (by exact rfl)) (fun _ => (CSv.cons (cs_eq (blkCell 4 hO rfl rfl) (blkCell 4 tE.own rfl rfl)) (CSv.cons (cs_eq (blkCell 4 hO rfl rfl) (blkCell 4 tE.own rfl rfl)) (CSv.cons (cs_eq (blkCell 4 hO rfl rfl) (blkCell 4 tE.own rfl rfl)) (CSv.nil _ _))))) (Stp.kp hO tE) rfl ?_
  replace hO := tE.own
  refine GoQA.alloc rfl rfl (alBuild (n := 1) (parts := [(0, .int .i64 (k2_367 : Int))]) (vs := [.int .i64 (k2_367 : Int)]) Try.underlying26 ti3 (by decide) (by decide) (by decide) (by kernel_rfl) rfl rfl) ?_
  intro Pq A549 Pr A551 zB Mv hd554 hnb555 hh556
  replace hO := zB.own hO
  have dl : Els (Rp.int .i64) (bl [.row 39 2 iU jd iV tO, .row 3 1 jf je jg rX, .row 3 1 GE (jh + 1) GF Jx, .row 26 1 Dz (iX + 1) DA F7, .blk b49 (.cells #[.int .i64 ((ix a0 (0 : Int)).length : Int), .bool true, .slice dh dq di, .slice j5 iX j6, .slice jS jh jT, .slice jf je jg, .slice none 0 0, .slice iU jd iV, .int .i64 (0 : Int)] 29 (0, 0)), t2 (Fl.int .i64) 26 3 dh dq di gM r38, .blk B2 (.cells #[.int .i64 (0 : Int), .bool false, .slice none 0 0, .slice none 0 0, .slice none 0 0, .slice none 0 0, .slice none 0 0, .slice none 0 0, .int .i64 (0 : Int)] 29 (0, 0))] ++ A549) Pq [.int .i64 (k2_367 : Int)] [(k2_367 : Int)] := (Els.cons rfl rfl (Els.nil _ _ _) (by simp [mx]))
  have Af := gainCh (w := Pq) (E := [.row 39 2 iU jd iV tO, .row 3 1 jf je jg rX, .row 3 1 GE (jh + 1) GF Jx, .row 26 1 Dz (iX + 1) DA F7, .blk b49 (.cells #[.int .i64 ((ix a0 (0 : Int)).length : Int), .bool true, .slice dh dq di, .slice j5 iX j6, .slice jS jh jT, .slice jf je jg, .slice none 0 0, .slice iU jd iV, .int .i64 (0 : Int)] 29 (0, 0)), t2 (Fl.int .i64) 26 3 dh dq di gM r38, .blk B2 (.cells #[.int .i64 (0 : Int), .bool false, .slice none 0 0, .slice none 0 0, .slice none 0 0, .slice none 0 0, .slice none 0 0, .slice none 0 0, .int .i64 (0 : Int)] 29 (0, 0))]) (e := .row 3 1 (some ⟨Pr, 0, none⟩) 1 1 [.int .i64 (k2_367 : Int)]) Mv rfl
  replace hB := (hB.trans tE.fr).trans (zB.same.fr _)
  replace hB := Fr.gain (e := .row 3 1 (some ⟨Pr, 0, none⟩) 1 1 [.int .i64 (k2_367 : Int)]) hB (Nat.le_trans hw464 hnb555) rfl
  replace hO := Owns.gain hO Mv Hc rfl hh556 hd554
  refine GoQA.loudI rfl rfl ?_
  intro agq A560 yG
  replace hO := yG.own hO
  replace dl := (dl.ch Af).ch (yG.ch _)
  have hobt := freeze 0 hO rfl dl
  obtain ⟨hO1, qd, jP, Jy⟩ := hobt
  dsimp only [eS, eZ] at hO1 qd jP
  replace hB := (hB.trans (yG.same.fr _)).trans (Owns.dropFr _ _ 0)
  dsimp only [eS, eZ] at hB
  replace hO := hO1; clear hO1
  obtain ⟨HW, H⟩ := H
  have Z29 := ((((Z28.trans tE.ch).trans (zB.ch _)).trans Af).trans (yG.ch _)).trans qd
  replace eU := eU.ch Z29
  have hobt := oapp Try.underlying26 ti3 rfl 1 hO rfl eU jP Jy HW (by decide)
  obtain ⟨aa2, FS, FT, Jz, iA, kO, HX⟩ := hobt
  dsimp only [sS, sZ] at iA kO
  refine GoAt.step (HX (by exact rfl) (by exact rfl)) (fun _ => (CSv.cons (cs_eq (blkCell 4 hO rfl rfl) (blkCell 4 iA.own rfl rfl)) (CSv.cons (cs_eq (blkCell 4 hO rfl rfl) (blkCell 4 iA.own rfl rfl)) (CSv.cons (cs_eq (blkCell 4 hO rfl rfl) (blkCell 4 iA.own rfl rfl)) (CSv.nil _ _))))) (Stp.kp hO iA) rfl ?_
  replace hO := iA.own
  refine GoQA.lastI rfl rfl ?_
  intro aa3 A575 yH
  replace hO := yH.own hO
  have hobt := oblkSt2 (v := .slice Dz (iX + 1) DA) (i := 3) (cs' := #[.int .i64 ((ix a0 (0 : Int)).length : Int), .bool true, .slice dh dq di, .slice Dz (iX + 1) DA, .slice jS jh jT, .slice jf je jg, .slice none 0 0, .slice iU jd iV, .int .i64 (0 : Int)]) 4 hO rfl rfl rfl rfl
  obtain ⟨aa4, ul, Ps⟩ := hobt
  dsimp only [sS, sZ] at ul
  refine GoAt.step (Ps Try.underlying22 rfl ti22 (by exact rfl) (by exact rfl)) (fun h => nomatch h) (Stp.kp hO ul) rfl ?_
  replace hO := ul.own
  refine GoQA.pure rfl (op_fieldAddr Try.underlying29 rfl ti26 rfl (by decide)) rfl rfl ?_
  refine GoQA.lastI rfl rfl ?_
  intro agr A581 yI
  replace hO := yI.own hO
  have hobt := oblkSt2 (v := .slice GE (jh + 1) GF) (i := 4) (cs' := #[.int .i64 ((ix a0 (0 : Int)).length : Int), .bool true, .slice dh dq di, .slice Dz (iX + 1) DA, .slice GE (jh + 1) GF, .slice jf je jg, .slice none 0 0, .slice iU jd iV, .int .i64 (0 : Int)]) 4 hO rfl rfl rfl rfl
  obtain ⟨ags, um, Pt⟩ := hobt
  dsimp only [sS, sZ] at um
  refine GoAt.step (Pt Try.underlying26 rfl ti26 (by exact rfl) (by exact rfl)) (fun h => nomatch h) (Stp.kp hO um) rfl ?_
  replace hO := um.own
  refine GoQA.pure rfl (op_fieldAddr Try.underlying29 rfl ti26 rfl (by decide)) rfl rfl ?_
  refine GoQA.lastI rfl rfl ?_
  intro agt A587 yJ
  replace hO := yJ.own hO
  have hobt := oblkSt2 (v := .slice FS (je + 1) FT) (i := 5) (cs' := #[.int .i64 ((ix a0 (0 : Int)).length : Int), .bool true, .slice dh dq di, .slice Dz (iX + 1) DA, .slice GE (jh + 1) GF, .slice FS (je + 1) FT, .slice none 0 0, .slice iU jd iV, .int .i64 (0 : Int)]) 4 hO rfl rfl rfl rfl
  obtain ⟨agu, un, Pu⟩ := hobt
  dsimp only [sS, sZ] at un
  refine GoAt.step (Pu Try.underlying26 rfl ti26 (by exact rfl) (by exact rfl)) (fun h => nomatch h) (Stp.kp hO un) rfl ?_
  replace hO := un.own
  refine GoQA.nil ?_
  intro agv A593 yK zC
  replace hO := yK.own hO
  replace hO := hO.permA zC
  refine Go1.inBlock ?_
  refine Go1.cut [(4, .pointer (some ⟨B2, 0, none⟩)), (6, .pointer (some ⟨b49, 0, none⟩)), (7, .int .i64 (0 : Int)), (42, .slice si a0.length sj), (43, .int .i64 (a0.length : Int)), (44, .int .i64 (k2_367 : Int))] ⟨rfl, rfl, rfl, rfl, rfl, rfl, trivial⟩ ?_
  intro σ _
  refine zr ?_
  have Z30 := ((((((((Z29.trans iA.ch).trans (yH.ch _)).trans ul.ch).trans (yI.ch _)).trans um.ch).trans (yJ.ch _)).trans un.ch).trans (yK.ch _)).trans (permCh zC _)
  replace aL := aL.ch Z30
  refine zo (op_add rfl rfl (wrap_i64 (natbd Bz aL.bd))) (zm rfl (zn ?_))
  replace hB := (((((((hB.trans iA.fr).trans (yH.same.fr _)).trans ul.fr).trans (yI.same.fr _)).trans um.fr).trans (yJ.same.fr _)).trans un.fr).trans (yK.same.fr _)
  have Z31 := (((((((yH.ch _).trans ul.ch).trans (yI.ch _)).trans um.ch).trans (yJ.ch _)).trans un.ch).trans (yK.ch _)).trans (permCh zC _)
  replace kO := kO.ch Z31
  have Z32 := ((((((((((((zB.ch _).trans Af).trans (yG.ch _)).trans qd).trans iA.ch).trans (yH.ch _)).trans ul.ch).trans (yI.ch _)).trans um.ch).trans (yJ.ch _)).trans un.ch).trans (yK.ch _)).trans (permCh zC _)
  replace lh := lh.ch Z32
  have Z33 := (((((((((((((((((Ae.ch _).trans Bh).trans (zA.ch _)).trans Bi).trans tE.ch).trans (zB.ch _)).trans Af).trans (yG.ch _)).trans qd).trans iA.ch).trans (yH.ch _)).trans ul.ch).trans (yI.ch _)).trans um.ch).trans (yJ.ch _)).trans un.ch).trans (yK.ch _)).trans (permCh zC _)
  replace iu := iu.ch Z33
  replace dK := dK.ch Z30
  exact hX2 _ H _ _ ⟨jd, iU, iV, tO, je + 1, FS, FT, Jz, jh + 1, GE, GF, Jx, iX + 1, Dz, DA, F7, ⟨rfl, rfl, rfl, rfl, rfl, rfl, trivial⟩, hO, dK, kO, lh, iu, aL, hB⟩
 replace H := ifn Bz H
 refine zo (fun w => opB (op_lss rfl rfl w) (decide_eq_false Bz)) (zn (zq (zf rfl rfl ?_)))
 refine Go1.exit rfl ?_
 refine zq (zr (zs (oblkAgg (vs := [.int .i64 ((ix a0 (0 : Int)).length : Int), .bool true, .slice dh dq di, .slice j5 iX j6, .slice jS jh jT, .slice jf je jg, .slice none 0 0, .slice iU jd iV, .int .i64 (0 : Int)]) (i := 0) 4 hO rfl rfl Try.underlying29 rfl ti29 rfl) ?_))
 have hobt := oblkStAgg (us := [.int .i64 ((ix a0 (0 : Int)).length : Int), .bool true, .slice dh dq di, .slice j5 iX j6, .slice jS jh jT, .slice jf je jg, .slice none 0 0, .slice iU jd iV, .int .i64 (0 : Int)]) (o := 0) (cs' := #[.int .i64 ((ix a0 (0 : Int)).length : Int), .bool true, .slice dh dq di, .slice j5 iX j6, .slice jS jh jT, .slice jf je jg, .slice none 0 0, .slice iU jd iV, .int .i64 (0 : Int)]) 6 hO rfl rfl (Nat.le_of_ble_eq_true rfl) rfl
 obtain ⟨aa5, AO, Pv⟩ := hobt
 dsimp only [sS, sZ] at AO
 refine zg (Pv ti29 (by exact rfl) (by exact rfl) rfl) ?_
 replace hO := AO.own
 refine za rfl (zn ?_)
 have hobt := t2freezeA 5 hO rfl
 obtain ⟨hO1, Fh, Ag, Uy⟩ := hobt
 dsimp only [eS, eZ] at hO1 Fh Ag
 replace hB := (hB.trans AO.fr).trans (Owns.dropFr _ _ 5)
 dsimp only [eS, eZ] at hB
 replace hO := hO1; clear hO1
 replace gy := (gy.ch AO.ch).ch Fh
 have hobt := freeze 3 hO rfl gy
 obtain ⟨hO1, Fi, Cd, Uz⟩ := hobt
 dsimp only [eS, eZ] at hO1 Fi Cd
 replace hB := hB.trans (Owns.dropFr _ _ 3)
 dsimp only [eS, eZ] at hB
 replace hO := hO1; clear hO1
 have Z34 := (AO.ch.trans Fh).trans Fi
 replace fx := fx.ch Z34
 have hobt := freeze 2 hO rfl fx
 obtain ⟨hO1, Fj, Fk, UA⟩ := hobt
 dsimp only [eS, eZ] at hO1 Fj Fk
 replace hB := hB.trans (Owns.dropFr _ _ 2)
 dsimp only [eS, eZ] at hB
 replace hO := hO1; clear hO1
 replace eU := (eU.ch Z34).ch Fj
 have hobt := freeze 1 hO rfl eU
 obtain ⟨hO1, Fm, Hf, UB⟩ := hobt
 dsimp only [eS, eZ] at hO1 Fm Hf
 replace hB := hB.trans (Owns.dropFr _ _ 1)
 dsimp only [eS, eZ] at hB
 replace hO := hO1; clear hO1
 replace dK := ((dK.ch Z34).ch Fj).ch Fm
 have hobt := freeze 0 hO rfl dK
 obtain ⟨hO1, Fn, Mw, UC⟩ := hobt
 dsimp only [eS, eZ] at hO1 Fn Mw
 replace hB := hB.trans (Owns.dropFr _ _ 0)
 dsimp only [eS, eZ] at hB
 replace hO := hO1; clear hO1
 refine Go1.retC2 Try.func22 rfl rfl (run_loadBlk (vs := [.int .i64 ((ix a0 (0 : Int)).length : Int), .bool true, .slice dh dq di, .slice j5 iX j6, .slice jS jh jT, .slice jf je jg, .slice none 0 0, .slice iU jd iV, .int .i64 (0 : Int)]) 1 hO rfl rfl Try.underlying29 rfl ti29) ?_
 replace Hf := Hf.ch Fn
 replace Fk := (Fk.ch Fm).ch Fn
 have Z35 := (Fj.trans Fm).trans Fn
 replace Cd := Cd.ch Z35
 have Z36 := ((Fi.trans Fj).trans Fm).trans Fn
 replace Ag := Ag.ch Z36
 exact ⟨(⟨((ix a0 (0 : Int)).length : Int), true, r38, d_386, d_380, d_374, ([] : List (List Int)), d_368, (0 : Int)⟩ : Enum), (0 : Int), dh, di, j5, j6, jS, jT, jf, jg, none, 0, iU, iV, (congrArg (fun l => Value.tuple (List.toArray l)) (cons_eq (congrArg (fun l => Value.agg (List.toArray l)) (cons_eq rfl (cons_eq rfl (cons_eq (congrArg (fun nn => Value.slice dh nn di) Uy) (cons_eq (congrArg (fun nn => Value.slice j5 nn j6) Uz) (cons_eq (congrArg (fun nn => Value.slice jS nn jT) UA) (cons_eq (congrArg (fun nn => Value.slice jf nn jg) UB) (cons_eq rfl (cons_eq (congrArg (fun nn => Value.slice iU nn iV) UC) (cons_eq rfl rfl)))))))))) (cons_eq rfl rfl))), hB.same, (Ag.ch (Ch.weak _ _ _)), (Cd.ch (Ch.weak _ _ _)), (Fk.ch (Ch.weak _ _ _)), (Hf.ch (Ch.weak _ _ _)), (ISl.null _ _ _), (Mw.ch (Ch.weak _ _ _)), H⟩
theorem body43 : Body Try.prog 43 := ⟨Try.f43, Try.func43, rfl, by kernel_rfl⟩
theorem walk_ref11_Compose {A : List Nat} {w0 : World} {p_f : Option Addr} {c_f : Nat} {p_g : Option Addr} {c_g : Nat} {f : List Int} {g : List Int} (hA : ∀ b ∈ A, b < w0.heap.size) (h_f : ISl (Rp.int .i64) A w0 p_f c_f f) (h_g : ISl (Rp.int .i64) A w0 p_g c_g g) {K : List Int → Prop} (H : ref11_Compose f g K) :
    CallsV Try.prog 43 #[.slice p_f f.length c_f, .slice p_g g.length c_g] w0 (fun v w' => ∃ (r0 : List Int), ∃ (wD : Option Addr), ∃ (wE : Nat), v = .slice wD r0.length wE ∧ Same w0 w' ∧ ISl (Rp.int .i64) A w' wD wE r0 ∧ K r0) := by
 refine CallsV.of (l := [.slice p_f f.length c_f, .slice p_g g.length c_g]) Try.func43 rfl Try.ntmps43 rfl ?_
 have hO := Owns.start hA
 have hB := Fr.refl (bl []) w0
 unfold ref11_Compose at H
 refine zq (zr (za rfl (zn (zq (zr ?_)))))
 refine zm rfl (zo (op_len Try.underlying26 rfl) ?_)
 replace h_f := h_f.ch (Ch.start A w0)
 replace H := H h_f.bd
 obtain ⟨h8, H⟩ := H
 obtain ⟨h9, H⟩ := H
 have hobt := omake (n := (f.length : Int)) (r := Rp.int .i64) (d := (0 : Int)) Try.underlying26 ti3 (fun _ _ => rfl) rfl hO h8 h9 (by decide)
 obtain ⟨w1, p2, vs3, o6, hE5, hs6, Br⟩ := hobt
 refine zg (Br rfl rfl) ?_
 replace hO := o6.own
 refine za rfl (zn (zq (zq (zr (zm rfl ?_)))))
 refine zo (op_len Try.underlying26 rfl) (zm rfl (zn (zb ?_)))
 replace h_f := h_f.ch o6.ch
 replace hB := hB.trans o6.fr
 replace h_g := (h_g.ch (Ch.start A w0)).ch o6.ch
 refine Go1.loopW (S := Nat × List Int) (fun s σ w => match s with | (k1_12, out1_13) => ∃ (li : List Value), agrees σ [(1, .slice p_g g.length c_g), (5, .slice p2 f.length f.length), (11, .slice p_f f.length c_f), (12, .int .i64 (f.length : Int)), (13, .int .i64 (k1_12 : Int))] ∧ (fun Z0 => Owns w0.heap.size w Z0 A ∧ Els (Rp.int .i64) (bl Z0 ++ A) w li out1_13 ∧ ISl (Rp.int .i64) (bl Z0 ++ A) w p_f c_f f ∧ ISl (Rp.int .i64) (bl Z0 ++ A) w p_g c_g g ∧ Fr (bl []) w0 (bl Z0) w) [.row 3 1 p2 f.length f.length li]) H ⟨vs3, ⟨rfl, rfl, rfl, rfl, rfl, trivial⟩, hO, hE5, h_f, h_g, hB⟩ ?_
 intro X1
 refine prE fun k1_12 => fun out1_13 => ?_
 intro H hX1 σ w11
 refine exE fun li => andE fun hag => andE fun hO => andE fun ca => andE fun h_f => andE fun h_g => fun hB => ?_
 dsimp only at H
 refine Go1.keep [(1, .slice p_g g.length c_g), (5, .slice p2 f.length f.length), (11, .slice p_f f.length c_f), (12, .int .i64 (f.length : Int)), (13, .int .i64 (k1_12 : Int))] hag ?_
 refine zq (zr ?_)
 by_cases h16 : (k1_12 : Int) < (f.length : Int)
 ·replace H := ifp h16 H
  refine zo (fun w => opB (op_lss rfl rfl w) (decide_eq_true h16)) (zn (zq (zt rfl rfl (zk (zq ?_)))))
  refine zb (zq (zr (zm rfl ?_)))
  obtain ⟨h17, H⟩ := H
  obtain ⟨h18, H⟩ := H
  refine zo (op_index Try.underlying26 ti3 rfl rfl h17 h18 (h_f.some_ h17 h18)) (zs (ldInt h_f h17 h18 Try.underlying3 rfl rfl) (za rfl (za rfl (zn (zr ?_)))))
  refine zm rfl (zm rfl (zm rfl (zm rfl ?_)))
  obtain ⟨h19, H⟩ := H
  obtain ⟨h20, H⟩ := H
  refine zo (op_index Try.underlying26 ti3 rfl rfl h19 h20 (h_g.some_ h19 h20)) (zs (ldInt h_g h19 h20 Try.underlying3 rfl rfl) ?_)
  obtain ⟨h21, H⟩ := H
  obtain ⟨h22, H⟩ := H
  refine zo (op_index Try.underlying26 ti3 rfl rfl h21 (ltn (ca.neq hO 0 rfl) h22) (ca.psome hO 0 rfl h21 h22)) ?_
  have hobt := ost (r := Rp.int .i64) rfl 0 hO rfl ca h21 h22 (v := .int .i64 (ix g (ix f (k1_12 : Int)))) (u := (ix g (ix f (k1_12 : Int)))) rfl rfl
  obtain ⟨w23, aa6, uA, aa7, UD⟩ := hobt
  refine zg (UD Try.underlying3 rfl ti3 (by exact rfl) (by exact rfl)) ?_
  replace hO := uA.own
  refine zn ?_
  refine Go1.inBlock ?_
  refine zr ?_
  replace h_f := h_f.ch uA.ch
  refine zo (op_add rfl rfl (wrap_i64 (natbd h16 h_f.bd))) (zm rfl (zn ?_))
  replace h_g := h_g.ch uA.ch
  replace hB := hB.trans uA.fr
  exact hX1 _ H _ _ ⟨aa6, ⟨rfl, rfl, rfl, rfl, rfl, trivial⟩, hO, aa7, h_f, h_g, hB⟩
 replace H := ifn h16 H
 refine zo (fun w => opB (op_lss rfl rfl w) (decide_eq_false h16)) (zn (zq (zf rfl rfl ?_)))
 refine Go1.exit rfl ?_
 refine zq (zr (zm rfl (za rfl (zn ?_))))
 have hobt := freeze 0 hO rfl ca
 obtain ⟨hO1, HS, Bv, Lo⟩ := hobt
 replace hO := hO1; clear hO1
 refine Go1.ret1 Try.func43 rfl ?_
 replace hB := hB.trans (Owns.dropFr _ _ 0)
 exact ⟨out1_13, p2, f.length, (congrArg (fun nn => Value.slice p2 nn f.length) Lo), hB.same, (Bv.ch (Ch.weak _ _ _)), H⟩
end Sg
