/- The walks: each call keeps to its plain transformer. Printed by walkgen.py. -/
import Derived.Test.YtjegjjdfgefkoaaTi
import Derived.Test.YtjegjjdfgefkoaaWEnumerateBuildsc
import Derived.Test.YtjegjjdfgefkoaaWEnumerateBuildsd
import Derived.Test.YtjegjjdfgefkoaaAl
namespace Sg
open Go Go.RowKit Go.Proofs
set_option linter.unusedVariables false
set_option linter.unusedSimpArgs false
set_option maxRecDepth 100000
set_option maxHeartbeats 4000000
theorem body52 : Body Try.prog 52 := ⟨Try.f52, Try.func52, rfl, by kernel_rfl⟩
theorem walk_ref12_process {A : List Nat} {w0 : World} {ap : Option Addr} {aq : Nat} {bY : Option Addr} {b5 : Nat} {bE : Option Addr} {bF : Nat} {cq : Option Addr} {cr : Nat} {b6 : Option Addr} {b7 : Nat} {b8 : Option Addr} {b9 : Nat} {a0 : Enum} {a1 : Int} (hA : ∀ b ∈ A, b < w0.heap.size) (ac : ISl (Rp.sl (Rp.int .i64)) A w0 ap aq a0.Gens) (am : ISl (Rp.sl (Rp.int .i64)) A w0 bY b5 a0.Elems) (ag : ISl (Rp.int .i64) A w0 bE bF a0.Prefix) (ay : ISl (Rp.int .i64) A w0 cq cr a0.Last) (ao : ISl (Rp.sl (Rp.int .i64)) A w0 b6 b7 a0.Right) (ah : ISl (rpRule) A w0 b8 b9 a0.Rules) {K : Enum → Int → Prop} (H : ref12_process a0 a1 K) :
    CallsV Try.prog 52 #[.agg #[.int .i64 a0.Points, .bool a0.Monoid, .slice ap a0.Gens.length aq, .slice bY a0.Elems.length b5, .slice bE a0.Prefix.length bF, .slice cq a0.Last.length cr, .slice b6 a0.Right.length b7, .slice b8 a0.Rules.length b9, .int .i64 a0.Done], .int .i64 a1] w0 (fun v w' => ∃ (r0 : Enum), ∃ (r1 : Int), ∃ (nv : Option Addr), ∃ (nw : Nat), ∃ (lV : Option Addr), ∃ (lW : Nat), ∃ (kh : Option Addr), ∃ (ki : Nat), ∃ (ny : Option Addr), ∃ (nz : Nat), ∃ (lX : Option Addr), ∃ (lY : Nat), ∃ (l5 : Option Addr), ∃ (l7 : Nat), v = .tuple #[.agg #[.int .i64 r0.Points, .bool r0.Monoid, .slice nv r0.Gens.length nw, .slice lV r0.Elems.length lW, .slice kh r0.Prefix.length ki, .slice ny r0.Last.length nz, .slice lX r0.Right.length lY, .slice l5 r0.Rules.length l7, .int .i64 r0.Done], .int .i64 r1] ∧ Same w0 w' ∧ ISl (Rp.sl (Rp.int .i64)) A w' nv nw r0.Gens ∧ ISl (Rp.sl (Rp.int .i64)) A w' lV lW r0.Elems ∧ ISl (Rp.int .i64) A w' kh ki r0.Prefix ∧ ISl (Rp.int .i64) A w' ny nz r0.Last ∧ ISl (Rp.sl (Rp.int .i64)) A w' lX lY r0.Right ∧ ISl (rpRule) A w' l5 l7 r0.Rules ∧ K r0 r1) := by
 refine CallsV.of (l := [.agg #[.int .i64 a0.Points, .bool a0.Monoid, .slice ap a0.Gens.length aq, .slice bY a0.Elems.length b5, .slice bE a0.Prefix.length bF, .slice cq a0.Last.length cr, .slice b6 a0.Right.length b7, .slice b8 a0.Rules.length b9, .int .i64 a0.Done], .int .i64 a1]) Try.func52 rfl Try.ntmps52 rfl ?_
 have hO := Owns.start hA
 have hB := Fr.refl (bl []) w0
 unfold ref12_process at H
 refine zq (zr ?_)
 have hobt := obox (t := 29) (v := .agg #[.int .i64 a0.Points, .bool a0.Monoid, .slice ap a0.Gens.length aq, .slice bY a0.Elems.length b5, .slice bE a0.Prefix.length bF, .slice cq a0.Last.length cr, .slice b6 a0.Right.length b7, .slice b8 a0.Rules.length b9, .int .i64 a0.Done]) (cs := #[.int .i64 a0.Points, .bool a0.Monoid, .slice ap a0.Gens.length aq, .slice bY a0.Elems.length b5, .slice bE a0.Prefix.length bF, .slice cq a0.Last.length cr, .slice b6 a0.Right.length b7, .slice b8 a0.Rules.length b9, .int .i64 a0.Done]) hO rfl
 obtain ⟨w1, B2, eF, hs4, vF⟩ := hobt
 refine zg (vF rfl) ?_
 replace hO := eF.own
 have hobt := oalloc (t := 29) (cs := #[.int .i64 (0 : Int), .bool false, .slice none 0 0, .slice none 0 0, .slice none 0 0, .slice none 0 0, .slice none 0 0, .slice none 0 0, .int .i64 (0 : Int)]) ti29 hO rfl
 obtain ⟨w7, B8, m0, AF, B5⟩ := hobt
 refine GoR.op B5 rfl rfl ?_
 replace hO := m0.own
 refine za rfl (zn (zq ?_))
 refine Go1.drawA (CSv.tr [(some ⟨B2, 0, none⟩), (some ⟨B2, 1, none⟩), (some ⟨B2, 2, none⟩), (some ⟨B2, 3, none⟩), (some ⟨B2, 4, none⟩), (some ⟨B2, 5, none⟩), (some ⟨B2, 6, none⟩), (some ⟨B2, 7, none⟩), (some ⟨B2, 8, none⟩)]) A 1 [(0, .pure), (1, .stable), (2, .pure), (3, .stable), (4, .pure), (5, .stable), (7, .pure), (8, .stable), (11, .pure), (12, .stable), (15, .pure), (16, .stable), (19, .pure), (20, .stable), (23, .pure), (24, .stable), (26, .pure), (27, .stable), (6, .alloc), (9, .loud), (10, .alloc), (13, .loud), (14, .alloc), (17, .loud), (18, .alloc), (21, .loud), (22, .alloc), (25, .loud), (28, .pure), (29, .alloc), (30, .last)] mixed (by kernel_rfl) trivial hO.bd ?_
 intro w13 FA
 have px := Stp.same hO FA
 replace hO := px.own
 have CH := hO.le
 replace hB := ((hB.trans eF.fr).trans m0.fr).trans px.fr
 have hw16 := hB.ch.size
 refine GoQA.pure rfl (op_fieldAddr Try.underlying29 rfl ti3 rfl (by decide)) rfl rfl ?_
 refine GoQA.stable rfl (loadV (.head _) rfl (blkCell 1 hO rfl rfl) Try.underlying3 rfl rfl) rfl rfl ?_
 refine GoQA.pure rfl (op_fieldAddr Try.underlying29 rfl ti4 rfl (by decide)) rfl rfl ?_
 refine GoQA.stable rfl (loadV (.tail _ (.head _)) rfl (blkCell 1 hO rfl rfl) Try.underlying4 rfl rfl) rfl rfl ?_
 refine GoQA.pure rfl (op_fieldAddr Try.underlying29 rfl ti22 rfl (by decide)) rfl rfl ?_
 refine GoQA.stable rfl (loadV (.tail _ (.tail _ (.head _))) rfl (blkCell 1 hO rfl rfl) Try.underlying22 rfl rfl) rfl rfl ?_
 refine GoQA.pure rfl (op_fieldAddr Try.underlying29 rfl ti22 rfl (by decide)) rfl rfl ?_
 refine GoQA.stable rfl (loadV (.tail _ (.tail _ (.tail _ (.head _)))) rfl (blkCell 1 hO rfl rfl) Try.underlying22 rfl rfl) rfl rfl ?_
 refine GoQA.pure rfl (op_fieldAddr Try.underlying29 rfl ti26 rfl (by decide)) rfl rfl ?_
 refine GoQA.stable rfl (loadV (.tail _ (.tail _ (.tail _ (.tail _ (.head _))))) rfl (blkCell 1 hO rfl rfl) Try.underlying26 rfl rfl) rfl rfl ?_
 refine GoQA.pure rfl (op_fieldAddr Try.underlying29 rfl ti26 rfl (by decide)) rfl rfl ?_
 refine GoQA.stable rfl (loadV (.tail _ (.tail _ (.tail _ (.tail _ (.tail _ (.head _)))))) rfl (blkCell 1 hO rfl rfl) Try.underlying26 rfl rfl) rfl rfl ?_
 refine GoQA.pure rfl (op_fieldAddr Try.underlying29 rfl ti22 rfl (by decide)) rfl rfl ?_
 refine GoQA.stable rfl (loadV (.tail _ (.tail _ (.tail _ (.tail _ (.tail _ (.tail _ (.head _))))))) rfl (blkCell 1 hO rfl rfl) Try.underlying22 rfl rfl) rfl rfl ?_
 refine GoQA.pure rfl (op_fieldAddr Try.underlying29 rfl ti27 rfl (by decide)) rfl rfl ?_
 refine GoQA.stable rfl (loadV (.tail _ (.tail _ (.tail _ (.tail _ (.tail _ (.tail _ (.tail _ (.head _)))))))) rfl (blkCell 1 hO rfl rfl) Try.underlying27 rfl rfl) rfl rfl ?_
 refine GoQA.pure rfl (op_fieldAddr Try.underlying29 rfl ti3 rfl (by decide)) rfl rfl ?_
 refine GoQA.stable rfl (loadV (.tail _ (.tail _ (.tail _ (.tail _ (.tail _ (.tail _ (.tail _ (.tail _ (.head _))))))))) rfl (blkCell 1 hO rfl rfl) Try.underlying3 rfl rfl) rfl rfl ?_
 refine GoQA.alloc rfl rfl (alBuild (n := 0) (parts := []) (vs := []) Try.underlying22 ti26 (by decide) (by decide) (by decide) (by kernel_rfl) rfl rfl) ?_
 intro w19 A20 b21 A22 A5 Kl hd25 hnb26 hh27
 replace hO := A5.own hO
 have yN : Els (Rp.sl (Rp.int .i64)) (bl [.blk B8 (.cells #[.int .i64 (0 : Int), .bool false, .slice none 0 0, .slice none 0 0, .slice none 0 0, .slice none 0 0, .slice none 0 0, .slice none 0 0, .int .i64 (0 : Int)] 29 (0, 0)), .blk B2 (.cells #[.int .i64 a0.Points, .bool a0.Monoid, .slice ap a0.Gens.length aq, .slice bY a0.Elems.length b5, .slice bE a0.Prefix.length bF, .slice cq a0.Last.length cr, .slice b6 a0.Right.length b7, .slice b8 a0.Rules.length b9, .int .i64 a0.Done] 29 (0, 0))] ++ A20) w19 [] (([] : List (List Int))) := (Els.nil _ _ _)
 have AG := gainCh (w := w19) (E := [.blk B8 (.cells #[.int .i64 (0 : Int), .bool false, .slice none 0 0, .slice none 0 0, .slice none 0 0, .slice none 0 0, .slice none 0 0, .slice none 0 0, .int .i64 (0 : Int)] 29 (0, 0)), .blk B2 (.cells #[.int .i64 a0.Points, .bool a0.Monoid, .slice ap a0.Gens.length aq, .slice bY a0.Elems.length b5, .slice bE a0.Prefix.length bF, .slice cq a0.Last.length cr, .slice b6 a0.Right.length b7, .slice b8 a0.Rules.length b9, .int .i64 a0.Done] 29 (0, 0))]) (e := .row 26 1 (some ⟨b21, 0, none⟩) 0 0 []) Kl rfl
 replace hB := hB.trans (A5.same.fr _)
 replace hB := Fr.gain (e := .row 26 1 (some ⟨b21, 0, none⟩) 0 0 []) hB (Nat.le_trans hw16 hnb26) rfl
 replace hO := Owns.gain hO Kl CH rfl hh27 hd25
 refine GoQA.loudI rfl rfl ?_
 intro w30 A31 z8
 replace hO := z8.own hO
 obtain ⟨h33, H⟩ := H
 replace yN := (yN.ch AG).ch (z8.ch _)
 have Z1 := ((((((Ch.start A w0).trans eF.ch).trans m0.ch).trans px.ch).trans (A5.ch _)).trans AG).trans (z8.ch _)
 replace am := am.ch Z1
 have hobt := oapp Try.underlying22 ti26 rfl 0 hO rfl yN am rfl h33 (by decide)
 obtain ⟨w34, p35, c36, oX, jv, dO, En⟩ := hobt
 refine GoAt.step (En (by exact rfl) (by exact rfl)) (fun _ => (CSv.cons (cs_eq (blkCell 2 hO rfl rfl) (blkCell 2 jv.own rfl rfl)) (CSv.cons (cs_eq (blkCell 2 hO rfl rfl) (blkCell 2 jv.own rfl rfl)) (CSv.cons (cs_eq (blkCell 2 hO rfl rfl) (blkCell 2 jv.own rfl rfl)) (CSv.cons (cs_eq (blkCell 2 hO rfl rfl) (blkCell 2 jv.own rfl rfl)) (CSv.cons (cs_eq (blkCell 2 hO rfl rfl) (blkCell 2 jv.own rfl rfl)) (CSv.cons (cs_eq (blkCell 2 hO rfl rfl) (blkCell 2 jv.own rfl rfl)) (CSv.cons (cs_eq (blkCell 2 hO rfl rfl) (blkCell 2 jv.own rfl rfl)) (CSv.cons (cs_eq (blkCell 2 hO rfl rfl) (blkCell 2 jv.own rfl rfl)) (CSv.cons (cs_eq (blkCell 2 hO rfl rfl) (blkCell 2 jv.own rfl rfl)) (CSv.nil _ _))))))))))) (Stp.kp hO jv) rfl ?_
 replace hO := jv.own
 refine GoQA.alloc rfl rfl (alBuild (n := 0) (parts := []) (vs := []) Try.underlying26 ti3 (by decide) (by decide) (by decide) (by kernel_rfl) rfl rfl) ?_
 intro w43 A44 b45 A46 z9 Km hd49 hnb50 hh51
 replace hO := z9.own hO
 have DN : Els (Rp.int .i64) (bl [.row 26 1 p35 (0 + a0.Elems.length) c36 oX, .blk B8 (.cells #[.int .i64 (0 : Int), .bool false, .slice none 0 0, .slice none 0 0, .slice none 0 0, .slice none 0 0, .slice none 0 0, .slice none 0 0, .int .i64 (0 : Int)] 29 (0, 0)), .blk B2 (.cells #[.int .i64 a0.Points, .bool a0.Monoid, .slice ap a0.Gens.length aq, .slice bY a0.Elems.length b5, .slice bE a0.Prefix.length bF, .slice cq a0.Last.length cr, .slice b6 a0.Right.length b7, .slice b8 a0.Rules.length b9, .int .i64 a0.Done] 29 (0, 0))] ++ A44) w43 [] (([] : List Int)) := (Els.nil _ _ _)
 have A6 := gainCh (w := w43) (E := [.row 26 1 p35 (0 + a0.Elems.length) c36 oX, .blk B8 (.cells #[.int .i64 (0 : Int), .bool false, .slice none 0 0, .slice none 0 0, .slice none 0 0, .slice none 0 0, .slice none 0 0, .slice none 0 0, .int .i64 (0 : Int)] 29 (0, 0)), .blk B2 (.cells #[.int .i64 a0.Points, .bool a0.Monoid, .slice ap a0.Gens.length aq, .slice bY a0.Elems.length b5, .slice bE a0.Prefix.length bF, .slice cq a0.Last.length cr, .slice b6 a0.Right.length b7, .slice b8 a0.Rules.length b9, .int .i64 a0.Done] 29 (0, 0))]) (e := .row 3 1 (some ⟨b45, 0, none⟩) 0 0 []) Km rfl
 replace hB := ((hB.trans (z8.same.fr _)).trans jv.fr).trans (z9.same.fr _)
 replace hB := Fr.gain (e := .row 3 1 (some ⟨b45, 0, none⟩) 0 0 []) hB (Nat.le_trans hw16 hnb50) rfl
 replace hO := Owns.gain hO Km CH rfl hh51 hd49
 refine GoQA.loudI rfl rfl ?_
 intro w54 A55 yW
 replace hO := yW.own hO
 obtain ⟨h57, H⟩ := H
 replace DN := (DN.ch A6).ch (yW.ch _)
 have Z2 := (((Z1.trans jv.ch).trans (z9.ch _)).trans A6).trans (yW.ch _)
 replace ag := ag.ch Z2
 have hobt := oapp Try.underlying26 ti3 rfl 0 hO rfl DN ag rfl h57 (by decide)
 obtain ⟨w58, p59, c60, rX, oJ, dM, ON⟩ := hobt
 refine GoAt.step (ON (by exact rfl) (by exact rfl)) (fun _ => (CSv.cons (cs_eq (blkCell 3 hO rfl rfl) (blkCell 3 oJ.own rfl rfl)) (CSv.cons (cs_eq (blkCell 3 hO rfl rfl) (blkCell 3 oJ.own rfl rfl)) (CSv.cons (cs_eq (blkCell 3 hO rfl rfl) (blkCell 3 oJ.own rfl rfl)) (CSv.cons (cs_eq (blkCell 3 hO rfl rfl) (blkCell 3 oJ.own rfl rfl)) (CSv.cons (cs_eq (blkCell 3 hO rfl rfl) (blkCell 3 oJ.own rfl rfl)) (CSv.cons (cs_eq (blkCell 3 hO rfl rfl) (blkCell 3 oJ.own rfl rfl)) (CSv.cons (cs_eq (blkCell 3 hO rfl rfl) (blkCell 3 oJ.own rfl rfl)) (CSv.cons (cs_eq (blkCell 3 hO rfl rfl) (blkCell 3 oJ.own rfl rfl)) (CSv.cons (cs_eq (blkCell 3 hO rfl rfl) (blkCell 3 oJ.own rfl rfl)) (CSv.nil _ _))))))))))) (Stp.kp hO oJ) rfl ?_
 replace hO := oJ.own
 refine GoQA.alloc rfl rfl (alBuild (n := 0) (parts := []) (vs := []) Try.underlying26 ti3 (by decide) (by decide) (by decide) (by kernel_rfl) rfl rfl) ?_
 intro w67 A68 b69 A70 yX Kn hd73 hnb74 hh75
 replace hO := yX.own hO
 have DO : Els (Rp.int .i64) (bl [.row 3 1 p59 (0 + a0.Prefix.length) c60 rX, .row 26 1 p35 (0 + a0.Elems.length) c36 oX, .blk B8 (.cells #[.int .i64 (0 : Int), .bool false, .slice none 0 0, .slice none 0 0, .slice none 0 0, .slice none 0 0, .slice none 0 0, .slice none 0 0, .int .i64 (0 : Int)] 29 (0, 0)), .blk B2 (.cells #[.int .i64 a0.Points, .bool a0.Monoid, .slice ap a0.Gens.length aq, .slice bY a0.Elems.length b5, .slice bE a0.Prefix.length bF, .slice cq a0.Last.length cr, .slice b6 a0.Right.length b7, .slice b8 a0.Rules.length b9, .int .i64 a0.Done] 29 (0, 0))] ++ A68) w67 [] (([] : List Int)) := (Els.nil _ _ _)
 have Aa := gainCh (w := w67) (E := [.row 3 1 p59 (0 + a0.Prefix.length) c60 rX, .row 26 1 p35 (0 + a0.Elems.length) c36 oX, .blk B8 (.cells #[.int .i64 (0 : Int), .bool false, .slice none 0 0, .slice none 0 0, .slice none 0 0, .slice none 0 0, .slice none 0 0, .slice none 0 0, .int .i64 (0 : Int)] 29 (0, 0)), .blk B2 (.cells #[.int .i64 a0.Points, .bool a0.Monoid, .slice ap a0.Gens.length aq, .slice bY a0.Elems.length b5, .slice bE a0.Prefix.length bF, .slice cq a0.Last.length cr, .slice b6 a0.Right.length b7, .slice b8 a0.Rules.length b9, .int .i64 a0.Done] 29 (0, 0))]) (e := .row 3 1 (some ⟨b69, 0, none⟩) 0 0 []) Kn rfl
 replace hB := ((hB.trans (yW.same.fr _)).trans oJ.fr).trans (yX.same.fr _)
 replace hB := Fr.gain (e := .row 3 1 (some ⟨b69, 0, none⟩) 0 0 []) hB (Nat.le_trans hw16 hnb74) rfl
 replace hO := Owns.gain hO Kn CH rfl hh75 hd73
 refine GoQA.loudI rfl rfl ?_
 intro w78 A79 ya
 replace hO := ya.own hO
 obtain ⟨h81, H⟩ := H
 replace DO := (DO.ch Aa).ch (ya.ch _)
 have Z3 := (((Z2.trans oJ.ch).trans (yX.ch _)).trans Aa).trans (ya.ch _)
 replace ay := ay.ch Z3
 have hobt := oapp Try.underlying26 ti3 rfl 0 hO rfl DO ay rfl h81 (by decide)
 obtain ⟨w82, p83, c84, uh, eh, dT, OO⟩ := hobt
 dsimp only [sS, sZ] at eh dT
 refine GoAt.step (OO (by exact rfl) (by exact rfl)) (fun _ => (CSv.cons (cs_eq (blkCell 4 hO rfl rfl) (blkCell 4 eh.own rfl rfl)) (CSv.cons (cs_eq (blkCell 4 hO rfl rfl) (blkCell 4 eh.own rfl rfl)) (CSv.cons (cs_eq (blkCell 4 hO rfl rfl) (blkCell 4 eh.own rfl rfl)) (CSv.cons (cs_eq (blkCell 4 hO rfl rfl) (blkCell 4 eh.own rfl rfl)) (CSv.cons (cs_eq (blkCell 4 hO rfl rfl) (blkCell 4 eh.own rfl rfl)) (CSv.cons (cs_eq (blkCell 4 hO rfl rfl) (blkCell 4 eh.own rfl rfl)) (CSv.cons (cs_eq (blkCell 4 hO rfl rfl) (blkCell 4 eh.own rfl rfl)) (CSv.cons (cs_eq (blkCell 4 hO rfl rfl) (blkCell 4 eh.own rfl rfl)) (CSv.cons (cs_eq (blkCell 4 hO rfl rfl) (blkCell 4 eh.own rfl rfl)) (CSv.nil _ _))))))))))) (Stp.kp hO eh) rfl ?_
 replace hO := eh.own
 refine GoQA.alloc rfl rfl (alBuild (n := 0) (parts := []) (vs := []) Try.underlying22 ti26 (by decide) (by decide) (by decide) (by kernel_rfl) rfl rfl) ?_
 intro w91 A92 b93 A94 yb Ko hd97 hnb98 hh99
 replace hO := yb.own hO
 have Cj : Els (Rp.sl (Rp.int .i64)) (bl [.row 3 1 p83 (0 + a0.Last.length) c84 uh, .row 3 1 p59 (0 + a0.Prefix.length) c60 rX, .row 26 1 p35 (0 + a0.Elems.length) c36 oX, .blk B8 (.cells #[.int .i64 (0 : Int), .bool false, .slice none 0 0, .slice none 0 0, .slice none 0 0, .slice none 0 0, .slice none 0 0, .slice none 0 0, .int .i64 (0 : Int)] 29 (0, 0)), .blk B2 (.cells #[.int .i64 a0.Points, .bool a0.Monoid, .slice ap a0.Gens.length aq, .slice bY a0.Elems.length b5, .slice bE a0.Prefix.length bF, .slice cq a0.Last.length cr, .slice b6 a0.Right.length b7, .slice b8 a0.Rules.length b9, .int .i64 a0.Done] 29 (0, 0))] ++ A92) w91 [] (([] : List (List Int))) := (Els.nil _ _ _)
 have wO := gainCh (w := w91) (E := [.row 3 1 p83 (0 + a0.Last.length) c84 uh, .row 3 1 p59 (0 + a0.Prefix.length) c60 rX, .row 26 1 p35 (0 + a0.Elems.length) c36 oX, .blk B8 (.cells #[.int .i64 (0 : Int), .bool false, .slice none 0 0, .slice none 0 0, .slice none 0 0, .slice none 0 0, .slice none 0 0, .slice none 0 0, .int .i64 (0 : Int)] 29 (0, 0)), .blk B2 (.cells #[.int .i64 a0.Points, .bool a0.Monoid, .slice ap a0.Gens.length aq, .slice bY a0.Elems.length b5, .slice bE a0.Prefix.length bF, .slice cq a0.Last.length cr, .slice b6 a0.Right.length b7, .slice b8 a0.Rules.length b9, .int .i64 a0.Done] 29 (0, 0))]) (e := .row 26 1 (some ⟨b93, 0, none⟩) 0 0 []) Ko rfl
 replace hB := ((hB.trans (ya.same.fr _)).trans eh.fr).trans (yb.same.fr _)
 replace hB := Fr.gain (e := .row 26 1 (some ⟨b93, 0, none⟩) 0 0 []) hB (Nat.le_trans hw16 hnb98) rfl
 replace hO := Owns.gain hO Ko CH rfl hh99 hd97
 refine GoQA.loudI rfl rfl ?_
 intro W3 A103 vq
 replace hO := vq.own hO
 obtain ⟨xr, H⟩ := H
 replace Cj := (Cj.ch wO).ch (vq.ch _)
 have Z4 := (((Z3.trans eh.ch).trans (yb.ch _)).trans wO).trans (vq.ch _)
 replace ao := ao.ch Z4
 have hobt := oapp Try.underlying22 ti26 rfl 0 hO rfl Cj ao rfl xr (by decide)
 obtain ⟨W4, kV, kW, rY, j4, fB, Kq⟩ := hobt
 dsimp only [sS, sZ] at j4 fB
 refine GoAt.step (Kq (by exact rfl) (by exact rfl)) (fun _ => (CSv.cons (cs_eq (blkCell 5 hO rfl rfl) (blkCell 5 j4.own rfl rfl)) (CSv.cons (cs_eq (blkCell 5 hO rfl rfl) (blkCell 5 j4.own rfl rfl)) (CSv.cons (cs_eq (blkCell 5 hO rfl rfl) (blkCell 5 j4.own rfl rfl)) (CSv.cons (cs_eq (blkCell 5 hO rfl rfl) (blkCell 5 j4.own rfl rfl)) (CSv.cons (cs_eq (blkCell 5 hO rfl rfl) (blkCell 5 j4.own rfl rfl)) (CSv.cons (cs_eq (blkCell 5 hO rfl rfl) (blkCell 5 j4.own rfl rfl)) (CSv.cons (cs_eq (blkCell 5 hO rfl rfl) (blkCell 5 j4.own rfl rfl)) (CSv.cons (cs_eq (blkCell 5 hO rfl rfl) (blkCell 5 j4.own rfl rfl)) (CSv.cons (cs_eq (blkCell 5 hO rfl rfl) (blkCell 5 j4.own rfl rfl)) (CSv.nil _ _))))))))))) (Stp.kp hO j4) rfl ?_
 replace hO := j4.own
 refine GoQA.alloc rfl rfl (alBuild (n := 0) (parts := []) (vs := []) Try.underlying27 ti39 (by decide) (by decide) (by decide) (by kernel_rfl) rfl rfl) ?_
 intro Kr A116 Ks A118 vr Hs hd121 hnb122 hh123
 replace hO := vr.own hO
 have Ck : Els (rpRule) (bl [.row 26 1 kV (0 + a0.Right.length) kW rY, .row 3 1 p83 (0 + a0.Last.length) c84 uh, .row 3 1 p59 (0 + a0.Prefix.length) c60 rX, .row 26 1 p35 (0 + a0.Elems.length) c36 oX, .blk B8 (.cells #[.int .i64 (0 : Int), .bool false, .slice none 0 0, .slice none 0 0, .slice none 0 0, .slice none 0 0, .slice none 0 0, .slice none 0 0, .int .i64 (0 : Int)] 29 (0, 0)), .blk B2 (.cells #[.int .i64 a0.Points, .bool a0.Monoid, .slice ap a0.Gens.length aq, .slice bY a0.Elems.length b5, .slice bE a0.Prefix.length bF, .slice cq a0.Last.length cr, .slice b6 a0.Right.length b7, .slice b8 a0.Rules.length b9, .int .i64 a0.Done] 29 (0, 0))] ++ A116) Kr [] (([] : List Rule)) := (Els.nil _ _ _)
 have v3 := gainCh (w := Kr) (E := [.row 26 1 kV (0 + a0.Right.length) kW rY, .row 3 1 p83 (0 + a0.Last.length) c84 uh, .row 3 1 p59 (0 + a0.Prefix.length) c60 rX, .row 26 1 p35 (0 + a0.Elems.length) c36 oX, .blk B8 (.cells #[.int .i64 (0 : Int), .bool false, .slice none 0 0, .slice none 0 0, .slice none 0 0, .slice none 0 0, .slice none 0 0, .slice none 0 0, .int .i64 (0 : Int)] 29 (0, 0)), .blk B2 (.cells #[.int .i64 a0.Points, .bool a0.Monoid, .slice ap a0.Gens.length aq, .slice bY a0.Elems.length b5, .slice bE a0.Prefix.length bF, .slice cq a0.Last.length cr, .slice b6 a0.Right.length b7, .slice b8 a0.Rules.length b9, .int .i64 a0.Done] 29 (0, 0))]) (e := .row 39 2 (some ⟨Ks, 0, none⟩) 0 0 []) Hs rfl
 replace hB := ((hB.trans (vq.same.fr _)).trans j4.fr).trans (vr.same.fr _)
 replace hB := Fr.gain (e := .row 39 2 (some ⟨Ks, 0, none⟩) 0 0 []) hB (Nat.le_trans hw16 hnb122) rfl
 replace hO := Owns.gain hO Hs CH rfl hh123 hd121
 refine GoQA.loudI rfl rfl ?_
 intro RI A127 uB
 replace hO := uB.own hO
 obtain ⟨F3, H⟩ := H
 replace Ck := (Ck.ch v3).ch (uB.ch _)
 have Z5 := (((Z4.trans j4.ch).trans (vr.ch _)).trans v3).trans (uB.ch _)
 replace ah := ah.ch Z5
 have hobt := oapp Try.underlying27 ti39 rfl 0 hO rfl Ck ah rfl F3 (by decide)
 obtain ⟨QY, j5, j6, rL, eW, fD, Dz⟩ := hobt
 dsimp only [sS, sZ] at eW fD
 refine GoAt.step (Dz (by exact rfl) (by exact rfl)) (fun _ => (CSv.cons (cs_eq (blkCell 6 hO rfl rfl) (blkCell 6 eW.own rfl rfl)) (CSv.cons (cs_eq (blkCell 6 hO rfl rfl) (blkCell 6 eW.own rfl rfl)) (CSv.cons (cs_eq (blkCell 6 hO rfl rfl) (blkCell 6 eW.own rfl rfl)) (CSv.cons (cs_eq (blkCell 6 hO rfl rfl) (blkCell 6 eW.own rfl rfl)) (CSv.cons (cs_eq (blkCell 6 hO rfl rfl) (blkCell 6 eW.own rfl rfl)) (CSv.cons (cs_eq (blkCell 6 hO rfl rfl) (blkCell 6 eW.own rfl rfl)) (CSv.cons (cs_eq (blkCell 6 hO rfl rfl) (blkCell 6 eW.own rfl rfl)) (CSv.cons (cs_eq (blkCell 6 hO rfl rfl) (blkCell 6 eW.own rfl rfl)) (CSv.cons (cs_eq (blkCell 6 hO rfl rfl) (blkCell 6 eW.own rfl rfl)) (CSv.nil _ _))))))))))) (Stp.kp hO eW) rfl ?_
 replace hO := eW.own
 refine GoQA.pure rfl (op_build Try.underlying29 ti29 (pl := [(0, 1), (1, 1), (2, 1), (3, 1), (4, 1), (5, 1), (6, 1), (7, 1), (8, 1)]) (vs := [(0, .int .i64 a0.Points), (1, .bool a0.Monoid), (2, .slice ap a0.Gens.length aq), (3, .slice p35 (0 + a0.Elems.length) c36), (4, .slice p59 (0 + a0.Prefix.length) c60), (5, .slice p83 (0 + a0.Last.length) c84), (6, .slice kV (0 + a0.Right.length) kW), (7, .slice j5 (0 + a0.Rules.length) j6), (8, .int .i64 a0.Done)]) (cs := #[.int .i64 a0.Points, .bool a0.Monoid, .slice ap a0.Gens.length aq, .slice p35 (0 + a0.Elems.length) c36, .slice p59 (0 + a0.Prefix.length) c60, .slice p83 (0 + a0.Last.length) c84, .slice kV (0 + a0.Right.length) kW, .slice j5 (0 + a0.Rules.length) j6, .int .i64 a0.Done]) (by kernel_rfl) rfl (by kernel_rfl)) rfl rfl ?_
 refine GoQA.alloc rfl rfl (alAlloc (cs := #[.int .i64 (0 : Int), .bool false, .slice none 0 0, .slice none 0 0, .slice none 0 0, .slice none 0 0, .slice none 0 0, .slice none 0 0, .int .i64 (0 : Int)]) ti29 rfl) ?_
 intro R5 A140 fu A142 uC Ht hd145 hnb146 hh147
 replace hO := uC.own hO
 have v4 := gainCh (w := R5) (E := [.row 39 2 j5 (0 + a0.Rules.length) j6 rL, .row 26 1 kV (0 + a0.Right.length) kW rY, .row 3 1 p83 (0 + a0.Last.length) c84 uh, .row 3 1 p59 (0 + a0.Prefix.length) c60 rX, .row 26 1 p35 (0 + a0.Elems.length) c36 oX, .blk B8 (.cells #[.int .i64 (0 : Int), .bool false, .slice none 0 0, .slice none 0 0, .slice none 0 0, .slice none 0 0, .slice none 0 0, .slice none 0 0, .int .i64 (0 : Int)] 29 (0, 0)), .blk B2 (.cells #[.int .i64 a0.Points, .bool a0.Monoid, .slice ap a0.Gens.length aq, .slice bY a0.Elems.length b5, .slice bE a0.Prefix.length bF, .slice cq a0.Last.length cr, .slice b6 a0.Right.length b7, .slice b8 a0.Rules.length b9, .int .i64 a0.Done] 29 (0, 0))]) (e := .blk fu (.cells #[.int .i64 (0 : Int), .bool false, .slice none 0 0, .slice none 0 0, .slice none 0 0, .slice none 0 0, .slice none 0 0, .slice none 0 0, .int .i64 (0 : Int)] 29 (0, 0))) Ht rfl
 replace hB := ((hB.trans (uB.same.fr _)).trans eW.fr).trans (uC.same.fr _)
 replace hB := Fr.gain (e := .blk fu (.cells #[.int .i64 (0 : Int), .bool false, .slice none 0 0, .slice none 0 0, .slice none 0 0, .slice none 0 0, .slice none 0 0, .slice none 0 0, .int .i64 (0 : Int)] 29 (0, 0))) hB (Nat.le_trans hw16 hnb146) rfl
 replace hO := Owns.gain hO Ht CH rfl hh147 hd145
 refine GoQA.lastI rfl rfl ?_
 intro W5 A150 uD
 replace hO := uD.own hO
 have hobt := oblkStAgg (us := [.int .i64 a0.Points, .bool a0.Monoid, .slice ap a0.Gens.length aq, .slice p35 (0 + a0.Elems.length) c36, .slice p59 (0 + a0.Prefix.length) c60, .slice p83 (0 + a0.Last.length) c84, .slice kV (0 + a0.Right.length) kW, .slice j5 (0 + a0.Rules.length) j6, .int .i64 a0.Done]) (o := 0) (cs' := #[.int .i64 a0.Points, .bool a0.Monoid, .slice ap a0.Gens.length aq, .slice p35 (0 + a0.Elems.length) c36, .slice p59 (0 + a0.Prefix.length) c60, .slice p83 (0 + a0.Last.length) c84, .slice kV (0 + a0.Right.length) kW, .slice j5 (0 + a0.Rules.length) j6, .int .i64 a0.Done]) 0 hO rfl rfl (Nat.le_of_ble_eq_true rfl) rfl
 obtain ⟨RJ, pp, DA⟩ := hobt
 dsimp only [sS, sZ] at pp
 refine GoAt.step (DA ti29 (by exact rfl) (by exact rfl) rfl) (fun h => nomatch h) (Stp.kp hO pp) rfl ?_
 replace hO := pp.own
 refine GoQA.nil ?_
 intro W6 A156 uE vt
 replace hO := uE.own hO
 replace hO := hO.permA vt
 refine zq ?_
 refine Go1.cut [(1, .int .i64 a1), (4, .pointer (some ⟨B8, 0, none⟩)), (6, .pointer (some ⟨fu, 0, none⟩))] ⟨rfl, rfl, rfl, trivial⟩ ?_
 intro σ _
 refine zr ?_
 have hobt := omakeMap (fun a : List UInt8 => Value.string (gstr a)) (fun a : Int => Value.int .i64 a) hO
 obtain ⟨JD, B160, ra, TG, Kt⟩ := hobt
 refine GoR.op Kt rfl rfl ?_
 replace hO := ra.own
 refine za rfl (zn (zq (zr (za rfl (zn ?_)))))
 refine zq (zq (zr (zo (op_fieldAddr Try.underlying29 rfl ti22 rfl (by decide)) (zs (oblk (i := 3) 1 hO rfl rfl Try.underlying22 rfl rfl) ?_))))
 have Z6 := ((((((((((((((((((((((z9.ch _).trans A6).trans (yW.ch _)).trans oJ.ch).trans (yX.ch _)).trans Aa).trans (ya.ch _)).trans eh.ch).trans (yb.ch _)).trans wO).trans (vq.ch _)).trans j4.ch).trans (vr.ch _)).trans v3).trans (uB.ch _)).trans eW.ch).trans (uC.ch _)).trans v4).trans (uD.ch _)).trans pp.ch).trans (uE.ch _)).trans (permCh vt _)).trans ra.ch
 replace dO := dO.ch Z6
 refine zo (op_lenN Try.underlying22 rfl (dO.neq hO 6 rfl)) (zm rfl (zn (zb ?_)))
 have i9 := Stp.nil (e := 9) (r := 1) hO
 replace hO := i9.own
 have C8 := Els.nil (Rp.str) (bl (.row 9 1 none 0 0 [] :: [.any (mapE (fun a : List UInt8 => Value.string (gstr a)) (fun a : Int => Value.int .i64 a) B160 (([] : List (Str × Int)))), .blk fu (.cells #[.int .i64 a0.Points, .bool a0.Monoid, .slice ap a0.Gens.length aq, .slice p35 (0 + a0.Elems.length) c36, .slice p59 (0 + a0.Prefix.length) c60, .slice p83 (0 + a0.Last.length) c84, .slice kV (0 + a0.Right.length) kW, .slice j5 (0 + a0.Rules.length) j6, .int .i64 a0.Done] 29 (0, 0)), .row 39 2 j5 (0 + a0.Rules.length) j6 rL, .row 26 1 kV (0 + a0.Right.length) kW rY, .row 3 1 p83 (0 + a0.Last.length) c84 uh, .row 3 1 p59 (0 + a0.Prefix.length) c60 rX, .row 26 1 p35 (0 + a0.Elems.length) c36 oX, .blk B8 (.cells #[.int .i64 (0 : Int), .bool false, .slice none 0 0, .slice none 0 0, .slice none 0 0, .slice none 0 0, .slice none 0 0, .slice none 0 0, .int .i64 (0 : Int)] 29 (0, 0)), .blk B2 (.cells #[.int .i64 a0.Points, .bool a0.Monoid, .slice ap a0.Gens.length aq, .slice bY a0.Elems.length b5, .slice bE a0.Prefix.length bF, .slice cq a0.Last.length cr, .slice b6 a0.Right.length b7, .slice b8 a0.Rules.length b9, .int .i64 a0.Done] 29 (0, 0))]) ++ A) JD
 replace hO := hO.drop 9
 replace C8 := C8.ch (Owns.dropCh _ _ 9)
 replace dO := (dO.ch i9.ch).ch (Owns.dropCh _ _ 9)
 replace hB := (((((hB.trans (uD.same.fr _)).trans pp.fr).trans (uE.same.fr _)).trans ra.fr).trans i9.fr).trans (Owns.dropFr _ _ 9)
 have Z7 := ((((((((uC.ch _).trans v4).trans (uD.ch _)).trans pp.ch).trans (uE.ch _)).trans (permCh vt _)).trans ra.ch).trans i9.ch).trans (Owns.dropCh _ _ 9)
 replace fD := fD.ch Z7
 have Z8 := ((((((((eW.ch.trans (uC.ch _)).trans v4).trans (uD.ch _)).trans pp.ch).trans (uE.ch _)).trans (permCh vt _)).trans ra.ch).trans i9.ch).trans (Owns.dropCh _ _ 9)
 replace ah := ah.ch Z8
 have Z9 := ((((((((((((vr.ch _).trans v3).trans (uB.ch _)).trans eW.ch).trans (uC.ch _)).trans v4).trans (uD.ch _)).trans pp.ch).trans (uE.ch _)).trans (permCh vt _)).trans ra.ch).trans i9.ch).trans (Owns.dropCh _ _ 9)
 replace fB := fB.ch Z9
 have Z10 := ((((((((((((j4.ch.trans (vr.ch _)).trans v3).trans (uB.ch _)).trans eW.ch).trans (uC.ch _)).trans v4).trans (uD.ch _)).trans pp.ch).trans (uE.ch _)).trans (permCh vt _)).trans ra.ch).trans i9.ch).trans (Owns.dropCh _ _ 9)
 replace ao := ao.ch Z10
 have Z11 := ((((((((((((((((yb.ch _).trans wO).trans (vq.ch _)).trans j4.ch).trans (vr.ch _)).trans v3).trans (uB.ch _)).trans eW.ch).trans (uC.ch _)).trans v4).trans (uD.ch _)).trans pp.ch).trans (uE.ch _)).trans (permCh vt _)).trans ra.ch).trans i9.ch).trans (Owns.dropCh _ _ 9)
 replace dT := dT.ch Z11
 have Z12 := ((((((((((((((((eh.ch.trans (yb.ch _)).trans wO).trans (vq.ch _)).trans j4.ch).trans (vr.ch _)).trans v3).trans (uB.ch _)).trans eW.ch).trans (uC.ch _)).trans v4).trans (uD.ch _)).trans pp.ch).trans (uE.ch _)).trans (permCh vt _)).trans ra.ch).trans i9.ch).trans (Owns.dropCh _ _ 9)
 replace ay := ay.ch Z12
 have Z13 := ((((((((((((((((((((yX.ch _).trans Aa).trans (ya.ch _)).trans eh.ch).trans (yb.ch _)).trans wO).trans (vq.ch _)).trans j4.ch).trans (vr.ch _)).trans v3).trans (uB.ch _)).trans eW.ch).trans (uC.ch _)).trans v4).trans (uD.ch _)).trans pp.ch).trans (uE.ch _)).trans (permCh vt _)).trans ra.ch).trans i9.ch).trans (Owns.dropCh _ _ 9)
 replace dM := dM.ch Z13
 have Z14 := ((((((((((((((((((((oJ.ch.trans (yX.ch _)).trans Aa).trans (ya.ch _)).trans eh.ch).trans (yb.ch _)).trans wO).trans (vq.ch _)).trans j4.ch).trans (vr.ch _)).trans v3).trans (uB.ch _)).trans eW.ch).trans (uC.ch _)).trans v4).trans (uD.ch _)).trans pp.ch).trans (uE.ch _)).trans (permCh vt _)).trans ra.ch).trans i9.ch).trans (Owns.dropCh _ _ 9)
 replace ag := ag.ch Z14
 have Z15 := ((((((((((((((((((((((((jv.ch.trans (z9.ch _)).trans A6).trans (yW.ch _)).trans oJ.ch).trans (yX.ch _)).trans Aa).trans (ya.ch _)).trans eh.ch).trans (yb.ch _)).trans wO).trans (vq.ch _)).trans j4.ch).trans (vr.ch _)).trans v3).trans (uB.ch _)).trans eW.ch).trans (uC.ch _)).trans v4).trans (uD.ch _)).trans pp.ch).trans (uE.ch _)).trans (permCh vt _)).trans ra.ch).trans i9.ch).trans (Owns.dropCh _ _ 9)
 replace am := am.ch Z15
 have Z16 := (((((((((Z5.trans eW.ch).trans (uC.ch _)).trans v4).trans (uD.ch _)).trans pp.ch).trans (uE.ch _)).trans (permCh vt _)).trans ra.ch).trans i9.ch).trans (Owns.dropCh _ _ 9)
 replace ac := ac.ch Z16
 dsimp only [eS, eZ] at hB hO ac am ag ay ao ah C8 fD fB dT dM dO
 refine Go1.loopW (S := Nat × List Str × (List (Str × Int))) (fun s σ w => match s with | (k1_169, d_170, m1_176) => ∃ (v7 : Nat), ∃ (wo : Option Addr), ∃ (wq : Nat), ∃ (vu : List Value), agrees σ [(1, .int .i64 a1), (4, .pointer (some ⟨B8, 0, none⟩)), (6, .pointer (some ⟨fu, 0, none⟩)), (7, .map (some B160)), (8, .slice wo v7 wq), (50, .int .i64 (((([] : List (List Int))) ++ a0.Elems).length : Int)), (51, .int .i64 (k1_169 : Int))] ∧ (fun Z0 => Owns w0.heap.size w Z0 A ∧ Els (Rp.str) (bl Z0 ++ A) w vu d_170 ∧ Els (rpRule) (bl Z0 ++ A) w rL ((([] : List Rule)) ++ a0.Rules) ∧ Els (Rp.sl (Rp.int .i64)) (bl Z0 ++ A) w rY ((([] : List (List Int))) ++ a0.Right) ∧ Els (Rp.int .i64) (bl Z0 ++ A) w uh ((([] : List Int)) ++ a0.Last) ∧ Els (Rp.int .i64) (bl Z0 ++ A) w rX ((([] : List Int)) ++ a0.Prefix) ∧ Els (Rp.sl (Rp.int .i64)) (bl Z0 ++ A) w oX ((([] : List (List Int))) ++ a0.Elems) ∧ ISl (Rp.sl (Rp.int .i64)) (bl Z0 ++ A) w ap aq a0.Gens ∧ Fr (bl []) w0 (bl Z0) w) [.row 9 1 wo v7 wq vu, .any (mapE (fun a : List UInt8 => Value.string (gstr a)) (fun a : Int => Value.int .i64 a) B160 m1_176), .blk fu (.cells #[.int .i64 a0.Points, .bool a0.Monoid, .slice ap a0.Gens.length aq, .slice p35 (0 + a0.Elems.length) c36, .slice p59 (0 + a0.Prefix.length) c60, .slice p83 (0 + a0.Last.length) c84, .slice kV (0 + a0.Right.length) kW, .slice j5 (0 + a0.Rules.length) j6, .int .i64 a0.Done] 29 (0, 0)), .row 39 2 j5 (0 + a0.Rules.length) j6 rL, .row 26 1 kV (0 + a0.Right.length) kW rY, .row 3 1 p83 (0 + a0.Last.length) c84 uh, .row 3 1 p59 (0 + a0.Prefix.length) c60 rX, .row 26 1 p35 (0 + a0.Elems.length) c36 oX, .blk B8 (.cells #[.int .i64 (0 : Int), .bool false, .slice none 0 0, .slice none 0 0, .slice none 0 0, .slice none 0 0, .slice none 0 0, .slice none 0 0, .int .i64 (0 : Int)] 29 (0, 0))]) H ⟨0, none, 0, [], ⟨rfl, rfl, rfl, rfl, rfl, rfl, rfl, trivial⟩, hO, C8, fD, fB, dT, dM, dO, ac, hB⟩ ?_
 intro X1
 refine prE fun k1_169 => prE fun d_170 => fun m1_176 => ?_
 intro H hX1 σ HK
 refine exE fun v7 => exE fun wo => exE fun wq => exE fun vu => andE fun hag => andE fun hO => andE fun yD => andE fun fD => andE fun fB => andE fun dT => andE fun dM => andE fun dO => andE fun ac => fun hB => ?_
 dsimp only at H
 refine Go1.keep [(1, .int .i64 a1), (4, .pointer (some ⟨B8, 0, none⟩)), (6, .pointer (some ⟨fu, 0, none⟩)), (7, .map (some B160)), (8, .slice wo v7 wq), (50, .int .i64 (((([] : List (List Int))) ++ a0.Elems).length : Int)), (51, .int .i64 (k1_169 : Int))] hag ?_
 refine zq (zr ?_)
 by_cases yK : (k1_169 : Int) < (((([] : List (List Int))) ++ a0.Elems).length : Int)
 ·replace H := ifp yK H
  refine zo (fun w => opB (op_lss rfl rfl w) (decide_eq_true yK)) (zn (zq (zt rfl rfl (zk (zq ?_)))))
  refine zb (zq (zr (zm rfl (za rfl (zn ?_)))))
  refine zq (zr (zm rfl (zs (oblkAgg (vs := [.int .i64 a0.Points, .bool a0.Monoid, .slice ap a0.Gens.length aq, .slice p35 (0 + a0.Elems.length) c36, .slice p59 (0 + a0.Prefix.length) c60, .slice p83 (0 + a0.Last.length) c84, .slice kV (0 + a0.Right.length) kW, .slice j5 (0 + a0.Rules.length) j6, .int .i64 a0.Done]) (i := 0) 2 hO rfl rfl Try.underlying29 rfl ti29 rfl) (zm rfl ?_))))
  have hobt := rowlend 7 hO rfl dO
  obtain ⟨OP, OQ⟩ := hobt
  have hOc180 := hO.drop 7
  have hobt := rowlend 6 hOc180 rfl (dM.ch (Owns.dropCh _ _ 7))
  obtain ⟨OR, OS⟩ := hobt
  have hOc183 := hOc180.drop 6
  have hobt := rowlend 5 hOc183 rfl ((dT.ch (Owns.dropCh _ _ 7)).ch (Owns.dropCh _ _ 6))
  obtain ⟨OT, OU⟩ := hobt
  have hOc186 := hOc183.drop 5
  have hobt := rowlend 4 hOc186 rfl (((fB.ch (Owns.dropCh _ _ 7)).ch (Owns.dropCh _ _ 6)).ch (Owns.dropCh _ _ 5))
  obtain ⟨OV, D4⟩ := hobt
  have hOc189 := hOc186.drop 4
  have hobt := rowlend 3 hOc189 rfl ((((fD.ch (Owns.dropCh _ _ 7)).ch (Owns.dropCh _ _ 6)).ch (Owns.dropCh _ _ 5)).ch (Owns.dropCh _ _ 4))
  obtain ⟨OW, OX⟩ := hobt
  have hOc192 := hOc189.drop 3
  refine GoR.call (op_call body40 (show ([.agg #[.int .i64 a0.Points, .bool a0.Monoid, .slice ap a0.Gens.length aq, .slice p35 (0 + a0.Elems.length) c36, .slice p59 (0 + a0.Prefix.length) c60, .slice p83 (0 + a0.Last.length) c84, .slice kV (0 + a0.Right.length) kW, .slice j5 (0 + a0.Rules.length) j6, .int .i64 a0.Done], .int .i64 (k1_169 : Int)] : List Value) = [.agg #[.int .i64 a0.Points, .bool a0.Monoid, .slice ap a0.Gens.length aq, .slice p35 ((([] : List (List Int))) ++ a0.Elems).length c36, .slice p59 ((([] : List Int)) ++ a0.Prefix).length c60, .slice p83 ((([] : List Int)) ++ a0.Last).length c84, .slice kV ((([] : List (List Int))) ++ a0.Right).length kW, .slice j5 ((([] : List Rule)) ++ a0.Rules).length j6, .int .i64 a0.Done], .int .i64 (k1_169 : Int)] from by rw [← OQ, ← OS, ← OU, ← D4, ← OX]) (walk_ref12_Word (e := (⟨a0.Points, a0.Monoid, a0.Gens, (([] : List (List Int))) ++ a0.Elems, (([] : List Int)) ++ a0.Prefix, (([] : List Int)) ++ a0.Last, (([] : List (List Int))) ++ a0.Right, (([] : List Rule)) ++ a0.Rules, a0.Done⟩ : Enum)) hOc192.lt (((((ac.ch (Owns.dropCh _ _ 7)).ch (Owns.dropCh _ _ 6)).ch (Owns.dropCh _ _ 5)).ch (Owns.dropCh _ _ 4)).ch (Owns.dropCh _ _ 3)) ((((OP.ch (Owns.dropCh _ _ 6)).ch (Owns.dropCh _ _ 5)).ch (Owns.dropCh _ _ 4)).ch (Owns.dropCh _ _ 3)) (((OR.ch (Owns.dropCh _ _ 5)).ch (Owns.dropCh _ _ 4)).ch (Owns.dropCh _ _ 3)) ((OT.ch (Owns.dropCh _ _ 4)).ch (Owns.dropCh _ _ 3)) (OV.ch (Owns.dropCh _ _ 3)) OW H)) rfl rfl ?_
  rintro W7 W8 ⟨r193, rfl, OY, HH, H⟩
  have v8 := Stp.same hO OY
  replace hO := v8.own
  have hobt := obuild (r := Rp.str) (n := 1) (parts := [(0, .string (gstr r193))]) (vs := [.string (gstr r193)]) (xs := [r193]) rfl Try.underlying70 ti9 hO (by decide) (by kernel_rfl) (Els.cons rfl ⟨rfl, HH⟩ (Els.nil _ _ _) (by simp [mx])) rfl
  obtain ⟨Qe, W9, wa, O0, TH, Ku⟩ := hobt
  refine zg (Ku rfl) ?_
  replace hO := wa.own
  have hobt := freeze 0 hO rfl O0
  obtain ⟨hO1, yE, Bw, O1⟩ := hobt
  dsimp only [eS, eZ] at hO1 yE Bw
  replace hB := ((hB.trans v8.fr).trans wa.fr).trans (Owns.dropFr _ _ 0)
  dsimp only [eS, eZ] at hB
  replace hO := hO1; clear hO1
  obtain ⟨R6, H⟩ := H
  have Z17 := (v8.ch.trans wa.ch).trans yE
  replace yD := yD.ch Z17
  have hobt := oapp Try.underlying70 ti9 rfl 0 hO rfl yD Bw O1 R6 (by decide)
  obtain ⟨Xa, R7, R8, O2, uW, yF, Kv⟩ := hobt
  dsimp only [sS, sZ] at uW yF
  refine zg (Kv (by exact rfl) (by exact rfl)) ?_
  replace hO := uW.own
  refine za rfl (zn (zr (zm rfl (zm rfl (zm rfl ?_)))))
  obtain ⟨AX, H⟩ := H
  obtain ⟨AY, H⟩ := H
  refine zo (op_index Try.underlying70 ti9 rfl rfl AX (ltn (yF.neq hO 0 rfl) AY) (yF.psome hO 0 rfl AX AY)) (zs (oldStr 0 hO rfl yF AX AY Try.underlying9 rfl rfl) ?_)
  have hle220 := Els.str_le yF AX AY
  refine zm rfl ?_
  have hobt := omapUpd (MK.str Try.underlying9) 1 hO rfl Try.underlying69 (ix (d_170 ++ ([r193])) (k1_169 : Int)) (k1_169 : Int)
  obtain ⟨Qg, eB, Dm⟩ := hobt
  dsimp only [sS, sZ] at eB
  refine zg (Dm (by exact rfl) (by exact rfl) (by exact rfl)) ?_
  replace hO := eB.own
  refine zn ?_
  refine Go1.inBlock ?_
  refine zr ?_
  replace dO := ((dO.ch Z17).ch uW.ch).ch eB.ch
  refine zo (op_add rfl rfl (wrap_i64 (natbd yK dO.bd))) (zm rfl (zn ?_))
  replace yF := yF.ch eB.ch
  replace hB := (hB.trans uW.fr).trans eB.fr
  have Z18 := (Z17.trans uW.ch).trans eB.ch
  replace fD := fD.ch Z18
  replace fB := fB.ch Z18
  replace dT := dT.ch Z18
  replace dM := dM.ch Z18
  replace ac := ac.ch Z18
  exact hX1 _ H _ _ ⟨v7 + 1, R7, R8, O2, ⟨rfl, rfl, rfl, rfl, rfl, rfl, rfl, trivial⟩, hO, yF, fD, fB, dT, dM, dO, ac, hB⟩
 replace H := ifn yK H
 refine zo (fun w => opB (op_lss rfl rfl w) (decide_eq_false yK)) (zn (zq (zf rfl rfl ?_)))
 refine Go1.exit rfl ?_
 refine zq (zb ?_)
 refine Go1.loopW (S := Int × Int × List Str × (List (Str × Int)) × List Rule × List (List Int) × List Int × List Int × List (List Int)) (fun s σ w => match s with | (k2_225, k2_226, d_227, m2_233, d_234, d_240, d_246, d_252, d_258) => ∃ (wb : Nat), ∃ (wc : Option Addr), ∃ (we : Nat), ∃ (oI : List Value), ∃ (ly : Nat), ∃ (jP : Option Addr), ∃ (jQ : Nat), ∃ (uF : List Value), ∃ (dY : Nat), ∃ (d4 : Option Addr), ∃ (d5 : Nat), ∃ (jm : List Value), ∃ (lz : Nat), ∃ (jR : Option Addr), ∃ (jS : Nat), ∃ (uG : List Value), ∃ (lA : Nat), ∃ (jT : Option Addr), ∃ (jU : Nat), ∃ (uH : List Value), ∃ (lB : Nat), ∃ (jV : Option Addr), ∃ (jW : Nat), ∃ (uI : List Value), agrees σ [(1, .int .i64 k2_225), (4, .pointer (some ⟨B8, 0, none⟩)), (6, .pointer (some ⟨fu, 0, none⟩)), (7, .map (some B160)), (8, .slice wc wb we)] ∧ (fun Z0 => Owns w0.heap.size w Z0 A ∧ Els (Rp.str) (bl Z0 ++ A) w oI d_227 ∧ Els (rpRule) (bl Z0 ++ A) w uF d_234 ∧ Els (Rp.sl (Rp.int .i64)) (bl Z0 ++ A) w jm d_240 ∧ Els (Rp.int .i64) (bl Z0 ++ A) w uG d_246 ∧ Els (Rp.int .i64) (bl Z0 ++ A) w uH d_252 ∧ Els (Rp.sl (Rp.int .i64)) (bl Z0 ++ A) w uI d_258 ∧ ISl (Rp.sl (Rp.int .i64)) (bl Z0 ++ A) w ap aq a0.Gens ∧ Fr (bl []) w0 (bl Z0) w) [.row 9 1 wc wb we oI, .any (mapE (fun a : List UInt8 => Value.string (gstr a)) (fun a : Int => Value.int .i64 a) B160 m2_233), .blk fu (.cells #[.int .i64 a0.Points, .bool a0.Monoid, .slice ap a0.Gens.length aq, .slice jV lB jW, .slice jT lA jU, .slice jR lz jS, .slice d4 dY d5, .slice jP ly jQ, .int .i64 k2_226] 29 (0, 0)), .row 39 2 jP ly jQ uF, .row 26 1 d4 dY d5 jm, .row 3 1 jR lz jS uG, .row 3 1 jT lA jU uH, .row 26 1 jV lB jW uI, .blk B8 (.cells #[.int .i64 (0 : Int), .bool false, .slice none 0 0, .slice none 0 0, .slice none 0 0, .slice none 0 0, .slice none 0 0, .slice none 0 0, .int .i64 (0 : Int)] 29 (0, 0))]) H ⟨v7, wo, wq, vu, 0 + a0.Rules.length, j5, j6, rL, 0 + a0.Right.length, kV, kW, rY, 0 + a0.Last.length, p83, c84, uh, 0 + a0.Prefix.length, p59, c60, rX, 0 + a0.Elems.length, p35, c36, oX, ⟨rfl, rfl, rfl, rfl, rfl, trivial⟩, hO, yD, fD, fB, dT, dM, dO, ac, hB⟩ ?_
 intro X2
 refine prE fun k2_225 => prE fun k2_226 => prE fun d_227 => prE fun m2_233 => prE fun d_234 => prE fun d_240 => prE fun d_246 => prE fun d_252 => fun d_258 => ?_
 intro H hX2 σ R9
 refine exE fun wb => exE fun wc => exE fun we => exE fun oI => exE fun ly => exE fun jP => exE fun jQ => exE fun uF => exE fun dY => exE fun d4 => exE fun d5 => exE fun jm => exE fun lz => exE fun jR => exE fun jS => exE fun uG => exE fun lA => exE fun jT => exE fun jU => exE fun uH => exE fun lB => exE fun jV => exE fun jW => exE fun uI => andE fun hag => andE fun hO => andE fun i5 => andE fun kC => andE fun ba => andE fun qf => andE fun ry => andE fun wP => andE fun ac => fun hB => ?_
 dsimp only at H
 refine Go1.keep [(1, .int .i64 k2_225), (4, .pointer (some ⟨B8, 0, none⟩)), (6, .pointer (some ⟨fu, 0, none⟩)), (7, .map (some B160)), (8, .slice wc wb we)] hag ?_
 refine zq (zq (zr (zm rfl ?_)))
 by_cases Ff : (0 : Int) < k2_225
 ·replace H := ifp Ff H
  refine zo (fun w => opB (op_gtr rfl rfl w) (decide_eq_true Ff)) (zm rfl (zo (op_fieldAddr Try.underlying29 rfl ti3 rfl (by decide)) (zs (oblk (i := 8) 2 hO rfl rfl Try.underlying3 rfl rfl) (zo (op_fieldAddr Try.underlying29 rfl ti22 rfl (by decide)) (zs (oblk (i := 3) 2 hO rfl rfl Try.underlying22 rfl rfl) ?_)))))
  refine zo (op_lenN Try.underlying22 rfl (wP.neq hO 7 rfl)) ?_
  by_cases Fg : k2_226 < (d_258.length : Int)
  ·replace H := ifp Fg H
   refine zo (fun w => opB (op_lss rfl rfl w) (decide_eq_true Fg)) (zo (op_pickT rfl rfl rfl) (zn (zt rfl rfl (zk (zq ?_)))))
   refine zb (zq (zr (za rfl (zn (zq ?_)))))
   refine zr (zm rfl (zo (op_fieldAddr Try.underlying29 rfl ti3 rfl (by decide)) (zs (oblk (i := 8) 2 hO rfl rfl Try.underlying3 rfl rfl) ?_)))
   obtain ⟨Fh, H⟩ := H
   obtain ⟨Fi, H⟩ := H
   refine zo (op_index Try.underlying70 ti9 rfl rfl Fh (ltn (i5.neq hO 0 rfl) Fi) (i5.psome hO 0 rfl Fh Fi)) (zs (oldStr 0 hO rfl i5 Fh Fi Try.underlying9 rfl rfl) ?_)
   have hle268 := Els.str_le i5 Fh Fi
   refine za rfl (zn (zq (zq (zr (zo (op_fieldAddr Try.underlying29 rfl ti22 rfl (by decide)) ?_)))))
   refine zs (oblk (i := 2) 2 hO rfl rfl Try.underlying22 rfl rfl) (zo (op_len Try.underlying22 rfl) ?_)
   replace H := H ac.bd
   refine zm rfl (zn (zb ?_))
   have wg := Stp.nil (e := 3) (r := 1) hO
   replace hO := wg.own
   have O3 := Els.nil (Rp.int .i64) (bl (.row 3 1 none 0 0 [] :: [.row 9 1 wc wb we oI, .any (mapE (fun a : List UInt8 => Value.string (gstr a)) (fun a : Int => Value.int .i64 a) B160 m2_233), .blk fu (.cells #[.int .i64 a0.Points, .bool a0.Monoid, .slice ap a0.Gens.length aq, .slice jV lB jW, .slice jT lA jU, .slice jR lz jS, .slice d4 dY d5, .slice jP ly jQ, .int .i64 k2_226] 29 (0, 0)), .row 39 2 jP ly jQ uF, .row 26 1 d4 dY d5 jm, .row 3 1 jR lz jS uG, .row 3 1 jT lA jU uH, .row 26 1 jV lB jW uI, .blk B8 (.cells #[.int .i64 (0 : Int), .bool false, .slice none 0 0, .slice none 0 0, .slice none 0 0, .slice none 0 0, .slice none 0 0, .slice none 0 0, .int .i64 (0 : Int)] 29 (0, 0))]) ++ A) R9
   replace i5 := i5.ch wg.ch
   replace kC := kC.ch wg.ch
   replace ba := ba.ch wg.ch
   replace qf := qf.ch wg.ch
   replace ry := ry.ch wg.ch
   replace wP := wP.ch wg.ch
   replace ac := ac.ch wg.ch
   replace hB := hB.trans wg.fr
   refine Go1.loopW (S := Nat × List Int × List Str × (List (Str × Int)) × List Rule × List Int × List Int × List (List Int)) (fun s σ w => match s with | (k3_273, d_274, d_280, m3_286, d_287, d_293, d_299, d_305) => ∃ (kj : Nat), ∃ (ms : Option Addr), ∃ (mt : Nat), ∃ (pI : List Value), ∃ (kX : Nat), ∃ (lC : Option Addr), ∃ (lD : Nat), ∃ (mg : List Value), ∃ (f9 : Nat), ∃ (gL : Option Addr), ∃ (gM : Nat), ∃ (km : List Value), ∃ (gc : Nat), ∃ (gv : Option Addr), ∃ (gN : Nat), ∃ (mh : List Value), ∃ (gf : Nat), ∃ (iG : Option Addr), ∃ (iH : Nat), ∃ (m7 : List Value), ∃ (f5 : Nat), ∃ (gp : Option Addr), ∃ (gq : Nat), ∃ (oK : List Value), agrees σ [(1, .int .i64 k2_225), (4, .pointer (some ⟨B8, 0, none⟩)), (6, .pointer (some ⟨fu, 0, none⟩)), (7, .map (some B160)), (8, .slice lC kX lD), (10, .slice ms kj mt), (11, .string (gstr (ix d_227 k2_226))), (86, .int .i64 (a0.Gens.length : Int)), (87, .int .i64 (k3_273 : Int))] ∧ (fun Z0 => Owns w0.heap.size w Z0 A ∧ Els (Rp.int .i64) (bl Z0 ++ A) w pI d_274 ∧ Els (Rp.str) (bl Z0 ++ A) w mg d_280 ∧ Els (rpRule) (bl Z0 ++ A) w km d_287 ∧ Els (Rp.sl (Rp.int .i64)) (bl Z0 ++ A) w jm d_240 ∧ Els (Rp.int .i64) (bl Z0 ++ A) w mh d_293 ∧ Els (Rp.int .i64) (bl Z0 ++ A) w m7 d_299 ∧ Els (Rp.sl (Rp.int .i64)) (bl Z0 ++ A) w oK d_305 ∧ ISl (Rp.sl (Rp.int .i64)) (bl Z0 ++ A) w ap aq a0.Gens ∧ Fr (bl []) w0 (bl Z0) w) [.row 3 1 ms kj mt pI, .row 9 1 lC kX lD mg, .any (mapE (fun a : List UInt8 => Value.string (gstr a)) (fun a : Int => Value.int .i64 a) B160 m3_286), .blk fu (.cells #[.int .i64 a0.Points, .bool a0.Monoid, .slice ap a0.Gens.length aq, .slice gp f5 gq, .slice iG gf iH, .slice gv gc gN, .slice d4 dY d5, .slice gL f9 gM, .int .i64 k2_226] 29 (0, 0)), .row 39 2 gL f9 gM km, .row 26 1 d4 dY d5 jm, .row 3 1 gv gc gN mh, .row 3 1 iG gf iH m7, .row 26 1 gp f5 gq oK, .blk B8 (.cells #[.int .i64 (0 : Int), .bool false, .slice none 0 0, .slice none 0 0, .slice none 0 0, .slice none 0 0, .slice none 0 0, .slice none 0 0, .int .i64 (0 : Int)] 29 (0, 0))]) H ⟨0, none, 0, [], wb, wc, we, oI, ly, jP, jQ, uF, lz, jR, jS, uG, lA, jT, jU, uH, lB, jV, jW, uI, ⟨rfl, rfl, rfl, rfl, rfl, rfl, rfl, rfl, rfl, trivial⟩, hO, O3, i5, kC, ba, qf, ry, wP, ac, hB⟩ ?_
   intro X3
   refine prE fun k3_273 => prE fun d_274 => prE fun d_280 => prE fun m3_286 => prE fun d_287 => prE fun d_293 => prE fun d_299 => fun d_305 => ?_
   intro H hX3 σ RN
   refine exE fun kj => exE fun ms => exE fun mt => exE fun pI => exE fun kX => exE fun lC => exE fun lD => exE fun mg => exE fun f9 => exE fun gL => exE fun gM => exE fun km => exE fun gc => exE fun gv => exE fun gN => exE fun mh => exE fun gf => exE fun iG => exE fun iH => exE fun m7 => exE fun f5 => exE fun gp => exE fun gq => exE fun oK => andE fun hag => andE fun hO => andE fun cb => andE fun bB => andE fun aW => andE fun ba => andE fun cw => andE fun cR => andE fun c5 => andE fun ac => fun hB => ?_
   dsimp only at H
   refine Go1.keep [(1, .int .i64 k2_225), (4, .pointer (some ⟨B8, 0, none⟩)), (6, .pointer (some ⟨fu, 0, none⟩)), (7, .map (some B160)), (8, .slice lC kX lD), (10, .slice ms kj mt), (11, .string (gstr (ix d_227 k2_226))), (86, .int .i64 (a0.Gens.length : Int)), (87, .int .i64 (k3_273 : Int))] hag ?_
   refine zq (zr ?_)
   by_cases Ab : (k3_273 : Int) < (a0.Gens.length : Int)
   ·replace H := ifp Ab H
    refine zo (fun w => opB (op_lss rfl rfl w) (decide_eq_true Ab)) (zn (zq (zt rfl rfl (zk (zq ?_)))))
    refine zb (zq (zr (zm rfl (za rfl (zn ?_)))))
    refine zq ?_
    refine Go1.drawS 0 [(0, .pure), (1, .stable), (2, .pure), (3, .stable), (4, .pure), (5, .stable), (6, .pure), (7, .stable), (8, .pure), (9, .pure), (10, .stable), (11, .loud), (12, .pure)] mixed (by kernel_rfl) ?_
    intro Xb O4
    have uX := Stp.same hO O4
    replace hO := uX.own
    refine GoQ.pure rfl (op_fieldAddr Try.underlying29 rfl ti22 rfl (by decide)) rfl rfl ?_
    refine GoQ.stable rfl (oblk (i := 3) 3 hO rfl rfl Try.underlying22 rfl rfl) rfl rfl ?_
    refine GoQ.pure rfl (op_fieldAddr Try.underlying29 rfl ti3 rfl (by decide)) rfl rfl ?_
    refine GoQ.stable rfl (oblk (i := 8) 3 hO rfl rfl Try.underlying3 rfl rfl) rfl rfl ?_
    obtain ⟨GU, H⟩ := H
    obtain ⟨GW, H⟩ := H
    replace c5 := c5.ch uX.ch
    refine GoQ.pure rfl (op_index Try.underlying22 ti26 rfl rfl GU (ltn (c5.neq hO 8 rfl) GW) (c5.psome hO 8 rfl GU GW)) rfl rfl ?_
    have hobt := oldSl 8 hO rfl c5 GU GW
    obtain ⟨Xc, Xd, ca, O5⟩ := hobt
    refine GoQ.stable rfl (O5 Try.underlying26 rfl rfl) rfl rfl ?_
    refine GoQ.pure rfl (op_fieldAddr Try.underlying29 rfl ti22 rfl (by decide)) rfl rfl ?_
    refine GoQ.stable rfl (oblk (i := 2) 3 hO rfl rfl Try.underlying22 rfl rfl) rfl rfl ?_
    refine GoQ.pure rfl (op_move rfl) rfl rfl ?_
    obtain ⟨GX, H⟩ := H
    obtain ⟨GY, H⟩ := H
    replace ac := ac.ch uX.ch
    refine GoQ.pure rfl (op_index Try.underlying22 ti26 rfl rfl GX GY (ac.some_ GX GY)) rfl rfl ?_
    have hobt := ldSl ac GX GY
    obtain ⟨Xe, Xf, bA, O6⟩ := hobt
    refine GoQ.stable rfl (O6 Try.underlying26 rfl rfl) rfl rfl ?_
    refine GoQ.call rfl (op_call body43 rfl (walk_ref11_Compose hO.lt ca bA H)) (fun v w hr => by obtain ⟨_, _, _, _, hs, _, _⟩ := hr; assumption) rfl rfl ?_
    rintro RQ H1 ⟨r327, pk, pm, rfl, E9, a8, H⟩
    have fF := Stp.same hO E9
    replace hO := fF.own
    refine GoQ.pure rfl (op_assign rfl) rfl rfl ?_
    refine GoQ.nil ?_
    refine zq (zr (zo (op_fieldAddr Try.underlying29 rfl ti22 rfl (by decide)) (zs (oblk (i := 3) 3 hO rfl rfl Try.underlying22 rfl rfl) (zm rfl ?_))))
    replace c5 := c5.ch fF.ch
    have hobt := rowlend 8 hO rfl c5
    obtain ⟨O7, O8⟩ := hobt
    have hOc335 := hO.drop 8
    refine GoR.call (op_call body41 (show ([.slice gp f5 gq, .slice pk r327.length pm] : List Value) = [.slice gp d_305.length gq, .slice pk r327.length pm] from by rw [← O8]) (walk_ref12_Find hOc335.lt O7 (a8.ch (Owns.dropCh _ _ 8)) H)) rfl rfl ?_
    rintro Xg Rc ⟨r336, rfl, O9, H⟩
    have gh := Stp.same hO O9
    replace hO := gh.own
    refine za rfl (zn (zq ?_))
    refine Go1.cut [(1, .int .i64 k2_225), (4, .pointer (some ⟨B8, 0, none⟩)), (6, .pointer (some ⟨fu, 0, none⟩)), (7, .map (some B160)), (8, .slice lC kX lD), (10, .slice ms kj mt), (11, .string (gstr (ix d_227 k2_226))), (12, .int .i64 (k3_273 : Int)), (13, .slice pk r327.length pm), (14, .int .i64 r336), (86, .int .i64 (a0.Gens.length : Int)), (87, .int .i64 (k3_273 : Int))] ⟨rfl, rfl, rfl, rfl, rfl, rfl, rfl, rfl, rfl, rfl, rfl, rfl, trivial⟩ ?_
    intro σ _
    refine zr (zm rfl (zm rfl ?_))
    refine GoR.call (op_call body55 rfl (walk_ref12_letter hO.lt H)) rfl rfl ?_
    rintro Xh Xi ⟨r342, rfl, EH, S1, H⟩
    have rb := Stp.same hO EH
    replace hO := rb.own
    obtain ⟨G0, H⟩ := H
    refine zo (op_addS rfl rfl G0) (za rfl (zn (zq (zq (zr ?_)))))
    refine zm rfl ?_
    by_cases Cs : r336 < (0 : Int)
    ·replace H := ifp Cs H
     refine zo (fun w => opB (op_lss rfl rfl w) (decide_eq_true Cs)) (zn (zt rfl rfl (zq (zq (zr ?_)))))
     refine zo (op_fieldAddr Try.underlying29 rfl ti22 rfl (by decide)) (zs (oblk (i := 3) 3 hO rfl rfl Try.underlying22 rfl rfl) ?_)
     replace c5 := (c5.ch gh.ch).ch rb.ch
     refine zo (op_lenN Try.underlying22 rfl (c5.neq hO 8 rfl)) ?_
     by_cases Cz : (d_305.length : Int) = (2000 : Int)
     ·replace H := ifp Cz H
      refine zo (fun w => opB (op_eql rfl rfl w) (decide_eq_true Cz)) (zn (zt rfl rfl (zq (zr (zo (op_build Try.underlying29 ti29 (pl := [(0, 1), (1, 1), (2, 1), (3, 1), (4, 1), (5, 1), (6, 1), (7, 1), (8, 1)]) (vs := []) (cs := #[.int .i64 (0 : Int), .bool false, .slice none 0 0, .slice none 0 0, .slice none 0 0, .slice none 0 0, .slice none 0 0, .slice none 0 0, .int .i64 (0 : Int)]) (by kernel_rfl) rfl (by kernel_rfl)) ?_)))))
      have hobt := oblkStAgg (us := [.int .i64 (0 : Int), .bool false, .slice none 0 0, .slice none 0 0, .slice none 0 0, .slice none 0 0, .slice none 0 0, .slice none 0 0, .int .i64 (0 : Int)]) (o := 0) (cs' := #[.int .i64 (0 : Int), .bool false, .slice none 0 0, .slice none 0 0, .slice none 0 0, .slice none 0 0, .slice none 0 0, .slice none 0 0, .int .i64 (0 : Int)]) 9 hO rfl rfl (Nat.le_of_ble_eq_true rfl) rfl
      obtain ⟨Re, qg, Kw⟩ := hobt
      dsimp only [sS, sZ] at qg
      refine zg (Kw ti29 (by exact rfl) (by exact rfl) rfl) ?_
      replace hO := qg.own
      refine za rfl (zn ?_)
      refine Go1.retC2 Try.func52 rfl rfl (run_loadBlk (vs := [.int .i64 (0 : Int), .bool false, .slice none 0 0, .slice none 0 0, .slice none 0 0, .slice none 0 0, .slice none 0 0, .slice none 0 0, .int .i64 (0 : Int)]) 9 hO rfl rfl Try.underlying29 rfl ti29) ?_
      replace hB := ((((hB.trans uX.fr).trans fF.fr).trans gh.fr).trans rb.fr).trans qg.fr
      exact ⟨(⟨(0 : Int), false, ([] : List (List Int)), ([] : List (List Int)), ([] : List Int), ([] : List Int), ([] : List (List Int)), ([] : List Rule), (0 : Int)⟩ : Enum), (3 : Int), none, 0, none, 0, none, 0, none, 0, none, 0, none, 0, rfl, hB.same, (ISl.null _ _ _), (ISl.null _ _ _), (ISl.null _ _ _), (ISl.null _ _ _), (ISl.null _ _ _), (ISl.null _ _ _), H⟩
     replace H := ifn Cz H
     refine zo (fun w => opB (op_eql rfl rfl w) (decide_eq_false Cz)) (zn (zf rfl rfl (zk (zq (zr ?_)))))
     refine zo (op_fieldAddr Try.underlying29 rfl ti22 rfl (by decide)) (zs (oblk (i := 3) 3 hO rfl rfl Try.underlying22 rfl rfl) (zo (op_lenN Try.underlying22 rfl (c5.neq hO 8 rfl)) (za rfl (zn (zq ?_)))))
     refine Go1.drawA (CSv.tr [(some ⟨fu, 3, none⟩), (some ⟨fu, 4, none⟩), (some ⟨fu, 8, none⟩), (some ⟨fu, 5, none⟩)]) A 1 [(0, .pure), (1, .stable), (2, .pure), (5, .pure), (6, .stable), (7, .pure), (8, .stable), (11, .pure), (12, .stable), (13, .pure), (3, .alloc), (4, .loud), (16, .pure), (9, .alloc), (10, .loud), (14, .alloc), (15, .loud), (17, .last), (18, .pure), (19, .last), (20, .pure), (21, .last)] mixed (by kernel_rfl) trivial hO.bd ?_
     intro RR Pa
     have jM := Stp.same hO Pa
     replace hO := jM.own
     have Fj := hO.le
     replace hB := ((((hB.trans uX.fr).trans fF.fr).trans gh.fr).trans rb.fr).trans jM.fr
     have hw357 := hB.ch.size
     refine GoQA.pure rfl (op_fieldAddr Try.underlying29 rfl ti22 rfl (by decide)) rfl rfl ?_
     refine GoQA.stable rfl (loadV (.head _) rfl (blkCell 3 hO rfl rfl) Try.underlying22 rfl rfl) rfl rfl ?_
     refine GoQA.pure rfl (op_move rfl) rfl rfl ?_
     refine GoQA.pure rfl (op_fieldAddr Try.underlying29 rfl ti26 rfl (by decide)) rfl rfl ?_
     refine GoQA.stable rfl (loadV (.tail _ (.head _)) rfl (blkCell 3 hO rfl rfl) Try.underlying26 rfl rfl) rfl rfl ?_
     refine GoQA.pure rfl (op_fieldAddr Try.underlying29 rfl ti3 rfl (by decide)) rfl rfl ?_
     refine GoQA.stable rfl (loadV (.tail _ (.tail _ (.head _))) rfl (blkCell 3 hO rfl rfl) Try.underlying3 rfl rfl) rfl rfl ?_
     refine GoQA.pure rfl (op_fieldAddr Try.underlying29 rfl ti26 rfl (by decide)) rfl rfl ?_
     refine GoQA.stable rfl (loadV (.tail _ (.tail _ (.tail _ (.head _)))) rfl (blkCell 3 hO rfl rfl) Try.underlying26 rfl rfl) rfl rfl ?_
     refine GoQA.pure rfl (op_move rfl) rfl rfl ?_
     refine GoQA.alloc rfl rfl (alBuild (n := 1) (parts := [(0, .slice pk r327.length pm)]) (vs := [.slice pk r327.length pm]) Try.underlying22 ti26 (by decide) (by decide) (by decide) (by kernel_rfl) rfl rfl) ?_
     intro Fa A361 Kx A363 uJ Hu hd366 hnb367 hh368
     replace hO := uJ.own hO
     have Z19 := ((gh.ch.trans rb.ch).trans jM.ch).trans (uJ.ch _)
     replace a8 := a8.ch Z19
     have Cl : Els (Rp.sl (Rp.int .i64)) (bl [.row 3 1 ms kj mt pI, .row 9 1 lC kX lD mg, .any (mapE (fun a : List UInt8 => Value.string (gstr a)) (fun a : Int => Value.int .i64 a) B160 m3_286), .blk fu (.cells #[.int .i64 a0.Points, .bool a0.Monoid, .slice ap a0.Gens.length aq, .slice gp f5 gq, .slice iG gf iH, .slice gv gc gN, .slice d4 dY d5, .slice gL f9 gM, .int .i64 k2_226] 29 (0, 0)), .row 39 2 gL f9 gM km, .row 26 1 d4 dY d5 jm, .row 3 1 gv gc gN mh, .row 3 1 iG gf iH m7, .row 26 1 gp f5 gq oK, .blk B8 (.cells #[.int .i64 (0 : Int), .bool false, .slice none 0 0, .slice none 0 0, .slice none 0 0, .slice none 0 0, .slice none 0 0, .slice none 0 0, .int .i64 (0 : Int)] 29 (0, 0))] ++ A361) Fa [.slice pk r327.length pm] [r327] := (Els.cons rfl ⟨pk, pm, rfl, a8⟩ (Els.nil _ _ _) (by simp [mx]))
     have jj := gainCh (w := Fa) (E := [.row 3 1 ms kj mt pI, .row 9 1 lC kX lD mg, .any (mapE (fun a : List UInt8 => Value.string (gstr a)) (fun a : Int => Value.int .i64 a) B160 m3_286), .blk fu (.cells #[.int .i64 a0.Points, .bool a0.Monoid, .slice ap a0.Gens.length aq, .slice gp f5 gq, .slice iG gf iH, .slice gv gc gN, .slice d4 dY d5, .slice gL f9 gM, .int .i64 k2_226] 29 (0, 0)), .row 39 2 gL f9 gM km, .row 26 1 d4 dY d5 jm, .row 3 1 gv gc gN mh, .row 3 1 iG gf iH m7, .row 26 1 gp f5 gq oK, .blk B8 (.cells #[.int .i64 (0 : Int), .bool false, .slice none 0 0, .slice none 0 0, .slice none 0 0, .slice none 0 0, .slice none 0 0, .slice none 0 0, .int .i64 (0 : Int)] 29 (0, 0))]) (e := .row 26 1 (some ⟨Kx, 0, none⟩) 1 1 [.slice pk r327.length pm]) Hu rfl
     replace hB := hB.trans (uJ.same.fr _)
     replace hB := Fr.gain (e := .row 26 1 (some ⟨Kx, 0, none⟩) 1 1 [.slice pk r327.length pm]) hB (Nat.le_trans hw357 hnb367) rfl
     replace hO := Owns.gain hO Hu Fj rfl hh368 hd366
     refine GoQA.loudI rfl rfl ?_
     intro Xj A372 tV
     replace hO := tV.own hO
     replace Cl := (Cl.ch jj).ch (tV.ch _)
     have hobt := freeze 0 hO rfl Cl
     obtain ⟨hO1, vw, en, Pb⟩ := hobt
     dsimp only [eS, eZ] at hO1 vw en
     replace hB := (hB.trans (tV.same.fr _)).trans (Owns.dropFr _ _ 0)
     dsimp only [eS, eZ] at hB
     replace hO := hO1; clear hO1
     obtain ⟨Sa, H⟩ := H
     have Z20 := (((jM.ch.trans (uJ.ch _)).trans jj).trans (tV.ch _)).trans vw
     replace c5 := c5.ch Z20
     have hobt := oapp Try.underlying22 ti26 rfl 8 hO rfl c5 en Pb Sa (by decide)
     obtain ⟨Rf, Ac, Ad, mA, mj, eA, Ky⟩ := hobt
     dsimp only [sS, sZ] at mj eA
     refine GoAt.step (Ky (by exact rfl) (by exact rfl)) (fun _ => (CSv.cons (cs_eq (blkCell 3 hO rfl rfl) (blkCell 3 mj.own rfl rfl)) (CSv.cons (cs_eq (blkCell 3 hO rfl rfl) (blkCell 3 mj.own rfl rfl)) (CSv.cons (cs_eq (blkCell 3 hO rfl rfl) (blkCell 3 mj.own rfl rfl)) (CSv.cons (cs_eq (blkCell 3 hO rfl rfl) (blkCell 3 mj.own rfl rfl)) (CSv.nil _ _)))))) (Stp.kp hO mj) rfl ?_
     replace hO := mj.own
     refine GoQA.pure rfl (op_fieldAddr Try.underlying29 rfl ti22 rfl (by decide)) rfl rfl ?_
     refine GoQA.alloc rfl rfl (alBuild (n := 1) (parts := [(0, .int .i64 k2_226)]) (vs := [.int .i64 k2_226]) Try.underlying26 ti3 (by decide) (by decide) (by decide) (by kernel_rfl) rfl rfl) ?_
     intro Gw A388 Kz A390 tW Hv hd393 hnb394 hh395
     replace hO := tW.own hO
     have Cm : Els (Rp.int .i64) (bl [.row 3 1 ms kj mt pI, .row 9 1 lC kX lD mg, .any (mapE (fun a : List UInt8 => Value.string (gstr a)) (fun a : Int => Value.int .i64 a) B160 m3_286), .blk fu (.cells #[.int .i64 a0.Points, .bool a0.Monoid, .slice ap a0.Gens.length aq, .slice gp f5 gq, .slice iG gf iH, .slice gv gc gN, .slice d4 dY d5, .slice gL f9 gM, .int .i64 k2_226] 29 (0, 0)), .row 39 2 gL f9 gM km, .row 26 1 d4 dY d5 jm, .row 3 1 gv gc gN mh, .row 3 1 iG gf iH m7, .row 26 1 Ac (f5 + 1) Ad mA, .blk B8 (.cells #[.int .i64 (0 : Int), .bool false, .slice none 0 0, .slice none 0 0, .slice none 0 0, .slice none 0 0, .slice none 0 0, .slice none 0 0, .int .i64 (0 : Int)] 29 (0, 0))] ++ A388) Gw [.int .i64 k2_226] [k2_226] := (Els.cons rfl rfl (Els.nil _ _ _) (by simp [mx]))
     have uK := gainCh (w := Gw) (E := [.row 3 1 ms kj mt pI, .row 9 1 lC kX lD mg, .any (mapE (fun a : List UInt8 => Value.string (gstr a)) (fun a : Int => Value.int .i64 a) B160 m3_286), .blk fu (.cells #[.int .i64 a0.Points, .bool a0.Monoid, .slice ap a0.Gens.length aq, .slice gp f5 gq, .slice iG gf iH, .slice gv gc gN, .slice d4 dY d5, .slice gL f9 gM, .int .i64 k2_226] 29 (0, 0)), .row 39 2 gL f9 gM km, .row 26 1 d4 dY d5 jm, .row 3 1 gv gc gN mh, .row 3 1 iG gf iH m7, .row 26 1 Ac (f5 + 1) Ad mA, .blk B8 (.cells #[.int .i64 (0 : Int), .bool false, .slice none 0 0, .slice none 0 0, .slice none 0 0, .slice none 0 0, .slice none 0 0, .slice none 0 0, .int .i64 (0 : Int)] 29 (0, 0))]) (e := .row 3 1 (some ⟨Kz, 0, none⟩) 1 1 [.int .i64 k2_226]) Hv rfl
     replace hB := (hB.trans mj.fr).trans (tW.same.fr _)
     replace hB := Fr.gain (e := .row 3 1 (some ⟨Kz, 0, none⟩) 1 1 [.int .i64 k2_226]) hB (Nat.le_trans hw357 hnb394) rfl
     replace hO := Owns.gain hO Hv Fj rfl hh395 hd393
     refine GoQA.loudI rfl rfl ?_
     intro Qo A399 sa
     replace hO := sa.own hO
     replace Cm := (Cm.ch uK).ch (sa.ch _)
     have hobt := freeze 0 hO rfl Cm
     obtain ⟨hO1, uL, fx, Pc⟩ := hobt
     dsimp only [eS, eZ] at hO1 uL fx
     replace hB := (hB.trans (sa.same.fr _)).trans (Owns.dropFr _ _ 0)
     dsimp only [eS, eZ] at hB
     replace hO := hO1; clear hO1
     obtain ⟨Sb, H⟩ := H
     have Z21 := ((((((((((((uX.ch.trans fF.ch).trans gh.ch).trans rb.ch).trans jM.ch).trans (uJ.ch _)).trans jj).trans (tV.ch _)).trans vw).trans mj.ch).trans (tW.ch _)).trans uK).trans (sa.ch _)).trans uL
     replace cR := cR.ch Z21
     have hobt := oapp Try.underlying26 ti3 rfl 7 hO rfl cR fx Pc Sb (by decide)
     obtain ⟨Xk, CJ, CK, Fk, ld, fE, DD⟩ := hobt
     dsimp only [sS, sZ] at ld fE
     refine GoAt.step (DD (by exact rfl) (by exact rfl)) (fun _ => (CSv.cons (cs_eq (blkCell 3 hO rfl rfl) (blkCell 3 ld.own rfl rfl)) (CSv.cons (cs_eq (blkCell 3 hO rfl rfl) (blkCell 3 ld.own rfl rfl)) (CSv.cons (cs_eq (blkCell 3 hO rfl rfl) (blkCell 3 ld.own rfl rfl)) (CSv.cons (cs_eq (blkCell 3 hO rfl rfl) (blkCell 3 ld.own rfl rfl)) (CSv.nil _ _)))))) (Stp.kp hO ld) rfl ?_
     replace hO := ld.own
     refine GoQA.alloc rfl rfl (alBuild (n := 1) (parts := [(0, .int .i64 (k3_273 : Int))]) (vs := [.int .i64 (k3_273 : Int)]) Try.underlying26 ti3 (by decide) (by decide) (by decide) (by kernel_rfl) rfl rfl) ?_
     intro KA A415 KB A417 sb Hw hd420 hnb421 hh422
     replace hO := sb.own hO
     have Cn : Els (Rp.int .i64) (bl [.row 3 1 ms kj mt pI, .row 9 1 lC kX lD mg, .any (mapE (fun a : List UInt8 => Value.string (gstr a)) (fun a : Int => Value.int .i64 a) B160 m3_286), .blk fu (.cells #[.int .i64 a0.Points, .bool a0.Monoid, .slice ap a0.Gens.length aq, .slice gp f5 gq, .slice iG gf iH, .slice gv gc gN, .slice d4 dY d5, .slice gL f9 gM, .int .i64 k2_226] 29 (0, 0)), .row 39 2 gL f9 gM km, .row 26 1 d4 dY d5 jm, .row 3 1 gv gc gN mh, .row 3 1 CJ (gf + 1) CK Fk, .row 26 1 Ac (f5 + 1) Ad mA, .blk B8 (.cells #[.int .i64 (0 : Int), .bool false, .slice none 0 0, .slice none 0 0, .slice none 0 0, .slice none 0 0, .slice none 0 0, .slice none 0 0, .int .i64 (0 : Int)] 29 (0, 0))] ++ A415) KA [.int .i64 (k3_273 : Int)] [(k3_273 : Int)] := (Els.cons rfl rfl (Els.nil _ _ _) (by simp [mx]))
     have tX := gainCh (w := KA) (E := [.row 3 1 ms kj mt pI, .row 9 1 lC kX lD mg, .any (mapE (fun a : List UInt8 => Value.string (gstr a)) (fun a : Int => Value.int .i64 a) B160 m3_286), .blk fu (.cells #[.int .i64 a0.Points, .bool a0.Monoid, .slice ap a0.Gens.length aq, .slice gp f5 gq, .slice iG gf iH, .slice gv gc gN, .slice d4 dY d5, .slice gL f9 gM, .int .i64 k2_226] 29 (0, 0)), .row 39 2 gL f9 gM km, .row 26 1 d4 dY d5 jm, .row 3 1 gv gc gN mh, .row 3 1 CJ (gf + 1) CK Fk, .row 26 1 Ac (f5 + 1) Ad mA, .blk B8 (.cells #[.int .i64 (0 : Int), .bool false, .slice none 0 0, .slice none 0 0, .slice none 0 0, .slice none 0 0, .slice none 0 0, .slice none 0 0, .int .i64 (0 : Int)] 29 (0, 0))]) (e := .row 3 1 (some ⟨KB, 0, none⟩) 1 1 [.int .i64 (k3_273 : Int)]) Hw rfl
     replace hB := (hB.trans ld.fr).trans (sb.same.fr _)
     replace hB := Fr.gain (e := .row 3 1 (some ⟨KB, 0, none⟩) 1 1 [.int .i64 (k3_273 : Int)]) hB (Nat.le_trans hw357 hnb421) rfl
     replace hO := Owns.gain hO Hw Fj rfl hh422 hd420
     refine GoQA.loudI rfl rfl ?_
     intro Xl A426 qy
     replace hO := qy.own hO
     replace Cn := (Cn.ch tX).ch (qy.ch _)
     have hobt := freeze 0 hO rfl Cn
     obtain ⟨hO1, tY, gT, Pd⟩ := hobt
     dsimp only [eS, eZ] at hO1 tY gT
     replace hB := (hB.trans (qy.same.fr _)).trans (Owns.dropFr _ _ 0)
     dsimp only [eS, eZ] at hB
     replace hO := hO1; clear hO1
     obtain ⟨Sc, H⟩ := H
     have Z22 := ((((Z21.trans ld.ch).trans (sb.ch _)).trans tX).trans (qy.ch _)).trans tY
     replace cw := cw.ch Z22
     have hobt := oapp Try.underlying26 ti3 rfl 6 hO rfl cw gT Pd Sc (by decide)
     obtain ⟨Xm, G1, G3, Pe, eX, gR, KC⟩ := hobt
     dsimp only [sS, sZ] at eX gR
     refine GoAt.step (KC (by exact rfl) (by exact rfl)) (fun _ => (CSv.cons (cs_eq (blkCell 3 hO rfl rfl) (blkCell 3 eX.own rfl rfl)) (CSv.cons (cs_eq (blkCell 3 hO rfl rfl) (blkCell 3 eX.own rfl rfl)) (CSv.cons (cs_eq (blkCell 3 hO rfl rfl) (blkCell 3 eX.own rfl rfl)) (CSv.cons (cs_eq (blkCell 3 hO rfl rfl) (blkCell 3 eX.own rfl rfl)) (CSv.nil _ _)))))) (Stp.kp hO eX) rfl ?_
     replace hO := eX.own
     refine GoQA.lastI rfl rfl ?_
     intro Xn A441 qz
     replace hO := qz.own hO
     have hobt := oblkSt2 (v := .slice Ac (f5 + 1) Ad) (i := 3) (cs' := #[.int .i64 a0.Points, .bool a0.Monoid, .slice ap a0.Gens.length aq, .slice Ac (f5 + 1) Ad, .slice iG gf iH, .slice gv gc gN, .slice d4 dY d5, .slice gL f9 gM, .int .i64 k2_226]) 3 hO rfl rfl rfl rfl
     obtain ⟨Xo, mP, KD⟩ := hobt
     dsimp only [sS, sZ] at mP
     refine GoAt.step (KD Try.underlying22 rfl ti22 (by exact rfl) (by exact rfl)) (fun h => nomatch h) (Stp.kp hO mP) rfl ?_
     replace hO := mP.own
     refine GoQA.pure rfl (op_fieldAddr Try.underlying29 rfl ti26 rfl (by decide)) rfl rfl ?_
     refine GoQA.lastI rfl rfl ?_
     intro Xp A447 qA
     replace hO := qA.own hO
     have hobt := oblkSt2 (v := .slice CJ (gf + 1) CK) (i := 4) (cs' := #[.int .i64 a0.Points, .bool a0.Monoid, .slice ap a0.Gens.length aq, .slice Ac (f5 + 1) Ad, .slice CJ (gf + 1) CK, .slice gv gc gN, .slice d4 dY d5, .slice gL f9 gM, .int .i64 k2_226]) 3 hO rfl rfl rfl rfl
     obtain ⟨Xq, mQ, DG⟩ := hobt
     dsimp only [sS, sZ] at mQ
     refine GoAt.step (DG Try.underlying26 rfl ti26 (by exact rfl) (by exact rfl)) (fun h => nomatch h) (Stp.kp hO mQ) rfl ?_
     replace hO := mQ.own
     refine GoQA.pure rfl (op_fieldAddr Try.underlying29 rfl ti26 rfl (by decide)) rfl rfl ?_
     refine GoQA.lastI rfl rfl ?_
     intro Xr A453 qB
     replace hO := qB.own hO
     have hobt := oblkSt2 (v := .slice G1 (gc + 1) G3) (i := 5) (cs' := #[.int .i64 a0.Points, .bool a0.Monoid, .slice ap a0.Gens.length aq, .slice Ac (f5 + 1) Ad, .slice CJ (gf + 1) CK, .slice G1 (gc + 1) G3, .slice d4 dY d5, .slice gL f9 gM, .int .i64 k2_226]) 3 hO rfl rfl rfl rfl
     obtain ⟨Qu, mS, KE⟩ := hobt
     dsimp only [sS, sZ] at mS
     refine GoAt.step (KE Try.underlying26 rfl ti26 (by exact rfl) (by exact rfl)) (fun h => nomatch h) (Stp.kp hO mS) rfl ?_
     replace hO := mS.own
     refine GoQA.nil ?_
     intro RT A459 qC sc
     replace hO := qC.own hO
     replace hO := hO.permA sc
     refine zq ?_
     refine Go1.cut [(1, .int .i64 k2_225), (4, .pointer (some ⟨B8, 0, none⟩)), (6, .pointer (some ⟨fu, 0, none⟩)), (7, .map (some B160)), (8, .slice lC kX lD), (10, .slice ms kj mt), (11, .string (gstr (ix d_227 k2_226))), (14, .int .i64 (d_305.length : Int)), (15, .string (gstr ((ix d_227 k2_226) ++ r342))), (86, .int .i64 (a0.Gens.length : Int)), (87, .int .i64 (k3_273 : Int))] ⟨rfl, rfl, rfl, rfl, rfl, rfl, rfl, rfl, rfl, rfl, rfl, trivial⟩ ?_
     intro σ _
     refine zr (zm rfl (zm rfl ?_))
     have hobt := obuild (r := Rp.str) (n := 1) (parts := [(0, .string (gstr ((ix d_227 k2_226) ++ r342)))]) (vs := [.string (gstr ((ix d_227 k2_226) ++ r342))]) (xs := [(ix d_227 k2_226) ++ r342]) rfl Try.underlying70 ti9 hO (by decide) (by kernel_rfl) (Els.cons rfl ⟨rfl, (lenApp G0)⟩ (Els.nil _ _ _) (by simp [mx])) rfl
     obtain ⟨Xs, Xt, ip, Pf, TI, KF⟩ := hobt
     refine zg (KF rfl) ?_
     replace hO := ip.own
     have hobt := freeze 0 hO rfl Pf
     obtain ⟨hO1, sd, vy, Pg⟩ := hobt
     dsimp only [eS, eZ] at hO1 sd vy
     replace hB := (((((((((hB.trans eX.fr).trans (qz.same.fr _)).trans mP.fr).trans (qA.same.fr _)).trans mQ.fr).trans (qB.same.fr _)).trans mS.fr).trans (qC.same.fr _)).trans ip.fr).trans (Owns.dropFr _ _ 0)
     dsimp only [eS, eZ] at hB
     replace hO := hO1; clear hO1
     obtain ⟨Sd, H⟩ := H
     have Z23 := ((((((((((Z22.trans eX.ch).trans (qz.ch _)).trans mP.ch).trans (qA.ch _)).trans mQ.ch).trans (qB.ch _)).trans mS.ch).trans (qC.ch _)).trans (permCh sc _)).trans ip.ch).trans sd
     replace bB := bB.ch Z23
     have hobt := oapp Try.underlying70 ti9 rfl 1 hO rfl bB vy Pg Sd (by decide)
     obtain ⟨Xu, Se, Sf, Ph, gU, u6, KG⟩ := hobt
     dsimp only [sS, sZ] at gU u6
     refine zg (KG (by exact rfl) (by exact rfl)) ?_
     replace hO := gU.own
     refine za rfl (zn (zr (zm rfl (zm rfl (zm rfl ?_)))))
     have hobt := omapUpd (MK.str Try.underlying9) 2 hO rfl Try.underlying69 ((ix d_227 k2_226) ++ r342) (d_305.length : Int)
     obtain ⟨Xv, mT, DH⟩ := hobt
     dsimp only [sS, sZ] at mT
     refine zg (DH (by exact rfl) (by exact rfl) (by exact rfl)) ?_
     replace hO := mT.own
     refine zn (zr (zm rfl (zm rfl ?_)))
     have hobt := obuild (r := Rp.int .i64) (n := 1) (parts := [(0, .int .i64 (d_305.length : Int))]) (vs := [.int .i64 (d_305.length : Int)]) (xs := [(d_305.length : Int)]) rfl Try.underlying26 ti3 hO (by decide) (by kernel_rfl) (Els.cons rfl rfl (Els.nil _ _ _) (by simp [mx])) rfl
     obtain ⟨Xw, Xx, fY, C6, TJ, KH⟩ := hobt
     refine zg (KH rfl) ?_
     replace hO := fY.own
     have hobt := freeze 0 hO rfl C6
     obtain ⟨hO1, qD, C9, Pi⟩ := hobt
     dsimp only [eS, eZ] at hO1 qD C9
     replace hB := (((hB.trans gU.fr).trans mT.fr).trans fY.fr).trans (Owns.dropFr _ _ 0)
     dsimp only [eS, eZ] at hB
     replace hO := hO1; clear hO1
     obtain ⟨Sh, H⟩ := H
     have Z24 := (((Z23.trans gU.ch).trans mT.ch).trans fY.ch).trans qD
     replace cb := cb.ch Z24
     have hobt := oapp Try.underlying26 ti3 rfl 0 hO rfl cb C9 Pi Sh (by decide)
     obtain ⟨Xy, Si, Sj, Pj, mU, Hx, KI⟩ := hobt
     dsimp only [sS, sZ] at mU Hx
     refine zg (KI (by exact rfl) (by exact rfl)) ?_
     replace hO := mU.own
     refine za rfl (zn ?_)
     refine Go1.inBlock ?_
     refine zr ?_
     have Z25 := ((((((((((((((((((((((((((((((((fF.ch.trans gh.ch).trans rb.ch).trans jM.ch).trans (uJ.ch _)).trans jj).trans (tV.ch _)).trans vw).trans mj.ch).trans (tW.ch _)).trans uK).trans (sa.ch _)).trans uL).trans ld.ch).trans (sb.ch _)).trans tX).trans (qy.ch _)).trans tY).trans eX.ch).trans (qz.ch _)).trans mP.ch).trans (qA.ch _)).trans mQ.ch).trans (qB.ch _)).trans mS.ch).trans (qC.ch _)).trans (permCh sc _)).trans ip.ch).trans sd).trans gU.ch).trans mT.ch).trans fY.ch).trans qD).trans mU.ch
     replace ac := ac.ch Z25
     refine zo (op_add rfl rfl (wrap_i64 (natbd Ab ac.bd))) (zm rfl (zn ?_))
     replace hB := hB.trans mU.fr
     have Z26 := ((mT.ch.trans fY.ch).trans qD).trans mU.ch
     replace u6 := u6.ch Z26
     have Z27 := ((((((((((((((qz.ch _).trans mP.ch).trans (qA.ch _)).trans mQ.ch).trans (qB.ch _)).trans mS.ch).trans (qC.ch _)).trans (permCh sc _)).trans ip.ch).trans sd).trans gU.ch).trans mT.ch).trans fY.ch).trans qD).trans mU.ch
     replace gR := gR.ch Z27
     have Z28 := (((((((((((((((((((sb.ch _).trans tX).trans (qy.ch _)).trans tY).trans eX.ch).trans (qz.ch _)).trans mP.ch).trans (qA.ch _)).trans mQ.ch).trans (qB.ch _)).trans mS.ch).trans (qC.ch _)).trans (permCh sc _)).trans ip.ch).trans sd).trans gU.ch).trans mT.ch).trans fY.ch).trans qD).trans mU.ch
     replace fE := fE.ch Z28
     have Z29 := ((((((((((((((((((((((((tW.ch _).trans uK).trans (sa.ch _)).trans uL).trans ld.ch).trans (sb.ch _)).trans tX).trans (qy.ch _)).trans tY).trans eX.ch).trans (qz.ch _)).trans mP.ch).trans (qA.ch _)).trans mQ.ch).trans (qB.ch _)).trans mS.ch).trans (qC.ch _)).trans (permCh sc _)).trans ip.ch).trans sd).trans gU.ch).trans mT.ch).trans fY.ch).trans qD).trans mU.ch
     replace eA := eA.ch Z29
     have Z30 := Z24.trans mU.ch
     replace aW := aW.ch Z30
     replace ba := ba.ch Z30
     exact hX3 _ H _ _ ⟨kj + 1, Si, Sj, Pj, kX + 1, Se, Sf, Ph, f9, gL, gM, km, gc + 1, G1, G3, Pe, gf + 1, CJ, CK, Fk, f5 + 1, Ac, Ad, mA, ⟨rfl, rfl, rfl, rfl, rfl, rfl, rfl, rfl, rfl, trivial⟩, hO, Hx, u6, aW, ba, gR, fE, eA, ac, hB⟩
    replace H := ifn Cs H
    refine zo (fun w => opB (op_lss rfl rfl w) (decide_eq_false Cs)) (zn (zf rfl rfl (zq (zr (zm rfl ?_)))))
    by_cases Fm : (ix d_227 k2_226) = (([] : Str))
    ·replace H := ifp Fm H
     refine zo (fun w => opB (op_neqS rfl rfl w) (ndT Fm)) (zm rfl (zp (zp (zp (zp ?_)))))
     refine zp (zp (zo (op_pickF rfl rfl rfl) (zn (zf rfl rfl (zk ?_)))))
     refine Go1.cut [(1, .int .i64 k2_225), (4, .pointer (some ⟨B8, 0, none⟩)), (6, .pointer (some ⟨fu, 0, none⟩)), (7, .map (some B160)), (8, .slice lC kX lD), (10, .slice ms kj mt), (11, .string (gstr (ix d_227 k2_226))), (14, .int .i64 r336), (86, .int .i64 (a0.Gens.length : Int)), (87, .int .i64 (k3_273 : Int))] ⟨rfl, rfl, rfl, rfl, rfl, rfl, rfl, rfl, rfl, rfl, trivial⟩ ?_
     intro σ _
     refine zr (zm rfl (zm rfl ?_))
     have hobt := obuild (r := Rp.int .i64) (n := 1) (parts := [(0, .int .i64 r336)]) (vs := [.int .i64 r336]) (xs := [r336]) rfl Try.underlying26 ti3 hO (by decide) (by kernel_rfl) (Els.cons rfl rfl (Els.nil _ _ _) (by simp [mx])) rfl
     obtain ⟨Xz, XA, rc, Pk, TK, KJ⟩ := hobt
     refine zg (KJ rfl) ?_
     replace hO := rc.own
     have hobt := freeze 0 hO rfl Pk
     obtain ⟨hO1, vz, Db, Pl⟩ := hobt
     dsimp only [eS, eZ] at hO1 vz Db
     replace hB := (((((hB.trans uX.fr).trans fF.fr).trans gh.fr).trans rb.fr).trans rc.fr).trans (Owns.dropFr _ _ 0)
     dsimp only [eS, eZ] at hB
     replace hO := hO1; clear hO1
     obtain ⟨Sk, H⟩ := H
     have Z31 := ((((uX.ch.trans fF.ch).trans gh.ch).trans rb.ch).trans rc.ch).trans vz
     replace cb := cb.ch Z31
     have hobt := oapp Try.underlying26 ti3 rfl 0 hO rfl cb Db Pl Sk (by decide)
     obtain ⟨XB, Sl, Sm, Pm, qh, Hy, Dt⟩ := hobt
     dsimp only [sS, sZ] at qh Hy
     refine zg (Dt (by exact rfl) (by exact rfl)) ?_
     replace hO := qh.own
     refine za rfl (zn ?_)
     refine Go1.inBlock ?_
     refine zr ?_
     have Z32 := ((((fF.ch.trans gh.ch).trans rb.ch).trans rc.ch).trans vz).trans qh.ch
     replace ac := ac.ch Z32
     refine zo (op_add rfl rfl (wrap_i64 (natbd Ab ac.bd))) (zm rfl (zn ?_))
     replace hB := hB.trans qh.fr
     have Z33 := (((gh.ch.trans rb.ch).trans rc.ch).trans vz).trans qh.ch
     replace c5 := c5.ch Z33
     have Z34 := Z31.trans qh.ch
     replace bB := bB.ch Z34
     replace aW := aW.ch Z34
     replace ba := ba.ch Z34
     replace cw := cw.ch Z34
     replace cR := cR.ch Z34
     exact hX3 _ H _ _ ⟨kj + 1, Sl, Sm, Pm, kX, lC, lD, mg, f9, gL, gM, km, gc, gv, gN, mh, gf, iG, iH, m7, f5, gp, gq, oK, ⟨rfl, rfl, rfl, rfl, rfl, rfl, rfl, rfl, rfl, trivial⟩, hO, Hy, bB, aW, ba, cw, cR, c5, ac, hB⟩
    replace H := ifn Fm H
    refine zo (fun w => opB (op_neqS rfl rfl w) (ndF Fm)) (zm rfl (zm rfl (zm rfl ?_)))
    obtain ⟨Fn, H⟩ := H
    obtain ⟨Fo, H⟩ := H
    have Z35 := ((uX.ch.trans fF.ch).trans gh.ch).trans rb.ch
    replace bB := bB.ch Z35
    refine zo (op_index Try.underlying70 ti9 rfl rfl Fn (ltn (bB.neq hO 1 rfl) Fo) (bB.psome hO 1 rfl Fn Fo)) (zs (oldStr 1 hO rfl bB Fn Fo Try.underlying9 rfl rfl) ?_)
    have hle525 := Els.str_le bB Fn Fo
    refine zm rfl ?_
    by_cases Fp : (ix d_280 r336) = ((ix d_227 k2_226) ++ r342)
    ·replace H := ifp Fp H
     refine zo (fun w => opB (op_neqS rfl rfl w) (ndT Fp)) (zo (op_pickT rfl rfl rfl) (zn (zf rfl rfl (zk (zr ?_)))))
     refine zm rfl (zm rfl ?_)
     have hobt := obuild (r := Rp.int .i64) (n := 1) (parts := [(0, .int .i64 r336)]) (vs := [.int .i64 r336]) (xs := [r336]) rfl Try.underlying26 ti3 hO (by decide) (by kernel_rfl) (Els.cons rfl rfl (Els.nil _ _ _) (by simp [mx])) rfl
     obtain ⟨XC, XD, rf, z7, TL, KK⟩ := hobt
     refine zg (KK rfl) ?_
     replace hO := rf.own
     have hobt := freeze 0 hO rfl z7
     obtain ⟨hO1, vA, Dc, Pn⟩ := hobt
     dsimp only [eS, eZ] at hO1 vA Dc
     replace hB := (((((hB.trans uX.fr).trans fF.fr).trans gh.fr).trans rb.fr).trans rf.fr).trans (Owns.dropFr _ _ 0)
     dsimp only [eS, eZ] at hB
     replace hO := hO1; clear hO1
     obtain ⟨Sn, H⟩ := H
     replace cb := ((cb.ch Z35).ch rf.ch).ch vA
     have hobt := oapp Try.underlying26 ti3 rfl 0 hO rfl cb Dc Pn Sn (by decide)
     obtain ⟨FP, KL, KM, Po, gk, Bd, KN⟩ := hobt
     dsimp only [sS, sZ] at gk Bd
     refine zg (KN (by exact rfl) (by exact rfl)) ?_
     replace hO := gk.own
     refine za rfl (zn ?_)
     refine Go1.inBlock ?_
     refine Go1.cut [(1, .int .i64 k2_225), (4, .pointer (some ⟨B8, 0, none⟩)), (6, .pointer (some ⟨fu, 0, none⟩)), (7, .map (some B160)), (8, .slice lC kX lD), (10, .slice KL (kj + 1) KM), (11, .string (gstr (ix d_227 k2_226))), (86, .int .i64 (a0.Gens.length : Int)), (87, .int .i64 (k3_273 : Int))] ⟨rfl, rfl, rfl, rfl, rfl, rfl, rfl, rfl, rfl, trivial⟩ ?_
     intro σ _
     refine zr ?_
     have Z36 := ((((fF.ch.trans gh.ch).trans rb.ch).trans rf.ch).trans vA).trans gk.ch
     replace ac := ac.ch Z36
     refine zo (op_add rfl rfl (wrap_i64 (natbd Ab ac.bd))) (zm rfl (zn ?_))
     replace hB := hB.trans gk.fr
     have Z37 := (rf.ch.trans vA).trans gk.ch
     replace bB := bB.ch Z37
     have Z38 := (((gh.ch.trans rb.ch).trans rf.ch).trans vA).trans gk.ch
     replace c5 := c5.ch Z38
     have Z39 := ((Z35.trans rf.ch).trans vA).trans gk.ch
     replace aW := aW.ch Z39
     replace ba := ba.ch Z39
     replace cw := cw.ch Z39
     replace cR := cR.ch Z39
     exact hX3 _ H _ _ ⟨kj + 1, KL, KM, Po, kX, lC, lD, mg, f9, gL, gM, km, gc, gv, gN, mh, gf, iG, iH, m7, f5, gp, gq, oK, ⟨rfl, rfl, rfl, rfl, rfl, rfl, rfl, rfl, rfl, trivial⟩, hO, Bd, bB, aW, ba, cw, cR, c5, ac, hB⟩
    replace H := ifn Fp H
    refine zo (fun w => opB (op_neqS rfl rfl w) (ndF Fp)) (zo (op_pickT rfl rfl rfl) (zn (zt rfl rfl (zq (zr ?_)))))
    refine zm rfl (zm rfl ?_)
    obtain ⟨So, H⟩ := H
    obtain ⟨Sp, H⟩ := H
    refine zo (op_sliceS Try.underlying9 rfl rfl So Sp) ?_
    by_cases Fq : mhas m3_286 ((((ix d_227 k2_226) ++ r342).drop (1 : Int).toNat)) = true
    ·replace H := ifp Fq H
     refine zs (olookT (a := (((ix d_227 k2_226) ++ r342).drop (1 : Int).toNat)) (MK.str Try.underlying9) 2 hO rfl Try.underlying69 rfl rfl Fq) (zm rfl (zo (op_extract rfl rfl) (zo (op_extract rfl rfl) (za rfl (za rfl ?_)))))
     refine zn (zq (zr (zm rfl (zn (zt rfl rfl ?_)))))
     refine Go1.drawS 3 [(0, .pure), (1, .stable), (2, .pure), (3, .pure), (4, .pure), (5, .pure), (6, .stable), (7, .pure), (8, .loud), (9, .last), (10, .pure), (11, .last)] mixed (by kernel_rfl) ?_
     intro XE Pp
     have rg := Stp.same hO Pp
     replace hO := rg.own
     refine GoQ.pure rfl (op_fieldAddr Try.underlying29 rfl ti27 rfl (by decide)) rfl rfl ?_
     refine GoQ.stable rfl (oblk (i := 7) 3 hO rfl rfl Try.underlying27 rfl rfl) rfl rfl ?_
     refine GoQ.pure rfl (op_move rfl) rfl rfl ?_
     refine GoQ.pure rfl (op_move rfl) rfl rfl ?_
     refine GoQ.pure rfl (op_move rfl) rfl rfl ?_
     obtain ⟨Fs, H⟩ := H
     obtain ⟨Ft, H⟩ := H
     replace bB := bB.ch rg.ch
     refine GoQ.pure rfl (op_index Try.underlying70 ti9 rfl rfl Fs (ltn (bB.neq hO 1 rfl) Ft) (bB.psome hO 1 rfl Fs Ft)) rfl rfl ?_
     refine GoQ.stable rfl (oldStr 1 hO rfl bB Fs Ft Try.underlying9 rfl rfl) rfl rfl ?_
     have hle554 := Els.str_le bB Fs Ft
     refine GoQ.pure rfl (op_build Try.underlying39 ti39 (pl := [(0, 1), (1, 1)]) (vs := [(0, .string (gstr ((ix d_227 k2_226) ++ r342))), (1, .string (gstr (ix d_280 r336)))]) (cs := #[.string (gstr ((ix d_227 k2_226) ++ r342)), .string (gstr (ix d_280 r336))]) (by kernel_rfl) rfl (by kernel_rfl)) rfl rfl ?_
     have hobt := obuildN (r := rpRule) (n := 1) (parts := [(0, .agg #[.string (gstr ((ix d_227 k2_226) ++ r342)), .string (gstr (ix d_280 r336))])]) (vs := [.string (gstr ((ix d_227 k2_226) ++ r342)), .string (gstr (ix d_280 r336))]) (xs := [(⟨(ix d_227 k2_226) ++ r342, ix d_280 r336⟩ : Rule)]) Try.underlying27 ti39 hO (by decide) (by decide) (by kernel_rfl) (Els.flat1 (⟨(ix d_227 k2_226) ++ r342, ix d_280 r336⟩ : Rule) ⟨(lenApp G0), hle554⟩) rfl
     obtain ⟨XF, XG, rh, Pq, Pr, KO⟩ := hobt
     refine GoQ.loud rfl (KO rfl) Pr rfl rfl ?_
     replace hO := rh.own
     have hobt := freeze 0 hO rfl Pq
     obtain ⟨hO1, mf, io, Fd⟩ := hobt
     dsimp only [eS, eZ] at hO1 mf io
     replace hB := ((((((hB.trans uX.fr).trans fF.fr).trans gh.fr).trans rb.fr).trans rg.fr).trans rh.fr).trans (Owns.dropFr _ _ 0)
     dsimp only [eS, eZ] at hB
     replace hO := hO1; clear hO1
     obtain ⟨GT, H⟩ := H
     have Z40 := ((Z35.trans rg.ch).trans rh.ch).trans mf
     replace aW := aW.ch Z40
     have hobt := oapp Try.underlying27 ti39 rfl 4 hO rfl aW io Fd GT (by decide)
     obtain ⟨RX, B1, B3, Fe, f0, jl, DM⟩ := hobt
     dsimp only [sS, sZ] at f0 jl
     refine GoQ.last rfl (DM (by exact rfl) (by exact rfl)) rfl rfl ?_
     replace hO := f0.own
     refine GoQ.pure rfl (op_fieldAddr Try.underlying29 rfl ti27 rfl (by decide)) rfl rfl ?_
     have hobt := oblkSt2 (v := .slice B1 (f9 + 1) B3) (i := 7) (cs' := #[.int .i64 a0.Points, .bool a0.Monoid, .slice ap a0.Gens.length aq, .slice gp f5 gq, .slice iG gf iH, .slice gv gc gN, .slice d4 dY d5, .slice B1 (f9 + 1) B3, .int .i64 k2_226]) 3 hO rfl rfl rfl rfl
     obtain ⟨RY, pq, KP⟩ := hobt
     dsimp only [sS, sZ] at pq
     refine GoQ.last rfl (KP Try.underlying27 rfl ti27 (by exact rfl) (by exact rfl)) rfl rfl ?_
     replace hO := pq.own
     refine GoQ.nil ?_
     refine Go1.cut [(1, .int .i64 k2_225), (4, .pointer (some ⟨B8, 0, none⟩)), (6, .pointer (some ⟨fu, 0, none⟩)), (7, .map (some B160)), (8, .slice lC kX lD), (10, .slice ms kj mt), (11, .string (gstr (ix d_227 k2_226))), (14, .int .i64 r336), (86, .int .i64 (a0.Gens.length : Int)), (87, .int .i64 (k3_273 : Int))] ⟨rfl, rfl, rfl, rfl, rfl, rfl, rfl, rfl, rfl, rfl, trivial⟩ ?_
     intro σ _
     refine zr (zm rfl (zm rfl ?_))
     have hobt := obuild (r := Rp.int .i64) (n := 1) (parts := [(0, .int .i64 r336)]) (vs := [.int .i64 r336]) (xs := [r336]) rfl Try.underlying26 ti3 hO (by decide) (by kernel_rfl) (Els.cons rfl rfl (Els.nil _ _ _) (by simp [mx])) rfl
     obtain ⟨R0, XH, qi, Ps, TM, KQ⟩ := hobt
     refine zg (KQ rfl) ?_
     replace hO := qi.own
     have hobt := freeze 0 hO rfl Ps
     obtain ⟨hO1, uM, Dd, Pt⟩ := hobt
     dsimp only [eS, eZ] at hO1 uM Dd
     replace hB := (((hB.trans f0.fr).trans pq.fr).trans qi.fr).trans (Owns.dropFr _ _ 0)
     dsimp only [eS, eZ] at hB
     replace hO := hO1; clear hO1
     obtain ⟨Sq, H⟩ := H
     have Z41 := (((Z40.trans f0.ch).trans pq.ch).trans qi.ch).trans uM
     replace cb := cb.ch Z41
     have hobt := oapp Try.underlying26 ti3 rfl 0 hO rfl cb Dd Pt Sq (by decide)
     obtain ⟨XI, Sr, Ss, Pu, pr, Hz, KR⟩ := hobt
     dsimp only [sS, sZ] at pr Hz
     refine zg (KR (by exact rfl) (by exact rfl)) ?_
     replace hO := pr.own
     refine za rfl (zn ?_)
     refine Go1.inBlock ?_
     refine zr ?_
     have Z42 := (((((((((fF.ch.trans gh.ch).trans rb.ch).trans rg.ch).trans rh.ch).trans mf).trans f0.ch).trans pq.ch).trans qi.ch).trans uM).trans pr.ch
     replace ac := ac.ch Z42
     refine zo (op_add rfl rfl (wrap_i64 (natbd Ab ac.bd))) (zm rfl (zn ?_))
     replace hB := hB.trans pr.fr
     have Z43 := ((pq.ch.trans qi.ch).trans uM).trans pr.ch
     replace jl := jl.ch Z43
     have Z44 := (((((rh.ch.trans mf).trans f0.ch).trans pq.ch).trans qi.ch).trans uM).trans pr.ch
     replace bB := bB.ch Z44
     have Z45 := ((((((((gh.ch.trans rb.ch).trans rg.ch).trans rh.ch).trans mf).trans f0.ch).trans pq.ch).trans qi.ch).trans uM).trans pr.ch
     replace c5 := c5.ch Z45
     have Z46 := Z41.trans pr.ch
     replace ba := ba.ch Z46
     replace cw := cw.ch Z46
     replace cR := cR.ch Z46
     exact hX3 _ H _ _ ⟨kj + 1, Sr, Ss, Pu, kX, lC, lD, mg, f9 + 1, B1, B3, Fe, gc, gv, gN, mh, gf, iG, iH, m7, f5, gp, gq, oK, ⟨rfl, rfl, rfl, rfl, rfl, rfl, rfl, rfl, rfl, trivial⟩, hO, Hz, bB, jl, ba, cw, cR, c5, ac, hB⟩
    replace H := ifn Fq H
    refine zs (olookF (a := (((ix d_227 k2_226) ++ r342).drop (1 : Int).toNat)) (MK.str Try.underlying9) 2 hO rfl Try.underlying69 ti3 rfl rfl Fq) (zm rfl (zo (op_extract rfl rfl) (zo (op_extract rfl rfl) (za rfl (za rfl ?_)))))
    refine zn (zq (zr (zm rfl (zn (zf rfl rfl ?_)))))
    refine zk (zr (zm rfl (zm rfl ?_)))
    have hobt := obuild (r := Rp.int .i64) (n := 1) (parts := [(0, .int .i64 r336)]) (vs := [.int .i64 r336]) (xs := [r336]) rfl Try.underlying26 ti3 hO (by decide) (by kernel_rfl) (Els.cons rfl rfl (Els.nil _ _ _) (by simp [mx])) rfl
    obtain ⟨R2, XJ, ri, Pv, TN, KS⟩ := hobt
    refine zg (KS rfl) ?_
    replace hO := ri.own
    have hobt := freeze 0 hO rfl Pv
    obtain ⟨hO1, vB, De, Pw⟩ := hobt
    dsimp only [eS, eZ] at hO1 vB De
    replace hB := (((((hB.trans uX.fr).trans fF.fr).trans gh.fr).trans rb.fr).trans ri.fr).trans (Owns.dropFr _ _ 0)
    dsimp only [eS, eZ] at hB
    replace hO := hO1; clear hO1
    obtain ⟨St, H⟩ := H
    replace cb := ((cb.ch Z35).ch ri.ch).ch vB
    have hobt := oapp Try.underlying26 ti3 rfl 0 hO rfl cb De Pw St (by decide)
    obtain ⟨XK, Su, Sv, Px, qj, HA, KT⟩ := hobt
    dsimp only [sS, sZ] at qj HA
    refine zg (KT (by exact rfl) (by exact rfl)) ?_
    replace hO := qj.own
    refine za rfl (zn ?_)
    refine Go1.inBlock ?_
    refine zr ?_
    have Z47 := ((((fF.ch.trans gh.ch).trans rb.ch).trans ri.ch).trans vB).trans qj.ch
    replace ac := ac.ch Z47
    refine zo (op_add rfl rfl (wrap_i64 (natbd Ab ac.bd))) (zm rfl (zn ?_))
    replace hB := hB.trans qj.fr
    have Z48 := (ri.ch.trans vB).trans qj.ch
    replace bB := bB.ch Z48
    have Z49 := (((gh.ch.trans rb.ch).trans ri.ch).trans vB).trans qj.ch
    replace c5 := c5.ch Z49
    have Z50 := ((Z35.trans ri.ch).trans vB).trans qj.ch
    replace aW := aW.ch Z50
    replace ba := ba.ch Z50
    replace cw := cw.ch Z50
    replace cR := cR.ch Z50
    exact hX3 _ H _ _ ⟨kj + 1, Su, Sv, Px, kX, lC, lD, mg, f9, gL, gM, km, gc, gv, gN, mh, gf, iG, iH, m7, f5, gp, gq, oK, ⟨rfl, rfl, rfl, rfl, rfl, rfl, rfl, rfl, rfl, trivial⟩, hO, HA, bB, aW, ba, cw, cR, c5, ac, hB⟩
   replace H := ifn Ab H
   refine zo (fun w => opB (op_lss rfl rfl w) (decide_eq_false Ab)) (zn (zq (zf rfl rfl ?_)))
   refine Go1.exit rfl ?_
   refine zq ?_
   refine Go1.cut [(1, .int .i64 k2_225), (4, .pointer (some ⟨B8, 0, none⟩)), (6, .pointer (some ⟨fu, 0, none⟩)), (7, .map (some B160)), (8, .slice lC kX lD), (10, .slice ms kj mt)] ⟨rfl, rfl, rfl, rfl, rfl, rfl, trivial⟩ ?_
   intro σ _
   refine zr (zo (op_fieldAddr Try.underlying29 rfl ti22 rfl (by decide)) (zs (oblk (i := 6) 3 hO rfl rfl Try.underlying22 rfl rfl) (zm rfl ?_)))
   have hobt := freeze 0 hO rfl cb
   obtain ⟨hO1, yG, vC, Py⟩ := hobt
   dsimp only [eS, eZ] at hO1 yG vC
   replace hB := hB.trans (Owns.dropFr _ _ 0)
   dsimp only [eS, eZ] at hB
   replace hO := hO1; clear hO1
   have hobt := obuild (r := Rp.sl (Rp.int .i64)) (n := 1) (parts := [(0, .slice ms kj mt)]) (vs := [.slice ms kj mt]) (xs := [d_274]) rfl Try.underlying22 ti26 hO (by decide) (by kernel_rfl) (Els.cons rfl ⟨ms, mt, congrArg some (congrArg (fun nn => Value.slice ms nn mt) Py), vC⟩ (Els.nil _ _ _) (by simp [mx])) rfl
   obtain ⟨QF, QG, jY, Ei, G6, Du⟩ := hobt
   refine zg (Du rfl) ?_
   replace hO := jY.own
   have hobt := freeze 0 hO rfl Ei
   obtain ⟨hO1, nU, lM, Ej⟩ := hobt
   dsimp only [eS, eZ] at hO1 nU lM
   replace hB := (hB.trans jY.fr).trans (Owns.dropFr _ _ 0)
   dsimp only [eS, eZ] at hB
   replace hO := hO1; clear hO1
   obtain ⟨FT, H⟩ := H
   have Z51 := (yG.trans jY.ch).trans nU
   replace ba := ba.ch Z51
   have hobt := oapp Try.underlying22 ti26 rfl 4 hO rfl ba lM Ej FT (by decide)
   obtain ⟨QH, zJ, zK, Ek, jk, oF, Dv⟩ := hobt
   dsimp only [sS, sZ] at jk oF
   refine zg (Dv (by exact rfl) (by exact rfl)) ?_
   replace hO := jk.own
   refine zo (op_fieldAddr Try.underlying29 rfl ti22 rfl (by decide)) ?_
   have hobt := oblkSt2 (v := .slice zJ (dY + 1) zK) (i := 6) (cs' := #[.int .i64 a0.Points, .bool a0.Monoid, .slice ap a0.Gens.length aq, .slice gp f5 gq, .slice iG gf iH, .slice gv gc gN, .slice zJ (dY + 1) zK, .slice gL f9 gM, .int .i64 k2_226]) 2 hO rfl rfl rfl rfl
   obtain ⟨QI, iK, Dw⟩ := hobt
   dsimp only [sS, sZ] at iK
   refine zg (Dw Try.underlying22 rfl ti22 (by exact rfl) (by exact rfl)) ?_
   replace hO := iK.own
   refine zn (zr (zo (op_fieldAddr Try.underlying29 rfl ti3 rfl (by decide)) (zs (oblk (i := 8) 2 hO rfl rfl Try.underlying3 rfl rfl) ?_)))
   obtain ⟨Sw, H⟩ := H
   refine zo (op_add rfl rfl (wrap_i64 Sw)) (zo (op_fieldAddr Try.underlying29 rfl ti3 rfl (by decide)) ?_)
   have hobt := oblkSt2 (v := .int .i64 (k2_226 + (1 : Int))) (i := 8) (cs' := #[.int .i64 a0.Points, .bool a0.Monoid, .slice ap a0.Gens.length aq, .slice gp f5 gq, .slice iG gf iH, .slice gv gc gN, .slice zJ (dY + 1) zK, .slice gL f9 gM, .int .i64 (k2_226 + (1 : Int))]) 2 hO rfl rfl rfl rfl
   obtain ⟨XL, jb, KU⟩ := hobt
   dsimp only [sS, sZ] at jb
   refine zg (KU Try.underlying3 rfl ti3 (by exact rfl) (by exact rfl)) ?_
   replace hO := jb.own
   refine zn ?_
   refine Go1.inBlock ?_
   refine zr (zm rfl ?_)
   obtain ⟨Sx, H⟩ := H
   refine zo (op_sub rfl rfl (wrap_i64 Sx)) (za rfl (zn ?_))
   replace oF := (oF.ch iK.ch).ch jb.ch
   replace hB := ((hB.trans jk.fr).trans iK.fr).trans jb.fr
   have Z52 := ((Z51.trans jk.ch).trans iK.ch).trans jb.ch
   replace ac := ac.ch Z52
   replace bB := bB.ch Z52
   replace aW := aW.ch Z52
   replace cw := cw.ch Z52
   replace cR := cR.ch Z52
   replace c5 := c5.ch Z52
   exact hX2 _ H _ _ ⟨kX, lC, lD, mg, f9, gL, gM, km, dY + 1, zJ, zK, Ek, gc, gv, gN, mh, gf, iG, iH, m7, f5, gp, gq, oK, ⟨rfl, rfl, rfl, rfl, rfl, trivial⟩, hO, bB, aW, oF, cw, cR, c5, ac, hB⟩
  replace H := ifn Fg H
  refine zo (fun w => opB (op_lss rfl rfl w) (decide_eq_false Fg)) (zo (op_pickT rfl rfl rfl) (zn (zf rfl rfl ?_)))
  refine Go1.exit rfl ?_
  refine zq (zr (zs (oblkAgg (vs := [.int .i64 a0.Points, .bool a0.Monoid, .slice ap a0.Gens.length aq, .slice jV lB jW, .slice jT lA jU, .slice jR lz jS, .slice d4 dY d5, .slice jP ly jQ, .int .i64 k2_226]) (i := 0) 2 hO rfl rfl Try.underlying29 rfl ti29 rfl) ?_))
  have hobt := oblkStAgg (us := [.int .i64 a0.Points, .bool a0.Monoid, .slice ap a0.Gens.length aq, .slice jV lB jW, .slice jT lA jU, .slice jR lz jS, .slice d4 dY d5, .slice jP ly jQ, .int .i64 k2_226]) (o := 0) (cs' := #[.int .i64 a0.Points, .bool a0.Monoid, .slice ap a0.Gens.length aq, .slice jV lB jW, .slice jT lA jU, .slice jR lz jS, .slice d4 dY d5, .slice jP ly jQ, .int .i64 k2_226]) 8 hO rfl rfl (Nat.le_of_ble_eq_true rfl) rfl
  obtain ⟨XM, uY, KV⟩ := hobt
  dsimp only [sS, sZ] at uY
  refine zg (KV ti29 (by exact rfl) (by exact rfl) rfl) ?_
  replace hO := uY.own
  refine za rfl (zn ?_)
  replace wP := wP.ch uY.ch
  have hobt := freeze 7 hO rfl wP
  obtain ⟨hO1, Ae, wQ, Pz⟩ := hobt
  dsimp only [eS, eZ] at hO1 Ae wQ
  replace hB := (hB.trans uY.fr).trans (Owns.dropFr _ _ 7)
  dsimp only [eS, eZ] at hB
  replace hO := hO1; clear hO1
  replace ry := (ry.ch uY.ch).ch Ae
  have hobt := freeze 6 hO rfl ry
  obtain ⟨hO1, Af, yH, PA⟩ := hobt
  dsimp only [eS, eZ] at hO1 Af yH
  replace hB := hB.trans (Owns.dropFr _ _ 6)
  dsimp only [eS, eZ] at hB
  replace hO := hO1; clear hO1
  have Z53 := (uY.ch.trans Ae).trans Af
  replace qf := qf.ch Z53
  have hobt := freeze 5 hO rfl qf
  obtain ⟨hO1, Ag, Bx, PB⟩ := hobt
  dsimp only [eS, eZ] at hO1 Ag Bx
  replace hB := hB.trans (Owns.dropFr _ _ 5)
  dsimp only [eS, eZ] at hB
  replace hO := hO1; clear hO1
  replace ba := (ba.ch Z53).ch Ag
  have hobt := freeze 4 hO rfl ba
  obtain ⟨hO1, Ah, Df, PC⟩ := hobt
  dsimp only [eS, eZ] at hO1 Ah Df
  replace hB := hB.trans (Owns.dropFr _ _ 4)
  dsimp only [eS, eZ] at hB
  replace hO := hO1; clear hO1
  replace kC := ((kC.ch Z53).ch Ag).ch Ah
  have hobt := freeze 3 hO rfl kC
  obtain ⟨hO1, Ai, HB, PD⟩ := hobt
  dsimp only [eS, eZ] at hO1 Ai HB
  replace hB := hB.trans (Owns.dropFr _ _ 3)
  dsimp only [eS, eZ] at hB
  replace hO := hO1; clear hO1
  refine Go1.retC2 Try.func52 rfl rfl (run_loadBlk (vs := [.int .i64 a0.Points, .bool a0.Monoid, .slice ap a0.Gens.length aq, .slice jV lB jW, .slice jT lA jU, .slice jR lz jS, .slice d4 dY d5, .slice jP ly jQ, .int .i64 k2_226]) 3 hO rfl rfl Try.underlying29 rfl ti29) ?_
  replace Df := Df.ch Ai
  replace Bx := (Bx.ch Ah).ch Ai
  have Z54 := (Ag.trans Ah).trans Ai
  replace yH := yH.ch Z54
  have Z55 := ((Af.trans Ag).trans Ah).trans Ai
  replace wQ := wQ.ch Z55
  have Z56 := ((Z53.trans Ag).trans Ah).trans Ai
  replace ac := ac.ch Z56
  exact ⟨(⟨a0.Points, a0.Monoid, a0.Gens, d_258, d_252, d_246, d_240, d_234, k2_226⟩ : Enum), (0 : Int), ap, aq, jV, jW, jT, jU, jR, jS, d4, d5, jP, jQ, (congrArg (fun l => Value.tuple (List.toArray l)) (cons_eq (congrArg (fun l => Value.agg (List.toArray l)) (cons_eq rfl (cons_eq rfl (cons_eq rfl (cons_eq (congrArg (fun nn => Value.slice jV nn jW) Pz) (cons_eq (congrArg (fun nn => Value.slice jT nn jU) PA) (cons_eq (congrArg (fun nn => Value.slice jR nn jS) PB) (cons_eq (congrArg (fun nn => Value.slice d4 nn d5) PC) (cons_eq (congrArg (fun nn => Value.slice jP nn jQ) PD) (cons_eq rfl rfl)))))))))) (cons_eq rfl rfl))), hB.same, (ac.ch (Ch.weak _ _ _)), (wQ.ch (Ch.weak _ _ _)), (yH.ch (Ch.weak _ _ _)), (Bx.ch (Ch.weak _ _ _)), (Df.ch (Ch.weak _ _ _)), (HB.ch (Ch.weak _ _ _)), H⟩
 replace H := ifn Ff H
 refine zo (fun w => opB (op_gtr rfl rfl w) (decide_eq_false Ff)) (zm rfl (zp (zp (zp (zp ?_)))))
 refine zp (zp (zo (op_pickF rfl rfl rfl) (zn (zf rfl rfl ?_))))
 refine Go1.exit rfl ?_
 refine zq ?_
 refine Go1.cut [(4, .pointer (some ⟨B8, 0, none⟩)), (6, .pointer (some ⟨fu, 0, none⟩))] ⟨rfl, rfl, trivial⟩ ?_
 intro σ _
 refine zr (zs (oblkAgg (vs := [.int .i64 a0.Points, .bool a0.Monoid, .slice ap a0.Gens.length aq, .slice jV lB jW, .slice jT lA jU, .slice jR lz jS, .slice d4 dY d5, .slice jP ly jQ, .int .i64 k2_226]) (i := 0) 2 hO rfl rfl Try.underlying29 rfl ti29 rfl) ?_)
 have hobt := oblkStAgg (us := [.int .i64 a0.Points, .bool a0.Monoid, .slice ap a0.Gens.length aq, .slice jV lB jW, .slice jT lA jU, .slice jR lz jS, .slice d4 dY d5, .slice jP ly jQ, .int .i64 k2_226]) (o := 0) (cs' := #[.int .i64 a0.Points, .bool a0.Monoid, .slice ap a0.Gens.length aq, .slice jV lB jW, .slice jT lA jU, .slice jR lz jS, .slice d4 dY d5, .slice jP ly jQ, .int .i64 k2_226]) 8 hO rfl rfl (Nat.le_of_ble_eq_true rfl) rfl
 obtain ⟨XN, u0, KW⟩ := hobt
 dsimp only [sS, sZ] at u0
 refine zg (KW ti29 (by exact rfl) (by exact rfl) rfl) ?_
 replace hO := u0.own
 refine za rfl (zn ?_)
 replace wP := wP.ch u0.ch
 have hobt := freeze 7 hO rfl wP
 obtain ⟨hO1, Aj, wR, PE⟩ := hobt
 dsimp only [eS, eZ] at hO1 Aj wR
 replace hB := (hB.trans u0.fr).trans (Owns.dropFr _ _ 7)
 dsimp only [eS, eZ] at hB
 replace hO := hO1; clear hO1
 replace ry := (ry.ch u0.ch).ch Aj
 have hobt := freeze 6 hO rfl ry
 obtain ⟨hO1, Ak, yI, PF⟩ := hobt
 dsimp only [eS, eZ] at hO1 Ak yI
 replace hB := hB.trans (Owns.dropFr _ _ 6)
 dsimp only [eS, eZ] at hB
 replace hO := hO1; clear hO1
 have Z57 := (u0.ch.trans Aj).trans Ak
 replace qf := qf.ch Z57
 have hobt := freeze 5 hO rfl qf
 obtain ⟨hO1, Al, By, PG⟩ := hobt
 dsimp only [eS, eZ] at hO1 Al By
 replace hB := hB.trans (Owns.dropFr _ _ 5)
 dsimp only [eS, eZ] at hB
 replace hO := hO1; clear hO1
 replace ba := (ba.ch Z57).ch Al
 have hobt := freeze 4 hO rfl ba
 obtain ⟨hO1, Am, Dg, PH⟩ := hobt
 dsimp only [eS, eZ] at hO1 Am Dg
 replace hB := hB.trans (Owns.dropFr _ _ 4)
 dsimp only [eS, eZ] at hB
 replace hO := hO1; clear hO1
 replace kC := ((kC.ch Z57).ch Al).ch Am
 have hobt := freeze 3 hO rfl kC
 obtain ⟨hO1, Ao, HC, PI⟩ := hobt
 dsimp only [eS, eZ] at hO1 Ao HC
 replace hB := hB.trans (Owns.dropFr _ _ 3)
 dsimp only [eS, eZ] at hB
 replace hO := hO1; clear hO1
 refine Go1.retC2 Try.func52 rfl rfl (run_loadBlk (vs := [.int .i64 a0.Points, .bool a0.Monoid, .slice ap a0.Gens.length aq, .slice jV lB jW, .slice jT lA jU, .slice jR lz jS, .slice d4 dY d5, .slice jP ly jQ, .int .i64 k2_226]) 3 hO rfl rfl Try.underlying29 rfl ti29) ?_
 replace Dg := Dg.ch Ao
 replace By := (By.ch Am).ch Ao
 have Z58 := (Al.trans Am).trans Ao
 replace yI := yI.ch Z58
 have Z59 := ((Ak.trans Al).trans Am).trans Ao
 replace wR := wR.ch Z59
 have Z60 := ((Z57.trans Al).trans Am).trans Ao
 replace ac := ac.ch Z60
 exact ⟨(⟨a0.Points, a0.Monoid, a0.Gens, d_258, d_252, d_246, d_240, d_234, k2_226⟩ : Enum), (0 : Int), ap, aq, jV, jW, jT, jU, jR, jS, d4, d5, jP, jQ, (congrArg (fun l => Value.tuple (List.toArray l)) (cons_eq (congrArg (fun l => Value.agg (List.toArray l)) (cons_eq rfl (cons_eq rfl (cons_eq rfl (cons_eq (congrArg (fun nn => Value.slice jV nn jW) PE) (cons_eq (congrArg (fun nn => Value.slice jT nn jU) PF) (cons_eq (congrArg (fun nn => Value.slice jR nn jS) PG) (cons_eq (congrArg (fun nn => Value.slice d4 nn d5) PH) (cons_eq (congrArg (fun nn => Value.slice jP nn jQ) PI) (cons_eq rfl rfl)))))))))) (cons_eq rfl rfl))), hB.same, (ac.ch (Ch.weak _ _ _)), (wR.ch (Ch.weak _ _ _)), (yI.ch (Ch.weak _ _ _)), (By.ch (Ch.weak _ _ _)), (Dg.ch (Ch.weak _ _ _)), (HC.ch (Ch.weak _ _ _)), H⟩
theorem body18 : Body Try.prog 18 := ⟨Try.f18, Try.func18, rfl, by kernel_rfl⟩
theorem walk_ref12_Build {A : List Nat} {w0 : World} {iI : Option Addr} {iJ : Nat} {gens : List (List Int)} {monoid : Bool} (hA : ∀ b ∈ A, b < w0.heap.size) (bC : ISl (Rp.sl (Rp.int .i64)) A w0 iI iJ gens) {K : Enum → Int → Prop} (H : ref12_Build gens monoid K) :
    CallsV Try.prog 18 #[.slice iI gens.length iJ, .bool monoid] w0 (fun v w' => ∃ (r0 : Enum), ∃ (r1 : Int), ∃ (nv : Option Addr), ∃ (nw : Nat), ∃ (lV : Option Addr), ∃ (lW : Nat), ∃ (kh : Option Addr), ∃ (ki : Nat), ∃ (ny : Option Addr), ∃ (nz : Nat), ∃ (lX : Option Addr), ∃ (lY : Nat), ∃ (l5 : Option Addr), ∃ (l7 : Nat), v = .tuple #[.agg #[.int .i64 r0.Points, .bool r0.Monoid, .slice nv r0.Gens.length nw, .slice lV r0.Elems.length lW, .slice kh r0.Prefix.length ki, .slice ny r0.Last.length nz, .slice lX r0.Right.length lY, .slice l5 r0.Rules.length l7, .int .i64 r0.Done], .int .i64 r1] ∧ Same w0 w' ∧ ISl (Rp.sl (Rp.int .i64)) A w' nv nw r0.Gens ∧ ISl (Rp.sl (Rp.int .i64)) A w' lV lW r0.Elems ∧ ISl (Rp.int .i64) A w' kh ki r0.Prefix ∧ ISl (Rp.int .i64) A w' ny nz r0.Last ∧ ISl (Rp.sl (Rp.int .i64)) A w' lX lY r0.Right ∧ ISl (rpRule) A w' l5 l7 r0.Rules ∧ K r0 r1) := by
 refine CallsV.of (l := [.slice iI gens.length iJ, .bool monoid]) Try.func18 rfl Try.ntmps18 rfl ?_
 have hO := Owns.start hA
 have hB := Fr.refl (bl []) w0
 unfold ref12_Build at H
 refine zq (zr ?_)
 have hobt := oalloc (t := 29) (cs := #[.int .i64 (0 : Int), .bool false, .slice none 0 0, .slice none 0 0, .slice none 0 0, .slice none 0 0, .slice none 0 0, .slice none 0 0, .int .i64 (0 : Int)]) ti29 hO rfl
 obtain ⟨w1, B2, eF, hs4, vF⟩ := hobt
 refine GoR.op vF rfl rfl ?_
 replace hO := eF.own
 refine za rfl (zn (zq (zr (zm rfl (zm rfl ?_)))))
 replace bC := (bC.ch (Ch.start A w0)).ch eF.ch
 refine GoR.call (op_call body22 rfl (walk_ref12_Start hO.lt bC H)) rfl rfl ?_
 rintro v12 w9 ⟨r7, r8, ui, uj, se, sf, qp, qq, uk, ul, sg, si, sj, sk, rfl, AF, eQ, d6, dK, eU, d7, d8, H⟩
 have qt := Stp.same hO AF
 replace hO := qt.own
 refine zm rfl (zo (op_extract rfl rfl) (zo (op_extract rfl rfl) ?_))
 have hobt := oalloc (t := 29) (cs := #[.int .i64 (0 : Int), .bool false, .slice none 0 0, .slice none 0 0, .slice none 0 0, .slice none 0 0, .slice none 0 0, .slice none 0 0, .int .i64 (0 : Int)]) ti29 hO rfl
 obtain ⟨w14, B15, oL, GK, Fu⟩ := hobt
 refine GoR.op Fu rfl rfl ?_
 replace hO := oL.own
 have hobt := oblkStAgg (us := [.int .i64 r7.Points, .bool r7.Monoid, .slice ui r7.Gens.length uj, .slice se r7.Elems.length sf, .slice qp r7.Prefix.length qq, .slice uk r7.Last.length ul, .slice sg r7.Right.length si, .slice sj r7.Rules.length sk, .int .i64 r7.Done]) (o := 0) (cs' := #[.int .i64 r7.Points, .bool r7.Monoid, .slice ui r7.Gens.length uj, .slice se r7.Elems.length sf, .slice qp r7.Prefix.length qq, .slice uk r7.Last.length ul, .slice sg r7.Right.length si, .slice sj r7.Rules.length sk, .int .i64 r7.Done]) 0 hO rfl rfl (Nat.le_of_ble_eq_true rfl) rfl
 obtain ⟨w20, gS, Cc⟩ := hobt
 refine zg (Cc ti29 (by exact rfl) (by exact rfl) rfl) ?_
 replace hO := gS.own
 refine za rfl (zn (zq (zq (zr (zm rfl ?_)))))
 by_cases h23 : r8 = (0 : Int)
 ·replace H := ifp h23 H
  refine zo (fun w => opB (op_neq rfl rfl w) (ndT h23)) (zn (zf rfl rfl (zk (zq (zr ?_)))))
  refine zs (oblkAgg (vs := [.int .i64 r7.Points, .bool r7.Monoid, .slice ui r7.Gens.length uj, .slice se r7.Elems.length sf, .slice qp r7.Prefix.length qq, .slice uk r7.Last.length ul, .slice sg r7.Right.length si, .slice sj r7.Rules.length sk, .int .i64 r7.Done]) (i := 0) 0 hO rfl rfl Try.underlying29 rfl ti29 rfl) ?_
  have Z1 := oL.ch.trans gS.ch
  replace eQ := eQ.ch Z1
  replace d6 := d6.ch Z1
  replace dK := dK.ch Z1
  replace eU := eU.ch Z1
  replace d7 := d7.ch Z1
  replace d8 := d8.ch Z1
  refine GoR.call (op_call body52 rfl (walk_ref12_process (a0 := r7) hO.lt eQ d6 dK eU d7 d8 H)) rfl rfl ?_
  rintro v29 w26 ⟨r24, r25, xP, xQ, wS, wT, wh, wi, xR, xS, wU, wV, wW, wX, rfl, Sy, Ap, yY, yc, Aq, y3, y4, H⟩
  have xT := Stp.same hO Sy
  replace hO := xT.own
  refine zo (op_extract rfl rfl) (zo (op_extract rfl rfl) ?_)
  have hobt := oblkStAgg (us := [.int .i64 r24.Points, .bool r24.Monoid, .slice xP r24.Gens.length xQ, .slice wS r24.Elems.length wT, .slice wh r24.Prefix.length wi, .slice xR r24.Last.length xS, .slice wU r24.Right.length wV, .slice wW r24.Rules.length wX, .int .i64 r24.Done]) (o := 0) (cs' := #[.int .i64 r24.Points, .bool r24.Monoid, .slice xP r24.Gens.length xQ, .slice wS r24.Elems.length wT, .slice wh r24.Prefix.length wi, .slice xR r24.Last.length xS, .slice wU r24.Right.length wV, .slice wW r24.Rules.length wX, .int .i64 r24.Done]) 1 hO rfl rfl (Nat.le_of_ble_eq_true rfl) rfl
  obtain ⟨w31, i6, PJ⟩ := hobt
  refine zg (PJ ti29 (by exact rfl) (by exact rfl) rfl) ?_
  replace hO := i6.own
  refine za rfl (zn ?_)
  refine Go1.retC2 Try.func18 rfl rfl (run_loadBlk (vs := [.int .i64 r24.Points, .bool r24.Monoid, .slice xP r24.Gens.length xQ, .slice wS r24.Elems.length wT, .slice wh r24.Prefix.length wi, .slice xR r24.Last.length xS, .slice wU r24.Right.length wV, .slice wW r24.Rules.length wX, .int .i64 r24.Done]) 1 hO rfl rfl Try.underlying29 rfl ti29) ?_
  replace Ap := Ap.ch i6.ch
  replace yY := yY.ch i6.ch
  replace yc := yc.ch i6.ch
  replace Aq := Aq.ch i6.ch
  replace y3 := y3.ch i6.ch
  replace y4 := y4.ch i6.ch
  replace hB := (((((hB.trans eF.fr).trans qt.fr).trans oL.fr).trans gS.fr).trans xT.fr).trans i6.fr
  exact ⟨(⟨r24.Points, r24.Monoid, r24.Gens, r24.Elems, r24.Prefix, r24.Last, r24.Right, r24.Rules, r24.Done⟩ : Enum), r25, xP, xQ, wS, wT, wh, wi, xR, xS, wU, wV, wW, wX, rfl, hB.same, (Ap.ch (Ch.weak _ _ _)), (yY.ch (Ch.weak _ _ _)), (yc.ch (Ch.weak _ _ _)), (Aq.ch (Ch.weak _ _ _)), (y3.ch (Ch.weak _ _ _)), (y4.ch (Ch.weak _ _ _)), H⟩
 replace H := ifn h23 H
 refine zo (fun w => opB (op_neq rfl rfl w) (ndF h23)) (zn (zt rfl rfl (zq ?_)))
 refine Go1.cut [(4, .pointer (some ⟨B2, 0, none⟩)), (7, .int .i64 r8)] ⟨rfl, rfl, trivial⟩ ?_
 intro σ _
 refine zr (zo (op_build Try.underlying29 ti29 (pl := [(0, 1), (1, 1), (2, 1), (3, 1), (4, 1), (5, 1), (6, 1), (7, 1), (8, 1)]) (vs := []) (cs := #[.int .i64 (0 : Int), .bool false, .slice none 0 0, .slice none 0 0, .slice none 0 0, .slice none 0 0, .slice none 0 0, .slice none 0 0, .int .i64 (0 : Int)]) (by kernel_rfl) rfl (by kernel_rfl)) (zm rfl ?_))
 have hobt := oblkStAgg (us := [.int .i64 (0 : Int), .bool false, .slice none 0 0, .slice none 0 0, .slice none 0 0, .slice none 0 0, .slice none 0 0, .slice none 0 0, .int .i64 (0 : Int)]) (o := 0) (cs' := #[.int .i64 (0 : Int), .bool false, .slice none 0 0, .slice none 0 0, .slice none 0 0, .slice none 0 0, .slice none 0 0, .slice none 0 0, .int .i64 (0 : Int)]) 1 hO rfl rfl (Nat.le_of_ble_eq_true rfl) rfl
 obtain ⟨w34, tS, E0⟩ := hobt
 refine zg (E0 ti29 (by exact rfl) (by exact rfl) rfl) ?_
 replace hO := tS.own
 refine za rfl (zn ?_)
 refine Go1.retC2 Try.func18 rfl rfl (run_loadBlk (vs := [.int .i64 (0 : Int), .bool false, .slice none 0 0, .slice none 0 0, .slice none 0 0, .slice none 0 0, .slice none 0 0, .slice none 0 0, .int .i64 (0 : Int)]) 1 hO rfl rfl Try.underlying29 rfl ti29) ?_
 replace hB := ((((hB.trans eF.fr).trans qt.fr).trans oL.fr).trans gS.fr).trans tS.fr
 exact ⟨(⟨(0 : Int), false, ([] : List (List Int)), ([] : List (List Int)), ([] : List Int), ([] : List Int), ([] : List (List Int)), ([] : List Rule), (0 : Int)⟩ : Enum), r8, none, 0, none, 0, none, 0, none, 0, none, 0, none, 0, rfl, hB.same, (ISl.null _ _ _), (ISl.null _ _ _), (ISl.null _ _ _), (ISl.null _ _ _), (ISl.null _ _ _), (ISl.null _ _ _), H⟩
theorem body45 : Body Try.prog 45 := ⟨Try.f45, Try.func45, rfl, by kernel_rfl⟩
theorem walk_ref03_SameRows {A : List Nat} {w0 : World} {p_a : Option Addr} {c_a : Nat} {p_b : Option Addr} {c_b : Nat} {a : List (List Int)} {b : List (List Int)} (hA : ∀ b ∈ A, b < w0.heap.size) (h_a : ISl (Rp.sl (Rp.int .i64)) A w0 p_a c_a a) (h_b : ISl (Rp.sl (Rp.int .i64)) A w0 p_b c_b b) {K : Bool → Prop} (H : ref03_SameRows a b K) :
    CallsV Try.prog 45 #[.slice p_a a.length c_a, .slice p_b b.length c_b] w0 (fun v w' => ∃ (r0 : Bool), v = .bool r0 ∧ Same w0 w' ∧ K r0) := by
 refine CallsV.of (l := [.slice p_a a.length c_a, .slice p_b b.length c_b]) Try.func45 rfl Try.ntmps45 rfl ?_
 have hO := Owns.start hA
 have hB := Fr.refl (bl []) w0
 unfold ref03_SameRows at H
 refine zq (zr (za rfl (zn (zq (zq ?_)))))
 refine zr (zm rfl (zo (op_len Try.underlying22 rfl) ?_))
 replace h_a := h_a.ch (Ch.start A w0)
 replace H := H h_a.bd
 refine zm rfl (zo (op_len Try.underlying22 rfl) ?_)
 replace h_b := h_b.ch (Ch.start A w0)
 replace H := H h_b.bd
 by_cases h1 : (a.length : Int) = (b.length : Int)
 ·replace H := ifp h1 H
  refine zo (fun w => opB (op_neq rfl rfl w) (ndT h1)) (zn (zf rfl rfl (zk (zq (zq ?_)))))
  refine zr (zm rfl (zo (op_len Try.underlying22 rfl) (zm rfl (zn (zb ?_)))))
  refine Go1.loopW (S := Nat) (fun s σ w => agrees σ [(0, .slice p_a a.length c_a), (1, .slice p_b b.length c_b), (12, .int .i64 (a.length : Int)), (13, .int .i64 (s : Int))] ∧ Owns w0.heap.size w [] A ∧ ISl (Rp.sl (Rp.int .i64)) (bl [] ++ A) w p_a c_a a ∧ ISl (Rp.sl (Rp.int .i64)) (bl [] ++ A) w p_b c_b b ∧ Fr (bl []) w0 (bl []) w) H ⟨⟨rfl, rfl, rfl, rfl, trivial⟩, hO, h_a, h_b, hB⟩ ?_
  intro X1 k1_3
  intro H hX1 σ w2
  refine andE fun hag => andE fun hO => andE fun h_a => andE fun h_b => fun hB => ?_
  refine Go1.keep [(0, .slice p_a a.length c_a), (1, .slice p_b b.length c_b), (12, .int .i64 (a.length : Int)), (13, .int .i64 (k1_3 : Int))] hag ?_
  refine zq (zr ?_)
  by_cases h4 : (k1_3 : Int) < (a.length : Int)
  ·replace H := ifp h4 H
   refine zo (fun w => opB (op_lss rfl rfl w) (decide_eq_true h4)) (zn (zq (zt rfl rfl (zk (zq ?_)))))
   refine zb (zq (zr (zm rfl (za rfl (zn ?_)))))
   refine zq ?_
   refine Go1.drawS 0 [(0, .pure), (1, .pure), (2, .pure), (3, .stable), (4, .pure), (5, .pure), (6, .pure), (7, .stable), (8, .loud), (9, .pure)] mixed (by kernel_rfl) ?_
   intro w5 hs6
   have oG := Stp.same hO hs6
   replace hO := oG.own
   refine GoQ.pure rfl (op_move rfl) rfl rfl ?_
   refine GoQ.pure rfl (op_move rfl) rfl rfl ?_
   obtain ⟨h8, H⟩ := H
   obtain ⟨h9, H⟩ := H
   replace h_a := h_a.ch oG.ch
   refine GoQ.pure rfl (op_index Try.underlying22 ti26 rfl rfl h8 h9 (h_a.some_ h8 h9)) rfl rfl ?_
   have hobt := ldSl h_a h8 h9
   obtain ⟨p10, c11, Dh, FB⟩ := hobt
   refine GoQ.stable rfl (FB Try.underlying26 rfl rfl) rfl rfl ?_
   refine GoQ.pure rfl (op_move rfl) rfl rfl ?_
   refine GoQ.pure rfl (op_move rfl) rfl rfl ?_
   obtain ⟨h14, H⟩ := H
   obtain ⟨h15, H⟩ := H
   replace h_b := h_b.ch oG.ch
   refine GoQ.pure rfl (op_index Try.underlying22 ti26 rfl rfl h14 h15 (h_b.some_ h14 h15)) rfl rfl ?_
   have hobt := ldSl h_b h14 h15
   obtain ⟨p16, c17, ug, Sz⟩ := hobt
   refine GoQ.stable rfl (Sz Try.underlying26 rfl rfl) rfl rfl ?_
   refine GoQ.call rfl (op_call body34 rfl (walk_ref03_Same hO.lt Dh ug H)) (fun v w hr => by obtain ⟨_, _, hs, _⟩ := hr; assumption) rfl rfl ?_
   rintro v24 w21 ⟨r20, rfl, SA, H⟩
   have qr := Stp.same hO SA
   replace hO := qr.own
   cases r20
   ·replace H := ifn Bool.false_ne_true H
    refine GoQ.pure rfl (op_not rfl) rfl rfl ?_
    refine GoQ.nil ?_
    refine zt rfl rfl (zq (zr (za rfl (zn ?_))))
    refine Go1.ret1 Try.func45 rfl ?_
    replace hB := (hB.trans oG.fr).trans qr.fr
    exact ⟨false, rfl, hB.same, H⟩
   replace H := ifp rfl H
   refine GoQ.pure rfl (op_not rfl) rfl rfl ?_
   refine GoQ.nil ?_
   refine zf rfl rfl (zk ?_)
   refine Go1.inBlock ?_
   refine zr ?_
   replace h_a := h_a.ch qr.ch
   refine zo (op_add rfl rfl (wrap_i64 (natbd h4 h_a.bd))) (zm rfl (zn ?_))
   replace h_b := h_b.ch qr.ch
   replace hB := (hB.trans oG.fr).trans qr.fr
   exact hX1 _ H _ _ ⟨⟨rfl, rfl, rfl, rfl, trivial⟩, hO, h_a, h_b, hB⟩
  replace H := ifn h4 H
  refine zo (fun w => opB (op_lss rfl rfl w) (decide_eq_false h4)) (zn (zq (zf rfl rfl ?_)))
  refine Go1.exit rfl ?_
  refine zq (zr (za rfl (zn ?_)))
  refine Go1.ret1 Try.func45 rfl ?_
  exact ⟨true, rfl, hB.same, H⟩
 replace H := ifn h1 H
 refine zo (fun w => opB (op_neq rfl rfl w) (ndF h1)) (zn (zt rfl rfl (zq ?_)))
 refine Go1.cut [] trivial ?_
 intro σ _
 refine zr (za rfl (zn ?_))
 refine Go1.ret1 Try.func45 rfl ?_
 exact ⟨false, rfl, hB.same, H⟩
end Sg
