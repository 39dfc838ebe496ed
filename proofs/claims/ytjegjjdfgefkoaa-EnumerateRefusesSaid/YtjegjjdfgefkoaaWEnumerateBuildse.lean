/- The walks: each call keeps to its plain transformer. Printed by walkgen.py. -/
import Derived.Test.YtjegjjdfgefkoaaTi
import Derived.Test.YtjegjjdfgefkoaaWEnumerateBuildsc
import Derived.Test.YtjegjjdfgefkoaaWEnumerateBuildsd
import Derived.Test.YtjegjjdfgefkoaaAl
namespace Sg
open Go Go.RowKit Go.Proofs
set_option linter.unusedVariables false
set_option linter.unusedSimpArgs false
set_option maxRecDepth 100000
set_option maxHeartbeats 4000000
theorem body52 : Body Try.prog 52 := ⟨Try.f52, Try.func52, rfl, by kernel_rfl⟩
theorem walk_ref12_process {A : List Nat} {w0 : World} {aS : Option Addr} {aT : Nat} {bY : Option Addr} {b5 : Nat} {bI : Option Addr} {bK : Nat} {co : Option Addr} {cp : Nat} {b6 : Option Addr} {b7 : Nat} {b8 : Option Addr} {b9 : Nat} {a0 : Enum} {a1 : Int} (hA : ∀ b ∈ A, b < w0.heap.size) (aa : ISl (Rp.sl (Rp.int .i64)) A w0 aS aT a0.Gens) (ad : ISl (Rp.sl (Rp.int .i64)) A w0 bY b5 a0.Elems) (ab : ISl (Rp.int .i64) A w0 bI bK a0.Prefix) (af : ISl (Rp.int .i64) A w0 co cp a0.Last) (ae : ISl (Rp.sl (Rp.int .i64)) A w0 b6 b7 a0.Right) (ac : ISl (rpRule) A w0 b8 b9 a0.Rules) {K : Enum → Int → Prop} (H : ref12_process a0 a1 K) :
    CallsV Try.prog 52 #[.agg #[.int .i64 a0.Points, .bool a0.Monoid, .slice aS a0.Gens.length aT, .slice bY a0.Elems.length b5, .slice bI a0.Prefix.length bK, .slice co a0.Last.length cp, .slice b6 a0.Right.length b7, .slice b8 a0.Rules.length b9, .int .i64 a0.Done], .int .i64 a1] w0 (fun v w' => ∃ (r0 : Enum), ∃ (r1 : Int), ∃ (rH : Option Addr), ∃ (rI : Nat), ∃ (pQ : Option Addr), ∃ (pS : Nat), ∃ (mH : Option Addr), ∃ (mI : Nat), ∃ (rJ : Option Addr), ∃ (rK : Nat), ∃ (pT : Option Addr), ∃ (pU : Nat), ∃ (pV : Option Addr), ∃ (pW : Nat), v = .tuple #[.agg #[.int .i64 r0.Points, .bool r0.Monoid, .slice rH r0.Gens.length rI, .slice pQ r0.Elems.length pS, .slice mH r0.Prefix.length mI, .slice rJ r0.Last.length rK, .slice pT r0.Right.length pU, .slice pV r0.Rules.length pW, .int .i64 r0.Done], .int .i64 r1] ∧ Same w0 w' ∧ ISl (Rp.sl (Rp.int .i64)) A w' rH rI r0.Gens ∧ ISl (Rp.sl (Rp.int .i64)) A w' pQ pS r0.Elems ∧ ISl (Rp.int .i64) A w' mH mI r0.Prefix ∧ ISl (Rp.int .i64) A w' rJ rK r0.Last ∧ ISl (Rp.sl (Rp.int .i64)) A w' pT pU r0.Right ∧ ISl (rpRule) A w' pV pW r0.Rules ∧ K r0 r1) := by
 refine CallsV.of (l := [.agg #[.int .i64 a0.Points, .bool a0.Monoid, .slice aS a0.Gens.length aT, .slice bY a0.Elems.length b5, .slice bI a0.Prefix.length bK, .slice co a0.Last.length cp, .slice b6 a0.Right.length b7, .slice b8 a0.Rules.length b9, .int .i64 a0.Done], .int .i64 a1]) Try.func52 rfl Try.ntmps52 rfl ?_
 have hO := Owns.start hA
 have hB := Fr.refl (bl []) w0
 unfold ref12_process at H
 refine zq (zr ?_)
 have hobt := obox (t := 29) (v := .agg #[.int .i64 a0.Points, .bool a0.Monoid, .slice aS a0.Gens.length aT, .slice bY a0.Elems.length b5, .slice bI a0.Prefix.length bK, .slice co a0.Last.length cp, .slice b6 a0.Right.length b7, .slice b8 a0.Rules.length b9, .int .i64 a0.Done]) (cs := #[.int .i64 a0.Points, .bool a0.Monoid, .slice aS a0.Gens.length aT, .slice bY a0.Elems.length b5, .slice bI a0.Prefix.length bK, .slice co a0.Last.length cp, .slice b6 a0.Right.length b7, .slice b8 a0.Rules.length b9, .int .i64 a0.Done]) hO rfl
 obtain ⟨w1, B2, d5, hs4, uu⟩ := hobt
 refine zg (uu rfl) ?_
 replace hO := d5.own
 have hobt := oalloc (t := 29) (cs := #[.int .i64 (0 : Int), .bool false, .slice none 0 0, .slice none 0 0, .slice none 0 0, .slice none 0 0, .slice none 0 0, .slice none 0 0, .int .i64 (0 : Int)]) ti29 hO rfl
 obtain ⟨w7, B8, iE, Hq, C8⟩ := hobt
 refine GoR.op C8 rfl rfl ?_
 replace hO := iE.own
 refine za rfl (zn (zq ?_))
 refine Go1.drawA (CSv.tr [(some ⟨B2, 0, none⟩), (some ⟨B2, 1, none⟩), (some ⟨B2, 2, none⟩), (some ⟨B2, 3, none⟩), (some ⟨B2, 4, none⟩), (some ⟨B2, 5, none⟩), (some ⟨B2, 6, none⟩), (some ⟨B2, 7, none⟩), (some ⟨B2, 8, none⟩)]) A 1 [(0, .pure), (1, .stable), (2, .pure), (3, .stable), (4, .pure), (5, .stable), (7, .pure), (8, .stable), (11, .pure), (12, .stable), (15, .pure), (16, .stable), (19, .pure), (20, .stable), (23, .pure), (24, .stable), (26, .pure), (27, .stable), (6, .alloc), (9, .loud), (10, .alloc), (13, .loud), (14, .alloc), (17, .loud), (18, .alloc), (21, .loud), (22, .alloc), (25, .loud), (28, .pure), (29, .alloc), (30, .last)] mixed (by kernel_rfl) trivial hO.bd ?_
 intro w13 Km
 have k8 := Stp.same hO Km
 replace hO := k8.own
 have GG := hO.le
 replace hB := ((hB.trans d5.fr).trans iE.fr).trans k8.fr
 have hw16 := hB.ch.size
 refine GoQA.pure rfl (op_fieldAddr Try.underlying29 rfl ti3 rfl (by decide)) rfl rfl ?_
 refine GoQA.stable rfl (loadV (.head _) rfl (blkCell 1 hO rfl rfl) Try.underlying3 rfl rfl) rfl rfl ?_
 refine GoQA.pure rfl (op_fieldAddr Try.underlying29 rfl ti4 rfl (by decide)) rfl rfl ?_
 refine GoQA.stable rfl (loadV (.tail _ (.head _)) rfl (blkCell 1 hO rfl rfl) Try.underlying4 rfl rfl) rfl rfl ?_
 refine GoQA.pure rfl (op_fieldAddr Try.underlying29 rfl ti22 rfl (by decide)) rfl rfl ?_
 refine GoQA.stable rfl (loadV (.tail _ (.tail _ (.head _))) rfl (blkCell 1 hO rfl rfl) Try.underlying22 rfl rfl) rfl rfl ?_
 refine GoQA.pure rfl (op_fieldAddr Try.underlying29 rfl ti22 rfl (by decide)) rfl rfl ?_
 refine GoQA.stable rfl (loadV (.tail _ (.tail _ (.tail _ (.head _)))) rfl (blkCell 1 hO rfl rfl) Try.underlying22 rfl rfl) rfl rfl ?_
 refine GoQA.pure rfl (op_fieldAddr Try.underlying29 rfl ti26 rfl (by decide)) rfl rfl ?_
 refine GoQA.stable rfl (loadV (.tail _ (.tail _ (.tail _ (.tail _ (.head _))))) rfl (blkCell 1 hO rfl rfl) Try.underlying26 rfl rfl) rfl rfl ?_
 refine GoQA.pure rfl (op_fieldAddr Try.underlying29 rfl ti26 rfl (by decide)) rfl rfl ?_
 refine GoQA.stable rfl (loadV (.tail _ (.tail _ (.tail _ (.tail _ (.tail _ (.head _)))))) rfl (blkCell 1 hO rfl rfl) Try.underlying26 rfl rfl) rfl rfl ?_
 refine GoQA.pure rfl (op_fieldAddr Try.underlying29 rfl ti22 rfl (by decide)) rfl rfl ?_
 refine GoQA.stable rfl (loadV (.tail _ (.tail _ (.tail _ (.tail _ (.tail _ (.tail _ (.head _))))))) rfl (blkCell 1 hO rfl rfl) Try.underlying22 rfl rfl) rfl rfl ?_
 refine GoQA.pure rfl (op_fieldAddr Try.underlying29 rfl ti27 rfl (by decide)) rfl rfl ?_
 refine GoQA.stable rfl (loadV (.tail _ (.tail _ (.tail _ (.tail _ (.tail _ (.tail _ (.tail _ (.head _)))))))) rfl (blkCell 1 hO rfl rfl) Try.underlying27 rfl rfl) rfl rfl ?_
 refine GoQA.pure rfl (op_fieldAddr Try.underlying29 rfl ti3 rfl (by decide)) rfl rfl ?_
 refine GoQA.stable rfl (loadV (.tail _ (.tail _ (.tail _ (.tail _ (.tail _ (.tail _ (.tail _ (.tail _ (.head _))))))))) rfl (blkCell 1 hO rfl rfl) Try.underlying3 rfl rfl) rfl rfl ?_
 refine GoQA.alloc rfl rfl (alBuild (n := 0) (parts := []) (vs := []) Try.underlying22 ti26 (by decide) (by decide) (by decide) (by kernel_rfl) rfl rfl) ?_
 intro w19 A20 b21 A22 EB Pw hd25 hnb26 hh27
 replace hO := EB.own hO
 have Cp : Els (Rp.sl (Rp.int .i64)) (bl [.blk B8 (.cells #[.int .i64 (0 : Int), .bool false, .slice none 0 0, .slice none 0 0, .slice none 0 0, .slice none 0 0, .slice none 0 0, .slice none 0 0, .int .i64 (0 : Int)] 29 (0, 0)), .blk B2 (.cells #[.int .i64 a0.Points, .bool a0.Monoid, .slice aS a0.Gens.length aT, .slice bY a0.Elems.length b5, .slice bI a0.Prefix.length bK, .slice co a0.Last.length cp, .slice b6 a0.Right.length b7, .slice b8 a0.Rules.length b9, .int .i64 a0.Done] 29 (0, 0))] ++ A20) w19 [] (([] : List (List Int))) := (Els.nil _ _ _)
 have Eb := gainCh (w := w19) (E := [.blk B8 (.cells #[.int .i64 (0 : Int), .bool false, .slice none 0 0, .slice none 0 0, .slice none 0 0, .slice none 0 0, .slice none 0 0, .slice none 0 0, .int .i64 (0 : Int)] 29 (0, 0)), .blk B2 (.cells #[.int .i64 a0.Points, .bool a0.Monoid, .slice aS a0.Gens.length aT, .slice bY a0.Elems.length b5, .slice bI a0.Prefix.length bK, .slice co a0.Last.length cp, .slice b6 a0.Right.length b7, .slice b8 a0.Rules.length b9, .int .i64 a0.Done] 29 (0, 0))]) (e := .row 26 1 (some ⟨b21, 0, none⟩) 0 0 []) Pw rfl
 replace hB := hB.trans (EB.same.fr _)
 replace hB := Fr.gain (e := .row 26 1 (some ⟨b21, 0, none⟩) 0 0 []) hB (Nat.le_trans hw16 hnb26) rfl
 replace hO := Owns.gain hO Pw GG rfl hh27 hd25
 refine GoQA.loudI rfl rfl ?_
 intro w30 A31 DD
 replace hO := DD.own hO
 obtain ⟨h33, H⟩ := H
 replace Cp := (Cp.ch Eb).ch (DD.ch _)
 have Z1 := ((((((Ch.start A w0).trans d5.ch).trans iE.ch).trans k8.ch).trans (EB.ch _)).trans Eb).trans (DD.ch _)
 replace ad := ad.ch Z1
 have hobt := oapp Try.underlying22 ti26 rfl 0 hO rfl Cp ad rfl h33 (by decide)
 obtain ⟨w34, p35, c36, tc, ld, fy, II⟩ := hobt
 refine GoAt.step (II (by exact rfl) (by exact rfl)) (fun _ => (CSv.cons (cs_eq (blkCell 2 hO rfl rfl) (blkCell 2 ld.own rfl rfl)) (CSv.cons (cs_eq (blkCell 2 hO rfl rfl) (blkCell 2 ld.own rfl rfl)) (CSv.cons (cs_eq (blkCell 2 hO rfl rfl) (blkCell 2 ld.own rfl rfl)) (CSv.cons (cs_eq (blkCell 2 hO rfl rfl) (blkCell 2 ld.own rfl rfl)) (CSv.cons (cs_eq (blkCell 2 hO rfl rfl) (blkCell 2 ld.own rfl rfl)) (CSv.cons (cs_eq (blkCell 2 hO rfl rfl) (blkCell 2 ld.own rfl rfl)) (CSv.cons (cs_eq (blkCell 2 hO rfl rfl) (blkCell 2 ld.own rfl rfl)) (CSv.cons (cs_eq (blkCell 2 hO rfl rfl) (blkCell 2 ld.own rfl rfl)) (CSv.cons (cs_eq (blkCell 2 hO rfl rfl) (blkCell 2 ld.own rfl rfl)) (CSv.nil _ _))))))))))) (Stp.kp hO ld) rfl ?_
 replace hO := ld.own
 refine GoQA.alloc rfl rfl (alBuild (n := 0) (parts := []) (vs := []) Try.underlying26 ti3 (by decide) (by decide) (by decide) (by kernel_rfl) rfl rfl) ?_
 intro w43 A44 b45 A46 DE Px hd49 hnb50 hh51
 replace hO := DE.own hO
 have HY : Els (Rp.int .i64) (bl [.row 26 1 p35 (0 + a0.Elems.length) c36 tc, .blk B8 (.cells #[.int .i64 (0 : Int), .bool false, .slice none 0 0, .slice none 0 0, .slice none 0 0, .slice none 0 0, .slice none 0 0, .slice none 0 0, .int .i64 (0 : Int)] 29 (0, 0)), .blk B2 (.cells #[.int .i64 a0.Points, .bool a0.Monoid, .slice aS a0.Gens.length aT, .slice bY a0.Elems.length b5, .slice bI a0.Prefix.length bK, .slice co a0.Last.length cp, .slice b6 a0.Right.length b7, .slice b8 a0.Rules.length b9, .int .i64 a0.Done] 29 (0, 0))] ++ A44) w43 [] (([] : List Int)) := (Els.nil _ _ _)
 have EC := gainCh (w := w43) (E := [.row 26 1 p35 (0 + a0.Elems.length) c36 tc, .blk B8 (.cells #[.int .i64 (0 : Int), .bool false, .slice none 0 0, .slice none 0 0, .slice none 0 0, .slice none 0 0, .slice none 0 0, .slice none 0 0, .int .i64 (0 : Int)] 29 (0, 0)), .blk B2 (.cells #[.int .i64 a0.Points, .bool a0.Monoid, .slice aS a0.Gens.length aT, .slice bY a0.Elems.length b5, .slice bI a0.Prefix.length bK, .slice co a0.Last.length cp, .slice b6 a0.Right.length b7, .slice b8 a0.Rules.length b9, .int .i64 a0.Done] 29 (0, 0))]) (e := .row 3 1 (some ⟨b45, 0, none⟩) 0 0 []) Px rfl
 replace hB := ((hB.trans (DD.same.fr _)).trans ld.fr).trans (DE.same.fr _)
 replace hB := Fr.gain (e := .row 3 1 (some ⟨b45, 0, none⟩) 0 0 []) hB (Nat.le_trans hw16 hnb50) rfl
 replace hO := Owns.gain hO Px GG rfl hh51 hd49
 refine GoQA.loudI rfl rfl ?_
 intro w54 A55 Cy
 replace hO := Cy.own hO
 obtain ⟨h57, H⟩ := H
 replace HY := (HY.ch EC).ch (Cy.ch _)
 have Z2 := (((Z1.trans ld.ch).trans (DE.ch _)).trans EC).trans (Cy.ch _)
 replace ab := ab.ch Z2
 have hobt := oapp Try.underlying26 ti3 rfl 0 hO rfl HY ab rfl h57 (by decide)
 obtain ⟨w58, p59, c60, vP, sO, fw, UE⟩ := hobt
 refine GoAt.step (UE (by exact rfl) (by exact rfl)) (fun _ => (CSv.cons (cs_eq (blkCell 3 hO rfl rfl) (blkCell 3 sO.own rfl rfl)) (CSv.cons (cs_eq (blkCell 3 hO rfl rfl) (blkCell 3 sO.own rfl rfl)) (CSv.cons (cs_eq (blkCell 3 hO rfl rfl) (blkCell 3 sO.own rfl rfl)) (CSv.cons (cs_eq (blkCell 3 hO rfl rfl) (blkCell 3 sO.own rfl rfl)) (CSv.cons (cs_eq (blkCell 3 hO rfl rfl) (blkCell 3 sO.own rfl rfl)) (CSv.cons (cs_eq (blkCell 3 hO rfl rfl) (blkCell 3 sO.own rfl rfl)) (CSv.cons (cs_eq (blkCell 3 hO rfl rfl) (blkCell 3 sO.own rfl rfl)) (CSv.cons (cs_eq (blkCell 3 hO rfl rfl) (blkCell 3 sO.own rfl rfl)) (CSv.cons (cs_eq (blkCell 3 hO rfl rfl) (blkCell 3 sO.own rfl rfl)) (CSv.nil _ _))))))))))) (Stp.kp hO sO) rfl ?_
 replace hO := sO.own
 refine GoQA.alloc rfl rfl (alBuild (n := 0) (parts := []) (vs := []) Try.underlying26 ti3 (by decide) (by decide) (by decide) (by kernel_rfl) rfl rfl) ?_
 intro w67 A68 b69 A70 Cz Py hd73 hnb74 hh75
 replace hO := Cz.own hO
 have H0 : Els (Rp.int .i64) (bl [.row 3 1 p59 (0 + a0.Prefix.length) c60 vP, .row 26 1 p35 (0 + a0.Elems.length) c36 tc, .blk B8 (.cells #[.int .i64 (0 : Int), .bool false, .slice none 0 0, .slice none 0 0, .slice none 0 0, .slice none 0 0, .slice none 0 0, .slice none 0 0, .int .i64 (0 : Int)] 29 (0, 0)), .blk B2 (.cells #[.int .i64 a0.Points, .bool a0.Monoid, .slice aS a0.Gens.length aT, .slice bY a0.Elems.length b5, .slice bI a0.Prefix.length bK, .slice co a0.Last.length cp, .slice b6 a0.Right.length b7, .slice b8 a0.Rules.length b9, .int .i64 a0.Done] 29 (0, 0))] ++ A68) w67 [] (([] : List Int)) := (Els.nil _ _ _)
 have DF := gainCh (w := w67) (E := [.row 3 1 p59 (0 + a0.Prefix.length) c60 vP, .row 26 1 p35 (0 + a0.Elems.length) c36 tc, .blk B8 (.cells #[.int .i64 (0 : Int), .bool false, .slice none 0 0, .slice none 0 0, .slice none 0 0, .slice none 0 0, .slice none 0 0, .slice none 0 0, .int .i64 (0 : Int)] 29 (0, 0)), .blk B2 (.cells #[.int .i64 a0.Points, .bool a0.Monoid, .slice aS a0.Gens.length aT, .slice bY a0.Elems.length b5, .slice bI a0.Prefix.length bK, .slice co a0.Last.length cp, .slice b6 a0.Right.length b7, .slice b8 a0.Rules.length b9, .int .i64 a0.Done] 29 (0, 0))]) (e := .row 3 1 (some ⟨b69, 0, none⟩) 0 0 []) Py rfl
 replace hB := ((hB.trans (Cy.same.fr _)).trans sO.fr).trans (Cz.same.fr _)
 replace hB := Fr.gain (e := .row 3 1 (some ⟨b69, 0, none⟩) 0 0 []) hB (Nat.le_trans hw16 hnb74) rfl
 replace hO := Owns.gain hO Py GG rfl hh75 hd73
 refine GoQA.loudI rfl rfl ?_
 intro w78 A79 BA
 replace hO := BA.own hO
 obtain ⟨h81, H⟩ := H
 replace H0 := (H0.ch DF).ch (BA.ch _)
 have Z3 := (((Z2.trans sO.ch).trans (Cz.ch _)).trans DF).trans (BA.ch _)
 replace af := af.ch Z3
 have hobt := oapp Try.underlying26 ti3 rfl 0 hO rfl H0 af rfl h81 (by decide)
 obtain ⟨w82, p83, c84, xD, gF, fE, UF⟩ := hobt
 dsimp only [sS, sZ] at gF fE
 refine GoAt.step (UF (by exact rfl) (by exact rfl)) (fun _ => (CSv.cons (cs_eq (blkCell 4 hO rfl rfl) (blkCell 4 gF.own rfl rfl)) (CSv.cons (cs_eq (blkCell 4 hO rfl rfl) (blkCell 4 gF.own rfl rfl)) (CSv.cons (cs_eq (blkCell 4 hO rfl rfl) (blkCell 4 gF.own rfl rfl)) (CSv.cons (cs_eq (blkCell 4 hO rfl rfl) (blkCell 4 gF.own rfl rfl)) (CSv.cons (cs_eq (blkCell 4 hO rfl rfl) (blkCell 4 gF.own rfl rfl)) (CSv.cons (cs_eq (blkCell 4 hO rfl rfl) (blkCell 4 gF.own rfl rfl)) (CSv.cons (cs_eq (blkCell 4 hO rfl rfl) (blkCell 4 gF.own rfl rfl)) (CSv.cons (cs_eq (blkCell 4 hO rfl rfl) (blkCell 4 gF.own rfl rfl)) (CSv.cons (cs_eq (blkCell 4 hO rfl rfl) (blkCell 4 gF.own rfl rfl)) (CSv.nil _ _))))))))))) (Stp.kp hO gF) rfl ?_
 replace hO := gF.own
 refine GoQA.alloc rfl rfl (alBuild (n := 0) (parts := []) (vs := []) Try.underlying22 ti26 (by decide) (by decide) (by decide) (by kernel_rfl) rfl rfl) ?_
 intro w91 A92 b93 A94 BB Pz hd97 hnb98 hh99
 replace hO := BB.own hO
 have F8 : Els (Rp.sl (Rp.int .i64)) (bl [.row 3 1 p83 (0 + a0.Last.length) c84 xD, .row 3 1 p59 (0 + a0.Prefix.length) c60 vP, .row 26 1 p35 (0 + a0.Elems.length) c36 tc, .blk B8 (.cells #[.int .i64 (0 : Int), .bool false, .slice none 0 0, .slice none 0 0, .slice none 0 0, .slice none 0 0, .slice none 0 0, .slice none 0 0, .int .i64 (0 : Int)] 29 (0, 0)), .blk B2 (.cells #[.int .i64 a0.Points, .bool a0.Monoid, .slice aS a0.Gens.length aT, .slice bY a0.Elems.length b5, .slice bI a0.Prefix.length bK, .slice co a0.Last.length cp, .slice b6 a0.Right.length b7, .slice b8 a0.Rules.length b9, .int .i64 a0.Done] 29 (0, 0))] ++ A92) w91 [] (([] : List (List Int))) := (Els.nil _ _ _)
 have Ah := gainCh (w := w91) (E := [.row 3 1 p83 (0 + a0.Last.length) c84 xD, .row 3 1 p59 (0 + a0.Prefix.length) c60 vP, .row 26 1 p35 (0 + a0.Elems.length) c36 tc, .blk B8 (.cells #[.int .i64 (0 : Int), .bool false, .slice none 0 0, .slice none 0 0, .slice none 0 0, .slice none 0 0, .slice none 0 0, .slice none 0 0, .int .i64 (0 : Int)] 29 (0, 0)), .blk B2 (.cells #[.int .i64 a0.Points, .bool a0.Monoid, .slice aS a0.Gens.length aT, .slice bY a0.Elems.length b5, .slice bI a0.Prefix.length bK, .slice co a0.Last.length cp, .slice b6 a0.Right.length b7, .slice b8 a0.Rules.length b9, .int .i64 a0.Done] 29 (0, 0))]) (e := .row 26 1 (some ⟨b93, 0, none⟩) 0 0 []) Pz rfl
 replace hB := ((hB.trans (BA.same.fr _)).trans gF.fr).trans (BB.same.fr _)
 replace hB := Fr.gain (e := .row 26 1 (some ⟨b93, 0, none⟩) 0 0 []) hB (Nat.le_trans hw16 hnb98) rfl
 replace hO := Owns.gain hO Pz GG rfl hh99 hd97
 refine GoQA.loudI rfl rfl ?_
 intro aa8 A103 yL
 replace hO := yL.own hO
 obtain ⟨AU, H⟩ := H
 replace F8 := (F8.ch Ah).ch (yL.ch _)
 have Z4 := (((Z3.trans gF.ch).trans (BB.ch _)).trans Ah).trans (yL.ch _)
 replace ae := ae.ch Z4
 have hobt := oapp Try.underlying22 ti26 rfl 0 hO rfl F8 ae rfl AU (by decide)
 obtain ⟨agw, oO, oP, vQ, l7, gP, PA⟩ := hobt
 dsimp only [sS, sZ] at l7 gP
 refine GoAt.step (PA (by exact rfl) (by exact rfl)) (fun _ => (CSv.cons (cs_eq (blkCell 5 hO rfl rfl) (blkCell 5 l7.own rfl rfl)) (CSv.cons (cs_eq (blkCell 5 hO rfl rfl) (blkCell 5 l7.own rfl rfl)) (CSv.cons (cs_eq (blkCell 5 hO rfl rfl) (blkCell 5 l7.own rfl rfl)) (CSv.cons (cs_eq (blkCell 5 hO rfl rfl) (blkCell 5 l7.own rfl rfl)) (CSv.cons (cs_eq (blkCell 5 hO rfl rfl) (blkCell 5 l7.own rfl rfl)) (CSv.cons (cs_eq (blkCell 5 hO rfl rfl) (blkCell 5 l7.own rfl rfl)) (CSv.cons (cs_eq (blkCell 5 hO rfl rfl) (blkCell 5 l7.own rfl rfl)) (CSv.cons (cs_eq (blkCell 5 hO rfl rfl) (blkCell 5 l7.own rfl rfl)) (CSv.cons (cs_eq (blkCell 5 hO rfl rfl) (blkCell 5 l7.own rfl rfl)) (CSv.nil _ _))))))))))) (Stp.kp hO l7) rfl ?_
 replace hO := l7.own
 refine GoQA.alloc rfl rfl (alBuild (n := 0) (parts := []) (vs := []) Try.underlying27 ti39 (by decide) (by decide) (by decide) (by kernel_rfl) rfl rfl) ?_
 intro LB A116 PB A118 yM Mx hd121 hnb122 hh123
 replace hO := yM.own hO
 have F9 : Els (rpRule) (bl [.row 26 1 oO (0 + a0.Right.length) oP vQ, .row 3 1 p83 (0 + a0.Last.length) c84 xD, .row 3 1 p59 (0 + a0.Prefix.length) c60 vP, .row 26 1 p35 (0 + a0.Elems.length) c36 tc, .blk B8 (.cells #[.int .i64 (0 : Int), .bool false, .slice none 0 0, .slice none 0 0, .slice none 0 0, .slice none 0 0, .slice none 0 0, .slice none 0 0, .int .i64 (0 : Int)] 29 (0, 0)), .blk B2 (.cells #[.int .i64 a0.Points, .bool a0.Monoid, .slice aS a0.Gens.length aT, .slice bY a0.Elems.length b5, .slice bI a0.Prefix.length bK, .slice co a0.Last.length cp, .slice b6 a0.Right.length b7, .slice b8 a0.Rules.length b9, .int .i64 a0.Done] 29 (0, 0))] ++ A116) LB [] (([] : List Rule)) := (Els.nil _ _ _)
 have zD := gainCh (w := LB) (E := [.row 26 1 oO (0 + a0.Right.length) oP vQ, .row 3 1 p83 (0 + a0.Last.length) c84 xD, .row 3 1 p59 (0 + a0.Prefix.length) c60 vP, .row 26 1 p35 (0 + a0.Elems.length) c36 tc, .blk B8 (.cells #[.int .i64 (0 : Int), .bool false, .slice none 0 0, .slice none 0 0, .slice none 0 0, .slice none 0 0, .slice none 0 0, .slice none 0 0, .int .i64 (0 : Int)] 29 (0, 0)), .blk B2 (.cells #[.int .i64 a0.Points, .bool a0.Monoid, .slice aS a0.Gens.length aT, .slice bY a0.Elems.length b5, .slice bI a0.Prefix.length bK, .slice co a0.Last.length cp, .slice b6 a0.Right.length b7, .slice b8 a0.Rules.length b9, .int .i64 a0.Done] 29 (0, 0))]) (e := .row 39 2 (some ⟨PB, 0, none⟩) 0 0 []) Mx rfl
 replace hB := ((hB.trans (yL.same.fr _)).trans l7.fr).trans (yM.same.fr _)
 replace hB := Fr.gain (e := .row 39 2 (some ⟨PB, 0, none⟩) 0 0 []) hB (Nat.le_trans hw16 hnb122) rfl
 replace hO := Owns.gain hO Mx GG rfl hh123 hd121
 refine GoQA.loudI rfl rfl ?_
 intro aaN A127 xL
 replace hO := xL.own hO
 obtain ⟨KL, H⟩ := H
 replace F9 := (F9.ch zD).ch (xL.ch _)
 have Z5 := (((Z4.trans l7.ch).trans (yM.ch _)).trans zD).trans (xL.ch _)
 replace ac := ac.ch Z5
 have hobt := oapp Try.underlying27 ti39 rfl 0 hO rfl F9 ac rfl KL (by decide)
 obtain ⟨YY, my, mz, vJ, gc, gU, HL⟩ := hobt
 dsimp only [sS, sZ] at gc gU
 refine GoAt.step (HL (by exact rfl) (by exact rfl)) (fun _ => (CSv.cons (cs_eq (blkCell 6 hO rfl rfl) (blkCell 6 gc.own rfl rfl)) (CSv.cons (cs_eq (blkCell 6 hO rfl rfl) (blkCell 6 gc.own rfl rfl)) (CSv.cons (cs_eq (blkCell 6 hO rfl rfl) (blkCell 6 gc.own rfl rfl)) (CSv.cons (cs_eq (blkCell 6 hO rfl rfl) (blkCell 6 gc.own rfl rfl)) (CSv.cons (cs_eq (blkCell 6 hO rfl rfl) (blkCell 6 gc.own rfl rfl)) (CSv.cons (cs_eq (blkCell 6 hO rfl rfl) (blkCell 6 gc.own rfl rfl)) (CSv.cons (cs_eq (blkCell 6 hO rfl rfl) (blkCell 6 gc.own rfl rfl)) (CSv.cons (cs_eq (blkCell 6 hO rfl rfl) (blkCell 6 gc.own rfl rfl)) (CSv.cons (cs_eq (blkCell 6 hO rfl rfl) (blkCell 6 gc.own rfl rfl)) (CSv.nil _ _))))))))))) (Stp.kp hO gc) rfl ?_
 replace hO := gc.own
 refine GoQA.pure rfl (op_build Try.underlying29 ti29 (pl := [(0, 1), (1, 1), (2, 1), (3, 1), (4, 1), (5, 1), (6, 1), (7, 1), (8, 1)]) (vs := [(0, .int .i64 a0.Points), (1, .bool a0.Monoid), (2, .slice aS a0.Gens.length aT), (3, .slice p35 (0 + a0.Elems.length) c36), (4, .slice p59 (0 + a0.Prefix.length) c60), (5, .slice p83 (0 + a0.Last.length) c84), (6, .slice oO (0 + a0.Right.length) oP), (7, .slice my (0 + a0.Rules.length) mz), (8, .int .i64 a0.Done)]) (cs := #[.int .i64 a0.Points, .bool a0.Monoid, .slice aS a0.Gens.length aT, .slice p35 (0 + a0.Elems.length) c36, .slice p59 (0 + a0.Prefix.length) c60, .slice p83 (0 + a0.Last.length) c84, .slice oO (0 + a0.Right.length) oP, .slice my (0 + a0.Rules.length) mz, .int .i64 a0.Done]) (by kernel_rfl) rfl (by kernel_rfl)) rfl rfl ?_
 refine GoQA.alloc rfl rfl (alAlloc (cs := #[.int .i64 (0 : Int), .bool false, .slice none 0 0, .slice none 0 0, .slice none 0 0, .slice none 0 0, .slice none 0 0, .slice none 0 0, .int .i64 (0 : Int)]) ti29 rfl) ?_
 intro aa9 A140 gD A142 xM My hd145 hnb146 hh147
 replace hO := xM.own hO
 have zE := gainCh (w := aa9) (E := [.row 39 2 my (0 + a0.Rules.length) mz vJ, .row 26 1 oO (0 + a0.Right.length) oP vQ, .row 3 1 p83 (0 + a0.Last.length) c84 xD, .row 3 1 p59 (0 + a0.Prefix.length) c60 vP, .row 26 1 p35 (0 + a0.Elems.length) c36 tc, .blk B8 (.cells #[.int .i64 (0 : Int), .bool false, .slice none 0 0, .slice none 0 0, .slice none 0 0, .slice none 0 0, .slice none 0 0, .slice none 0 0, .int .i64 (0 : Int)] 29 (0, 0)), .blk B2 (.cells #[.int .i64 a0.Points, .bool a0.Monoid, .slice aS a0.Gens.length aT, .slice bY a0.Elems.length b5, .slice bI a0.Prefix.length bK, .slice co a0.Last.length cp, .slice b6 a0.Right.length b7, .slice b8 a0.Rules.length b9, .int .i64 a0.Done] 29 (0, 0))]) (e := .blk gD (.cells #[.int .i64 (0 : Int), .bool false, .slice none 0 0, .slice none 0 0, .slice none 0 0, .slice none 0 0, .slice none 0 0, .slice none 0 0, .int .i64 (0 : Int)] 29 (0, 0))) My rfl
 replace hB := ((hB.trans (xL.same.fr _)).trans gc.fr).trans (xM.same.fr _)
 replace hB := Fr.gain (e := .blk gD (.cells #[.int .i64 (0 : Int), .bool false, .slice none 0 0, .slice none 0 0, .slice none 0 0, .slice none 0 0, .slice none 0 0, .slice none 0 0, .int .i64 (0 : Int)] 29 (0, 0))) hB (Nat.le_trans hw16 hnb146) rfl
 replace hO := Owns.gain hO My GG rfl hh147 hd145
 refine GoQA.lastI rfl rfl ?_
 intro agx A150 xN
 replace hO := xN.own hO
 have hobt := oblkStAgg (us := [.int .i64 a0.Points, .bool a0.Monoid, .slice aS a0.Gens.length aT, .slice p35 (0 + a0.Elems.length) c36, .slice p59 (0 + a0.Prefix.length) c60, .slice p83 (0 + a0.Last.length) c84, .slice oO (0 + a0.Right.length) oP, .slice my (0 + a0.Rules.length) mz, .int .i64 a0.Done]) (o := 0) (cs' := #[.int .i64 a0.Points, .bool a0.Monoid, .slice aS a0.Gens.length aT, .slice p35 (0 + a0.Elems.length) c36, .slice p59 (0 + a0.Prefix.length) c60, .slice p83 (0 + a0.Last.length) c84, .slice oO (0 + a0.Right.length) oP, .slice my (0 + a0.Rules.length) mz, .int .i64 a0.Done]) 0 hO rfl rfl (Nat.le_of_ble_eq_true rfl) rfl
 obtain ⟨aaO, tF, HM⟩ := hobt
 dsimp only [sS, sZ] at tF
 refine GoAt.step (HM ti29 (by exact rfl) (by exact rfl) rfl) (fun h => nomatch h) (Stp.kp hO tF) rfl ?_
 replace hO := tF.own
 refine GoQA.nil ?_
 intro agy A156 xO yN
 replace hO := xO.own hO
 replace hO := hO.permA yN
 refine zq ?_
 refine Go1.cut [(1, .int .i64 a1), (4, .pointer (some ⟨B8, 0, none⟩)), (6, .pointer (some ⟨gD, 0, none⟩))] ⟨rfl, rfl, rfl, trivial⟩ ?_
 intro σ _
 refine zr ?_
 have hobt := omakeMap (fun a : List UInt8 => Value.string (gstr a)) (fun a : Int => Value.int .i64 a) hO
 obtain ⟨OP, B160, vg, acY, PC⟩ := hobt
 refine GoR.op PC rfl rfl ?_
 replace hO := vg.own
 refine za rfl (zn (zq (zr (za rfl (zn ?_)))))
 refine zq (zq (zr (zo (op_fieldAddr Try.underlying29 rfl ti22 rfl (by decide)) (zs (oblk (i := 3) 1 hO rfl rfl Try.underlying22 rfl rfl) ?_))))
 have Z6 := ((((((((((((((((((((((DE.ch _).trans EC).trans (Cy.ch _)).trans sO.ch).trans (Cz.ch _)).trans DF).trans (BA.ch _)).trans gF.ch).trans (BB.ch _)).trans Ah).trans (yL.ch _)).trans l7.ch).trans (yM.ch _)).trans zD).trans (xL.ch _)).trans gc.ch).trans (xM.ch _)).trans zE).trans (xN.ch _)).trans tF.ch).trans (xO.ch _)).trans (permCh yN _)).trans vg.ch
 replace fy := fy.ch Z6
 refine zo (op_lenN Try.underlying22 rfl (fy.neq hO 6 rfl)) (zm rfl (zn (zb ?_)))
 have ku := Stp.nil (e := 9) (r := 1) hO
 replace hO := ku.own
 have Hg := Els.nil (Rp.str) (bl (.row 9 1 none 0 0 [] :: [.any (mapE (fun a : List UInt8 => Value.string (gstr a)) (fun a : Int => Value.int .i64 a) B160 (([] : List (Str × Int)))), .blk gD (.cells #[.int .i64 a0.Points, .bool a0.Monoid, .slice aS a0.Gens.length aT, .slice p35 (0 + a0.Elems.length) c36, .slice p59 (0 + a0.Prefix.length) c60, .slice p83 (0 + a0.Last.length) c84, .slice oO (0 + a0.Right.length) oP, .slice my (0 + a0.Rules.length) mz, .int .i64 a0.Done] 29 (0, 0)), .row 39 2 my (0 + a0.Rules.length) mz vJ, .row 26 1 oO (0 + a0.Right.length) oP vQ, .row 3 1 p83 (0 + a0.Last.length) c84 xD, .row 3 1 p59 (0 + a0.Prefix.length) c60 vP, .row 26 1 p35 (0 + a0.Elems.length) c36 tc, .blk B8 (.cells #[.int .i64 (0 : Int), .bool false, .slice none 0 0, .slice none 0 0, .slice none 0 0, .slice none 0 0, .slice none 0 0, .slice none 0 0, .int .i64 (0 : Int)] 29 (0, 0)), .blk B2 (.cells #[.int .i64 a0.Points, .bool a0.Monoid, .slice aS a0.Gens.length aT, .slice bY a0.Elems.length b5, .slice bI a0.Prefix.length bK, .slice co a0.Last.length cp, .slice b6 a0.Right.length b7, .slice b8 a0.Rules.length b9, .int .i64 a0.Done] 29 (0, 0))]) ++ A) OP
 replace hO := hO.drop 9
 replace Hg := Hg.ch (Owns.dropCh _ _ 9)
 replace fy := (fy.ch ku.ch).ch (Owns.dropCh _ _ 9)
 replace hB := (((((hB.trans (xN.same.fr _)).trans tF.fr).trans (xO.same.fr _)).trans vg.fr).trans ku.fr).trans (Owns.dropFr _ _ 9)
 have Z7 := ((((((((xM.ch _).trans zE).trans (xN.ch _)).trans tF.ch).trans (xO.ch _)).trans (permCh yN _)).trans vg.ch).trans ku.ch).trans (Owns.dropCh _ _ 9)
 replace gU := gU.ch Z7
 have Z8 := ((((((((gc.ch.trans (xM.ch _)).trans zE).trans (xN.ch _)).trans tF.ch).trans (xO.ch _)).trans (permCh yN _)).trans vg.ch).trans ku.ch).trans (Owns.dropCh _ _ 9)
 replace ac := ac.ch Z8
 have Z9 := ((((((((((((yM.ch _).trans zD).trans (xL.ch _)).trans gc.ch).trans (xM.ch _)).trans zE).trans (xN.ch _)).trans tF.ch).trans (xO.ch _)).trans (permCh yN _)).trans vg.ch).trans ku.ch).trans (Owns.dropCh _ _ 9)
 replace gP := gP.ch Z9
 have Z10 := ((((((((((((l7.ch.trans (yM.ch _)).trans zD).trans (xL.ch _)).trans gc.ch).trans (xM.ch _)).trans zE).trans (xN.ch _)).trans tF.ch).trans (xO.ch _)).trans (permCh yN _)).trans vg.ch).trans ku.ch).trans (Owns.dropCh _ _ 9)
 replace ae := ae.ch Z10
 have Z11 := ((((((((((((((((BB.ch _).trans Ah).trans (yL.ch _)).trans l7.ch).trans (yM.ch _)).trans zD).trans (xL.ch _)).trans gc.ch).trans (xM.ch _)).trans zE).trans (xN.ch _)).trans tF.ch).trans (xO.ch _)).trans (permCh yN _)).trans vg.ch).trans ku.ch).trans (Owns.dropCh _ _ 9)
 replace fE := fE.ch Z11
 have Z12 := ((((((((((((((((gF.ch.trans (BB.ch _)).trans Ah).trans (yL.ch _)).trans l7.ch).trans (yM.ch _)).trans zD).trans (xL.ch _)).trans gc.ch).trans (xM.ch _)).trans zE).trans (xN.ch _)).trans tF.ch).trans (xO.ch _)).trans (permCh yN _)).trans vg.ch).trans ku.ch).trans (Owns.dropCh _ _ 9)
 replace af := af.ch Z12
 have Z13 := ((((((((((((((((((((Cz.ch _).trans DF).trans (BA.ch _)).trans gF.ch).trans (BB.ch _)).trans Ah).trans (yL.ch _)).trans l7.ch).trans (yM.ch _)).trans zD).trans (xL.ch _)).trans gc.ch).trans (xM.ch _)).trans zE).trans (xN.ch _)).trans tF.ch).trans (xO.ch _)).trans (permCh yN _)).trans vg.ch).trans ku.ch).trans (Owns.dropCh _ _ 9)
 replace fw := fw.ch Z13
 have Z14 := ((((((((((((((((((((sO.ch.trans (Cz.ch _)).trans DF).trans (BA.ch _)).trans gF.ch).trans (BB.ch _)).trans Ah).trans (yL.ch _)).trans l7.ch).trans (yM.ch _)).trans zD).trans (xL.ch _)).trans gc.ch).trans (xM.ch _)).trans zE).trans (xN.ch _)).trans tF.ch).trans (xO.ch _)).trans (permCh yN _)).trans vg.ch).trans ku.ch).trans (Owns.dropCh _ _ 9)
 replace ab := ab.ch Z14
 have Z15 := ((((((((((((((((((((((((ld.ch.trans (DE.ch _)).trans EC).trans (Cy.ch _)).trans sO.ch).trans (Cz.ch _)).trans DF).trans (BA.ch _)).trans gF.ch).trans (BB.ch _)).trans Ah).trans (yL.ch _)).trans l7.ch).trans (yM.ch _)).trans zD).trans (xL.ch _)).trans gc.ch).trans (xM.ch _)).trans zE).trans (xN.ch _)).trans tF.ch).trans (xO.ch _)).trans (permCh yN _)).trans vg.ch).trans ku.ch).trans (Owns.dropCh _ _ 9)
 replace ad := ad.ch Z15
 have Z16 := (((((((((Z5.trans gc.ch).trans (xM.ch _)).trans zE).trans (xN.ch _)).trans tF.ch).trans (xO.ch _)).trans (permCh yN _)).trans vg.ch).trans ku.ch).trans (Owns.dropCh _ _ 9)
 replace aa := aa.ch Z16
 dsimp only [eS, eZ] at hB hO aa ad ab af ae ac Hg gU gP fE fw fy
 refine Go1.loopW (S := Nat × List Str × (List (Str × Int))) (fun s σ w => match s with | (k1_169, d_170, m1_176) => ∃ (zF : Nat), ∃ (zW : Option Addr), ∃ (zX : Nat), ∃ (yO : List Value), agrees σ [(1, .int .i64 a1), (4, .pointer (some ⟨B8, 0, none⟩)), (6, .pointer (some ⟨gD, 0, none⟩)), (7, .map (some B160)), (8, .slice zW zF zX), (50, .int .i64 (((([] : List (List Int))) ++ a0.Elems).length : Int)), (51, .int .i64 (k1_169 : Int))] ∧ (fun Z0 => Owns w0.heap.size w Z0 A ∧ Els (Rp.str) (bl Z0 ++ A) w yO d_170 ∧ Els (rpRule) (bl Z0 ++ A) w vJ ((([] : List Rule)) ++ a0.Rules) ∧ Els (Rp.sl (Rp.int .i64)) (bl Z0 ++ A) w vQ ((([] : List (List Int))) ++ a0.Right) ∧ Els (Rp.int .i64) (bl Z0 ++ A) w xD ((([] : List Int)) ++ a0.Last) ∧ Els (Rp.int .i64) (bl Z0 ++ A) w vP ((([] : List Int)) ++ a0.Prefix) ∧ Els (Rp.sl (Rp.int .i64)) (bl Z0 ++ A) w tc ((([] : List (List Int))) ++ a0.Elems) ∧ ISl (Rp.sl (Rp.int .i64)) (bl Z0 ++ A) w aS aT a0.Gens ∧ Fr (bl []) w0 (bl Z0) w) [.row 9 1 zW zF zX yO, .any (mapE (fun a : List UInt8 => Value.string (gstr a)) (fun a : Int => Value.int .i64 a) B160 m1_176), .blk gD (.cells #[.int .i64 a0.Points, .bool a0.Monoid, .slice aS a0.Gens.length aT, .slice p35 (0 + a0.Elems.length) c36, .slice p59 (0 + a0.Prefix.length) c60, .slice p83 (0 + a0.Last.length) c84, .slice oO (0 + a0.Right.length) oP, .slice my (0 + a0.Rules.length) mz, .int .i64 a0.Done] 29 (0, 0)), .row 39 2 my (0 + a0.Rules.length) mz vJ, .row 26 1 oO (0 + a0.Right.length) oP vQ, .row 3 1 p83 (0 + a0.Last.length) c84 xD, .row 3 1 p59 (0 + a0.Prefix.length) c60 vP, .row 26 1 p35 (0 + a0.Elems.length) c36 tc, .blk B8 (.cells #[.int .i64 (0 : Int), .bool false, .slice none 0 0, .slice none 0 0, .slice none 0 0, .slice none 0 0, .slice none 0 0, .slice none 0 0, .int .i64 (0 : Int)] 29 (0, 0))]) H ⟨0, none, 0, [], ⟨rfl, rfl, rfl, rfl, rfl, rfl, rfl, trivial⟩, hO, Hg, gU, gP, fE, fw, fy, aa, hB⟩ ?_
 intro X1
 refine prE fun k1_169 => prE fun d_170 => fun m1_176 => ?_
 intro H hX1 σ MX
 refine exE fun zF => exE fun zW => exE fun zX => exE fun yO => andE fun hag => andE fun hO => andE fun Ce => andE fun gU => andE fun gP => andE fun fE => andE fun fw => andE fun fy => andE fun aa => fun hB => ?_
 dsimp only at H
 refine Go1.keep [(1, .int .i64 a1), (4, .pointer (some ⟨B8, 0, none⟩)), (6, .pointer (some ⟨gD, 0, none⟩)), (7, .map (some B160)), (8, .slice zW zF zX), (50, .int .i64 (((([] : List (List Int))) ++ a0.Elems).length : Int)), (51, .int .i64 (k1_169 : Int))] hag ?_
 refine zq (zr ?_)
 by_cases Cm : (k1_169 : Int) < (((([] : List (List Int))) ++ a0.Elems).length : Int)
 ·replace H := ifp Cm H
  refine zo (fun w => opB (op_lss rfl rfl w) (decide_eq_true Cm)) (zn (zq (zt rfl rfl (zk (zq ?_)))))
  refine zb (zq (zr (zm rfl (za rfl (zn ?_)))))
  refine zq (zr (zm rfl (zs (oblkAgg (vs := [.int .i64 a0.Points, .bool a0.Monoid, .slice aS a0.Gens.length aT, .slice p35 (0 + a0.Elems.length) c36, .slice p59 (0 + a0.Prefix.length) c60, .slice p83 (0 + a0.Last.length) c84, .slice oO (0 + a0.Right.length) oP, .slice my (0 + a0.Rules.length) mz, .int .i64 a0.Done]) (i := 0) 2 hO rfl rfl Try.underlying29 rfl ti29 rfl) (zm rfl ?_))))
  have hobt := rowlend 7 hO rfl fy
  obtain ⟨UG, UH⟩ := hobt
  have hOc180 := hO.drop 7
  have hobt := rowlend 6 hOc180 rfl (fw.ch (Owns.dropCh _ _ 7))
  obtain ⟨UI, UJ⟩ := hobt
  have hOc183 := hOc180.drop 6
  have hobt := rowlend 5 hOc183 rfl ((fE.ch (Owns.dropCh _ _ 7)).ch (Owns.dropCh _ _ 6))
  obtain ⟨JA, JB⟩ := hobt
  have hOc186 := hOc183.drop 5
  have hobt := rowlend 4 hOc186 rfl (((gP.ch (Owns.dropCh _ _ 7)).ch (Owns.dropCh _ _ 6)).ch (Owns.dropCh _ _ 5))
  obtain ⟨UK, Ik⟩ := hobt
  have hOc189 := hOc186.drop 4
  have hobt := rowlend 3 hOc189 rfl ((((gU.ch (Owns.dropCh _ _ 7)).ch (Owns.dropCh _ _ 6)).ch (Owns.dropCh _ _ 5)).ch (Owns.dropCh _ _ 4))
  obtain ⟨UL, UM⟩ := hobt
  have hOc192 := hOc189.drop 3
  refine GoR.call (op_call body40 (show ([.agg #[.int .i64 a0.Points, .bool a0.Monoid, .slice aS a0.Gens.length aT, .slice p35 (0 + a0.Elems.length) c36, .slice p59 (0 + a0.Prefix.length) c60, .slice p83 (0 + a0.Last.length) c84, .slice oO (0 + a0.Right.length) oP, .slice my (0 + a0.Rules.length) mz, .int .i64 a0.Done], .int .i64 (k1_169 : Int)] : List Value) = [.agg #[.int .i64 a0.Points, .bool a0.Monoid, .slice aS a0.Gens.length aT, .slice p35 ((([] : List (List Int))) ++ a0.Elems).length c36, .slice p59 ((([] : List Int)) ++ a0.Prefix).length c60, .slice p83 ((([] : List Int)) ++ a0.Last).length c84, .slice oO ((([] : List (List Int))) ++ a0.Right).length oP, .slice my ((([] : List Rule)) ++ a0.Rules).length mz, .int .i64 a0.Done], .int .i64 (k1_169 : Int)] from by rw [← UH, ← UJ, ← JB, ← Ik, ← UM]) (walk_ref12_Word (e := (⟨a0.Points, a0.Monoid, a0.Gens, (([] : List (List Int))) ++ a0.Elems, (([] : List Int)) ++ a0.Prefix, (([] : List Int)) ++ a0.Last, (([] : List (List Int))) ++ a0.Right, (([] : List Rule)) ++ a0.Rules, a0.Done⟩ : Enum)) hOc192.lt (((((aa.ch (Owns.dropCh _ _ 7)).ch (Owns.dropCh _ _ 6)).ch (Owns.dropCh _ _ 5)).ch (Owns.dropCh _ _ 4)).ch (Owns.dropCh _ _ 3)) ((((UG.ch (Owns.dropCh _ _ 6)).ch (Owns.dropCh _ _ 5)).ch (Owns.dropCh _ _ 4)).ch (Owns.dropCh _ _ 3)) (((UI.ch (Owns.dropCh _ _ 5)).ch (Owns.dropCh _ _ 4)).ch (Owns.dropCh _ _ 3)) ((JA.ch (Owns.dropCh _ _ 4)).ch (Owns.dropCh _ _ 3)) (UK.ch (Owns.dropCh _ _ 3)) UL H)) rfl rfl ?_
  rintro agz agA ⟨r193, rfl, UN, MU, H⟩
  have zG := Stp.same hO UN
  replace hO := zG.own
  have hobt := obuild (r := Rp.str) (n := 1) (parts := [(0, .string (gstr r193))]) (vs := [.string (gstr r193)]) (xs := [r193]) rfl Try.underlying70 ti9 hO (by decide) (by kernel_rfl) (Els.cons rfl ⟨rfl, MU⟩ (Els.nil _ _ _) (by simp [mx])) rfl
  obtain ⟨Ya, agB, zH, UO, ac0, PD⟩ := hobt
  refine zg (PD rfl) ?_
  replace hO := zH.own
  have hobt := freeze 0 hO rfl UO
  obtain ⟨hO1, Cf, Fo, UP⟩ := hobt
  dsimp only [eS, eZ] at hO1 Cf Fo
  replace hB := ((hB.trans zG.fr).trans zH.fr).trans (Owns.dropFr _ _ 0)
  dsimp only [eS, eZ] at hB
  replace hO := hO1; clear hO1
  obtain ⟨aba, H⟩ := H
  have Z17 := (zG.ch.trans zH.ch).trans Cf
  replace Ce := Ce.ch Z17
  have hobt := oapp Try.underlying70 ti9 rfl 0 hO rfl Ce Fo UP aba (by decide)
  obtain ⟨agC, abb, abc, UQ, yh, Cg, PE⟩ := hobt
  dsimp only [sS, sZ] at yh Cg
  refine zg (PE (by exact rfl) (by exact rfl)) ?_
  replace hO := yh.own
  refine za rfl (zn (zr (zm rfl (zm rfl (zm rfl ?_)))))
  obtain ⟨Ev, H⟩ := H
  obtain ⟨Ew, H⟩ := H
  refine zo (op_index Try.underlying70 ti9 rfl rfl Ev (ltn (Cg.neq hO 0 rfl) Ew) (Cg.psome hO 0 rfl Ev Ew)) (zs (oldStr 0 hO rfl Cg Ev Ew Try.underlying9 rfl rfl) ?_)
  have hle220 := Els.str_le Cg Ev Ew
  refine zm rfl ?_
  have hobt := omapUpd (MK.str Try.underlying9) 1 hO rfl Try.underlying69 (ix (d_170 ++ ([r193])) (k1_169 : Int)) (k1_169 : Int)
  obtain ⟨Yc, fT, Hw⟩ := hobt
  dsimp only [sS, sZ] at fT
  refine zg (Hw (by exact rfl) (by exact rfl) (by exact rfl)) ?_
  replace hO := fT.own
  refine zn ?_
  refine Go1.inBlock ?_
  refine zr ?_
  replace fy := ((fy.ch Z17).ch yh.ch).ch fT.ch
  refine zo (op_add rfl rfl (wrap_i64 (natbd Cm fy.bd))) (zm rfl (zn ?_))
  replace Cg := Cg.ch fT.ch
  replace hB := (hB.trans yh.fr).trans fT.fr
  have Z18 := (Z17.trans yh.ch).trans fT.ch
  replace gU := gU.ch Z18
  replace gP := gP.ch Z18
  replace fE := fE.ch Z18
  replace fw := fw.ch Z18
  replace aa := aa.ch Z18
  exact hX1 _ H _ _ ⟨zF + 1, abb, abc, UQ, ⟨rfl, rfl, rfl, rfl, rfl, rfl, rfl, trivial⟩, hO, Cg, gU, gP, fE, fw, fy, aa, hB⟩
 replace H := ifn Cm H
 refine zo (fun w => opB (op_lss rfl rfl w) (decide_eq_false Cm)) (zn (zq (zf rfl rfl ?_)))
 refine Go1.exit rfl ?_
 refine zq (zb ?_)
 refine Go1.loopW (S := Int × Int × List Str × (List (Str × Int)) × List Rule × List (List Int) × List Int × List Int × List (List Int)) (fun s σ w => match s with | (k2_225, k2_226, d_227, m2_233, d_234, d_240, d_246, d_252, d_258) => ∃ (zI : Nat), ∃ (zJ : Option Addr), ∃ (zK : Nat), ∃ (sN : List Value), ∃ (pk : Nat), ∃ (lO : Option Addr), ∃ (lP : Nat), ∃ (xP : List Value), ∃ (fJ : Nat), ∃ (fK : Option Addr), ∃ (fL : Nat), ∃ (kP : List Value), ∃ (pm : Nat), ∃ (lQ : Option Addr), ∃ (lR : Nat), ∃ (xQ : List Value), ∃ (po : Nat), ∃ (lT : Option Addr), ∃ (lU : Nat), ∃ (xR : List Value), ∃ (pp : Nat), ∃ (lV : Option Addr), ∃ (lW : Nat), ∃ (xS : List Value), agrees σ [(1, .int .i64 k2_225), (4, .pointer (some ⟨B8, 0, none⟩)), (6, .pointer (some ⟨gD, 0, none⟩)), (7, .map (some B160)), (8, .slice zJ zI zK)] ∧ (fun Z0 => Owns w0.heap.size w Z0 A ∧ Els (Rp.str) (bl Z0 ++ A) w sN d_227 ∧ Els (rpRule) (bl Z0 ++ A) w xP d_234 ∧ Els (Rp.sl (Rp.int .i64)) (bl Z0 ++ A) w kP d_240 ∧ Els (Rp.int .i64) (bl Z0 ++ A) w xQ d_246 ∧ Els (Rp.int .i64) (bl Z0 ++ A) w xR d_252 ∧ Els (Rp.sl (Rp.int .i64)) (bl Z0 ++ A) w xS d_258 ∧ ISl (Rp.sl (Rp.int .i64)) (bl Z0 ++ A) w aS aT a0.Gens ∧ Fr (bl []) w0 (bl Z0) w) [.row 9 1 zJ zI zK sN, .any (mapE (fun a : List UInt8 => Value.string (gstr a)) (fun a : Int => Value.int .i64 a) B160 m2_233), .blk gD (.cells #[.int .i64 a0.Points, .bool a0.Monoid, .slice aS a0.Gens.length aT, .slice lV pp lW, .slice lT po lU, .slice lQ pm lR, .slice fK fJ fL, .slice lO pk lP, .int .i64 k2_226] 29 (0, 0)), .row 39 2 lO pk lP xP, .row 26 1 fK fJ fL kP, .row 3 1 lQ pm lR xQ, .row 3 1 lT po lU xR, .row 26 1 lV pp lW xS, .blk B8 (.cells #[.int .i64 (0 : Int), .bool false, .slice none 0 0, .slice none 0 0, .slice none 0 0, .slice none 0 0, .slice none 0 0, .slice none 0 0, .int .i64 (0 : Int)] 29 (0, 0))]) H ⟨zF, zW, zX, yO, 0 + a0.Rules.length, my, mz, vJ, 0 + a0.Right.length, oO, oP, vQ, 0 + a0.Last.length, p83, c84, xD, 0 + a0.Prefix.length, p59, c60, vP, 0 + a0.Elems.length, p35, c36, tc, ⟨rfl, rfl, rfl, rfl, rfl, trivial⟩, hO, Ce, gU, gP, fE, fw, fy, aa, hB⟩ ?_
 intro X2
 refine prE fun k2_225 => prE fun k2_226 => prE fun d_227 => prE fun m2_233 => prE fun d_234 => prE fun d_240 => prE fun d_246 => prE fun d_252 => fun d_258 => ?_
 intro H hX2 σ abd
 refine exE fun zI => exE fun zJ => exE fun zK => exE fun sN => exE fun pk => exE fun lO => exE fun lP => exE fun xP => exE fun fJ => exE fun fK => exE fun fL => exE fun kP => exE fun pm => exE fun lQ => exE fun lR => exE fun xQ => exE fun po => exE fun lT => exE fun lU => exE fun xR => exE fun pp => exE fun lV => exE fun lW => exE fun xS => andE fun hag => andE fun hO => andE fun kt => andE fun ow => andE fun bX => andE fun uo => andE fun vw => andE fun Ai => andE fun aa => fun hB => ?_
 dsimp only at H
 refine Go1.keep [(1, .int .i64 k2_225), (4, .pointer (some ⟨B8, 0, none⟩)), (6, .pointer (some ⟨gD, 0, none⟩)), (7, .map (some B160)), (8, .slice zJ zI zK)] hag ?_
 refine zq (zq (zr (zm rfl ?_)))
 by_cases JC : (0 : Int) < k2_225
 ·replace H := ifp JC H
  refine zo (fun w => opB (op_gtr rfl rfl w) (decide_eq_true JC)) (zm rfl (zo (op_fieldAddr Try.underlying29 rfl ti3 rfl (by decide)) (zs (oblk (i := 8) 2 hO rfl rfl Try.underlying3 rfl rfl) (zo (op_fieldAddr Try.underlying29 rfl ti22 rfl (by decide)) (zs (oblk (i := 3) 2 hO rfl rfl Try.underlying22 rfl rfl) ?_)))))
  refine zo (op_lenN Try.underlying22 rfl (Ai.neq hO 7 rfl)) ?_
  by_cases JD : k2_226 < (d_258.length : Int)
  ·replace H := ifp JD H
   refine zo (fun w => opB (op_lss rfl rfl w) (decide_eq_true JD)) (zo (op_pickT rfl rfl rfl) (zn (zt rfl rfl (zk (zq ?_)))))
   refine zb (zq (zr (za rfl (zn (zq ?_)))))
   refine zr (zm rfl (zo (op_fieldAddr Try.underlying29 rfl ti3 rfl (by decide)) (zs (oblk (i := 8) 2 hO rfl rfl Try.underlying3 rfl rfl) ?_)))
   obtain ⟨JE, H⟩ := H
   obtain ⟨JF, H⟩ := H
   refine zo (op_index Try.underlying70 ti9 rfl rfl JE (ltn (kt.neq hO 0 rfl) JF) (kt.psome hO 0 rfl JE JF)) (zs (oldStr 0 hO rfl kt JE JF Try.underlying9 rfl rfl) ?_)
   have hle268 := Els.str_le kt JE JF
   refine za rfl (zn (zq (zq (zr (zo (op_fieldAddr Try.underlying29 rfl ti22 rfl (by decide)) ?_)))))
   refine zs (oblk (i := 2) 2 hO rfl rfl Try.underlying22 rfl rfl) (zo (op_len Try.underlying22 rfl) ?_)
   replace H := H aa.bd
   refine zm rfl (zn (zb ?_))
   have zL := Stp.nil (e := 3) (r := 1) hO
   replace hO := zL.own
   have UR := Els.nil (Rp.int .i64) (bl (.row 3 1 none 0 0 [] :: [.row 9 1 zJ zI zK sN, .any (mapE (fun a : List UInt8 => Value.string (gstr a)) (fun a : Int => Value.int .i64 a) B160 m2_233), .blk gD (.cells #[.int .i64 a0.Points, .bool a0.Monoid, .slice aS a0.Gens.length aT, .slice lV pp lW, .slice lT po lU, .slice lQ pm lR, .slice fK fJ fL, .slice lO pk lP, .int .i64 k2_226] 29 (0, 0)), .row 39 2 lO pk lP xP, .row 26 1 fK fJ fL kP, .row 3 1 lQ pm lR xQ, .row 3 1 lT po lU xR, .row 26 1 lV pp lW xS, .blk B8 (.cells #[.int .i64 (0 : Int), .bool false, .slice none 0 0, .slice none 0 0, .slice none 0 0, .slice none 0 0, .slice none 0 0, .slice none 0 0, .int .i64 (0 : Int)] 29 (0, 0))]) ++ A) abd
   replace kt := kt.ch zL.ch
   replace ow := ow.ch zL.ch
   replace bX := bX.ch zL.ch
   replace uo := uo.ch zL.ch
   replace vw := vw.ch zL.ch
   replace Ai := Ai.ch zL.ch
   replace aa := aa.ch zL.ch
   replace hB := hB.trans zL.fr
   refine Go1.loopW (S := Nat × List Int × List Str × (List (Str × Int)) × List Rule × List Int × List Int × List (List Int)) (fun s σ w => match s with | (k3_273, d_274, d_280, m3_286, d_287, d_293, d_299, d_305) => ∃ (mJ : Nat), ∃ (qt : Option Addr), ∃ (qu : Nat), ∃ (tP : List Value), ∃ (oQ : Nat), ∃ (pq : Option Addr), ∃ (pr : Nat), ∃ (qe : List Value), ∃ (iF : Nat), ∃ (jl : Option Addr), ∃ (jm : Nat), ∃ (ob : List Value), ∃ (iG : Nat), ∃ (iY : Option Addr), ∃ (jo : Nat), ∃ (qf : List Value), ∃ (iH : Nat), ∃ (j7 : Option Addr), ∃ (j8 : Nat), ∃ (ra : List Value), ∃ (iB : Nat), ∃ (iR : Option Addr), ∃ (iT : Nat), ∃ (sP : List Value), agrees σ [(1, .int .i64 k2_225), (4, .pointer (some ⟨B8, 0, none⟩)), (6, .pointer (some ⟨gD, 0, none⟩)), (7, .map (some B160)), (8, .slice pq oQ pr), (10, .slice qt mJ qu), (11, .string (gstr (ix d_227 k2_226))), (86, .int .i64 (a0.Gens.length : Int)), (87, .int .i64 (k3_273 : Int))] ∧ (fun Z0 => Owns w0.heap.size w Z0 A ∧ Els (Rp.int .i64) (bl Z0 ++ A) w tP d_274 ∧ Els (Rp.str) (bl Z0 ++ A) w qe d_280 ∧ Els (rpRule) (bl Z0 ++ A) w ob d_287 ∧ Els (Rp.sl (Rp.int .i64)) (bl Z0 ++ A) w kP d_240 ∧ Els (Rp.int .i64) (bl Z0 ++ A) w qf d_293 ∧ Els (Rp.int .i64) (bl Z0 ++ A) w ra d_299 ∧ Els (Rp.sl (Rp.int .i64)) (bl Z0 ++ A) w sP d_305 ∧ ISl (Rp.sl (Rp.int .i64)) (bl Z0 ++ A) w aS aT a0.Gens ∧ Fr (bl []) w0 (bl Z0) w) [.row 3 1 qt mJ qu tP, .row 9 1 pq oQ pr qe, .any (mapE (fun a : List UInt8 => Value.string (gstr a)) (fun a : Int => Value.int .i64 a) B160 m3_286), .blk gD (.cells #[.int .i64 a0.Points, .bool a0.Monoid, .slice aS a0.Gens.length aT, .slice iR iB iT, .slice j7 iH j8, .slice iY iG jo, .slice fK fJ fL, .slice jl iF jm, .int .i64 k2_226] 29 (0, 0)), .row 39 2 jl iF jm ob, .row 26 1 fK fJ fL kP, .row 3 1 iY iG jo qf, .row 3 1 j7 iH j8 ra, .row 26 1 iR iB iT sP, .blk B8 (.cells #[.int .i64 (0 : Int), .bool false, .slice none 0 0, .slice none 0 0, .slice none 0 0, .slice none 0 0, .slice none 0 0, .slice none 0 0, .int .i64 (0 : Int)] 29 (0, 0))]) H ⟨0, none, 0, [], zI, zJ, zK, sN, pk, lO, lP, xP, pm, lQ, lR, xQ, po, lT, lU, xR, pp, lV, lW, xS, ⟨rfl, rfl, rfl, rfl, rfl, rfl, rfl, rfl, rfl, trivial⟩, hO, UR, kt, ow, bX, uo, vw, Ai, aa, hB⟩ ?_
   intro X3
   refine prE fun k3_273 => prE fun d_274 => prE fun d_280 => prE fun m3_286 => prE fun d_287 => prE fun d_293 => prE fun d_299 => fun d_305 => ?_
   intro H hX3 σ O7
   refine exE fun mJ => exE fun qt => exE fun qu => exE fun tP => exE fun oQ => exE fun pq => exE fun pr => exE fun qe => exE fun iF => exE fun jl => exE fun jm => exE fun ob => exE fun iG => exE fun iY => exE fun jo => exE fun qf => exE fun iH => exE fun j7 => exE fun j8 => exE fun ra => exE fun iB => exE fun iR => exE fun iT => exE fun sP => andE fun hag => andE fun hO => andE fun dg => andE fun cx => andE fun bM => andE fun bX => andE fun dy => andE fun dU => andE fun d8 => andE fun aa => fun hB => ?_
   dsimp only at H
   refine Go1.keep [(1, .int .i64 k2_225), (4, .pointer (some ⟨B8, 0, none⟩)), (6, .pointer (some ⟨gD, 0, none⟩)), (7, .map (some B160)), (8, .slice pq oQ pr), (10, .slice qt mJ qu), (11, .string (gstr (ix d_227 k2_226))), (86, .int .i64 (a0.Gens.length : Int)), (87, .int .i64 (k3_273 : Int))] hag ?_
   refine zq (zr ?_)
   by_cases DG : (k3_273 : Int) < (a0.Gens.length : Int)
   ·replace H := ifp DG H
    refine zo (fun w => opB (op_lss rfl rfl w) (decide_eq_true DG)) (zn (zq (zt rfl rfl (zk (zq ?_)))))
    refine zb (zq (zr (zm rfl (za rfl (zn ?_)))))
    refine zq ?_
    refine Go1.drawS 0 [(0, .pure), (1, .stable), (2, .pure), (3, .stable), (4, .pure), (5, .stable), (6, .pure), (7, .stable), (8, .pure), (9, .pure), (10, .stable), (11, .loud), (12, .pure)] mixed (by kernel_rfl) ?_
    intro agD US
    have yi := Stp.same hO US
    replace hO := yi.own
    refine GoQ.pure rfl (op_fieldAddr Try.underlying29 rfl ti22 rfl (by decide)) rfl rfl ?_
    refine GoQ.stable rfl (oblk (i := 3) 3 hO rfl rfl Try.underlying22 rfl rfl) rfl rfl ?_
    refine GoQ.pure rfl (op_fieldAddr Try.underlying29 rfl ti3 rfl (by decide)) rfl rfl ?_
    refine GoQ.stable rfl (oblk (i := 8) 3 hO rfl rfl Try.underlying3 rfl rfl) rfl rfl ?_
    obtain ⟨LD, H⟩ := H
    obtain ⟨LE, H⟩ := H
    replace d8 := d8.ch yi.ch
    refine GoQ.pure rfl (op_index Try.underlying22 ti26 rfl rfl LD (ltn (d8.neq hO 8 rfl) LE) (d8.psome hO 8 rfl LD LE)) rfl rfl ?_
    have hobt := oldSl 8 hO rfl d8 LD LE
    obtain ⟨agE, agF, de, UT⟩ := hobt
    refine GoQ.stable rfl (UT Try.underlying26 rfl rfl) rfl rfl ?_
    refine GoQ.pure rfl (op_fieldAddr Try.underlying29 rfl ti22 rfl (by decide)) rfl rfl ?_
    refine GoQ.stable rfl (oblk (i := 2) 3 hO rfl rfl Try.underlying22 rfl rfl) rfl rfl ?_
    refine GoQ.pure rfl (op_move rfl) rfl rfl ?_
    obtain ⟨LF, H⟩ := H
    obtain ⟨LG, H⟩ := H
    replace aa := aa.ch yi.ch
    refine GoQ.pure rfl (op_index Try.underlying22 ti26 rfl rfl LF LG (aa.some_ LF LG)) rfl rfl ?_
    have hobt := ldSl aa LF LG
    obtain ⟨agG, agH, cw, UU⟩ := hobt
    refine GoQ.stable rfl (UU Try.underlying26 rfl rfl) rfl rfl ?_
    refine GoQ.call rfl (op_call body43 rfl (walk_ref11_Compose hO.lt de cw H)) (fun v w hr => by obtain ⟨_, _, _, _, hs, _, _⟩ := hr; assumption) rfl rfl ?_
    rintro aaU Nd ⟨r327, tC, tD, rfl, Jt, bT, H⟩
    have gW := Stp.same hO Jt
    replace hO := gW.own
    refine GoQ.pure rfl (op_assign rfl) rfl rfl ?_
    refine GoQ.nil ?_
    refine zq (zr (zo (op_fieldAddr Try.underlying29 rfl ti22 rfl (by decide)) (zs (oblk (i := 3) 3 hO rfl rfl Try.underlying22 rfl rfl) (zm rfl ?_))))
    replace d8 := d8.ch gW.ch
    have hobt := rowlend 8 hO rfl d8
    obtain ⟨UV, UW⟩ := hobt
    have hOc335 := hO.drop 8
    refine GoR.call (op_call body41 (show ([.slice iR iB iT, .slice tC r327.length tD] : List Value) = [.slice iR d_305.length iT, .slice tC r327.length tD] from by rw [← UW]) (walk_ref12_Find hOc335.lt UV (bT.ch (Owns.dropCh _ _ 8)) H)) rfl rfl ?_
    rintro agI aae ⟨r336, rfl, UX, H⟩
    have iI := Stp.same hO UX
    replace hO := iI.own
    refine za rfl (zn (zq ?_))
    refine Go1.cut [(1, .int .i64 k2_225), (4, .pointer (some ⟨B8, 0, none⟩)), (6, .pointer (some ⟨gD, 0, none⟩)), (7, .map (some B160)), (8, .slice pq oQ pr), (10, .slice qt mJ qu), (11, .string (gstr (ix d_227 k2_226))), (12, .int .i64 (k3_273 : Int)), (13, .slice tC r327.length tD), (14, .int .i64 r336), (86, .int .i64 (a0.Gens.length : Int)), (87, .int .i64 (k3_273 : Int))] ⟨rfl, rfl, rfl, rfl, rfl, rfl, rfl, rfl, rfl, rfl, rfl, rfl, trivial⟩ ?_
    intro σ _
    refine zr (zm rfl (zm rfl ?_))
    refine GoR.call (op_call body55 rfl (walk_ref12_letter hO.lt H)) rfl rfl ?_
    rintro agJ agK ⟨r342, rfl, I3, aco, H⟩
    have vh := Stp.same hO I3
    replace hO := vh.own
    obtain ⟨LH, H⟩ := H
    refine zo (op_addS rfl rfl LH) (za rfl (zn (zq (zq (zr ?_)))))
    refine zm rfl ?_
    by_cases Gs : r336 < (0 : Int)
    ·replace H := ifp Gs H
     refine zo (fun w => opB (op_lss rfl rfl w) (decide_eq_true Gs)) (zn (zt rfl rfl (zq (zq (zr ?_)))))
     refine zo (op_fieldAddr Try.underlying29 rfl ti22 rfl (by decide)) (zs (oblk (i := 3) 3 hO rfl rfl Try.underlying22 rfl rfl) ?_)
     replace d8 := (d8.ch iI.ch).ch vh.ch
     refine zo (op_lenN Try.underlying22 rfl (d8.neq hO 8 rfl)) ?_
     by_cases Gy : (d_305.length : Int) = (2000 : Int)
     ·replace H := ifp Gy H
      refine zo (fun w => opB (op_eql rfl rfl w) (decide_eq_true Gy)) (zn (zt rfl rfl (zq (zr (zo (op_build Try.underlying29 ti29 (pl := [(0, 1), (1, 1), (2, 1), (3, 1), (4, 1), (5, 1), (6, 1), (7, 1), (8, 1)]) (vs := []) (cs := #[.int .i64 (0 : Int), .bool false, .slice none 0 0, .slice none 0 0, .slice none 0 0, .slice none 0 0, .slice none 0 0, .slice none 0 0, .int .i64 (0 : Int)]) (by kernel_rfl) rfl (by kernel_rfl)) ?_)))))
      have hobt := oblkStAgg (us := [.int .i64 (0 : Int), .bool false, .slice none 0 0, .slice none 0 0, .slice none 0 0, .slice none 0 0, .slice none 0 0, .slice none 0 0, .int .i64 (0 : Int)]) (o := 0) (cs' := #[.int .i64 (0 : Int), .bool false, .slice none 0 0, .slice none 0 0, .slice none 0 0, .slice none 0 0, .slice none 0 0, .slice none 0 0, .int .i64 (0 : Int)]) 9 hO rfl rfl (Nat.le_of_ble_eq_true rfl) rfl
      obtain ⟨aag, uq, PF⟩ := hobt
      dsimp only [sS, sZ] at uq
      refine zg (PF ti29 (by exact rfl) (by exact rfl) rfl) ?_
      replace hO := uq.own
      refine za rfl (zn ?_)
      refine Go1.retC2 Try.func52 rfl rfl (run_loadBlk (vs := [.int .i64 (0 : Int), .bool false, .slice none 0 0, .slice none 0 0, .slice none 0 0, .slice none 0 0, .slice none 0 0, .slice none 0 0, .int .i64 (0 : Int)]) 9 hO rfl rfl Try.underlying29 rfl ti29) ?_
      replace hB := ((((hB.trans yi.fr).trans gW.fr).trans iI.fr).trans vh.fr).trans uq.fr
      exact ⟨(⟨(0 : Int), false, ([] : List (List Int)), ([] : List (List Int)), ([] : List Int), ([] : List Int), ([] : List (List Int)), ([] : List Rule), (0 : Int)⟩ : Enum), (3 : Int), none, 0, none, 0, none, 0, none, 0, none, 0, none, 0, rfl, hB.same, (ISl.null _ _ _), (ISl.null _ _ _), (ISl.null _ _ _), (ISl.null _ _ _), (ISl.null _ _ _), (ISl.null _ _ _), H⟩
     replace H := ifn Gy H
     refine zo (fun w => opB (op_eql rfl rfl w) (decide_eq_false Gy)) (zn (zf rfl rfl (zk (zq (zr ?_)))))
     refine zo (op_fieldAddr Try.underlying29 rfl ti22 rfl (by decide)) (zs (oblk (i := 3) 3 hO rfl rfl Try.underlying22 rfl rfl) (zo (op_lenN Try.underlying22 rfl (d8.neq hO 8 rfl)) (za rfl (zn (zq ?_)))))
     refine Go1.drawA (CSv.tr [(some ⟨gD, 3, none⟩), (some ⟨gD, 4, none⟩), (some ⟨gD, 8, none⟩), (some ⟨gD, 5, none⟩)]) A 1 [(0, .pure), (1, .stable), (2, .pure), (5, .pure), (6, .stable), (7, .pure), (8, .stable), (11, .pure), (12, .stable), (13, .pure), (3, .alloc), (4, .loud), (16, .pure), (9, .alloc), (10, .loud), (14, .alloc), (15, .loud), (17, .last), (18, .pure), (19, .last), (20, .pure), (21, .last)] mixed (by kernel_rfl) trivial hO.bd ?_
     intro aaV UY
     have lD := Stp.same hO UY
     replace hO := lD.own
     have JG := hO.le
     replace hB := ((((hB.trans yi.fr).trans gW.fr).trans iI.fr).trans vh.fr).trans lD.fr
     have hw357 := hB.ch.size
     refine GoQA.pure rfl (op_fieldAddr Try.underlying29 rfl ti22 rfl (by decide)) rfl rfl ?_
     refine GoQA.stable rfl (loadV (.head _) rfl (blkCell 3 hO rfl rfl) Try.underlying22 rfl rfl) rfl rfl ?_
     refine GoQA.pure rfl (op_move rfl) rfl rfl ?_
     refine GoQA.pure rfl (op_fieldAddr Try.underlying29 rfl ti26 rfl (by decide)) rfl rfl ?_
     refine GoQA.stable rfl (loadV (.tail _ (.head _)) rfl (blkCell 3 hO rfl rfl) Try.underlying26 rfl rfl) rfl rfl ?_
     refine GoQA.pure rfl (op_fieldAddr Try.underlying29 rfl ti3 rfl (by decide)) rfl rfl ?_
     refine GoQA.stable rfl (loadV (.tail _ (.tail _ (.head _))) rfl (blkCell 3 hO rfl rfl) Try.underlying3 rfl rfl) rfl rfl ?_
     refine GoQA.pure rfl (op_fieldAddr Try.underlying29 rfl ti26 rfl (by decide)) rfl rfl ?_
     refine GoQA.stable rfl (loadV (.tail _ (.tail _ (.tail _ (.head _)))) rfl (blkCell 3 hO rfl rfl) Try.underlying26 rfl rfl) rfl rfl ?_
     refine GoQA.pure rfl (op_move rfl) rfl rfl ?_
     refine GoQA.alloc rfl rfl (alBuild (n := 1) (parts := [(0, .slice tC r327.length tD)]) (vs := [.slice tC r327.length tD]) Try.underlying22 ti26 (by decide) (by decide) (by decide) (by kernel_rfl) rfl rfl) ?_
     intro Ju A361 PG A363 xT Mz hd366 hnb367 hh368
     replace hO := xT.own hO
     have Z19 := ((iI.ch.trans vh.ch).trans lD.ch).trans (xT.ch _)
     replace bT := bT.ch Z19
     have Ga : Els (Rp.sl (Rp.int .i64)) (bl [.row 3 1 qt mJ qu tP, .row 9 1 pq oQ pr qe, .any (mapE (fun a : List UInt8 => Value.string (gstr a)) (fun a : Int => Value.int .i64 a) B160 m3_286), .blk gD (.cells #[.int .i64 a0.Points, .bool a0.Monoid, .slice aS a0.Gens.length aT, .slice iR iB iT, .slice j7 iH j8, .slice iY iG jo, .slice fK fJ fL, .slice jl iF jm, .int .i64 k2_226] 29 (0, 0)), .row 39 2 jl iF jm ob, .row 26 1 fK fJ fL kP, .row 3 1 iY iG jo qf, .row 3 1 j7 iH j8 ra, .row 26 1 iR iB iT sP, .blk B8 (.cells #[.int .i64 (0 : Int), .bool false, .slice none 0 0, .slice none 0 0, .slice none 0 0, .slice none 0 0, .slice none 0 0, .slice none 0 0, .int .i64 (0 : Int)] 29 (0, 0))] ++ A361) Ju [.slice tC r327.length tD] [r327] := (Els.cons rfl ⟨tC, tD, rfl, bT⟩ (Els.nil _ _ _) (by simp [mx]))
     have kM := gainCh (w := Ju) (E := [.row 3 1 qt mJ qu tP, .row 9 1 pq oQ pr qe, .any (mapE (fun a : List UInt8 => Value.string (gstr a)) (fun a : Int => Value.int .i64 a) B160 m3_286), .blk gD (.cells #[.int .i64 a0.Points, .bool a0.Monoid, .slice aS a0.Gens.length aT, .slice iR iB iT, .slice j7 iH j8, .slice iY iG jo, .slice fK fJ fL, .slice jl iF jm, .int .i64 k2_226] 29 (0, 0)), .row 39 2 jl iF jm ob, .row 26 1 fK fJ fL kP, .row 3 1 iY iG jo qf, .row 3 1 j7 iH j8 ra, .row 26 1 iR iB iT sP, .blk B8 (.cells #[.int .i64 (0 : Int), .bool false, .slice none 0 0, .slice none 0 0, .slice none 0 0, .slice none 0 0, .slice none 0 0, .slice none 0 0, .int .i64 (0 : Int)] 29 (0, 0))]) (e := .row 26 1 (some ⟨PG, 0, none⟩) 1 1 [.slice tC r327.length tD]) Mz rfl
     replace hB := hB.trans (xT.same.fr _)
     replace hB := Fr.gain (e := .row 26 1 (some ⟨PG, 0, none⟩) 1 1 [.slice tC r327.length tD]) hB (Nat.le_trans hw357 hnb367) rfl
     replace hO := Owns.gain hO Mz JG rfl hh368 hd366
     refine GoQA.loudI rfl rfl ?_
     intro abe A372 xc
     replace hO := xc.own hO
     replace Ga := (Ga.ch kM).ch (xc.ch _)
     have hobt := freeze 0 hO rfl Ga
     obtain ⟨hO1, yP, fP, U0⟩ := hobt
     dsimp only [eS, eZ] at hO1 yP fP
     replace hB := (hB.trans (xc.same.fr _)).trans (Owns.dropFr _ _ 0)
     dsimp only [eS, eZ] at hB
     replace hO := hO1; clear hO1
     obtain ⟨abf, H⟩ := H
     have Z20 := (((lD.ch.trans (xT.ch _)).trans kM).trans (xc.ch _)).trans yP
     replace d8 := d8.ch Z20
     have hobt := oapp Try.underlying22 ti26 rfl 8 hO rfl d8 fP U0 abf (by decide)
     obtain ⟨aai, DH, DJ, qz, qg, fS, PH⟩ := hobt
     dsimp only [sS, sZ] at qg fS
     refine GoAt.step (PH (by exact rfl) (by exact rfl)) (fun _ => (CSv.cons (cs_eq (blkCell 3 hO rfl rfl) (blkCell 3 qg.own rfl rfl)) (CSv.cons (cs_eq (blkCell 3 hO rfl rfl) (blkCell 3 qg.own rfl rfl)) (CSv.cons (cs_eq (blkCell 3 hO rfl rfl) (blkCell 3 qg.own rfl rfl)) (CSv.cons (cs_eq (blkCell 3 hO rfl rfl) (blkCell 3 qg.own rfl rfl)) (CSv.nil _ _)))))) (Stp.kp hO qg) rfl ?_
     replace hO := qg.own
     refine GoQA.pure rfl (op_fieldAddr Try.underlying29 rfl ti22 rfl (by decide)) rfl rfl ?_
     refine GoQA.alloc rfl rfl (alBuild (n := 1) (parts := [(0, .int .i64 k2_226)]) (vs := [.int .i64 k2_226]) Try.underlying26 ti3 (by decide) (by decide) (by decide) (by kernel_rfl) rfl rfl) ?_
     intro I4 A388 PI A390 xd MA hd393 hnb394 hh395
     replace hO := xd.own hO
     have Gb : Els (Rp.int .i64) (bl [.row 3 1 qt mJ qu tP, .row 9 1 pq oQ pr qe, .any (mapE (fun a : List UInt8 => Value.string (gstr a)) (fun a : Int => Value.int .i64 a) B160 m3_286), .blk gD (.cells #[.int .i64 a0.Points, .bool a0.Monoid, .slice aS a0.Gens.length aT, .slice iR iB iT, .slice j7 iH j8, .slice iY iG jo, .slice fK fJ fL, .slice jl iF jm, .int .i64 k2_226] 29 (0, 0)), .row 39 2 jl iF jm ob, .row 26 1 fK fJ fL kP, .row 3 1 iY iG jo qf, .row 3 1 j7 iH j8 ra, .row 26 1 DH (iB + 1) DJ qz, .blk B8 (.cells #[.int .i64 (0 : Int), .bool false, .slice none 0 0, .slice none 0 0, .slice none 0 0, .slice none 0 0, .slice none 0 0, .slice none 0 0, .int .i64 (0 : Int)] 29 (0, 0))] ++ A388) I4 [.int .i64 k2_226] [k2_226] := (Els.cons rfl rfl (Els.nil _ _ _) (by simp [mx]))
     have xU := gainCh (w := I4) (E := [.row 3 1 qt mJ qu tP, .row 9 1 pq oQ pr qe, .any (mapE (fun a : List UInt8 => Value.string (gstr a)) (fun a : Int => Value.int .i64 a) B160 m3_286), .blk gD (.cells #[.int .i64 a0.Points, .bool a0.Monoid, .slice aS a0.Gens.length aT, .slice iR iB iT, .slice j7 iH j8, .slice iY iG jo, .slice fK fJ fL, .slice jl iF jm, .int .i64 k2_226] 29 (0, 0)), .row 39 2 jl iF jm ob, .row 26 1 fK fJ fL kP, .row 3 1 iY iG jo qf, .row 3 1 j7 iH j8 ra, .row 26 1 DH (iB + 1) DJ qz, .blk B8 (.cells #[.int .i64 (0 : Int), .bool false, .slice none 0 0, .slice none 0 0, .slice none 0 0, .slice none 0 0, .slice none 0 0, .slice none 0 0, .int .i64 (0 : Int)] 29 (0, 0))]) (e := .row 3 1 (some ⟨PI, 0, none⟩) 1 1 [.int .i64 k2_226]) MA rfl
     replace hB := (hB.trans qg.fr).trans (xd.same.fr _)
     replace hB := Fr.gain (e := .row 3 1 (some ⟨PI, 0, none⟩) 1 1 [.int .i64 k2_226]) hB (Nat.le_trans hw357 hnb394) rfl
     replace hO := Owns.gain hO MA JG rfl hh395 hd393
     refine GoQA.loudI rfl rfl ?_
     intro Ym A399 vR
     replace hO := vR.own hO
     replace Gb := (Gb.ch xU).ch (vR.ch _)
     have hobt := freeze 0 hO rfl Gb
     obtain ⟨hO1, xV, gJ, U1⟩ := hobt
     dsimp only [eS, eZ] at hO1 xV gJ
     replace hB := (hB.trans (vR.same.fr _)).trans (Owns.dropFr _ _ 0)
     dsimp only [eS, eZ] at hB
     replace hO := hO1; clear hO1
     obtain ⟨abg, H⟩ := H
     have Z21 := ((((((((((((yi.ch.trans gW.ch).trans iI.ch).trans vh.ch).trans lD.ch).trans (xT.ch _)).trans kM).trans (xc.ch _)).trans yP).trans qg.ch).trans (xd.ch _)).trans xU).trans (vR.ch _)).trans xV
     replace dU := dU.ch Z21
     have hobt := oapp Try.underlying26 ti3 rfl 7 hO rfl dU gJ U1 abg (by decide)
     obtain ⟨agL, GH, GJ, JH, oU, gV, HP⟩ := hobt
     dsimp only [sS, sZ] at oU gV
     refine GoAt.step (HP (by exact rfl) (by exact rfl)) (fun _ => (CSv.cons (cs_eq (blkCell 3 hO rfl rfl) (blkCell 3 oU.own rfl rfl)) (CSv.cons (cs_eq (blkCell 3 hO rfl rfl) (blkCell 3 oU.own rfl rfl)) (CSv.cons (cs_eq (blkCell 3 hO rfl rfl) (blkCell 3 oU.own rfl rfl)) (CSv.cons (cs_eq (blkCell 3 hO rfl rfl) (blkCell 3 oU.own rfl rfl)) (CSv.nil _ _)))))) (Stp.kp hO oU) rfl ?_
     replace hO := oU.own
     refine GoQA.alloc rfl rfl (alBuild (n := 1) (parts := [(0, .int .i64 (k3_273 : Int))]) (vs := [.int .i64 (k3_273 : Int)]) Try.underlying26 ti3 (by decide) (by decide) (by decide) (by kernel_rfl) rfl rfl) ?_
     intro PJ A415 PK A417 vS MB hd420 hnb421 hh422
     replace hO := vS.own hO
     have Gc : Els (Rp.int .i64) (bl [.row 3 1 qt mJ qu tP, .row 9 1 pq oQ pr qe, .any (mapE (fun a : List UInt8 => Value.string (gstr a)) (fun a : Int => Value.int .i64 a) B160 m3_286), .blk gD (.cells #[.int .i64 a0.Points, .bool a0.Monoid, .slice aS a0.Gens.length aT, .slice iR iB iT, .slice j7 iH j8, .slice iY iG jo, .slice fK fJ fL, .slice jl iF jm, .int .i64 k2_226] 29 (0, 0)), .row 39 2 jl iF jm ob, .row 26 1 fK fJ fL kP, .row 3 1 iY iG jo qf, .row 3 1 GH (iH + 1) GJ JH, .row 26 1 DH (iB + 1) DJ qz, .blk B8 (.cells #[.int .i64 (0 : Int), .bool false, .slice none 0 0, .slice none 0 0, .slice none 0 0, .slice none 0 0, .slice none 0 0, .slice none 0 0, .int .i64 (0 : Int)] 29 (0, 0))] ++ A415) PJ [.int .i64 (k3_273 : Int)] [(k3_273 : Int)] := (Els.cons rfl rfl (Els.nil _ _ _) (by simp [mx]))
     have xe := gainCh (w := PJ) (E := [.row 3 1 qt mJ qu tP, .row 9 1 pq oQ pr qe, .any (mapE (fun a : List UInt8 => Value.string (gstr a)) (fun a : Int => Value.int .i64 a) B160 m3_286), .blk gD (.cells #[.int .i64 a0.Points, .bool a0.Monoid, .slice aS a0.Gens.length aT, .slice iR iB iT, .slice j7 iH j8, .slice iY iG jo, .slice fK fJ fL, .slice jl iF jm, .int .i64 k2_226] 29 (0, 0)), .row 39 2 jl iF jm ob, .row 26 1 fK fJ fL kP, .row 3 1 iY iG jo qf, .row 3 1 GH (iH + 1) GJ JH, .row 26 1 DH (iB + 1) DJ qz, .blk B8 (.cells #[.int .i64 (0 : Int), .bool false, .slice none 0 0, .slice none 0 0, .slice none 0 0, .slice none 0 0, .slice none 0 0, .slice none 0 0, .int .i64 (0 : Int)] 29 (0, 0))]) (e := .row 3 1 (some ⟨PK, 0, none⟩) 1 1 [.int .i64 (k3_273 : Int)]) MB rfl
     replace hB := (hB.trans oU.fr).trans (vS.same.fr _)
     replace hB := Fr.gain (e := .row 3 1 (some ⟨PK, 0, none⟩) 1 1 [.int .i64 (k3_273 : Int)]) hB (Nat.le_trans hw357 hnb421) rfl
     replace hO := Owns.gain hO MB JG rfl hh422 hd420
     refine GoQA.loudI rfl rfl ?_
     intro agM A426 uF
     replace hO := uF.own hO
     replace Gc := (Gc.ch xe).ch (uF.ch _)
     have hobt := freeze 0 hO rfl Gc
     obtain ⟨hO1, xg, jq, U2⟩ := hobt
     dsimp only [eS, eZ] at hO1 xg jq
     replace hB := (hB.trans (uF.same.fr _)).trans (Owns.dropFr _ _ 0)
     dsimp only [eS, eZ] at hB
     replace hO := hO1; clear hO1
     obtain ⟨abh, H⟩ := H
     have Z22 := ((((Z21.trans oU.ch).trans (vS.ch _)).trans xe).trans (uF.ch _)).trans xg
     replace dy := dy.ch Z22
     have hobt := oapp Try.underlying26 ti3 rfl 6 hO rfl dy jq U2 abh (by decide)
     obtain ⟨agN, LI, LJ, U3, gi, jp, PM⟩ := hobt
     dsimp only [sS, sZ] at gi jp
     refine GoAt.step (PM (by exact rfl) (by exact rfl)) (fun _ => (CSv.cons (cs_eq (blkCell 3 hO rfl rfl) (blkCell 3 gi.own rfl rfl)) (CSv.cons (cs_eq (blkCell 3 hO rfl rfl) (blkCell 3 gi.own rfl rfl)) (CSv.cons (cs_eq (blkCell 3 hO rfl rfl) (blkCell 3 gi.own rfl rfl)) (CSv.cons (cs_eq (blkCell 3 hO rfl rfl) (blkCell 3 gi.own rfl rfl)) (CSv.nil _ _)))))) (Stp.kp hO gi) rfl ?_
     replace hO := gi.own
     refine GoQA.lastI rfl rfl ?_
     intro agO A441 uG
     replace hO := uG.own hO
     have hobt := oblkSt2 (v := .slice DH (iB + 1) DJ) (i := 3) (cs' := #[.int .i64 a0.Points, .bool a0.Monoid, .slice aS a0.Gens.length aT, .slice DH (iB + 1) DJ, .slice j7 iH j8, .slice iY iG jo, .slice fK fJ fL, .slice jl iF jm, .int .i64 k2_226]) 3 hO rfl rfl rfl rfl
     obtain ⟨agP, qQ, PN⟩ := hobt
     dsimp only [sS, sZ] at qQ
     refine GoAt.step (PN Try.underlying22 rfl ti22 (by exact rfl) (by exact rfl)) (fun h => nomatch h) (Stp.kp hO qQ) rfl ?_
     replace hO := qQ.own
     refine GoQA.pure rfl (op_fieldAddr Try.underlying29 rfl ti26 rfl (by decide)) rfl rfl ?_
     refine GoQA.lastI rfl rfl ?_
     intro agQ A447 uH
     replace hO := uH.own hO
     have hobt := oblkSt2 (v := .slice GH (iH + 1) GJ) (i := 4) (cs' := #[.int .i64 a0.Points, .bool a0.Monoid, .slice aS a0.Gens.length aT, .slice DH (iB + 1) DJ, .slice GH (iH + 1) GJ, .slice iY iG jo, .slice fK fJ fL, .slice jl iF jm, .int .i64 k2_226]) 3 hO rfl rfl rfl rfl
     obtain ⟨agR, qR, Ez⟩ := hobt
     dsimp only [sS, sZ] at qR
     refine GoAt.step (Ez Try.underlying26 rfl ti26 (by exact rfl) (by exact rfl)) (fun h => nomatch h) (Stp.kp hO qR) rfl ?_
     replace hO := qR.own
     refine GoQA.pure rfl (op_fieldAddr Try.underlying29 rfl ti26 rfl (by decide)) rfl rfl ?_
     refine GoQA.lastI rfl rfl ?_
     intro agS A453 uI
     replace hO := uI.own hO
     have hobt := oblkSt2 (v := .slice LI (iG + 1) LJ) (i := 5) (cs' := #[.int .i64 a0.Points, .bool a0.Monoid, .slice aS a0.Gens.length aT, .slice DH (iB + 1) DJ, .slice GH (iH + 1) GJ, .slice LI (iG + 1) LJ, .slice fK fJ fL, .slice jl iF jm, .int .i64 k2_226]) 3 hO rfl rfl rfl rfl
     obtain ⟨Yq, qS, PO⟩ := hobt
     dsimp only [sS, sZ] at qS
     refine GoAt.step (PO Try.underlying26 rfl ti26 (by exact rfl) (by exact rfl)) (fun h => nomatch h) (Stp.kp hO qS) rfl ?_
     replace hO := qS.own
     refine GoQA.nil ?_
     intro aaY A459 uJ vT
     replace hO := uJ.own hO
     replace hO := hO.permA vT
     refine zq ?_
     refine Go1.cut [(1, .int .i64 k2_225), (4, .pointer (some ⟨B8, 0, none⟩)), (6, .pointer (some ⟨gD, 0, none⟩)), (7, .map (some B160)), (8, .slice pq oQ pr), (10, .slice qt mJ qu), (11, .string (gstr (ix d_227 k2_226))), (14, .int .i64 (d_305.length : Int)), (15, .string (gstr ((ix d_227 k2_226) ++ r342))), (86, .int .i64 (a0.Gens.length : Int)), (87, .int .i64 (k3_273 : Int))] ⟨rfl, rfl, rfl, rfl, rfl, rfl, rfl, rfl, rfl, rfl, rfl, trivial⟩ ?_
     intro σ _
     refine zr (zm rfl (zm rfl ?_))
     have hobt := obuild (r := Rp.str) (n := 1) (parts := [(0, .string (gstr ((ix d_227 k2_226) ++ r342)))]) (vs := [.string (gstr ((ix d_227 k2_226) ++ r342))]) (xs := [(ix d_227 k2_226) ++ r342]) rfl Try.underlying70 ti9 hO (by decide) (by kernel_rfl) (Els.cons rfl ⟨rfl, (lenApp LH)⟩ (Els.nil _ _ _) (by simp [mx])) rfl
     obtain ⟨agT, agU, jQ, U4, ac1, PP⟩ := hobt
     refine zg (PP rfl) ?_
     replace hO := jQ.own
     have hobt := freeze 0 hO rfl U4
     obtain ⟨hO1, vU, yQ, U5⟩ := hobt
     dsimp only [eS, eZ] at hO1 vU yQ
     replace hB := (((((((((hB.trans gi.fr).trans (uG.same.fr _)).trans qQ.fr).trans (uH.same.fr _)).trans qR.fr).trans (uI.same.fr _)).trans qS.fr).trans (uJ.same.fr _)).trans jQ.fr).trans (Owns.dropFr _ _ 0)
     dsimp only [eS, eZ] at hB
     replace hO := hO1; clear hO1
     obtain ⟨abi, H⟩ := H
     have Z23 := ((((((((((Z22.trans gi.ch).trans (uG.ch _)).trans qQ.ch).trans (uH.ch _)).trans qR.ch).trans (uI.ch _)).trans qS.ch).trans (uJ.ch _)).trans (permCh vT _)).trans jQ.ch).trans vU
     replace cx := cx.ch Z23
     have hobt := oapp Try.underlying70 ti9 rfl 1 hO rfl cx yQ U5 abi (by decide)
     obtain ⟨agV, abj, abk, U6, jv, yr, PQ⟩ := hobt
     dsimp only [sS, sZ] at jv yr
     refine zg (PQ (by exact rfl) (by exact rfl)) ?_
     replace hO := jv.own
     refine za rfl (zn (zr (zm rfl (zm rfl (zm rfl ?_)))))
     have hobt := omapUpd (MK.str Try.underlying9) 2 hO rfl Try.underlying69 ((ix d_227 k2_226) ++ r342) (d_305.length : Int)
     obtain ⟨agW, qT, HQ⟩ := hobt
     dsimp only [sS, sZ] at qT
     refine zg (HQ (by exact rfl) (by exact rfl) (by exact rfl)) ?_
     replace hO := qT.own
     refine zn (zr (zm rfl (zm rfl ?_)))
     have hobt := obuild (r := Rp.int .i64) (n := 1) (parts := [(0, .int .i64 (d_305.length : Int))]) (vs := [.int .i64 (d_305.length : Int)]) (xs := [(d_305.length : Int)]) rfl Try.underlying26 ti3 hO (by decide) (by kernel_rfl) (Els.cons rfl rfl (Els.nil _ _ _) (by simp [mx])) rfl
     obtain ⟨agX, agY, iw, He, ac2, PR⟩ := hobt
     refine zg (PR rfl) ?_
     replace hO := iw.own
     have hobt := freeze 0 hO rfl He
     obtain ⟨hO1, uK, Hh, U7⟩ := hobt
     dsimp only [eS, eZ] at hO1 uK Hh
     replace hB := (((hB.trans jv.fr).trans qT.fr).trans iw.fr).trans (Owns.dropFr _ _ 0)
     dsimp only [eS, eZ] at hB
     replace hO := hO1; clear hO1
     obtain ⟨abl, H⟩ := H
     have Z24 := (((Z23.trans jv.ch).trans qT.ch).trans iw.ch).trans uK
     replace dg := dg.ch Z24
     have hobt := oapp Try.underlying26 ti3 rfl 0 hO rfl dg Hh U7 abl (by decide)
     obtain ⟨ag0, abm, abn, U8, qU, MC, PS⟩ := hobt
     dsimp only [sS, sZ] at qU MC
     refine zg (PS (by exact rfl) (by exact rfl)) ?_
     replace hO := qU.own
     refine za rfl (zn ?_)
     refine Go1.inBlock ?_
     refine zr ?_
     have Z25 := ((((((((((((((((((((((((((((((((gW.ch.trans iI.ch).trans vh.ch).trans lD.ch).trans (xT.ch _)).trans kM).trans (xc.ch _)).trans yP).trans qg.ch).trans (xd.ch _)).trans xU).trans (vR.ch _)).trans xV).trans oU.ch).trans (vS.ch _)).trans xe).trans (uF.ch _)).trans xg).trans gi.ch).trans (uG.ch _)).trans qQ.ch).trans (uH.ch _)).trans qR.ch).trans (uI.ch _)).trans qS.ch).trans (uJ.ch _)).trans (permCh vT _)).trans jQ.ch).trans vU).trans jv.ch).trans qT.ch).trans iw.ch).trans uK).trans qU.ch
     replace aa := aa.ch Z25
     refine zo (op_add rfl rfl (wrap_i64 (natbd DG aa.bd))) (zm rfl (zn ?_))
     replace hB := hB.trans qU.fr
     have Z26 := ((qT.ch.trans iw.ch).trans uK).trans qU.ch
     replace yr := yr.ch Z26
     have Z27 := ((((((((((((((uG.ch _).trans qQ.ch).trans (uH.ch _)).trans qR.ch).trans (uI.ch _)).trans qS.ch).trans (uJ.ch _)).trans (permCh vT _)).trans jQ.ch).trans vU).trans jv.ch).trans qT.ch).trans iw.ch).trans uK).trans qU.ch
     replace jp := jp.ch Z27
     have Z28 := (((((((((((((((((((vS.ch _).trans xe).trans (uF.ch _)).trans xg).trans gi.ch).trans (uG.ch _)).trans qQ.ch).trans (uH.ch _)).trans qR.ch).trans (uI.ch _)).trans qS.ch).trans (uJ.ch _)).trans (permCh vT _)).trans jQ.ch).trans vU).trans jv.ch).trans qT.ch).trans iw.ch).trans uK).trans qU.ch
     replace gV := gV.ch Z28
     have Z29 := ((((((((((((((((((((((((xd.ch _).trans xU).trans (vR.ch _)).trans xV).trans oU.ch).trans (vS.ch _)).trans xe).trans (uF.ch _)).trans xg).trans gi.ch).trans (uG.ch _)).trans qQ.ch).trans (uH.ch _)).trans qR.ch).trans (uI.ch _)).trans qS.ch).trans (uJ.ch _)).trans (permCh vT _)).trans jQ.ch).trans vU).trans jv.ch).trans qT.ch).trans iw.ch).trans uK).trans qU.ch
     replace fS := fS.ch Z29
     have Z30 := Z24.trans qU.ch
     replace bM := bM.ch Z30
     replace bX := bX.ch Z30
     exact hX3 _ H _ _ ⟨mJ + 1, abm, abn, U8, oQ + 1, abj, abk, U6, iF, jl, jm, ob, iG + 1, LI, LJ, U3, iH + 1, GH, GJ, JH, iB + 1, DH, DJ, qz, ⟨rfl, rfl, rfl, rfl, rfl, rfl, rfl, rfl, rfl, trivial⟩, hO, MC, yr, bM, bX, jp, gV, fS, aa, hB⟩
    replace H := ifn Gs H
    refine zo (fun w => opB (op_lss rfl rfl w) (decide_eq_false Gs)) (zn (zf rfl rfl (zq (zr (zm rfl ?_)))))
    by_cases JI : (ix d_227 k2_226) = (([] : Str))
    ·replace H := ifp JI H
     refine zo (fun w => opB (op_neqS rfl rfl w) (ndT JI)) (zm rfl (zp (zp (zp (zp ?_)))))
     refine zp (zp (zo (op_pickF rfl rfl rfl) (zn (zf rfl rfl (zk ?_)))))
     refine Go1.cut [(1, .int .i64 k2_225), (4, .pointer (some ⟨B8, 0, none⟩)), (6, .pointer (some ⟨gD, 0, none⟩)), (7, .map (some B160)), (8, .slice pq oQ pr), (10, .slice qt mJ qu), (11, .string (gstr (ix d_227 k2_226))), (14, .int .i64 r336), (86, .int .i64 (a0.Gens.length : Int)), (87, .int .i64 (k3_273 : Int))] ⟨rfl, rfl, rfl, rfl, rfl, rfl, rfl, rfl, rfl, rfl, trivial⟩ ?_
     intro σ _
     refine zr (zm rfl (zm rfl ?_))
     have hobt := obuild (r := Rp.int .i64) (n := 1) (parts := [(0, .int .i64 r336)]) (vs := [.int .i64 r336]) (xs := [r336]) rfl Try.underlying26 ti3 hO (by decide) (by kernel_rfl) (Els.cons rfl rfl (Els.nil _ _ _) (by simp [mx])) rfl
     obtain ⟨ag1, ag2, vi, U9, ac3, PT⟩ := hobt
     refine zg (PT rfl) ?_
     replace hO := vi.own
     have hobt := freeze 0 hO rfl U9
     obtain ⟨hO1, yR, Hi, Va⟩ := hobt
     dsimp only [eS, eZ] at hO1 yR Hi
     replace hB := (((((hB.trans yi.fr).trans gW.fr).trans iI.fr).trans vh.fr).trans vi.fr).trans (Owns.dropFr _ _ 0)
     dsimp only [eS, eZ] at hB
     replace hO := hO1; clear hO1
     obtain ⟨abo, H⟩ := H
     have Z31 := ((((yi.ch.trans gW.ch).trans iI.ch).trans vh.ch).trans vi.ch).trans yR
     replace dg := dg.ch Z31
     have hobt := oapp Try.underlying26 ti3 rfl 0 hO rfl dg Hi Va abo (by decide)
     obtain ⟨ag3, abp, abq, Vb, ur, MD, HD⟩ := hobt
     dsimp only [sS, sZ] at ur MD
     refine zg (HD (by exact rfl) (by exact rfl)) ?_
     replace hO := ur.own
     refine za rfl (zn ?_)
     refine Go1.inBlock ?_
     refine zr ?_
     have Z32 := ((((gW.ch.trans iI.ch).trans vh.ch).trans vi.ch).trans yR).trans ur.ch
     replace aa := aa.ch Z32
     refine zo (op_add rfl rfl (wrap_i64 (natbd DG aa.bd))) (zm rfl (zn ?_))
     replace hB := hB.trans ur.fr
     have Z33 := (((iI.ch.trans vh.ch).trans vi.ch).trans yR).trans ur.ch
     replace d8 := d8.ch Z33
     have Z34 := Z31.trans ur.ch
     replace cx := cx.ch Z34
     replace bM := bM.ch Z34
     replace bX := bX.ch Z34
     replace dy := dy.ch Z34
     replace dU := dU.ch Z34
     exact hX3 _ H _ _ ⟨mJ + 1, abp, abq, Vb, oQ, pq, pr, qe, iF, jl, jm, ob, iG, iY, jo, qf, iH, j7, j8, ra, iB, iR, iT, sP, ⟨rfl, rfl, rfl, rfl, rfl, rfl, rfl, rfl, rfl, trivial⟩, hO, MD, cx, bM, bX, dy, dU, d8, aa, hB⟩
    replace H := ifn JI H
    refine zo (fun w => opB (op_neqS rfl rfl w) (ndF JI)) (zm rfl (zm rfl (zm rfl ?_)))
    obtain ⟨JJ, H⟩ := H
    obtain ⟨JK, H⟩ := H
    have Z35 := ((yi.ch.trans gW.ch).trans iI.ch).trans vh.ch
    replace cx := cx.ch Z35
    refine zo (op_index Try.underlying70 ti9 rfl rfl JJ (ltn (cx.neq hO 1 rfl) JK) (cx.psome hO 1 rfl JJ JK)) (zs (oldStr 1 hO rfl cx JJ JK Try.underlying9 rfl rfl) ?_)
    have hle525 := Els.str_le cx JJ JK
    refine zm rfl ?_
    by_cases JL : (ix d_280 r336) = ((ix d_227 k2_226) ++ r342)
    ·replace H := ifp JL H
     refine zo (fun w => opB (op_neqS rfl rfl w) (ndT JL)) (zo (op_pickT rfl rfl rfl) (zn (zf rfl rfl (zk (zr ?_)))))
     refine zm rfl (zm rfl ?_)
     have hobt := obuild (r := Rp.int .i64) (n := 1) (parts := [(0, .int .i64 r336)]) (vs := [.int .i64 r336]) (xs := [r336]) rfl Try.underlying26 ti3 hO (by decide) (by kernel_rfl) (Els.cons rfl rfl (Els.nil _ _ _) (by simp [mx])) rfl
     obtain ⟨ag4, ag5, lE, DB, ac4, PU⟩ := hobt
     refine zg (PU rfl) ?_
     replace hO := lE.own
     have hobt := freeze 0 hO rfl DB
     obtain ⟨hO1, yS, Hj, Vc⟩ := hobt
     dsimp only [eS, eZ] at hO1 yS Hj
     replace hB := (((((hB.trans yi.fr).trans gW.fr).trans iI.fr).trans vh.fr).trans lE.fr).trans (Owns.dropFr _ _ 0)
     dsimp only [eS, eZ] at hB
     replace hO := hO1; clear hO1
     obtain ⟨abr, H⟩ := H
     replace dg := ((dg.ch Z35).ch lE.ch).ch yS
     have hobt := oapp Try.underlying26 ti3 rfl 0 hO rfl dg Hj Vc abr (by decide)
     obtain ⟨Iy, PV, PW, Vd, f9, E3, PX⟩ := hobt
     dsimp only [sS, sZ] at f9 E3
     refine zg (PX (by exact rfl) (by exact rfl)) ?_
     replace hO := f9.own
     refine za rfl (zn ?_)
     refine Go1.inBlock ?_
     refine Go1.cut [(1, .int .i64 k2_225), (4, .pointer (some ⟨B8, 0, none⟩)), (6, .pointer (some ⟨gD, 0, none⟩)), (7, .map (some B160)), (8, .slice pq oQ pr), (10, .slice PV (mJ + 1) PW), (11, .string (gstr (ix d_227 k2_226))), (86, .int .i64 (a0.Gens.length : Int)), (87, .int .i64 (k3_273 : Int))] ⟨rfl, rfl, rfl, rfl, rfl, rfl, rfl, rfl, rfl, trivial⟩ ?_
     intro σ _
     refine zr ?_
     have Z36 := ((((gW.ch.trans iI.ch).trans vh.ch).trans lE.ch).trans yS).trans f9.ch
     replace aa := aa.ch Z36
     refine zo (op_add rfl rfl (wrap_i64 (natbd DG aa.bd))) (zm rfl (zn ?_))
     replace hB := hB.trans f9.fr
     have Z37 := (lE.ch.trans yS).trans f9.ch
     replace cx := cx.ch Z37
     have Z38 := (((iI.ch.trans vh.ch).trans lE.ch).trans yS).trans f9.ch
     replace d8 := d8.ch Z38
     have Z39 := ((Z35.trans lE.ch).trans yS).trans f9.ch
     replace bM := bM.ch Z39
     replace bX := bX.ch Z39
     replace dy := dy.ch Z39
     replace dU := dU.ch Z39
     exact hX3 _ H _ _ ⟨mJ + 1, PV, PW, Vd, oQ, pq, pr, qe, iF, jl, jm, ob, iG, iY, jo, qf, iH, j7, j8, ra, iB, iR, iT, sP, ⟨rfl, rfl, rfl, rfl, rfl, rfl, rfl, rfl, rfl, trivial⟩, hO, E3, cx, bM, bX, dy, dU, d8, aa, hB⟩
    replace H := ifn JL H
    refine zo (fun w => opB (op_neqS rfl rfl w) (ndF JL)) (zo (op_pickT rfl rfl rfl) (zn (zt rfl rfl (zq (zr ?_)))))
    refine zm rfl (zm rfl ?_)
    obtain ⟨abs, H⟩ := H
    obtain ⟨abt, H⟩ := H
    refine zo (op_sliceS Try.underlying9 rfl rfl abs abt) ?_
    by_cases JM : mhas m3_286 ((((ix d_227 k2_226) ++ r342).drop (1 : Int).toNat)) = true
    ·replace H := ifp JM H
     refine zs (olookT (a := (((ix d_227 k2_226) ++ r342).drop (1 : Int).toNat)) (MK.str Try.underlying9) 2 hO rfl Try.underlying69 rfl rfl JM) (zm rfl (zo (op_extract rfl rfl) (zo (op_extract rfl rfl) (za rfl (za rfl ?_)))))
     refine zn (zq (zr (zm rfl (zn (zt rfl rfl ?_)))))
     refine Go1.drawS 3 [(0, .pure), (1, .stable), (2, .pure), (3, .pure), (4, .pure), (5, .pure), (6, .stable), (7, .pure), (8, .loud), (9, .last), (10, .pure), (11, .last)] mixed (by kernel_rfl) ?_
     intro abu Ve
     have vj := Stp.same hO Ve
     replace hO := vj.own
     refine GoQ.pure rfl (op_fieldAddr Try.underlying29 rfl ti27 rfl (by decide)) rfl rfl ?_
     refine GoQ.stable rfl (oblk (i := 7) 3 hO rfl rfl Try.underlying27 rfl rfl) rfl rfl ?_
     refine GoQ.pure rfl (op_move rfl) rfl rfl ?_
     refine GoQ.pure rfl (op_move rfl) rfl rfl ?_
     refine GoQ.pure rfl (op_move rfl) rfl rfl ?_
     obtain ⟨DK, H⟩ := H
     obtain ⟨JN, H⟩ := H
     replace cx := cx.ch vj.ch
     refine GoQ.pure rfl (op_index Try.underlying70 ti9 rfl rfl DK (ltn (cx.neq hO 1 rfl) JN) (cx.psome hO 1 rfl DK JN)) rfl rfl ?_
     refine GoQ.stable rfl (oldStr 1 hO rfl cx DK JN Try.underlying9 rfl rfl) rfl rfl ?_
     have hle554 := Els.str_le cx DK JN
     refine GoQ.pure rfl (op_build Try.underlying39 ti39 (pl := [(0, 1), (1, 1)]) (vs := [(0, .string (gstr ((ix d_227 k2_226) ++ r342))), (1, .string (gstr (ix d_280 r336)))]) (cs := #[.string (gstr ((ix d_227 k2_226) ++ r342)), .string (gstr (ix d_280 r336))]) (by kernel_rfl) rfl (by kernel_rfl)) rfl rfl ?_
     have hobt := obuildN (r := rpRule) (n := 1) (parts := [(0, .agg #[.string (gstr ((ix d_227 k2_226) ++ r342)), .string (gstr (ix d_280 r336))])]) (vs := [.string (gstr ((ix d_227 k2_226) ++ r342)), .string (gstr (ix d_280 r336))]) (xs := [(⟨(ix d_227 k2_226) ++ r342, ix d_280 r336⟩ : Rule)]) Try.underlying27 ti39 hO (by decide) (by decide) (by kernel_rfl) (Els.flat1 (⟨(ix d_227 k2_226) ++ r342, ix d_280 r336⟩ : Rule) ⟨(lenApp LH), hle554⟩) rfl
     obtain ⟨abv, ag6, vk, Vf, Vg, PY⟩ := hobt
     refine GoQ.loud rfl (PY rfl) Vg rfl rfl ?_
     replace hO := vk.own
     have hobt := freeze 0 hO rfl Vf
     obtain ⟨hO1, qd, jP, Jy⟩ := hobt
     dsimp only [eS, eZ] at hO1 qd jP
     replace hB := ((((((hB.trans yi.fr).trans gW.fr).trans iI.fr).trans vh.fr).trans vj.fr).trans vk.fr).trans (Owns.dropFr _ _ 0)
     dsimp only [eS, eZ] at hB
     replace hO := hO1; clear hO1
     obtain ⟨HW, H⟩ := H
     have Z40 := ((Z35.trans vj.ch).trans vk.ch).trans qd
     replace bM := bM.ch Z40
     have hobt := oapp Try.underlying27 ti39 rfl 4 hO rfl bM jP Jy HW (by decide)
     obtain ⟨aa2, FS, FT, Jz, iA, kO, HX⟩ := hobt
     dsimp only [sS, sZ] at iA kO
     refine GoQ.last rfl (HX (by exact rfl) (by exact rfl)) rfl rfl ?_
     replace hO := iA.own
     refine GoQ.pure rfl (op_fieldAddr Try.underlying29 rfl ti27 rfl (by decide)) rfl rfl ?_
     have hobt := oblkSt2 (v := .slice FS (iF + 1) FT) (i := 7) (cs' := #[.int .i64 a0.Points, .bool a0.Monoid, .slice aS a0.Gens.length aT, .slice iR iB iT, .slice j7 iH j8, .slice iY iG jo, .slice fK fJ fL, .slice FS (iF + 1) FT, .int .i64 k2_226]) 3 hO rfl rfl rfl rfl
     obtain ⟨aa3, tG, P0⟩ := hobt
     dsimp only [sS, sZ] at tG
     refine GoQ.last rfl (P0 Try.underlying27 rfl ti27 (by exact rfl) (by exact rfl)) rfl rfl ?_
     replace hO := tG.own
     refine GoQ.nil ?_
     refine Go1.cut [(1, .int .i64 k2_225), (4, .pointer (some ⟨B8, 0, none⟩)), (6, .pointer (some ⟨gD, 0, none⟩)), (7, .map (some B160)), (8, .slice pq oQ pr), (10, .slice qt mJ qu), (11, .string (gstr (ix d_227 k2_226))), (14, .int .i64 r336), (86, .int .i64 (a0.Gens.length : Int)), (87, .int .i64 (k3_273 : Int))] ⟨rfl, rfl, rfl, rfl, rfl, rfl, rfl, rfl, rfl, rfl, trivial⟩ ?_
     intro σ _
     refine zr (zm rfl (zm rfl ?_))
     have hobt := obuild (r := Rp.int .i64) (n := 1) (parts := [(0, .int .i64 r336)]) (vs := [.int .i64 r336]) (xs := [r336]) rfl Try.underlying26 ti3 hO (by decide) (by kernel_rfl) (Els.cons rfl rfl (Els.nil _ _ _) (by simp [mx])) rfl
     obtain ⟨aa4, ag7, gO, Vh, ac5, P1⟩ := hobt
     refine zg (P1 rfl) ?_
     replace hO := gO.own
     have hobt := freeze 0 hO rfl Vh
     obtain ⟨hO1, xW, Hk, Vi⟩ := hobt
     dsimp only [eS, eZ] at hO1 xW Hk
     replace hB := (((hB.trans iA.fr).trans tG.fr).trans gO.fr).trans (Owns.dropFr _ _ 0)
     dsimp only [eS, eZ] at hB
     replace hO := hO1; clear hO1
     obtain ⟨abw, H⟩ := H
     have Z41 := (((Z40.trans iA.ch).trans tG.ch).trans gO.ch).trans xW
     replace dg := dg.ch Z41
     have hobt := oapp Try.underlying26 ti3 rfl 0 hO rfl dg Hk Vi abw (by decide)
     obtain ⟨abx, aby, abz, Vj, gE, ME, P2⟩ := hobt
     dsimp only [sS, sZ] at gE ME
     refine zg (P2 (by exact rfl) (by exact rfl)) ?_
     replace hO := gE.own
     refine za rfl (zn ?_)
     refine Go1.inBlock ?_
     refine zr ?_
     have Z42 := (((((((((gW.ch.trans iI.ch).trans vh.ch).trans vj.ch).trans vk.ch).trans qd).trans iA.ch).trans tG.ch).trans gO.ch).trans xW).trans gE.ch
     replace aa := aa.ch Z42
     refine zo (op_add rfl rfl (wrap_i64 (natbd DG aa.bd))) (zm rfl (zn ?_))
     replace hB := hB.trans gE.fr
     have Z43 := ((tG.ch.trans gO.ch).trans xW).trans gE.ch
     replace kO := kO.ch Z43
     have Z44 := (((((vk.ch.trans qd).trans iA.ch).trans tG.ch).trans gO.ch).trans xW).trans gE.ch
     replace cx := cx.ch Z44
     have Z45 := ((((((((iI.ch.trans vh.ch).trans vj.ch).trans vk.ch).trans qd).trans iA.ch).trans tG.ch).trans gO.ch).trans xW).trans gE.ch
     replace d8 := d8.ch Z45
     have Z46 := Z41.trans gE.ch
     replace bX := bX.ch Z46
     replace dy := dy.ch Z46
     replace dU := dU.ch Z46
     exact hX3 _ H _ _ ⟨mJ + 1, aby, abz, Vj, oQ, pq, pr, qe, iF + 1, FS, FT, Jz, iG, iY, jo, qf, iH, j7, j8, ra, iB, iR, iT, sP, ⟨rfl, rfl, rfl, rfl, rfl, rfl, rfl, rfl, rfl, trivial⟩, hO, ME, cx, kO, bX, dy, dU, d8, aa, hB⟩
    replace H := ifn JM H
    refine zs (olookF (a := (((ix d_227 k2_226) ++ r342).drop (1 : Int).toNat)) (MK.str Try.underlying9) 2 hO rfl Try.underlying69 ti3 rfl rfl JM) (zm rfl (zo (op_extract rfl rfl) (zo (op_extract rfl rfl) (za rfl (za rfl ?_)))))
    refine zn (zq (zr (zm rfl (zn (zf rfl rfl ?_)))))
    refine zk (zr (zm rfl (zm rfl ?_)))
    have hobt := obuild (r := Rp.int .i64) (n := 1) (parts := [(0, .int .i64 r336)]) (vs := [.int .i64 r336]) (xs := [r336]) rfl Try.underlying26 ti3 hO (by decide) (by kernel_rfl) (Els.cons rfl rfl (Els.nil _ _ _) (by simp [mx])) rfl
    obtain ⟨aa5, ag8, vl, Vk, ac6, P3⟩ := hobt
    refine zg (P3 rfl) ?_
    replace hO := vl.own
    have hobt := freeze 0 hO rfl Vk
    obtain ⟨hO1, yT, Hl, Vl⟩ := hobt
    dsimp only [eS, eZ] at hO1 yT Hl
    replace hB := (((((hB.trans yi.fr).trans gW.fr).trans iI.fr).trans vh.fr).trans vl.fr).trans (Owns.dropFr _ _ 0)
    dsimp only [eS, eZ] at hB
    replace hO := hO1; clear hO1
    obtain ⟨abA, H⟩ := H
    replace dg := ((dg.ch Z35).ch vl.ch).ch yT
    have hobt := oapp Try.underlying26 ti3 rfl 0 hO rfl dg Hl Vl abA (by decide)
    obtain ⟨ag9, abB, abC, Vm, ut, MF, P4⟩ := hobt
    dsimp only [sS, sZ] at ut MF
    refine zg (P4 (by exact rfl) (by exact rfl)) ?_
    replace hO := ut.own
    refine za rfl (zn ?_)
    refine Go1.inBlock ?_
    refine zr ?_
    have Z47 := ((((gW.ch.trans iI.ch).trans vh.ch).trans vl.ch).trans yT).trans ut.ch
    replace aa := aa.ch Z47
    refine zo (op_add rfl rfl (wrap_i64 (natbd DG aa.bd))) (zm rfl (zn ?_))
    replace hB := hB.trans ut.fr
    have Z48 := (vl.ch.trans yT).trans ut.ch
    replace cx := cx.ch Z48
    have Z49 := (((iI.ch.trans vh.ch).trans vl.ch).trans yT).trans ut.ch
    replace d8 := d8.ch Z49
    have Z50 := ((Z35.trans vl.ch).trans yT).trans ut.ch
    replace bM := bM.ch Z50
    replace bX := bX.ch Z50
    replace dy := dy.ch Z50
    replace dU := dU.ch Z50
    exact hX3 _ H _ _ ⟨mJ + 1, abB, abC, Vm, oQ, pq, pr, qe, iF, jl, jm, ob, iG, iY, jo, qf, iH, j7, j8, ra, iB, iR, iT, sP, ⟨rfl, rfl, rfl, rfl, rfl, rfl, rfl, rfl, rfl, trivial⟩, hO, MF, cx, bM, bX, dy, dU, d8, aa, hB⟩
   replace H := ifn DG H
   refine zo (fun w => opB (op_lss rfl rfl w) (decide_eq_false DG)) (zn (zq (zf rfl rfl ?_)))
   refine Go1.exit rfl ?_
   refine zq ?_
   refine Go1.cut [(1, .int .i64 k2_225), (4, .pointer (some ⟨B8, 0, none⟩)), (6, .pointer (some ⟨gD, 0, none⟩)), (7, .map (some B160)), (8, .slice pq oQ pr), (10, .slice qt mJ qu)] ⟨rfl, rfl, rfl, rfl, rfl, rfl, trivial⟩ ?_
   intro σ _
   refine zr (zo (op_fieldAddr Try.underlying29 rfl ti22 rfl (by decide)) (zs (oblk (i := 6) 3 hO rfl rfl Try.underlying22 rfl rfl) (zm rfl ?_)))
   have hobt := freeze 0 hO rfl dg
   obtain ⟨hO1, Ci, yU, Vn⟩ := hobt
   dsimp only [eS, eZ] at hO1 Ci yU
   replace hB := hB.trans (Owns.dropFr _ _ 0)
   dsimp only [eS, eZ] at hB
   replace hO := hO1; clear hO1
   have hobt := obuild (r := Rp.sl (Rp.int .i64)) (n := 1) (parts := [(0, .slice qt mJ qu)]) (vs := [.slice qt mJ qu]) (xs := [d_274]) rfl Try.underlying22 ti26 hO (by decide) (by kernel_rfl) (Els.cons rfl ⟨qt, qu, congrArg some (congrArg (fun nn => Value.slice qt nn qu) Vn), yU⟩ (Els.nil _ _ _) (by simp [mx])) rfl
   obtain ⟨YF, YG, lY, ID, Ma, HE⟩ := hobt
   refine zg (HE rfl) ?_
   replace hO := lY.own
   have hobt := freeze 0 hO rfl ID
   obtain ⟨hO1, rY, pG, IE⟩ := hobt
   dsimp only [eS, eZ] at hO1 rY pG
   replace hB := (hB.trans lY.fr).trans (Owns.dropFr _ _ 0)
   dsimp only [eS, eZ] at hB
   replace hO := hO1; clear hO1
   obtain ⟨KC, H⟩ := H
   have Z51 := (Ci.trans lY.ch).trans rY
   replace bX := bX.ch Z51
   have hobt := oapp Try.underlying22 ti26 rfl 4 hO rfl bX pG IE KC (by decide)
   obtain ⟨YH, Dg, Dh, IF, kN, sJ, HF⟩ := hobt
   dsimp only [sS, sZ] at kN sJ
   refine zg (HF (by exact rfl) (by exact rfl)) ?_
   replace hO := kN.own
   refine zo (op_fieldAddr Try.underlying29 rfl ti22 rfl (by decide)) ?_
   have hobt := oblkSt2 (v := .slice Dg (fJ + 1) Dh) (i := 6) (cs' := #[.int .i64 a0.Points, .bool a0.Monoid, .slice aS a0.Gens.length aT, .slice iR iB iT, .slice j7 iH j8, .slice iY iG jo, .slice Dg (fJ + 1) Dh, .slice jl iF jm, .int .i64 k2_226]) 2 hO rfl rfl rfl rfl
   obtain ⟨YI, j9, HG⟩ := hobt
   dsimp only [sS, sZ] at j9
   refine zg (HG Try.underlying22 rfl ti22 (by exact rfl) (by exact rfl)) ?_
   replace hO := j9.own
   refine zn (zr (zo (op_fieldAddr Try.underlying29 rfl ti3 rfl (by decide)) (zs (oblk (i := 8) 2 hO rfl rfl Try.underlying3 rfl rfl) ?_)))
   obtain ⟨abD, H⟩ := H
   refine zo (op_add rfl rfl (wrap_i64 abD)) (zo (op_fieldAddr Try.underlying29 rfl ti3 rfl (by decide)) ?_)
   have hobt := oblkSt2 (v := .int .i64 (k2_226 + (1 : Int))) (i := 8) (cs' := #[.int .i64 a0.Points, .bool a0.Monoid, .slice aS a0.Gens.length aT, .slice iR iB iT, .slice j7 iH j8, .slice iY iG jo, .slice Dg (fJ + 1) Dh, .slice jl iF jm, .int .i64 (k2_226 + (1 : Int))]) 2 hO rfl rfl rfl rfl
   obtain ⟨aha, kx, P5⟩ := hobt
   dsimp only [sS, sZ] at kx
   refine zg (P5 Try.underlying3 rfl ti3 (by exact rfl) (by exact rfl)) ?_
   replace hO := kx.own
   refine zn ?_
   refine Go1.inBlock ?_
   refine zr (zm rfl ?_)
   obtain ⟨abE, H⟩ := H
   refine zo (op_sub rfl rfl (wrap_i64 abE)) (za rfl (zn ?_))
   replace sJ := (sJ.ch j9.ch).ch kx.ch
   replace hB := ((hB.trans kN.fr).trans j9.fr).trans kx.fr
   have Z52 := ((Z51.trans kN.ch).trans j9.ch).trans kx.ch
   replace aa := aa.ch Z52
   replace cx := cx.ch Z52
   replace bM := bM.ch Z52
   replace dy := dy.ch Z52
   replace dU := dU.ch Z52
   replace d8 := d8.ch Z52
   exact hX2 _ H _ _ ⟨oQ, pq, pr, qe, iF, jl, jm, ob, fJ + 1, Dg, Dh, IF, iG, iY, jo, qf, iH, j7, j8, ra, iB, iR, iT, sP, ⟨rfl, rfl, rfl, rfl, rfl, trivial⟩, hO, cx, bM, sJ, dy, dU, d8, aa, hB⟩
  replace H := ifn JD H
  refine zo (fun w => opB (op_lss rfl rfl w) (decide_eq_false JD)) (zo (op_pickT rfl rfl rfl) (zn (zf rfl rfl ?_)))
  refine Go1.exit rfl ?_
  refine zq (zr (zs (oblkAgg (vs := [.int .i64 a0.Points, .bool a0.Monoid, .slice aS a0.Gens.length aT, .slice lV pp lW, .slice lT po lU, .slice lQ pm lR, .slice fK fJ fL, .slice lO pk lP, .int .i64 k2_226]) (i := 0) 2 hO rfl rfl Try.underlying29 rfl ti29 rfl) ?_))
  have hobt := oblkStAgg (us := [.int .i64 a0.Points, .bool a0.Monoid, .slice aS a0.Gens.length aT, .slice lV pp lW, .slice lT po lU, .slice lQ pm lR, .slice fK fJ fL, .slice lO pk lP, .int .i64 k2_226]) (o := 0) (cs' := #[.int .i64 a0.Points, .bool a0.Monoid, .slice aS a0.Gens.length aT, .slice lV pp lW, .slice lT po lU, .slice lQ pm lR, .slice fK fJ fL, .slice lO pk lP, .int .i64 k2_226]) 8 hO rfl rfl (Nat.le_of_ble_eq_true rfl) rfl
  obtain ⟨ahb, yj, P6⟩ := hobt
  dsimp only [sS, sZ] at yj
  refine zg (P6 ti29 (by exact rfl) (by exact rfl) rfl) ?_
  replace hO := yj.own
  refine za rfl (zn ?_)
  replace Ai := Ai.ch yj.ch
  have hobt := freeze 7 hO rfl Ai
  obtain ⟨hO1, DL, Aj, Vo⟩ := hobt
  dsimp only [eS, eZ] at hO1 DL Aj
  replace hB := (hB.trans yj.fr).trans (Owns.dropFr _ _ 7)
  dsimp only [eS, eZ] at hB
  replace hO := hO1; clear hO1
  replace vw := (vw.ch yj.ch).ch DL
  have hobt := freeze 6 hO rfl vw
  obtain ⟨hO1, DM, Cj, Vp⟩ := hobt
  dsimp only [eS, eZ] at hO1 DM Cj
  replace hB := hB.trans (Owns.dropFr _ _ 6)
  dsimp only [eS, eZ] at hB
  replace hO := hO1; clear hO1
  have Z53 := (yj.ch.trans DL).trans DM
  replace uo := uo.ch Z53
  have hobt := freeze 5 hO rfl uo
  obtain ⟨hO1, DN, Fp, Vq⟩ := hobt
  dsimp only [eS, eZ] at hO1 DN Fp
  replace hB := hB.trans (Owns.dropFr _ _ 5)
  dsimp only [eS, eZ] at hB
  replace hO := hO1; clear hO1
  replace bX := (bX.ch Z53).ch DN
  have hobt := freeze 4 hO rfl bX
  obtain ⟨hO1, DO, Hm, Vr⟩ := hobt
  dsimp only [eS, eZ] at hO1 DO Hm
  replace hB := hB.trans (Owns.dropFr _ _ 4)
  dsimp only [eS, eZ] at hB
  replace hO := hO1; clear hO1
  replace ow := ((ow.ch Z53).ch DN).ch DO
  have hobt := freeze 3 hO rfl ow
  obtain ⟨hO1, DP, MG, Vs⟩ := hobt
  dsimp only [eS, eZ] at hO1 DP MG
  replace hB := hB.trans (Owns.dropFr _ _ 3)
  dsimp only [eS, eZ] at hB
  replace hO := hO1; clear hO1
  refine Go1.retC2 Try.func52 rfl rfl (run_loadBlk (vs := [.int .i64 a0.Points, .bool a0.Monoid, .slice aS a0.Gens.length aT, .slice lV pp lW, .slice lT po lU, .slice lQ pm lR, .slice fK fJ fL, .slice lO pk lP, .int .i64 k2_226]) 3 hO rfl rfl Try.underlying29 rfl ti29) ?_
  replace Hm := Hm.ch DP
  replace Fp := (Fp.ch DO).ch DP
  have Z54 := (DN.trans DO).trans DP
  replace Cj := Cj.ch Z54
  have Z55 := ((DM.trans DN).trans DO).trans DP
  replace Aj := Aj.ch Z55
  have Z56 := ((Z53.trans DN).trans DO).trans DP
  replace aa := aa.ch Z56
  exact ⟨(⟨a0.Points, a0.Monoid, a0.Gens, d_258, d_252, d_246, d_240, d_234, k2_226⟩ : Enum), (0 : Int), aS, aT, lV, lW, lT, lU, lQ, lR, fK, fL, lO, lP, (congrArg (fun l => Value.tuple (List.toArray l)) (cons_eq (congrArg (fun l => Value.agg (List.toArray l)) (cons_eq rfl (cons_eq rfl (cons_eq rfl (cons_eq (congrArg (fun nn => Value.slice lV nn lW) Vo) (cons_eq (congrArg (fun nn => Value.slice lT nn lU) Vp) (cons_eq (congrArg (fun nn => Value.slice lQ nn lR) Vq) (cons_eq (congrArg (fun nn => Value.slice fK nn fL) Vr) (cons_eq (congrArg (fun nn => Value.slice lO nn lP) Vs) (cons_eq rfl rfl)))))))))) (cons_eq rfl rfl))), hB.same, (aa.ch (Ch.weak _ _ _)), (Aj.ch (Ch.weak _ _ _)), (Cj.ch (Ch.weak _ _ _)), (Fp.ch (Ch.weak _ _ _)), (Hm.ch (Ch.weak _ _ _)), (MG.ch (Ch.weak _ _ _)), H⟩
 replace H := ifn JC H
 refine zo (fun w => opB (op_gtr rfl rfl w) (decide_eq_false JC)) (zm rfl (zp (zp (zp (zp ?_)))))
 refine zp (zp (zo (op_pickF rfl rfl rfl) (zn (zf rfl rfl ?_))))
 refine Go1.exit rfl ?_
 refine zq ?_
 refine Go1.cut [(4, .pointer (some ⟨B8, 0, none⟩)), (6, .pointer (some ⟨gD, 0, none⟩))] ⟨rfl, rfl, trivial⟩ ?_
 intro σ _
 refine zr (zs (oblkAgg (vs := [.int .i64 a0.Points, .bool a0.Monoid, .slice aS a0.Gens.length aT, .slice lV pp lW, .slice lT po lU, .slice lQ pm lR, .slice fK fJ fL, .slice lO pk lP, .int .i64 k2_226]) (i := 0) 2 hO rfl rfl Try.underlying29 rfl ti29 rfl) ?_)
 have hobt := oblkStAgg (us := [.int .i64 a0.Points, .bool a0.Monoid, .slice aS a0.Gens.length aT, .slice lV pp lW, .slice lT po lU, .slice lQ pm lR, .slice fK fJ fL, .slice lO pk lP, .int .i64 k2_226]) (o := 0) (cs' := #[.int .i64 a0.Points, .bool a0.Monoid, .slice aS a0.Gens.length aT, .slice lV pp lW, .slice lT po lU, .slice lQ pm lR, .slice fK fJ fL, .slice lO pk lP, .int .i64 k2_226]) 8 hO rfl rfl (Nat.le_of_ble_eq_true rfl) rfl
 obtain ⟨ahc, yk, P7⟩ := hobt
 dsimp only [sS, sZ] at yk
 refine zg (P7 ti29 (by exact rfl) (by exact rfl) rfl) ?_
 replace hO := yk.own
 refine za rfl (zn ?_)
 replace Ai := Ai.ch yk.ch
 have hobt := freeze 7 hO rfl Ai
 obtain ⟨hO1, DQ, Ak, Vt⟩ := hobt
 dsimp only [eS, eZ] at hO1 DQ Ak
 replace hB := (hB.trans yk.fr).trans (Owns.dropFr _ _ 7)
 dsimp only [eS, eZ] at hB
 replace hO := hO1; clear hO1
 replace vw := (vw.ch yk.ch).ch DQ
 have hobt := freeze 6 hO rfl vw
 obtain ⟨hO1, DR, Ck, Vu⟩ := hobt
 dsimp only [eS, eZ] at hO1 DR Ck
 replace hB := hB.trans (Owns.dropFr _ _ 6)
 dsimp only [eS, eZ] at hB
 replace hO := hO1; clear hO1
 have Z57 := (yk.ch.trans DQ).trans DR
 replace uo := uo.ch Z57
 have hobt := freeze 5 hO rfl uo
 obtain ⟨hO1, DS, Fq, Vv⟩ := hobt
 dsimp only [eS, eZ] at hO1 DS Fq
 replace hB := hB.trans (Owns.dropFr _ _ 5)
 dsimp only [eS, eZ] at hB
 replace hO := hO1; clear hO1
 replace bX := (bX.ch Z57).ch DS
 have hobt := freeze 4 hO rfl bX
 obtain ⟨hO1, DT, Hn, JO⟩ := hobt
 dsimp only [eS, eZ] at hO1 DT Hn
 replace hB := hB.trans (Owns.dropFr _ _ 4)
 dsimp only [eS, eZ] at hB
 replace hO := hO1; clear hO1
 replace ow := ((ow.ch Z57).ch DS).ch DT
 have hobt := freeze 3 hO rfl ow
 obtain ⟨hO1, DU, MH, Vw⟩ := hobt
 dsimp only [eS, eZ] at hO1 DU MH
 replace hB := hB.trans (Owns.dropFr _ _ 3)
 dsimp only [eS, eZ] at hB
 replace hO := hO1; clear hO1
 refine Go1.retC2 Try.func52 rfl rfl (run_loadBlk (vs := [.int .i64 a0.Points, .bool a0.Monoid, .slice aS a0.Gens.length aT, .slice lV pp lW, .slice lT po lU, .slice lQ pm lR, .slice fK fJ fL, .slice lO pk lP, .int .i64 k2_226]) 3 hO rfl rfl Try.underlying29 rfl ti29) ?_
 replace Hn := Hn.ch DU
 replace Fq := (Fq.ch DT).ch DU
 have Z58 := (DS.trans DT).trans DU
 replace Ck := Ck.ch Z58
 have Z59 := ((DR.trans DS).trans DT).trans DU
 replace Ak := Ak.ch Z59
 have Z60 := ((Z57.trans DS).trans DT).trans DU
 replace aa := aa.ch Z60
 exact ⟨(⟨a0.Points, a0.Monoid, a0.Gens, d_258, d_252, d_246, d_240, d_234, k2_226⟩ : Enum), (0 : Int), aS, aT, lV, lW, lT, lU, lQ, lR, fK, fL, lO, lP, (congrArg (fun l => Value.tuple (List.toArray l)) (cons_eq (congrArg (fun l => Value.agg (List.toArray l)) (cons_eq rfl (cons_eq rfl (cons_eq rfl (cons_eq (congrArg (fun nn => Value.slice lV nn lW) Vt) (cons_eq (congrArg (fun nn => Value.slice lT nn lU) Vu) (cons_eq (congrArg (fun nn => Value.slice lQ nn lR) Vv) (cons_eq (congrArg (fun nn => Value.slice fK nn fL) JO) (cons_eq (congrArg (fun nn => Value.slice lO nn lP) Vw) (cons_eq rfl rfl)))))))))) (cons_eq rfl rfl))), hB.same, (aa.ch (Ch.weak _ _ _)), (Ak.ch (Ch.weak _ _ _)), (Ck.ch (Ch.weak _ _ _)), (Fq.ch (Ch.weak _ _ _)), (Hn.ch (Ch.weak _ _ _)), (MH.ch (Ch.weak _ _ _)), H⟩
theorem body45 : Body Try.prog 45 := ⟨Try.f45, Try.func45, rfl, by kernel_rfl⟩
theorem walk_ref03_SameRows {A : List Nat} {w0 : World} {p_a : Option Addr} {c_a : Nat} {p_b : Option Addr} {c_b : Nat} {a : List (List Int)} {b : List (List Int)} (hA : ∀ b ∈ A, b < w0.heap.size) (h_a : ISl (Rp.sl (Rp.int .i64)) A w0 p_a c_a a) (h_b : ISl (Rp.sl (Rp.int .i64)) A w0 p_b c_b b) {K : Bool → Prop} (H : ref03_SameRows a b K) :
    CallsV Try.prog 45 #[.slice p_a a.length c_a, .slice p_b b.length c_b] w0 (fun v w' => ∃ (r0 : Bool), v = .bool r0 ∧ Same w0 w' ∧ K r0) := by
 refine CallsV.of (l := [.slice p_a a.length c_a, .slice p_b b.length c_b]) Try.func45 rfl Try.ntmps45 rfl ?_
 have hO := Owns.start hA
 have hB := Fr.refl (bl []) w0
 unfold ref03_SameRows at H
 refine zq (zr (za rfl (zn (zq (zq ?_)))))
 refine zr (zm rfl (zo (op_len Try.underlying22 rfl) ?_))
 replace h_a := h_a.ch (Ch.start A w0)
 replace H := H h_a.bd
 refine zm rfl (zo (op_len Try.underlying22 rfl) ?_)
 replace h_b := h_b.ch (Ch.start A w0)
 replace H := H h_b.bd
 by_cases h1 : (a.length : Int) = (b.length : Int)
 ·replace H := ifp h1 H
  refine zo (fun w => opB (op_neq rfl rfl w) (ndT h1)) (zn (zf rfl rfl (zk (zq (zq ?_)))))
  refine zr (zm rfl (zo (op_len Try.underlying22 rfl) (zm rfl (zn (zb ?_)))))
  refine Go1.loopW (S := Nat) (fun s σ w => agrees σ [(0, .slice p_a a.length c_a), (1, .slice p_b b.length c_b), (12, .int .i64 (a.length : Int)), (13, .int .i64 (s : Int))] ∧ Owns w0.heap.size w [] A ∧ ISl (Rp.sl (Rp.int .i64)) (bl [] ++ A) w p_a c_a a ∧ ISl (Rp.sl (Rp.int .i64)) (bl [] ++ A) w p_b c_b b ∧ Fr (bl []) w0 (bl []) w) H ⟨⟨rfl, rfl, rfl, rfl, trivial⟩, hO, h_a, h_b, hB⟩ ?_
  intro X1 k1_3
  intro H hX1 σ w2
  refine andE fun hag => andE fun hO => andE fun h_a => andE fun h_b => fun hB => ?_
  refine Go1.keep [(0, .slice p_a a.length c_a), (1, .slice p_b b.length c_b), (12, .int .i64 (a.length : Int)), (13, .int .i64 (k1_3 : Int))] hag ?_
  refine zq (zr ?_)
  by_cases h4 : (k1_3 : Int) < (a.length : Int)
  ·replace H := ifp h4 H
   refine zo (fun w => opB (op_lss rfl rfl w) (decide_eq_true h4)) (zn (zq (zt rfl rfl (zk (zq ?_)))))
   refine zb (zq (zr (zm rfl (za rfl (zn ?_)))))
   refine zq ?_
   refine Go1.drawS 0 [(0, .pure), (1, .pure), (2, .pure), (3, .stable), (4, .pure), (5, .pure), (6, .pure), (7, .stable), (8, .loud), (9, .pure)] mixed (by kernel_rfl) ?_
   intro w5 hs6
   have sK := Stp.same hO hs6
   replace hO := sK.own
   refine GoQ.pure rfl (op_move rfl) rfl rfl ?_
   refine GoQ.pure rfl (op_move rfl) rfl rfl ?_
   obtain ⟨h8, H⟩ := H
   obtain ⟨h9, H⟩ := H
   replace h_a := h_a.ch sK.ch
   refine GoQ.pure rfl (op_index Try.underlying22 ti26 rfl rfl h8 h9 (h_a.some_ h8 h9)) rfl rfl ?_
   have hobt := ldSl h_a h8 h9
   obtain ⟨p10, c11, Hp, Kn⟩ := hobt
   refine GoQ.stable rfl (Kn Try.underlying26 rfl rfl) rfl rfl ?_
   refine GoQ.pure rfl (op_move rfl) rfl rfl ?_
   refine GoQ.pure rfl (op_move rfl) rfl rfl ?_
   obtain ⟨h14, H⟩ := H
   obtain ⟨h15, H⟩ := H
   replace h_b := h_b.ch sK.ch
   refine GoQ.pure rfl (op_index Try.underlying22 ti26 rfl rfl h14 h15 (h_b.some_ h14 h15)) rfl rfl ?_
   have hobt := ldSl h_b h14 h15
   obtain ⟨p16, c17, xC, abF⟩ := hobt
   refine GoQ.stable rfl (abF Try.underlying26 rfl rfl) rfl rfl ?_
   refine GoQ.call rfl (op_call body34 rfl (walk_ref03_Same hO.lt Hp xC H)) (fun v w hr => by obtain ⟨_, _, hs, _⟩ := hr; assumption) rfl rfl ?_
   rintro v24 w21 ⟨r20, rfl, abG, H⟩
   have uA := Stp.same hO abG
   replace hO := uA.own
   cases r20
   ·replace H := ifn Bool.false_ne_true H
    refine GoQ.pure rfl (op_not rfl) rfl rfl ?_
    refine GoQ.nil ?_
    refine zt rfl rfl (zq (zr (za rfl (zn ?_))))
    refine Go1.ret1 Try.func45 rfl ?_
    replace hB := (hB.trans sK.fr).trans uA.fr
    exact ⟨false, rfl, hB.same, H⟩
   replace H := ifp rfl H
   refine GoQ.pure rfl (op_not rfl) rfl rfl ?_
   refine GoQ.nil ?_
   refine zf rfl rfl (zk ?_)
   refine Go1.inBlock ?_
   refine zr ?_
   replace h_a := h_a.ch uA.ch
   refine zo (op_add rfl rfl (wrap_i64 (natbd h4 h_a.bd))) (zm rfl (zn ?_))
   replace h_b := h_b.ch uA.ch
   replace hB := (hB.trans sK.fr).trans uA.fr
   exact hX1 _ H _ _ ⟨⟨rfl, rfl, rfl, rfl, trivial⟩, hO, h_a, h_b, hB⟩
  replace H := ifn h4 H
  refine zo (fun w => opB (op_lss rfl rfl w) (decide_eq_false h4)) (zn (zq (zf rfl rfl ?_)))
  refine Go1.exit rfl ?_
  refine zq (zr (za rfl (zn ?_)))
  refine Go1.ret1 Try.func45 rfl ?_
  exact ⟨true, rfl, hB.same, H⟩
 replace H := ifn h1 H
 refine zo (fun w => opB (op_neq rfl rfl w) (ndF h1)) (zn (zt rfl rfl (zq ?_)))
 refine Go1.cut [] trivial ?_
 intro σ _
 refine zr (za rfl (zn ?_))
 refine Go1.ret1 Try.func45 rfl ?_
 exact ⟨false, rfl, hB.same, H⟩
end Sg
