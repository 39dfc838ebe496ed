/- The walks: each call keeps to its plain transformer. Printed by walkgen.py. -/
import Derived.Test.YtjegjjdfgefkoaaTi
import Derived.Test.YtjegjjdfgefkoaaWEnumerateBuildsc
import Derived.Test.YtjegjjdfgefkoaaWEnumerateBuildsd
import Derived.Test.YtjegjjdfgefkoaaAl
namespace Sg
open Go Go.RowKit Go.Proofs
set_option linter.unusedVariables false
set_option linter.unusedSimpArgs false
set_option maxRecDepth 100000
set_option maxHeartbeats 4000000
theorem body52 : Body Try.prog 52 := ⟨Try.f52, Try.func52, rfl, by kernel_rfl⟩
theorem walk_ref12_process {A : List Nat} {w0 : World} {aH : Option Addr} {aI : Nat} {bX : Option Addr} {bY : Nat} {bx : Option Addr} {bz : Nat} {cO : Option Addr} {cP : Nat} {b5 : Option Addr} {b6 : Nat} {b7 : Option Addr} {b8 : Nat} {a0 : Enum} {a1 : Int} (hA : ∀ b ∈ A, b < w0.heap.size) (aa : ISl (Rp.sl (Rp.int .i64)) A w0 aH aI a0.Gens) (ar : ISl (Rp.sl (Rp.int .i64)) A w0 bX bY a0.Elems) (ak : ISl (Rp.int .i64) A w0 bx bz a0.Prefix) (aB : ISl (Rp.int .i64) A w0 cO cP a0.Last) (au : ISl (Rp.sl (Rp.int .i64)) A w0 b5 b6 a0.Right) (ao : ISl (rpRule) A w0 b7 b8 a0.Rules) {K : Enum → Int → Prop} (H : ref12_process a0 a1 K) :
    CallsV Try.prog 52 #[.agg #[.int .i64 a0.Points, .bool a0.Monoid, .slice aH a0.Gens.length aI, .slice bX a0.Elems.length bY, .slice bx a0.Prefix.length bz, .slice cO a0.Last.length cP, .slice b5 a0.Right.length b6, .slice b7 a0.Rules.length b8, .int .i64 a0.Done], .int .i64 a1] w0 (fun v w' => ∃ (r0 : Enum), ∃ (r1 : Int), ∃ (qf : Option Addr), ∃ (qg : Nat), ∃ (oq : Option Addr), ∃ (ot : Nat), ∃ (mo : Option Addr), ∃ (mp : Nat), ∃ (qh : Option Addr), ∃ (qi : Nat), ∃ (ou : Option Addr), ∃ (ov : Nat), ∃ (ow : Option Addr), ∃ (oA : Nat), v = .tuple #[.agg #[.int .i64 r0.Points, .bool r0.Monoid, .slice qf r0.Gens.length qg, .slice oq r0.Elems.length ot, .slice mo r0.Prefix.length mp, .slice qh r0.Last.length qi, .slice ou r0.Right.length ov, .slice ow r0.Rules.length oA, .int .i64 r0.Done], .int .i64 r1] ∧ Same w0 w' ∧ ISl (Rp.sl (Rp.int .i64)) A w' qf qg r0.Gens ∧ ISl (Rp.sl (Rp.int .i64)) A w' oq ot r0.Elems ∧ ISl (Rp.int .i64) A w' mo mp r0.Prefix ∧ ISl (Rp.int .i64) A w' qh qi r0.Last ∧ ISl (Rp.sl (Rp.int .i64)) A w' ou ov r0.Right ∧ ISl (rpRule) A w' ow oA r0.Rules ∧ K r0 r1) := by
 refine CallsV.of (l := [.agg #[.int .i64 a0.Points, .bool a0.Monoid, .slice aH a0.Gens.length aI, .slice bX a0.Elems.length bY, .slice bx a0.Prefix.length bz, .slice cO a0.Last.length cP, .slice b5 a0.Right.length b6, .slice b7 a0.Rules.length b8, .int .i64 a0.Done], .int .i64 a1]) Try.func52 rfl Try.ntmps52 rfl ?_
 have hO := Owns.start hA
 have hB := Fr.refl (bl []) w0
 unfold ref12_process at H
 refine zq (zr ?_)
 have hobt := obox (t := 29) (v := .agg #[.int .i64 a0.Points, .bool a0.Monoid, .slice aH a0.Gens.length aI, .slice bX a0.Elems.length bY, .slice bx a0.Prefix.length bz, .slice cO a0.Last.length cP, .slice b5 a0.Right.length b6, .slice b7 a0.Rules.length b8, .int .i64 a0.Done]) (cs := #[.int .i64 a0.Points, .bool a0.Monoid, .slice aH a0.Gens.length aI, .slice bX a0.Elems.length bY, .slice bx a0.Prefix.length bz, .slice cO a0.Last.length cP, .slice b5 a0.Right.length b6, .slice b7 a0.Rules.length b8, .int .i64 a0.Done]) hO rfl
 obtain ⟨w1, B2, d7, hs4, qE⟩ := hobt
 refine zg (qE rfl) ?_
 replace hO := d7.own
 have hobt := oalloc (t := 29) (cs := #[.int .i64 (0 : Int), .bool false, .slice none 0 0, .slice none 0 0, .slice none 0 0, .slice none 0 0, .slice none 0 0, .slice none 0 0, .int .i64 (0 : Int)]) ti29 hO rfl
 obtain ⟨w7, B8, lm, Fh, Bu⟩ := hobt
 refine GoR.op Bu rfl rfl ?_
 replace hO := lm.own
 refine za rfl (zn (zq ?_))
 refine Go1.drawA (CSv.tr [(some ⟨B2, 0, none⟩), (some ⟨B2, 1, none⟩), (some ⟨B2, 2, none⟩), (some ⟨B2, 3, none⟩), (some ⟨B2, 4, none⟩), (some ⟨B2, 5, none⟩), (some ⟨B2, 6, none⟩), (some ⟨B2, 7, none⟩), (some ⟨B2, 8, none⟩)]) A 1 [(0, .pure), (1, .stable), (2, .pure), (3, .stable), (4, .pure), (5, .stable), (7, .pure), (8, .stable), (11, .pure), (12, .stable), (15, .pure), (16, .stable), (19, .pure), (20, .stable), (23, .pure), (24, .stable), (26, .pure), (27, .stable), (6, .alloc), (9, .loud), (10, .alloc), (13, .loud), (14, .alloc), (17, .loud), (18, .alloc), (21, .loud), (22, .alloc), (25, .loud), (28, .pure), (29, .alloc), (30, .last)] mixed (by kernel_rfl) trivial hO.bd ?_
 intro w13 HE
 have rS := Stp.same hO HE
 replace hO := rS.own
 have ED := hO.le
 replace hB := ((hB.trans d7.fr).trans lm.fr).trans rS.fr
 have hw16 := hB.ch.size
 refine GoQA.pure rfl (op_fieldAddr Try.underlying29 rfl ti3 rfl (by decide)) rfl rfl ?_
 refine GoQA.stable rfl (loadV (.head _) rfl (blkCell 1 hO rfl rfl) Try.underlying3 rfl rfl) rfl rfl ?_
 refine GoQA.pure rfl (op_fieldAddr Try.underlying29 rfl ti4 rfl (by decide)) rfl rfl ?_
 refine GoQA.stable rfl (loadV (.tail _ (.head _)) rfl (blkCell 1 hO rfl rfl) Try.underlying4 rfl rfl) rfl rfl ?_
 refine GoQA.pure rfl (op_fieldAddr Try.underlying29 rfl ti22 rfl (by decide)) rfl rfl ?_
 refine GoQA.stable rfl (loadV (.tail _ (.tail _ (.head _))) rfl (blkCell 1 hO rfl rfl) Try.underlying22 rfl rfl) rfl rfl ?_
 refine GoQA.pure rfl (op_fieldAddr Try.underlying29 rfl ti22 rfl (by decide)) rfl rfl ?_
 refine GoQA.stable rfl (loadV (.tail _ (.tail _ (.tail _ (.head _)))) rfl (blkCell 1 hO rfl rfl) Try.underlying22 rfl rfl) rfl rfl ?_
 refine GoQA.pure rfl (op_fieldAddr Try.underlying29 rfl ti26 rfl (by decide)) rfl rfl ?_
 refine GoQA.stable rfl (loadV (.tail _ (.tail _ (.tail _ (.tail _ (.head _))))) rfl (blkCell 1 hO rfl rfl) Try.underlying26 rfl rfl) rfl rfl ?_
 refine GoQA.pure rfl (op_fieldAddr Try.underlying29 rfl ti26 rfl (by decide)) rfl rfl ?_
 refine GoQA.stable rfl (loadV (.tail _ (.tail _ (.tail _ (.tail _ (.tail _ (.head _)))))) rfl (blkCell 1 hO rfl rfl) Try.underlying26 rfl rfl) rfl rfl ?_
 refine GoQA.pure rfl (op_fieldAddr Try.underlying29 rfl ti22 rfl (by decide)) rfl rfl ?_
 refine GoQA.stable rfl (loadV (.tail _ (.tail _ (.tail _ (.tail _ (.tail _ (.tail _ (.head _))))))) rfl (blkCell 1 hO rfl rfl) Try.underlying22 rfl rfl) rfl rfl ?_
 refine GoQA.pure rfl (op_fieldAddr Try.underlying29 rfl ti27 rfl (by decide)) rfl rfl ?_
 refine GoQA.stable rfl (loadV (.tail _ (.tail _ (.tail _ (.tail _ (.tail _ (.tail _ (.tail _ (.head _)))))))) rfl (blkCell 1 hO rfl rfl) Try.underlying27 rfl rfl) rfl rfl ?_
 refine GoQA.pure rfl (op_fieldAddr Try.underlying29 rfl ti3 rfl (by decide)) rfl rfl ?_
 refine GoQA.stable rfl (loadV (.tail _ (.tail _ (.tail _ (.tail _ (.tail _ (.tail _ (.tail _ (.tail _ (.head _))))))))) rfl (blkCell 1 hO rfl rfl) Try.underlying3 rfl rfl) rfl rfl ?_
 refine GoQA.alloc rfl rfl (alBuild (n := 0) (parts := []) (vs := []) Try.underlying22 ti26 (by decide) (by decide) (by decide) (by kernel_rfl) rfl rfl) ?_
 intro w19 A20 b21 A22 CP ML hd25 hnb26 hh27
 replace hO := CP.own hO
 have AV : Els (Rp.sl (Rp.int .i64)) (bl [.blk B8 (.cells #[.int .i64 (0 : Int), .bool false, .slice none 0 0, .slice none 0 0, .slice none 0 0, .slice none 0 0, .slice none 0 0, .slice none 0 0, .int .i64 (0 : Int)] 29 (0, 0)), .blk B2 (.cells #[.int .i64 a0.Points, .bool a0.Monoid, .slice aH a0.Gens.length aI, .slice bX a0.Elems.length bY, .slice bx a0.Prefix.length bz, .slice cO a0.Last.length cP, .slice b5 a0.Right.length b6, .slice b7 a0.Rules.length b8, .int .i64 a0.Done] 29 (0, 0))] ++ A20) w19 [] (([] : List (List Int))) := (Els.nil _ _ _)
 have Cv := gainCh (w := w19) (E := [.blk B8 (.cells #[.int .i64 (0 : Int), .bool false, .slice none 0 0, .slice none 0 0, .slice none 0 0, .slice none 0 0, .slice none 0 0, .slice none 0 0, .int .i64 (0 : Int)] 29 (0, 0)), .blk B2 (.cells #[.int .i64 a0.Points, .bool a0.Monoid, .slice aH a0.Gens.length aI, .slice bX a0.Elems.length bY, .slice bx a0.Prefix.length bz, .slice cO a0.Last.length cP, .slice b5 a0.Right.length b6, .slice b7 a0.Rules.length b8, .int .i64 a0.Done] 29 (0, 0))]) (e := .row 26 1 (some ⟨b21, 0, none⟩) 0 0 []) ML rfl
 replace hB := hB.trans (CP.same.fr _)
 replace hB := Fr.gain (e := .row 26 1 (some ⟨b21, 0, none⟩) 0 0 []) hB (Nat.le_trans hw16 hnb26) rfl
 replace hO := Owns.gain hO ML ED rfl hh27 hd25
 refine GoQA.loudI rfl rfl ?_
 intro w30 A31 BQ
 replace hO := BQ.own hO
 obtain ⟨h33, H⟩ := H
 replace AV := (AV.ch Cv).ch (BQ.ch _)
 have Z1 := ((((((Ch.start A w0).trans d7.ch).trans lm.ch).trans rS.ch).trans (CP.ch _)).trans Cv).trans (BQ.ch _)
 replace ar := ar.ch Z1
 have hobt := oapp Try.underlying22 ti26 rfl 0 hO rfl AV ar rfl h33 (by decide)
 obtain ⟨w34, p35, c36, rs, lx, gw, D4⟩ := hobt
 refine GoAt.step (D4 (by exact rfl) (by exact rfl)) (fun _ => (CSv.cons (cs_eq (blkCell 2 hO rfl rfl) (blkCell 2 lx.own rfl rfl)) (CSv.cons (cs_eq (blkCell 2 hO rfl rfl) (blkCell 2 lx.own rfl rfl)) (CSv.cons (cs_eq (blkCell 2 hO rfl rfl) (blkCell 2 lx.own rfl rfl)) (CSv.cons (cs_eq (blkCell 2 hO rfl rfl) (blkCell 2 lx.own rfl rfl)) (CSv.cons (cs_eq (blkCell 2 hO rfl rfl) (blkCell 2 lx.own rfl rfl)) (CSv.cons (cs_eq (blkCell 2 hO rfl rfl) (blkCell 2 lx.own rfl rfl)) (CSv.cons (cs_eq (blkCell 2 hO rfl rfl) (blkCell 2 lx.own rfl rfl)) (CSv.cons (cs_eq (blkCell 2 hO rfl rfl) (blkCell 2 lx.own rfl rfl)) (CSv.cons (cs_eq (blkCell 2 hO rfl rfl) (blkCell 2 lx.own rfl rfl)) (CSv.nil _ _))))))))))) (Stp.kp hO lx) rfl ?_
 replace hO := lx.own
 refine GoQA.alloc rfl rfl (alBuild (n := 0) (parts := []) (vs := []) Try.underlying26 ti3 (by decide) (by decide) (by decide) (by kernel_rfl) rfl rfl) ?_
 intro w43 A44 b45 A46 BR MM hd49 hnb50 hh51
 replace hO := BR.own hO
 have FM : Els (Rp.int .i64) (bl [.row 26 1 p35 (0 + a0.Elems.length) c36 rs, .blk B8 (.cells #[.int .i64 (0 : Int), .bool false, .slice none 0 0, .slice none 0 0, .slice none 0 0, .slice none 0 0, .slice none 0 0, .slice none 0 0, .int .i64 (0 : Int)] 29 (0, 0)), .blk B2 (.cells #[.int .i64 a0.Points, .bool a0.Monoid, .slice aH a0.Gens.length aI, .slice bX a0.Elems.length bY, .slice bx a0.Prefix.length bz, .slice cO a0.Last.length cP, .slice b5 a0.Right.length b6, .slice b7 a0.Rules.length b8, .int .i64 a0.Done] 29 (0, 0))] ++ A44) w43 [] (([] : List Int)) := (Els.nil _ _ _)
 have CQ := gainCh (w := w43) (E := [.row 26 1 p35 (0 + a0.Elems.length) c36 rs, .blk B8 (.cells #[.int .i64 (0 : Int), .bool false, .slice none 0 0, .slice none 0 0, .slice none 0 0, .slice none 0 0, .slice none 0 0, .slice none 0 0, .int .i64 (0 : Int)] 29 (0, 0)), .blk B2 (.cells #[.int .i64 a0.Points, .bool a0.Monoid, .slice aH a0.Gens.length aI, .slice bX a0.Elems.length bY, .slice bx a0.Prefix.length bz, .slice cO a0.Last.length cP, .slice b5 a0.Right.length b6, .slice b7 a0.Rules.length b8, .int .i64 a0.Done] 29 (0, 0))]) (e := .row 3 1 (some ⟨b45, 0, none⟩) 0 0 []) MM rfl
 replace hB := ((hB.trans (BQ.same.fr _)).trans lx.fr).trans (BR.same.fr _)
 replace hB := Fr.gain (e := .row 3 1 (some ⟨b45, 0, none⟩) 0 0 []) hB (Nat.le_trans hw16 hnb50) rfl
 replace hO := Owns.gain hO MM ED rfl hh51 hd49
 refine GoQA.loudI rfl rfl ?_
 intro w54 A55 AY
 replace hO := AY.own hO
 obtain ⟨h57, H⟩ := H
 replace FM := (FM.ch CQ).ch (AY.ch _)
 have Z2 := (((Z1.trans lx.ch).trans (BR.ch _)).trans CQ).trans (AY.ch _)
 replace ak := ak.ch Z2
 have hobt := oapp Try.underlying26 ti3 rfl 0 hO rfl FM ak rfl h57 (by decide)
 obtain ⟨w58, p59, c60, uq, rf, gu, Q6⟩ := hobt
 refine GoAt.step (Q6 (by exact rfl) (by exact rfl)) (fun _ => (CSv.cons (cs_eq (blkCell 3 hO rfl rfl) (blkCell 3 rf.own rfl rfl)) (CSv.cons (cs_eq (blkCell 3 hO rfl rfl) (blkCell 3 rf.own rfl rfl)) (CSv.cons (cs_eq (blkCell 3 hO rfl rfl) (blkCell 3 rf.own rfl rfl)) (CSv.cons (cs_eq (blkCell 3 hO rfl rfl) (blkCell 3 rf.own rfl rfl)) (CSv.cons (cs_eq (blkCell 3 hO rfl rfl) (blkCell 3 rf.own rfl rfl)) (CSv.cons (cs_eq (blkCell 3 hO rfl rfl) (blkCell 3 rf.own rfl rfl)) (CSv.cons (cs_eq (blkCell 3 hO rfl rfl) (blkCell 3 rf.own rfl rfl)) (CSv.cons (cs_eq (blkCell 3 hO rfl rfl) (blkCell 3 rf.own rfl rfl)) (CSv.cons (cs_eq (blkCell 3 hO rfl rfl) (blkCell 3 rf.own rfl rfl)) (CSv.nil _ _))))))))))) (Stp.kp hO rf) rfl ?_
 replace hO := rf.own
 refine GoQA.alloc rfl rfl (alBuild (n := 0) (parts := []) (vs := []) Try.underlying26 ti3 (by decide) (by decide) (by decide) (by kernel_rfl) rfl rfl) ?_
 intro w67 A68 b69 A70 A4 MN hd73 hnb74 hh75
 replace hO := A4.own hO
 have FN : Els (Rp.int .i64) (bl [.row 3 1 p59 (0 + a0.Prefix.length) c60 uq, .row 26 1 p35 (0 + a0.Elems.length) c36 rs, .blk B8 (.cells #[.int .i64 (0 : Int), .bool false, .slice none 0 0, .slice none 0 0, .slice none 0 0, .slice none 0 0, .slice none 0 0, .slice none 0 0, .int .i64 (0 : Int)] 29 (0, 0)), .blk B2 (.cells #[.int .i64 a0.Points, .bool a0.Monoid, .slice aH a0.Gens.length aI, .slice bX a0.Elems.length bY, .slice bx a0.Prefix.length bz, .slice cO a0.Last.length cP, .slice b5 a0.Right.length b6, .slice b7 a0.Rules.length b8, .int .i64 a0.Done] 29 (0, 0))] ++ A68) w67 [] (([] : List Int)) := (Els.nil _ _ _)
 have BS := gainCh (w := w67) (E := [.row 3 1 p59 (0 + a0.Prefix.length) c60 uq, .row 26 1 p35 (0 + a0.Elems.length) c36 rs, .blk B8 (.cells #[.int .i64 (0 : Int), .bool false, .slice none 0 0, .slice none 0 0, .slice none 0 0, .slice none 0 0, .slice none 0 0, .slice none 0 0, .int .i64 (0 : Int)] 29 (0, 0)), .blk B2 (.cells #[.int .i64 a0.Points, .bool a0.Monoid, .slice aH a0.Gens.length aI, .slice bX a0.Elems.length bY, .slice bx a0.Prefix.length bz, .slice cO a0.Last.length cP, .slice b5 a0.Right.length b6, .slice b7 a0.Rules.length b8, .int .i64 a0.Done] 29 (0, 0))]) (e := .row 3 1 (some ⟨b69, 0, none⟩) 0 0 []) MN rfl
 replace hB := ((hB.trans (AY.same.fr _)).trans rf.fr).trans (A4.same.fr _)
 replace hB := Fr.gain (e := .row 3 1 (some ⟨b69, 0, none⟩) 0 0 []) hB (Nat.le_trans hw16 hnb74) rfl
 replace hO := Owns.gain hO MN ED rfl hh75 hd73
 refine GoQA.loudI rfl rfl ?_
 intro w78 A79 z9
 replace hO := z9.own hO
 obtain ⟨h81, H⟩ := H
 replace FN := (FN.ch BS).ch (z9.ch _)
 have Z3 := (((Z2.trans rf.ch).trans (A4.ch _)).trans BS).trans (z9.ch _)
 replace aB := aB.ch Z3
 have hobt := oapp Try.underlying26 ti3 rfl 0 hO rfl FN aB rfl h81 (by decide)
 obtain ⟨w82, p83, c84, v3, ii, gB, Q7⟩ := hobt
 dsimp only [sS, sZ] at ii gB
 refine GoAt.step (Q7 (by exact rfl) (by exact rfl)) (fun _ => (CSv.cons (cs_eq (blkCell 4 hO rfl rfl) (blkCell 4 ii.own rfl rfl)) (CSv.cons (cs_eq (blkCell 4 hO rfl rfl) (blkCell 4 ii.own rfl rfl)) (CSv.cons (cs_eq (blkCell 4 hO rfl rfl) (blkCell 4 ii.own rfl rfl)) (CSv.cons (cs_eq (blkCell 4 hO rfl rfl) (blkCell 4 ii.own rfl rfl)) (CSv.cons (cs_eq (blkCell 4 hO rfl rfl) (blkCell 4 ii.own rfl rfl)) (CSv.cons (cs_eq (blkCell 4 hO rfl rfl) (blkCell 4 ii.own rfl rfl)) (CSv.cons (cs_eq (blkCell 4 hO rfl rfl) (blkCell 4 ii.own rfl rfl)) (CSv.cons (cs_eq (blkCell 4 hO rfl rfl) (blkCell 4 ii.own rfl rfl)) (CSv.cons (cs_eq (blkCell 4 hO rfl rfl) (blkCell 4 ii.own rfl rfl)) (CSv.nil _ _))))))))))) (Stp.kp hO ii) rfl ?_
 replace hO := ii.own
 refine GoQA.alloc rfl rfl (alBuild (n := 0) (parts := []) (vs := []) Try.underlying22 ti26 (by decide) (by decide) (by decide) (by kernel_rfl) rfl rfl) ?_
 intro w91 A92 b93 A94 Aa MO hd97 hnb98 hh99
 replace hO := Aa.own hO
 have Eb : Els (Rp.sl (Rp.int .i64)) (bl [.row 3 1 p83 (0 + a0.Last.length) c84 v3, .row 3 1 p59 (0 + a0.Prefix.length) c60 uq, .row 26 1 p35 (0 + a0.Elems.length) c36 rs, .blk B8 (.cells #[.int .i64 (0 : Int), .bool false, .slice none 0 0, .slice none 0 0, .slice none 0 0, .slice none 0 0, .slice none 0 0, .slice none 0 0, .int .i64 (0 : Int)] 29 (0, 0)), .blk B2 (.cells #[.int .i64 a0.Points, .bool a0.Monoid, .slice aH a0.Gens.length aI, .slice bX a0.Elems.length bY, .slice bx a0.Prefix.length bz, .slice cO a0.Last.length cP, .slice b5 a0.Right.length b6, .slice b7 a0.Rules.length b8, .int .i64 a0.Done] 29 (0, 0))] ++ A92) w91 [] (([] : List (List Int))) := (Els.nil _ _ _)
 have sG := gainCh (w := w91) (E := [.row 3 1 p83 (0 + a0.Last.length) c84 v3, .row 3 1 p59 (0 + a0.Prefix.length) c60 uq, .row 26 1 p35 (0 + a0.Elems.length) c36 rs, .blk B8 (.cells #[.int .i64 (0 : Int), .bool false, .slice none 0 0, .slice none 0 0, .slice none 0 0, .slice none 0 0, .slice none 0 0, .slice none 0 0, .int .i64 (0 : Int)] 29 (0, 0)), .blk B2 (.cells #[.int .i64 a0.Points, .bool a0.Monoid, .slice aH a0.Gens.length aI, .slice bX a0.Elems.length bY, .slice bx a0.Prefix.length bz, .slice cO a0.Last.length cP, .slice b5 a0.Right.length b6, .slice b7 a0.Rules.length b8, .int .i64 a0.Done] 29 (0, 0))]) (e := .row 26 1 (some ⟨b93, 0, none⟩) 0 0 []) MO rfl
 replace hB := ((hB.trans (z9.same.fr _)).trans ii.fr).trans (Aa.same.fr _)
 replace hB := Fr.gain (e := .row 26 1 (some ⟨b93, 0, none⟩) 0 0 []) hB (Nat.le_trans hw16 hnb98) rfl
 replace hO := Owns.gain hO MO ED rfl hh99 hd97
 refine GoQA.loudI rfl rfl ?_
 intro Sm A103 xj
 replace hO := xj.own hO
 obtain ⟨vc, H⟩ := H
 replace Eb := (Eb.ch sG).ch (xj.ch _)
 have Z4 := (((Z3.trans ii.ch).trans (Aa.ch _)).trans sG).trans (xj.ch _)
 replace au := au.ch Z4
 have hobt := oapp Try.underlying22 ti26 rfl 0 hO rfl Eb au rfl vc (by decide)
 obtain ⟨aa5, na, nb, ur, mb, iu, MP⟩ := hobt
 dsimp only [sS, sZ] at mb iu
 refine GoAt.step (MP (by exact rfl) (by exact rfl)) (fun _ => (CSv.cons (cs_eq (blkCell 5 hO rfl rfl) (blkCell 5 mb.own rfl rfl)) (CSv.cons (cs_eq (blkCell 5 hO rfl rfl) (blkCell 5 mb.own rfl rfl)) (CSv.cons (cs_eq (blkCell 5 hO rfl rfl) (blkCell 5 mb.own rfl rfl)) (CSv.cons (cs_eq (blkCell 5 hO rfl rfl) (blkCell 5 mb.own rfl rfl)) (CSv.cons (cs_eq (blkCell 5 hO rfl rfl) (blkCell 5 mb.own rfl rfl)) (CSv.cons (cs_eq (blkCell 5 hO rfl rfl) (blkCell 5 mb.own rfl rfl)) (CSv.cons (cs_eq (blkCell 5 hO rfl rfl) (blkCell 5 mb.own rfl rfl)) (CSv.cons (cs_eq (blkCell 5 hO rfl rfl) (blkCell 5 mb.own rfl rfl)) (CSv.cons (cs_eq (blkCell 5 hO rfl rfl) (blkCell 5 mb.own rfl rfl)) (CSv.nil _ _))))))))))) (Stp.kp hO mb) rfl ?_
 replace hO := mb.own
 refine GoQA.alloc rfl rfl (alBuild (n := 0) (parts := []) (vs := []) Try.underlying27 ti39 (by decide) (by decide) (by decide) (by kernel_rfl) rfl rfl) ?_
 intro MQ A116 MR A118 xk JA hd121 hnb122 hh123
 replace hO := xk.own hO
 have Ec : Els (rpRule) (bl [.row 26 1 na (0 + a0.Right.length) nb ur, .row 3 1 p83 (0 + a0.Last.length) c84 v3, .row 3 1 p59 (0 + a0.Prefix.length) c60 uq, .row 26 1 p35 (0 + a0.Elems.length) c36 rs, .blk B8 (.cells #[.int .i64 (0 : Int), .bool false, .slice none 0 0, .slice none 0 0, .slice none 0 0, .slice none 0 0, .slice none 0 0, .slice none 0 0, .int .i64 (0 : Int)] 29 (0, 0)), .blk B2 (.cells #[.int .i64 a0.Points, .bool a0.Monoid, .slice aH a0.Gens.length aI, .slice bX a0.Elems.length bY, .slice bx a0.Prefix.length bz, .slice cO a0.Last.length cP, .slice b5 a0.Right.length b6, .slice b7 a0.Rules.length b8, .int .i64 a0.Done] 29 (0, 0))] ++ A116) MQ [] (([] : List Rule)) := (Els.nil _ _ _)
 have xW := gainCh (w := MQ) (E := [.row 26 1 na (0 + a0.Right.length) nb ur, .row 3 1 p83 (0 + a0.Last.length) c84 v3, .row 3 1 p59 (0 + a0.Prefix.length) c60 uq, .row 26 1 p35 (0 + a0.Elems.length) c36 rs, .blk B8 (.cells #[.int .i64 (0 : Int), .bool false, .slice none 0 0, .slice none 0 0, .slice none 0 0, .slice none 0 0, .slice none 0 0, .slice none 0 0, .int .i64 (0 : Int)] 29 (0, 0)), .blk B2 (.cells #[.int .i64 a0.Points, .bool a0.Monoid, .slice aH a0.Gens.length aI, .slice bX a0.Elems.length bY, .slice bx a0.Prefix.length bz, .slice cO a0.Last.length cP, .slice b5 a0.Right.length b6, .slice b7 a0.Rules.length b8, .int .i64 a0.Done] 29 (0, 0))]) (e := .row 39 2 (some ⟨MR, 0, none⟩) 0 0 []) JA rfl
 replace hB := ((hB.trans (xj.same.fr _)).trans mb.fr).trans (xk.same.fr _)
 replace hB := Fr.gain (e := .row 39 2 (some ⟨MR, 0, none⟩) 0 0 []) hB (Nat.le_trans hw16 hnb122) rfl
 replace hO := Owns.gain hO JA ED rfl hh123 hd121
 refine GoQA.loudI rfl rfl ?_
 intro Ud A127 wi
 replace hO := wi.own hO
 obtain ⟨Dr, H⟩ := H
 replace Ec := (Ec.ch xW).ch (wi.ch _)
 have Z5 := (((Z4.trans mb.ch).trans (xk.ch _)).trans xW).trans (wi.ch _)
 replace ao := ao.ch Z5
 have hobt := oapp Try.underlying27 ti39 rfl 0 hO rfl Ec ao rfl Dr (by decide)
 obtain ⟨Tu, lR, lT, uk, gX, iw, FA⟩ := hobt
 dsimp only [sS, sZ] at gX iw
 refine GoAt.step (FA (by exact rfl) (by exact rfl)) (fun _ => (CSv.cons (cs_eq (blkCell 6 hO rfl rfl) (blkCell 6 gX.own rfl rfl)) (CSv.cons (cs_eq (blkCell 6 hO rfl rfl) (blkCell 6 gX.own rfl rfl)) (CSv.cons (cs_eq (blkCell 6 hO rfl rfl) (blkCell 6 gX.own rfl rfl)) (CSv.cons (cs_eq (blkCell 6 hO rfl rfl) (blkCell 6 gX.own rfl rfl)) (CSv.cons (cs_eq (blkCell 6 hO rfl rfl) (blkCell 6 gX.own rfl rfl)) (CSv.cons (cs_eq (blkCell 6 hO rfl rfl) (blkCell 6 gX.own rfl rfl)) (CSv.cons (cs_eq (blkCell 6 hO rfl rfl) (blkCell 6 gX.own rfl rfl)) (CSv.cons (cs_eq (blkCell 6 hO rfl rfl) (blkCell 6 gX.own rfl rfl)) (CSv.cons (cs_eq (blkCell 6 hO rfl rfl) (blkCell 6 gX.own rfl rfl)) (CSv.nil _ _))))))))))) (Stp.kp hO gX) rfl ?_
 replace hO := gX.own
 refine GoQA.pure rfl (op_build Try.underlying29 ti29 (pl := [(0, 1), (1, 1), (2, 1), (3, 1), (4, 1), (5, 1), (6, 1), (7, 1), (8, 1)]) (vs := [(0, .int .i64 a0.Points), (1, .bool a0.Monoid), (2, .slice aH a0.Gens.length aI), (3, .slice p35 (0 + a0.Elems.length) c36), (4, .slice p59 (0 + a0.Prefix.length) c60), (5, .slice p83 (0 + a0.Last.length) c84), (6, .slice na (0 + a0.Right.length) nb), (7, .slice lR (0 + a0.Rules.length) lT), (8, .int .i64 a0.Done)]) (cs := #[.int .i64 a0.Points, .bool a0.Monoid, .slice aH a0.Gens.length aI, .slice p35 (0 + a0.Elems.length) c36, .slice p59 (0 + a0.Prefix.length) c60, .slice p83 (0 + a0.Last.length) c84, .slice na (0 + a0.Right.length) nb, .slice lR (0 + a0.Rules.length) lT, .int .i64 a0.Done]) (by kernel_rfl) rfl (by kernel_rfl)) rfl rfl ?_
 refine GoQA.alloc rfl rfl (alAlloc (cs := #[.int .i64 (0 : Int), .bool false, .slice none 0 0, .slice none 0 0, .slice none 0 0, .slice none 0 0, .slice none 0 0, .slice none 0 0, .int .i64 (0 : Int)]) ti29 rfl) ?_
 intro JX A140 ig A142 wj JB hd145 hnb146 hh147
 replace hO := wj.own hO
 have xX := gainCh (w := JX) (E := [.row 39 2 lR (0 + a0.Rules.length) lT uk, .row 26 1 na (0 + a0.Right.length) nb ur, .row 3 1 p83 (0 + a0.Last.length) c84 v3, .row 3 1 p59 (0 + a0.Prefix.length) c60 uq, .row 26 1 p35 (0 + a0.Elems.length) c36 rs, .blk B8 (.cells #[.int .i64 (0 : Int), .bool false, .slice none 0 0, .slice none 0 0, .slice none 0 0, .slice none 0 0, .slice none 0 0, .slice none 0 0, .int .i64 (0 : Int)] 29 (0, 0)), .blk B2 (.cells #[.int .i64 a0.Points, .bool a0.Monoid, .slice aH a0.Gens.length aI, .slice bX a0.Elems.length bY, .slice bx a0.Prefix.length bz, .slice cO a0.Last.length cP, .slice b5 a0.Right.length b6, .slice b7 a0.Rules.length b8, .int .i64 a0.Done] 29 (0, 0))]) (e := .blk ig (.cells #[.int .i64 (0 : Int), .bool false, .slice none 0 0, .slice none 0 0, .slice none 0 0, .slice none 0 0, .slice none 0 0, .slice none 0 0, .int .i64 (0 : Int)] 29 (0, 0))) JB rfl
 replace hB := ((hB.trans (wi.same.fr _)).trans gX.fr).trans (wj.same.fr _)
 replace hB := Fr.gain (e := .blk ig (.cells #[.int .i64 (0 : Int), .bool false, .slice none 0 0, .slice none 0 0, .slice none 0 0, .slice none 0 0, .slice none 0 0, .slice none 0 0, .int .i64 (0 : Int)] 29 (0, 0))) hB (Nat.le_trans hw16 hnb146) rfl
 replace hO := Owns.gain hO JB ED rfl hh147 hd145
 refine GoQA.lastI rfl rfl ?_
 intro aa6 A150 wk
 replace hO := wk.own hO
 have hobt := oblkStAgg (us := [.int .i64 a0.Points, .bool a0.Monoid, .slice aH a0.Gens.length aI, .slice p35 (0 + a0.Elems.length) c36, .slice p59 (0 + a0.Prefix.length) c60, .slice p83 (0 + a0.Last.length) c84, .slice na (0 + a0.Right.length) nb, .slice lR (0 + a0.Rules.length) lT, .int .i64 a0.Done]) (o := 0) (cs' := #[.int .i64 a0.Points, .bool a0.Monoid, .slice aH a0.Gens.length aI, .slice p35 (0 + a0.Elems.length) c36, .slice p59 (0 + a0.Prefix.length) c60, .slice p83 (0 + a0.Last.length) c84, .slice na (0 + a0.Right.length) nb, .slice lR (0 + a0.Rules.length) lT, .int .i64 a0.Done]) 0 hO rfl rfl (Nat.le_of_ble_eq_true rfl) rfl
 obtain ⟨Ue, rN, FB⟩ := hobt
 dsimp only [sS, sZ] at rN
 refine GoAt.step (FB ti29 (by exact rfl) (by exact rfl) rfl) (fun h => nomatch h) (Stp.kp hO rN) rfl ?_
 replace hO := rN.own
 refine GoQA.nil ?_
 intro aa7 A156 wl xl
 replace hO := wl.own hO
 replace hO := hO.permA xl
 refine zq ?_
 refine Go1.cut [(1, .int .i64 a1), (4, .pointer (some ⟨B8, 0, none⟩)), (6, .pointer (some ⟨ig, 0, none⟩))] ⟨rfl, rfl, rfl, trivial⟩ ?_
 intro σ _
 refine zr ?_
 have hobt := omakeMap (fun a : List UInt8 => Value.string (gstr a)) (fun a : Int => Value.int .i64 a) hO
 obtain ⟨LV, B160, tO, Wu, MS⟩ := hobt
 refine GoR.op MS rfl rfl ?_
 replace hO := tO.own
 refine za rfl (zn (zq (zr (za rfl (zn ?_)))))
 refine zq (zq (zr (zo (op_fieldAddr Try.underlying29 rfl ti22 rfl (by decide)) (zs (oblk (i := 3) 1 hO rfl rfl Try.underlying22 rfl rfl) ?_))))
 have Z6 := ((((((((((((((((((((((BR.ch _).trans CQ).trans (AY.ch _)).trans rf.ch).trans (A4.ch _)).trans BS).trans (z9.ch _)).trans ii.ch).trans (Aa.ch _)).trans sG).trans (xj.ch _)).trans mb.ch).trans (xk.ch _)).trans xW).trans (wi.ch _)).trans gX.ch).trans (wj.ch _)).trans xX).trans (wk.ch _)).trans rN.ch).trans (wl.ch _)).trans (permCh xl _)).trans tO.ch
 replace gw := gw.ch Z6
 refine zo (op_lenN Try.underlying22 rfl (gw.neq hO 6 rfl)) (zm rfl (zn (zb ?_)))
 have kT := Stp.nil (e := 9) (r := 1) hO
 replace hO := kT.own
 have E4 := Els.nil (Rp.str) (bl (.row 9 1 none 0 0 [] :: [.any (mapE (fun a : List UInt8 => Value.string (gstr a)) (fun a : Int => Value.int .i64 a) B160 (([] : List (Str × Int)))), .blk ig (.cells #[.int .i64 a0.Points, .bool a0.Monoid, .slice aH a0.Gens.length aI, .slice p35 (0 + a0.Elems.length) c36, .slice p59 (0 + a0.Prefix.length) c60, .slice p83 (0 + a0.Last.length) c84, .slice na (0 + a0.Right.length) nb, .slice lR (0 + a0.Rules.length) lT, .int .i64 a0.Done] 29 (0, 0)), .row 39 2 lR (0 + a0.Rules.length) lT uk, .row 26 1 na (0 + a0.Right.length) nb ur, .row 3 1 p83 (0 + a0.Last.length) c84 v3, .row 3 1 p59 (0 + a0.Prefix.length) c60 uq, .row 26 1 p35 (0 + a0.Elems.length) c36 rs, .blk B8 (.cells #[.int .i64 (0 : Int), .bool false, .slice none 0 0, .slice none 0 0, .slice none 0 0, .slice none 0 0, .slice none 0 0, .slice none 0 0, .int .i64 (0 : Int)] 29 (0, 0)), .blk B2 (.cells #[.int .i64 a0.Points, .bool a0.Monoid, .slice aH a0.Gens.length aI, .slice bX a0.Elems.length bY, .slice bx a0.Prefix.length bz, .slice cO a0.Last.length cP, .slice b5 a0.Right.length b6, .slice b7 a0.Rules.length b8, .int .i64 a0.Done] 29 (0, 0))]) ++ A) LV
 replace hO := hO.drop 9
 replace E4 := E4.ch (Owns.dropCh _ _ 9)
 replace gw := (gw.ch kT.ch).ch (Owns.dropCh _ _ 9)
 replace hB := (((((hB.trans (wk.same.fr _)).trans rN.fr).trans (wl.same.fr _)).trans tO.fr).trans kT.fr).trans (Owns.dropFr _ _ 9)
 have Z7 := ((((((((wj.ch _).trans xX).trans (wk.ch _)).trans rN.ch).trans (wl.ch _)).trans (permCh xl _)).trans tO.ch).trans kT.ch).trans (Owns.dropCh _ _ 9)
 replace iw := iw.ch Z7
 have Z8 := ((((((((gX.ch.trans (wj.ch _)).trans xX).trans (wk.ch _)).trans rN.ch).trans (wl.ch _)).trans (permCh xl _)).trans tO.ch).trans kT.ch).trans (Owns.dropCh _ _ 9)
 replace ao := ao.ch Z8
 have Z9 := ((((((((((((xk.ch _).trans xW).trans (wi.ch _)).trans gX.ch).trans (wj.ch _)).trans xX).trans (wk.ch _)).trans rN.ch).trans (wl.ch _)).trans (permCh xl _)).trans tO.ch).trans kT.ch).trans (Owns.dropCh _ _ 9)
 replace iu := iu.ch Z9
 have Z10 := ((((((((((((mb.ch.trans (xk.ch _)).trans xW).trans (wi.ch _)).trans gX.ch).trans (wj.ch _)).trans xX).trans (wk.ch _)).trans rN.ch).trans (wl.ch _)).trans (permCh xl _)).trans tO.ch).trans kT.ch).trans (Owns.dropCh _ _ 9)
 replace au := au.ch Z10
 have Z11 := ((((((((((((((((Aa.ch _).trans sG).trans (xj.ch _)).trans mb.ch).trans (xk.ch _)).trans xW).trans (wi.ch _)).trans gX.ch).trans (wj.ch _)).trans xX).trans (wk.ch _)).trans rN.ch).trans (wl.ch _)).trans (permCh xl _)).trans tO.ch).trans kT.ch).trans (Owns.dropCh _ _ 9)
 replace gB := gB.ch Z11
 have Z12 := ((((((((((((((((ii.ch.trans (Aa.ch _)).trans sG).trans (xj.ch _)).trans mb.ch).trans (xk.ch _)).trans xW).trans (wi.ch _)).trans gX.ch).trans (wj.ch _)).trans xX).trans (wk.ch _)).trans rN.ch).trans (wl.ch _)).trans (permCh xl _)).trans tO.ch).trans kT.ch).trans (Owns.dropCh _ _ 9)
 replace aB := aB.ch Z12
 have Z13 := ((((((((((((((((((((A4.ch _).trans BS).trans (z9.ch _)).trans ii.ch).trans (Aa.ch _)).trans sG).trans (xj.ch _)).trans mb.ch).trans (xk.ch _)).trans xW).trans (wi.ch _)).trans gX.ch).trans (wj.ch _)).trans xX).trans (wk.ch _)).trans rN.ch).trans (wl.ch _)).trans (permCh xl _)).trans tO.ch).trans kT.ch).trans (Owns.dropCh _ _ 9)
 replace gu := gu.ch Z13
 have Z14 := ((((((((((((((((((((rf.ch.trans (A4.ch _)).trans BS).trans (z9.ch _)).trans ii.ch).trans (Aa.ch _)).trans sG).trans (xj.ch _)).trans mb.ch).trans (xk.ch _)).trans xW).trans (wi.ch _)).trans gX.ch).trans (wj.ch _)).trans xX).trans (wk.ch _)).trans rN.ch).trans (wl.ch _)).trans (permCh xl _)).trans tO.ch).trans kT.ch).trans (Owns.dropCh _ _ 9)
 replace ak := ak.ch Z14
 have Z15 := ((((((((((((((((((((((((lx.ch.trans (BR.ch _)).trans CQ).trans (AY.ch _)).trans rf.ch).trans (A4.ch _)).trans BS).trans (z9.ch _)).trans ii.ch).trans (Aa.ch _)).trans sG).trans (xj.ch _)).trans mb.ch).trans (xk.ch _)).trans xW).trans (wi.ch _)).trans gX.ch).trans (wj.ch _)).trans xX).trans (wk.ch _)).trans rN.ch).trans (wl.ch _)).trans (permCh xl _)).trans tO.ch).trans kT.ch).trans (Owns.dropCh _ _ 9)
 replace ar := ar.ch Z15
 have Z16 := (((((((((Z5.trans gX.ch).trans (wj.ch _)).trans xX).trans (wk.ch _)).trans rN.ch).trans (wl.ch _)).trans (permCh xl _)).trans tO.ch).trans kT.ch).trans (Owns.dropCh _ _ 9)
 replace aa := aa.ch Z16
 dsimp only [eS, eZ] at hB hO aa ar ak aB au ao E4 iw iu gB gu gw
 refine Go1.loopW (S := Nat × List Str × (List (Str × Int))) (fun s σ w => match s with | (k1_169, d_170, m1_176) => ∃ (xY : Nat), ∃ (yk : Option Addr), ∃ (yl : Nat), ∃ (xm : List Value), agrees σ [(1, .int .i64 a1), (4, .pointer (some ⟨B8, 0, none⟩)), (6, .pointer (some ⟨ig, 0, none⟩)), (7, .map (some B160)), (8, .slice yk xY yl), (50, .int .i64 (((([] : List (List Int))) ++ a0.Elems).length : Int)), (51, .int .i64 (k1_169 : Int))] ∧ (fun Z0 => Owns w0.heap.size w Z0 A ∧ Els (Rp.str) (bl Z0 ++ A) w xm d_170 ∧ Els (rpRule) (bl Z0 ++ A) w uk ((([] : List Rule)) ++ a0.Rules) ∧ Els (Rp.sl (Rp.int .i64)) (bl Z0 ++ A) w ur ((([] : List (List Int))) ++ a0.Right) ∧ Els (Rp.int .i64) (bl Z0 ++ A) w v3 ((([] : List Int)) ++ a0.Last) ∧ Els (Rp.int .i64) (bl Z0 ++ A) w uq ((([] : List Int)) ++ a0.Prefix) ∧ Els (Rp.sl (Rp.int .i64)) (bl Z0 ++ A) w rs ((([] : List (List Int))) ++ a0.Elems) ∧ ISl (Rp.sl (Rp.int .i64)) (bl Z0 ++ A) w aH aI a0.Gens ∧ Fr (bl []) w0 (bl Z0) w) [.row 9 1 yk xY yl xm, .any (mapE (fun a : List UInt8 => Value.string (gstr a)) (fun a : Int => Value.int .i64 a) B160 m1_176), .blk ig (.cells #[.int .i64 a0.Points, .bool a0.Monoid, .slice aH a0.Gens.length aI, .slice p35 (0 + a0.Elems.length) c36, .slice p59 (0 + a0.Prefix.length) c60, .slice p83 (0 + a0.Last.length) c84, .slice na (0 + a0.Right.length) nb, .slice lR (0 + a0.Rules.length) lT, .int .i64 a0.Done] 29 (0, 0)), .row 39 2 lR (0 + a0.Rules.length) lT uk, .row 26 1 na (0 + a0.Right.length) nb ur, .row 3 1 p83 (0 + a0.Last.length) c84 v3, .row 3 1 p59 (0 + a0.Prefix.length) c60 uq, .row 26 1 p35 (0 + a0.Elems.length) c36 rs, .blk B8 (.cells #[.int .i64 (0 : Int), .bool false, .slice none 0 0, .slice none 0 0, .slice none 0 0, .slice none 0 0, .slice none 0 0, .slice none 0 0, .int .i64 (0 : Int)] 29 (0, 0))]) H ⟨0, none, 0, [], ⟨rfl, rfl, rfl, rfl, rfl, rfl, rfl, trivial⟩, hO, E4, iw, iu, gB, gu, gw, aa, hB⟩ ?_
 intro X1
 refine prE fun k1_169 => prE fun d_170 => fun m1_176 => ?_
 intro H hX1 σ J3
 refine exE fun xY => exE fun yk => exE fun yl => exE fun xm => andE fun hag => andE fun hO => andE fun AF => andE fun iw => andE fun iu => andE fun gB => andE fun gu => andE fun gw => andE fun aa => fun hB => ?_
 dsimp only at H
 refine Go1.keep [(1, .int .i64 a1), (4, .pointer (some ⟨B8, 0, none⟩)), (6, .pointer (some ⟨ig, 0, none⟩)), (7, .map (some B160)), (8, .slice yk xY yl), (50, .int .i64 (((([] : List (List Int))) ++ a0.Elems).length : Int)), (51, .int .i64 (k1_169 : Int))] hag ?_
 refine zq (zr ?_)
 by_cases AR : (k1_169 : Int) < (((([] : List (List Int))) ++ a0.Elems).length : Int)
 ·replace H := ifp AR H
  refine zo (fun w => opB (op_lss rfl rfl w) (decide_eq_true AR)) (zn (zq (zt rfl rfl (zk (zq ?_)))))
  refine zb (zq (zr (zm rfl (za rfl (zn ?_)))))
  refine zq (zr (zm rfl (zs (oblkAgg (vs := [.int .i64 a0.Points, .bool a0.Monoid, .slice aH a0.Gens.length aI, .slice p35 (0 + a0.Elems.length) c36, .slice p59 (0 + a0.Prefix.length) c60, .slice p83 (0 + a0.Last.length) c84, .slice na (0 + a0.Right.length) nb, .slice lR (0 + a0.Rules.length) lT, .int .i64 a0.Done]) (i := 0) 2 hO rfl rfl Try.underlying29 rfl ti29 rfl) (zm rfl ?_))))
  have hobt := rowlend 7 hO rfl gw
  obtain ⟨Q8, Q9⟩ := hobt
  have hOc180 := hO.drop 7
  have hobt := rowlend 6 hOc180 rfl (gu.ch (Owns.dropCh _ _ 7))
  obtain ⟨Ra, Rb⟩ := hobt
  have hOc183 := hOc180.drop 6
  have hobt := rowlend 5 hOc183 rfl ((gB.ch (Owns.dropCh _ _ 7)).ch (Owns.dropCh _ _ 6))
  obtain ⟨Rc, Rd⟩ := hobt
  have hOc186 := hOc183.drop 5
  have hobt := rowlend 4 hOc186 rfl (((iu.ch (Owns.dropCh _ _ 7)).ch (Owns.dropCh _ _ 6)).ch (Owns.dropCh _ _ 5))
  obtain ⟨Re, F9⟩ := hobt
  have hOc189 := hOc186.drop 4
  have hobt := rowlend 3 hOc189 rfl ((((iw.ch (Owns.dropCh _ _ 7)).ch (Owns.dropCh _ _ 6)).ch (Owns.dropCh _ _ 5)).ch (Owns.dropCh _ _ 4))
  obtain ⟨Rf, Rg⟩ := hobt
  have hOc192 := hOc189.drop 3
  refine GoR.call (op_call body40 (show ([.agg #[.int .i64 a0.Points, .bool a0.Monoid, .slice aH a0.Gens.length aI, .slice p35 (0 + a0.Elems.length) c36, .slice p59 (0 + a0.Prefix.length) c60, .slice p83 (0 + a0.Last.length) c84, .slice na (0 + a0.Right.length) nb, .slice lR (0 + a0.Rules.length) lT, .int .i64 a0.Done], .int .i64 (k1_169 : Int)] : List Value) = [.agg #[.int .i64 a0.Points, .bool a0.Monoid, .slice aH a0.Gens.length aI, .slice p35 ((([] : List (List Int))) ++ a0.Elems).length c36, .slice p59 ((([] : List Int)) ++ a0.Prefix).length c60, .slice p83 ((([] : List Int)) ++ a0.Last).length c84, .slice na ((([] : List (List Int))) ++ a0.Right).length nb, .slice lR ((([] : List Rule)) ++ a0.Rules).length lT, .int .i64 a0.Done], .int .i64 (k1_169 : Int)] from by rw [← Q9, ← Rb, ← Rd, ← F9, ← Rg]) (walk_ref12_Word (e := (⟨a0.Points, a0.Monoid, a0.Gens, (([] : List (List Int))) ++ a0.Elems, (([] : List Int)) ++ a0.Prefix, (([] : List Int)) ++ a0.Last, (([] : List (List Int))) ++ a0.Right, (([] : List Rule)) ++ a0.Rules, a0.Done⟩ : Enum)) hOc192.lt (((((aa.ch (Owns.dropCh _ _ 7)).ch (Owns.dropCh _ _ 6)).ch (Owns.dropCh _ _ 5)).ch (Owns.dropCh _ _ 4)).ch (Owns.dropCh _ _ 3)) ((((Q8.ch (Owns.dropCh _ _ 6)).ch (Owns.dropCh _ _ 5)).ch (Owns.dropCh _ _ 4)).ch (Owns.dropCh _ _ 3)) (((Ra.ch (Owns.dropCh _ _ 5)).ch (Owns.dropCh _ _ 4)).ch (Owns.dropCh _ _ 3)) ((Rc.ch (Owns.dropCh _ _ 4)).ch (Owns.dropCh _ _ 3)) (Re.ch (Owns.dropCh _ _ 3)) Rf H)) rfl rfl ?_
  rintro aa8 aa9 ⟨r193, rfl, Rh, JU, H⟩
  have x2 := Stp.same hO Rh
  replace hO := x2.own
  have hobt := obuild (r := Rp.str) (n := 1) (parts := [(0, .string (gstr r193))]) (vs := [.string (gstr r193)]) (xs := [r193]) rfl Try.underlying70 ti9 hO (by decide) (by kernel_rfl) (Els.cons rfl ⟨rfl, JU⟩ (Els.nil _ _ _) (by simp [mx])) rfl
  obtain ⟨SJ, aba, x3, Ri, Wv, MT⟩ := hobt
  refine zg (MT rfl) ?_
  replace hO := x3.own
  have hobt := freeze 0 hO rfl Ri
  obtain ⟨hO1, AG, Dn, Rj⟩ := hobt
  dsimp only [eS, eZ] at hO1 AG Dn
  replace hB := ((hB.trans x2.fr).trans x3.fr).trans (Owns.dropFr _ _ 0)
  dsimp only [eS, eZ] at hB
  replace hO := hO1; clear hO1
  obtain ⟨Uw, H⟩ := H
  have Z17 := (x2.ch.trans x3.ch).trans AG
  replace AF := AF.ch Z17
  have hobt := oapp Try.underlying70 ti9 rfl 0 hO rfl AF Dn Rj Uw (by decide)
  obtain ⟨abb, Ux, Uy, Rk, wH, AH, MU⟩ := hobt
  dsimp only [sS, sZ] at wH AH
  refine zg (MU (by exact rfl) (by exact rfl)) ?_
  replace hO := wH.own
  refine za rfl (zn (zr (zm rfl (zm rfl (zm rfl ?_)))))
  obtain ⟨CK, H⟩ := H
  obtain ⟨CM, H⟩ := H
  refine zo (op_index Try.underlying70 ti9 rfl rfl CK (ltn (AH.neq hO 0 rfl) CM) (AH.psome hO 0 rfl CK CM)) (zs (oldStr 0 hO rfl AH CK CM Try.underlying9 rfl rfl) ?_)
  have hle220 := Els.str_le AH CK CM
  refine zm rfl ?_
  have hobt := omapUpd (MK.str Try.underlying9) 1 hO rfl Try.underlying69 (ix (d_170 ++ ([r193])) (k1_169 : Int)) (k1_169 : Int)
  obtain ⟨SM, gO, Fm⟩ := hobt
  dsimp only [sS, sZ] at gO
  refine zg (Fm (by exact rfl) (by exact rfl) (by exact rfl)) ?_
  replace hO := gO.own
  refine zn ?_
  refine Go1.inBlock ?_
  refine zr ?_
  replace gw := ((gw.ch Z17).ch wH.ch).ch gO.ch
  refine zo (op_add rfl rfl (wrap_i64 (natbd AR gw.bd))) (zm rfl (zn ?_))
  replace AH := AH.ch gO.ch
  replace hB := (hB.trans wH.fr).trans gO.fr
  have Z18 := (Z17.trans wH.ch).trans gO.ch
  replace iw := iw.ch Z18
  replace iu := iu.ch Z18
  replace gB := gB.ch Z18
  replace gu := gu.ch Z18
  replace aa := aa.ch Z18
  exact hX1 _ H _ _ ⟨xY + 1, Ux, Uy, Rk, ⟨rfl, rfl, rfl, rfl, rfl, rfl, rfl, trivial⟩, hO, AH, iw, iu, gB, gu, gw, aa, hB⟩
 replace H := ifn AR H
 refine zo (fun w => opB (op_lss rfl rfl w) (decide_eq_false AR)) (zn (zq (zf rfl rfl ?_)))
 refine Go1.exit rfl ?_
 refine zq (zb ?_)
 refine Go1.loopW (S := Int × Int × List Str × (List (Str × Int)) × List Rule × List (List Int) × List Int × List Int × List (List Int)) (fun s σ w => match s with | (k2_225, k2_226, d_227, m2_233, d_234, d_240, d_246, d_252, d_258) => ∃ (x4 : Nat), ∃ (x5 : Option Addr), ∃ (x6 : Nat), ∃ (rc : List Value), ∃ (nG : Nat), ∃ (lU : Option Addr), ∃ (lV : Nat), ∃ (wm : List Value), ∃ (gG : Nat), ∃ (gH : Option Addr), ∃ (gI : Nat), ∃ (li : List Value), ∃ (nH : Nat), ∃ (lW : Option Addr), ∃ (lX : Nat), ∃ (wn : List Value), ∃ (nI : Nat), ∃ (lY : Option Addr), ∃ (l5 : Nat), ∃ (wo : List Value), ∃ (nJ : Nat), ∃ (l7 : Option Addr), ∃ (l8 : Nat), ∃ (wq : List Value), agrees σ [(1, .int .i64 k2_225), (4, .pointer (some ⟨B8, 0, none⟩)), (6, .pointer (some ⟨ig, 0, none⟩)), (7, .map (some B160)), (8, .slice x5 x4 x6)] ∧ (fun Z0 => Owns w0.heap.size w Z0 A ∧ Els (Rp.str) (bl Z0 ++ A) w rc d_227 ∧ Els (rpRule) (bl Z0 ++ A) w wm d_234 ∧ Els (Rp.sl (Rp.int .i64)) (bl Z0 ++ A) w li d_240 ∧ Els (Rp.int .i64) (bl Z0 ++ A) w wn d_246 ∧ Els (Rp.int .i64) (bl Z0 ++ A) w wo d_252 ∧ Els (Rp.sl (Rp.int .i64)) (bl Z0 ++ A) w wq d_258 ∧ ISl (Rp.sl (Rp.int .i64)) (bl Z0 ++ A) w aH aI a0.Gens ∧ Fr (bl []) w0 (bl Z0) w) [.row 9 1 x5 x4 x6 rc, .any (mapE (fun a : List UInt8 => Value.string (gstr a)) (fun a : Int => Value.int .i64 a) B160 m2_233), .blk ig (.cells #[.int .i64 a0.Points, .bool a0.Monoid, .slice aH a0.Gens.length aI, .slice l7 nJ l8, .slice lY nI l5, .slice lW nH lX, .slice gH gG gI, .slice lU nG lV, .int .i64 k2_226] 29 (0, 0)), .row 39 2 lU nG lV wm, .row 26 1 gH gG gI li, .row 3 1 lW nH lX wn, .row 3 1 lY nI l5 wo, .row 26 1 l7 nJ l8 wq, .blk B8 (.cells #[.int .i64 (0 : Int), .bool false, .slice none 0 0, .slice none 0 0, .slice none 0 0, .slice none 0 0, .slice none 0 0, .slice none 0 0, .int .i64 (0 : Int)] 29 (0, 0))]) H ⟨xY, yk, yl, xm, 0 + a0.Rules.length, lR, lT, uk, 0 + a0.Right.length, na, nb, ur, 0 + a0.Last.length, p83, c84, v3, 0 + a0.Prefix.length, p59, c60, uq, 0 + a0.Elems.length, p35, c36, rs, ⟨rfl, rfl, rfl, rfl, rfl, trivial⟩, hO, AF, iw, iu, gB, gu, gw, aa, hB⟩ ?_
 intro X2
 refine prE fun k2_225 => prE fun k2_226 => prE fun d_227 => prE fun m2_233 => prE fun d_234 => prE fun d_240 => prE fun d_246 => prE fun d_252 => fun d_258 => ?_
 intro H hX2 σ Uz
 refine exE fun x4 => exE fun x5 => exE fun x6 => exE fun rc => exE fun nG => exE fun lU => exE fun lV => exE fun wm => exE fun gG => exE fun gH => exE fun gI => exE fun li => exE fun nH => exE fun lW => exE fun lX => exE fun wn => exE fun nI => exE fun lY => exE fun l5 => exE fun wo => exE fun nJ => exE fun l7 => exE fun l8 => exE fun wq => andE fun hag => andE fun hO => andE fun kQ => andE fun mP => andE fun cp => andE fun sH => andE fun t8 => andE fun yG => andE fun aa => fun hB => ?_
 dsimp only at H
 refine Go1.keep [(1, .int .i64 k2_225), (4, .pointer (some ⟨B8, 0, none⟩)), (6, .pointer (some ⟨ig, 0, none⟩)), (7, .map (some B160)), (8, .slice x5 x4 x6)] hag ?_
 refine zq (zq (zr (zm rfl ?_)))
 by_cases He : (0 : Int) < k2_225
 ·replace H := ifp He H
  refine zo (fun w => opB (op_gtr rfl rfl w) (decide_eq_true He)) (zm rfl (zo (op_fieldAddr Try.underlying29 rfl ti3 rfl (by decide)) (zs (oblk (i := 8) 2 hO rfl rfl Try.underlying3 rfl rfl) (zo (op_fieldAddr Try.underlying29 rfl ti22 rfl (by decide)) (zs (oblk (i := 3) 2 hO rfl rfl Try.underlying22 rfl rfl) ?_)))))
  refine zo (op_lenN Try.underlying22 rfl (yG.neq hO 7 rfl)) ?_
  by_cases Hf : k2_226 < (d_258.length : Int)
  ·replace H := ifp Hf H
   refine zo (fun w => opB (op_lss rfl rfl w) (decide_eq_true Hf)) (zo (op_pickT rfl rfl rfl) (zn (zt rfl rfl (zk (zq ?_)))))
   refine zb (zq (zr (za rfl (zn (zq ?_)))))
   refine zr (zm rfl (zo (op_fieldAddr Try.underlying29 rfl ti3 rfl (by decide)) (zs (oblk (i := 8) 2 hO rfl rfl Try.underlying3 rfl rfl) ?_)))
   obtain ⟨Hg, H⟩ := H
   obtain ⟨Hh, H⟩ := H
   refine zo (op_index Try.underlying70 ti9 rfl rfl Hg (ltn (kQ.neq hO 0 rfl) Hh) (kQ.psome hO 0 rfl Hg Hh)) (zs (oldStr 0 hO rfl kQ Hg Hh Try.underlying9 rfl rfl) ?_)
   have hle268 := Els.str_le kQ Hg Hh
   refine za rfl (zn (zq (zq (zr (zo (op_fieldAddr Try.underlying29 rfl ti22 rfl (by decide)) ?_)))))
   refine zs (oblk (i := 2) 2 hO rfl rfl Try.underlying22 rfl rfl) (zo (op_len Try.underlying22 rfl) ?_)
   replace H := H aa.bd
   refine zm rfl (zn (zb ?_))
   have x7 := Stp.nil (e := 3) (r := 1) hO
   replace hO := x7.own
   have Rl := Els.nil (Rp.int .i64) (bl (.row 3 1 none 0 0 [] :: [.row 9 1 x5 x4 x6 rc, .any (mapE (fun a : List UInt8 => Value.string (gstr a)) (fun a : Int => Value.int .i64 a) B160 m2_233), .blk ig (.cells #[.int .i64 a0.Points, .bool a0.Monoid, .slice aH a0.Gens.length aI, .slice l7 nJ l8, .slice lY nI l5, .slice lW nH lX, .slice gH gG gI, .slice lU nG lV, .int .i64 k2_226] 29 (0, 0)), .row 39 2 lU nG lV wm, .row 26 1 gH gG gI li, .row 3 1 lW nH lX wn, .row 3 1 lY nI l5 wo, .row 26 1 l7 nJ l8 wq, .blk B8 (.cells #[.int .i64 (0 : Int), .bool false, .slice none 0 0, .slice none 0 0, .slice none 0 0, .slice none 0 0, .slice none 0 0, .slice none 0 0, .int .i64 (0 : Int)] 29 (0, 0))]) ++ A) Uz
   replace kQ := kQ.ch x7.ch
   replace mP := mP.ch x7.ch
   replace cp := cp.ch x7.ch
   replace sH := sH.ch x7.ch
   replace t8 := t8.ch x7.ch
   replace yG := yG.ch x7.ch
   replace aa := aa.ch x7.ch
   replace hB := hB.trans x7.fr
   refine Go1.loopW (S := Nat × List Int × List Str × (List (Str × Int)) × List Rule × List Int × List Int × List (List Int)) (fun s σ w => match s with | (k3_273, d_274, d_280, m3_286, d_287, d_293, d_299, d_305) => ∃ (ms : Nat), ∃ (oT : Option Addr), ∃ (oU : Nat), ∃ (sc : List Value), ∃ (nc : Nat), ∃ (nK : Option Addr), ∃ (nM : Nat), ∃ (oI : List Value), ∃ (i8 : Nat), ∃ (jI : Option Addr), ∃ (jJ : Nat), ∃ (mz : List Value), ∃ (i9 : Nat), ∃ (jr : Option Addr), ∃ (jK : Nat), ∃ (oJ : List Value), ∃ (ja : Nat), ∃ (ku : Option Addr), ∃ (kw : Nat), ∃ (pP : List Value), ∃ (i4 : Nat), ∃ (jj : Option Addr), ∃ (jk : Nat), ∃ (rh : List Value), agrees σ [(1, .int .i64 k2_225), (4, .pointer (some ⟨B8, 0, none⟩)), (6, .pointer (some ⟨ig, 0, none⟩)), (7, .map (some B160)), (8, .slice nK nc nM), (10, .slice oT ms oU), (11, .string (gstr (ix d_227 k2_226))), (86, .int .i64 (a0.Gens.length : Int)), (87, .int .i64 (k3_273 : Int))] ∧ (fun Z0 => Owns w0.heap.size w Z0 A ∧ Els (Rp.int .i64) (bl Z0 ++ A) w sc d_274 ∧ Els (Rp.str) (bl Z0 ++ A) w oI d_280 ∧ Els (rpRule) (bl Z0 ++ A) w mz d_287 ∧ Els (Rp.sl (Rp.int .i64)) (bl Z0 ++ A) w li d_240 ∧ Els (Rp.int .i64) (bl Z0 ++ A) w oJ d_293 ∧ Els (Rp.int .i64) (bl Z0 ++ A) w pP d_299 ∧ Els (Rp.sl (Rp.int .i64)) (bl Z0 ++ A) w rh d_305 ∧ ISl (Rp.sl (Rp.int .i64)) (bl Z0 ++ A) w aH aI a0.Gens ∧ Fr (bl []) w0 (bl Z0) w) [.row 3 1 oT ms oU sc, .row 9 1 nK nc nM oI, .any (mapE (fun a : List UInt8 => Value.string (gstr a)) (fun a : Int => Value.int .i64 a) B160 m3_286), .blk ig (.cells #[.int .i64 a0.Points, .bool a0.Monoid, .slice aH a0.Gens.length aI, .slice jj i4 jk, .slice ku ja kw, .slice jr i9 jK, .slice gH gG gI, .slice jI i8 jJ, .int .i64 k2_226] 29 (0, 0)), .row 39 2 jI i8 jJ mz, .row 26 1 gH gG gI li, .row 3 1 jr i9 jK oJ, .row 3 1 ku ja kw pP, .row 26 1 jj i4 jk rh, .blk B8 (.cells #[.int .i64 (0 : Int), .bool false, .slice none 0 0, .slice none 0 0, .slice none 0 0, .slice none 0 0, .slice none 0 0, .slice none 0 0, .int .i64 (0 : Int)] 29 (0, 0))]) H ⟨0, none, 0, [], x4, x5, x6, rc, nG, lU, lV, wm, nH, lW, lX, wn, nI, lY, l5, wo, nJ, l7, l8, wq, ⟨rfl, rfl, rfl, rfl, rfl, rfl, rfl, rfl, rfl, trivial⟩, hO, Rl, kQ, mP, cp, sH, t8, yG, aa, hB⟩ ?_
   intro X3
   refine prE fun k3_273 => prE fun d_274 => prE fun d_280 => prE fun m3_286 => prE fun d_287 => prE fun d_293 => prE fun d_299 => fun d_305 => ?_
   intro H hX3 σ Ui
   refine exE fun ms => exE fun oT => exE fun oU => exE fun sc => exE fun nc => exE fun nK => exE fun nM => exE fun oI => exE fun i8 => exE fun jI => exE fun jJ => exE fun mz => exE fun i9 => exE fun jr => exE fun jK => exE fun oJ => exE fun ja => exE fun ku => exE fun kw => exE fun pP => exE fun i4 => exE fun jj => exE fun jk => exE fun rh => andE fun hag => andE fun hO => andE fun dD => andE fun cU => andE fun bE => andE fun cp => andE fun d6 => andE fun e9 => andE fun fw => andE fun aa => fun hB => ?_
   dsimp only at H
   refine Go1.keep [(1, .int .i64 k2_225), (4, .pointer (some ⟨B8, 0, none⟩)), (6, .pointer (some ⟨ig, 0, none⟩)), (7, .map (some B160)), (8, .slice nK nc nM), (10, .slice oT ms oU), (11, .string (gstr (ix d_227 k2_226))), (86, .int .i64 (a0.Gens.length : Int)), (87, .int .i64 (k3_273 : Int))] hag ?_
   refine zq (zr ?_)
   by_cases BT : (k3_273 : Int) < (a0.Gens.length : Int)
   ·replace H := ifp BT H
    refine zo (fun w => opB (op_lss rfl rfl w) (decide_eq_true BT)) (zn (zq (zt rfl rfl (zk (zq ?_)))))
    refine zb (zq (zr (zm rfl (za rfl (zn ?_)))))
    refine zq ?_
    refine Go1.drawS 0 [(0, .pure), (1, .stable), (2, .pure), (3, .stable), (4, .pure), (5, .stable), (6, .pure), (7, .stable), (8, .pure), (9, .pure), (10, .stable), (11, .loud), (12, .pure)] mixed (by kernel_rfl) ?_
    intro abc Rm
    have wI := Stp.same hO Rm
    replace hO := wI.own
    refine GoQ.pure rfl (op_fieldAddr Try.underlying29 rfl ti22 rfl (by decide)) rfl rfl ?_
    refine GoQ.stable rfl (oblk (i := 3) 3 hO rfl rfl Try.underlying22 rfl rfl) rfl rfl ?_
    refine GoQ.pure rfl (op_fieldAddr Try.underlying29 rfl ti3 rfl (by decide)) rfl rfl ?_
    refine GoQ.stable rfl (oblk (i := 8) 3 hO rfl rfl Try.underlying3 rfl rfl) rfl rfl ?_
    obtain ⟨IV, H⟩ := H
    obtain ⟨IW, H⟩ := H
    replace fw := fw.ch wI.ch
    refine GoQ.pure rfl (op_index Try.underlying22 ti26 rfl rfl IV (ltn (fw.neq hO 8 rfl) IW) (fw.psome hO 8 rfl IV IW)) rfl rfl ?_
    have hobt := oldSl 8 hO rfl fw IV IW
    obtain ⟨abd, abe, dB, Rn⟩ := hobt
    refine GoQ.stable rfl (Rn Try.underlying26 rfl rfl) rfl rfl ?_
    refine GoQ.pure rfl (op_fieldAddr Try.underlying29 rfl ti22 rfl (by decide)) rfl rfl ?_
    refine GoQ.stable rfl (oblk (i := 2) 3 hO rfl rfl Try.underlying22 rfl rfl) rfl rfl ?_
    refine GoQ.pure rfl (op_move rfl) rfl rfl ?_
    obtain ⟨IX, H⟩ := H
    obtain ⟨IY, H⟩ := H
    replace aa := aa.ch wI.ch
    refine GoQ.pure rfl (op_index Try.underlying22 ti26 rfl rfl IX IY (aa.some_ IX IY)) rfl rfl ?_
    have hobt := ldSl aa IX IY
    obtain ⟨abf, abg, cT, Ro⟩ := hobt
    refine GoQ.stable rfl (Ro Try.underlying26 rfl rfl) rfl rfl ?_
    refine GoQ.call rfl (op_call body43 rfl (walk_ref11_Compose hO.lt dB cT H)) (fun v w hr => by obtain ⟨_, _, _, _, hs, _, _⟩ := hr; assumption) rfl rfl ?_
    rintro Uk Kj ⟨r327, rK, rL, rfl, G7, bW, H⟩
    have iD := Stp.same hO G7
    replace hO := iD.own
    refine GoQ.pure rfl (op_assign rfl) rfl rfl ?_
    refine GoQ.nil ?_
    refine zq (zr (zo (op_fieldAddr Try.underlying29 rfl ti22 rfl (by decide)) (zs (oblk (i := 3) 3 hO rfl rfl Try.underlying22 rfl rfl) (zm rfl ?_))))
    replace fw := fw.ch iD.ch
    have hobt := rowlend 8 hO rfl fw
    obtain ⟨Rq, Rr⟩ := hobt
    have hOc335 := hO.drop 8
    refine GoR.call (op_call body41 (show ([.slice jj i4 jk, .slice rK r327.length rL] : List Value) = [.slice jj d_305.length jk, .slice rK r327.length rL] from by rw [← Rr]) (walk_ref12_Find hOc335.lt Rq (bW.ch (Owns.dropCh _ _ 8)) H)) rfl rfl ?_
    rintro abh TH ⟨r336, rfl, Rs, H⟩
    have jb := Stp.same hO Rs
    replace hO := jb.own
    refine za rfl (zn (zq ?_))
    refine Go1.cut [(1, .int .i64 k2_225), (4, .pointer (some ⟨B8, 0, none⟩)), (6, .pointer (some ⟨ig, 0, none⟩)), (7, .map (some B160)), (8, .slice nK nc nM), (10, .slice oT ms oU), (11, .string (gstr (ix d_227 k2_226))), (12, .int .i64 (k3_273 : Int)), (13, .slice rK r327.length rL), (14, .int .i64 r336), (86, .int .i64 (a0.Gens.length : Int)), (87, .int .i64 (k3_273 : Int))] ⟨rfl, rfl, rfl, rfl, rfl, rfl, rfl, rfl, rfl, rfl, rfl, rfl, trivial⟩ ?_
    intro σ _
    refine zr (zm rfl (zm rfl ?_))
    refine GoR.call (op_call body55 rfl (walk_ref12_letter hO.lt H)) rfl rfl ?_
    rintro abi abj ⟨r342, rfl, GJ, VP, H⟩
    have tP := Stp.same hO GJ
    replace hO := tP.own
    obtain ⟨I0, H⟩ := H
    refine zo (op_addS rfl rfl I0) (za rfl (zn (zq (zq (zr ?_)))))
    refine zm rfl ?_
    by_cases Em : r336 < (0 : Int)
    ·replace H := ifp Em H
     refine zo (fun w => opB (op_lss rfl rfl w) (decide_eq_true Em)) (zn (zt rfl rfl (zq (zq (zr ?_)))))
     refine zo (op_fieldAddr Try.underlying29 rfl ti22 rfl (by decide)) (zs (oblk (i := 3) 3 hO rfl rfl Try.underlying22 rfl rfl) ?_)
     replace fw := (fw.ch jb.ch).ch tP.ch
     refine zo (op_lenN Try.underlying22 rfl (fw.neq hO 8 rfl)) ?_
     by_cases Ev : (d_305.length : Int) = (2000 : Int)
     ·replace H := ifp Ev H
      refine zo (fun w => opB (op_eql rfl rfl w) (decide_eq_true Ev)) (zn (zt rfl rfl (zq (zr (zo (op_build Try.underlying29 ti29 (pl := [(0, 1), (1, 1), (2, 1), (3, 1), (4, 1), (5, 1), (6, 1), (7, 1), (8, 1)]) (vs := []) (cs := #[.int .i64 (0 : Int), .bool false, .slice none 0 0, .slice none 0 0, .slice none 0 0, .slice none 0 0, .slice none 0 0, .slice none 0 0, .int .i64 (0 : Int)]) (by kernel_rfl) rfl (by kernel_rfl)) ?_)))))
      have hobt := oblkStAgg (us := [.int .i64 (0 : Int), .bool false, .slice none 0 0, .slice none 0 0, .slice none 0 0, .slice none 0 0, .slice none 0 0, .slice none 0 0, .int .i64 (0 : Int)]) (o := 0) (cs' := #[.int .i64 (0 : Int), .bool false, .slice none 0 0, .slice none 0 0, .slice none 0 0, .slice none 0 0, .slice none 0 0, .slice none 0 0, .int .i64 (0 : Int)]) 9 hO rfl rfl (Nat.le_of_ble_eq_true rfl) rfl
      obtain ⟨TJ, sI, MV⟩ := hobt
      dsimp only [sS, sZ] at sI
      refine zg (MV ti29 (by exact rfl) (by exact rfl) rfl) ?_
      replace hO := sI.own
      refine za rfl (zn ?_)
      refine Go1.retC2 Try.func52 rfl rfl (run_loadBlk (vs := [.int .i64 (0 : Int), .bool false, .slice none 0 0, .slice none 0 0, .slice none 0 0, .slice none 0 0, .slice none 0 0, .slice none 0 0, .int .i64 (0 : Int)]) 9 hO rfl rfl Try.underlying29 rfl ti29) ?_
      replace hB := ((((hB.trans wI.fr).trans iD.fr).trans jb.fr).trans tP.fr).trans sI.fr
      exact ⟨(⟨(0 : Int), false, ([] : List (List Int)), ([] : List (List Int)), ([] : List Int), ([] : List Int), ([] : List (List Int)), ([] : List Rule), (0 : Int)⟩ : Enum), (3 : Int), none, 0, none, 0, none, 0, none, 0, none, 0, none, 0, rfl, hB.same, (ISl.null _ _ _), (ISl.null _ _ _), (ISl.null _ _ _), (ISl.null _ _ _), (ISl.null _ _ _), (ISl.null _ _ _), H⟩
     replace H := ifn Ev H
     refine zo (fun w => opB (op_eql rfl rfl w) (decide_eq_false Ev)) (zn (zf rfl rfl (zk (zq (zr ?_)))))
     refine zo (op_fieldAddr Try.underlying29 rfl ti22 rfl (by decide)) (zs (oblk (i := 3) 3 hO rfl rfl Try.underlying22 rfl rfl) (zo (op_lenN Try.underlying22 rfl (fw.neq hO 8 rfl)) (za rfl (zn (zq ?_)))))
     refine Go1.drawA (CSv.tr [(some ⟨ig, 3, none⟩), (some ⟨ig, 4, none⟩), (some ⟨ig, 8, none⟩), (some ⟨ig, 5, none⟩)]) A 1 [(0, .pure), (1, .stable), (2, .pure), (5, .pure), (6, .stable), (7, .pure), (8, .stable), (11, .pure), (12, .stable), (13, .pure), (3, .alloc), (4, .loud), (16, .pure), (9, .alloc), (10, .loud), (14, .alloc), (15, .loud), (17, .last), (18, .pure), (19, .last), (20, .pure), (21, .last)] mixed (by kernel_rfl) trivial hO.bd ?_
     intro Ul Rt
     have lP := Stp.same hO Rt
     replace hO := lP.own
     have Hi := hO.le
     replace hB := ((((hB.trans wI.fr).trans iD.fr).trans jb.fr).trans tP.fr).trans lP.fr
     have hw357 := hB.ch.size
     refine GoQA.pure rfl (op_fieldAddr Try.underlying29 rfl ti22 rfl (by decide)) rfl rfl ?_
     refine GoQA.stable rfl (loadV (.head _) rfl (blkCell 3 hO rfl rfl) Try.underlying22 rfl rfl) rfl rfl ?_
     refine GoQA.pure rfl (op_move rfl) rfl rfl ?_
     refine GoQA.pure rfl (op_fieldAddr Try.underlying29 rfl ti26 rfl (by decide)) rfl rfl ?_
     refine GoQA.stable rfl (loadV (.tail _ (.head _)) rfl (blkCell 3 hO rfl rfl) Try.underlying26 rfl rfl) rfl rfl ?_
     refine GoQA.pure rfl (op_fieldAddr Try.underlying29 rfl ti3 rfl (by decide)) rfl rfl ?_
     refine GoQA.stable rfl (loadV (.tail _ (.tail _ (.head _))) rfl (blkCell 3 hO rfl rfl) Try.underlying3 rfl rfl) rfl rfl ?_
     refine GoQA.pure rfl (op_fieldAddr Try.underlying29 rfl ti26 rfl (by decide)) rfl rfl ?_
     refine GoQA.stable rfl (loadV (.tail _ (.tail _ (.tail _ (.head _)))) rfl (blkCell 3 hO rfl rfl) Try.underlying26 rfl rfl) rfl rfl ?_
     refine GoQA.pure rfl (op_move rfl) rfl rfl ?_
     refine GoQA.alloc rfl rfl (alBuild (n := 1) (parts := [(0, .slice rK r327.length rL)]) (vs := [.slice rK r327.length rL]) Try.underlying22 ti26 (by decide) (by decide) (by decide) (by kernel_rfl) rfl rfl) ?_
     intro G8 A361 MW A363 wr JC hd366 hnb367 hh368
     replace hO := wr.own hO
     have Z19 := ((jb.ch.trans tP.ch).trans lP.ch).trans (wr.ch _)
     replace bW := bW.ch Z19
     have Ed : Els (Rp.sl (Rp.int .i64)) (bl [.row 3 1 oT ms oU sc, .row 9 1 nK nc nM oI, .any (mapE (fun a : List UInt8 => Value.string (gstr a)) (fun a : Int => Value.int .i64 a) B160 m3_286), .blk ig (.cells #[.int .i64 a0.Points, .bool a0.Monoid, .slice aH a0.Gens.length aI, .slice jj i4 jk, .slice ku ja kw, .slice jr i9 jK, .slice gH gG gI, .slice jI i8 jJ, .int .i64 k2_226] 29 (0, 0)), .row 39 2 jI i8 jJ mz, .row 26 1 gH gG gI li, .row 3 1 jr i9 jK oJ, .row 3 1 ku ja kw pP, .row 26 1 jj i4 jk rh, .blk B8 (.cells #[.int .i64 (0 : Int), .bool false, .slice none 0 0, .slice none 0 0, .slice none 0 0, .slice none 0 0, .slice none 0 0, .slice none 0 0, .int .i64 (0 : Int)] 29 (0, 0))] ++ A361) G8 [.slice rK r327.length rL] [r327] := (Els.cons rfl ⟨rK, rL, rfl, bW⟩ (Els.nil _ _ _) (by simp [mx]))
     have ld := gainCh (w := G8) (E := [.row 3 1 oT ms oU sc, .row 9 1 nK nc nM oI, .any (mapE (fun a : List UInt8 => Value.string (gstr a)) (fun a : Int => Value.int .i64 a) B160 m3_286), .blk ig (.cells #[.int .i64 a0.Points, .bool a0.Monoid, .slice aH a0.Gens.length aI, .slice jj i4 jk, .slice ku ja kw, .slice jr i9 jK, .slice gH gG gI, .slice jI i8 jJ, .int .i64 k2_226] 29 (0, 0)), .row 39 2 jI i8 jJ mz, .row 26 1 gH gG gI li, .row 3 1 jr i9 jK oJ, .row 3 1 ku ja kw pP, .row 26 1 jj i4 jk rh, .blk B8 (.cells #[.int .i64 (0 : Int), .bool false, .slice none 0 0, .slice none 0 0, .slice none 0 0, .slice none 0 0, .slice none 0 0, .slice none 0 0, .int .i64 (0 : Int)] 29 (0, 0))]) (e := .row 26 1 (some ⟨MW, 0, none⟩) 1 1 [.slice rK r327.length rL]) JC rfl
     replace hB := hB.trans (wr.same.fr _)
     replace hB := Fr.gain (e := .row 26 1 (some ⟨MW, 0, none⟩) 1 1 [.slice rK r327.length rL]) hB (Nat.le_trans hw357 hnb367) rfl
     replace hO := Owns.gain hO JC Hi rfl hh368 hd366
     refine GoQA.loudI rfl rfl ?_
     intro abk A372 vD
     replace hO := vD.own hO
     replace Ed := (Ed.ch ld).ch (vD.ch _)
     have hobt := freeze 0 hO rfl Ed
     obtain ⟨hO1, xn, gL, Ru⟩ := hobt
     dsimp only [eS, eZ] at hO1 xn gL
     replace hB := (hB.trans (vD.same.fr _)).trans (Owns.dropFr _ _ 0)
     dsimp only [eS, eZ] at hB
     replace hO := hO1; clear hO1
     obtain ⟨UA, H⟩ := H
     have Z20 := (((lP.ch.trans (wr.ch _)).trans ld).trans (vD.ch _)).trans xn
     replace fw := fw.ch Z20
     have hobt := oapp Try.underlying22 ti26 rfl 8 hO rfl fw gL Ru UA (by decide)
     obtain ⟨TK, BU, BV, o6, oK, gN, MX⟩ := hobt
     dsimp only [sS, sZ] at oK gN
     refine GoAt.step (MX (by exact rfl) (by exact rfl)) (fun _ => (CSv.cons (cs_eq (blkCell 3 hO rfl rfl) (blkCell 3 oK.own rfl rfl)) (CSv.cons (cs_eq (blkCell 3 hO rfl rfl) (blkCell 3 oK.own rfl rfl)) (CSv.cons (cs_eq (blkCell 3 hO rfl rfl) (blkCell 3 oK.own rfl rfl)) (CSv.cons (cs_eq (blkCell 3 hO rfl rfl) (blkCell 3 oK.own rfl rfl)) (CSv.nil _ _)))))) (Stp.kp hO oK) rfl ?_
     replace hO := oK.own
     refine GoQA.pure rfl (op_fieldAddr Try.underlying29 rfl ti22 rfl (by decide)) rfl rfl ?_
     refine GoQA.alloc rfl rfl (alBuild (n := 1) (parts := [(0, .int .i64 k2_226)]) (vs := [.int .i64 k2_226]) Try.underlying26 ti3 (by decide) (by decide) (by decide) (by kernel_rfl) rfl rfl) ?_
     intro Ix A388 MY A390 vE JD hd393 hnb394 hh395
     replace hO := vE.own hO
     have Ee : Els (Rp.int .i64) (bl [.row 3 1 oT ms oU sc, .row 9 1 nK nc nM oI, .any (mapE (fun a : List UInt8 => Value.string (gstr a)) (fun a : Int => Value.int .i64 a) B160 m3_286), .blk ig (.cells #[.int .i64 a0.Points, .bool a0.Monoid, .slice aH a0.Gens.length aI, .slice jj i4 jk, .slice ku ja kw, .slice jr i9 jK, .slice gH gG gI, .slice jI i8 jJ, .int .i64 k2_226] 29 (0, 0)), .row 39 2 jI i8 jJ mz, .row 26 1 gH gG gI li, .row 3 1 jr i9 jK oJ, .row 3 1 ku ja kw pP, .row 26 1 BU (i4 + 1) BV o6, .blk B8 (.cells #[.int .i64 (0 : Int), .bool false, .slice none 0 0, .slice none 0 0, .slice none 0 0, .slice none 0 0, .slice none 0 0, .slice none 0 0, .int .i64 (0 : Int)] 29 (0, 0))] ++ A388) Ix [.int .i64 k2_226] [k2_226] := (Els.cons rfl rfl (Els.nil _ _ _) (by simp [mx]))
     have ws := gainCh (w := Ix) (E := [.row 3 1 oT ms oU sc, .row 9 1 nK nc nM oI, .any (mapE (fun a : List UInt8 => Value.string (gstr a)) (fun a : Int => Value.int .i64 a) B160 m3_286), .blk ig (.cells #[.int .i64 a0.Points, .bool a0.Monoid, .slice aH a0.Gens.length aI, .slice jj i4 jk, .slice ku ja kw, .slice jr i9 jK, .slice gH gG gI, .slice jI i8 jJ, .int .i64 k2_226] 29 (0, 0)), .row 39 2 jI i8 jJ mz, .row 26 1 gH gG gI li, .row 3 1 jr i9 jK oJ, .row 3 1 ku ja kw pP, .row 26 1 BU (i4 + 1) BV o6, .blk B8 (.cells #[.int .i64 (0 : Int), .bool false, .slice none 0 0, .slice none 0 0, .slice none 0 0, .slice none 0 0, .slice none 0 0, .slice none 0 0, .int .i64 (0 : Int)] 29 (0, 0))]) (e := .row 3 1 (some ⟨MY, 0, none⟩) 1 1 [.int .i64 k2_226]) JD rfl
     replace hB := (hB.trans oK.fr).trans (vE.same.fr _)
     replace hB := Fr.gain (e := .row 3 1 (some ⟨MY, 0, none⟩) 1 1 [.int .i64 k2_226]) hB (Nat.le_trans hw357 hnb394) rfl
     replace hO := Owns.gain hO JD Hi rfl hh395 hd393
     refine GoQA.loudI rfl rfl ?_
     intro SU A399 ut
     replace hO := ut.own hO
     replace Ee := (Ee.ch ws).ch (ut.ch _)
     have hobt := freeze 0 hO rfl Ee
     obtain ⟨hO1, wt, ip, Rv⟩ := hobt
     dsimp only [eS, eZ] at hO1 wt ip
     replace hB := (hB.trans (ut.same.fr _)).trans (Owns.dropFr _ _ 0)
     dsimp only [eS, eZ] at hB
     replace hO := hO1; clear hO1
     obtain ⟨UB, H⟩ := H
     have Z21 := ((((((((((((wI.ch.trans iD.ch).trans jb.ch).trans tP.ch).trans lP.ch).trans (wr.ch _)).trans ld).trans (vD.ch _)).trans xn).trans oK.ch).trans (vE.ch _)).trans ws).trans (ut.ch _)).trans wt
     replace e9 := e9.ch Z21
     have hobt := oapp Try.underlying26 ti3 rfl 7 hO rfl e9 ip Rv UB (by decide)
     obtain ⟨abl, EE, EF, Hj, nj, iA, FD⟩ := hobt
     dsimp only [sS, sZ] at nj iA
     refine GoAt.step (FD (by exact rfl) (by exact rfl)) (fun _ => (CSv.cons (cs_eq (blkCell 3 hO rfl rfl) (blkCell 3 nj.own rfl rfl)) (CSv.cons (cs_eq (blkCell 3 hO rfl rfl) (blkCell 3 nj.own rfl rfl)) (CSv.cons (cs_eq (blkCell 3 hO rfl rfl) (blkCell 3 nj.own rfl rfl)) (CSv.cons (cs_eq (blkCell 3 hO rfl rfl) (blkCell 3 nj.own rfl rfl)) (CSv.nil _ _)))))) (Stp.kp hO nj) rfl ?_
     replace hO := nj.own
     refine GoQA.alloc rfl rfl (alBuild (n := 1) (parts := [(0, .int .i64 (k3_273 : Int))]) (vs := [.int .i64 (k3_273 : Int)]) Try.underlying26 ti3 (by decide) (by decide) (by decide) (by kernel_rfl) rfl rfl) ?_
     intro M0 A415 M1 A417 uu JE hd420 hnb421 hh422
     replace hO := uu.own hO
     have Ef : Els (Rp.int .i64) (bl [.row 3 1 oT ms oU sc, .row 9 1 nK nc nM oI, .any (mapE (fun a : List UInt8 => Value.string (gstr a)) (fun a : Int => Value.int .i64 a) B160 m3_286), .blk ig (.cells #[.int .i64 a0.Points, .bool a0.Monoid, .slice aH a0.Gens.length aI, .slice jj i4 jk, .slice ku ja kw, .slice jr i9 jK, .slice gH gG gI, .slice jI i8 jJ, .int .i64 k2_226] 29 (0, 0)), .row 39 2 jI i8 jJ mz, .row 26 1 gH gG gI li, .row 3 1 jr i9 jK oJ, .row 3 1 EE (ja + 1) EF Hj, .row 26 1 BU (i4 + 1) BV o6, .blk B8 (.cells #[.int .i64 (0 : Int), .bool false, .slice none 0 0, .slice none 0 0, .slice none 0 0, .slice none 0 0, .slice none 0 0, .slice none 0 0, .int .i64 (0 : Int)] 29 (0, 0))] ++ A415) M0 [.int .i64 (k3_273 : Int)] [(k3_273 : Int)] := (Els.cons rfl rfl (Els.nil _ _ _) (by simp [mx]))
     have vF := gainCh (w := M0) (E := [.row 3 1 oT ms oU sc, .row 9 1 nK nc nM oI, .any (mapE (fun a : List UInt8 => Value.string (gstr a)) (fun a : Int => Value.int .i64 a) B160 m3_286), .blk ig (.cells #[.int .i64 a0.Points, .bool a0.Monoid, .slice aH a0.Gens.length aI, .slice jj i4 jk, .slice ku ja kw, .slice jr i9 jK, .slice gH gG gI, .slice jI i8 jJ, .int .i64 k2_226] 29 (0, 0)), .row 39 2 jI i8 jJ mz, .row 26 1 gH gG gI li, .row 3 1 jr i9 jK oJ, .row 3 1 EE (ja + 1) EF Hj, .row 26 1 BU (i4 + 1) BV o6, .blk B8 (.cells #[.int .i64 (0 : Int), .bool false, .slice none 0 0, .slice none 0 0, .slice none 0 0, .slice none 0 0, .slice none 0 0, .slice none 0 0, .int .i64 (0 : Int)] 29 (0, 0))]) (e := .row 3 1 (some ⟨M1, 0, none⟩) 1 1 [.int .i64 (k3_273 : Int)]) JE rfl
     replace hB := (hB.trans nj.fr).trans (uu.same.fr _)
     replace hB := Fr.gain (e := .row 3 1 (some ⟨M1, 0, none⟩) 1 1 [.int .i64 (k3_273 : Int)]) hB (Nat.le_trans hw357 hnb421) rfl
     replace hO := Owns.gain hO JE Hi rfl hh422 hd420
     refine GoQA.loudI rfl rfl ?_
     intro abm A426 ta
     replace hO := ta.own hO
     replace Ef := (Ef.ch vF).ch (ta.ch _)
     have hobt := freeze 0 hO rfl Ef
     obtain ⟨hO1, vG, jN, Rw⟩ := hobt
     dsimp only [eS, eZ] at hO1 vG jN
     replace hB := (hB.trans (ta.same.fr _)).trans (Owns.dropFr _ _ 0)
     dsimp only [eS, eZ] at hB
     replace hO := hO1; clear hO1
     obtain ⟨UC, H⟩ := H
     have Z22 := ((((Z21.trans nj.ch).trans (uu.ch _)).trans vF).trans (ta.ch _)).trans vG
     replace d6 := d6.ch Z22
     have hobt := oapp Try.underlying26 ti3 rfl 6 hO rfl d6 jN Rw UC (by decide)
     obtain ⟨abn, I1, I2, Rx, gY, jL, M2⟩ := hobt
     dsimp only [sS, sZ] at gY jL
     refine GoAt.step (M2 (by exact rfl) (by exact rfl)) (fun _ => (CSv.cons (cs_eq (blkCell 3 hO rfl rfl) (blkCell 3 gY.own rfl rfl)) (CSv.cons (cs_eq (blkCell 3 hO rfl rfl) (blkCell 3 gY.own rfl rfl)) (CSv.cons (cs_eq (blkCell 3 hO rfl rfl) (blkCell 3 gY.own rfl rfl)) (CSv.cons (cs_eq (blkCell 3 hO rfl rfl) (blkCell 3 gY.own rfl rfl)) (CSv.nil _ _)))))) (Stp.kp hO gY) rfl ?_
     replace hO := gY.own
     refine GoQA.lastI rfl rfl ?_
     intro abo A441 tc
     replace hO := tc.own hO
     have hobt := oblkSt2 (v := .slice BU (i4 + 1) BV) (i := 3) (cs' := #[.int .i64 a0.Points, .bool a0.Monoid, .slice aH a0.Gens.length aI, .slice BU (i4 + 1) BV, .slice ku ja kw, .slice jr i9 jK, .slice gH gG gI, .slice jI i8 jJ, .int .i64 k2_226]) 3 hO rfl rfl rfl rfl
     obtain ⟨abp, pt, M3⟩ := hobt
     dsimp only [sS, sZ] at pt
     refine GoAt.step (M3 Try.underlying22 rfl ti22 (by exact rfl) (by exact rfl)) (fun h => nomatch h) (Stp.kp hO pt) rfl ?_
     replace hO := pt.own
     refine GoQA.pure rfl (op_fieldAddr Try.underlying29 rfl ti26 rfl (by decide)) rfl rfl ?_
     refine GoQA.lastI rfl rfl ?_
     intro abq A447 te
     replace hO := te.own hO
     have hobt := oblkSt2 (v := .slice EE (ja + 1) EF) (i := 4) (cs' := #[.int .i64 a0.Points, .bool a0.Monoid, .slice aH a0.Gens.length aI, .slice BU (i4 + 1) BV, .slice EE (ja + 1) EF, .slice jr i9 jK, .slice gH gG gI, .slice jI i8 jJ, .int .i64 k2_226]) 3 hO rfl rfl rfl rfl
     obtain ⟨abr, pv, FG⟩ := hobt
     dsimp only [sS, sZ] at pv
     refine GoAt.step (FG Try.underlying26 rfl ti26 (by exact rfl) (by exact rfl)) (fun h => nomatch h) (Stp.kp hO pv) rfl ?_
     replace hO := pv.own
     refine GoQA.pure rfl (op_fieldAddr Try.underlying29 rfl ti26 rfl (by decide)) rfl rfl ?_
     refine GoQA.lastI rfl rfl ?_
     intro abs A453 tf
     replace hO := tf.own hO
     have hobt := oblkSt2 (v := .slice I1 (i9 + 1) I2) (i := 5) (cs' := #[.int .i64 a0.Points, .bool a0.Monoid, .slice aH a0.Gens.length aI, .slice BU (i4 + 1) BV, .slice EE (ja + 1) EF, .slice I1 (i9 + 1) I2, .slice gH gG gI, .slice jI i8 jJ, .int .i64 k2_226]) 3 hO rfl rfl rfl rfl
     obtain ⟨S1, px, M4⟩ := hobt
     dsimp only [sS, sZ] at px
     refine GoAt.step (M4 Try.underlying26 rfl ti26 (by exact rfl) (by exact rfl)) (fun h => nomatch h) (Stp.kp hO px) rfl ?_
     replace hO := px.own
     refine GoQA.nil ?_
     intro Un A459 tg uv
     replace hO := tg.own hO
     replace hO := hO.permA uv
     refine zq ?_
     refine Go1.cut [(1, .int .i64 k2_225), (4, .pointer (some ⟨B8, 0, none⟩)), (6, .pointer (some ⟨ig, 0, none⟩)), (7, .map (some B160)), (8, .slice nK nc nM), (10, .slice oT ms oU), (11, .string (gstr (ix d_227 k2_226))), (14, .int .i64 (d_305.length : Int)), (15, .string (gstr ((ix d_227 k2_226) ++ r342))), (86, .int .i64 (a0.Gens.length : Int)), (87, .int .i64 (k3_273 : Int))] ⟨rfl, rfl, rfl, rfl, rfl, rfl, rfl, rfl, rfl, rfl, rfl, trivial⟩ ?_
     intro σ _
     refine zr (zm rfl (zm rfl ?_))
     have hobt := obuild (r := Rp.str) (n := 1) (parts := [(0, .string (gstr ((ix d_227 k2_226) ++ r342)))]) (vs := [.string (gstr ((ix d_227 k2_226) ++ r342))]) (xs := [(ix d_227 k2_226) ++ r342]) rfl Try.underlying70 ti9 hO (by decide) (by kernel_rfl) (Els.cons rfl ⟨rfl, (lenApp I0)⟩ (Els.nil _ _ _) (by simp [mx])) rfl
     obtain ⟨abt, abu, ke, Ry, Ww, M5⟩ := hobt
     refine zg (M5 rfl) ?_
     replace hO := ke.own
     have hobt := freeze 0 hO rfl Ry
     obtain ⟨hO1, uw, xo, Rz⟩ := hobt
     dsimp only [eS, eZ] at hO1 uw xo
     replace hB := (((((((((hB.trans gY.fr).trans (tc.same.fr _)).trans pt.fr).trans (te.same.fr _)).trans pv.fr).trans (tf.same.fr _)).trans px.fr).trans (tg.same.fr _)).trans ke.fr).trans (Owns.dropFr _ _ 0)
     dsimp only [eS, eZ] at hB
     replace hO := hO1; clear hO1
     obtain ⟨UD, H⟩ := H
     have Z23 := ((((((((((Z22.trans gY.ch).trans (tc.ch _)).trans pt.ch).trans (te.ch _)).trans pv.ch).trans (tf.ch _)).trans px.ch).trans (tg.ch _)).trans (permCh uv _)).trans ke.ch).trans uw
     replace cU := cU.ch Z23
     have hobt := oapp Try.underlying70 ti9 rfl 1 hO rfl cU xo Rz UD (by decide)
     obtain ⟨abv, UE, UF, RA, jO, wS, M6⟩ := hobt
     dsimp only [sS, sZ] at jO wS
     refine zg (M6 (by exact rfl) (by exact rfl)) ?_
     replace hO := jO.own
     refine za rfl (zn (zr (zm rfl (zm rfl (zm rfl ?_)))))
     have hobt := omapUpd (MK.str Try.underlying9) 2 hO rfl Try.underlying69 ((ix d_227 k2_226) ++ r342) (d_305.length : Int)
     obtain ⟨abw, pz, FH⟩ := hobt
     dsimp only [sS, sZ] at pz
     refine zg (FH (by exact rfl) (by exact rfl) (by exact rfl)) ?_
     replace hO := pz.own
     refine zn (zr (zm rfl (zm rfl ?_)))
     have hobt := obuild (r := Rp.int .i64) (n := 1) (parts := [(0, .int .i64 (d_305.length : Int))]) (vs := [.int .i64 (d_305.length : Int)]) (xs := [(d_305.length : Int)]) rfl Try.underlying26 ti3 hO (by decide) (by kernel_rfl) (Els.cons rfl rfl (Els.nil _ _ _) (by simp [mx])) rfl
     obtain ⟨abx, aby, iX, E0, Wx, M7⟩ := hobt
     refine zg (M7 rfl) ?_
     replace hO := iX.own
     have hobt := freeze 0 hO rfl E0
     obtain ⟨hO1, th, E5, RB⟩ := hobt
     dsimp only [eS, eZ] at hO1 th E5
     replace hB := (((hB.trans jO.fr).trans pz.fr).trans iX.fr).trans (Owns.dropFr _ _ 0)
     dsimp only [eS, eZ] at hB
     replace hO := hO1; clear hO1
     obtain ⟨UG, H⟩ := H
     have Z24 := (((Z23.trans jO.ch).trans pz.ch).trans iX.ch).trans th
     replace dD := dD.ch Z24
     have hobt := oapp Try.underlying26 ti3 rfl 0 hO rfl dD E5 RB UG (by decide)
     obtain ⟨abz, UH, UI, RD, pC, JF, M8⟩ := hobt
     dsimp only [sS, sZ] at pC JF
     refine zg (M8 (by exact rfl) (by exact rfl)) ?_
     replace hO := pC.own
     refine za rfl (zn ?_)
     refine Go1.inBlock ?_
     refine zr ?_
     have Z25 := ((((((((((((((((((((((((((((((((iD.ch.trans jb.ch).trans tP.ch).trans lP.ch).trans (wr.ch _)).trans ld).trans (vD.ch _)).trans xn).trans oK.ch).trans (vE.ch _)).trans ws).trans (ut.ch _)).trans wt).trans nj.ch).trans (uu.ch _)).trans vF).trans (ta.ch _)).trans vG).trans gY.ch).trans (tc.ch _)).trans pt.ch).trans (te.ch _)).trans pv.ch).trans (tf.ch _)).trans px.ch).trans (tg.ch _)).trans (permCh uv _)).trans ke.ch).trans uw).trans jO.ch).trans pz.ch).trans iX.ch).trans th).trans pC.ch
     replace aa := aa.ch Z25
     refine zo (op_add rfl rfl (wrap_i64 (natbd BT aa.bd))) (zm rfl (zn ?_))
     replace hB := hB.trans pC.fr
     have Z26 := ((pz.ch.trans iX.ch).trans th).trans pC.ch
     replace wS := wS.ch Z26
     have Z27 := ((((((((((((((tc.ch _).trans pt.ch).trans (te.ch _)).trans pv.ch).trans (tf.ch _)).trans px.ch).trans (tg.ch _)).trans (permCh uv _)).trans ke.ch).trans uw).trans jO.ch).trans pz.ch).trans iX.ch).trans th).trans pC.ch
     replace jL := jL.ch Z27
     have Z28 := (((((((((((((((((((uu.ch _).trans vF).trans (ta.ch _)).trans vG).trans gY.ch).trans (tc.ch _)).trans pt.ch).trans (te.ch _)).trans pv.ch).trans (tf.ch _)).trans px.ch).trans (tg.ch _)).trans (permCh uv _)).trans ke.ch).trans uw).trans jO.ch).trans pz.ch).trans iX.ch).trans th).trans pC.ch
     replace iA := iA.ch Z28
     have Z29 := ((((((((((((((((((((((((vE.ch _).trans ws).trans (ut.ch _)).trans wt).trans nj.ch).trans (uu.ch _)).trans vF).trans (ta.ch _)).trans vG).trans gY.ch).trans (tc.ch _)).trans pt.ch).trans (te.ch _)).trans pv.ch).trans (tf.ch _)).trans px.ch).trans (tg.ch _)).trans (permCh uv _)).trans ke.ch).trans uw).trans jO.ch).trans pz.ch).trans iX.ch).trans th).trans pC.ch
     replace gN := gN.ch Z29
     have Z30 := Z24.trans pC.ch
     replace bE := bE.ch Z30
     replace cp := cp.ch Z30
     exact hX3 _ H _ _ ⟨ms + 1, UH, UI, RD, nc + 1, UE, UF, RA, i8, jI, jJ, mz, i9 + 1, I1, I2, Rx, ja + 1, EE, EF, Hj, i4 + 1, BU, BV, o6, ⟨rfl, rfl, rfl, rfl, rfl, rfl, rfl, rfl, rfl, trivial⟩, hO, JF, wS, bE, cp, jL, iA, gN, aa, hB⟩
    replace H := ifn Em H
    refine zo (fun w => opB (op_lss rfl rfl w) (decide_eq_false Em)) (zn (zf rfl rfl (zq (zr (zm rfl ?_)))))
    by_cases Hk : (ix d_227 k2_226) = (([] : Str))
    ·replace H := ifp Hk H
     refine zo (fun w => opB (op_neqS rfl rfl w) (ndT Hk)) (zm rfl (zp (zp (zp (zp ?_)))))
     refine zp (zp (zo (op_pickF rfl rfl rfl) (zn (zf rfl rfl (zk ?_)))))
     refine Go1.cut [(1, .int .i64 k2_225), (4, .pointer (some ⟨B8, 0, none⟩)), (6, .pointer (some ⟨ig, 0, none⟩)), (7, .map (some B160)), (8, .slice nK nc nM), (10, .slice oT ms oU), (11, .string (gstr (ix d_227 k2_226))), (14, .int .i64 r336), (86, .int .i64 (a0.Gens.length : Int)), (87, .int .i64 (k3_273 : Int))] ⟨rfl, rfl, rfl, rfl, rfl, rfl, rfl, rfl, rfl, rfl, trivial⟩ ?_
     intro σ _
     refine zr (zm rfl (zm rfl ?_))
     have hobt := obuild (r := Rp.int .i64) (n := 1) (parts := [(0, .int .i64 r336)]) (vs := [.int .i64 r336]) (xs := [r336]) rfl Try.underlying26 ti3 hO (by decide) (by kernel_rfl) (Els.cons rfl rfl (Els.nil _ _ _) (by simp [mx])) rfl
     obtain ⟨abA, abB, tQ, RE, Wy, M9⟩ := hobt
     refine zg (M9 rfl) ?_
     replace hO := tQ.own
     have hobt := freeze 0 hO rfl RE
     obtain ⟨hO1, xp, E6, RF⟩ := hobt
     dsimp only [eS, eZ] at hO1 xp E6
     replace hB := (((((hB.trans wI.fr).trans iD.fr).trans jb.fr).trans tP.fr).trans tQ.fr).trans (Owns.dropFr _ _ 0)
     dsimp only [eS, eZ] at hB
     replace hO := hO1; clear hO1
     obtain ⟨UJ, H⟩ := H
     have Z31 := ((((wI.ch.trans iD.ch).trans jb.ch).trans tP.ch).trans tQ.ch).trans xp
     replace dD := dD.ch Z31
     have hobt := oapp Try.underlying26 ti3 rfl 0 hO rfl dD E6 RF UJ (by decide)
     obtain ⟨abC, UK, UL, RG, sJ, JG, Fu⟩ := hobt
     dsimp only [sS, sZ] at sJ JG
     refine zg (Fu (by exact rfl) (by exact rfl)) ?_
     replace hO := sJ.own
     refine za rfl (zn ?_)
     refine Go1.inBlock ?_
     refine zr ?_
     have Z32 := ((((iD.ch.trans jb.ch).trans tP.ch).trans tQ.ch).trans xp).trans sJ.ch
     replace aa := aa.ch Z32
     refine zo (op_add rfl rfl (wrap_i64 (natbd BT aa.bd))) (zm rfl (zn ?_))
     replace hB := hB.trans sJ.fr
     have Z33 := (((jb.ch.trans tP.ch).trans tQ.ch).trans xp).trans sJ.ch
     replace fw := fw.ch Z33
     have Z34 := Z31.trans sJ.ch
     replace cU := cU.ch Z34
     replace bE := bE.ch Z34
     replace cp := cp.ch Z34
     replace d6 := d6.ch Z34
     replace e9 := e9.ch Z34
     exact hX3 _ H _ _ ⟨ms + 1, UK, UL, RG, nc, nK, nM, oI, i8, jI, jJ, mz, i9, jr, jK, oJ, ja, ku, kw, pP, i4, jj, jk, rh, ⟨rfl, rfl, rfl, rfl, rfl, rfl, rfl, rfl, rfl, trivial⟩, hO, JG, cU, bE, cp, d6, e9, fw, aa, hB⟩
    replace H := ifn Hk H
    refine zo (fun w => opB (op_neqS rfl rfl w) (ndF Hk)) (zm rfl (zm rfl (zm rfl ?_)))
    obtain ⟨Hl, H⟩ := H
    obtain ⟨Hm, H⟩ := H
    have Z35 := ((wI.ch.trans iD.ch).trans jb.ch).trans tP.ch
    replace cU := cU.ch Z35
    refine zo (op_index Try.underlying70 ti9 rfl rfl Hl (ltn (cU.neq hO 1 rfl) Hm) (cU.psome hO 1 rfl Hl Hm)) (zs (oldStr 1 hO rfl cU Hl Hm Try.underlying9 rfl rfl) ?_)
    have hle525 := Els.str_le cU Hl Hm
    refine zm rfl ?_
    by_cases Hn : (ix d_280 r336) = ((ix d_227 k2_226) ++ r342)
    ·replace H := ifp Hn H
     refine zo (fun w => opB (op_neqS rfl rfl w) (ndT Hn)) (zo (op_pickT rfl rfl rfl) (zn (zf rfl rfl (zk (zr ?_)))))
     refine zm rfl (zm rfl ?_)
     have hobt := obuild (r := Rp.int .i64) (n := 1) (parts := [(0, .int .i64 r336)]) (vs := [.int .i64 r336]) (xs := [r336]) rfl Try.underlying26 ti3 hO (by decide) (by kernel_rfl) (Els.cons rfl rfl (Els.nil _ _ _) (by simp [mx])) rfl
     obtain ⟨abD, abE, tR, BP, Wz, Na⟩ := hobt
     refine zg (Na rfl) ?_
     replace hO := tR.own
     have hobt := freeze 0 hO rfl BP
     obtain ⟨hO1, xq, E7, RH⟩ := hobt
     dsimp only [eS, eZ] at hO1 xq E7
     replace hB := (((((hB.trans wI.fr).trans iD.fr).trans jb.fr).trans tP.fr).trans tR.fr).trans (Owns.dropFr _ _ 0)
     dsimp only [eS, eZ] at hB
     replace hO := hO1; clear hO1
     obtain ⟨UM, H⟩ := H
     replace dD := ((dD.ch Z35).ch tR.ch).ch xq
     have hobt := oapp Try.underlying26 ti3 rfl 0 hO rfl dD E7 RH UM (by decide)
     obtain ⟨HT, Nb, Nc, RI, je, C3, Nd⟩ := hobt
     dsimp only [sS, sZ] at je C3
     refine zg (Nd (by exact rfl) (by exact rfl)) ?_
     replace hO := je.own
     refine za rfl (zn ?_)
     refine Go1.inBlock ?_
     refine Go1.cut [(1, .int .i64 k2_225), (4, .pointer (some ⟨B8, 0, none⟩)), (6, .pointer (some ⟨ig, 0, none⟩)), (7, .map (some B160)), (8, .slice nK nc nM), (10, .slice Nb (ms + 1) Nc), (11, .string (gstr (ix d_227 k2_226))), (86, .int .i64 (a0.Gens.length : Int)), (87, .int .i64 (k3_273 : Int))] ⟨rfl, rfl, rfl, rfl, rfl, rfl, rfl, rfl, rfl, trivial⟩ ?_
     intro σ _
     refine zr ?_
     have Z36 := ((((iD.ch.trans jb.ch).trans tP.ch).trans tR.ch).trans xq).trans je.ch
     replace aa := aa.ch Z36
     refine zo (op_add rfl rfl (wrap_i64 (natbd BT aa.bd))) (zm rfl (zn ?_))
     replace hB := hB.trans je.fr
     have Z37 := (tR.ch.trans xq).trans je.ch
     replace cU := cU.ch Z37
     have Z38 := (((jb.ch.trans tP.ch).trans tR.ch).trans xq).trans je.ch
     replace fw := fw.ch Z38
     have Z39 := ((Z35.trans tR.ch).trans xq).trans je.ch
     replace bE := bE.ch Z39
     replace cp := cp.ch Z39
     replace d6 := d6.ch Z39
     replace e9 := e9.ch Z39
     exact hX3 _ H _ _ ⟨ms + 1, Nb, Nc, RI, nc, nK, nM, oI, i8, jI, jJ, mz, i9, jr, jK, oJ, ja, ku, kw, pP, i4, jj, jk, rh, ⟨rfl, rfl, rfl, rfl, rfl, rfl, rfl, rfl, rfl, trivial⟩, hO, C3, cU, bE, cp, d6, e9, fw, aa, hB⟩
    replace H := ifn Hn H
    refine zo (fun w => opB (op_neqS rfl rfl w) (ndF Hn)) (zo (op_pickT rfl rfl rfl) (zn (zt rfl rfl (zq (zr ?_)))))
    refine zm rfl (zm rfl ?_)
    obtain ⟨UN, H⟩ := H
    obtain ⟨UO, H⟩ := H
    refine zo (op_sliceS Try.underlying9 rfl rfl UN UO) ?_
    by_cases Ho : mhas m3_286 ((((ix d_227 k2_226) ++ r342).drop (1 : Int).toNat)) = true
    ·replace H := ifp Ho H
     refine zs (olookT (a := (((ix d_227 k2_226) ++ r342).drop (1 : Int).toNat)) (MK.str Try.underlying9) 2 hO rfl Try.underlying69 rfl rfl Ho) (zm rfl (zo (op_extract rfl rfl) (zo (op_extract rfl rfl) (za rfl (za rfl ?_)))))
     refine zn (zq (zr (zm rfl (zn (zt rfl rfl ?_)))))
     refine Go1.drawS 3 [(0, .pure), (1, .stable), (2, .pure), (3, .pure), (4, .pure), (5, .pure), (6, .stable), (7, .pure), (8, .loud), (9, .last), (10, .pure), (11, .last)] mixed (by kernel_rfl) ?_
     intro abF RJ
     have tS := Stp.same hO RJ
     replace hO := tS.own
     refine GoQ.pure rfl (op_fieldAddr Try.underlying29 rfl ti27 rfl (by decide)) rfl rfl ?_
     refine GoQ.stable rfl (oblk (i := 7) 3 hO rfl rfl Try.underlying27 rfl rfl) rfl rfl ?_
     refine GoQ.pure rfl (op_move rfl) rfl rfl ?_
     refine GoQ.pure rfl (op_move rfl) rfl rfl ?_
     refine GoQ.pure rfl (op_move rfl) rfl rfl ?_
     obtain ⟨Hp, H⟩ := H
     obtain ⟨Hq, H⟩ := H
     replace cU := cU.ch tS.ch
     refine GoQ.pure rfl (op_index Try.underlying70 ti9 rfl rfl Hp (ltn (cU.neq hO 1 rfl) Hq) (cU.psome hO 1 rfl Hp Hq)) rfl rfl ?_
     refine GoQ.stable rfl (oldStr 1 hO rfl cU Hp Hq Try.underlying9 rfl rfl) rfl rfl ?_
     have hle554 := Els.str_le cU Hp Hq
     refine GoQ.pure rfl (op_build Try.underlying39 ti39 (pl := [(0, 1), (1, 1)]) (vs := [(0, .string (gstr ((ix d_227 k2_226) ++ r342))), (1, .string (gstr (ix d_280 r336)))]) (cs := #[.string (gstr ((ix d_227 k2_226) ++ r342)), .string (gstr (ix d_280 r336))]) (by kernel_rfl) rfl (by kernel_rfl)) rfl rfl ?_
     have hobt := obuildN (r := rpRule) (n := 1) (parts := [(0, .agg #[.string (gstr ((ix d_227 k2_226) ++ r342)), .string (gstr (ix d_280 r336))])]) (vs := [.string (gstr ((ix d_227 k2_226) ++ r342)), .string (gstr (ix d_280 r336))]) (xs := [(⟨(ix d_227 k2_226) ++ r342, ix d_280 r336⟩ : Rule)]) Try.underlying27 ti39 hO (by decide) (by decide) (by kernel_rfl) (Els.flat1 (⟨(ix d_227 k2_226) ++ r342, ix d_280 r336⟩ : Rule) ⟨(lenApp I0), hle554⟩) rfl
     obtain ⟨abG, abH, tT, RK, RL, Nf⟩ := hobt
     refine GoQ.loud rfl (Nf rfl) RL rfl rfl ?_
     replace hO := tT.own
     have hobt := freeze 0 hO rfl RK
     obtain ⟨hO1, oH, kd, Hb⟩ := hobt
     dsimp only [eS, eZ] at hO1 oH kd
     replace hB := ((((((hB.trans wI.fr).trans iD.fr).trans jb.fr).trans tP.fr).trans tS.fr).trans tT.fr).trans (Owns.dropFr _ _ 0)
     dsimp only [eS, eZ] at hB
     replace hO := hO1; clear hO1
     obtain ⟨IU, H⟩ := H
     have Z40 := ((Z35.trans tS.ch).trans tT.ch).trans oH
     replace bE := bE.ch Z40
     have hobt := oapp Try.underlying27 ti39 rfl 4 hO rfl bE kd Hb IU (by decide)
     obtain ⟨Ur, DU, DW, Hc, iY, lh, FL⟩ := hobt
     dsimp only [sS, sZ] at iY lh
     refine GoQ.last rfl (FL (by exact rfl) (by exact rfl)) rfl rfl ?_
     replace hO := iY.own
     refine GoQ.pure rfl (op_fieldAddr Try.underlying29 rfl ti27 rfl (by decide)) rfl rfl ?_
     have hobt := oblkSt2 (v := .slice DU (i8 + 1) DW) (i := 7) (cs' := #[.int .i64 a0.Points, .bool a0.Monoid, .slice aH a0.Gens.length aI, .slice jj i4 jk, .slice ku ja kw, .slice jr i9 jK, .slice gH gG gI, .slice DU (i8 + 1) DW, .int .i64 k2_226]) 3 hO rfl rfl rfl rfl
     obtain ⟨Us, rO, Ng⟩ := hobt
     dsimp only [sS, sZ] at rO
     refine GoQ.last rfl (Ng Try.underlying27 rfl ti27 (by exact rfl) (by exact rfl)) rfl rfl ?_
     replace hO := rO.own
     refine GoQ.nil ?_
     refine Go1.cut [(1, .int .i64 k2_225), (4, .pointer (some ⟨B8, 0, none⟩)), (6, .pointer (some ⟨ig, 0, none⟩)), (7, .map (some B160)), (8, .slice nK nc nM), (10, .slice oT ms oU), (11, .string (gstr (ix d_227 k2_226))), (14, .int .i64 r336), (86, .int .i64 (a0.Gens.length : Int)), (87, .int .i64 (k3_273 : Int))] ⟨rfl, rfl, rfl, rfl, rfl, rfl, rfl, rfl, rfl, rfl, trivial⟩ ?_
     intro σ _
     refine zr (zm rfl (zm rfl ?_))
     have hobt := obuild (r := Rp.int .i64) (n := 1) (parts := [(0, .int .i64 r336)]) (vs := [.int .i64 r336]) (xs := [r336]) rfl Try.underlying26 ti3 hO (by decide) (by kernel_rfl) (Els.cons rfl rfl (Els.nil _ _ _) (by simp [mx])) rfl
     obtain ⟨Ut, abI, sK, RM, WA, Nh⟩ := hobt
     refine zg (Nh rfl) ?_
     replace hO := sK.own
     have hobt := freeze 0 hO rfl RM
     obtain ⟨hO1, wu, E8, RN⟩ := hobt
     dsimp only [eS, eZ] at hO1 wu E8
     replace hB := (((hB.trans iY.fr).trans rO.fr).trans sK.fr).trans (Owns.dropFr _ _ 0)
     dsimp only [eS, eZ] at hB
     replace hO := hO1; clear hO1
     obtain ⟨UP, H⟩ := H
     have Z41 := (((Z40.trans iY.ch).trans rO.ch).trans sK.ch).trans wu
     replace dD := dD.ch Z41
     have hobt := oapp Try.underlying26 ti3 rfl 0 hO rfl dD E8 RN UP (by decide)
     obtain ⟨abJ, UQ, UR, RO, rP, JH, Ni⟩ := hobt
     dsimp only [sS, sZ] at rP JH
     refine zg (Ni (by exact rfl) (by exact rfl)) ?_
     replace hO := rP.own
     refine za rfl (zn ?_)
     refine Go1.inBlock ?_
     refine zr ?_
     have Z42 := (((((((((iD.ch.trans jb.ch).trans tP.ch).trans tS.ch).trans tT.ch).trans oH).trans iY.ch).trans rO.ch).trans sK.ch).trans wu).trans rP.ch
     replace aa := aa.ch Z42
     refine zo (op_add rfl rfl (wrap_i64 (natbd BT aa.bd))) (zm rfl (zn ?_))
     replace hB := hB.trans rP.fr
     have Z43 := ((rO.ch.trans sK.ch).trans wu).trans rP.ch
     replace lh := lh.ch Z43
     have Z44 := (((((tT.ch.trans oH).trans iY.ch).trans rO.ch).trans sK.ch).trans wu).trans rP.ch
     replace cU := cU.ch Z44
     have Z45 := ((((((((jb.ch.trans tP.ch).trans tS.ch).trans tT.ch).trans oH).trans iY.ch).trans rO.ch).trans sK.ch).trans wu).trans rP.ch
     replace fw := fw.ch Z45
     have Z46 := Z41.trans rP.ch
     replace cp := cp.ch Z46
     replace d6 := d6.ch Z46
     replace e9 := e9.ch Z46
     exact hX3 _ H _ _ ⟨ms + 1, UQ, UR, RO, nc, nK, nM, oI, i8 + 1, DU, DW, Hc, i9, jr, jK, oJ, ja, ku, kw, pP, i4, jj, jk, rh, ⟨rfl, rfl, rfl, rfl, rfl, rfl, rfl, rfl, rfl, trivial⟩, hO, JH, cU, lh, cp, d6, e9, fw, aa, hB⟩
    replace H := ifn Ho H
    refine zs (olookF (a := (((ix d_227 k2_226) ++ r342).drop (1 : Int).toNat)) (MK.str Try.underlying9) 2 hO rfl Try.underlying69 ti3 rfl rfl Ho) (zm rfl (zo (op_extract rfl rfl) (zo (op_extract rfl rfl) (za rfl (za rfl ?_)))))
    refine zn (zq (zr (zm rfl (zn (zf rfl rfl ?_)))))
    refine zk (zr (zm rfl (zm rfl ?_)))
    have hobt := obuild (r := Rp.int .i64) (n := 1) (parts := [(0, .int .i64 r336)]) (vs := [.int .i64 r336]) (xs := [r336]) rfl Try.underlying26 ti3 hO (by decide) (by kernel_rfl) (Els.cons rfl rfl (Els.nil _ _ _) (by simp [mx])) rfl
    obtain ⟨Uu, abK, tU, RQ, WB, Nj⟩ := hobt
    refine zg (Nj rfl) ?_
    replace hO := tU.own
    have hobt := freeze 0 hO rfl RQ
    obtain ⟨hO1, xr, E9, RR⟩ := hobt
    dsimp only [eS, eZ] at hO1 xr E9
    replace hB := (((((hB.trans wI.fr).trans iD.fr).trans jb.fr).trans tP.fr).trans tU.fr).trans (Owns.dropFr _ _ 0)
    dsimp only [eS, eZ] at hB
    replace hO := hO1; clear hO1
    obtain ⟨US, H⟩ := H
    replace dD := ((dD.ch Z35).ch tU.ch).ch xr
    have hobt := oapp Try.underlying26 ti3 rfl 0 hO rfl dD E9 RR US (by decide)
    obtain ⟨abL, UT, UU, RS, sL, JI, Nk⟩ := hobt
    dsimp only [sS, sZ] at sL JI
    refine zg (Nk (by exact rfl) (by exact rfl)) ?_
    replace hO := sL.own
    refine za rfl (zn ?_)
    refine Go1.inBlock ?_
    refine zr ?_
    have Z47 := ((((iD.ch.trans jb.ch).trans tP.ch).trans tU.ch).trans xr).trans sL.ch
    replace aa := aa.ch Z47
    refine zo (op_add rfl rfl (wrap_i64 (natbd BT aa.bd))) (zm rfl (zn ?_))
    replace hB := hB.trans sL.fr
    have Z48 := (tU.ch.trans xr).trans sL.ch
    replace cU := cU.ch Z48
    have Z49 := (((jb.ch.trans tP.ch).trans tU.ch).trans xr).trans sL.ch
    replace fw := fw.ch Z49
    have Z50 := ((Z35.trans tU.ch).trans xr).trans sL.ch
    replace bE := bE.ch Z50
    replace cp := cp.ch Z50
    replace d6 := d6.ch Z50
    replace e9 := e9.ch Z50
    exact hX3 _ H _ _ ⟨ms + 1, UT, UU, RS, nc, nK, nM, oI, i8, jI, jJ, mz, i9, jr, jK, oJ, ja, ku, kw, pP, i4, jj, jk, rh, ⟨rfl, rfl, rfl, rfl, rfl, rfl, rfl, rfl, rfl, trivial⟩, hO, JI, cU, bE, cp, d6, e9, fw, aa, hB⟩
   replace H := ifn BT H
   refine zo (fun w => opB (op_lss rfl rfl w) (decide_eq_false BT)) (zn (zq (zf rfl rfl ?_)))
   refine Go1.exit rfl ?_
   refine zq ?_
   refine Go1.cut [(1, .int .i64 k2_225), (4, .pointer (some ⟨B8, 0, none⟩)), (6, .pointer (some ⟨ig, 0, none⟩)), (7, .map (some B160)), (8, .slice nK nc nM), (10, .slice oT ms oU)] ⟨rfl, rfl, rfl, rfl, rfl, rfl, trivial⟩ ?_
   intro σ _
   refine zr (zo (op_fieldAddr Try.underlying29 rfl ti22 rfl (by decide)) (zs (oblk (i := 6) 3 hO rfl rfl Try.underlying22 rfl rfl) (zm rfl ?_)))
   have hobt := freeze 0 hO rfl dD
   obtain ⟨hO1, AI, xt, RT⟩ := hobt
   dsimp only [eS, eZ] at hO1 AI xt
   replace hB := hB.trans (Owns.dropFr _ _ 0)
   dsimp only [eS, eZ] at hB
   replace hO := hO1; clear hO1
   have hobt := obuild (r := Rp.sl (Rp.int .i64)) (n := 1) (parts := [(0, .slice oT ms oU)]) (vs := [.slice oT ms oU]) (xs := [d_274]) rfl Try.underlying22 ti26 hO (by decide) (by kernel_rfl) (Els.cons rfl ⟨oT, oU, congrArg some (congrArg (fun nn => Value.slice oT nn oU) RT), xt⟩ (Els.nil _ _ _) (by simp [mx])) rfl
   obtain ⟨Td, Te, l9, Gn, Je, Fv⟩ := hobt
   refine zg (Fv rfl) ?_
   replace hO := l9.own
   have hobt := freeze 0 hO rfl Gn
   obtain ⟨hO1, qA, oc, Gp⟩ := hobt
   dsimp only [eS, eZ] at hO1 qA oc
   replace hB := (hB.trans l9.fr).trans (Owns.dropFr _ _ 0)
   dsimp only [eS, eZ] at hB
   replace hO := hO1; clear hO1
   obtain ⟨HW, H⟩ := H
   have Z51 := (AI.trans l9.ch).trans qA
   replace cp := cp.ch Z51
   have hobt := oapp Try.underlying22 ti26 rfl 4 hO rfl cp oc Gp HW (by decide)
   obtain ⟨Tf, BA, BB, Gq, lg, q9, Fw⟩ := hobt
   dsimp only [sS, sZ] at lg q9
   refine zg (Fw (by exact rfl) (by exact rfl)) ?_
   replace hO := lg.own
   refine zo (op_fieldAddr Try.underlying29 rfl ti22 rfl (by decide)) ?_
   have hobt := oblkSt2 (v := .slice BA (gG + 1) BB) (i := 6) (cs' := #[.int .i64 a0.Points, .bool a0.Monoid, .slice aH a0.Gens.length aI, .slice jj i4 jk, .slice ku ja kw, .slice jr i9 jK, .slice BA (gG + 1) BB, .slice jI i8 jJ, .int .i64 k2_226]) 2 hO rfl rfl rfl rfl
   obtain ⟨Tg, kx, Fx⟩ := hobt
   dsimp only [sS, sZ] at kx
   refine zg (Fx Try.underlying22 rfl ti22 (by exact rfl) (by exact rfl)) ?_
   replace hO := kx.own
   refine zn (zr (zo (op_fieldAddr Try.underlying29 rfl ti3 rfl (by decide)) (zs (oblk (i := 8) 2 hO rfl rfl Try.underlying3 rfl rfl) ?_)))
   obtain ⟨UV, H⟩ := H
   refine zo (op_add rfl rfl (wrap_i64 UV)) (zo (op_fieldAddr Try.underlying29 rfl ti3 rfl (by decide)) ?_)
   have hobt := oblkSt2 (v := .int .i64 (k2_226 + (1 : Int))) (i := 8) (cs' := #[.int .i64 a0.Points, .bool a0.Monoid, .slice aH a0.Gens.length aI, .slice jj i4 jk, .slice ku ja kw, .slice jr i9 jK, .slice BA (gG + 1) BB, .slice jI i8 jJ, .int .i64 (k2_226 + (1 : Int))]) 2 hO rfl rfl rfl rfl
   obtain ⟨abM, kV, Nl⟩ := hobt
   dsimp only [sS, sZ] at kV
   refine zg (Nl Try.underlying3 rfl ti3 (by exact rfl) (by exact rfl)) ?_
   replace hO := kV.own
   refine zn ?_
   refine Go1.inBlock ?_
   refine zr (zm rfl ?_)
   obtain ⟨UW, H⟩ := H
   refine zo (op_sub rfl rfl (wrap_i64 UW)) (za rfl (zn ?_))
   replace q9 := (q9.ch kx.ch).ch kV.ch
   replace hB := ((hB.trans lg.fr).trans kx.fr).trans kV.fr
   have Z52 := ((Z51.trans lg.ch).trans kx.ch).trans kV.ch
   replace aa := aa.ch Z52
   replace cU := cU.ch Z52
   replace bE := bE.ch Z52
   replace d6 := d6.ch Z52
   replace e9 := e9.ch Z52
   replace fw := fw.ch Z52
   exact hX2 _ H _ _ ⟨nc, nK, nM, oI, i8, jI, jJ, mz, gG + 1, BA, BB, Gq, i9, jr, jK, oJ, ja, ku, kw, pP, i4, jj, jk, rh, ⟨rfl, rfl, rfl, rfl, rfl, trivial⟩, hO, cU, bE, q9, d6, e9, fw, aa, hB⟩
  replace H := ifn Hf H
  refine zo (fun w => opB (op_lss rfl rfl w) (decide_eq_false Hf)) (zo (op_pickT rfl rfl rfl) (zn (zf rfl rfl ?_)))
  refine Go1.exit rfl ?_
  refine zq (zr (zs (oblkAgg (vs := [.int .i64 a0.Points, .bool a0.Monoid, .slice aH a0.Gens.length aI, .slice l7 nJ l8, .slice lY nI l5, .slice lW nH lX, .slice gH gG gI, .slice lU nG lV, .int .i64 k2_226]) (i := 0) 2 hO rfl rfl Try.underlying29 rfl ti29 rfl) ?_))
  have hobt := oblkStAgg (us := [.int .i64 a0.Points, .bool a0.Monoid, .slice aH a0.Gens.length aI, .slice l7 nJ l8, .slice lY nI l5, .slice lW nH lX, .slice gH gG gI, .slice lU nG lV, .int .i64 k2_226]) (o := 0) (cs' := #[.int .i64 a0.Points, .bool a0.Monoid, .slice aH a0.Gens.length aI, .slice l7 nJ l8, .slice lY nI l5, .slice lW nH lX, .slice gH gG gI, .slice lU nG lV, .int .i64 k2_226]) 8 hO rfl rfl (Nat.le_of_ble_eq_true rfl) rfl
  obtain ⟨abN, wJ, Nm⟩ := hobt
  dsimp only [sS, sZ] at wJ
  refine zg (Nm ti29 (by exact rfl) (by exact rfl) rfl) ?_
  replace hO := wJ.own
  refine za rfl (zn ?_)
  replace yG := yG.ch wJ.ch
  have hobt := freeze 7 hO rfl yG
  obtain ⟨hO1, BW, yH, RU⟩ := hobt
  dsimp only [eS, eZ] at hO1 BW yH
  replace hB := (hB.trans wJ.fr).trans (Owns.dropFr _ _ 7)
  dsimp only [eS, eZ] at hB
  replace hO := hO1; clear hO1
  replace t8 := (t8.ch wJ.ch).ch BW
  have hobt := freeze 6 hO rfl t8
  obtain ⟨hO1, BX, AJ, RV⟩ := hobt
  dsimp only [eS, eZ] at hO1 BX AJ
  replace hB := hB.trans (Owns.dropFr _ _ 6)
  dsimp only [eS, eZ] at hB
  replace hO := hO1; clear hO1
  have Z53 := (wJ.ch.trans BW).trans BX
  replace sH := sH.ch Z53
  have hobt := freeze 5 hO rfl sH
  obtain ⟨hO1, BY, Do, RW⟩ := hobt
  dsimp only [eS, eZ] at hO1 BY Do
  replace hB := hB.trans (Owns.dropFr _ _ 5)
  dsimp only [eS, eZ] at hB
  replace hO := hO1; clear hO1
  replace cp := (cp.ch Z53).ch BY
  have hobt := freeze 4 hO rfl cp
  obtain ⟨hO1, B1, Fa, RX⟩ := hobt
  dsimp only [eS, eZ] at hO1 B1 Fa
  replace hB := hB.trans (Owns.dropFr _ _ 4)
  dsimp only [eS, eZ] at hB
  replace hO := hO1; clear hO1
  replace mP := ((mP.ch Z53).ch BY).ch B1
  have hobt := freeze 3 hO rfl mP
  obtain ⟨hO1, B3, JJ, RY⟩ := hobt
  dsimp only [eS, eZ] at hO1 B3 JJ
  replace hB := hB.trans (Owns.dropFr _ _ 3)
  dsimp only [eS, eZ] at hB
  replace hO := hO1; clear hO1
  refine Go1.retC2 Try.func52 rfl rfl (run_loadBlk (vs := [.int .i64 a0.Points, .bool a0.Monoid, .slice aH a0.Gens.length aI, .slice l7 nJ l8, .slice lY nI l5, .slice lW nH lX, .slice gH gG gI, .slice lU nG lV, .int .i64 k2_226]) 3 hO rfl rfl Try.underlying29 rfl ti29) ?_
  replace Fa := Fa.ch B3
  replace Do := (Do.ch B1).ch B3
  have Z54 := (BY.trans B1).trans B3
  replace AJ := AJ.ch Z54
  have Z55 := ((BX.trans BY).trans B1).trans B3
  replace yH := yH.ch Z55
  have Z56 := ((Z53.trans BY).trans B1).trans B3
  replace aa := aa.ch Z56
  exact ⟨(⟨a0.Points, a0.Monoid, a0.Gens, d_258, d_252, d_246, d_240, d_234, k2_226⟩ : Enum), (0 : Int), aH, aI, l7, l8, lY, l5, lW, lX, gH, gI, lU, lV, (congrArg (fun l => Value.tuple (List.toArray l)) (cons_eq (congrArg (fun l => Value.agg (List.toArray l)) (cons_eq rfl (cons_eq rfl (cons_eq rfl (cons_eq (congrArg (fun nn => Value.slice l7 nn l8) RU) (cons_eq (congrArg (fun nn => Value.slice lY nn l5) RV) (cons_eq (congrArg (fun nn => Value.slice lW nn lX) RW) (cons_eq (congrArg (fun nn => Value.slice gH nn gI) RX) (cons_eq (congrArg (fun nn => Value.slice lU nn lV) RY) (cons_eq rfl rfl)))))))))) (cons_eq rfl rfl))), hB.same, (aa.ch (Ch.weak _ _ _)), (yH.ch (Ch.weak _ _ _)), (AJ.ch (Ch.weak _ _ _)), (Do.ch (Ch.weak _ _ _)), (Fa.ch (Ch.weak _ _ _)), (JJ.ch (Ch.weak _ _ _)), H⟩
 replace H := ifn He H
 refine zo (fun w => opB (op_gtr rfl rfl w) (decide_eq_false He)) (zm rfl (zp (zp (zp (zp ?_)))))
 refine zp (zp (zo (op_pickF rfl rfl rfl) (zn (zf rfl rfl ?_))))
 refine Go1.exit rfl ?_
 refine zq ?_
 refine Go1.cut [(4, .pointer (some ⟨B8, 0, none⟩)), (6, .pointer (some ⟨ig, 0, none⟩))] ⟨rfl, rfl, trivial⟩ ?_
 intro σ _
 refine zr (zs (oblkAgg (vs := [.int .i64 a0.Points, .bool a0.Monoid, .slice aH a0.Gens.length aI, .slice l7 nJ l8, .slice lY nI l5, .slice lW nH lX, .slice gH gG gI, .slice lU nG lV, .int .i64 k2_226]) (i := 0) 2 hO rfl rfl Try.underlying29 rfl ti29 rfl) ?_)
 have hobt := oblkStAgg (us := [.int .i64 a0.Points, .bool a0.Monoid, .slice aH a0.Gens.length aI, .slice l7 nJ l8, .slice lY nI l5, .slice lW nH lX, .slice gH gG gI, .slice lU nG lV, .int .i64 k2_226]) (o := 0) (cs' := #[.int .i64 a0.Points, .bool a0.Monoid, .slice aH a0.Gens.length aI, .slice l7 nJ l8, .slice lY nI l5, .slice lW nH lX, .slice gH gG gI, .slice lU nG lV, .int .i64 k2_226]) 8 hO rfl rfl (Nat.le_of_ble_eq_true rfl) rfl
 obtain ⟨abO, wK, Nn⟩ := hobt
 dsimp only [sS, sZ] at wK
 refine zg (Nn ti29 (by exact rfl) (by exact rfl) rfl) ?_
 replace hO := wK.own
 refine za rfl (zn ?_)
 replace yG := yG.ch wK.ch
 have hobt := freeze 7 hO rfl yG
 obtain ⟨hO1, B5, yI, R0⟩ := hobt
 dsimp only [eS, eZ] at hO1 B5 yI
 replace hB := (hB.trans wK.fr).trans (Owns.dropFr _ _ 7)
 dsimp only [eS, eZ] at hB
 replace hO := hO1; clear hO1
 replace t8 := (t8.ch wK.ch).ch B5
 have hobt := freeze 6 hO rfl t8
 obtain ⟨hO1, B6, AK, R2⟩ := hobt
 dsimp only [eS, eZ] at hO1 B6 AK
 replace hB := hB.trans (Owns.dropFr _ _ 6)
 dsimp only [eS, eZ] at hB
 replace hO := hO1; clear hO1
 have Z57 := (wK.ch.trans B5).trans B6
 replace sH := sH.ch Z57
 have hobt := freeze 5 hO rfl sH
 obtain ⟨hO1, B7, Dp, R3⟩ := hobt
 dsimp only [eS, eZ] at hO1 B7 Dp
 replace hB := hB.trans (Owns.dropFr _ _ 5)
 dsimp only [eS, eZ] at hB
 replace hO := hO1; clear hO1
 replace cp := (cp.ch Z57).ch B7
 have hobt := freeze 4 hO rfl cp
 obtain ⟨hO1, Ca, Fb, R4⟩ := hobt
 dsimp only [eS, eZ] at hO1 Ca Fb
 replace hB := hB.trans (Owns.dropFr _ _ 4)
 dsimp only [eS, eZ] at hB
 replace hO := hO1; clear hO1
 replace mP := ((mP.ch Z57).ch B7).ch Ca
 have hobt := freeze 3 hO rfl mP
 obtain ⟨hO1, Cb, JK, R5⟩ := hobt
 dsimp only [eS, eZ] at hO1 Cb JK
 replace hB := hB.trans (Owns.dropFr _ _ 3)
 dsimp only [eS, eZ] at hB
 replace hO := hO1; clear hO1
 refine Go1.retC2 Try.func52 rfl rfl (run_loadBlk (vs := [.int .i64 a0.Points, .bool a0.Monoid, .slice aH a0.Gens.length aI, .slice l7 nJ l8, .slice lY nI l5, .slice lW nH lX, .slice gH gG gI, .slice lU nG lV, .int .i64 k2_226]) 3 hO rfl rfl Try.underlying29 rfl ti29) ?_
 replace Fb := Fb.ch Cb
 replace Dp := (Dp.ch Ca).ch Cb
 have Z58 := (B7.trans Ca).trans Cb
 replace AK := AK.ch Z58
 have Z59 := ((B6.trans B7).trans Ca).trans Cb
 replace yI := yI.ch Z59
 have Z60 := ((Z57.trans B7).trans Ca).trans Cb
 replace aa := aa.ch Z60
 exact ⟨(⟨a0.Points, a0.Monoid, a0.Gens, d_258, d_252, d_246, d_240, d_234, k2_226⟩ : Enum), (0 : Int), aH, aI, l7, l8, lY, l5, lW, lX, gH, gI, lU, lV, (congrArg (fun l => Value.tuple (List.toArray l)) (cons_eq (congrArg (fun l => Value.agg (List.toArray l)) (cons_eq rfl (cons_eq rfl (cons_eq rfl (cons_eq (congrArg (fun nn => Value.slice l7 nn l8) R0) (cons_eq (congrArg (fun nn => Value.slice lY nn l5) R2) (cons_eq (congrArg (fun nn => Value.slice lW nn lX) R3) (cons_eq (congrArg (fun nn => Value.slice gH nn gI) R4) (cons_eq (congrArg (fun nn => Value.slice lU nn lV) R5) (cons_eq rfl rfl)))))))))) (cons_eq rfl rfl))), hB.same, (aa.ch (Ch.weak _ _ _)), (yI.ch (Ch.weak _ _ _)), (AK.ch (Ch.weak _ _ _)), (Dp.ch (Ch.weak _ _ _)), (Fb.ch (Ch.weak _ _ _)), (JK.ch (Ch.weak _ _ _)), H⟩
theorem body45 : Body Try.prog 45 := ⟨Try.f45, Try.func45, rfl, by kernel_rfl⟩
theorem walk_ref03_SameRows {A : List Nat} {w0 : World} {p_a : Option Addr} {c_a : Nat} {p_b : Option Addr} {c_b : Nat} {a : List (List Int)} {b : List (List Int)} (hA : ∀ b ∈ A, b < w0.heap.size) (h_a : ISl (Rp.sl (Rp.int .i64)) A w0 p_a c_a a) (h_b : ISl (Rp.sl (Rp.int .i64)) A w0 p_b c_b b) {K : Bool → Prop} (H : ref03_SameRows a b K) :
    CallsV Try.prog 45 #[.slice p_a a.length c_a, .slice p_b b.length c_b] w0 (fun v w' => ∃ (r0 : Bool), v = .bool r0 ∧ Same w0 w' ∧ K r0) := by
 refine CallsV.of (l := [.slice p_a a.length c_a, .slice p_b b.length c_b]) Try.func45 rfl Try.ntmps45 rfl ?_
 have hO := Owns.start hA
 have hB := Fr.refl (bl []) w0
 unfold ref03_SameRows at H
 refine zq (zr (za rfl (zn (zq (zq ?_)))))
 refine zr (zm rfl (zo (op_len Try.underlying22 rfl) ?_))
 replace h_a := h_a.ch (Ch.start A w0)
 replace H := H h_a.bd
 refine zm rfl (zo (op_len Try.underlying22 rfl) ?_)
 replace h_b := h_b.ch (Ch.start A w0)
 replace H := H h_b.bd
 by_cases h1 : (a.length : Int) = (b.length : Int)
 ·replace H := ifp h1 H
  refine zo (fun w => opB (op_neq rfl rfl w) (ndT h1)) (zn (zf rfl rfl (zk (zq (zq ?_)))))
  refine zr (zm rfl (zo (op_len Try.underlying22 rfl) (zm rfl (zn (zb ?_)))))
  refine Go1.loopW (S := Nat) (fun s σ w => agrees σ [(0, .slice p_a a.length c_a), (1, .slice p_b b.length c_b), (12, .int .i64 (a.length : Int)), (13, .int .i64 (s : Int))] ∧ Owns w0.heap.size w [] A ∧ ISl (Rp.sl (Rp.int .i64)) (bl [] ++ A) w p_a c_a a ∧ ISl (Rp.sl (Rp.int .i64)) (bl [] ++ A) w p_b c_b b ∧ Fr (bl []) w0 (bl []) w) H ⟨⟨rfl, rfl, rfl, rfl, trivial⟩, hO, h_a, h_b, hB⟩ ?_
  intro X1 k1_3
  intro H hX1 σ w2
  refine andE fun hag => andE fun hO => andE fun h_a => andE fun h_b => fun hB => ?_
  refine Go1.keep [(0, .slice p_a a.length c_a), (1, .slice p_b b.length c_b), (12, .int .i64 (a.length : Int)), (13, .int .i64 (k1_3 : Int))] hag ?_
  refine zq (zr ?_)
  by_cases h4 : (k1_3 : Int) < (a.length : Int)
  ·replace H := ifp h4 H
   refine zo (fun w => opB (op_lss rfl rfl w) (decide_eq_true h4)) (zn (zq (zt rfl rfl (zk (zq ?_)))))
   refine zb (zq (zr (zm rfl (za rfl (zn ?_)))))
   refine zq ?_
   refine Go1.drawS 0 [(0, .pure), (1, .pure), (2, .pure), (3, .stable), (4, .pure), (5, .pure), (6, .pure), (7, .stable), (8, .loud), (9, .pure)] mixed (by kernel_rfl) ?_
   intro w5 hs6
   have ra := Stp.same hO hs6
   replace hO := ra.own
   refine GoQ.pure rfl (op_move rfl) rfl rfl ?_
   refine GoQ.pure rfl (op_move rfl) rfl rfl ?_
   obtain ⟨h8, H⟩ := H
   obtain ⟨h9, H⟩ := H
   replace h_a := h_a.ch ra.ch
   refine GoQ.pure rfl (op_index Try.underlying22 ti26 rfl rfl h8 h9 (h_a.some_ h8 h9)) rfl rfl ?_
   have hobt := ldSl h_a h8 h9
   obtain ⟨p10, c11, Fg, HF⟩ := hobt
   refine GoQ.stable rfl (HF Try.underlying26 rfl rfl) rfl rfl ?_
   refine GoQ.pure rfl (op_move rfl) rfl rfl ?_
   refine GoQ.pure rfl (op_move rfl) rfl rfl ?_
   obtain ⟨h14, H⟩ := H
   obtain ⟨h15, H⟩ := H
   replace h_b := h_b.ch ra.ch
   refine GoQ.pure rfl (op_index Try.underlying22 ti26 rfl rfl h14 h15 (h_b.some_ h14 h15)) rfl rfl ?_
   have hobt := ldSl h_b h14 h15
   obtain ⟨p16, c17, vY, UX⟩ := hobt
   refine GoQ.stable rfl (UX Try.underlying26 rfl rfl) rfl rfl ?_
   refine GoQ.call rfl (op_call body34 rfl (walk_ref03_Same hO.lt Fg vY H)) (fun v w hr => by obtain ⟨_, _, hs, _⟩ := hr; assumption) rfl rfl ?_
   rintro v24 w21 ⟨r20, rfl, UY, H⟩
   have sU := Stp.same hO UY
   replace hO := sU.own
   cases r20
   ·replace H := ifn Bool.false_ne_true H
    refine GoQ.pure rfl (op_not rfl) rfl rfl ?_
    refine GoQ.nil ?_
    refine zt rfl rfl (zq (zr (za rfl (zn ?_))))
    refine Go1.ret1 Try.func45 rfl ?_
    replace hB := (hB.trans ra.fr).trans sU.fr
    exact ⟨false, rfl, hB.same, H⟩
   replace H := ifp rfl H
   refine GoQ.pure rfl (op_not rfl) rfl rfl ?_
   refine GoQ.nil ?_
   refine zf rfl rfl (zk ?_)
   refine Go1.inBlock ?_
   refine zr ?_
   replace h_a := h_a.ch sU.ch
   refine zo (op_add rfl rfl (wrap_i64 (natbd h4 h_a.bd))) (zm rfl (zn ?_))
   replace h_b := h_b.ch sU.ch
   replace hB := (hB.trans ra.fr).trans sU.fr
   exact hX1 _ H _ _ ⟨⟨rfl, rfl, rfl, rfl, trivial⟩, hO, h_a, h_b, hB⟩
  replace H := ifn h4 H
  refine zo (fun w => opB (op_lss rfl rfl w) (decide_eq_false h4)) (zn (zq (zf rfl rfl ?_)))
  refine Go1.exit rfl ?_
  refine zq (zr (za rfl (zn ?_)))
  refine Go1.ret1 Try.func45 rfl ?_
  exact ⟨true, rfl, hB.same, H⟩
 replace H := ifn h1 H
 refine zo (fun w => opB (op_neq rfl rfl w) (ndF h1)) (zn (zt rfl rfl (zq ?_)))
 refine Go1.cut [] trivial ?_
 intro σ _
 refine zr (za rfl (zn ?_))
 refine Go1.ret1 Try.func45 rfl ?_
 exact ⟨false, rfl, hB.same, H⟩
end Sg
