/- The walks: each call keeps to its plain transformer. Printed by walkgen.py. -/
import Derived.Test.YtjegjjdfgefkoaaTi
import Derived.Test.YtjegjjdfgefkoaaWEnumerateBuildsc
import Derived.Test.YtjegjjdfgefkoaaWEnumerateBuildsd
import Derived.Test.YtjegjjdfgefkoaaAl
namespace Sg
open Go Go.RowKit Go.Proofs
set_option linter.unusedVariables false
set_option linter.unusedSimpArgs false
set_option maxRecDepth 100000
set_option maxHeartbeats 4000000
theorem body52 : Body Try.prog 52 := ⟨Try.f52, Try.func52, rfl, by kernel_rfl⟩
theorem walk_ref12_process {A : List Nat} {w0 : World} {az : Option Addr} {aA : Nat} {b6 : Option Addr} {b7 : Nat} {bI : Option Addr} {bK : Nat} {cx : Option Addr} {cy : Nat} {b8 : Option Addr} {b9 : Nat} {ca : Option Addr} {cb : Nat} {a0 : Enum} {a1 : Int} (hA : ∀ b ∈ A, b < w0.heap.size) (ac : ISl (Rp.sl (Rp.int .i64)) A w0 az aA a0.Gens) (ax : ISl (Rp.sl (Rp.int .i64)) A w0 b6 b7 a0.Elems) (am : ISl (Rp.int .i64) A w0 bI bK a0.Prefix) (aL : ISl (Rp.int .i64) A w0 cx cy a0.Last) (ay : ISl (Rp.sl (Rp.int .i64)) A w0 b8 b9 a0.Right) (ao : ISl (rpRule) A w0 ca cb a0.Rules) {K : Enum → Int → Prop} (H : ref12_process a0 a1 K) :
    CallsV Try.prog 52 #[.agg #[.int .i64 a0.Points, .bool a0.Monoid, .slice az a0.Gens.length aA, .slice b6 a0.Elems.length b7, .slice bI a0.Prefix.length bK, .slice cx a0.Last.length cy, .slice b8 a0.Right.length b9, .slice ca a0.Rules.length cb, .int .i64 a0.Done], .int .i64 a1] w0 (fun v w' => ∃ (r0 : Enum), ∃ (r1 : Int), ∃ (kj : Option Addr), ∃ (kl : Nat), ∃ (iI : Option Addr), ∃ (iJ : Nat), ∃ (gA : Option Addr), ∃ (gB : Nat), ∃ (km : Option Addr), ∃ (kn : Nat), ∃ (iK : Option Addr), ∃ (iL : Nat), ∃ (iM : Option Addr), ∃ (iN : Nat), v = .tuple #[.agg #[.int .i64 r0.Points, .bool r0.Monoid, .slice kj r0.Gens.length kl, .slice iI r0.Elems.length iJ, .slice gA r0.Prefix.length gB, .slice km r0.Last.length kn, .slice iK r0.Right.length iL, .slice iM r0.Rules.length iN, .int .i64 r0.Done], .int .i64 r1] ∧ Same w0 w' ∧ ISl (Rp.sl (Rp.int .i64)) A w' kj kl r0.Gens ∧ ISl (Rp.sl (Rp.int .i64)) A w' iI iJ r0.Elems ∧ ISl (Rp.int .i64) A w' gA gB r0.Prefix ∧ ISl (Rp.int .i64) A w' km kn r0.Last ∧ ISl (Rp.sl (Rp.int .i64)) A w' iK iL r0.Right ∧ ISl (rpRule) A w' iM iN r0.Rules ∧ K r0 r1) := by
 refine CallsV.of (l := [.agg #[.int .i64 a0.Points, .bool a0.Monoid, .slice az a0.Gens.length aA, .slice b6 a0.Elems.length b7, .slice bI a0.Prefix.length bK, .slice cx a0.Last.length cy, .slice b8 a0.Right.length b9, .slice ca a0.Rules.length cb, .int .i64 a0.Done], .int .i64 a1]) Try.func52 rfl Try.ntmps52 rfl ?_
 have hO := Owns.start hA
 have hB := Fr.refl (bl []) w0
 unfold ref12_process at H
 refine zq (zr ?_)
 have hobt := obox (t := 29) (v := .agg #[.int .i64 a0.Points, .bool a0.Monoid, .slice az a0.Gens.length aA, .slice b6 a0.Elems.length b7, .slice bI a0.Prefix.length bK, .slice cx a0.Last.length cy, .slice b8 a0.Right.length b9, .slice ca a0.Rules.length cb, .int .i64 a0.Done]) (cs := #[.int .i64 a0.Points, .bool a0.Monoid, .slice az a0.Gens.length aA, .slice b6 a0.Elems.length b7, .slice bI a0.Prefix.length bK, .slice cx a0.Last.length cy, .slice b8 a0.Right.length b9, .slice ca a0.Rules.length cb, .int .i64 a0.Done]) hO rfl
 obtain ⟨w1, B2, cQ, hs4, rh⟩ := hobt
 refine zg (rh rfl) ?_
 replace hO := cQ.own
 have hobt := oalloc (t := 29) (cs := #[.int .i64 (0 : Int), .bool false, .slice none 0 0, .slice none 0 0, .slice none 0 0, .slice none 0 0, .slice none 0 0, .slice none 0 0, .int .i64 (0 : Int)]) ti29 hO rfl
 obtain ⟨w7, B8, iq, Hn, BI⟩ := hobt
 refine GoR.op BI rfl rfl ?_
 replace hO := iq.own
 refine za rfl (zn (zq ?_))
 refine Go1.drawA (CSv.tr [(some ⟨B2, 0, none⟩), (some ⟨B2, 1, none⟩), (some ⟨B2, 2, none⟩), (some ⟨B2, 3, none⟩), (some ⟨B2, 4, none⟩), (some ⟨B2, 5, none⟩), (some ⟨B2, 6, none⟩), (some ⟨B2, 7, none⟩), (some ⟨B2, 8, none⟩)]) A 1 [(0, .pure), (1, .stable), (2, .pure), (3, .stable), (4, .pure), (5, .stable), (7, .pure), (8, .stable), (11, .pure), (12, .stable), (15, .pure), (16, .stable), (19, .pure), (20, .stable), (23, .pure), (24, .stable), (26, .pure), (27, .stable), (6, .alloc), (9, .loud), (10, .alloc), (13, .loud), (14, .alloc), (17, .loud), (18, .alloc), (21, .loud), (22, .alloc), (25, .loud), (28, .pure), (29, .alloc), (30, .last)] mixed (by kernel_rfl) trivial hO.bd ?_
 intro w13 Nd
 have lG := Stp.same hO Nd
 replace hO := lG.own
 have JG := hO.le
 replace hB := ((hB.trans cQ.fr).trans iq.fr).trans lG.fr
 have hw16 := hB.ch.size
 refine GoQA.pure rfl (op_fieldAddr Try.underlying29 rfl ti3 rfl (by decide)) rfl rfl ?_
 refine GoQA.stable rfl (loadV (.head _) rfl (blkCell 1 hO rfl rfl) Try.underlying3 rfl rfl) rfl rfl ?_
 refine GoQA.pure rfl (op_fieldAddr Try.underlying29 rfl ti4 rfl (by decide)) rfl rfl ?_
 refine GoQA.stable rfl (loadV (.tail _ (.head _)) rfl (blkCell 1 hO rfl rfl) Try.underlying4 rfl rfl) rfl rfl ?_
 refine GoQA.pure rfl (op_fieldAddr Try.underlying29 rfl ti22 rfl (by decide)) rfl rfl ?_
 refine GoQA.stable rfl (loadV (.tail _ (.tail _ (.head _))) rfl (blkCell 1 hO rfl rfl) Try.underlying22 rfl rfl) rfl rfl ?_
 refine GoQA.pure rfl (op_fieldAddr Try.underlying29 rfl ti22 rfl (by decide)) rfl rfl ?_
 refine GoQA.stable rfl (loadV (.tail _ (.tail _ (.tail _ (.head _)))) rfl (blkCell 1 hO rfl rfl) Try.underlying22 rfl rfl) rfl rfl ?_
 refine GoQA.pure rfl (op_fieldAddr Try.underlying29 rfl ti26 rfl (by decide)) rfl rfl ?_
 refine GoQA.stable rfl (loadV (.tail _ (.tail _ (.tail _ (.tail _ (.head _))))) rfl (blkCell 1 hO rfl rfl) Try.underlying26 rfl rfl) rfl rfl ?_
 refine GoQA.pure rfl (op_fieldAddr Try.underlying29 rfl ti26 rfl (by decide)) rfl rfl ?_
 refine GoQA.stable rfl (loadV (.tail _ (.tail _ (.tail _ (.tail _ (.tail _ (.head _)))))) rfl (blkCell 1 hO rfl rfl) Try.underlying26 rfl rfl) rfl rfl ?_
 refine GoQA.pure rfl (op_fieldAddr Try.underlying29 rfl ti22 rfl (by decide)) rfl rfl ?_
 refine GoQA.stable rfl (loadV (.tail _ (.tail _ (.tail _ (.tail _ (.tail _ (.tail _ (.head _))))))) rfl (blkCell 1 hO rfl rfl) Try.underlying22 rfl rfl) rfl rfl ?_
 refine GoQA.pure rfl (op_fieldAddr Try.underlying29 rfl ti27 rfl (by decide)) rfl rfl ?_
 refine GoQA.stable rfl (loadV (.tail _ (.tail _ (.tail _ (.tail _ (.tail _ (.tail _ (.tail _ (.head _)))))))) rfl (blkCell 1 hO rfl rfl) Try.underlying27 rfl rfl) rfl rfl ?_
 refine GoQA.pure rfl (op_fieldAddr Try.underlying29 rfl ti3 rfl (by decide)) rfl rfl ?_
 refine GoQA.stable rfl (loadV (.tail _ (.tail _ (.tail _ (.tail _ (.tail _ (.tail _ (.tail _ (.tail _ (.head _))))))))) rfl (blkCell 1 hO rfl rfl) Try.underlying3 rfl rfl) rfl rfl ?_
 refine GoQA.alloc rfl rfl (alBuild (n := 0) (parts := []) (vs := []) Try.underlying22 ti26 (by decide) (by decide) (by decide) (by kernel_rfl) rfl rfl) ?_
 intro w19 A20 b21 A22 HD Sl hd25 hnb26 hh27
 replace hO := HD.own hO
 have Ez : Els (Rp.sl (Rp.int .i64)) (bl [.blk B8 (.cells #[.int .i64 (0 : Int), .bool false, .slice none 0 0, .slice none 0 0, .slice none 0 0, .slice none 0 0, .slice none 0 0, .slice none 0 0, .int .i64 (0 : Int)] 29 (0, 0)), .blk B2 (.cells #[.int .i64 a0.Points, .bool a0.Monoid, .slice az a0.Gens.length aA, .slice b6 a0.Elems.length b7, .slice bI a0.Prefix.length bK, .slice cx a0.Last.length cy, .slice b8 a0.Right.length b9, .slice ca a0.Rules.length cb, .int .i64 a0.Done] 29 (0, 0))] ++ A20) w19 [] (([] : List (List Int))) := (Els.nil _ _ _)
 have Ho := gainCh (w := w19) (E := [.blk B8 (.cells #[.int .i64 (0 : Int), .bool false, .slice none 0 0, .slice none 0 0, .slice none 0 0, .slice none 0 0, .slice none 0 0, .slice none 0 0, .int .i64 (0 : Int)] 29 (0, 0)), .blk B2 (.cells #[.int .i64 a0.Points, .bool a0.Monoid, .slice az a0.Gens.length aA, .slice b6 a0.Elems.length b7, .slice bI a0.Prefix.length bK, .slice cx a0.Last.length cy, .slice b8 a0.Right.length b9, .slice ca a0.Rules.length cb, .int .i64 a0.Done] 29 (0, 0))]) (e := .row 26 1 (some ⟨b21, 0, none⟩) 0 0 []) Sl rfl
 replace hB := hB.trans (HD.same.fr _)
 replace hB := Fr.gain (e := .row 26 1 (some ⟨b21, 0, none⟩) 0 0 []) hB (Nat.le_trans hw16 hnb26) rfl
 replace hO := Owns.gain hO Sl JG rfl hh27 hd25
 refine GoQA.loudI rfl rfl ?_
 intro w30 A31 GK
 replace hO := GK.own hO
 obtain ⟨h33, H⟩ := H
 replace Ez := (Ez.ch Ho).ch (GK.ch _)
 have Z1 := ((((((Ch.start A w0).trans cQ.ch).trans iq.ch).trans lG.ch).trans (HD.ch _)).trans Ho).trans (GK.ch _)
 replace ax := ax.ch Z1
 have hobt := oapp Try.underlying22 ti26 rfl 0 hO rfl Ez ax rfl h33 (by decide)
 obtain ⟨w34, p35, c36, sm, lK, en, LF⟩ := hobt
 refine GoAt.step (LF (by exact rfl) (by exact rfl)) (fun _ => (CSv.cons (cs_eq (blkCell 2 hO rfl rfl) (blkCell 2 lK.own rfl rfl)) (CSv.cons (cs_eq (blkCell 2 hO rfl rfl) (blkCell 2 lK.own rfl rfl)) (CSv.cons (cs_eq (blkCell 2 hO rfl rfl) (blkCell 2 lK.own rfl rfl)) (CSv.cons (cs_eq (blkCell 2 hO rfl rfl) (blkCell 2 lK.own rfl rfl)) (CSv.cons (cs_eq (blkCell 2 hO rfl rfl) (blkCell 2 lK.own rfl rfl)) (CSv.cons (cs_eq (blkCell 2 hO rfl rfl) (blkCell 2 lK.own rfl rfl)) (CSv.cons (cs_eq (blkCell 2 hO rfl rfl) (blkCell 2 lK.own rfl rfl)) (CSv.cons (cs_eq (blkCell 2 hO rfl rfl) (blkCell 2 lK.own rfl rfl)) (CSv.cons (cs_eq (blkCell 2 hO rfl rfl) (blkCell 2 lK.own rfl rfl)) (CSv.nil _ _))))))))))) (Stp.kp hO lK) rfl ?_
 replace hO := lK.own
 refine GoQA.alloc rfl rfl (alBuild (n := 0) (parts := []) (vs := []) Try.underlying26 ti3 (by decide) (by decide) (by decide) (by kernel_rfl) rfl rfl) ?_
 intro w43 A44 b45 A46 GL Sm hd49 hnb50 hh51
 replace hO := GL.own hO
 have KT : Els (Rp.int .i64) (bl [.row 26 1 p35 (0 + a0.Elems.length) c36 sm, .blk B8 (.cells #[.int .i64 (0 : Int), .bool false, .slice none 0 0, .slice none 0 0, .slice none 0 0, .slice none 0 0, .slice none 0 0, .slice none 0 0, .int .i64 (0 : Int)] 29 (0, 0)), .blk B2 (.cells #[.int .i64 a0.Points, .bool a0.Monoid, .slice az a0.Gens.length aA, .slice b6 a0.Elems.length b7, .slice bI a0.Prefix.length bK, .slice cx a0.Last.length cy, .slice b8 a0.Right.length b9, .slice ca a0.Rules.length cb, .int .i64 a0.Done] 29 (0, 0))] ++ A44) w43 [] (([] : List Int)) := (Els.nil _ _ _)
 have HE := gainCh (w := w43) (E := [.row 26 1 p35 (0 + a0.Elems.length) c36 sm, .blk B8 (.cells #[.int .i64 (0 : Int), .bool false, .slice none 0 0, .slice none 0 0, .slice none 0 0, .slice none 0 0, .slice none 0 0, .slice none 0 0, .int .i64 (0 : Int)] 29 (0, 0)), .blk B2 (.cells #[.int .i64 a0.Points, .bool a0.Monoid, .slice az a0.Gens.length aA, .slice b6 a0.Elems.length b7, .slice bI a0.Prefix.length bK, .slice cx a0.Last.length cy, .slice b8 a0.Right.length b9, .slice ca a0.Rules.length cb, .int .i64 a0.Done] 29 (0, 0))]) (e := .row 3 1 (some ⟨b45, 0, none⟩) 0 0 []) Sm rfl
 replace hB := ((hB.trans (GK.same.fr _)).trans lK.fr).trans (GL.same.fr _)
 replace hB := Fr.gain (e := .row 3 1 (some ⟨b45, 0, none⟩) 0 0 []) hB (Nat.le_trans hw16 hnb50) rfl
 replace hO := Owns.gain hO Sm JG rfl hh51 hd49
 refine GoQA.loudI rfl rfl ?_
 intro w54 A55 EI
 replace hO := EI.own hO
 obtain ⟨h57, H⟩ := H
 replace KT := (KT.ch HE).ch (EI.ch _)
 have Z2 := (((Z1.trans lK.ch).trans (GL.ch _)).trans HE).trans (EI.ch _)
 replace am := am.ch Z2
 have hobt := oapp Try.underlying26 ti3 rfl 0 hO rfl KT am rfl h57 (by decide)
 obtain ⟨w58, p59, c60, vT, sb, dU, WT⟩ := hobt
 refine GoAt.step (WT (by exact rfl) (by exact rfl)) (fun _ => (CSv.cons (cs_eq (blkCell 3 hO rfl rfl) (blkCell 3 sb.own rfl rfl)) (CSv.cons (cs_eq (blkCell 3 hO rfl rfl) (blkCell 3 sb.own rfl rfl)) (CSv.cons (cs_eq (blkCell 3 hO rfl rfl) (blkCell 3 sb.own rfl rfl)) (CSv.cons (cs_eq (blkCell 3 hO rfl rfl) (blkCell 3 sb.own rfl rfl)) (CSv.cons (cs_eq (blkCell 3 hO rfl rfl) (blkCell 3 sb.own rfl rfl)) (CSv.cons (cs_eq (blkCell 3 hO rfl rfl) (blkCell 3 sb.own rfl rfl)) (CSv.cons (cs_eq (blkCell 3 hO rfl rfl) (blkCell 3 sb.own rfl rfl)) (CSv.cons (cs_eq (blkCell 3 hO rfl rfl) (blkCell 3 sb.own rfl rfl)) (CSv.cons (cs_eq (blkCell 3 hO rfl rfl) (blkCell 3 sb.own rfl rfl)) (CSv.nil _ _))))))))))) (Stp.kp hO sb) rfl ?_
 replace hO := sb.own
 refine GoQA.alloc rfl rfl (alBuild (n := 0) (parts := []) (vs := []) Try.underlying26 ti3 (by decide) (by decide) (by decide) (by kernel_rfl) rfl rfl) ?_
 intro w67 A68 b69 A70 EJ Sn hd73 hnb74 hh75
 replace hO := EJ.own hO
 have KU : Els (Rp.int .i64) (bl [.row 3 1 p59 (0 + a0.Prefix.length) c60 vT, .row 26 1 p35 (0 + a0.Elems.length) c36 sm, .blk B8 (.cells #[.int .i64 (0 : Int), .bool false, .slice none 0 0, .slice none 0 0, .slice none 0 0, .slice none 0 0, .slice none 0 0, .slice none 0 0, .int .i64 (0 : Int)] 29 (0, 0)), .blk B2 (.cells #[.int .i64 a0.Points, .bool a0.Monoid, .slice az a0.Gens.length aA, .slice b6 a0.Elems.length b7, .slice bI a0.Prefix.length bK, .slice cx a0.Last.length cy, .slice b8 a0.Right.length b9, .slice ca a0.Rules.length cb, .int .i64 a0.Done] 29 (0, 0))] ++ A68) w67 [] (([] : List Int)) := (Els.nil _ _ _)
 have GM := gainCh (w := w67) (E := [.row 3 1 p59 (0 + a0.Prefix.length) c60 vT, .row 26 1 p35 (0 + a0.Elems.length) c36 sm, .blk B8 (.cells #[.int .i64 (0 : Int), .bool false, .slice none 0 0, .slice none 0 0, .slice none 0 0, .slice none 0 0, .slice none 0 0, .slice none 0 0, .int .i64 (0 : Int)] 29 (0, 0)), .blk B2 (.cells #[.int .i64 a0.Points, .bool a0.Monoid, .slice az a0.Gens.length aA, .slice b6 a0.Elems.length b7, .slice bI a0.Prefix.length bK, .slice cx a0.Last.length cy, .slice b8 a0.Right.length b9, .slice ca a0.Rules.length cb, .int .i64 a0.Done] 29 (0, 0))]) (e := .row 3 1 (some ⟨b69, 0, none⟩) 0 0 []) Sn rfl
 replace hB := ((hB.trans (EI.same.fr _)).trans sb.fr).trans (EJ.same.fr _)
 replace hB := Fr.gain (e := .row 3 1 (some ⟨b69, 0, none⟩) 0 0 []) hB (Nat.le_trans hw16 hnb74) rfl
 replace hO := Owns.gain hO Sn JG rfl hh75 hd73
 refine GoQA.loudI rfl rfl ?_
 intro w78 A79 Cv
 replace hO := Cv.own hO
 obtain ⟨h81, H⟩ := H
 replace KU := (KU.ch GM).ch (Cv.ch _)
 have Z3 := (((Z2.trans sb.ch).trans (EJ.ch _)).trans GM).trans (Cv.ch _)
 replace aL := aL.ch Z3
 have hobt := oapp Try.underlying26 ti3 rfl 0 hO rfl KU aL rfl h81 (by decide)
 obtain ⟨w82, p83, c84, xM, fN, dA, WU⟩ := hobt
 dsimp only [sS, sZ] at fN dA
 refine GoAt.step (WU (by exact rfl) (by exact rfl)) (fun _ => (CSv.cons (cs_eq (blkCell 4 hO rfl rfl) (blkCell 4 fN.own rfl rfl)) (CSv.cons (cs_eq (blkCell 4 hO rfl rfl) (blkCell 4 fN.own rfl rfl)) (CSv.cons (cs_eq (blkCell 4 hO rfl rfl) (blkCell 4 fN.own rfl rfl)) (CSv.cons (cs_eq (blkCell 4 hO rfl rfl) (blkCell 4 fN.own rfl rfl)) (CSv.cons (cs_eq (blkCell 4 hO rfl rfl) (blkCell 4 fN.own rfl rfl)) (CSv.cons (cs_eq (blkCell 4 hO rfl rfl) (blkCell 4 fN.own rfl rfl)) (CSv.cons (cs_eq (blkCell 4 hO rfl rfl) (blkCell 4 fN.own rfl rfl)) (CSv.cons (cs_eq (blkCell 4 hO rfl rfl) (blkCell 4 fN.own rfl rfl)) (CSv.cons (cs_eq (blkCell 4 hO rfl rfl) (blkCell 4 fN.own rfl rfl)) (CSv.nil _ _))))))))))) (Stp.kp hO fN) rfl ?_
 replace hO := fN.own
 refine GoQA.alloc rfl rfl (alBuild (n := 0) (parts := []) (vs := []) Try.underlying22 ti26 (by decide) (by decide) (by decide) (by kernel_rfl) rfl rfl) ?_
 intro w91 A92 b93 A94 Cw So hd97 hnb98 hh99
 replace hO := Cw.own hO
 have I8 : Els (Rp.sl (Rp.int .i64)) (bl [.row 3 1 p83 (0 + a0.Last.length) c84 xM, .row 3 1 p59 (0 + a0.Prefix.length) c60 vT, .row 26 1 p35 (0 + a0.Elems.length) c36 sm, .blk B8 (.cells #[.int .i64 (0 : Int), .bool false, .slice none 0 0, .slice none 0 0, .slice none 0 0, .slice none 0 0, .slice none 0 0, .slice none 0 0, .int .i64 (0 : Int)] 29 (0, 0)), .blk B2 (.cells #[.int .i64 a0.Points, .bool a0.Monoid, .slice az a0.Gens.length aA, .slice b6 a0.Elems.length b7, .slice bI a0.Prefix.length bK, .slice cx a0.Last.length cy, .slice b8 a0.Right.length b9, .slice ca a0.Rules.length cb, .int .i64 a0.Done] 29 (0, 0))] ++ A92) w91 [] (([] : List (List Int))) := (Els.nil _ _ _)
 have AH := gainCh (w := w91) (E := [.row 3 1 p83 (0 + a0.Last.length) c84 xM, .row 3 1 p59 (0 + a0.Prefix.length) c60 vT, .row 26 1 p35 (0 + a0.Elems.length) c36 sm, .blk B8 (.cells #[.int .i64 (0 : Int), .bool false, .slice none 0 0, .slice none 0 0, .slice none 0 0, .slice none 0 0, .slice none 0 0, .slice none 0 0, .int .i64 (0 : Int)] 29 (0, 0)), .blk B2 (.cells #[.int .i64 a0.Points, .bool a0.Monoid, .slice az a0.Gens.length aA, .slice b6 a0.Elems.length b7, .slice bI a0.Prefix.length bK, .slice cx a0.Last.length cy, .slice b8 a0.Right.length b9, .slice ca a0.Rules.length cb, .int .i64 a0.Done] 29 (0, 0))]) (e := .row 26 1 (some ⟨b93, 0, none⟩) 0 0 []) So rfl
 replace hB := ((hB.trans (Cv.same.fr _)).trans fN.fr).trans (Cw.same.fr _)
 replace hB := Fr.gain (e := .row 26 1 (some ⟨b93, 0, none⟩) 0 0 []) hB (Nat.le_trans hw16 hnb98) rfl
 replace hO := Owns.gain hO So JG rfl hh99 hd97
 refine GoQA.loudI rfl rfl ?_
 intro agC A103 zi
 replace hO := zi.own hO
 obtain ⟨yq, H⟩ := H
 replace I8 := (I8.ch AH).ch (zi.ch _)
 have Z4 := (((Z3.trans fN.ch).trans (Cw.ch _)).trans AH).trans (zi.ch _)
 replace ay := ay.ch Z4
 have hobt := oapp Try.underlying22 ti26 rfl 0 hO rfl I8 ay rfl yq (by decide)
 obtain ⟨agD, n9, oa, vU, mA, dC, Sp⟩ := hobt
 dsimp only [sS, sZ] at mA dC
 refine GoAt.step (Sp (by exact rfl) (by exact rfl)) (fun _ => (CSv.cons (cs_eq (blkCell 5 hO rfl rfl) (blkCell 5 mA.own rfl rfl)) (CSv.cons (cs_eq (blkCell 5 hO rfl rfl) (blkCell 5 mA.own rfl rfl)) (CSv.cons (cs_eq (blkCell 5 hO rfl rfl) (blkCell 5 mA.own rfl rfl)) (CSv.cons (cs_eq (blkCell 5 hO rfl rfl) (blkCell 5 mA.own rfl rfl)) (CSv.cons (cs_eq (blkCell 5 hO rfl rfl) (blkCell 5 mA.own rfl rfl)) (CSv.cons (cs_eq (blkCell 5 hO rfl rfl) (blkCell 5 mA.own rfl rfl)) (CSv.cons (cs_eq (blkCell 5 hO rfl rfl) (blkCell 5 mA.own rfl rfl)) (CSv.cons (cs_eq (blkCell 5 hO rfl rfl) (blkCell 5 mA.own rfl rfl)) (CSv.cons (cs_eq (blkCell 5 hO rfl rfl) (blkCell 5 mA.own rfl rfl)) (CSv.nil _ _))))))))))) (Stp.kp hO mA) rfl ?_
 replace hO := mA.own
 refine GoQA.alloc rfl rfl (alBuild (n := 0) (parts := []) (vs := []) Try.underlying27 ti39 (by decide) (by decide) (by decide) (by kernel_rfl) rfl rfl) ?_
 intro Sq A116 Sr A118 zj Pg hd121 hnb122 hh123
 replace hO := zj.own hO
 have I9 : Els (rpRule) (bl [.row 26 1 n9 (0 + a0.Right.length) oa vU, .row 3 1 p83 (0 + a0.Last.length) c84 xM, .row 3 1 p59 (0 + a0.Prefix.length) c60 vT, .row 26 1 p35 (0 + a0.Elems.length) c36 sm, .blk B8 (.cells #[.int .i64 (0 : Int), .bool false, .slice none 0 0, .slice none 0 0, .slice none 0 0, .slice none 0 0, .slice none 0 0, .slice none 0 0, .int .i64 (0 : Int)] 29 (0, 0)), .blk B2 (.cells #[.int .i64 a0.Points, .bool a0.Monoid, .slice az a0.Gens.length aA, .slice b6 a0.Elems.length b7, .slice bI a0.Prefix.length bK, .slice cx a0.Last.length cy, .slice b8 a0.Right.length b9, .slice ca a0.Rules.length cb, .int .i64 a0.Done] 29 (0, 0))] ++ A116) Sq [] (([] : List Rule)) := (Els.nil _ _ _)
 have z3 := gainCh (w := Sq) (E := [.row 26 1 n9 (0 + a0.Right.length) oa vU, .row 3 1 p83 (0 + a0.Last.length) c84 xM, .row 3 1 p59 (0 + a0.Prefix.length) c60 vT, .row 26 1 p35 (0 + a0.Elems.length) c36 sm, .blk B8 (.cells #[.int .i64 (0 : Int), .bool false, .slice none 0 0, .slice none 0 0, .slice none 0 0, .slice none 0 0, .slice none 0 0, .slice none 0 0, .int .i64 (0 : Int)] 29 (0, 0)), .blk B2 (.cells #[.int .i64 a0.Points, .bool a0.Monoid, .slice az a0.Gens.length aA, .slice b6 a0.Elems.length b7, .slice bI a0.Prefix.length bK, .slice cx a0.Last.length cy, .slice b8 a0.Right.length b9, .slice ca a0.Rules.length cb, .int .i64 a0.Done] 29 (0, 0))]) (e := .row 39 2 (some ⟨Sr, 0, none⟩) 0 0 []) Pg rfl
 replace hB := ((hB.trans (zi.same.fr _)).trans mA.fr).trans (zj.same.fr _)
 replace hB := Fr.gain (e := .row 39 2 (some ⟨Sr, 0, none⟩) 0 0 []) hB (Nat.le_trans hw16 hnb122) rfl
 replace hO := Owns.gain hO Pg JG rfl hh123 hd121
 refine GoQA.loudI rfl rfl ?_
 intro aby A127 x9
 replace hO := x9.own hO
 obtain ⟨NF, H⟩ := H
 replace I9 := (I9.ch z3).ch (x9.ch _)
 have Z5 := (((Z4.trans mA.ch).trans (zj.ch _)).trans z3).trans (x9.ch _)
 replace ao := ao.ch Z5
 have hobt := oapp Try.underlying27 ti39 rfl 0 hO rfl I9 ao rfl NF (by decide)
 obtain ⟨aaQ, mB, mC, vM, dg, gi, KC⟩ := hobt
 dsimp only [sS, sZ] at dg gi
 refine GoAt.step (KC (by exact rfl) (by exact rfl)) (fun _ => (CSv.cons (cs_eq (blkCell 6 hO rfl rfl) (blkCell 6 dg.own rfl rfl)) (CSv.cons (cs_eq (blkCell 6 hO rfl rfl) (blkCell 6 dg.own rfl rfl)) (CSv.cons (cs_eq (blkCell 6 hO rfl rfl) (blkCell 6 dg.own rfl rfl)) (CSv.cons (cs_eq (blkCell 6 hO rfl rfl) (blkCell 6 dg.own rfl rfl)) (CSv.cons (cs_eq (blkCell 6 hO rfl rfl) (blkCell 6 dg.own rfl rfl)) (CSv.cons (cs_eq (blkCell 6 hO rfl rfl) (blkCell 6 dg.own rfl rfl)) (CSv.cons (cs_eq (blkCell 6 hO rfl rfl) (blkCell 6 dg.own rfl rfl)) (CSv.cons (cs_eq (blkCell 6 hO rfl rfl) (blkCell 6 dg.own rfl rfl)) (CSv.cons (cs_eq (blkCell 6 hO rfl rfl) (blkCell 6 dg.own rfl rfl)) (CSv.nil _ _))))))))))) (Stp.kp hO dg) rfl ?_
 replace hO := dg.own
 refine GoQA.pure rfl (op_build Try.underlying29 ti29 (pl := [(0, 1), (1, 1), (2, 1), (3, 1), (4, 1), (5, 1), (6, 1), (7, 1), (8, 1)]) (vs := [(0, .int .i64 a0.Points), (1, .bool a0.Monoid), (2, .slice az a0.Gens.length aA), (3, .slice p35 (0 + a0.Elems.length) c36), (4, .slice p59 (0 + a0.Prefix.length) c60), (5, .slice p83 (0 + a0.Last.length) c84), (6, .slice n9 (0 + a0.Right.length) oa), (7, .slice mB (0 + a0.Rules.length) mC), (8, .int .i64 a0.Done)]) (cs := #[.int .i64 a0.Points, .bool a0.Monoid, .slice az a0.Gens.length aA, .slice p35 (0 + a0.Elems.length) c36, .slice p59 (0 + a0.Prefix.length) c60, .slice p83 (0 + a0.Last.length) c84, .slice n9 (0 + a0.Right.length) oa, .slice mB (0 + a0.Rules.length) mC, .int .i64 a0.Done]) (by kernel_rfl) rfl (by kernel_rfl)) rfl rfl ?_
 refine GoQA.alloc rfl rfl (alAlloc (cs := #[.int .i64 (0 : Int), .bool false, .slice none 0 0, .slice none 0 0, .slice none 0 0, .slice none 0 0, .slice none 0 0, .slice none 0 0, .int .i64 (0 : Int)]) ti29 rfl) ?_
 intro abU A140 fL A142 ya Ph hd145 hnb146 hh147
 replace hO := ya.own hO
 have z4 := gainCh (w := abU) (E := [.row 39 2 mB (0 + a0.Rules.length) mC vM, .row 26 1 n9 (0 + a0.Right.length) oa vU, .row 3 1 p83 (0 + a0.Last.length) c84 xM, .row 3 1 p59 (0 + a0.Prefix.length) c60 vT, .row 26 1 p35 (0 + a0.Elems.length) c36 sm, .blk B8 (.cells #[.int .i64 (0 : Int), .bool false, .slice none 0 0, .slice none 0 0, .slice none 0 0, .slice none 0 0, .slice none 0 0, .slice none 0 0, .int .i64 (0 : Int)] 29 (0, 0)), .blk B2 (.cells #[.int .i64 a0.Points, .bool a0.Monoid, .slice az a0.Gens.length aA, .slice b6 a0.Elems.length b7, .slice bI a0.Prefix.length bK, .slice cx a0.Last.length cy, .slice b8 a0.Right.length b9, .slice ca a0.Rules.length cb, .int .i64 a0.Done] 29 (0, 0))]) (e := .blk fL (.cells #[.int .i64 (0 : Int), .bool false, .slice none 0 0, .slice none 0 0, .slice none 0 0, .slice none 0 0, .slice none 0 0, .slice none 0 0, .int .i64 (0 : Int)] 29 (0, 0))) Ph rfl
 replace hB := ((hB.trans (x9.same.fr _)).trans dg.fr).trans (ya.same.fr _)
 replace hB := Fr.gain (e := .blk fL (.cells #[.int .i64 (0 : Int), .bool false, .slice none 0 0, .slice none 0 0, .slice none 0 0, .slice none 0 0, .slice none 0 0, .slice none 0 0, .int .i64 (0 : Int)] 29 (0, 0))) hB (Nat.le_trans hw16 hnb146) rfl
 replace hO := Owns.gain hO Ph JG rfl hh147 hd145
 refine GoQA.lastI rfl rfl ?_
 intro agE A150 yb
 replace hO := yb.own hO
 have hobt := oblkStAgg (us := [.int .i64 a0.Points, .bool a0.Monoid, .slice az a0.Gens.length aA, .slice p35 (0 + a0.Elems.length) c36, .slice p59 (0 + a0.Prefix.length) c60, .slice p83 (0 + a0.Last.length) c84, .slice n9 (0 + a0.Right.length) oa, .slice mB (0 + a0.Rules.length) mC, .int .i64 a0.Done]) (o := 0) (cs' := #[.int .i64 a0.Points, .bool a0.Monoid, .slice az a0.Gens.length aA, .slice p35 (0 + a0.Elems.length) c36, .slice p59 (0 + a0.Prefix.length) c60, .slice p83 (0 + a0.Last.length) c84, .slice n9 (0 + a0.Right.length) oa, .slice mB (0 + a0.Rules.length) mC, .int .i64 a0.Done]) 0 hO rfl rfl (Nat.le_of_ble_eq_true rfl) rfl
 obtain ⟨abz, sG, KD⟩ := hobt
 dsimp only [sS, sZ] at sG
 refine GoAt.step (KD ti29 (by exact rfl) (by exact rfl) rfl) (fun h => nomatch h) (Stp.kp hO sG) rfl ?_
 replace hO := sG.own
 refine GoQA.nil ?_
 intro agF A156 yc zl
 replace hO := yc.own hO
 replace hO := hO.permA zl
 refine zq ?_
 refine Go1.cut [(1, .int .i64 a1), (4, .pointer (some ⟨B8, 0, none⟩)), (6, .pointer (some ⟨fL, 0, none⟩))] ⟨rfl, rfl, rfl, trivial⟩ ?_
 intro σ _
 refine zr ?_
 have hobt := omakeMap (fun a : List UInt8 => Value.string (gstr a)) (fun a : Int => Value.int .i64 a) hO
 obtain ⟨Rz, B160, fh, adw, Ss⟩ := hobt
 refine GoR.op Ss rfl rfl ?_
 replace hO := fh.own
 refine za rfl (zn (zq (zr (za rfl (zn ?_)))))
 refine zq (zq (zr (zo (op_fieldAddr Try.underlying29 rfl ti22 rfl (by decide)) (zs (oblk (i := 3) 1 hO rfl rfl Try.underlying22 rfl rfl) ?_))))
 have Z6 := ((((((((((((((((((((((GL.ch _).trans HE).trans (EI.ch _)).trans sb.ch).trans (EJ.ch _)).trans GM).trans (Cv.ch _)).trans fN.ch).trans (Cw.ch _)).trans AH).trans (zi.ch _)).trans mA.ch).trans (zj.ch _)).trans z3).trans (x9.ch _)).trans dg.ch).trans (ya.ch _)).trans z4).trans (yb.ch _)).trans sG.ch).trans (yc.ch _)).trans (permCh zl _)).trans fh.ch
 replace en := en.ch Z6
 refine zo (op_lenN Try.underlying22 rfl (en.neq hO 6 rfl)) (zm rfl (zn (zb ?_)))
 have kS := Stp.nil (e := 9) (r := 1) hO
 replace hO := kS.own
 have J5 := Els.nil (Rp.str) (bl (.row 9 1 none 0 0 [] :: [.any (mapE (fun a : List UInt8 => Value.string (gstr a)) (fun a : Int => Value.int .i64 a) B160 (([] : List (Str × Int)))), .blk fL (.cells #[.int .i64 a0.Points, .bool a0.Monoid, .slice az a0.Gens.length aA, .slice p35 (0 + a0.Elems.length) c36, .slice p59 (0 + a0.Prefix.length) c60, .slice p83 (0 + a0.Last.length) c84, .slice n9 (0 + a0.Right.length) oa, .slice mB (0 + a0.Rules.length) mC, .int .i64 a0.Done] 29 (0, 0)), .row 39 2 mB (0 + a0.Rules.length) mC vM, .row 26 1 n9 (0 + a0.Right.length) oa vU, .row 3 1 p83 (0 + a0.Last.length) c84 xM, .row 3 1 p59 (0 + a0.Prefix.length) c60 vT, .row 26 1 p35 (0 + a0.Elems.length) c36 sm, .blk B8 (.cells #[.int .i64 (0 : Int), .bool false, .slice none 0 0, .slice none 0 0, .slice none 0 0, .slice none 0 0, .slice none 0 0, .slice none 0 0, .int .i64 (0 : Int)] 29 (0, 0)), .blk B2 (.cells #[.int .i64 a0.Points, .bool a0.Monoid, .slice az a0.Gens.length aA, .slice b6 a0.Elems.length b7, .slice bI a0.Prefix.length bK, .slice cx a0.Last.length cy, .slice b8 a0.Right.length b9, .slice ca a0.Rules.length cb, .int .i64 a0.Done] 29 (0, 0))]) ++ A) Rz
 replace hO := hO.drop 9
 replace J5 := J5.ch (Owns.dropCh _ _ 9)
 replace en := (en.ch kS.ch).ch (Owns.dropCh _ _ 9)
 replace hB := (((((hB.trans (yb.same.fr _)).trans sG.fr).trans (yc.same.fr _)).trans fh.fr).trans kS.fr).trans (Owns.dropFr _ _ 9)
 have Z7 := ((((((((ya.ch _).trans z4).trans (yb.ch _)).trans sG.ch).trans (yc.ch _)).trans (permCh zl _)).trans fh.ch).trans kS.ch).trans (Owns.dropCh _ _ 9)
 replace gi := gi.ch Z7
 have Z8 := ((((((((dg.ch.trans (ya.ch _)).trans z4).trans (yb.ch _)).trans sG.ch).trans (yc.ch _)).trans (permCh zl _)).trans fh.ch).trans kS.ch).trans (Owns.dropCh _ _ 9)
 replace ao := ao.ch Z8
 have Z9 := ((((((((((((zj.ch _).trans z3).trans (x9.ch _)).trans dg.ch).trans (ya.ch _)).trans z4).trans (yb.ch _)).trans sG.ch).trans (yc.ch _)).trans (permCh zl _)).trans fh.ch).trans kS.ch).trans (Owns.dropCh _ _ 9)
 replace dC := dC.ch Z9
 have Z10 := ((((((((((((mA.ch.trans (zj.ch _)).trans z3).trans (x9.ch _)).trans dg.ch).trans (ya.ch _)).trans z4).trans (yb.ch _)).trans sG.ch).trans (yc.ch _)).trans (permCh zl _)).trans fh.ch).trans kS.ch).trans (Owns.dropCh _ _ 9)
 replace ay := ay.ch Z10
 have Z11 := ((((((((((((((((Cw.ch _).trans AH).trans (zi.ch _)).trans mA.ch).trans (zj.ch _)).trans z3).trans (x9.ch _)).trans dg.ch).trans (ya.ch _)).trans z4).trans (yb.ch _)).trans sG.ch).trans (yc.ch _)).trans (permCh zl _)).trans fh.ch).trans kS.ch).trans (Owns.dropCh _ _ 9)
 replace dA := dA.ch Z11
 have Z12 := ((((((((((((((((fN.ch.trans (Cw.ch _)).trans AH).trans (zi.ch _)).trans mA.ch).trans (zj.ch _)).trans z3).trans (x9.ch _)).trans dg.ch).trans (ya.ch _)).trans z4).trans (yb.ch _)).trans sG.ch).trans (yc.ch _)).trans (permCh zl _)).trans fh.ch).trans kS.ch).trans (Owns.dropCh _ _ 9)
 replace aL := aL.ch Z12
 have Z13 := ((((((((((((((((((((EJ.ch _).trans GM).trans (Cv.ch _)).trans fN.ch).trans (Cw.ch _)).trans AH).trans (zi.ch _)).trans mA.ch).trans (zj.ch _)).trans z3).trans (x9.ch _)).trans dg.ch).trans (ya.ch _)).trans z4).trans (yb.ch _)).trans sG.ch).trans (yc.ch _)).trans (permCh zl _)).trans fh.ch).trans kS.ch).trans (Owns.dropCh _ _ 9)
 replace dU := dU.ch Z13
 have Z14 := ((((((((((((((((((((sb.ch.trans (EJ.ch _)).trans GM).trans (Cv.ch _)).trans fN.ch).trans (Cw.ch _)).trans AH).trans (zi.ch _)).trans mA.ch).trans (zj.ch _)).trans z3).trans (x9.ch _)).trans dg.ch).trans (ya.ch _)).trans z4).trans (yb.ch _)).trans sG.ch).trans (yc.ch _)).trans (permCh zl _)).trans fh.ch).trans kS.ch).trans (Owns.dropCh _ _ 9)
 replace am := am.ch Z14
 have Z15 := ((((((((((((((((((((((((lK.ch.trans (GL.ch _)).trans HE).trans (EI.ch _)).trans sb.ch).trans (EJ.ch _)).trans GM).trans (Cv.ch _)).trans fN.ch).trans (Cw.ch _)).trans AH).trans (zi.ch _)).trans mA.ch).trans (zj.ch _)).trans z3).trans (x9.ch _)).trans dg.ch).trans (ya.ch _)).trans z4).trans (yb.ch _)).trans sG.ch).trans (yc.ch _)).trans (permCh zl _)).trans fh.ch).trans kS.ch).trans (Owns.dropCh _ _ 9)
 replace ax := ax.ch Z15
 have Z16 := (((((((((Z5.trans dg.ch).trans (ya.ch _)).trans z4).trans (yb.ch _)).trans sG.ch).trans (yc.ch _)).trans (permCh zl _)).trans fh.ch).trans kS.ch).trans (Owns.dropCh _ _ 9)
 replace ac := ac.ch Z16
 dsimp only [eS, eZ] at hB hO ac ax am aL ay ao J5 gi dC dA dU en
 refine Go1.loopW (S := Nat × List Str × (List (Str × Int))) (fun s σ w => match s with | (k1_169, d_170, m1_176) => ∃ (z5 : Nat), ∃ (Ao : Option Addr), ∃ (Ap : Nat), ∃ (zu : List Value), agrees σ [(1, .int .i64 a1), (4, .pointer (some ⟨B8, 0, none⟩)), (6, .pointer (some ⟨fL, 0, none⟩)), (7, .map (some B160)), (8, .slice Ao z5 Ap), (50, .int .i64 (((([] : List (List Int))) ++ a0.Elems).length : Int)), (51, .int .i64 (k1_169 : Int))] ∧ (fun Z0 => Owns w0.heap.size w Z0 A ∧ Els (Rp.str) (bl Z0 ++ A) w zu d_170 ∧ Els (rpRule) (bl Z0 ++ A) w vM ((([] : List Rule)) ++ a0.Rules) ∧ Els (Rp.sl (Rp.int .i64)) (bl Z0 ++ A) w vU ((([] : List (List Int))) ++ a0.Right) ∧ Els (Rp.int .i64) (bl Z0 ++ A) w xM ((([] : List Int)) ++ a0.Last) ∧ Els (Rp.int .i64) (bl Z0 ++ A) w vT ((([] : List Int)) ++ a0.Prefix) ∧ Els (Rp.sl (Rp.int .i64)) (bl Z0 ++ A) w sm ((([] : List (List Int))) ++ a0.Elems) ∧ ISl (Rp.sl (Rp.int .i64)) (bl Z0 ++ A) w az aA a0.Gens ∧ Fr (bl []) w0 (bl Z0) w) [.row 9 1 Ao z5 Ap zu, .any (mapE (fun a : List UInt8 => Value.string (gstr a)) (fun a : Int => Value.int .i64 a) B160 m1_176), .blk fL (.cells #[.int .i64 a0.Points, .bool a0.Monoid, .slice az a0.Gens.length aA, .slice p35 (0 + a0.Elems.length) c36, .slice p59 (0 + a0.Prefix.length) c60, .slice p83 (0 + a0.Last.length) c84, .slice n9 (0 + a0.Right.length) oa, .slice mB (0 + a0.Rules.length) mC, .int .i64 a0.Done] 29 (0, 0)), .row 39 2 mB (0 + a0.Rules.length) mC vM, .row 26 1 n9 (0 + a0.Right.length) oa vU, .row 3 1 p83 (0 + a0.Last.length) c84 xM, .row 3 1 p59 (0 + a0.Prefix.length) c60 vT, .row 26 1 p35 (0 + a0.Elems.length) c36 sm, .blk B8 (.cells #[.int .i64 (0 : Int), .bool false, .slice none 0 0, .slice none 0 0, .slice none 0 0, .slice none 0 0, .slice none 0 0, .slice none 0 0, .int .i64 (0 : Int)] 29 (0, 0))]) H ⟨0, none, 0, [], ⟨rfl, rfl, rfl, rfl, rfl, rfl, rfl, trivial⟩, hO, J5, gi, dC, dA, dU, en, ac, hB⟩ ?_
 intro X1
 refine prE fun k1_169 => prE fun d_170 => fun m1_176 => ?_
 intro H hX1 σ PK
 refine exE fun z5 => exE fun Ao => exE fun Ap => exE fun zu => andE fun hag => andE fun hO => andE fun Ej => andE fun gi => andE fun dC => andE fun dA => andE fun dU => andE fun en => andE fun ac => fun hB => ?_
 dsimp only at H
 refine Go1.keep [(1, .int .i64 a1), (4, .pointer (some ⟨B8, 0, none⟩)), (6, .pointer (some ⟨fL, 0, none⟩)), (7, .map (some B160)), (8, .slice Ao z5 Ap), (50, .int .i64 (((([] : List (List Int))) ++ a0.Elems).length : Int)), (51, .int .i64 (k1_169 : Int))] hag ?_
 refine zq (zr ?_)
 by_cases Ew : (k1_169 : Int) < (((([] : List (List Int))) ++ a0.Elems).length : Int)
 ·replace H := ifp Ew H
  refine zo (fun w => opB (op_lss rfl rfl w) (decide_eq_true Ew)) (zn (zq (zt rfl rfl (zk (zq ?_)))))
  refine zb (zq (zr (zm rfl (za rfl (zn ?_)))))
  refine zq (zr (zm rfl (zs (oblkAgg (vs := [.int .i64 a0.Points, .bool a0.Monoid, .slice az a0.Gens.length aA, .slice p35 (0 + a0.Elems.length) c36, .slice p59 (0 + a0.Prefix.length) c60, .slice p83 (0 + a0.Last.length) c84, .slice n9 (0 + a0.Right.length) oa, .slice mB (0 + a0.Rules.length) mC, .int .i64 a0.Done]) (i := 0) 2 hO rfl rfl Try.underlying29 rfl ti29 rfl) (zm rfl ?_))))
  have hobt := rowlend 7 hO rfl en
  obtain ⟨WW, Mz⟩ := hobt
  have hOc180 := hO.drop 7
  have hobt := rowlend 6 hOc180 rfl (dU.ch (Owns.dropCh _ _ 7))
  obtain ⟨WX, WY⟩ := hobt
  have hOc183 := hOc180.drop 6
  have hobt := rowlend 5 hOc183 rfl ((dA.ch (Owns.dropCh _ _ 7)).ch (Owns.dropCh _ _ 6))
  obtain ⟨W0, W1⟩ := hobt
  have hOc186 := hOc183.drop 5
  have hobt := rowlend 4 hOc186 rfl (((dC.ch (Owns.dropCh _ _ 7)).ch (Owns.dropCh _ _ 6)).ch (Owns.dropCh _ _ 5))
  obtain ⟨W2, Lj⟩ := hobt
  have hOc189 := hOc186.drop 4
  have hobt := rowlend 3 hOc189 rfl ((((gi.ch (Owns.dropCh _ _ 7)).ch (Owns.dropCh _ _ 6)).ch (Owns.dropCh _ _ 5)).ch (Owns.dropCh _ _ 4))
  obtain ⟨W3, W4⟩ := hobt
  have hOc192 := hOc189.drop 3
  refine GoR.call (op_call body40 (show ([.agg #[.int .i64 a0.Points, .bool a0.Monoid, .slice az a0.Gens.length aA, .slice p35 (0 + a0.Elems.length) c36, .slice p59 (0 + a0.Prefix.length) c60, .slice p83 (0 + a0.Last.length) c84, .slice n9 (0 + a0.Right.length) oa, .slice mB (0 + a0.Rules.length) mC, .int .i64 a0.Done], .int .i64 (k1_169 : Int)] : List Value) = [.agg #[.int .i64 a0.Points, .bool a0.Monoid, .slice az a0.Gens.length aA, .slice p35 ((([] : List (List Int))) ++ a0.Elems).length c36, .slice p59 ((([] : List Int)) ++ a0.Prefix).length c60, .slice p83 ((([] : List Int)) ++ a0.Last).length c84, .slice n9 ((([] : List (List Int))) ++ a0.Right).length oa, .slice mB ((([] : List Rule)) ++ a0.Rules).length mC, .int .i64 a0.Done], .int .i64 (k1_169 : Int)] from by rw [← Mz, ← WY, ← W1, ← Lj, ← W4]) (walk_ref12_Word (e := (⟨a0.Points, a0.Monoid, a0.Gens, (([] : List (List Int))) ++ a0.Elems, (([] : List Int)) ++ a0.Prefix, (([] : List Int)) ++ a0.Last, (([] : List (List Int))) ++ a0.Right, (([] : List Rule)) ++ a0.Rules, a0.Done⟩ : Enum)) hOc192.lt (((((ac.ch (Owns.dropCh _ _ 7)).ch (Owns.dropCh _ _ 6)).ch (Owns.dropCh _ _ 5)).ch (Owns.dropCh _ _ 4)).ch (Owns.dropCh _ _ 3)) ((((WW.ch (Owns.dropCh _ _ 6)).ch (Owns.dropCh _ _ 5)).ch (Owns.dropCh _ _ 4)).ch (Owns.dropCh _ _ 3)) (((WX.ch (Owns.dropCh _ _ 5)).ch (Owns.dropCh _ _ 4)).ch (Owns.dropCh _ _ 3)) ((W0.ch (Owns.dropCh _ _ 4)).ch (Owns.dropCh _ _ 3)) (W2.ch (Owns.dropCh _ _ 3)) W3 H)) rfl rfl ?_
  rintro agG agH ⟨r193, rfl, W5, PE, H⟩
  have z6 := Stp.same hO W5
  replace hO := z6.own
  have hobt := obuild (r := Rp.str) (n := 1) (parts := [(0, .string (gstr r193))]) (vs := [.string (gstr r193)]) (xs := [r193]) rfl Try.underlying70 ti9 hO (by decide) (by kernel_rfl) (Els.cons rfl ⟨rfl, PE⟩ (Els.nil _ _ _) (by simp [mx])) rfl
  obtain ⟨Y5, agI, z7, W6, adx, St⟩ := hobt
  refine zg (St rfl) ?_
  replace hO := z7.own
  have hobt := freeze 0 hO rfl W6
  obtain ⟨hO1, Ek, H7, W7⟩ := hobt
  dsimp only [eS, eZ] at hO1 Ek H7
  replace hB := ((hB.trans z6.fr).trans z7.fr).trans (Owns.dropFr _ _ 0)
  dsimp only [eS, eZ] at hB
  replace hO := hO1; clear hO1
  obtain ⟨abV, H⟩ := H
  have Z17 := (z6.ch.trans z7.ch).trans Ek
  replace Ej := Ej.ch Z17
  have hobt := oapp Try.underlying70 ti9 rfl 0 hO rfl Ej H7 W7 abV (by decide)
  obtain ⟨agJ, abW, abX, W8, yA, El, Su⟩ := hobt
  dsimp only [sS, sZ] at yA El
  refine zg (Su (by exact rfl) (by exact rfl)) ?_
  replace hO := yA.own
  refine za rfl (zn (zr (zm rfl (zm rfl (zm rfl ?_)))))
  obtain ⟨HB, H⟩ := H
  obtain ⟨HC, H⟩ := H
  refine zo (op_index Try.underlying70 ti9 rfl rfl HB (ltn (El.neq hO 0 rfl) HC) (El.psome hO 0 rfl HB HC)) (zs (oldStr 0 hO rfl El HB HC Try.underlying9 rfl rfl) ?_)
  have hle220 := Els.str_le El HB HC
  refine zm rfl ?_
  have hobt := omapUpd (MK.str Try.underlying9) 1 hO rfl Try.underlying69 (ix (d_170 ++ ([r193])) (k1_169 : Int)) (k1_169 : Int)
  obtain ⟨Y7, eg, Kl⟩ := hobt
  dsimp only [sS, sZ] at eg
  refine zg (Kl (by exact rfl) (by exact rfl) (by exact rfl)) ?_
  replace hO := eg.own
  refine zn ?_
  refine Go1.inBlock ?_
  refine zr ?_
  replace en := ((en.ch Z17).ch yA.ch).ch eg.ch
  refine zo (op_add rfl rfl (wrap_i64 (natbd Ew en.bd))) (zm rfl (zn ?_))
  replace El := El.ch eg.ch
  replace hB := (hB.trans yA.fr).trans eg.fr
  have Z18 := (Z17.trans yA.ch).trans eg.ch
  replace gi := gi.ch Z18
  replace dC := dC.ch Z18
  replace dA := dA.ch Z18
  replace dU := dU.ch Z18
  replace ac := ac.ch Z18
  exact hX1 _ H _ _ ⟨z5 + 1, abW, abX, W8, ⟨rfl, rfl, rfl, rfl, rfl, rfl, rfl, trivial⟩, hO, El, gi, dC, dA, dU, en, ac, hB⟩
 replace H := ifn Ew H
 refine zo (fun w => opB (op_lss rfl rfl w) (decide_eq_false Ew)) (zn (zq (zf rfl rfl ?_)))
 refine Go1.exit rfl ?_
 refine zq (zb ?_)
 refine Go1.loopW (S := Int × Int × List Str × (List (Str × Int)) × List Rule × List (List Int) × List Int × List Int × List (List Int)) (fun s σ w => match s with | (k2_225, k2_226, d_227, m2_233, d_234, d_240, d_246, d_252, d_258) => ∃ (z8 : Nat), ∃ (z9 : Option Addr), ∃ (Aa : Nat), ∃ (sa : List Value), ∃ (oG : Nat), ∃ (mj : Option Addr), ∃ (ml : Nat), ∃ (yd : List Value), ∃ (eK : Nat), ∃ (eM : Option Addr), ∃ (eN : Nat), ∃ (lC : List Value), ∃ (oH : Nat), ∃ (mm : Option Addr), ∃ (mo : Nat), ∃ (ye : List Value), ∃ (oI : Nat), ∃ (mp : Option Addr), ∃ (mq : Nat), ∃ (yf : List Value), ∃ (oJ : Nat), ∃ (mr : Option Addr), ∃ (ms : Nat), ∃ (yg : List Value), agrees σ [(1, .int .i64 k2_225), (4, .pointer (some ⟨B8, 0, none⟩)), (6, .pointer (some ⟨fL, 0, none⟩)), (7, .map (some B160)), (8, .slice z9 z8 Aa)] ∧ (fun Z0 => Owns w0.heap.size w Z0 A ∧ Els (Rp.str) (bl Z0 ++ A) w sa d_227 ∧ Els (rpRule) (bl Z0 ++ A) w yd d_234 ∧ Els (Rp.sl (Rp.int .i64)) (bl Z0 ++ A) w lC d_240 ∧ Els (Rp.int .i64) (bl Z0 ++ A) w ye d_246 ∧ Els (Rp.int .i64) (bl Z0 ++ A) w yf d_252 ∧ Els (Rp.sl (Rp.int .i64)) (bl Z0 ++ A) w yg d_258 ∧ ISl (Rp.sl (Rp.int .i64)) (bl Z0 ++ A) w az aA a0.Gens ∧ Fr (bl []) w0 (bl Z0) w) [.row 9 1 z9 z8 Aa sa, .any (mapE (fun a : List UInt8 => Value.string (gstr a)) (fun a : Int => Value.int .i64 a) B160 m2_233), .blk fL (.cells #[.int .i64 a0.Points, .bool a0.Monoid, .slice az a0.Gens.length aA, .slice mr oJ ms, .slice mp oI mq, .slice mm oH mo, .slice eM eK eN, .slice mj oG ml, .int .i64 k2_226] 29 (0, 0)), .row 39 2 mj oG ml yd, .row 26 1 eM eK eN lC, .row 3 1 mm oH mo ye, .row 3 1 mp oI mq yf, .row 26 1 mr oJ ms yg, .blk B8 (.cells #[.int .i64 (0 : Int), .bool false, .slice none 0 0, .slice none 0 0, .slice none 0 0, .slice none 0 0, .slice none 0 0, .slice none 0 0, .int .i64 (0 : Int)] 29 (0, 0))]) H ⟨z5, Ao, Ap, zu, 0 + a0.Rules.length, mB, mC, vM, 0 + a0.Right.length, n9, oa, vU, 0 + a0.Last.length, p83, c84, xM, 0 + a0.Prefix.length, p59, c60, vT, 0 + a0.Elems.length, p35, c36, sm, ⟨rfl, rfl, rfl, rfl, rfl, trivial⟩, hO, Ej, gi, dC, dA, dU, en, ac, hB⟩ ?_
 intro X2
 refine prE fun k2_225 => prE fun k2_226 => prE fun d_227 => prE fun m2_233 => prE fun d_234 => prE fun d_240 => prE fun d_246 => prE fun d_252 => fun d_258 => ?_
 intro H hX2 σ Sv
 refine exE fun z8 => exE fun z9 => exE fun Aa => exE fun sa => exE fun oG => exE fun mj => exE fun ml => exE fun yd => exE fun eK => exE fun eM => exE fun eN => exE fun lC => exE fun oH => exE fun mm => exE fun mo => exE fun ye => exE fun oI => exE fun mp => exE fun mq => exE fun yf => exE fun oJ => exE fun mr => exE fun ms => exE fun yg => andE fun hag => andE fun hO => andE fun kI => andE fun nB => andE fun bq => andE fun uk => andE fun vA => andE fun AI => andE fun ac => fun hB => ?_
 dsimp only at H
 refine Go1.keep [(1, .int .i64 k2_225), (4, .pointer (some ⟨B8, 0, none⟩)), (6, .pointer (some ⟨fL, 0, none⟩)), (7, .map (some B160)), (8, .slice z9 z8 Aa)] hag ?_
 refine zq (zq (zr (zm rfl ?_)))
 by_cases MA : (0 : Int) < k2_225
 ·replace H := ifp MA H
  refine zo (fun w => opB (op_gtr rfl rfl w) (decide_eq_true MA)) (zm rfl (zo (op_fieldAddr Try.underlying29 rfl ti3 rfl (by decide)) (zs (oblk (i := 8) 2 hO rfl rfl Try.underlying3 rfl rfl) (zo (op_fieldAddr Try.underlying29 rfl ti22 rfl (by decide)) (zs (oblk (i := 3) 2 hO rfl rfl Try.underlying22 rfl rfl) ?_)))))
  refine zo (op_lenN Try.underlying22 rfl (AI.neq hO 7 rfl)) ?_
  by_cases MB : k2_226 < (d_258.length : Int)
  ·replace H := ifp MB H
   refine zo (fun w => opB (op_lss rfl rfl w) (decide_eq_true MB)) (zo (op_pickT rfl rfl rfl) (zn (zt rfl rfl (zk (zq ?_)))))
   refine zb (zq (zr (za rfl (zn (zq ?_)))))
   refine zr (zm rfl (zo (op_fieldAddr Try.underlying29 rfl ti3 rfl (by decide)) (zs (oblk (i := 8) 2 hO rfl rfl Try.underlying3 rfl rfl) ?_)))
   obtain ⟨MC, H⟩ := H
   obtain ⟨MD, H⟩ := H
   refine zo (op_index Try.underlying70 ti9 rfl rfl MC (ltn (kI.neq hO 0 rfl) MD) (kI.psome hO 0 rfl MC MD)) (zs (oldStr 0 hO rfl kI MC MD Try.underlying9 rfl rfl) ?_)
   have hle268 := Els.str_le kI MC MD
   refine za rfl (zn (zq (zq (zr (zo (op_fieldAddr Try.underlying29 rfl ti22 rfl (by decide)) ?_)))))
   refine zs (oblk (i := 2) 2 hO rfl rfl Try.underlying22 rfl rfl) (zo (op_len Try.underlying22 rfl) ?_)
   replace H := H ac.bd
   refine zm rfl (zn (zb ?_))
   have Ab := Stp.nil (e := 3) (r := 1) hO
   replace hO := Ab.own
   have W9 := Els.nil (Rp.int .i64) (bl (.row 3 1 none 0 0 [] :: [.row 9 1 z9 z8 Aa sa, .any (mapE (fun a : List UInt8 => Value.string (gstr a)) (fun a : Int => Value.int .i64 a) B160 m2_233), .blk fL (.cells #[.int .i64 a0.Points, .bool a0.Monoid, .slice az a0.Gens.length aA, .slice mr oJ ms, .slice mp oI mq, .slice mm oH mo, .slice eM eK eN, .slice mj oG ml, .int .i64 k2_226] 29 (0, 0)), .row 39 2 mj oG ml yd, .row 26 1 eM eK eN lC, .row 3 1 mm oH mo ye, .row 3 1 mp oI mq yf, .row 26 1 mr oJ ms yg, .blk B8 (.cells #[.int .i64 (0 : Int), .bool false, .slice none 0 0, .slice none 0 0, .slice none 0 0, .slice none 0 0, .slice none 0 0, .slice none 0 0, .int .i64 (0 : Int)] 29 (0, 0))]) ++ A) Sv
   replace kI := kI.ch Ab.ch
   replace nB := nB.ch Ab.ch
   replace bq := bq.ch Ab.ch
   replace uk := uk.ch Ab.ch
   replace vA := vA.ch Ab.ch
   replace AI := AI.ch Ab.ch
   replace ac := ac.ch Ab.ch
   replace hB := hB.trans Ab.fr
   refine Go1.loopW (S := Nat × List Int × List Str × (List (Str × Int)) × List Rule × List Int × List Int × List (List Int)) (fun s σ w => match s with | (k3_273, d_274, d_280, m3_286, d_287, d_293, d_299, d_305) => ∃ (m5 : Nat), ∃ (pz : Option Addr), ∃ (pC : Nat), ∃ (tT : List Value), ∃ (ob : Nat), ∃ (f8 : Option Addr), ∃ (f9 : Nat), ∃ (o7 : List Value), ∃ (gY : Nat), ∃ (jj : Option Addr), ∃ (jk : Nat), ∃ (nj : List Value), ∃ (g5 : Nat), ∃ (iF : Option Addr), ∃ (jl : Nat), ∃ (o8 : List Value), ∃ (g6 : Nat), ∃ (fd : Option Addr), ∃ (fe : Nat), ∃ (qn : List Value), ∃ (gT : Nat), ∃ (ii : Option Addr), ∃ (ik : Nat), ∃ (sc : List Value), agrees σ [(1, .int .i64 k2_225), (4, .pointer (some ⟨B8, 0, none⟩)), (6, .pointer (some ⟨fL, 0, none⟩)), (7, .map (some B160)), (8, .slice f8 ob f9), (10, .slice pz m5 pC), (11, .string (gstr (ix d_227 k2_226))), (86, .int .i64 (a0.Gens.length : Int)), (87, .int .i64 (k3_273 : Int))] ∧ (fun Z0 => Owns w0.heap.size w Z0 A ∧ Els (Rp.int .i64) (bl Z0 ++ A) w tT d_274 ∧ Els (Rp.str) (bl Z0 ++ A) w o7 d_280 ∧ Els (rpRule) (bl Z0 ++ A) w nj d_287 ∧ Els (Rp.sl (Rp.int .i64)) (bl Z0 ++ A) w lC d_240 ∧ Els (Rp.int .i64) (bl Z0 ++ A) w o8 d_293 ∧ Els (Rp.int .i64) (bl Z0 ++ A) w qn d_299 ∧ Els (Rp.sl (Rp.int .i64)) (bl Z0 ++ A) w sc d_305 ∧ ISl (Rp.sl (Rp.int .i64)) (bl Z0 ++ A) w az aA a0.Gens ∧ Fr (bl []) w0 (bl Z0) w) [.row 3 1 pz m5 pC tT, .row 9 1 f8 ob f9 o7, .any (mapE (fun a : List UInt8 => Value.string (gstr a)) (fun a : Int => Value.int .i64 a) B160 m3_286), .blk fL (.cells #[.int .i64 a0.Points, .bool a0.Monoid, .slice az a0.Gens.length aA, .slice ii gT ik, .slice fd g6 fe, .slice iF g5 jl, .slice eM eK eN, .slice jj gY jk, .int .i64 k2_226] 29 (0, 0)), .row 39 2 jj gY jk nj, .row 26 1 eM eK eN lC, .row 3 1 iF g5 jl o8, .row 3 1 fd g6 fe qn, .row 26 1 ii gT ik sc, .blk B8 (.cells #[.int .i64 (0 : Int), .bool false, .slice none 0 0, .slice none 0 0, .slice none 0 0, .slice none 0 0, .slice none 0 0, .slice none 0 0, .int .i64 (0 : Int)] 29 (0, 0))]) H ⟨0, none, 0, [], z8, z9, Aa, sa, oG, mj, ml, yd, oH, mm, mo, ye, oI, mp, mq, yf, oJ, mr, ms, yg, ⟨rfl, rfl, rfl, rfl, rfl, rfl, rfl, rfl, rfl, trivial⟩, hO, W9, kI, nB, bq, uk, vA, AI, ac, hB⟩ ?_
   intro X3
   refine prE fun k3_273 => prE fun d_274 => prE fun d_280 => prE fun m3_286 => prE fun d_287 => prE fun d_293 => prE fun d_299 => fun d_305 => ?_
   intro H hX3 σ abE
   refine exE fun m5 => exE fun pz => exE fun pC => exE fun tT => exE fun ob => exE fun f8 => exE fun f9 => exE fun o7 => exE fun gY => exE fun jj => exE fun jk => exE fun nj => exE fun g5 => exE fun iF => exE fun jl => exE fun o8 => exE fun g6 => exE fun fd => exE fun fe => exE fun qn => exE fun gT => exE fun ii => exE fun ik => exE fun sc => andE fun hag => andE fun hO => andE fun ce => andE fun bG => andE fun bj => andE fun bq => andE fun cF => andE fun de => andE fun dq => andE fun ac => fun hB => ?_
   dsimp only at H
   refine Go1.keep [(1, .int .i64 k2_225), (4, .pointer (some ⟨B8, 0, none⟩)), (6, .pointer (some ⟨fL, 0, none⟩)), (7, .map (some B160)), (8, .slice f8 ob f9), (10, .slice pz m5 pC), (11, .string (gstr (ix d_227 k2_226))), (86, .int .i64 (a0.Gens.length : Int)), (87, .int .i64 (k3_273 : Int))] hag ?_
   refine zq (zr ?_)
   by_cases GN : (k3_273 : Int) < (a0.Gens.length : Int)
   ·replace H := ifp GN H
    refine zo (fun w => opB (op_lss rfl rfl w) (decide_eq_true GN)) (zn (zq (zt rfl rfl (zk (zq ?_)))))
    refine zb (zq (zr (zm rfl (za rfl (zn ?_)))))
    refine zq ?_
    refine Go1.drawS 0 [(0, .pure), (1, .stable), (2, .pure), (3, .stable), (4, .pure), (5, .stable), (6, .pure), (7, .stable), (8, .pure), (9, .pure), (10, .stable), (11, .loud), (12, .pure)] mixed (by kernel_rfl) ?_
    intro agK Xa
    have yB := Stp.same hO Xa
    replace hO := yB.own
    refine GoQ.pure rfl (op_fieldAddr Try.underlying29 rfl ti22 rfl (by decide)) rfl rfl ?_
    refine GoQ.stable rfl (oblk (i := 3) 3 hO rfl rfl Try.underlying22 rfl rfl) rfl rfl ?_
    refine GoQ.pure rfl (op_fieldAddr Try.underlying29 rfl ti3 rfl (by decide)) rfl rfl ?_
    refine GoQ.stable rfl (oblk (i := 8) 3 hO rfl rfl Try.underlying3 rfl rfl) rfl rfl ?_
    obtain ⟨Oy, H⟩ := H
    obtain ⟨Oz, H⟩ := H
    replace dq := dq.ch yB.ch
    refine GoQ.pure rfl (op_index Try.underlying22 ti26 rfl rfl Oy (ltn (dq.neq hO 8 rfl) Oz) (dq.psome hO 8 rfl Oy Oz)) rfl rfl ?_
    have hobt := oldSl 8 hO rfl dq Oy Oz
    obtain ⟨agL, agM, cd, Xb⟩ := hobt
    refine GoQ.stable rfl (Xb Try.underlying26 rfl rfl) rfl rfl ?_
    refine GoQ.pure rfl (op_fieldAddr Try.underlying29 rfl ti22 rfl (by decide)) rfl rfl ?_
    refine GoQ.stable rfl (oblk (i := 2) 3 hO rfl rfl Try.underlying22 rfl rfl) rfl rfl ?_
    refine GoQ.pure rfl (op_move rfl) rfl rfl ?_
    obtain ⟨OA, H⟩ := H
    obtain ⟨OB, H⟩ := H
    replace ac := ac.ch yB.ch
    refine GoQ.pure rfl (op_index Try.underlying22 ti26 rfl rfl OA OB (ac.some_ OA OB)) rfl rfl ?_
    have hobt := ldSl ac OA OB
    obtain ⟨agN, agO, bF, Xc⟩ := hobt
    refine GoQ.stable rfl (Xc Try.underlying26 rfl rfl) rfl rfl ?_
    refine GoQ.call rfl (op_call body43 rfl (walk_ref11_Compose hO.lt cd bF H)) (fun v w hr => by obtain ⟨_, _, _, _, hs, _, _⟩ := hr; assumption) rfl rfl ?_
    rintro abG P1 ⟨r327, sD, sE, rfl, Mt, bo, H⟩
    have gk := Stp.same hO Mt
    replace hO := gk.own
    refine GoQ.pure rfl (op_assign rfl) rfl rfl ?_
    refine GoQ.nil ?_
    refine zq (zr (zo (op_fieldAddr Try.underlying29 rfl ti22 rfl (by decide)) (zs (oblk (i := 3) 3 hO rfl rfl Try.underlying22 rfl rfl) (zm rfl ?_))))
    replace dq := dq.ch gk.ch
    have hobt := rowlend 8 hO rfl dq
    obtain ⟨Xd, Xe⟩ := hobt
    have hOc335 := hO.drop 8
    refine GoR.call (op_call body41 (show ([.slice ii gT ik, .slice sD r327.length sE] : List Value) = [.slice ii d_305.length ik, .slice sD r327.length sE] from by rw [← Xe]) (walk_ref12_Find hOc335.lt Xd (bo.ch (Owns.dropCh _ _ 8)) H)) rfl rfl ?_
    rintro agP aa6 ⟨r336, rfl, Xf, H⟩
    have g8 := Stp.same hO Xf
    replace hO := g8.own
    refine za rfl (zn (zq ?_))
    refine Go1.cut [(1, .int .i64 k2_225), (4, .pointer (some ⟨B8, 0, none⟩)), (6, .pointer (some ⟨fL, 0, none⟩)), (7, .map (some B160)), (8, .slice f8 ob f9), (10, .slice pz m5 pC), (11, .string (gstr (ix d_227 k2_226))), (12, .int .i64 (k3_273 : Int)), (13, .slice sD r327.length sE), (14, .int .i64 r336), (86, .int .i64 (a0.Gens.length : Int)), (87, .int .i64 (k3_273 : Int))] ⟨rfl, rfl, rfl, rfl, rfl, rfl, rfl, rfl, rfl, rfl, rfl, rfl, trivial⟩ ?_
    intro σ _
    refine zr (zm rfl (zm rfl ?_))
    refine GoR.call (op_call body55 rfl (walk_ref12_letter hO.lt H)) rfl rfl ?_
    rintro agQ agR ⟨r342, rfl, L1, acS, H⟩
    have vh := Stp.same hO L1
    replace hO := vh.own
    obtain ⟨OC, H⟩ := H
    refine zo (op_addS rfl rfl OC) (za rfl (zn (zq (zq (zr ?_)))))
    refine zm rfl ?_
    by_cases Jp : r336 < (0 : Int)
    ·replace H := ifp Jp H
     refine zo (fun w => opB (op_lss rfl rfl w) (decide_eq_true Jp)) (zn (zt rfl rfl (zq (zq (zr ?_)))))
     refine zo (op_fieldAddr Try.underlying29 rfl ti22 rfl (by decide)) (zs (oblk (i := 3) 3 hO rfl rfl Try.underlying22 rfl rfl) ?_)
     replace dq := (dq.ch g8.ch).ch vh.ch
     refine zo (op_lenN Try.underlying22 rfl (dq.neq hO 8 rfl)) ?_
     by_cases Jx : (d_305.length : Int) = (2000 : Int)
     ·replace H := ifp Jx H
      refine zo (fun w => opB (op_eql rfl rfl w) (decide_eq_true Jx)) (zn (zt rfl rfl (zq (zr (zo (op_build Try.underlying29 ti29 (pl := [(0, 1), (1, 1), (2, 1), (3, 1), (4, 1), (5, 1), (6, 1), (7, 1), (8, 1)]) (vs := []) (cs := #[.int .i64 (0 : Int), .bool false, .slice none 0 0, .slice none 0 0, .slice none 0 0, .slice none 0 0, .slice none 0 0, .slice none 0 0, .int .i64 (0 : Int)]) (by kernel_rfl) rfl (by kernel_rfl)) ?_)))))
      have hobt := oblkStAgg (us := [.int .i64 (0 : Int), .bool false, .slice none 0 0, .slice none 0 0, .slice none 0 0, .slice none 0 0, .slice none 0 0, .slice none 0 0, .int .i64 (0 : Int)]) (o := 0) (cs' := #[.int .i64 (0 : Int), .bool false, .slice none 0 0, .slice none 0 0, .slice none 0 0, .slice none 0 0, .slice none 0 0, .slice none 0 0, .int .i64 (0 : Int)]) 9 hO rfl rfl (Nat.le_of_ble_eq_true rfl) rfl
      obtain ⟨aa7, ul, Sw⟩ := hobt
      dsimp only [sS, sZ] at ul
      refine zg (Sw ti29 (by exact rfl) (by exact rfl) rfl) ?_
      replace hO := ul.own
      refine za rfl (zn ?_)
      refine Go1.retC2 Try.func52 rfl rfl (run_loadBlk (vs := [.int .i64 (0 : Int), .bool false, .slice none 0 0, .slice none 0 0, .slice none 0 0, .slice none 0 0, .slice none 0 0, .slice none 0 0, .int .i64 (0 : Int)]) 9 hO rfl rfl Try.underlying29 rfl ti29) ?_
      replace hB := ((((hB.trans yB.fr).trans gk.fr).trans g8.fr).trans vh.fr).trans ul.fr
      exact ⟨(⟨(0 : Int), false, ([] : List (List Int)), ([] : List (List Int)), ([] : List Int), ([] : List Int), ([] : List (List Int)), ([] : List Rule), (0 : Int)⟩ : Enum), (3 : Int), none, 0, none, 0, none, 0, none, 0, none, 0, none, 0, rfl, hB.same, (ISl.null _ _ _), (ISl.null _ _ _), (ISl.null _ _ _), (ISl.null _ _ _), (ISl.null _ _ _), (ISl.null _ _ _), H⟩
     replace H := ifn Jx H
     refine zo (fun w => opB (op_eql rfl rfl w) (decide_eq_false Jx)) (zn (zf rfl rfl (zk (zq (zr ?_)))))
     refine zo (op_fieldAddr Try.underlying29 rfl ti22 rfl (by decide)) (zs (oblk (i := 3) 3 hO rfl rfl Try.underlying22 rfl rfl) (zo (op_lenN Try.underlying22 rfl (dq.neq hO 8 rfl)) (za rfl (zn (zq ?_)))))
     refine Go1.drawA (CSv.tr [(some ⟨fL, 3, none⟩), (some ⟨fL, 4, none⟩), (some ⟨fL, 8, none⟩), (some ⟨fL, 5, none⟩)]) A 1 [(0, .pure), (1, .stable), (2, .pure), (5, .pure), (6, .stable), (7, .pure), (8, .stable), (11, .pure), (12, .stable), (13, .pure), (3, .alloc), (4, .loud), (16, .pure), (9, .alloc), (10, .loud), (14, .alloc), (15, .loud), (17, .last), (18, .pure), (19, .last), (20, .pure), (21, .last)] mixed (by kernel_rfl) trivial hO.bd ?_
     intro abH Xg
     have ma := Stp.same hO Xg
     replace hO := ma.own
     have ME := hO.le
     replace hB := ((((hB.trans yB.fr).trans gk.fr).trans g8.fr).trans vh.fr).trans ma.fr
     have hw357 := hB.ch.size
     refine GoQA.pure rfl (op_fieldAddr Try.underlying29 rfl ti22 rfl (by decide)) rfl rfl ?_
     refine GoQA.stable rfl (loadV (.head _) rfl (blkCell 3 hO rfl rfl) Try.underlying22 rfl rfl) rfl rfl ?_
     refine GoQA.pure rfl (op_move rfl) rfl rfl ?_
     refine GoQA.pure rfl (op_fieldAddr Try.underlying29 rfl ti26 rfl (by decide)) rfl rfl ?_
     refine GoQA.stable rfl (loadV (.tail _ (.head _)) rfl (blkCell 3 hO rfl rfl) Try.underlying26 rfl rfl) rfl rfl ?_
     refine GoQA.pure rfl (op_fieldAddr Try.underlying29 rfl ti3 rfl (by decide)) rfl rfl ?_
     refine GoQA.stable rfl (loadV (.tail _ (.tail _ (.head _))) rfl (blkCell 3 hO rfl rfl) Try.underlying3 rfl rfl) rfl rfl ?_
     refine GoQA.pure rfl (op_fieldAddr Try.underlying29 rfl ti26 rfl (by decide)) rfl rfl ?_
     refine GoQA.stable rfl (loadV (.tail _ (.tail _ (.tail _ (.head _)))) rfl (blkCell 3 hO rfl rfl) Try.underlying26 rfl rfl) rfl rfl ?_
     refine GoQA.pure rfl (op_move rfl) rfl rfl ?_
     refine GoQA.alloc rfl rfl (alBuild (n := 1) (parts := [(0, .slice sD r327.length sE)]) (vs := [.slice sD r327.length sE]) Try.underlying22 ti26 (by decide) (by decide) (by decide) (by kernel_rfl) rfl rfl) ?_
     intro KR A361 Sx A363 yh Pi hd366 hnb367 hh368
     replace hO := yh.own hO
     have Z19 := ((g8.ch.trans vh.ch).trans ma.ch).trans (yh.ch _)
     replace bo := bo.ch Z19
     have Ja : Els (Rp.sl (Rp.int .i64)) (bl [.row 3 1 pz m5 pC tT, .row 9 1 f8 ob f9 o7, .any (mapE (fun a : List UInt8 => Value.string (gstr a)) (fun a : Int => Value.int .i64 a) B160 m3_286), .blk fL (.cells #[.int .i64 a0.Points, .bool a0.Monoid, .slice az a0.Gens.length aA, .slice ii gT ik, .slice fd g6 fe, .slice iF g5 jl, .slice eM eK eN, .slice jj gY jk, .int .i64 k2_226] 29 (0, 0)), .row 39 2 jj gY jk nj, .row 26 1 eM eK eN lC, .row 3 1 iF g5 jl o8, .row 3 1 fd g6 fe qn, .row 26 1 ii gT ik sc, .blk B8 (.cells #[.int .i64 (0 : Int), .bool false, .slice none 0 0, .slice none 0 0, .slice none 0 0, .slice none 0 0, .slice none 0 0, .slice none 0 0, .int .i64 (0 : Int)] 29 (0, 0))] ++ A361) KR [.slice sD r327.length sE] [r327] := (Els.cons rfl ⟨sD, sE, rfl, bo⟩ (Els.nil _ _ _) (by simp [mx]))
     have lv := gainCh (w := KR) (E := [.row 3 1 pz m5 pC tT, .row 9 1 f8 ob f9 o7, .any (mapE (fun a : List UInt8 => Value.string (gstr a)) (fun a : Int => Value.int .i64 a) B160 m3_286), .blk fL (.cells #[.int .i64 a0.Points, .bool a0.Monoid, .slice az a0.Gens.length aA, .slice ii gT ik, .slice fd g6 fe, .slice iF g5 jl, .slice eM eK eN, .slice jj gY jk, .int .i64 k2_226] 29 (0, 0)), .row 39 2 jj gY jk nj, .row 26 1 eM eK eN lC, .row 3 1 iF g5 jl o8, .row 3 1 fd g6 fe qn, .row 26 1 ii gT ik sc, .blk B8 (.cells #[.int .i64 (0 : Int), .bool false, .slice none 0 0, .slice none 0 0, .slice none 0 0, .slice none 0 0, .slice none 0 0, .slice none 0 0, .int .i64 (0 : Int)] 29 (0, 0))]) (e := .row 26 1 (some ⟨Sx, 0, none⟩) 1 1 [.slice sD r327.length sE]) Pi rfl
     replace hB := hB.trans (yh.same.fr _)
     replace hB := Fr.gain (e := .row 26 1 (some ⟨Sx, 0, none⟩) 1 1 [.slice sD r327.length sE]) hB (Nat.le_trans hw357 hnb367) rfl
     replace hO := Owns.gain hO Pi ME rfl hh368 hd366
     refine GoQA.loudI rfl rfl ?_
     intro agS A372 xo
     replace hO := xo.own hO
     replace Ja := (Ja.ch lv).ch (xo.ch _)
     have hobt := freeze 0 hO rfl Ja
     obtain ⟨hO1, zw, eU, Xh⟩ := hobt
     dsimp only [eS, eZ] at hO1 zw eU
     replace hB := (hB.trans (xo.same.fr _)).trans (Owns.dropFr _ _ 0)
     dsimp only [eS, eZ] at hB
     replace hO := hO1; clear hO1
     obtain ⟨abY, H⟩ := H
     have Z20 := (((ma.ch.trans (yh.ch _)).trans lv).trans (xo.ch _)).trans zw
     replace dq := dq.ch Z20
     have hobt := oapp Try.underlying22 ti26 rfl 8 hO rfl dq eU Xh abY (by decide)
     obtain ⟨aa8, GO, GP, pI, o9, eX, Sy⟩ := hobt
     dsimp only [sS, sZ] at o9 eX
     refine GoAt.step (Sy (by exact rfl) (by exact rfl)) (fun _ => (CSv.cons (cs_eq (blkCell 3 hO rfl rfl) (blkCell 3 o9.own rfl rfl)) (CSv.cons (cs_eq (blkCell 3 hO rfl rfl) (blkCell 3 o9.own rfl rfl)) (CSv.cons (cs_eq (blkCell 3 hO rfl rfl) (blkCell 3 o9.own rfl rfl)) (CSv.cons (cs_eq (blkCell 3 hO rfl rfl) (blkCell 3 o9.own rfl rfl)) (CSv.nil _ _)))))) (Stp.kp hO o9) rfl ?_
     replace hO := o9.own
     refine GoQA.pure rfl (op_fieldAddr Try.underlying29 rfl ti22 rfl (by decide)) rfl rfl ?_
     refine GoQA.alloc rfl rfl (alBuild (n := 1) (parts := [(0, .int .i64 k2_226)]) (vs := [.int .i64 k2_226]) Try.underlying26 ti3 (by decide) (by decide) (by decide) (by kernel_rfl) rfl rfl) ?_
     intro N9 A388 Sz A390 xp Pj hd393 hnb394 hh395
     replace hO := xp.own hO
     have Jb : Els (Rp.int .i64) (bl [.row 3 1 pz m5 pC tT, .row 9 1 f8 ob f9 o7, .any (mapE (fun a : List UInt8 => Value.string (gstr a)) (fun a : Int => Value.int .i64 a) B160 m3_286), .blk fL (.cells #[.int .i64 a0.Points, .bool a0.Monoid, .slice az a0.Gens.length aA, .slice ii gT ik, .slice fd g6 fe, .slice iF g5 jl, .slice eM eK eN, .slice jj gY jk, .int .i64 k2_226] 29 (0, 0)), .row 39 2 jj gY jk nj, .row 26 1 eM eK eN lC, .row 3 1 iF g5 jl o8, .row 3 1 fd g6 fe qn, .row 26 1 GO (gT + 1) GP pI, .blk B8 (.cells #[.int .i64 (0 : Int), .bool false, .slice none 0 0, .slice none 0 0, .slice none 0 0, .slice none 0 0, .slice none 0 0, .slice none 0 0, .int .i64 (0 : Int)] 29 (0, 0))] ++ A388) N9 [.int .i64 k2_226] [k2_226] := (Els.cons rfl rfl (Els.nil _ _ _) (by simp [mx]))
     have yi := gainCh (w := N9) (E := [.row 3 1 pz m5 pC tT, .row 9 1 f8 ob f9 o7, .any (mapE (fun a : List UInt8 => Value.string (gstr a)) (fun a : Int => Value.int .i64 a) B160 m3_286), .blk fL (.cells #[.int .i64 a0.Points, .bool a0.Monoid, .slice az a0.Gens.length aA, .slice ii gT ik, .slice fd g6 fe, .slice iF g5 jl, .slice eM eK eN, .slice jj gY jk, .int .i64 k2_226] 29 (0, 0)), .row 39 2 jj gY jk nj, .row 26 1 eM eK eN lC, .row 3 1 iF g5 jl o8, .row 3 1 fd g6 fe qn, .row 26 1 GO (gT + 1) GP pI, .blk B8 (.cells #[.int .i64 (0 : Int), .bool false, .slice none 0 0, .slice none 0 0, .slice none 0 0, .slice none 0 0, .slice none 0 0, .slice none 0 0, .int .i64 (0 : Int)] 29 (0, 0))]) (e := .row 3 1 (some ⟨Sz, 0, none⟩) 1 1 [.int .i64 k2_226]) Pj rfl
     replace hB := (hB.trans o9.fr).trans (xp.same.fr _)
     replace hB := Fr.gain (e := .row 3 1 (some ⟨Sz, 0, none⟩) 1 1 [.int .i64 k2_226]) hB (Nat.le_trans hw357 hnb394) rfl
     replace hO := Owns.gain hO Pj ME rfl hh395 hd393
     refine GoQA.loudI rfl rfl ?_
     intro aaf A399 vV
     replace hO := vV.own hO
     replace Jb := (Jb.ch yi).ch (vV.ch _)
     have hobt := freeze 0 hO rfl Jb
     obtain ⟨hO1, yj, fQ, Xi⟩ := hobt
     dsimp only [eS, eZ] at hO1 yj fQ
     replace hB := (hB.trans (vV.same.fr _)).trans (Owns.dropFr _ _ 0)
     dsimp only [eS, eZ] at hB
     replace hO := hO1; clear hO1
     obtain ⟨ab0, H⟩ := H
     have Z21 := ((((((((((((yB.ch.trans gk.ch).trans g8.ch).trans vh.ch).trans ma.ch).trans (yh.ch _)).trans lv).trans (xo.ch _)).trans zw).trans o9.ch).trans (xp.ch _)).trans yi).trans (vV.ch _)).trans yj
     replace de := de.ch Z21
     have hobt := oapp Try.underlying26 ti3 rfl 7 hO rfl de fQ Xi ab0 (by decide)
     obtain ⟨agT, JH, JI, MF, om, gj, KI⟩ := hobt
     dsimp only [sS, sZ] at om gj
     refine GoAt.step (KI (by exact rfl) (by exact rfl)) (fun _ => (CSv.cons (cs_eq (blkCell 3 hO rfl rfl) (blkCell 3 om.own rfl rfl)) (CSv.cons (cs_eq (blkCell 3 hO rfl rfl) (blkCell 3 om.own rfl rfl)) (CSv.cons (cs_eq (blkCell 3 hO rfl rfl) (blkCell 3 om.own rfl rfl)) (CSv.cons (cs_eq (blkCell 3 hO rfl rfl) (blkCell 3 om.own rfl rfl)) (CSv.nil _ _)))))) (Stp.kp hO om) rfl ?_
     replace hO := om.own
     refine GoQA.alloc rfl rfl (alBuild (n := 1) (parts := [(0, .int .i64 (k3_273 : Int))]) (vs := [.int .i64 (k3_273 : Int)]) Try.underlying26 ti3 (by decide) (by decide) (by decide) (by kernel_rfl) rfl rfl) ?_
     intro OD A415 SA A417 vW Pk hd420 hnb421 hh422
     replace hO := vW.own hO
     have Jc : Els (Rp.int .i64) (bl [.row 3 1 pz m5 pC tT, .row 9 1 f8 ob f9 o7, .any (mapE (fun a : List UInt8 => Value.string (gstr a)) (fun a : Int => Value.int .i64 a) B160 m3_286), .blk fL (.cells #[.int .i64 a0.Points, .bool a0.Monoid, .slice az a0.Gens.length aA, .slice ii gT ik, .slice fd g6 fe, .slice iF g5 jl, .slice eM eK eN, .slice jj gY jk, .int .i64 k2_226] 29 (0, 0)), .row 39 2 jj gY jk nj, .row 26 1 eM eK eN lC, .row 3 1 iF g5 jl o8, .row 3 1 JH (g6 + 1) JI MF, .row 26 1 GO (gT + 1) GP pI, .blk B8 (.cells #[.int .i64 (0 : Int), .bool false, .slice none 0 0, .slice none 0 0, .slice none 0 0, .slice none 0 0, .slice none 0 0, .slice none 0 0, .int .i64 (0 : Int)] 29 (0, 0))] ++ A415) OD [.int .i64 (k3_273 : Int)] [(k3_273 : Int)] := (Els.cons rfl rfl (Els.nil _ _ _) (by simp [mx]))
     have xq := gainCh (w := OD) (E := [.row 3 1 pz m5 pC tT, .row 9 1 f8 ob f9 o7, .any (mapE (fun a : List UInt8 => Value.string (gstr a)) (fun a : Int => Value.int .i64 a) B160 m3_286), .blk fL (.cells #[.int .i64 a0.Points, .bool a0.Monoid, .slice az a0.Gens.length aA, .slice ii gT ik, .slice fd g6 fe, .slice iF g5 jl, .slice eM eK eN, .slice jj gY jk, .int .i64 k2_226] 29 (0, 0)), .row 39 2 jj gY jk nj, .row 26 1 eM eK eN lC, .row 3 1 iF g5 jl o8, .row 3 1 JH (g6 + 1) JI MF, .row 26 1 GO (gT + 1) GP pI, .blk B8 (.cells #[.int .i64 (0 : Int), .bool false, .slice none 0 0, .slice none 0 0, .slice none 0 0, .slice none 0 0, .slice none 0 0, .slice none 0 0, .int .i64 (0 : Int)] 29 (0, 0))]) (e := .row 3 1 (some ⟨SA, 0, none⟩) 1 1 [.int .i64 (k3_273 : Int)]) Pk rfl
     replace hB := (hB.trans om.fr).trans (vW.same.fr _)
     replace hB := Fr.gain (e := .row 3 1 (some ⟨SA, 0, none⟩) 1 1 [.int .i64 (k3_273 : Int)]) hB (Nat.le_trans hw357 hnb421) rfl
     replace hO := Owns.gain hO Pk ME rfl hh422 hd420
     refine GoQA.loudI rfl rfl ?_
     intro agU A426 uJ
     replace hO := uJ.own hO
     replace Jc := (Jc.ch xq).ch (uJ.ch _)
     have hobt := freeze 0 hO rfl Jc
     obtain ⟨hO1, xr, jo, Xj⟩ := hobt
     dsimp only [eS, eZ] at hO1 xr jo
     replace hB := (hB.trans (uJ.same.fr _)).trans (Owns.dropFr _ _ 0)
     dsimp only [eS, eZ] at hB
     replace hO := hO1; clear hO1
     obtain ⟨ab1, H⟩ := H
     have Z22 := ((((Z21.trans om.ch).trans (vW.ch _)).trans xq).trans (uJ.ch _)).trans xr
     replace cF := cF.ch Z22
     have hobt := oapp Try.underlying26 ti3 rfl 6 hO rfl cF jo Xj ab1 (by decide)
     obtain ⟨agV, OE, OF, Xk, fv, jm, SB⟩ := hobt
     dsimp only [sS, sZ] at fv jm
     refine GoAt.step (SB (by exact rfl) (by exact rfl)) (fun _ => (CSv.cons (cs_eq (blkCell 3 hO rfl rfl) (blkCell 3 fv.own rfl rfl)) (CSv.cons (cs_eq (blkCell 3 hO rfl rfl) (blkCell 3 fv.own rfl rfl)) (CSv.cons (cs_eq (blkCell 3 hO rfl rfl) (blkCell 3 fv.own rfl rfl)) (CSv.cons (cs_eq (blkCell 3 hO rfl rfl) (blkCell 3 fv.own rfl rfl)) (CSv.nil _ _)))))) (Stp.kp hO fv) rfl ?_
     replace hO := fv.own
     refine GoQA.lastI rfl rfl ?_
     intro agW A441 uK
     replace hO := uK.own hO
     have hobt := oblkSt2 (v := .slice GO (gT + 1) GP) (i := 3) (cs' := #[.int .i64 a0.Points, .bool a0.Monoid, .slice az a0.Gens.length aA, .slice GO (gT + 1) GP, .slice fd g6 fe, .slice iF g5 jl, .slice eM eK eN, .slice jj gY jk, .int .i64 k2_226]) 3 hO rfl rfl rfl rfl
     obtain ⟨agX, pX, SC⟩ := hobt
     dsimp only [sS, sZ] at pX
     refine GoAt.step (SC Try.underlying22 rfl ti22 (by exact rfl) (by exact rfl)) (fun h => nomatch h) (Stp.kp hO pX) rfl ?_
     replace hO := pX.own
     refine GoQA.pure rfl (op_fieldAddr Try.underlying29 rfl ti26 rfl (by decide)) rfl rfl ?_
     refine GoQA.lastI rfl rfl ?_
     intro agY A447 uL
     replace hO := uL.own hO
     have hobt := oblkSt2 (v := .slice JH (g6 + 1) JI) (i := 4) (cs' := #[.int .i64 a0.Points, .bool a0.Monoid, .slice az a0.Gens.length aA, .slice GO (gT + 1) GP, .slice JH (g6 + 1) JI, .slice iF g5 jl, .slice eM eK eN, .slice jj gY jk, .int .i64 k2_226]) 3 hO rfl rfl rfl rfl
     obtain ⟨ag0, pY, KL⟩ := hobt
     dsimp only [sS, sZ] at pY
     refine GoAt.step (KL Try.underlying26 rfl ti26 (by exact rfl) (by exact rfl)) (fun h => nomatch h) (Stp.kp hO pY) rfl ?_
     replace hO := pY.own
     refine GoQA.pure rfl (op_fieldAddr Try.underlying29 rfl ti26 rfl (by decide)) rfl rfl ?_
     refine GoQA.lastI rfl rfl ?_
     intro ag1 A453 uM
     replace hO := uM.own hO
     have hobt := oblkSt2 (v := .slice OE (g5 + 1) OF) (i := 5) (cs' := #[.int .i64 a0.Points, .bool a0.Monoid, .slice az a0.Gens.length aA, .slice GO (gT + 1) GP, .slice JH (g6 + 1) JI, .slice OE (g5 + 1) OF, .slice eM eK eN, .slice jj gY jk, .int .i64 k2_226]) 3 hO rfl rfl rfl rfl
     obtain ⟨aan, p5, SD⟩ := hobt
     dsimp only [sS, sZ] at p5
     refine GoAt.step (SD Try.underlying26 rfl ti26 (by exact rfl) (by exact rfl)) (fun h => nomatch h) (Stp.kp hO p5) rfl ?_
     replace hO := p5.own
     refine GoQA.nil ?_
     intro abK A459 uN vX
     replace hO := uN.own hO
     replace hO := hO.permA vX
     refine zq ?_
     refine Go1.cut [(1, .int .i64 k2_225), (4, .pointer (some ⟨B8, 0, none⟩)), (6, .pointer (some ⟨fL, 0, none⟩)), (7, .map (some B160)), (8, .slice f8 ob f9), (10, .slice pz m5 pC), (11, .string (gstr (ix d_227 k2_226))), (14, .int .i64 (d_305.length : Int)), (15, .string (gstr ((ix d_227 k2_226) ++ r342))), (86, .int .i64 (a0.Gens.length : Int)), (87, .int .i64 (k3_273 : Int))] ⟨rfl, rfl, rfl, rfl, rfl, rfl, rfl, rfl, rfl, rfl, rfl, trivial⟩ ?_
     intro σ _
     refine zr (zm rfl (zm rfl ?_))
     have hobt := obuild (r := Rp.str) (n := 1) (parts := [(0, .string (gstr ((ix d_227 k2_226) ++ r342)))]) (vs := [.string (gstr ((ix d_227 k2_226) ++ r342))]) (xs := [(ix d_227 k2_226) ++ r342]) rfl Try.underlying70 ti9 hO (by decide) (by kernel_rfl) (Els.cons rfl ⟨rfl, (lenApp OC)⟩ (Els.nil _ _ _) (by simp [mx])) rfl
     obtain ⟨ag2, ag3, jV, Xl, ady, SE⟩ := hobt
     refine zg (SE rfl) ?_
     replace hO := jV.own
     have hobt := freeze 0 hO rfl Xl
     obtain ⟨hO1, vY, zx, Xm⟩ := hobt
     dsimp only [eS, eZ] at hO1 vY zx
     replace hB := (((((((((hB.trans fv.fr).trans (uK.same.fr _)).trans pX.fr).trans (uL.same.fr _)).trans pY.fr).trans (uM.same.fr _)).trans p5.fr).trans (uN.same.fr _)).trans jV.fr).trans (Owns.dropFr _ _ 0)
     dsimp only [eS, eZ] at hB
     replace hO := hO1; clear hO1
     obtain ⟨ab2, H⟩ := H
     have Z23 := ((((((((((Z22.trans fv.ch).trans (uK.ch _)).trans pX.ch).trans (uL.ch _)).trans pY.ch).trans (uM.ch _)).trans p5.ch).trans (uN.ch _)).trans (permCh vX _)).trans jV.ch).trans vY
     replace bG := bG.ch Z23
     have hobt := oapp Try.underlying70 ti9 rfl 1 hO rfl bG zx Xm ab2 (by decide)
     obtain ⟨ag4, ab3, ab4, Xn, jr, yR, SF⟩ := hobt
     dsimp only [sS, sZ] at jr yR
     refine zg (SF (by exact rfl) (by exact rfl)) ?_
     replace hO := jr.own
     refine za rfl (zn (zr (zm rfl (zm rfl (zm rfl ?_)))))
     have hobt := omapUpd (MK.str Try.underlying9) 2 hO rfl Try.underlying69 ((ix d_227 k2_226) ++ r342) (d_305.length : Int)
     obtain ⟨ag5, qa, KM⟩ := hobt
     dsimp only [sS, sZ] at qa
     refine zg (KM (by exact rfl) (by exact rfl) (by exact rfl)) ?_
     replace hO := qa.own
     refine zn (zr (zm rfl (zm rfl ?_)))
     have hobt := obuild (r := Rp.int .i64) (n := 1) (parts := [(0, .int .i64 (d_305.length : Int))]) (vs := [.int .i64 (d_305.length : Int)]) (xs := [(d_305.length : Int)]) rfl Try.underlying26 ti3 hO (by decide) (by kernel_rfl) (Els.cons rfl rfl (Els.nil _ _ _) (by simp [mx])) rfl
     obtain ⟨ag6, ag7, gR, J3, adz, SG⟩ := hobt
     refine zg (SG rfl) ?_
     replace hO := gR.own
     have hobt := freeze 0 hO rfl J3
     obtain ⟨hO1, uO, J6, Xo⟩ := hobt
     dsimp only [eS, eZ] at hO1 uO J6
     replace hB := (((hB.trans jr.fr).trans qa.fr).trans gR.fr).trans (Owns.dropFr _ _ 0)
     dsimp only [eS, eZ] at hB
     replace hO := hO1; clear hO1
     obtain ⟨ab5, H⟩ := H
     have Z24 := (((Z23.trans jr.ch).trans qa.ch).trans gR.ch).trans uO
     replace ce := ce.ch Z24
     have hobt := oapp Try.underlying26 ti3 rfl 0 hO rfl ce J6 Xo ab5 (by decide)
     obtain ⟨ag8, ab6, ab7, Xp, qb, Pl, SJ⟩ := hobt
     dsimp only [sS, sZ] at qb Pl
     refine zg (SJ (by exact rfl) (by exact rfl)) ?_
     replace hO := qb.own
     refine za rfl (zn ?_)
     refine Go1.inBlock ?_
     refine zr ?_
     have Z25 := ((((((((((((((((((((((((((((((((gk.ch.trans g8.ch).trans vh.ch).trans ma.ch).trans (yh.ch _)).trans lv).trans (xo.ch _)).trans zw).trans o9.ch).trans (xp.ch _)).trans yi).trans (vV.ch _)).trans yj).trans om.ch).trans (vW.ch _)).trans xq).trans (uJ.ch _)).trans xr).trans fv.ch).trans (uK.ch _)).trans pX.ch).trans (uL.ch _)).trans pY.ch).trans (uM.ch _)).trans p5.ch).trans (uN.ch _)).trans (permCh vX _)).trans jV.ch).trans vY).trans jr.ch).trans qa.ch).trans gR.ch).trans uO).trans qb.ch
     replace ac := ac.ch Z25
     refine zo (op_add rfl rfl (wrap_i64 (natbd GN ac.bd))) (zm rfl (zn ?_))
     replace hB := hB.trans qb.fr
     have Z26 := ((qa.ch.trans gR.ch).trans uO).trans qb.ch
     replace yR := yR.ch Z26
     have Z27 := ((((((((((((((uK.ch _).trans pX.ch).trans (uL.ch _)).trans pY.ch).trans (uM.ch _)).trans p5.ch).trans (uN.ch _)).trans (permCh vX _)).trans jV.ch).trans vY).trans jr.ch).trans qa.ch).trans gR.ch).trans uO).trans qb.ch
     replace jm := jm.ch Z27
     have Z28 := (((((((((((((((((((vW.ch _).trans xq).trans (uJ.ch _)).trans xr).trans fv.ch).trans (uK.ch _)).trans pX.ch).trans (uL.ch _)).trans pY.ch).trans (uM.ch _)).trans p5.ch).trans (uN.ch _)).trans (permCh vX _)).trans jV.ch).trans vY).trans jr.ch).trans qa.ch).trans gR.ch).trans uO).trans qb.ch
     replace gj := gj.ch Z28
     have Z29 := ((((((((((((((((((((((((xp.ch _).trans yi).trans (vV.ch _)).trans yj).trans om.ch).trans (vW.ch _)).trans xq).trans (uJ.ch _)).trans xr).trans fv.ch).trans (uK.ch _)).trans pX.ch).trans (uL.ch _)).trans pY.ch).trans (uM.ch _)).trans p5.ch).trans (uN.ch _)).trans (permCh vX _)).trans jV.ch).trans vY).trans jr.ch).trans qa.ch).trans gR.ch).trans uO).trans qb.ch
     replace eX := eX.ch Z29
     have Z30 := Z24.trans qb.ch
     replace bj := bj.ch Z30
     replace bq := bq.ch Z30
     exact hX3 _ H _ _ ⟨m5 + 1, ab6, ab7, Xp, ob + 1, ab3, ab4, Xn, gY, jj, jk, nj, g5 + 1, OE, OF, Xk, g6 + 1, JH, JI, MF, gT + 1, GO, GP, pI, ⟨rfl, rfl, rfl, rfl, rfl, rfl, rfl, rfl, rfl, trivial⟩, hO, Pl, yR, bj, bq, jm, gj, eX, ac, hB⟩
    replace H := ifn Jp H
    refine zo (fun w => opB (op_lss rfl rfl w) (decide_eq_false Jp)) (zn (zf rfl rfl (zq (zr (zm rfl ?_)))))
    by_cases MG : (ix d_227 k2_226) = (([] : Str))
    ·replace H := ifp MG H
     refine zo (fun w => opB (op_neqS rfl rfl w) (ndT MG)) (zm rfl (zp (zp (zp (zp ?_)))))
     refine zp (zp (zo (op_pickF rfl rfl rfl) (zn (zf rfl rfl (zk ?_)))))
     refine Go1.cut [(1, .int .i64 k2_225), (4, .pointer (some ⟨B8, 0, none⟩)), (6, .pointer (some ⟨fL, 0, none⟩)), (7, .map (some B160)), (8, .slice f8 ob f9), (10, .slice pz m5 pC), (11, .string (gstr (ix d_227 k2_226))), (14, .int .i64 r336), (86, .int .i64 (a0.Gens.length : Int)), (87, .int .i64 (k3_273 : Int))] ⟨rfl, rfl, rfl, rfl, rfl, rfl, rfl, rfl, rfl, rfl, trivial⟩ ?_
     intro σ _
     refine zr (zm rfl (zm rfl ?_))
     have hobt := obuild (r := Rp.int .i64) (n := 1) (parts := [(0, .int .i64 r336)]) (vs := [.int .i64 r336]) (xs := [r336]) rfl Try.underlying26 ti3 hO (by decide) (by kernel_rfl) (Els.cons rfl rfl (Els.nil _ _ _) (by simp [mx])) rfl
     obtain ⟨ag9, aha, vi, Xq, adA, SK⟩ := hobt
     refine zg (SK rfl) ?_
     replace hO := vi.own
     have hobt := freeze 0 hO rfl Xq
     obtain ⟨hO1, zy, J7, Xr⟩ := hobt
     dsimp only [eS, eZ] at hO1 zy J7
     replace hB := (((((hB.trans yB.fr).trans gk.fr).trans g8.fr).trans vh.fr).trans vi.fr).trans (Owns.dropFr _ _ 0)
     dsimp only [eS, eZ] at hB
     replace hO := hO1; clear hO1
     obtain ⟨ab8, H⟩ := H
     have Z31 := ((((yB.ch.trans gk.ch).trans g8.ch).trans vh.ch).trans vi.ch).trans zy
     replace ce := ce.ch Z31
     have hobt := oapp Try.underlying26 ti3 rfl 0 hO rfl ce J7 Xr ab8 (by decide)
     obtain ⟨ahb, ab9, aca, Xs, um, Pm, Kv⟩ := hobt
     dsimp only [sS, sZ] at um Pm
     refine zg (Kv (by exact rfl) (by exact rfl)) ?_
     replace hO := um.own
     refine za rfl (zn ?_)
     refine Go1.inBlock ?_
     refine zr ?_
     have Z32 := ((((gk.ch.trans g8.ch).trans vh.ch).trans vi.ch).trans zy).trans um.ch
     replace ac := ac.ch Z32
     refine zo (op_add rfl rfl (wrap_i64 (natbd GN ac.bd))) (zm rfl (zn ?_))
     replace hB := hB.trans um.fr
     have Z33 := (((g8.ch.trans vh.ch).trans vi.ch).trans zy).trans um.ch
     replace dq := dq.ch Z33
     have Z34 := Z31.trans um.ch
     replace bG := bG.ch Z34
     replace bj := bj.ch Z34
     replace bq := bq.ch Z34
     replace cF := cF.ch Z34
     replace de := de.ch Z34
     exact hX3 _ H _ _ ⟨m5 + 1, ab9, aca, Xs, ob, f8, f9, o7, gY, jj, jk, nj, g5, iF, jl, o8, g6, fd, fe, qn, gT, ii, ik, sc, ⟨rfl, rfl, rfl, rfl, rfl, rfl, rfl, rfl, rfl, trivial⟩, hO, Pm, bG, bj, bq, cF, de, dq, ac, hB⟩
    replace H := ifn MG H
    refine zo (fun w => opB (op_neqS rfl rfl w) (ndF MG)) (zm rfl (zm rfl (zm rfl ?_)))
    obtain ⟨MH, H⟩ := H
    obtain ⟨MJ, H⟩ := H
    have Z35 := ((yB.ch.trans gk.ch).trans g8.ch).trans vh.ch
    replace bG := bG.ch Z35
    refine zo (op_index Try.underlying70 ti9 rfl rfl MH (ltn (bG.neq hO 1 rfl) MJ) (bG.psome hO 1 rfl MH MJ)) (zs (oldStr 1 hO rfl bG MH MJ Try.underlying9 rfl rfl) ?_)
    have hle525 := Els.str_le bG MH MJ
    refine zm rfl ?_
    by_cases ML : (ix d_280 r336) = ((ix d_227 k2_226) ++ r342)
    ·replace H := ifp ML H
     refine zo (fun w => opB (op_neqS rfl rfl w) (ndT ML)) (zo (op_pickT rfl rfl rfl) (zn (zf rfl rfl (zk (zr ?_)))))
     refine zm rfl (zm rfl ?_)
     have hobt := obuild (r := Rp.int .i64) (n := 1) (parts := [(0, .int .i64 r336)]) (vs := [.int .i64 r336]) (xs := [r336]) rfl Try.underlying26 ti3 hO (by decide) (by kernel_rfl) (Els.cons rfl rfl (Els.nil _ _ _) (by simp [mx])) rfl
     obtain ⟨ahc, ahd, vj, GJ, adB, SM⟩ := hobt
     refine zg (SM rfl) ?_
     replace hO := vj.own
     have hobt := freeze 0 hO rfl GJ
     obtain ⟨hO1, zA, J8, Xt⟩ := hobt
     dsimp only [eS, eZ] at hO1 zA J8
     replace hB := (((((hB.trans yB.fr).trans gk.fr).trans g8.fr).trans vh.fr).trans vj.fr).trans (Owns.dropFr _ _ 0)
     dsimp only [eS, eZ] at hB
     replace hO := hO1; clear hO1
     obtain ⟨acb, H⟩ := H
     replace ce := ((ce.ch Z35).ch vj.ch).ch zA
     have hobt := oapp Try.underlying26 ti3 rfl 0 hO rfl ce J8 Xt acb (by decide)
     obtain ⟨Nt, SN, SO, Xu, ia, HM, SP⟩ := hobt
     dsimp only [sS, sZ] at ia HM
     refine zg (SP (by exact rfl) (by exact rfl)) ?_
     replace hO := ia.own
     refine za rfl (zn ?_)
     refine Go1.inBlock ?_
     refine Go1.cut [(1, .int .i64 k2_225), (4, .pointer (some ⟨B8, 0, none⟩)), (6, .pointer (some ⟨fL, 0, none⟩)), (7, .map (some B160)), (8, .slice f8 ob f9), (10, .slice SN (m5 + 1) SO), (11, .string (gstr (ix d_227 k2_226))), (86, .int .i64 (a0.Gens.length : Int)), (87, .int .i64 (k3_273 : Int))] ⟨rfl, rfl, rfl, rfl, rfl, rfl, rfl, rfl, rfl, trivial⟩ ?_
     intro σ _
     refine zr ?_
     have Z36 := ((((gk.ch.trans g8.ch).trans vh.ch).trans vj.ch).trans zA).trans ia.ch
     replace ac := ac.ch Z36
     refine zo (op_add rfl rfl (wrap_i64 (natbd GN ac.bd))) (zm rfl (zn ?_))
     replace hB := hB.trans ia.fr
     have Z37 := (vj.ch.trans zA).trans ia.ch
     replace bG := bG.ch Z37
     have Z38 := (((g8.ch.trans vh.ch).trans vj.ch).trans zA).trans ia.ch
     replace dq := dq.ch Z38
     have Z39 := ((Z35.trans vj.ch).trans zA).trans ia.ch
     replace bj := bj.ch Z39
     replace bq := bq.ch Z39
     replace cF := cF.ch Z39
     replace de := de.ch Z39
     exact hX3 _ H _ _ ⟨m5 + 1, SN, SO, Xu, ob, f8, f9, o7, gY, jj, jk, nj, g5, iF, jl, o8, g6, fd, fe, qn, gT, ii, ik, sc, ⟨rfl, rfl, rfl, rfl, rfl, rfl, rfl, rfl, rfl, trivial⟩, hO, HM, bG, bj, bq, cF, de, dq, ac, hB⟩
    replace H := ifn ML H
    refine zo (fun w => opB (op_neqS rfl rfl w) (ndF ML)) (zo (op_pickT rfl rfl rfl) (zn (zt rfl rfl (zq (zr ?_)))))
    refine zm rfl (zm rfl ?_)
    obtain ⟨acd, H⟩ := H
    obtain ⟨ace, H⟩ := H
    refine zo (op_sliceS Try.underlying9 rfl rfl acd ace) ?_
    by_cases MM : mhas m3_286 ((((ix d_227 k2_226) ++ r342).drop (1 : Int).toNat)) = true
    ·replace H := ifp MM H
     refine zs (olookT (a := (((ix d_227 k2_226) ++ r342).drop (1 : Int).toNat)) (MK.str Try.underlying9) 2 hO rfl Try.underlying69 rfl rfl MM) (zm rfl (zo (op_extract rfl rfl) (zo (op_extract rfl rfl) (za rfl (za rfl ?_)))))
     refine zn (zq (zr (zm rfl (zn (zt rfl rfl ?_)))))
     refine Go1.drawS 3 [(0, .pure), (1, .stable), (2, .pure), (3, .pure), (4, .pure), (5, .pure), (6, .stable), (7, .pure), (8, .loud), (9, .last), (10, .pure), (11, .last)] mixed (by kernel_rfl) ?_
     intro ahe Xv
     have vk := Stp.same hO Xv
     replace hO := vk.own
     refine GoQ.pure rfl (op_fieldAddr Try.underlying29 rfl ti27 rfl (by decide)) rfl rfl ?_
     refine GoQ.stable rfl (oblk (i := 7) 3 hO rfl rfl Try.underlying27 rfl rfl) rfl rfl ?_
     refine GoQ.pure rfl (op_move rfl) rfl rfl ?_
     refine GoQ.pure rfl (op_move rfl) rfl rfl ?_
     refine GoQ.pure rfl (op_move rfl) rfl rfl ?_
     obtain ⟨MN, H⟩ := H
     obtain ⟨MO, H⟩ := H
     replace bG := bG.ch vk.ch
     refine GoQ.pure rfl (op_index Try.underlying70 ti9 rfl rfl MN (ltn (bG.neq hO 1 rfl) MO) (bG.psome hO 1 rfl MN MO)) rfl rfl ?_
     refine GoQ.stable rfl (oldStr 1 hO rfl bG MN MO Try.underlying9 rfl rfl) rfl rfl ?_
     have hle554 := Els.str_le bG MN MO
     refine GoQ.pure rfl (op_build Try.underlying39 ti39 (pl := [(0, 1), (1, 1)]) (vs := [(0, .string (gstr ((ix d_227 k2_226) ++ r342))), (1, .string (gstr (ix d_280 r336)))]) (cs := #[.string (gstr ((ix d_227 k2_226) ++ r342)), .string (gstr (ix d_280 r336))]) (by kernel_rfl) rfl (by kernel_rfl)) rfl rfl ?_
     have hobt := obuildN (r := rpRule) (n := 1) (parts := [(0, .agg #[.string (gstr ((ix d_227 k2_226) ++ r342)), .string (gstr (ix d_280 r336))])]) (vs := [.string (gstr ((ix d_227 k2_226) ++ r342)), .string (gstr (ix d_280 r336))]) (xs := [(⟨(ix d_227 k2_226) ++ r342, ix d_280 r336⟩ : Rule)]) Try.underlying27 ti39 hO (by decide) (by decide) (by kernel_rfl) (Els.flat1 (⟨(ix d_227 k2_226) ++ r342, ix d_280 r336⟩ : Rule) ⟨(lenApp OC), hle554⟩) rfl
     obtain ⟨ahf, ahg, vl, Xw, Xx, SQ⟩ := hobt
     refine GoQ.loud rfl (SQ rfl) Xx rfl rfl ?_
     replace hO := vl.own
     have hobt := freeze 0 hO rfl Xw
     obtain ⟨hO1, o6, jL, Mx⟩ := hobt
     dsimp only [eS, eZ] at hO1 o6 jL
     replace hB := ((((((hB.trans yB.fr).trans gk.fr).trans g8.fr).trans vh.fr).trans vk.fr).trans vl.fr).trans (Owns.dropFr _ _ 0)
     dsimp only [eS, eZ] at hB
     replace hO := hO1; clear hO1
     obtain ⟨Ox, H⟩ := H
     have Z40 := ((Z35.trans vk.ch).trans vl.ch).trans o6
     replace bj := bj.ch Z40
     have hobt := oapp Try.underlying27 ti39 rfl 4 hO rfl bj jL Mx Ox (by decide)
     obtain ⟨abO, II, IJ, My, gS, lB, KS⟩ := hobt
     dsimp only [sS, sZ] at gS lB
     refine GoQ.last rfl (KS (by exact rfl) (by exact rfl)) rfl rfl ?_
     replace hO := gS.own
     refine GoQ.pure rfl (op_fieldAddr Try.underlying29 rfl ti27 rfl (by decide)) rfl rfl ?_
     have hobt := oblkSt2 (v := .slice II (gY + 1) IJ) (i := 7) (cs' := #[.int .i64 a0.Points, .bool a0.Monoid, .slice az a0.Gens.length aA, .slice ii gT ik, .slice fd g6 fe, .slice iF g5 jl, .slice eM eK eN, .slice II (gY + 1) IJ, .int .i64 k2_226]) 3 hO rfl rfl rfl rfl
     obtain ⟨abP, sH, SR⟩ := hobt
     dsimp only [sS, sZ] at sH
     refine GoQ.last rfl (SR Try.underlying27 rfl ti27 (by exact rfl) (by exact rfl)) rfl rfl ?_
     replace hO := sH.own
     refine GoQ.nil ?_
     refine Go1.cut [(1, .int .i64 k2_225), (4, .pointer (some ⟨B8, 0, none⟩)), (6, .pointer (some ⟨fL, 0, none⟩)), (7, .map (some B160)), (8, .slice f8 ob f9), (10, .slice pz m5 pC), (11, .string (gstr (ix d_227 k2_226))), (14, .int .i64 r336), (86, .int .i64 (a0.Gens.length : Int)), (87, .int .i64 (k3_273 : Int))] ⟨rfl, rfl, rfl, rfl, rfl, rfl, rfl, rfl, rfl, rfl, trivial⟩ ?_
     intro σ _
     refine zr (zm rfl (zm rfl ?_))
     have hobt := obuild (r := Rp.int .i64) (n := 1) (parts := [(0, .int .i64 r336)]) (vs := [.int .i64 r336]) (xs := [r336]) rfl Try.underlying26 ti3 hO (by decide) (by kernel_rfl) (Els.cons rfl rfl (Els.nil _ _ _) (by simp [mx])) rfl
     obtain ⟨abQ, ahh, un, Xy, adC, SS⟩ := hobt
     refine zg (SS rfl) ?_
     replace hO := un.own
     have hobt := freeze 0 hO rfl Xy
     obtain ⟨hO1, yk, J9, Xz⟩ := hobt
     dsimp only [eS, eZ] at hO1 yk J9
     replace hB := (((hB.trans gS.fr).trans sH.fr).trans un.fr).trans (Owns.dropFr _ _ 0)
     dsimp only [eS, eZ] at hB
     replace hO := hO1; clear hO1
     obtain ⟨acf, H⟩ := H
     have Z41 := (((Z40.trans gS.ch).trans sH.ch).trans un.ch).trans yk
     replace ce := ce.ch Z41
     have hobt := oapp Try.underlying26 ti3 rfl 0 hO rfl ce J9 Xz acf (by decide)
     obtain ⟨ahi, acg, ach, XA, sI, Pn, ST⟩ := hobt
     dsimp only [sS, sZ] at sI Pn
     refine zg (ST (by exact rfl) (by exact rfl)) ?_
     replace hO := sI.own
     refine za rfl (zn ?_)
     refine Go1.inBlock ?_
     refine zr ?_
     have Z42 := (((((((((gk.ch.trans g8.ch).trans vh.ch).trans vk.ch).trans vl.ch).trans o6).trans gS.ch).trans sH.ch).trans un.ch).trans yk).trans sI.ch
     replace ac := ac.ch Z42
     refine zo (op_add rfl rfl (wrap_i64 (natbd GN ac.bd))) (zm rfl (zn ?_))
     replace hB := hB.trans sI.fr
     have Z43 := ((sH.ch.trans un.ch).trans yk).trans sI.ch
     replace lB := lB.ch Z43
     have Z44 := (((((vl.ch.trans o6).trans gS.ch).trans sH.ch).trans un.ch).trans yk).trans sI.ch
     replace bG := bG.ch Z44
     have Z45 := ((((((((g8.ch.trans vh.ch).trans vk.ch).trans vl.ch).trans o6).trans gS.ch).trans sH.ch).trans un.ch).trans yk).trans sI.ch
     replace dq := dq.ch Z45
     have Z46 := Z41.trans sI.ch
     replace bq := bq.ch Z46
     replace cF := cF.ch Z46
     replace de := de.ch Z46
     exact hX3 _ H _ _ ⟨m5 + 1, acg, ach, XA, ob, f8, f9, o7, gY + 1, II, IJ, My, g5, iF, jl, o8, g6, fd, fe, qn, gT, ii, ik, sc, ⟨rfl, rfl, rfl, rfl, rfl, rfl, rfl, rfl, rfl, trivial⟩, hO, Pn, bG, lB, bq, cF, de, dq, ac, hB⟩
    replace H := ifn MM H
    refine zs (olookF (a := (((ix d_227 k2_226) ++ r342).drop (1 : Int).toNat)) (MK.str Try.underlying9) 2 hO rfl Try.underlying69 ti3 rfl rfl MM) (zm rfl (zo (op_extract rfl rfl) (zo (op_extract rfl rfl) (za rfl (za rfl ?_)))))
    refine zn (zq (zr (zm rfl (zn (zf rfl rfl ?_)))))
    refine zk (zr (zm rfl (zm rfl ?_)))
    have hobt := obuild (r := Rp.int .i64) (n := 1) (parts := [(0, .int .i64 r336)]) (vs := [.int .i64 r336]) (xs := [r336]) rfl Try.underlying26 ti3 hO (by decide) (by kernel_rfl) (Els.cons rfl rfl (Els.nil _ _ _) (by simp [mx])) rfl
    obtain ⟨abR, ahj, vm, XB, adD, SU⟩ := hobt
    refine zg (SU rfl) ?_
    replace hO := vm.own
    have hobt := freeze 0 hO rfl XB
    obtain ⟨hO1, zB, Ka, XC⟩ := hobt
    dsimp only [eS, eZ] at hO1 zB Ka
    replace hB := (((((hB.trans yB.fr).trans gk.fr).trans g8.fr).trans vh.fr).trans vm.fr).trans (Owns.dropFr _ _ 0)
    dsimp only [eS, eZ] at hB
    replace hO := hO1; clear hO1
    obtain ⟨aci, H⟩ := H
    replace ce := ((ce.ch Z35).ch vm.ch).ch zB
    have hobt := oapp Try.underlying26 ti3 rfl 0 hO rfl ce Ka XC aci (by decide)
    obtain ⟨ahk, acj, ack, XD, uo, Po, SV⟩ := hobt
    dsimp only [sS, sZ] at uo Po
    refine zg (SV (by exact rfl) (by exact rfl)) ?_
    replace hO := uo.own
    refine za rfl (zn ?_)
    refine Go1.inBlock ?_
    refine zr ?_
    have Z47 := ((((gk.ch.trans g8.ch).trans vh.ch).trans vm.ch).trans zB).trans uo.ch
    replace ac := ac.ch Z47
    refine zo (op_add rfl rfl (wrap_i64 (natbd GN ac.bd))) (zm rfl (zn ?_))
    replace hB := hB.trans uo.fr
    have Z48 := (vm.ch.trans zB).trans uo.ch
    replace bG := bG.ch Z48
    have Z49 := (((g8.ch.trans vh.ch).trans vm.ch).trans zB).trans uo.ch
    replace dq := dq.ch Z49
    have Z50 := ((Z35.trans vm.ch).trans zB).trans uo.ch
    replace bj := bj.ch Z50
    replace bq := bq.ch Z50
    replace cF := cF.ch Z50
    replace de := de.ch Z50
    exact hX3 _ H _ _ ⟨m5 + 1, acj, ack, XD, ob, f8, f9, o7, gY, jj, jk, nj, g5, iF, jl, o8, g6, fd, fe, qn, gT, ii, ik, sc, ⟨rfl, rfl, rfl, rfl, rfl, rfl, rfl, rfl, rfl, trivial⟩, hO, Po, bG, bj, bq, cF, de, dq, ac, hB⟩
   replace H := ifn GN H
   refine zo (fun w => opB (op_lss rfl rfl w) (decide_eq_false GN)) (zn (zq (zf rfl rfl ?_)))
   refine Go1.exit rfl ?_
   refine zq ?_
   refine Go1.cut [(1, .int .i64 k2_225), (4, .pointer (some ⟨B8, 0, none⟩)), (6, .pointer (some ⟨fL, 0, none⟩)), (7, .map (some B160)), (8, .slice f8 ob f9), (10, .slice pz m5 pC)] ⟨rfl, rfl, rfl, rfl, rfl, rfl, trivial⟩ ?_
   intro σ _
   refine zr (zo (op_fieldAddr Try.underlying29 rfl ti22 rfl (by decide)) (zs (oblk (i := 6) 3 hO rfl rfl Try.underlying22 rfl rfl) (zm rfl ?_)))
   have hobt := freeze 0 hO rfl ce
   obtain ⟨hO1, Em, zC, XE⟩ := hobt
   dsimp only [eS, eZ] at hO1 Em zC
   replace hB := hB.trans (Owns.dropFr _ _ 0)
   dsimp only [eS, eZ] at hB
   replace hO := hO1; clear hO1
   have hobt := obuild (r := Rp.sl (Rp.int .i64)) (n := 1) (parts := [(0, .slice pz m5 pC)]) (vs := [.slice pz m5 pC]) (xs := [d_274]) rfl Try.underlying22 ti26 hO (by decide) (by kernel_rfl) (Els.cons rfl ⟨pz, pC, congrArg some (congrArg (fun nn => Value.slice pz nn pC) XE), zC⟩ (Els.nil _ _ _) (by simp [mx])) rfl
   obtain ⟨aay, aaz, my, Lz, OT, Kw⟩ := hobt
   refine zg (Kw rfl) ?_
   replace hO := my.own
   have hobt := freeze 0 hO rfl Lz
   obtain ⟨hO1, qY, oQ, LA⟩ := hobt
   dsimp only [eS, eZ] at hO1 qY oQ
   replace hB := (hB.trans my.fr).trans (Owns.dropFr _ _ 0)
   dsimp only [eS, eZ] at hB
   replace hO := hO1; clear hO1
   obtain ⟨Nw, H⟩ := H
   have Z51 := (Em.trans my.ch).trans qY
   replace bq := bq.ch Z51
   have hobt := oapp Try.underlying22 ti26 rfl 4 hO rfl bq oQ LA Nw (by decide)
   obtain ⟨aaA, Gk, Gl, LB, lx, rU, Kx⟩ := hobt
   dsimp only [sS, sZ] at lx rU
   refine zg (Kx (by exact rfl) (by exact rfl)) ?_
   replace hO := lx.own
   refine zo (op_fieldAddr Try.underlying29 rfl ti22 rfl (by decide)) ?_
   have hobt := oblkSt2 (v := .slice Gk (eK + 1) Gl) (i := 6) (cs' := #[.int .i64 a0.Points, .bool a0.Monoid, .slice az a0.Gens.length aA, .slice ii gT ik, .slice fd g6 fe, .slice iF g5 jl, .slice Gk (eK + 1) Gl, .slice jj gY jk, .int .i64 k2_226]) 2 hO rfl rfl rfl rfl
   obtain ⟨aaB, kh, Ky⟩ := hobt
   dsimp only [sS, sZ] at kh
   refine zg (Ky Try.underlying22 rfl ti22 (by exact rfl) (by exact rfl)) ?_
   replace hO := kh.own
   refine zn (zr (zo (op_fieldAddr Try.underlying29 rfl ti3 rfl (by decide)) (zs (oblk (i := 8) 2 hO rfl rfl Try.underlying3 rfl rfl) ?_)))
   obtain ⟨acl, H⟩ := H
   refine zo (op_add rfl rfl (wrap_i64 acl)) (zo (op_fieldAddr Try.underlying29 rfl ti3 rfl (by decide)) ?_)
   have hobt := oblkSt2 (v := .int .i64 (k2_226 + (1 : Int))) (i := 8) (cs' := #[.int .i64 a0.Points, .bool a0.Monoid, .slice az a0.Gens.length aA, .slice ii gT ik, .slice fd g6 fe, .slice iF g5 jl, .slice Gk (eK + 1) Gl, .slice jj gY jk, .int .i64 (k2_226 + (1 : Int))]) 2 hO rfl rfl rfl rfl
   obtain ⟨ahl, kU, SW⟩ := hobt
   dsimp only [sS, sZ] at kU
   refine zg (SW Try.underlying3 rfl ti3 (by exact rfl) (by exact rfl)) ?_
   replace hO := kU.own
   refine zn ?_
   refine Go1.inBlock ?_
   refine zr (zm rfl ?_)
   obtain ⟨acm, H⟩ := H
   refine zo (op_sub rfl rfl (wrap_i64 acm)) (za rfl (zn ?_))
   replace rU := (rU.ch kh.ch).ch kU.ch
   replace hB := ((hB.trans lx.fr).trans kh.fr).trans kU.fr
   have Z52 := ((Z51.trans lx.ch).trans kh.ch).trans kU.ch
   replace ac := ac.ch Z52
   replace bG := bG.ch Z52
   replace bj := bj.ch Z52
   replace cF := cF.ch Z52
   replace de := de.ch Z52
   replace dq := dq.ch Z52
   exact hX2 _ H _ _ ⟨ob, f8, f9, o7, gY, jj, jk, nj, eK + 1, Gk, Gl, LB, g5, iF, jl, o8, g6, fd, fe, qn, gT, ii, ik, sc, ⟨rfl, rfl, rfl, rfl, rfl, trivial⟩, hO, bG, bj, rU, cF, de, dq, ac, hB⟩
  replace H := ifn MB H
  refine zo (fun w => opB (op_lss rfl rfl w) (decide_eq_false MB)) (zo (op_pickT rfl rfl rfl) (zn (zf rfl rfl ?_)))
  refine Go1.exit rfl ?_
  refine zq (zr (zs (oblkAgg (vs := [.int .i64 a0.Points, .bool a0.Monoid, .slice az a0.Gens.length aA, .slice mr oJ ms, .slice mp oI mq, .slice mm oH mo, .slice eM eK eN, .slice mj oG ml, .int .i64 k2_226]) (i := 0) 2 hO rfl rfl Try.underlying29 rfl ti29 rfl) ?_))
  have hobt := oblkStAgg (us := [.int .i64 a0.Points, .bool a0.Monoid, .slice az a0.Gens.length aA, .slice mr oJ ms, .slice mp oI mq, .slice mm oH mo, .slice eM eK eN, .slice mj oG ml, .int .i64 k2_226]) (o := 0) (cs' := #[.int .i64 a0.Points, .bool a0.Monoid, .slice az a0.Gens.length aA, .slice mr oJ ms, .slice mp oI mq, .slice mm oH mo, .slice eM eK eN, .slice mj oG ml, .int .i64 k2_226]) 8 hO rfl rfl (Nat.le_of_ble_eq_true rfl) rfl
  obtain ⟨ahm, yC, SX⟩ := hobt
  dsimp only [sS, sZ] at yC
  refine zg (SX ti29 (by exact rfl) (by exact rfl) rfl) ?_
  replace hO := yC.own
  refine za rfl (zn ?_)
  replace AI := AI.ch yC.ch
  have hobt := freeze 7 hO rfl AI
  obtain ⟨hO1, GQ, AJ, XF⟩ := hobt
  dsimp only [eS, eZ] at hO1 GQ AJ
  replace hB := (hB.trans yC.fr).trans (Owns.dropFr _ _ 7)
  dsimp only [eS, eZ] at hB
  replace hO := hO1; clear hO1
  replace vA := (vA.ch yC.ch).ch GQ
  have hobt := freeze 6 hO rfl vA
  obtain ⟨hO1, GR, En, XG⟩ := hobt
  dsimp only [eS, eZ] at hO1 GR En
  replace hB := hB.trans (Owns.dropFr _ _ 6)
  dsimp only [eS, eZ] at hB
  replace hO := hO1; clear hO1
  have Z53 := (yC.ch.trans GQ).trans GR
  replace uk := uk.ch Z53
  have hobt := freeze 5 hO rfl uk
  obtain ⟨hO1, GT, H8, XH⟩ := hobt
  dsimp only [eS, eZ] at hO1 GT H8
  replace hB := hB.trans (Owns.dropFr _ _ 5)
  dsimp only [eS, eZ] at hB
  replace hO := hO1; clear hO1
  replace bq := (bq.ch Z53).ch GT
  have hobt := freeze 4 hO rfl bq
  obtain ⟨hO1, GU, Kb, XI⟩ := hobt
  dsimp only [eS, eZ] at hO1 GU Kb
  replace hB := hB.trans (Owns.dropFr _ _ 4)
  dsimp only [eS, eZ] at hB
  replace hO := hO1; clear hO1
  replace nB := ((nB.ch Z53).ch GT).ch GU
  have hobt := freeze 3 hO rfl nB
  obtain ⟨hO1, GW, Pp, XJ⟩ := hobt
  dsimp only [eS, eZ] at hO1 GW Pp
  replace hB := hB.trans (Owns.dropFr _ _ 3)
  dsimp only [eS, eZ] at hB
  replace hO := hO1; clear hO1
  refine Go1.retC2 Try.func52 rfl rfl (run_loadBlk (vs := [.int .i64 a0.Points, .bool a0.Monoid, .slice az a0.Gens.length aA, .slice mr oJ ms, .slice mp oI mq, .slice mm oH mo, .slice eM eK eN, .slice mj oG ml, .int .i64 k2_226]) 3 hO rfl rfl Try.underlying29 rfl ti29) ?_
  replace Kb := Kb.ch GW
  replace H8 := (H8.ch GU).ch GW
  have Z54 := (GT.trans GU).trans GW
  replace En := En.ch Z54
  have Z55 := ((GR.trans GT).trans GU).trans GW
  replace AJ := AJ.ch Z55
  have Z56 := ((Z53.trans GT).trans GU).trans GW
  replace ac := ac.ch Z56
  exact ⟨(⟨a0.Points, a0.Monoid, a0.Gens, d_258, d_252, d_246, d_240, d_234, k2_226⟩ : Enum), (0 : Int), az, aA, mr, ms, mp, mq, mm, mo, eM, eN, mj, ml, (congrArg (fun l => Value.tuple (List.toArray l)) (cons_eq (congrArg (fun l => Value.agg (List.toArray l)) (cons_eq rfl (cons_eq rfl (cons_eq rfl (cons_eq (congrArg (fun nn => Value.slice mr nn ms) XF) (cons_eq (congrArg (fun nn => Value.slice mp nn mq) XG) (cons_eq (congrArg (fun nn => Value.slice mm nn mo) XH) (cons_eq (congrArg (fun nn => Value.slice eM nn eN) XI) (cons_eq (congrArg (fun nn => Value.slice mj nn ml) XJ) (cons_eq rfl rfl)))))))))) (cons_eq rfl rfl))), hB.same, (ac.ch (Ch.weak _ _ _)), (AJ.ch (Ch.weak _ _ _)), (En.ch (Ch.weak _ _ _)), (H8.ch (Ch.weak _ _ _)), (Kb.ch (Ch.weak _ _ _)), (Pp.ch (Ch.weak _ _ _)), H⟩
 replace H := ifn MA H
 refine zo (fun w => opB (op_gtr rfl rfl w) (decide_eq_false MA)) (zm rfl (zp (zp (zp (zp ?_)))))
 refine zp (zp (zo (op_pickF rfl rfl rfl) (zn (zf rfl rfl ?_))))
 refine Go1.exit rfl ?_
 refine zq ?_
 refine Go1.cut [(4, .pointer (some ⟨B8, 0, none⟩)), (6, .pointer (some ⟨fL, 0, none⟩))] ⟨rfl, rfl, trivial⟩ ?_
 intro σ _
 refine zr (zs (oblkAgg (vs := [.int .i64 a0.Points, .bool a0.Monoid, .slice az a0.Gens.length aA, .slice mr oJ ms, .slice mp oI mq, .slice mm oH mo, .slice eM eK eN, .slice mj oG ml, .int .i64 k2_226]) (i := 0) 2 hO rfl rfl Try.underlying29 rfl ti29 rfl) ?_)
 have hobt := oblkStAgg (us := [.int .i64 a0.Points, .bool a0.Monoid, .slice az a0.Gens.length aA, .slice mr oJ ms, .slice mp oI mq, .slice mm oH mo, .slice eM eK eN, .slice mj oG ml, .int .i64 k2_226]) (o := 0) (cs' := #[.int .i64 a0.Points, .bool a0.Monoid, .slice az a0.Gens.length aA, .slice mr oJ ms, .slice mp oI mq, .slice mm oH mo, .slice eM eK eN, .slice mj oG ml, .int .i64 k2_226]) 8 hO rfl rfl (Nat.le_of_ble_eq_true rfl) rfl
 obtain ⟨ahn, yD, SY⟩ := hobt
 dsimp only [sS, sZ] at yD
 refine zg (SY ti29 (by exact rfl) (by exact rfl) rfl) ?_
 replace hO := yD.own
 refine za rfl (zn ?_)
 replace AI := AI.ch yD.ch
 have hobt := freeze 7 hO rfl AI
 obtain ⟨hO1, GX, AK, XK⟩ := hobt
 dsimp only [eS, eZ] at hO1 GX AK
 replace hB := (hB.trans yD.fr).trans (Owns.dropFr _ _ 7)
 dsimp only [eS, eZ] at hB
 replace hO := hO1; clear hO1
 replace vA := (vA.ch yD.ch).ch GX
 have hobt := freeze 6 hO rfl vA
 obtain ⟨hO1, GY, Eo, XL⟩ := hobt
 dsimp only [eS, eZ] at hO1 GY Eo
 replace hB := hB.trans (Owns.dropFr _ _ 6)
 dsimp only [eS, eZ] at hB
 replace hO := hO1; clear hO1
 have Z57 := (yD.ch.trans GX).trans GY
 replace uk := uk.ch Z57
 have hobt := freeze 5 hO rfl uk
 obtain ⟨hO1, G0, H9, XM⟩ := hobt
 dsimp only [eS, eZ] at hO1 G0 H9
 replace hB := hB.trans (Owns.dropFr _ _ 5)
 dsimp only [eS, eZ] at hB
 replace hO := hO1; clear hO1
 replace bq := (bq.ch Z57).ch G0
 have hobt := freeze 4 hO rfl bq
 obtain ⟨hO1, G1, Kc, XN⟩ := hobt
 dsimp only [eS, eZ] at hO1 G1 Kc
 replace hB := hB.trans (Owns.dropFr _ _ 4)
 dsimp only [eS, eZ] at hB
 replace hO := hO1; clear hO1
 replace nB := ((nB.ch Z57).ch G0).ch G1
 have hobt := freeze 3 hO rfl nB
 obtain ⟨hO1, G3, Pq, XO⟩ := hobt
 dsimp only [eS, eZ] at hO1 G3 Pq
 replace hB := hB.trans (Owns.dropFr _ _ 3)
 dsimp only [eS, eZ] at hB
 replace hO := hO1; clear hO1
 refine Go1.retC2 Try.func52 rfl rfl (run_loadBlk (vs := [.int .i64 a0.Points, .bool a0.Monoid, .slice az a0.Gens.length aA, .slice mr oJ ms, .slice mp oI mq, .slice mm oH mo, .slice eM eK eN, .slice mj oG ml, .int .i64 k2_226]) 3 hO rfl rfl Try.underlying29 rfl ti29) ?_
 replace Kc := Kc.ch G3
 replace H9 := (H9.ch G1).ch G3
 have Z58 := (G0.trans G1).trans G3
 replace Eo := Eo.ch Z58
 have Z59 := ((GY.trans G0).trans G1).trans G3
 replace AK := AK.ch Z59
 have Z60 := ((Z57.trans G0).trans G1).trans G3
 replace ac := ac.ch Z60
 exact ⟨(⟨a0.Points, a0.Monoid, a0.Gens, d_258, d_252, d_246, d_240, d_234, k2_226⟩ : Enum), (0 : Int), az, aA, mr, ms, mp, mq, mm, mo, eM, eN, mj, ml, (congrArg (fun l => Value.tuple (List.toArray l)) (cons_eq (congrArg (fun l => Value.agg (List.toArray l)) (cons_eq rfl (cons_eq rfl (cons_eq rfl (cons_eq (congrArg (fun nn => Value.slice mr nn ms) XK) (cons_eq (congrArg (fun nn => Value.slice mp nn mq) XL) (cons_eq (congrArg (fun nn => Value.slice mm nn mo) XM) (cons_eq (congrArg (fun nn => Value.slice eM nn eN) XN) (cons_eq (congrArg (fun nn => Value.slice mj nn ml) XO) (cons_eq rfl rfl)))))))))) (cons_eq rfl rfl))), hB.same, (ac.ch (Ch.weak _ _ _)), (AK.ch (Ch.weak _ _ _)), (Eo.ch (Ch.weak _ _ _)), (H9.ch (Ch.weak _ _ _)), (Kc.ch (Ch.weak _ _ _)), (Pq.ch (Ch.weak _ _ _)), H⟩
theorem body45 : Body Try.prog 45 := ⟨Try.f45, Try.func45, rfl, by kernel_rfl⟩
theorem walk_ref03_SameRows {A : List Nat} {w0 : World} {p_a : Option Addr} {c_a : Nat} {p_b : Option Addr} {c_b : Nat} {a : List (List Int)} {b : List (List Int)} (hA : ∀ b ∈ A, b < w0.heap.size) (h_a : ISl (Rp.sl (Rp.int .i64)) A w0 p_a c_a a) (h_b : ISl (Rp.sl (Rp.int .i64)) A w0 p_b c_b b) {K : Bool → Prop} (H : ref03_SameRows a b K) :
    CallsV Try.prog 45 #[.slice p_a a.length c_a, .slice p_b b.length c_b] w0 (fun v w' => ∃ (r0 : Bool), v = .bool r0 ∧ Same w0 w' ∧ K r0) := by
 refine CallsV.of (l := [.slice p_a a.length c_a, .slice p_b b.length c_b]) Try.func45 rfl Try.ntmps45 rfl ?_
 have hO := Owns.start hA
 have hB := Fr.refl (bl []) w0
 unfold ref03_SameRows at H
 refine zq (zr (za rfl (zn (zq (zq ?_)))))
 refine zr (zm rfl (zo (op_len Try.underlying22 rfl) ?_))
 replace h_a := h_a.ch (Ch.start A w0)
 replace H := H h_a.bd
 refine zm rfl (zo (op_len Try.underlying22 rfl) ?_)
 replace h_b := h_b.ch (Ch.start A w0)
 replace H := H h_b.bd
 by_cases h1 : (a.length : Int) = (b.length : Int)
 ·replace H := ifp h1 H
  refine zo (fun w => opB (op_neq rfl rfl w) (ndT h1)) (zn (zf rfl rfl (zk (zq (zq ?_)))))
  refine zr (zm rfl (zo (op_len Try.underlying22 rfl) (zm rfl (zn (zb ?_)))))
  refine Go1.loopW (S := Nat) (fun s σ w => agrees σ [(0, .slice p_a a.length c_a), (1, .slice p_b b.length c_b), (12, .int .i64 (a.length : Int)), (13, .int .i64 (s : Int))] ∧ Owns w0.heap.size w [] A ∧ ISl (Rp.sl (Rp.int .i64)) (bl [] ++ A) w p_a c_a a ∧ ISl (Rp.sl (Rp.int .i64)) (bl [] ++ A) w p_b c_b b ∧ Fr (bl []) w0 (bl []) w) H ⟨⟨rfl, rfl, rfl, rfl, trivial⟩, hO, h_a, h_b, hB⟩ ?_
  intro X1 k1_3
  intro H hX1 σ w2
  refine andE fun hag => andE fun hO => andE fun h_a => andE fun h_b => fun hB => ?_
  refine Go1.keep [(0, .slice p_a a.length c_a), (1, .slice p_b b.length c_b), (12, .int .i64 (a.length : Int)), (13, .int .i64 (k1_3 : Int))] hag ?_
  refine zq (zr ?_)
  by_cases h4 : (k1_3 : Int) < (a.length : Int)
  ·replace H := ifp h4 H
   refine zo (fun w => opB (op_lss rfl rfl w) (decide_eq_true h4)) (zn (zq (zt rfl rfl (zk (zq ?_)))))
   refine zb (zq (zr (zm rfl (za rfl (zn ?_)))))
   refine zq ?_
   refine Go1.drawS 0 [(0, .pure), (1, .pure), (2, .pure), (3, .stable), (4, .pure), (5, .pure), (6, .pure), (7, .stable), (8, .loud), (9, .pure)] mixed (by kernel_rfl) ?_
   intro w5 hs6
   have rV := Stp.same hO hs6
   replace hO := rV.own
   refine GoQ.pure rfl (op_move rfl) rfl rfl ?_
   refine GoQ.pure rfl (op_move rfl) rfl rfl ?_
   obtain ⟨h8, H⟩ := H
   obtain ⟨h9, H⟩ := H
   replace h_a := h_a.ch rV.ch
   refine GoQ.pure rfl (op_index Try.underlying22 ti26 rfl rfl h8 h9 (h_a.some_ h8 h9)) rfl rfl ?_
   have hobt := ldSl h_a h8 h9
   obtain ⟨p10, c11, Kg, Nf⟩ := hobt
   refine GoQ.stable rfl (Nf Try.underlying26 rfl rfl) rfl rfl ?_
   refine GoQ.pure rfl (op_move rfl) rfl rfl ?_
   refine GoQ.pure rfl (op_move rfl) rfl rfl ?_
   obtain ⟨h14, H⟩ := H
   obtain ⟨h15, H⟩ := H
   replace h_b := h_b.ch rV.ch
   refine GoQ.pure rfl (op_index Try.underlying22 ti26 rfl rfl h14 h15 (h_b.some_ h14 h15)) rfl rfl ?_
   have hobt := ldSl h_b h14 h15
   obtain ⟨p16, c17, xL, acn⟩ := hobt
   refine GoQ.stable rfl (acn Try.underlying26 rfl rfl) rfl rfl ?_
   refine GoQ.call rfl (op_call body34 rfl (walk_ref03_Same hO.lt Kg xL H)) (fun v w hr => by obtain ⟨_, _, hs, _⟩ := hr; assumption) rfl rfl ?_
   rintro v24 w21 ⟨r20, rfl, aco, H⟩
   have uE := Stp.same hO aco
   replace hO := uE.own
   cases r20
   ·replace H := ifn Bool.false_ne_true H
    refine GoQ.pure rfl (op_not rfl) rfl rfl ?_
    refine GoQ.nil ?_
    refine zt rfl rfl (zq (zr (za rfl (zn ?_))))
    refine Go1.ret1 Try.func45 rfl ?_
    replace hB := (hB.trans rV.fr).trans uE.fr
    exact ⟨false, rfl, hB.same, H⟩
   replace H := ifp rfl H
   refine GoQ.pure rfl (op_not rfl) rfl rfl ?_
   refine GoQ.nil ?_
   refine zf rfl rfl (zk ?_)
   refine Go1.inBlock ?_
   refine zr ?_
   replace h_a := h_a.ch uE.ch
   refine zo (op_add rfl rfl (wrap_i64 (natbd h4 h_a.bd))) (zm rfl (zn ?_))
   replace h_b := h_b.ch uE.ch
   replace hB := (hB.trans rV.fr).trans uE.fr
   exact hX1 _ H _ _ ⟨⟨rfl, rfl, rfl, rfl, trivial⟩, hO, h_a, h_b, hB⟩
  replace H := ifn h4 H
  refine zo (fun w => opB (op_lss rfl rfl w) (decide_eq_false h4)) (zn (zq (zf rfl rfl ?_)))
  refine Go1.exit rfl ?_
  refine zq (zr (za rfl (zn ?_)))
  refine Go1.ret1 Try.func45 rfl ?_
  exact ⟨true, rfl, hB.same, H⟩
 replace H := ifn h1 H
 refine zo (fun w => opB (op_neq rfl rfl w) (ndF h1)) (zn (zt rfl rfl (zq ?_)))
 refine Go1.cut [] trivial ?_
 intro σ _
 refine zr (za rfl (zn ?_))
 refine Go1.ret1 Try.func45 rfl ?_
 exact ⟨false, rfl, hB.same, H⟩
end Sg
