/- The walks: each call keeps to its plain transformer. Printed by walkgen.py. -/
import Derived.Test.YtjegjjdfgefkoaaTi
import Derived.Test.YtjegjjdfgefkoaaWEnumerateBuildsc
import Derived.Test.YtjegjjdfgefkoaaWEnumerateBuildsd
import Derived.Test.YtjegjjdfgefkoaaAl
namespace Sg
open Go Go.RowKit Go.Proofs
set_option linter.unusedVariables false
set_option linter.unusedSimpArgs false
set_option maxRecDepth 100000
set_option maxHeartbeats 4000000
theorem body52 : Body Try.prog 52 := ⟨Try.f52, Try.func52, rfl, by kernel_rfl⟩
theorem walk_ref12_process {A : List Nat} {w0 : World} {bQ : Option Addr} {bS : Nat} {dj : Option Addr} {dk : Nat} {cT : Option Addr} {cU : Nat} {dD : Option Addr} {dE : Nat} {dl : Option Addr} {dm : Nat} {dn : Option Addr} {dp : Nat} {a0 : Enum} {a1 : Int} (hA : ∀ b ∈ A, b < w0.heap.size) (aJ : ISl (Rp.sl (Rp.int .i64)) A w0 bQ bS a0.Gens) (bO : ISl (Rp.sl (Rp.int .i64)) A w0 dj dk a0.Elems) (bw : ISl (Rp.int .i64) A w0 cT cU a0.Prefix) (b6 : ISl (Rp.int .i64) A w0 dD dE a0.Last) (bP : ISl (Rp.sl (Rp.int .i64)) A w0 dl dm a0.Right) (bx : ISl (rpRule) A w0 dn dp a0.Rules) {K : Enum → Int → Prop} (H : ref12_process a0 a1 K) :
    CallsV Try.prog 52 #[.agg #[.int .i64 a0.Points, .bool a0.Monoid, .slice bQ a0.Gens.length bS, .slice dj a0.Elems.length dk, .slice cT a0.Prefix.length cU, .slice dD a0.Last.length dE, .slice dl a0.Right.length dm, .slice dn a0.Rules.length dp, .int .i64 a0.Done], .int .i64 a1] w0 (fun v w' => ∃ (r0 : Enum), ∃ (r1 : Int), ∃ (pt : Option Addr), ∃ (pv : Nat), ∃ (nK : Option Addr), ∃ (nM : Nat), ∃ (l5 : Option Addr), ∃ (l7 : Nat), ∃ (px : Option Addr), ∃ (pz : Nat), ∃ (nN : Option Addr), ∃ (nO : Nat), ∃ (nP : Option Addr), ∃ (nQ : Nat), v = .tuple #[.agg #[.int .i64 r0.Points, .bool r0.Monoid, .slice pt r0.Gens.length pv, .slice nK r0.Elems.length nM, .slice l5 r0.Prefix.length l7, .slice px r0.Last.length pz, .slice nN r0.Right.length nO, .slice nP r0.Rules.length nQ, .int .i64 r0.Done], .int .i64 r1] ∧ Same w0 w' ∧ ISl (Rp.sl (Rp.int .i64)) A w' pt pv r0.Gens ∧ ISl (Rp.sl (Rp.int .i64)) A w' nK nM r0.Elems ∧ ISl (Rp.int .i64) A w' l5 l7 r0.Prefix ∧ ISl (Rp.int .i64) A w' px pz r0.Last ∧ ISl (Rp.sl (Rp.int .i64)) A w' nN nO r0.Right ∧ ISl (rpRule) A w' nP nQ r0.Rules ∧ K r0 r1) := by
 refine CallsV.of (l := [.agg #[.int .i64 a0.Points, .bool a0.Monoid, .slice bQ a0.Gens.length bS, .slice dj a0.Elems.length dk, .slice cT a0.Prefix.length cU, .slice dD a0.Last.length dE, .slice dl a0.Right.length dm, .slice dn a0.Rules.length dp, .int .i64 a0.Done], .int .i64 a1]) Try.func52 rfl Try.ntmps52 rfl ?_
 have hO := Owns.start hA
 have hB := Fr.refl (bl []) w0
 unfold ref12_process at H
 refine zq (zr ?_)
 have hobt := obox (t := 29) (v := .agg #[.int .i64 a0.Points, .bool a0.Monoid, .slice bQ a0.Gens.length bS, .slice dj a0.Elems.length dk, .slice cT a0.Prefix.length cU, .slice dD a0.Last.length dE, .slice dl a0.Right.length dm, .slice dn a0.Rules.length dp, .int .i64 a0.Done]) (cs := #[.int .i64 a0.Points, .bool a0.Monoid, .slice bQ a0.Gens.length bS, .slice dj a0.Elems.length dk, .slice cT a0.Prefix.length cU, .slice dD a0.Last.length dE, .slice dl a0.Right.length dm, .slice dn a0.Rules.length dp, .int .i64 a0.Done]) hO rfl
 obtain ⟨w1, B2, dI, hs4, qb⟩ := hobt
 refine zg (qb rfl) ?_
 replace hO := dI.own
 have hobt := oalloc (t := 29) (cs := #[.int .i64 (0 : Int), .bool false, .slice none 0 0, .slice none 0 0, .slice none 0 0, .slice none 0 0, .slice none 0 0, .slice none 0 0, .int .i64 (0 : Int)]) ti29 hO rfl
 obtain ⟨w7, B8, kV, FD, BI⟩ := hobt
 refine GoR.op BI rfl rfl ?_
 replace hO := kV.own
 refine za rfl (zn (zq ?_))
 refine Go1.drawA (CSv.tr [(some ⟨B2, 0, none⟩), (some ⟨B2, 1, none⟩), (some ⟨B2, 2, none⟩), (some ⟨B2, 3, none⟩), (some ⟨B2, 4, none⟩), (some ⟨B2, 5, none⟩), (some ⟨B2, 6, none⟩), (some ⟨B2, 7, none⟩), (some ⟨B2, 8, none⟩)]) A 1 [(0, .pure), (1, .stable), (2, .pure), (3, .stable), (4, .pure), (5, .stable), (7, .pure), (8, .stable), (11, .pure), (12, .stable), (15, .pure), (16, .stable), (19, .pure), (20, .stable), (23, .pure), (24, .stable), (26, .pure), (27, .stable), (6, .alloc), (9, .loud), (10, .alloc), (13, .loud), (14, .alloc), (17, .loud), (18, .alloc), (21, .loud), (22, .alloc), (25, .loud), (28, .pure), (29, .alloc), (30, .last)] mixed (by kernel_rfl) trivial hO.bd ?_
 intro w13 Iw
 have lB := Stp.same hO Iw
 replace hO := lB.own
 have E6 := hO.le
 replace hB := ((hB.trans dI.fr).trans kV.fr).trans lB.fr
 have hw16 := hB.ch.size
 refine GoQA.pure rfl (op_fieldAddr Try.underlying29 rfl ti3 rfl (by decide)) rfl rfl ?_
 refine GoQA.stable rfl (loadV (.head _) rfl (blkCell 1 hO rfl rfl) Try.underlying3 rfl rfl) rfl rfl ?_
 refine GoQA.pure rfl (op_fieldAddr Try.underlying29 rfl ti4 rfl (by decide)) rfl rfl ?_
 refine GoQA.stable rfl (loadV (.tail _ (.head _)) rfl (blkCell 1 hO rfl rfl) Try.underlying4 rfl rfl) rfl rfl ?_
 refine GoQA.pure rfl (op_fieldAddr Try.underlying29 rfl ti22 rfl (by decide)) rfl rfl ?_
 refine GoQA.stable rfl (loadV (.tail _ (.tail _ (.head _))) rfl (blkCell 1 hO rfl rfl) Try.underlying22 rfl rfl) rfl rfl ?_
 refine GoQA.pure rfl (op_fieldAddr Try.underlying29 rfl ti22 rfl (by decide)) rfl rfl ?_
 refine GoQA.stable rfl (loadV (.tail _ (.tail _ (.tail _ (.head _)))) rfl (blkCell 1 hO rfl rfl) Try.underlying22 rfl rfl) rfl rfl ?_
 refine GoQA.pure rfl (op_fieldAddr Try.underlying29 rfl ti26 rfl (by decide)) rfl rfl ?_
 refine GoQA.stable rfl (loadV (.tail _ (.tail _ (.tail _ (.tail _ (.head _))))) rfl (blkCell 1 hO rfl rfl) Try.underlying26 rfl rfl) rfl rfl ?_
 refine GoQA.pure rfl (op_fieldAddr Try.underlying29 rfl ti26 rfl (by decide)) rfl rfl ?_
 refine GoQA.stable rfl (loadV (.tail _ (.tail _ (.tail _ (.tail _ (.tail _ (.head _)))))) rfl (blkCell 1 hO rfl rfl) Try.underlying26 rfl rfl) rfl rfl ?_
 refine GoQA.pure rfl (op_fieldAddr Try.underlying29 rfl ti22 rfl (by decide)) rfl rfl ?_
 refine GoQA.stable rfl (loadV (.tail _ (.tail _ (.tail _ (.tail _ (.tail _ (.tail _ (.head _))))))) rfl (blkCell 1 hO rfl rfl) Try.underlying22 rfl rfl) rfl rfl ?_
 refine GoQA.pure rfl (op_fieldAddr Try.underlying29 rfl ti27 rfl (by decide)) rfl rfl ?_
 refine GoQA.stable rfl (loadV (.tail _ (.tail _ (.tail _ (.tail _ (.tail _ (.tail _ (.tail _ (.head _)))))))) rfl (blkCell 1 hO rfl rfl) Try.underlying27 rfl rfl) rfl rfl ?_
 refine GoQA.pure rfl (op_fieldAddr Try.underlying29 rfl ti3 rfl (by decide)) rfl rfl ?_
 refine GoQA.stable rfl (loadV (.tail _ (.tail _ (.tail _ (.tail _ (.tail _ (.tail _ (.tail _ (.tail _ (.head _))))))))) rfl (blkCell 1 hO rfl rfl) Try.underlying3 rfl rfl) rfl rfl ?_
 refine GoQA.alloc rfl rfl (alBuild (n := 0) (parts := []) (vs := []) Try.underlying22 ti26 (by decide) (by decide) (by decide) (by kernel_rfl) rfl rfl) ?_
 intro w19 A20 b21 A22 Dg Nx hd25 hnb26 hh27
 replace hO := Dg.own hO
 have A6 : Els (Rp.sl (Rp.int .i64)) (bl [.blk B8 (.cells #[.int .i64 (0 : Int), .bool false, .slice none 0 0, .slice none 0 0, .slice none 0 0, .slice none 0 0, .slice none 0 0, .slice none 0 0, .int .i64 (0 : Int)] 29 (0, 0)), .blk B2 (.cells #[.int .i64 a0.Points, .bool a0.Monoid, .slice bQ a0.Gens.length bS, .slice dj a0.Elems.length dk, .slice cT a0.Prefix.length cU, .slice dD a0.Last.length dE, .slice dl a0.Right.length dm, .slice dn a0.Rules.length dp, .int .i64 a0.Done] 29 (0, 0))] ++ A20) w19 [] (([] : List (List Int))) := (Els.nil _ _ _)
 have CX := gainCh (w := w19) (E := [.blk B8 (.cells #[.int .i64 (0 : Int), .bool false, .slice none 0 0, .slice none 0 0, .slice none 0 0, .slice none 0 0, .slice none 0 0, .slice none 0 0, .int .i64 (0 : Int)] 29 (0, 0)), .blk B2 (.cells #[.int .i64 a0.Points, .bool a0.Monoid, .slice bQ a0.Gens.length bS, .slice dj a0.Elems.length dk, .slice cT a0.Prefix.length cU, .slice dD a0.Last.length dE, .slice dl a0.Right.length dm, .slice dn a0.Rules.length dp, .int .i64 a0.Done] 29 (0, 0))]) (e := .row 26 1 (some ⟨b21, 0, none⟩) 0 0 []) Nx rfl
 replace hB := hB.trans (Dg.same.fr _)
 replace hB := Fr.gain (e := .row 26 1 (some ⟨b21, 0, none⟩) 0 0 []) hB (Nat.le_trans hw16 hnb26) rfl
 replace hO := Owns.gain hO Nx E6 rfl hh27 hd25
 refine GoQA.loudI rfl rfl ?_
 intro w30 A31 Cf
 replace hO := Cf.own hO
 obtain ⟨h33, H⟩ := H
 replace A6 := (A6.ch CX).ch (Cf.ch _)
 have Z1 := ((((((Ch.start A w0).trans dI.ch).trans kV.ch).trans lB.ch).trans (Dg.ch _)).trans CX).trans (Cf.ch _)
 replace bO := bO.ch Z1
 have hobt := oapp Try.underlying22 ti26 rfl 0 hO rfl A6 bO rfl h33 (by decide)
 obtain ⟨w34, p35, c36, rb, gl, fW, G0⟩ := hobt
 refine GoAt.step (G0 (by exact rfl) (by exact rfl)) (fun _ => (CSv.cons (cs_eq (blkCell 2 hO rfl rfl) (blkCell 2 gl.own rfl rfl)) (CSv.cons (cs_eq (blkCell 2 hO rfl rfl) (blkCell 2 gl.own rfl rfl)) (CSv.cons (cs_eq (blkCell 2 hO rfl rfl) (blkCell 2 gl.own rfl rfl)) (CSv.cons (cs_eq (blkCell 2 hO rfl rfl) (blkCell 2 gl.own rfl rfl)) (CSv.cons (cs_eq (blkCell 2 hO rfl rfl) (blkCell 2 gl.own rfl rfl)) (CSv.cons (cs_eq (blkCell 2 hO rfl rfl) (blkCell 2 gl.own rfl rfl)) (CSv.cons (cs_eq (blkCell 2 hO rfl rfl) (blkCell 2 gl.own rfl rfl)) (CSv.cons (cs_eq (blkCell 2 hO rfl rfl) (blkCell 2 gl.own rfl rfl)) (CSv.cons (cs_eq (blkCell 2 hO rfl rfl) (blkCell 2 gl.own rfl rfl)) (CSv.nil _ _))))))))))) (Stp.kp hO gl) rfl ?_
 replace hO := gl.own
 refine GoQA.alloc rfl rfl (alBuild (n := 0) (parts := []) (vs := []) Try.underlying26 ti3 (by decide) (by decide) (by decide) (by kernel_rfl) rfl rfl) ?_
 intro w43 A44 b45 A46 Cg Ny hd49 hnb50 hh51
 replace hO := Cg.own hO
 have Ga : Els (Rp.int .i64) (bl [.row 26 1 p35 (0 + a0.Elems.length) c36 rb, .blk B8 (.cells #[.int .i64 (0 : Int), .bool false, .slice none 0 0, .slice none 0 0, .slice none 0 0, .slice none 0 0, .slice none 0 0, .slice none 0 0, .int .i64 (0 : Int)] 29 (0, 0)), .blk B2 (.cells #[.int .i64 a0.Points, .bool a0.Monoid, .slice bQ a0.Gens.length bS, .slice dj a0.Elems.length dk, .slice cT a0.Prefix.length cU, .slice dD a0.Last.length dE, .slice dl a0.Right.length dm, .slice dn a0.Rules.length dp, .int .i64 a0.Done] 29 (0, 0))] ++ A44) w43 [] (([] : List Int)) := (Els.nil _ _ _)
 have Dh := gainCh (w := w43) (E := [.row 26 1 p35 (0 + a0.Elems.length) c36 rb, .blk B8 (.cells #[.int .i64 (0 : Int), .bool false, .slice none 0 0, .slice none 0 0, .slice none 0 0, .slice none 0 0, .slice none 0 0, .slice none 0 0, .int .i64 (0 : Int)] 29 (0, 0)), .blk B2 (.cells #[.int .i64 a0.Points, .bool a0.Monoid, .slice bQ a0.Gens.length bS, .slice dj a0.Elems.length dk, .slice cT a0.Prefix.length cU, .slice dD a0.Last.length dE, .slice dl a0.Right.length dm, .slice dn a0.Rules.length dp, .int .i64 a0.Done] 29 (0, 0))]) (e := .row 3 1 (some ⟨b45, 0, none⟩) 0 0 []) Ny rfl
 replace hB := ((hB.trans (Cf.same.fr _)).trans gl.fr).trans (Cg.same.fr _)
 replace hB := Fr.gain (e := .row 3 1 (some ⟨b45, 0, none⟩) 0 0 []) hB (Nat.le_trans hw16 hnb50) rfl
 replace hO := Owns.gain hO Ny E6 rfl hh51 hd49
 refine GoQA.loudI rfl rfl ?_
 intro w54 A55 Bf
 replace hO := Bf.own hO
 obtain ⟨h57, H⟩ := H
 replace Ga := (Ga.ch Dh).ch (Bf.ch _)
 have Z2 := (((Z1.trans gl.ch).trans (Cg.ch _)).trans Dh).trans (Bf.ch _)
 replace bw := bw.ch Z2
 have hobt := oapp Try.underlying26 ti3 rfl 0 hO rfl Ga bw rfl h57 (by decide)
 obtain ⟨w58, p59, c60, uu, iX, fO, RR⟩ := hobt
 refine GoAt.step (RR (by exact rfl) (by exact rfl)) (fun _ => (CSv.cons (cs_eq (blkCell 3 hO rfl rfl) (blkCell 3 iX.own rfl rfl)) (CSv.cons (cs_eq (blkCell 3 hO rfl rfl) (blkCell 3 iX.own rfl rfl)) (CSv.cons (cs_eq (blkCell 3 hO rfl rfl) (blkCell 3 iX.own rfl rfl)) (CSv.cons (cs_eq (blkCell 3 hO rfl rfl) (blkCell 3 iX.own rfl rfl)) (CSv.cons (cs_eq (blkCell 3 hO rfl rfl) (blkCell 3 iX.own rfl rfl)) (CSv.cons (cs_eq (blkCell 3 hO rfl rfl) (blkCell 3 iX.own rfl rfl)) (CSv.cons (cs_eq (blkCell 3 hO rfl rfl) (blkCell 3 iX.own rfl rfl)) (CSv.cons (cs_eq (blkCell 3 hO rfl rfl) (blkCell 3 iX.own rfl rfl)) (CSv.cons (cs_eq (blkCell 3 hO rfl rfl) (blkCell 3 iX.own rfl rfl)) (CSv.nil _ _))))))))))) (Stp.kp hO iX) rfl ?_
 replace hO := iX.own
 refine GoQA.alloc rfl rfl (alBuild (n := 0) (parts := []) (vs := []) Try.underlying26 ti3 (by decide) (by decide) (by decide) (by kernel_rfl) rfl rfl) ?_
 intro w67 A68 b69 A70 Bg Nz hd73 hnb74 hh75
 replace hO := Bg.own hO
 have Gb : Els (Rp.int .i64) (bl [.row 3 1 p59 (0 + a0.Prefix.length) c60 uu, .row 26 1 p35 (0 + a0.Elems.length) c36 rb, .blk B8 (.cells #[.int .i64 (0 : Int), .bool false, .slice none 0 0, .slice none 0 0, .slice none 0 0, .slice none 0 0, .slice none 0 0, .slice none 0 0, .int .i64 (0 : Int)] 29 (0, 0)), .blk B2 (.cells #[.int .i64 a0.Points, .bool a0.Monoid, .slice bQ a0.Gens.length bS, .slice dj a0.Elems.length dk, .slice cT a0.Prefix.length cU, .slice dD a0.Last.length dE, .slice dl a0.Right.length dm, .slice dn a0.Rules.length dp, .int .i64 a0.Done] 29 (0, 0))] ++ A68) w67 [] (([] : List Int)) := (Els.nil _ _ _)
 have Ci := gainCh (w := w67) (E := [.row 3 1 p59 (0 + a0.Prefix.length) c60 uu, .row 26 1 p35 (0 + a0.Elems.length) c36 rb, .blk B8 (.cells #[.int .i64 (0 : Int), .bool false, .slice none 0 0, .slice none 0 0, .slice none 0 0, .slice none 0 0, .slice none 0 0, .slice none 0 0, .int .i64 (0 : Int)] 29 (0, 0)), .blk B2 (.cells #[.int .i64 a0.Points, .bool a0.Monoid, .slice bQ a0.Gens.length bS, .slice dj a0.Elems.length dk, .slice cT a0.Prefix.length cU, .slice dD a0.Last.length dE, .slice dl a0.Right.length dm, .slice dn a0.Rules.length dp, .int .i64 a0.Done] 29 (0, 0))]) (e := .row 3 1 (some ⟨b69, 0, none⟩) 0 0 []) Nz rfl
 replace hB := ((hB.trans (Bf.same.fr _)).trans iX.fr).trans (Bg.same.fr _)
 replace hB := Fr.gain (e := .row 3 1 (some ⟨b69, 0, none⟩) 0 0 []) hB (Nat.le_trans hw16 hnb74) rfl
 replace hO := Owns.gain hO Nz E6 rfl hh75 hd73
 refine GoQA.loudI rfl rfl ?_
 intro w78 A79 Aj
 replace hO := Aj.own hO
 obtain ⟨h81, H⟩ := H
 replace Gb := (Gb.ch Ci).ch (Aj.ch _)
 have Z3 := (((Z2.trans iX.ch).trans (Bg.ch _)).trans Ci).trans (Aj.ch _)
 replace b6 := b6.ch Z3
 have hobt := oapp Try.underlying26 ti3 rfl 0 hO rfl Gb b6 rfl h81 (by decide)
 obtain ⟨w82, p83, c84, v4, gT, f6, RS⟩ := hobt
 dsimp only [sS, sZ] at gT f6
 refine GoAt.step (RS (by exact rfl) (by exact rfl)) (fun _ => (CSv.cons (cs_eq (blkCell 4 hO rfl rfl) (blkCell 4 gT.own rfl rfl)) (CSv.cons (cs_eq (blkCell 4 hO rfl rfl) (blkCell 4 gT.own rfl rfl)) (CSv.cons (cs_eq (blkCell 4 hO rfl rfl) (blkCell 4 gT.own rfl rfl)) (CSv.cons (cs_eq (blkCell 4 hO rfl rfl) (blkCell 4 gT.own rfl rfl)) (CSv.cons (cs_eq (blkCell 4 hO rfl rfl) (blkCell 4 gT.own rfl rfl)) (CSv.cons (cs_eq (blkCell 4 hO rfl rfl) (blkCell 4 gT.own rfl rfl)) (CSv.cons (cs_eq (blkCell 4 hO rfl rfl) (blkCell 4 gT.own rfl rfl)) (CSv.cons (cs_eq (blkCell 4 hO rfl rfl) (blkCell 4 gT.own rfl rfl)) (CSv.cons (cs_eq (blkCell 4 hO rfl rfl) (blkCell 4 gT.own rfl rfl)) (CSv.nil _ _))))))))))) (Stp.kp hO gT) rfl ?_
 replace hO := gT.own
 refine GoQA.alloc rfl rfl (alBuild (n := 0) (parts := []) (vs := []) Try.underlying22 ti26 (by decide) (by decide) (by decide) (by kernel_rfl) rfl rfl) ?_
 intro w91 A92 b93 A94 Ak NA hd97 hnb98 hh99
 replace hO := Ak.own hO
 have Ey : Els (Rp.sl (Rp.int .i64)) (bl [.row 3 1 p83 (0 + a0.Last.length) c84 v4, .row 3 1 p59 (0 + a0.Prefix.length) c60 uu, .row 26 1 p35 (0 + a0.Elems.length) c36 rb, .blk B8 (.cells #[.int .i64 (0 : Int), .bool false, .slice none 0 0, .slice none 0 0, .slice none 0 0, .slice none 0 0, .slice none 0 0, .slice none 0 0, .int .i64 (0 : Int)] 29 (0, 0)), .blk B2 (.cells #[.int .i64 a0.Points, .bool a0.Monoid, .slice bQ a0.Gens.length bS, .slice dj a0.Elems.length dk, .slice cT a0.Prefix.length cU, .slice dD a0.Last.length dE, .slice dl a0.Right.length dm, .slice dn a0.Rules.length dp, .int .i64 a0.Done] 29 (0, 0))] ++ A92) w91 [] (([] : List (List Int))) := (Els.nil _ _ _)
 have yR := gainCh (w := w91) (E := [.row 3 1 p83 (0 + a0.Last.length) c84 v4, .row 3 1 p59 (0 + a0.Prefix.length) c60 uu, .row 26 1 p35 (0 + a0.Elems.length) c36 rb, .blk B8 (.cells #[.int .i64 (0 : Int), .bool false, .slice none 0 0, .slice none 0 0, .slice none 0 0, .slice none 0 0, .slice none 0 0, .slice none 0 0, .int .i64 (0 : Int)] 29 (0, 0)), .blk B2 (.cells #[.int .i64 a0.Points, .bool a0.Monoid, .slice bQ a0.Gens.length bS, .slice dj a0.Elems.length dk, .slice cT a0.Prefix.length cU, .slice dD a0.Last.length dE, .slice dl a0.Right.length dm, .slice dn a0.Rules.length dp, .int .i64 a0.Done] 29 (0, 0))]) (e := .row 26 1 (some ⟨b93, 0, none⟩) 0 0 []) NA rfl
 replace hB := ((hB.trans (Aj.same.fr _)).trans gT.fr).trans (Ak.same.fr _)
 replace hB := Fr.gain (e := .row 26 1 (some ⟨b93, 0, none⟩) 0 0 []) hB (Nat.le_trans hw16 hnb98) rfl
 replace hO := Owns.gain hO NA E6 rfl hh99 hd97
 refine GoQA.loudI rfl rfl ?_
 intro acg A103 xq
 replace hO := xq.own hO
 obtain ⟨vM, H⟩ := H
 replace Ey := (Ey.ch yR).ch (xq.ch _)
 have Z4 := (((Z3.trans gT.ch).trans (Ak.ch _)).trans yR).trans (xq.ch _)
 replace bP := bP.ch Z4
 have hobt := oapp Try.underlying22 ti26 rfl 0 hO rfl Ey bP rfl vM (by decide)
 obtain ⟨ach, mM, mO, uv, lO, g5, NB⟩ := hobt
 dsimp only [sS, sZ] at lO g5
 refine GoAt.step (NB (by exact rfl) (by exact rfl)) (fun _ => (CSv.cons (cs_eq (blkCell 5 hO rfl rfl) (blkCell 5 lO.own rfl rfl)) (CSv.cons (cs_eq (blkCell 5 hO rfl rfl) (blkCell 5 lO.own rfl rfl)) (CSv.cons (cs_eq (blkCell 5 hO rfl rfl) (blkCell 5 lO.own rfl rfl)) (CSv.cons (cs_eq (blkCell 5 hO rfl rfl) (blkCell 5 lO.own rfl rfl)) (CSv.cons (cs_eq (blkCell 5 hO rfl rfl) (blkCell 5 lO.own rfl rfl)) (CSv.cons (cs_eq (blkCell 5 hO rfl rfl) (blkCell 5 lO.own rfl rfl)) (CSv.cons (cs_eq (blkCell 5 hO rfl rfl) (blkCell 5 lO.own rfl rfl)) (CSv.cons (cs_eq (blkCell 5 hO rfl rfl) (blkCell 5 lO.own rfl rfl)) (CSv.cons (cs_eq (blkCell 5 hO rfl rfl) (blkCell 5 lO.own rfl rfl)) (CSv.nil _ _))))))))))) (Stp.kp hO lO) rfl ?_
 replace hO := lO.own
 refine GoQA.alloc rfl rfl (alBuild (n := 0) (parts := []) (vs := []) Try.underlying27 ti39 (by decide) (by decide) (by decide) (by kernel_rfl) rfl rfl) ?_
 intro NC A116 ND A118 xr Kr hd121 hnb122 hh123
 replace hO := xr.own hO
 have Ez : Els (rpRule) (bl [.row 26 1 mM (0 + a0.Right.length) mO uv, .row 3 1 p83 (0 + a0.Last.length) c84 v4, .row 3 1 p59 (0 + a0.Prefix.length) c60 uu, .row 26 1 p35 (0 + a0.Elems.length) c36 rb, .blk B8 (.cells #[.int .i64 (0 : Int), .bool false, .slice none 0 0, .slice none 0 0, .slice none 0 0, .slice none 0 0, .slice none 0 0, .slice none 0 0, .int .i64 (0 : Int)] 29 (0, 0)), .blk B2 (.cells #[.int .i64 a0.Points, .bool a0.Monoid, .slice bQ a0.Gens.length bS, .slice dj a0.Elems.length dk, .slice cT a0.Prefix.length cU, .slice dD a0.Last.length dE, .slice dl a0.Right.length dm, .slice dn a0.Rules.length dp, .int .i64 a0.Done] 29 (0, 0))] ++ A116) NC [] (([] : List Rule)) := (Els.nil _ _ _)
 have x7 := gainCh (w := NC) (E := [.row 26 1 mM (0 + a0.Right.length) mO uv, .row 3 1 p83 (0 + a0.Last.length) c84 v4, .row 3 1 p59 (0 + a0.Prefix.length) c60 uu, .row 26 1 p35 (0 + a0.Elems.length) c36 rb, .blk B8 (.cells #[.int .i64 (0 : Int), .bool false, .slice none 0 0, .slice none 0 0, .slice none 0 0, .slice none 0 0, .slice none 0 0, .slice none 0 0, .int .i64 (0 : Int)] 29 (0, 0)), .blk B2 (.cells #[.int .i64 a0.Points, .bool a0.Monoid, .slice bQ a0.Gens.length bS, .slice dj a0.Elems.length dk, .slice cT a0.Prefix.length cU, .slice dD a0.Last.length dE, .slice dl a0.Right.length dm, .slice dn a0.Rules.length dp, .int .i64 a0.Done] 29 (0, 0))]) (e := .row 39 2 (some ⟨ND, 0, none⟩) 0 0 []) Kr rfl
 replace hB := ((hB.trans (xq.same.fr _)).trans lO.fr).trans (xr.same.fr _)
 replace hB := Fr.gain (e := .row 39 2 (some ⟨ND, 0, none⟩) 0 0 []) hB (Nat.le_trans hw16 hnb122) rfl
 replace hO := Owns.gain hO Kr E6 rfl hh123 hd121
 refine GoQA.loudI rfl rfl ?_
 intro VH A127 wh
 replace hO := wh.own hO
 obtain ⟨IY, H⟩ := H
 replace Ez := (Ez.ch x7).ch (wh.ch _)
 have Z5 := (((Z4.trans lO.ch).trans (xr.ch _)).trans x7).trans (wh.ch _)
 replace bx := bx.ch Z5
 have hobt := oapp Try.underlying27 ti39 rfl 0 hO rfl Ez bx rfl IY (by decide)
 obtain ⟨UW, lP, lQ, um, gF, g7, FV⟩ := hobt
 dsimp only [sS, sZ] at gF g7
 refine GoAt.step (FV (by exact rfl) (by exact rfl)) (fun _ => (CSv.cons (cs_eq (blkCell 6 hO rfl rfl) (blkCell 6 gF.own rfl rfl)) (CSv.cons (cs_eq (blkCell 6 hO rfl rfl) (blkCell 6 gF.own rfl rfl)) (CSv.cons (cs_eq (blkCell 6 hO rfl rfl) (blkCell 6 gF.own rfl rfl)) (CSv.cons (cs_eq (blkCell 6 hO rfl rfl) (blkCell 6 gF.own rfl rfl)) (CSv.cons (cs_eq (blkCell 6 hO rfl rfl) (blkCell 6 gF.own rfl rfl)) (CSv.cons (cs_eq (blkCell 6 hO rfl rfl) (blkCell 6 gF.own rfl rfl)) (CSv.cons (cs_eq (blkCell 6 hO rfl rfl) (blkCell 6 gF.own rfl rfl)) (CSv.cons (cs_eq (blkCell 6 hO rfl rfl) (blkCell 6 gF.own rfl rfl)) (CSv.cons (cs_eq (blkCell 6 hO rfl rfl) (blkCell 6 gF.own rfl rfl)) (CSv.nil _ _))))))))))) (Stp.kp hO gF) rfl ?_
 replace hO := gF.own
 refine GoQA.pure rfl (op_build Try.underlying29 ti29 (pl := [(0, 1), (1, 1), (2, 1), (3, 1), (4, 1), (5, 1), (6, 1), (7, 1), (8, 1)]) (vs := [(0, .int .i64 a0.Points), (1, .bool a0.Monoid), (2, .slice bQ a0.Gens.length bS), (3, .slice p35 (0 + a0.Elems.length) c36), (4, .slice p59 (0 + a0.Prefix.length) c60), (5, .slice p83 (0 + a0.Last.length) c84), (6, .slice mM (0 + a0.Right.length) mO), (7, .slice lP (0 + a0.Rules.length) lQ), (8, .int .i64 a0.Done)]) (cs := #[.int .i64 a0.Points, .bool a0.Monoid, .slice bQ a0.Gens.length bS, .slice p35 (0 + a0.Elems.length) c36, .slice p59 (0 + a0.Prefix.length) c60, .slice p83 (0 + a0.Last.length) c84, .slice mM (0 + a0.Right.length) mO, .slice lP (0 + a0.Rules.length) lQ, .int .i64 a0.Done]) (by kernel_rfl) rfl (by kernel_rfl)) rfl rfl ?_
 refine GoQA.alloc rfl rfl (alAlloc (cs := #[.int .i64 (0 : Int), .bool false, .slice none 0 0, .slice none 0 0, .slice none 0 0, .slice none 0 0, .slice none 0 0, .slice none 0 0, .int .i64 (0 : Int)]) ti29 rfl) ?_
 intro V1 A140 gS A142 wi Ks hd145 hnb146 hh147
 replace hO := wi.own hO
 have x8 := gainCh (w := V1) (E := [.row 39 2 lP (0 + a0.Rules.length) lQ um, .row 26 1 mM (0 + a0.Right.length) mO uv, .row 3 1 p83 (0 + a0.Last.length) c84 v4, .row 3 1 p59 (0 + a0.Prefix.length) c60 uu, .row 26 1 p35 (0 + a0.Elems.length) c36 rb, .blk B8 (.cells #[.int .i64 (0 : Int), .bool false, .slice none 0 0, .slice none 0 0, .slice none 0 0, .slice none 0 0, .slice none 0 0, .slice none 0 0, .int .i64 (0 : Int)] 29 (0, 0)), .blk B2 (.cells #[.int .i64 a0.Points, .bool a0.Monoid, .slice bQ a0.Gens.length bS, .slice dj a0.Elems.length dk, .slice cT a0.Prefix.length cU, .slice dD a0.Last.length dE, .slice dl a0.Right.length dm, .slice dn a0.Rules.length dp, .int .i64 a0.Done] 29 (0, 0))]) (e := .blk gS (.cells #[.int .i64 (0 : Int), .bool false, .slice none 0 0, .slice none 0 0, .slice none 0 0, .slice none 0 0, .slice none 0 0, .slice none 0 0, .int .i64 (0 : Int)] 29 (0, 0))) Ks rfl
 replace hB := ((hB.trans (wh.same.fr _)).trans gF.fr).trans (wi.same.fr _)
 replace hB := Fr.gain (e := .blk gS (.cells #[.int .i64 (0 : Int), .bool false, .slice none 0 0, .slice none 0 0, .slice none 0 0, .slice none 0 0, .slice none 0 0, .slice none 0 0, .int .i64 (0 : Int)] 29 (0, 0))) hB (Nat.le_trans hw16 hnb146) rfl
 replace hO := Owns.gain hO Ks E6 rfl hh147 hd145
 refine GoQA.lastI rfl rfl ?_
 intro aci A150 wj
 replace hO := wj.own hO
 have hobt := oblkStAgg (us := [.int .i64 a0.Points, .bool a0.Monoid, .slice bQ a0.Gens.length bS, .slice p35 (0 + a0.Elems.length) c36, .slice p59 (0 + a0.Prefix.length) c60, .slice p83 (0 + a0.Last.length) c84, .slice mM (0 + a0.Right.length) mO, .slice lP (0 + a0.Rules.length) lQ, .int .i64 a0.Done]) (o := 0) (cs' := #[.int .i64 a0.Points, .bool a0.Monoid, .slice bQ a0.Gens.length bS, .slice p35 (0 + a0.Elems.length) c36, .slice p59 (0 + a0.Prefix.length) c60, .slice p83 (0 + a0.Last.length) c84, .slice mM (0 + a0.Right.length) mO, .slice lP (0 + a0.Rules.length) lQ, .int .i64 a0.Done]) 0 hO rfl rfl (Nat.le_of_ble_eq_true rfl) rfl
 obtain ⟨VI, rJ, FW⟩ := hobt
 dsimp only [sS, sZ] at rJ
 refine GoAt.step (FW ti29 (by exact rfl) (by exact rfl) rfl) (fun h => nomatch h) (Stp.kp hO rJ) rfl ?_
 replace hO := rJ.own
 refine GoQA.nil ?_
 intro acj A156 wk xt
 replace hO := wk.own hO
 replace hO := hO.permA xt
 refine zq ?_
 refine Go1.cut [(1, .int .i64 a1), (4, .pointer (some ⟨B8, 0, none⟩)), (6, .pointer (some ⟨gS, 0, none⟩))] ⟨rfl, rfl, rfl, trivial⟩ ?_
 intro σ _
 refine zr ?_
 have hobt := omakeMap (fun a : List UInt8 => Value.string (gstr a)) (fun a : Int => Value.int .i64 a) hO
 obtain ⟨MN, B160, iq, XM, NE⟩ := hobt
 refine GoR.op NE rfl rfl ?_
 replace hO := iq.own
 refine za rfl (zn (zq (zr (za rfl (zn ?_)))))
 refine zq (zq (zr (zo (op_fieldAddr Try.underlying29 rfl ti22 rfl (by decide)) (zs (oblk (i := 3) 1 hO rfl rfl Try.underlying22 rfl rfl) ?_))))
 have Z6 := ((((((((((((((((((((((Cg.ch _).trans Dh).trans (Bf.ch _)).trans iX.ch).trans (Bg.ch _)).trans Ci).trans (Aj.ch _)).trans gT.ch).trans (Ak.ch _)).trans yR).trans (xq.ch _)).trans lO.ch).trans (xr.ch _)).trans x7).trans (wh.ch _)).trans gF.ch).trans (wi.ch _)).trans x8).trans (wj.ch _)).trans rJ.ch).trans (wk.ch _)).trans (permCh xt _)).trans iq.ch
 replace fW := fW.ch Z6
 refine zo (op_lenN Try.underlying22 rfl (fW.neq hO 6 rfl)) (zm rfl (zn (zb ?_)))
 have kB := Stp.nil (e := 9) (r := 1) hO
 replace hO := kB.own
 have Fq := Els.nil (Rp.str) (bl (.row 9 1 none 0 0 [] :: [.any (mapE (fun a : List UInt8 => Value.string (gstr a)) (fun a : Int => Value.int .i64 a) B160 (([] : List (Str × Int)))), .blk gS (.cells #[.int .i64 a0.Points, .bool a0.Monoid, .slice bQ a0.Gens.length bS, .slice p35 (0 + a0.Elems.length) c36, .slice p59 (0 + a0.Prefix.length) c60, .slice p83 (0 + a0.Last.length) c84, .slice mM (0 + a0.Right.length) mO, .slice lP (0 + a0.Rules.length) lQ, .int .i64 a0.Done] 29 (0, 0)), .row 39 2 lP (0 + a0.Rules.length) lQ um, .row 26 1 mM (0 + a0.Right.length) mO uv, .row 3 1 p83 (0 + a0.Last.length) c84 v4, .row 3 1 p59 (0 + a0.Prefix.length) c60 uu, .row 26 1 p35 (0 + a0.Elems.length) c36 rb, .blk B8 (.cells #[.int .i64 (0 : Int), .bool false, .slice none 0 0, .slice none 0 0, .slice none 0 0, .slice none 0 0, .slice none 0 0, .slice none 0 0, .int .i64 (0 : Int)] 29 (0, 0)), .blk B2 (.cells #[.int .i64 a0.Points, .bool a0.Monoid, .slice bQ a0.Gens.length bS, .slice dj a0.Elems.length dk, .slice cT a0.Prefix.length cU, .slice dD a0.Last.length dE, .slice dl a0.Right.length dm, .slice dn a0.Rules.length dp, .int .i64 a0.Done] 29 (0, 0))]) ++ A) MN
 replace hO := hO.drop 9
 replace Fq := Fq.ch (Owns.dropCh _ _ 9)
 replace fW := (fW.ch kB.ch).ch (Owns.dropCh _ _ 9)
 replace hB := (((((hB.trans (wj.same.fr _)).trans rJ.fr).trans (wk.same.fr _)).trans iq.fr).trans kB.fr).trans (Owns.dropFr _ _ 9)
 have Z7 := ((((((((wi.ch _).trans x8).trans (wj.ch _)).trans rJ.ch).trans (wk.ch _)).trans (permCh xt _)).trans iq.ch).trans kB.ch).trans (Owns.dropCh _ _ 9)
 replace g7 := g7.ch Z7
 have Z8 := ((((((((gF.ch.trans (wi.ch _)).trans x8).trans (wj.ch _)).trans rJ.ch).trans (wk.ch _)).trans (permCh xt _)).trans iq.ch).trans kB.ch).trans (Owns.dropCh _ _ 9)
 replace bx := bx.ch Z8
 have Z9 := ((((((((((((xr.ch _).trans x7).trans (wh.ch _)).trans gF.ch).trans (wi.ch _)).trans x8).trans (wj.ch _)).trans rJ.ch).trans (wk.ch _)).trans (permCh xt _)).trans iq.ch).trans kB.ch).trans (Owns.dropCh _ _ 9)
 replace g5 := g5.ch Z9
 have Z10 := ((((((((((((lO.ch.trans (xr.ch _)).trans x7).trans (wh.ch _)).trans gF.ch).trans (wi.ch _)).trans x8).trans (wj.ch _)).trans rJ.ch).trans (wk.ch _)).trans (permCh xt _)).trans iq.ch).trans kB.ch).trans (Owns.dropCh _ _ 9)
 replace bP := bP.ch Z10
 have Z11 := ((((((((((((((((Ak.ch _).trans yR).trans (xq.ch _)).trans lO.ch).trans (xr.ch _)).trans x7).trans (wh.ch _)).trans gF.ch).trans (wi.ch _)).trans x8).trans (wj.ch _)).trans rJ.ch).trans (wk.ch _)).trans (permCh xt _)).trans iq.ch).trans kB.ch).trans (Owns.dropCh _ _ 9)
 replace f6 := f6.ch Z11
 have Z12 := ((((((((((((((((gT.ch.trans (Ak.ch _)).trans yR).trans (xq.ch _)).trans lO.ch).trans (xr.ch _)).trans x7).trans (wh.ch _)).trans gF.ch).trans (wi.ch _)).trans x8).trans (wj.ch _)).trans rJ.ch).trans (wk.ch _)).trans (permCh xt _)).trans iq.ch).trans kB.ch).trans (Owns.dropCh _ _ 9)
 replace b6 := b6.ch Z12
 have Z13 := ((((((((((((((((((((Bg.ch _).trans Ci).trans (Aj.ch _)).trans gT.ch).trans (Ak.ch _)).trans yR).trans (xq.ch _)).trans lO.ch).trans (xr.ch _)).trans x7).trans (wh.ch _)).trans gF.ch).trans (wi.ch _)).trans x8).trans (wj.ch _)).trans rJ.ch).trans (wk.ch _)).trans (permCh xt _)).trans iq.ch).trans kB.ch).trans (Owns.dropCh _ _ 9)
 replace fO := fO.ch Z13
 have Z14 := ((((((((((((((((((((iX.ch.trans (Bg.ch _)).trans Ci).trans (Aj.ch _)).trans gT.ch).trans (Ak.ch _)).trans yR).trans (xq.ch _)).trans lO.ch).trans (xr.ch _)).trans x7).trans (wh.ch _)).trans gF.ch).trans (wi.ch _)).trans x8).trans (wj.ch _)).trans rJ.ch).trans (wk.ch _)).trans (permCh xt _)).trans iq.ch).trans kB.ch).trans (Owns.dropCh _ _ 9)
 replace bw := bw.ch Z14
 have Z15 := ((((((((((((((((((((((((gl.ch.trans (Cg.ch _)).trans Dh).trans (Bf.ch _)).trans iX.ch).trans (Bg.ch _)).trans Ci).trans (Aj.ch _)).trans gT.ch).trans (Ak.ch _)).trans yR).trans (xq.ch _)).trans lO.ch).trans (xr.ch _)).trans x7).trans (wh.ch _)).trans gF.ch).trans (wi.ch _)).trans x8).trans (wj.ch _)).trans rJ.ch).trans (wk.ch _)).trans (permCh xt _)).trans iq.ch).trans kB.ch).trans (Owns.dropCh _ _ 9)
 replace bO := bO.ch Z15
 have Z16 := (((((((((Z5.trans gF.ch).trans (wi.ch _)).trans x8).trans (wj.ch _)).trans rJ.ch).trans (wk.ch _)).trans (permCh xt _)).trans iq.ch).trans kB.ch).trans (Owns.dropCh _ _ 9)
 replace aJ := aJ.ch Z16
 dsimp only [eS, eZ] at hB hO aJ bO bw b6 bP bx Fq g7 g5 f6 fO fW
 refine Go1.loopW (S := Nat × List Str × (List (Str × Int))) (fun s σ w => match s with | (k1_169, d_170, m1_176) => ∃ (x9 : Nat), ∃ (xH : Option Addr), ∃ (xI : Nat), ∃ (xv : List Value), agrees σ [(1, .int .i64 a1), (4, .pointer (some ⟨B8, 0, none⟩)), (6, .pointer (some ⟨gS, 0, none⟩)), (7, .map (some B160)), (8, .slice xH x9 xI), (50, .int .i64 (((([] : List (List Int))) ++ a0.Elems).length : Int)), (51, .int .i64 (k1_169 : Int))] ∧ (fun Z0 => Owns w0.heap.size w Z0 A ∧ Els (Rp.str) (bl Z0 ++ A) w xv d_170 ∧ Els (rpRule) (bl Z0 ++ A) w um ((([] : List Rule)) ++ a0.Rules) ∧ Els (Rp.sl (Rp.int .i64)) (bl Z0 ++ A) w uv ((([] : List (List Int))) ++ a0.Right) ∧ Els (Rp.int .i64) (bl Z0 ++ A) w v4 ((([] : List Int)) ++ a0.Last) ∧ Els (Rp.int .i64) (bl Z0 ++ A) w uu ((([] : List Int)) ++ a0.Prefix) ∧ Els (Rp.sl (Rp.int .i64)) (bl Z0 ++ A) w rb ((([] : List (List Int))) ++ a0.Elems) ∧ ISl (Rp.sl (Rp.int .i64)) (bl Z0 ++ A) w bQ bS a0.Gens ∧ Fr (bl []) w0 (bl Z0) w) [.row 9 1 xH x9 xI xv, .any (mapE (fun a : List UInt8 => Value.string (gstr a)) (fun a : Int => Value.int .i64 a) B160 m1_176), .blk gS (.cells #[.int .i64 a0.Points, .bool a0.Monoid, .slice bQ a0.Gens.length bS, .slice p35 (0 + a0.Elems.length) c36, .slice p59 (0 + a0.Prefix.length) c60, .slice p83 (0 + a0.Last.length) c84, .slice mM (0 + a0.Right.length) mO, .slice lP (0 + a0.Rules.length) lQ, .int .i64 a0.Done] 29 (0, 0)), .row 39 2 lP (0 + a0.Rules.length) lQ um, .row 26 1 mM (0 + a0.Right.length) mO uv, .row 3 1 p83 (0 + a0.Last.length) c84 v4, .row 3 1 p59 (0 + a0.Prefix.length) c60 uu, .row 26 1 p35 (0 + a0.Elems.length) c36 rb, .blk B8 (.cells #[.int .i64 (0 : Int), .bool false, .slice none 0 0, .slice none 0 0, .slice none 0 0, .slice none 0 0, .slice none 0 0, .slice none 0 0, .int .i64 (0 : Int)] 29 (0, 0))]) H ⟨0, none, 0, [], ⟨rfl, rfl, rfl, rfl, rfl, rfl, rfl, trivial⟩, hO, Fq, g7, g5, f6, fO, fW, aJ, hB⟩ ?_
 intro X1
 refine prE fun k1_169 => prE fun d_170 => fun m1_176 => ?_
 intro H hX1 σ KM
 refine exE fun x9 => exE fun xH => exE fun xI => exE fun xv => andE fun hag => andE fun hO => andE fun AO => andE fun g7 => andE fun g5 => andE fun f6 => andE fun fO => andE fun fW => andE fun aJ => fun hB => ?_
 dsimp only at H
 refine Go1.keep [(1, .int .i64 a1), (4, .pointer (some ⟨B8, 0, none⟩)), (6, .pointer (some ⟨gS, 0, none⟩)), (7, .map (some B160)), (8, .slice xH x9 xI), (50, .int .i64 (((([] : List (List Int))) ++ a0.Elems).length : Int)), (51, .int .i64 (k1_169 : Int))] hag ?_
 refine zq (zr ?_)
 by_cases xJ : (k1_169 : Int) < (((([] : List (List Int))) ++ a0.Elems).length : Int)
 ·replace H := ifp xJ H
  refine zo (fun w => opB (op_lss rfl rfl w) (decide_eq_true xJ)) (zn (zq (zt rfl rfl (zk (zq ?_)))))
  refine zb (zq (zr (zm rfl (za rfl (zn ?_)))))
  refine zq (zr (zm rfl (zs (oblkAgg (vs := [.int .i64 a0.Points, .bool a0.Monoid, .slice bQ a0.Gens.length bS, .slice p35 (0 + a0.Elems.length) c36, .slice p59 (0 + a0.Prefix.length) c60, .slice p83 (0 + a0.Last.length) c84, .slice mM (0 + a0.Right.length) mO, .slice lP (0 + a0.Rules.length) lQ, .int .i64 a0.Done]) (i := 0) 2 hO rfl rfl Try.underlying29 rfl ti29 rfl) (zm rfl ?_))))
  have hobt := rowlend 7 hO rfl fW
  obtain ⟨RT, RU⟩ := hobt
  have hOc180 := hO.drop 7
  have hobt := rowlend 6 hOc180 rfl (fO.ch (Owns.dropCh _ _ 7))
  obtain ⟨RV, RW⟩ := hobt
  have hOc183 := hOc180.drop 6
  have hobt := rowlend 5 hOc183 rfl ((f6.ch (Owns.dropCh _ _ 7)).ch (Owns.dropCh _ _ 6))
  obtain ⟨RX, RY⟩ := hobt
  have hOc186 := hOc183.drop 5
  have hobt := rowlend 4 hOc186 rfl (((g5.ch (Owns.dropCh _ _ 7)).ch (Owns.dropCh _ _ 6)).ch (Owns.dropCh _ _ 5))
  obtain ⟨R0, GC⟩ := hobt
  have hOc189 := hOc186.drop 4
  have hobt := rowlend 3 hOc189 rfl ((((g7.ch (Owns.dropCh _ _ 7)).ch (Owns.dropCh _ _ 6)).ch (Owns.dropCh _ _ 5)).ch (Owns.dropCh _ _ 4))
  obtain ⟨R2, R3⟩ := hobt
  have hOc192 := hOc189.drop 3
  refine GoR.call (op_call body40 (show ([.agg #[.int .i64 a0.Points, .bool a0.Monoid, .slice bQ a0.Gens.length bS, .slice p35 (0 + a0.Elems.length) c36, .slice p59 (0 + a0.Prefix.length) c60, .slice p83 (0 + a0.Last.length) c84, .slice mM (0 + a0.Right.length) mO, .slice lP (0 + a0.Rules.length) lQ, .int .i64 a0.Done], .int .i64 (k1_169 : Int)] : List Value) = [.agg #[.int .i64 a0.Points, .bool a0.Monoid, .slice bQ a0.Gens.length bS, .slice p35 ((([] : List (List Int))) ++ a0.Elems).length c36, .slice p59 ((([] : List Int)) ++ a0.Prefix).length c60, .slice p83 ((([] : List Int)) ++ a0.Last).length c84, .slice mM ((([] : List (List Int))) ++ a0.Right).length mO, .slice lP ((([] : List Rule)) ++ a0.Rules).length lQ, .int .i64 a0.Done], .int .i64 (k1_169 : Int)] from by rw [← RU, ← RW, ← RY, ← GC, ← R3]) (walk_ref12_Word (e := (⟨a0.Points, a0.Monoid, a0.Gens, (([] : List (List Int))) ++ a0.Elems, (([] : List Int)) ++ a0.Prefix, (([] : List Int)) ++ a0.Last, (([] : List (List Int))) ++ a0.Right, (([] : List Rule)) ++ a0.Rules, a0.Done⟩ : Enum)) hOc192.lt (((((aJ.ch (Owns.dropCh _ _ 7)).ch (Owns.dropCh _ _ 6)).ch (Owns.dropCh _ _ 5)).ch (Owns.dropCh _ _ 4)).ch (Owns.dropCh _ _ 3)) ((((RT.ch (Owns.dropCh _ _ 6)).ch (Owns.dropCh _ _ 5)).ch (Owns.dropCh _ _ 4)).ch (Owns.dropCh _ _ 3)) (((RV.ch (Owns.dropCh _ _ 5)).ch (Owns.dropCh _ _ 4)).ch (Owns.dropCh _ _ 3)) ((RX.ch (Owns.dropCh _ _ 4)).ch (Owns.dropCh _ _ 3)) (R0.ch (Owns.dropCh _ _ 3)) R2 H)) rfl rfl ?_
  rintro ack acl ⟨r193, rfl, R4, KI, H⟩
  have ya := Stp.same hO R4
  replace hO := ya.own
  have hobt := obuild (r := Rp.str) (n := 1) (parts := [(0, .string (gstr r193))]) (vs := [.string (gstr r193)]) (xs := [r193]) rfl Try.underlying70 ti9 hO (by decide) (by kernel_rfl) (Els.cons rfl ⟨rfl, KI⟩ (Els.nil _ _ _) (by simp [mx])) rfl
  obtain ⟨Ua, acm, kh, R5, Kt, NF⟩ := hobt
  refine zg (NF rfl) ?_
  replace hO := kh.own
  have hobt := freeze 0 hO rfl R5
  obtain ⟨hO1, AP, DH, R6⟩ := hobt
  dsimp only [eS, eZ] at hO1 AP DH
  replace hB := ((hB.trans ya.fr).trans kh.fr).trans (Owns.dropFr _ _ 0)
  dsimp only [eS, eZ] at hB
  replace hO := hO1; clear hO1
  obtain ⟨Io, H⟩ := H
  have Z17 := (ya.ch.trans kh.ch).trans AP
  replace AO := AO.ch Z17
  have hobt := oapp Try.underlying70 ti9 rfl 0 hO rfl AO DH R6 Io (by decide)
  obtain ⟨acn, V2, V3, R7, wM, AQ, NG⟩ := hobt
  dsimp only [sS, sZ] at wM AQ
  refine zg (NG (by exact rfl) (by exact rfl)) ?_
  replace hO := wM.own
  refine za rfl (zn (zr (zm rfl (zm rfl (zm rfl ?_)))))
  obtain ⟨Dd, H⟩ := H
  obtain ⟨De, H⟩ := H
  refine zo (op_index Try.underlying70 ti9 rfl rfl Dd (ltn (AQ.neq hO 0 rfl) De) (AQ.psome hO 0 rfl Dd De)) (zs (oldStr 0 hO rfl AQ Dd De Try.underlying9 rfl rfl) ?_)
  have hle220 := Els.str_le AQ Dd De
  refine zm rfl ?_
  have hobt := omapUpd (MK.str Try.underlying9) 1 hO rfl Try.underlying69 (ix (d_170 ++ ([r193])) (k1_169 : Int)) (k1_169 : Int)
  obtain ⟨Uc, gr, FH⟩ := hobt
  dsimp only [sS, sZ] at gr
  refine zg (FH (by exact rfl) (by exact rfl) (by exact rfl)) ?_
  replace hO := gr.own
  refine zn ?_
  refine Go1.inBlock ?_
  refine zr ?_
  replace fW := ((fW.ch Z17).ch wM.ch).ch gr.ch
  refine zo (op_add rfl rfl (wrap_i64 (natbd xJ fW.bd))) (zm rfl (zn ?_))
  replace AQ := AQ.ch gr.ch
  replace hB := (hB.trans wM.fr).trans gr.fr
  have Z18 := (Z17.trans wM.ch).trans gr.ch
  replace g7 := g7.ch Z18
  replace g5 := g5.ch Z18
  replace f6 := f6.ch Z18
  replace fO := fO.ch Z18
  replace aJ := aJ.ch Z18
  exact hX1 _ H _ _ ⟨x9 + 1, V2, V3, R7, ⟨rfl, rfl, rfl, rfl, rfl, rfl, rfl, trivial⟩, hO, AQ, g7, g5, f6, fO, fW, aJ, hB⟩
 replace H := ifn xJ H
 refine zo (fun w => opB (op_lss rfl rfl w) (decide_eq_false xJ)) (zn (zq (zf rfl rfl ?_)))
 refine Go1.exit rfl ?_
 refine zq (zb ?_)
 refine Go1.loopW (S := Int × Int × List Str × (List (Str × Int)) × List Rule × List (List Int) × List Int × List Int × List (List Int)) (fun s σ w => match s with | (k2_225, k2_226, d_227, m2_233, d_234, d_240, d_246, d_252, d_258) => ∃ (yb : Nat), ∃ (yc : Option Addr), ∃ (yd : Nat), ∃ (qT : List Value), ∃ (ni : Nat), ∃ (lD : Option Addr), ∃ (lE : Nat), ∃ (wl : List Value), ∃ (gf : Nat), ∃ (gh : Option Addr), ∃ (gi : Nat), ∃ (kQ : List Value), ∃ (nj : Nat), ∃ (lF : Option Addr), ∃ (lG : Nat), ∃ (wm : List Value), ∃ (nk : Nat), ∃ (lH : Option Addr), ∃ (lI : Nat), ∃ (wn : List Value), ∃ (nm : Nat), ∃ (lJ : Option Addr), ∃ (lK : Nat), ∃ (wo : List Value), agrees σ [(1, .int .i64 k2_225), (4, .pointer (some ⟨B8, 0, none⟩)), (6, .pointer (some ⟨gS, 0, none⟩)), (7, .map (some B160)), (8, .slice yc yb yd)] ∧ (fun Z0 => Owns w0.heap.size w Z0 A ∧ Els (Rp.str) (bl Z0 ++ A) w qT d_227 ∧ Els (rpRule) (bl Z0 ++ A) w wl d_234 ∧ Els (Rp.sl (Rp.int .i64)) (bl Z0 ++ A) w kQ d_240 ∧ Els (Rp.int .i64) (bl Z0 ++ A) w wm d_246 ∧ Els (Rp.int .i64) (bl Z0 ++ A) w wn d_252 ∧ Els (Rp.sl (Rp.int .i64)) (bl Z0 ++ A) w wo d_258 ∧ ISl (Rp.sl (Rp.int .i64)) (bl Z0 ++ A) w bQ bS a0.Gens ∧ Fr (bl []) w0 (bl Z0) w) [.row 9 1 yc yb yd qT, .any (mapE (fun a : List UInt8 => Value.string (gstr a)) (fun a : Int => Value.int .i64 a) B160 m2_233), .blk gS (.cells #[.int .i64 a0.Points, .bool a0.Monoid, .slice bQ a0.Gens.length bS, .slice lJ nm lK, .slice lH nk lI, .slice lF nj lG, .slice gh gf gi, .slice lD ni lE, .int .i64 k2_226] 29 (0, 0)), .row 39 2 lD ni lE wl, .row 26 1 gh gf gi kQ, .row 3 1 lF nj lG wm, .row 3 1 lH nk lI wn, .row 26 1 lJ nm lK wo, .blk B8 (.cells #[.int .i64 (0 : Int), .bool false, .slice none 0 0, .slice none 0 0, .slice none 0 0, .slice none 0 0, .slice none 0 0, .slice none 0 0, .int .i64 (0 : Int)] 29 (0, 0))]) H ⟨x9, xH, xI, xv, 0 + a0.Rules.length, lP, lQ, um, 0 + a0.Right.length, mM, mO, uv, 0 + a0.Last.length, p83, c84, v4, 0 + a0.Prefix.length, p59, c60, uu, 0 + a0.Elems.length, p35, c36, rb, ⟨rfl, rfl, rfl, rfl, rfl, trivial⟩, hO, AO, g7, g5, f6, fO, fW, aJ, hB⟩ ?_
 intro X2
 refine prE fun k2_225 => prE fun k2_226 => prE fun d_227 => prE fun m2_233 => prE fun d_234 => prE fun d_240 => prE fun d_246 => prE fun d_252 => fun d_258 => ?_
 intro H hX2 σ V4
 refine exE fun yb => exE fun yc => exE fun yd => exE fun qT => exE fun ni => exE fun lD => exE fun lE => exE fun wl => exE fun gf => exE fun gh => exE fun gi => exE fun kQ => exE fun nj => exE fun lF => exE fun lG => exE fun wm => exE fun nk => exE fun lH => exE fun lI => exE fun wn => exE fun nm => exE fun lJ => exE fun lK => exE fun wo => andE fun hag => andE fun hO => andE fun kx => andE fun mv => andE fun cF => andE fun sF => andE fun ua => andE fun yS => andE fun aJ => fun hB => ?_
 dsimp only at H
 refine Go1.keep [(1, .int .i64 k2_225), (4, .pointer (some ⟨B8, 0, none⟩)), (6, .pointer (some ⟨gS, 0, none⟩)), (7, .map (some B160)), (8, .slice yc yb yd)] hag ?_
 refine zq (zq (zr (zm rfl ?_)))
 by_cases HD : (0 : Int) < k2_225
 ·replace H := ifp HD H
  refine zo (fun w => opB (op_gtr rfl rfl w) (decide_eq_true HD)) (zm rfl (zo (op_fieldAddr Try.underlying29 rfl ti3 rfl (by decide)) (zs (oblk (i := 8) 2 hO rfl rfl Try.underlying3 rfl rfl) (zo (op_fieldAddr Try.underlying29 rfl ti22 rfl (by decide)) (zs (oblk (i := 3) 2 hO rfl rfl Try.underlying22 rfl rfl) ?_)))))
  refine zo (op_lenN Try.underlying22 rfl (yS.neq hO 7 rfl)) ?_
  by_cases HE : k2_226 < (d_258.length : Int)
  ·replace H := ifp HE H
   refine zo (fun w => opB (op_lss rfl rfl w) (decide_eq_true HE)) (zo (op_pickT rfl rfl rfl) (zn (zt rfl rfl (zk (zq ?_)))))
   refine zb (zq (zr (za rfl (zn (zq ?_)))))
   refine zr (zm rfl (zo (op_fieldAddr Try.underlying29 rfl ti3 rfl (by decide)) (zs (oblk (i := 8) 2 hO rfl rfl Try.underlying3 rfl rfl) ?_)))
   obtain ⟨HF, H⟩ := H
   obtain ⟨HG, H⟩ := H
   refine zo (op_index Try.underlying70 ti9 rfl rfl HF (ltn (kx.neq hO 0 rfl) HG) (kx.psome hO 0 rfl HF HG)) (zs (oldStr 0 hO rfl kx HF HG Try.underlying9 rfl rfl) ?_)
   have hle268 := Els.str_le kx HF HG
   refine za rfl (zn (zq (zq (zr (zo (op_fieldAddr Try.underlying29 rfl ti22 rfl (by decide)) ?_)))))
   refine zs (oblk (i := 2) 2 hO rfl rfl Try.underlying22 rfl rfl) (zo (op_len Try.underlying22 rfl) ?_)
   replace H := H aJ.bd
   refine zm rfl (zn (zb ?_))
   have ye := Stp.nil (e := 3) (r := 1) hO
   replace hO := ye.own
   have R8 := Els.nil (Rp.int .i64) (bl (.row 3 1 none 0 0 [] :: [.row 9 1 yc yb yd qT, .any (mapE (fun a : List UInt8 => Value.string (gstr a)) (fun a : Int => Value.int .i64 a) B160 m2_233), .blk gS (.cells #[.int .i64 a0.Points, .bool a0.Monoid, .slice bQ a0.Gens.length bS, .slice lJ nm lK, .slice lH nk lI, .slice lF nj lG, .slice gh gf gi, .slice lD ni lE, .int .i64 k2_226] 29 (0, 0)), .row 39 2 lD ni lE wl, .row 26 1 gh gf gi kQ, .row 3 1 lF nj lG wm, .row 3 1 lH nk lI wn, .row 26 1 lJ nm lK wo, .blk B8 (.cells #[.int .i64 (0 : Int), .bool false, .slice none 0 0, .slice none 0 0, .slice none 0 0, .slice none 0 0, .slice none 0 0, .slice none 0 0, .int .i64 (0 : Int)] 29 (0, 0))]) ++ A) V4
   replace kx := kx.ch ye.ch
   replace mv := mv.ch ye.ch
   replace cF := cF.ch ye.ch
   replace sF := sF.ch ye.ch
   replace ua := ua.ch ye.ch
   replace yS := yS.ch ye.ch
   replace aJ := aJ.ch ye.ch
   replace hB := hB.trans ye.fr
   refine Go1.loopW (S := Nat × List Int × List Str × (List (Str × Int)) × List Rule × List Int × List Int × List (List Int)) (fun s σ w => match s with | (k3_273, d_274, d_280, m3_286, d_287, d_293, d_299, d_305) => ∃ (l8 : Nat), ∃ (ov : Option Addr), ∃ (ow : Nat), ∃ (rS : List Value), ∃ (mP : Nat), ∃ (np : Option Addr), ∃ (nq : Nat), ∃ (n7 : List Value), ∃ (iL : Nat), ∃ (jt : Option Addr), ∃ (ju : Nat), ∃ (me : List Value), ∃ (iM : Nat), ∃ (jb : Option Addr), ∃ (jv : Nat), ∃ (n9 : List Value), ∃ (iN : Nat), ∃ (ka : Option Addr), ∃ (kc : Nat), ∃ (o7 : List Value), ∃ (iH : Nat), ∃ (iY : Option Addr), ∃ (i4 : Nat), ∃ (qU : List Value), agrees σ [(1, .int .i64 k2_225), (4, .pointer (some ⟨B8, 0, none⟩)), (6, .pointer (some ⟨gS, 0, none⟩)), (7, .map (some B160)), (8, .slice np mP nq), (10, .slice ov l8 ow), (11, .string (gstr (ix d_227 k2_226))), (86, .int .i64 (a0.Gens.length : Int)), (87, .int .i64 (k3_273 : Int))] ∧ (fun Z0 => Owns w0.heap.size w Z0 A ∧ Els (Rp.int .i64) (bl Z0 ++ A) w rS d_274 ∧ Els (Rp.str) (bl Z0 ++ A) w n7 d_280 ∧ Els (rpRule) (bl Z0 ++ A) w me d_287 ∧ Els (Rp.sl (Rp.int .i64)) (bl Z0 ++ A) w kQ d_240 ∧ Els (Rp.int .i64) (bl Z0 ++ A) w n9 d_293 ∧ Els (Rp.int .i64) (bl Z0 ++ A) w o7 d_299 ∧ Els (Rp.sl (Rp.int .i64)) (bl Z0 ++ A) w qU d_305 ∧ ISl (Rp.sl (Rp.int .i64)) (bl Z0 ++ A) w bQ bS a0.Gens ∧ Fr (bl []) w0 (bl Z0) w) [.row 3 1 ov l8 ow rS, .row 9 1 np mP nq n7, .any (mapE (fun a : List UInt8 => Value.string (gstr a)) (fun a : Int => Value.int .i64 a) B160 m3_286), .blk gS (.cells #[.int .i64 a0.Points, .bool a0.Monoid, .slice bQ a0.Gens.length bS, .slice iY iH i4, .slice ka iN kc, .slice jb iM jv, .slice gh gf gi, .slice jt iL ju, .int .i64 k2_226] 29 (0, 0)), .row 39 2 jt iL ju me, .row 26 1 gh gf gi kQ, .row 3 1 jb iM jv n9, .row 3 1 ka iN kc o7, .row 26 1 iY iH i4 qU, .blk B8 (.cells #[.int .i64 (0 : Int), .bool false, .slice none 0 0, .slice none 0 0, .slice none 0 0, .slice none 0 0, .slice none 0 0, .slice none 0 0, .int .i64 (0 : Int)] 29 (0, 0))]) H ⟨0, none, 0, [], yb, yc, yd, qT, ni, lD, lE, wl, nj, lF, lG, wm, nk, lH, lI, wn, nm, lJ, lK, wo, ⟨rfl, rfl, rfl, rfl, rfl, rfl, rfl, rfl, rfl, trivial⟩, hO, R8, kx, mv, cF, sF, ua, yS, aJ, hB⟩ ?_
   intro X3
   refine prE fun k3_273 => prE fun d_274 => prE fun d_280 => prE fun m3_286 => prE fun d_287 => prE fun d_293 => prE fun d_299 => fun d_305 => ?_
   intro H hX3 σ M5
   refine exE fun l8 => exE fun ov => exE fun ow => exE fun rS => exE fun mP => exE fun np => exE fun nq => exE fun n7 => exE fun iL => exE fun jt => exE fun ju => exE fun me => exE fun iM => exE fun jb => exE fun jv => exE fun n9 => exE fun iN => exE fun ka => exE fun kc => exE fun o7 => exE fun iH => exE fun iY => exE fun i4 => exE fun qU => andE fun hag => andE fun hO => andE fun dr => andE fun cR => andE fun cz => andE fun cF => andE fun dJ => andE fun et => andE fun eM => andE fun aJ => fun hB => ?_
   dsimp only at H
   refine Go1.keep [(1, .int .i64 k2_225), (4, .pointer (some ⟨B8, 0, none⟩)), (6, .pointer (some ⟨gS, 0, none⟩)), (7, .map (some B160)), (8, .slice np mP nq), (10, .slice ov l8 ow), (11, .string (gstr (ix d_227 k2_226))), (86, .int .i64 (a0.Gens.length : Int)), (87, .int .i64 (k3_273 : Int))] hag ?_
   refine zq (zr ?_)
   by_cases Cj : (k3_273 : Int) < (a0.Gens.length : Int)
   ·replace H := ifp Cj H
    refine zo (fun w => opB (op_lss rfl rfl w) (decide_eq_true Cj)) (zn (zq (zt rfl rfl (zk (zq ?_)))))
    refine zb (zq (zr (zm rfl (za rfl (zn ?_)))))
    refine zq ?_
    refine Go1.drawS 0 [(0, .pure), (1, .stable), (2, .pure), (3, .stable), (4, .pure), (5, .stable), (6, .pure), (7, .stable), (8, .pure), (9, .pure), (10, .stable), (11, .loud), (12, .pure)] mixed (by kernel_rfl) ?_
    intro V5 HH
    have wN := Stp.same hO HH
    replace hO := wN.own
    refine GoQ.pure rfl (op_fieldAddr Try.underlying29 rfl ti22 rfl (by decide)) rfl rfl ?_
    refine GoQ.stable rfl (oblk (i := 3) 3 hO rfl rfl Try.underlying22 rfl rfl) rfl rfl ?_
    refine GoQ.pure rfl (op_fieldAddr Try.underlying29 rfl ti3 rfl (by decide)) rfl rfl ?_
    refine GoQ.stable rfl (oblk (i := 8) 3 hO rfl rfl Try.underlying3 rfl rfl) rfl rfl ?_
    obtain ⟨JE, H⟩ := H
    obtain ⟨JF, H⟩ := H
    replace eM := eM.ch wN.ch
    refine GoQ.pure rfl (op_index Try.underlying22 ti26 rfl rfl JE (ltn (eM.neq hO 8 rfl) JF) (eM.psome hO 8 rfl JE JF)) rfl rfl ?_
    have hobt := oldSl 8 hO rfl eM JE JF
    obtain ⟨aco, acp, dq, R9⟩ := hobt
    refine GoQ.stable rfl (R9 Try.underlying26 rfl rfl) rfl rfl ?_
    refine GoQ.pure rfl (op_fieldAddr Try.underlying29 rfl ti22 rfl (by decide)) rfl rfl ?_
    refine GoQ.stable rfl (oblk (i := 2) 3 hO rfl rfl Try.underlying22 rfl rfl) rfl rfl ?_
    refine GoQ.pure rfl (op_move rfl) rfl rfl ?_
    obtain ⟨JG, H⟩ := H
    obtain ⟨JH, H⟩ := H
    replace aJ := aJ.ch wN.ch
    refine GoQ.pure rfl (op_index Try.underlying22 ti26 rfl rfl JG JH (aJ.some_ JG JH)) rfl rfl ?_
    have hobt := ldSl aJ JG JH
    obtain ⟨acq, acr, cQ, Sa⟩ := hobt
    refine GoQ.stable rfl (Sa Try.underlying26 rfl rfl) rfl rfl ?_
    refine GoQ.call rfl (op_call body43 rfl (walk_ref11_Compose hO.lt dq cQ H)) (fun v w hr => by obtain ⟨_, _, _, _, hs, _, _⟩ := hr; assumption) rfl rfl ?_
    rintro VM K6 ⟨r327, rG, rH, rfl, Hx, cD, H⟩
    have g9 := Stp.same hO Hx
    replace hO := g9.own
    refine GoQ.pure rfl (op_assign rfl) rfl rfl ?_
    refine GoQ.nil ?_
    refine zq (zr (zo (op_fieldAddr Try.underlying29 rfl ti22 rfl (by decide)) (zs (oblk (i := 3) 3 hO rfl rfl Try.underlying22 rfl rfl) (zm rfl ?_))))
    replace eM := eM.ch g9.ch
    have hobt := rowlend 8 hO rfl eM
    obtain ⟨Sb, Sc⟩ := hobt
    have hOc335 := hO.drop 8
    refine GoR.call (op_call body41 (show ([.slice iY iH i4, .slice rG r327.length rH] : List Value) = [.slice iY d_305.length i4, .slice rG r327.length rH] from by rw [← Sc]) (walk_ref12_Find hOc335.lt Sb (cD.ch (Owns.dropCh _ _ 8)) H)) rfl rfl ?_
    rintro acs Vc ⟨r336, rfl, Sd, H⟩
    have iP := Stp.same hO Sd
    replace hO := iP.own
    refine za rfl (zn (zq ?_))
    refine Go1.cut [(1, .int .i64 k2_225), (4, .pointer (some ⟨B8, 0, none⟩)), (6, .pointer (some ⟨gS, 0, none⟩)), (7, .map (some B160)), (8, .slice np mP nq), (10, .slice ov l8 ow), (11, .string (gstr (ix d_227 k2_226))), (12, .int .i64 (k3_273 : Int)), (13, .slice rG r327.length rH), (14, .int .i64 r336), (86, .int .i64 (a0.Gens.length : Int)), (87, .int .i64 (k3_273 : Int))] ⟨rfl, rfl, rfl, rfl, rfl, rfl, rfl, rfl, rfl, rfl, rfl, rfl, trivial⟩ ?_
    intro σ _
    refine zr (zm rfl (zm rfl ?_))
    refine GoR.call (op_call body55 rfl (walk_ref12_letter hO.lt H)) rfl rfl ?_
    rintro act acu ⟨r342, rfl, Hf, W3, H⟩
    have tT := Stp.same hO Hf
    replace hO := tT.own
    obtain ⟨JI, H⟩ := H
    refine zo (op_addS rfl rfl JI) (za rfl (zn (zq (zq (zr ?_)))))
    refine zm rfl ?_
    by_cases EL : r336 < (0 : Int)
    ·replace H := ifp EL H
     refine zo (fun w => opB (op_lss rfl rfl w) (decide_eq_true EL)) (zn (zt rfl rfl (zq (zq (zr ?_)))))
     refine zo (op_fieldAddr Try.underlying29 rfl ti22 rfl (by decide)) (zs (oblk (i := 3) 3 hO rfl rfl Try.underlying22 rfl rfl) ?_)
     replace eM := (eM.ch iP.ch).ch tT.ch
     refine zo (op_lenN Try.underlying22 rfl (eM.neq hO 8 rfl)) ?_
     by_cases ET : (d_305.length : Int) = (2000 : Int)
     ·replace H := ifp ET H
      refine zo (fun w => opB (op_eql rfl rfl w) (decide_eq_true ET)) (zn (zt rfl rfl (zq (zr (zo (op_build Try.underlying29 ti29 (pl := [(0, 1), (1, 1), (2, 1), (3, 1), (4, 1), (5, 1), (6, 1), (7, 1), (8, 1)]) (vs := []) (cs := #[.int .i64 (0 : Int), .bool false, .slice none 0 0, .slice none 0 0, .slice none 0 0, .slice none 0 0, .slice none 0 0, .slice none 0 0, .int .i64 (0 : Int)]) (by kernel_rfl) rfl (by kernel_rfl)) ?_)))))
      have hobt := oblkStAgg (us := [.int .i64 (0 : Int), .bool false, .slice none 0 0, .slice none 0 0, .slice none 0 0, .slice none 0 0, .slice none 0 0, .slice none 0 0, .int .i64 (0 : Int)]) (o := 0) (cs' := #[.int .i64 (0 : Int), .bool false, .slice none 0 0, .slice none 0 0, .slice none 0 0, .slice none 0 0, .slice none 0 0, .slice none 0 0, .int .i64 (0 : Int)]) 9 hO rfl rfl (Nat.le_of_ble_eq_true rfl) rfl
      obtain ⟨Ve, sG, NH⟩ := hobt
      dsimp only [sS, sZ] at sG
      refine zg (NH ti29 (by exact rfl) (by exact rfl) rfl) ?_
      replace hO := sG.own
      refine za rfl (zn ?_)
      refine Go1.retC2 Try.func52 rfl rfl (run_loadBlk (vs := [.int .i64 (0 : Int), .bool false, .slice none 0 0, .slice none 0 0, .slice none 0 0, .slice none 0 0, .slice none 0 0, .slice none 0 0, .int .i64 (0 : Int)]) 9 hO rfl rfl Try.underlying29 rfl ti29) ?_
      replace hB := ((((hB.trans wN.fr).trans g9.fr).trans iP.fr).trans tT.fr).trans sG.fr
      exact ⟨(⟨(0 : Int), false, ([] : List (List Int)), ([] : List (List Int)), ([] : List Int), ([] : List Int), ([] : List (List Int)), ([] : List Rule), (0 : Int)⟩ : Enum), (3 : Int), none, 0, none, 0, none, 0, none, 0, none, 0, none, 0, rfl, hB.same, (ISl.null _ _ _), (ISl.null _ _ _), (ISl.null _ _ _), (ISl.null _ _ _), (ISl.null _ _ _), (ISl.null _ _ _), H⟩
     replace H := ifn ET H
     refine zo (fun w => opB (op_eql rfl rfl w) (decide_eq_false ET)) (zn (zf rfl rfl (zk (zq (zr ?_)))))
     refine zo (op_fieldAddr Try.underlying29 rfl ti22 rfl (by decide)) (zs (oblk (i := 3) 3 hO rfl rfl Try.underlying22 rfl rfl) (zo (op_lenN Try.underlying22 rfl (eM.neq hO 8 rfl)) (za rfl (zn (zq ?_)))))
     refine Go1.drawA (CSv.tr [(some ⟨gS, 3, none⟩), (some ⟨gS, 4, none⟩), (some ⟨gS, 8, none⟩), (some ⟨gS, 5, none⟩)]) A 1 [(0, .pure), (1, .stable), (2, .pure), (5, .pure), (6, .stable), (7, .pure), (8, .stable), (11, .pure), (12, .stable), (13, .pure), (3, .alloc), (4, .loud), (16, .pure), (9, .alloc), (10, .loud), (14, .alloc), (15, .loud), (17, .last), (18, .pure), (19, .last), (20, .pure), (21, .last)] mixed (by kernel_rfl) trivial hO.bd ?_
     intro VN Se
     have lz := Stp.same hO Se
     replace hO := lz.own
     have HI := hO.le
     replace hB := ((((hB.trans wN.fr).trans g9.fr).trans iP.fr).trans tT.fr).trans lz.fr
     have hw357 := hB.ch.size
     refine GoQA.pure rfl (op_fieldAddr Try.underlying29 rfl ti22 rfl (by decide)) rfl rfl ?_
     refine GoQA.stable rfl (loadV (.head _) rfl (blkCell 3 hO rfl rfl) Try.underlying22 rfl rfl) rfl rfl ?_
     refine GoQA.pure rfl (op_move rfl) rfl rfl ?_
     refine GoQA.pure rfl (op_fieldAddr Try.underlying29 rfl ti26 rfl (by decide)) rfl rfl ?_
     refine GoQA.stable rfl (loadV (.tail _ (.head _)) rfl (blkCell 3 hO rfl rfl) Try.underlying26 rfl rfl) rfl rfl ?_
     refine GoQA.pure rfl (op_fieldAddr Try.underlying29 rfl ti3 rfl (by decide)) rfl rfl ?_
     refine GoQA.stable rfl (loadV (.tail _ (.tail _ (.head _))) rfl (blkCell 3 hO rfl rfl) Try.underlying3 rfl rfl) rfl rfl ?_
     refine GoQA.pure rfl (op_fieldAddr Try.underlying29 rfl ti26 rfl (by decide)) rfl rfl ?_
     refine GoQA.stable rfl (loadV (.tail _ (.tail _ (.tail _ (.head _)))) rfl (blkCell 3 hO rfl rfl) Try.underlying26 rfl rfl) rfl rfl ?_
     refine GoQA.pure rfl (op_move rfl) rfl rfl ?_
     refine GoQA.alloc rfl rfl (alBuild (n := 1) (parts := [(0, .slice rG r327.length rH)]) (vs := [.slice rG r327.length rH]) Try.underlying22 ti26 (by decide) (by decide) (by decide) (by kernel_rfl) rfl rfl) ?_
     intro Hy A361 NI A363 wq Ku hd366 hnb367 hh368
     replace hO := wq.own hO
     have Z19 := ((iP.ch.trans tT.ch).trans lz.ch).trans (wq.ch _)
     replace cD := cD.ch Z19
     have EA : Els (Rp.sl (Rp.int .i64)) (bl [.row 3 1 ov l8 ow rS, .row 9 1 np mP nq n7, .any (mapE (fun a : List UInt8 => Value.string (gstr a)) (fun a : Int => Value.int .i64 a) B160 m3_286), .blk gS (.cells #[.int .i64 a0.Points, .bool a0.Monoid, .slice bQ a0.Gens.length bS, .slice iY iH i4, .slice ka iN kc, .slice jb iM jv, .slice gh gf gi, .slice jt iL ju, .int .i64 k2_226] 29 (0, 0)), .row 39 2 jt iL ju me, .row 26 1 gh gf gi kQ, .row 3 1 jb iM jv n9, .row 3 1 ka iN kc o7, .row 26 1 iY iH i4 qU, .blk B8 (.cells #[.int .i64 (0 : Int), .bool false, .slice none 0 0, .slice none 0 0, .slice none 0 0, .slice none 0 0, .slice none 0 0, .slice none 0 0, .int .i64 (0 : Int)] 29 (0, 0))] ++ A361) Hy [.slice rG r327.length rH] [r327] := (Els.cons rfl ⟨rG, rH, rfl, cD⟩ (Els.nil _ _ _) (by simp [mx]))
     have kN := gainCh (w := Hy) (E := [.row 3 1 ov l8 ow rS, .row 9 1 np mP nq n7, .any (mapE (fun a : List UInt8 => Value.string (gstr a)) (fun a : Int => Value.int .i64 a) B160 m3_286), .blk gS (.cells #[.int .i64 a0.Points, .bool a0.Monoid, .slice bQ a0.Gens.length bS, .slice iY iH i4, .slice ka iN kc, .slice jb iM jv, .slice gh gf gi, .slice jt iL ju, .int .i64 k2_226] 29 (0, 0)), .row 39 2 jt iL ju me, .row 26 1 gh gf gi kQ, .row 3 1 jb iM jv n9, .row 3 1 ka iN kc o7, .row 26 1 iY iH i4 qU, .blk B8 (.cells #[.int .i64 (0 : Int), .bool false, .slice none 0 0, .slice none 0 0, .slice none 0 0, .slice none 0 0, .slice none 0 0, .slice none 0 0, .int .i64 (0 : Int)] 29 (0, 0))]) (e := .row 26 1 (some ⟨NI, 0, none⟩) 1 1 [.slice rG r327.length rH]) Ku rfl
     replace hB := hB.trans (wq.same.fr _)
     replace hB := Fr.gain (e := .row 26 1 (some ⟨NI, 0, none⟩) 1 1 [.slice rG r327.length rH]) hB (Nat.le_trans hw357 hnb367) rfl
     replace hO := Owns.gain hO Ku HI rfl hh368 hd366
     refine GoQA.loudI rfl rfl ?_
     intro acv A372 vD
     replace hO := vD.own hO
     replace EA := (EA.ch kN).ch (vD.ch _)
     have hobt := freeze 0 hO rfl EA
     obtain ⟨hO1, xw, gm, Sf⟩ := hobt
     dsimp only [eS, eZ] at hO1 xw gm
     replace hB := (hB.trans (vD.same.fr _)).trans (Owns.dropFr _ _ 0)
     dsimp only [eS, eZ] at hB
     replace hO := hO1; clear hO1
     obtain ⟨V6, H⟩ := H
     have Z20 := (((lz.ch.trans (wq.ch _)).trans kN).trans (vD.ch _)).trans xw
     replace eM := eM.ch Z20
     have hobt := oapp Try.underlying22 ti26 rfl 8 hO rfl eM gm Sf V6 (by decide)
     obtain ⟨Vf, Ck, Cl, oE, oa, gq, NJ⟩ := hobt
     dsimp only [sS, sZ] at oa gq
     refine GoAt.step (NJ (by exact rfl) (by exact rfl)) (fun _ => (CSv.cons (cs_eq (blkCell 3 hO rfl rfl) (blkCell 3 oa.own rfl rfl)) (CSv.cons (cs_eq (blkCell 3 hO rfl rfl) (blkCell 3 oa.own rfl rfl)) (CSv.cons (cs_eq (blkCell 3 hO rfl rfl) (blkCell 3 oa.own rfl rfl)) (CSv.cons (cs_eq (blkCell 3 hO rfl rfl) (blkCell 3 oa.own rfl rfl)) (CSv.nil _ _)))))) (Stp.kp hO oa) rfl ?_
     replace hO := oa.own
     refine GoQA.pure rfl (op_fieldAddr Try.underlying29 rfl ti22 rfl (by decide)) rfl rfl ?_
     refine GoQA.alloc rfl rfl (alBuild (n := 1) (parts := [(0, .int .i64 k2_226)]) (vs := [.int .i64 k2_226]) Try.underlying26 ti3 (by decide) (by decide) (by decide) (by kernel_rfl) rfl rfl) ?_
     intro Jj A388 NK A390 vE Kv hd393 hnb394 hh395
     replace hO := vE.own hO
     have EB : Els (Rp.int .i64) (bl [.row 3 1 ov l8 ow rS, .row 9 1 np mP nq n7, .any (mapE (fun a : List UInt8 => Value.string (gstr a)) (fun a : Int => Value.int .i64 a) B160 m3_286), .blk gS (.cells #[.int .i64 a0.Points, .bool a0.Monoid, .slice bQ a0.Gens.length bS, .slice iY iH i4, .slice ka iN kc, .slice jb iM jv, .slice gh gf gi, .slice jt iL ju, .int .i64 k2_226] 29 (0, 0)), .row 39 2 jt iL ju me, .row 26 1 gh gf gi kQ, .row 3 1 jb iM jv n9, .row 3 1 ka iN kc o7, .row 26 1 Ck (iH + 1) Cl oE, .blk B8 (.cells #[.int .i64 (0 : Int), .bool false, .slice none 0 0, .slice none 0 0, .slice none 0 0, .slice none 0 0, .slice none 0 0, .slice none 0 0, .int .i64 (0 : Int)] 29 (0, 0))] ++ A388) Jj [.int .i64 k2_226] [k2_226] := (Els.cons rfl rfl (Els.nil _ _ _) (by simp [mx]))
     have wr := gainCh (w := Jj) (E := [.row 3 1 ov l8 ow rS, .row 9 1 np mP nq n7, .any (mapE (fun a : List UInt8 => Value.string (gstr a)) (fun a : Int => Value.int .i64 a) B160 m3_286), .blk gS (.cells #[.int .i64 a0.Points, .bool a0.Monoid, .slice bQ a0.Gens.length bS, .slice iY iH i4, .slice ka iN kc, .slice jb iM jv, .slice gh gf gi, .slice jt iL ju, .int .i64 k2_226] 29 (0, 0)), .row 39 2 jt iL ju me, .row 26 1 gh gf gi kQ, .row 3 1 jb iM jv n9, .row 3 1 ka iN kc o7, .row 26 1 Ck (iH + 1) Cl oE, .blk B8 (.cells #[.int .i64 (0 : Int), .bool false, .slice none 0 0, .slice none 0 0, .slice none 0 0, .slice none 0 0, .slice none 0 0, .slice none 0 0, .int .i64 (0 : Int)] 29 (0, 0))]) (e := .row 3 1 (some ⟨NK, 0, none⟩) 1 1 [.int .i64 k2_226]) Kv rfl
     replace hB := (hB.trans oa.fr).trans (vE.same.fr _)
     replace hB := Fr.gain (e := .row 3 1 (some ⟨NK, 0, none⟩) 1 1 [.int .i64 k2_226]) hB (Nat.le_trans hw357 hnb394) rfl
     replace hO := Owns.gain hO Kv HI rfl hh395 hd393
     refine GoQA.loudI rfl rfl ?_
     intro Uo A399 uw
     replace hO := uw.own hO
     replace EB := (EB.ch wr).ch (uw.ch _)
     have hobt := freeze 0 hO rfl EB
     obtain ⟨hO1, ws, gW, Sh⟩ := hobt
     dsimp only [eS, eZ] at hO1 ws gW
     replace hB := (hB.trans (uw.same.fr _)).trans (Owns.dropFr _ _ 0)
     dsimp only [eS, eZ] at hB
     replace hO := hO1; clear hO1
     obtain ⟨V7, H⟩ := H
     have Z21 := ((((((((((((wN.ch.trans g9.ch).trans iP.ch).trans tT.ch).trans lz.ch).trans (wq.ch _)).trans kN).trans (vD.ch _)).trans xw).trans oa.ch).trans (vE.ch _)).trans wr).trans (uw.ch _)).trans ws
     replace et := et.ch Z21
     have hobt := oapp Try.underlying26 ti3 rfl 7 hO rfl et gW Sh V7 (by decide)
     obtain ⟨acw, E7, E8, HJ, mW, g8, FY⟩ := hobt
     dsimp only [sS, sZ] at mW g8
     refine GoAt.step (FY (by exact rfl) (by exact rfl)) (fun _ => (CSv.cons (cs_eq (blkCell 3 hO rfl rfl) (blkCell 3 mW.own rfl rfl)) (CSv.cons (cs_eq (blkCell 3 hO rfl rfl) (blkCell 3 mW.own rfl rfl)) (CSv.cons (cs_eq (blkCell 3 hO rfl rfl) (blkCell 3 mW.own rfl rfl)) (CSv.cons (cs_eq (blkCell 3 hO rfl rfl) (blkCell 3 mW.own rfl rfl)) (CSv.nil _ _)))))) (Stp.kp hO mW) rfl ?_
     replace hO := mW.own
     refine GoQA.alloc rfl rfl (alBuild (n := 1) (parts := [(0, .int .i64 (k3_273 : Int))]) (vs := [.int .i64 (k3_273 : Int)]) Try.underlying26 ti3 (by decide) (by decide) (by decide) (by kernel_rfl) rfl rfl) ?_
     intro NL A415 NM A417 ux Kw hd420 hnb421 hh422
     replace hO := ux.own hO
     have EC : Els (Rp.int .i64) (bl [.row 3 1 ov l8 ow rS, .row 9 1 np mP nq n7, .any (mapE (fun a : List UInt8 => Value.string (gstr a)) (fun a : Int => Value.int .i64 a) B160 m3_286), .blk gS (.cells #[.int .i64 a0.Points, .bool a0.Monoid, .slice bQ a0.Gens.length bS, .slice iY iH i4, .slice ka iN kc, .slice jb iM jv, .slice gh gf gi, .slice jt iL ju, .int .i64 k2_226] 29 (0, 0)), .row 39 2 jt iL ju me, .row 26 1 gh gf gi kQ, .row 3 1 jb iM jv n9, .row 3 1 E7 (iN + 1) E8 HJ, .row 26 1 Ck (iH + 1) Cl oE, .blk B8 (.cells #[.int .i64 (0 : Int), .bool false, .slice none 0 0, .slice none 0 0, .slice none 0 0, .slice none 0 0, .slice none 0 0, .slice none 0 0, .int .i64 (0 : Int)] 29 (0, 0))] ++ A415) NL [.int .i64 (k3_273 : Int)] [(k3_273 : Int)] := (Els.cons rfl rfl (Els.nil _ _ _) (by simp [mx]))
     have vF := gainCh (w := NL) (E := [.row 3 1 ov l8 ow rS, .row 9 1 np mP nq n7, .any (mapE (fun a : List UInt8 => Value.string (gstr a)) (fun a : Int => Value.int .i64 a) B160 m3_286), .blk gS (.cells #[.int .i64 a0.Points, .bool a0.Monoid, .slice bQ a0.Gens.length bS, .slice iY iH i4, .slice ka iN kc, .slice jb iM jv, .slice gh gf gi, .slice jt iL ju, .int .i64 k2_226] 29 (0, 0)), .row 39 2 jt iL ju me, .row 26 1 gh gf gi kQ, .row 3 1 jb iM jv n9, .row 3 1 E7 (iN + 1) E8 HJ, .row 26 1 Ck (iH + 1) Cl oE, .blk B8 (.cells #[.int .i64 (0 : Int), .bool false, .slice none 0 0, .slice none 0 0, .slice none 0 0, .slice none 0 0, .slice none 0 0, .slice none 0 0, .int .i64 (0 : Int)] 29 (0, 0))]) (e := .row 3 1 (some ⟨NM, 0, none⟩) 1 1 [.int .i64 (k3_273 : Int)]) Kw rfl
     replace hB := (hB.trans mW.fr).trans (ux.same.fr _)
     replace hB := Fr.gain (e := .row 3 1 (some ⟨NM, 0, none⟩) 1 1 [.int .i64 (k3_273 : Int)]) hB (Nat.le_trans hw357 hnb421) rfl
     replace hO := Owns.gain hO Kw HI rfl hh422 hd420
     refine GoQA.loudI rfl rfl ?_
     intro acx A426 sY
     replace hO := sY.own hO
     replace EC := (EC.ch vF).ch (sY.ch _)
     have hobt := freeze 0 hO rfl EC
     obtain ⟨hO1, vG, jy, Si⟩ := hobt
     dsimp only [eS, eZ] at hO1 vG jy
     replace hB := (hB.trans (sY.same.fr _)).trans (Owns.dropFr _ _ 0)
     dsimp only [eS, eZ] at hB
     replace hO := hO1; clear hO1
     obtain ⟨V8, H⟩ := H
     have Z22 := ((((Z21.trans mW.ch).trans (ux.ch _)).trans vF).trans (sY.ch _)).trans vG
     replace dJ := dJ.ch Z22
     have hobt := oapp Try.underlying26 ti3 rfl 6 hO rfl dJ jy Si V8 (by decide)
     obtain ⟨acy, JJ, JK, Sj, gG, jw, NN⟩ := hobt
     dsimp only [sS, sZ] at gG jw
     refine GoAt.step (NN (by exact rfl) (by exact rfl)) (fun _ => (CSv.cons (cs_eq (blkCell 3 hO rfl rfl) (blkCell 3 gG.own rfl rfl)) (CSv.cons (cs_eq (blkCell 3 hO rfl rfl) (blkCell 3 gG.own rfl rfl)) (CSv.cons (cs_eq (blkCell 3 hO rfl rfl) (blkCell 3 gG.own rfl rfl)) (CSv.cons (cs_eq (blkCell 3 hO rfl rfl) (blkCell 3 gG.own rfl rfl)) (CSv.nil _ _)))))) (Stp.kp hO gG) rfl ?_
     replace hO := gG.own
     refine GoQA.lastI rfl rfl ?_
     intro acz A441 ta
     replace hO := ta.own hO
     have hobt := oblkSt2 (v := .slice Ck (iH + 1) Cl) (i := 3) (cs' := #[.int .i64 a0.Points, .bool a0.Monoid, .slice bQ a0.Gens.length bS, .slice Ck (iH + 1) Cl, .slice ka iN kc, .slice jb iM jv, .slice gh gf gi, .slice jt iL ju, .int .i64 k2_226]) 3 hO rfl rfl rfl rfl
     obtain ⟨acA, oR, NO⟩ := hobt
     dsimp only [sS, sZ] at oR
     refine GoAt.step (NO Try.underlying22 rfl ti22 (by exact rfl) (by exact rfl)) (fun h => nomatch h) (Stp.kp hO oR) rfl ?_
     replace hO := oR.own
     refine GoQA.pure rfl (op_fieldAddr Try.underlying29 rfl ti26 rfl (by decide)) rfl rfl ?_
     refine GoQA.lastI rfl rfl ?_
     intro acB A447 tc
     replace hO := tc.own hO
     have hobt := oblkSt2 (v := .slice E7 (iN + 1) E8) (i := 4) (cs' := #[.int .i64 a0.Points, .bool a0.Monoid, .slice bQ a0.Gens.length bS, .slice Ck (iH + 1) Cl, .slice E7 (iN + 1) E8, .slice jb iM jv, .slice gh gf gi, .slice jt iL ju, .int .i64 k2_226]) 3 hO rfl rfl rfl rfl
     obtain ⟨acC, oS, F2⟩ := hobt
     dsimp only [sS, sZ] at oS
     refine GoAt.step (F2 Try.underlying26 rfl ti26 (by exact rfl) (by exact rfl)) (fun h => nomatch h) (Stp.kp hO oS) rfl ?_
     replace hO := oS.own
     refine GoQA.pure rfl (op_fieldAddr Try.underlying29 rfl ti26 rfl (by decide)) rfl rfl ?_
     refine GoQA.lastI rfl rfl ?_
     intro acD A453 te
     replace hO := te.own hO
     have hobt := oblkSt2 (v := .slice JJ (iM + 1) JK) (i := 5) (cs' := #[.int .i64 a0.Points, .bool a0.Monoid, .slice bQ a0.Gens.length bS, .slice Ck (iH + 1) Cl, .slice E7 (iN + 1) E8, .slice JJ (iM + 1) JK, .slice gh gf gi, .slice jt iL ju, .int .i64 k2_226]) 3 hO rfl rfl rfl rfl
     obtain ⟨Uu, oT, NP⟩ := hobt
     dsimp only [sS, sZ] at oT
     refine GoAt.step (NP Try.underlying26 rfl ti26 (by exact rfl) (by exact rfl)) (fun h => nomatch h) (Stp.kp hO oT) rfl ?_
     replace hO := oT.own
     refine GoQA.nil ?_
     intro VP A459 tf uy
     replace hO := tf.own hO
     replace hO := hO.permA uy
     refine zq ?_
     refine Go1.cut [(1, .int .i64 k2_225), (4, .pointer (some ⟨B8, 0, none⟩)), (6, .pointer (some ⟨gS, 0, none⟩)), (7, .map (some B160)), (8, .slice np mP nq), (10, .slice ov l8 ow), (11, .string (gstr (ix d_227 k2_226))), (14, .int .i64 (d_305.length : Int)), (15, .string (gstr ((ix d_227 k2_226) ++ r342))), (86, .int .i64 (a0.Gens.length : Int)), (87, .int .i64 (k3_273 : Int))] ⟨rfl, rfl, rfl, rfl, rfl, rfl, rfl, rfl, rfl, rfl, rfl, trivial⟩ ?_
     intro σ _
     refine zr (zm rfl (zm rfl ?_))
     have hobt := obuild (r := Rp.str) (n := 1) (parts := [(0, .string (gstr ((ix d_227 k2_226) ++ r342)))]) (vs := [.string (gstr ((ix d_227 k2_226) ++ r342))]) (xs := [(ix d_227 k2_226) ++ r342]) rfl Try.underlying70 ti9 hO (by decide) (by kernel_rfl) (Els.cons rfl ⟨rfl, (lenApp JI)⟩ (Els.nil _ _ _) (by simp [mx])) rfl
     obtain ⟨acE, acF, jU, Sk, XN, NQ⟩ := hobt
     refine zg (NQ rfl) ?_
     replace hO := jU.own
     have hobt := freeze 0 hO rfl Sk
     obtain ⟨hO1, uz, xx, Sl⟩ := hobt
     dsimp only [eS, eZ] at hO1 uz xx
     replace hB := (((((((((hB.trans gG.fr).trans (ta.same.fr _)).trans oR.fr).trans (tc.same.fr _)).trans oS.fr).trans (te.same.fr _)).trans oT.fr).trans (tf.same.fr _)).trans jU.fr).trans (Owns.dropFr _ _ 0)
     dsimp only [eS, eZ] at hB
     replace hO := hO1; clear hO1
     obtain ⟨V9, H⟩ := H
     have Z23 := ((((((((((Z22.trans gG.ch).trans (ta.ch _)).trans oR.ch).trans (tc.ch _)).trans oS.ch).trans (te.ch _)).trans oT.ch).trans (tf.ch _)).trans (permCh uy _)).trans jU.ch).trans uz
     replace cR := cR.ch Z23
     have hobt := oapp Try.underlying70 ti9 rfl 1 hO rfl cR xx Sl V9 (by decide)
     obtain ⟨acG, Wa, Wb, Sm, jz, wW, NR⟩ := hobt
     dsimp only [sS, sZ] at jz wW
     refine zg (NR (by exact rfl) (by exact rfl)) ?_
     replace hO := jz.own
     refine za rfl (zn (zr (zm rfl (zm rfl (zm rfl ?_)))))
     have hobt := omapUpd (MK.str Try.underlying9) 2 hO rfl Try.underlying69 ((ix d_227 k2_226) ++ r342) (d_305.length : Int)
     obtain ⟨acH, oU, F3⟩ := hobt
     dsimp only [sS, sZ] at oU
     refine zg (F3 (by exact rfl) (by exact rfl) (by exact rfl)) ?_
     replace hO := oU.own
     refine zn (zr (zm rfl (zm rfl ?_)))
     have hobt := obuild (r := Rp.int .i64) (n := 1) (parts := [(0, .int .i64 (d_305.length : Int))]) (vs := [.int .i64 (d_305.length : Int)]) (xs := [(d_305.length : Int)]) rfl Try.underlying26 ti3 hO (by decide) (by kernel_rfl) (Els.cons rfl rfl (Els.nil _ _ _) (by simp [mx])) rfl
     obtain ⟨acI, acJ, iF, Fo, XO, NS⟩ := hobt
     refine zg (NS rfl) ?_
     replace hO := iF.own
     have hobt := freeze 0 hO rfl Fo
     obtain ⟨hO1, tg, Fs, Sn⟩ := hobt
     dsimp only [eS, eZ] at hO1 tg Fs
     replace hB := (((hB.trans jz.fr).trans oU.fr).trans iF.fr).trans (Owns.dropFr _ _ 0)
     dsimp only [eS, eZ] at hB
     replace hO := hO1; clear hO1
     obtain ⟨Wc, H⟩ := H
     have Z24 := (((Z23.trans jz.ch).trans oU.ch).trans iF.ch).trans tg
     replace dr := dr.ch Z24
     have hobt := oapp Try.underlying26 ti3 rfl 0 hO rfl dr Fs Sn Wc (by decide)
     obtain ⟨acK, Wd, We, So, oV, Kx, NT⟩ := hobt
     dsimp only [sS, sZ] at oV Kx
     refine zg (NT (by exact rfl) (by exact rfl)) ?_
     replace hO := oV.own
     refine za rfl (zn ?_)
     refine Go1.inBlock ?_
     refine zr ?_
     have Z25 := ((((((((((((((((((((((((((((((((g9.ch.trans iP.ch).trans tT.ch).trans lz.ch).trans (wq.ch _)).trans kN).trans (vD.ch _)).trans xw).trans oa.ch).trans (vE.ch _)).trans wr).trans (uw.ch _)).trans ws).trans mW.ch).trans (ux.ch _)).trans vF).trans (sY.ch _)).trans vG).trans gG.ch).trans (ta.ch _)).trans oR.ch).trans (tc.ch _)).trans oS.ch).trans (te.ch _)).trans oT.ch).trans (tf.ch _)).trans (permCh uy _)).trans jU.ch).trans uz).trans jz.ch).trans oU.ch).trans iF.ch).trans tg).trans oV.ch
     replace aJ := aJ.ch Z25
     refine zo (op_add rfl rfl (wrap_i64 (natbd Cj aJ.bd))) (zm rfl (zn ?_))
     replace hB := hB.trans oV.fr
     have Z26 := ((oU.ch.trans iF.ch).trans tg).trans oV.ch
     replace wW := wW.ch Z26
     have Z27 := ((((((((((((((ta.ch _).trans oR.ch).trans (tc.ch _)).trans oS.ch).trans (te.ch _)).trans oT.ch).trans (tf.ch _)).trans (permCh uy _)).trans jU.ch).trans uz).trans jz.ch).trans oU.ch).trans iF.ch).trans tg).trans oV.ch
     replace jw := jw.ch Z27
     have Z28 := (((((((((((((((((((ux.ch _).trans vF).trans (sY.ch _)).trans vG).trans gG.ch).trans (ta.ch _)).trans oR.ch).trans (tc.ch _)).trans oS.ch).trans (te.ch _)).trans oT.ch).trans (tf.ch _)).trans (permCh uy _)).trans jU.ch).trans uz).trans jz.ch).trans oU.ch).trans iF.ch).trans tg).trans oV.ch
     replace g8 := g8.ch Z28
     have Z29 := ((((((((((((((((((((((((vE.ch _).trans wr).trans (uw.ch _)).trans ws).trans mW.ch).trans (ux.ch _)).trans vF).trans (sY.ch _)).trans vG).trans gG.ch).trans (ta.ch _)).trans oR.ch).trans (tc.ch _)).trans oS.ch).trans (te.ch _)).trans oT.ch).trans (tf.ch _)).trans (permCh uy _)).trans jU.ch).trans uz).trans jz.ch).trans oU.ch).trans iF.ch).trans tg).trans oV.ch
     replace gq := gq.ch Z29
     have Z30 := Z24.trans oV.ch
     replace cz := cz.ch Z30
     replace cF := cF.ch Z30
     exact hX3 _ H _ _ ⟨l8 + 1, Wd, We, So, mP + 1, Wa, Wb, Sm, iL, jt, ju, me, iM + 1, JJ, JK, Sj, iN + 1, E7, E8, HJ, iH + 1, Ck, Cl, oE, ⟨rfl, rfl, rfl, rfl, rfl, rfl, rfl, rfl, rfl, trivial⟩, hO, Kx, wW, cz, cF, jw, g8, gq, aJ, hB⟩
    replace H := ifn EL H
    refine zo (fun w => opB (op_lss rfl rfl w) (decide_eq_false EL)) (zn (zf rfl rfl (zq (zr (zm rfl ?_)))))
    by_cases HK : (ix d_227 k2_226) = (([] : Str))
    ·replace H := ifp HK H
     refine zo (fun w => opB (op_neqS rfl rfl w) (ndT HK)) (zm rfl (zp (zp (zp (zp ?_)))))
     refine zp (zp (zo (op_pickF rfl rfl rfl) (zn (zf rfl rfl (zk ?_)))))
     refine Go1.cut [(1, .int .i64 k2_225), (4, .pointer (some ⟨B8, 0, none⟩)), (6, .pointer (some ⟨gS, 0, none⟩)), (7, .map (some B160)), (8, .slice np mP nq), (10, .slice ov l8 ow), (11, .string (gstr (ix d_227 k2_226))), (14, .int .i64 r336), (86, .int .i64 (a0.Gens.length : Int)), (87, .int .i64 (k3_273 : Int))] ⟨rfl, rfl, rfl, rfl, rfl, rfl, rfl, rfl, rfl, rfl, trivial⟩ ?_
     intro σ _
     refine zr (zm rfl (zm rfl ?_))
     have hobt := obuild (r := Rp.int .i64) (n := 1) (parts := [(0, .int .i64 r336)]) (vs := [.int .i64 r336]) (xs := [r336]) rfl Try.underlying26 ti3 hO (by decide) (by kernel_rfl) (Els.cons rfl rfl (Els.nil _ _ _) (by simp [mx])) rfl
     obtain ⟨acL, acM, tU, Sp, XP, NU⟩ := hobt
     refine zg (NU rfl) ?_
     replace hO := tU.own
     have hobt := freeze 0 hO rfl Sp
     obtain ⟨hO1, xz, Ft, Sq⟩ := hobt
     dsimp only [eS, eZ] at hO1 xz Ft
     replace hB := (((((hB.trans wN.fr).trans g9.fr).trans iP.fr).trans tT.fr).trans tU.fr).trans (Owns.dropFr _ _ 0)
     dsimp only [eS, eZ] at hB
     replace hO := hO1; clear hO1
     obtain ⟨Wf, H⟩ := H
     have Z31 := ((((wN.ch.trans g9.ch).trans iP.ch).trans tT.ch).trans tU.ch).trans xz
     replace dr := dr.ch Z31
     have hobt := oapp Try.underlying26 ti3 rfl 0 hO rfl dr Ft Sq Wf (by decide)
     obtain ⟨acN, Wg, Wh, Sr, sH, Ky, FO⟩ := hobt
     dsimp only [sS, sZ] at sH Ky
     refine zg (FO (by exact rfl) (by exact rfl)) ?_
     replace hO := sH.own
     refine za rfl (zn ?_)
     refine Go1.inBlock ?_
     refine zr ?_
     have Z32 := ((((g9.ch.trans iP.ch).trans tT.ch).trans tU.ch).trans xz).trans sH.ch
     replace aJ := aJ.ch Z32
     refine zo (op_add rfl rfl (wrap_i64 (natbd Cj aJ.bd))) (zm rfl (zn ?_))
     replace hB := hB.trans sH.fr
     have Z33 := (((iP.ch.trans tT.ch).trans tU.ch).trans xz).trans sH.ch
     replace eM := eM.ch Z33
     have Z34 := Z31.trans sH.ch
     replace cR := cR.ch Z34
     replace cz := cz.ch Z34
     replace cF := cF.ch Z34
     replace dJ := dJ.ch Z34
     replace et := et.ch Z34
     exact hX3 _ H _ _ ⟨l8 + 1, Wg, Wh, Sr, mP, np, nq, n7, iL, jt, ju, me, iM, jb, jv, n9, iN, ka, kc, o7, iH, iY, i4, qU, ⟨rfl, rfl, rfl, rfl, rfl, rfl, rfl, rfl, rfl, trivial⟩, hO, Ky, cR, cz, cF, dJ, et, eM, aJ, hB⟩
    replace H := ifn HK H
    refine zo (fun w => opB (op_neqS rfl rfl w) (ndF HK)) (zm rfl (zm rfl (zm rfl ?_)))
    obtain ⟨HL, H⟩ := H
    obtain ⟨HM, H⟩ := H
    have Z35 := ((wN.ch.trans g9.ch).trans iP.ch).trans tT.ch
    replace cR := cR.ch Z35
    refine zo (op_index Try.underlying70 ti9 rfl rfl HL (ltn (cR.neq hO 1 rfl) HM) (cR.psome hO 1 rfl HL HM)) (zs (oldStr 1 hO rfl cR HL HM Try.underlying9 rfl rfl) ?_)
    have hle525 := Els.str_le cR HL HM
    refine zm rfl ?_
    by_cases HN : (ix d_280 r336) = ((ix d_227 k2_226) ++ r342)
    ·replace H := ifp HN H
     refine zo (fun w => opB (op_neqS rfl rfl w) (ndT HN)) (zo (op_pickT rfl rfl rfl) (zn (zf rfl rfl (zk (zr ?_)))))
     refine zm rfl (zm rfl ?_)
     have hobt := obuild (r := Rp.int .i64) (n := 1) (parts := [(0, .int .i64 r336)]) (vs := [.int .i64 r336]) (xs := [r336]) rfl Try.underlying26 ti3 hO (by decide) (by kernel_rfl) (Els.cons rfl rfl (Els.nil _ _ _) (by simp [mx])) rfl
     obtain ⟨acO, acP, tV, Ce, XQ, NV⟩ := hobt
     refine zg (NV rfl) ?_
     replace hO := tV.own
     have hobt := freeze 0 hO rfl Ce
     obtain ⟨hO1, xA, Fu, Ss⟩ := hobt
     dsimp only [eS, eZ] at hO1 xA Fu
     replace hB := (((((hB.trans wN.fr).trans g9.fr).trans iP.fr).trans tT.fr).trans tV.fr).trans (Owns.dropFr _ _ 0)
     dsimp only [eS, eZ] at hB
     replace hO := hO1; clear hO1
     obtain ⟨Wi, H⟩ := H
     replace dr := ((dr.ch Z35).ch tV.ch).ch xA
     have hobt := oapp Try.underlying26 ti3 rfl 0 hO rfl dr Fu Ss Wi (by decide)
     obtain ⟨IL, NW, NX, St, iT, Dn, NY⟩ := hobt
     dsimp only [sS, sZ] at iT Dn
     refine zg (NY (by exact rfl) (by exact rfl)) ?_
     replace hO := iT.own
     refine za rfl (zn ?_)
     refine Go1.inBlock ?_
     refine Go1.cut [(1, .int .i64 k2_225), (4, .pointer (some ⟨B8, 0, none⟩)), (6, .pointer (some ⟨gS, 0, none⟩)), (7, .map (some B160)), (8, .slice np mP nq), (10, .slice NW (l8 + 1) NX), (11, .string (gstr (ix d_227 k2_226))), (86, .int .i64 (a0.Gens.length : Int)), (87, .int .i64 (k3_273 : Int))] ⟨rfl, rfl, rfl, rfl, rfl, rfl, rfl, rfl, rfl, trivial⟩ ?_
     intro σ _
     refine zr ?_
     have Z36 := ((((g9.ch.trans iP.ch).trans tT.ch).trans tV.ch).trans xA).trans iT.ch
     replace aJ := aJ.ch Z36
     refine zo (op_add rfl rfl (wrap_i64 (natbd Cj aJ.bd))) (zm rfl (zn ?_))
     replace hB := hB.trans iT.fr
     have Z37 := (tV.ch.trans xA).trans iT.ch
     replace cR := cR.ch Z37
     have Z38 := (((iP.ch.trans tT.ch).trans tV.ch).trans xA).trans iT.ch
     replace eM := eM.ch Z38
     have Z39 := ((Z35.trans tV.ch).trans xA).trans iT.ch
     replace cz := cz.ch Z39
     replace cF := cF.ch Z39
     replace dJ := dJ.ch Z39
     replace et := et.ch Z39
     exact hX3 _ H _ _ ⟨l8 + 1, NW, NX, St, mP, np, nq, n7, iL, jt, ju, me, iM, jb, jv, n9, iN, ka, kc, o7, iH, iY, i4, qU, ⟨rfl, rfl, rfl, rfl, rfl, rfl, rfl, rfl, rfl, trivial⟩, hO, Dn, cR, cz, cF, dJ, et, eM, aJ, hB⟩
    replace H := ifn HN H
    refine zo (fun w => opB (op_neqS rfl rfl w) (ndF HN)) (zo (op_pickT rfl rfl rfl) (zn (zt rfl rfl (zq (zr ?_)))))
    refine zm rfl (zm rfl ?_)
    obtain ⟨Wj, H⟩ := H
    obtain ⟨Wk, H⟩ := H
    refine zo (op_sliceS Try.underlying9 rfl rfl Wj Wk) ?_
    by_cases HO : mhas m3_286 ((((ix d_227 k2_226) ++ r342).drop (1 : Int).toNat)) = true
    ·replace H := ifp HO H
     refine zs (olookT (a := (((ix d_227 k2_226) ++ r342).drop (1 : Int).toNat)) (MK.str Try.underlying9) 2 hO rfl Try.underlying69 rfl rfl HO) (zm rfl (zo (op_extract rfl rfl) (zo (op_extract rfl rfl) (za rfl (za rfl ?_)))))
     refine zn (zq (zr (zm rfl (zn (zt rfl rfl ?_)))))
     refine Go1.drawS 3 [(0, .pure), (1, .stable), (2, .pure), (3, .pure), (4, .pure), (5, .pure), (6, .stable), (7, .pure), (8, .loud), (9, .last), (10, .pure), (11, .last)] mixed (by kernel_rfl) ?_
     intro acQ Su
     have tW := Stp.same hO Su
     replace hO := tW.own
     refine GoQ.pure rfl (op_fieldAddr Try.underlying29 rfl ti27 rfl (by decide)) rfl rfl ?_
     refine GoQ.stable rfl (oblk (i := 7) 3 hO rfl rfl Try.underlying27 rfl rfl) rfl rfl ?_
     refine GoQ.pure rfl (op_move rfl) rfl rfl ?_
     refine GoQ.pure rfl (op_move rfl) rfl rfl ?_
     refine GoQ.pure rfl (op_move rfl) rfl rfl ?_
     obtain ⟨HP, H⟩ := H
     obtain ⟨HQ, H⟩ := H
     replace cR := cR.ch tW.ch
     refine GoQ.pure rfl (op_index Try.underlying70 ti9 rfl rfl HP (ltn (cR.neq hO 1 rfl) HQ) (cR.psome hO 1 rfl HP HQ)) rfl rfl ?_
     refine GoQ.stable rfl (oldStr 1 hO rfl cR HP HQ Try.underlying9 rfl rfl) rfl rfl ?_
     have hle554 := Els.str_le cR HP HQ
     refine GoQ.pure rfl (op_build Try.underlying39 ti39 (pl := [(0, 1), (1, 1)]) (vs := [(0, .string (gstr ((ix d_227 k2_226) ++ r342))), (1, .string (gstr (ix d_280 r336)))]) (cs := #[.string (gstr ((ix d_227 k2_226) ++ r342)), .string (gstr (ix d_280 r336))]) (by kernel_rfl) rfl (by kernel_rfl)) rfl rfl ?_
     have hobt := obuildN (r := rpRule) (n := 1) (parts := [(0, .agg #[.string (gstr ((ix d_227 k2_226) ++ r342)), .string (gstr (ix d_280 r336))])]) (vs := [.string (gstr ((ix d_227 k2_226) ++ r342)), .string (gstr (ix d_280 r336))]) (xs := [(⟨(ix d_227 k2_226) ++ r342, ix d_280 r336⟩ : Rule)]) Try.underlying27 ti39 hO (by decide) (by decide) (by kernel_rfl) (Els.flat1 (⟨(ix d_227 k2_226) ++ r342, ix d_280 r336⟩ : Rule) ⟨(lenApp JI), hle554⟩) rfl
     obtain ⟨acR, acS, tX, Sv, Sw, N1⟩ := hobt
     refine GoQ.loud rfl (N1 rfl) Sw rfl rfl ?_
     replace hO := tX.own
     have hobt := freeze 0 hO rfl Sv
     obtain ⟨hO1, nY, jT, HB⟩ := hobt
     dsimp only [eS, eZ] at hO1 nY jT
     replace hB := ((((((hB.trans wN.fr).trans g9.fr).trans iP.fr).trans tT.fr).trans tW.fr).trans tX.fr).trans (Owns.dropFr _ _ 0)
     dsimp only [eS, eZ] at hB
     replace hO := hO1; clear hO1
     obtain ⟨JD, H⟩ := H
     have Z40 := ((Z35.trans tW.ch).trans tX.ch).trans nY
     replace cz := cz.ch Z40
     have hobt := oapp Try.underlying27 ti39 rfl 4 hO rfl cz jT HB JD (by decide)
     obtain ⟨VU, Eg, Eh, HC, iG, kP, F9⟩ := hobt
     dsimp only [sS, sZ] at iG kP
     refine GoQ.last rfl (F9 (by exact rfl) (by exact rfl)) rfl rfl ?_
     replace hO := iG.own
     refine GoQ.pure rfl (op_fieldAddr Try.underlying29 rfl ti27 rfl (by decide)) rfl rfl ?_
     have hobt := oblkSt2 (v := .slice Eg (iL + 1) Eh) (i := 7) (cs' := #[.int .i64 a0.Points, .bool a0.Monoid, .slice bQ a0.Gens.length bS, .slice iY iH i4, .slice ka iN kc, .slice jb iM jv, .slice gh gf gi, .slice Eg (iL + 1) Eh, .int .i64 k2_226]) 3 hO rfl rfl rfl rfl
     obtain ⟨VV, rK, N2⟩ := hobt
     dsimp only [sS, sZ] at rK
     refine GoQ.last rfl (N2 Try.underlying27 rfl ti27 (by exact rfl) (by exact rfl)) rfl rfl ?_
     replace hO := rK.own
     refine GoQ.nil ?_
     refine Go1.cut [(1, .int .i64 k2_225), (4, .pointer (some ⟨B8, 0, none⟩)), (6, .pointer (some ⟨gS, 0, none⟩)), (7, .map (some B160)), (8, .slice np mP nq), (10, .slice ov l8 ow), (11, .string (gstr (ix d_227 k2_226))), (14, .int .i64 r336), (86, .int .i64 (a0.Gens.length : Int)), (87, .int .i64 (k3_273 : Int))] ⟨rfl, rfl, rfl, rfl, rfl, rfl, rfl, rfl, rfl, rfl, trivial⟩ ?_
     intro σ _
     refine zr (zm rfl (zm rfl ?_))
     have hobt := obuild (r := Rp.int .i64) (n := 1) (parts := [(0, .int .i64 r336)]) (vs := [.int .i64 r336]) (xs := [r336]) rfl Try.underlying26 ti3 hO (by decide) (by kernel_rfl) (Els.cons rfl rfl (Els.nil _ _ _) (by simp [mx])) rfl
     obtain ⟨VW, acT, sI, Sx, XR, N3⟩ := hobt
     refine zg (N3 rfl) ?_
     replace hO := sI.own
     have hobt := freeze 0 hO rfl Sx
     obtain ⟨hO1, wt, Fv, Sy⟩ := hobt
     dsimp only [eS, eZ] at hO1 wt Fv
     replace hB := (((hB.trans iG.fr).trans rK.fr).trans sI.fr).trans (Owns.dropFr _ _ 0)
     dsimp only [eS, eZ] at hB
     replace hO := hO1; clear hO1
     obtain ⟨Wl, H⟩ := H
     have Z41 := (((Z40.trans iG.ch).trans rK.ch).trans sI.ch).trans wt
     replace dr := dr.ch Z41
     have hobt := oapp Try.underlying26 ti3 rfl 0 hO rfl dr Fv Sy Wl (by decide)
     obtain ⟨acU, Wm, Wn, Sz, rL, Kz, N4⟩ := hobt
     dsimp only [sS, sZ] at rL Kz
     refine zg (N4 (by exact rfl) (by exact rfl)) ?_
     replace hO := rL.own
     refine za rfl (zn ?_)
     refine Go1.inBlock ?_
     refine zr ?_
     have Z42 := (((((((((g9.ch.trans iP.ch).trans tT.ch).trans tW.ch).trans tX.ch).trans nY).trans iG.ch).trans rK.ch).trans sI.ch).trans wt).trans rL.ch
     replace aJ := aJ.ch Z42
     refine zo (op_add rfl rfl (wrap_i64 (natbd Cj aJ.bd))) (zm rfl (zn ?_))
     replace hB := hB.trans rL.fr
     have Z43 := ((rK.ch.trans sI.ch).trans wt).trans rL.ch
     replace kP := kP.ch Z43
     have Z44 := (((((tX.ch.trans nY).trans iG.ch).trans rK.ch).trans sI.ch).trans wt).trans rL.ch
     replace cR := cR.ch Z44
     have Z45 := ((((((((iP.ch.trans tT.ch).trans tW.ch).trans tX.ch).trans nY).trans iG.ch).trans rK.ch).trans sI.ch).trans wt).trans rL.ch
     replace eM := eM.ch Z45
     have Z46 := Z41.trans rL.ch
     replace cF := cF.ch Z46
     replace dJ := dJ.ch Z46
     replace et := et.ch Z46
     exact hX3 _ H _ _ ⟨l8 + 1, Wm, Wn, Sz, mP, np, nq, n7, iL + 1, Eg, Eh, HC, iM, jb, jv, n9, iN, ka, kc, o7, iH, iY, i4, qU, ⟨rfl, rfl, rfl, rfl, rfl, rfl, rfl, rfl, rfl, trivial⟩, hO, Kz, cR, kP, cF, dJ, et, eM, aJ, hB⟩
    replace H := ifn HO H
    refine zs (olookF (a := (((ix d_227 k2_226) ++ r342).drop (1 : Int).toNat)) (MK.str Try.underlying9) 2 hO rfl Try.underlying69 ti3 rfl rfl HO) (zm rfl (zo (op_extract rfl rfl) (zo (op_extract rfl rfl) (za rfl (za rfl ?_)))))
    refine zn (zq (zr (zm rfl (zn (zf rfl rfl ?_)))))
    refine zk (zr (zm rfl (zm rfl ?_)))
    have hobt := obuild (r := Rp.int .i64) (n := 1) (parts := [(0, .int .i64 r336)]) (vs := [.int .i64 r336]) (xs := [r336]) rfl Try.underlying26 ti3 hO (by decide) (by kernel_rfl) (Els.cons rfl rfl (Els.nil _ _ _) (by simp [mx])) rfl
    obtain ⟨VX, acV, tY, SA, XS, N5⟩ := hobt
    refine zg (N5 rfl) ?_
    replace hO := tY.own
    have hobt := freeze 0 hO rfl SA
    obtain ⟨hO1, xB, Fw, SB⟩ := hobt
    dsimp only [eS, eZ] at hO1 xB Fw
    replace hB := (((((hB.trans wN.fr).trans g9.fr).trans iP.fr).trans tT.fr).trans tY.fr).trans (Owns.dropFr _ _ 0)
    dsimp only [eS, eZ] at hB
    replace hO := hO1; clear hO1
    obtain ⟨Wo, H⟩ := H
    replace dr := ((dr.ch Z35).ch tY.ch).ch xB
    have hobt := oapp Try.underlying26 ti3 rfl 0 hO rfl dr Fw SB Wo (by decide)
    obtain ⟨acW, Wp, Wq, SC, sJ, KA, N6⟩ := hobt
    dsimp only [sS, sZ] at sJ KA
    refine zg (N6 (by exact rfl) (by exact rfl)) ?_
    replace hO := sJ.own
    refine za rfl (zn ?_)
    refine Go1.inBlock ?_
    refine zr ?_
    have Z47 := ((((g9.ch.trans iP.ch).trans tT.ch).trans tY.ch).trans xB).trans sJ.ch
    replace aJ := aJ.ch Z47
    refine zo (op_add rfl rfl (wrap_i64 (natbd Cj aJ.bd))) (zm rfl (zn ?_))
    replace hB := hB.trans sJ.fr
    have Z48 := (tY.ch.trans xB).trans sJ.ch
    replace cR := cR.ch Z48
    have Z49 := (((iP.ch.trans tT.ch).trans tY.ch).trans xB).trans sJ.ch
    replace eM := eM.ch Z49
    have Z50 := ((Z35.trans tY.ch).trans xB).trans sJ.ch
    replace cz := cz.ch Z50
    replace cF := cF.ch Z50
    replace dJ := dJ.ch Z50
    replace et := et.ch Z50
    exact hX3 _ H _ _ ⟨l8 + 1, Wp, Wq, SC, mP, np, nq, n7, iL, jt, ju, me, iM, jb, jv, n9, iN, ka, kc, o7, iH, iY, i4, qU, ⟨rfl, rfl, rfl, rfl, rfl, rfl, rfl, rfl, rfl, trivial⟩, hO, KA, cR, cz, cF, dJ, et, eM, aJ, hB⟩
   replace H := ifn Cj H
   refine zo (fun w => opB (op_lss rfl rfl w) (decide_eq_false Cj)) (zn (zq (zf rfl rfl ?_)))
   refine Go1.exit rfl ?_
   refine zq ?_
   refine Go1.cut [(1, .int .i64 k2_225), (4, .pointer (some ⟨B8, 0, none⟩)), (6, .pointer (some ⟨gS, 0, none⟩)), (7, .map (some B160)), (8, .slice np mP nq), (10, .slice ov l8 ow)] ⟨rfl, rfl, rfl, rfl, rfl, rfl, trivial⟩ ?_
   intro σ _
   refine zr (zo (op_fieldAddr Try.underlying29 rfl ti22 rfl (by decide)) (zs (oblk (i := 6) 3 hO rfl rfl Try.underlying22 rfl rfl) (zm rfl ?_)))
   have hobt := freeze 0 hO rfl dr
   obtain ⟨hO1, AR, xC, SD⟩ := hobt
   dsimp only [eS, eZ] at hO1 AR xC
   replace hB := hB.trans (Owns.dropFr _ _ 0)
   dsimp only [eS, eZ] at hB
   replace hO := hO1; clear hO1
   have hobt := obuild (r := Rp.sl (Rp.int .i64)) (n := 1) (parts := [(0, .slice ov l8 ow)]) (vs := [.slice ov l8 ow]) (xs := [d_274]) rfl Try.underlying22 ti26 hO (by decide) (by kernel_rfl) (Els.cons rfl ⟨ov, ow, congrArg some (congrArg (fun nn => Value.slice ov nn ow) SD), xC⟩ (Els.nil _ _ _) (by simp [mx])) rfl
   obtain ⟨UF, UG, lM, GT, J5, FP⟩ := hobt
   refine zg (FP rfl) ?_
   replace hO := lM.own
   have hobt := freeze 0 hO rfl GT
   obtain ⟨hO1, pX, nD, GU⟩ := hobt
   dsimp only [eS, eZ] at hO1 pX nD
   replace hB := (hB.trans lM.fr).trans (Owns.dropFr _ _ 0)
   dsimp only [eS, eZ] at hB
   replace hO := hO1; clear hO1
   obtain ⟨IQ, H⟩ := H
   have Z51 := (AR.trans lM.ch).trans pX
   replace cF := cF.ch Z51
   have hobt := oapp Try.underlying22 ti26 rfl 4 hO rfl cF nD GU IQ (by decide)
   obtain ⟨UH, BP, BQ, GW, kO, qP, FQ⟩ := hobt
   dsimp only [sS, sZ] at kO qP
   refine zg (FQ (by exact rfl) (by exact rfl)) ?_
   replace hO := kO.own
   refine zo (op_fieldAddr Try.underlying29 rfl ti22 rfl (by decide)) ?_
   have hobt := oblkSt2 (v := .slice BP (gf + 1) BQ) (i := 6) (cs' := #[.int .i64 a0.Points, .bool a0.Monoid, .slice bQ a0.Gens.length bS, .slice iY iH i4, .slice ka iN kc, .slice jb iM jv, .slice BP (gf + 1) BQ, .slice jt iL ju, .int .i64 k2_226]) 2 hO rfl rfl rfl rfl
   obtain ⟨UI, kd, FS⟩ := hobt
   dsimp only [sS, sZ] at kd
   refine zg (FS Try.underlying22 rfl ti22 (by exact rfl) (by exact rfl)) ?_
   replace hO := kd.own
   refine zn (zr (zo (op_fieldAddr Try.underlying29 rfl ti3 rfl (by decide)) (zs (oblk (i := 8) 2 hO rfl rfl Try.underlying3 rfl rfl) ?_)))
   obtain ⟨Wr, H⟩ := H
   refine zo (op_add rfl rfl (wrap_i64 Wr)) (zo (op_fieldAddr Try.underlying29 rfl ti3 rfl (by decide)) ?_)
   have hobt := oblkSt2 (v := .int .i64 (k2_226 + (1 : Int))) (i := 8) (cs' := #[.int .i64 a0.Points, .bool a0.Monoid, .slice bQ a0.Gens.length bS, .slice iY iH i4, .slice ka iN kc, .slice jb iM jv, .slice BP (gf + 1) BQ, .slice jt iL ju, .int .i64 (k2_226 + (1 : Int))]) 2 hO rfl rfl rfl rfl
   obtain ⟨acX, kD, N7⟩ := hobt
   dsimp only [sS, sZ] at kD
   refine zg (N7 Try.underlying3 rfl ti3 (by exact rfl) (by exact rfl)) ?_
   replace hO := kD.own
   refine zn ?_
   refine Go1.inBlock ?_
   refine zr (zm rfl ?_)
   obtain ⟨Ws, H⟩ := H
   refine zo (op_sub rfl rfl (wrap_i64 Ws)) (za rfl (zn ?_))
   replace qP := (qP.ch kd.ch).ch kD.ch
   replace hB := ((hB.trans kO.fr).trans kd.fr).trans kD.fr
   have Z52 := ((Z51.trans kO.ch).trans kd.ch).trans kD.ch
   replace aJ := aJ.ch Z52
   replace cR := cR.ch Z52
   replace cz := cz.ch Z52
   replace dJ := dJ.ch Z52
   replace et := et.ch Z52
   replace eM := eM.ch Z52
   exact hX2 _ H _ _ ⟨mP, np, nq, n7, iL, jt, ju, me, gf + 1, BP, BQ, GW, iM, jb, jv, n9, iN, ka, kc, o7, iH, iY, i4, qU, ⟨rfl, rfl, rfl, rfl, rfl, trivial⟩, hO, cR, cz, qP, dJ, et, eM, aJ, hB⟩
  replace H := ifn HE H
  refine zo (fun w => opB (op_lss rfl rfl w) (decide_eq_false HE)) (zo (op_pickT rfl rfl rfl) (zn (zf rfl rfl ?_)))
  refine Go1.exit rfl ?_
  refine zq (zr (zs (oblkAgg (vs := [.int .i64 a0.Points, .bool a0.Monoid, .slice bQ a0.Gens.length bS, .slice lJ nm lK, .slice lH nk lI, .slice lF nj lG, .slice gh gf gi, .slice lD ni lE, .int .i64 k2_226]) (i := 0) 2 hO rfl rfl Try.underlying29 rfl ti29 rfl) ?_))
  have hobt := oblkStAgg (us := [.int .i64 a0.Points, .bool a0.Monoid, .slice bQ a0.Gens.length bS, .slice lJ nm lK, .slice lH nk lI, .slice lF nj lG, .slice gh gf gi, .slice lD ni lE, .int .i64 k2_226]) (o := 0) (cs' := #[.int .i64 a0.Points, .bool a0.Monoid, .slice bQ a0.Gens.length bS, .slice lJ nm lK, .slice lH nk lI, .slice lF nj lG, .slice gh gf gi, .slice lD ni lE, .int .i64 k2_226]) 8 hO rfl rfl (Nat.le_of_ble_eq_true rfl) rfl
  obtain ⟨acY, wO, N8⟩ := hobt
  dsimp only [sS, sZ] at wO
  refine zg (N8 ti29 (by exact rfl) (by exact rfl) rfl) ?_
  replace hO := wO.own
  refine za rfl (zn ?_)
  replace yS := yS.ch wO.ch
  have hobt := freeze 7 hO rfl yS
  obtain ⟨hO1, Cm, yT, SE⟩ := hobt
  dsimp only [eS, eZ] at hO1 Cm yT
  replace hB := (hB.trans wO.fr).trans (Owns.dropFr _ _ 7)
  dsimp only [eS, eZ] at hB
  replace hO := hO1; clear hO1
  replace ua := (ua.ch wO.ch).ch Cm
  have hobt := freeze 6 hO rfl ua
  obtain ⟨hO1, Cn, AT, SF⟩ := hobt
  dsimp only [eS, eZ] at hO1 Cn AT
  replace hB := hB.trans (Owns.dropFr _ _ 6)
  dsimp only [eS, eZ] at hB
  replace hO := hO1; clear hO1
  have Z53 := (wO.ch.trans Cm).trans Cn
  replace sF := sF.ch Z53
  have hobt := freeze 5 hO rfl sF
  obtain ⟨hO1, Co, DJ, SG⟩ := hobt
  dsimp only [eS, eZ] at hO1 Co DJ
  replace hB := hB.trans (Owns.dropFr _ _ 5)
  dsimp only [eS, eZ] at hB
  replace hO := hO1; clear hO1
  replace cF := (cF.ch Z53).ch Co
  have hobt := freeze 4 hO rfl cF
  obtain ⟨hO1, Cp, Fx, SJ⟩ := hobt
  dsimp only [eS, eZ] at hO1 Cp Fx
  replace hB := hB.trans (Owns.dropFr _ _ 4)
  dsimp only [eS, eZ] at hB
  replace hO := hO1; clear hO1
  replace mv := ((mv.ch Z53).ch Co).ch Cp
  have hobt := freeze 3 hO rfl mv
  obtain ⟨hO1, Cq, KB, SK⟩ := hobt
  dsimp only [eS, eZ] at hO1 Cq KB
  replace hB := hB.trans (Owns.dropFr _ _ 3)
  dsimp only [eS, eZ] at hB
  replace hO := hO1; clear hO1
  refine Go1.retC2 Try.func52 rfl rfl (run_loadBlk (vs := [.int .i64 a0.Points, .bool a0.Monoid, .slice bQ a0.Gens.length bS, .slice lJ nm lK, .slice lH nk lI, .slice lF nj lG, .slice gh gf gi, .slice lD ni lE, .int .i64 k2_226]) 3 hO rfl rfl Try.underlying29 rfl ti29) ?_
  replace Fx := Fx.ch Cq
  replace DJ := (DJ.ch Cp).ch Cq
  have Z54 := (Co.trans Cp).trans Cq
  replace AT := AT.ch Z54
  have Z55 := ((Cn.trans Co).trans Cp).trans Cq
  replace yT := yT.ch Z55
  have Z56 := ((Z53.trans Co).trans Cp).trans Cq
  replace aJ := aJ.ch Z56
  exact ⟨(⟨a0.Points, a0.Monoid, a0.Gens, d_258, d_252, d_246, d_240, d_234, k2_226⟩ : Enum), (0 : Int), bQ, bS, lJ, lK, lH, lI, lF, lG, gh, gi, lD, lE, (congrArg (fun l => Value.tuple (List.toArray l)) (cons_eq (congrArg (fun l => Value.agg (List.toArray l)) (cons_eq rfl (cons_eq rfl (cons_eq rfl (cons_eq (congrArg (fun nn => Value.slice lJ nn lK) SE) (cons_eq (congrArg (fun nn => Value.slice lH nn lI) SF) (cons_eq (congrArg (fun nn => Value.slice lF nn lG) SG) (cons_eq (congrArg (fun nn => Value.slice gh nn gi) SJ) (cons_eq (congrArg (fun nn => Value.slice lD nn lE) SK) (cons_eq rfl rfl)))))))))) (cons_eq rfl rfl))), hB.same, (aJ.ch (Ch.weak _ _ _)), (yT.ch (Ch.weak _ _ _)), (AT.ch (Ch.weak _ _ _)), (DJ.ch (Ch.weak _ _ _)), (Fx.ch (Ch.weak _ _ _)), (KB.ch (Ch.weak _ _ _)), H⟩
 replace H := ifn HD H
 refine zo (fun w => opB (op_gtr rfl rfl w) (decide_eq_false HD)) (zm rfl (zp (zp (zp (zp ?_)))))
 refine zp (zp (zo (op_pickF rfl rfl rfl) (zn (zf rfl rfl ?_))))
 refine Go1.exit rfl ?_
 refine zq ?_
 refine Go1.cut [(4, .pointer (some ⟨B8, 0, none⟩)), (6, .pointer (some ⟨gS, 0, none⟩))] ⟨rfl, rfl, trivial⟩ ?_
 intro σ _
 refine zr (zs (oblkAgg (vs := [.int .i64 a0.Points, .bool a0.Monoid, .slice bQ a0.Gens.length bS, .slice lJ nm lK, .slice lH nk lI, .slice lF nj lG, .slice gh gf gi, .slice lD ni lE, .int .i64 k2_226]) (i := 0) 2 hO rfl rfl Try.underlying29 rfl ti29 rfl) ?_)
 have hobt := oblkStAgg (us := [.int .i64 a0.Points, .bool a0.Monoid, .slice bQ a0.Gens.length bS, .slice lJ nm lK, .slice lH nk lI, .slice lF nj lG, .slice gh gf gi, .slice lD ni lE, .int .i64 k2_226]) (o := 0) (cs' := #[.int .i64 a0.Points, .bool a0.Monoid, .slice bQ a0.Gens.length bS, .slice lJ nm lK, .slice lH nk lI, .slice lF nj lG, .slice gh gf gi, .slice lD ni lE, .int .i64 k2_226]) 8 hO rfl rfl (Nat.le_of_ble_eq_true rfl) rfl
 obtain ⟨ac0, wP, N9⟩ := hobt
 dsimp only [sS, sZ] at wP
 refine zg (N9 ti29 (by exact rfl) (by exact rfl) rfl) ?_
 replace hO := wP.own
 refine za rfl (zn ?_)
 replace yS := yS.ch wP.ch
 have hobt := freeze 7 hO rfl yS
 obtain ⟨hO1, Cr, yU, SM⟩ := hobt
 dsimp only [eS, eZ] at hO1 Cr yU
 replace hB := (hB.trans wP.fr).trans (Owns.dropFr _ _ 7)
 dsimp only [eS, eZ] at hB
 replace hO := hO1; clear hO1
 replace ua := (ua.ch wP.ch).ch Cr
 have hobt := freeze 6 hO rfl ua
 obtain ⟨hO1, Cs, AU, SN⟩ := hobt
 dsimp only [eS, eZ] at hO1 Cs AU
 replace hB := hB.trans (Owns.dropFr _ _ 6)
 dsimp only [eS, eZ] at hB
 replace hO := hO1; clear hO1
 have Z57 := (wP.ch.trans Cr).trans Cs
 replace sF := sF.ch Z57
 have hobt := freeze 5 hO rfl sF
 obtain ⟨hO1, Ct, DK, SO⟩ := hobt
 dsimp only [eS, eZ] at hO1 Ct DK
 replace hB := hB.trans (Owns.dropFr _ _ 5)
 dsimp only [eS, eZ] at hB
 replace hO := hO1; clear hO1
 replace cF := (cF.ch Z57).ch Ct
 have hobt := freeze 4 hO rfl cF
 obtain ⟨hO1, Cu, Fy, SP⟩ := hobt
 dsimp only [eS, eZ] at hO1 Cu Fy
 replace hB := hB.trans (Owns.dropFr _ _ 4)
 dsimp only [eS, eZ] at hB
 replace hO := hO1; clear hO1
 replace mv := ((mv.ch Z57).ch Ct).ch Cu
 have hobt := freeze 3 hO rfl mv
 obtain ⟨hO1, Cv, KC, SQ⟩ := hobt
 dsimp only [eS, eZ] at hO1 Cv KC
 replace hB := hB.trans (Owns.dropFr _ _ 3)
 dsimp only [eS, eZ] at hB
 replace hO := hO1; clear hO1
 refine Go1.retC2 Try.func52 rfl rfl (run_loadBlk (vs := [.int .i64 a0.Points, .bool a0.Monoid, .slice bQ a0.Gens.length bS, .slice lJ nm lK, .slice lH nk lI, .slice lF nj lG, .slice gh gf gi, .slice lD ni lE, .int .i64 k2_226]) 3 hO rfl rfl Try.underlying29 rfl ti29) ?_
 replace Fy := Fy.ch Cv
 replace DK := (DK.ch Cu).ch Cv
 have Z58 := (Ct.trans Cu).trans Cv
 replace AU := AU.ch Z58
 have Z59 := ((Cs.trans Ct).trans Cu).trans Cv
 replace yU := yU.ch Z59
 have Z60 := ((Z57.trans Ct).trans Cu).trans Cv
 replace aJ := aJ.ch Z60
 exact ⟨(⟨a0.Points, a0.Monoid, a0.Gens, d_258, d_252, d_246, d_240, d_234, k2_226⟩ : Enum), (0 : Int), bQ, bS, lJ, lK, lH, lI, lF, lG, gh, gi, lD, lE, (congrArg (fun l => Value.tuple (List.toArray l)) (cons_eq (congrArg (fun l => Value.agg (List.toArray l)) (cons_eq rfl (cons_eq rfl (cons_eq rfl (cons_eq (congrArg (fun nn => Value.slice lJ nn lK) SM) (cons_eq (congrArg (fun nn => Value.slice lH nn lI) SN) (cons_eq (congrArg (fun nn => Value.slice lF nn lG) SO) (cons_eq (congrArg (fun nn => Value.slice gh nn gi) SP) (cons_eq (congrArg (fun nn => Value.slice lD nn lE) SQ) (cons_eq rfl rfl)))))))))) (cons_eq rfl rfl))), hB.same, (aJ.ch (Ch.weak _ _ _)), (yU.ch (Ch.weak _ _ _)), (AU.ch (Ch.weak _ _ _)), (DK.ch (Ch.weak _ _ _)), (Fy.ch (Ch.weak _ _ _)), (KC.ch (Ch.weak _ _ _)), H⟩
theorem body45 : Body Try.prog 45 := ⟨Try.f45, Try.func45, rfl, by kernel_rfl⟩
theorem walk_ref03_SameRows {A : List Nat} {w0 : World} {p_a : Option Addr} {c_a : Nat} {p_b : Option Addr} {c_b : Nat} {a : List (List Int)} {b : List (List Int)} (hA : ∀ b ∈ A, b < w0.heap.size) (h_a : ISl (Rp.sl (Rp.int .i64)) A w0 p_a c_a a) (h_b : ISl (Rp.sl (Rp.int .i64)) A w0 p_b c_b b) {K : Bool → Prop} (H : ref03_SameRows a b K) :
    CallsV Try.prog 45 #[.slice p_a a.length c_a, .slice p_b b.length c_b] w0 (fun v w' => ∃ (r0 : Bool), v = .bool r0 ∧ Same w0 w' ∧ K r0) := by
 refine CallsV.of (l := [.slice p_a a.length c_a, .slice p_b b.length c_b]) Try.func45 rfl Try.ntmps45 rfl ?_
 have hO := Owns.start hA
 have hB := Fr.refl (bl []) w0
 unfold ref03_SameRows at H
 refine zq (zr (za rfl (zn (zq (zq ?_)))))
 refine zr (zm rfl (zo (op_len Try.underlying22 rfl) ?_))
 replace h_a := h_a.ch (Ch.start A w0)
 replace H := H h_a.bd
 refine zm rfl (zo (op_len Try.underlying22 rfl) ?_)
 replace h_b := h_b.ch (Ch.start A w0)
 replace H := H h_b.bd
 by_cases h1 : (a.length : Int) = (b.length : Int)
 ·replace H := ifp h1 H
  refine zo (fun w => opB (op_neq rfl rfl w) (ndT h1)) (zn (zf rfl rfl (zk (zq (zq ?_)))))
  refine zr (zm rfl (zo (op_len Try.underlying22 rfl) (zm rfl (zn (zb ?_)))))
  refine Go1.loopW (S := Nat) (fun s σ w => agrees σ [(0, .slice p_a a.length c_a), (1, .slice p_b b.length c_b), (12, .int .i64 (a.length : Int)), (13, .int .i64 (s : Int))] ∧ Owns w0.heap.size w [] A ∧ ISl (Rp.sl (Rp.int .i64)) (bl [] ++ A) w p_a c_a a ∧ ISl (Rp.sl (Rp.int .i64)) (bl [] ++ A) w p_b c_b b ∧ Fr (bl []) w0 (bl []) w) H ⟨⟨rfl, rfl, rfl, rfl, trivial⟩, hO, h_a, h_b, hB⟩ ?_
  intro X1 k1_3
  intro H hX1 σ w2
  refine andE fun hag => andE fun hO => andE fun h_a => andE fun h_b => fun hB => ?_
  refine Go1.keep [(0, .slice p_a a.length c_a), (1, .slice p_b b.length c_b), (12, .int .i64 (a.length : Int)), (13, .int .i64 (k1_3 : Int))] hag ?_
  refine zq (zr ?_)
  by_cases h4 : (k1_3 : Int) < (a.length : Int)
  ·replace H := ifp h4 H
   refine zo (fun w => opB (op_lss rfl rfl w) (decide_eq_true h4)) (zn (zq (zt rfl rfl (zk (zq ?_)))))
   refine zb (zq (zr (zm rfl (za rfl (zn ?_)))))
   refine zq ?_
   refine Go1.drawS 0 [(0, .pure), (1, .pure), (2, .pure), (3, .stable), (4, .pure), (5, .pure), (6, .pure), (7, .stable), (8, .loud), (9, .pure)] mixed (by kernel_rfl) ?_
   intro w5 hs6
   have qQ := Stp.same hO hs6
   replace hO := qQ.own
   refine GoQ.pure rfl (op_move rfl) rfl rfl ?_
   refine GoQ.pure rfl (op_move rfl) rfl rfl ?_
   obtain ⟨h8, H⟩ := H
   obtain ⟨h9, H⟩ := H
   replace h_a := h_a.ch qQ.ch
   refine GoQ.pure rfl (op_index Try.underlying22 ti26 rfl rfl h8 h9 (h_a.some_ h8 h9)) rfl rfl ?_
   have hobt := ldSl h_a h8 h9
   obtain ⟨p10, c11, FC, Ix⟩ := hobt
   refine GoQ.stable rfl (Ix Try.underlying26 rfl rfl) rfl rfl ?_
   refine GoQ.pure rfl (op_move rfl) rfl rfl ?_
   refine GoQ.pure rfl (op_move rfl) rfl rfl ?_
   obtain ⟨h14, H⟩ := H
   obtain ⟨h15, H⟩ := H
   replace h_b := h_b.ch qQ.ch
   refine GoQ.pure rfl (op_index Try.underlying22 ti26 rfl rfl h14 h15 (h_b.some_ h14 h15)) rfl rfl ?_
   have hobt := ldSl h_b h14 h15
   obtain ⟨p16, c17, v3, Wt⟩ := hobt
   refine GoQ.stable rfl (Wt Try.underlying26 rfl rfl) rfl rfl ?_
   refine GoQ.call rfl (op_call body34 rfl (walk_ref03_Same hO.lt FC v3 H)) (fun v w hr => by obtain ⟨_, _, hs, _⟩ := hr; assumption) rfl rfl ?_
   rintro v24 w21 ⟨r20, rfl, Wu, H⟩
   have sT := Stp.same hO Wu
   replace hO := sT.own
   cases r20
   ·replace H := ifn Bool.false_ne_true H
    refine GoQ.pure rfl (op_not rfl) rfl rfl ?_
    refine GoQ.nil ?_
    refine zt rfl rfl (zq (zr (za rfl (zn ?_))))
    refine Go1.ret1 Try.func45 rfl ?_
    replace hB := (hB.trans qQ.fr).trans sT.fr
    exact ⟨false, rfl, hB.same, H⟩
   replace H := ifp rfl H
   refine GoQ.pure rfl (op_not rfl) rfl rfl ?_
   refine GoQ.nil ?_
   refine zf rfl rfl (zk ?_)
   refine Go1.inBlock ?_
   refine zr ?_
   replace h_a := h_a.ch sT.ch
   refine zo (op_add rfl rfl (wrap_i64 (natbd h4 h_a.bd))) (zm rfl (zn ?_))
   replace h_b := h_b.ch sT.ch
   replace hB := (hB.trans qQ.fr).trans sT.fr
   exact hX1 _ H _ _ ⟨⟨rfl, rfl, rfl, rfl, trivial⟩, hO, h_a, h_b, hB⟩
  replace H := ifn h4 H
  refine zo (fun w => opB (op_lss rfl rfl w) (decide_eq_false h4)) (zn (zq (zf rfl rfl ?_)))
  refine Go1.exit rfl ?_
  refine zq (zr (za rfl (zn ?_)))
  refine Go1.ret1 Try.func45 rfl ?_
  exact ⟨true, rfl, hB.same, H⟩
 replace H := ifn h1 H
 refine zo (fun w => opB (op_neq rfl rfl w) (ndF h1)) (zn (zt rfl rfl (zq ?_)))
 refine Go1.cut [] trivial ?_
 intro σ _
 refine zr (za rfl (zn ?_))
 refine Go1.ret1 Try.func45 rfl ?_
 exact ⟨false, rfl, hB.same, H⟩
end Sg
