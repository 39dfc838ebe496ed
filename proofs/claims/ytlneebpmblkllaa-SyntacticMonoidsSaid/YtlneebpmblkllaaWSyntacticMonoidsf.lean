/- -/
import Derived.Test.YtlneebpmblkllaaVd
import Derived.Test.YtlneebpmblkllaaWSyntacticMonoids
import Derived.Test.YtlneebpmblkllaaWSyntacticMonoidsc
import Derived.Test.YtlneebpmblkllaaWSyntacticMonoidsd
import Derived.Test.YtlneebpmblkllaaWSyntacticMonoidse
namespace Sg
open Go Go.RowKit Go.Proofs
set_option linter.unusedVariables false
set_option linter.unusedSimpArgs false
set_option maxRecDepth 100000
set_option maxHeartbeats 4000000
theorem body136 : Body Try.prog 136 := ⟨Try.f136, Try.func136, rfl, by kernel_rfl⟩
theorem J44 {A : List Nat} {w0 : World} {bw : Option Addr} {bx : Nat} {eM : Option Addr} {eN : Nat} {dY : Option Addr} {d5 : Nat} {fu : Option Addr} {fv : Nat} {eO : Option Addr} {eP : Nat} {eQ : Option Addr} {eU : Nat} {a0 : Enum} {a1 : Int} (hA : ∀ b ∈ A, b < w0.heap.size) (d6 : ISl (Rp.sl (Rp.int .i64)) A w0 bw bx a0.Gens) (sT : ISl (Rp.sl (Rp.int .i64)) A w0 eM eN a0.Elems) (pc : ISl (Rp.int .i64) A w0 dY d5 a0.Prefix) (tX : ISl (Rp.int .i64) A w0 fu fv a0.Last) (sU : ISl (Rp.sl (Rp.int .i64)) A w0 eO eP a0.Right) (sV : ISl (rpRule) A w0 eQ eU a0.Rules) {K : Enum → Int → Prop} (H : J19 a0 a1 K) :
    CallsV Try.prog 136 #[.agg #[.int .i64 a0.Points, .bool a0.Monoid, .slice bw a0.Gens.length bx, .slice eM a0.Elems.length eN, .slice dY a0.Prefix.length d5, .slice fu a0.Last.length fv, .slice eO a0.Right.length eP, .slice eQ a0.Rules.length eU, .int .i64 a0.Done], .int .i64 a1] w0 (fun v w' => ∃ (r0 : Enum), ∃ (r1 : Int), ∃ (dH : Option Addr), ∃ (dI : Nat), ∃ (de : Option Addr), ∃ (dg : Nat), ∃ (cN : Option Addr), ∃ (cO : Nat), ∃ (dJ : Option Addr), ∃ (dK : Nat), ∃ (dh : Option Addr), ∃ (di : Nat), ∃ (dj : Option Addr), ∃ (dk : Nat), v = .tuple #[.agg #[.int .i64 r0.Points, .bool r0.Monoid, .slice dH r0.Gens.length dI, .slice de r0.Elems.length dg, .slice cN r0.Prefix.length cO, .slice dJ r0.Last.length dK, .slice dh r0.Right.length di, .slice dj r0.Rules.length dk, .int .i64 r0.Done], .int .i64 r1] ∧ Same w0 w' ∧ ISl (Rp.sl (Rp.int .i64)) A w' dH dI r0.Gens ∧ ISl (Rp.sl (Rp.int .i64)) A w' de dg r0.Elems ∧ ISl (Rp.int .i64) A w' cN cO r0.Prefix ∧ ISl (Rp.int .i64) A w' dJ dK r0.Last ∧ ISl (Rp.sl (Rp.int .i64)) A w' dh di r0.Right ∧ ISl (rpRule) A w' dj dk r0.Rules ∧ K r0 r1) := by
 refine CallsV.of (l := [.agg #[.int .i64 a0.Points, .bool a0.Monoid, .slice bw a0.Gens.length bx, .slice eM a0.Elems.length eN, .slice dY a0.Prefix.length d5, .slice fu a0.Last.length fv, .slice eO a0.Right.length eP, .slice eQ a0.Rules.length eU, .int .i64 a0.Done], .int .i64 a1]) Try.func136 rfl Try.ntmps136 rfl ?_
 have hO := Owns.start hA
 have hB := Fr.refl (bl []) w0
 unfold J19 at H
 refine au ?_
 refine sbx hO fun w1 B2 s hO => ?_
 refine sal hO fun w4 B5 s hO => ?_
 refine au ?_
 refine drA (CSv.tr [(some ⟨B2, 0, none⟩), (some ⟨B2, 1, none⟩), (some ⟨B2, 2, none⟩), (some ⟨B2, 3, none⟩), (some ⟨B2, 4, none⟩), (some ⟨B2, 5, none⟩), (some ⟨B2, 6, none⟩), (some ⟨B2, 7, none⟩), (some ⟨B2, 8, none⟩)]) 1 [(0, .pure), (1, .stable), (2, .pure), (3, .stable), (4, .pure), (5, .stable), (7, .pure), (8, .stable), (11, .pure), (12, .stable), (15, .pure), (16, .stable), (19, .pure), (20, .stable), (23, .pure), (24, .stable), (26, .pure), (27, .stable), (6, .alloc), (9, .loud), (10, .alloc), (13, .loud), (14, .alloc), (17, .loud), (18, .alloc), (21, .loud), (22, .alloc), (25, .loud), (28, .pure), (29, .alloc), (30, .last)] hO fun w7 s hO => ?_
 have hn8 := hO.le
 have hw9 := (fr : Fr (bl []) w0 _ w7).ch.size
 refine au ?_
 refine GoQA.stable rfl (loadV (.head _) rfl (J00 1 hO rfl rfl) Try.underlying3 rfl rfl) rfl rfl ?_
 refine au ?_
 refine GoQA.stable rfl (loadV (.tail _ (.head _)) rfl (J00 1 hO rfl rfl) Try.underlying4 rfl rfl) rfl rfl ?_
 refine au ?_
 refine GoQA.stable rfl (loadV (.tail _ (.tail _ (.head _))) rfl (J00 1 hO rfl rfl) Try.underlying23 rfl rfl) rfl rfl ?_
 refine au ?_
 refine GoQA.stable rfl (loadV (.tail _ (.tail _ (.tail _ (.head _)))) rfl (J00 1 hO rfl rfl) Try.underlying23 rfl rfl) rfl rfl ?_
 refine au ?_
 refine GoQA.stable rfl (loadV (.tail _ (.tail _ (.tail _ (.tail _ (.head _))))) rfl (J00 1 hO rfl rfl) Try.underlying31 rfl rfl) rfl rfl ?_
 refine au ?_
 refine GoQA.stable rfl (loadV (.tail _ (.tail _ (.tail _ (.tail _ (.tail _ (.head _)))))) rfl (J00 1 hO rfl rfl) Try.underlying31 rfl rfl) rfl rfl ?_
 refine au ?_
 refine GoQA.stable rfl (loadV (.tail _ (.tail _ (.tail _ (.tail _ (.tail _ (.tail _ (.head _))))))) rfl (J00 1 hO rfl rfl) Try.underlying23 rfl rfl) rfl rfl ?_
 refine au ?_
 refine GoQA.stable rfl (loadV (.tail _ (.tail _ (.tail _ (.tail _ (.tail _ (.tail _ (.tail _ (.head _)))))))) rfl (J00 1 hO rfl rfl) Try.underlying121 rfl rfl) rfl rfl ?_
 refine au ?_
 refine GoQA.stable rfl (loadV (.tail _ (.tail _ (.tail _ (.tail _ (.tail _ (.tail _ (.tail _ (.tail _ (.head _))))))))) rfl (J00 1 hO rfl rfl) Try.underlying3 rfl rfl) rfl rfl ?_
 refine GoQA.alloc rfl rfl (alBuild (n := 0) (parts := []) (vs := []) Try.underlying23 ti31 (by decide) (by decide) (by decide) (by kernel_rfl) rfl rfl) ?_
 intro w11 A12 b13 A14 MX MY hd17 hnb18 hh19
 refine sgw MX hO fun s hO => ?_
 have wE : Els (Rp.sl (Rp.int .i64)) (bl [.blk B5 (.cells #[.int .i64 (0 : Int), .bool false, .slice none 0 0, .slice none 0 0, .slice none 0 0, .slice none 0 0, .slice none 0 0, .slice none 0 0, .int .i64 (0 : Int)] 123 (0, 0)), .blk B2 (.cells #[.int .i64 a0.Points, .bool a0.Monoid, .slice bw a0.Gens.length bx, .slice eM a0.Elems.length eN, .slice dY a0.Prefix.length d5, .slice fu a0.Last.length fv, .slice eO a0.Right.length eP, .slice eQ a0.Rules.length eU, .int .i64 a0.Done] 123 (0, 0))] ++ A12) w11 [] (([] : List (List Int))) := (Els.nil _ _ _)
 refine sgn (e := .row 31 1 (some ⟨b13, 0, none⟩) 0 0 []) MY hO hn8 hw9 hnb18 rfl hh19 hd17 (fr : Fr (bl []) w0 _ w11) fun s hO hB => ?_
 replace wE := wE.ch s.ch
 refine GoQA.loudI rfl rfl fun w21 A22 M0 => ?_
 refine sgw M0 hO fun s hO => ?_
 obtain ⟨h24, H⟩ := H
 have zz := oapp Try.underlying23 ti31 rfl 0 hO rfl wE.u sT.u rfl h24 (by decide)
 obtain ⟨w25, p26, c27, mh, gH, gO, Hc⟩ := zz
 dsimp only [sS, sZ] at gO
 refine GoAt.step (Hc (by exact rfl) (by exact rfl)) (fun _ => (CSv.cons (cs_eq (J00 2 hO rfl rfl) (J00 2 gH.own rfl rfl)) (CSv.cons (cs_eq (J00 2 hO rfl rfl) (J00 2 gH.own rfl rfl)) (CSv.cons (cs_eq (J00 2 hO rfl rfl) (J00 2 gH.own rfl rfl)) (CSv.cons (cs_eq (J00 2 hO rfl rfl) (J00 2 gH.own rfl rfl)) (CSv.cons (cs_eq (J00 2 hO rfl rfl) (J00 2 gH.own rfl rfl)) (CSv.cons (cs_eq (J00 2 hO rfl rfl) (J00 2 gH.own rfl rfl)) (CSv.cons (cs_eq (J00 2 hO rfl rfl) (J00 2 gH.own rfl rfl)) (CSv.cons (cs_eq (J00 2 hO rfl rfl) (J00 2 gH.own rfl rfl)) (CSv.cons (cs_eq (J00 2 hO rfl rfl) (J00 2 gH.own rfl rfl)) (CSv.nil _ _))))))))))) (Stp.kp hO gH) rfl ?_
 refine nst gH fun s hO => ?_
 refine GoQA.alloc rfl rfl (alBuild (n := 0) (parts := []) (vs := []) Try.underlying31 ti3 (by decide) (by decide) (by decide) (by kernel_rfl) rfl rfl) ?_
 intro w34 A35 b36 A37 wx M1 hd40 hnb41 hh42
 refine sgw wx hO fun s hO => ?_
 have wF : Els (Rp.int .i64) (bl [.row 31 1 p26 (0 + a0.Elems.length) c27 mh, .blk B5 (.cells #[.int .i64 (0 : Int), .bool false, .slice none 0 0, .slice none 0 0, .slice none 0 0, .slice none 0 0, .slice none 0 0, .slice none 0 0, .int .i64 (0 : Int)] 123 (0, 0)), .blk B2 (.cells #[.int .i64 a0.Points, .bool a0.Monoid, .slice bw a0.Gens.length bx, .slice eM a0.Elems.length eN, .slice dY a0.Prefix.length d5, .slice fu a0.Last.length fv, .slice eO a0.Right.length eP, .slice eQ a0.Rules.length eU, .int .i64 a0.Done] 123 (0, 0))] ++ A35) w34 [] (([] : List Int)) := (Els.nil _ _ _)
 refine sgn (e := .row 3 1 (some ⟨b36, 0, none⟩) 0 0 []) M1 hO hn8 hw9 hnb41 rfl hh42 hd40 (fr : Fr (bl []) w0 _ w34) fun s hO hB => ?_
 replace wF := wF.ch s.ch
 refine cl1 Fl.i 0 hO wF.u fun s hO => ?_
 refine GoQA.loudI rfl rfl fun w44 A45 M2 => ?_
 refine sgw M2 hO fun s hO => ?_
 refine sapQ 0 hO pc.u H (fun w47 p48 c49 s hO => ?_) (g := fun _ _ _ _ hv hst h => GoAt.step hv (fun _ => (CSv.cons (cs_eq (J00 3 hO rfl rfl) (J00 3 hst.own rfl rfl)) (CSv.cons (cs_eq (J00 3 hO rfl rfl) (J00 3 hst.own rfl rfl)) (CSv.cons (cs_eq (J00 3 hO rfl rfl) (J00 3 hst.own rfl rfl)) (CSv.cons (cs_eq (J00 3 hO rfl rfl) (J00 3 hst.own rfl rfl)) (CSv.cons (cs_eq (J00 3 hO rfl rfl) (J00 3 hst.own rfl rfl)) (CSv.cons (cs_eq (J00 3 hO rfl rfl) (J00 3 hst.own rfl rfl)) (CSv.cons (cs_eq (J00 3 hO rfl rfl) (J00 3 hst.own rfl rfl)) (CSv.cons (cs_eq (J00 3 hO rfl rfl) (J00 3 hst.own rfl rfl)) (CSv.cons (cs_eq (J00 3 hO rfl rfl) (J00 3 hst.own rfl rfl)) (CSv.nil _ _))))))))))) (Stp.kp hO hst) rfl h)
 refine GoQA.alloc rfl rfl (alBuild (n := 0) (parts := []) (vs := []) Try.underlying31 ti3 (by decide) (by decide) (by decide) (by kernel_rfl) rfl rfl) ?_
 intro w51 A52 b53 A54 M3 M4 hd57 hnb58 hh59
 refine sgw M3 hO fun s hO => ?_
 have wG : Els (Rp.int .i64) (bl [t1 Fl.i 3 p48 (0 + a0.Prefix.length) c49 ((([] : List Int)) ++ a0.Prefix), .row 31 1 p26 (0 + a0.Elems.length) c27 mh, .blk B5 (.cells #[.int .i64 (0 : Int), .bool false, .slice none 0 0, .slice none 0 0, .slice none 0 0, .slice none 0 0, .slice none 0 0, .slice none 0 0, .int .i64 (0 : Int)] 123 (0, 0)), .blk B2 (.cells #[.int .i64 a0.Points, .bool a0.Monoid, .slice bw a0.Gens.length bx, .slice eM a0.Elems.length eN, .slice dY a0.Prefix.length d5, .slice fu a0.Last.length fv, .slice eO a0.Right.length eP, .slice eQ a0.Rules.length eU, .int .i64 a0.Done] 123 (0, 0))] ++ A52) w51 [] (([] : List Int)) := (Els.nil _ _ _)
 refine sgn (e := .row 3 1 (some ⟨b53, 0, none⟩) 0 0 []) M4 hO hn8 hw9 hnb58 rfl hh59 hd57 (fr : Fr (bl []) w0 _ w51) fun s hO hB => ?_
 replace wG := wG.ch s.ch
 refine cl1 Fl.i 0 hO wG.u fun s hO => ?_
 refine GoQA.loudI rfl rfl fun w61 A62 M5 => ?_
 refine sgw M5 hO fun s hO => ?_
 refine sapQ 0 hO tX.u H.2 (fun w64 p65 c66 s hO => ?_) (g := fun _ _ _ _ hv hst h => GoAt.step hv (fun _ => (CSv.cons (cs_eq (J00 4 hO rfl rfl) (J00 4 hst.own rfl rfl)) (CSv.cons (cs_eq (J00 4 hO rfl rfl) (J00 4 hst.own rfl rfl)) (CSv.cons (cs_eq (J00 4 hO rfl rfl) (J00 4 hst.own rfl rfl)) (CSv.cons (cs_eq (J00 4 hO rfl rfl) (J00 4 hst.own rfl rfl)) (CSv.cons (cs_eq (J00 4 hO rfl rfl) (J00 4 hst.own rfl rfl)) (CSv.cons (cs_eq (J00 4 hO rfl rfl) (J00 4 hst.own rfl rfl)) (CSv.cons (cs_eq (J00 4 hO rfl rfl) (J00 4 hst.own rfl rfl)) (CSv.cons (cs_eq (J00 4 hO rfl rfl) (J00 4 hst.own rfl rfl)) (CSv.cons (cs_eq (J00 4 hO rfl rfl) (J00 4 hst.own rfl rfl)) (CSv.nil _ _))))))))))) (Stp.kp hO hst) rfl h)
 refine GoQA.alloc rfl rfl (alBuild (n := 0) (parts := []) (vs := []) Try.underlying23 ti31 (by decide) (by decide) (by decide) (by kernel_rfl) rfl rfl) ?_
 intro w68 A69 b70 A71 M6 M7 hd74 hnb75 hh76
 refine sgw M6 hO fun s hO => ?_
 have wH : Els (Rp.sl (Rp.int .i64)) (bl [t1 Fl.i 3 p65 (0 + a0.Last.length) c66 ((([] : List Int)) ++ a0.Last), t1 Fl.i 3 p48 (0 + a0.Prefix.length) c49 ((([] : List Int)) ++ a0.Prefix), .row 31 1 p26 (0 + a0.Elems.length) c27 mh, .blk B5 (.cells #[.int .i64 (0 : Int), .bool false, .slice none 0 0, .slice none 0 0, .slice none 0 0, .slice none 0 0, .slice none 0 0, .slice none 0 0, .int .i64 (0 : Int)] 123 (0, 0)), .blk B2 (.cells #[.int .i64 a0.Points, .bool a0.Monoid, .slice bw a0.Gens.length bx, .slice eM a0.Elems.length eN, .slice dY a0.Prefix.length d5, .slice fu a0.Last.length fv, .slice eO a0.Right.length eP, .slice eQ a0.Rules.length eU, .int .i64 a0.Done] 123 (0, 0))] ++ A69) w68 [] (([] : List (List Int))) := (Els.nil _ _ _)
 refine sgn (e := .row 31 1 (some ⟨b70, 0, none⟩) 0 0 []) M7 hO hn8 hw9 hnb75 rfl hh76 hd74 (fr : Fr (bl []) w0 _ w68) fun s hO hB => ?_
 replace wH := wH.ch s.ch
 refine GoQA.loudI rfl rfl fun w78 A79 M8 => ?_
 refine sgw M8 hO fun s hO => ?_
 replace H := H.2.2
 obtain ⟨h81, H⟩ := H
 have zz := oapp Try.underlying23 ti31 rfl 0 hO rfl wH.u sU.u rfl h81 (by decide)
 obtain ⟨w82, p83, c84, wI, gI, i4, He⟩ := zz
 dsimp only [sS, sZ] at i4
 refine GoAt.step (He (by exact rfl) (by exact rfl)) (fun _ => (CSv.cons (cs_eq (J00 5 hO rfl rfl) (J00 5 gI.own rfl rfl)) (CSv.cons (cs_eq (J00 5 hO rfl rfl) (J00 5 gI.own rfl rfl)) (CSv.cons (cs_eq (J00 5 hO rfl rfl) (J00 5 gI.own rfl rfl)) (CSv.cons (cs_eq (J00 5 hO rfl rfl) (J00 5 gI.own rfl rfl)) (CSv.cons (cs_eq (J00 5 hO rfl rfl) (J00 5 gI.own rfl rfl)) (CSv.cons (cs_eq (J00 5 hO rfl rfl) (J00 5 gI.own rfl rfl)) (CSv.cons (cs_eq (J00 5 hO rfl rfl) (J00 5 gI.own rfl rfl)) (CSv.cons (cs_eq (J00 5 hO rfl rfl) (J00 5 gI.own rfl rfl)) (CSv.cons (cs_eq (J00 5 hO rfl rfl) (J00 5 gI.own rfl rfl)) (CSv.nil _ _))))))))))) (Stp.kp hO gI) rfl ?_
 refine nst gI fun s hO => ?_
 refine GoQA.alloc rfl rfl (alBuild (n := 0) (parts := []) (vs := []) Try.underlying121 ti185 (by decide) (by decide) (by decide) (by kernel_rfl) rfl rfl) ?_
 intro w91 A92 b93 A94 ws M9 hd97 hnb98 hh99
 refine sgw ws hO fun s hO => ?_
 have iM : Els (rpRule) (bl [.row 31 1 p83 (0 + a0.Right.length) c84 wI, t1 Fl.i 3 p65 (0 + a0.Last.length) c66 ((([] : List Int)) ++ a0.Last), t1 Fl.i 3 p48 (0 + a0.Prefix.length) c49 ((([] : List Int)) ++ a0.Prefix), .row 31 1 p26 (0 + a0.Elems.length) c27 mh, .blk B5 (.cells #[.int .i64 (0 : Int), .bool false, .slice none 0 0, .slice none 0 0, .slice none 0 0, .slice none 0 0, .slice none 0 0, .slice none 0 0, .int .i64 (0 : Int)] 123 (0, 0)), .blk B2 (.cells #[.int .i64 a0.Points, .bool a0.Monoid, .slice bw a0.Gens.length bx, .slice eM a0.Elems.length eN, .slice dY a0.Prefix.length d5, .slice fu a0.Last.length fv, .slice eO a0.Right.length eP, .slice eQ a0.Rules.length eU, .int .i64 a0.Done] 123 (0, 0))] ++ A92) w91 [] (([] : List Rule)) := (Els.nil _ _ _)
 refine sgn (e := .row 185 2 (some ⟨b93, 0, none⟩) 0 0 []) M9 hO hn8 hw9 hnb98 rfl hh99 hd97 (fr : Fr (bl []) w0 _ w91) fun s hO hB => ?_
 replace iM := iM.ch s.ch
 refine cl1 (id Fl.fl : Fl rpRule) 0 hO iM.u fun s hO => ?_
 refine GoQA.loudI rfl rfl fun uo A102 Hf => ?_
 refine sgw Hf hO fun s hO => ?_
 refine sapQ 0 hO sV.u H (fun uF kQ kS s hO => ?_) (g := fun _ _ _ _ hv hst h => GoAt.step hv (fun _ => (CSv.cons (cs_eq (J00 6 hO rfl rfl) (J00 6 hst.own rfl rfl)) (CSv.cons (cs_eq (J00 6 hO rfl rfl) (J00 6 hst.own rfl rfl)) (CSv.cons (cs_eq (J00 6 hO rfl rfl) (J00 6 hst.own rfl rfl)) (CSv.cons (cs_eq (J00 6 hO rfl rfl) (J00 6 hst.own rfl rfl)) (CSv.cons (cs_eq (J00 6 hO rfl rfl) (J00 6 hst.own rfl rfl)) (CSv.cons (cs_eq (J00 6 hO rfl rfl) (J00 6 hst.own rfl rfl)) (CSv.cons (cs_eq (J00 6 hO rfl rfl) (J00 6 hst.own rfl rfl)) (CSv.cons (cs_eq (J00 6 hO rfl rfl) (J00 6 hst.own rfl rfl)) (CSv.cons (cs_eq (J00 6 hO rfl rfl) (J00 6 hst.own rfl rfl)) (CSv.nil _ _))))))))))) (Stp.kp hO hst) rfl h)
 refine GoQA.pure rfl (J06 Try.underlying123 ti123 (pl := [(0, 1), (1, 1), (2, 1), (3, 1), (4, 1), (5, 1), (6, 1), (7, 1), (8, 1)]) (vs := [(0, .int .i64 a0.Points), (1, .bool a0.Monoid), (2, .slice bw a0.Gens.length bx), (3, .slice p26 (0 + a0.Elems.length) c27), (4, .slice p48 (0 + a0.Prefix.length) c49), (5, .slice p65 (0 + a0.Last.length) c66), (6, .slice p83 (0 + a0.Right.length) c84), (7, .slice kQ (0 + a0.Rules.length) kS), (8, .int .i64 a0.Done)]) (cs := #[.int .i64 a0.Points, .bool a0.Monoid, .slice bw a0.Gens.length bx, .slice p26 (0 + a0.Elems.length) c27, .slice p48 (0 + a0.Prefix.length) c49, .slice p65 (0 + a0.Last.length) c66, .slice p83 (0 + a0.Right.length) c84, .slice kQ (0 + a0.Rules.length) kS, .int .i64 a0.Done]) (by kernel_rfl) rfl (by kernel_rfl)) rfl rfl ?_
 refine GoQA.alloc rfl rfl (alAlloc (cs := #[.int .i64 (0 : Int), .bool false, .slice none 0 0, .slice none 0 0, .slice none 0 0, .slice none 0 0, .slice none 0 0, .slice none 0 0, .int .i64 (0 : Int)]) ti123 rfl) ?_
 intro Na A109 gJ A111 sA sB hd114 hnb115 hh116
 refine sgw sA hO fun s hO => ?_
 refine sgn (e := .blk gJ (.cells #[.int .i64 (0 : Int), .bool false, .slice none 0 0, .slice none 0 0, .slice none 0 0, .slice none 0 0, .slice none 0 0, .slice none 0 0, .int .i64 (0 : Int)] 123 (0, 0))) sB hO hn8 hw9 hnb115 rfl hh116 hd114 (fr : Fr (bl []) w0 _ Na) fun s hO hB => ?_
 refine GoQA.lastI rfl rfl fun qQ A118 su => ?_
 refine sgw su hO fun s hO => ?_
 refine sba 0 hO fun qX s hO => ?_
 refine GoQA.nil fun qR A122 sv sw => ?_
 refine sgw sv hO fun s hO => ?_
 refine spm sw hO fun s hO => ?_
 refine au ?_
 have hB := (fr : Fr (bl []) w0 _ qR)
 replace gO := gO.o hO
 replace i4 := i4.o hO
 revert hO; repeat (rename Owns _ _ _ _ => q; clear q)
 intro hO; repeat (rename Sq _ _ _ _ _ _ => q; clear q)
 refine au ?_
 have zz := omakeMap (fun a : List UInt8 => Value.string (gstr a)) (fun a : Int => Value.int .i64 a) hO
 obtain ⟨yE, B126, Bn, P6, Bo⟩ := zz
 refine zg Bo ?_
 refine nst Bn fun s hO => ?_
 refine au ?_
 refine zo (J0x Try.underlying23 rfl (Els.neqW gO.u hO 6 rfl)) ?_
 refine au ?_
 refine snil Fl.str 9 hO fun s hO => ?_
 refine sdr [9] hO fun s hO => ?_
 refine lw H.2 (fun (ja, sW, tY) σ w => ∃ wJ rO rP, (fun Z => agrees σ [(1, .int .i64 a1), (4, .pointer (some ⟨B5, 0, none⟩)), (6, .pointer (some ⟨gJ, 0, none⟩)), (7, .map (some B126)), (8, .slice rO wJ rP), (50, .int .i64 (((([] : List (List Int))) ++ a0.Elems).length : Int)), (51, .int .i64 (ja : Int))] ∧ Owns w0.heap.size w Z A ∧ Els (Rp.sl (Rp.int .i64)) (bl Z ++ A) w wI ((([] : List (List Int))) ++ a0.Right) ∧ Els (Rp.sl (Rp.int .i64)) (bl Z ++ A) w mh ((([] : List (List Int))) ++ a0.Elems) ∧ Fr (bl []) w0 (bl Z) w) [t1 Fl.str 9 rO wJ rP sW, .any (mapE (fun a : List UInt8 => Value.string (gstr a)) (fun a : Int => Value.int .i64 a) B126 tY), .blk gJ (.cells #[.int .i64 a0.Points, .bool a0.Monoid, .slice bw a0.Gens.length bx, .slice p26 (0 + a0.Elems.length) c27, .slice p48 (0 + a0.Prefix.length) c49, .slice p65 (0 + a0.Last.length) c66, .slice p83 (0 + a0.Right.length) c84, .slice kQ (0 + a0.Rules.length) kS, .int .i64 a0.Done] 123 (0, 0)), t1 (id Fl.fl : Fl rpRule) 185 kQ (0 + a0.Rules.length) kS ((([] : List Rule)) ++ a0.Rules), .row 31 1 p83 (0 + a0.Right.length) c84 wI, t1 Fl.i 3 p65 (0 + a0.Last.length) c66 ((([] : List Int)) ++ a0.Last), t1 Fl.i 3 p48 (0 + a0.Prefix.length) c49 ((([] : List Int)) ++ a0.Prefix), .row 31 1 p26 (0 + a0.Elems.length) c27 mh, .blk B5 (.cells #[.int .i64 (0 : Int), .bool false, .slice none 0 0, .slice none 0 0, .slice none 0 0, .slice none 0 0, .slice none 0 0, .slice none 0 0, .int .i64 (0 : Int)] 123 (0, 0))]) ⟨_, _, _, agr, hO, i4.u, gO.u, fr⟩ ?_
 refine fun X1 => p2 fun ja sW tY => fun H hX1 σ YK => e3 fun wJ rO rP => d4 fun hag hO i4 gO hB => ?_
 dsimp only at H
 refine Go1.keep _ hag ?_
 revert hO; repeat (rename Owns _ _ _ _ => q; clear q)
 intro hO; repeat (rename Sq _ _ _ _ _ _ => q; clear q)
 refine au ?_
 refine scm H (fun Bp H => ?_) fun Bp H => ?_
 ·refine au ?_
  refine zs (J05 (vs := [.int .i64 a0.Points, .bool a0.Monoid, .slice bw a0.Gens.length bx, .slice p26 (0 + a0.Elems.length) c27, .slice p48 (0 + a0.Prefix.length) c49, .slice p65 (0 + a0.Last.length) c66, .slice p83 (0 + a0.Right.length) c84, .slice kQ (0 + a0.Rules.length) kS, .int .i64 a0.Done]) (i := 0) 2 hO rfl rfl Try.underlying123 rfl ti123 rfl) ?_
  refine au ?_
  have zz := rowlend 7 hO rfl gO
  obtain ⟨Hg, Hh⟩ := zz
  have hOc142 := hO.drop 7
  have Hi := t1lend 6 hOc142
  have qT := t1n 6 hOc142
  have hOc145 := hOc142.drop 6
  have Hj := t1lend 5 hOc145
  have xa := t1n 5 hOc145
  have hOc148 := hOc145.drop 5
  have zz := rowlend 4 hOc148 rfl (((i4.ch (Owns.J0c _ _ 7)).ch (Owns.J0c _ _ 6)).ch (Owns.J0c _ _ 5))
  obtain ⟨Hk, Hl⟩ := zz
  have hOc151 := hOc148.drop 4
  have Hm := t1lend 3 hOc151
  have qU := t1n 3 hOc151
  have hOc154 := hOc151.drop 3
  refine zcr (J02 body106 (show ([.agg #[.int .i64 a0.Points, .bool a0.Monoid, .slice bw a0.Gens.length bx, .slice p26 (0 + a0.Elems.length) c27, .slice p48 (0 + a0.Prefix.length) c49, .slice p65 (0 + a0.Last.length) c66, .slice p83 (0 + a0.Right.length) c84, .slice kQ (0 + a0.Rules.length) kS, .int .i64 a0.Done], .int .i64 (ja : Int)] : List Value) = [.agg #[.int .i64 a0.Points, .bool a0.Monoid, .slice bw a0.Gens.length bx, .slice p26 ((([] : List (List Int))) ++ a0.Elems).length c27, .slice p48 ((([] : List Int)) ++ a0.Prefix).length c49, .slice p65 ((([] : List Int)) ++ a0.Last).length c66, .slice p83 ((([] : List (List Int))) ++ a0.Right).length c84, .slice kQ ((([] : List Rule)) ++ a0.Rules).length kS, .int .i64 a0.Done], .int .i64 (ja : Int)] from by rw [← Hh, ← qT, ← xa, ← Hl, ← qU]) (J0G (e := (⟨a0.Points, a0.Monoid, a0.Gens, (([] : List (List Int))) ++ a0.Elems, (([] : List Int)) ++ a0.Prefix, (([] : List Int)) ++ a0.Last, (([] : List (List Int))) ++ a0.Right, (([] : List Rule)) ++ a0.Rules, a0.Done⟩ : Enum)) hOc154.lt (((((d6.u.ch (Owns.J0c _ _ 7)).ch (Owns.J0c _ _ 6)).ch (Owns.J0c _ _ 5)).ch (Owns.J0c _ _ 4)).ch (Owns.J0c _ _ 3)) ((((Hg.ch (Owns.J0c _ _ 6)).ch (Owns.J0c _ _ 5)).ch (Owns.J0c _ _ 4)).ch (Owns.J0c _ _ 3)) (((Hi.ch (Owns.J0c _ _ 5)).ch (Owns.J0c _ _ 4)).ch (Owns.J0c _ _ 3)) ((Hj.ch (Owns.J0c _ _ 4)).ch (Owns.J0c _ _ 3)) (Hk.ch (Owns.J0c _ _ 3)) Hm H)) fun _ Iy => e1 fun Bq => sc0 hO fun s hO => d1 fun x8 H => ?_
  refine sap1 Bq 0 hO H (fun _ JS YL YM s hO => ?_) (hR := by exact fun _ _ => ⟨rfl, x8⟩)
  refine au ?_
  refine sxl1 0 hO H.2.1 H.2.2.1 ?_
  have hle160 := t1le 0 hO H.2.1 H.2.2.1
  refine au ?_
  have zz := omapUpd (MK.str Try.underlying9) 1 hO rfl Try.underlying154 (ix (sW ++ ([Bq])) (ja : Int)) (ja : Int)
  obtain ⟨Ks, Br, Bs⟩ := zz
  refine zg (Bs (by exact rfl) (by exact rfl) (by exact rfl)) ?_
  refine nst Br fun s hO => ?_
  refine au ?_
  refine sinc (natbd Bp gO.bd) ?_
  refine au ?_
  exact hX1 _ H.2.2.2 _ _ ⟨_, _, _, agr, hO, i4.u, gO.u, fr⟩
 refine au ?_
 refine lw H (fun (ot, ci, gK, t5, d_172, d_176, mJ, mK, mM) σ w => ∃ wK wL wM kT iq iY gq fL fM iQ kU iB iC kV jq jr kW jt ju sX, (fun Z => agrees σ [(1, .int .i64 ot), (4, .pointer (some ⟨B5, 0, none⟩)), (6, .pointer (some ⟨gJ, 0, none⟩)), (7, .map (some B126)), (8, .slice wL wK wM)] ∧ Owns w0.heap.size w Z A ∧ Els (Rp.sl (Rp.int .i64)) (bl Z ++ A) w iQ d_176 ∧ Els (Rp.sl (Rp.int .i64)) (bl Z ++ A) w sX mM ∧ Fr (bl []) w0 (bl Z) w) [t1 Fl.str 9 wL wK wM gK, .any (mapE (fun a : List UInt8 => Value.string (gstr a)) (fun a : Int => Value.int .i64 a) B126 t5), .blk gJ (.cells #[.int .i64 a0.Points, .bool a0.Monoid, .slice bw a0.Gens.length bx, .slice jt kW ju, .slice jq kV jr, .slice iB kU iC, .slice fL gq fM, .slice iq kT iY, .int .i64 ci] 123 (0, 0)), t1 (id Fl.fl : Fl rpRule) 185 iq kT iY d_172, .row 31 1 fL gq fM iQ, t1 Fl.i 3 iB kU iC mJ, t1 Fl.i 3 jq kV jr mK, .row 31 1 jt kW ju sX, .blk B5 (.cells #[.int .i64 (0 : Int), .bool false, .slice none 0 0, .slice none 0 0, .slice none 0 0, .slice none 0 0, .slice none 0 0, .slice none 0 0, .int .i64 (0 : Int)] 123 (0, 0))]) ⟨_, _, _, _, _, _, _, _, _, _, _, _, _, _, _, _, _, _, _, _, agr, hO, i4.u, gO.u, fr⟩ ?_
 refine fun X2 => p1 fun ot => p1 fun ci => p1 fun gK => p1 fun t5 => p1 fun d_172 => p3 fun d_176 mJ mK mM => fun H hX2 σ uL => e4 fun wK wL wM kT => e4 fun iq iY gq fL => e4 fun fM iQ kU iB => e4 fun iC kV jq jr => e4 fun kW jt ju sX => d4 fun hag hO gV mO hB => ?_
 dsimp only at H
 refine Go1.keep _ hag ?_
 revert hO; repeat (rename Owns _ _ _ _ => q; clear q)
 intro hO; repeat (rename Sq _ _ _ _ _ _ => q; clear q)
 refine au ?_
 refine scm H (fun ym H => ?_) fun ym H => ?_
 ·refine au ?_
  refine zo (J0x Try.underlying23 rfl (Els.neqW mO hO 7 rfl)) ?_
  refine scm H (fun yo H => ?_) fun yo H => ?_
  ·refine au ?_
   refine sxl1 0 hO H.1 H.2.1 ?_
   have hle198 := t1le 0 hO H.1 H.2.1
   refine au ?_
   refine sln0 ?_
   refine au ?_
   refine snil Fl.i 3 hO fun s hO => ?_
   refine lw (H.2.2 d6.bd) (fun (iG, d_202, iR, jb, lM, lN, lO, lP) σ w => ∃ j5 i5 i6 mj mm mo jv jw jx jy jz jA jB jh ji i7 jC jD mP, (fun Z => agrees σ [(1, .int .i64 ot), (4, .pointer (some ⟨B5, 0, none⟩)), (6, .pointer (some ⟨gJ, 0, none⟩)), (7, .map (some B126)), (8, .slice mm mj mo), (10, .slice i5 j5 i6), (11, .string (gstr (ix gK ci))), (86, .int .i64 (a0.Gens.length : Int)), (87, .int .i64 (iG : Int))] ∧ Owns w0.heap.size w Z A ∧ Els (Rp.sl (Rp.int .i64)) (bl Z ++ A) w iQ d_176 ∧ Els (Rp.sl (Rp.int .i64)) (bl Z ++ A) w mP lP ∧ Fr (bl []) w0 (bl Z) w) [t1 Fl.i 3 i5 j5 i6 d_202, t1 Fl.str 9 mm mj mo iR, .any (mapE (fun a : List UInt8 => Value.string (gstr a)) (fun a : Int => Value.int .i64 a) B126 jb), .blk gJ (.cells #[.int .i64 a0.Points, .bool a0.Monoid, .slice bw a0.Gens.length bx, .slice jC i7 jD, .slice jh jB ji, .slice jz jy jA, .slice fL gq fM, .slice jw jv jx, .int .i64 ci] 123 (0, 0)), t1 (id Fl.fl : Fl rpRule) 185 jw jv jx lM, .row 31 1 fL gq fM iQ, t1 Fl.i 3 jz jy jA lN, t1 Fl.i 3 jh jB ji lO, .row 31 1 jC i7 jD mP, .blk B5 (.cells #[.int .i64 (0 : Int), .bool false, .slice none 0 0, .slice none 0 0, .slice none 0 0, .slice none 0 0, .slice none 0 0, .slice none 0 0, .int .i64 (0 : Int)] 123 (0, 0))]) ⟨_, _, _, _, _, _, _, _, _, _, _, _, _, _, _, _, _, _, _, agr, hO, gV.u, mO.u, fr⟩ ?_
   refine fun X3 => p1 fun iG => p1 fun d_202 => p1 fun iR => p1 fun jb => p3 fun lM lN lO lP => fun H hX3 σ YN => e4 fun j5 i5 i6 mj => e4 fun mm mo jv jw => e4 fun jx jy jz jA => e4 fun jB jh ji i7 => e3 fun jC jD mP => d4 fun hag hO gV fx hB => ?_
   dsimp only at H
   refine Go1.keep _ hag ?_
   revert hO; repeat (rename Owns _ _ _ _ => q; clear q)
   intro hO; repeat (rename Sq _ _ _ _ _ _ => q; clear q)
   refine au ?_
   refine scm H (fun jQ H => ?_) fun jQ H => ?_
   ·refine au ?_
    refine drw 0 [(0, .pure), (1, .stable), (2, .pure), (3, .stable), (4, .pure), (5, .stable), (6, .pure), (7, .stable), (8, .pure), (9, .pure), (10, .stable), (11, .loud), (12, .pure)] hO fun u5 s hO => ?_
    refine au ?_
    obtain ⟨wN, H⟩ := H
    obtain ⟨wO, H⟩ := H
    refine GoQ.pure rfl (J07 Try.underlying23 ti31 rfl rfl wN (ltn (Els.neqW fx.u hO 8 rfl) wO) (Els.psomeW fx.u hO 8 rfl wN wO)) rfl rfl ?_
    have zz := oldSl 8 hO rfl fx.u wN wO
    obtain ⟨YO, YP, Hn, Ho⟩ := zz
    refine GoQ.stable rfl (Ho Try.underlying31 rfl rfl) rfl rfl ?_
    refine au ?_
    refine sxls hO d6.u H.1 H.2.1 fun YQ YR Hp => ?_
    have YS := H.1
    have YT := H.2.1
    refine zcq rfl (J02 body114 rfl (J46 hO.lt Hn Hp.u H.2.2)) fun _ YU => e3 fun kX iH iI => sq0 hO fun s hO => d1 fun t6 H => ?_
    refine au ?_
    have zz := rowlend 8 hO rfl fx.u
    obtain ⟨Hq, Hr⟩ := zz
    have hOc246 := hO.drop 8
    refine zcr (J02 body107 (show ([.slice jC i7 jD, .slice iH kX.length iI] : List Value) = [.slice jC lP.length jD, .slice iH kX.length iI] from by rw [← Hr]) (J1e hOc246.lt Hq (t6.ch (Owns.J0c _ _ 8)) H)) fun _ YV => e1 fun kY => sc0 hO fun s hO => fun H => ?_
    refine au ?_
    refine zcr (J02 body137 rfl (J0J hO.lt H)) fun _ KA => e1 fun j6 => sc0 hO fun s hO => d1 fun NJ H => ?_
    obtain ⟨wP, H⟩ := H
    refine zo (J0a rfl rfl wP) ?_
    refine au ?_
    refine scm H (fun Nb H => ?_) fun Nb H => ?_
    ·refine au ?_
     refine zo (J0x Try.underlying23 rfl (Els.neqW fx.u hO 8 rfl)) ?_
     refine scm H (fun Nc H => ?_) fun Nc H => ?_
     ·refine au ?_
      refine zo (J06 Try.underlying123 ti123 (pl := [(0, 1), (1, 1), (2, 1), (3, 1), (4, 1), (5, 1), (6, 1), (7, 1), (8, 1)]) (vs := []) (cs := #[.int .i64 (0 : Int), .bool false, .slice none 0 0, .slice none 0 0, .slice none 0 0, .slice none 0 0, .slice none 0 0, .slice none 0 0, .int .i64 (0 : Int)]) (by kernel_rfl) rfl (by kernel_rfl)) ?_
      refine sba 9 hO fun YW s hO => ?_
      refine au ?_
      refine Go1.retC2 Try.func136 rfl rfl (J03 (vs := [.int .i64 (0 : Int), .bool false, .slice none 0 0, .slice none 0 0, .slice none 0 0, .slice none 0 0, .slice none 0 0, .slice none 0 0, .int .i64 (0 : Int)]) 9 hO rfl rfl Try.underlying123 rfl ti123) ⟨((⟨(0 : Int), false, ([] : List (List Int)), ([] : List (List Int)), ([] : List Int), ([] : List Int), ([] : List (List Int)), ([] : List Rule), (0 : Int)⟩ : Enum)), _, _, _, _, _, _, _, _, _, _, _, _, _, ?_, frs, (ISl.null _ _ _), (ISl.null _ _ _), (ISl.null _ _ _), (ISl.null _ _ _), (ISl.null _ _ _), (ISl.null _ _ _), H⟩
      exact rfl
     refine au ?_
     refine zo (J0x Try.underlying23 rfl (Els.neqW fx.u hO 8 rfl)) ?_
     refine au ?_
     refine drA (CSv.tr [(some ⟨gJ, 3, none⟩), (some ⟨gJ, 4, none⟩), (some ⟨gJ, 8, none⟩), (some ⟨gJ, 5, none⟩)]) 1 [(0, .pure), (1, .stable), (2, .pure), (5, .pure), (6, .stable), (7, .pure), (8, .stable), (11, .pure), (12, .stable), (13, .pure), (3, .alloc), (4, .loud), (16, .pure), (9, .alloc), (10, .loud), (14, .alloc), (15, .loud), (17, .last), (18, .pure), (19, .last), (20, .pure), (21, .last)] hO fun vD s hO => ?_
     have sY := hO.le
     have hw257 := (fr : Fr (bl []) w0 _ vD).ch.size
     refine au ?_
     refine GoQA.stable rfl (loadV (.head _) rfl (J00 3 hO rfl rfl) Try.underlying23 rfl rfl) rfl rfl ?_
     refine au ?_
     refine au ?_
     refine GoQA.stable rfl (loadV (.tail _ (.head _)) rfl (J00 3 hO rfl rfl) Try.underlying31 rfl rfl) rfl rfl ?_
     refine au ?_
     refine GoQA.stable rfl (loadV (.tail _ (.tail _ (.head _))) rfl (J00 3 hO rfl rfl) Try.underlying3 rfl rfl) rfl rfl ?_
     refine au ?_
     refine GoQA.stable rfl (loadV (.tail _ (.tail _ (.tail _ (.head _)))) rfl (J00 3 hO rfl rfl) Try.underlying31 rfl rfl) rfl rfl ?_
     refine au ?_
     refine GoQA.alloc rfl rfl (alBuild (n := 1) (parts := [(0, .slice iH kX.length iI)]) (vs := [.slice iH kX.length iI]) Try.underlying23 ti31 (by decide) (by decide) (by decide) (by kernel_rfl) rfl rfl) ?_
     intro Bt A260 Nd A262 Hs Ht hd265 hnb266 hh267
     refine sgw Hs hO fun s hO => ?_
     have gf : Els (Rp.sl (Rp.int .i64)) (bl [t1 Fl.i 3 i5 j5 i6 d_202, t1 Fl.str 9 mm mj mo iR, .any (mapE (fun a : List UInt8 => Value.string (gstr a)) (fun a : Int => Value.int .i64 a) B126 jb), .blk gJ (.cells #[.int .i64 a0.Points, .bool a0.Monoid, .slice bw a0.Gens.length bx, .slice jC i7 jD, .slice jh jB ji, .slice jz jy jA, .slice fL gq fM, .slice jw jv jx, .int .i64 ci] 123 (0, 0)), t1 (id Fl.fl : Fl rpRule) 185 jw jv jx lM, .row 31 1 fL gq fM iQ, t1 Fl.i 3 jz jy jA lN, t1 Fl.i 3 jh jB ji lO, .row 31 1 jC i7 jD mP, .blk B5 (.cells #[.int .i64 (0 : Int), .bool false, .slice none 0 0, .slice none 0 0, .slice none 0 0, .slice none 0 0, .slice none 0 0, .slice none 0 0, .int .i64 (0 : Int)] 123 (0, 0))] ++ A260) Bt [.slice iH kX.length iI] [kX] := (Els.cons rfl ⟨iH, iI, rfl, t6.u⟩ (Els.nil _ _ _) (by simp [mx]))
     refine sgn (e := .row 31 1 (some ⟨Nd, 0, none⟩) 1 1 [.slice iH kX.length iI]) Ht hO sY hw257 hnb266 rfl hh267 hd265 (fr : Fr (bl []) w0 _ Bt) fun s hO hB => ?_
     replace gf := gf.ch s.ch
     refine GoQA.loudI rfl rfl fun AP A270 Hu => ?_
     refine sgw Hu hO fun s hO => ?_
     refine sfzR 0 hO gf.u fun s hO rT mC => ?_
     obtain ⟨nG, H⟩ := H
     have zz := oapp Try.underlying23 ti31 rfl 8 hO rfl fx.u rT mC nG (by decide)
     obtain ⟨YX, uQ, uR, rU, jc, xQ, Bu⟩ := zz
     dsimp only [sS, sZ] at xQ
     refine GoAt.step (Bu (by exact rfl) (by exact rfl)) (fun _ => (CSv.cons (cs_eq (J00 3 hO rfl rfl) (J00 3 jc.own rfl rfl)) (CSv.cons (cs_eq (J00 3 hO rfl rfl) (J00 3 jc.own rfl rfl)) (CSv.cons (cs_eq (J00 3 hO rfl rfl) (J00 3 jc.own rfl rfl)) (CSv.cons (cs_eq (J00 3 hO rfl rfl) (J00 3 jc.own rfl rfl)) (CSv.nil _ _)))))) (Stp.kp hO jc) rfl ?_
     refine nst jc fun s hO => ?_
     refine au ?_
     refine GoQA.alloc rfl rfl (alBuild (n := 1) (parts := [(0, .int .i64 ci)]) (vs := [.int .i64 ci]) Try.underlying31 ti3 (by decide) (by decide) (by decide) (by kernel_rfl) rfl rfl) ?_
     intro Bv A285 Nf A287 Hv Hw hd290 hnb291 hh292
     refine sgw Hv hO fun s hO => ?_
     have ta : Els (Rp.int .i64) (bl [t1 Fl.i 3 i5 j5 i6 d_202, t1 Fl.str 9 mm mj mo iR, .any (mapE (fun a : List UInt8 => Value.string (gstr a)) (fun a : Int => Value.int .i64 a) B126 jb), .blk gJ (.cells #[.int .i64 a0.Points, .bool a0.Monoid, .slice bw a0.Gens.length bx, .slice jC i7 jD, .slice jh jB ji, .slice jz jy jA, .slice fL gq fM, .slice jw jv jx, .int .i64 ci] 123 (0, 0)), t1 (id Fl.fl : Fl rpRule) 185 jw jv jx lM, .row 31 1 fL gq fM iQ, t1 Fl.i 3 jz jy jA lN, t1 Fl.i 3 jh jB ji lO, .row 31 1 uQ (i7 + 1) uR rU, .blk B5 (.cells #[.int .i64 (0 : Int), .bool false, .slice none 0 0, .slice none 0 0, .slice none 0 0, .slice none 0 0, .slice none 0 0, .slice none 0 0, .int .i64 (0 : Int)] 123 (0, 0))] ++ A285) Bv [.int .i64 ci] [ci] := (Els.cons rfl rfl (Els.nil _ _ _) (by simp [mx]))
     refine sgn (e := .row 3 1 (some ⟨Nf, 0, none⟩) 1 1 [.int .i64 ci]) Hw hO sY hw257 hnb291 rfl hh292 hd290 (fr : Fr (bl []) w0 _ Bv) fun s hO hB => ?_
     replace ta := ta.ch s.ch
     refine cl1 Fl.i 0 hO ta.u fun s hO => ?_
     refine GoQA.loudI rfl rfl fun YY A295 Hx => ?_
     refine sgw Hx hO fun s hO => ?_
     refine sfz 0 hO fun s hO Hy P7 => ?_
     refine sapQ 7 hO Hy H (fun yY Ng Nh s hO => ?_) (g := fun _ _ _ _ hv hst h => GoAt.step hv (fun _ => (CSv.cons (cs_eq (J00 3 hO rfl rfl) (J00 3 hst.own rfl rfl)) (CSv.cons (cs_eq (J00 3 hO rfl rfl) (J00 3 hst.own rfl rfl)) (CSv.cons (cs_eq (J00 3 hO rfl rfl) (J00 3 hst.own rfl rfl)) (CSv.cons (cs_eq (J00 3 hO rfl rfl) (J00 3 hst.own rfl rfl)) (CSv.nil _ _)))))) (Stp.kp hO hst) rfl h)
     refine GoQA.alloc rfl rfl (alBuild (n := 1) (parts := [(0, .int .i64 (iG : Int))]) (vs := [.int .i64 (iG : Int)]) Try.underlying31 ti3 (by decide) (by decide) (by decide) (by kernel_rfl) rfl rfl) ?_
     intro Bw A304 Ni A306 Hz HA hd309 hnb310 hh311
     refine sgw Hz hO fun s hO => ?_
     have tc : Els (Rp.int .i64) (bl [t1 Fl.i 3 i5 j5 i6 d_202, t1 Fl.str 9 mm mj mo iR, .any (mapE (fun a : List UInt8 => Value.string (gstr a)) (fun a : Int => Value.int .i64 a) B126 jb), .blk gJ (.cells #[.int .i64 a0.Points, .bool a0.Monoid, .slice bw a0.Gens.length bx, .slice jC i7 jD, .slice jh jB ji, .slice jz jy jA, .slice fL gq fM, .slice jw jv jx, .int .i64 ci] 123 (0, 0)), t1 (id Fl.fl : Fl rpRule) 185 jw jv jx lM, .row 31 1 fL gq fM iQ, t1 Fl.i 3 jz jy jA lN, t1 Fl.i 3 Ng (jB + 1) Nh (lO ++ ([ci])), .row 31 1 uQ (i7 + 1) uR rU, .blk B5 (.cells #[.int .i64 (0 : Int), .bool false, .slice none 0 0, .slice none 0 0, .slice none 0 0, .slice none 0 0, .slice none 0 0, .slice none 0 0, .int .i64 (0 : Int)] 123 (0, 0))] ++ A304) Bw [.int .i64 (iG : Int)] [(iG : Int)] := (Els.cons rfl rfl (Els.nil _ _ _) (by simp [mx]))
     refine sgn (e := .row 3 1 (some ⟨Ni, 0, none⟩) 1 1 [.int .i64 (iG : Int)]) HA hO sY hw257 hnb310 rfl hh311 hd309 (fr : Fr (bl []) w0 _ Bw) fun s hO hB => ?_
     replace tc := tc.ch s.ch
     refine cl1 Fl.i 0 hO tc.u fun s hO => ?_
     refine GoQA.loudI rfl rfl fun uT A314 HB => ?_
     refine sgw HB hO fun s hO => ?_
     refine sfz 0 hO fun s hO rV Eu => ?_
     refine sapQ 6 hO rV H.2 (fun K8 K9 La s hO => ?_) (g := fun _ _ _ _ hv hst h => GoAt.step hv (fun _ => (CSv.cons (cs_eq (J00 3 hO rfl rfl) (J00 3 hst.own rfl rfl)) (CSv.cons (cs_eq (J00 3 hO rfl rfl) (J00 3 hst.own rfl rfl)) (CSv.cons (cs_eq (J00 3 hO rfl rfl) (J00 3 hst.own rfl rfl)) (CSv.cons (cs_eq (J00 3 hO rfl rfl) (J00 3 hst.own rfl rfl)) (CSv.nil _ _)))))) (Stp.kp hO hst) rfl h)
     refine GoQA.lastI rfl rfl fun Y0 A322 HC => ?_
     refine sgw HC hO fun s hO => ?_
     refine sbs 3 hO fun Y1 s hO => ?_
     refine au ?_
     refine GoQA.lastI rfl rfl fun Y2 A326 HD => ?_
     refine sgw HD hO fun s hO => ?_
     refine sbs 3 hO fun Lb s hO => ?_
     refine au ?_
     refine GoQA.lastI rfl rfl fun Y3 A330 HE => ?_
     refine sgw HE hO fun s hO => ?_
     refine sbs 3 hO fun zc s hO => ?_
     refine GoQA.nil fun Ak A334 HF HG => ?_
     refine sgw HF hO fun s hO => ?_
     refine spm HG hO fun s hO => ?_
     refine au ?_
     refine au ?_
     refine sap1 (((ix gK ci) ++ j6)) 1 hO H.2.2 (fun _ KG Y4 Y5 s hO => ?_) (hR := by exact fun _ _ => ⟨rfl, (lenApp wP)⟩)
     refine au ?_
     have zz := omapUpd (MK.str Try.underlying9) 2 hO rfl Try.underlying154 ((ix gK ci) ++ j6) (lP.length : Int)
     obtain ⟨zd, Bx, By⟩ := zz
     refine zg (By (by exact rfl) (by exact rfl) (by exact rfl)) ?_
     refine nst Bx fun s hO => ?_
     refine au ?_
     refine sap1 ((lP.length : Int)) 0 hO H.2.2.2 fun _ zj Lc Y6 s hO => ?_
     refine au ?_
     refine sinc (natbd jQ d6.bd) ?_
     refine au ?_
     exact hX3 _ H.2.2.2.2 _ _ ⟨_, _, _, _, _, _, _, _, _, _, _, _, _, _, _, _, _, _, _, agr, hO, gV.u, xQ.u, fr⟩
    refine au ?_
    refine scm H (fun nV H => ?_) fun nV H => ?_
    ·refine au ?_
     refine sap1 kY 0 hO H fun _ JB Y7 Y8 s hO => ?_
     refine au ?_
     refine sinc (natbd jQ d6.bd) ?_
     refine au ?_
     exact hX3 _ H.2 _ _ ⟨_, _, _, _, _, _, _, _, _, _, _, _, _, _, _, _, _, _, _, agr, hO, gV.u, fx.u, fr⟩
    refine au ?_
    refine six1 1 hO H.1 H.2.1 ?_
    refine sld1 1 hO H.1 H.2.1 ?_
    have hle350 := t1le 1 hO H.1 H.2.1
    refine au ?_
    have AR := H.1
    have l5 := H.2.1
    refine scm H.2.2 (fun kP H => ?_) fun kP H => ?_
    ·refine au ?_
     refine sap1 kY 0 hO H fun _ Y9 aaa aab s hO => ?_
     refine au ?_
     refine sinc (natbd jQ d6.bd) ?_
     refine au ?_
     exact hX3 _ H.2 _ _ ⟨_, _, _, _, _, _, _, _, _, _, _, _, _, _, _, _, _, _, _, agr, hO, gV.u, fx.u, fr⟩
    refine au ?_
    obtain ⟨Nj, H⟩ := H
    obtain ⟨Nk, H⟩ := H
    refine zo (J7T Try.underlying9 rfl rfl Nj Nk) ?_
    by_cases iJ : mhas jb ((((ix gK ci) ++ j6).drop (1 : Int).toNat)) = true
    ·refine zs (olookT (a := (((ix gK ci) ++ j6).drop (1 : Int).toNat)) (MK.str Try.underlying9) 2 hO rfl Try.underlying154 rfl rfl iJ) ?_
     refine au ?_
     refine drw 3 [(0, .pure), (1, .stable), (2, .pure), (3, .pure), (4, .pure), (5, .pure), (6, .stable), (7, .pure), (8, .loud), (9, .last), (10, .pure), (11, .last)] hO fun wC s hO => ?_
     refine au ?_
     refine sxl1 1 hO (ifp iJ H).1 (ifp iJ H).2.1 ?_
     have hle361 := t1le 1 hO (ifp iJ H).1 (ifp iJ H).2.1
     refine GoQ.pure rfl (J06 Try.underlying185 ti185 (pl := [(0, 1), (1, 1)]) (vs := [(0, .string (gstr ((ix gK ci) ++ j6))), (1, .string (gstr (ix iR kY)))]) (cs := #[.string (gstr ((ix gK ci) ++ j6)), .string (gstr (ix iR kY))]) (by kernel_rfl) rfl (by kernel_rfl)) rfl rfl ?_
     refine sapF (⟨(ix gK ci) ++ j6, ix iR kY⟩ : Rule) 4 hO (ifp iJ H).2.2 (fun _ aac aad aae s hO => ?_) (hok := by exact ⟨(lenApp wP), hle361⟩)
     refine au ?_
     refine sbs 3 hO fun aaf s hO => ?_
     refine au ?_
     refine sap1 kY 0 hO (ifp iJ H).2.2.2 fun _ aag aah aai s hO => ?_
     refine au ?_
     refine sinc (natbd jQ d6.bd) ?_
     refine au ?_
     exact hX3 _ (ifp iJ H).2.2.2.2 _ _ ⟨_, _, _, _, _, _, _, _, _, _, _, _, _, _, _, _, _, _, _, agr, hO, gV.u, fx.u, fr⟩
    refine zs (olookF (a := (((ix gK ci) ++ j6).drop (1 : Int).toNat)) (MK.str Try.underlying9) 2 hO rfl Try.underlying154 ti3 rfl rfl iJ) ?_
    refine au ?_
    refine sap1 kY 0 hO (ifn iJ H) fun _ Ld Le Lf s hO => ?_
    refine au ?_
    refine sinc (natbd jQ d6.bd) ?_
    refine au ?_
    exact hX3 _ (ifn iJ H).2 _ _ ⟨_, _, _, _, _, _, _, _, _, _, _, _, _, _, _, _, _, _, _, agr, hO, gV.u, fx.u, fr⟩
   refine au ?_
   refine sfz 0 hO fun s hO HH HI => ?_
   have zz := J1l (r := Rp.sl (Rp.int .i64)) (n := 1) (parts := [(0, .slice i5 j5 i6)]) (vs := [.slice i5 j5 i6]) (xs := [d_202]) rfl Try.underlying23 ti31 hO (by decide) (by kernel_rfl) (Els.cons rfl ⟨i5, i6, congrArg some (congrArg (fun nn => Value.slice i5 nn i6) HI), HH⟩ (Els.nil _ _ _) (by simp [mx])) rfl
   obtain ⟨aaj, aak, Bz, HJ, P8, BA⟩ := zz
   refine zg (BA rfl) ?_
   refine nst Bz fun s hO => ?_
   refine sfzR 0 hO HJ.u fun s hO HK HL => ?_
   obtain ⟨Nl, H⟩ := H
   have zz := oapp Try.underlying23 ti31 rfl 4 hO rfl gV.u HK HL Nl (by decide)
   obtain ⟨aal, aam, aan, P9, BB, xR, BC⟩ := zz
   dsimp only [sS, sZ] at xR
   refine zg (BC (by exact rfl) (by exact rfl)) ?_
   refine nst BB fun s hO => ?_
   refine au ?_
   refine sbs 2 hO fun aao s hO => ?_
   refine au ?_
   obtain ⟨vT, H⟩ := H
   refine zo (J04 rfl rfl (wrap_i64 vT)) ?_
   refine au ?_
   refine sbs 2 hO fun MW s hO => ?_
   refine au ?_
   obtain ⟨Nm, H⟩ := H
   refine zo (J7y rfl rfl (wrap_i64 Nm)) ?_
   refine au ?_
   exact hX2 _ H _ _ ⟨_, _, _, _, _, _, _, _, _, _, _, _, _, _, _, _, _, _, _, _, agr, hO, xR.u, fx.u, fr⟩
  refine au ?_
  refine zs (J05 (vs := [.int .i64 a0.Points, .bool a0.Monoid, .slice bw a0.Gens.length bx, .slice jt kW ju, .slice jq kV jr, .slice iB kU iC, .slice fL gq fM, .slice iq kT iY, .int .i64 ci]) (i := 0) 2 hO rfl rfl Try.underlying123 rfl ti123 rfl) ?_
  refine sba 8 hO fun Lj s hO => ?_
  refine au ?_
  refine sfzR 7 hO mO.u fun s hO sM sN => ?_
  refine sfz 6 hO fun s hO lG mE => ?_
  refine sfz 5 hO fun s hO sO sP => ?_
  refine sfzR 4 hO gV.u fun s hO sQ sR => ?_
  refine sfz 3 hO fun s hO HM HN => ?_
  refine Go1.retC2 Try.func136 rfl rfl (J03 (vs := [.int .i64 a0.Points, .bool a0.Monoid, .slice bw a0.Gens.length bx, .slice jt kW ju, .slice jq kV jr, .slice iB kU iC, .slice fL gq fM, .slice iq kT iY, .int .i64 ci]) 3 hO rfl rfl Try.underlying123 rfl ti123) ⟨((⟨a0.Points, a0.Monoid, a0.Gens, mM, mK, mJ, d_176, d_172, ci⟩ : Enum)), _, _, _, _, _, _, _, _, _, _, _, _, _, ?_, frs, d6.r, sM.r, lG.r, sO.r, sQ.r, HM.r, H⟩
  exact (congrArg (fun l => Value.tuple (List.toArray l)) (J01 (congrArg (fun l => Value.agg (List.toArray l)) (J01 rfl (J01 rfl (J01 rfl (J01 (congrArg (fun nn => Value.slice jt nn ju) sN) (J01 (congrArg (fun nn => Value.slice jq nn jr) mE) (J01 (congrArg (fun nn => Value.slice iB nn iC) sP) (J01 (congrArg (fun nn => Value.slice fL nn fM) sR) (J01 (congrArg (fun nn => Value.slice iq nn iY) HN) (J01 rfl rfl)))))))))) (J01 rfl rfl)))
 refine au ?_
 refine zs (J05 (vs := [.int .i64 a0.Points, .bool a0.Monoid, .slice bw a0.Gens.length bx, .slice jt kW ju, .slice jq kV jr, .slice iB kU iC, .slice fL gq fM, .slice iq kT iY, .int .i64 ci]) (i := 0) 2 hO rfl rfl Try.underlying123 rfl ti123 rfl) ?_
 refine sba 8 hO fun aap s hO => ?_
 refine au ?_
 refine sfzR 7 hO mO.u fun s hO HO HP => ?_
 refine sfz 6 hO fun s hO HQ HR => ?_
 refine sfz 5 hO fun s hO ko HS => ?_
 refine sfzR 4 hO gV.u fun s hO HT HU => ?_
 refine sfz 3 hO fun s hO HV HW => ?_
 refine Go1.retC2 Try.func136 rfl rfl (J03 (vs := [.int .i64 a0.Points, .bool a0.Monoid, .slice bw a0.Gens.length bx, .slice jt kW ju, .slice jq kV jr, .slice iB kU iC, .slice fL gq fM, .slice iq kT iY, .int .i64 ci]) 3 hO rfl rfl Try.underlying123 rfl ti123) ⟨((⟨a0.Points, a0.Monoid, a0.Gens, mM, mK, mJ, d_176, d_172, ci⟩ : Enum)), _, _, _, _, _, _, _, _, _, _, _, _, _, ?_, frs, d6.r, HO.r, HQ.r, ko.r, HT.r, HV.r, H⟩
 exact (congrArg (fun l => Value.tuple (List.toArray l)) (J01 (congrArg (fun l => Value.agg (List.toArray l)) (J01 rfl (J01 rfl (J01 rfl (J01 (congrArg (fun nn => Value.slice jt nn ju) HP) (J01 (congrArg (fun nn => Value.slice jq nn jr) HR) (J01 (congrArg (fun nn => Value.slice iB nn iC) HS) (J01 (congrArg (fun nn => Value.slice fL nn fM) HU) (J01 (congrArg (fun nn => Value.slice iq nn iY) HW) (J01 rfl rfl)))))))))) (J01 rfl rfl)))
theorem body104 : Body Try.prog 104 := ⟨Try.f104, Try.func104, rfl, by kernel_rfl⟩
theorem J4N {A : List Nat} {w0 : World} {dF : Option Addr} {dG : Nat} {gens : List (List Int)} {monoid : Bool} (hA : ∀ b ∈ A, b < w0.heap.size) (fD : ISl (Rp.sl (Rp.int .i64)) A w0 dF dG gens) {K : Enum → Int → Prop} (H : J27 gens monoid K) :
    CallsV Try.prog 104 #[.slice dF gens.length dG, .bool monoid] w0 (fun v w' => ∃ (r0 : Enum), ∃ (r1 : Int), ∃ (dH : Option Addr), ∃ (dI : Nat), ∃ (de : Option Addr), ∃ (dg : Nat), ∃ (cN : Option Addr), ∃ (cO : Nat), ∃ (dJ : Option Addr), ∃ (dK : Nat), ∃ (dh : Option Addr), ∃ (di : Nat), ∃ (dj : Option Addr), ∃ (dk : Nat), v = .tuple #[.agg #[.int .i64 r0.Points, .bool r0.Monoid, .slice dH r0.Gens.length dI, .slice de r0.Elems.length dg, .slice cN r0.Prefix.length cO, .slice dJ r0.Last.length dK, .slice dh r0.Right.length di, .slice dj r0.Rules.length dk, .int .i64 r0.Done], .int .i64 r1] ∧ Same w0 w' ∧ ISl (Rp.sl (Rp.int .i64)) A w' dH dI r0.Gens ∧ ISl (Rp.sl (Rp.int .i64)) A w' de dg r0.Elems ∧ ISl (Rp.int .i64) A w' cN cO r0.Prefix ∧ ISl (Rp.int .i64) A w' dJ dK r0.Last ∧ ISl (Rp.sl (Rp.int .i64)) A w' dh di r0.Right ∧ ISl (rpRule) A w' dj dk r0.Rules ∧ K r0 r1) := by
 refine CallsV.of (l := [.slice dF gens.length dG, .bool monoid]) Try.func104 rfl Try.ntmps104 rfl ?_
 have hO := Owns.start hA
 have hB := Fr.refl (bl []) w0
 unfold J27 at H
 refine au ?_
 refine sal hO fun w1 B2 s hO => ?_
 refine au ?_
 refine zcr (J02 body135 rfl (J4B hO.lt fD.u H)) fun _ w6 => e4 fun r4 r5 eV eX => e4 fun dy dz dA dB => e4 fun eY e8 dQ dR => e2 fun dS dT => sc0 hO fun s hO => d1 fun d7 => d1 fun cG => d4 fun db d8 dC dD H => ?_
 refine au ?_
 refine sal hO fun w7 B8 s hO => ?_
 refine sba 0 hO fun w10 s hO => ?_
 refine au ?_
 refine scm H (fun h11 H => ?_) fun h11 H => ?_
 ·refine au ?_
  refine zs (J05 (vs := [.int .i64 r4.Points, .bool r4.Monoid, .slice eV r4.Gens.length eX, .slice dy r4.Elems.length dz, .slice dA r4.Prefix.length dB, .slice eY r4.Last.length e8, .slice dQ r4.Right.length dR, .slice dS r4.Rules.length dT, .int .i64 r4.Done]) (i := 0) 0 hO rfl rfl Try.underlying123 rfl ti123 rfl) ?_
  refine zcr (J02 body136 rfl (J44 hO.lt d7.u cG.u db.u d8.u dC.u dD.u H)) fun _ w14 => e4 fun r12 r13 te tf => e4 fun pe pg ou ov => e4 fun tg tj ph pk => e2 fun po pp => sc0 hO fun s hO => d1 fun tm => d1 fun pq => d4 fun ow tn pr pt H => ?_
  refine au ?_
  refine sba 1 hO fun w15 s hO => ?_
  refine au ?_
  refine Go1.retC2 Try.func104 rfl rfl (J03 (vs := [.int .i64 r12.Points, .bool r12.Monoid, .slice te r12.Gens.length tf, .slice pe r12.Elems.length pg, .slice ou r12.Prefix.length ov, .slice tg r12.Last.length tj, .slice ph r12.Right.length pk, .slice po r12.Rules.length pp, .int .i64 r12.Done]) 1 hO rfl rfl Try.underlying123 rfl ti123) ⟨((⟨r12.Points, r12.Monoid, r12.Gens, r12.Elems, r12.Prefix, r12.Last, r12.Right, r12.Rules, r12.Done⟩ : Enum)), _, _, _, _, _, _, _, _, _, _, _, _, _, ?_, frs, tm.r, pq.r, ow.r, tn.r, pr.r, pt.r, H⟩
  exact rfl
 refine au ?_
 refine zo (J06 Try.underlying123 ti123 (pl := [(0, 1), (1, 1), (2, 1), (3, 1), (4, 1), (5, 1), (6, 1), (7, 1), (8, 1)]) (vs := []) (cs := #[.int .i64 (0 : Int), .bool false, .slice none 0 0, .slice none 0 0, .slice none 0 0, .slice none 0 0, .slice none 0 0, .slice none 0 0, .int .i64 (0 : Int)]) (by kernel_rfl) rfl (by kernel_rfl)) ?_
 refine au ?_
 refine sba 1 hO fun w16 s hO => ?_
 refine au ?_
 refine Go1.retC2 Try.func104 rfl rfl (J03 (vs := [.int .i64 (0 : Int), .bool false, .slice none 0 0, .slice none 0 0, .slice none 0 0, .slice none 0 0, .slice none 0 0, .slice none 0 0, .int .i64 (0 : Int)]) 1 hO rfl rfl Try.underlying123 rfl ti123) ⟨((⟨(0 : Int), false, ([] : List (List Int)), ([] : List (List Int)), ([] : List Int), ([] : List Int), ([] : List (List Int)), ([] : List Rule), (0 : Int)⟩ : Enum)), _, _, _, _, _, _, _, _, _, _, _, _, _, ?_, frs, (ISl.null _ _ _), (ISl.null _ _ _), (ISl.null _ _ _), (ISl.null _ _ _), (ISl.null _ _ _), (ISl.null _ _ _), H⟩
 exact rfl
theorem body105 : Body Try.prog 105 := ⟨Try.f105, Try.func105, rfl, by kernel_rfl⟩
theorem J4L {A : List Nat} {w0 : World} {dp : Option Addr} {dq : Nat} {cU : Option Addr} {cV : Nat} {cK : Option Addr} {cL : Nat} {dr : Option Addr} {dt : Nat} {cW : Option Addr} {cX : Nat} {cY : Option Addr} {c8 : Nat} {e : Enum} (hA : ∀ b ∈ A, b < w0.heap.size) (oh : ISl (Rp.sl (Rp.int .i64)) A w0 dp dq e.Gens) (gW : ISl (Rp.sl (Rp.int .i64)) A w0 cU cV e.Elems) (jo : ISl (Rp.int .i64) A w0 cK cL e.Prefix) (iE : ISl (Rp.int .i64) A w0 dr dt e.Last) (jY : ISl (Rp.sl (Rp.int .i64)) A w0 cW cX e.Right) (mp : ISl (rpRule) A w0 cY c8 e.Rules) {K : List (List Int) → Prop} (H : J2g e K) :
    CallsV Try.prog 105 #[.agg #[.int .i64 e.Points, .bool e.Monoid, .slice dp e.Gens.length dq, .slice cU e.Elems.length cV, .slice cK e.Prefix.length cL, .slice dr e.Last.length dt, .slice cW e.Right.length cX, .slice cY e.Rules.length c8, .int .i64 e.Done]] w0 (fun v w' => ∃ (r0 : List (List Int)), ∃ (bS : Option Addr), ∃ (bT : Nat), v = .slice bS r0.length bT ∧ Same w0 w' ∧ ISl (Rp.sl (Rp.int .i64)) A w' bS bT r0 ∧ K r0) := by
 refine CallsV.of (l := [.agg #[.int .i64 e.Points, .bool e.Monoid, .slice dp e.Gens.length dq, .slice cU e.Elems.length cV, .slice cK e.Prefix.length cL, .slice dr e.Last.length dt, .slice cW e.Right.length cX, .slice cY e.Rules.length c8, .int .i64 e.Done]]) Try.func105 rfl Try.ntmps105 rfl ?_
 have hO := Owns.start hA
 have hB := Fr.refl (bl []) w0
 unfold J2g at H
 refine au ?_
 refine sbx hO fun w1 B2 s hO => ?_
 refine au ?_
 refine sln0 ?_
 refine au ?_
 have m9 := Stp.nil (e := 31) (r := 1) hO
 refine nst m9 fun s hO => ?_
 have hE6 := Els.nil (Rp.sl (Rp.int .i64)) (bl (.row 31 1 none 0 0 [] :: [.blk B2 (.cells #[.int .i64 e.Points, .bool e.Monoid, .slice dp e.Gens.length dq, .slice cU e.Elems.length cV, .slice cK e.Prefix.length cL, .slice dr e.Last.length dt, .slice cW e.Right.length cX, .slice cY e.Rules.length c8, .int .i64 e.Done] 123 (0, 0))]) ++ A) w1
 refine lw (H gW.bd) (fun (k1_8, out1_9) σ w => ∃ n14 p12 c13 fC, (fun Z => agrees σ [(1, .pointer (some ⟨B2, 0, none⟩)), (3, .slice p12 n14 c13), (12, .int .i64 (e.Elems.length : Int)), (13, .int .i64 (k1_8 : Int))] ∧ Owns w0.heap.size w Z A ∧ Els (Rp.sl (Rp.int .i64)) (bl Z ++ A) w fC out1_9 ∧ Fr (bl []) w0 (bl Z) w) [.row 31 1 p12 n14 c13 fC, .blk B2 (.cells #[.int .i64 e.Points, .bool e.Monoid, .slice dp e.Gens.length dq, .slice cU e.Elems.length cV, .slice cK e.Prefix.length cL, .slice dr e.Last.length dt, .slice cW e.Right.length cX, .slice cY e.Rules.length c8, .int .i64 e.Done] 123 (0, 0))]) ⟨_, _, _, _, agr, hO, hE6.u, fr⟩ ?_
 refine fun X1 => p1 fun k1_8 out1_9 => fun H hX1 σ w7 => e4 fun n14 p12 c13 fC => d3 fun hag hO cM hB => ?_
 dsimp only at H
 refine Go1.keep _ hag ?_
 revert hO; repeat (rename Owns _ _ _ _ => q; clear q)
 intro hO; repeat (rename Sq _ _ _ _ _ _ => q; clear q)
 refine au ?_
 refine scm H (fun h15 H => ?_) fun h15 H => ?_
 ·refine au ?_
  refine sln0 ?_
  refine au ?_
  refine snil Fl.i 3 hO fun s hO => ?_
  refine lw H (fun (jm, row2_19) σ w => ∃ n22 p20 c21, (fun Z => agrees σ [(1, .pointer (some ⟨B2, 0, none⟩)), (3, .slice p12 n14 c13), (4, .int .i64 (k1_8 : Int)), (5, .slice p20 n22 c21), (12, .int .i64 (e.Elems.length : Int)), (13, .int .i64 (k1_8 : Int)), (18, .int .i64 (e.Elems.length : Int)), (19, .int .i64 (jm : Int))] ∧ Owns w0.heap.size w Z A ∧ Els (Rp.sl (Rp.int .i64)) (bl Z ++ A) w fC out1_9 ∧ Fr (bl []) w0 (bl Z) w) [t1 Fl.i 3 p20 n22 c21 row2_19, .row 31 1 p12 n14 c13 fC, .blk B2 (.cells #[.int .i64 e.Points, .bool e.Monoid, .slice dp e.Gens.length dq, .slice cU e.Elems.length cV, .slice cK e.Prefix.length cL, .slice dr e.Last.length dt, .slice cW e.Right.length cX, .slice cY e.Rules.length c8, .int .i64 e.Done] 123 (0, 0))]) ⟨_, _, _, agr, hO, cM.u, fr⟩ ?_
  refine fun X2 => p1 fun jm row2_19 => fun H hX2 σ w17 => e3 fun n22 p20 c21 => d3 fun hag hO cM hB => ?_
  dsimp only at H
  refine Go1.keep _ hag ?_
  revert hO; repeat (rename Owns _ _ _ _ => q; clear q)
  intro hO; repeat (rename Sq _ _ _ _ _ _ => q; clear q)
  refine au ?_
  refine scm H (fun h23 H => ?_) fun h23 H => ?_
  ·refine au ?_
   refine zs (J05 (vs := [.int .i64 e.Points, .bool e.Monoid, .slice dp e.Gens.length dq, .slice cU e.Elems.length cV, .slice cK e.Prefix.length cL, .slice dr e.Last.length dt, .slice cW e.Right.length cX, .slice cY e.Rules.length c8, .int .i64 e.Done]) (i := 0) 2 hO rfl rfl Try.underlying123 rfl ti123 rfl) ?_
   refine au ?_
   refine zcr (J02 body106 rfl (J0G hO.lt oh.u gW.u jo.u iE.u jY.u mp.u H)) fun _ w25 => e1 fun r24 => sc0 hO fun s hO => d1 fun t7 H => ?_
   refine au ?_
   refine lw H (fun (at3_27, i3_28) σ w => (fun Z => agrees σ [(1, .pointer (some ⟨B2, 0, none⟩)), (3, .slice p12 n14 c13), (4, .int .i64 (k1_8 : Int)), (5, .slice p20 n22 c21), (7, .string (gstr r24)), (8, .int .i64 at3_27), (9, .int .i64 (i3_28 : Int)), (12, .int .i64 (e.Elems.length : Int)), (13, .int .i64 (k1_8 : Int)), (18, .int .i64 (e.Elems.length : Int)), (19, .int .i64 (jm : Int))] ∧ Owns w0.heap.size w Z A ∧ Els (Rp.sl (Rp.int .i64)) (bl Z ++ A) w fC out1_9 ∧ Fr (bl []) w0 (bl Z) w) [t1 Fl.i 3 p20 n22 c21 row2_19, .row 31 1 p12 n14 c13 fC, .blk B2 (.cells #[.int .i64 e.Points, .bool e.Monoid, .slice dp e.Gens.length dq, .slice cU e.Elems.length cV, .slice cK e.Prefix.length cL, .slice dr e.Last.length dt, .slice cW e.Right.length cX, .slice cY e.Rules.length c8, .int .i64 e.Done] 123 (0, 0))]) ⟨agr, hO, cM.u, fr⟩ ?_
   refine fun X3 => p1 fun at3_27 i3_28 => fun H hX3 σ w26 => d3 fun hag hO cM hB => ?_
   dsimp only at H
   refine Go1.keep _ hag ?_
   revert hO; repeat (rename Owns _ _ _ _ => q; clear q)
   intro hO; repeat (rename Sq _ _ _ _ _ _ => q; clear q)
   refine au ?_
   refine zo (J8J Try.underlying9 rfl) ?_
   replace H := H t7
   refine scm H (fun h29 H => ?_) fun h29 H => ?_
   ·refine au ?_
    refine drw 0 [(0, .pure), (1, .stable), (2, .pure), (3, .pure), (4, .stable), (5, .pure), (6, .pure), (7, .pure), (8, .pure), (9, .pure), (10, .pure), (11, .stable), (12, .pure)] hO fun w30 s hO => ?_
    refine au ?_
    refine sxls hO jY.u H.1 H.2.1 fun p31 c32 tp => ?_
    refine au ?_
    have h34 := H.1
    have h35 := H.2.1
    replace H := H.2.2
    obtain ⟨h36, H⟩ := H
    obtain ⟨h37, H⟩ := H
    refine GoQ.pure rfl (J7z Try.underlying9 rfl rfl h36 h37) rfl rfl ?_
    refine GoQ.pure rfl (J7y rfl rfl rfl) rfl rfl ?_
    refine GoQ.pure rfl (J2H Try.underlying5 Try.underlying3 rfl rfl) rfl rfl ?_
    refine sxl hO tp.u H.1 H.2.1 ?_
    refine au ?_
    refine sinc (natbd h29 t7) ?_
    refine au ?_
    exact hX3 _ H.2.2 _ _ ⟨agr, hO, cM.u, fr⟩
   refine au ?_
   refine sap1 at3_27 0 hO H fun _ w38 p39 c40 s hO => ?_
   refine au ?_
   refine sinc (natbd h23 gW.bd) ?_
   refine au ?_
   exact hX2 _ H.2 _ _ ⟨_, _, _, agr, hO, cM.u, fr⟩
  refine au ?_
  refine sfz 0 hO fun s hO nH Nn => ?_
  have zz := J1l (r := Rp.sl (Rp.int .i64)) (n := 1) (parts := [(0, .slice p20 n22 c21)]) (vs := [.slice p20 n22 c21]) (xs := [row2_19]) rfl Try.underlying23 ti31 hO (by decide) (by kernel_rfl) (Els.cons rfl ⟨p20, c21, congrArg some (congrArg (fun nn => Value.slice p20 nn c21) Nn), nH⟩ (Els.nil _ _ _) (by simp [mx])) rfl
  obtain ⟨w43, p44, sE, wy, aaq, sD⟩ := zz
  refine zg (sD rfl) ?_
  refine nst sE fun s hO => ?_
  refine sfzR 0 hO wy fun s hO iV sy => ?_
  obtain ⟨h52, H⟩ := H
  have zz := oapp Try.underlying23 ti31 rfl 0 hO rfl cM.u iV sy h52 (by decide)
  obtain ⟨w53, p54, c55, aar, HX, BD, qD⟩ := zz
  dsimp only [sS, sZ] at BD
  refine zg (qD (by exact rfl) (by exact rfl)) ?_
  refine nst HX fun s hO => ?_
  refine au ?_
  refine sinc (natbd h15 gW.bd) ?_
  refine au ?_
  exact hX1 _ H _ _ ⟨_, _, _, _, agr, hO, BD, fr⟩
 refine au ?_
 refine sfzR 0 hO cM.u fun s hO Np ss => ?_
 refine Go1.ret1 Try.func105 rfl ⟨_, _, _, ?_, frs, Np.r, H⟩
 exact (congrArg (fun nn => Value.slice p12 nn c13) ss)
theorem body138 : Body Try.prog 138 := ⟨Try.f138, Try.func138, rfl, by kernel_rfl⟩
theorem J5m {A : List Nat} {w0 : World} {p_l : Option Addr} {c_l : Nat} {l : List Int} {n : Int} (hA : ∀ b ∈ A, b < w0.heap.size) (h_l : ISl (Rp.int .i64) A w0 p_l c_l l) {K : List Bool → Prop} (H : J31 l n K) :
    CallsV Try.prog 138 #[.slice p_l l.length c_l, .int .i64 n] w0 (fun v w' => ∃ (r0 : List Bool), ∃ (gA : Nat), ∃ (bS : Option Addr), ∃ (bT : Nat), v = .slice bS gA bT ∧ Same w0 w' ∧ Owns w0.heap.size w' [t1 Fl.bool 4 bS gA bT r0] A ∧ K r0) := by
 refine CallsV.of (l := [.slice p_l l.length c_l, .int .i64 n]) Try.func138 rfl Try.ntmps138 rfl ?_
 have hO := Owns.start hA
 have hB := Fr.refl (bl []) w0
 unfold J31 at H
 refine au ?_
 refine smk Fl.bool H hO fun w1 p4 s hO => ?_
 refine au ?_
 refine sln0 ?_
 refine au ?_
 refine lw (H.2.2 h_l.bd) (fun (bC, out1_8) σ w => (fun Z => agrees σ [(1, .int .i64 n), (5, .slice p4 n.toNat n.toNat), (10, .slice p_l l.length c_l), (11, .int .i64 (l.length : Int)), (12, .int .i64 (bC : Int))] ∧ Owns w0.heap.size w Z A ∧ Fr (bl []) w0 (bl Z) w) [t1 Fl.bool 4 p4 n.toNat n.toNat out1_8]) ⟨agr, hO, fr⟩ ?_
 refine fun X1 => p1 fun bC out1_8 => fun H hX1 σ w6 => d2 fun hag hO hB => ?_
 dsimp only at H
 refine Go1.keep _ hag ?_
 revert hO; repeat (rename Owns _ _ _ _ => q; clear q)
 intro hO; repeat (rename Sq _ _ _ _ _ _ => q; clear q)
 refine au ?_
 refine scm H (fun h9 H => ?_) fun h9 H => ?_
 ·refine au ?_
  refine sxl hO h_l.u H.1 H.2.1 ?_
  refine au ?_
  have h10 := H.1
  have h11 := H.2.1
  refine scm H.2.2 (fun h12 H => ?_) fun h12 H => ?_
  ·refine au ?_
   refine scm H (fun h13 H => ?_) fun h13 H => ?_
   ·refine au ?_
    refine six1 0 hO H.1 H.2.1 ?_
    refine sst (u := true) 0 hO H.1 H.2.1 fun w14 s hO => ?_
    refine au ?_
    refine sinc (natbd h9 h_l.bd) ?_
    refine au ?_
    exact hX1 _ H.2.2 _ _ ⟨agr, hO, fr⟩
   refine au ?_
   refine sinc (natbd h9 h_l.bd) ?_
   refine au ?_
   exact hX1 _ H _ _ ⟨agr, hO, fr⟩
  refine au ?_
  refine sinc (natbd h9 h_l.bd) ?_
  refine au ?_
  exact hX1 _ H _ _ ⟨agr, hO, fr⟩
 refine au ?_
 refine Go1.ret1 Try.func138 rfl ⟨_, _, _, _, ?_, frs, hO, H⟩
 exact rfl
theorem body58 : Body Try.prog 58 := ⟨Try.f58, Try.func58, rfl, by kernel_rfl⟩
theorem J3V {A : List Nat} {w0 : World} {lQ : Option Addr} {lR : Nat} {set_ : List Bool} (hA : ∀ b ∈ A, b < w0.heap.size) (lT : ISl (Rp.bool) A w0 lQ lR set_) {K : List Int → Prop} (H : J16 set_ K) :
    CallsV Try.prog 58 #[.slice lQ set_.length lR] w0 (fun v w' => ∃ (r0 : List Int), ∃ (gA : Nat), ∃ (bS : Option Addr), ∃ (bT : Nat), v = .slice bS gA bT ∧ Same w0 w' ∧ Owns w0.heap.size w' [t1 Fl.i 3 bS gA bT r0] A ∧ K r0) := by
 refine CallsV.of (l := [.slice lQ set_.length lR]) Try.func58 rfl Try.ntmps58 rfl ?_
 have hO := Owns.start hA
 have hB := Fr.refl (bl []) w0
 unfold J16 at H
 refine au ?_
 refine sln0 ?_
 refine au ?_
 refine snil Fl.i 3 hO fun s hO => ?_
 refine lw (H lT.bd) (fun (k1_3, BE) σ w => ∃ n7 p5 c6, (fun Z => agrees σ [(3, .slice p5 n7 c6), (6, .slice lQ set_.length lR), (7, .int .i64 (set_.length : Int)), (8, .int .i64 (k1_3 : Int))] ∧ Owns w0.heap.size w Z A ∧ Fr (bl []) w0 (bl Z) w) [t1 Fl.i 3 p5 n7 c6 BE]) ⟨_, _, _, agr, hO, fr⟩ ?_
 refine fun X1 => p1 fun k1_3 BE => fun H hX1 σ w2 => e3 fun n7 p5 c6 => d2 fun hag hO hB => ?_
 dsimp only at H
 refine Go1.keep _ hag ?_
 revert hO; repeat (rename Owns _ _ _ _ => q; clear q)
 intro hO; repeat (rename Sq _ _ _ _ _ _ => q; clear q)
 refine au ?_
 refine scm H (fun h8 H => ?_) fun h8 H => ?_
 ·refine au ?_
  have h9 := H.1
  have h10 := H.2.1
  refine sxb hO lT.u H.1 H.2.1 H.2.2 (fun h11 H => ?_) fun h11 H => ?_
  ·refine au ?_
   refine sap1 ((k1_3 : Int)) 0 hO H fun _ w12 p13 c14 s hO => ?_
   refine au ?_
   refine sinc (natbd h8 lT.bd) ?_
   refine au ?_
   exact hX1 _ H.2 _ _ ⟨_, _, _, agr, hO, fr⟩
  refine au ?_
  refine sinc (natbd h8 lT.bd) ?_
  refine au ?_
  exact hX1 _ H _ _ ⟨_, _, _, agr, hO, fr⟩
 refine au ?_
 refine Go1.ret1 Try.func58 rfl ⟨_, _, _, _, ?_, frs, hO, H⟩
 exact rfl
theorem body108 : Body Try.prog 108 := ⟨Try.f108, Try.func108, rfl, by kernel_rfl⟩
theorem J3o {A : List Nat} {w0 : World} {p_t : Option Addr} {c_t : Nat} {dF : Option Addr} {dG : Nat} {t : List (List Int)} {gens : List Int} (hA : ∀ b ∈ A, b < w0.heap.size) (h_t : ISl (Rp.sl (Rp.int .i64)) A w0 p_t c_t t) (fD : ISl (Rp.int .i64) A w0 dF dG gens) {K : List Int → Prop} (H : J0H t gens K) :
    CallsV Try.prog 108 #[.slice p_t t.length c_t, .slice dF gens.length dG] w0 (fun v w' => ∃ (r0 : List Int), ∃ (gA : Nat), ∃ (bS : Option Addr), ∃ (bT : Nat), v = .slice bS gA bT ∧ Same w0 w' ∧ Owns w0.heap.size w' [t1 Fl.i 3 bS gA bT r0] A ∧ K r0) := by
 refine CallsV.of (l := [.slice p_t t.length c_t, .slice dF gens.length dG]) Try.func108 rfl Try.ntmps108 rfl ?_
 have hO := Owns.start hA
 have hB := Fr.refl (bl []) w0
 unfold J0H at H
 refine au ?_
 refine sln0 ?_
 refine zcr (J02 body138 rfl (J5m hO.lt fD.u (H h_t.bd))) fun _ w3 => e4 fun r1 k8 fh fk => sc1 hO fun s hO => fun H => ?_
 refine au ?_
 refine lw H (fun (changed1_6, in1_7) σ w => (fun Z => agrees σ [(0, .slice p_t t.length c_t), (5, .slice fh k8 fk), (6, .bool changed1_6)] ∧ Owns w0.heap.size w Z A ∧ Fr (bl []) w0 (bl Z) w) [t1 Fl.bool 4 fh k8 fk in1_7]) ⟨agr, hO, fr⟩ ?_
 refine fun X1 => p1 fun changed1_6 in1_7 => fun H hX1 σ w5 => d2 fun hag hO hB => ?_
 dsimp only at H
 refine Go1.keep _ hag ?_
 revert hO; repeat (rename Owns _ _ _ _ => q; clear q)
 intro hO; repeat (rename Sq _ _ _ _ _ _ => q; clear q)
 refine au ?_
 cases changed1_6
 ·refine au ?_
  have hl8 := t1lend 0 hO
  have hn9 := t1n 0 hO
  have hOc10 := hO.drop 0
  refine zcr (J02 body58 (show ([.slice fh k8 fk] : List Value) = [.slice fh in1_7.length fk] from by rw [← hn9]) (J3V hOc10.lt hl8 (iF H))) fun _ w13 => e4 fun r11 Qa CA CB => sc1 hO fun s hO => fun H => ?_
  refine au ?_
  refine sdr [1] hO fun s hO => ?_
  refine Go1.ret1 Try.func108 rfl ⟨_, _, _, _, ?_, frs, hO, H⟩
  exact rfl
 refine au ?_
 refine sln0 ?_
 refine au ?_
 refine lw (iT H) (fun (changed2_16, mQ, in2_18) σ w => (fun Z => agrees σ [(0, .slice p_t t.length c_t), (5, .slice fh k8 fk), (6, .bool changed2_16), (15, .int .i64 (t.length : Int)), (16, .int .i64 (mQ : Int))] ∧ Owns w0.heap.size w Z A ∧ Fr (bl []) w0 (bl Z) w) [t1 Fl.bool 4 fh k8 fk in2_18]) ⟨agr, hO, fr⟩ ?_
 refine fun X2 => p2 fun changed2_16 mQ in2_18 => fun H hX2 σ w15 => d2 fun hag hO hB => ?_
 dsimp only at H
 refine Go1.keep _ hag ?_
 revert hO; repeat (rename Owns _ _ _ _ => q; clear q)
 intro hO; repeat (rename Sq _ _ _ _ _ _ => q; clear q)
 refine au ?_
 refine scm H (fun h19 H => ?_) fun h19 H => ?_
 ·refine au ?_
  refine sln0 ?_
  refine au ?_
  refine lw H (fun (changed3_21, xS, in3_23) σ w => (fun Z => agrees σ [(0, .slice p_t t.length c_t), (5, .slice fh k8 fk), (6, .bool changed3_21), (7, .int .i64 (mQ : Int)), (15, .int .i64 (t.length : Int)), (16, .int .i64 (mQ : Int)), (20, .int .i64 (t.length : Int)), (21, .int .i64 (xS : Int))] ∧ Owns w0.heap.size w Z A ∧ Fr (bl []) w0 (bl Z) w) [t1 Fl.bool 4 fh k8 fk in3_23]) ⟨agr, hO, fr⟩ ?_
  refine fun X3 => p2 fun changed3_21 xS in3_23 => fun H hX3 σ w20 => d2 fun hag hO hB => ?_
  dsimp only at H
  refine Go1.keep _ hag ?_
  revert hO; repeat (rename Owns _ _ _ _ => q; clear q)
  intro hO; repeat (rename Sq _ _ _ _ _ _ => q; clear q)
  refine au ?_
  refine scm H (fun h24 H => ?_) fun h24 H => ?_
  ·refine au ?_
   have h25 := H.1
   have h26 := H.2.1
   refine sxb1 0 hO H.1 H.2.1 H.2.2 (fun h27 H => ?_) fun h27 H => ?_
   ·refine au ?_
    refine six1 0 hO H.1 H.2.1 ?_
    have h28 := H.1
    have h29 := H.2.1
    refine sbd1 0 hO H.1 H.2.1 H.2.2 (fun h30 H => ?_) fun h30 H => ?_
    ·refine au ?_
     refine six h_t H.1 H.2.1 ?_
     refine slds hO h_t.u H.1 H.2.1 fun p31 c32 tp => ?_
     refine au ?_
     refine six tp H.2.2.1 H.2.2.2.1 ?_
     refine sld hO tp.u H.2.2.1 H.2.2.2.1 ?_
     refine six1 0 hO H.2.2.2.2.1 H.2.2.2.2.2.1 ?_
     have h34 := H.1
     have h35 := H.2.1
     have h36 := H.2.2.1
     have h37 := H.2.2.2.1
     have h38 := H.2.2.2.2.1
     have h39 := H.2.2.2.2.2.1
     refine sbd1 0 hO H.2.2.2.2.1 H.2.2.2.2.2.1 H.2.2.2.2.2.2 (fun h40 H => ?_) fun h40 H => ?_
     ·refine au ?_
      refine sinc (natbd h24 h_t.bd) ?_
      refine au ?_
      exact hX3 _ H _ _ ⟨agr, hO, fr⟩
     refine au ?_
     refine sxls hO h_t.u H.1 H.2.1 fun p41 c42 Nq => ?_
     refine au ?_
     refine sxl hO Nq.u H.2.2.1 H.2.2.2.1 ?_
     refine six1 0 hO H.2.2.2.2.1 H.2.2.2.2.2.1 ?_
     refine sst (u := true) 0 hO H.2.2.2.2.1 H.2.2.2.2.2.1 fun w44 s hO => ?_
     refine au ?_
     refine sinc (natbd h24 h_t.bd) ?_
     refine au ?_
     exact hX3 _ H.2.2.2.2.2.2 _ _ ⟨agr, hO, fr⟩
    refine au ?_
    refine sinc (natbd h24 h_t.bd) ?_
    refine au ?_
    exact hX3 _ H _ _ ⟨agr, hO, fr⟩
   refine au ?_
   refine sinc (natbd h24 h_t.bd) ?_
   refine au ?_
   exact hX3 _ H _ _ ⟨agr, hO, fr⟩
  refine au ?_
  refine sinc (natbd h19 h_t.bd) ?_
  refine au ?_
  exact hX2 _ H _ _ ⟨agr, hO, fr⟩
 refine au ?_
 exact hX1 _ H _ _ ⟨agr, hO, fr⟩
theorem body64 : Body Try.prog 64 := ⟨Try.f64, Try.func64, rfl, by kernel_rfl⟩
theorem J5R {A : List Nat} {w0 : World} {fQ : Option Addr} {fR : Nat} {tq : Option Addr} {tt : Nat} {a0 : List (List Int)} {a1 : Int} {a2 : List Bool} (hA : ∀ b ∈ A, b < w0.heap.size) (fm : ISl (Rp.sl (Rp.int .i64)) A w0 fQ fR a0) (Nr : ISl (Rp.bool) A w0 tq tt a2) {K : Syntactic → Int → Prop} (H : J3X a0 a1 a2 K) :
    CallsV Try.prog 64 #[.slice fQ a0.length fR, .int .i64 a1, .slice tq a2.length tt] w0 (fun v w' => ∃ (r0 : Syntactic), ∃ (r1 : Int), ∃ (eF : Option Addr), ∃ (eG : Nat), ∃ (eH : Option Addr), ∃ (eI : Nat), ∃ (dU : Option Addr), ∃ (dV : Nat), ∃ (dW : Option Addr), ∃ (dX : Nat), ∃ (fq : Option Addr), ∃ (ft : Nat), v = .tuple #[.agg #[.int .i64 r0.Letters, .slice eF r0.Table.length eG, .slice eH r0.Words.length eI, .slice dU r0.Images.length dV, .slice dW r0.Accept.length dX, .slice fq r0.Plus.length ft], .int .i64 r1] ∧ Same w0 w' ∧ ISl (Rp.sl (Rp.int .i64)) A w' eF eG r0.Table ∧ ISl (Rp.str) A w' eH eI r0.Words ∧ ISl (Rp.int .i64) A w' dU dV r0.Images ∧ ISl (Rp.bool) A w' dW dX r0.Accept ∧ ISl (Rp.bool) A w' fq ft r0.Plus ∧ K r0 r1) := by
 refine CallsV.of (l := [.slice fQ a0.length fR, .int .i64 a1, .slice tq a2.length tt]) Try.func64 rfl Try.ntmps64 rfl ?_
 have hO := Owns.start hA
 have hB := Fr.refl (bl []) w0
 unfold J3X at H
 refine au ?_
 refine sal hO fun w1 B2 s hO => ?_
 refine au ?_
 refine zcr (J02 body104 rfl (J4N hO.lt fm.u H)) fun _ w6 => e4 fun r4 r5 eV eX => e4 fun dy dz dA dB => e4 fun eY e8 dQ dR => e2 fun dS dT => sc0 hO fun s hO => d1 fun d7 => d1 fun cG => d4 fun db d8 dC dD H => ?_
 refine au ?_
 refine sal hO fun w7 B8 s hO => ?_
 refine sba 0 hO fun w10 s hO => ?_
 refine au ?_
 refine scm H (fun h11 H => ?_) fun h11 H => ?_
 ·refine au ?_
  refine sln0 ?_
  refine scm (H cG.bd) (fun h12 H => ?_) fun h12 H => ?_
  ·refine au ?_
   refine zo (J06 Try.underlying33 ti33 (pl := [(0, 1), (1, 1), (2, 1), (3, 1), (4, 1), (5, 1)]) (vs := []) (cs := #[.int .i64 (0 : Int), .slice none 0 0, .slice none 0 0, .slice none 0 0, .slice none 0 0, .slice none 0 0]) (by kernel_rfl) rfl (by kernel_rfl)) ?_
   refine sba 1 hO fun w13 s hO => ?_
   refine au ?_
   refine Go1.retC2 Try.func64 rfl rfl (J03 (vs := [.int .i64 (0 : Int), .slice none 0 0, .slice none 0 0, .slice none 0 0, .slice none 0 0, .slice none 0 0]) 1 hO rfl rfl Try.underlying33 rfl ti33) ⟨((⟨(0 : Int), ([] : List (List Int)), ([] : List Str), ([] : List Int), ([] : List Bool), ([] : List Bool)⟩ : Syntactic)), _, _, _, _, _, _, _, _, _, _, _, ?_, frs, (ISl.null _ _ _), (ISl.null _ _ _), (ISl.null _ _ _), (ISl.null _ _ _), (ISl.null _ _ _), H⟩
   exact rfl
  refine au ?_
  refine drA Same.tr 1 [(0, .pure), (1, .pure), (2, .stable), (4, .pure), (5, .stable), (6, .pure), (3, .loud), (7, .alloc), (8, .pure), (9, .alloc), (10, .last)] hO fun w14 s hO => ?_
  have iW := hO.le
  have hw16 := (fr : Fr (bl []) w0 _ w14).ch.size
  refine au ?_
  refine sln0 ?_
  refine GoQA.stable rfl (J05 (vs := [.int .i64 r4.Points, .bool r4.Monoid, .slice eV r4.Gens.length eX, .slice dy r4.Elems.length dz, .slice dA r4.Prefix.length dB, .slice eY r4.Last.length e8, .slice dQ r4.Right.length dR, .slice dS r4.Rules.length dT, .int .i64 r4.Done]) (i := 0) 0 hO rfl rfl Try.underlying123 rfl ti123 rfl) rfl rfl ?_
  refine au ?_
  refine sbl 0 ?_
  refine sln0 ?_
  refine GoQA.loudI rfl rfl fun w17 A18 ww => ?_
  refine sgw ww hO fun s hO => ?_
  refine GoAt.call (J02 body105 rfl (J4L hO.lt d7.u cG.u db.u d8.u dC.u dD.u (H fm.bd))) (fun _ _ hr => ⟨fun _ => saq hr, Same.kp hO (saq hr)⟩) rfl fun _ w21 => e3 fun r20 aY a8 => sA0 hO fun s hO => d1 fun gL H => ?_
  obtain ⟨h32, H⟩ := H
  obtain ⟨h33, H⟩ := H
  have zz := alMakeE (n := (r4.Elems.length : Int)) (r := Rp.bool) (d := false) Try.underlying22 ti4 (fun _ _ => rfl) rfl h32 h33 (by decide)
  obtain ⟨nI, hal36, Nt⟩ := zz
  refine GoQA.alloc rfl rfl (hal36 rfl rfl) ?_
  intro w23 A24 b25 A26 Nu Nv hd29 hnb30 hh31
  refine sgw Nu hO fun s hO => ?_
  have wQ := Nt (bl [.blk B8 (.cells #[.int .i64 r4.Points, .bool r4.Monoid, .slice eV r4.Gens.length eX, .slice dy r4.Elems.length dz, .slice dA r4.Prefix.length dB, .slice eY r4.Last.length e8, .slice dQ r4.Right.length dR, .slice dS r4.Rules.length dT, .int .i64 r4.Done] 123 (0, 0)), .blk B2 (.cells #[.int .i64 (0 : Int), .slice none 0 0, .slice none 0 0, .slice none 0 0, .slice none 0 0, .slice none 0 0] 33 (0, 0))] ++ A24) w23
  refine sgn (e := .row 4 1 (some ⟨b25, 0, none⟩) r4.Elems.length r4.Elems.length nI) Nv hO iW hw16 hnb30 rfl hh31 hd29 (fr : Fr (bl []) w0 _ w23) fun s hO hB => ?_
  replace wQ := wQ.ch s.ch
  refine cl1 Fl.bool 0 hO wQ.u fun s hO => ?_
  refine GoQA.pure rfl (J06 Try.underlying33 ti33 (pl := [(0, 1), (1, 1), (2, 1), (3, 1), (4, 1), (5, 1)]) (vs := [(0, .int .i64 (a0.length : Int)), (1, .slice aY r20.length a8), (5, .slice (some ⟨b25, 0, none⟩) r4.Elems.length r4.Elems.length)]) (cs := #[.int .i64 (a0.length : Int), .slice aY r20.length a8, .slice none 0 0, .slice none 0 0, .slice none 0 0, .slice (some ⟨b25, 0, none⟩) r4.Elems.length r4.Elems.length]) (by kernel_rfl) rfl (by kernel_rfl)) rfl rfl ?_
  refine GoQA.alloc rfl rfl (alAlloc (cs := #[.int .i64 (0 : Int), .slice none 0 0, .slice none 0 0, .slice none 0 0, .slice none 0 0, .slice none 0 0]) ti33 rfl) ?_
  intro w39 A40 b41 A42 Nw Ny hd45 hnb46 hh47
  refine sgw Nw hO fun s hO => ?_
  refine sgn (e := .blk b41 (.cells #[.int .i64 (0 : Int), .slice none 0 0, .slice none 0 0, .slice none 0 0, .slice none 0 0, .slice none 0 0] 33 (0, 0))) Ny hO iW hw16 hnb46 rfl hh47 hd45 (fr : Fr (bl []) w0 _ w39) fun s hO hB => ?_
  refine GoQA.lastI rfl rfl fun w48 A49 Nz => ?_
  refine sgw Nz hO fun s hO => ?_
  refine sba 0 hO fun w51 s hO => ?_
  refine GoQA.nil fun w52 A53 NA NB => ?_
  refine sgw NA hO fun s hO => ?_
  refine spm NB hO fun s hO => ?_
  refine au ?_
  refine sln0 ?_
  refine au ?_
  refine snil Fl.str 9 hO fun s hO => ?_
  refine snil Fl.bool 4 hO fun s hO => ?_
  refine lw H (fun (k1_59, d_60, fP) σ w => ∃ n63 p61 c62 n67 p65 c66, (fun Z => agrees σ [(0, .slice fQ a0.length fR), (1, .int .i64 a1), (2, .slice tq a2.length tt), (6, .pointer (some ⟨B2, 0, none⟩)), (8, .pointer (some ⟨B8, 0, none⟩)), (10, .pointer (some ⟨b41, 0, none⟩)), (41, .slice dy r4.Elems.length dz), (42, .int .i64 (r4.Elems.length : Int)), (43, .int .i64 (k1_59 : Int))] ∧ Owns w0.heap.size w Z A ∧ ISl (Rp.sl (Rp.int .i64)) (bl Z ++ A) w eV eX r4.Gens ∧ ISl (Rp.sl (Rp.int .i64)) (bl Z ++ A) w dy dz r4.Elems ∧ ISl (Rp.int .i64) (bl Z ++ A) w dA dB r4.Prefix ∧ ISl (Rp.int .i64) (bl Z ++ A) w eY e8 r4.Last ∧ ISl (Rp.sl (Rp.int .i64)) (bl Z ++ A) w dQ dR r4.Right ∧ ISl (rpRule) (bl Z ++ A) w dS dT r4.Rules ∧ ISl (Rp.sl (Rp.int .i64)) (bl Z ++ A) w aY a8 r20 ∧ Fr (bl []) w0 (bl Z) w) [t1 Fl.bool 4 p61 n63 c62 d_60, t1 Fl.str 9 p65 n67 c66 fP, .blk b41 (.cells #[.int .i64 (a0.length : Int), .slice aY r20.length a8, .slice p65 n67 c66, .slice none 0 0, .slice p61 n63 c62, .slice (some ⟨b25, 0, none⟩) r4.Elems.length r4.Elems.length] 33 (0, 0)), t1 Fl.bool 4 (some ⟨b25, 0, none⟩) r4.Elems.length r4.Elems.length (List.replicate r4.Elems.length false), .blk B8 (.cells #[.int .i64 r4.Points, .bool r4.Monoid, .slice eV r4.Gens.length eX, .slice dy r4.Elems.length dz, .slice dA r4.Prefix.length dB, .slice eY r4.Last.length e8, .slice dQ r4.Right.length dR, .slice dS r4.Rules.length dT, .int .i64 r4.Done] 123 (0, 0)), .blk B2 (.cells #[.int .i64 (0 : Int), .slice none 0 0, .slice none 0 0, .slice none 0 0, .slice none 0 0, .slice none 0 0] 33 (0, 0))]) ⟨_, _, _, _, _, _, agr, hO, d7.u, cG.u, db.u, d8.u, dC.u, dD.u, gL.u, fr⟩ ?_
  refine fun X1 => p2 fun k1_59 d_60 fP => fun H hX1 σ w58 => e4 fun n63 p61 c62 n67 => e2 fun p65 c66 => d1 fun hag => d1 fun hO => d1 fun d7 => d1 fun cG => d1 fun db => d4 fun d8 dC dD gL hB => ?_
  dsimp only at H
  refine Go1.keep _ hag ?_
  revert hO; repeat (rename Owns _ _ _ _ => q; clear q)
  intro hO; repeat (rename Sq _ _ _ _ _ _ => q; clear q)
  refine au ?_
  refine scm H (fun h68 H => ?_) fun h68 H => ?_
  ·refine au ?_
   refine sxls hO cG H.1 H.2.1 fun p69 c70 wq => ?_
   refine au ?_
   refine drw 2 [(0, .pure), (1, .stable), (2, .stable), (3, .pure), (4, .loud), (5, .loud), (6, .last), (7, .pure), (8, .last)] hO fun w72 s hO => ?_
   refine au ?_
   refine GoQ.stable rfl (J05 (vs := [.int .i64 r4.Points, .bool r4.Monoid, .slice eV r4.Gens.length eX, .slice dy r4.Elems.length dz, .slice dA r4.Prefix.length dB, .slice eY r4.Last.length e8, .slice dQ r4.Right.length dR, .slice dS r4.Rules.length dT, .int .i64 r4.Done]) (i := 0) 4 hO rfl rfl Try.underlying123 rfl ti123 rfl) rfl rfl ?_
   refine au ?_
   have h75 := H.1
   have h76 := H.2.1
   refine zcq rfl (J02 body106 rfl (J0G hO.lt d7.u cG.u db.u d8.u dC.u dD.u H.2.2)) fun _ w74 => e1 fun r73 => sq0 hO fun s hO => d1 fun BG H => ?_
   refine sap1 r73 1 hO H (fun _ w77 p78 c79 s hO => ?_) (hR := by exact fun _ _ => ⟨rfl, BG⟩)
   refine au ?_
   refine sbs 2 hO fun w80 s hO => ?_
   refine au ?_
   refine drw 4 [(0, .pure), (1, .stable), (2, .pure), (3, .pure), (4, .pure), (5, .pure), (6, .stable), (7, .pure), (8, .stable), (9, .loud), (10, .last), (11, .pure), (12, .last)] hO fun w81 s hO => ?_
   refine au ?_
   refine sxl hO wq.u H.2.1 H.2.2.1 ?_
   refine sxl hO Nr.u H.2.2.2.1 H.2.2.2.2.1 ?_
   refine sap1 (ix a2 (ix (ix r4.Elems (k1_59 : Int)) a1)) 0 hO H.2.2.2.2.2 fun _ w82 p83 c84 s hO => ?_
   refine au ?_
   refine sbs 2 hO fun w85 s hO => ?_
   refine au ?_
   refine sinc (natbd h68 cG.bd) ?_
   refine au ?_
   exact hX1 _ H.2.2.2.2.2.2 _ _ ⟨_, _, _, _, _, _, agr, hO, d7.u, cG.u, db.u, d8.u, dC.u, dD.u, gL.u, fr⟩
  refine au ?_
  refine sln0 ?_
  refine au ?_
  refine snil Fl.i 3 hO fun s hO => ?_
  refine lw H (fun (xT, oA) σ w => ∃ n92 p90 c91, (fun Z => agrees σ [(6, .pointer (some ⟨B2, 0, none⟩)), (8, .pointer (some ⟨B8, 0, none⟩)), (10, .pointer (some ⟨b41, 0, none⟩)), (69, .slice fQ a0.length fR), (70, .int .i64 (a0.length : Int)), (71, .int .i64 (xT : Int))] ∧ Owns w0.heap.size w Z A ∧ ISl (Rp.sl (Rp.int .i64)) (bl Z ++ A) w eV eX r4.Gens ∧ ISl (Rp.sl (Rp.int .i64)) (bl Z ++ A) w dy dz r4.Elems ∧ ISl (Rp.int .i64) (bl Z ++ A) w dA dB r4.Prefix ∧ ISl (Rp.int .i64) (bl Z ++ A) w eY e8 r4.Last ∧ ISl (Rp.sl (Rp.int .i64)) (bl Z ++ A) w dQ dR r4.Right ∧ ISl (rpRule) (bl Z ++ A) w dS dT r4.Rules ∧ ISl (Rp.sl (Rp.int .i64)) (bl Z ++ A) w aY a8 r20 ∧ Fr (bl []) w0 (bl Z) w) [t1 Fl.i 3 p90 n92 c91 oA, t1 Fl.bool 4 p61 n63 c62 d_60, t1 Fl.str 9 p65 n67 c66 fP, .blk b41 (.cells #[.int .i64 (a0.length : Int), .slice aY r20.length a8, .slice p65 n67 c66, .slice p90 n92 c91, .slice p61 n63 c62, .slice (some ⟨b25, 0, none⟩) r4.Elems.length r4.Elems.length] 33 (0, 0)), t1 Fl.bool 4 (some ⟨b25, 0, none⟩) r4.Elems.length r4.Elems.length (List.replicate r4.Elems.length false), .blk B8 (.cells #[.int .i64 r4.Points, .bool r4.Monoid, .slice eV r4.Gens.length eX, .slice dy r4.Elems.length dz, .slice dA r4.Prefix.length dB, .slice eY r4.Last.length e8, .slice dQ r4.Right.length dR, .slice dS r4.Rules.length dT, .int .i64 r4.Done] 123 (0, 0)), .blk B2 (.cells #[.int .i64 (0 : Int), .slice none 0 0, .slice none 0 0, .slice none 0 0, .slice none 0 0, .slice none 0 0] 33 (0, 0))]) ⟨_, _, _, agr, hO, d7.u, cG.u, db.u, d8.u, dC.u, dD.u, gL.u, fr⟩ ?_
  refine fun X2 => p1 fun xT oA => fun H hX2 σ w87 => e3 fun n92 p90 c91 => d1 fun hag => d1 fun hO => d1 fun d7 => d1 fun cG => d1 fun db => d4 fun d8 dC dD gL hB => ?_
  dsimp only at H
  refine Go1.keep _ hag ?_
  revert hO; repeat (rename Owns _ _ _ _ => q; clear q)
  intro hO; repeat (rename Sq _ _ _ _ _ _ => q; clear q)
  refine au ?_
  refine scm H (fun h93 H => ?_) fun h93 H => ?_
  ·refine au ?_
   refine sxls hO fm.u H.1 H.2.1 fun p94 c95 od => ?_
   refine au ?_
   refine drw 2 [(0, .pure), (1, .stable), (2, .pure), (3, .stable), (4, .pure), (5, .loud), (6, .loud), (7, .last), (8, .pure), (9, .last)] hO fun w97 s hO => ?_
   refine au ?_
   have m8 := H.1
   have uE := H.2.1
   refine zcq rfl (J02 body107 rfl (J1e hO.lt cG.u od.u H.2.2)) fun _ w99 => e1 fun r98 => sq0 hO fun s hO => fun H => ?_
   refine sap1 r98 0 hO H fun _ uW MD ME s hO => ?_
   refine au ?_
   refine sbs 3 hO fun qn s hO => ?_
   refine au ?_
   refine sinc (natbd h93 fm.bd) ?_
   refine au ?_
   exact hX2 _ H.2 _ _ ⟨_, _, _, agr, hO, d7.u, cG.u, db.u, d8.u, dC.u, dD.u, gL.u, fr⟩
  refine au ?_
  have HY := t1lend 0 hO
  have ku := t1n 0 hO
  have hOc108 := hO.drop 0
  refine zcr (J02 body108 (show ([.slice aY r20.length a8, .slice p90 n92 c91] : List Value) = [.slice aY r20.length a8, .slice p90 oA.length c91] from by rw [← ku]) (J3o hOc108.lt (gL.u.ch (Owns.J0c _ _ 0)) HY H)) fun _ aas => e4 fun r109 t8 t9 ua => sc1 hO fun s hO => fun H => ?_
  refine sln1 0 hO ?_
  refine au ?_
  refine sdr [6] hO fun s hO => ?_
  refine lw H (fun (ub, tu) σ w => (fun Z => agrees σ [(6, .pointer (some ⟨B2, 0, none⟩)), (10, .pointer (some ⟨b41, 0, none⟩)), (89, .slice t9 t8 ua), (90, .int .i64 (r109.length : Int)), (91, .int .i64 (ub : Int))] ∧ Owns w0.heap.size w Z A ∧ ISl (Rp.sl (Rp.int .i64)) (bl Z ++ A) w aY a8 r20 ∧ Fr (bl []) w0 (bl Z) w) [t1 Fl.i 3 t9 t8 ua r109, t1 Fl.i 3 p90 n92 c91 oA, t1 Fl.bool 4 p61 n63 c62 d_60, t1 Fl.str 9 p65 n67 c66 fP, .blk b41 (.cells #[.int .i64 (a0.length : Int), .slice aY r20.length a8, .slice p65 n67 c66, .slice p90 n92 c91, .slice p61 n63 c62, .slice (some ⟨b25, 0, none⟩) r4.Elems.length r4.Elems.length] 33 (0, 0)), t1 Fl.bool 4 (some ⟨b25, 0, none⟩) r4.Elems.length r4.Elems.length tu, .blk B2 (.cells #[.int .i64 (0 : Int), .slice none 0 0, .slice none 0 0, .slice none 0 0, .slice none 0 0, .slice none 0 0] 33 (0, 0))]) ⟨agr, hO, gL.u, fr⟩ ?_
  refine fun X3 => p1 fun ub tu => fun H hX3 σ L9 => d3 fun hag hO gL hB => ?_
  dsimp only at H
  refine Go1.keep _ hag ?_
  revert hO; repeat (rename Owns _ _ _ _ => q; clear q)
  intro hO; repeat (rename Sq _ _ _ _ _ _ => q; clear q)
  refine au ?_
  refine scm H (fun BH H => ?_) fun BH H => ?_
  ·refine au ?_
   refine sxl1 0 hO H.1 H.2.1 ?_
   refine au ?_
   refine six1 5 hO H.2.2.1 H.2.2.2.1 ?_
   refine sst (u := true) 5 hO H.2.2.1 H.2.2.2.1 fun qQ s hO => ?_
   refine au ?_
   refine sinc (natbd BH (t1b 0 hO)) ?_
   refine au ?_
   exact hX3 _ H.2.2.2.2 _ _ ⟨agr, hO, gL.u, fr⟩
  refine au ?_
  refine zs (J05 (vs := [.int .i64 (a0.length : Int), .slice aY r20.length a8, .slice p65 n67 c66, .slice p90 n92 c91, .slice p61 n63 c62, .slice (some ⟨b25, 0, none⟩) r4.Elems.length r4.Elems.length]) (i := 0) 4 hO rfl rfl Try.underlying33 rfl ti33 rfl) ?_
  refine sba 6 hO fun aat s hO => ?_
  refine au ?_
  refine sfz 3 hO fun s hO H0 H1 => ?_
  refine sfz 1 hO fun s hO H2 H3 => ?_
  refine sfz 1 hO fun s hO H4 H5 => ?_
  refine sfz 2 hO fun s hO H6 H7 => ?_
  refine Go1.retC2 Try.func64 rfl rfl (J03 (vs := [.int .i64 (a0.length : Int), .slice aY r20.length a8, .slice p65 n67 c66, .slice p90 n92 c91, .slice p61 n63 c62, .slice (some ⟨b25, 0, none⟩) r4.Elems.length r4.Elems.length]) 2 hO rfl rfl Try.underlying33 rfl ti33) ⟨((⟨(a0.length : Int), r20, fP, oA, d_60, tu⟩ : Syntactic)), _, _, _, _, _, _, _, _, _, _, _, ?_, frs, gL.r, H0.r, H2.r, H4.r, H6.r, H⟩
  exact (congrArg (fun l => Value.tuple (List.toArray l)) (J01 (congrArg (fun l => Value.agg (List.toArray l)) (J01 rfl (J01 rfl (J01 (congrArg (fun nn => Value.slice p65 nn c66) H1) (J01 (congrArg (fun nn => Value.slice p90 nn c91) H3) (J01 (congrArg (fun nn => Value.slice p61 nn c62) H5) (J01 (congrArg (fun nn => Value.slice (some ⟨b25, 0, none⟩) nn r4.Elems.length) H7) rfl))))))) (J01 rfl rfl)))
 refine au ?_
 refine zo (J06 Try.underlying33 ti33 (pl := [(0, 1), (1, 1), (2, 1), (3, 1), (4, 1), (5, 1)]) (vs := []) (cs := #[.int .i64 (0 : Int), .slice none 0 0, .slice none 0 0, .slice none 0 0, .slice none 0 0, .slice none 0 0]) (by kernel_rfl) rfl (by kernel_rfl)) ?_
 refine sba 1 hO fun wz s hO => ?_
 refine au ?_
 refine Go1.retC2 Try.func64 rfl rfl (J03 (vs := [.int .i64 (0 : Int), .slice none 0 0, .slice none 0 0, .slice none 0 0, .slice none 0 0, .slice none 0 0]) 1 hO rfl rfl Try.underlying33 rfl ti33) ⟨((⟨(0 : Int), ([] : List (List Int)), ([] : List Str), ([] : List Int), ([] : List Bool), ([] : List Bool)⟩ : Syntactic)), _, _, _, _, _, _, _, _, _, _, _, ?_, frs, (ISl.null _ _ _), (ISl.null _ _ _), (ISl.null _ _ _), (ISl.null _ _ _), (ISl.null _ _ _), H⟩
 exact rfl
theorem body20 : Body Try.prog 20 := ⟨Try.f20, Try.func20, rfl, by kernel_rfl⟩
theorem J49 {A : List Nat} {w0 : World} {aa : Option Addr} {ad : Nat} {ae : Option Addr} {af : Nat} {d : DFA} (hA : ∀ b ∈ A, b < w0.heap.size) (aq : ISl (Rp.bool) A w0 aa ad d.Final) (aA : ISl (Rp.sl (Rp.int .i64)) A w0 ae af d.Next) {K : Syntactic → Int → Prop} (H : J2J d K) :
    CallsV Try.prog 20 #[.agg #[.int .i64 d.Letters, .int .i64 d.Start, .slice aa d.Final.length ad, .slice ae d.Next.length af]] w0 (fun v w' => ∃ (r0 : Syntactic), ∃ (r1 : Int), ∃ (eF : Option Addr), ∃ (eG : Nat), ∃ (eH : Option Addr), ∃ (eI : Nat), ∃ (dU : Option Addr), ∃ (dV : Nat), ∃ (dW : Option Addr), ∃ (dX : Nat), ∃ (fq : Option Addr), ∃ (ft : Nat), v = .tuple #[.agg #[.int .i64 r0.Letters, .slice eF r0.Table.length eG, .slice eH r0.Words.length eI, .slice dU r0.Images.length dV, .slice dW r0.Accept.length dX, .slice fq r0.Plus.length ft], .int .i64 r1] ∧ Same w0 w' ∧ ISl (Rp.sl (Rp.int .i64)) A w' eF eG r0.Table ∧ ISl (Rp.str) A w' eH eI r0.Words ∧ ISl (Rp.int .i64) A w' dU dV r0.Images ∧ ISl (Rp.bool) A w' dW dX r0.Accept ∧ ISl (Rp.bool) A w' fq ft r0.Plus ∧ K r0 r1) := by
 refine CallsV.of (l := [.agg #[.int .i64 d.Letters, .int .i64 d.Start, .slice aa d.Final.length ad, .slice ae d.Next.length af]]) Try.func20 rfl Try.ntmps20 rfl ?_
 have hO := Owns.start hA
 have hB := Fr.refl (bl []) w0
 unfold J2J at H
 refine au ?_
 refine sbx hO fun w1 B2 s hO => ?_
 refine sal hO fun w4 B5 s hO => ?_
 refine au ?_
 refine zs (J05 (vs := [.int .i64 d.Letters, .int .i64 d.Start, .slice aa d.Final.length ad, .slice ae d.Next.length af]) (i := 0) 1 hO rfl rfl Try.underlying25 rfl ti25 rfl) ?_
 refine zcr (J02 body16 rfl (J0U hO.lt aq.u aA.u H)) fun _ w8 => e1 fun r7 => sc0 hO fun s hO => fun H => ?_
 refine au ?_
 refine scm H (fun h9 H => ?_) fun h9 H => ?_
 ·refine au ?_
  refine zs (J05 (vs := [.int .i64 d.Letters, .int .i64 d.Start, .slice aa d.Final.length ad, .slice ae d.Next.length af]) (i := 0) 1 hO rfl rfl Try.underlying25 rfl ti25 rfl) ?_
  refine zcr (J02 body23 rfl (J3W hO.lt aq.u aA.u H)) fun _ w11 => e4 fun r10 gT gU g7 => e1 fun g8 => sc0 hO fun s hO => d2 fun f7 jf H => ?_
  refine sal hO fun w12 B13 s hO => ?_
  refine sba 0 hO fun w15 s hO => ?_
  refine au ?_
  refine sln0 ?_
  refine scm (H f7.bd) (fun h16 H => ?_) fun h16 H => ?_
  ·refine au ?_
   refine zo (J06 Try.underlying33 ti33 (pl := [(0, 1), (1, 1), (2, 1), (3, 1), (4, 1), (5, 1)]) (vs := []) (cs := #[.int .i64 (0 : Int), .slice none 0 0, .slice none 0 0, .slice none 0 0, .slice none 0 0, .slice none 0 0]) (by kernel_rfl) rfl (by kernel_rfl)) ?_
   refine sba 1 hO fun w17 s hO => ?_
   refine au ?_
   refine Go1.retC2 Try.func20 rfl rfl (J03 (vs := [.int .i64 (0 : Int), .slice none 0 0, .slice none 0 0, .slice none 0 0, .slice none 0 0, .slice none 0 0]) 1 hO rfl rfl Try.underlying33 rfl ti33) ⟨((⟨(0 : Int), ([] : List (List Int)), ([] : List Str), ([] : List Int), ([] : List Bool), ([] : List Bool)⟩ : Syntactic)), _, _, _, _, _, _, _, _, _, _, _, ?_, frs, (ISl.null _ _ _), (ISl.null _ _ _), (ISl.null _ _ _), (ISl.null _ _ _), (ISl.null _ _ _), H⟩
   exact rfl
  refine au ?_
  refine drw 1 [(0, .stable), (2, .pure), (3, .stable), (4, .pure), (5, .stable), (1, .loud), (6, .loud), (7, .pure), (8, .pure), (9, .last), (10, .pure)] hO fun w18 s hO => ?_
  refine GoQ.stable rfl (J05 (vs := [.int .i64 r10.Letters, .int .i64 r10.Start, .slice gT r10.Final.length gU, .slice g7 r10.Next.length g8]) (i := 0) 0 hO rfl rfl Try.underlying25 rfl ti25 rfl) rfl rfl ?_
  refine au ?_
  refine zcq rfl (J02 body65 rfl (J4J hO.lt f7.u jf.u H)) fun _ w20 => e3 fun r19 Qb Qc => sq0 hO fun s hO => d1 fun H8 H => ?_
  refine zcq rfl (J02 body64 rfl (J5R hO.lt H8 f7.u H)) fun _ w23 => e4 fun r21 r22 pv pC => e4 fun pD pE oB oC => e4 fun oD oE tv tw => sq0 hO fun s hO => d1 fun pF => d4 fun pG oF oG tx H => ?_
  refine au ?_
  refine sba 1 hO fun w24 s hO => ?_
  refine au ?_
  refine Go1.retC2 Try.func20 rfl rfl (J03 (vs := [.int .i64 r21.Letters, .slice pv r21.Table.length pC, .slice pD r21.Words.length pE, .slice oB r21.Images.length oC, .slice oD r21.Accept.length oE, .slice tv r21.Plus.length tw]) 1 hO rfl rfl Try.underlying33 rfl ti33) ⟨((⟨r21.Letters, r21.Table, r21.Words, r21.Images, r21.Accept, r21.Plus⟩ : Syntactic)), _, _, _, _, _, _, _, _, _, _, _, ?_, frs, pF.r, pG.r, oF.r, oG.r, tx.r, H⟩
  exact rfl
 refine au ?_
 refine zo (J06 Try.underlying33 ti33 (pl := [(0, 1), (1, 1), (2, 1), (3, 1), (4, 1), (5, 1)]) (vs := []) (cs := #[.int .i64 (0 : Int), .slice none 0 0, .slice none 0 0, .slice none 0 0, .slice none 0 0, .slice none 0 0]) (by kernel_rfl) rfl (by kernel_rfl)) ?_
 refine au ?_
 refine sba 0 hO fun w25 s hO => ?_
 refine au ?_
 refine Go1.retC2 Try.func20 rfl rfl (J03 (vs := [.int .i64 (0 : Int), .slice none 0 0, .slice none 0 0, .slice none 0 0, .slice none 0 0, .slice none 0 0]) 0 hO rfl rfl Try.underlying33 rfl ti33) ⟨((⟨(0 : Int), ([] : List (List Int)), ([] : List Str), ([] : List Int), ([] : List Bool), ([] : List Bool)⟩ : Syntactic)), _, _, _, _, _, _, _, _, _, _, _, ?_, frs, (ISl.null _ _ _), (ISl.null _ _ _), (ISl.null _ _ _), (ISl.null _ _ _), (ISl.null _ _ _), H⟩
 exact rfl
theorem body47 : Body Try.prog 47 := ⟨Try.f47, Try.func47, rfl, by kernel_rfl⟩
theorem J3y {A : List Nat} {w0 : World} {p_a : Option Addr} {c_a : Nat} {p_b : Option Addr} {c_b : Nat} {a : List (List Int)} {b : List (List Int)} (hA : ∀ b ∈ A, b < w0.heap.size) (h_a : ISl (Rp.sl (Rp.int .i64)) A w0 p_a c_a a) (h_b : ISl (Rp.sl (Rp.int .i64)) A w0 p_b c_b b) {K : Bool → Prop} (H : J0P a b K) :
    CallsV Try.prog 47 #[.slice p_a a.length c_a, .slice p_b b.length c_b] w0 (fun v w' => ∃ (r0 : Bool), v = .bool r0 ∧ Same w0 w' ∧ K r0) := by
 refine CallsV.of (l := [.slice p_a a.length c_a, .slice p_b b.length c_b]) Try.func47 rfl Try.ntmps47 rfl ?_
 have hO := Owns.start hA
 have hB := Fr.refl (bl []) w0
 unfold J0P at H
 refine au ?_
 refine sln0 ?_
 refine au ?_
 refine sln0 ?_
 refine scm ((H h_a.bd) h_b.bd) (fun h1 H => ?_) fun h1 H => ?_
 ·refine au ?_
  refine sln0 ?_
  refine au ?_
  refine lw H (fun k1_3 σ w => (fun Z => agrees σ [(0, .slice p_a a.length c_a), (1, .slice p_b b.length c_b), (12, .int .i64 (a.length : Int)), (13, .int .i64 (k1_3 : Int))] ∧ Owns w0.heap.size w Z A ∧ Fr (bl []) w0 (bl Z) w) []) ⟨agr, hO, fr⟩ ?_
  refine fun X1 => fun k1_3 => fun H hX1 σ w2 => d2 fun hag hO hB => ?_
  refine Go1.keep _ hag ?_
  refine au ?_
  refine scm H (fun h4 H => ?_) fun h4 H => ?_
  ·refine au ?_
   refine drw 0 [(0, .pure), (1, .pure), (2, .pure), (3, .stable), (4, .pure), (5, .pure), (6, .pure), (7, .stable), (8, .loud), (9, .pure)] hO fun w5 s hO => ?_
   refine au ?_
   refine sxls hO h_a.u H.1 H.2.1 fun p6 c7 hi8 => ?_
   refine au ?_
   refine sxls hO h_b.u H.2.2.1 H.2.2.2.1 fun p9 c10 wD => ?_
   have h14 := H.1
   have h15 := H.2.1
   have h16 := H.2.2.1
   have h17 := H.2.2.2.1
   refine zcq rfl (J02 body49 rfl (J1b hO.lt hi8.u wD.u H.2.2.2.2)) fun _ w13 => e1 fun r12 => sq0 hO fun s hO => fun H => ?_
   cases r12
   ·refine au ?_
    refine Go1.ret1 Try.func47 rfl ⟨_, ?_, frs, (iF H)⟩
    exact rfl
   refine au ?_
   refine sinc (natbd h4 h_a.bd) ?_
   refine au ?_
   exact hX1 _ (iT H) _ _ ⟨agr, hO, fr⟩
  refine au ?_
  refine Go1.ret1 Try.func47 rfl ⟨_, ?_, frs, H⟩
  exact rfl
 refine au ?_
 refine Go1.ret1 Try.func47 rfl ⟨_, ?_, frs, H⟩
 exact rfl
end Sg
