/- -/
import Derived.Test.YtlneebpmblkllaaVd
import Derived.Test.YtlneebpmblkllaaWSyntacticMonoids
import Derived.Test.YtlneebpmblkllaaWSyntacticMonoidsb
namespace Sg
open Go Go.RowKit Go.Proofs
set_option linter.unusedVariables false
set_option linter.unusedSimpArgs false
set_option maxRecDepth 100000
set_option maxHeartbeats 4000000
theorem body63 : Body Try.prog 63 := ⟨Try.f63, Try.func63, rfl, by kernel_rfl⟩
theorem body62 : Body Try.prog 62 := ⟨Try.f62, Try.func62, rfl, by kernel_rfl⟩
theorem body19 : Body Try.prog 19 := ⟨Try.f19, Try.func19, rfl, by kernel_rfl⟩
theorem J1k {A : List Nat} {w0 : World} {ai ak : Option Addr} {aj am : Nat} {d : DFA} (hA : ∀ b ∈ A, b < w0.heap.size) (bm : ISl (Rp.bool) A w0 ai aj d.Final) (ce : ISl (Rp.sl (Rp.int .i64)) A w0 ak am d.Next) {K : Syntactic → Int → Prop} (H : J0v d K) :
    CallsV Try.prog 19 #[.agg #[.int .i64 d.Letters, .int .i64 d.Start, .slice ai d.Final.length aj, .slice ak d.Next.length am]] w0 (fun v w' => ∃ (r0 : Syntactic) (r1 : Int) (gL : Option Addr) (gM : Nat) (gN : Option Addr) (gO : Nat) (fX : Option Addr) (fY : Nat) (f5 : Option Addr) (f6 : Nat) (ie : Option Addr) (ig : Nat), v = .tuple #[.agg #[.int .i64 r0.Letters, .slice gL r0.Table.length gM, .slice gN r0.Words.length gO, .slice fX r0.Images.length fY, .slice f5 r0.Accept.length f6, .slice ie r0.Plus.length ig], .int .i64 r1] ∧ Same w0 w' ∧ ISl (Rp.sl (Rp.int .i64)) A w' gL gM r0.Table ∧ ISl (Rp.str) A w' gN gO r0.Words ∧ ISl (Rp.int .i64) A w' fX fY r0.Images ∧ ISl (Rp.bool) A w' f5 f6 r0.Accept ∧ ISl (Rp.bool) A w' ie ig r0.Plus ∧ K r0 r1) := by
 refine CallsV.of (l := [.agg #[.int .i64 d.Letters, .int .i64 d.Start, .slice ai d.Final.length aj, .slice ak d.Next.length am]]) Try.func19 rfl Try.ntmps19 rfl ?_
 have hO := Owns.start hA
 have hB := Fr.refl (bl []) w0
 unfold J0v at H
 refine sbx hO fun w1 B2 s hO => ?_
 refine sal hO fun w4 B5 s hO => ?_
 refine sag 1 hO ?_
 refine zcr (J00 body61 rfl (J0Q hO.lt bm.u ce.u H)) fun _ w8 => e1 fun r7 => sc0 hO fun s hO => fun H => ?_
 refine scm H (fun h9 H => ?_) fun h9 H => ?_
 ·refine sal hO fun w10 B11 s hO => ?_
  refine sag 2 hO ?_
  refine zcr (J00 body22 rfl (J2U hO.lt bm.u ce.u H)) fun _ w14 => e4 fun r13 bX bY cR => e1 fun cS => sc0 hO fun s hO => d2 fun cy c8 H => ?_
  refine GoR.inl (vs := [.pointer (some ⟨B11, 0, none⟩), .agg #[.int .i64 r13.Letters, .int .i64 r13.Start, .slice bX r13.Final.length bY, .slice cR r13.Next.length cS]]) (caps := []) rfl rfl body62 Try.func62 rfl Try.ntmps62 rfl rfl rfl ?_
  intro RhR15 hR15
  refine sbx hO fun w16 B17 s hO => ?_
  refine sln0 ?_
  refine au ?_
  replace H := (H cy.bd)
  obtain ⟨h19, H⟩ := H
  refine zo (J0k rfl rfl (wrap_i64 h19)) ?_
  refine scm H (fun h20 H => ?_) fun h20 H => ?_
  ·refine au ?_
   refine Go1.ret1V Try.func62 rfl (show _ = .int .i64 (3 : Int) from rfl) ?_
   refine hR15 _ _ ?_
   refine au ?_
   refine zo (fun w => opB (J4c rfl rfl w) (ndF (by decide))) ?_
   refine au ?_
   refine zo (J0a Try.underlying33 ti33 (pl := [(0, 1), (1, 1), (2, 1), (3, 1), (4, 1), (5, 1)]) (vs := []) (cs := #[.int .i64 (0 : Int), .slice none 0 0, .slice none 0 0, .slice none 0 0, .slice none 0 0, .slice none 0 0]) (by kernel_rfl) rfl (by kernel_rfl)) ?_
   refine sba 2 hO fun w21 s hO => ?_
   refine au ?_
   refine Go1.retC2 Try.func19 rfl rfl (rlb 2 hO) ⟨((⟨(0 : Int), ([] : List (List Int)), ([] : List Str), ([] : List Int), ([] : List Bool), ([] : List Bool)⟩ : Syntactic)), _, _, _, _, _, _, _, _, _, _, _, ?_, frs, (ISl.null _ _ _), (ISl.null _ _ _), (ISl.null _ _ _), (ISl.null _ _ _), (ISl.null _ _ _), H⟩
   exact rfl
  refine au ?_
  refine zo (fun w => opB (J1J Try.underlying23 rfl rfl w) rfl) ?_
  refine au ?_
  obtain ⟨h29, H⟩ := H
  obtain ⟨h30, H⟩ := H
  have zz := t2makeS (m := r13.Letters) (e' := 3) Fl.i Try.underlying23 ti31 hO h29 h30 (by decide)
  obtain ⟨w22, p23, sR, BR, sT, hz32⟩ := zz
  refine zg (sT rfl rfl) ?_
  refine nst sR fun s hO => ?_
  refine sbs 2 hO fun w33 s hO => ?_
  refine au ?_
  refine zo (J11 Try.underlying23 rfl (t2neq 0 hO rfl)) ?_
  refine au ?_
  refine sdr [4] hO fun s hO => ?_
  refine lw H (fun (cU, dH) σ w => ∃ ku, (fun Z => agrees σ [(0, .pointer (some ⟨B11, 0, none⟩)), (3, .pointer (some ⟨B17, 0, none⟩)), (5, .int .i64 (r13.Final.length : Int)), (33, .int .i64 ((List.replicate r13.Letters.toNat ([] : List Int)).length : Int)), (34, .int .i64 (cU : Int))] ∧ Owns w0.heap.size w Z A ∧ ISl (Rp.bool) (bl Z ++ A) w bX bY r13.Final ∧ ISl (Rp.sl (Rp.int .i64)) (bl Z ++ A) w cR cS r13.Next ∧ Fr (bl []) w0 (bl Z) w) [t2 Fl.i 31 3 p23 r13.Letters.toNat r13.Letters.toNat ku dH, .blk B17 (.cells #[.int .i64 r13.Letters, .int .i64 r13.Start, .slice bX r13.Final.length bY, .slice cR r13.Next.length cS] 25 (0, 0)), .blk B11 (.cells #[.slice p23 r13.Letters.toNat r13.Letters.toNat, .slice none 0 0, .int .i64 (0 : Int)] 83 (0, 0)), .blk B5 (.cells #[.int .i64 (0 : Int), .slice none 0 0, .slice none 0 0, .slice none 0 0, .slice none 0 0, .slice none 0 0] 33 (0, 0))]) ⟨_, agr, hO, cy.u, c8.u, fr⟩ ?_
  refine fun X1 => p1 fun cU dH => fun H hX1 σ w34 => e1 fun ku => d4 fun hag hO cy c8 hB => ?_
  dsimp only at H
  refine Go1.keep _ hag ?_
  revert hO; repeat (rename Owns _ _ _ _ => q; clear q)
  intro hO; repeat (rename Sq _ _ _ _ _ _ => q; clear q)
  refine scm H (fun h38 H => ?_) fun h38 H => ?_
  ·refine au ?_
   refine lw H (fun (k2_40, d_41) σ w => ∃ eV, (fun Z => agrees σ [(0, .pointer (some ⟨B11, 0, none⟩)), (3, .pointer (some ⟨B17, 0, none⟩)), (5, .int .i64 (r13.Final.length : Int)), (6, .int .i64 (cU : Int)), (33, .int .i64 ((List.replicate r13.Letters.toNat ([] : List Int)).length : Int)), (34, .int .i64 (cU : Int)), (37, .int .i64 (r13.Final.length : Int)), (38, .int .i64 (k2_40 : Int))] ∧ Owns w0.heap.size w Z A ∧ ISl (Rp.bool) (bl Z ++ A) w bX bY r13.Final ∧ ISl (Rp.sl (Rp.int .i64)) (bl Z ++ A) w cR cS r13.Next ∧ Fr (bl []) w0 (bl Z) w) [t2 Fl.i 31 3 p23 r13.Letters.toNat r13.Letters.toNat eV d_41, .blk B17 (.cells #[.int .i64 r13.Letters, .int .i64 r13.Start, .slice bX r13.Final.length bY, .slice cR r13.Next.length cS] 25 (0, 0)), .blk B11 (.cells #[.slice p23 r13.Letters.toNat r13.Letters.toNat, .slice none 0 0, .int .i64 (0 : Int)] 83 (0, 0)), .blk B5 (.cells #[.int .i64 (0 : Int), .slice none 0 0, .slice none 0 0, .slice none 0 0, .slice none 0 0, .slice none 0 0] 33 (0, 0))]) ⟨_, agr, hO, cy, c8, fr⟩ ?_
   refine fun X2 => p1 fun k2_40 d_41 => fun H hX2 σ w39 => e1 fun eV => d4 fun hag hO cy c8 hB => ?_
   dsimp only at H
   refine Go1.keep _ hag ?_
   revert hO; repeat (rename Owns _ _ _ _ => q; clear q)
   intro hO; repeat (rename Sq _ _ _ _ _ _ => q; clear q)
   refine scm H (fun h43 H => ?_) fun h43 H => ?_
   ·refine au ?_
    refine Go1.drawT (ok := fun _ => True) Same.tr [26, 28] 29 (.qp 0 (.qp 1 (.qp 2 (.qp 4 (.qp 5 (.qp 6 (.qp 7 (.qs 8 (.qp 9 (.qp 10 (.qs 11 (.qp 12 (.qp 13 (.qp 14 (.qs 15 (.qp 16 (.qs 17 (.qp 18 (.qp 19 (.qs 20 (.qp 21 (.qp 22 (.qs 23 (.qp 24 (.alt 3 (.alt 25 (.alt 26 (.qp 27 (.alt 28 .nil .fin)) .fin) .fin) (.alt 25 (.alt 3 (.alt 26 (.qp 27 (.alt 28 .nil .fin)) .fin) (.alt 26 (.alt 3 (.qp 27 (.alt 28 .nil .fin)) .fin) .fin)) .fin)))))))))))))))))))))))))) mixed (by kernel_rfl) ?_
    intro w44 wt
    refine sm hO wt fun s hO => ?_
    refine sbl 2 ?_
    refine au ?_
    obtain ⟨h46, H⟩ := H
    obtain ⟨h47, H⟩ := H
    refine GoT.pure rfl (J01 Try.underlying23 ti31 rfl rfl h46 (ltn (t2neq 0 hO rfl) h47) (t2some 0 hO rfl h46 h47)) rfl rfl ?_
    refine GoT.stable rfl (t2head 0 hO rfl h46 h47 Try.underlying31 rfl rfl) rfl rfl ?_
    refine sbl 2 ?_
    refine sbl 1 ?_
    refine sxls hO c8.u H.1 H.2.1 fun p48 c49 fG => ?_
    refine sxl hO fG.u H.2.2.1 H.2.2.2.1 ?_
    have h51 := H.1
    have h52 := H.2.1
    have h53 := H.2.2.1
    have h54 := H.2.2.2.1
    replace H := H.2.2.2.2
    obtain ⟨h55, H⟩ := H
    refine GoT.pure rfl (J0k rfl rfl (wrap_i64 h55)) rfl rfl ?_
    refine GoT.both ?_ ?_
    ·skip
     skip
     refine sbl 2 ?_
     skip
     refine sbu Fl.i 3 [((0 : Int) + (ix (ix r13.Next (k2_40 : Int)) (cU : Int)))] hO fun w56 p57 s hO => ?_
     skip
     refine sfr 1 hO fun s hO => ?_
     have zz := t2take (hf := Fl.i) hO h46 h47
     obtain ⟨wu, jx, kz⟩ := zz
     refine nst jx fun s hO => ?_
     have ww := kz (bl [.row 3 1 (eV (cU : Int).toNat).1 ((ix d_41 (cU : Int)).length) ((eV (cU : Int).toNat).2) wu, t2h Fl.i 31 3 p23 r13.Letters.toNat r13.Letters.toNat eV d_41 (cU : Int).toNat, t1 Fl.i 3 p57 1 1 [((0 : Int) + (ix (ix r13.Next (k2_40 : Int)) (cU : Int)))], .blk B17 (.cells #[.int .i64 r13.Letters, .int .i64 r13.Start, .slice bX r13.Final.length bY, .slice cR r13.Next.length cS] 25 (0, 0)), .blk B11 (.cells #[.slice p23 r13.Letters.toNat r13.Letters.toNat, .slice none 0 0, .int .i64 (0 : Int)] 83 (0, 0)), .blk B5 (.cells #[.int .i64 (0 : Int), .slice none 0 0, .slice none 0 0, .slice none 0 0, .slice none 0 0, .slice none 0 0] 33 (0, 0))] ++ A)
     refine sfz 2 hO fun s hO wz wA => ?_
     obtain ⟨h66, H⟩ := H
     have zz := oapp Try.underlying31 ti3 rfl 0 hO rfl ww.u wz wA h66 (by decide)
     obtain ⟨w67, p68, c69, BS, jN, pg, sU⟩ := zz
     dsimp only [sS, sZ] at pg
     refine GoT.stepX rfl (sU (by exact rfl) (by exact rfl)) rfl rfl rfl ?_
     refine nst jN fun s hO => ?_
     obtain ⟨h75, H⟩ := H
     obtain ⟨h76, H⟩ := H
     refine GoT.pure rfl (J01 Try.underlying23 ti31 rfl rfl h75 (ltn (t2neqH 1 hO rfl) h76) (t2someH 1 hO rfl h75 h76)) rfl rfl ?_
     skip
     refine sfr 1 hO fun s hO => ?_
     refine sfr 1 hO fun s hO => ?_
     have zz := t2fix (hf := Fl.i) hO pg.u h75 h76 rfl
     obtain ⟨w77, ju, jv⟩ := zz
     refine GoT.stepX rfl (jv Try.underlying31 rfl ti31 (by exact rfl) (by exact rfl)) rfl rfl rfl ?_
     refine nst ju fun s hO => ?_
     refine sinc (natbd h43 cy.bd) ?_
     refine au ?_
     exact hX2 _ H _ _ ⟨_, agr, hO, cy.u, c8.u, fr⟩
    skip
    refine sbu Fl.i 3 [((0 : Int) + (ix (ix r13.Next (k2_40 : Int)) (cU : Int)))] hO fun w80 p81 s hO => ?_
    refine GoT.both ?_ ?_
    ·skip
     skip
     refine sbl 3 ?_
     skip
     refine sfr 1 hO fun s hO => ?_
     have zz := t2take (hf := Fl.i) hO h46 h47
     obtain ⟨wB, sV, wC⟩ := zz
     refine nst sV fun s hO => ?_
     have wD := wC (bl [.row 3 1 (eV (cU : Int).toNat).1 ((ix d_41 (cU : Int)).length) ((eV (cU : Int).toNat).2) wB, t2h Fl.i 31 3 p23 r13.Letters.toNat r13.Letters.toNat eV d_41 (cU : Int).toNat, t1 Fl.i 3 p81 1 1 [((0 : Int) + (ix (ix r13.Next (k2_40 : Int)) (cU : Int)))], .blk B17 (.cells #[.int .i64 r13.Letters, .int .i64 r13.Start, .slice bX r13.Final.length bY, .slice cR r13.Next.length cS] 25 (0, 0)), .blk B11 (.cells #[.slice p23 r13.Letters.toNat r13.Letters.toNat, .slice none 0 0, .int .i64 (0 : Int)] 83 (0, 0)), .blk B5 (.cells #[.int .i64 (0 : Int), .slice none 0 0, .slice none 0 0, .slice none 0 0, .slice none 0 0, .slice none 0 0] 33 (0, 0))] ++ A)
     refine sfz 2 hO fun s hO wE wF => ?_
     obtain ⟨h90, H⟩ := H
     have zz := oapp Try.underlying31 ti3 rfl 0 hO rfl wD.u wE wF h90 (by decide)
     obtain ⟨w91, p92, c93, BT, sW, ph, sX⟩ := zz
     dsimp only [sS, sZ] at ph
     refine GoT.stepX rfl (sX (by exact rfl) (by exact rfl)) rfl rfl rfl ?_
     refine nst sW fun s hO => ?_
     obtain ⟨h99, H⟩ := H
     obtain ⟨g7, H⟩ := H
     refine GoT.pure rfl (J01 Try.underlying23 ti31 rfl rfl h99 (ltn (t2neqH 1 hO rfl) g7) (t2someH 1 hO rfl h99 g7)) rfl rfl ?_
     skip
     refine sfr 1 hO fun s hO => ?_
     refine sfr 1 hO fun s hO => ?_
     have zz := t2fix (hf := Fl.i) hO ph.u h99 g7 rfl
     obtain ⟨nK, pk, po⟩ := zz
     refine GoT.stepX rfl (po Try.underlying31 rfl ti31 (by exact rfl) (by exact rfl)) rfl rfl rfl ?_
     refine nst pk fun s hO => ?_
     refine sinc (natbd h43 cy.bd) ?_
     refine au ?_
     exact hX2 _ H _ _ ⟨_, agr, hO, cy.u, c8.u, fr⟩
    skip
    refine sfr 1 hO fun s hO => ?_
    have zz := t2take (hf := Fl.i) hO h46 h47
    obtain ⟨sY, pp, ta⟩ := zz
    refine nst pp fun s hO => ?_
    have tc := ta (bl [.row 3 1 (eV (cU : Int).toNat).1 ((ix d_41 (cU : Int)).length) ((eV (cU : Int).toNat).2) sY, t2h Fl.i 31 3 p23 r13.Letters.toNat r13.Letters.toNat eV d_41 (cU : Int).toNat, t1 Fl.i 3 p81 1 1 [((0 : Int) + (ix (ix r13.Next (k2_40 : Int)) (cU : Int)))], .blk B17 (.cells #[.int .i64 r13.Letters, .int .i64 r13.Start, .slice bX r13.Final.length bY, .slice cR r13.Next.length cS] 25 (0, 0)), .blk B11 (.cells #[.slice p23 r13.Letters.toNat r13.Letters.toNat, .slice none 0 0, .int .i64 (0 : Int)] 83 (0, 0)), .blk B5 (.cells #[.int .i64 (0 : Int), .slice none 0 0, .slice none 0 0, .slice none 0 0, .slice none 0 0, .slice none 0 0] 33 (0, 0))] ++ A)
    refine sfz 2 hO fun s hO jO te => ?_
    obtain ⟨f8, H⟩ := H
    have zz := oapp Try.underlying31 ti3 rfl 0 hO rfl tc.u jO te f8 (by decide)
    obtain ⟨BU, BV, BW, yk, pq, nw, pt⟩ := zz
    dsimp only [sS, sZ] at nw
    refine GoT.stepX rfl (pt (by exact rfl) (by exact rfl)) rfl rfl rfl ?_
    refine nst pq fun s hO => ?_
    skip
    refine sbl 3 ?_
    obtain ⟨mc, H⟩ := H
    obtain ⟨iV, H⟩ := H
    refine GoT.pure rfl (J01 Try.underlying23 ti31 rfl rfl mc (ltn (t2neqH 1 hO rfl) iV) (t2someH 1 hO rfl mc iV)) rfl rfl ?_
    skip
    refine sfr 1 hO fun s hO => ?_
    refine sfr 1 hO fun s hO => ?_
    have zz := t2fix (hf := Fl.i) hO nw.u mc iV rfl
    obtain ⟨BX, pv, iE⟩ := zz
    refine GoT.stepX rfl (iE Try.underlying31 rfl ti31 (by exact rfl) (by exact rfl)) rfl rfl rfl ?_
    refine nst pv fun s hO => ?_
    refine sinc (natbd h43 cy.bd) ?_
    refine au ?_
    exact hX2 _ H _ _ ⟨_, agr, hO, cy.u, c8.u, fr⟩
   refine au ?_
   obtain ⟨wG, H⟩ := H
   refine zo (J0k rfl rfl (wrap_i64 wG)) ?_
   refine au ?_
   exact hX1 _ H _ _ ⟨_, agr, hO, cy.u, c8.u, fr⟩
  refine au ?_
  refine drw 4 [(0, .pure), (1, .pure), (2, .pure), (3, .pure), (4, .stable), (5, .pure), (6, .pure), (7, .pure), (8, .stable), (9, .pure), (10, .stable), (11, .pure), (12, .pure), (13, .stable), (14, .pure), (15, .pure), (16, .pure), (17, .stable), (18, .pure), (19, .loud), (20, .last), (21, .pure), (22, .pure), (23, .last)] hO fun BY s hO => ?_
  refine au ?_
  obtain ⟨wH, H⟩ := H
  refine GoQ.pure rfl (J0k rfl rfl (wrap_i64 wH)) rfl rfl ?_
  refine au ?_
  refine GoQ.pure rfl (J0a Try.underlying120 ti120 (pl := [(0, 1), (1, 1), (2, 1)]) (vs := [(0, .int .i64 ((0 : Int) + r13.Start)), (1, .slice bX r13.Final.length bY), (2, .int .i64 (0 : Int))]) (cs := #[.int .i64 ((0 : Int) + r13.Start), .slice bX r13.Final.length bY, .int .i64 (0 : Int)]) (by kernel_rfl) rfl (by kernel_rfl)) rfl rfl ?_
  have zz := obuildN (r := rppart) (n := 1) (parts := [(0, .agg #[.int .i64 ((0 : Int) + r13.Start), .slice bX r13.Final.length bY, .int .i64 (0 : Int)])]) (vs := [.int .i64 ((0 : Int) + r13.Start), .slice bX r13.Final.length bY, .int .i64 (0 : Int)]) (xs := [(⟨((0 : Int) + r13.Start), r13.Final, (0 : Int)⟩ : part)]) Try.underlying81 ti120 hO (by decide) (by decide) (by kernel_rfl) (Els.consR (us := [.int .i64 ((0 : Int) + r13.Start), .slice bX r13.Final.length bY, .int .i64 (0 : Int)]) rfl ⟨rfl, ⟨bX, bY, rfl, cy.u⟩, rfl⟩ (Els.nil _ _ _) (by simp [mx])) rfl
  obtain ⟨vG, B1, pC, tf, tg, pD⟩ := zz
  refine GoQ.loud rfl (pD rfl) tg rfl rfl ?_
  refine nst pC fun s hO => ?_
  refine sfzR 0 hO tf fun s hO tj jD => ?_
  have pE := Stp.nil (e := 120) (r := 3) hO
  refine nst pE fun s hO => ?_
  have tm := elN (rppart) hO
  obtain ⟨wI, H⟩ := H
  have zz := oapp Try.underlying81 ti120 rfl 0 hO rfl tm tj.u jD wI (by decide)
  obtain ⟨wg, dI, dJ, dy, pF, cH, pG⟩ := zz
  dsimp only [sS, sZ] at cH
  refine GoQ.last rfl (pG (by exact rfl) (by exact rfl)) rfl rfl ?_
  refine nst pF fun s hO => ?_
  refine sbs 3 hO fun wh s hO => ?_
  refine au ?_
  obtain ⟨wJ, H⟩ := H
  refine zo (J0k rfl rfl (wrap_i64 wJ)) ?_
  refine sbs 3 hO fun uN s hO => ?_
  refine au ?_
  refine Go1.ret1V Try.func62 rfl (show _ = .int .i64 (0 : Int) from rfl) ?_
  refine hR15 _ _ ?_
  refine au ?_
  refine zo (fun w => opB (J4c rfl rfl w) (ndT (by decide))) ?_
  refine au ?_
  refine GoR.inl (vs := [.pointer (some ⟨B11, 0, none⟩)]) (caps := []) rfl rfl body63 Try.func63 rfl Try.ntmps63 rfl rfl rfl ?_
  intro RhR152 hR152
  refine sal hO fun nS B154 s hO => ?_
  refine au ?_
  refine sfz2 2 hO fun s hO cV ny => ?_
  refine zcr (J00 body101 (show ([.slice p23 r13.Letters.toNat r13.Letters.toNat, .bool true] : List Value) = [.slice p23 dH.length r13.Letters.toNat, .bool true] from by rw [← ny]) (J31 hO.lt cV H)) fun _ uQ => e4 fun r158 r159 cp cq => e4 fun bS bT bP bQ => e4 fun cv cw bA bB => e2 fun cb cd => sc0 hO fun s hO => d1 fun bg => d1 fun ag => d4 fun ah aN af aO H => ?_
  refine sal hO fun B3 B162 s hO => ?_
  refine sba 0 hO fun vK s hO => ?_
  refine scm H (fun pI H => ?_) fun pI H => ?_
  ·refine sln0 ?_
   refine scm (H ag.bd) (fun ks H => ?_) fun ks H => ?_
   ·refine au ?_
    refine zo (J0a Try.underlying33 ti33 (pl := [(0, 1), (1, 1), (2, 1), (3, 1), (4, 1), (5, 1)]) (vs := []) (cs := #[.int .i64 (0 : Int), .slice none 0 0, .slice none 0 0, .slice none 0 0, .slice none 0 0, .slice none 0 0]) (by kernel_rfl) rfl (by kernel_rfl)) ?_
    refine sba 1 hO fun nT s hO => ?_
    refine au ?_
    refine Go1.retC3V Try.func63 rfl rfl (rlb 1 hO) (show _ = .slice none 0 0 from rfl) (show _ = .int .i64 (3 : Int) from rfl) ?_
    refine hR152 _ _ ?_
    refine sal hO fun om B169 s hO => ?_
    refine sba 0 hO fun nU s hO => ?_
    refine au ?_
    refine zo (fun w => opB (J4c rfl rfl w) (ndF (by decide))) ?_
    refine au ?_
    refine zo (J0a Try.underlying33 ti33 (pl := [(0, 1), (1, 1), (2, 1), (3, 1), (4, 1), (5, 1)]) (vs := []) (cs := #[.int .i64 (0 : Int), .slice none 0 0, .slice none 0 0, .slice none 0 0, .slice none 0 0, .slice none 0 0]) (by kernel_rfl) rfl (by kernel_rfl)) ?_
    refine sba 6 hO fun oo s hO => ?_
    refine au ?_
    refine Go1.retC2 Try.func19 rfl rfl (rlb 6 hO) ⟨((⟨(0 : Int), ([] : List (List Int)), ([] : List Str), ([] : List Int), ([] : List Bool), ([] : List Bool)⟩ : Syntactic)), _, _, _, _, _, _, _, _, _, _, _, ?_, frs, (ISl.null _ _ _), (ISl.null _ _ _), (ISl.null _ _ _), (ISl.null _ _ _), (ISl.null _ _ _), H⟩
    exact rfl
   refine au ?_
   refine drA Same.tr 1 [(0, .pure), (1, .pure), (2, .pure), (3, .stable), (4, .pure), (5, .pure), (7, .pure), (9, .pure), (10, .stable), (11, .pure), (12, .stable), (14, .pure), (13, .loud), (6, .alloc), (8, .alloc), (15, .alloc), (16, .pure), (17, .alloc), (18, .last)] hO fun wK s hO => ?_
   have iq := hO.le
   have hw175 := (fr : Fr (bl []) w0 _ wK).ch.size
   refine au ?_
   refine au ?_
   refine au ?_
   refine sbl 4 ?_
   refine slnN ny ?_
   refine au ?_
   refine au ?_
   refine au ?_
   refine sbl 0 ?_
   refine sxls hO af.u (H cV.bd).1 (H cV.bd).2.1 fun B6 B8 tn => ?_
   refine au ?_
   refine GoQA.loudI rfl rfl fun vM A180 tp => ?_
   refine sgw tp hO fun s hO => ?_
   have Ca := (H cV.bd).1
   have Cb := (H cV.bd).2.1
   refine GoAt.call (J00 body86 rfl (J0p hO.lt tn.u (H cV.bd).2.2)) (fun _ _ hr => ⟨fun _ => saq hr, Same.kp hO (saq hr)⟩) rfl fun _ uW => e4 fun r182 cY cW cX => sA1 hO fun s hO => fun H => ?_
   obtain ⟨kt, H⟩ := H
   obtain ⟨wL, H⟩ := H
   refine GoQA.alloc rfl rfl (alMake2 (e' := 3) Fl.i Try.underlying23 ti31 kt wL (by decide) rfl rfl) ?_
   intro wM A190 du A192 tq tt hd195 hnb196 hh197
   refine sgw tq hO fun s hO => ?_
   refine sgn (e := t2 Fl.i 31 3 (some ⟨du, 0, none⟩) r158.Elems.length r158.Elems.length ((fun _ => (none, 0))) (List.replicate r158.Elems.length ([] : List Int))) tt hO iq hw175 hnb196 (J4V du) hh197 hd195 (fr : Fr (bl []) w0 _ wM) fun s hO hB => ?_
   obtain ⟨wN, H⟩ := H
   obtain ⟨wO, H⟩ := H
   have zz := alMakeE (n := (r158.Elems.length : Int)) (r := Rp.str) (d := ([] : Str)) Try.underlying30 ti9 (fun _ _ => ⟨rfl, Nat.zero_le _⟩) rfl wN wO (by decide)
   obtain ⟨tu, hal214, tv⟩ := zz
   refine GoQA.alloc rfl rfl (hal214 rfl rfl) ?_
   intro pK A202 dB A204 tw tx hd207 hnb208 hh209
   refine sgw tw hO fun s hO => ?_
   have jP := tv (bl [t2 Fl.i 31 3 (some ⟨du, 0, none⟩) r158.Elems.length r158.Elems.length ((fun _ => (none, 0))) (List.replicate r158.Elems.length ([] : List Int)), t1 Fl.i 3 cW cY cX r182, .blk B162 (.cells #[.int .i64 r158.Points, .bool r158.Monoid, .slice cp r158.Gens.length cq, .slice bS r158.Elems.length bT, .slice bP r158.Prefix.length bQ, .slice cv r158.Last.length cw, .slice bA r158.Right.length bB, .slice cb r158.Rules.length cd, .int .i64 r158.Done] 123 (0, 0)), .blk B154 (.cells #[.int .i64 (0 : Int), .slice none 0 0, .slice none 0 0, .slice none 0 0, .slice none 0 0, .slice none 0 0] 33 (0, 0)), .row 120 3 dI (0 + 1) dJ dy, .blk B17 (.cells #[.int .i64 r13.Letters, .int .i64 r13.Start, .slice bX r13.Final.length bY, .slice cR r13.Next.length cS] 25 (0, 0)), .blk B11 (.cells #[.slice p23 r13.Letters.toNat r13.Letters.toNat, .slice dI (0 + 1) dJ, .int .i64 ((0 : Int) + (r13.Final.length : Int))] 83 (0, 0)), .blk B5 (.cells #[.int .i64 (0 : Int), .slice none 0 0, .slice none 0 0, .slice none 0 0, .slice none 0 0, .slice none 0 0] 33 (0, 0))] ++ A202) pK
   refine sgn (e := .row 9 1 (some ⟨dB, 0, none⟩) r158.Elems.length r158.Elems.length tu) tx hO iq hw175 hnb208 rfl hh209 hd207 (fr : Fr (bl []) w0 _ pK) fun s hO hB => ?_
   replace jP := jP.ch s.ch
   refine cl1 Fl.str 0 hO jP.u fun s hO => ?_
   obtain ⟨wP, H⟩ := H
   obtain ⟨wQ, H⟩ := H
   have zz := alMakeE (n := (r158.Elems.length : Int)) (r := Rp.bool) (d := false) Try.underlying22 ti4 (fun _ _ => rfl) rfl wP wQ (by decide)
   obtain ⟨tz, hal230, tA⟩ := zz
   refine GoQA.alloc rfl rfl (hal230 rfl rfl) ?_
   intro kN A218 dK A220 tB tC hd223 hnb224 hh225
   refine sgw tB hO fun s hO => ?_
   have jQ := tA (bl [t1 Fl.str 9 (some ⟨dB, 0, none⟩) r158.Elems.length r158.Elems.length (List.replicate r158.Elems.length (([] : Str))), t2 Fl.i 31 3 (some ⟨du, 0, none⟩) r158.Elems.length r158.Elems.length ((fun _ => (none, 0))) (List.replicate r158.Elems.length ([] : List Int)), t1 Fl.i 3 cW cY cX r182, .blk B162 (.cells #[.int .i64 r158.Points, .bool r158.Monoid, .slice cp r158.Gens.length cq, .slice bS r158.Elems.length bT, .slice bP r158.Prefix.length bQ, .slice cv r158.Last.length cw, .slice bA r158.Right.length bB, .slice cb r158.Rules.length cd, .int .i64 r158.Done] 123 (0, 0)), .blk B154 (.cells #[.int .i64 (0 : Int), .slice none 0 0, .slice none 0 0, .slice none 0 0, .slice none 0 0, .slice none 0 0] 33 (0, 0)), .row 120 3 dI (0 + 1) dJ dy, .blk B17 (.cells #[.int .i64 r13.Letters, .int .i64 r13.Start, .slice bX r13.Final.length bY, .slice cR r13.Next.length cS] 25 (0, 0)), .blk B11 (.cells #[.slice p23 r13.Letters.toNat r13.Letters.toNat, .slice dI (0 + 1) dJ, .int .i64 ((0 : Int) + (r13.Final.length : Int))] 83 (0, 0)), .blk B5 (.cells #[.int .i64 (0 : Int), .slice none 0 0, .slice none 0 0, .slice none 0 0, .slice none 0 0, .slice none 0 0] 33 (0, 0))] ++ A218) kN
   refine sgn (e := .row 4 1 (some ⟨dK, 0, none⟩) r158.Elems.length r158.Elems.length tz) tC hO iq hw175 hnb224 rfl hh225 hd223 (fr : Fr (bl []) w0 _ kN) fun s hO hB => ?_
   replace jQ := jQ.ch s.ch
   refine cl1 Fl.bool 0 hO jQ.u fun s hO => ?_
   refine GoQA.pure rfl (J0a Try.underlying33 ti33 (pl := [(0, 1), (1, 1), (2, 1), (3, 1), (4, 1), (5, 1)]) (vs := [(0, .int .i64 (dH.length : Int)), (1, .slice (some ⟨du, 0, none⟩) r158.Elems.length r158.Elems.length), (2, .slice (some ⟨dB, 0, none⟩) r158.Elems.length r158.Elems.length), (3, .slice cW cY cX), (5, .slice (some ⟨dK, 0, none⟩) r158.Elems.length r158.Elems.length)]) (cs := #[.int .i64 (dH.length : Int), .slice (some ⟨du, 0, none⟩) r158.Elems.length r158.Elems.length, .slice (some ⟨dB, 0, none⟩) r158.Elems.length r158.Elems.length, .slice cW cY cX, .slice none 0 0, .slice (some ⟨dK, 0, none⟩) r158.Elems.length r158.Elems.length]) (by kernel_rfl) rfl (by kernel_rfl)) rfl rfl ?_
   refine GoQA.alloc rfl rfl (alAlloc (cs := #[.int .i64 (0 : Int), .slice none 0 0, .slice none 0 0, .slice none 0 0, .slice none 0 0, .slice none 0 0]) ti33 rfl) ?_
   intro wR A234 eg A236 tD tE hd239 hnb240 hh241
   refine sgw tD hO fun s hO => ?_
   refine sgn (e := .blk eg (.cells #[.int .i64 (0 : Int), .slice none 0 0, .slice none 0 0, .slice none 0 0, .slice none 0 0, .slice none 0 0] 33 (0, 0))) tE hO iq hw175 hnb240 rfl hh241 hd239 (fr : Fr (bl []) w0 _ wR) fun s hO hB => ?_
   refine GoQA.lastI rfl rfl fun Cc A243 tF => ?_
   refine sgw tF hO fun s hO => ?_
   refine sba 0 hO fun Cd s hO => ?_
   refine GoQA.nil fun wS A247 tG tH => ?_
   refine sgw tG hO fun s hO => ?_
   refine spm tH hO fun s hO => ?_
   refine au ?_
   have hB := (fr : Fr (bl []) w0 _ wS)
   replace cH := cH.o hO
   replace ag := ag.o hO
   replace bg := bg.o hO
   replace aN := aN.o hO
   replace ah := ah.o hO
   replace af := af.o hO
   replace aO := aO.o hO
   replace cV := cV.o hO
   revert hO; repeat (rename Owns _ _ _ _ => q; clear q)
   intro hO; repeat (rename Sq _ _ _ _ _ _ => q; clear q)
   refine au ?_
   refine sdr [8] hO fun s hO => ?_
   refine lw H (fun (fJ, d_252, eF) σ w => (fun Z => agrees σ [(0, .pointer (some ⟨B11, 0, none⟩)), (2, .pointer (some ⟨B154, 0, none⟩)), (5, .pointer (some ⟨B162, 0, none⟩)), (7, .int .i64 (r158.Elems.length : Int)), (8, .pointer (some ⟨eg, 0, none⟩)), (9, .int .i64 (fJ : Int))] ∧ Owns w0.heap.size w Z A ∧ Els (rppart) (bl Z ++ A) w dy ((([] : List part)) ++ ([(⟨((0 : Int) + r13.Start), r13.Final, (0 : Int)⟩ : part)])) ∧ ISl (Rp.sl (Rp.int .i64)) (bl Z ++ A) w p23 r13.Letters.toNat dH ∧ ISl (Rp.sl (Rp.int .i64)) (bl Z ++ A) w cp cq r158.Gens ∧ ISl (Rp.sl (Rp.int .i64)) (bl Z ++ A) w bS bT r158.Elems ∧ ISl (Rp.int .i64) (bl Z ++ A) w bP bQ r158.Prefix ∧ ISl (Rp.int .i64) (bl Z ++ A) w cv cw r158.Last ∧ ISl (Rp.sl (Rp.int .i64)) (bl Z ++ A) w bA bB r158.Right ∧ ISl (rpRule) (bl Z ++ A) w cb cd r158.Rules ∧ Fr (bl []) w0 (bl Z) w) [.blk eg (.cells #[.int .i64 (dH.length : Int), .slice (some ⟨du, 0, none⟩) r158.Elems.length r158.Elems.length, .slice (some ⟨dB, 0, none⟩) r158.Elems.length r158.Elems.length, .slice cW cY cX, .slice none 0 0, .slice (some ⟨dK, 0, none⟩) r158.Elems.length r158.Elems.length] 33 (0, 0)), t1 Fl.bool 4 (some ⟨dK, 0, none⟩) r158.Elems.length r158.Elems.length d_252, t1 Fl.str 9 (some ⟨dB, 0, none⟩) r158.Elems.length r158.Elems.length eF, t2 Fl.i 31 3 (some ⟨du, 0, none⟩) r158.Elems.length r158.Elems.length ((fun _ => (none, 0))) (List.replicate r158.Elems.length ([] : List Int)), t1 Fl.i 3 cW cY cX r182, .blk B162 (.cells #[.int .i64 r158.Points, .bool r158.Monoid, .slice cp r158.Gens.length cq, .slice bS r158.Elems.length bT, .slice bP r158.Prefix.length bQ, .slice cv r158.Last.length cw, .slice bA r158.Right.length bB, .slice cb r158.Rules.length cd, .int .i64 r158.Done] 123 (0, 0)), .blk B154 (.cells #[.int .i64 (0 : Int), .slice none 0 0, .slice none 0 0, .slice none 0 0, .slice none 0 0, .slice none 0 0] 33 (0, 0)), .row 120 3 dI (0 + 1) dJ dy, .blk B11 (.cells #[.slice p23 r13.Letters.toNat r13.Letters.toNat, .slice dI (0 + 1) dJ, .int .i64 ((0 : Int) + (r13.Final.length : Int))] 83 (0, 0)), .blk B5 (.cells #[.int .i64 (0 : Int), .slice none 0 0, .slice none 0 0, .slice none 0 0, .slice none 0 0, .slice none 0 0] 33 (0, 0))]) ⟨agr, hO, cH.u, cV.u, bg.u, ag.u, ah.u, aN.u, af.u, aO.u, fr⟩ ?_
   refine fun X3 => p2 fun fJ d_252 eF => fun H hX3 σ Ce => d1 fun hag => d1 fun hO => d1 fun cH => d1 fun cV => d1 fun bg => d1 fun ag => d4 fun ah aN af aO hB => ?_
   dsimp only at H
   refine Go1.keep _ hag ?_
   revert hO; repeat (rename Owns _ _ _ _ => q; clear q)
   intro hO; repeat (rename Sq _ _ _ _ _ _ => q; clear q)
   refine scm H (fun pM H => ?_) fun pM H => ?_
   ·refine au ?_
    refine drw 1 [(0, .pure), (1, .stable), (2, .pure), (3, .pure), (4, .stable), (5, .pure), (6, .stable), (7, .pure), (8, .pure), (9, .stable), (10, .pure), (11, .stable), (12, .pure), (13, .stable), (14, .pure), (15, .pure), (16, .stable), (17, .pure), (18, .pure), (19, .loud), (20, .stable), (21, .pure), (22, .pure), (23, .last)] hO fun Cf s hO => ?_
    refine sxl hO ah.u H.1 H.2.1 ?_
    refine sxl1 2 hO H.2.2.1 H.2.2.2.1 ?_
    have hle256 := t1le 2 hO H.2.2.1 H.2.2.2.1
    refine sxl hO aN.u H.2.2.2.2.1 H.2.2.2.2.2.1 ?_
    have Cg := H.1
    have Ci := H.2.1
    have Cj := H.2.2.1
    have Ck := H.2.2.2.1
    have Cl := H.2.2.2.2.1
    have Cm := H.2.2.2.2.2.1
    replace H := H.2.2.2.2.2.2
    obtain ⟨wT, H⟩ := H
    refine GoQ.pure rfl (J0k rfl rfl (wrap_i64 wT)) rfl rfl ?_
    refine GoQ.pure rfl (J3N Try.underlying3 Try.underlying5 rfl rfl) rfl rfl ?_
    refine sbu (Fl.int .u8) 5 [(IntKind.u8.wrap ((97 : Int) + (ix r158.Last (fJ : Int))))] hO fun Cn Co s hO => ?_
    refine op1 0 hO fun ip s hO fd => ?_
    have hle269 := J7z fd.bd
    refine GoQ.stable rfl (oldBytes 0 hO rfl fd.u Try.underlying126 Try.underlying5 Try.underlying9 rfl) rfl rfl ?_
    obtain ⟨pN, H⟩ := H
    refine GoQ.pure rfl (J5v rfl rfl pN) rfl rfl ?_
    refine six1 3 hO H.1 H.2.1 ?_
    refine sst (u := ((ix eF (ix r158.Prefix (fJ : Int))) ++ (byt ([(IntKind.u8.wrap ((97 : Int) + (ix r158.Last (fJ : Int))))])))) 3 hO H.1 H.2.1 (fun Cp s hO => ?_) (hR := by exact fun _ _ => ⟨rfl, (lenApp pN)⟩)
    refine six1 2 hO H.2.2.1 H.2.2.2.1 ?_
    refine sst (u := true) 2 hO H.2.2.1 H.2.2.2.1 fun Cq s hO => ?_
    refine sinc (natbd pM ag.bd) ?_
    refine au ?_
    refine cl1 (Fl.int .u8) 0 hO fd.u fun s hO => ?_
    refine sdr [0] hO fun s hO => ?_
    exact hX3 _ H.2.2.2.2 _ _ ⟨agr, hO, cH.u, cV.u, bg.u, ag.u, ah.u, aN.u, af.u, aO.u, fr⟩
   refine sln0 ?_
   refine au ?_
   refine lw (H af.bd) (fun (c6, d_275, gP) σ w => ∃ fO, (fun Z => agrees σ [(0, .pointer (some ⟨B11, 0, none⟩)), (2, .pointer (some ⟨B154, 0, none⟩)), (5, .pointer (some ⟨B162, 0, none⟩)), (7, .int .i64 (r158.Elems.length : Int)), (8, .pointer (some ⟨eg, 0, none⟩)), (86, .slice bA r158.Right.length bB), (87, .int .i64 (r158.Right.length : Int)), (88, .int .i64 (c6 : Int))] ∧ Owns w0.heap.size w Z A ∧ Els (rppart) (bl Z ++ A) w dy ((([] : List part)) ++ ([(⟨((0 : Int) + r13.Start), r13.Final, (0 : Int)⟩ : part)])) ∧ ISl (Rp.sl (Rp.int .i64)) (bl Z ++ A) w p23 r13.Letters.toNat dH ∧ ISl (Rp.sl (Rp.int .i64)) (bl Z ++ A) w cp cq r158.Gens ∧ ISl (Rp.sl (Rp.int .i64)) (bl Z ++ A) w bS bT r158.Elems ∧ ISl (Rp.int .i64) (bl Z ++ A) w bP bQ r158.Prefix ∧ ISl (Rp.int .i64) (bl Z ++ A) w cv cw r158.Last ∧ ISl (Rp.sl (Rp.int .i64)) (bl Z ++ A) w bA bB r158.Right ∧ ISl (rpRule) (bl Z ++ A) w cb cd r158.Rules ∧ Fr (bl []) w0 (bl Z) w) [.blk eg (.cells #[.int .i64 (dH.length : Int), .slice (some ⟨du, 0, none⟩) r158.Elems.length r158.Elems.length, .slice (some ⟨dB, 0, none⟩) r158.Elems.length r158.Elems.length, .slice cW cY cX, .slice none 0 0, .slice (some ⟨dK, 0, none⟩) r158.Elems.length r158.Elems.length] 33 (0, 0)), t1 Fl.bool 4 (some ⟨dK, 0, none⟩) r158.Elems.length r158.Elems.length d_275, t1 Fl.str 9 (some ⟨dB, 0, none⟩) r158.Elems.length r158.Elems.length eF, t2 Fl.i 31 3 (some ⟨du, 0, none⟩) r158.Elems.length r158.Elems.length fO gP, t1 Fl.i 3 cW cY cX r182, .blk B162 (.cells #[.int .i64 r158.Points, .bool r158.Monoid, .slice cp r158.Gens.length cq, .slice bS r158.Elems.length bT, .slice bP r158.Prefix.length bQ, .slice cv r158.Last.length cw, .slice bA r158.Right.length bB, .slice cb r158.Rules.length cd, .int .i64 r158.Done] 123 (0, 0)), .blk B154 (.cells #[.int .i64 (0 : Int), .slice none 0 0, .slice none 0 0, .slice none 0 0, .slice none 0 0, .slice none 0 0] 33 (0, 0)), .row 120 3 dI (0 + 1) dJ dy, .blk B11 (.cells #[.slice p23 r13.Letters.toNat r13.Letters.toNat, .slice dI (0 + 1) dJ, .int .i64 ((0 : Int) + (r13.Final.length : Int))] 83 (0, 0)), .blk B5 (.cells #[.int .i64 (0 : Int), .slice none 0 0, .slice none 0 0, .slice none 0 0, .slice none 0 0, .slice none 0 0] 33 (0, 0))]) ⟨_, agr, hO, cH.u, cV.u, bg.u, ag.u, ah.u, aN.u, af.u, aO.u, fr⟩ ?_
   refine fun X4 => p2 fun c6 d_275 gP => fun H hX4 σ Cr => e1 fun fO => d1 fun hag => d1 fun hO => d1 fun cH => d1 fun cV => d1 fun bg => d1 fun ag => d4 fun ah aN af aO hB => ?_
   dsimp only at H
   refine Go1.keep _ hag ?_
   revert hO; repeat (rename Owns _ _ _ _ => q; clear q)
   intro hO; repeat (rename Sq _ _ _ _ _ _ => q; clear q)
   refine scm H (fun mf H => ?_) fun mf H => ?_
   ·refine sxls hO af H.1 H.2.1 fun Ct Cu tI => ?_
    refine au ?_
    refine drw 1 [(0, .pure), (1, .stable), (2, .pure), (3, .stable), (4, .pure), (5, .stable), (6, .pure), (7, .pure), (8, .loud), (9, .pure), (10, .pure), (11, .last)] hO fun Cv s hO => ?_
    refine au ?_
    have Cw := H.1
    have Cx := H.2.1
    have Cy := H.2.2.1
    have eO := H.2.2.2.1
    refine sxb1 1 hO H.2.2.1 H.2.2.2.1 H.2.2.2.2 (fun wU H => ?_) fun wU H => ?_
    ·refine six1 1 hO H.1 H.2.1 ?_
     refine sst (u := true) 1 hO H.1 H.2.1 fun Cz s hO => ?_
     refine au ?_
     refine drw 1 [(0, .pure), (1, .stable), (2, .pure), (3, .pure), (4, .loud), (5, .pure), (6, .last)] hO fun vS s hO => ?_
     refine smk Fl.i H.2.2 hO fun CA wV s hO => ?_
     have CB := H.1
     have CC := H.2.1
     replace H := H.2.2.2.2
     obtain ⟨mg, H⟩ := H
     obtain ⟨mh, H⟩ := H
     refine GoQ.pure rfl (J01 Try.underlying23 ti31 rfl rfl mg (ltn (t2neq 4 hO rfl) mh) (t2some 4 hO rfl mg mh)) rfl rfl ?_
     refine op1 0 hO fun yl s hO tJ => ?_
     refine sfr 4 hO fun s hO => ?_
     refine sfr 1 hO fun s hO => ?_
     have zz := t2put (hf := Fl.i) hO tJ.u mg mh
     obtain ⟨vT, pO, pP⟩ := zz
     refine GoQ.last rfl (pP Try.underlying31 rfl ti31 (by exact rfl) (by exact rfl)) rfl rfl ?_
     refine nst pO fun s hO => ?_
     refine au ?_
     obtain ⟨iW, H⟩ := H
     obtain ⟨iX, H⟩ := H
     refine zo (J01 Try.underlying23 ti31 rfl rfl iW (ltn (t2neq 0 hO rfl) iX) (t2some 0 hO rfl iW iX)) ?_
     refine zs (t2head 0 hO rfl iW iX Try.underlying31 rfl rfl) ?_
     refine au ?_
     obtain ⟨mj, H⟩ := H
     obtain ⟨mm, H⟩ := H
     refine zo (J01 Try.underlying31 ti3 rfl rfl mj mm (t2isome 0 hO rfl iW iX mj mm)) ?_
     have zz := t2st (r := Rp.int .i64) (hf := Fl.i) rfl 0 hO rfl iW iX mj mm (v := .int .i64 (c6 : Int)) (u := (c6 : Int)) rfl rfl
     obtain ⟨CD, pQ, pS⟩ := zz
     refine zg (pS Try.underlying3 rfl ti3 (by exact rfl) (by exact rfl)) ?_
     refine nst pQ fun s hO => ?_
     refine au ?_
     refine lw H (fun (fv, d_311) σ w => (fun Z => agrees σ [(0, .pointer (some ⟨B11, 0, none⟩)), (2, .pointer (some ⟨B154, 0, none⟩)), (5, .pointer (some ⟨B162, 0, none⟩)), (7, .int .i64 (r158.Elems.length : Int)), (8, .pointer (some ⟨eg, 0, none⟩)), (10, .int .i64 (c6 : Int)), (12, .int .i64 (fv : Int)), (86, .slice bA r158.Right.length bB), (87, .int .i64 (r158.Right.length : Int)), (88, .int .i64 (c6 : Int))] ∧ Owns w0.heap.size w Z A ∧ Els (rppart) (bl Z ++ A) w dy ((([] : List part)) ++ ([(⟨((0 : Int) + r13.Start), r13.Final, (0 : Int)⟩ : part)])) ∧ ISl (Rp.sl (Rp.int .i64)) (bl Z ++ A) w p23 r13.Letters.toNat dH ∧ ISl (Rp.sl (Rp.int .i64)) (bl Z ++ A) w cp cq r158.Gens ∧ ISl (Rp.sl (Rp.int .i64)) (bl Z ++ A) w bS bT r158.Elems ∧ ISl (Rp.int .i64) (bl Z ++ A) w bP bQ r158.Prefix ∧ ISl (Rp.int .i64) (bl Z ++ A) w cv cw r158.Last ∧ ISl (Rp.sl (Rp.int .i64)) (bl Z ++ A) w bA bB r158.Right ∧ ISl (rpRule) (bl Z ++ A) w cb cd r158.Rules ∧ Fr (bl []) w0 (bl Z) w) [t2 Fl.i 31 3 (some ⟨du, 0, none⟩) r158.Elems.length r158.Elems.length (hup fO (c6 : Int).toNat (wV, r158.Elems.length)) d_311, .blk eg (.cells #[.int .i64 (dH.length : Int), .slice (some ⟨du, 0, none⟩) r158.Elems.length r158.Elems.length, .slice (some ⟨dB, 0, none⟩) r158.Elems.length r158.Elems.length, .slice cW cY cX, .slice none 0 0, .slice (some ⟨dK, 0, none⟩) r158.Elems.length r158.Elems.length] 33 (0, 0)), t1 Fl.bool 4 (some ⟨dK, 0, none⟩) r158.Elems.length r158.Elems.length (st d_275 (0 : Int) true), t1 Fl.str 9 (some ⟨dB, 0, none⟩) r158.Elems.length r158.Elems.length eF, t1 Fl.i 3 cW cY cX r182, .blk B162 (.cells #[.int .i64 r158.Points, .bool r158.Monoid, .slice cp r158.Gens.length cq, .slice bS r158.Elems.length bT, .slice bP r158.Prefix.length bQ, .slice cv r158.Last.length cw, .slice bA r158.Right.length bB, .slice cb r158.Rules.length cd, .int .i64 r158.Done] 123 (0, 0)), .blk B154 (.cells #[.int .i64 (0 : Int), .slice none 0 0, .slice none 0 0, .slice none 0 0, .slice none 0 0, .slice none 0 0] 33 (0, 0)), .row 120 3 dI (0 + 1) dJ dy, .blk B11 (.cells #[.slice p23 r13.Letters.toNat r13.Letters.toNat, .slice dI (0 + 1) dJ, .int .i64 ((0 : Int) + (r13.Final.length : Int))] 83 (0, 0)), .blk B5 (.cells #[.int .i64 (0 : Int), .slice none 0 0, .slice none 0 0, .slice none 0 0, .slice none 0 0, .slice none 0 0] 33 (0, 0))]) ⟨agr, hO, cH.u, cV.u, bg.u, ag.u, ah.u, aN.u, af.u, aO.u, fr⟩ ?_
     refine fun X5 => p1 fun fv d_311 => fun H hX5 σ CE => d1 fun hag => d1 fun hO => d1 fun cH => d1 fun cV => d1 fun bg => d1 fun ag => d4 fun ah aN af aO hB => ?_
     dsimp only at H
     refine Go1.keep _ hag ?_
     revert hO; repeat (rename Owns _ _ _ _ => q; clear q)
     intro hO; repeat (rename Sq _ _ _ _ _ _ => q; clear q)
     refine scm H (fun pT H => ?_) fun pT H => ?_
     ·refine au ?_
      refine drw 1 [(0, .pure), (1, .stable), (2, .pure), (3, .pure), (4, .stable), (5, .pure), (6, .pure), (7, .stable), (8, .pure), (9, .stable), (10, .pure), (11, .pure), (12, .stable), (13, .pure), (14, .stable), (15, .pure), (16, .pure), (17, .stable), (18, .pure), (19, .stable), (20, .pure), (21, .stable), (22, .pure), (23, .stable), (24, .pure), (25, .pure), (26, .stable), (27, .pure), (28, .stable), (29, .pure), (30, .last)] hO fun vU s hO => ?_
      refine au ?_
      obtain ⟨iY, H⟩ := H
      obtain ⟨i4, H⟩ := H
      refine GoQ.pure rfl (J01 Try.underlying23 ti31 rfl rfl iY (ltn (t2neq 0 hO rfl) i4) (t2some 0 hO rfl iY i4)) rfl rfl ?_
      refine GoQ.stable rfl (t2head 0 hO rfl iY i4 Try.underlying31 rfl rfl) rfl rfl ?_
      refine au ?_
      obtain ⟨i5, H⟩ := H
      obtain ⟨i6, H⟩ := H
      refine GoQ.pure rfl (J01 Try.underlying23 ti31 rfl rfl i5 (ltn (t2neq 0 hO rfl) i6) (t2some 0 hO rfl i5 i6)) rfl rfl ?_
      refine GoQ.stable rfl (t2head 0 hO rfl i5 i6 Try.underlying31 rfl rfl) rfl rfl ?_
      refine sxl hO ah.u H.1 H.2.1 ?_
      have CF := H.1
      have CG := H.2.1
      replace H := H.2.2
      obtain ⟨mo, H⟩ := H
      obtain ⟨mq, H⟩ := H
      refine GoQ.pure rfl (J01 Try.underlying31 ti3 rfl rfl mo mq (t2isome 0 hO rfl i5 i6 mo mq)) rfl rfl ?_
      refine GoQ.stable rfl (t2Int 0 hO rfl i5 i6 mo mq Try.underlying3 rfl rfl) rfl rfl ?_
      refine sxls hO af.u H.1 H.2.1 fun CH CJ tK => ?_
      refine sxl hO aN.u H.2.2.1 H.2.2.2.1 ?_
      refine sxl hO tK.u H.2.2.2.2.1 H.2.2.2.2.2.1 ?_
      have CK := H.1
      have CM := H.2.1
      have CO := H.2.2.1
      have CP := H.2.2.2.1
      have CQ := H.2.2.2.2.1
      have CR := H.2.2.2.2.2.1
      replace H := H.2.2.2.2.2.2
      obtain ⟨mr, H⟩ := H
      obtain ⟨ms, H⟩ := H
      refine GoQ.pure rfl (J01 Try.underlying31 ti3 rfl rfl mr ms (t2isome 0 hO rfl iY i4 mr ms)) rfl rfl ?_
      have zz := t2st (r := Rp.int .i64) (hf := Fl.i) rfl 0 hO rfl iY i4 mr ms (v := .int .i64 (ix (ix r158.Right (ix (ix d_311 (c6 : Int)) (ix r158.Prefix (fv : Int)))) (ix r158.Last (fv : Int)))) (u := (ix (ix r158.Right (ix (ix d_311 (c6 : Int)) (ix r158.Prefix (fv : Int)))) (ix r158.Last (fv : Int)))) rfl rfl
      obtain ⟨CT, pU, pV⟩ := zz
      refine GoQ.last rfl (pV Try.underlying3 rfl ti3 (by exact rfl) (by exact rfl)) rfl rfl ?_
      refine nst pU fun s hO => ?_
      refine sinc (natbd pT ag.bd) ?_
      refine au ?_
      exact hX5 _ H _ _ ⟨agr, hO, cH.u, cV.u, bg.u, ag.u, ah.u, aN.u, af.u, aO.u, fr⟩
     refine sinc (natbd mf af.bd) ?_
     refine au ?_
     refine sfr 9 hO fun s hO => ?_
     refine sfr 9 hO fun s hO => ?_
     refine sfr 9 hO fun s hO => ?_
     refine sfr 9 hO fun s hO => ?_
     refine sfr 9 hO fun s hO => ?_
     refine sfr 9 hO fun s hO => ?_
     refine sfr 6 hO fun s hO => ?_
     refine sfr 9 hO fun s hO => ?_
     refine sfr 9 hO fun s hO => ?_
     refine sfr 9 hO fun s hO => ?_
     exact hX4 _ H _ _ ⟨_, agr, hO, cH.u, cV.u, bg.u, ag.u, ah.u, aN.u, af.u, aO.u, fr⟩
    refine au ?_
    refine zcq rfl (J00 body102 rfl (J2c hO.lt tI.u H)) fun _ CU => e1 fun r336 => sq0 hO fun s hO => fun H => ?_
    refine six1 1 hO H.1 H.2.1 ?_
    refine sst (u := r336) 1 hO H.1 H.2.1 fun CV s hO => ?_
    refine au ?_
    refine drw 1 [(0, .pure), (1, .stable), (2, .pure), (3, .pure), (4, .loud), (5, .pure), (6, .last)] hO fun vW s hO => ?_
    refine smk Fl.i H.2.2 hO fun vX oJ s hO => ?_
    have CW := H.1
    have CX := H.2.1
    replace H := H.2.2.2.2
    obtain ⟨mt, H⟩ := H
    obtain ⟨mv, H⟩ := H
    refine GoQ.pure rfl (J01 Try.underlying23 ti31 rfl rfl mt (ltn (t2neq 4 hO rfl) mv) (t2some 4 hO rfl mt mv)) rfl rfl ?_
    refine op1 0 hO fun ym s hO tL => ?_
    refine sfr 4 hO fun s hO => ?_
    refine sfr 1 hO fun s hO => ?_
    have zz := t2put (hf := Fl.i) hO tL.u mt mv
    obtain ⟨C0, pW, pX⟩ := zz
    refine GoQ.last rfl (pX Try.underlying31 rfl ti31 (by exact rfl) (by exact rfl)) rfl rfl ?_
    refine nst pW fun s hO => ?_
    refine au ?_
    obtain ⟨i7, H⟩ := H
    obtain ⟨i8, H⟩ := H
    refine zo (J01 Try.underlying23 ti31 rfl rfl i7 (ltn (t2neq 0 hO rfl) i8) (t2some 0 hO rfl i7 i8)) ?_
    refine zs (t2head 0 hO rfl i7 i8 Try.underlying31 rfl rfl) ?_
    refine au ?_
    obtain ⟨mw, H⟩ := H
    obtain ⟨my, H⟩ := H
    refine zo (J01 Try.underlying31 ti3 rfl rfl mw my (t2isome 0 hO rfl i7 i8 mw my)) ?_
    have zz := t2st (r := Rp.int .i64) (hf := Fl.i) rfl 0 hO rfl i7 i8 mw my (v := .int .i64 (c6 : Int)) (u := (c6 : Int)) rfl rfl
    obtain ⟨C1, pY, p9⟩ := zz
    refine zg (p9 Try.underlying3 rfl ti3 (by exact rfl) (by exact rfl)) ?_
    refine nst pY fun s hO => ?_
    refine au ?_
    refine lw H (fun (fw, iu) σ w => (fun Z => agrees σ [(0, .pointer (some ⟨B11, 0, none⟩)), (2, .pointer (some ⟨B154, 0, none⟩)), (5, .pointer (some ⟨B162, 0, none⟩)), (7, .int .i64 (r158.Elems.length : Int)), (8, .pointer (some ⟨eg, 0, none⟩)), (10, .int .i64 (c6 : Int)), (12, .int .i64 (fw : Int)), (86, .slice bA r158.Right.length bB), (87, .int .i64 (r158.Right.length : Int)), (88, .int .i64 (c6 : Int))] ∧ Owns w0.heap.size w Z A ∧ Els (rppart) (bl Z ++ A) w dy ((([] : List part)) ++ ([(⟨((0 : Int) + r13.Start), r13.Final, (0 : Int)⟩ : part)])) ∧ ISl (Rp.sl (Rp.int .i64)) (bl Z ++ A) w p23 r13.Letters.toNat dH ∧ ISl (Rp.sl (Rp.int .i64)) (bl Z ++ A) w cp cq r158.Gens ∧ ISl (Rp.sl (Rp.int .i64)) (bl Z ++ A) w bS bT r158.Elems ∧ ISl (Rp.int .i64) (bl Z ++ A) w bP bQ r158.Prefix ∧ ISl (Rp.int .i64) (bl Z ++ A) w cv cw r158.Last ∧ ISl (Rp.sl (Rp.int .i64)) (bl Z ++ A) w bA bB r158.Right ∧ ISl (rpRule) (bl Z ++ A) w cb cd r158.Rules ∧ Fr (bl []) w0 (bl Z) w) [t2 Fl.i 31 3 (some ⟨du, 0, none⟩) r158.Elems.length r158.Elems.length (hup fO (c6 : Int).toNat (oJ, r158.Elems.length)) iu, .blk eg (.cells #[.int .i64 (dH.length : Int), .slice (some ⟨du, 0, none⟩) r158.Elems.length r158.Elems.length, .slice (some ⟨dB, 0, none⟩) r158.Elems.length r158.Elems.length, .slice cW cY cX, .slice none 0 0, .slice (some ⟨dK, 0, none⟩) r158.Elems.length r158.Elems.length] 33 (0, 0)), t1 Fl.bool 4 (some ⟨dK, 0, none⟩) r158.Elems.length r158.Elems.length (st d_275 (0 : Int) r336), t1 Fl.str 9 (some ⟨dB, 0, none⟩) r158.Elems.length r158.Elems.length eF, t1 Fl.i 3 cW cY cX r182, .blk B162 (.cells #[.int .i64 r158.Points, .bool r158.Monoid, .slice cp r158.Gens.length cq, .slice bS r158.Elems.length bT, .slice bP r158.Prefix.length bQ, .slice cv r158.Last.length cw, .slice bA r158.Right.length bB, .slice cb r158.Rules.length cd, .int .i64 r158.Done] 123 (0, 0)), .blk B154 (.cells #[.int .i64 (0 : Int), .slice none 0 0, .slice none 0 0, .slice none 0 0, .slice none 0 0, .slice none 0 0] 33 (0, 0)), .row 120 3 dI (0 + 1) dJ dy, .blk B11 (.cells #[.slice p23 r13.Letters.toNat r13.Letters.toNat, .slice dI (0 + 1) dJ, .int .i64 ((0 : Int) + (r13.Final.length : Int))] 83 (0, 0)), .blk B5 (.cells #[.int .i64 (0 : Int), .slice none 0 0, .slice none 0 0, .slice none 0 0, .slice none 0 0, .slice none 0 0] 33 (0, 0))]) ⟨agr, hO, cH.u, cV.u, bg.u, ag.u, ah.u, aN.u, af.u, aO.u, fr⟩ ?_
    refine fun X6 => p1 fun fw iu => fun H hX6 σ C2 => d1 fun hag => d1 fun hO => d1 fun cH => d1 fun cV => d1 fun bg => d1 fun ag => d4 fun ah aN af aO hB => ?_
    dsimp only at H
    refine Go1.keep _ hag ?_
    revert hO; repeat (rename Owns _ _ _ _ => q; clear q)
    intro hO; repeat (rename Sq _ _ _ _ _ _ => q; clear q)
    refine scm H (fun qa H => ?_) fun qa H => ?_
    ·refine au ?_
     refine drw 1 [(0, .pure), (1, .stable), (2, .pure), (3, .pure), (4, .stable), (5, .pure), (6, .pure), (7, .stable), (8, .pure), (9, .stable), (10, .pure), (11, .pure), (12, .stable), (13, .pure), (14, .stable), (15, .pure), (16, .pure), (17, .stable), (18, .pure), (19, .stable), (20, .pure), (21, .stable), (22, .pure), (23, .stable), (24, .pure), (25, .pure), (26, .stable), (27, .pure), (28, .stable), (29, .pure), (30, .last)] hO fun C3 s hO => ?_
     refine au ?_
     obtain ⟨i9, H⟩ := H
     obtain ⟨ja, H⟩ := H
     refine GoQ.pure rfl (J01 Try.underlying23 ti31 rfl rfl i9 (ltn (t2neq 0 hO rfl) ja) (t2some 0 hO rfl i9 ja)) rfl rfl ?_
     refine GoQ.stable rfl (t2head 0 hO rfl i9 ja Try.underlying31 rfl rfl) rfl rfl ?_
     refine au ?_
     obtain ⟨jb, H⟩ := H
     obtain ⟨jc, H⟩ := H
     refine GoQ.pure rfl (J01 Try.underlying23 ti31 rfl rfl jb (ltn (t2neq 0 hO rfl) jc) (t2some 0 hO rfl jb jc)) rfl rfl ?_
     refine GoQ.stable rfl (t2head 0 hO rfl jb jc Try.underlying31 rfl rfl) rfl rfl ?_
     refine sxl hO ah.u H.1 H.2.1 ?_
     have C4 := H.1
     have C5 := H.2.1
     replace H := H.2.2
     obtain ⟨mz, H⟩ := H
     obtain ⟨mA, H⟩ := H
     refine GoQ.pure rfl (J01 Try.underlying31 ti3 rfl rfl mz mA (t2isome 0 hO rfl jb jc mz mA)) rfl rfl ?_
     refine GoQ.stable rfl (t2Int 0 hO rfl jb jc mz mA Try.underlying3 rfl rfl) rfl rfl ?_
     refine sxls hO af.u H.1 H.2.1 fun C6 C7 tM => ?_
     refine sxl hO aN.u H.2.2.1 H.2.2.2.1 ?_
     refine sxl hO tM.u H.2.2.2.2.1 H.2.2.2.2.2.1 ?_
     have C8 := H.1
     have C9 := H.2.1
     have Dc := H.2.2.1
     have Dd := H.2.2.2.1
     have De := H.2.2.2.2.1
     have Dg := H.2.2.2.2.2.1
     replace H := H.2.2.2.2.2.2
     obtain ⟨mB, H⟩ := H
     obtain ⟨mC, H⟩ := H
     refine GoQ.pure rfl (J01 Try.underlying31 ti3 rfl rfl mB mC (t2isome 0 hO rfl i9 ja mB mC)) rfl rfl ?_
     have zz := t2st (r := Rp.int .i64) (hf := Fl.i) rfl 0 hO rfl i9 ja mB mC (v := .int .i64 (ix (ix r158.Right (ix (ix iu (c6 : Int)) (ix r158.Prefix (fw : Int)))) (ix r158.Last (fw : Int)))) (u := (ix (ix r158.Right (ix (ix iu (c6 : Int)) (ix r158.Prefix (fw : Int)))) (ix r158.Last (fw : Int)))) rfl rfl
     obtain ⟨Dh, qb, qc⟩ := zz
     refine GoQ.last rfl (qc Try.underlying3 rfl ti3 (by exact rfl) (by exact rfl)) rfl rfl ?_
     refine nst qb fun s hO => ?_
     refine sinc (natbd qa ag.bd) ?_
     refine au ?_
     exact hX6 _ H _ _ ⟨agr, hO, cH.u, cV.u, bg.u, ag.u, ah.u, aN.u, af.u, aO.u, fr⟩
    refine sinc (natbd mf af.bd) ?_
    refine au ?_
    refine sfr 9 hO fun s hO => ?_
    refine sfr 9 hO fun s hO => ?_
    refine sfr 9 hO fun s hO => ?_
    refine sfr 9 hO fun s hO => ?_
    refine sfr 9 hO fun s hO => ?_
    refine sfr 9 hO fun s hO => ?_
    refine sfr 6 hO fun s hO => ?_
    refine sfr 9 hO fun s hO => ?_
    refine sfr 9 hO fun s hO => ?_
    refine sfr 9 hO fun s hO => ?_
    exact hX4 _ H _ _ ⟨_, agr, hO, cH.u, cV.u, bg.u, ag.u, ah.u, aN.u, af.u, aO.u, fr⟩
   refine au ?_
   refine zo (J11 Try.underlying81 rfl (Els.neqW cH.u hO 7 rfl)) ?_
   obtain ⟨wW, H⟩ := H
   obtain ⟨wX, H⟩ := H
   have zz := t2makeS (m := (((([] : List part)) ++ ([(⟨((0 : Int) + r13.Start), r13.Final, (0 : Int)⟩ : part)])).length : Int)) (e' := 4) Fl.bool Try.underlying40 ti22 hO wW wX (by decide)
   obtain ⟨Di, jd, qd, yo, qe, hz396⟩ := zz
   refine zg (qe rfl rfl) ?_
   refine nst qd fun s hO => ?_
   refine au ?_
   refine zo (J11 Try.underlying81 rfl (Els.neqW cH.u hO 8 rfl)) ?_
   refine au ?_
   refine sdr [9] hO fun s hO => ?_
   refine lw H (fun (dx, jR) σ w => ∃ jS, (fun Z => agrees σ [(2, .pointer (some ⟨B154, 0, none⟩)), (5, .pointer (some ⟨B162, 0, none⟩)), (7, .int .i64 (r158.Elems.length : Int)), (8, .pointer (some ⟨eg, 0, none⟩)), (13, .slice jd (((([] : List part)) ++ ([(⟨((0 : Int) + r13.Start), r13.Final, (0 : Int)⟩ : part)])).length) (((([] : List part)) ++ ([(⟨((0 : Int) + r13.Start), r13.Final, (0 : Int)⟩ : part)])).length)), (162, .slice dI (0 + 1) dJ), (163, .int .i64 (((([] : List part)) ++ ([(⟨((0 : Int) + r13.Start), r13.Final, (0 : Int)⟩ : part)])).length : Int)), (164, .int .i64 (dx : Int))] ∧ Owns w0.heap.size w Z A ∧ Els (rppart) (bl Z ++ A) w dy ((([] : List part)) ++ ([(⟨((0 : Int) + r13.Start), r13.Final, (0 : Int)⟩ : part)])) ∧ ISl (Rp.sl (Rp.int .i64)) (bl Z ++ A) w cp cq r158.Gens ∧ ISl (Rp.sl (Rp.int .i64)) (bl Z ++ A) w bS bT r158.Elems ∧ ISl (Rp.int .i64) (bl Z ++ A) w bP bQ r158.Prefix ∧ ISl (Rp.int .i64) (bl Z ++ A) w cv cw r158.Last ∧ ISl (Rp.sl (Rp.int .i64)) (bl Z ++ A) w bA bB r158.Right ∧ ISl (rpRule) (bl Z ++ A) w cb cd r158.Rules ∧ Fr (bl []) w0 (bl Z) w) [t2 Fl.bool 22 4 jd (((([] : List part)) ++ ([(⟨((0 : Int) + r13.Start), r13.Final, (0 : Int)⟩ : part)])).length) (((([] : List part)) ++ ([(⟨((0 : Int) + r13.Start), r13.Final, (0 : Int)⟩ : part)])).length) jS jR, .blk eg (.cells #[.int .i64 (dH.length : Int), .slice (some ⟨du, 0, none⟩) r158.Elems.length r158.Elems.length, .slice (some ⟨dB, 0, none⟩) r158.Elems.length r158.Elems.length, .slice cW cY cX, .slice none 0 0, .slice (some ⟨dK, 0, none⟩) r158.Elems.length r158.Elems.length] 33 (0, 0)), t1 Fl.bool 4 (some ⟨dK, 0, none⟩) r158.Elems.length r158.Elems.length d_275, t1 Fl.str 9 (some ⟨dB, 0, none⟩) r158.Elems.length r158.Elems.length eF, t2 Fl.i 31 3 (some ⟨du, 0, none⟩) r158.Elems.length r158.Elems.length fO gP, t1 Fl.i 3 cW cY cX r182, .blk B162 (.cells #[.int .i64 r158.Points, .bool r158.Monoid, .slice cp r158.Gens.length cq, .slice bS r158.Elems.length bT, .slice bP r158.Prefix.length bQ, .slice cv r158.Last.length cw, .slice bA r158.Right.length bB, .slice cb r158.Rules.length cd, .int .i64 r158.Done] 123 (0, 0)), .blk B154 (.cells #[.int .i64 (0 : Int), .slice none 0 0, .slice none 0 0, .slice none 0 0, .slice none 0 0, .slice none 0 0] 33 (0, 0)), .row 120 3 dI (0 + 1) dJ dy, .blk B5 (.cells #[.int .i64 (0 : Int), .slice none 0 0, .slice none 0 0, .slice none 0 0, .slice none 0 0, .slice none 0 0] 33 (0, 0))]) ⟨_, agr, hO, cH.u, bg.u, ag.u, ah.u, aN.u, af.u, aO.u, fr⟩ ?_
   refine fun X7 => p1 fun dx jR => fun H hX7 σ Dj => e1 fun jS => d1 fun hag => d1 fun hO => d1 fun cH => d1 fun bg => d1 fun ag => d4 fun ah aN af aO hB => ?_
   dsimp only at H
   refine Go1.keep _ hag ?_
   revert hO; repeat (rename Owns _ _ _ _ => q; clear q)
   intro hO; repeat (rename Sq _ _ _ _ _ _ => q; clear q)
   refine scm H (fun qf H => ?_) fun qf H => ?_
   ·refine au ?_
    obtain ⟨mD, H⟩ := H
    obtain ⟨mE, H⟩ := H
    refine zo (J01 Try.underlying81 ti120 rfl rfl mD (ltn (Els.neqW cH hO 8 rfl) mE) (Els.psomeW cH hO 8 rfl mD mE)) ?_
    have tN := oldAggR 8 hO rfl (r := rppart) cH mD mE
    obtain ⟨yr, tO, hR407, qg⟩ := tN
    replace hR407 := J6l tO hR407
    obtain ⟨qh, qi, hcs409, iv⟩ := hR407
    subst hcs409
    refine zs (qg Try.underlying120 rfl ti120 rfl) ?_
    refine sal hO fun Dk B414 s hO => ?_
    refine sba 0 hO fun Dl s hO => ?_
    refine smk Fl.bool H hO fun Dn wY s hO => ?_
    replace H := H.2.2
    obtain ⟨mF, H⟩ := H
    obtain ⟨mG, H⟩ := H
    refine zo (J01 Try.underlying40 ti22 rfl rfl mF (ltn (t2neq 2 hO rfl) mG) (t2some 2 hO rfl mF mG)) ?_
    refine op1 0 hO fun yu s hO tP => ?_
    refine sfr 2 hO fun s hO => ?_
    refine sfr 1 hO fun s hO => ?_
    have zz := t2put (hf := Fl.bool) hO tP.u mF mG
    obtain ⟨Do, qj, qk⟩ := zz
    refine zg (qk Try.underlying22 rfl ti22 (by exact rfl) (by exact rfl)) ?_
    refine nst qj fun s hO => ?_
    refine sln0 ?_
    refine au ?_
    refine lw H (fun (kh, nA) σ w => (fun Z => agrees σ [(2, .pointer (some ⟨B154, 0, none⟩)), (5, .pointer (some ⟨B162, 0, none⟩)), (7, .int .i64 (r158.Elems.length : Int)), (8, .pointer (some ⟨eg, 0, none⟩)), (13, .slice jd (((([] : List part)) ++ ([(⟨((0 : Int) + r13.Start), r13.Final, (0 : Int)⟩ : part)])).length) (((([] : List part)) ++ ([(⟨((0 : Int) + r13.Start), r13.Final, (0 : Int)⟩ : part)])).length)), (14, .int .i64 (dx : Int)), (15, .pointer (some ⟨B414, 0, none⟩)), (162, .slice dI (0 + 1) dJ), (163, .int .i64 (((([] : List part)) ++ ([(⟨((0 : Int) + r13.Start), r13.Final, (0 : Int)⟩ : part)])).length : Int)), (164, .int .i64 (dx : Int)), (175, .slice bS r158.Elems.length bT), (176, .int .i64 (r158.Elems.length : Int)), (177, .int .i64 (kh : Int))] ∧ Owns w0.heap.size w Z A ∧ Els (rppart) (bl Z ++ A) w dy ((([] : List part)) ++ ([(⟨((0 : Int) + r13.Start), r13.Final, (0 : Int)⟩ : part)])) ∧ ISl (Rp.sl (Rp.int .i64)) (bl Z ++ A) w cp cq r158.Gens ∧ ISl (Rp.sl (Rp.int .i64)) (bl Z ++ A) w bS bT r158.Elems ∧ ISl (Rp.int .i64) (bl Z ++ A) w bP bQ r158.Prefix ∧ ISl (Rp.int .i64) (bl Z ++ A) w cv cw r158.Last ∧ ISl (Rp.sl (Rp.int .i64)) (bl Z ++ A) w bA bB r158.Right ∧ ISl (rpRule) (bl Z ++ A) w cb cd r158.Rules ∧ ISl (Rp.bool) (bl Z ++ A) w qh qi ((ix ((([] : List part)) ++ ([(⟨((0 : Int) + r13.Start), r13.Final, (0 : Int)⟩ : part)])) (dx : Int)).final) ∧ Fr (bl []) w0 (bl Z) w) [t2 Fl.bool 22 4 jd (((([] : List part)) ++ ([(⟨((0 : Int) + r13.Start), r13.Final, (0 : Int)⟩ : part)])).length) (((([] : List part)) ++ ([(⟨((0 : Int) + r13.Start), r13.Final, (0 : Int)⟩ : part)])).length) (hup jS (dx : Int).toNat (wY, r158.Elems.length)) nA, .blk B414 (.cells #[.int .i64 ((ix ((([] : List part)) ++ ([(⟨((0 : Int) + r13.Start), r13.Final, (0 : Int)⟩ : part)])) (dx : Int)).start), .slice qh (((ix ((([] : List part)) ++ ([(⟨((0 : Int) + r13.Start), r13.Final, (0 : Int)⟩ : part)])) (dx : Int)).final).length) qi, .int .i64 ((ix ((([] : List part)) ++ ([(⟨((0 : Int) + r13.Start), r13.Final, (0 : Int)⟩ : part)])) (dx : Int)).shift)] 120 (0, 0)), .blk eg (.cells #[.int .i64 (dH.length : Int), .slice (some ⟨du, 0, none⟩) r158.Elems.length r158.Elems.length, .slice (some ⟨dB, 0, none⟩) r158.Elems.length r158.Elems.length, .slice cW cY cX, .slice none 0 0, .slice (some ⟨dK, 0, none⟩) r158.Elems.length r158.Elems.length] 33 (0, 0)), t1 Fl.bool 4 (some ⟨dK, 0, none⟩) r158.Elems.length r158.Elems.length d_275, t1 Fl.str 9 (some ⟨dB, 0, none⟩) r158.Elems.length r158.Elems.length eF, t2 Fl.i 31 3 (some ⟨du, 0, none⟩) r158.Elems.length r158.Elems.length fO gP, t1 Fl.i 3 cW cY cX r182, .blk B162 (.cells #[.int .i64 r158.Points, .bool r158.Monoid, .slice cp r158.Gens.length cq, .slice bS r158.Elems.length bT, .slice bP r158.Prefix.length bQ, .slice cv r158.Last.length cw, .slice bA r158.Right.length bB, .slice cb r158.Rules.length cd, .int .i64 r158.Done] 123 (0, 0)), .blk B154 (.cells #[.int .i64 (0 : Int), .slice none 0 0, .slice none 0 0, .slice none 0 0, .slice none 0 0, .slice none 0 0] 33 (0, 0)), .row 120 3 dI (0 + 1) dJ dy, .blk B5 (.cells #[.int .i64 (0 : Int), .slice none 0 0, .slice none 0 0, .slice none 0 0, .slice none 0 0, .slice none 0 0] 33 (0, 0))]) ⟨agr, hO, cH.u, bg.u, ag.u, ah.u, aN.u, af.u, aO.u, iv.u, fr⟩ ?_
    refine fun X8 => p1 fun kh nA => fun H hX8 σ Dp => d1 fun hag => d1 fun hO => d1 fun cH => d1 fun bg => d1 fun ag => d1 fun ah => d4 fun aN af aO iv hB => ?_
    dsimp only at H
    refine Go1.keep _ hag ?_
    revert hO; repeat (rename Owns _ _ _ _ => q; clear q)
    intro hO; repeat (rename Sq _ _ _ _ _ _ => q; clear q)
    refine scm H (fun ql H => ?_) fun ql H => ?_
    ·refine sxls hO ag H.1 H.2.1 fun Dq Dr tQ => ?_
     refine au ?_
     refine drw 1 [(0, .pure), (1, .pure), (2, .pure), (3, .stable), (4, .pure), (5, .stable), (6, .pure), (7, .loud), (8, .pure), (9, .last)] hO fun Du s hO => ?_
     refine au ?_
     have Dv := H.1
     have Dw := H.2.1
     replace H := H.2.2
     obtain ⟨je, H⟩ := H
     obtain ⟨jf, H⟩ := H
     refine GoQ.pure rfl (J01 Try.underlying40 ti22 rfl rfl je (ltn (t2neq 0 hO rfl) jf) (t2some 0 hO rfl je jf)) rfl rfl ?_
     refine GoQ.stable rfl (t2head 0 hO rfl je jf Try.underlying22 rfl rfl) rfl rfl ?_
     refine sag 1 hO ?_
     refine au ?_
     refine zcq rfl (J00 body103 rfl (J22 (p := (⟨((ix ((([] : List part)) ++ ([(⟨((0 : Int) + r13.Start), r13.Final, (0 : Int)⟩ : part)])) (dx : Int)).start), (ix ((([] : List part)) ++ ([(⟨((0 : Int) + r13.Start), r13.Final, (0 : Int)⟩ : part)])) (dx : Int)).final, ((ix ((([] : List part)) ++ ([(⟨((0 : Int) + r13.Start), r13.Final, (0 : Int)⟩ : part)])) (dx : Int)).shift)⟩ : part)) hO.lt iv.u tQ.u H)) fun _ Dx => e1 fun qm => sq0 hO fun s hO => fun H => ?_
     obtain ⟨mH, H⟩ := H
     obtain ⟨mI, H⟩ := H
     refine GoQ.pure rfl (J01 Try.underlying22 ti4 rfl rfl mH mI (t2isome 0 hO rfl je jf mH mI)) rfl rfl ?_
     have zz := t2st (r := Rp.bool) (hf := Fl.bool) rfl 0 hO rfl je jf mH mI (v := .bool qm) (u := qm) rfl rfl
     obtain ⟨Dy, qn, qo⟩ := zz
     refine GoQ.last rfl (qo Try.underlying4 rfl ti4 (by exact rfl) (by exact rfl)) rfl rfl ?_
     refine nst qn fun s hO => ?_
     refine sinc (natbd ql ag.bd) ?_
     refine au ?_
     exact hX8 _ H _ _ ⟨agr, hO, cH.u, bg.u, ag.u, ah.u, aN.u, af.u, aO.u, iv.u, fr⟩
    refine sinc (natbd qf cH.bd) ?_
    refine au ?_
    refine sdr [1] hO fun s hO => ?_
    exact hX7 _ H _ _ ⟨_, agr, hO, cH.u, bg.u, ag.u, ah.u, aN.u, af.u, aO.u, fr⟩
   refine sag 1 hO ?_
   refine sba 7 hO fun Dz s hO => ?_
   refine au ?_
   refine Go1.retC3V Try.func63 rfl rfl (rlb 7 hO) (show _ = .slice jd (((([] : List part)) ++ ([(⟨((0 : Int) + r13.Start), r13.Final, (0 : Int)⟩ : part)])).length) (((([] : List part)) ++ ([(⟨((0 : Int) + r13.Start), r13.Final, (0 : Int)⟩ : part)])).length) from rfl) (show _ = .int .i64 (0 : Int) from rfl) ?_
   refine hR152 _ _ ?_
   refine sal hO fun DA B448 s hO => ?_
   refine sba 0 hO fun DB s hO => ?_
   refine au ?_
   refine zo (fun w => opB (J4c rfl rfl w) (ndT (by decide))) ?_
   refine au ?_
   obtain ⟨jT, H⟩ := H
   obtain ⟨jU, H⟩ := H
   refine zo (J01 Try.underlying40 ti22 rfl rfl jT (ltn (t2neq 1 hO rfl) jU) (t2some 1 hO rfl jT jU)) ?_
   refine zs (t2head 1 hO rfl jT jU Try.underlying22 rfl rfl) ?_
   refine sbs 0 hO fun DD s hO => ?_
   refine sag 0 hO ?_
   refine sba 10 hO fun DE s hO => ?_
   refine au ?_
   refine sfz2 5 hO fun s hO tR tS => ?_
   refine sfz 4 hO fun s hO tT tU => ?_
   refine sfz 4 hO fun s hO tV tW => ?_
   have tX := t2lendIn 1 hO rfl jT jU
   refine sfz2 1 hO fun s hO yv yw => ?_
   refine sfz 2 hO fun s hO tY t5 => ?_
   refine Go1.retC2 Try.func19 rfl rfl (rlb 5 hO) ⟨((⟨(dH.length : Int), gP, eF, r182, (ix jR (0 : Int)), d_275⟩ : Syntactic)), _, _, _, _, _, _, _, _, _, _, _, ?_, frs, tR.r, tT.r, tV.r, tX.r, tY.r, H⟩
   exact (congrArg (fun l => Value.tuple (List.toArray l)) (J02 (congrArg (fun l => Value.agg (List.toArray l)) (J02 rfl (J02 (congrArg (fun nn => Value.slice (some ⟨du, 0, none⟩) nn r158.Elems.length) tS) (J02 (congrArg (fun nn => Value.slice (some ⟨dB, 0, none⟩) nn r158.Elems.length) tU) (J02 (congrArg (fun nn => Value.slice cW nn cX) tW) (J02 rfl (J02 (congrArg (fun nn => Value.slice (some ⟨dK, 0, none⟩) nn r158.Elems.length) t5) rfl))))))) (J02 rfl rfl)))
  refine au ?_
  refine zo (J0a Try.underlying33 ti33 (pl := [(0, 1), (1, 1), (2, 1), (3, 1), (4, 1), (5, 1)]) (vs := []) (cs := #[.int .i64 (0 : Int), .slice none 0 0, .slice none 0 0, .slice none 0 0, .slice none 0 0, .slice none 0 0]) (by kernel_rfl) rfl (by kernel_rfl)) ?_
  refine sba 1 hO fun DF s hO => ?_
  refine au ?_
  refine Go1.retC3V Try.func63 rfl rfl (rlb 1 hO) (show _ = .slice none 0 0 from rfl) (show _ = .int .i64 r159 from rfl) ?_
  refine hR152 _ _ ?_
  refine sal hO fun DG B468 s hO => ?_
  refine sba 0 hO fun DH s hO => ?_
  refine au ?_
  refine zo (fun w => opB (J4c rfl rfl w) (ndF pI)) ?_
  refine au ?_
  refine zo (J0a Try.underlying33 ti33 (pl := [(0, 1), (1, 1), (2, 1), (3, 1), (4, 1), (5, 1)]) (vs := []) (cs := #[.int .i64 (0 : Int), .slice none 0 0, .slice none 0 0, .slice none 0 0, .slice none 0 0, .slice none 0 0]) (by kernel_rfl) rfl (by kernel_rfl)) ?_
  refine sba 6 hO fun DJ s hO => ?_
  refine au ?_
  refine Go1.retC2 Try.func19 rfl rfl (rlb 6 hO) ⟨((⟨(0 : Int), ([] : List (List Int)), ([] : List Str), ([] : List Int), ([] : List Bool), ([] : List Bool)⟩ : Syntactic)), _, _, _, _, _, _, _, _, _, _, _, ?_, frs, (ISl.null _ _ _), (ISl.null _ _ _), (ISl.null _ _ _), (ISl.null _ _ _), (ISl.null _ _ _), H⟩
  exact rfl
 refine au ?_
 refine zo (J0a Try.underlying33 ti33 (pl := [(0, 1), (1, 1), (2, 1), (3, 1), (4, 1), (5, 1)]) (vs := []) (cs := #[.int .i64 (0 : Int), .slice none 0 0, .slice none 0 0, .slice none 0 0, .slice none 0 0, .slice none 0 0]) (by kernel_rfl) rfl (by kernel_rfl)) ?_
 refine sba 0 hO fun DK s hO => ?_
 refine au ?_
 refine Go1.retC2 Try.func19 rfl rfl (rlb 0 hO) ⟨((⟨(0 : Int), ([] : List (List Int)), ([] : List Str), ([] : List Int), ([] : List Bool), ([] : List Bool)⟩ : Syntactic)), _, _, _, _, _, _, _, _, _, _, _, ?_, frs, (ISl.null _ _ _), (ISl.null _ _ _), (ISl.null _ _ _), (ISl.null _ _ _), (ISl.null _ _ _), H⟩
 exact rfl
theorem body48 : Body Try.prog 48 := ⟨Try.f48, Try.func48, rfl, by kernel_rfl⟩
theorem J4n {A : List Nat} {w0 : World} {p_a p_b : Option Addr} {c_a c_b : Nat} {a b : List Str} (hA : ∀ b ∈ A, b < w0.heap.size) (h_a : ISl (Rp.str) A w0 p_a c_a a) (h_b : ISl (Rp.str) A w0 p_b c_b b) {K : Bool → Prop} (H : J2d a b K) :
    CallsV Try.prog 48 #[.slice p_a a.length c_a, .slice p_b b.length c_b] w0 (fun v w' => ∃ (r0 : Bool), v = .bool r0 ∧ Same w0 w' ∧ K r0) := by
 refine CallsV.of (l := [.slice p_a a.length c_a, .slice p_b b.length c_b]) Try.func48 rfl Try.ntmps48 rfl ?_
 have hO := Owns.start hA
 have hB := Fr.refl (bl []) w0
 unfold J2d at H
 refine sln0 ?_
 refine sln0 ?_
 refine scm ((H h_a.bd) h_b.bd) (fun h1 H => ?_) fun h1 H => ?_
 ·refine sln0 ?_
  refine au ?_
  refine lw H (fun k1_3 σ w => (fun Z => agrees σ [(0, .slice p_a a.length c_a), (1, .slice p_b b.length c_b), (12, .int .i64 (a.length : Int)), (13, .int .i64 (k1_3 : Int))] ∧ Owns w0.heap.size w Z A ∧ Fr (bl []) w0 (bl Z) w) []) ⟨agr, hO, fr⟩ ?_
  refine fun X1 => fun k1_3 => fun H hX1 σ w2 => d2 fun hag hO hB => ?_
  refine Go1.keep _ hag ?_
  refine scm H (fun h4 H => ?_) fun h4 H => ?_
  ·refine au ?_
   refine drw 0 [(0, .pure), (1, .pure), (2, .pure), (3, .stable), (4, .pure), (5, .pure), (6, .pure), (7, .stable), (8, .pure)] hO fun w5 s hO => ?_
   refine sxl hO h_a.u H.1 H.2.1 ?_
   have hle6 := ISl.J1f h_a H.1 H.2.1
   refine sxl hO h_b.u H.2.2.1 H.2.2.2.1 ?_
   have hle7 := ISl.J1f h_b H.2.2.1 H.2.2.2.1
   have h8 := H.1
   have h9 := H.2.1
   have h10 := H.2.2.1
   have h11 := H.2.2.2.1
   refine scm H.2.2.2.2 (fun h12 H => ?_) fun h12 H => ?_
   ·refine sinc (natbd h4 h_a.bd) ?_
    refine au ?_
    exact hX1 _ H _ _ ⟨agr, hO, fr⟩
   refine au ?_
   refine Go1.ret1 Try.func48 rfl ⟨_, ?_, frs, H⟩
   exact rfl
  refine au ?_
  refine Go1.ret1 Try.func48 rfl ⟨_, ?_, frs, H⟩
  exact rfl
 refine au ?_
 refine Go1.ret1 Try.func48 rfl ⟨_, ?_, frs, H⟩
 exact rfl
theorem body18 : Body Try.prog 18 := ⟨Try.f18, Try.func18, rfl, by kernel_rfl⟩
theorem J1z {A : List Nat} {w0 : World} (hA : ∀ b ∈ A, b < w0.heap.size) {K : Bool → Prop} (H : law21_awake  K) :
    CallsV Try.prog 18 #[] w0 (fun v w' => ∃ (r0 : Bool), v = .bool r0 ∧ Same w0 w' ∧ K r0) := by
 refine CallsV.of (l := []) Try.func18 rfl Try.ntmps18 rfl ?_
 have hO := Owns.start hA
 have hB := Fr.refl (bl []) w0
 unfold law21_awake at H
 refine au ?_
 refine zcr (J00 body60 rfl (J4N hO.lt H)) fun _ w2 => e4 fun r1 t6 t7 ur => e1 fun ut => sc0 hO fun s hO => d2 fun jV ki H => ?_
 refine zcr (J00 body19 rfl (J1k hO.lt jV ki H)) fun _ w5 => e4 fun r3 r4 t8 t9 => e4 fun gQ gR qG qH => e4 fun qI qJ uu uv => sc0 hO fun s hO => d1 fun ua => d4 fun jW qK dO uw H => ?_
 refine sal hO fun w6 B7 s hO => ?_
 refine sba 0 hO fun w9 s hO => ?_
 refine scm H (fun h10 H => ?_) fun h10 H => ?_
 ·refine sbu Fl.str 9 [(([] : Str)), (([97] : Str)), (([98] : Str)), (([97, 97] : Str)), (([97, 98] : Str)), (([98, 97] : Str))] hO (fun w11 p12 s hO => ?_) (hE := fun _ _ => (Els.cons rfl ⟨rfl, (by decide)⟩ (Els.cons rfl ⟨rfl, (by decide)⟩ (Els.cons rfl ⟨rfl, (by decide)⟩ (Els.cons rfl ⟨rfl, (by decide)⟩ (Els.cons rfl ⟨rfl, (by decide)⟩ (Els.cons rfl ⟨rfl, (by decide)⟩ (Els.nil _ _ _) (by simp [mx])) (by simp [mx])) (by simp [mx])) (by simp [mx])) (by simp [mx])) (by simp [mx])))
  have xa := t1lend 0 hO
  have iN := t1n 0 hO
  have hOc16 := hO.drop 0
  refine zcr (J00 body48 (show ([.slice gQ r3.Words.length gR, .slice p12 6 6] : List Value) = [.slice gQ r3.Words.length gR, .slice p12 ([(([] : Str)), (([97] : Str)), (([98] : Str)), (([97, 97] : Str)), (([97, 98] : Str)), (([98, 97] : Str))]).length 6] from by rw [← iN]) (J4n hOc16.lt (jW.u.ch (Owns.J4r _ _ 0)) xa H)) fun _ w18 => e1 fun r17 => sc0 hO fun s hO => fun H => ?_
  refine au ?_
  cases r17
  ·refine au ?_
   refine Go1.ret1 Try.func18 rfl ⟨_, ?_, frs, (iF H)⟩
   exact rfl
  refine sln0 ?_
  refine scm ((iT H) dO.bd) (fun h19 H => ?_) fun h19 H => ?_
  ·refine six dO H.1 H.2.1 ?_
   have h20 := H.1
   have h21 := H.2.1
   refine sbd hO dO.u H.1 H.2.1 H.2.2 (fun h22 H => ?_) fun h22 H => ?_
   ·refine six dO H.1 H.2.1 ?_
    have h23 := H.1
    have h24 := H.2.1
    refine sbd hO dO.u H.1 H.2.1 H.2.2 (fun h25 H => ?_) fun h25 H => ?_
    ·refine au ?_
     refine Go1.ret1 Try.func18 rfl ⟨_, ?_, frs, H⟩
     exact rfl
    refine au ?_
    refine Go1.ret1 Try.func18 rfl ⟨_, ?_, frs, H⟩
    exact rfl
   refine au ?_
   refine Go1.ret1 Try.func18 rfl ⟨_, ?_, frs, H⟩
   exact rfl
  refine au ?_
  refine Go1.ret1 Try.func18 rfl ⟨_, ?_, frs, H⟩
  exact rfl
 refine au ?_
 refine Go1.ret1 Try.func18 rfl ⟨_, ?_, frs, H⟩
 exact rfl
end Sg
