/- -/
import Derived.Test.YtlneebpmblkllaaVd
import Derived.Test.YtlneebpmblkllaaWSyntacticMonoids
import Derived.Test.YtlneebpmblkllaaWSyntacticMonoidsb
namespace Sg
open Go Go.RowKit Go.Proofs
set_option linter.unusedVariables false
set_option linter.unusedSimpArgs false
set_option maxRecDepth 100000
set_option maxHeartbeats 4000000
theorem body63 : Body Try.prog 63 := ⟨Try.f63, Try.func63, rfl, by kernel_rfl⟩
theorem body62 : Body Try.prog 62 := ⟨Try.f62, Try.func62, rfl, by kernel_rfl⟩
theorem body19 : Body Try.prog 19 := ⟨Try.f19, Try.func19, rfl, by kernel_rfl⟩
theorem J1u {A : List Nat} {w0 : World} {ad af : Option Addr} {ae ag : Nat} {d : DFA} (hA : ∀ b ∈ A, b < w0.heap.size) (aG : ISl (Rp.bool) A w0 ad ae d.Final) (bS : ISl (Rp.sl (Rp.int .i64)) A w0 af ag d.Next) {K : Syntactic → Int → Prop} (H : J0z d K) :
    CallsV Try.prog 19 #[.agg #[.int .i64 d.Letters, .int .i64 d.Start, .slice ad d.Final.length ae, .slice af d.Next.length ag]] w0 (fun v w' => ∃ (r0 : Syntactic) (r1 : Int) (gL : Option Addr) (gM : Nat) (gN : Option Addr) (gO : Nat) (fV : Option Addr) (fW : Nat) (fX : Option Addr) (fY : Nat) (ik : Option Addr) (io : Nat), v = .tuple #[.agg #[.int .i64 r0.Letters, .slice gL r0.Table.length gM, .slice gN r0.Words.length gO, .slice fV r0.Images.length fW, .slice fX r0.Accept.length fY, .slice ik r0.Plus.length io], .int .i64 r1] ∧ Same w0 w' ∧ ISl (Rp.sl (Rp.int .i64)) A w' gL gM r0.Table ∧ ISl (Rp.str) A w' gN gO r0.Words ∧ ISl (Rp.int .i64) A w' fV fW r0.Images ∧ ISl (Rp.bool) A w' fX fY r0.Accept ∧ ISl (Rp.bool) A w' ik io r0.Plus ∧ K r0 r1) := by
 refine CallsV.of (l := [.agg #[.int .i64 d.Letters, .int .i64 d.Start, .slice ad d.Final.length ae, .slice af d.Next.length ag]]) Try.func19 rfl Try.ntmps19 rfl ?_
 have hO := Owns.start hA
 have hB := Fr.refl (bl []) w0
 unfold J0z at H
 refine sbx hO fun w1 B2 s hO => ?_
 refine sal hO fun w4 B5 s hO => ?_
 refine sag 1 hO ?_
 refine zcr (J00 body61 rfl (J0x hO.lt aG.u bS.u H)) fun _ w8 => e1 fun r7 => sc0 hO fun s hO => fun H => ?_
 refine scm H (fun h9 H => ?_) fun h9 H => ?_
 ·refine sal hO fun w10 B11 s hO => ?_
  refine sag 2 hO ?_
  refine zcr (J00 body22 rfl (J33 hO.lt aG.u bS.u H)) fun _ w14 => e4 fun r13 b8 b9 cS => e1 fun cU => sc0 hO fun s hO => d2 fun cD db H => ?_
  refine GoR.inl (vs := [.pointer (some ⟨B11, 0, none⟩), .agg #[.int .i64 r13.Letters, .int .i64 r13.Start, .slice b8 r13.Final.length b9, .slice cS r13.Next.length cU]]) (caps := []) rfl rfl body62 Try.func62 rfl Try.ntmps62 rfl rfl rfl ?_
  intro RhR15 hR15
  refine sbx hO fun w16 B17 s hO => ?_
  refine sln0 ?_
  refine au ?_
  replace H := (H cD.bd)
  obtain ⟨h19, H⟩ := H
  refine zo (J0l rfl rfl (wrap_i64 h19)) ?_
  refine scm H (fun h20 H => ?_) fun h20 H => ?_
  ·refine au ?_
   refine Go1.ret1V Try.func62 rfl (show _ = .int .i64 (3 : Int) from rfl) ?_
   refine hR15 _ _ ?_
   refine au ?_
   refine zo (fun w => opB (J4C rfl rfl w) (ndF (by decide))) ?_
   refine au ?_
   refine zo (J0a Try.underlying33 ti33 (pl := [(0, 1), (1, 1), (2, 1), (3, 1), (4, 1), (5, 1)]) (vs := []) (cs := #[.int .i64 (0 : Int), .slice none 0 0, .slice none 0 0, .slice none 0 0, .slice none 0 0, .slice none 0 0]) (by kernel_rfl) rfl (by kernel_rfl)) ?_
   refine sba 2 hO fun w21 s hO => ?_
   refine au ?_
   refine Go1.retC2 Try.func19 rfl rfl (rlb 2 hO) ⟨((⟨(0 : Int), ([] : List (List Int)), ([] : List Str), ([] : List Int), ([] : List Bool), ([] : List Bool)⟩ : Syntactic)), _, _, _, _, _, _, _, _, _, _, _, ?_, frs, (ISl.null _ _ _), (ISl.null _ _ _), (ISl.null _ _ _), (ISl.null _ _ _), (ISl.null _ _ _), H⟩
   exact rfl
  refine au ?_
  refine zo (fun w => opB (J1R Try.underlying23 rfl rfl w) rfl) ?_
  refine au ?_
  obtain ⟨h29, H⟩ := H
  obtain ⟨h30, H⟩ := H
  have zz := t2makeS (m := r13.Letters) (e' := 3) Fl.i Try.underlying23 ti31 hO h29 h30 (by decide)
  obtain ⟨w22, p23, tw, Cd, tx, hz32⟩ := zz
  refine zg (tx rfl rfl) ?_
  refine nst tw fun s hO => ?_
  refine sbs 2 hO fun w33 s hO => ?_
  refine au ?_
  refine zo (J18 Try.underlying23 rfl (t2neq 0 hO rfl)) ?_
  refine au ?_
  refine sdr [4] hO fun s hO => ?_
  refine lw H (fun (cV, dE) σ w => ∃ kA, (fun Z => agrees σ [(0, .pointer (some ⟨B11, 0, none⟩)), (3, .pointer (some ⟨B17, 0, none⟩)), (5, .int .i64 (r13.Final.length : Int)), (33, .int .i64 ((List.replicate r13.Letters.toNat ([] : List Int)).length : Int)), (34, .int .i64 (cV : Int))] ∧ Owns w0.heap.size w Z A ∧ ISl (Rp.bool) (bl Z ++ A) w b8 b9 r13.Final ∧ ISl (Rp.sl (Rp.int .i64)) (bl Z ++ A) w cS cU r13.Next ∧ Fr (bl []) w0 (bl Z) w) [t2 Fl.i 31 3 p23 r13.Letters.toNat r13.Letters.toNat kA dE, .blk B17 (.cells #[.int .i64 r13.Letters, .int .i64 r13.Start, .slice b8 r13.Final.length b9, .slice cS r13.Next.length cU] 25 (0, 0)), .blk B11 (.cells #[.slice p23 r13.Letters.toNat r13.Letters.toNat, .slice none 0 0, .int .i64 (0 : Int)] 83 (0, 0)), .blk B5 (.cells #[.int .i64 (0 : Int), .slice none 0 0, .slice none 0 0, .slice none 0 0, .slice none 0 0, .slice none 0 0] 33 (0, 0))]) ⟨_, agr, hO, cD.u, db.u, fr⟩ ?_
  refine fun X1 => p1 fun cV dE => fun H hX1 σ w34 => e1 fun kA => d4 fun hag hO cD db hB => ?_
  dsimp only at H
  refine Go1.keep _ hag ?_
  revert hO; repeat (rename Owns _ _ _ _ => q; clear q)
  intro hO; repeat (rename Sq _ _ _ _ _ _ => q; clear q)
  refine scm H (fun h38 H => ?_) fun h38 H => ?_
  ·refine au ?_
   refine lw H (fun (k2_40, d_41) σ w => ∃ eV, (fun Z => agrees σ [(0, .pointer (some ⟨B11, 0, none⟩)), (3, .pointer (some ⟨B17, 0, none⟩)), (5, .int .i64 (r13.Final.length : Int)), (6, .int .i64 (cV : Int)), (33, .int .i64 ((List.replicate r13.Letters.toNat ([] : List Int)).length : Int)), (34, .int .i64 (cV : Int)), (37, .int .i64 (r13.Final.length : Int)), (38, .int .i64 (k2_40 : Int))] ∧ Owns w0.heap.size w Z A ∧ ISl (Rp.bool) (bl Z ++ A) w b8 b9 r13.Final ∧ ISl (Rp.sl (Rp.int .i64)) (bl Z ++ A) w cS cU r13.Next ∧ Fr (bl []) w0 (bl Z) w) [t2 Fl.i 31 3 p23 r13.Letters.toNat r13.Letters.toNat eV d_41, .blk B17 (.cells #[.int .i64 r13.Letters, .int .i64 r13.Start, .slice b8 r13.Final.length b9, .slice cS r13.Next.length cU] 25 (0, 0)), .blk B11 (.cells #[.slice p23 r13.Letters.toNat r13.Letters.toNat, .slice none 0 0, .int .i64 (0 : Int)] 83 (0, 0)), .blk B5 (.cells #[.int .i64 (0 : Int), .slice none 0 0, .slice none 0 0, .slice none 0 0, .slice none 0 0, .slice none 0 0] 33 (0, 0))]) ⟨_, agr, hO, cD, db, fr⟩ ?_
   refine fun X2 => p1 fun k2_40 d_41 => fun H hX2 σ w39 => e1 fun eV => d4 fun hag hO cD db hB => ?_
   dsimp only at H
   refine Go1.keep _ hag ?_
   revert hO; repeat (rename Owns _ _ _ _ => q; clear q)
   intro hO; repeat (rename Sq _ _ _ _ _ _ => q; clear q)
   refine scm H (fun h43 H => ?_) fun h43 H => ?_
   ·refine au ?_
    refine Go1.drawT (ok := fun _ => True) Same.tr [26, 28] 29 (.qp 0 (.qp 1 (.qp 2 (.qp 4 (.qp 5 (.qp 6 (.qp 7 (.qs 8 (.qp 9 (.qp 10 (.qs 11 (.qp 12 (.qp 13 (.qp 14 (.qs 15 (.qp 16 (.qs 17 (.qp 18 (.qp 19 (.qs 20 (.qp 21 (.qp 22 (.qs 23 (.qp 24 (.alt 3 (.alt 25 (.alt 26 (.qp 27 (.alt 28 .nil .fin)) .fin) .fin) (.alt 25 (.alt 3 (.alt 26 (.qp 27 (.alt 28 .nil .fin)) .fin) (.alt 26 (.alt 3 (.qp 27 (.alt 28 .nil .fin)) .fin) .fin)) .fin)))))))))))))))))))))))))) mixed (by kernel_rfl) ?_
    intro w44 wP
    refine sm hO wP fun s hO => ?_
    refine sbl 2 ?_
    refine au ?_
    obtain ⟨h46, H⟩ := H
    obtain ⟨h47, H⟩ := H
    refine GoT.pure rfl (J01 Try.underlying23 ti31 rfl rfl h46 (ltn (t2neq 0 hO rfl) h47) (t2some 0 hO rfl h46 h47)) rfl rfl ?_
    refine GoT.stable rfl (t2head 0 hO rfl h46 h47 Try.underlying31 rfl rfl) rfl rfl ?_
    refine sbl 2 ?_
    refine sbl 1 ?_
    refine sxls hO db.u H.1 H.2.1 fun p48 c49 fG => ?_
    refine sxl hO fG.u H.2.2.1 H.2.2.2.1 ?_
    have h51 := H.1
    have h52 := H.2.1
    have h53 := H.2.2.1
    have h54 := H.2.2.2.1
    replace H := H.2.2.2.2
    obtain ⟨h55, H⟩ := H
    refine GoT.pure rfl (J0l rfl rfl (wrap_i64 h55)) rfl rfl ?_
    refine GoT.both ?_ ?_
    ·skip
     skip
     refine sbl 2 ?_
     skip
     refine sbu Fl.i 3 [((0 : Int) + (ix (ix r13.Next (k2_40 : Int)) (cV : Int)))] hO fun w56 p57 s hO => ?_
     skip
     refine sfr 1 hO fun s hO => ?_
     have zz := t2take (hf := Fl.i) hO h46 h47
     obtain ⟨wQ, jA, kD⟩ := zz
     refine nst jA fun s hO => ?_
     have wR := kD (bl [.row 3 1 (eV (cV : Int).toNat).1 ((ix d_41 (cV : Int)).length) ((eV (cV : Int).toNat).2) wQ, t2h Fl.i 31 3 p23 r13.Letters.toNat r13.Letters.toNat eV d_41 (cV : Int).toNat, t1 Fl.i 3 p57 1 1 [((0 : Int) + (ix (ix r13.Next (k2_40 : Int)) (cV : Int)))], .blk B17 (.cells #[.int .i64 r13.Letters, .int .i64 r13.Start, .slice b8 r13.Final.length b9, .slice cS r13.Next.length cU] 25 (0, 0)), .blk B11 (.cells #[.slice p23 r13.Letters.toNat r13.Letters.toNat, .slice none 0 0, .int .i64 (0 : Int)] 83 (0, 0)), .blk B5 (.cells #[.int .i64 (0 : Int), .slice none 0 0, .slice none 0 0, .slice none 0 0, .slice none 0 0, .slice none 0 0] 33 (0, 0))] ++ A)
     refine sfz 2 hO fun s hO wS wT => ?_
     obtain ⟨h66, H⟩ := H
     have zz := oapp Try.underlying31 ti3 rfl 0 hO rfl wR.u wS wT h66 (by decide)
     obtain ⟨w67, p68, c69, Ce, jQ, pF, tz⟩ := zz
     dsimp only [sS, sZ] at pF
     refine GoT.stepX rfl (tz (by exact rfl) (by exact rfl)) rfl rfl rfl ?_
     refine nst jQ fun s hO => ?_
     obtain ⟨h75, H⟩ := H
     obtain ⟨h76, H⟩ := H
     refine GoT.pure rfl (J01 Try.underlying23 ti31 rfl rfl h75 (ltn (t2neqH 1 hO rfl) h76) (t2someH 1 hO rfl h75 h76)) rfl rfl ?_
     skip
     refine sfr 1 hO fun s hO => ?_
     refine sfr 1 hO fun s hO => ?_
     have zz := t2fix (hf := Fl.i) hO pF.u h75 h76 rfl
     obtain ⟨w77, jx, jy⟩ := zz
     refine GoT.stepX rfl (jy Try.underlying31 rfl ti31 (by exact rfl) (by exact rfl)) rfl rfl rfl ?_
     refine nst jx fun s hO => ?_
     refine sinc (natbd h43 cD.bd) ?_
     refine au ?_
     exact hX2 _ H _ _ ⟨_, agr, hO, cD.u, db.u, fr⟩
    skip
    refine sbu Fl.i 3 [((0 : Int) + (ix (ix r13.Next (k2_40 : Int)) (cV : Int)))] hO fun w80 p81 s hO => ?_
    refine GoT.both ?_ ?_
    ·skip
     skip
     refine sbl 3 ?_
     skip
     refine sfr 1 hO fun s hO => ?_
     have zz := t2take (hf := Fl.i) hO h46 h47
     obtain ⟨wU, tA, wV⟩ := zz
     refine nst tA fun s hO => ?_
     have wW := wV (bl [.row 3 1 (eV (cV : Int).toNat).1 ((ix d_41 (cV : Int)).length) ((eV (cV : Int).toNat).2) wU, t2h Fl.i 31 3 p23 r13.Letters.toNat r13.Letters.toNat eV d_41 (cV : Int).toNat, t1 Fl.i 3 p81 1 1 [((0 : Int) + (ix (ix r13.Next (k2_40 : Int)) (cV : Int)))], .blk B17 (.cells #[.int .i64 r13.Letters, .int .i64 r13.Start, .slice b8 r13.Final.length b9, .slice cS r13.Next.length cU] 25 (0, 0)), .blk B11 (.cells #[.slice p23 r13.Letters.toNat r13.Letters.toNat, .slice none 0 0, .int .i64 (0 : Int)] 83 (0, 0)), .blk B5 (.cells #[.int .i64 (0 : Int), .slice none 0 0, .slice none 0 0, .slice none 0 0, .slice none 0 0, .slice none 0 0] 33 (0, 0))] ++ A)
     refine sfz 2 hO fun s hO wX wY => ?_
     obtain ⟨h90, H⟩ := H
     have zz := oapp Try.underlying31 ti3 rfl 0 hO rfl wW.u wX wY h90 (by decide)
     obtain ⟨w91, p92, c93, Cf, tB, pG, tC⟩ := zz
     dsimp only [sS, sZ] at pG
     refine GoT.stepX rfl (tC (by exact rfl) (by exact rfl)) rfl rfl rfl ?_
     refine nst tB fun s hO => ?_
     obtain ⟨h99, H⟩ := H
     obtain ⟨ia, H⟩ := H
     refine GoT.pure rfl (J01 Try.underlying23 ti31 rfl rfl h99 (ltn (t2neqH 1 hO rfl) ia) (t2someH 1 hO rfl h99 ia)) rfl rfl ?_
     skip
     refine sfr 1 hO fun s hO => ?_
     refine sfr 1 hO fun s hO => ?_
     have zz := t2fix (hf := Fl.i) hO pG.u h99 ia rfl
     obtain ⟨nY, pI, pK⟩ := zz
     refine GoT.stepX rfl (pK Try.underlying31 rfl ti31 (by exact rfl) (by exact rfl)) rfl rfl rfl ?_
     refine nst pI fun s hO => ?_
     refine sinc (natbd h43 cD.bd) ?_
     refine au ?_
     exact hX2 _ H _ _ ⟨_, agr, hO, cD.u, db.u, fr⟩
    skip
    refine sfr 1 hO fun s hO => ?_
    have zz := t2take (hf := Fl.i) hO h46 h47
    obtain ⟨tD, pM, tE⟩ := zz
    refine nst pM fun s hO => ?_
    have tF := tE (bl [.row 3 1 (eV (cV : Int).toNat).1 ((ix d_41 (cV : Int)).length) ((eV (cV : Int).toNat).2) tD, t2h Fl.i 31 3 p23 r13.Letters.toNat r13.Letters.toNat eV d_41 (cV : Int).toNat, t1 Fl.i 3 p81 1 1 [((0 : Int) + (ix (ix r13.Next (k2_40 : Int)) (cV : Int)))], .blk B17 (.cells #[.int .i64 r13.Letters, .int .i64 r13.Start, .slice b8 r13.Final.length b9, .slice cS r13.Next.length cU] 25 (0, 0)), .blk B11 (.cells #[.slice p23 r13.Letters.toNat r13.Letters.toNat, .slice none 0 0, .int .i64 (0 : Int)] 83 (0, 0)), .blk B5 (.cells #[.int .i64 (0 : Int), .slice none 0 0, .slice none 0 0, .slice none 0 0, .slice none 0 0, .slice none 0 0] 33 (0, 0))] ++ A)
    refine sfz 2 hO fun s hO jR tG => ?_
    obtain ⟨gf, H⟩ := H
    have zz := oapp Try.underlying31 ti3 rfl 0 hO rfl tF.u jR tG gf (by decide)
    obtain ⟨Cg, Ci, Cj, yG, pN, nI, pO⟩ := zz
    dsimp only [sS, sZ] at nI
    refine GoT.stepX rfl (pO (by exact rfl) (by exact rfl)) rfl rfl rfl ?_
    refine nst pN fun s hO => ?_
    skip
    refine sbl 3 ?_
    obtain ⟨mm, H⟩ := H
    obtain ⟨iY, H⟩ := H
    refine GoT.pure rfl (J01 Try.underlying23 ti31 rfl rfl mm (ltn (t2neqH 1 hO rfl) iY) (t2someH 1 hO rfl mm iY)) rfl rfl ?_
    skip
    refine sfr 1 hO fun s hO => ?_
    refine sfr 1 hO fun s hO => ?_
    have zz := t2fix (hf := Fl.i) hO nI.u mm iY rfl
    obtain ⟨Ck, pP, iJ⟩ := zz
    refine GoT.stepX rfl (iJ Try.underlying31 rfl ti31 (by exact rfl) (by exact rfl)) rfl rfl rfl ?_
    refine nst pP fun s hO => ?_
    refine sinc (natbd h43 cD.bd) ?_
    refine au ?_
    exact hX2 _ H _ _ ⟨_, agr, hO, cD.u, db.u, fr⟩
   refine au ?_
   obtain ⟨xa, H⟩ := H
   refine zo (J0l rfl rfl (wrap_i64 xa)) ?_
   refine au ?_
   exact hX1 _ H _ _ ⟨_, agr, hO, cD.u, db.u, fr⟩
  refine au ?_
  refine drw 4 [(0, .pure), (1, .pure), (2, .pure), (3, .pure), (4, .stable), (5, .pure), (6, .pure), (7, .pure), (8, .stable), (9, .pure), (10, .stable), (11, .pure), (12, .pure), (13, .stable), (14, .pure), (15, .pure), (16, .pure), (17, .stable), (18, .pure), (19, .loud), (20, .last), (21, .pure), (22, .pure), (23, .last)] hO fun Cl s hO => ?_
  refine au ?_
  obtain ⟨xb, H⟩ := H
  refine GoQ.pure rfl (J0l rfl rfl (wrap_i64 xb)) rfl rfl ?_
  refine au ?_
  refine GoQ.pure rfl (J0a Try.underlying120 ti120 (pl := [(0, 1), (1, 1), (2, 1)]) (vs := [(0, .int .i64 ((0 : Int) + r13.Start)), (1, .slice b8 r13.Final.length b9), (2, .int .i64 (0 : Int))]) (cs := #[.int .i64 ((0 : Int) + r13.Start), .slice b8 r13.Final.length b9, .int .i64 (0 : Int)]) (by kernel_rfl) rfl (by kernel_rfl)) rfl rfl ?_
  have zz := obuildN (r := rppart) (n := 1) (parts := [(0, .agg #[.int .i64 ((0 : Int) + r13.Start), .slice b8 r13.Final.length b9, .int .i64 (0 : Int)])]) (vs := [.int .i64 ((0 : Int) + r13.Start), .slice b8 r13.Final.length b9, .int .i64 (0 : Int)]) (xs := [(⟨((0 : Int) + r13.Start), r13.Final, (0 : Int)⟩ : part)]) Try.underlying81 ti120 hO (by decide) (by decide) (by kernel_rfl) (Els.consR (us := [.int .i64 ((0 : Int) + r13.Start), .slice b8 r13.Final.length b9, .int .i64 (0 : Int)]) rfl ⟨rfl, ⟨b8, b9, rfl, cD.u⟩, rfl⟩ (Els.nil _ _ _) (by simp [mx])) rfl
  obtain ⟨v5, Cm, pQ, tH, tI, pS⟩ := zz
  refine GoQ.loud rfl (pS rfl) tI rfl rfl ?_
  refine nst pQ fun s hO => ?_
  refine sfzR 0 hO tH fun s hO tJ jG => ?_
  have pT := Stp.nil (e := 120) (r := 3) hO
  refine nst pT fun s hO => ?_
  have tK := elN (rppart) hO
  obtain ⟨xc, H⟩ := H
  have zz := oapp Try.underlying81 ti120 rfl 0 hO rfl tK tJ.u jG xc (by decide)
  obtain ⟨wE, dF, dG, dw, pU, cK, pV⟩ := zz
  dsimp only [sS, sZ] at cK
  refine GoQ.last rfl (pV (by exact rfl) (by exact rfl)) rfl rfl ?_
  refine nst pU fun s hO => ?_
  refine sbs 3 hO fun wF s hO => ?_
  refine au ?_
  obtain ⟨xd, H⟩ := H
  refine zo (J0l rfl rfl (wrap_i64 xd)) ?_
  refine sbs 3 hO fun vc s hO => ?_
  refine au ?_
  refine Go1.ret1V Try.func62 rfl (show _ = .int .i64 (0 : Int) from rfl) ?_
  refine hR15 _ _ ?_
  refine au ?_
  refine zo (fun w => opB (J4C rfl rfl w) (ndT (by decide))) ?_
  refine au ?_
  refine GoR.inl (vs := [.pointer (some ⟨B11, 0, none⟩)]) (caps := []) rfl rfl body63 Try.func63 rfl Try.ntmps63 rfl rfl rfl ?_
  intro RhR152 hR152
  refine sal hO fun od B154 s hO => ?_
  refine au ?_
  refine sfz2 2 hO fun s hO cW nJ => ?_
  refine zcr (J00 body101 (show ([.slice p23 r13.Letters.toNat r13.Letters.toNat, .bool true] : List Value) = [.slice p23 dE.length r13.Letters.toNat, .bool true] from by rw [← nJ]) (J3e hO.lt cW H)) fun _ vg => e4 fun r158 r159 cx cy => e4 fun bT bU bP bQ => e4 fun cz cA bw bx => e2 fun cj ck => sc0 hO fun s hO => d1 fun aX => d1 fun ai => d4 fun aj aE ah aF H => ?_
  refine sal hO fun Cn B162 s hO => ?_
  refine sba 0 hO fun v9 s hO => ?_
  refine scm H (fun pW H => ?_) fun pW H => ?_
  ·refine sln0 ?_
   refine scm (H ai.bd) (fun kx H => ?_) fun kx H => ?_
   ·refine au ?_
    refine zo (J0a Try.underlying33 ti33 (pl := [(0, 1), (1, 1), (2, 1), (3, 1), (4, 1), (5, 1)]) (vs := []) (cs := #[.int .i64 (0 : Int), .slice none 0 0, .slice none 0 0, .slice none 0 0, .slice none 0 0, .slice none 0 0]) (by kernel_rfl) rfl (by kernel_rfl)) ?_
    refine sba 1 hO fun oe s hO => ?_
    refine au ?_
    refine Go1.retC3V Try.func63 rfl rfl (rlb 1 hO) (show _ = .slice none 0 0 from rfl) (show _ = .int .i64 (3 : Int) from rfl) ?_
    refine hR152 _ _ ?_
    refine sal hO fun oE B169 s hO => ?_
    refine sba 0 hO fun og s hO => ?_
    refine au ?_
    refine zo (fun w => opB (J4C rfl rfl w) (ndF (by decide))) ?_
    refine au ?_
    refine zo (J0a Try.underlying33 ti33 (pl := [(0, 1), (1, 1), (2, 1), (3, 1), (4, 1), (5, 1)]) (vs := []) (cs := #[.int .i64 (0 : Int), .slice none 0 0, .slice none 0 0, .slice none 0 0, .slice none 0 0, .slice none 0 0]) (by kernel_rfl) rfl (by kernel_rfl)) ?_
    refine sba 6 hO fun oF s hO => ?_
    refine au ?_
    refine Go1.retC2 Try.func19 rfl rfl (rlb 6 hO) ⟨((⟨(0 : Int), ([] : List (List Int)), ([] : List Str), ([] : List Int), ([] : List Bool), ([] : List Bool)⟩ : Syntactic)), _, _, _, _, _, _, _, _, _, _, _, ?_, frs, (ISl.null _ _ _), (ISl.null _ _ _), (ISl.null _ _ _), (ISl.null _ _ _), (ISl.null _ _ _), H⟩
    exact rfl
   refine au ?_
   refine drA Same.tr 1 [(0, .pure), (1, .pure), (2, .pure), (3, .stable), (4, .pure), (5, .pure), (7, .pure), (9, .pure), (10, .stable), (11, .pure), (12, .stable), (14, .pure), (13, .loud), (6, .alloc), (8, .alloc), (15, .alloc), (16, .pure), (17, .alloc), (18, .last)] hO fun xe s hO => ?_
   have iB := hO.le
   have hw175 := (fr : Fr (bl []) w0 _ xe).ch.size
   refine au ?_
   refine au ?_
   refine au ?_
   refine sbl 4 ?_
   refine slnN nJ ?_
   refine au ?_
   refine au ?_
   refine au ?_
   refine sbl 0 ?_
   refine sxls hO ah.u (H cW.bd).1 (H cW.bd).2.1 fun Co Cp tL => ?_
   refine au ?_
   refine GoQA.loudI rfl rfl fun wc A180 tM => ?_
   refine sgw tM hO fun s hO => ?_
   have Cq := (H cW.bd).1
   have Cr := (H cW.bd).2.1
   refine GoAt.call (J00 body86 rfl (J0s hO.lt tL.u (H cW.bd).2.2)) (fun _ _ hr => ⟨fun _ => saq hr, Same.kp hO (saq hr)⟩) rfl fun _ vn => e4 fun r182 c6 cX cY => sA1 hO fun s hO => fun H => ?_
   obtain ⟨kz, H⟩ := H
   obtain ⟨xg, H⟩ := H
   refine GoQA.alloc rfl rfl (alMake2 (e' := 3) Fl.i Try.underlying23 ti31 kz xg (by decide) rfl rfl) ?_
   intro xh A190 dt A192 tN tO hd195 hnb196 hh197
   refine sgw tN hO fun s hO => ?_
   refine sgn (e := t2 Fl.i 31 3 (some ⟨dt, 0, none⟩) r158.Elems.length r158.Elems.length ((fun _ => (none, 0))) (List.replicate r158.Elems.length ([] : List Int))) tO hO iB hw175 hnb196 (J5m dt) hh197 hd195 (fr : Fr (bl []) w0 _ xh) fun s hO hB => ?_
   obtain ⟨xi, H⟩ := H
   obtain ⟨xj, H⟩ := H
   have zz := alMakeE (n := (r158.Elems.length : Int)) (r := Rp.str) (d := ([] : Str)) Try.underlying30 ti9 (fun _ _ => ⟨rfl, Nat.zero_le _⟩) rfl xi xj (by decide)
   obtain ⟨tP, hal214, tQ⟩ := zz
   refine GoQA.alloc rfl rfl (hal214 rfl rfl) ?_
   intro pX A202 dy A204 tR tS hd207 hnb208 hh209
   refine sgw tR hO fun s hO => ?_
   have jS := tQ (bl [t2 Fl.i 31 3 (some ⟨dt, 0, none⟩) r158.Elems.length r158.Elems.length ((fun _ => (none, 0))) (List.replicate r158.Elems.length ([] : List Int)), t1 Fl.i 3 cX c6 cY r182, .blk B162 (.cells #[.int .i64 r158.Points, .bool r158.Monoid, .slice cx r158.Gens.length cy, .slice bT r158.Elems.length bU, .slice bP r158.Prefix.length bQ, .slice cz r158.Last.length cA, .slice bw r158.Right.length bx, .slice cj r158.Rules.length ck, .int .i64 r158.Done] 123 (0, 0)), .blk B154 (.cells #[.int .i64 (0 : Int), .slice none 0 0, .slice none 0 0, .slice none 0 0, .slice none 0 0, .slice none 0 0] 33 (0, 0)), .row 120 3 dF (0 + 1) dG dw, .blk B17 (.cells #[.int .i64 r13.Letters, .int .i64 r13.Start, .slice b8 r13.Final.length b9, .slice cS r13.Next.length cU] 25 (0, 0)), .blk B11 (.cells #[.slice p23 r13.Letters.toNat r13.Letters.toNat, .slice dF (0 + 1) dG, .int .i64 ((0 : Int) + (r13.Final.length : Int))] 83 (0, 0)), .blk B5 (.cells #[.int .i64 (0 : Int), .slice none 0 0, .slice none 0 0, .slice none 0 0, .slice none 0 0, .slice none 0 0] 33 (0, 0))] ++ A202) pX
   refine sgn (e := .row 9 1 (some ⟨dy, 0, none⟩) r158.Elems.length r158.Elems.length tP) tS hO iB hw175 hnb208 rfl hh209 hd207 (fr : Fr (bl []) w0 _ pX) fun s hO hB => ?_
   replace jS := jS.ch s.ch
   refine cl1 Fl.str 0 hO jS.u fun s hO => ?_
   obtain ⟨xk, H⟩ := H
   obtain ⟨xl, H⟩ := H
   have zz := alMakeE (n := (r158.Elems.length : Int)) (r := Rp.bool) (d := false) Try.underlying22 ti4 (fun _ _ => rfl) rfl xk xl (by decide)
   obtain ⟨tT, hal230, tU⟩ := zz
   refine GoQA.alloc rfl rfl (hal230 rfl rfl) ?_
   intro kT A218 dH A220 tV tW hd223 hnb224 hh225
   refine sgw tV hO fun s hO => ?_
   have jT := tU (bl [t1 Fl.str 9 (some ⟨dy, 0, none⟩) r158.Elems.length r158.Elems.length (List.replicate r158.Elems.length (([] : Str))), t2 Fl.i 31 3 (some ⟨dt, 0, none⟩) r158.Elems.length r158.Elems.length ((fun _ => (none, 0))) (List.replicate r158.Elems.length ([] : List Int)), t1 Fl.i 3 cX c6 cY r182, .blk B162 (.cells #[.int .i64 r158.Points, .bool r158.Monoid, .slice cx r158.Gens.length cy, .slice bT r158.Elems.length bU, .slice bP r158.Prefix.length bQ, .slice cz r158.Last.length cA, .slice bw r158.Right.length bx, .slice cj r158.Rules.length ck, .int .i64 r158.Done] 123 (0, 0)), .blk B154 (.cells #[.int .i64 (0 : Int), .slice none 0 0, .slice none 0 0, .slice none 0 0, .slice none 0 0, .slice none 0 0] 33 (0, 0)), .row 120 3 dF (0 + 1) dG dw, .blk B17 (.cells #[.int .i64 r13.Letters, .int .i64 r13.Start, .slice b8 r13.Final.length b9, .slice cS r13.Next.length cU] 25 (0, 0)), .blk B11 (.cells #[.slice p23 r13.Letters.toNat r13.Letters.toNat, .slice dF (0 + 1) dG, .int .i64 ((0 : Int) + (r13.Final.length : Int))] 83 (0, 0)), .blk B5 (.cells #[.int .i64 (0 : Int), .slice none 0 0, .slice none 0 0, .slice none 0 0, .slice none 0 0, .slice none 0 0] 33 (0, 0))] ++ A218) kT
   refine sgn (e := .row 4 1 (some ⟨dH, 0, none⟩) r158.Elems.length r158.Elems.length tT) tW hO iB hw175 hnb224 rfl hh225 hd223 (fr : Fr (bl []) w0 _ kT) fun s hO hB => ?_
   replace jT := jT.ch s.ch
   refine cl1 Fl.bool 0 hO jT.u fun s hO => ?_
   refine GoQA.pure rfl (J0a Try.underlying33 ti33 (pl := [(0, 1), (1, 1), (2, 1), (3, 1), (4, 1), (5, 1)]) (vs := [(0, .int .i64 (dE.length : Int)), (1, .slice (some ⟨dt, 0, none⟩) r158.Elems.length r158.Elems.length), (2, .slice (some ⟨dy, 0, none⟩) r158.Elems.length r158.Elems.length), (3, .slice cX c6 cY), (5, .slice (some ⟨dH, 0, none⟩) r158.Elems.length r158.Elems.length)]) (cs := #[.int .i64 (dE.length : Int), .slice (some ⟨dt, 0, none⟩) r158.Elems.length r158.Elems.length, .slice (some ⟨dy, 0, none⟩) r158.Elems.length r158.Elems.length, .slice cX c6 cY, .slice none 0 0, .slice (some ⟨dH, 0, none⟩) r158.Elems.length r158.Elems.length]) (by kernel_rfl) rfl (by kernel_rfl)) rfl rfl ?_
   refine GoQA.alloc rfl rfl (alAlloc (cs := #[.int .i64 (0 : Int), .slice none 0 0, .slice none 0 0, .slice none 0 0, .slice none 0 0, .slice none 0 0]) ti33 rfl) ?_
   intro xm A234 d7 A236 tX tY hd239 hnb240 hh241
   refine sgw tX hO fun s hO => ?_
   refine sgn (e := .blk d7 (.cells #[.int .i64 (0 : Int), .slice none 0 0, .slice none 0 0, .slice none 0 0, .slice none 0 0, .slice none 0 0] 33 (0, 0))) tY hO iB hw175 hnb240 rfl hh241 hd239 (fr : Fr (bl []) w0 _ xm) fun s hO hB => ?_
   refine GoQA.lastI rfl rfl fun Ct A243 t5 => ?_
   refine sgw t5 hO fun s hO => ?_
   refine sba 0 hO fun Cu s hO => ?_
   refine GoQA.nil fun xn A247 t6 t7 => ?_
   refine sgw t6 hO fun s hO => ?_
   refine spm t7 hO fun s hO => ?_
   refine au ?_
   have hB := (fr : Fr (bl []) w0 _ xn)
   replace cK := cK.o hO
   replace ai := ai.o hO
   replace aX := aX.o hO
   replace aE := aE.o hO
   replace aj := aj.o hO
   replace ah := ah.o hO
   replace aF := aF.o hO
   replace cW := cW.o hO
   revert hO; repeat (rename Owns _ _ _ _ => q; clear q)
   intro hO; repeat (rename Sq _ _ _ _ _ _ => q; clear q)
   refine au ?_
   refine sdr [8] hO fun s hO => ?_
   refine lw H (fun (fJ, d_252, eC) σ w => (fun Z => agrees σ [(0, .pointer (some ⟨B11, 0, none⟩)), (2, .pointer (some ⟨B154, 0, none⟩)), (5, .pointer (some ⟨B162, 0, none⟩)), (7, .int .i64 (r158.Elems.length : Int)), (8, .pointer (some ⟨d7, 0, none⟩)), (9, .int .i64 (fJ : Int))] ∧ Owns w0.heap.size w Z A ∧ Els (rppart) (bl Z ++ A) w dw ((([] : List part)) ++ ([(⟨((0 : Int) + r13.Start), r13.Final, (0 : Int)⟩ : part)])) ∧ ISl (Rp.sl (Rp.int .i64)) (bl Z ++ A) w p23 r13.Letters.toNat dE ∧ ISl (Rp.sl (Rp.int .i64)) (bl Z ++ A) w cx cy r158.Gens ∧ ISl (Rp.sl (Rp.int .i64)) (bl Z ++ A) w bT bU r158.Elems ∧ ISl (Rp.int .i64) (bl Z ++ A) w bP bQ r158.Prefix ∧ ISl (Rp.int .i64) (bl Z ++ A) w cz cA r158.Last ∧ ISl (Rp.sl (Rp.int .i64)) (bl Z ++ A) w bw bx r158.Right ∧ ISl (rpRule) (bl Z ++ A) w cj ck r158.Rules ∧ Fr (bl []) w0 (bl Z) w) [.blk d7 (.cells #[.int .i64 (dE.length : Int), .slice (some ⟨dt, 0, none⟩) r158.Elems.length r158.Elems.length, .slice (some ⟨dy, 0, none⟩) r158.Elems.length r158.Elems.length, .slice cX c6 cY, .slice none 0 0, .slice (some ⟨dH, 0, none⟩) r158.Elems.length r158.Elems.length] 33 (0, 0)), t1 Fl.bool 4 (some ⟨dH, 0, none⟩) r158.Elems.length r158.Elems.length d_252, t1 Fl.str 9 (some ⟨dy, 0, none⟩) r158.Elems.length r158.Elems.length eC, t2 Fl.i 31 3 (some ⟨dt, 0, none⟩) r158.Elems.length r158.Elems.length ((fun _ => (none, 0))) (List.replicate r158.Elems.length ([] : List Int)), t1 Fl.i 3 cX c6 cY r182, .blk B162 (.cells #[.int .i64 r158.Points, .bool r158.Monoid, .slice cx r158.Gens.length cy, .slice bT r158.Elems.length bU, .slice bP r158.Prefix.length bQ, .slice cz r158.Last.length cA, .slice bw r158.Right.length bx, .slice cj r158.Rules.length ck, .int .i64 r158.Done] 123 (0, 0)), .blk B154 (.cells #[.int .i64 (0 : Int), .slice none 0 0, .slice none 0 0, .slice none 0 0, .slice none 0 0, .slice none 0 0] 33 (0, 0)), .row 120 3 dF (0 + 1) dG dw, .blk B11 (.cells #[.slice p23 r13.Letters.toNat r13.Letters.toNat, .slice dF (0 + 1) dG, .int .i64 ((0 : Int) + (r13.Final.length : Int))] 83 (0, 0)), .blk B5 (.cells #[.int .i64 (0 : Int), .slice none 0 0, .slice none 0 0, .slice none 0 0, .slice none 0 0, .slice none 0 0] 33 (0, 0))]) ⟨agr, hO, cK.u, cW.u, aX.u, ai.u, aj.u, aE.u, ah.u, aF.u, fr⟩ ?_
   refine fun X3 => p2 fun fJ d_252 eC => fun H hX3 σ Cv => d1 fun hag => d1 fun hO => d1 fun cK => d1 fun cW => d1 fun aX => d1 fun ai => d4 fun aj aE ah aF hB => ?_
   dsimp only at H
   refine Go1.keep _ hag ?_
   revert hO; repeat (rename Owns _ _ _ _ => q; clear q)
   intro hO; repeat (rename Sq _ _ _ _ _ _ => q; clear q)
   refine scm H (fun pY H => ?_) fun pY H => ?_
   ·refine au ?_
    refine drw 1 [(0, .pure), (1, .stable), (2, .pure), (3, .pure), (4, .stable), (5, .pure), (6, .stable), (7, .pure), (8, .pure), (9, .stable), (10, .pure), (11, .stable), (12, .pure), (13, .stable), (14, .pure), (15, .pure), (16, .stable), (17, .pure), (18, .pure), (19, .loud), (20, .stable), (21, .pure), (22, .pure), (23, .last)] hO fun Cw s hO => ?_
    refine sxl hO aj.u H.1 H.2.1 ?_
    refine sxl1 2 hO H.2.2.1 H.2.2.2.1 ?_
    have hle256 := t1le 2 hO H.2.2.1 H.2.2.2.1
    refine sxl hO aE.u H.2.2.2.2.1 H.2.2.2.2.2.1 ?_
    have Cx := H.1
    have Cy := H.2.1
    have Cz := H.2.2.1
    have CA := H.2.2.2.1
    have CB := H.2.2.2.2.1
    have CC := H.2.2.2.2.2.1
    replace H := H.2.2.2.2.2.2
    obtain ⟨xo, H⟩ := H
    refine GoQ.pure rfl (J0l rfl rfl (wrap_i64 xo)) rfl rfl ?_
    refine GoQ.pure rfl (J2Z Try.underlying3 Try.underlying5 rfl rfl) rfl rfl ?_
    refine sbu (Fl.int .u8) 5 [(IntKind.u8.wrap ((97 : Int) + (ix r158.Last (fJ : Int))))] hO fun CD CE s hO => ?_
    refine op1 0 hO fun iA s hO fd => ?_
    have hle269 := J7H fd.bd
    refine GoQ.stable rfl (oldBytes 0 hO rfl fd.u Try.underlying126 Try.underlying5 Try.underlying9 rfl) rfl rfl ?_
    obtain ⟨p9, H⟩ := H
    refine GoQ.pure rfl (J1i rfl rfl p9) rfl rfl ?_
    refine six1 3 hO H.1 H.2.1 ?_
    refine sst (u := ((ix eC (ix r158.Prefix (fJ : Int))) ++ (byt ([(IntKind.u8.wrap ((97 : Int) + (ix r158.Last (fJ : Int))))])))) 3 hO H.1 H.2.1 (fun CF s hO => ?_) (hR := by exact fun _ _ => ⟨rfl, (lenApp p9)⟩)
    refine six1 2 hO H.2.2.1 H.2.2.2.1 ?_
    refine sst (u := true) 2 hO H.2.2.1 H.2.2.2.1 fun CG s hO => ?_
    refine sinc (natbd pY ai.bd) ?_
    refine au ?_
    refine cl1 (Fl.int .u8) 0 hO fd.u fun s hO => ?_
    refine sdr [0] hO fun s hO => ?_
    exact hX3 _ H.2.2.2.2 _ _ ⟨agr, hO, cK.u, cW.u, aX.u, ai.u, aj.u, aE.u, ah.u, aF.u, fr⟩
   refine sln0 ?_
   refine au ?_
   refine lw (H ah.bd) (fun (c7, d_275, gP) σ w => ∃ fM, (fun Z => agrees σ [(0, .pointer (some ⟨B11, 0, none⟩)), (2, .pointer (some ⟨B154, 0, none⟩)), (5, .pointer (some ⟨B162, 0, none⟩)), (7, .int .i64 (r158.Elems.length : Int)), (8, .pointer (some ⟨d7, 0, none⟩)), (86, .slice bw r158.Right.length bx), (87, .int .i64 (r158.Right.length : Int)), (88, .int .i64 (c7 : Int))] ∧ Owns w0.heap.size w Z A ∧ Els (rppart) (bl Z ++ A) w dw ((([] : List part)) ++ ([(⟨((0 : Int) + r13.Start), r13.Final, (0 : Int)⟩ : part)])) ∧ ISl (Rp.sl (Rp.int .i64)) (bl Z ++ A) w p23 r13.Letters.toNat dE ∧ ISl (Rp.sl (Rp.int .i64)) (bl Z ++ A) w cx cy r158.Gens ∧ ISl (Rp.sl (Rp.int .i64)) (bl Z ++ A) w bT bU r158.Elems ∧ ISl (Rp.int .i64) (bl Z ++ A) w bP bQ r158.Prefix ∧ ISl (Rp.int .i64) (bl Z ++ A) w cz cA r158.Last ∧ ISl (Rp.sl (Rp.int .i64)) (bl Z ++ A) w bw bx r158.Right ∧ ISl (rpRule) (bl Z ++ A) w cj ck r158.Rules ∧ Fr (bl []) w0 (bl Z) w) [.blk d7 (.cells #[.int .i64 (dE.length : Int), .slice (some ⟨dt, 0, none⟩) r158.Elems.length r158.Elems.length, .slice (some ⟨dy, 0, none⟩) r158.Elems.length r158.Elems.length, .slice cX c6 cY, .slice none 0 0, .slice (some ⟨dH, 0, none⟩) r158.Elems.length r158.Elems.length] 33 (0, 0)), t1 Fl.bool 4 (some ⟨dH, 0, none⟩) r158.Elems.length r158.Elems.length d_275, t1 Fl.str 9 (some ⟨dy, 0, none⟩) r158.Elems.length r158.Elems.length eC, t2 Fl.i 31 3 (some ⟨dt, 0, none⟩) r158.Elems.length r158.Elems.length fM gP, t1 Fl.i 3 cX c6 cY r182, .blk B162 (.cells #[.int .i64 r158.Points, .bool r158.Monoid, .slice cx r158.Gens.length cy, .slice bT r158.Elems.length bU, .slice bP r158.Prefix.length bQ, .slice cz r158.Last.length cA, .slice bw r158.Right.length bx, .slice cj r158.Rules.length ck, .int .i64 r158.Done] 123 (0, 0)), .blk B154 (.cells #[.int .i64 (0 : Int), .slice none 0 0, .slice none 0 0, .slice none 0 0, .slice none 0 0, .slice none 0 0] 33 (0, 0)), .row 120 3 dF (0 + 1) dG dw, .blk B11 (.cells #[.slice p23 r13.Letters.toNat r13.Letters.toNat, .slice dF (0 + 1) dG, .int .i64 ((0 : Int) + (r13.Final.length : Int))] 83 (0, 0)), .blk B5 (.cells #[.int .i64 (0 : Int), .slice none 0 0, .slice none 0 0, .slice none 0 0, .slice none 0 0, .slice none 0 0] 33 (0, 0))]) ⟨_, agr, hO, cK.u, cW.u, aX.u, ai.u, aj.u, aE.u, ah.u, aF.u, fr⟩ ?_
   refine fun X4 => p2 fun c7 d_275 gP => fun H hX4 σ CH => e1 fun fM => d1 fun hag => d1 fun hO => d1 fun cK => d1 fun cW => d1 fun aX => d1 fun ai => d4 fun aj aE ah aF hB => ?_
   dsimp only at H
   refine Go1.keep _ hag ?_
   revert hO; repeat (rename Owns _ _ _ _ => q; clear q)
   intro hO; repeat (rename Sq _ _ _ _ _ _ => q; clear q)
   refine scm H (fun mo H => ?_) fun mo H => ?_
   ·refine sxls hO ah H.1 H.2.1 fun CJ CK t8 => ?_
    refine au ?_
    refine drw 1 [(0, .pure), (1, .stable), (2, .pure), (3, .stable), (4, .pure), (5, .stable), (6, .pure), (7, .pure), (8, .loud), (9, .pure), (10, .pure), (11, .last)] hO fun CM s hO => ?_
    refine au ?_
    have CO := H.1
    have CP := H.2.1
    have CQ := H.2.2.1
    have eO := H.2.2.2.1
    refine sxb1 1 hO H.2.2.1 H.2.2.2.1 H.2.2.2.2 (fun xp H => ?_) fun xp H => ?_
    ·refine six1 1 hO H.1 H.2.1 ?_
     refine sst (u := true) 1 hO H.1 H.2.1 fun CR s hO => ?_
     refine au ?_
     refine drw 1 [(0, .pure), (1, .stable), (2, .pure), (3, .pure), (4, .loud), (5, .pure), (6, .last)] hO fun wk s hO => ?_
     refine smk Fl.i H.2.2 hO fun CT xq s hO => ?_
     have CU := H.1
     have CV := H.2.1
     replace H := H.2.2.2.2
     obtain ⟨mq, H⟩ := H
     obtain ⟨mr, H⟩ := H
     refine GoQ.pure rfl (J01 Try.underlying23 ti31 rfl rfl mq (ltn (t2neq 4 hO rfl) mr) (t2some 4 hO rfl mq mr)) rfl rfl ?_
     refine op1 0 hO fun yH s hO t9 => ?_
     refine sfr 4 hO fun s hO => ?_
     refine sfr 1 hO fun s hO => ?_
     have zz := t2put (hf := Fl.i) hO t9.u mq mr
     obtain ⟨wm, qa, qb⟩ := zz
     refine GoQ.last rfl (qb Try.underlying31 rfl ti31 (by exact rfl) (by exact rfl)) rfl rfl ?_
     refine nst qa fun s hO => ?_
     refine au ?_
     obtain ⟨i4, H⟩ := H
     obtain ⟨i5, H⟩ := H
     refine zo (J01 Try.underlying23 ti31 rfl rfl i4 (ltn (t2neq 0 hO rfl) i5) (t2some 0 hO rfl i4 i5)) ?_
     refine zs (t2head 0 hO rfl i4 i5 Try.underlying31 rfl rfl) ?_
     refine au ?_
     obtain ⟨ms, H⟩ := H
     obtain ⟨mt, H⟩ := H
     refine zo (J01 Try.underlying31 ti3 rfl rfl ms mt (t2isome 0 hO rfl i4 i5 ms mt)) ?_
     have zz := t2st (r := Rp.int .i64) (hf := Fl.i) rfl 0 hO rfl i4 i5 ms mt (v := .int .i64 (c7 : Int)) (u := (c7 : Int)) rfl rfl
     obtain ⟨CW, qc, qd⟩ := zz
     refine zg (qd Try.underlying3 rfl ti3 (by exact rfl) (by exact rfl)) ?_
     refine nst qc fun s hO => ?_
     refine au ?_
     refine lw H (fun (fu, d_311) σ w => (fun Z => agrees σ [(0, .pointer (some ⟨B11, 0, none⟩)), (2, .pointer (some ⟨B154, 0, none⟩)), (5, .pointer (some ⟨B162, 0, none⟩)), (7, .int .i64 (r158.Elems.length : Int)), (8, .pointer (some ⟨d7, 0, none⟩)), (10, .int .i64 (c7 : Int)), (12, .int .i64 (fu : Int)), (86, .slice bw r158.Right.length bx), (87, .int .i64 (r158.Right.length : Int)), (88, .int .i64 (c7 : Int))] ∧ Owns w0.heap.size w Z A ∧ Els (rppart) (bl Z ++ A) w dw ((([] : List part)) ++ ([(⟨((0 : Int) + r13.Start), r13.Final, (0 : Int)⟩ : part)])) ∧ ISl (Rp.sl (Rp.int .i64)) (bl Z ++ A) w p23 r13.Letters.toNat dE ∧ ISl (Rp.sl (Rp.int .i64)) (bl Z ++ A) w cx cy r158.Gens ∧ ISl (Rp.sl (Rp.int .i64)) (bl Z ++ A) w bT bU r158.Elems ∧ ISl (Rp.int .i64) (bl Z ++ A) w bP bQ r158.Prefix ∧ ISl (Rp.int .i64) (bl Z ++ A) w cz cA r158.Last ∧ ISl (Rp.sl (Rp.int .i64)) (bl Z ++ A) w bw bx r158.Right ∧ ISl (rpRule) (bl Z ++ A) w cj ck r158.Rules ∧ Fr (bl []) w0 (bl Z) w) [t2 Fl.i 31 3 (some ⟨dt, 0, none⟩) r158.Elems.length r158.Elems.length (hup fM (c7 : Int).toNat (xq, r158.Elems.length)) d_311, .blk d7 (.cells #[.int .i64 (dE.length : Int), .slice (some ⟨dt, 0, none⟩) r158.Elems.length r158.Elems.length, .slice (some ⟨dy, 0, none⟩) r158.Elems.length r158.Elems.length, .slice cX c6 cY, .slice none 0 0, .slice (some ⟨dH, 0, none⟩) r158.Elems.length r158.Elems.length] 33 (0, 0)), t1 Fl.bool 4 (some ⟨dH, 0, none⟩) r158.Elems.length r158.Elems.length (st d_275 (0 : Int) true), t1 Fl.str 9 (some ⟨dy, 0, none⟩) r158.Elems.length r158.Elems.length eC, t1 Fl.i 3 cX c6 cY r182, .blk B162 (.cells #[.int .i64 r158.Points, .bool r158.Monoid, .slice cx r158.Gens.length cy, .slice bT r158.Elems.length bU, .slice bP r158.Prefix.length bQ, .slice cz r158.Last.length cA, .slice bw r158.Right.length bx, .slice cj r158.Rules.length ck, .int .i64 r158.Done] 123 (0, 0)), .blk B154 (.cells #[.int .i64 (0 : Int), .slice none 0 0, .slice none 0 0, .slice none 0 0, .slice none 0 0, .slice none 0 0] 33 (0, 0)), .row 120 3 dF (0 + 1) dG dw, .blk B11 (.cells #[.slice p23 r13.Letters.toNat r13.Letters.toNat, .slice dF (0 + 1) dG, .int .i64 ((0 : Int) + (r13.Final.length : Int))] 83 (0, 0)), .blk B5 (.cells #[.int .i64 (0 : Int), .slice none 0 0, .slice none 0 0, .slice none 0 0, .slice none 0 0, .slice none 0 0] 33 (0, 0))]) ⟨agr, hO, cK.u, cW.u, aX.u, ai.u, aj.u, aE.u, ah.u, aF.u, fr⟩ ?_
     refine fun X5 => p1 fun fu d_311 => fun H hX5 σ CX => d1 fun hag => d1 fun hO => d1 fun cK => d1 fun cW => d1 fun aX => d1 fun ai => d4 fun aj aE ah aF hB => ?_
     dsimp only at H
     refine Go1.keep _ hag ?_
     revert hO; repeat (rename Owns _ _ _ _ => q; clear q)
     intro hO; repeat (rename Sq _ _ _ _ _ _ => q; clear q)
     refine scm H (fun qe H => ?_) fun qe H => ?_
     ·refine au ?_
      refine drw 1 [(0, .pure), (1, .stable), (2, .pure), (3, .pure), (4, .stable), (5, .pure), (6, .pure), (7, .stable), (8, .pure), (9, .stable), (10, .pure), (11, .pure), (12, .stable), (13, .pure), (14, .stable), (15, .pure), (16, .pure), (17, .stable), (18, .pure), (19, .stable), (20, .pure), (21, .stable), (22, .pure), (23, .stable), (24, .pure), (25, .pure), (26, .stable), (27, .pure), (28, .stable), (29, .pure), (30, .last)] hO fun wn s hO => ?_
      refine au ?_
      obtain ⟨i6, H⟩ := H
      obtain ⟨i7, H⟩ := H
      refine GoQ.pure rfl (J01 Try.underlying23 ti31 rfl rfl i6 (ltn (t2neq 0 hO rfl) i7) (t2some 0 hO rfl i6 i7)) rfl rfl ?_
      refine GoQ.stable rfl (t2head 0 hO rfl i6 i7 Try.underlying31 rfl rfl) rfl rfl ?_
      refine au ?_
      obtain ⟨i8, H⟩ := H
      obtain ⟨i9, H⟩ := H
      refine GoQ.pure rfl (J01 Try.underlying23 ti31 rfl rfl i8 (ltn (t2neq 0 hO rfl) i9) (t2some 0 hO rfl i8 i9)) rfl rfl ?_
      refine GoQ.stable rfl (t2head 0 hO rfl i8 i9 Try.underlying31 rfl rfl) rfl rfl ?_
      refine sxl hO aj.u H.1 H.2.1 ?_
      have C0 := H.1
      have C1 := H.2.1
      replace H := H.2.2
      obtain ⟨mv, H⟩ := H
      obtain ⟨mw, H⟩ := H
      refine GoQ.pure rfl (J01 Try.underlying31 ti3 rfl rfl mv mw (t2isome 0 hO rfl i8 i9 mv mw)) rfl rfl ?_
      refine GoQ.stable rfl (t2Int 0 hO rfl i8 i9 mv mw Try.underlying3 rfl rfl) rfl rfl ?_
      refine sxls hO ah.u H.1 H.2.1 fun C2 C3 ua => ?_
      refine sxl hO aE.u H.2.2.1 H.2.2.2.1 ?_
      refine sxl hO ua.u H.2.2.2.2.1 H.2.2.2.2.2.1 ?_
      have C4 := H.1
      have C5 := H.2.1
      have C6 := H.2.2.1
      have C7 := H.2.2.2.1
      have C8 := H.2.2.2.2.1
      have C9 := H.2.2.2.2.2.1
      replace H := H.2.2.2.2.2.2
      obtain ⟨my, H⟩ := H
      obtain ⟨mz, H⟩ := H
      refine GoQ.pure rfl (J01 Try.underlying31 ti3 rfl rfl my mz (t2isome 0 hO rfl i6 i7 my mz)) rfl rfl ?_
      have zz := t2st (r := Rp.int .i64) (hf := Fl.i) rfl 0 hO rfl i6 i7 my mz (v := .int .i64 (ix (ix r158.Right (ix (ix d_311 (c7 : Int)) (ix r158.Prefix (fu : Int)))) (ix r158.Last (fu : Int)))) (u := (ix (ix r158.Right (ix (ix d_311 (c7 : Int)) (ix r158.Prefix (fu : Int)))) (ix r158.Last (fu : Int)))) rfl rfl
      obtain ⟨Dc, qf, qg⟩ := zz
      refine GoQ.last rfl (qg Try.underlying3 rfl ti3 (by exact rfl) (by exact rfl)) rfl rfl ?_
      refine nst qf fun s hO => ?_
      refine sinc (natbd qe ai.bd) ?_
      refine au ?_
      exact hX5 _ H _ _ ⟨agr, hO, cK.u, cW.u, aX.u, ai.u, aj.u, aE.u, ah.u, aF.u, fr⟩
     refine sinc (natbd mo ah.bd) ?_
     refine au ?_
     refine sfr 9 hO fun s hO => ?_
     refine sfr 9 hO fun s hO => ?_
     refine sfr 9 hO fun s hO => ?_
     refine sfr 9 hO fun s hO => ?_
     refine sfr 9 hO fun s hO => ?_
     refine sfr 9 hO fun s hO => ?_
     refine sfr 6 hO fun s hO => ?_
     refine sfr 9 hO fun s hO => ?_
     refine sfr 9 hO fun s hO => ?_
     refine sfr 9 hO fun s hO => ?_
     exact hX4 _ H _ _ ⟨_, agr, hO, cK.u, cW.u, aX.u, ai.u, aj.u, aE.u, ah.u, aF.u, fr⟩
    refine au ?_
    refine zcq rfl (J00 body102 rfl (J2r hO.lt t8.u H)) fun _ Dd => e1 fun r336 => sq0 hO fun s hO => fun H => ?_
    refine six1 1 hO H.1 H.2.1 ?_
    refine sst (u := r336) 1 hO H.1 H.2.1 fun De s hO => ?_
    refine au ?_
    refine drw 1 [(0, .pure), (1, .stable), (2, .pure), (3, .pure), (4, .loud), (5, .pure), (6, .last)] hO fun wq s hO => ?_
    refine smk Fl.i H.2.2 hO fun wr oU s hO => ?_
    have Dg := H.1
    have Dh := H.2.1
    replace H := H.2.2.2.2
    obtain ⟨mA, H⟩ := H
    obtain ⟨mB, H⟩ := H
    refine GoQ.pure rfl (J01 Try.underlying23 ti31 rfl rfl mA (ltn (t2neq 4 hO rfl) mB) (t2some 4 hO rfl mA mB)) rfl rfl ?_
    refine op1 0 hO fun yI s hO ub => ?_
    refine sfr 4 hO fun s hO => ?_
    refine sfr 1 hO fun s hO => ?_
    have zz := t2put (hf := Fl.i) hO ub.u mA mB
    obtain ⟨Di, qh, qi⟩ := zz
    refine GoQ.last rfl (qi Try.underlying31 rfl ti31 (by exact rfl) (by exact rfl)) rfl rfl ?_
    refine nst qh fun s hO => ?_
    refine au ?_
    obtain ⟨ja, H⟩ := H
    obtain ⟨jb, H⟩ := H
    refine zo (J01 Try.underlying23 ti31 rfl rfl ja (ltn (t2neq 0 hO rfl) jb) (t2some 0 hO rfl ja jb)) ?_
    refine zs (t2head 0 hO rfl ja jb Try.underlying31 rfl rfl) ?_
    refine au ?_
    obtain ⟨mC, H⟩ := H
    obtain ⟨mD, H⟩ := H
    refine zo (J01 Try.underlying31 ti3 rfl rfl mC mD (t2isome 0 hO rfl ja jb mC mD)) ?_
    have zz := t2st (r := Rp.int .i64) (hf := Fl.i) rfl 0 hO rfl ja jb mC mD (v := .int .i64 (c7 : Int)) (u := (c7 : Int)) rfl rfl
    obtain ⟨Dj, qj, qk⟩ := zz
    refine zg (qk Try.underlying3 rfl ti3 (by exact rfl) (by exact rfl)) ?_
    refine nst qj fun s hO => ?_
    refine au ?_
    refine lw H (fun (fv, iC) σ w => (fun Z => agrees σ [(0, .pointer (some ⟨B11, 0, none⟩)), (2, .pointer (some ⟨B154, 0, none⟩)), (5, .pointer (some ⟨B162, 0, none⟩)), (7, .int .i64 (r158.Elems.length : Int)), (8, .pointer (some ⟨d7, 0, none⟩)), (10, .int .i64 (c7 : Int)), (12, .int .i64 (fv : Int)), (86, .slice bw r158.Right.length bx), (87, .int .i64 (r158.Right.length : Int)), (88, .int .i64 (c7 : Int))] ∧ Owns w0.heap.size w Z A ∧ Els (rppart) (bl Z ++ A) w dw ((([] : List part)) ++ ([(⟨((0 : Int) + r13.Start), r13.Final, (0 : Int)⟩ : part)])) ∧ ISl (Rp.sl (Rp.int .i64)) (bl Z ++ A) w p23 r13.Letters.toNat dE ∧ ISl (Rp.sl (Rp.int .i64)) (bl Z ++ A) w cx cy r158.Gens ∧ ISl (Rp.sl (Rp.int .i64)) (bl Z ++ A) w bT bU r158.Elems ∧ ISl (Rp.int .i64) (bl Z ++ A) w bP bQ r158.Prefix ∧ ISl (Rp.int .i64) (bl Z ++ A) w cz cA r158.Last ∧ ISl (Rp.sl (Rp.int .i64)) (bl Z ++ A) w bw bx r158.Right ∧ ISl (rpRule) (bl Z ++ A) w cj ck r158.Rules ∧ Fr (bl []) w0 (bl Z) w) [t2 Fl.i 31 3 (some ⟨dt, 0, none⟩) r158.Elems.length r158.Elems.length (hup fM (c7 : Int).toNat (oU, r158.Elems.length)) iC, .blk d7 (.cells #[.int .i64 (dE.length : Int), .slice (some ⟨dt, 0, none⟩) r158.Elems.length r158.Elems.length, .slice (some ⟨dy, 0, none⟩) r158.Elems.length r158.Elems.length, .slice cX c6 cY, .slice none 0 0, .slice (some ⟨dH, 0, none⟩) r158.Elems.length r158.Elems.length] 33 (0, 0)), t1 Fl.bool 4 (some ⟨dH, 0, none⟩) r158.Elems.length r158.Elems.length (st d_275 (0 : Int) r336), t1 Fl.str 9 (some ⟨dy, 0, none⟩) r158.Elems.length r158.Elems.length eC, t1 Fl.i 3 cX c6 cY r182, .blk B162 (.cells #[.int .i64 r158.Points, .bool r158.Monoid, .slice cx r158.Gens.length cy, .slice bT r158.Elems.length bU, .slice bP r158.Prefix.length bQ, .slice cz r158.Last.length cA, .slice bw r158.Right.length bx, .slice cj r158.Rules.length ck, .int .i64 r158.Done] 123 (0, 0)), .blk B154 (.cells #[.int .i64 (0 : Int), .slice none 0 0, .slice none 0 0, .slice none 0 0, .slice none 0 0, .slice none 0 0] 33 (0, 0)), .row 120 3 dF (0 + 1) dG dw, .blk B11 (.cells #[.slice p23 r13.Letters.toNat r13.Letters.toNat, .slice dF (0 + 1) dG, .int .i64 ((0 : Int) + (r13.Final.length : Int))] 83 (0, 0)), .blk B5 (.cells #[.int .i64 (0 : Int), .slice none 0 0, .slice none 0 0, .slice none 0 0, .slice none 0 0, .slice none 0 0] 33 (0, 0))]) ⟨agr, hO, cK.u, cW.u, aX.u, ai.u, aj.u, aE.u, ah.u, aF.u, fr⟩ ?_
    refine fun X6 => p1 fun fv iC => fun H hX6 σ Dk => d1 fun hag => d1 fun hO => d1 fun cK => d1 fun cW => d1 fun aX => d1 fun ai => d4 fun aj aE ah aF hB => ?_
    dsimp only at H
    refine Go1.keep _ hag ?_
    revert hO; repeat (rename Owns _ _ _ _ => q; clear q)
    intro hO; repeat (rename Sq _ _ _ _ _ _ => q; clear q)
    refine scm H (fun ql H => ?_) fun ql H => ?_
    ·refine au ?_
     refine drw 1 [(0, .pure), (1, .stable), (2, .pure), (3, .pure), (4, .stable), (5, .pure), (6, .pure), (7, .stable), (8, .pure), (9, .stable), (10, .pure), (11, .pure), (12, .stable), (13, .pure), (14, .stable), (15, .pure), (16, .pure), (17, .stable), (18, .pure), (19, .stable), (20, .pure), (21, .stable), (22, .pure), (23, .stable), (24, .pure), (25, .pure), (26, .stable), (27, .pure), (28, .stable), (29, .pure), (30, .last)] hO fun Dl s hO => ?_
     refine au ?_
     obtain ⟨jc, H⟩ := H
     obtain ⟨jd, H⟩ := H
     refine GoQ.pure rfl (J01 Try.underlying23 ti31 rfl rfl jc (ltn (t2neq 0 hO rfl) jd) (t2some 0 hO rfl jc jd)) rfl rfl ?_
     refine GoQ.stable rfl (t2head 0 hO rfl jc jd Try.underlying31 rfl rfl) rfl rfl ?_
     refine au ?_
     obtain ⟨je, H⟩ := H
     obtain ⟨jf, H⟩ := H
     refine GoQ.pure rfl (J01 Try.underlying23 ti31 rfl rfl je (ltn (t2neq 0 hO rfl) jf) (t2some 0 hO rfl je jf)) rfl rfl ?_
     refine GoQ.stable rfl (t2head 0 hO rfl je jf Try.underlying31 rfl rfl) rfl rfl ?_
     refine sxl hO aj.u H.1 H.2.1 ?_
     have Dn := H.1
     have Do := H.2.1
     replace H := H.2.2
     obtain ⟨mE, H⟩ := H
     obtain ⟨mF, H⟩ := H
     refine GoQ.pure rfl (J01 Try.underlying31 ti3 rfl rfl mE mF (t2isome 0 hO rfl je jf mE mF)) rfl rfl ?_
     refine GoQ.stable rfl (t2Int 0 hO rfl je jf mE mF Try.underlying3 rfl rfl) rfl rfl ?_
     refine sxls hO ah.u H.1 H.2.1 fun Dp Dq uc => ?_
     refine sxl hO aE.u H.2.2.1 H.2.2.2.1 ?_
     refine sxl hO uc.u H.2.2.2.2.1 H.2.2.2.2.2.1 ?_
     have Dr := H.1
     have Du := H.2.1
     have Dv := H.2.2.1
     have Dw := H.2.2.2.1
     have Dx := H.2.2.2.2.1
     have Dy := H.2.2.2.2.2.1
     replace H := H.2.2.2.2.2.2
     obtain ⟨mG, H⟩ := H
     obtain ⟨mH, H⟩ := H
     refine GoQ.pure rfl (J01 Try.underlying31 ti3 rfl rfl mG mH (t2isome 0 hO rfl jc jd mG mH)) rfl rfl ?_
     have zz := t2st (r := Rp.int .i64) (hf := Fl.i) rfl 0 hO rfl jc jd mG mH (v := .int .i64 (ix (ix r158.Right (ix (ix iC (c7 : Int)) (ix r158.Prefix (fv : Int)))) (ix r158.Last (fv : Int)))) (u := (ix (ix r158.Right (ix (ix iC (c7 : Int)) (ix r158.Prefix (fv : Int)))) (ix r158.Last (fv : Int)))) rfl rfl
     obtain ⟨Dz, qm, qn⟩ := zz
     refine GoQ.last rfl (qn Try.underlying3 rfl ti3 (by exact rfl) (by exact rfl)) rfl rfl ?_
     refine nst qm fun s hO => ?_
     refine sinc (natbd ql ai.bd) ?_
     refine au ?_
     exact hX6 _ H _ _ ⟨agr, hO, cK.u, cW.u, aX.u, ai.u, aj.u, aE.u, ah.u, aF.u, fr⟩
    refine sinc (natbd mo ah.bd) ?_
    refine au ?_
    refine sfr 9 hO fun s hO => ?_
    refine sfr 9 hO fun s hO => ?_
    refine sfr 9 hO fun s hO => ?_
    refine sfr 9 hO fun s hO => ?_
    refine sfr 9 hO fun s hO => ?_
    refine sfr 9 hO fun s hO => ?_
    refine sfr 6 hO fun s hO => ?_
    refine sfr 9 hO fun s hO => ?_
    refine sfr 9 hO fun s hO => ?_
    refine sfr 9 hO fun s hO => ?_
    exact hX4 _ H _ _ ⟨_, agr, hO, cK.u, cW.u, aX.u, ai.u, aj.u, aE.u, ah.u, aF.u, fr⟩
   refine au ?_
   refine zo (J18 Try.underlying81 rfl (Els.neqW cK.u hO 7 rfl)) ?_
   obtain ⟨xr, H⟩ := H
   obtain ⟨xt, H⟩ := H
   have zz := t2makeS (m := (((([] : List part)) ++ ([(⟨((0 : Int) + r13.Start), r13.Final, (0 : Int)⟩ : part)])).length : Int)) (e' := 4) Fl.bool Try.underlying40 ti22 hO xr xt (by decide)
   obtain ⟨DA, jg, qo, yJ, qr, hz396⟩ := zz
   refine zg (qr rfl rfl) ?_
   refine nst qo fun s hO => ?_
   refine au ?_
   refine zo (J18 Try.underlying81 rfl (Els.neqW cK.u hO 8 rfl)) ?_
   refine au ?_
   refine sdr [9] hO fun s hO => ?_
   refine lw H (fun (du, jU) σ w => ∃ jV, (fun Z => agrees σ [(2, .pointer (some ⟨B154, 0, none⟩)), (5, .pointer (some ⟨B162, 0, none⟩)), (7, .int .i64 (r158.Elems.length : Int)), (8, .pointer (some ⟨d7, 0, none⟩)), (13, .slice jg (((([] : List part)) ++ ([(⟨((0 : Int) + r13.Start), r13.Final, (0 : Int)⟩ : part)])).length) (((([] : List part)) ++ ([(⟨((0 : Int) + r13.Start), r13.Final, (0 : Int)⟩ : part)])).length)), (162, .slice dF (0 + 1) dG), (163, .int .i64 (((([] : List part)) ++ ([(⟨((0 : Int) + r13.Start), r13.Final, (0 : Int)⟩ : part)])).length : Int)), (164, .int .i64 (du : Int))] ∧ Owns w0.heap.size w Z A ∧ Els (rppart) (bl Z ++ A) w dw ((([] : List part)) ++ ([(⟨((0 : Int) + r13.Start), r13.Final, (0 : Int)⟩ : part)])) ∧ ISl (Rp.sl (Rp.int .i64)) (bl Z ++ A) w cx cy r158.Gens ∧ ISl (Rp.sl (Rp.int .i64)) (bl Z ++ A) w bT bU r158.Elems ∧ ISl (Rp.int .i64) (bl Z ++ A) w bP bQ r158.Prefix ∧ ISl (Rp.int .i64) (bl Z ++ A) w cz cA r158.Last ∧ ISl (Rp.sl (Rp.int .i64)) (bl Z ++ A) w bw bx r158.Right ∧ ISl (rpRule) (bl Z ++ A) w cj ck r158.Rules ∧ Fr (bl []) w0 (bl Z) w) [t2 Fl.bool 22 4 jg (((([] : List part)) ++ ([(⟨((0 : Int) + r13.Start), r13.Final, (0 : Int)⟩ : part)])).length) (((([] : List part)) ++ ([(⟨((0 : Int) + r13.Start), r13.Final, (0 : Int)⟩ : part)])).length) jV jU, .blk d7 (.cells #[.int .i64 (dE.length : Int), .slice (some ⟨dt, 0, none⟩) r158.Elems.length r158.Elems.length, .slice (some ⟨dy, 0, none⟩) r158.Elems.length r158.Elems.length, .slice cX c6 cY, .slice none 0 0, .slice (some ⟨dH, 0, none⟩) r158.Elems.length r158.Elems.length] 33 (0, 0)), t1 Fl.bool 4 (some ⟨dH, 0, none⟩) r158.Elems.length r158.Elems.length d_275, t1 Fl.str 9 (some ⟨dy, 0, none⟩) r158.Elems.length r158.Elems.length eC, t2 Fl.i 31 3 (some ⟨dt, 0, none⟩) r158.Elems.length r158.Elems.length fM gP, t1 Fl.i 3 cX c6 cY r182, .blk B162 (.cells #[.int .i64 r158.Points, .bool r158.Monoid, .slice cx r158.Gens.length cy, .slice bT r158.Elems.length bU, .slice bP r158.Prefix.length bQ, .slice cz r158.Last.length cA, .slice bw r158.Right.length bx, .slice cj r158.Rules.length ck, .int .i64 r158.Done] 123 (0, 0)), .blk B154 (.cells #[.int .i64 (0 : Int), .slice none 0 0, .slice none 0 0, .slice none 0 0, .slice none 0 0, .slice none 0 0] 33 (0, 0)), .row 120 3 dF (0 + 1) dG dw, .blk B5 (.cells #[.int .i64 (0 : Int), .slice none 0 0, .slice none 0 0, .slice none 0 0, .slice none 0 0, .slice none 0 0] 33 (0, 0))]) ⟨_, agr, hO, cK.u, aX.u, ai.u, aj.u, aE.u, ah.u, aF.u, fr⟩ ?_
   refine fun X7 => p1 fun du jU => fun H hX7 σ DB => e1 fun jV => d1 fun hag => d1 fun hO => d1 fun cK => d1 fun aX => d1 fun ai => d4 fun aj aE ah aF hB => ?_
   dsimp only at H
   refine Go1.keep _ hag ?_
   revert hO; repeat (rename Owns _ _ _ _ => q; clear q)
   intro hO; repeat (rename Sq _ _ _ _ _ _ => q; clear q)
   refine scm H (fun qt H => ?_) fun qt H => ?_
   ·refine au ?_
    obtain ⟨mI, H⟩ := H
    obtain ⟨mJ, H⟩ := H
    refine zo (J01 Try.underlying81 ti120 rfl rfl mI (ltn (Els.neqW cK hO 8 rfl) mJ) (Els.psomeW cK hO 8 rfl mI mJ)) ?_
    have ud := oldAggR 8 hO rfl (r := rppart) cK mI mJ
    obtain ⟨yK, ue, hR407, qu⟩ := ud
    replace hR407 := J6E ue hR407
    obtain ⟨qv, qw, hcs409, iD⟩ := hR407
    subst hcs409
    refine zs (qu Try.underlying120 rfl ti120 rfl) ?_
    refine sal hO fun DD B414 s hO => ?_
    refine sba 0 hO fun DE s hO => ?_
    refine smk Fl.bool H hO fun DF xv s hO => ?_
    replace H := H.2.2
    obtain ⟨mK, H⟩ := H
    obtain ⟨mM, H⟩ := H
    refine zo (J01 Try.underlying40 ti22 rfl rfl mK (ltn (t2neq 2 hO rfl) mM) (t2some 2 hO rfl mK mM)) ?_
    refine op1 0 hO fun yL s hO uf => ?_
    refine sfr 2 hO fun s hO => ?_
    refine sfr 1 hO fun s hO => ?_
    have zz := t2put (hf := Fl.bool) hO uf.u mK mM
    obtain ⟨DG, qz, qA⟩ := zz
    refine zg (qA Try.underlying22 rfl ti22 (by exact rfl) (by exact rfl)) ?_
    refine nst qz fun s hO => ?_
    refine sln0 ?_
    refine au ?_
    refine lw H (fun (kl, nK) σ w => (fun Z => agrees σ [(2, .pointer (some ⟨B154, 0, none⟩)), (5, .pointer (some ⟨B162, 0, none⟩)), (7, .int .i64 (r158.Elems.length : Int)), (8, .pointer (some ⟨d7, 0, none⟩)), (13, .slice jg (((([] : List part)) ++ ([(⟨((0 : Int) + r13.Start), r13.Final, (0 : Int)⟩ : part)])).length) (((([] : List part)) ++ ([(⟨((0 : Int) + r13.Start), r13.Final, (0 : Int)⟩ : part)])).length)), (14, .int .i64 (du : Int)), (15, .pointer (some ⟨B414, 0, none⟩)), (162, .slice dF (0 + 1) dG), (163, .int .i64 (((([] : List part)) ++ ([(⟨((0 : Int) + r13.Start), r13.Final, (0 : Int)⟩ : part)])).length : Int)), (164, .int .i64 (du : Int)), (175, .slice bT r158.Elems.length bU), (176, .int .i64 (r158.Elems.length : Int)), (177, .int .i64 (kl : Int))] ∧ Owns w0.heap.size w Z A ∧ Els (rppart) (bl Z ++ A) w dw ((([] : List part)) ++ ([(⟨((0 : Int) + r13.Start), r13.Final, (0 : Int)⟩ : part)])) ∧ ISl (Rp.sl (Rp.int .i64)) (bl Z ++ A) w cx cy r158.Gens ∧ ISl (Rp.sl (Rp.int .i64)) (bl Z ++ A) w bT bU r158.Elems ∧ ISl (Rp.int .i64) (bl Z ++ A) w bP bQ r158.Prefix ∧ ISl (Rp.int .i64) (bl Z ++ A) w cz cA r158.Last ∧ ISl (Rp.sl (Rp.int .i64)) (bl Z ++ A) w bw bx r158.Right ∧ ISl (rpRule) (bl Z ++ A) w cj ck r158.Rules ∧ ISl (Rp.bool) (bl Z ++ A) w qv qw ((ix ((([] : List part)) ++ ([(⟨((0 : Int) + r13.Start), r13.Final, (0 : Int)⟩ : part)])) (du : Int)).final) ∧ Fr (bl []) w0 (bl Z) w) [t2 Fl.bool 22 4 jg (((([] : List part)) ++ ([(⟨((0 : Int) + r13.Start), r13.Final, (0 : Int)⟩ : part)])).length) (((([] : List part)) ++ ([(⟨((0 : Int) + r13.Start), r13.Final, (0 : Int)⟩ : part)])).length) (hup jV (du : Int).toNat (xv, r158.Elems.length)) nK, .blk B414 (.cells #[.int .i64 ((ix ((([] : List part)) ++ ([(⟨((0 : Int) + r13.Start), r13.Final, (0 : Int)⟩ : part)])) (du : Int)).start), .slice qv (((ix ((([] : List part)) ++ ([(⟨((0 : Int) + r13.Start), r13.Final, (0 : Int)⟩ : part)])) (du : Int)).final).length) qw, .int .i64 ((ix ((([] : List part)) ++ ([(⟨((0 : Int) + r13.Start), r13.Final, (0 : Int)⟩ : part)])) (du : Int)).shift)] 120 (0, 0)), .blk d7 (.cells #[.int .i64 (dE.length : Int), .slice (some ⟨dt, 0, none⟩) r158.Elems.length r158.Elems.length, .slice (some ⟨dy, 0, none⟩) r158.Elems.length r158.Elems.length, .slice cX c6 cY, .slice none 0 0, .slice (some ⟨dH, 0, none⟩) r158.Elems.length r158.Elems.length] 33 (0, 0)), t1 Fl.bool 4 (some ⟨dH, 0, none⟩) r158.Elems.length r158.Elems.length d_275, t1 Fl.str 9 (some ⟨dy, 0, none⟩) r158.Elems.length r158.Elems.length eC, t2 Fl.i 31 3 (some ⟨dt, 0, none⟩) r158.Elems.length r158.Elems.length fM gP, t1 Fl.i 3 cX c6 cY r182, .blk B162 (.cells #[.int .i64 r158.Points, .bool r158.Monoid, .slice cx r158.Gens.length cy, .slice bT r158.Elems.length bU, .slice bP r158.Prefix.length bQ, .slice cz r158.Last.length cA, .slice bw r158.Right.length bx, .slice cj r158.Rules.length ck, .int .i64 r158.Done] 123 (0, 0)), .blk B154 (.cells #[.int .i64 (0 : Int), .slice none 0 0, .slice none 0 0, .slice none 0 0, .slice none 0 0, .slice none 0 0] 33 (0, 0)), .row 120 3 dF (0 + 1) dG dw, .blk B5 (.cells #[.int .i64 (0 : Int), .slice none 0 0, .slice none 0 0, .slice none 0 0, .slice none 0 0, .slice none 0 0] 33 (0, 0))]) ⟨agr, hO, cK.u, aX.u, ai.u, aj.u, aE.u, ah.u, aF.u, iD.u, fr⟩ ?_
    refine fun X8 => p1 fun kl nK => fun H hX8 σ DH => d1 fun hag => d1 fun hO => d1 fun cK => d1 fun aX => d1 fun ai => d1 fun aj => d4 fun aE ah aF iD hB => ?_
    dsimp only at H
    refine Go1.keep _ hag ?_
    revert hO; repeat (rename Owns _ _ _ _ => q; clear q)
    intro hO; repeat (rename Sq _ _ _ _ _ _ => q; clear q)
    refine scm H (fun qB H => ?_) fun qB H => ?_
    ·refine sxls hO ai H.1 H.2.1 fun DJ DK ug => ?_
     refine au ?_
     refine drw 1 [(0, .pure), (1, .pure), (2, .pure), (3, .stable), (4, .pure), (5, .stable), (6, .pure), (7, .loud), (8, .pure), (9, .last)] hO fun DL s hO => ?_
     refine au ?_
     have DN := H.1
     have DO := H.2.1
     replace H := H.2.2
     obtain ⟨jh, H⟩ := H
     obtain ⟨ji, H⟩ := H
     refine GoQ.pure rfl (J01 Try.underlying40 ti22 rfl rfl jh (ltn (t2neq 0 hO rfl) ji) (t2some 0 hO rfl jh ji)) rfl rfl ?_
     refine GoQ.stable rfl (t2head 0 hO rfl jh ji Try.underlying22 rfl rfl) rfl rfl ?_
     refine sag 1 hO ?_
     refine au ?_
     refine zcq rfl (J00 body103 rfl (J2b (p := (⟨((ix ((([] : List part)) ++ ([(⟨((0 : Int) + r13.Start), r13.Final, (0 : Int)⟩ : part)])) (du : Int)).start), (ix ((([] : List part)) ++ ([(⟨((0 : Int) + r13.Start), r13.Final, (0 : Int)⟩ : part)])) (du : Int)).final, ((ix ((([] : List part)) ++ ([(⟨((0 : Int) + r13.Start), r13.Final, (0 : Int)⟩ : part)])) (du : Int)).shift)⟩ : part)) hO.lt iD.u ug.u H)) fun _ DP => e1 fun qC => sq0 hO fun s hO => fun H => ?_
     obtain ⟨mO, H⟩ := H
     obtain ⟨mP, H⟩ := H
     refine GoQ.pure rfl (J01 Try.underlying22 ti4 rfl rfl mO mP (t2isome 0 hO rfl jh ji mO mP)) rfl rfl ?_
     have zz := t2st (r := Rp.bool) (hf := Fl.bool) rfl 0 hO rfl jh ji mO mP (v := .bool qC) (u := qC) rfl rfl
     obtain ⟨DR, qD, qE⟩ := zz
     refine GoQ.last rfl (qE Try.underlying4 rfl ti4 (by exact rfl) (by exact rfl)) rfl rfl ?_
     refine nst qD fun s hO => ?_
     refine sinc (natbd qB ai.bd) ?_
     refine au ?_
     exact hX8 _ H _ _ ⟨agr, hO, cK.u, aX.u, ai.u, aj.u, aE.u, ah.u, aF.u, iD.u, fr⟩
    refine sinc (natbd qt cK.bd) ?_
    refine au ?_
    refine sdr [1] hO fun s hO => ?_
    exact hX7 _ H _ _ ⟨_, agr, hO, cK.u, aX.u, ai.u, aj.u, aE.u, ah.u, aF.u, fr⟩
   refine sag 1 hO ?_
   refine sba 7 hO fun DS s hO => ?_
   refine au ?_
   refine Go1.retC3V Try.func63 rfl rfl (rlb 7 hO) (show _ = .slice jg (((([] : List part)) ++ ([(⟨((0 : Int) + r13.Start), r13.Final, (0 : Int)⟩ : part)])).length) (((([] : List part)) ++ ([(⟨((0 : Int) + r13.Start), r13.Final, (0 : Int)⟩ : part)])).length) from rfl) (show _ = .int .i64 (0 : Int) from rfl) ?_
   refine hR152 _ _ ?_
   refine sal hO fun DT B448 s hO => ?_
   refine sba 0 hO fun DU s hO => ?_
   refine au ?_
   refine zo (fun w => opB (J4C rfl rfl w) (ndT (by decide))) ?_
   refine au ?_
   obtain ⟨jW, H⟩ := H
   obtain ⟨jX, H⟩ := H
   refine zo (J01 Try.underlying40 ti22 rfl rfl jW (ltn (t2neq 1 hO rfl) jX) (t2some 1 hO rfl jW jX)) ?_
   refine zs (t2head 1 hO rfl jW jX Try.underlying22 rfl rfl) ?_
   refine sbs 0 hO fun DW s hO => ?_
   refine sag 0 hO ?_
   refine sba 10 hO fun DX s hO => ?_
   refine au ?_
   refine sfz2 5 hO fun s hO uh ui => ?_
   refine sfz 4 hO fun s hO uj uk => ?_
   refine sfz 4 hO fun s hO ul um => ?_
   have uo := t2lendIn 1 hO rfl jW jX
   refine sfz2 1 hO fun s hO yM yN => ?_
   refine sfz 2 hO fun s hO uq ur => ?_
   refine Go1.retC2 Try.func19 rfl rfl (rlb 5 hO) ⟨((⟨(dE.length : Int), gP, eC, r182, (ix jU (0 : Int)), d_275⟩ : Syntactic)), _, _, _, _, _, _, _, _, _, _, _, ?_, frs, uh.r, uj.r, ul.r, uo.r, uq.r, H⟩
   exact (congrArg (fun l => Value.tuple (List.toArray l)) (J02 (congrArg (fun l => Value.agg (List.toArray l)) (J02 rfl (J02 (congrArg (fun nn => Value.slice (some ⟨dt, 0, none⟩) nn r158.Elems.length) ui) (J02 (congrArg (fun nn => Value.slice (some ⟨dy, 0, none⟩) nn r158.Elems.length) uk) (J02 (congrArg (fun nn => Value.slice cX nn cY) um) (J02 rfl (J02 (congrArg (fun nn => Value.slice (some ⟨dH, 0, none⟩) nn r158.Elems.length) ur) rfl))))))) (J02 rfl rfl)))
  refine au ?_
  refine zo (J0a Try.underlying33 ti33 (pl := [(0, 1), (1, 1), (2, 1), (3, 1), (4, 1), (5, 1)]) (vs := []) (cs := #[.int .i64 (0 : Int), .slice none 0 0, .slice none 0 0, .slice none 0 0, .slice none 0 0, .slice none 0 0]) (by kernel_rfl) rfl (by kernel_rfl)) ?_
  refine sba 1 hO fun DY s hO => ?_
  refine au ?_
  refine Go1.retC3V Try.func63 rfl rfl (rlb 1 hO) (show _ = .slice none 0 0 from rfl) (show _ = .int .i64 r159 from rfl) ?_
  refine hR152 _ _ ?_
  refine sal hO fun D3 B468 s hO => ?_
  refine sba 0 hO fun D4 s hO => ?_
  refine au ?_
  refine zo (fun w => opB (J4C rfl rfl w) (ndF pW)) ?_
  refine au ?_
  refine zo (J0a Try.underlying33 ti33 (pl := [(0, 1), (1, 1), (2, 1), (3, 1), (4, 1), (5, 1)]) (vs := []) (cs := #[.int .i64 (0 : Int), .slice none 0 0, .slice none 0 0, .slice none 0 0, .slice none 0 0, .slice none 0 0]) (by kernel_rfl) rfl (by kernel_rfl)) ?_
  refine sba 6 hO fun D5 s hO => ?_
  refine au ?_
  refine Go1.retC2 Try.func19 rfl rfl (rlb 6 hO) ⟨((⟨(0 : Int), ([] : List (List Int)), ([] : List Str), ([] : List Int), ([] : List Bool), ([] : List Bool)⟩ : Syntactic)), _, _, _, _, _, _, _, _, _, _, _, ?_, frs, (ISl.null _ _ _), (ISl.null _ _ _), (ISl.null _ _ _), (ISl.null _ _ _), (ISl.null _ _ _), H⟩
  exact rfl
 refine au ?_
 refine zo (J0a Try.underlying33 ti33 (pl := [(0, 1), (1, 1), (2, 1), (3, 1), (4, 1), (5, 1)]) (vs := []) (cs := #[.int .i64 (0 : Int), .slice none 0 0, .slice none 0 0, .slice none 0 0, .slice none 0 0, .slice none 0 0]) (by kernel_rfl) rfl (by kernel_rfl)) ?_
 refine sba 0 hO fun D6 s hO => ?_
 refine au ?_
 refine Go1.retC2 Try.func19 rfl rfl (rlb 0 hO) ⟨((⟨(0 : Int), ([] : List (List Int)), ([] : List Str), ([] : List Int), ([] : List Bool), ([] : List Bool)⟩ : Syntactic)), _, _, _, _, _, _, _, _, _, _, _, ?_, frs, (ISl.null _ _ _), (ISl.null _ _ _), (ISl.null _ _ _), (ISl.null _ _ _), (ISl.null _ _ _), H⟩
 exact rfl
theorem body48 : Body Try.prog 48 := ⟨Try.f48, Try.func48, rfl, by kernel_rfl⟩
theorem J4w {A : List Nat} {w0 : World} {p_a p_b : Option Addr} {c_a c_b : Nat} {a b : List Str} (hA : ∀ b ∈ A, b < w0.heap.size) (h_a : ISl (Rp.str) A w0 p_a c_a a) (h_b : ISl (Rp.str) A w0 p_b c_b b) {K : Bool → Prop} (H : J2t a b K) :
    CallsV Try.prog 48 #[.slice p_a a.length c_a, .slice p_b b.length c_b] w0 (fun v w' => ∃ (r0 : Bool), v = .bool r0 ∧ Same w0 w' ∧ K r0) := by
 refine CallsV.of (l := [.slice p_a a.length c_a, .slice p_b b.length c_b]) Try.func48 rfl Try.ntmps48 rfl ?_
 have hO := Owns.start hA
 have hB := Fr.refl (bl []) w0
 unfold J2t at H
 refine sln0 ?_
 refine sln0 ?_
 refine scm ((H h_a.bd) h_b.bd) (fun h1 H => ?_) fun h1 H => ?_
 ·refine sln0 ?_
  refine au ?_
  refine lw H (fun k1_3 σ w => (fun Z => agrees σ [(0, .slice p_a a.length c_a), (1, .slice p_b b.length c_b), (12, .int .i64 (a.length : Int)), (13, .int .i64 (k1_3 : Int))] ∧ Owns w0.heap.size w Z A ∧ Fr (bl []) w0 (bl Z) w) []) ⟨agr, hO, fr⟩ ?_
  refine fun X1 => fun k1_3 => fun H hX1 σ w2 => d2 fun hag hO hB => ?_
  refine Go1.keep _ hag ?_
  refine scm H (fun h4 H => ?_) fun h4 H => ?_
  ·refine au ?_
   refine drw 0 [(0, .pure), (1, .pure), (2, .pure), (3, .stable), (4, .pure), (5, .pure), (6, .pure), (7, .stable), (8, .pure)] hO fun w5 s hO => ?_
   refine sxl hO h_a.u H.1 H.2.1 ?_
   have hle6 := ISl.J2D h_a H.1 H.2.1
   refine sxl hO h_b.u H.2.2.1 H.2.2.2.1 ?_
   have hle7 := ISl.J2D h_b H.2.2.1 H.2.2.2.1
   have h8 := H.1
   have h9 := H.2.1
   have h10 := H.2.2.1
   have h11 := H.2.2.2.1
   refine scm H.2.2.2.2 (fun h12 H => ?_) fun h12 H => ?_
   ·refine sinc (natbd h4 h_a.bd) ?_
    refine au ?_
    exact hX1 _ H _ _ ⟨agr, hO, fr⟩
   refine au ?_
   refine Go1.ret1 Try.func48 rfl ⟨_, ?_, frs, H⟩
   exact rfl
  refine au ?_
  refine Go1.ret1 Try.func48 rfl ⟨_, ?_, frs, H⟩
  exact rfl
 refine au ?_
 refine Go1.ret1 Try.func48 rfl ⟨_, ?_, frs, H⟩
 exact rfl
theorem body18 : Body Try.prog 18 := ⟨Try.f18, Try.func18, rfl, by kernel_rfl⟩
theorem J0g {A : List Nat} {w0 : World} (hA : ∀ b ∈ A, b < w0.heap.size) {K : Bool → Prop} (H : law21_awake  K) :
    CallsV Try.prog 18 #[] w0 (fun v w' => ∃ (r0 : Bool), v = .bool r0 ∧ Same w0 w' ∧ K r0) := by
 refine CallsV.of (l := []) Try.func18 rfl Try.ntmps18 rfl ?_
 have hO := Owns.start hA
 have hB := Fr.refl (bl []) w0
 unfold law21_awake at H
 refine au ?_
 refine zcr (J00 body60 rfl (J5f hO.lt H)) fun _ w2 => e4 fun r1 ut uu uM => e1 fun uN => sc0 hO fun s hO => d2 fun jY km H => ?_
 refine zcr (J00 body19 rfl (J1u hO.lt jY km H)) fun _ w5 => e4 fun r3 r4 uv uw => e4 fun gQ gR qW qX => e4 fun qY q8 uO uP => sc0 hO fun s hO => d1 fun ux => d4 fun j8 q9 dK uQ H => ?_
 refine sal hO fun w6 B7 s hO => ?_
 refine sba 0 hO fun w9 s hO => ?_
 refine scm H (fun h10 H => ?_) fun h10 H => ?_
 ·refine sbu Fl.str 9 [(([] : Str)), (([97] : Str)), (([98] : Str)), (([97, 97] : Str)), (([97, 98] : Str)), (([98, 97] : Str))] hO (fun w11 p12 s hO => ?_) (hE := fun _ _ => (Els.cons rfl ⟨rfl, (by decide)⟩ (Els.cons rfl ⟨rfl, (by decide)⟩ (Els.cons rfl ⟨rfl, (by decide)⟩ (Els.cons rfl ⟨rfl, (by decide)⟩ (Els.cons rfl ⟨rfl, (by decide)⟩ (Els.cons rfl ⟨rfl, (by decide)⟩ (Els.nil _ _ _) (by simp [mx])) (by simp [mx])) (by simp [mx])) (by simp [mx])) (by simp [mx])) (by simp [mx])))
  have xw := t1lend 0 hO
  have iR := t1n 0 hO
  have hOc16 := hO.drop 0
  refine zcr (J00 body48 (show ([.slice gQ r3.Words.length gR, .slice p12 6 6] : List Value) = [.slice gQ r3.Words.length gR, .slice p12 ([(([] : Str)), (([97] : Str)), (([98] : Str)), (([97, 97] : Str)), (([97, 98] : Str)), (([98, 97] : Str))]).length 6] from by rw [← iR]) (J4w hOc16.lt (j8.u.ch (Owns.J4R _ _ 0)) xw H)) fun _ w18 => e1 fun r17 => sc0 hO fun s hO => fun H => ?_
  refine au ?_
  cases r17
  ·refine au ?_
   refine Go1.ret1 Try.func18 rfl ⟨_, ?_, frs, (iF H)⟩
   exact rfl
  refine sln0 ?_
  refine scm ((iT H) dK.bd) (fun h19 H => ?_) fun h19 H => ?_
  ·refine six dK H.1 H.2.1 ?_
   have h20 := H.1
   have h21 := H.2.1
   refine sbd hO dK.u H.1 H.2.1 H.2.2 (fun h22 H => ?_) fun h22 H => ?_
   ·refine six dK H.1 H.2.1 ?_
    have h23 := H.1
    have h24 := H.2.1
    refine sbd hO dK.u H.1 H.2.1 H.2.2 (fun h25 H => ?_) fun h25 H => ?_
    ·refine au ?_
     refine Go1.ret1 Try.func18 rfl ⟨_, ?_, frs, H⟩
     exact rfl
    refine au ?_
    refine Go1.ret1 Try.func18 rfl ⟨_, ?_, frs, H⟩
    exact rfl
   refine au ?_
   refine Go1.ret1 Try.func18 rfl ⟨_, ?_, frs, H⟩
   exact rfl
  refine au ?_
  refine Go1.ret1 Try.func18 rfl ⟨_, ?_, frs, H⟩
  exact rfl
 refine au ?_
 refine Go1.ret1 Try.func18 rfl ⟨_, ?_, frs, H⟩
 exact rfl
end Sg
