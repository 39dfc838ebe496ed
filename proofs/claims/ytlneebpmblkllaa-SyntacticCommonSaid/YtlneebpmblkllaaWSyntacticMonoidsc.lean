/- -/
import Derived.Test.YtlneebpmblkllaaVd
import Derived.Test.YtlneebpmblkllaaWSyntacticMonoids
import Derived.Test.YtlneebpmblkllaaWSyntacticMonoidsb
namespace Sg
open Go Go.RowKit Go.Proofs
set_option linter.unusedVariables false
set_option linter.unusedSimpArgs false
set_option maxRecDepth 100000
set_option maxHeartbeats 4000000
theorem body63 : Body Try.prog 63 := ⟨Try.f63, Try.func63, rfl, by kernel_rfl⟩
theorem body62 : Body Try.prog 62 := ⟨Try.f62, Try.func62, rfl, by kernel_rfl⟩
theorem body19 : Body Try.prog 19 := ⟨Try.f19, Try.func19, rfl, by kernel_rfl⟩
theorem J0Z {A : List Nat} {w0 : World} {ad af : Option Addr} {ae ag : Nat} {d : DFA} (hA : ∀ b ∈ A, b < w0.heap.size) (aM : ISl (Rp.bool) A w0 ad ae d.Final) (b9 : ISl (Rp.sl (Rp.int .i64)) A w0 af ag d.Next) {K : Syntactic → Int → Prop} (H : J0z d K) :
    CallsV Try.prog 19 #[.agg #[.int .i64 d.Letters, .int .i64 d.Start, .slice ad d.Final.length ae, .slice af d.Next.length ag]] w0 (fun v w' => ∃ (r0 : Syntactic) (r1 : Int) (fP : Option Addr) (fQ : Nat) (fR : Option Addr) (fS : Nat) (fB : Option Addr) (fC : Nat) (fD : Option Addr) (fE : Nat) (gy : Option Addr) (gz : Nat), v = .tuple #[.agg #[.int .i64 r0.Letters, .slice fP r0.Table.length fQ, .slice fR r0.Words.length fS, .slice fB r0.Images.length fC, .slice fD r0.Accept.length fE, .slice gy r0.Plus.length gz], .int .i64 r1] ∧ Same w0 w' ∧ ISl (Rp.sl (Rp.int .i64)) A w' fP fQ r0.Table ∧ ISl (Rp.str) A w' fR fS r0.Words ∧ ISl (Rp.int .i64) A w' fB fC r0.Images ∧ ISl (Rp.bool) A w' fD fE r0.Accept ∧ ISl (Rp.bool) A w' gy gz r0.Plus ∧ K r0 r1) := by
 refine CallsV.of (l := [.agg #[.int .i64 d.Letters, .int .i64 d.Start, .slice ad d.Final.length ae, .slice af d.Next.length ag]]) Try.func19 rfl Try.ntmps19 rfl ?_
 have hO := Owns.start hA
 have hB := Fr.refl (bl []) w0
 unfold J0z at H
 refine sbx hO fun w1 B2 s hO => ?_
 refine sal hO fun w4 B5 s hO => ?_
 refine sag 1 hO ?_
 refine zcr (J00 body61 rfl (J0s hO.lt aM.u b9.u H)) fun _ w8 => e1 fun r7 => sc0 hO fun s hO => fun H => ?_
 refine scm H (fun h9 H => ?_) fun h9 H => ?_
 ·refine sal hO fun w10 B11 s hO => ?_
  refine sag 2 hO ?_
  refine zcr (J00 body22 rfl (J1P hO.lt aM.u b9.u H)) fun _ w14 => e4 fun r13 ci cj dn => e1 fun dp => sc0 hO fun s hO => d2 fun cQ dP H => ?_
  refine GoR.inl (vs := [.pointer (some ⟨B11, 0, none⟩), .agg #[.int .i64 r13.Letters, .int .i64 r13.Start, .slice ci r13.Final.length cj, .slice dn r13.Next.length dp]]) (caps := []) rfl rfl body62 Try.func62 rfl Try.ntmps62 rfl rfl rfl ?_
  intro RhR15 hR15
  refine sbx hO fun w16 B17 s hO => ?_
  refine sln0 ?_
  refine au ?_
  replace H := (H cQ.bd)
  obtain ⟨h19, H⟩ := H
  refine zo (J0i rfl rfl (wrap_i64 h19)) ?_
  refine scm H (fun h20 H => ?_) fun h20 H => ?_
  ·refine au ?_
   refine Go1.ret1V Try.func62 rfl (show _ = .int .i64 (3 : Int) from rfl) ?_
   refine hR15 _ _ ?_
   refine au ?_
   refine zo (fun w => opB (J2W rfl rfl w) (ndF (by decide))) ?_
   refine au ?_
   refine zo (J06 Try.underlying33 ti33 (pl := [(0, 1), (1, 1), (2, 1), (3, 1), (4, 1), (5, 1)]) (vs := []) (cs := #[.int .i64 (0 : Int), .slice none 0 0, .slice none 0 0, .slice none 0 0, .slice none 0 0, .slice none 0 0]) (by kernel_rfl) rfl (by kernel_rfl)) ?_
   refine sba 2 hO fun w21 s hO => ?_
   refine au ?_
   refine Go1.retC2 Try.func19 rfl rfl (rlb 2 hO) ⟨((⟨(0 : Int), ([] : List (List Int)), ([] : List Str), ([] : List Int), ([] : List Bool), ([] : List Bool)⟩ : Syntactic)), _, _, _, _, _, _, _, _, _, _, _, ?_, frs, (ISl.null _ _ _), (ISl.null _ _ _), (ISl.null _ _ _), (ISl.null _ _ _), (ISl.null _ _ _), H⟩
   exact rfl
  refine au ?_
  refine zo (fun w => opB (J1b Try.underlying23 rfl rfl w) rfl) ?_
  refine au ?_
  obtain ⟨h29, H⟩ := H
  obtain ⟨h30, H⟩ := H
  have zz := t2makeS (m := r13.Letters) (e' := 3) Fl.i Try.underlying23 ti31 hO h29 h30 (by decide)
  obtain ⟨w22, p23, Bz, Nw, BA, hz32⟩ := zz
  refine zg (BA rfl rfl) ?_
  refine nst Bz fun s hO => ?_
  refine sbs 2 hO fun w33 s hO => ?_
  refine au ?_
  refine zo (J0E Try.underlying23 rfl (t2neq 0 hO rfl)) ?_
  refine au ?_
  refine sdr [4] hO fun s hO => ?_
  refine lw H (fun (dq, fw) σ w => ∃ o9, (fun Z => agrees σ [(0, .pointer (some ⟨B11, 0, none⟩)), (3, .pointer (some ⟨B17, 0, none⟩)), (5, .int .i64 (r13.Final.length : Int)), (33, .int .i64 ((List.replicate r13.Letters.toNat ([] : List Int)).length : Int)), (34, .int .i64 (dq : Int))] ∧ Owns w0.heap.size w Z A ∧ ISl (Rp.bool) (bl Z ++ A) w ci cj r13.Final ∧ ISl (Rp.sl (Rp.int .i64)) (bl Z ++ A) w dn dp r13.Next ∧ Fr (bl []) w0 (bl Z) w) [t2 Fl.i 31 3 p23 r13.Letters.toNat r13.Letters.toNat o9 fw, .blk B17 (.cells #[.int .i64 r13.Letters, .int .i64 r13.Start, .slice ci r13.Final.length cj, .slice dn r13.Next.length dp] 25 (0, 0)), .blk B11 (.cells #[.slice p23 r13.Letters.toNat r13.Letters.toNat, .slice none 0 0, .int .i64 (0 : Int)] 83 (0, 0)), .blk B5 (.cells #[.int .i64 (0 : Int), .slice none 0 0, .slice none 0 0, .slice none 0 0, .slice none 0 0, .slice none 0 0] 33 (0, 0))]) ⟨_, agr, hO, cQ.u, dP.u, fr⟩ ?_
  refine fun X1 => p1 fun dq fw => fun H hX1 σ w34 => e1 fun o9 => d4 fun hag hO cQ dP hB => ?_
  dsimp only at H
  refine Go1.keep _ hag ?_
  revert hO; repeat (rename Owns _ _ _ _ => q; clear q)
  intro hO; repeat (rename Sq _ _ _ _ _ _ => q; clear q)
  refine scm H (fun h38 H => ?_) fun h38 H => ?_
  ·refine au ?_
   refine lw H (fun (k2_40, d_41) σ w => ∃ gW, (fun Z => agrees σ [(0, .pointer (some ⟨B11, 0, none⟩)), (3, .pointer (some ⟨B17, 0, none⟩)), (5, .int .i64 (r13.Final.length : Int)), (6, .int .i64 (dq : Int)), (33, .int .i64 ((List.replicate r13.Letters.toNat ([] : List Int)).length : Int)), (34, .int .i64 (dq : Int)), (37, .int .i64 (r13.Final.length : Int)), (38, .int .i64 (k2_40 : Int))] ∧ Owns w0.heap.size w Z A ∧ ISl (Rp.bool) (bl Z ++ A) w ci cj r13.Final ∧ ISl (Rp.sl (Rp.int .i64)) (bl Z ++ A) w dn dp r13.Next ∧ Fr (bl []) w0 (bl Z) w) [t2 Fl.i 31 3 p23 r13.Letters.toNat r13.Letters.toNat gW d_41, .blk B17 (.cells #[.int .i64 r13.Letters, .int .i64 r13.Start, .slice ci r13.Final.length cj, .slice dn r13.Next.length dp] 25 (0, 0)), .blk B11 (.cells #[.slice p23 r13.Letters.toNat r13.Letters.toNat, .slice none 0 0, .int .i64 (0 : Int)] 83 (0, 0)), .blk B5 (.cells #[.int .i64 (0 : Int), .slice none 0 0, .slice none 0 0, .slice none 0 0, .slice none 0 0, .slice none 0 0] 33 (0, 0))]) ⟨_, agr, hO, cQ, dP, fr⟩ ?_
   refine fun X2 => p1 fun k2_40 d_41 => fun H hX2 σ w39 => e1 fun gW => d4 fun hag hO cQ dP hB => ?_
   dsimp only at H
   refine Go1.keep _ hag ?_
   revert hO; repeat (rename Owns _ _ _ _ => q; clear q)
   intro hO; repeat (rename Sq _ _ _ _ _ _ => q; clear q)
   refine scm H (fun h43 H => ?_) fun h43 H => ?_
   ·refine au ?_
    refine Go1.drawT (ok := fun _ => True) Same.tr [26, 28] 29 (.qp 0 (.qp 1 (.qp 2 (.qp 4 (.qp 5 (.qp 6 (.qp 7 (.qs 8 (.qp 9 (.qp 10 (.qs 11 (.qp 12 (.qp 13 (.qp 14 (.qs 15 (.qp 16 (.qs 17 (.qp 18 (.qp 19 (.qs 20 (.qp 21 (.qp 22 (.qs 23 (.qp 24 (.alt 3 (.alt 25 (.alt 26 (.qp 27 (.alt 28 .nil .fin)) .fin) .fin) (.alt 25 (.alt 3 (.alt 26 (.qp 27 (.alt 28 .nil .fin)) .fin) (.alt 26 (.alt 3 (.qp 27 (.alt 28 .nil .fin)) .fin) .fin)) .fin)))))))))))))))))))))))))) mixed (by kernel_rfl) ?_
    intro w44 F0
    refine sm hO F0 fun s hO => ?_
    refine sbl 2 ?_
    refine au ?_
    obtain ⟨h46, H⟩ := H
    obtain ⟨h47, H⟩ := H
    refine GoT.pure rfl (J01 Try.underlying23 ti31 rfl rfl h46 (ltn (t2neq 0 hO rfl) h47) (t2some 0 hO rfl h46 h47)) rfl rfl ?_
    refine GoT.stable rfl (t2head 0 hO rfl h46 h47 Try.underlying31 rfl rfl) rfl rfl ?_
    refine sbl 2 ?_
    refine sbl 1 ?_
    refine sxls hO dP.u H.1 H.2.1 fun p48 c49 iU => ?_
    refine sxl hO iU.u H.2.2.1 H.2.2.2.1 ?_
    have h51 := H.1
    have h52 := H.2.1
    have h53 := H.2.2.1
    have h54 := H.2.2.2.1
    replace H := H.2.2.2.2
    obtain ⟨h55, H⟩ := H
    refine GoT.pure rfl (J0i rfl rfl (wrap_i64 h55)) rfl rfl ?_
    refine GoT.both ?_ ?_
    ·skip
     skip
     refine sbl 2 ?_
     skip
     refine sbu Fl.i 3 [((0 : Int) + (ix (ix r13.Next (k2_40 : Int)) (dq : Int)))] hO fun w56 p57 s hO => ?_
     skip
     refine sfr 1 hO fun s hO => ?_
     have zz := t2take (hf := Fl.i) hO h46 h47
     obtain ⟨F1, mW, pg⟩ := zz
     refine nst mW fun s hO => ?_
     have F2 := pg (bl [.row 3 1 (gW (dq : Int).toNat).1 ((ix d_41 (dq : Int)).length) ((gW (dq : Int).toNat).2) F1, t2h Fl.i 31 3 p23 r13.Letters.toNat r13.Letters.toNat gW d_41 (dq : Int).toNat, t1 Fl.i 3 p57 1 1 [((0 : Int) + (ix (ix r13.Next (k2_40 : Int)) (dq : Int)))], .blk B17 (.cells #[.int .i64 r13.Letters, .int .i64 r13.Start, .slice ci r13.Final.length cj, .slice dn r13.Next.length dp] 25 (0, 0)), .blk B11 (.cells #[.slice p23 r13.Letters.toNat r13.Letters.toNat, .slice none 0 0, .int .i64 (0 : Int)] 83 (0, 0)), .blk B5 (.cells #[.int .i64 (0 : Int), .slice none 0 0, .slice none 0 0, .slice none 0 0, .slice none 0 0, .slice none 0 0] 33 (0, 0))] ++ A)
     refine sfz 2 hO fun s hO F3 F4 => ?_
     obtain ⟨h66, H⟩ := H
     have zz := oapp Try.underlying31 ti3 rfl 0 hO rfl F2.u F3 F4 h66 (by decide)
     obtain ⟨w67, p68, c69, Ny, BB, wD, BC⟩ := zz
     dsimp only [sS, sZ] at wD
     refine GoT.stepX rfl (BC (by exact rfl) (by exact rfl)) rfl rfl rfl ?_
     refine nst BB fun s hO => ?_
     obtain ⟨h75, H⟩ := H
     obtain ⟨h76, H⟩ := H
     refine GoT.pure rfl (J01 Try.underlying23 ti31 rfl rfl h75 (ltn (t2neqH 1 hO rfl) h76) (t2someH 1 hO rfl h75 h76)) rfl rfl ?_
     skip
     refine sfr 1 hO fun s hO => ?_
     refine sfr 1 hO fun s hO => ?_
     have zz := t2fix (hf := Fl.i) hO wD.u h75 h76 rfl
     obtain ⟨w77, mT, mU⟩ := zz
     refine GoT.stepX rfl (mU Try.underlying31 rfl ti31 (by exact rfl) (by exact rfl)) rfl rfl rfl ?_
     refine nst mT fun s hO => ?_
     refine sinc (natbd h43 cQ.bd) ?_
     refine au ?_
     exact hX2 _ H _ _ ⟨_, agr, hO, cQ.u, dP.u, fr⟩
    skip
    refine sbu Fl.i 3 [((0 : Int) + (ix (ix r13.Next (k2_40 : Int)) (dq : Int)))] hO fun w80 p81 s hO => ?_
    refine GoT.both ?_ ?_
    ·skip
     skip
     refine sbl 3 ?_
     skip
     refine sfr 1 hO fun s hO => ?_
     have zz := t2take (hf := Fl.i) hO h46 h47
     obtain ⟨F5, BD, F6⟩ := zz
     refine nst BD fun s hO => ?_
     have F7 := F6 (bl [.row 3 1 (gW (dq : Int).toNat).1 ((ix d_41 (dq : Int)).length) ((gW (dq : Int).toNat).2) F5, t2h Fl.i 31 3 p23 r13.Letters.toNat r13.Letters.toNat gW d_41 (dq : Int).toNat, t1 Fl.i 3 p81 1 1 [((0 : Int) + (ix (ix r13.Next (k2_40 : Int)) (dq : Int)))], .blk B17 (.cells #[.int .i64 r13.Letters, .int .i64 r13.Start, .slice ci r13.Final.length cj, .slice dn r13.Next.length dp] 25 (0, 0)), .blk B11 (.cells #[.slice p23 r13.Letters.toNat r13.Letters.toNat, .slice none 0 0, .int .i64 (0 : Int)] 83 (0, 0)), .blk B5 (.cells #[.int .i64 (0 : Int), .slice none 0 0, .slice none 0 0, .slice none 0 0, .slice none 0 0, .slice none 0 0] 33 (0, 0))] ++ A)
     refine sfz 2 hO fun s hO F8 F9 => ?_
     obtain ⟨h90, H⟩ := H
     have zz := oapp Try.underlying31 ti3 rfl 0 hO rfl F7.u F8 F9 h90 (by decide)
     obtain ⟨w91, p92, c93, Nz, BE, wE, BG⟩ := zz
     dsimp only [sS, sZ] at wE
     refine GoT.stepX rfl (BG (by exact rfl) (by exact rfl)) rfl rfl rfl ?_
     refine nst BE fun s hO => ?_
     obtain ⟨h99, H⟩ := H
     obtain ⟨j9, H⟩ := H
     refine GoT.pure rfl (J01 Try.underlying23 ti31 rfl rfl h99 (ltn (t2neqH 1 hO rfl) j9) (t2someH 1 hO rfl h99 j9)) rfl rfl ?_
     skip
     refine sfr 1 hO fun s hO => ?_
     refine sfr 1 hO fun s hO => ?_
     have zz := t2fix (hf := Fl.i) hO wE.u h99 j9 rfl
     obtain ⟨tw, wF, wG⟩ := zz
     refine GoT.stepX rfl (wG Try.underlying31 rfl ti31 (by exact rfl) (by exact rfl)) rfl rfl rfl ?_
     refine nst wF fun s hO => ?_
     refine sinc (natbd h43 cQ.bd) ?_
     refine au ?_
     exact hX2 _ H _ _ ⟨_, agr, hO, cQ.u, dP.u, fr⟩
    skip
    refine sfr 1 hO fun s hO => ?_
    have zz := t2take (hf := Fl.i) hO h46 h47
    obtain ⟨BH, wH, BJ⟩ := zz
    refine nst wH fun s hO => ?_
    have BK := BJ (bl [.row 3 1 (gW (dq : Int).toNat).1 ((ix d_41 (dq : Int)).length) ((gW (dq : Int).toNat).2) BH, t2h Fl.i 31 3 p23 r13.Letters.toNat r13.Letters.toNat gW d_41 (dq : Int).toNat, t1 Fl.i 3 p81 1 1 [((0 : Int) + (ix (ix r13.Next (k2_40 : Int)) (dq : Int)))], .blk B17 (.cells #[.int .i64 r13.Letters, .int .i64 r13.Start, .slice ci r13.Final.length cj, .slice dn r13.Next.length dp] 25 (0, 0)), .blk B11 (.cells #[.slice p23 r13.Letters.toNat r13.Letters.toNat, .slice none 0 0, .int .i64 (0 : Int)] 83 (0, 0)), .blk B5 (.cells #[.int .i64 (0 : Int), .slice none 0 0, .slice none 0 0, .slice none 0 0, .slice none 0 0, .slice none 0 0] 33 (0, 0))] ++ A)
    refine sfz 2 hO fun s hO BL BM => ?_
    obtain ⟨lI, H⟩ := H
    have zz := oapp Try.underlying31 ti3 rfl 0 hO rfl BK.u BL BM lI (by decide)
    obtain ⟨C7, NA, NB, HE, wI, sK, wJ⟩ := zz
    dsimp only [sS, sZ] at sK
    refine GoT.stepX rfl (wJ (by exact rfl) (by exact rfl)) rfl rfl rfl ?_
    refine nst wI fun s hO => ?_
    skip
    refine sbl 3 ?_
    obtain ⟨qM, H⟩ := H
    obtain ⟨nf, H⟩ := H
    refine GoT.pure rfl (J01 Try.underlying23 ti31 rfl rfl qM (ltn (t2neqH 1 hO rfl) nf) (t2someH 1 hO rfl qM nf)) rfl rfl ?_
    skip
    refine sfr 1 hO fun s hO => ?_
    refine sfr 1 hO fun s hO => ?_
    have zz := t2fix (hf := Fl.i) hO sK.u qM nf rfl
    obtain ⟨NC, wK, lK⟩ := zz
    refine GoT.stepX rfl (lK Try.underlying31 rfl ti31 (by exact rfl) (by exact rfl)) rfl rfl rfl ?_
    refine nst wK fun s hO => ?_
    refine sinc (natbd h43 cQ.bd) ?_
    refine au ?_
    exact hX2 _ H _ _ ⟨_, agr, hO, cQ.u, dP.u, fr⟩
   refine au ?_
   obtain ⟨om, H⟩ := H
   refine zo (J0i rfl rfl (wrap_i64 om)) ?_
   refine au ?_
   exact hX1 _ H _ _ ⟨_, agr, hO, cQ.u, dP.u, fr⟩
  refine au ?_
  refine drw 4 [(0, .pure), (1, .pure), (2, .pure), (3, .pure), (4, .stable), (5, .pure), (6, .pure), (7, .pure), (8, .stable), (9, .pure), (10, .stable), (11, .pure), (12, .pure), (13, .stable), (14, .pure), (15, .pure), (16, .pure), (17, .stable), (18, .pure), (19, .loud), (20, .last), (21, .pure), (22, .pure), (23, .last)] hO fun tS s hO => ?_
  refine au ?_
  obtain ⟨Ga, H⟩ := H
  refine GoQ.pure rfl (J0i rfl rfl (wrap_i64 Ga)) rfl rfl ?_
  refine au ?_
  refine GoQ.pure rfl (J06 Try.underlying120 ti120 (pl := [(0, 1), (1, 1), (2, 1)]) (vs := [(0, .int .i64 ((0 : Int) + r13.Start)), (1, .slice ci r13.Final.length cj), (2, .int .i64 (0 : Int))]) (cs := #[.int .i64 ((0 : Int) + r13.Start), .slice ci r13.Final.length cj, .int .i64 (0 : Int)]) (by kernel_rfl) rfl (by kernel_rfl)) rfl rfl ?_
  have zz := obuildN (r := rppart) (n := 1) (parts := [(0, .agg #[.int .i64 ((0 : Int) + r13.Start), .slice ci r13.Final.length cj, .int .i64 (0 : Int)])]) (vs := [.int .i64 ((0 : Int) + r13.Start), .slice ci r13.Final.length cj, .int .i64 (0 : Int)]) (xs := [(⟨((0 : Int) + r13.Start), r13.Final, (0 : Int)⟩ : part)]) Try.underlying81 ti120 hO (by decide) (by decide) (by kernel_rfl) (Els.consR (us := [.int .i64 ((0 : Int) + r13.Start), .slice ci r13.Final.length cj, .int .i64 (0 : Int)]) rfl ⟨rfl, ⟨ci, cj, rfl, cQ.u⟩, rfl⟩ (Els.nil _ _ _) (by simp [mx])) rfl
  obtain ⟨tC, ND, wL, BN, mB, wM⟩ := zz
  refine GoQ.loud rfl (wM rfl) mB rfl rfl ?_
  refine nst wL fun s hO => ?_
  refine sfzR 0 hO BN fun s hO BO m5 => ?_
  have jQ := Stp.nil (e := 120) (r := 3) hO
  refine nst jQ fun s hO => ?_
  have kK := elN (rppart) hO
  obtain ⟨tT, H⟩ := H
  have zz := oapp Try.underlying81 ti120 rfl 0 hO rfl kK BO.u m5 tT (by decide)
  obtain ⟨tG, fx, fy, eY, wN, cX, wO⟩ := zz
  dsimp only [sS, sZ] at cX
  refine GoQ.last rfl (wO (by exact rfl) (by exact rfl)) rfl rfl ?_
  refine nst wN fun s hO => ?_
  refine sbs 3 hO fun FO s hO => ?_
  refine au ?_
  obtain ⟨Gb, H⟩ := H
  refine zo (J0i rfl rfl (wrap_i64 Gb)) ?_
  refine sbs 3 hO fun ET s hO => ?_
  refine au ?_
  refine Go1.ret1V Try.func62 rfl (show _ = .int .i64 (0 : Int) from rfl) ?_
  refine hR15 _ _ ?_
  refine au ?_
  refine zo (fun w => opB (J2W rfl rfl w) (ndT (by decide))) ?_
  refine au ?_
  refine GoR.inl (vs := [.pointer (some ⟨B11, 0, none⟩)]) (caps := []) rfl rfl body63 Try.func63 rfl Try.ntmps63 rfl rfl rfl ?_
  intro RhR152 hR152
  refine sal hO fun n9 B154 s hO => ?_
  refine au ?_
  refine sfz2 2 hO fun s hO dr sL => ?_
  refine zcr (J00 body101 (show ([.slice p23 r13.Letters.toNat r13.Letters.toNat, .bool true] : List Value) = [.slice p23 fw.length r13.Letters.toNat, .bool true] from by rw [← sL]) (J26 hO.lt dr H)) fun _ EV => e4 fun r158 r159 cM cN => e4 fun ca cb bX bY => e4 fun cO cP bE bF => e2 fun cx cy => sc0 hO fun s hO => d1 fun ba => d1 fun ak => d4 fun am aJ ah aL H => ?_
  refine sal hO fun NE B162 s hO => ?_
  refine sba 0 hO fun tX s hO => ?_
  refine scm H (fun wP H => ?_) fun wP H => ?_
  ·refine sln0 ?_
   refine scm (H ak.bd) (fun o8 H => ?_) fun o8 H => ?_
   ·refine au ?_
    refine zo (J06 Try.underlying33 ti33 (pl := [(0, 1), (1, 1), (2, 1), (3, 1), (4, 1), (5, 1)]) (vs := []) (cs := #[.int .i64 (0 : Int), .slice none 0 0, .slice none 0 0, .slice none 0 0, .slice none 0 0, .slice none 0 0]) (by kernel_rfl) rfl (by kernel_rfl)) ?_
    refine sba 1 hO fun oo s hO => ?_
    refine au ?_
    refine Go1.retC3V Try.func63 rfl rfl (rlb 1 hO) (show _ = .slice none 0 0 from rfl) (show _ = .int .i64 (3 : Int) from rfl) ?_
    refine hR152 _ _ ?_
    refine sal hO fun oc B169 s hO => ?_
    refine sba 0 hO fun vA s hO => ?_
    refine au ?_
    refine zo (fun w => opB (J2W rfl rfl w) (ndF (by decide))) ?_
    refine au ?_
    refine zo (J06 Try.underlying33 ti33 (pl := [(0, 1), (1, 1), (2, 1), (3, 1), (4, 1), (5, 1)]) (vs := []) (cs := #[.int .i64 (0 : Int), .slice none 0 0, .slice none 0 0, .slice none 0 0, .slice none 0 0, .slice none 0 0]) (by kernel_rfl) rfl (by kernel_rfl)) ?_
    refine sba 6 hO fun vM s hO => ?_
    refine au ?_
    refine Go1.retC2 Try.func19 rfl rfl (rlb 6 hO) ⟨((⟨(0 : Int), ([] : List (List Int)), ([] : List Str), ([] : List Int), ([] : List Bool), ([] : List Bool)⟩ : Syntactic)), _, _, _, _, _, _, _, _, _, _, _, ?_, frs, (ISl.null _ _ _), (ISl.null _ _ _), (ISl.null _ _ _), (ISl.null _ _ _), (ISl.null _ _ _), H⟩
    exact rfl
   refine au ?_
   refine drA Same.tr 1 [(0, .pure), (1, .pure), (2, .pure), (3, .stable), (4, .pure), (5, .pure), (7, .pure), (9, .pure), (10, .stable), (11, .pure), (12, .stable), (14, .pure), (13, .loud), (6, .alloc), (8, .alloc), (15, .alloc), (16, .pure), (17, .alloc), (18, .last)] hO fun tJ s hO => ?_
   have kM := hO.le
   have hw175 := (fr : Fr (bl []) w0 _ tJ).ch.size
   refine au ?_
   refine au ?_
   refine au ?_
   refine sbl 4 ?_
   refine slnN sL ?_
   refine au ?_
   refine au ?_
   refine au ?_
   refine sbl 0 ?_
   refine sxls hO ah.u (H dr.bd).1 (H dr.bd).2.1 fun NF NG BP => ?_
   refine au ?_
   refine GoQA.loudI rfl rfl fun tL A180 BQ => ?_
   refine sgw BQ hO fun s hO => ?_
   have NH := (H dr.bd).1
   have mD := (H dr.bd).2.1
   refine GoAt.call (J00 body86 rfl (J0j hO.lt BP.u (H dr.bd).2.2)) (fun _ _ hr => ⟨fun _ => saq hr, Same.kp hO (saq hr)⟩) rfl fun _ E3 => e4 fun r182 dK dG dH => sA1 hO fun s hO => fun H => ?_
   obtain ⟨jl, H⟩ := H
   obtain ⟨og, H⟩ := H
   refine GoQA.alloc rfl rfl (alMake2 (e' := 3) Fl.i Try.underlying23 ti31 jl og (by decide) rfl rfl) ?_
   intro Gc A190 eU A192 BR BS hd195 hnb196 hh197
   refine sgw BR hO fun s hO => ?_
   refine sgn (e := t2 Fl.i 31 3 (some ⟨eU, 0, none⟩) r158.Elems.length r158.Elems.length ((fun _ => (none, 0))) (List.replicate r158.Elems.length ([] : List Int))) BS hO kM hw175 hnb196 (J5a eU) hh197 hd195 (fr : Fr (bl []) w0 _ Gc) fun s hO hB => ?_
   obtain ⟨Gd, H⟩ := H
   obtain ⟨Ge, H⟩ := H
   have zz := alMakeE (n := (r158.Elems.length : Int)) (r := Rp.str) (d := ([] : Str)) Try.underlying30 ti9 (fun _ _ => ⟨rfl, Nat.zero_le _⟩) rfl Gd Ge (by decide)
   obtain ⟨BT, hal214, BU⟩ := zz
   refine GoQA.alloc rfl rfl (hal214 rfl rfl) ?_
   intro oh A202 fk A204 BV BW hd207 hnb208 hh209
   refine sgw BV hO fun s hO => ?_
   have ng := BU (bl [t2 Fl.i 31 3 (some ⟨eU, 0, none⟩) r158.Elems.length r158.Elems.length ((fun _ => (none, 0))) (List.replicate r158.Elems.length ([] : List Int)), t1 Fl.i 3 dG dK dH r182, .blk B162 (.cells #[.int .i64 r158.Points, .bool r158.Monoid, .slice cM r158.Gens.length cN, .slice ca r158.Elems.length cb, .slice bX r158.Prefix.length bY, .slice cO r158.Last.length cP, .slice bE r158.Right.length bF, .slice cx r158.Rules.length cy, .int .i64 r158.Done] 123 (0, 0)), .blk B154 (.cells #[.int .i64 (0 : Int), .slice none 0 0, .slice none 0 0, .slice none 0 0, .slice none 0 0, .slice none 0 0] 33 (0, 0)), .row 120 3 fx (0 + 1) fy eY, .blk B17 (.cells #[.int .i64 r13.Letters, .int .i64 r13.Start, .slice ci r13.Final.length cj, .slice dn r13.Next.length dp] 25 (0, 0)), .blk B11 (.cells #[.slice p23 r13.Letters.toNat r13.Letters.toNat, .slice fx (0 + 1) fy, .int .i64 ((0 : Int) + (r13.Final.length : Int))] 83 (0, 0)), .blk B5 (.cells #[.int .i64 (0 : Int), .slice none 0 0, .slice none 0 0, .slice none 0 0, .slice none 0 0, .slice none 0 0] 33 (0, 0))] ++ A202) oh
   refine sgn (e := .row 9 1 (some ⟨fk, 0, none⟩) r158.Elems.length r158.Elems.length BT) BW hO kM hw175 hnb208 rfl hh209 hd207 (fr : Fr (bl []) w0 _ oh) fun s hO hB => ?_
   replace ng := ng.ch s.ch
   refine cl1 Fl.str 0 hO ng.u fun s hO => ?_
   obtain ⟨Gf, H⟩ := H
   obtain ⟨Gg, H⟩ := H
   have zz := alMakeE (n := (r158.Elems.length : Int)) (r := Rp.bool) (d := false) Try.underlying22 ti4 (fun _ _ => rfl) rfl Gf Gg (by decide)
   obtain ⟨BX, hal230, BY⟩ := zz
   refine GoQA.alloc rfl rfl (hal230 rfl rfl) ?_
   intro pF A218 fA A220 B1 B3 hd223 hnb224 hh225
   refine sgw B1 hO fun s hO => ?_
   have nh := BY (bl [t1 Fl.str 9 (some ⟨fk, 0, none⟩) r158.Elems.length r158.Elems.length (List.replicate r158.Elems.length (([] : Str))), t2 Fl.i 31 3 (some ⟨eU, 0, none⟩) r158.Elems.length r158.Elems.length ((fun _ => (none, 0))) (List.replicate r158.Elems.length ([] : List Int)), t1 Fl.i 3 dG dK dH r182, .blk B162 (.cells #[.int .i64 r158.Points, .bool r158.Monoid, .slice cM r158.Gens.length cN, .slice ca r158.Elems.length cb, .slice bX r158.Prefix.length bY, .slice cO r158.Last.length cP, .slice bE r158.Right.length bF, .slice cx r158.Rules.length cy, .int .i64 r158.Done] 123 (0, 0)), .blk B154 (.cells #[.int .i64 (0 : Int), .slice none 0 0, .slice none 0 0, .slice none 0 0, .slice none 0 0, .slice none 0 0] 33 (0, 0)), .row 120 3 fx (0 + 1) fy eY, .blk B17 (.cells #[.int .i64 r13.Letters, .int .i64 r13.Start, .slice ci r13.Final.length cj, .slice dn r13.Next.length dp] 25 (0, 0)), .blk B11 (.cells #[.slice p23 r13.Letters.toNat r13.Letters.toNat, .slice fx (0 + 1) fy, .int .i64 ((0 : Int) + (r13.Final.length : Int))] 83 (0, 0)), .blk B5 (.cells #[.int .i64 (0 : Int), .slice none 0 0, .slice none 0 0, .slice none 0 0, .slice none 0 0, .slice none 0 0] 33 (0, 0))] ++ A218) pF
   refine sgn (e := .row 4 1 (some ⟨fA, 0, none⟩) r158.Elems.length r158.Elems.length BX) B3 hO kM hw175 hnb224 rfl hh225 hd223 (fr : Fr (bl []) w0 _ pF) fun s hO hB => ?_
   replace nh := nh.ch s.ch
   refine cl1 Fl.bool 0 hO nh.u fun s hO => ?_
   refine GoQA.pure rfl (J06 Try.underlying33 ti33 (pl := [(0, 1), (1, 1), (2, 1), (3, 1), (4, 1), (5, 1)]) (vs := [(0, .int .i64 (fw.length : Int)), (1, .slice (some ⟨eU, 0, none⟩) r158.Elems.length r158.Elems.length), (2, .slice (some ⟨fk, 0, none⟩) r158.Elems.length r158.Elems.length), (3, .slice dG dK dH), (5, .slice (some ⟨fA, 0, none⟩) r158.Elems.length r158.Elems.length)]) (cs := #[.int .i64 (fw.length : Int), .slice (some ⟨eU, 0, none⟩) r158.Elems.length r158.Elems.length, .slice (some ⟨fk, 0, none⟩) r158.Elems.length r158.Elems.length, .slice dG dK dH, .slice none 0 0, .slice (some ⟨fA, 0, none⟩) r158.Elems.length r158.Elems.length]) (by kernel_rfl) rfl (by kernel_rfl)) rfl rfl ?_
   refine GoQA.alloc rfl rfl (alAlloc (cs := #[.int .i64 (0 : Int), .slice none 0 0, .slice none 0 0, .slice none 0 0, .slice none 0 0, .slice none 0 0]) ti33 rfl) ?_
   intro um A234 gk A236 B6 B9 hd239 hnb240 hh241
   refine sgw B6 hO fun s hO => ?_
   refine sgn (e := .blk gk (.cells #[.int .i64 (0 : Int), .slice none 0 0, .slice none 0 0, .slice none 0 0, .slice none 0 0, .slice none 0 0] 33 (0, 0))) B9 hO kM hw175 hnb240 rfl hh241 hd239 (fr : Fr (bl []) w0 _ um) fun s hO hB => ?_
   refine GoQA.lastI rfl rfl fun NI A243 Ca => ?_
   refine sgw Ca hO fun s hO => ?_
   refine sba 0 hO fun NJ s hO => ?_
   refine GoQA.nil fun Gh A247 Cb Cc => ?_
   refine sgw Cb hO fun s hO => ?_
   refine spm Cc hO fun s hO => ?_
   refine au ?_
   have hB := (fr : Fr (bl []) w0 _ Gh)
   replace cX := cX.o hO
   replace ak := ak.o hO
   replace ba := ba.o hO
   replace aJ := aJ.o hO
   replace am := am.o hO
   replace ah := ah.o hO
   replace aL := aL.o hO
   replace dr := dr.o hO
   revert hO; repeat (rename Owns _ _ _ _ => q; clear q)
   intro hO; repeat (rename Sq _ _ _ _ _ _ => q; clear q)
   refine au ?_
   refine sdr [8] hO fun s hO => ?_
   refine lw H (fun (iX, d_252, gI) σ w => (fun Z => agrees σ [(0, .pointer (some ⟨B11, 0, none⟩)), (2, .pointer (some ⟨B154, 0, none⟩)), (5, .pointer (some ⟨B162, 0, none⟩)), (7, .int .i64 (r158.Elems.length : Int)), (8, .pointer (some ⟨gk, 0, none⟩)), (9, .int .i64 (iX : Int))] ∧ Owns w0.heap.size w Z A ∧ Els (rppart) (bl Z ++ A) w eY ((([] : List part)) ++ ([(⟨((0 : Int) + r13.Start), r13.Final, (0 : Int)⟩ : part)])) ∧ ISl (Rp.sl (Rp.int .i64)) (bl Z ++ A) w p23 r13.Letters.toNat fw ∧ ISl (Rp.sl (Rp.int .i64)) (bl Z ++ A) w cM cN r158.Gens ∧ ISl (Rp.sl (Rp.int .i64)) (bl Z ++ A) w ca cb r158.Elems ∧ ISl (Rp.int .i64) (bl Z ++ A) w bX bY r158.Prefix ∧ ISl (Rp.int .i64) (bl Z ++ A) w cO cP r158.Last ∧ ISl (Rp.sl (Rp.int .i64)) (bl Z ++ A) w bE bF r158.Right ∧ ISl (rpRule) (bl Z ++ A) w cx cy r158.Rules ∧ Fr (bl []) w0 (bl Z) w) [.blk gk (.cells #[.int .i64 (fw.length : Int), .slice (some ⟨eU, 0, none⟩) r158.Elems.length r158.Elems.length, .slice (some ⟨fk, 0, none⟩) r158.Elems.length r158.Elems.length, .slice dG dK dH, .slice none 0 0, .slice (some ⟨fA, 0, none⟩) r158.Elems.length r158.Elems.length] 33 (0, 0)), t1 Fl.bool 4 (some ⟨fA, 0, none⟩) r158.Elems.length r158.Elems.length d_252, t1 Fl.str 9 (some ⟨fk, 0, none⟩) r158.Elems.length r158.Elems.length gI, t2 Fl.i 31 3 (some ⟨eU, 0, none⟩) r158.Elems.length r158.Elems.length ((fun _ => (none, 0))) (List.replicate r158.Elems.length ([] : List Int)), t1 Fl.i 3 dG dK dH r182, .blk B162 (.cells #[.int .i64 r158.Points, .bool r158.Monoid, .slice cM r158.Gens.length cN, .slice ca r158.Elems.length cb, .slice bX r158.Prefix.length bY, .slice cO r158.Last.length cP, .slice bE r158.Right.length bF, .slice cx r158.Rules.length cy, .int .i64 r158.Done] 123 (0, 0)), .blk B154 (.cells #[.int .i64 (0 : Int), .slice none 0 0, .slice none 0 0, .slice none 0 0, .slice none 0 0, .slice none 0 0] 33 (0, 0)), .row 120 3 fx (0 + 1) fy eY, .blk B11 (.cells #[.slice p23 r13.Letters.toNat r13.Letters.toNat, .slice fx (0 + 1) fy, .int .i64 ((0 : Int) + (r13.Final.length : Int))] 83 (0, 0)), .blk B5 (.cells #[.int .i64 (0 : Int), .slice none 0 0, .slice none 0 0, .slice none 0 0, .slice none 0 0, .slice none 0 0] 33 (0, 0))]) ⟨agr, hO, cX.u, dr.u, ba.u, ak.u, am.u, aJ.u, ah.u, aL.u, fr⟩ ?_
   refine fun X3 => p2 fun iX d_252 gI => fun H hX3 σ NK => d1 fun hag => d1 fun hO => d1 fun cX => d1 fun dr => d1 fun ba => d1 fun ak => d4 fun am aJ ah aL hB => ?_
   dsimp only at H
   refine Go1.keep _ hag ?_
   revert hO; repeat (rename Owns _ _ _ _ => q; clear q)
   intro hO; repeat (rename Sq _ _ _ _ _ _ => q; clear q)
   refine scm H (fun wQ H => ?_) fun wQ H => ?_
   ·refine au ?_
    refine drw 1 [(0, .pure), (1, .stable), (2, .pure), (3, .pure), (4, .stable), (5, .pure), (6, .stable), (7, .pure), (8, .pure), (9, .stable), (10, .pure), (11, .stable), (12, .pure), (13, .stable), (14, .pure), (15, .pure), (16, .stable), (17, .pure), (18, .pure), (19, .loud), (20, .stable), (21, .pure), (22, .pure), (23, .last)] hO fun NL s hO => ?_
    refine sxl hO am.u H.1 H.2.1 ?_
    refine sxl1 2 hO H.2.2.1 H.2.2.2.1 ?_
    have hle256 := t1le 2 hO H.2.2.1 H.2.2.2.1
    refine sxl hO aJ.u H.2.2.2.2.1 H.2.2.2.2.2.1 ?_
    have kX := H.1
    have NM := H.2.1
    have NN := H.2.2.1
    have jm := H.2.2.2.1
    have jo := H.2.2.2.2.1
    have NO := H.2.2.2.2.2.1
    replace H := H.2.2.2.2.2.2
    obtain ⟨Gi, H⟩ := H
    refine GoQ.pure rfl (J0i rfl rfl (wrap_i64 Gi)) rfl rfl ?_
    refine GoQ.pure rfl (J35 Try.underlying3 Try.underlying5 rfl rfl) rfl rfl ?_
    refine sbu (Fl.int .u8) 5 [(IntKind.u8.wrap ((97 : Int) + (ix r158.Last (iX : Int))))] hO fun NP NQ s hO => ?_
    refine op1 0 hO fun kI s hO g9 => ?_
    have hle269 := J7M g9.bd
    refine GoQ.stable rfl (oldBytes 0 hO rfl g9.u Try.underlying126 Try.underlying5 Try.underlying9 rfl) rfl rfl ?_
    obtain ⟨wR, H⟩ := H
    refine GoQ.pure rfl (J65 rfl rfl wR) rfl rfl ?_
    refine six1 3 hO H.1 H.2.1 ?_
    refine sst (u := ((ix gI (ix r158.Prefix (iX : Int))) ++ (byt ([(IntKind.u8.wrap ((97 : Int) + (ix r158.Last (iX : Int))))])))) 3 hO H.1 H.2.1 (fun NR s hO => ?_) (hR := by exact fun _ _ => ⟨rfl, (lenApp wR)⟩)
    refine six1 2 hO H.2.2.1 H.2.2.2.1 ?_
    refine sst (u := true) 2 hO H.2.2.1 H.2.2.2.1 fun NS s hO => ?_
    refine sinc (natbd wQ ak.bd) ?_
    refine au ?_
    refine cl1 (Fl.int .u8) 0 hO g9.u fun s hO => ?_
    refine sdr [0] hO fun s hO => ?_
    exact hX3 _ H.2.2.2.2 _ _ ⟨agr, hO, cX.u, dr.u, ba.u, ak.u, am.u, aJ.u, ah.u, aL.u, fr⟩
   refine sln0 ?_
   refine au ?_
   refine lw (H ah.bd) (fun (dM, d_275, jR) σ w => ∃ i8, (fun Z => agrees σ [(0, .pointer (some ⟨B11, 0, none⟩)), (2, .pointer (some ⟨B154, 0, none⟩)), (5, .pointer (some ⟨B162, 0, none⟩)), (7, .int .i64 (r158.Elems.length : Int)), (8, .pointer (some ⟨gk, 0, none⟩)), (86, .slice bE r158.Right.length bF), (87, .int .i64 (r158.Right.length : Int)), (88, .int .i64 (dM : Int))] ∧ Owns w0.heap.size w Z A ∧ Els (rppart) (bl Z ++ A) w eY ((([] : List part)) ++ ([(⟨((0 : Int) + r13.Start), r13.Final, (0 : Int)⟩ : part)])) ∧ ISl (Rp.sl (Rp.int .i64)) (bl Z ++ A) w p23 r13.Letters.toNat fw ∧ ISl (Rp.sl (Rp.int .i64)) (bl Z ++ A) w cM cN r158.Gens ∧ ISl (Rp.sl (Rp.int .i64)) (bl Z ++ A) w ca cb r158.Elems ∧ ISl (Rp.int .i64) (bl Z ++ A) w bX bY r158.Prefix ∧ ISl (Rp.int .i64) (bl Z ++ A) w cO cP r158.Last ∧ ISl (Rp.sl (Rp.int .i64)) (bl Z ++ A) w bE bF r158.Right ∧ ISl (rpRule) (bl Z ++ A) w cx cy r158.Rules ∧ Fr (bl []) w0 (bl Z) w) [.blk gk (.cells #[.int .i64 (fw.length : Int), .slice (some ⟨eU, 0, none⟩) r158.Elems.length r158.Elems.length, .slice (some ⟨fk, 0, none⟩) r158.Elems.length r158.Elems.length, .slice dG dK dH, .slice none 0 0, .slice (some ⟨fA, 0, none⟩) r158.Elems.length r158.Elems.length] 33 (0, 0)), t1 Fl.bool 4 (some ⟨fA, 0, none⟩) r158.Elems.length r158.Elems.length d_275, t1 Fl.str 9 (some ⟨fk, 0, none⟩) r158.Elems.length r158.Elems.length gI, t2 Fl.i 31 3 (some ⟨eU, 0, none⟩) r158.Elems.length r158.Elems.length i8 jR, t1 Fl.i 3 dG dK dH r182, .blk B162 (.cells #[.int .i64 r158.Points, .bool r158.Monoid, .slice cM r158.Gens.length cN, .slice ca r158.Elems.length cb, .slice bX r158.Prefix.length bY, .slice cO r158.Last.length cP, .slice bE r158.Right.length bF, .slice cx r158.Rules.length cy, .int .i64 r158.Done] 123 (0, 0)), .blk B154 (.cells #[.int .i64 (0 : Int), .slice none 0 0, .slice none 0 0, .slice none 0 0, .slice none 0 0, .slice none 0 0] 33 (0, 0)), .row 120 3 fx (0 + 1) fy eY, .blk B11 (.cells #[.slice p23 r13.Letters.toNat r13.Letters.toNat, .slice fx (0 + 1) fy, .int .i64 ((0 : Int) + (r13.Final.length : Int))] 83 (0, 0)), .blk B5 (.cells #[.int .i64 (0 : Int), .slice none 0 0, .slice none 0 0, .slice none 0 0, .slice none 0 0, .slice none 0 0] 33 (0, 0))]) ⟨_, agr, hO, cX.u, dr.u, ba.u, ak.u, am.u, aJ.u, ah.u, aL.u, fr⟩ ?_
   refine fun X4 => p2 fun dM d_275 jR => fun H hX4 σ NT => e1 fun i8 => d1 fun hag => d1 fun hO => d1 fun cX => d1 fun dr => d1 fun ba => d1 fun ak => d4 fun am aJ ah aL hB => ?_
   dsimp only at H
   refine Go1.keep _ hag ?_
   revert hO; repeat (rename Owns _ _ _ _ => q; clear q)
   intro hO; repeat (rename Sq _ _ _ _ _ _ => q; clear q)
   refine scm H (fun qN H => ?_) fun qN H => ?_
   ·refine sxls hO ah H.1 H.2.1 fun NU NV Cd => ?_
    refine au ?_
    refine drw 1 [(0, .pure), (1, .stable), (2, .pure), (3, .stable), (4, .pure), (5, .stable), (6, .pure), (7, .pure), (8, .loud), (9, .pure), (10, .pure), (11, .last)] hO fun NW s hO => ?_
    refine au ?_
    have NX := H.1
    have NY := H.2.1
    have N1 := H.2.2.1
    have gS := H.2.2.2.1
    refine sxb1 1 hO H.2.2.1 H.2.2.2.1 H.2.2.2.2 (fun Gj H => ?_) fun Gj H => ?_
    ·refine six1 1 hO H.1 H.2.1 ?_
     refine sst (u := true) 1 hO H.1 H.2.1 fun N2 s hO => ?_
     refine au ?_
     refine drw 1 [(0, .pure), (1, .stable), (2, .pure), (3, .pure), (4, .loud), (5, .pure), (6, .last)] hO fun FC s hO => ?_
     refine smk Fl.i H.2.2 hO fun N3 Gk s hO => ?_
     have N4 := H.1
     have N5 := H.2.1
     replace H := H.2.2.2.2
     obtain ⟨qO, H⟩ := H
     obtain ⟨qP, H⟩ := H
     refine GoQ.pure rfl (J01 Try.underlying23 ti31 rfl rfl qO (ltn (t2neq 4 hO rfl) qP) (t2some 4 hO rfl qO qP)) rfl rfl ?_
     refine op1 0 hO fun rL s hO Ce => ?_
     refine sfr 4 hO fun s hO => ?_
     refine sfr 1 hO fun s hO => ?_
     have zz := t2put (hf := Fl.i) hO Ce.u qO qP
     obtain ⟨FD, wS, wT⟩ := zz
     refine GoQ.last rfl (wT Try.underlying31 rfl ti31 (by exact rfl) (by exact rfl)) rfl rfl ?_
     refine nst wS fun s hO => ?_
     refine au ?_
     obtain ⟨lV, H⟩ := H
     obtain ⟨lW, H⟩ := H
     refine zo (J01 Try.underlying23 ti31 rfl rfl lV (ltn (t2neq 0 hO rfl) lW) (t2some 0 hO rfl lV lW)) ?_
     refine zs (t2head 0 hO rfl lV lW Try.underlying31 rfl rfl) ?_
     refine au ?_
     obtain ⟨kY, H⟩ := H
     obtain ⟨qQ, H⟩ := H
     refine zo (J01 Try.underlying31 ti3 rfl rfl kY qQ (t2isome 0 hO rfl lV lW kY qQ)) ?_
     have zz := t2st (r := Rp.int .i64) (hf := Fl.i) rfl 0 hO rfl lV lW kY qQ (v := .int .i64 (dM : Int)) (u := (dM : Int)) rfl rfl
     obtain ⟨N6, wU, wV⟩ := zz
     refine zg (wV Try.underlying3 rfl ti3 (by exact rfl) (by exact rfl)) ?_
     refine nst wU fun s hO => ?_
     refine au ?_
     refine lw H (fun (io, d_311) σ w => (fun Z => agrees σ [(0, .pointer (some ⟨B11, 0, none⟩)), (2, .pointer (some ⟨B154, 0, none⟩)), (5, .pointer (some ⟨B162, 0, none⟩)), (7, .int .i64 (r158.Elems.length : Int)), (8, .pointer (some ⟨gk, 0, none⟩)), (10, .int .i64 (dM : Int)), (12, .int .i64 (io : Int)), (86, .slice bE r158.Right.length bF), (87, .int .i64 (r158.Right.length : Int)), (88, .int .i64 (dM : Int))] ∧ Owns w0.heap.size w Z A ∧ Els (rppart) (bl Z ++ A) w eY ((([] : List part)) ++ ([(⟨((0 : Int) + r13.Start), r13.Final, (0 : Int)⟩ : part)])) ∧ ISl (Rp.sl (Rp.int .i64)) (bl Z ++ A) w p23 r13.Letters.toNat fw ∧ ISl (Rp.sl (Rp.int .i64)) (bl Z ++ A) w cM cN r158.Gens ∧ ISl (Rp.sl (Rp.int .i64)) (bl Z ++ A) w ca cb r158.Elems ∧ ISl (Rp.int .i64) (bl Z ++ A) w bX bY r158.Prefix ∧ ISl (Rp.int .i64) (bl Z ++ A) w cO cP r158.Last ∧ ISl (Rp.sl (Rp.int .i64)) (bl Z ++ A) w bE bF r158.Right ∧ ISl (rpRule) (bl Z ++ A) w cx cy r158.Rules ∧ Fr (bl []) w0 (bl Z) w) [t2 Fl.i 31 3 (some ⟨eU, 0, none⟩) r158.Elems.length r158.Elems.length (hup i8 (dM : Int).toNat (Gk, r158.Elems.length)) d_311, .blk gk (.cells #[.int .i64 (fw.length : Int), .slice (some ⟨eU, 0, none⟩) r158.Elems.length r158.Elems.length, .slice (some ⟨fk, 0, none⟩) r158.Elems.length r158.Elems.length, .slice dG dK dH, .slice none 0 0, .slice (some ⟨fA, 0, none⟩) r158.Elems.length r158.Elems.length] 33 (0, 0)), t1 Fl.bool 4 (some ⟨fA, 0, none⟩) r158.Elems.length r158.Elems.length (st d_275 (0 : Int) true), t1 Fl.str 9 (some ⟨fk, 0, none⟩) r158.Elems.length r158.Elems.length gI, t1 Fl.i 3 dG dK dH r182, .blk B162 (.cells #[.int .i64 r158.Points, .bool r158.Monoid, .slice cM r158.Gens.length cN, .slice ca r158.Elems.length cb, .slice bX r158.Prefix.length bY, .slice cO r158.Last.length cP, .slice bE r158.Right.length bF, .slice cx r158.Rules.length cy, .int .i64 r158.Done] 123 (0, 0)), .blk B154 (.cells #[.int .i64 (0 : Int), .slice none 0 0, .slice none 0 0, .slice none 0 0, .slice none 0 0, .slice none 0 0] 33 (0, 0)), .row 120 3 fx (0 + 1) fy eY, .blk B11 (.cells #[.slice p23 r13.Letters.toNat r13.Letters.toNat, .slice fx (0 + 1) fy, .int .i64 ((0 : Int) + (r13.Final.length : Int))] 83 (0, 0)), .blk B5 (.cells #[.int .i64 (0 : Int), .slice none 0 0, .slice none 0 0, .slice none 0 0, .slice none 0 0, .slice none 0 0] 33 (0, 0))]) ⟨agr, hO, cX.u, dr.u, ba.u, ak.u, am.u, aJ.u, ah.u, aL.u, fr⟩ ?_
     refine fun X5 => p1 fun io d_311 => fun H hX5 σ N7 => d1 fun hag => d1 fun hO => d1 fun cX => d1 fun dr => d1 fun ba => d1 fun ak => d4 fun am aJ ah aL hB => ?_
     dsimp only at H
     refine Go1.keep _ hag ?_
     revert hO; repeat (rename Owns _ _ _ _ => q; clear q)
     intro hO; repeat (rename Sq _ _ _ _ _ _ => q; clear q)
     refine scm H (fun wW H => ?_) fun wW H => ?_
     ·refine au ?_
      refine drw 1 [(0, .pure), (1, .stable), (2, .pure), (3, .pure), (4, .stable), (5, .pure), (6, .pure), (7, .stable), (8, .pure), (9, .stable), (10, .pure), (11, .pure), (12, .stable), (13, .pure), (14, .stable), (15, .pure), (16, .pure), (17, .stable), (18, .pure), (19, .stable), (20, .pure), (21, .stable), (22, .pure), (23, .stable), (24, .pure), (25, .pure), (26, .stable), (27, .pure), (28, .stable), (29, .pure), (30, .last)] hO fun FE s hO => ?_
      refine au ?_
      obtain ⟨iw, H⟩ := H
      obtain ⟨lX, H⟩ := H
      refine GoQ.pure rfl (J01 Try.underlying23 ti31 rfl rfl iw (ltn (t2neq 0 hO rfl) lX) (t2some 0 hO rfl iw lX)) rfl rfl ?_
      refine GoQ.stable rfl (t2head 0 hO rfl iw lX Try.underlying31 rfl rfl) rfl rfl ?_
      refine au ?_
      obtain ⟨lY, H⟩ := H
      obtain ⟨l5, H⟩ := H
      refine GoQ.pure rfl (J01 Try.underlying23 ti31 rfl rfl lY (ltn (t2neq 0 hO rfl) l5) (t2some 0 hO rfl lY l5)) rfl rfl ?_
      refine GoQ.stable rfl (t2head 0 hO rfl lY l5 Try.underlying31 rfl rfl) rfl rfl ?_
      refine sxl hO am.u H.1 H.2.1 ?_
      have N8 := H.1
      have N9 := H.2.1
      replace H := H.2.2
      obtain ⟨qR, H⟩ := H
      obtain ⟨qS, H⟩ := H
      refine GoQ.pure rfl (J01 Try.underlying31 ti3 rfl rfl qR qS (t2isome 0 hO rfl lY l5 qR qS)) rfl rfl ?_
      refine GoQ.stable rfl (t2Int 0 hO rfl lY l5 qR qS Try.underlying3 rfl rfl) rfl rfl ?_
      refine sxls hO ah.u H.1 H.2.1 fun Oa Ob Cf => ?_
      refine sxl hO aJ.u H.2.2.1 H.2.2.2.1 ?_
      refine sxl hO Cf.u H.2.2.2.2.1 H.2.2.2.2.2.1 ?_
      have uD := H.1
      have Oc := H.2.1
      have Od := H.2.2.1
      have Oe := H.2.2.2.1
      have Og := H.2.2.2.2.1
      have Oh := H.2.2.2.2.2.1
      replace H := H.2.2.2.2.2.2
      obtain ⟨qT, H⟩ := H
      obtain ⟨qU, H⟩ := H
      refine GoQ.pure rfl (J01 Try.underlying31 ti3 rfl rfl qT qU (t2isome 0 hO rfl iw lX qT qU)) rfl rfl ?_
      have zz := t2st (r := Rp.int .i64) (hf := Fl.i) rfl 0 hO rfl iw lX qT qU (v := .int .i64 (ix (ix r158.Right (ix (ix d_311 (dM : Int)) (ix r158.Prefix (io : Int)))) (ix r158.Last (io : Int)))) (u := (ix (ix r158.Right (ix (ix d_311 (dM : Int)) (ix r158.Prefix (io : Int)))) (ix r158.Last (io : Int)))) rfl rfl
      obtain ⟨Oi, wX, wY⟩ := zz
      refine GoQ.last rfl (wY Try.underlying3 rfl ti3 (by exact rfl) (by exact rfl)) rfl rfl ?_
      refine nst wX fun s hO => ?_
      refine sinc (natbd wW ak.bd) ?_
      refine au ?_
      exact hX5 _ H _ _ ⟨agr, hO, cX.u, dr.u, ba.u, ak.u, am.u, aJ.u, ah.u, aL.u, fr⟩
     refine sinc (natbd qN ah.bd) ?_
     refine au ?_
     refine sfr 9 hO fun s hO => ?_
     refine sfr 9 hO fun s hO => ?_
     refine sfr 9 hO fun s hO => ?_
     refine sfr 9 hO fun s hO => ?_
     refine sfr 9 hO fun s hO => ?_
     refine sfr 9 hO fun s hO => ?_
     refine sfr 6 hO fun s hO => ?_
     refine sfr 9 hO fun s hO => ?_
     refine sfr 9 hO fun s hO => ?_
     refine sfr 9 hO fun s hO => ?_
     exact hX4 _ H _ _ ⟨_, agr, hO, cX.u, dr.u, ba.u, ak.u, am.u, aJ.u, ah.u, aL.u, fr⟩
    refine au ?_
    refine zcq rfl (J00 body102 rfl (J1f hO.lt Cd.u H)) fun _ Oj => e1 fun r336 => sq0 hO fun s hO => fun H => ?_
    refine six1 1 hO H.1 H.2.1 ?_
    refine sst (u := r336) 1 hO H.1 H.2.1 fun Ok s hO => ?_
    refine au ?_
    refine drw 1 [(0, .pure), (1, .stable), (2, .pure), (3, .pure), (4, .loud), (5, .pure), (6, .last)] hO fun FG s hO => ?_
    refine smk Fl.i H.2.2 hO fun uI v6 s hO => ?_
    have Ol := H.1
    have Om := H.2.1
    replace H := H.2.2.2.2
    obtain ⟨qV, H⟩ := H
    obtain ⟨qW, H⟩ := H
    refine GoQ.pure rfl (J01 Try.underlying23 ti31 rfl rfl qV (ltn (t2neq 4 hO rfl) qW) (t2some 4 hO rfl qV qW)) rfl rfl ?_
    refine op1 0 hO fun HF s hO Cg => ?_
    refine sfr 4 hO fun s hO => ?_
    refine sfr 1 hO fun s hO => ?_
    have zz := t2put (hf := Fl.i) hO Cg.u qV qW
    obtain ⟨Oo, xa, xb⟩ := zz
    refine GoQ.last rfl (xb Try.underlying31 rfl ti31 (by exact rfl) (by exact rfl)) rfl rfl ?_
    refine nst xa fun s hO => ?_
    refine au ?_
    obtain ⟨l7, H⟩ := H
    obtain ⟨l8, H⟩ := H
    refine zo (J01 Try.underlying23 ti31 rfl rfl l7 (ltn (t2neq 0 hO rfl) l8) (t2some 0 hO rfl l7 l8)) ?_
    refine zs (t2head 0 hO rfl l7 l8 Try.underlying31 rfl rfl) ?_
    refine au ?_
    obtain ⟨qX, H⟩ := H
    obtain ⟨qY, H⟩ := H
    refine zo (J01 Try.underlying31 ti3 rfl rfl qX qY (t2isome 0 hO rfl l7 l8 qX qY)) ?_
    have zz := t2st (r := Rp.int .i64) (hf := Fl.i) rfl 0 hO rfl l7 l8 qX qY (v := .int .i64 (dM : Int)) (u := (dM : Int)) rfl rfl
    obtain ⟨Oq, xc, k9⟩ := zz
    refine zg (k9 Try.underlying3 rfl ti3 (by exact rfl) (by exact rfl)) ?_
    refine nst xc fun s hO => ?_
    refine au ?_
    refine lw H (fun (ip, kN) σ w => (fun Z => agrees σ [(0, .pointer (some ⟨B11, 0, none⟩)), (2, .pointer (some ⟨B154, 0, none⟩)), (5, .pointer (some ⟨B162, 0, none⟩)), (7, .int .i64 (r158.Elems.length : Int)), (8, .pointer (some ⟨gk, 0, none⟩)), (10, .int .i64 (dM : Int)), (12, .int .i64 (ip : Int)), (86, .slice bE r158.Right.length bF), (87, .int .i64 (r158.Right.length : Int)), (88, .int .i64 (dM : Int))] ∧ Owns w0.heap.size w Z A ∧ Els (rppart) (bl Z ++ A) w eY ((([] : List part)) ++ ([(⟨((0 : Int) + r13.Start), r13.Final, (0 : Int)⟩ : part)])) ∧ ISl (Rp.sl (Rp.int .i64)) (bl Z ++ A) w p23 r13.Letters.toNat fw ∧ ISl (Rp.sl (Rp.int .i64)) (bl Z ++ A) w cM cN r158.Gens ∧ ISl (Rp.sl (Rp.int .i64)) (bl Z ++ A) w ca cb r158.Elems ∧ ISl (Rp.int .i64) (bl Z ++ A) w bX bY r158.Prefix ∧ ISl (Rp.int .i64) (bl Z ++ A) w cO cP r158.Last ∧ ISl (Rp.sl (Rp.int .i64)) (bl Z ++ A) w bE bF r158.Right ∧ ISl (rpRule) (bl Z ++ A) w cx cy r158.Rules ∧ Fr (bl []) w0 (bl Z) w) [t2 Fl.i 31 3 (some ⟨eU, 0, none⟩) r158.Elems.length r158.Elems.length (hup i8 (dM : Int).toNat (v6, r158.Elems.length)) kN, .blk gk (.cells #[.int .i64 (fw.length : Int), .slice (some ⟨eU, 0, none⟩) r158.Elems.length r158.Elems.length, .slice (some ⟨fk, 0, none⟩) r158.Elems.length r158.Elems.length, .slice dG dK dH, .slice none 0 0, .slice (some ⟨fA, 0, none⟩) r158.Elems.length r158.Elems.length] 33 (0, 0)), t1 Fl.bool 4 (some ⟨fA, 0, none⟩) r158.Elems.length r158.Elems.length (st d_275 (0 : Int) r336), t1 Fl.str 9 (some ⟨fk, 0, none⟩) r158.Elems.length r158.Elems.length gI, t1 Fl.i 3 dG dK dH r182, .blk B162 (.cells #[.int .i64 r158.Points, .bool r158.Monoid, .slice cM r158.Gens.length cN, .slice ca r158.Elems.length cb, .slice bX r158.Prefix.length bY, .slice cO r158.Last.length cP, .slice bE r158.Right.length bF, .slice cx r158.Rules.length cy, .int .i64 r158.Done] 123 (0, 0)), .blk B154 (.cells #[.int .i64 (0 : Int), .slice none 0 0, .slice none 0 0, .slice none 0 0, .slice none 0 0, .slice none 0 0] 33 (0, 0)), .row 120 3 fx (0 + 1) fy eY, .blk B11 (.cells #[.slice p23 r13.Letters.toNat r13.Letters.toNat, .slice fx (0 + 1) fy, .int .i64 ((0 : Int) + (r13.Final.length : Int))] 83 (0, 0)), .blk B5 (.cells #[.int .i64 (0 : Int), .slice none 0 0, .slice none 0 0, .slice none 0 0, .slice none 0 0, .slice none 0 0] 33 (0, 0))]) ⟨agr, hO, cX.u, dr.u, ba.u, ak.u, am.u, aJ.u, ah.u, aL.u, fr⟩ ?_
    refine fun X6 => p1 fun ip kN => fun H hX6 σ Os => d1 fun hag => d1 fun hO => d1 fun cX => d1 fun dr => d1 fun ba => d1 fun ak => d4 fun am aJ ah aL hB => ?_
    dsimp only at H
    refine Go1.keep _ hag ?_
    revert hO; repeat (rename Owns _ _ _ _ => q; clear q)
    intro hO; repeat (rename Sq _ _ _ _ _ _ => q; clear q)
    refine scm H (fun xd H => ?_) fun xd H => ?_
    ·refine au ?_
     refine drw 1 [(0, .pure), (1, .stable), (2, .pure), (3, .pure), (4, .stable), (5, .pure), (6, .pure), (7, .stable), (8, .pure), (9, .stable), (10, .pure), (11, .pure), (12, .stable), (13, .pure), (14, .stable), (15, .pure), (16, .pure), (17, .stable), (18, .pure), (19, .stable), (20, .pure), (21, .stable), (22, .pure), (23, .stable), (24, .pure), (25, .pure), (26, .stable), (27, .pure), (28, .stable), (29, .pure), (30, .last)] hO fun Ot s hO => ?_
     refine au ?_
     obtain ⟨l9, H⟩ := H
     obtain ⟨ma, H⟩ := H
     refine GoQ.pure rfl (J01 Try.underlying23 ti31 rfl rfl l9 (ltn (t2neq 0 hO rfl) ma) (t2some 0 hO rfl l9 ma)) rfl rfl ?_
     refine GoQ.stable rfl (t2head 0 hO rfl l9 ma Try.underlying31 rfl rfl) rfl rfl ?_
     refine au ?_
     obtain ⟨mb, H⟩ := H
     obtain ⟨mc, H⟩ := H
     refine GoQ.pure rfl (J01 Try.underlying23 ti31 rfl rfl mb (ltn (t2neq 0 hO rfl) mc) (t2some 0 hO rfl mb mc)) rfl rfl ?_
     refine GoQ.stable rfl (t2head 0 hO rfl mb mc Try.underlying31 rfl rfl) rfl rfl ?_
     refine sxl hO am.u H.1 H.2.1 ?_
     have Ou := H.1
     have Ov := H.2.1
     replace H := H.2.2
     obtain ⟨q8, H⟩ := H
     obtain ⟨q9, H⟩ := H
     refine GoQ.pure rfl (J01 Try.underlying31 ti3 rfl rfl q8 q9 (t2isome 0 hO rfl mb mc q8 q9)) rfl rfl ?_
     refine GoQ.stable rfl (t2Int 0 hO rfl mb mc q8 q9 Try.underlying3 rfl rfl) rfl rfl ?_
     refine sxls hO ah.u H.1 H.2.1 fun Ow Ox Ci => ?_
     refine sxl hO aJ.u H.2.2.1 H.2.2.2.1 ?_
     refine sxl hO Ci.u H.2.2.2.2.1 H.2.2.2.2.2.1 ?_
     have Oy := H.1
     have oD := H.2.1
     have uM := H.2.2.1
     have Oz := H.2.2.2.1
     have OA := H.2.2.2.2.1
     have OB := H.2.2.2.2.2.1
     replace H := H.2.2.2.2.2.2
     obtain ⟨rh, H⟩ := H
     obtain ⟨rk, H⟩ := H
     refine GoQ.pure rfl (J01 Try.underlying31 ti3 rfl rfl rh rk (t2isome 0 hO rfl l9 ma rh rk)) rfl rfl ?_
     have zz := t2st (r := Rp.int .i64) (hf := Fl.i) rfl 0 hO rfl l9 ma rh rk (v := .int .i64 (ix (ix r158.Right (ix (ix kN (dM : Int)) (ix r158.Prefix (ip : Int)))) (ix r158.Last (ip : Int)))) (u := (ix (ix r158.Right (ix (ix kN (dM : Int)) (ix r158.Prefix (ip : Int)))) (ix r158.Last (ip : Int)))) rfl rfl
     obtain ⟨Eo, xe, xg⟩ := zz
     refine GoQ.last rfl (xg Try.underlying3 rfl ti3 (by exact rfl) (by exact rfl)) rfl rfl ?_
     refine nst xe fun s hO => ?_
     refine sinc (natbd xd ak.bd) ?_
     refine au ?_
     exact hX6 _ H _ _ ⟨agr, hO, cX.u, dr.u, ba.u, ak.u, am.u, aJ.u, ah.u, aL.u, fr⟩
    refine sinc (natbd qN ah.bd) ?_
    refine au ?_
    refine sfr 9 hO fun s hO => ?_
    refine sfr 9 hO fun s hO => ?_
    refine sfr 9 hO fun s hO => ?_
    refine sfr 9 hO fun s hO => ?_
    refine sfr 9 hO fun s hO => ?_
    refine sfr 9 hO fun s hO => ?_
    refine sfr 6 hO fun s hO => ?_
    refine sfr 9 hO fun s hO => ?_
    refine sfr 9 hO fun s hO => ?_
    refine sfr 9 hO fun s hO => ?_
    exact hX4 _ H _ _ ⟨_, agr, hO, cX.u, dr.u, ba.u, ak.u, am.u, aJ.u, ah.u, aL.u, fr⟩
   refine au ?_
   refine zo (J0E Try.underlying81 rfl (Els.neqW cX.u hO 7 rfl)) ?_
   obtain ⟨Gl, H⟩ := H
   obtain ⟨Gm, H⟩ := H
   have zz := t2makeS (m := (((([] : List part)) ++ ([(⟨((0 : Int) + r13.Start), r13.Final, (0 : Int)⟩ : part)])).length : Int)) (e' := 4) Fl.bool Try.underlying40 ti22 hO Gl Gm (by decide)
   obtain ⟨OC, kd, xh, HG, xi, hz396⟩ := zz
   refine zg (xi rfl rfl) ?_
   refine nst xh fun s hO => ?_
   refine au ?_
   refine zo (J0E Try.underlying81 rfl (Els.neqW cX.u hO 8 rfl)) ?_
   refine au ?_
   refine sdr [9] hO fun s hO => ?_
   refine lw H (fun (eV, ni) σ w => ∃ nj, (fun Z => agrees σ [(2, .pointer (some ⟨B154, 0, none⟩)), (5, .pointer (some ⟨B162, 0, none⟩)), (7, .int .i64 (r158.Elems.length : Int)), (8, .pointer (some ⟨gk, 0, none⟩)), (13, .slice kd (((([] : List part)) ++ ([(⟨((0 : Int) + r13.Start), r13.Final, (0 : Int)⟩ : part)])).length) (((([] : List part)) ++ ([(⟨((0 : Int) + r13.Start), r13.Final, (0 : Int)⟩ : part)])).length)), (162, .slice fx (0 + 1) fy), (163, .int .i64 (((([] : List part)) ++ ([(⟨((0 : Int) + r13.Start), r13.Final, (0 : Int)⟩ : part)])).length : Int)), (164, .int .i64 (eV : Int))] ∧ Owns w0.heap.size w Z A ∧ Els (rppart) (bl Z ++ A) w eY ((([] : List part)) ++ ([(⟨((0 : Int) + r13.Start), r13.Final, (0 : Int)⟩ : part)])) ∧ ISl (Rp.sl (Rp.int .i64)) (bl Z ++ A) w cM cN r158.Gens ∧ ISl (Rp.sl (Rp.int .i64)) (bl Z ++ A) w ca cb r158.Elems ∧ ISl (Rp.int .i64) (bl Z ++ A) w bX bY r158.Prefix ∧ ISl (Rp.int .i64) (bl Z ++ A) w cO cP r158.Last ∧ ISl (Rp.sl (Rp.int .i64)) (bl Z ++ A) w bE bF r158.Right ∧ ISl (rpRule) (bl Z ++ A) w cx cy r158.Rules ∧ Fr (bl []) w0 (bl Z) w) [t2 Fl.bool 22 4 kd (((([] : List part)) ++ ([(⟨((0 : Int) + r13.Start), r13.Final, (0 : Int)⟩ : part)])).length) (((([] : List part)) ++ ([(⟨((0 : Int) + r13.Start), r13.Final, (0 : Int)⟩ : part)])).length) nj ni, .blk gk (.cells #[.int .i64 (fw.length : Int), .slice (some ⟨eU, 0, none⟩) r158.Elems.length r158.Elems.length, .slice (some ⟨fk, 0, none⟩) r158.Elems.length r158.Elems.length, .slice dG dK dH, .slice none 0 0, .slice (some ⟨fA, 0, none⟩) r158.Elems.length r158.Elems.length] 33 (0, 0)), t1 Fl.bool 4 (some ⟨fA, 0, none⟩) r158.Elems.length r158.Elems.length d_275, t1 Fl.str 9 (some ⟨fk, 0, none⟩) r158.Elems.length r158.Elems.length gI, t2 Fl.i 31 3 (some ⟨eU, 0, none⟩) r158.Elems.length r158.Elems.length i8 jR, t1 Fl.i 3 dG dK dH r182, .blk B162 (.cells #[.int .i64 r158.Points, .bool r158.Monoid, .slice cM r158.Gens.length cN, .slice ca r158.Elems.length cb, .slice bX r158.Prefix.length bY, .slice cO r158.Last.length cP, .slice bE r158.Right.length bF, .slice cx r158.Rules.length cy, .int .i64 r158.Done] 123 (0, 0)), .blk B154 (.cells #[.int .i64 (0 : Int), .slice none 0 0, .slice none 0 0, .slice none 0 0, .slice none 0 0, .slice none 0 0] 33 (0, 0)), .row 120 3 fx (0 + 1) fy eY, .blk B5 (.cells #[.int .i64 (0 : Int), .slice none 0 0, .slice none 0 0, .slice none 0 0, .slice none 0 0, .slice none 0 0] 33 (0, 0))]) ⟨_, agr, hO, cX.u, ba.u, ak.u, am.u, aJ.u, ah.u, aL.u, fr⟩ ?_
   refine fun X7 => p1 fun eV ni => fun H hX7 σ OD => e1 fun nj => d1 fun hag => d1 fun hO => d1 fun cX => d1 fun ba => d1 fun ak => d4 fun am aJ ah aL hB => ?_
   dsimp only at H
   refine Go1.keep _ hag ?_
   revert hO; repeat (rename Owns _ _ _ _ => q; clear q)
   intro hO; repeat (rename Sq _ _ _ _ _ _ => q; clear q)
   refine scm H (fun xj H => ?_) fun xj H => ?_
   ·refine au ?_
    obtain ⟨ro, H⟩ := H
    obtain ⟨rp, H⟩ := H
    refine zo (J01 Try.underlying81 ti120 rfl rfl ro (ltn (Els.neqW cX hO 8 rfl) rp) (Els.psomeW cX hO 8 rfl ro rp)) ?_
    have Cj := oldAggR 8 hO rfl (r := rppart) cX ro rp
    obtain ⟨HH, Ck, hR407, xk⟩ := Cj
    replace hR407 := J5B Ck hR407
    obtain ⟨xl, xm, hcs409, kO⟩ := hR407
    subst hcs409
    refine zs (xk Try.underlying120 rfl ti120 rfl) ?_
    refine sal hO fun OE B414 s hO => ?_
    refine sba 0 hO fun OF s hO => ?_
    refine smk Fl.bool H hO fun OG Gn s hO => ?_
    replace H := H.2.2
    obtain ⟨rq, H⟩ := H
    obtain ⟨ld, H⟩ := H
    refine zo (J01 Try.underlying40 ti22 rfl rfl rq (ltn (t2neq 2 hO rfl) ld) (t2some 2 hO rfl rq ld)) ?_
    refine op1 0 hO fun HI s hO jy => ?_
    refine sfr 2 hO fun s hO => ?_
    refine sfr 1 hO fun s hO => ?_
    have zz := t2put (hf := Fl.bool) hO jy.u rq ld
    obtain ⟨OH, xn, xo⟩ := zz
    refine zg (xo Try.underlying22 rfl ti22 (by exact rfl) (by exact rfl)) ?_
    refine nst xn fun s hO => ?_
    refine sln0 ?_
    refine au ?_
    refine lw H (fun (nI, sM) σ w => (fun Z => agrees σ [(2, .pointer (some ⟨B154, 0, none⟩)), (5, .pointer (some ⟨B162, 0, none⟩)), (7, .int .i64 (r158.Elems.length : Int)), (8, .pointer (some ⟨gk, 0, none⟩)), (13, .slice kd (((([] : List part)) ++ ([(⟨((0 : Int) + r13.Start), r13.Final, (0 : Int)⟩ : part)])).length) (((([] : List part)) ++ ([(⟨((0 : Int) + r13.Start), r13.Final, (0 : Int)⟩ : part)])).length)), (14, .int .i64 (eV : Int)), (15, .pointer (some ⟨B414, 0, none⟩)), (162, .slice fx (0 + 1) fy), (163, .int .i64 (((([] : List part)) ++ ([(⟨((0 : Int) + r13.Start), r13.Final, (0 : Int)⟩ : part)])).length : Int)), (164, .int .i64 (eV : Int)), (175, .slice ca r158.Elems.length cb), (176, .int .i64 (r158.Elems.length : Int)), (177, .int .i64 (nI : Int))] ∧ Owns w0.heap.size w Z A ∧ Els (rppart) (bl Z ++ A) w eY ((([] : List part)) ++ ([(⟨((0 : Int) + r13.Start), r13.Final, (0 : Int)⟩ : part)])) ∧ ISl (Rp.sl (Rp.int .i64)) (bl Z ++ A) w cM cN r158.Gens ∧ ISl (Rp.sl (Rp.int .i64)) (bl Z ++ A) w ca cb r158.Elems ∧ ISl (Rp.int .i64) (bl Z ++ A) w bX bY r158.Prefix ∧ ISl (Rp.int .i64) (bl Z ++ A) w cO cP r158.Last ∧ ISl (Rp.sl (Rp.int .i64)) (bl Z ++ A) w bE bF r158.Right ∧ ISl (rpRule) (bl Z ++ A) w cx cy r158.Rules ∧ ISl (Rp.bool) (bl Z ++ A) w xl xm ((ix ((([] : List part)) ++ ([(⟨((0 : Int) + r13.Start), r13.Final, (0 : Int)⟩ : part)])) (eV : Int)).final) ∧ Fr (bl []) w0 (bl Z) w) [t2 Fl.bool 22 4 kd (((([] : List part)) ++ ([(⟨((0 : Int) + r13.Start), r13.Final, (0 : Int)⟩ : part)])).length) (((([] : List part)) ++ ([(⟨((0 : Int) + r13.Start), r13.Final, (0 : Int)⟩ : part)])).length) (hup nj (eV : Int).toNat (Gn, r158.Elems.length)) sM, .blk B414 (.cells #[.int .i64 ((ix ((([] : List part)) ++ ([(⟨((0 : Int) + r13.Start), r13.Final, (0 : Int)⟩ : part)])) (eV : Int)).start), .slice xl (((ix ((([] : List part)) ++ ([(⟨((0 : Int) + r13.Start), r13.Final, (0 : Int)⟩ : part)])) (eV : Int)).final).length) xm, .int .i64 ((ix ((([] : List part)) ++ ([(⟨((0 : Int) + r13.Start), r13.Final, (0 : Int)⟩ : part)])) (eV : Int)).shift)] 120 (0, 0)), .blk gk (.cells #[.int .i64 (fw.length : Int), .slice (some ⟨eU, 0, none⟩) r158.Elems.length r158.Elems.length, .slice (some ⟨fk, 0, none⟩) r158.Elems.length r158.Elems.length, .slice dG dK dH, .slice none 0 0, .slice (some ⟨fA, 0, none⟩) r158.Elems.length r158.Elems.length] 33 (0, 0)), t1 Fl.bool 4 (some ⟨fA, 0, none⟩) r158.Elems.length r158.Elems.length d_275, t1 Fl.str 9 (some ⟨fk, 0, none⟩) r158.Elems.length r158.Elems.length gI, t2 Fl.i 31 3 (some ⟨eU, 0, none⟩) r158.Elems.length r158.Elems.length i8 jR, t1 Fl.i 3 dG dK dH r182, .blk B162 (.cells #[.int .i64 r158.Points, .bool r158.Monoid, .slice cM r158.Gens.length cN, .slice ca r158.Elems.length cb, .slice bX r158.Prefix.length bY, .slice cO r158.Last.length cP, .slice bE r158.Right.length bF, .slice cx r158.Rules.length cy, .int .i64 r158.Done] 123 (0, 0)), .blk B154 (.cells #[.int .i64 (0 : Int), .slice none 0 0, .slice none 0 0, .slice none 0 0, .slice none 0 0, .slice none 0 0] 33 (0, 0)), .row 120 3 fx (0 + 1) fy eY, .blk B5 (.cells #[.int .i64 (0 : Int), .slice none 0 0, .slice none 0 0, .slice none 0 0, .slice none 0 0, .slice none 0 0] 33 (0, 0))]) ⟨agr, hO, cX.u, ba.u, ak.u, am.u, aJ.u, ah.u, aL.u, kO.u, fr⟩ ?_
    refine fun X8 => p1 fun nI sM => fun H hX8 σ OI => d1 fun hag => d1 fun hO => d1 fun cX => d1 fun ba => d1 fun ak => d1 fun am => d4 fun aJ ah aL kO hB => ?_
    dsimp only at H
    refine Go1.keep _ hag ?_
    revert hO; repeat (rename Owns _ _ _ _ => q; clear q)
    intro hO; repeat (rename Sq _ _ _ _ _ _ => q; clear q)
    refine scm H (fun xp H => ?_) fun xp H => ?_
    ·refine sxls hO ak H.1 H.2.1 fun OJ OK Cl => ?_
     refine au ?_
     refine drw 1 [(0, .pure), (1, .pure), (2, .pure), (3, .stable), (4, .pure), (5, .stable), (6, .pure), (7, .loud), (8, .pure), (9, .last)] hO fun OL s hO => ?_
     refine au ?_
     have OM := H.1
     have ON := H.2.1
     replace H := H.2.2
     obtain ⟨jp, H⟩ := H
     obtain ⟨jq, H⟩ := H
     refine GoQ.pure rfl (J01 Try.underlying40 ti22 rfl rfl jp (ltn (t2neq 0 hO rfl) jq) (t2some 0 hO rfl jp jq)) rfl rfl ?_
     refine GoQ.stable rfl (t2head 0 hO rfl jp jq Try.underlying22 rfl rfl) rfl rfl ?_
     refine sag 1 hO ?_
     refine au ?_
     refine zcq rfl (J00 body103 rfl (J10 (p := (⟨((ix ((([] : List part)) ++ ([(⟨((0 : Int) + r13.Start), r13.Final, (0 : Int)⟩ : part)])) (eV : Int)).start), (ix ((([] : List part)) ++ ([(⟨((0 : Int) + r13.Start), r13.Final, (0 : Int)⟩ : part)])) (eV : Int)).final, ((ix ((([] : List part)) ++ ([(⟨((0 : Int) + r13.Start), r13.Final, (0 : Int)⟩ : part)])) (eV : Int)).shift)⟩ : part)) hO.lt kO.u Cl.u H)) fun _ OO => e1 fun xq => sq0 hO fun s hO => fun H => ?_
     obtain ⟨rs, H⟩ := H
     obtain ⟨ru, H⟩ := H
     refine GoQ.pure rfl (J01 Try.underlying22 ti4 rfl rfl rs ru (t2isome 0 hO rfl jp jq rs ru)) rfl rfl ?_
     have zz := t2st (r := Rp.bool) (hf := Fl.bool) rfl 0 hO rfl jp jq rs ru (v := .bool xq) (u := xq) rfl rfl
     obtain ⟨OP, xr, xt⟩ := zz
     refine GoQ.last rfl (xt Try.underlying4 rfl ti4 (by exact rfl) (by exact rfl)) rfl rfl ?_
     refine nst xr fun s hO => ?_
     refine sinc (natbd xp ak.bd) ?_
     refine au ?_
     exact hX8 _ H _ _ ⟨agr, hO, cX.u, ba.u, ak.u, am.u, aJ.u, ah.u, aL.u, kO.u, fr⟩
    refine sinc (natbd xj cX.bd) ?_
    refine au ?_
    refine sdr [1] hO fun s hO => ?_
    exact hX7 _ H _ _ ⟨_, agr, hO, cX.u, ba.u, ak.u, am.u, aJ.u, ah.u, aL.u, fr⟩
   refine sag 1 hO ?_
   refine sba 7 hO fun OQ s hO => ?_
   refine au ?_
   refine Go1.retC3V Try.func63 rfl rfl (rlb 7 hO) (show _ = .slice kd (((([] : List part)) ++ ([(⟨((0 : Int) + r13.Start), r13.Final, (0 : Int)⟩ : part)])).length) (((([] : List part)) ++ ([(⟨((0 : Int) + r13.Start), r13.Final, (0 : Int)⟩ : part)])).length) from rfl) (show _ = .int .i64 (0 : Int) from rfl) ?_
   refine hR152 _ _ ?_
   refine sal hO fun OR B448 s hO => ?_
   refine sba 0 hO fun OS s hO => ?_
   refine au ?_
   refine zo (fun w => opB (J2W rfl rfl w) (ndT (by decide))) ?_
   refine au ?_
   obtain ⟨nk, H⟩ := H
   obtain ⟨nr, H⟩ := H
   refine zo (J01 Try.underlying40 ti22 rfl rfl nk (ltn (t2neq 1 hO rfl) nr) (t2some 1 hO rfl nk nr)) ?_
   refine zs (t2head 1 hO rfl nk nr Try.underlying22 rfl rfl) ?_
   refine sbs 0 hO fun Ex s hO => ?_
   refine sag 0 hO ?_
   refine sba 10 hO fun OT s hO => ?_
   refine au ?_
   refine sfz2 5 hO fun s hO Cm Cn => ?_
   refine sfz 4 hO fun s hO Co Cp => ?_
   refine sfz 4 hO fun s hO Cq Cr => ?_
   have Ct := t2lendIn 1 hO rfl nk nr
   refine sfz2 1 hO fun s hO HJ HK => ?_
   refine sfz 2 hO fun s hO Cu Cv => ?_
   refine Go1.retC2 Try.func19 rfl rfl (rlb 5 hO) ⟨((⟨(fw.length : Int), jR, gI, r182, (ix ni (0 : Int)), d_275⟩ : Syntactic)), _, _, _, _, _, _, _, _, _, _, _, ?_, frs, Cm.r, Co.r, Cq.r, Ct.r, Cu.r, H⟩
   exact (congrArg (fun l => Value.tuple (List.toArray l)) (J05 (congrArg (fun l => Value.agg (List.toArray l)) (J05 rfl (J05 (congrArg (fun nn => Value.slice (some ⟨eU, 0, none⟩) nn r158.Elems.length) Cn) (J05 (congrArg (fun nn => Value.slice (some ⟨fk, 0, none⟩) nn r158.Elems.length) Cp) (J05 (congrArg (fun nn => Value.slice dG nn dH) Cr) (J05 rfl (J05 (congrArg (fun nn => Value.slice (some ⟨fA, 0, none⟩) nn r158.Elems.length) Cv) rfl))))))) (J05 rfl rfl)))
  refine au ?_
  refine zo (J06 Try.underlying33 ti33 (pl := [(0, 1), (1, 1), (2, 1), (3, 1), (4, 1), (5, 1)]) (vs := []) (cs := #[.int .i64 (0 : Int), .slice none 0 0, .slice none 0 0, .slice none 0 0, .slice none 0 0, .slice none 0 0]) (by kernel_rfl) rfl (by kernel_rfl)) ?_
  refine sba 1 hO fun Ey s hO => ?_
  refine au ?_
  refine Go1.retC3V Try.func63 rfl rfl (rlb 1 hO) (show _ = .slice none 0 0 from rfl) (show _ = .int .i64 r159 from rfl) ?_
  refine hR152 _ _ ?_
  refine sal hO fun OU B468 s hO => ?_
  refine sba 0 hO fun OV s hO => ?_
  refine au ?_
  refine zo (fun w => opB (J2W rfl rfl w) (ndF wP)) ?_
  refine au ?_
  refine zo (J06 Try.underlying33 ti33 (pl := [(0, 1), (1, 1), (2, 1), (3, 1), (4, 1), (5, 1)]) (vs := []) (cs := #[.int .i64 (0 : Int), .slice none 0 0, .slice none 0 0, .slice none 0 0, .slice none 0 0, .slice none 0 0]) (by kernel_rfl) rfl (by kernel_rfl)) ?_
  refine sba 6 hO fun OW s hO => ?_
  refine au ?_
  refine Go1.retC2 Try.func19 rfl rfl (rlb 6 hO) ⟨((⟨(0 : Int), ([] : List (List Int)), ([] : List Str), ([] : List Int), ([] : List Bool), ([] : List Bool)⟩ : Syntactic)), _, _, _, _, _, _, _, _, _, _, _, ?_, frs, (ISl.null _ _ _), (ISl.null _ _ _), (ISl.null _ _ _), (ISl.null _ _ _), (ISl.null _ _ _), H⟩
  exact rfl
 refine au ?_
 refine zo (J06 Try.underlying33 ti33 (pl := [(0, 1), (1, 1), (2, 1), (3, 1), (4, 1), (5, 1)]) (vs := []) (cs := #[.int .i64 (0 : Int), .slice none 0 0, .slice none 0 0, .slice none 0 0, .slice none 0 0, .slice none 0 0]) (by kernel_rfl) rfl (by kernel_rfl)) ?_
 refine sba 0 hO fun OX s hO => ?_
 refine au ?_
 refine Go1.retC2 Try.func19 rfl rfl (rlb 0 hO) ⟨((⟨(0 : Int), ([] : List (List Int)), ([] : List Str), ([] : List Int), ([] : List Bool), ([] : List Bool)⟩ : Syntactic)), _, _, _, _, _, _, _, _, _, _, _, ?_, frs, (ISl.null _ _ _), (ISl.null _ _ _), (ISl.null _ _ _), (ISl.null _ _ _), (ISl.null _ _ _), H⟩
 exact rfl
theorem body48 : Body Try.prog 48 := ⟨Try.f48, Try.func48, rfl, by kernel_rfl⟩
theorem J5j {A : List Nat} {w0 : World} {p_a p_b : Option Addr} {c_a c_b : Nat} {a b : List Str} (hA : ∀ b ∈ A, b < w0.heap.size) (h_a : ISl (Rp.str) A w0 p_a c_a a) (h_b : ISl (Rp.str) A w0 p_b c_b b) {K : Bool → Prop} (H : J2V a b K) :
    CallsV Try.prog 48 #[.slice p_a a.length c_a, .slice p_b b.length c_b] w0 (fun v w' => ∃ (r0 : Bool), v = .bool r0 ∧ Same w0 w' ∧ K r0) := by
 refine CallsV.of (l := [.slice p_a a.length c_a, .slice p_b b.length c_b]) Try.func48 rfl Try.ntmps48 rfl ?_
 have hO := Owns.start hA
 have hB := Fr.refl (bl []) w0
 unfold J2V at H
 refine sln0 ?_
 refine sln0 ?_
 refine scm ((H h_a.bd) h_b.bd) (fun h1 H => ?_) fun h1 H => ?_
 ·refine sln0 ?_
  refine au ?_
  refine lw H (fun k1_3 σ w => (fun Z => agrees σ [(0, .slice p_a a.length c_a), (1, .slice p_b b.length c_b), (12, .int .i64 (a.length : Int)), (13, .int .i64 (k1_3 : Int))] ∧ Owns w0.heap.size w Z A ∧ Fr (bl []) w0 (bl Z) w) []) ⟨agr, hO, fr⟩ ?_
  refine fun X1 => fun k1_3 => fun H hX1 σ w2 => d2 fun hag hO hB => ?_
  refine Go1.keep _ hag ?_
  refine scm H (fun h4 H => ?_) fun h4 H => ?_
  ·refine au ?_
   refine drw 0 [(0, .pure), (1, .pure), (2, .pure), (3, .stable), (4, .pure), (5, .pure), (6, .pure), (7, .stable), (8, .pure)] hO fun w5 s hO => ?_
   refine sxl hO h_a.u H.1 H.2.1 ?_
   have hle6 := ISl.J7q h_a H.1 H.2.1
   refine sxl hO h_b.u H.2.2.1 H.2.2.2.1 ?_
   have hle7 := ISl.J7q h_b H.2.2.1 H.2.2.2.1
   have h8 := H.1
   have h9 := H.2.1
   have h10 := H.2.2.1
   have h11 := H.2.2.2.1
   refine scm H.2.2.2.2 (fun h12 H => ?_) fun h12 H => ?_
   ·refine sinc (natbd h4 h_a.bd) ?_
    refine au ?_
    exact hX1 _ H _ _ ⟨agr, hO, fr⟩
   refine au ?_
   refine Go1.ret1 Try.func48 rfl ⟨_, ?_, frs, H⟩
   exact rfl
  refine au ?_
  refine Go1.ret1 Try.func48 rfl ⟨_, ?_, frs, H⟩
  exact rfl
 refine au ?_
 refine Go1.ret1 Try.func48 rfl ⟨_, ?_, frs, H⟩
 exact rfl
theorem body18 : Body Try.prog 18 := ⟨Try.f18, Try.func18, rfl, by kernel_rfl⟩
theorem J04 {A : List Nat} {w0 : World} (hA : ∀ b ∈ A, b < w0.heap.size) {K : Bool → Prop} (H : law21_awake  K) :
    CallsV Try.prog 18 #[] w0 (fun v w' => ∃ (r0 : Bool), v = .bool r0 ∧ Same w0 w' ∧ K r0) := by
 refine CallsV.of (l := []) Try.func18 rfl Try.ntmps18 rfl ?_
 have hO := Owns.start hA
 have hB := Fr.refl (bl []) w0
 unfold law21_awake at H
 refine au ?_
 refine zcr (J00 body60 rfl (J62 hO.lt H)) fun _ w2 => e4 fun r1 Cw Cx CQ => e1 fun CR => sc0 hO fun s hO => d2 fun ns nJ H => ?_
 refine zcr (J00 body19 rfl (J0Z hO.lt ns nJ H)) fun _ w5 => e4 fun r3 r4 Cy Cz => e4 fun jS jT x4 x5 => e4 fun x6 x7 CT CU => sc0 hO fun s hO => d1 fun CA => d4 fun nt x8 fI CV H => ?_
 refine sal hO fun w6 B7 s hO => ?_
 refine sba 0 hO fun w9 s hO => ?_
 refine scm H (fun h10 H => ?_) fun h10 H => ?_
 ·refine sbu Fl.str 9 [(([] : Str)), (([97] : Str)), (([98] : Str)), (([97, 97] : Str)), (([97, 98] : Str)), (([98, 97] : Str))] hO (fun w11 p12 s hO => ?_) (hE := fun _ _ => (Els.cons rfl ⟨rfl, (by decide)⟩ (Els.cons rfl ⟨rfl, (by decide)⟩ (Els.cons rfl ⟨rfl, (by decide)⟩ (Els.cons rfl ⟨rfl, (by decide)⟩ (Els.cons rfl ⟨rfl, (by decide)⟩ (Els.cons rfl ⟨rfl, (by decide)⟩ (Els.nil _ _ _) (by simp [mx])) (by simp [mx])) (by simp [mx])) (by simp [mx])) (by simp [mx])) (by simp [mx])))
  have Gp := t1lend 0 hO
  have lR := t1n 0 hO
  have hOc16 := hO.drop 0
  refine zcr (J00 body48 (show ([.slice jS r3.Words.length jT, .slice p12 6 6] : List Value) = [.slice jS r3.Words.length jT, .slice p12 ([(([] : Str)), (([97] : Str)), (([98] : Str)), (([97, 97] : Str)), (([97, 98] : Str)), (([98, 97] : Str))]).length 6] from by rw [← lR]) (J5j hOc16.lt (nt.u.ch (Owns.J7a _ _ 0)) Gp H)) fun _ w18 => e1 fun r17 => sc0 hO fun s hO => fun H => ?_
  refine au ?_
  cases r17
  ·refine au ?_
   refine Go1.ret1 Try.func18 rfl ⟨_, ?_, frs, (iF H)⟩
   exact rfl
  refine sln0 ?_
  refine scm ((iT H) fI.bd) (fun h19 H => ?_) fun h19 H => ?_
  ·refine six fI H.1 H.2.1 ?_
   have h20 := H.1
   have h21 := H.2.1
   refine sbd hO fI.u H.1 H.2.1 H.2.2 (fun h22 H => ?_) fun h22 H => ?_
   ·refine six fI H.1 H.2.1 ?_
    have h23 := H.1
    have h24 := H.2.1
    refine sbd hO fI.u H.1 H.2.1 H.2.2 (fun h25 H => ?_) fun h25 H => ?_
    ·refine au ?_
     refine Go1.ret1 Try.func18 rfl ⟨_, ?_, frs, H⟩
     exact rfl
    refine au ?_
    refine Go1.ret1 Try.func18 rfl ⟨_, ?_, frs, H⟩
    exact rfl
   refine au ?_
   refine Go1.ret1 Try.func18 rfl ⟨_, ?_, frs, H⟩
   exact rfl
  refine au ?_
  refine Go1.ret1 Try.func18 rfl ⟨_, ?_, frs, H⟩
  exact rfl
 refine au ?_
 refine Go1.ret1 Try.func18 rfl ⟨_, ?_, frs, H⟩
 exact rfl
end Sg
