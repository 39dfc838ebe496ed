/- -/
import Derived.Test.YtlneebpmblkllaaVd
import Derived.Test.YtlneebpmblkllaaWSyntacticMonoids
import Derived.Test.YtlneebpmblkllaaWSyntacticMonoidsb
namespace Sg
open Go Go.RowKit Go.Proofs
set_option linter.unusedVariables false
set_option linter.unusedSimpArgs false
set_option maxRecDepth 100000
set_option maxHeartbeats 4000000
theorem body63 : Body Try.prog 63 := ⟨Try.f63, Try.func63, rfl, by kernel_rfl⟩
theorem body62 : Body Try.prog 62 := ⟨Try.f62, Try.func62, rfl, by kernel_rfl⟩
theorem body19 : Body Try.prog 19 := ⟨Try.f19, Try.func19, rfl, by kernel_rfl⟩
theorem J1o {A : List Nat} {w0 : World} {aa : Option Addr} {ad : Nat} {af : Option Addr} {ag : Nat} {d : DFA} (hA : ∀ b ∈ A, b < w0.heap.size) (aO : ISl (Rp.bool) A w0 aa ad d.Final) (bQ : ISl (Rp.sl (Rp.int .i64)) A w0 af ag d.Next) {K : Syntactic → Int → Prop} (H : J0u d K) :
    CallsV Try.prog 19 #[.agg #[.int .i64 d.Letters, .int .i64 d.Start, .slice aa d.Final.length ad, .slice af d.Next.length ag]] w0 (fun v w' => ∃ (r0 : Syntactic), ∃ (r1 : Int), ∃ (gV : Option Addr), ∃ (gW : Nat), ∃ (gX : Option Addr), ∃ (gY : Nat), ∃ (f9 : Option Addr), ∃ (gf : Nat), ∃ (gh : Option Addr), ∃ (gi : Nat), ∃ (iQ : Option Addr), ∃ (iR : Nat), v = .tuple #[.agg #[.int .i64 r0.Letters, .slice gV r0.Table.length gW, .slice gX r0.Words.length gY, .slice f9 r0.Images.length gf, .slice gh r0.Accept.length gi, .slice iQ r0.Plus.length iR], .int .i64 r1] ∧ Same w0 w' ∧ ISl (Rp.sl (Rp.int .i64)) A w' gV gW r0.Table ∧ ISl (Rp.str) A w' gX gY r0.Words ∧ ISl (Rp.int .i64) A w' f9 gf r0.Images ∧ ISl (Rp.bool) A w' gh gi r0.Accept ∧ ISl (Rp.bool) A w' iQ iR r0.Plus ∧ K r0 r1) := by
 refine CallsV.of (l := [.agg #[.int .i64 d.Letters, .int .i64 d.Start, .slice aa d.Final.length ad, .slice af d.Next.length ag]]) Try.func19 rfl Try.ntmps19 rfl ?_
 have hO := Owns.start hA
 have hB := Fr.refl (bl []) w0
 unfold J0u at H
 refine au ?_
 refine sbx hO fun w1 B2 s hO => ?_
 refine sal hO fun w4 B5 s hO => ?_
 refine au ?_
 refine zs (J0g (vs := [.int .i64 d.Letters, .int .i64 d.Start, .slice aa d.Final.length ad, .slice af d.Next.length ag]) (i := 0) 1 hO rfl rfl Try.underlying25 rfl ti25 rfl) ?_
 refine zcr (J00 body61 rfl (J0s hO.lt aO.u bQ.u H)) fun _ w8 => e1 fun r7 => sc0 hO fun s hO => fun H => ?_
 refine au ?_
 refine scm H (fun h9 H => ?_) fun h9 H => ?_
 ·refine au ?_
  refine sal hO fun w10 B11 s hO => ?_
  refine au ?_
  refine zs (J0g (vs := [.int .i64 d.Letters, .int .i64 d.Start, .slice aa d.Final.length ad, .slice af d.Next.length ag]) (i := 0) 2 hO rfl rfl Try.underlying25 rfl ti25 rfl) ?_
  refine zcr (J00 body22 rfl (J2N hO.lt aO.u bQ.u H)) fun _ w14 => e4 fun r13 bD bE cI => e1 fun cJ => sc0 hO fun s hO => d2 fun ci cX H => ?_
  refine GoR.inl (vs := [.pointer (some ⟨B11, 0, none⟩), .agg #[.int .i64 r13.Letters, .int .i64 r13.Start, .slice bD r13.Final.length bE, .slice cI r13.Next.length cJ]]) (caps := []) rfl rfl body62 Try.func62 rfl Try.ntmps62 rfl rfl rfl ?_
  intro RhR15 hR15
  refine au ?_
  refine sbx hO fun w16 B17 s hO => ?_
  refine au ?_
  refine sln0 ?_
  refine au ?_
  replace H := (H ci.bd)
  obtain ⟨h19, H⟩ := H
  refine zo (J0e rfl rfl (wrap_i64 h19)) ?_
  refine scm H (fun h20 H => ?_) fun h20 H => ?_
  ·refine au ?_
   refine Go1.ret1V Try.func62 rfl (show _ = .int .i64 (3 : Int) from rfl) ?_
   refine hR15 _ _ ?_
   refine au ?_
   refine zo (fun w => opB (J3I rfl rfl w) (ndF (by decide))) ?_
   refine au ?_
   refine zo (J0c Try.underlying33 ti33 (pl := [(0, 1), (1, 1), (2, 1), (3, 1), (4, 1), (5, 1)]) (vs := []) (cs := #[.int .i64 (0 : Int), .slice none 0 0, .slice none 0 0, .slice none 0 0, .slice none 0 0, .slice none 0 0]) (by kernel_rfl) rfl (by kernel_rfl)) ?_
   refine au ?_
   refine sba 2 hO fun w21 s hO => ?_
   refine au ?_
   refine Go1.retC2 Try.func19 rfl rfl (J01 (vs := [.int .i64 (0 : Int), .slice none 0 0, .slice none 0 0, .slice none 0 0, .slice none 0 0, .slice none 0 0]) 2 hO rfl rfl Try.underlying33 rfl ti33) ⟨((⟨(0 : Int), ([] : List (List Int)), ([] : List Str), ([] : List Int), ([] : List Bool), ([] : List Bool)⟩ : Syntactic)), _, _, _, _, _, _, _, _, _, _, _, ?_, frs, (ISl.null _ _ _), (ISl.null _ _ _), (ISl.null _ _ _), (ISl.null _ _ _), (ISl.null _ _ _), H⟩
   exact rfl
  refine au ?_
  refine zo (fun w => opB (J3i Try.underlying23 rfl rfl w) rfl) ?_
  refine au ?_
  obtain ⟨h29, H⟩ := H
  obtain ⟨h30, H⟩ := H
  have zz := t2makeS (m := r13.Letters) (e' := 3) Fl.i Try.underlying23 ti31 hO h29 h30 (by decide)
  obtain ⟨w22, p23, ux, Dj, uy, hz32⟩ := zz
  refine zg (uy rfl rfl) ?_
  refine nst ux fun s hO => ?_
  refine au ?_
  refine sbs 2 hO fun w33 s hO => ?_
  refine au ?_
  refine zo (J0O Try.underlying23 rfl (t2neq 0 hO rfl)) ?_
  refine au ?_
  refine sdr [4] hO fun s hO => ?_
  refine lw H (fun (cN, cK) σ w => ∃ kt, (fun Z => agrees σ [(0, .pointer (some ⟨B11, 0, none⟩)), (3, .pointer (some ⟨B17, 0, none⟩)), (5, .int .i64 (r13.Final.length : Int)), (33, .int .i64 ((List.replicate r13.Letters.toNat ([] : List Int)).length : Int)), (34, .int .i64 (cN : Int))] ∧ Owns w0.heap.size w Z A ∧ ISl (Rp.bool) (bl Z ++ A) w bD bE r13.Final ∧ ISl (Rp.sl (Rp.int .i64)) (bl Z ++ A) w cI cJ r13.Next ∧ Fr (bl []) w0 (bl Z) w) [t2 Fl.i 31 3 p23 r13.Letters.toNat r13.Letters.toNat kt cK, .blk B17 (.cells #[.int .i64 r13.Letters, .int .i64 r13.Start, .slice bD r13.Final.length bE, .slice cI r13.Next.length cJ] 25 (0, 0)), .blk B11 (.cells #[.slice p23 r13.Letters.toNat r13.Letters.toNat, .slice none 0 0, .int .i64 (0 : Int)] 83 (0, 0)), .blk B5 (.cells #[.int .i64 (0 : Int), .slice none 0 0, .slice none 0 0, .slice none 0 0, .slice none 0 0, .slice none 0 0] 33 (0, 0))]) ⟨_, agr, hO, ci.u, cX.u, fr⟩ ?_
  refine fun X1 => p1 fun cN cK => fun H hX1 σ w34 => e1 fun kt => d4 fun hag hO ci cX hB => ?_
  dsimp only at H
  refine Go1.keep _ hag ?_
  revert hO; repeat (rename Owns _ _ _ _ => q; clear q)
  intro hO; repeat (rename Sq _ _ _ _ _ _ => q; clear q)
  refine au ?_
  refine scm H (fun h38 H => ?_) fun h38 H => ?_
  ·refine au ?_
   refine lw H (fun (k2_40, d_41) σ w => ∃ e9, (fun Z => agrees σ [(0, .pointer (some ⟨B11, 0, none⟩)), (3, .pointer (some ⟨B17, 0, none⟩)), (5, .int .i64 (r13.Final.length : Int)), (6, .int .i64 (cN : Int)), (33, .int .i64 ((List.replicate r13.Letters.toNat ([] : List Int)).length : Int)), (34, .int .i64 (cN : Int)), (37, .int .i64 (r13.Final.length : Int)), (38, .int .i64 (k2_40 : Int))] ∧ Owns w0.heap.size w Z A ∧ ISl (Rp.bool) (bl Z ++ A) w bD bE r13.Final ∧ ISl (Rp.sl (Rp.int .i64)) (bl Z ++ A) w cI cJ r13.Next ∧ Fr (bl []) w0 (bl Z) w) [t2 Fl.i 31 3 p23 r13.Letters.toNat r13.Letters.toNat e9 d_41, .blk B17 (.cells #[.int .i64 r13.Letters, .int .i64 r13.Start, .slice bD r13.Final.length bE, .slice cI r13.Next.length cJ] 25 (0, 0)), .blk B11 (.cells #[.slice p23 r13.Letters.toNat r13.Letters.toNat, .slice none 0 0, .int .i64 (0 : Int)] 83 (0, 0)), .blk B5 (.cells #[.int .i64 (0 : Int), .slice none 0 0, .slice none 0 0, .slice none 0 0, .slice none 0 0, .slice none 0 0] 33 (0, 0))]) ⟨_, agr, hO, ci, cX, fr⟩ ?_
   refine fun X2 => p1 fun k2_40 d_41 => fun H hX2 σ w39 => e1 fun e9 => d4 fun hag hO ci cX hB => ?_
   dsimp only at H
   refine Go1.keep _ hag ?_
   revert hO; repeat (rename Owns _ _ _ _ => q; clear q)
   intro hO; repeat (rename Sq _ _ _ _ _ _ => q; clear q)
   refine au ?_
   refine scm H (fun h43 H => ?_) fun h43 H => ?_
   ·refine au ?_
    refine Go1.drawT (ok := fun _ => True) Same.tr [26, 28] 29 (.qp 0 (.qp 1 (.qp 2 (.qp 4 (.qp 5 (.qp 6 (.qp 7 (.qs 8 (.qp 9 (.qp 10 (.qs 11 (.qp 12 (.qp 13 (.qp 14 (.qs 15 (.qp 16 (.qs 17 (.qp 18 (.qp 19 (.qs 20 (.qp 21 (.qp 22 (.qs 23 (.qp 24 (.alt 3 (.alt 25 (.alt 26 (.qp 27 (.alt 28 .nil .fin)) .fin) .fin) (.alt 25 (.alt 3 (.alt 26 (.qp 27 (.alt 28 .nil .fin)) .fin) (.alt 26 (.alt 3 (.qp 27 (.alt 28 .nil .fin)) .fin) .fin)) .fin)))))))))))))))))))))))))) mixed (by kernel_rfl) ?_
    intro w44 yb
    refine sm hO yb fun s hO => ?_
    refine au ?_
    refine sbl 2 ?_
    refine au ?_
    obtain ⟨h46, H⟩ := H
    obtain ⟨h47, H⟩ := H
    refine GoT.pure rfl (J02 Try.underlying23 ti31 rfl rfl h46 (ltn (t2neq 0 hO rfl) h47) (t2some 0 hO rfl h46 h47)) rfl rfl ?_
    refine GoT.stable rfl (t2head 0 hO rfl h46 h47 Try.underlying31 rfl rfl) rfl rfl ?_
    refine au ?_
    refine sbl 2 ?_
    refine au ?_
    refine sbl 1 ?_
    refine au ?_
    refine sxls hO cX.u H.1 H.2.1 fun p48 c49 fI => ?_
    refine au ?_
    refine sxl hO fI.u H.2.2.1 H.2.2.2.1 ?_
    have h51 := H.1
    have h52 := H.2.1
    have h53 := H.2.2.1
    have h54 := H.2.2.2.1
    replace H := H.2.2.2.2
    obtain ⟨h55, H⟩ := H
    refine GoT.pure rfl (J0e rfl rfl (wrap_i64 h55)) rfl rfl ?_
    refine GoT.both ?_ ?_
    ·skip
     skip
     refine sbl 2 ?_
     skip
     refine sbu Fl.i 3 [((0 : Int) + (ix (ix r13.Next (k2_40 : Int)) (cN : Int)))] hO fun w56 p57 s hO => ?_
     skip
     refine sfr 1 hO fun s hO => ?_
     have zz := t2take (hf := Fl.i) hO h46 h47
     obtain ⟨yc, kC, l5⟩ := zz
     refine nst kC fun s hO => ?_
     have yd := l5 (bl [.row 3 1 (e9 (cN : Int).toNat).1 ((ix d_41 (cN : Int)).length) ((e9 (cN : Int).toNat).2) yc, t2h Fl.i 31 3 p23 r13.Letters.toNat r13.Letters.toNat e9 d_41 (cN : Int).toNat, t1 Fl.i 3 p57 1 1 [((0 : Int) + (ix (ix r13.Next (k2_40 : Int)) (cN : Int)))], .blk B17 (.cells #[.int .i64 r13.Letters, .int .i64 r13.Start, .slice bD r13.Final.length bE, .slice cI r13.Next.length cJ] 25 (0, 0)), .blk B11 (.cells #[.slice p23 r13.Letters.toNat r13.Letters.toNat, .slice none 0 0, .int .i64 (0 : Int)] 83 (0, 0)), .blk B5 (.cells #[.int .i64 (0 : Int), .slice none 0 0, .slice none 0 0, .slice none 0 0, .slice none 0 0, .slice none 0 0] 33 (0, 0))] ++ A)
     refine sfz 2 hO fun s hO ye yf => ?_
     obtain ⟨h66, H⟩ := H
     have zz := oapp Try.underlying31 ti3 rfl 0 hO rfl yd.u ye yf h66 (by decide)
     obtain ⟨w67, p68, c69, Dk, uz, qN, uA⟩ := zz
     dsimp only [sS, sZ] at qN
     refine GoT.stepX rfl (uA (by exact rfl) (by exact rfl)) rfl rfl rfl ?_
     refine nst uz fun s hO => ?_
     obtain ⟨h75, H⟩ := H
     obtain ⟨h76, H⟩ := H
     refine GoT.pure rfl (J02 Try.underlying23 ti31 rfl rfl h75 (ltn (t2neqH 1 hO rfl) h76) (t2someH 1 hO rfl h75 h76)) rfl rfl ?_
     skip
     refine sfr 1 hO fun s hO => ?_
     refine sfr 1 hO fun s hO => ?_
     have zz := t2fix (hf := Fl.i) hO qN.u h75 h76 rfl
     obtain ⟨w77, kz, kA⟩ := zz
     refine GoT.stepX rfl (kA Try.underlying31 rfl ti31 (by exact rfl) (by exact rfl)) rfl rfl rfl ?_
     refine nst kz fun s hO => ?_
     refine au ?_
     refine sinc (natbd h43 ci.bd) ?_
     refine au ?_
     exact hX2 _ H _ _ ⟨_, agr, hO, ci.u, cX.u, fr⟩
    skip
    refine sbu Fl.i 3 [((0 : Int) + (ix (ix r13.Next (k2_40 : Int)) (cN : Int)))] hO fun w80 p81 s hO => ?_
    refine GoT.both ?_ ?_
    ·skip
     skip
     refine sbl 3 ?_
     skip
     refine sfr 1 hO fun s hO => ?_
     have zz := t2take (hf := Fl.i) hO h46 h47
     obtain ⟨yg, uB, yh⟩ := zz
     refine nst uB fun s hO => ?_
     have yj := yh (bl [.row 3 1 (e9 (cN : Int).toNat).1 ((ix d_41 (cN : Int)).length) ((e9 (cN : Int).toNat).2) yg, t2h Fl.i 31 3 p23 r13.Letters.toNat r13.Letters.toNat e9 d_41 (cN : Int).toNat, t1 Fl.i 3 p81 1 1 [((0 : Int) + (ix (ix r13.Next (k2_40 : Int)) (cN : Int)))], .blk B17 (.cells #[.int .i64 r13.Letters, .int .i64 r13.Start, .slice bD r13.Final.length bE, .slice cI r13.Next.length cJ] 25 (0, 0)), .blk B11 (.cells #[.slice p23 r13.Letters.toNat r13.Letters.toNat, .slice none 0 0, .int .i64 (0 : Int)] 83 (0, 0)), .blk B5 (.cells #[.int .i64 (0 : Int), .slice none 0 0, .slice none 0 0, .slice none 0 0, .slice none 0 0, .slice none 0 0] 33 (0, 0))] ++ A)
     refine sfz 2 hO fun s hO yk yl => ?_
     obtain ⟨h90, H⟩ := H
     have zz := oapp Try.underlying31 ti3 rfl 0 hO rfl yj.u yk yl h90 (by decide)
     obtain ⟨w91, p92, c93, Dl, uC, qO, uD⟩ := zz
     dsimp only [sS, sZ] at qO
     refine GoT.stepX rfl (uD (by exact rfl) (by exact rfl)) rfl rfl rfl ?_
     refine nst uC fun s hO => ?_
     obtain ⟨h99, H⟩ := H
     obtain ⟨kE, H⟩ := H
     refine GoT.pure rfl (J02 Try.underlying23 ti31 rfl rfl h99 (ltn (t2neqH 1 hO rfl) kE) (t2someH 1 hO rfl h99 kE)) rfl rfl ?_
     skip
     refine sfr 1 hO fun s hO => ?_
     refine sfr 1 hO fun s hO => ?_
     have zz := t2fix (hf := Fl.i) hO qO.u h99 kE rfl
     obtain ⟨wt, qP, qQ⟩ := zz
     refine GoT.stepX rfl (qQ Try.underlying31 rfl ti31 (by exact rfl) (by exact rfl)) rfl rfl rfl ?_
     refine nst qP fun s hO => ?_
     refine au ?_
     refine sinc (natbd h43 ci.bd) ?_
     refine au ?_
     exact hX2 _ H _ _ ⟨_, agr, hO, ci.u, cX.u, fr⟩
    skip
    refine sfr 1 hO fun s hO => ?_
    have zz := t2take (hf := Fl.i) hO h46 h47
    obtain ⟨uE, qR, uF⟩ := zz
    refine nst qR fun s hO => ?_
    have uG := uF (bl [.row 3 1 (e9 (cN : Int).toNat).1 ((ix d_41 (cN : Int)).length) ((e9 (cN : Int).toNat).2) uE, t2h Fl.i 31 3 p23 r13.Letters.toNat r13.Letters.toNat e9 d_41 (cN : Int).toNat, t1 Fl.i 3 p81 1 1 [((0 : Int) + (ix (ix r13.Next (k2_40 : Int)) (cN : Int)))], .blk B17 (.cells #[.int .i64 r13.Letters, .int .i64 r13.Start, .slice bD r13.Final.length bE, .slice cI r13.Next.length cJ] 25 (0, 0)), .blk B11 (.cells #[.slice p23 r13.Letters.toNat r13.Letters.toNat, .slice none 0 0, .int .i64 (0 : Int)] 83 (0, 0)), .blk B5 (.cells #[.int .i64 (0 : Int), .slice none 0 0, .slice none 0 0, .slice none 0 0, .slice none 0 0, .slice none 0 0] 33 (0, 0))] ++ A)
    refine sfz 2 hO fun s hO uH uI => ?_
    obtain ⟨jj, H⟩ := H
    have zz := oapp Try.underlying31 ti3 rfl 0 hO rfl uG.u uH uI jj (by decide)
    obtain ⟨Dn, Do, Dp, Ad, qS, oF, qT⟩ := zz
    dsimp only [sS, sZ] at oF
    refine GoT.stepX rfl (qT (by exact rfl) (by exact rfl)) rfl rfl rfl ?_
    refine nst qS fun s hO => ?_
    skip
    refine sbl 3 ?_
    obtain ⟨mV, H⟩ := H
    obtain ⟨ld, H⟩ := H
    refine GoT.pure rfl (J02 Try.underlying23 ti31 rfl rfl mV (ltn (t2neqH 1 hO rfl) ld) (t2someH 1 hO rfl mV ld)) rfl rfl ?_
    skip
    refine sfr 1 hO fun s hO => ?_
    refine sfr 1 hO fun s hO => ?_
    have zz := t2fix (hf := Fl.i) hO oF.u mV ld rfl
    obtain ⟨Dq, qU, jk⟩ := zz
    refine GoT.stepX rfl (jk Try.underlying31 rfl ti31 (by exact rfl) (by exact rfl)) rfl rfl rfl ?_
    refine nst qU fun s hO => ?_
    refine au ?_
    refine sinc (natbd h43 ci.bd) ?_
    refine au ?_
    exact hX2 _ H _ _ ⟨_, agr, hO, ci.u, cX.u, fr⟩
   refine au ?_
   obtain ⟨mW, H⟩ := H
   refine zo (J0e rfl rfl (wrap_i64 mW)) ?_
   refine au ?_
   exact hX1 _ H _ _ ⟨_, agr, hO, ci.u, cX.u, fr⟩
  refine au ?_
  refine drw 4 [(0, .pure), (1, .pure), (2, .pure), (3, .pure), (4, .stable), (5, .pure), (6, .pure), (7, .pure), (8, .stable), (9, .pure), (10, .stable), (11, .pure), (12, .pure), (13, .stable), (14, .pure), (15, .pure), (16, .pure), (17, .stable), (18, .pure), (19, .loud), (20, .last), (21, .pure), (22, .pure), (23, .last)] hO fun qV s hO => ?_
  refine au ?_
  obtain ⟨ym, H⟩ := H
  refine GoQ.pure rfl (J0e rfl rfl (wrap_i64 ym)) rfl rfl ?_
  refine au ?_
  refine GoQ.pure rfl (J0c Try.underlying120 ti120 (pl := [(0, 1), (1, 1), (2, 1)]) (vs := [(0, .int .i64 ((0 : Int) + r13.Start)), (1, .slice bD r13.Final.length bE), (2, .int .i64 (0 : Int))]) (cs := #[.int .i64 ((0 : Int) + r13.Start), .slice bD r13.Final.length bE, .int .i64 (0 : Int)]) (by kernel_rfl) rfl (by kernel_rfl)) rfl rfl ?_
  have zz := obuildN (r := rppart) (n := 1) (parts := [(0, .agg #[.int .i64 ((0 : Int) + r13.Start), .slice bD r13.Final.length bE, .int .i64 (0 : Int)])]) (vs := [.int .i64 ((0 : Int) + r13.Start), .slice bD r13.Final.length bE, .int .i64 (0 : Int)]) (xs := [(⟨((0 : Int) + r13.Start), r13.Final, (0 : Int)⟩ : part)]) Try.underlying81 ti120 hO (by decide) (by decide) (by kernel_rfl) (Els.consR (us := [.int .i64 ((0 : Int) + r13.Start), .slice bD r13.Final.length bE, .int .i64 (0 : Int)]) rfl ⟨rfl, ⟨bD, bE, rfl, ci.u⟩, rfl⟩ (Els.nil _ _ _) (by simp [mx])) rfl
  obtain ⟨mf, Dr, qW, uJ, uK, qX⟩ := zz
  refine GoQ.loud rfl (qX rfl) uK rfl rfl ?_
  refine nst qW fun s hO => ?_
  refine sfzR 0 hO uJ fun s hO uL kS => ?_
  have g5 := Stp.nil (e := 120) (r := 3) hO
  refine nst g5 fun s hO => ?_
  have i6 := Els.nil (rppart) (bl (.row 120 3 none 0 0 [] :: [t2 Fl.i 31 3 p23 r13.Letters.toNat r13.Letters.toNat kt cK, .blk B17 (.cells #[.int .i64 r13.Letters, .int .i64 r13.Start, .slice bD r13.Final.length bE, .slice cI r13.Next.length cJ] 25 (0, 0)), .blk B11 (.cells #[.slice p23 r13.Letters.toNat r13.Letters.toNat, .slice none 0 0, .int .i64 (0 : Int)] 83 (0, 0)), .blk B5 (.cells #[.int .i64 (0 : Int), .slice none 0 0, .slice none 0 0, .slice none 0 0, .slice none 0 0, .slice none 0 0] 33 (0, 0))]) ++ A) mf
  obtain ⟨qY, H⟩ := H
  have zz := oapp Try.underlying81 ti120 rfl 0 hO rfl i6 uL.u kS qY (by decide)
  obtain ⟨xR, dD, dE, dw, q8, cv, q9⟩ := zz
  dsimp only [sS, sZ] at cv
  refine GoQ.last rfl (q9 (by exact rfl) (by exact rfl)) rfl rfl ?_
  refine nst q8 fun s hO => ?_
  refine au ?_
  refine sbs 3 hO fun qt s hO => ?_
  refine au ?_
  obtain ⟨rf, H⟩ := H
  refine zo (J0e rfl rfl (wrap_i64 rf)) ?_
  refine au ?_
  refine sbs 3 hO fun wy s hO => ?_
  refine au ?_
  refine Go1.ret1V Try.func62 rfl (show _ = .int .i64 (0 : Int) from rfl) ?_
  refine hR15 _ _ ?_
  refine au ?_
  refine zo (fun w => opB (J3I rfl rfl w) (ndT (by decide))) ?_
  refine au ?_
  refine GoR.inl (vs := [.pointer (some ⟨B11, 0, none⟩)]) (caps := []) rfl rfl body63 Try.func63 rfl Try.ntmps63 rfl rfl rfl ?_
  intro RhR152 hR152
  refine au ?_
  refine sal hO fun o6 B154 s hO => ?_
  refine au ?_
  refine sfz2 2 hO fun s hO cO oG => ?_
  refine zcr (J00 body101 (show ([.slice p23 r13.Letters.toNat r13.Letters.toNat, .bool true] : List Value) = [.slice p23 cK.length r13.Letters.toNat, .bool true] from by rw [← oG]) (J3b hO.lt cO H)) fun _ wA => e4 fun r158 r159 cd ce => e4 fun bK bM bH bI => e4 fun cf cg bk bm => e2 fun bW bX => sc0 hO fun s hO => d1 fun aU => d1 fun ai => d4 fun aj aD ah aE H => ?_
  refine au ?_
  refine sal hO fun Ds B162 s hO => ?_
  refine sba 0 hO fun pP s hO => ?_
  refine au ?_
  refine scm H (fun rh H => ?_) fun rh H => ?_
  ·refine au ?_
   refine sln0 ?_
   refine au ?_
   refine scm (H ai.bd) (fun kq H => ?_) fun kq H => ?_
   ·refine au ?_
    refine zo (J0c Try.underlying33 ti33 (pl := [(0, 1), (1, 1), (2, 1), (3, 1), (4, 1), (5, 1)]) (vs := []) (cs := #[.int .i64 (0 : Int), .slice none 0 0, .slice none 0 0, .slice none 0 0, .slice none 0 0, .slice none 0 0]) (by kernel_rfl) rfl (by kernel_rfl)) ?_
    refine sba 1 hO fun o8 s hO => ?_
    refine au ?_
    refine Go1.retC3V Try.func63 rfl rfl (J01 (vs := [.int .i64 (0 : Int), .slice none 0 0, .slice none 0 0, .slice none 0 0, .slice none 0 0, .slice none 0 0]) 1 hO rfl rfl Try.underlying33 rfl ti33) (show _ = .slice none 0 0 from rfl) (show _ = .int .i64 (3 : Int) from rfl) ?_
    refine hR152 _ _ ?_
    refine au ?_
    refine sal hO fun pQ B169 s hO => ?_
    refine sba 0 hO fun lW s hO => ?_
    refine au ?_
    refine zo (fun w => opB (J3I rfl rfl w) (ndF (by decide))) ?_
    refine au ?_
    refine zo (J0c Try.underlying33 ti33 (pl := [(0, 1), (1, 1), (2, 1), (3, 1), (4, 1), (5, 1)]) (vs := []) (cs := #[.int .i64 (0 : Int), .slice none 0 0, .slice none 0 0, .slice none 0 0, .slice none 0 0, .slice none 0 0]) (by kernel_rfl) rfl (by kernel_rfl)) ?_
    refine au ?_
    refine sba 6 hO fun mh s hO => ?_
    refine au ?_
    refine Go1.retC2 Try.func19 rfl rfl (J01 (vs := [.int .i64 (0 : Int), .slice none 0 0, .slice none 0 0, .slice none 0 0, .slice none 0 0, .slice none 0 0]) 6 hO rfl rfl Try.underlying33 rfl ti33) ⟨((⟨(0 : Int), ([] : List (List Int)), ([] : List Str), ([] : List Int), ([] : List Bool), ([] : List Bool)⟩ : Syntactic)), _, _, _, _, _, _, _, _, _, _, _, ?_, frs, (ISl.null _ _ _), (ISl.null _ _ _), (ISl.null _ _ _), (ISl.null _ _ _), (ISl.null _ _ _), H⟩
    exact rfl
   refine au ?_
   refine drA Same.tr 1 [(0, .pure), (1, .pure), (2, .pure), (3, .stable), (4, .pure), (5, .pure), (7, .pure), (9, .pure), (10, .stable), (11, .pure), (12, .stable), (14, .pure), (13, .loud), (6, .alloc), (8, .alloc), (15, .alloc), (16, .pure), (17, .alloc), (18, .last)] hO fun rk s hO => ?_
   have i7 := hO.le
   have hw175 := (fr : Fr (bl []) w0 _ rk).ch.size
   refine au ?_
   refine au ?_
   refine au ?_
   refine sbl 4 ?_
   refine slnN oG ?_
   refine au ?_
   refine au ?_
   refine au ?_
   refine sbl 0 ?_
   refine sxls hO ah.u (H cO.bd).1 (H cO.bd).2.1 fun Du Dv uM => ?_
   refine au ?_
   refine GoQA.loudI rfl rfl fun xo A180 uN => ?_
   refine sgw uN hO fun s hO => ?_
   have Dw := (H cO.bd).1
   have Dx := (H cO.bd).2.1
   refine GoAt.call (J00 body86 rfl (J07 hO.lt uM.u (H cO.bd).2.2)) (fun _ _ hr => ⟨fun _ => saq hr, Same.kp hO (saq hr)⟩) rfl fun _ pe => e4 fun r182 cH cE cG => sA1 hO fun s hO => fun H => ?_
   obtain ⟨ks, H⟩ := H
   obtain ⟨ro, H⟩ := H
   refine GoQA.alloc rfl rfl (alMake2 (e' := 3) Fl.i Try.underlying23 ti31 ks ro (by decide) rfl rfl) ?_
   intro yo A190 c5 A192 uO uP hd195 hnb196 hh197
   refine sgw uO hO fun s hO => ?_
   refine sgn (e := t2 Fl.i 31 3 (some ⟨c5, 0, none⟩) r158.Elems.length r158.Elems.length ((fun _ => (none, 0))) (List.replicate r158.Elems.length ([] : List Int))) uP hO i7 hw175 hnb196 (J5W c5) hh197 hd195 (fr : Fr (bl []) w0 _ yo) fun s hO hB => ?_
   obtain ⟨rp, H⟩ := H
   obtain ⟨mX, H⟩ := H
   have zz := alMakeE (n := (r158.Elems.length : Int)) (r := Rp.str) (d := ([] : Str)) Try.underlying30 ti9 (fun _ _ => ⟨rfl, Nat.zero_le _⟩) rfl rp mX (by decide)
   obtain ⟨uQ, hal214, uR⟩ := zz
   refine GoQA.alloc rfl rfl (hal214 rfl rfl) ?_
   intro rq A202 dp A204 uS uT hd207 hnb208 hh209
   refine sgw uS hO fun s hO => ?_
   have lg := uR (bl [t2 Fl.i 31 3 (some ⟨c5, 0, none⟩) r158.Elems.length r158.Elems.length ((fun _ => (none, 0))) (List.replicate r158.Elems.length ([] : List Int)), t1 Fl.i 3 cE cH cG r182, .blk B162 (.cells #[.int .i64 r158.Points, .bool r158.Monoid, .slice cd r158.Gens.length ce, .slice bK r158.Elems.length bM, .slice bH r158.Prefix.length bI, .slice cf r158.Last.length cg, .slice bk r158.Right.length bm, .slice bW r158.Rules.length bX, .int .i64 r158.Done] 123 (0, 0)), .blk B154 (.cells #[.int .i64 (0 : Int), .slice none 0 0, .slice none 0 0, .slice none 0 0, .slice none 0 0, .slice none 0 0] 33 (0, 0)), .row 120 3 dD (0 + 1) dE dw, .blk B17 (.cells #[.int .i64 r13.Letters, .int .i64 r13.Start, .slice bD r13.Final.length bE, .slice cI r13.Next.length cJ] 25 (0, 0)), .blk B11 (.cells #[.slice p23 r13.Letters.toNat r13.Letters.toNat, .slice dD (0 + 1) dE, .int .i64 ((0 : Int) + (r13.Final.length : Int))] 83 (0, 0)), .blk B5 (.cells #[.int .i64 (0 : Int), .slice none 0 0, .slice none 0 0, .slice none 0 0, .slice none 0 0, .slice none 0 0] 33 (0, 0))] ++ A202) rq
   refine sgn (e := .row 9 1 (some ⟨dp, 0, none⟩) r158.Elems.length r158.Elems.length uQ) uT hO i7 hw175 hnb208 rfl hh209 hd207 (fr : Fr (bl []) w0 _ rq) fun s hO hB => ?_
   replace lg := lg.ch s.ch
   refine cl1 Fl.str 0 hO lg.u fun s hO => ?_
   obtain ⟨rs, H⟩ := H
   obtain ⟨mY, H⟩ := H
   have zz := alMakeE (n := (r158.Elems.length : Int)) (r := Rp.bool) (d := false) Try.underlying22 ti4 (fun _ _ => rfl) rfl rs mY (by decide)
   obtain ⟨uU, hal230, uV⟩ := zz
   refine GoQA.alloc rfl rfl (hal230 rfl rfl) ?_
   intro mj A218 dq A220 uW uX hd223 hnb224 hh225
   refine sgw uW hO fun s hO => ?_
   have lh := uV (bl [t1 Fl.str 9 (some ⟨dp, 0, none⟩) r158.Elems.length r158.Elems.length (List.replicate r158.Elems.length (([] : Str))), t2 Fl.i 31 3 (some ⟨c5, 0, none⟩) r158.Elems.length r158.Elems.length ((fun _ => (none, 0))) (List.replicate r158.Elems.length ([] : List Int)), t1 Fl.i 3 cE cH cG r182, .blk B162 (.cells #[.int .i64 r158.Points, .bool r158.Monoid, .slice cd r158.Gens.length ce, .slice bK r158.Elems.length bM, .slice bH r158.Prefix.length bI, .slice cf r158.Last.length cg, .slice bk r158.Right.length bm, .slice bW r158.Rules.length bX, .int .i64 r158.Done] 123 (0, 0)), .blk B154 (.cells #[.int .i64 (0 : Int), .slice none 0 0, .slice none 0 0, .slice none 0 0, .slice none 0 0, .slice none 0 0] 33 (0, 0)), .row 120 3 dD (0 + 1) dE dw, .blk B17 (.cells #[.int .i64 r13.Letters, .int .i64 r13.Start, .slice bD r13.Final.length bE, .slice cI r13.Next.length cJ] 25 (0, 0)), .blk B11 (.cells #[.slice p23 r13.Letters.toNat r13.Letters.toNat, .slice dD (0 + 1) dE, .int .i64 ((0 : Int) + (r13.Final.length : Int))] 83 (0, 0)), .blk B5 (.cells #[.int .i64 (0 : Int), .slice none 0 0, .slice none 0 0, .slice none 0 0, .slice none 0 0, .slice none 0 0] 33 (0, 0))] ++ A218) mj
   refine sgn (e := .row 4 1 (some ⟨dq, 0, none⟩) r158.Elems.length r158.Elems.length uU) uX hO i7 hw175 hnb224 rfl hh225 hd223 (fr : Fr (bl []) w0 _ mj) fun s hO hB => ?_
   replace lh := lh.ch s.ch
   refine cl1 Fl.bool 0 hO lh.u fun s hO => ?_
   refine GoQA.pure rfl (J0c Try.underlying33 ti33 (pl := [(0, 1), (1, 1), (2, 1), (3, 1), (4, 1), (5, 1)]) (vs := [(0, .int .i64 (cK.length : Int)), (1, .slice (some ⟨c5, 0, none⟩) r158.Elems.length r158.Elems.length), (2, .slice (some ⟨dp, 0, none⟩) r158.Elems.length r158.Elems.length), (3, .slice cE cH cG), (5, .slice (some ⟨dq, 0, none⟩) r158.Elems.length r158.Elems.length)]) (cs := #[.int .i64 (cK.length : Int), .slice (some ⟨c5, 0, none⟩) r158.Elems.length r158.Elems.length, .slice (some ⟨dp, 0, none⟩) r158.Elems.length r158.Elems.length, .slice cE cH cG, .slice none 0 0, .slice (some ⟨dq, 0, none⟩) r158.Elems.length r158.Elems.length]) (by kernel_rfl) rfl (by kernel_rfl)) rfl rfl ?_
   refine GoQA.alloc rfl rfl (alAlloc (cs := #[.int .i64 (0 : Int), .slice none 0 0, .slice none 0 0, .slice none 0 0, .slice none 0 0, .slice none 0 0]) ti33 rfl) ?_
   intro yr A234 eh A236 uY u0 hd239 hnb240 hh241
   refine sgw uY hO fun s hO => ?_
   refine sgn (e := .blk eh (.cells #[.int .i64 (0 : Int), .slice none 0 0, .slice none 0 0, .slice none 0 0, .slice none 0 0, .slice none 0 0] 33 (0, 0))) u0 hO i7 hw175 hnb240 rfl hh241 hd239 (fr : Fr (bl []) w0 _ yr) fun s hO hB => ?_
   refine GoQA.lastI rfl rfl fun Dy A243 u4 => ?_
   refine sgw u4 hO fun s hO => ?_
   refine sba 0 hO fun Dz s hO => ?_
   refine GoQA.nil fun yu A247 u5 u6 => ?_
   refine sgw u5 hO fun s hO => ?_
   refine spm u6 hO fun s hO => ?_
   refine au ?_
   have hB := (fr : Fr (bl []) w0 _ yu)
   replace cv := cv.o hO
   replace ai := ai.o hO
   replace aU := aU.o hO
   replace aD := aD.o hO
   replace aj := aj.o hO
   replace ah := ah.o hO
   replace aE := aE.o hO
   replace cO := cO.o hO
   revert hO; repeat (rename Owns _ _ _ _ => q; clear q)
   intro hO; repeat (rename Sq _ _ _ _ _ _ => q; clear q)
   refine au ?_
   refine sdr [8] hO fun s hO => ?_
   refine lw H (fun (fM, d_252, eN) σ w => (fun Z => agrees σ [(0, .pointer (some ⟨B11, 0, none⟩)), (2, .pointer (some ⟨B154, 0, none⟩)), (5, .pointer (some ⟨B162, 0, none⟩)), (7, .int .i64 (r158.Elems.length : Int)), (8, .pointer (some ⟨eh, 0, none⟩)), (9, .int .i64 (fM : Int))] ∧ Owns w0.heap.size w Z A ∧ Els (rppart) (bl Z ++ A) w dw ((([] : List part)) ++ ([(⟨((0 : Int) + r13.Start), r13.Final, (0 : Int)⟩ : part)])) ∧ ISl (Rp.sl (Rp.int .i64)) (bl Z ++ A) w p23 r13.Letters.toNat cK ∧ ISl (Rp.sl (Rp.int .i64)) (bl Z ++ A) w cd ce r158.Gens ∧ ISl (Rp.sl (Rp.int .i64)) (bl Z ++ A) w bK bM r158.Elems ∧ ISl (Rp.int .i64) (bl Z ++ A) w bH bI r158.Prefix ∧ ISl (Rp.int .i64) (bl Z ++ A) w cf cg r158.Last ∧ ISl (Rp.sl (Rp.int .i64)) (bl Z ++ A) w bk bm r158.Right ∧ ISl (rpRule) (bl Z ++ A) w bW bX r158.Rules ∧ Fr (bl []) w0 (bl Z) w) [.blk eh (.cells #[.int .i64 (cK.length : Int), .slice (some ⟨c5, 0, none⟩) r158.Elems.length r158.Elems.length, .slice (some ⟨dp, 0, none⟩) r158.Elems.length r158.Elems.length, .slice cE cH cG, .slice none 0 0, .slice (some ⟨dq, 0, none⟩) r158.Elems.length r158.Elems.length] 33 (0, 0)), t1 Fl.bool 4 (some ⟨dq, 0, none⟩) r158.Elems.length r158.Elems.length d_252, t1 Fl.str 9 (some ⟨dp, 0, none⟩) r158.Elems.length r158.Elems.length eN, t2 Fl.i 31 3 (some ⟨c5, 0, none⟩) r158.Elems.length r158.Elems.length ((fun _ => (none, 0))) (List.replicate r158.Elems.length ([] : List Int)), t1 Fl.i 3 cE cH cG r182, .blk B162 (.cells #[.int .i64 r158.Points, .bool r158.Monoid, .slice cd r158.Gens.length ce, .slice bK r158.Elems.length bM, .slice bH r158.Prefix.length bI, .slice cf r158.Last.length cg, .slice bk r158.Right.length bm, .slice bW r158.Rules.length bX, .int .i64 r158.Done] 123 (0, 0)), .blk B154 (.cells #[.int .i64 (0 : Int), .slice none 0 0, .slice none 0 0, .slice none 0 0, .slice none 0 0, .slice none 0 0] 33 (0, 0)), .row 120 3 dD (0 + 1) dE dw, .blk B11 (.cells #[.slice p23 r13.Letters.toNat r13.Letters.toNat, .slice dD (0 + 1) dE, .int .i64 ((0 : Int) + (r13.Final.length : Int))] 83 (0, 0)), .blk B5 (.cells #[.int .i64 (0 : Int), .slice none 0 0, .slice none 0 0, .slice none 0 0, .slice none 0 0, .slice none 0 0] 33 (0, 0))]) ⟨agr, hO, cv.u, cO.u, aU.u, ai.u, aj.u, aD.u, ah.u, aE.u, fr⟩ ?_
   refine fun X3 => p2 fun fM d_252 eN => fun H hX3 σ DA => d1 fun hag => d1 fun hO => d1 fun cv => d1 fun cO => d1 fun aU => d1 fun ai => d4 fun aj aD ah aE hB => ?_
   dsimp only at H
   refine Go1.keep _ hag ?_
   revert hO; repeat (rename Owns _ _ _ _ => q; clear q)
   intro hO; repeat (rename Sq _ _ _ _ _ _ => q; clear q)
   refine au ?_
   refine scm H (fun ru H => ?_) fun ru H => ?_
   ·refine au ?_
    refine drw 1 [(0, .pure), (1, .stable), (2, .pure), (3, .pure), (4, .stable), (5, .pure), (6, .stable), (7, .pure), (8, .pure), (9, .stable), (10, .pure), (11, .stable), (12, .pure), (13, .stable), (14, .pure), (15, .pure), (16, .stable), (17, .pure), (18, .pure), (19, .loud), (20, .stable), (21, .pure), (22, .pure), (23, .last)] hO fun DB s hO => ?_
    refine au ?_
    refine sxl hO aj.u H.1 H.2.1 ?_
    refine sxl1 2 hO H.2.2.1 H.2.2.2.1 ?_
    have hle256 := t1le 2 hO H.2.2.1 H.2.2.2.1
    refine au ?_
    refine sxl hO aD.u H.2.2.2.2.1 H.2.2.2.2.2.1 ?_
    have DD := H.1
    have DE := H.2.1
    have DF := H.2.2.1
    have DG := H.2.2.2.1
    have DH := H.2.2.2.2.1
    have DJ := H.2.2.2.2.2.1
    replace H := H.2.2.2.2.2.2
    obtain ⟨yv, H⟩ := H
    refine GoQ.pure rfl (J0e rfl rfl (wrap_i64 yv)) rfl rfl ?_
    refine GoQ.pure rfl (J3R Try.underlying3 Try.underlying5 rfl rfl) rfl rfl ?_
    refine sbu (Fl.int .u8) 5 [(IntKind.u8.wrap ((97 : Int) + (ix r158.Last (fM : Int))))] hO fun DK DL s hO => ?_
    refine op1 0 hO fun gM s hO fe => ?_
    have hle269 := J7K fe.bd
    refine GoQ.stable rfl (oldBytes 0 hO rfl fe.u Try.underlying126 Try.underlying5 Try.underlying9 rfl) rfl rfl ?_
    obtain ⟨rv, H⟩ := H
    refine GoQ.pure rfl (J5R rfl rfl rv) rfl rfl ?_
    refine six1 3 hO H.1 H.2.1 ?_
    refine sst (u := ((ix eN (ix r158.Prefix (fM : Int))) ++ (byt ([(IntKind.u8.wrap ((97 : Int) + (ix r158.Last (fM : Int))))])))) 3 hO H.1 H.2.1 (fun DN s hO => ?_) (hR := by exact fun _ _ => ⟨rfl, (lenApp rv)⟩)
    refine au ?_
    refine six1 2 hO H.2.2.1 H.2.2.2.1 ?_
    refine sst (u := true) 2 hO H.2.2.1 H.2.2.2.1 fun DO s hO => ?_
    refine au ?_
    refine sinc (natbd ru ai.bd) ?_
    refine au ?_
    refine cl1 (Fl.int .u8) 0 hO fe.u fun s hO => ?_
    refine sdr [0] hO fun s hO => ?_
    exact hX3 _ H.2.2.2.2 _ _ ⟨agr, hO, cv.u, cO.u, aU.u, ai.u, aj.u, aD.u, ah.u, aE.u, fr⟩
   refine au ?_
   refine sln0 ?_
   refine au ?_
   refine lw (H ah.bd) (fun (cV, d_275, g6) σ w => ∃ fX, (fun Z => agrees σ [(0, .pointer (some ⟨B11, 0, none⟩)), (2, .pointer (some ⟨B154, 0, none⟩)), (5, .pointer (some ⟨B162, 0, none⟩)), (7, .int .i64 (r158.Elems.length : Int)), (8, .pointer (some ⟨eh, 0, none⟩)), (86, .slice bk r158.Right.length bm), (87, .int .i64 (r158.Right.length : Int)), (88, .int .i64 (cV : Int))] ∧ Owns w0.heap.size w Z A ∧ Els (rppart) (bl Z ++ A) w dw ((([] : List part)) ++ ([(⟨((0 : Int) + r13.Start), r13.Final, (0 : Int)⟩ : part)])) ∧ ISl (Rp.sl (Rp.int .i64)) (bl Z ++ A) w p23 r13.Letters.toNat cK ∧ ISl (Rp.sl (Rp.int .i64)) (bl Z ++ A) w cd ce r158.Gens ∧ ISl (Rp.sl (Rp.int .i64)) (bl Z ++ A) w bK bM r158.Elems ∧ ISl (Rp.int .i64) (bl Z ++ A) w bH bI r158.Prefix ∧ ISl (Rp.int .i64) (bl Z ++ A) w cf cg r158.Last ∧ ISl (Rp.sl (Rp.int .i64)) (bl Z ++ A) w bk bm r158.Right ∧ ISl (rpRule) (bl Z ++ A) w bW bX r158.Rules ∧ Fr (bl []) w0 (bl Z) w) [.blk eh (.cells #[.int .i64 (cK.length : Int), .slice (some ⟨c5, 0, none⟩) r158.Elems.length r158.Elems.length, .slice (some ⟨dp, 0, none⟩) r158.Elems.length r158.Elems.length, .slice cE cH cG, .slice none 0 0, .slice (some ⟨dq, 0, none⟩) r158.Elems.length r158.Elems.length] 33 (0, 0)), t1 Fl.bool 4 (some ⟨dq, 0, none⟩) r158.Elems.length r158.Elems.length d_275, t1 Fl.str 9 (some ⟨dp, 0, none⟩) r158.Elems.length r158.Elems.length eN, t2 Fl.i 31 3 (some ⟨c5, 0, none⟩) r158.Elems.length r158.Elems.length fX g6, t1 Fl.i 3 cE cH cG r182, .blk B162 (.cells #[.int .i64 r158.Points, .bool r158.Monoid, .slice cd r158.Gens.length ce, .slice bK r158.Elems.length bM, .slice bH r158.Prefix.length bI, .slice cf r158.Last.length cg, .slice bk r158.Right.length bm, .slice bW r158.Rules.length bX, .int .i64 r158.Done] 123 (0, 0)), .blk B154 (.cells #[.int .i64 (0 : Int), .slice none 0 0, .slice none 0 0, .slice none 0 0, .slice none 0 0, .slice none 0 0] 33 (0, 0)), .row 120 3 dD (0 + 1) dE dw, .blk B11 (.cells #[.slice p23 r13.Letters.toNat r13.Letters.toNat, .slice dD (0 + 1) dE, .int .i64 ((0 : Int) + (r13.Final.length : Int))] 83 (0, 0)), .blk B5 (.cells #[.int .i64 (0 : Int), .slice none 0 0, .slice none 0 0, .slice none 0 0, .slice none 0 0, .slice none 0 0] 33 (0, 0))]) ⟨_, agr, hO, cv.u, cO.u, aU.u, ai.u, aj.u, aD.u, ah.u, aE.u, fr⟩ ?_
   refine fun X4 => p2 fun cV d_275 g6 => fun H hX4 σ DP => e1 fun fX => d1 fun hag => d1 fun hO => d1 fun cv => d1 fun cO => d1 fun aU => d1 fun ai => d4 fun aj aD ah aE hB => ?_
   dsimp only at H
   refine Go1.keep _ hag ?_
   revert hO; repeat (rename Owns _ _ _ _ => q; clear q)
   intro hO; repeat (rename Sq _ _ _ _ _ _ => q; clear q)
   refine au ?_
   refine scm H (fun m3 H => ?_) fun m3 H => ?_
   ·refine au ?_
    refine sxls hO ah H.1 H.2.1 fun DR DS u7 => ?_
    refine au ?_
    refine drw 1 [(0, .pure), (1, .stable), (2, .pure), (3, .stable), (4, .pure), (5, .stable), (6, .pure), (7, .pure), (8, .loud), (9, .pure), (10, .pure), (11, .last)] hO fun DT s hO => ?_
    refine au ?_
    have DU := H.1
    have DW := H.2.1
    have DX := H.2.2.1
    have eV := H.2.2.2.1
    refine sxb1 1 hO H.2.2.1 H.2.2.2.1 H.2.2.2.2 (fun yw H => ?_) fun yw H => ?_
    ·refine au ?_
     refine six1 1 hO H.1 H.2.1 ?_
     refine sst (u := true) 1 hO H.1 H.2.1 fun DY s hO => ?_
     refine au ?_
     refine drw 1 [(0, .pure), (1, .stable), (2, .pure), (3, .pure), (4, .loud), (5, .pure), (6, .last)] hO fun xD s hO => ?_
     refine au ?_
     refine smk Fl.i H.2.2 hO fun D0 yz s hO => ?_
     have D1 := H.1
     have D2 := H.2.1
     replace H := H.2.2.2.2
     obtain ⟨m5, H⟩ := H
     obtain ⟨m6, H⟩ := H
     refine GoQ.pure rfl (J02 Try.underlying23 ti31 rfl rfl m5 (ltn (t2neq 4 hO rfl) m6) (t2some 4 hO rfl m5 m6)) rfl rfl ?_
     refine op1 0 hO fun Ae s hO u9 => ?_
     refine sfr 4 hO fun s hO => ?_
     refine sfr 1 hO fun s hO => ?_
     have zz := t2put (hf := Fl.i) hO u9.u m5 m6
     obtain ⟨xE, rB, rC⟩ := zz
     refine GoQ.last rfl (rC Try.underlying31 rfl ti31 (by exact rfl) (by exact rfl)) rfl rfl ?_
     refine nst rB fun s hO => ?_
     refine au ?_
     obtain ⟨jQ, H⟩ := H
     obtain ⟨jR, H⟩ := H
     refine zo (J02 Try.underlying23 ti31 rfl rfl jQ (ltn (t2neq 0 hO rfl) jR) (t2some 0 hO rfl jQ jR)) ?_
     refine zs (t2head 0 hO rfl jQ jR Try.underlying31 rfl rfl) ?_
     refine au ?_
     obtain ⟨m7, H⟩ := H
     obtain ⟨m8, H⟩ := H
     refine zo (J02 Try.underlying31 ti3 rfl rfl m7 m8 (t2isome 0 hO rfl jQ jR m7 m8)) ?_
     have zz := t2st (r := Rp.int .i64) (hf := Fl.i) rfl 0 hO rfl jQ jR m7 m8 (v := .int .i64 (cV : Int)) (u := (cV : Int)) rfl rfl
     obtain ⟨D3, rD, rE⟩ := zz
     refine zg (rE Try.underlying3 rfl ti3 (by exact rfl) (by exact rfl)) ?_
     refine nst rD fun s hO => ?_
     refine au ?_
     refine lw H (fun (fw, d_311) σ w => (fun Z => agrees σ [(0, .pointer (some ⟨B11, 0, none⟩)), (2, .pointer (some ⟨B154, 0, none⟩)), (5, .pointer (some ⟨B162, 0, none⟩)), (7, .int .i64 (r158.Elems.length : Int)), (8, .pointer (some ⟨eh, 0, none⟩)), (10, .int .i64 (cV : Int)), (12, .int .i64 (fw : Int)), (86, .slice bk r158.Right.length bm), (87, .int .i64 (r158.Right.length : Int)), (88, .int .i64 (cV : Int))] ∧ Owns w0.heap.size w Z A ∧ Els (rppart) (bl Z ++ A) w dw ((([] : List part)) ++ ([(⟨((0 : Int) + r13.Start), r13.Final, (0 : Int)⟩ : part)])) ∧ ISl (Rp.sl (Rp.int .i64)) (bl Z ++ A) w p23 r13.Letters.toNat cK ∧ ISl (Rp.sl (Rp.int .i64)) (bl Z ++ A) w cd ce r158.Gens ∧ ISl (Rp.sl (Rp.int .i64)) (bl Z ++ A) w bK bM r158.Elems ∧ ISl (Rp.int .i64) (bl Z ++ A) w bH bI r158.Prefix ∧ ISl (Rp.int .i64) (bl Z ++ A) w cf cg r158.Last ∧ ISl (Rp.sl (Rp.int .i64)) (bl Z ++ A) w bk bm r158.Right ∧ ISl (rpRule) (bl Z ++ A) w bW bX r158.Rules ∧ Fr (bl []) w0 (bl Z) w) [t2 Fl.i 31 3 (some ⟨c5, 0, none⟩) r158.Elems.length r158.Elems.length (hup fX (cV : Int).toNat (yz, r158.Elems.length)) d_311, .blk eh (.cells #[.int .i64 (cK.length : Int), .slice (some ⟨c5, 0, none⟩) r158.Elems.length r158.Elems.length, .slice (some ⟨dp, 0, none⟩) r158.Elems.length r158.Elems.length, .slice cE cH cG, .slice none 0 0, .slice (some ⟨dq, 0, none⟩) r158.Elems.length r158.Elems.length] 33 (0, 0)), t1 Fl.bool 4 (some ⟨dq, 0, none⟩) r158.Elems.length r158.Elems.length (st d_275 (0 : Int) true), t1 Fl.str 9 (some ⟨dp, 0, none⟩) r158.Elems.length r158.Elems.length eN, t1 Fl.i 3 cE cH cG r182, .blk B162 (.cells #[.int .i64 r158.Points, .bool r158.Monoid, .slice cd r158.Gens.length ce, .slice bK r158.Elems.length bM, .slice bH r158.Prefix.length bI, .slice cf r158.Last.length cg, .slice bk r158.Right.length bm, .slice bW r158.Rules.length bX, .int .i64 r158.Done] 123 (0, 0)), .blk B154 (.cells #[.int .i64 (0 : Int), .slice none 0 0, .slice none 0 0, .slice none 0 0, .slice none 0 0, .slice none 0 0] 33 (0, 0)), .row 120 3 dD (0 + 1) dE dw, .blk B11 (.cells #[.slice p23 r13.Letters.toNat r13.Letters.toNat, .slice dD (0 + 1) dE, .int .i64 ((0 : Int) + (r13.Final.length : Int))] 83 (0, 0)), .blk B5 (.cells #[.int .i64 (0 : Int), .slice none 0 0, .slice none 0 0, .slice none 0 0, .slice none 0 0, .slice none 0 0] 33 (0, 0))]) ⟨agr, hO, cv.u, cO.u, aU.u, ai.u, aj.u, aD.u, ah.u, aE.u, fr⟩ ?_
     refine fun X5 => p1 fun fw d_311 => fun H hX5 σ D4 => d1 fun hag => d1 fun hO => d1 fun cv => d1 fun cO => d1 fun aU => d1 fun ai => d4 fun aj aD ah aE hB => ?_
     dsimp only at H
     refine Go1.keep _ hag ?_
     revert hO; repeat (rename Owns _ _ _ _ => q; clear q)
     intro hO; repeat (rename Sq _ _ _ _ _ _ => q; clear q)
     refine au ?_
     refine scm H (fun rF H => ?_) fun rF H => ?_
     ·refine au ?_
      refine drw 1 [(0, .pure), (1, .stable), (2, .pure), (3, .pure), (4, .stable), (5, .pure), (6, .pure), (7, .stable), (8, .pure), (9, .stable), (10, .pure), (11, .pure), (12, .stable), (13, .pure), (14, .stable), (15, .pure), (16, .pure), (17, .stable), (18, .pure), (19, .stable), (20, .pure), (21, .stable), (22, .pure), (23, .stable), (24, .pure), (25, .pure), (26, .stable), (27, .pure), (28, .stable), (29, .pure), (30, .last)] hO fun xF s hO => ?_
      refine au ?_
      obtain ⟨jS, H⟩ := H
      obtain ⟨jT, H⟩ := H
      refine GoQ.pure rfl (J02 Try.underlying23 ti31 rfl rfl jS (ltn (t2neq 0 hO rfl) jT) (t2some 0 hO rfl jS jT)) rfl rfl ?_
      refine GoQ.stable rfl (t2head 0 hO rfl jS jT Try.underlying31 rfl rfl) rfl rfl ?_
      refine au ?_
      obtain ⟨jU, H⟩ := H
      obtain ⟨jV, H⟩ := H
      refine GoQ.pure rfl (J02 Try.underlying23 ti31 rfl rfl jU (ltn (t2neq 0 hO rfl) jV) (t2some 0 hO rfl jU jV)) rfl rfl ?_
      refine GoQ.stable rfl (t2head 0 hO rfl jU jV Try.underlying31 rfl rfl) rfl rfl ?_
      refine au ?_
      refine sxl hO aj.u H.1 H.2.1 ?_
      have D5 := H.1
      have D6 := H.2.1
      replace H := H.2.2
      obtain ⟨m9, H⟩ := H
      obtain ⟨na, H⟩ := H
      refine GoQ.pure rfl (J02 Try.underlying31 ti3 rfl rfl m9 na (t2isome 0 hO rfl jU jV m9 na)) rfl rfl ?_
      refine GoQ.stable rfl (t2Int 0 hO rfl jU jV m9 na Try.underlying3 rfl rfl) rfl rfl ?_
      refine sxls hO ah.u H.1 H.2.1 fun D7 D8 va => ?_
      refine au ?_
      refine sxl hO aD.u H.2.2.1 H.2.2.2.1 ?_
      refine sxl hO va.u H.2.2.2.2.1 H.2.2.2.2.2.1 ?_
      have D9 := H.1
      have Ea := H.2.1
      have Eb := H.2.2.1
      have Ec := H.2.2.2.1
      have Ed := H.2.2.2.2.1
      have Ee := H.2.2.2.2.2.1
      replace H := H.2.2.2.2.2.2
      obtain ⟨nb, H⟩ := H
      obtain ⟨nc, H⟩ := H
      refine GoQ.pure rfl (J02 Try.underlying31 ti3 rfl rfl nb nc (t2isome 0 hO rfl jS jT nb nc)) rfl rfl ?_
      have zz := t2st (r := Rp.int .i64) (hf := Fl.i) rfl 0 hO rfl jS jT nb nc (v := .int .i64 (ix (ix r158.Right (ix (ix d_311 (cV : Int)) (ix r158.Prefix (fw : Int)))) (ix r158.Last (fw : Int)))) (u := (ix (ix r158.Right (ix (ix d_311 (cV : Int)) (ix r158.Prefix (fw : Int)))) (ix r158.Last (fw : Int)))) rfl rfl
      obtain ⟨Ef, rG, rH⟩ := zz
      refine GoQ.last rfl (rH Try.underlying3 rfl ti3 (by exact rfl) (by exact rfl)) rfl rfl ?_
      refine nst rG fun s hO => ?_
      refine au ?_
      refine sinc (natbd rF ai.bd) ?_
      refine au ?_
      exact hX5 _ H _ _ ⟨agr, hO, cv.u, cO.u, aU.u, ai.u, aj.u, aD.u, ah.u, aE.u, fr⟩
     refine au ?_
     refine sinc (natbd m3 ah.bd) ?_
     refine au ?_
     refine sfr 9 hO fun s hO => ?_
     refine sfr 9 hO fun s hO => ?_
     refine sfr 9 hO fun s hO => ?_
     refine sfr 9 hO fun s hO => ?_
     refine sfr 9 hO fun s hO => ?_
     refine sfr 9 hO fun s hO => ?_
     refine sfr 6 hO fun s hO => ?_
     refine sfr 9 hO fun s hO => ?_
     refine sfr 9 hO fun s hO => ?_
     refine sfr 9 hO fun s hO => ?_
     exact hX4 _ H _ _ ⟨_, agr, hO, cv.u, cO.u, aU.u, ai.u, aj.u, aD.u, ah.u, aE.u, fr⟩
    refine au ?_
    refine zcq rfl (J00 body102 rfl (J2q hO.lt u7.u H)) fun _ Eg => e1 fun r336 => sq0 hO fun s hO => fun H => ?_
    refine au ?_
    refine six1 1 hO H.1 H.2.1 ?_
    refine sst (u := r336) 1 hO H.1 H.2.1 fun Eh s hO => ?_
    refine au ?_
    refine drw 1 [(0, .pure), (1, .stable), (2, .pure), (3, .pure), (4, .loud), (5, .pure), (6, .last)] hO fun xH s hO => ?_
    refine au ?_
    refine smk Fl.i H.2.2 hO fun xI qi s hO => ?_
    have Ei := H.1
    have Ej := H.2.1
    replace H := H.2.2.2.2
    obtain ⟨ne, H⟩ := H
    obtain ⟨nf, H⟩ := H
    refine GoQ.pure rfl (J02 Try.underlying23 ti31 rfl rfl ne (ltn (t2neq 4 hO rfl) nf) (t2some 4 hO rfl ne nf)) rfl rfl ?_
    refine op1 0 hO fun Af s hO vb => ?_
    refine sfr 4 hO fun s hO => ?_
    refine sfr 1 hO fun s hO => ?_
    have zz := t2put (hf := Fl.i) hO vb.u ne nf
    obtain ⟨Ek, rI, rJ⟩ := zz
    refine GoQ.last rfl (rJ Try.underlying31 rfl ti31 (by exact rfl) (by exact rfl)) rfl rfl ?_
    refine nst rI fun s hO => ?_
    refine au ?_
    obtain ⟨jW, H⟩ := H
    obtain ⟨jX, H⟩ := H
    refine zo (J02 Try.underlying23 ti31 rfl rfl jW (ltn (t2neq 0 hO rfl) jX) (t2some 0 hO rfl jW jX)) ?_
    refine zs (t2head 0 hO rfl jW jX Try.underlying31 rfl rfl) ?_
    refine au ?_
    obtain ⟨ng, H⟩ := H
    obtain ⟨nh, H⟩ := H
    refine zo (J02 Try.underlying31 ti3 rfl rfl ng nh (t2isome 0 hO rfl jW jX ng nh)) ?_
    have zz := t2st (r := Rp.int .i64) (hf := Fl.i) rfl 0 hO rfl jW jX ng nh (v := .int .i64 (cV : Int)) (u := (cV : Int)) rfl rfl
    obtain ⟨El, rK, rL⟩ := zz
    refine zg (rL Try.underlying3 rfl ti3 (by exact rfl) (by exact rfl)) ?_
    refine nst rK fun s hO => ?_
    refine au ?_
    refine lw H (fun (fx, i8) σ w => (fun Z => agrees σ [(0, .pointer (some ⟨B11, 0, none⟩)), (2, .pointer (some ⟨B154, 0, none⟩)), (5, .pointer (some ⟨B162, 0, none⟩)), (7, .int .i64 (r158.Elems.length : Int)), (8, .pointer (some ⟨eh, 0, none⟩)), (10, .int .i64 (cV : Int)), (12, .int .i64 (fx : Int)), (86, .slice bk r158.Right.length bm), (87, .int .i64 (r158.Right.length : Int)), (88, .int .i64 (cV : Int))] ∧ Owns w0.heap.size w Z A ∧ Els (rppart) (bl Z ++ A) w dw ((([] : List part)) ++ ([(⟨((0 : Int) + r13.Start), r13.Final, (0 : Int)⟩ : part)])) ∧ ISl (Rp.sl (Rp.int .i64)) (bl Z ++ A) w p23 r13.Letters.toNat cK ∧ ISl (Rp.sl (Rp.int .i64)) (bl Z ++ A) w cd ce r158.Gens ∧ ISl (Rp.sl (Rp.int .i64)) (bl Z ++ A) w bK bM r158.Elems ∧ ISl (Rp.int .i64) (bl Z ++ A) w bH bI r158.Prefix ∧ ISl (Rp.int .i64) (bl Z ++ A) w cf cg r158.Last ∧ ISl (Rp.sl (Rp.int .i64)) (bl Z ++ A) w bk bm r158.Right ∧ ISl (rpRule) (bl Z ++ A) w bW bX r158.Rules ∧ Fr (bl []) w0 (bl Z) w) [t2 Fl.i 31 3 (some ⟨c5, 0, none⟩) r158.Elems.length r158.Elems.length (hup fX (cV : Int).toNat (qi, r158.Elems.length)) i8, .blk eh (.cells #[.int .i64 (cK.length : Int), .slice (some ⟨c5, 0, none⟩) r158.Elems.length r158.Elems.length, .slice (some ⟨dp, 0, none⟩) r158.Elems.length r158.Elems.length, .slice cE cH cG, .slice none 0 0, .slice (some ⟨dq, 0, none⟩) r158.Elems.length r158.Elems.length] 33 (0, 0)), t1 Fl.bool 4 (some ⟨dq, 0, none⟩) r158.Elems.length r158.Elems.length (st d_275 (0 : Int) r336), t1 Fl.str 9 (some ⟨dp, 0, none⟩) r158.Elems.length r158.Elems.length eN, t1 Fl.i 3 cE cH cG r182, .blk B162 (.cells #[.int .i64 r158.Points, .bool r158.Monoid, .slice cd r158.Gens.length ce, .slice bK r158.Elems.length bM, .slice bH r158.Prefix.length bI, .slice cf r158.Last.length cg, .slice bk r158.Right.length bm, .slice bW r158.Rules.length bX, .int .i64 r158.Done] 123 (0, 0)), .blk B154 (.cells #[.int .i64 (0 : Int), .slice none 0 0, .slice none 0 0, .slice none 0 0, .slice none 0 0, .slice none 0 0] 33 (0, 0)), .row 120 3 dD (0 + 1) dE dw, .blk B11 (.cells #[.slice p23 r13.Letters.toNat r13.Letters.toNat, .slice dD (0 + 1) dE, .int .i64 ((0 : Int) + (r13.Final.length : Int))] 83 (0, 0)), .blk B5 (.cells #[.int .i64 (0 : Int), .slice none 0 0, .slice none 0 0, .slice none 0 0, .slice none 0 0, .slice none 0 0] 33 (0, 0))]) ⟨agr, hO, cv.u, cO.u, aU.u, ai.u, aj.u, aD.u, ah.u, aE.u, fr⟩ ?_
    refine fun X6 => p1 fun fx i8 => fun H hX6 σ Em => d1 fun hag => d1 fun hO => d1 fun cv => d1 fun cO => d1 fun aU => d1 fun ai => d4 fun aj aD ah aE hB => ?_
    dsimp only at H
    refine Go1.keep _ hag ?_
    revert hO; repeat (rename Owns _ _ _ _ => q; clear q)
    intro hO; repeat (rename Sq _ _ _ _ _ _ => q; clear q)
    refine au ?_
    refine scm H (fun rM H => ?_) fun rM H => ?_
    ·refine au ?_
     refine drw 1 [(0, .pure), (1, .stable), (2, .pure), (3, .pure), (4, .stable), (5, .pure), (6, .pure), (7, .stable), (8, .pure), (9, .stable), (10, .pure), (11, .pure), (12, .stable), (13, .pure), (14, .stable), (15, .pure), (16, .pure), (17, .stable), (18, .pure), (19, .stable), (20, .pure), (21, .stable), (22, .pure), (23, .stable), (24, .pure), (25, .pure), (26, .stable), (27, .pure), (28, .stable), (29, .pure), (30, .last)] hO fun En s hO => ?_
     refine au ?_
     obtain ⟨jY, H⟩ := H
     obtain ⟨j3, H⟩ := H
     refine GoQ.pure rfl (J02 Try.underlying23 ti31 rfl rfl jY (ltn (t2neq 0 hO rfl) j3) (t2some 0 hO rfl jY j3)) rfl rfl ?_
     refine GoQ.stable rfl (t2head 0 hO rfl jY j3 Try.underlying31 rfl rfl) rfl rfl ?_
     refine au ?_
     obtain ⟨j4, H⟩ := H
     obtain ⟨j5, H⟩ := H
     refine GoQ.pure rfl (J02 Try.underlying23 ti31 rfl rfl j4 (ltn (t2neq 0 hO rfl) j5) (t2some 0 hO rfl j4 j5)) rfl rfl ?_
     refine GoQ.stable rfl (t2head 0 hO rfl j4 j5 Try.underlying31 rfl rfl) rfl rfl ?_
     refine au ?_
     refine sxl hO aj.u H.1 H.2.1 ?_
     have Eo := H.1
     have Ep := H.2.1
     replace H := H.2.2
     obtain ⟨ni, H⟩ := H
     obtain ⟨nj, H⟩ := H
     refine GoQ.pure rfl (J02 Try.underlying31 ti3 rfl rfl ni nj (t2isome 0 hO rfl j4 j5 ni nj)) rfl rfl ?_
     refine GoQ.stable rfl (t2Int 0 hO rfl j4 j5 ni nj Try.underlying3 rfl rfl) rfl rfl ?_
     refine sxls hO ah.u H.1 H.2.1 fun Er Et vc => ?_
     refine au ?_
     refine sxl hO aD.u H.2.2.1 H.2.2.2.1 ?_
     refine sxl hO vc.u H.2.2.2.2.1 H.2.2.2.2.2.1 ?_
     have Eu := H.1
     have Ev := H.2.1
     have Ew := H.2.2.1
     have Ex := H.2.2.2.1
     have Ey := H.2.2.2.2.1
     have Ez := H.2.2.2.2.2.1
     replace H := H.2.2.2.2.2.2
     obtain ⟨nk, H⟩ := H
     obtain ⟨np, H⟩ := H
     refine GoQ.pure rfl (J02 Try.underlying31 ti3 rfl rfl nk np (t2isome 0 hO rfl jY j3 nk np)) rfl rfl ?_
     have zz := t2st (r := Rp.int .i64) (hf := Fl.i) rfl 0 hO rfl jY j3 nk np (v := .int .i64 (ix (ix r158.Right (ix (ix i8 (cV : Int)) (ix r158.Prefix (fx : Int)))) (ix r158.Last (fx : Int)))) (u := (ix (ix r158.Right (ix (ix i8 (cV : Int)) (ix r158.Prefix (fx : Int)))) (ix r158.Last (fx : Int)))) rfl rfl
     obtain ⟨EA, rN, rO⟩ := zz
     refine GoQ.last rfl (rO Try.underlying3 rfl ti3 (by exact rfl) (by exact rfl)) rfl rfl ?_
     refine nst rN fun s hO => ?_
     refine au ?_
     refine sinc (natbd rM ai.bd) ?_
     refine au ?_
     exact hX6 _ H _ _ ⟨agr, hO, cv.u, cO.u, aU.u, ai.u, aj.u, aD.u, ah.u, aE.u, fr⟩
    refine au ?_
    refine sinc (natbd m3 ah.bd) ?_
    refine au ?_
    refine sfr 9 hO fun s hO => ?_
    refine sfr 9 hO fun s hO => ?_
    refine sfr 9 hO fun s hO => ?_
    refine sfr 9 hO fun s hO => ?_
    refine sfr 9 hO fun s hO => ?_
    refine sfr 9 hO fun s hO => ?_
    refine sfr 6 hO fun s hO => ?_
    refine sfr 9 hO fun s hO => ?_
    refine sfr 9 hO fun s hO => ?_
    refine sfr 9 hO fun s hO => ?_
    exact hX4 _ H _ _ ⟨_, agr, hO, cv.u, cO.u, aU.u, ai.u, aj.u, aD.u, ah.u, aE.u, fr⟩
   refine au ?_
   refine zo (J0O Try.underlying81 rfl (Els.neqW cv.u hO 7 rfl)) ?_
   obtain ⟨yA, H⟩ := H
   obtain ⟨yB, H⟩ := H
   have zz := t2makeS (m := (((([] : List part)) ++ ([(⟨((0 : Int) + r13.Start), r13.Final, (0 : Int)⟩ : part)])).length : Int)) (e' := 4) Fl.bool Try.underlying40 ti22 hO yA yB (by decide)
   obtain ⟨EB, j6, rP, Ag, rQ, hz396⟩ := zz
   refine zg (rQ rfl rfl) ?_
   refine nst rP fun s hO => ?_
   refine au ?_
   refine zo (J0O Try.underlying81 rfl (Els.neqW cv.u hO 8 rfl)) ?_
   refine au ?_
   refine sdr [9] hO fun s hO => ?_
   refine lw H (fun (c6, g7) σ w => ∃ fF, (fun Z => agrees σ [(2, .pointer (some ⟨B154, 0, none⟩)), (5, .pointer (some ⟨B162, 0, none⟩)), (7, .int .i64 (r158.Elems.length : Int)), (8, .pointer (some ⟨eh, 0, none⟩)), (13, .slice j6 (((([] : List part)) ++ ([(⟨((0 : Int) + r13.Start), r13.Final, (0 : Int)⟩ : part)])).length) (((([] : List part)) ++ ([(⟨((0 : Int) + r13.Start), r13.Final, (0 : Int)⟩ : part)])).length)), (162, .slice dD (0 + 1) dE), (163, .int .i64 (((([] : List part)) ++ ([(⟨((0 : Int) + r13.Start), r13.Final, (0 : Int)⟩ : part)])).length : Int)), (164, .int .i64 (c6 : Int))] ∧ Owns w0.heap.size w Z A ∧ Els (rppart) (bl Z ++ A) w dw ((([] : List part)) ++ ([(⟨((0 : Int) + r13.Start), r13.Final, (0 : Int)⟩ : part)])) ∧ ISl (Rp.sl (Rp.int .i64)) (bl Z ++ A) w cd ce r158.Gens ∧ ISl (Rp.sl (Rp.int .i64)) (bl Z ++ A) w bK bM r158.Elems ∧ ISl (Rp.int .i64) (bl Z ++ A) w bH bI r158.Prefix ∧ ISl (Rp.int .i64) (bl Z ++ A) w cf cg r158.Last ∧ ISl (Rp.sl (Rp.int .i64)) (bl Z ++ A) w bk bm r158.Right ∧ ISl (rpRule) (bl Z ++ A) w bW bX r158.Rules ∧ Fr (bl []) w0 (bl Z) w) [t2 Fl.bool 22 4 j6 (((([] : List part)) ++ ([(⟨((0 : Int) + r13.Start), r13.Final, (0 : Int)⟩ : part)])).length) (((([] : List part)) ++ ([(⟨((0 : Int) + r13.Start), r13.Final, (0 : Int)⟩ : part)])).length) fF g7, .blk eh (.cells #[.int .i64 (cK.length : Int), .slice (some ⟨c5, 0, none⟩) r158.Elems.length r158.Elems.length, .slice (some ⟨dp, 0, none⟩) r158.Elems.length r158.Elems.length, .slice cE cH cG, .slice none 0 0, .slice (some ⟨dq, 0, none⟩) r158.Elems.length r158.Elems.length] 33 (0, 0)), t1 Fl.bool 4 (some ⟨dq, 0, none⟩) r158.Elems.length r158.Elems.length d_275, t1 Fl.str 9 (some ⟨dp, 0, none⟩) r158.Elems.length r158.Elems.length eN, t2 Fl.i 31 3 (some ⟨c5, 0, none⟩) r158.Elems.length r158.Elems.length fX g6, t1 Fl.i 3 cE cH cG r182, .blk B162 (.cells #[.int .i64 r158.Points, .bool r158.Monoid, .slice cd r158.Gens.length ce, .slice bK r158.Elems.length bM, .slice bH r158.Prefix.length bI, .slice cf r158.Last.length cg, .slice bk r158.Right.length bm, .slice bW r158.Rules.length bX, .int .i64 r158.Done] 123 (0, 0)), .blk B154 (.cells #[.int .i64 (0 : Int), .slice none 0 0, .slice none 0 0, .slice none 0 0, .slice none 0 0, .slice none 0 0] 33 (0, 0)), .row 120 3 dD (0 + 1) dE dw, .blk B5 (.cells #[.int .i64 (0 : Int), .slice none 0 0, .slice none 0 0, .slice none 0 0, .slice none 0 0, .slice none 0 0] 33 (0, 0))]) ⟨_, agr, hO, cv.u, aU.u, ai.u, aj.u, aD.u, ah.u, aE.u, fr⟩ ?_
   refine fun X7 => p1 fun c6 g7 => fun H hX7 σ EC => e1 fun fF => d1 fun hag => d1 fun hO => d1 fun cv => d1 fun aU => d1 fun ai => d4 fun aj aD ah aE hB => ?_
   dsimp only at H
   refine Go1.keep _ hag ?_
   revert hO; repeat (rename Owns _ _ _ _ => q; clear q)
   intro hO; repeat (rename Sq _ _ _ _ _ _ => q; clear q)
   refine au ?_
   refine scm H (fun rR H => ?_) fun rR H => ?_
   ·refine au ?_
    obtain ⟨nq, H⟩ := H
    obtain ⟨nr, H⟩ := H
    refine zo (J02 Try.underlying81 ti120 rfl rfl nq (ltn (Els.neqW cv hO 8 rfl) nr) (Els.psomeW cv hO 8 rfl nq nr)) ?_
    have vd := oldAggR 8 hO rfl (r := rppart) cv nq nr
    obtain ⟨Ah, ve, hR407, rS⟩ := vd
    replace hR407 := J6i ve hR407
    obtain ⟨ns, nt, hcs409, i9⟩ := hR407
    subst hcs409
    refine zs (rS Try.underlying120 rfl ti120 rfl) ?_
    refine sal hO fun ED B414 s hO => ?_
    refine au ?_
    refine sba 0 hO fun EE s hO => ?_
    refine au ?_
    refine smk Fl.bool H hO fun EF yC s hO => ?_
    replace H := H.2.2
    obtain ⟨nu, H⟩ := H
    obtain ⟨nw, H⟩ := H
    refine zo (J02 Try.underlying40 ti22 rfl rfl nu (ltn (t2neq 2 hO rfl) nw) (t2some 2 hO rfl nu nw)) ?_
    refine op1 0 hO fun Ai s hO vg => ?_
    refine sfr 2 hO fun s hO => ?_
    refine sfr 1 hO fun s hO => ?_
    have zz := t2put (hf := Fl.bool) hO vg.u nu nw
    obtain ⟨EG, rT, rU⟩ := zz
    refine zg (rU Try.underlying22 rfl ti22 (by exact rfl) (by exact rfl)) ?_
    refine nst rT fun s hO => ?_
    refine au ?_
    refine sln0 ?_
    refine au ?_
    refine lw H (fun (lI, oH) σ w => (fun Z => agrees σ [(2, .pointer (some ⟨B154, 0, none⟩)), (5, .pointer (some ⟨B162, 0, none⟩)), (7, .int .i64 (r158.Elems.length : Int)), (8, .pointer (some ⟨eh, 0, none⟩)), (13, .slice j6 (((([] : List part)) ++ ([(⟨((0 : Int) + r13.Start), r13.Final, (0 : Int)⟩ : part)])).length) (((([] : List part)) ++ ([(⟨((0 : Int) + r13.Start), r13.Final, (0 : Int)⟩ : part)])).length)), (14, .int .i64 (c6 : Int)), (15, .pointer (some ⟨B414, 0, none⟩)), (162, .slice dD (0 + 1) dE), (163, .int .i64 (((([] : List part)) ++ ([(⟨((0 : Int) + r13.Start), r13.Final, (0 : Int)⟩ : part)])).length : Int)), (164, .int .i64 (c6 : Int)), (175, .slice bK r158.Elems.length bM), (176, .int .i64 (r158.Elems.length : Int)), (177, .int .i64 (lI : Int))] ∧ Owns w0.heap.size w Z A ∧ Els (rppart) (bl Z ++ A) w dw ((([] : List part)) ++ ([(⟨((0 : Int) + r13.Start), r13.Final, (0 : Int)⟩ : part)])) ∧ ISl (Rp.sl (Rp.int .i64)) (bl Z ++ A) w cd ce r158.Gens ∧ ISl (Rp.sl (Rp.int .i64)) (bl Z ++ A) w bK bM r158.Elems ∧ ISl (Rp.int .i64) (bl Z ++ A) w bH bI r158.Prefix ∧ ISl (Rp.int .i64) (bl Z ++ A) w cf cg r158.Last ∧ ISl (Rp.sl (Rp.int .i64)) (bl Z ++ A) w bk bm r158.Right ∧ ISl (rpRule) (bl Z ++ A) w bW bX r158.Rules ∧ ISl (Rp.bool) (bl Z ++ A) w ns nt ((ix ((([] : List part)) ++ ([(⟨((0 : Int) + r13.Start), r13.Final, (0 : Int)⟩ : part)])) (c6 : Int)).final) ∧ Fr (bl []) w0 (bl Z) w) [t2 Fl.bool 22 4 j6 (((([] : List part)) ++ ([(⟨((0 : Int) + r13.Start), r13.Final, (0 : Int)⟩ : part)])).length) (((([] : List part)) ++ ([(⟨((0 : Int) + r13.Start), r13.Final, (0 : Int)⟩ : part)])).length) (hup fF (c6 : Int).toNat (yC, r158.Elems.length)) oH, .blk B414 (.cells #[.int .i64 ((ix ((([] : List part)) ++ ([(⟨((0 : Int) + r13.Start), r13.Final, (0 : Int)⟩ : part)])) (c6 : Int)).start), .slice ns (((ix ((([] : List part)) ++ ([(⟨((0 : Int) + r13.Start), r13.Final, (0 : Int)⟩ : part)])) (c6 : Int)).final).length) nt, .int .i64 ((ix ((([] : List part)) ++ ([(⟨((0 : Int) + r13.Start), r13.Final, (0 : Int)⟩ : part)])) (c6 : Int)).shift)] 120 (0, 0)), .blk eh (.cells #[.int .i64 (cK.length : Int), .slice (some ⟨c5, 0, none⟩) r158.Elems.length r158.Elems.length, .slice (some ⟨dp, 0, none⟩) r158.Elems.length r158.Elems.length, .slice cE cH cG, .slice none 0 0, .slice (some ⟨dq, 0, none⟩) r158.Elems.length r158.Elems.length] 33 (0, 0)), t1 Fl.bool 4 (some ⟨dq, 0, none⟩) r158.Elems.length r158.Elems.length d_275, t1 Fl.str 9 (some ⟨dp, 0, none⟩) r158.Elems.length r158.Elems.length eN, t2 Fl.i 31 3 (some ⟨c5, 0, none⟩) r158.Elems.length r158.Elems.length fX g6, t1 Fl.i 3 cE cH cG r182, .blk B162 (.cells #[.int .i64 r158.Points, .bool r158.Monoid, .slice cd r158.Gens.length ce, .slice bK r158.Elems.length bM, .slice bH r158.Prefix.length bI, .slice cf r158.Last.length cg, .slice bk r158.Right.length bm, .slice bW r158.Rules.length bX, .int .i64 r158.Done] 123 (0, 0)), .blk B154 (.cells #[.int .i64 (0 : Int), .slice none 0 0, .slice none 0 0, .slice none 0 0, .slice none 0 0, .slice none 0 0] 33 (0, 0)), .row 120 3 dD (0 + 1) dE dw, .blk B5 (.cells #[.int .i64 (0 : Int), .slice none 0 0, .slice none 0 0, .slice none 0 0, .slice none 0 0, .slice none 0 0] 33 (0, 0))]) ⟨agr, hO, cv.u, aU.u, ai.u, aj.u, aD.u, ah.u, aE.u, i9.u, fr⟩ ?_
    refine fun X8 => p1 fun lI oH => fun H hX8 σ EH => d1 fun hag => d1 fun hO => d1 fun cv => d1 fun aU => d1 fun ai => d1 fun aj => d4 fun aD ah aE i9 hB => ?_
    dsimp only at H
    refine Go1.keep _ hag ?_
    revert hO; repeat (rename Owns _ _ _ _ => q; clear q)
    intro hO; repeat (rename Sq _ _ _ _ _ _ => q; clear q)
    refine au ?_
    refine scm H (fun rV H => ?_) fun rV H => ?_
    ·refine au ?_
     refine sxls hO ai H.1 H.2.1 fun EI EJ vh => ?_
     refine au ?_
     refine drw 1 [(0, .pure), (1, .pure), (2, .pure), (3, .stable), (4, .pure), (5, .stable), (6, .pure), (7, .loud), (8, .pure), (9, .last)] hO fun EK s hO => ?_
     refine au ?_
     have EL := H.1
     have EM := H.2.1
     replace H := H.2.2
     obtain ⟨j7, H⟩ := H
     obtain ⟨j8, H⟩ := H
     refine GoQ.pure rfl (J02 Try.underlying40 ti22 rfl rfl j7 (ltn (t2neq 0 hO rfl) j8) (t2some 0 hO rfl j7 j8)) rfl rfl ?_
     refine GoQ.stable rfl (t2head 0 hO rfl j7 j8 Try.underlying22 rfl rfl) rfl rfl ?_
     refine au ?_
     refine GoQ.stable rfl (J0g (vs := [.int .i64 ((ix ((([] : List part)) ++ ([(⟨((0 : Int) + r13.Start), r13.Final, (0 : Int)⟩ : part)])) (c6 : Int)).start), .slice ns (((ix ((([] : List part)) ++ ([(⟨((0 : Int) + r13.Start), r13.Final, (0 : Int)⟩ : part)])) (c6 : Int)).final).length) nt, .int .i64 ((ix ((([] : List part)) ++ ([(⟨((0 : Int) + r13.Start), r13.Final, (0 : Int)⟩ : part)])) (c6 : Int)).shift)]) (i := 0) 1 hO rfl rfl Try.underlying120 rfl ti120 rfl) rfl rfl ?_
     refine au ?_
     refine zcq rfl (J00 body103 rfl (J2a (p := (⟨((ix ((([] : List part)) ++ ([(⟨((0 : Int) + r13.Start), r13.Final, (0 : Int)⟩ : part)])) (c6 : Int)).start), (ix ((([] : List part)) ++ ([(⟨((0 : Int) + r13.Start), r13.Final, (0 : Int)⟩ : part)])) (c6 : Int)).final, ((ix ((([] : List part)) ++ ([(⟨((0 : Int) + r13.Start), r13.Final, (0 : Int)⟩ : part)])) (c6 : Int)).shift)⟩ : part)) hO.lt i9.u vh.u H)) fun _ EO => e1 fun rW => sq0 hO fun s hO => fun H => ?_
     obtain ⟨ny, H⟩ := H
     obtain ⟨nA, H⟩ := H
     refine GoQ.pure rfl (J02 Try.underlying22 ti4 rfl rfl ny nA (t2isome 0 hO rfl j7 j8 ny nA)) rfl rfl ?_
     have zz := t2st (r := Rp.bool) (hf := Fl.bool) rfl 0 hO rfl j7 j8 ny nA (v := .bool rW) (u := rW) rfl rfl
     obtain ⟨EP, rX, rY⟩ := zz
     refine GoQ.last rfl (rY Try.underlying4 rfl ti4 (by exact rfl) (by exact rfl)) rfl rfl ?_
     refine nst rX fun s hO => ?_
     refine au ?_
     refine sinc (natbd rV ai.bd) ?_
     refine au ?_
     exact hX8 _ H _ _ ⟨agr, hO, cv.u, aU.u, ai.u, aj.u, aD.u, ah.u, aE.u, i9.u, fr⟩
    refine au ?_
    refine sinc (natbd rR cv.bd) ?_
    refine au ?_
    refine sdr [1] hO fun s hO => ?_
    exact hX7 _ H _ _ ⟨_, agr, hO, cv.u, aU.u, ai.u, aj.u, aD.u, ah.u, aE.u, fr⟩
   refine au ?_
   refine zs (J0g (vs := [.int .i64 (cK.length : Int), .slice (some ⟨c5, 0, none⟩) r158.Elems.length r158.Elems.length, .slice (some ⟨dp, 0, none⟩) r158.Elems.length r158.Elems.length, .slice cE cH cG, .slice none 0 0, .slice (some ⟨dq, 0, none⟩) r158.Elems.length r158.Elems.length]) (i := 0) 1 hO rfl rfl Try.underlying33 rfl ti33 rfl) ?_
   refine au ?_
   refine sba 7 hO fun EQ s hO => ?_
   refine au ?_
   refine Go1.retC3V Try.func63 rfl rfl (J01 (vs := [.int .i64 (cK.length : Int), .slice (some ⟨c5, 0, none⟩) r158.Elems.length r158.Elems.length, .slice (some ⟨dp, 0, none⟩) r158.Elems.length r158.Elems.length, .slice cE cH cG, .slice none 0 0, .slice (some ⟨dq, 0, none⟩) r158.Elems.length r158.Elems.length]) 7 hO rfl rfl Try.underlying33 rfl ti33) (show _ = .slice j6 (((([] : List part)) ++ ([(⟨((0 : Int) + r13.Start), r13.Final, (0 : Int)⟩ : part)])).length) (((([] : List part)) ++ ([(⟨((0 : Int) + r13.Start), r13.Final, (0 : Int)⟩ : part)])).length) from rfl) (show _ = .int .i64 (0 : Int) from rfl) ?_
   refine hR152 _ _ ?_
   refine au ?_
   refine sal hO fun ER B448 s hO => ?_
   refine sba 0 hO fun ES s hO => ?_
   refine au ?_
   refine zo (fun w => opB (J3I rfl rfl w) (ndT (by decide))) ?_
   refine au ?_
   obtain ⟨li, H⟩ := H
   obtain ⟨lj, H⟩ := H
   refine zo (J02 Try.underlying40 ti22 rfl rfl li (ltn (t2neq 1 hO rfl) lj) (t2some 1 hO rfl li lj)) ?_
   refine zs (t2head 1 hO rfl li lj Try.underlying22 rfl rfl) ?_
   refine au ?_
   refine sbs 0 hO fun ET s hO => ?_
   refine au ?_
   refine zs (J0g (vs := [.int .i64 (cK.length : Int), .slice (some ⟨c5, 0, none⟩) r158.Elems.length r158.Elems.length, .slice (some ⟨dp, 0, none⟩) r158.Elems.length r158.Elems.length, .slice cE cH cG, .slice (fF (0 : Int).toNat).1 ((ix g7 (0 : Int)).length) (fF (0 : Int).toNat).2, .slice (some ⟨dq, 0, none⟩) r158.Elems.length r158.Elems.length]) (i := 0) 0 hO rfl rfl Try.underlying33 rfl ti33 rfl) ?_
   refine sba 10 hO fun EU s hO => ?_
   refine au ?_
   refine sfz2 5 hO fun s hO vi vj => ?_
   refine sfz 4 hO fun s hO vk vm => ?_
   refine sfz 4 hO fun s hO vn vo => ?_
   have vp := t2lendIn 1 hO rfl li lj
   refine sfz2 1 hO fun s hO Aj Ak => ?_
   refine sfz 2 hO fun s hO vq vr => ?_
   refine Go1.retC2 Try.func19 rfl rfl (J01 (vs := [.int .i64 (cK.length : Int), .slice (some ⟨c5, 0, none⟩) r158.Elems.length r158.Elems.length, .slice (some ⟨dp, 0, none⟩) r158.Elems.length r158.Elems.length, .slice cE cH cG, .slice (fF (0 : Int).toNat).1 ((ix g7 (0 : Int)).length) (fF (0 : Int).toNat).2, .slice (some ⟨dq, 0, none⟩) r158.Elems.length r158.Elems.length]) 5 hO rfl rfl Try.underlying33 rfl ti33) ⟨((⟨(cK.length : Int), g6, eN, r182, (ix g7 (0 : Int)), d_275⟩ : Syntactic)), _, _, _, _, _, _, _, _, _, _, _, ?_, frs, vi.r, vk.r, vn.r, vp.r, vq.r, H⟩
   exact (congrArg (fun l => Value.tuple (List.toArray l)) (J03 (congrArg (fun l => Value.agg (List.toArray l)) (J03 rfl (J03 (congrArg (fun nn => Value.slice (some ⟨c5, 0, none⟩) nn r158.Elems.length) vj) (J03 (congrArg (fun nn => Value.slice (some ⟨dp, 0, none⟩) nn r158.Elems.length) vm) (J03 (congrArg (fun nn => Value.slice cE nn cG) vo) (J03 rfl (J03 (congrArg (fun nn => Value.slice (some ⟨dq, 0, none⟩) nn r158.Elems.length) vr) rfl))))))) (J03 rfl rfl)))
  refine au ?_
  refine zo (J0c Try.underlying33 ti33 (pl := [(0, 1), (1, 1), (2, 1), (3, 1), (4, 1), (5, 1)]) (vs := []) (cs := #[.int .i64 (0 : Int), .slice none 0 0, .slice none 0 0, .slice none 0 0, .slice none 0 0, .slice none 0 0]) (by kernel_rfl) rfl (by kernel_rfl)) ?_
  refine au ?_
  refine sba 1 hO fun EV s hO => ?_
  refine au ?_
  refine Go1.retC3V Try.func63 rfl rfl (J01 (vs := [.int .i64 (0 : Int), .slice none 0 0, .slice none 0 0, .slice none 0 0, .slice none 0 0, .slice none 0 0]) 1 hO rfl rfl Try.underlying33 rfl ti33) (show _ = .slice none 0 0 from rfl) (show _ = .int .i64 r159 from rfl) ?_
  refine hR152 _ _ ?_
  refine au ?_
  refine sal hO fun EW B468 s hO => ?_
  refine sba 0 hO fun EX s hO => ?_
  refine au ?_
  refine zo (fun w => opB (J3I rfl rfl w) (ndF rh)) ?_
  refine au ?_
  refine zo (J0c Try.underlying33 ti33 (pl := [(0, 1), (1, 1), (2, 1), (3, 1), (4, 1), (5, 1)]) (vs := []) (cs := #[.int .i64 (0 : Int), .slice none 0 0, .slice none 0 0, .slice none 0 0, .slice none 0 0, .slice none 0 0]) (by kernel_rfl) rfl (by kernel_rfl)) ?_
  refine au ?_
  refine sba 6 hO fun EY s hO => ?_
  refine au ?_
  refine Go1.retC2 Try.func19 rfl rfl (J01 (vs := [.int .i64 (0 : Int), .slice none 0 0, .slice none 0 0, .slice none 0 0, .slice none 0 0, .slice none 0 0]) 6 hO rfl rfl Try.underlying33 rfl ti33) ⟨((⟨(0 : Int), ([] : List (List Int)), ([] : List Str), ([] : List Int), ([] : List Bool), ([] : List Bool)⟩ : Syntactic)), _, _, _, _, _, _, _, _, _, _, _, ?_, frs, (ISl.null _ _ _), (ISl.null _ _ _), (ISl.null _ _ _), (ISl.null _ _ _), (ISl.null _ _ _), H⟩
  exact rfl
 refine au ?_
 refine zo (J0c Try.underlying33 ti33 (pl := [(0, 1), (1, 1), (2, 1), (3, 1), (4, 1), (5, 1)]) (vs := []) (cs := #[.int .i64 (0 : Int), .slice none 0 0, .slice none 0 0, .slice none 0 0, .slice none 0 0, .slice none 0 0]) (by kernel_rfl) rfl (by kernel_rfl)) ?_
 refine au ?_
 refine sba 0 hO fun E0 s hO => ?_
 refine au ?_
 refine Go1.retC2 Try.func19 rfl rfl (J01 (vs := [.int .i64 (0 : Int), .slice none 0 0, .slice none 0 0, .slice none 0 0, .slice none 0 0, .slice none 0 0]) 0 hO rfl rfl Try.underlying33 rfl ti33) ⟨((⟨(0 : Int), ([] : List (List Int)), ([] : List Str), ([] : List Int), ([] : List Bool), ([] : List Bool)⟩ : Syntactic)), _, _, _, _, _, _, _, _, _, _, _, ?_, frs, (ISl.null _ _ _), (ISl.null _ _ _), (ISl.null _ _ _), (ISl.null _ _ _), (ISl.null _ _ _), H⟩
 exact rfl
theorem body48 : Body Try.prog 48 := ⟨Try.f48, Try.func48, rfl, by kernel_rfl⟩
theorem J2T {A : List Nat} {w0 : World} {p_a : Option Addr} {c_a : Nat} {p_b : Option Addr} {c_b : Nat} {a : List Str} {b : List Str} (hA : ∀ b ∈ A, b < w0.heap.size) (h_a : ISl (Rp.str) A w0 p_a c_a a) (h_b : ISl (Rp.str) A w0 p_b c_b b) {K : Bool → Prop} (H : J1K a b K) :
    CallsV Try.prog 48 #[.slice p_a a.length c_a, .slice p_b b.length c_b] w0 (fun v w' => ∃ (r0 : Bool), v = .bool r0 ∧ Same w0 w' ∧ K r0) := by
 refine CallsV.of (l := [.slice p_a a.length c_a, .slice p_b b.length c_b]) Try.func48 rfl Try.ntmps48 rfl ?_
 have hO := Owns.start hA
 have hB := Fr.refl (bl []) w0
 unfold J1K at H
 refine au ?_
 refine sln0 ?_
 refine au ?_
 refine sln0 ?_
 refine scm ((H h_a.bd) h_b.bd) (fun h1 H => ?_) fun h1 H => ?_
 ·refine au ?_
  refine sln0 ?_
  refine au ?_
  refine lw H (fun k1_3 σ w => (fun Z => agrees σ [(0, .slice p_a a.length c_a), (1, .slice p_b b.length c_b), (12, .int .i64 (a.length : Int)), (13, .int .i64 (k1_3 : Int))] ∧ Owns w0.heap.size w Z A ∧ Fr (bl []) w0 (bl Z) w) []) ⟨agr, hO, fr⟩ ?_
  refine fun X1 => fun k1_3 => fun H hX1 σ w2 => d2 fun hag hO hB => ?_
  refine Go1.keep _ hag ?_
  refine au ?_
  refine scm H (fun h4 H => ?_) fun h4 H => ?_
  ·refine au ?_
   refine drw 0 [(0, .pure), (1, .pure), (2, .pure), (3, .stable), (4, .pure), (5, .pure), (6, .pure), (7, .stable), (8, .pure)] hO fun w5 s hO => ?_
   refine au ?_
   refine sxl hO h_a.u H.1 H.2.1 ?_
   have hle6 := ISl.J7M h_a H.1 H.2.1
   refine au ?_
   refine sxl hO h_b.u H.2.2.1 H.2.2.2.1 ?_
   have hle7 := ISl.J7M h_b H.2.2.1 H.2.2.2.1
   have h8 := H.1
   have h9 := H.2.1
   have h10 := H.2.2.1
   have h11 := H.2.2.2.1
   refine scm H.2.2.2.2 (fun h12 H => ?_) fun h12 H => ?_
   ·refine au ?_
    refine sinc (natbd h4 h_a.bd) ?_
    refine au ?_
    exact hX1 _ H _ _ ⟨agr, hO, fr⟩
   refine au ?_
   refine Go1.ret1 Try.func48 rfl ⟨_, ?_, frs, H⟩
   exact rfl
  refine au ?_
  refine Go1.ret1 Try.func48 rfl ⟨_, ?_, frs, H⟩
  exact rfl
 refine au ?_
 refine Go1.ret1 Try.func48 rfl ⟨_, ?_, frs, H⟩
 exact rfl
theorem body18 : Body Try.prog 18 := ⟨Try.f18, Try.func18, rfl, by kernel_rfl⟩
theorem J1v {A : List Nat} {w0 : World} (hA : ∀ b ∈ A, b < w0.heap.size) {K : Bool → Prop} (H : law21_awake  K) :
    CallsV Try.prog 18 #[] w0 (fun v w' => ∃ (r0 : Bool), v = .bool r0 ∧ Same w0 w' ∧ K r0) := by
 refine CallsV.of (l := []) Try.func18 rfl Try.ntmps18 rfl ?_
 have hO := Owns.start hA
 have hB := Fr.refl (bl []) w0
 unfold law21_awake at H
 refine au ?_
 refine zcr (J00 body60 rfl (J4P hO.lt H)) fun _ w2 => e4 fun r1 vu vw v7 => e1 fun v8 => sc0 hO fun s hO => d2 fun lk lJ H => ?_
 refine zcr (J00 body19 rfl (J1o hO.lt lk lJ H)) fun _ w5 => e4 fun r3 r4 vy vz => e4 fun g8 g9 sH sI => e4 fun sJ sK v9 wa => sc0 hO fun s hO => d1 fun vA => d4 fun lm sL dI wb H => ?_
 refine au ?_
 refine sal hO fun w6 B7 s hO => ?_
 refine sba 0 hO fun w9 s hO => ?_
 refine au ?_
 refine scm H (fun h10 H => ?_) fun h10 H => ?_
 ·refine au ?_
  refine sbu Fl.str 9 [(([] : Str)), (([97] : Str)), (([98] : Str)), (([97, 97] : Str)), (([97, 98] : Str)), (([98, 97] : Str))] hO (fun w11 p12 s hO => ?_) (hE := fun _ _ => (Els.cons rfl ⟨rfl, (by decide)⟩ (Els.cons rfl ⟨rfl, (by decide)⟩ (Els.cons rfl ⟨rfl, (by decide)⟩ (Els.cons rfl ⟨rfl, (by decide)⟩ (Els.cons rfl ⟨rfl, (by decide)⟩ (Els.cons rfl ⟨rfl, (by decide)⟩ (Els.nil _ _ _) (by simp [mx])) (by simp [mx])) (by simp [mx])) (by simp [mx])) (by simp [mx])) (by simp [mx])))
  have yD := t1lend 0 hO
  have gB := t1n 0 hO
  have hOc16 := hO.drop 0
  refine zcr (J00 body48 (show ([.slice g8 r3.Words.length g9, .slice p12 6 6] : List Value) = [.slice g8 r3.Words.length g9, .slice p12 ([(([] : Str)), (([97] : Str)), (([98] : Str)), (([97, 97] : Str)), (([97, 98] : Str)), (([98, 97] : Str))]).length 6] from by rw [← gB]) (J2T hOc16.lt (lm.u.ch (Owns.J6M _ _ 0)) yD H)) fun _ w18 => e1 fun r17 => sc0 hO fun s hO => fun H => ?_
  refine au ?_
  cases r17
  ·refine au ?_
   refine Go1.ret1 Try.func18 rfl ⟨_, ?_, frs, (iF H)⟩
   exact rfl
  refine au ?_
  refine sln0 ?_
  refine scm ((iT H) dI.bd) (fun h19 H => ?_) fun h19 H => ?_
  ·refine au ?_
   refine six dI H.1 H.2.1 ?_
   have h20 := H.1
   have h21 := H.2.1
   refine sbd hO dI.u H.1 H.2.1 H.2.2 (fun h22 H => ?_) fun h22 H => ?_
   ·refine au ?_
    refine six dI H.1 H.2.1 ?_
    have h23 := H.1
    have h24 := H.2.1
    refine sbd hO dI.u H.1 H.2.1 H.2.2 (fun h25 H => ?_) fun h25 H => ?_
    ·refine au ?_
     refine Go1.ret1 Try.func18 rfl ⟨_, ?_, frs, H⟩
     exact rfl
    refine au ?_
    refine Go1.ret1 Try.func18 rfl ⟨_, ?_, frs, H⟩
    exact rfl
   refine au ?_
   refine Go1.ret1 Try.func18 rfl ⟨_, ?_, frs, H⟩
   exact rfl
  refine au ?_
  refine Go1.ret1 Try.func18 rfl ⟨_, ?_, frs, H⟩
  exact rfl
 refine au ?_
 refine Go1.ret1 Try.func18 rfl ⟨_, ?_, frs, H⟩
 exact rfl
theorem body49 : Body Try.prog 49 := ⟨Try.f49, Try.func49, rfl, by kernel_rfl⟩
theorem J2U {A : List Nat} {w0 : World} {p_a : Option Addr} {c_a : Nat} {p_b : Option Addr} {c_b : Nat} {a : List Int} {b : List Int} (hA : ∀ b ∈ A, b < w0.heap.size) (h_a : ISl (Rp.int .i64) A w0 p_a c_a a) (h_b : ISl (Rp.int .i64) A w0 p_b c_b b) {K : Bool → Prop} (H : J1J a b K) :
    CallsV Try.prog 49 #[.slice p_a a.length c_a, .slice p_b b.length c_b] w0 (fun v w' => ∃ (r0 : Bool), v = .bool r0 ∧ Same w0 w' ∧ K r0) := by
 refine CallsV.of (l := [.slice p_a a.length c_a, .slice p_b b.length c_b]) Try.func49 rfl Try.ntmps49 rfl ?_
 have hO := Owns.start hA
 have hB := Fr.refl (bl []) w0
 unfold J1J at H
 refine au ?_
 refine sln0 ?_
 refine au ?_
 refine sln0 ?_
 refine scm ((H h_a.bd) h_b.bd) (fun h1 H => ?_) fun h1 H => ?_
 ·refine au ?_
  refine sln0 ?_
  refine au ?_
  refine lw H (fun k1_3 σ w => (fun Z => agrees σ [(0, .slice p_a a.length c_a), (1, .slice p_b b.length c_b), (12, .int .i64 (a.length : Int)), (13, .int .i64 (k1_3 : Int))] ∧ Owns w0.heap.size w Z A ∧ Fr (bl []) w0 (bl Z) w) []) ⟨agr, hO, fr⟩ ?_
  refine fun X1 => fun k1_3 => fun H hX1 σ w2 => d2 fun hag hO hB => ?_
  refine Go1.keep _ hag ?_
  refine au ?_
  refine scm H (fun h4 H => ?_) fun h4 H => ?_
  ·refine au ?_
   refine drw 0 [(0, .pure), (1, .pure), (2, .pure), (3, .stable), (4, .pure), (5, .pure), (6, .pure), (7, .stable), (8, .pure)] hO fun w5 s hO => ?_
   refine au ?_
   refine sxl hO h_a.u H.1 H.2.1 ?_
   refine au ?_
   refine sxl hO h_b.u H.2.2.1 H.2.2.2.1 ?_
   have h6 := H.1
   have h7 := H.2.1
   have h8 := H.2.2.1
   have h9 := H.2.2.2.1
   refine scm H.2.2.2.2 (fun h10 H => ?_) fun h10 H => ?_
   ·refine au ?_
    refine sinc (natbd h4 h_a.bd) ?_
    refine au ?_
    exact hX1 _ H _ _ ⟨agr, hO, fr⟩
   refine au ?_
   refine Go1.ret1 Try.func49 rfl ⟨_, ?_, frs, H⟩
   exact rfl
  refine au ?_
  refine Go1.ret1 Try.func49 rfl ⟨_, ?_, frs, H⟩
  exact rfl
 refine au ?_
 refine Go1.ret1 Try.func49 rfl ⟨_, ?_, frs, H⟩
 exact rfl
end Sg
