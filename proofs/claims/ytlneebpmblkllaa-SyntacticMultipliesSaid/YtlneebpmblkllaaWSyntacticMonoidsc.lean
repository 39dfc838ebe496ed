/- -/
import Derived.Test.YtlneebpmblkllaaVd
import Derived.Test.YtlneebpmblkllaaWSyntacticMonoids
import Derived.Test.YtlneebpmblkllaaWSyntacticMonoidsb
namespace Sg
open Go Go.RowKit Go.Proofs
set_option linter.unusedVariables false
set_option linter.unusedSimpArgs false
set_option maxRecDepth 100000
set_option maxHeartbeats 4000000
theorem body63 : Body Try.prog 63 := ⟨Try.f63, Try.func63, rfl, by kernel_rfl⟩
theorem body62 : Body Try.prog 62 := ⟨Try.f62, Try.func62, rfl, by kernel_rfl⟩
theorem body19 : Body Try.prog 19 := ⟨Try.f19, Try.func19, rfl, by kernel_rfl⟩
theorem J1s {A : List Nat} {w0 : World} {am ap : Option Addr} {ao aq : Nat} {d : DFA} (hA : ∀ b ∈ A, b < w0.heap.size) (bz : ISl (Rp.bool) A w0 am ao d.Final) (co : ISl (Rp.sl (Rp.int .i64)) A w0 ap aq d.Next) {K : Syntactic → Int → Prop} (H : J0u d K) :
    CallsV Try.prog 19 #[.agg #[.int .i64 d.Letters, .int .i64 d.Start, .slice am d.Final.length ao, .slice ap d.Next.length aq]] w0 (fun v w' => ∃ (r0 : Syntactic) (r1 : Int) (ia : Option Addr) (ic : Nat) (ie : Option Addr) (ig : Nat) (gy : Option Addr) (gz : Nat) (gA : Option Addr) (gB : Nat) (iV : Option Addr) (iW : Nat), v = .tuple #[.agg #[.int .i64 r0.Letters, .slice ia r0.Table.length ic, .slice ie r0.Words.length ig, .slice gy r0.Images.length gz, .slice gA r0.Accept.length gB, .slice iV r0.Plus.length iW], .int .i64 r1] ∧ Same w0 w' ∧ ISl (Rp.sl (Rp.int .i64)) A w' ia ic r0.Table ∧ ISl (Rp.str) A w' ie ig r0.Words ∧ ISl (Rp.int .i64) A w' gy gz r0.Images ∧ ISl (Rp.bool) A w' gA gB r0.Accept ∧ ISl (Rp.bool) A w' iV iW r0.Plus ∧ K r0 r1) := by
 refine CallsV.of (l := [.agg #[.int .i64 d.Letters, .int .i64 d.Start, .slice am d.Final.length ao, .slice ap d.Next.length aq]]) Try.func19 rfl Try.ntmps19 rfl ?_
 have hO := Owns.start hA
 have hB := Fr.refl (bl []) w0
 unfold J0u at H
 refine sbx hO fun w1 B2 s hO => ?_
 refine sal hO fun w4 B5 s hO => ?_
 refine sag 1 hO ?_
 refine zcr (J00 body61 rfl (J0R hO.lt bz.u co.u H)) fun _ w8 => e1 fun r7 => sc0 hO fun s hO => fun H => ?_
 refine scm H (fun h9 H => ?_) fun h9 H => ?_
 ·refine sal hO fun w10 B11 s hO => ?_
  refine sag 2 hO ?_
  refine zcr (J00 body22 rfl (J3k hO.lt bz.u co.u H)) fun _ w14 => e4 fun r13 bN bO cH => e1 fun cI => sc0 hO fun s hO => d2 fun ck cX H => ?_
  refine GoR.inl (vs := [.pointer (some ⟨B11, 0, none⟩), .agg #[.int .i64 r13.Letters, .int .i64 r13.Start, .slice bN r13.Final.length bO, .slice cH r13.Next.length cI]]) (caps := []) rfl rfl body62 Try.func62 rfl Try.ntmps62 rfl rfl rfl ?_
  intro RhR15 hR15
  refine sbx hO fun w16 B17 s hO => ?_
  refine sln0 ?_
  refine au ?_
  replace H := (H ck.bd)
  obtain ⟨h19, H⟩ := H
  refine zo (J0p rfl rfl (wrap_i64 h19)) ?_
  refine scm H (fun h20 H => ?_) fun h20 H => ?_
  ·refine au ?_
   refine Go1.ret1V Try.func62 rfl (show _ = .int .i64 (3 : Int) from rfl) ?_
   refine hR15 _ _ ?_
   refine au ?_
   refine zo (fun w => opB (J4Z rfl rfl w) (ndF (by decide))) ?_
   refine au ?_
   refine zo (J09 Try.underlying33 ti33 (pl := [(0, 1), (1, 1), (2, 1), (3, 1), (4, 1), (5, 1)]) (vs := []) (cs := #[.int .i64 (0 : Int), .slice none 0 0, .slice none 0 0, .slice none 0 0, .slice none 0 0, .slice none 0 0]) (by kernel_rfl) rfl (by kernel_rfl)) ?_
   refine sba 2 hO fun w21 s hO => ?_
   refine au ?_
   refine Go1.retC2 Try.func19 rfl rfl (rlb 2 hO) ⟨((⟨(0 : Int), ([] : List (List Int)), ([] : List Str), ([] : List Int), ([] : List Bool), ([] : List Bool)⟩ : Syntactic)), _, _, _, _, _, _, _, _, _, _, _, ?_, frs, (ISl.null _ _ _), (ISl.null _ _ _), (ISl.null _ _ _), (ISl.null _ _ _), (ISl.null _ _ _), H⟩
   exact rfl
  refine au ?_
  refine zo (fun w => opB (J2h Try.underlying23 rfl rfl w) rfl) ?_
  refine au ?_
  obtain ⟨h29, H⟩ := H
  obtain ⟨h30, H⟩ := H
  have zz := t2makeS (m := r13.Letters) (e' := 3) Fl.i Try.underlying23 ti31 hO h29 h30 (by decide)
  obtain ⟨w22, p23, uk, C3, ul, hz32⟩ := zz
  refine zg (ul rfl rfl) ?_
  refine nst uk fun s hO => ?_
  refine sbs 2 hO fun w33 s hO => ?_
  refine au ?_
  refine zo (J0S Try.underlying23 rfl (t2neq 0 hO rfl)) ?_
  refine au ?_
  refine sdr [4] hO fun s hO => ?_
  refine lw H (fun (cJ, dP) σ w => ∃ lG, (fun Z => agrees σ [(0, .pointer (some ⟨B11, 0, none⟩)), (3, .pointer (some ⟨B17, 0, none⟩)), (5, .int .i64 (r13.Final.length : Int)), (33, .int .i64 ((List.replicate r13.Letters.toNat ([] : List Int)).length : Int)), (34, .int .i64 (cJ : Int))] ∧ Owns w0.heap.size w Z A ∧ ISl (Rp.bool) (bl Z ++ A) w bN bO r13.Final ∧ ISl (Rp.sl (Rp.int .i64)) (bl Z ++ A) w cH cI r13.Next ∧ Fr (bl []) w0 (bl Z) w) [t2 Fl.i 31 3 p23 r13.Letters.toNat r13.Letters.toNat lG dP, .blk B17 (.cells #[.int .i64 r13.Letters, .int .i64 r13.Start, .slice bN r13.Final.length bO, .slice cH r13.Next.length cI] 25 (0, 0)), .blk B11 (.cells #[.slice p23 r13.Letters.toNat r13.Letters.toNat, .slice none 0 0, .int .i64 (0 : Int)] 83 (0, 0)), .blk B5 (.cells #[.int .i64 (0 : Int), .slice none 0 0, .slice none 0 0, .slice none 0 0, .slice none 0 0, .slice none 0 0] 33 (0, 0))]) ⟨_, agr, hO, ck.u, cX.u, fr⟩ ?_
  refine fun X1 => p1 fun cJ dP => fun H hX1 σ w34 => e1 fun lG => d4 fun hag hO ck cX hB => ?_
  dsimp only at H
  refine Go1.keep _ hag ?_
  revert hO; repeat (rename Owns _ _ _ _ => q; clear q)
  intro hO; repeat (rename Sq _ _ _ _ _ _ => q; clear q)
  refine scm H (fun h38 H => ?_) fun h38 H => ?_
  ·refine au ?_
   refine lw H (fun (k2_40, d_41) σ w => ∃ fB, (fun Z => agrees σ [(0, .pointer (some ⟨B11, 0, none⟩)), (3, .pointer (some ⟨B17, 0, none⟩)), (5, .int .i64 (r13.Final.length : Int)), (6, .int .i64 (cJ : Int)), (33, .int .i64 ((List.replicate r13.Letters.toNat ([] : List Int)).length : Int)), (34, .int .i64 (cJ : Int)), (37, .int .i64 (r13.Final.length : Int)), (38, .int .i64 (k2_40 : Int))] ∧ Owns w0.heap.size w Z A ∧ ISl (Rp.bool) (bl Z ++ A) w bN bO r13.Final ∧ ISl (Rp.sl (Rp.int .i64)) (bl Z ++ A) w cH cI r13.Next ∧ Fr (bl []) w0 (bl Z) w) [t2 Fl.i 31 3 p23 r13.Letters.toNat r13.Letters.toNat fB d_41, .blk B17 (.cells #[.int .i64 r13.Letters, .int .i64 r13.Start, .slice bN r13.Final.length bO, .slice cH r13.Next.length cI] 25 (0, 0)), .blk B11 (.cells #[.slice p23 r13.Letters.toNat r13.Letters.toNat, .slice none 0 0, .int .i64 (0 : Int)] 83 (0, 0)), .blk B5 (.cells #[.int .i64 (0 : Int), .slice none 0 0, .slice none 0 0, .slice none 0 0, .slice none 0 0, .slice none 0 0] 33 (0, 0))]) ⟨_, agr, hO, ck, cX, fr⟩ ?_
   refine fun X2 => p1 fun k2_40 d_41 => fun H hX2 σ w39 => e1 fun fB => d4 fun hag hO ck cX hB => ?_
   dsimp only at H
   refine Go1.keep _ hag ?_
   revert hO; repeat (rename Owns _ _ _ _ => q; clear q)
   intro hO; repeat (rename Sq _ _ _ _ _ _ => q; clear q)
   refine scm H (fun h43 H => ?_) fun h43 H => ?_
   ·refine au ?_
    refine Go1.drawT (ok := fun _ => True) Same.tr [26, 28] 29 (.qp 0 (.qp 1 (.qp 2 (.qp 4 (.qp 5 (.qp 6 (.qp 7 (.qs 8 (.qp 9 (.qp 10 (.qs 11 (.qp 12 (.qp 13 (.qp 14 (.qs 15 (.qp 16 (.qs 17 (.qp 18 (.qp 19 (.qs 20 (.qp 21 (.qp 22 (.qs 23 (.qp 24 (.alt 3 (.alt 25 (.alt 26 (.qp 27 (.alt 28 .nil .fin)) .fin) .fin) (.alt 25 (.alt 3 (.alt 26 (.qp 27 (.alt 28 .nil .fin)) .fin) (.alt 26 (.alt 3 (.qp 27 (.alt 28 .nil .fin)) .fin) .fin)) .fin)))))))))))))))))))))))))) mixed (by kernel_rfl) ?_
    intro w44 xP
    refine sm hO xP fun s hO => ?_
    refine sbl 2 ?_
    refine au ?_
    obtain ⟨h46, H⟩ := H
    obtain ⟨h47, H⟩ := H
    refine GoT.pure rfl (J01 Try.underlying23 ti31 rfl rfl h46 (ltn (t2neq 0 hO rfl) h47) (t2some 0 hO rfl h46 h47)) rfl rfl ?_
    refine GoT.stable rfl (t2head 0 hO rfl h46 h47 Try.underlying31 rfl rfl) rfl rfl ?_
    refine sbl 2 ?_
    refine sbl 1 ?_
    refine sxls hO cX.u H.1 H.2.1 fun p48 c49 fK => ?_
    refine sxl hO fK.u H.2.2.1 H.2.2.2.1 ?_
    have h51 := H.1
    have h52 := H.2.1
    have h53 := H.2.2.1
    have h54 := H.2.2.2.1
    replace H := H.2.2.2.2
    obtain ⟨h55, H⟩ := H
    refine GoT.pure rfl (J0p rfl rfl (wrap_i64 h55)) rfl rfl ?_
    refine GoT.both ?_ ?_
    ·skip
     skip
     refine sbl 2 ?_
     skip
     refine sbu Fl.i 3 [((0 : Int) + (ix (ix r13.Next (k2_40 : Int)) (cJ : Int)))] hO fun w56 p57 s hO => ?_
     skip
     refine sfr 1 hO fun s hO => ?_
     have zz := t2take (hf := Fl.i) hO h46 h47
     obtain ⟨xQ, kh, lL⟩ := zz
     refine nst kh fun s hO => ?_
     have xR := lL (bl [.row 3 1 (fB (cJ : Int).toNat).1 ((ix d_41 (cJ : Int)).length) ((fB (cJ : Int).toNat).2) xQ, t2h Fl.i 31 3 p23 r13.Letters.toNat r13.Letters.toNat fB d_41 (cJ : Int).toNat, t1 Fl.i 3 p57 1 1 [((0 : Int) + (ix (ix r13.Next (k2_40 : Int)) (cJ : Int)))], .blk B17 (.cells #[.int .i64 r13.Letters, .int .i64 r13.Start, .slice bN r13.Final.length bO, .slice cH r13.Next.length cI] 25 (0, 0)), .blk B11 (.cells #[.slice p23 r13.Letters.toNat r13.Letters.toNat, .slice none 0 0, .int .i64 (0 : Int)] 83 (0, 0)), .blk B5 (.cells #[.int .i64 (0 : Int), .slice none 0 0, .slice none 0 0, .slice none 0 0, .slice none 0 0, .slice none 0 0] 33 (0, 0))] ++ A)
     refine sfz 2 hO fun s hO xS xT => ?_
     obtain ⟨h66, H⟩ := H
     have zz := oapp Try.underlying31 ti3 rfl 0 hO rfl xR.u xS xT h66 (by decide)
     obtain ⟨w67, p68, c69, C4, um, qF, uo⟩ := zz
     dsimp only [sS, sZ] at qF
     refine GoT.stepX rfl (uo (by exact rfl) (by exact rfl)) rfl rfl rfl ?_
     refine nst um fun s hO => ?_
     obtain ⟨h75, H⟩ := H
     obtain ⟨h76, H⟩ := H
     refine GoT.pure rfl (J01 Try.underlying23 ti31 rfl rfl h75 (ltn (t2neqH 1 hO rfl) h76) (t2someH 1 hO rfl h75 h76)) rfl rfl ?_
     skip
     refine sfr 1 hO fun s hO => ?_
     refine sfr 1 hO fun s hO => ?_
     have zz := t2fix (hf := Fl.i) hO qF.u h75 h76 rfl
     obtain ⟨w77, kc, ke⟩ := zz
     refine GoT.stepX rfl (ke Try.underlying31 rfl ti31 (by exact rfl) (by exact rfl)) rfl rfl rfl ?_
     refine nst kc fun s hO => ?_
     refine sinc (natbd h43 ck.bd) ?_
     refine au ?_
     exact hX2 _ H _ _ ⟨_, agr, hO, ck.u, cX.u, fr⟩
    skip
    refine sbu Fl.i 3 [((0 : Int) + (ix (ix r13.Next (k2_40 : Int)) (cJ : Int)))] hO fun w80 p81 s hO => ?_
    refine GoT.both ?_ ?_
    ·skip
     skip
     refine sbl 3 ?_
     skip
     refine sfr 1 hO fun s hO => ?_
     have zz := t2take (hf := Fl.i) hO h46 h47
     obtain ⟨qG, uq, xU⟩ := zz
     refine nst uq fun s hO => ?_
     have xV := xU (bl [.row 3 1 (fB (cJ : Int).toNat).1 ((ix d_41 (cJ : Int)).length) ((fB (cJ : Int).toNat).2) qG, t2h Fl.i 31 3 p23 r13.Letters.toNat r13.Letters.toNat fB d_41 (cJ : Int).toNat, t1 Fl.i 3 p81 1 1 [((0 : Int) + (ix (ix r13.Next (k2_40 : Int)) (cJ : Int)))], .blk B17 (.cells #[.int .i64 r13.Letters, .int .i64 r13.Start, .slice bN r13.Final.length bO, .slice cH r13.Next.length cI] 25 (0, 0)), .blk B11 (.cells #[.slice p23 r13.Letters.toNat r13.Letters.toNat, .slice none 0 0, .int .i64 (0 : Int)] 83 (0, 0)), .blk B5 (.cells #[.int .i64 (0 : Int), .slice none 0 0, .slice none 0 0, .slice none 0 0, .slice none 0 0, .slice none 0 0] 33 (0, 0))] ++ A)
     refine sfz 2 hO fun s hO xW xX => ?_
     obtain ⟨h90, H⟩ := H
     have zz := oapp Try.underlying31 ti3 rfl 0 hO rfl xV.u xW xX h90 (by decide)
     obtain ⟨w91, p92, c93, C5, ur, qH, ut⟩ := zz
     dsimp only [sS, sZ] at qH
     refine GoT.stepX rfl (ut (by exact rfl) (by exact rfl)) rfl rfl rfl ?_
     refine nst ur fun s hO => ?_
     obtain ⟨h99, H⟩ := H
     obtain ⟨kj, H⟩ := H
     refine GoT.pure rfl (J01 Try.underlying23 ti31 rfl rfl h99 (ltn (t2neqH 1 hO rfl) kj) (t2someH 1 hO rfl h99 kj)) rfl rfl ?_
     skip
     refine sfr 1 hO fun s hO => ?_
     refine sfr 1 hO fun s hO => ?_
     have zz := t2fix (hf := Fl.i) hO qH.u h99 kj rfl
     obtain ⟨o4, qI, qJ⟩ := zz
     refine GoT.stepX rfl (qJ Try.underlying31 rfl ti31 (by exact rfl) (by exact rfl)) rfl rfl rfl ?_
     refine nst qI fun s hO => ?_
     refine sinc (natbd h43 ck.bd) ?_
     refine au ?_
     exact hX2 _ H _ _ ⟨_, agr, hO, ck.u, cX.u, fr⟩
    skip
    refine sfr 1 hO fun s hO => ?_
    have zz := t2take (hf := Fl.i) hO h46 h47
    obtain ⟨uu, qK, uv⟩ := zz
    refine nst qK fun s hO => ?_
    have uw := uv (bl [.row 3 1 (fB (cJ : Int).toNat).1 ((ix d_41 (cJ : Int)).length) ((fB (cJ : Int).toNat).2) uu, t2h Fl.i 31 3 p23 r13.Letters.toNat r13.Letters.toNat fB d_41 (cJ : Int).toNat, t1 Fl.i 3 p81 1 1 [((0 : Int) + (ix (ix r13.Next (k2_40 : Int)) (cJ : Int)))], .blk B17 (.cells #[.int .i64 r13.Letters, .int .i64 r13.Start, .slice bN r13.Final.length bO, .slice cH r13.Next.length cI] 25 (0, 0)), .blk B11 (.cells #[.slice p23 r13.Letters.toNat r13.Letters.toNat, .slice none 0 0, .int .i64 (0 : Int)] 83 (0, 0)), .blk B5 (.cells #[.int .i64 (0 : Int), .slice none 0 0, .slice none 0 0, .slice none 0 0, .slice none 0 0, .slice none 0 0] 33 (0, 0))] ++ A)
    refine sfz 2 hO fun s hO ux uy => ?_
    obtain ⟨jg, H⟩ := H
    have zz := oapp Try.underlying31 ti3 rfl 0 hO rfl uw.u ux uy jg (by decide)
    obtain ⟨C6, C7, C8, zK, qL, oK, qM⟩ := zz
    dsimp only [sS, sZ] at oK
    refine GoT.stepX rfl (qM (by exact rfl) (by exact rfl)) rfl rfl rfl ?_
    refine nst qL fun s hO => ?_
    skip
    refine sbl 3 ?_
    obtain ⟨nc, H⟩ := H
    obtain ⟨kC, H⟩ := H
    refine GoT.pure rfl (J01 Try.underlying23 ti31 rfl rfl nc (ltn (t2neqH 1 hO rfl) kC) (t2someH 1 hO rfl nc kC)) rfl rfl ?_
    skip
    refine sfr 1 hO fun s hO => ?_
    refine sfr 1 hO fun s hO => ?_
    have zz := t2fix (hf := Fl.i) hO oK.u nc kC rfl
    obtain ⟨C9, qN, ji⟩ := zz
    refine GoT.stepX rfl (ji Try.underlying31 rfl ti31 (by exact rfl) (by exact rfl)) rfl rfl rfl ?_
    refine nst qN fun s hO => ?_
    refine sinc (natbd h43 ck.bd) ?_
    refine au ?_
    exact hX2 _ H _ _ ⟨_, agr, hO, ck.u, cX.u, fr⟩
   refine au ?_
   obtain ⟨xY, H⟩ := H
   refine zo (J0p rfl rfl (wrap_i64 xY)) ?_
   refine au ?_
   exact hX1 _ H _ _ ⟨_, agr, hO, ck.u, cX.u, fr⟩
  refine au ?_
  refine drw 4 [(0, .pure), (1, .pure), (2, .pure), (3, .pure), (4, .stable), (5, .pure), (6, .pure), (7, .pure), (8, .stable), (9, .pure), (10, .stable), (11, .pure), (12, .pure), (13, .stable), (14, .pure), (15, .pure), (16, .pure), (17, .stable), (18, .pure), (19, .loud), (20, .last), (21, .pure), (22, .pure), (23, .last)] hO fun x4 s hO => ?_
  refine au ?_
  obtain ⟨x5, H⟩ := H
  refine GoQ.pure rfl (J0p rfl rfl (wrap_i64 x5)) rfl rfl ?_
  refine au ?_
  refine GoQ.pure rfl (J09 Try.underlying120 ti120 (pl := [(0, 1), (1, 1), (2, 1)]) (vs := [(0, .int .i64 ((0 : Int) + r13.Start)), (1, .slice bN r13.Final.length bO), (2, .int .i64 (0 : Int))]) (cs := #[.int .i64 ((0 : Int) + r13.Start), .slice bN r13.Final.length bO, .int .i64 (0 : Int)]) (by kernel_rfl) rfl (by kernel_rfl)) rfl rfl ?_
  have zz := obuildN (r := rppart) (n := 1) (parts := [(0, .agg #[.int .i64 ((0 : Int) + r13.Start), .slice bN r13.Final.length bO, .int .i64 (0 : Int)])]) (vs := [.int .i64 ((0 : Int) + r13.Start), .slice bN r13.Final.length bO, .int .i64 (0 : Int)]) (xs := [(⟨((0 : Int) + r13.Start), r13.Final, (0 : Int)⟩ : part)]) Try.underlying81 ti120 hO (by decide) (by decide) (by kernel_rfl) (Els.consR (us := [.int .i64 ((0 : Int) + r13.Start), .slice bN r13.Final.length bO, .int .i64 (0 : Int)]) rfl ⟨rfl, ⟨bN, bO, rfl, ck.u⟩, rfl⟩ (Els.nil _ _ _) (by simp [mx])) rfl
  obtain ⟨wV, Dc, qO, uz, uA, qP⟩ := zz
  refine GoQ.loud rfl (qP rfl) uA rfl rfl ?_
  refine nst qO fun s hO => ?_
  refine sfzR 0 hO uz fun s hO uB ko => ?_
  have ii := Stp.nil (e := 120) (r := 3) hO
  refine nst ii fun s hO => ?_
  have i8 := elN (rppart) hO
  obtain ⟨x6, H⟩ := H
  have zz := oapp Try.underlying81 ti120 rfl 0 hO rfl i8 uB.u ko x6 (by decide)
  obtain ⟨xD, dQ, dR, dG, qQ, cy, qR⟩ := zz
  dsimp only [sS, sZ] at cy
  refine GoQ.last rfl (qR (by exact rfl) (by exact rfl)) rfl rfl ?_
  refine nst qQ fun s hO => ?_
  refine sbs 3 hO fun xF s hO => ?_
  refine au ?_
  obtain ⟨x7, H⟩ := H
  refine zo (J0p rfl rfl (wrap_i64 x7)) ?_
  refine sbs 3 hO fun wc s hO => ?_
  refine au ?_
  refine Go1.ret1V Try.func62 rfl (show _ = .int .i64 (0 : Int) from rfl) ?_
  refine hR15 _ _ ?_
  refine au ?_
  refine zo (fun w => opB (J4Z rfl rfl w) (ndT (by decide))) ?_
  refine au ?_
  refine GoR.inl (vs := [.pointer (some ⟨B11, 0, none⟩)]) (caps := []) rfl rfl body63 Try.func63 rfl Try.ntmps63 rfl rfl rfl ?_
  intro RhR152 hR152
  refine sal hO fun o9 B154 s hO => ?_
  refine au ?_
  refine sfz2 2 hO fun s hO cK oL => ?_
  refine zcr (J00 body101 (show ([.slice p23 r13.Letters.toNat r13.Letters.toNat, .bool true] : List Value) = [.slice p23 dP.length r13.Letters.toNat, .bool true] from by rw [← oL]) (J3y hO.lt cK H)) fun _ wh => e4 fun r158 r159 ce cf => e4 fun bE bF bC bD => e4 fun cg ci bg bh => e2 fun bX bY => sc0 hO fun s hO => d1 fun aR => d1 fun ae => d4 fun af aD ad aE H => ?_
  refine sal hO fun Dd B162 s hO => ?_
  refine sba 0 hO fun xb s hO => ?_
  refine scm H (fun qS H => ?_) fun qS H => ?_
  ·refine sln0 ?_
   refine scm (H ae.bd) (fun lE H => ?_) fun lE H => ?_
   ·refine au ?_
    refine zo (J09 Try.underlying33 ti33 (pl := [(0, 1), (1, 1), (2, 1), (3, 1), (4, 1), (5, 1)]) (vs := []) (cs := #[.int .i64 (0 : Int), .slice none 0 0, .slice none 0 0, .slice none 0 0, .slice none 0 0, .slice none 0 0]) (by kernel_rfl) rfl (by kernel_rfl)) ?_
    refine sba 1 hO fun pc s hO => ?_
    refine au ?_
    refine Go1.retC3V Try.func63 rfl rfl (rlb 1 hO) (show _ = .slice none 0 0 from rfl) (show _ = .int .i64 (3 : Int) from rfl) ?_
    refine hR152 _ _ ?_
    refine sal hO fun pI B169 s hO => ?_
    refine sba 0 hO fun pe s hO => ?_
    refine au ?_
    refine zo (fun w => opB (J4Z rfl rfl w) (ndF (by decide))) ?_
    refine au ?_
    refine zo (J09 Try.underlying33 ti33 (pl := [(0, 1), (1, 1), (2, 1), (3, 1), (4, 1), (5, 1)]) (vs := []) (cs := #[.int .i64 (0 : Int), .slice none 0 0, .slice none 0 0, .slice none 0 0, .slice none 0 0, .slice none 0 0]) (by kernel_rfl) rfl (by kernel_rfl)) ?_
    refine sba 6 hO fun pK s hO => ?_
    refine au ?_
    refine Go1.retC2 Try.func19 rfl rfl (rlb 6 hO) ⟨((⟨(0 : Int), ([] : List (List Int)), ([] : List Str), ([] : List Int), ([] : List Bool), ([] : List Bool)⟩ : Syntactic)), _, _, _, _, _, _, _, _, _, _, _, ?_, frs, (ISl.null _ _ _), (ISl.null _ _ _), (ISl.null _ _ _), (ISl.null _ _ _), (ISl.null _ _ _), H⟩
    exact rfl
   refine au ?_
   refine drA Same.tr 1 [(0, .pure), (1, .pure), (2, .pure), (3, .stable), (4, .pure), (5, .pure), (7, .pure), (9, .pure), (10, .stable), (11, .pure), (12, .stable), (14, .pure), (13, .loud), (6, .alloc), (8, .alloc), (15, .alloc), (16, .pure), (17, .alloc), (18, .last)] hO fun x8 s hO => ?_
   have i9 := hO.le
   have hw175 := (fr : Fr (bl []) w0 _ x8).ch.size
   refine au ?_
   refine au ?_
   refine au ?_
   refine sbl 4 ?_
   refine slnN oL ?_
   refine au ?_
   refine au ?_
   refine au ?_
   refine sbl 0 ?_
   refine sxls hO ad.u (H cK.bd).1 (H cK.bd).2.1 fun De Dg uC => ?_
   refine au ?_
   refine GoQA.loudI rfl rfl fun xd A180 uD => ?_
   refine sgw uD hO fun s hO => ?_
   have Dh := (H cK.bd).1
   have Di := (H cK.bd).2.1
   refine GoAt.call (J00 body86 rfl (J0n hO.lt uC.u (H cK.bd).2.2)) (fun _ _ hr => ⟨fun _ => saq hr, Same.kp hO (saq hr)⟩) rfl fun _ wo => e4 fun r182 cU cR cS => sA1 hO fun s hO => fun H => ?_
   obtain ⟨lF, H⟩ := H
   obtain ⟨x9, H⟩ := H
   refine GoQA.alloc rfl rfl (alMake2 (e' := 3) Fl.i Try.underlying23 ti31 lF x9 (by decide) rfl rfl) ?_
   intro ya A190 dC A192 uE uF hd195 hnb196 hh197
   refine sgw uE hO fun s hO => ?_
   refine sgn (e := t2 Fl.i 31 3 (some ⟨dC, 0, none⟩) r158.Elems.length r158.Elems.length ((fun _ => (none, 0))) (List.replicate r158.Elems.length ([] : List Int))) uF hO i9 hw175 hnb196 (J5P dC) hh197 hd195 (fr : Fr (bl []) w0 _ ya) fun s hO hB => ?_
   obtain ⟨yb, H⟩ := H
   obtain ⟨yc, H⟩ := H
   have zz := alMakeE (n := (r158.Elems.length : Int)) (r := Rp.str) (d := ([] : Str)) Try.underlying30 ti9 (fun _ _ => ⟨rfl, Nat.zero_le _⟩) rfl yb yc (by decide)
   obtain ⟨uG, hal214, uH⟩ := zz
   refine GoQA.alloc rfl rfl (hal214 rfl rfl) ?_
   intro qT A202 dI A204 uI uJ hd207 hnb208 hh209
   refine sgw uI hO fun s hO => ?_
   have kD := uH (bl [t2 Fl.i 31 3 (some ⟨dC, 0, none⟩) r158.Elems.length r158.Elems.length ((fun _ => (none, 0))) (List.replicate r158.Elems.length ([] : List Int)), t1 Fl.i 3 cR cU cS r182, .blk B162 (.cells #[.int .i64 r158.Points, .bool r158.Monoid, .slice ce r158.Gens.length cf, .slice bE r158.Elems.length bF, .slice bC r158.Prefix.length bD, .slice cg r158.Last.length ci, .slice bg r158.Right.length bh, .slice bX r158.Rules.length bY, .int .i64 r158.Done] 123 (0, 0)), .blk B154 (.cells #[.int .i64 (0 : Int), .slice none 0 0, .slice none 0 0, .slice none 0 0, .slice none 0 0, .slice none 0 0] 33 (0, 0)), .row 120 3 dQ (0 + 1) dR dG, .blk B17 (.cells #[.int .i64 r13.Letters, .int .i64 r13.Start, .slice bN r13.Final.length bO, .slice cH r13.Next.length cI] 25 (0, 0)), .blk B11 (.cells #[.slice p23 r13.Letters.toNat r13.Letters.toNat, .slice dQ (0 + 1) dR, .int .i64 ((0 : Int) + (r13.Final.length : Int))] 83 (0, 0)), .blk B5 (.cells #[.int .i64 (0 : Int), .slice none 0 0, .slice none 0 0, .slice none 0 0, .slice none 0 0, .slice none 0 0] 33 (0, 0))] ++ A202) qT
   refine sgn (e := .row 9 1 (some ⟨dI, 0, none⟩) r158.Elems.length r158.Elems.length uG) uJ hO i9 hw175 hnb208 rfl hh209 hd207 (fr : Fr (bl []) w0 _ qT) fun s hO hB => ?_
   replace kD := kD.ch s.ch
   refine cl1 Fl.str 0 hO kD.u fun s hO => ?_
   obtain ⟨yd, H⟩ := H
   obtain ⟨ye, H⟩ := H
   have zz := alMakeE (n := (r158.Elems.length : Int)) (r := Rp.bool) (d := false) Try.underlying22 ti4 (fun _ _ => rfl) rfl yd ye (by decide)
   obtain ⟨uK, hal230, uL⟩ := zz
   refine GoQA.alloc rfl rfl (hal230 rfl rfl) ?_
   intro lY A218 dS A220 uM uN hd223 hnb224 hh225
   refine sgw uM hO fun s hO => ?_
   have kE := uL (bl [t1 Fl.str 9 (some ⟨dI, 0, none⟩) r158.Elems.length r158.Elems.length (List.replicate r158.Elems.length (([] : Str))), t2 Fl.i 31 3 (some ⟨dC, 0, none⟩) r158.Elems.length r158.Elems.length ((fun _ => (none, 0))) (List.replicate r158.Elems.length ([] : List Int)), t1 Fl.i 3 cR cU cS r182, .blk B162 (.cells #[.int .i64 r158.Points, .bool r158.Monoid, .slice ce r158.Gens.length cf, .slice bE r158.Elems.length bF, .slice bC r158.Prefix.length bD, .slice cg r158.Last.length ci, .slice bg r158.Right.length bh, .slice bX r158.Rules.length bY, .int .i64 r158.Done] 123 (0, 0)), .blk B154 (.cells #[.int .i64 (0 : Int), .slice none 0 0, .slice none 0 0, .slice none 0 0, .slice none 0 0, .slice none 0 0] 33 (0, 0)), .row 120 3 dQ (0 + 1) dR dG, .blk B17 (.cells #[.int .i64 r13.Letters, .int .i64 r13.Start, .slice bN r13.Final.length bO, .slice cH r13.Next.length cI] 25 (0, 0)), .blk B11 (.cells #[.slice p23 r13.Letters.toNat r13.Letters.toNat, .slice dQ (0 + 1) dR, .int .i64 ((0 : Int) + (r13.Final.length : Int))] 83 (0, 0)), .blk B5 (.cells #[.int .i64 (0 : Int), .slice none 0 0, .slice none 0 0, .slice none 0 0, .slice none 0 0, .slice none 0 0] 33 (0, 0))] ++ A218) lY
   refine sgn (e := .row 4 1 (some ⟨dS, 0, none⟩) r158.Elems.length r158.Elems.length uK) uN hO i9 hw175 hnb224 rfl hh225 hd223 (fr : Fr (bl []) w0 _ lY) fun s hO hB => ?_
   replace kE := kE.ch s.ch
   refine cl1 Fl.bool 0 hO kE.u fun s hO => ?_
   refine GoQA.pure rfl (J09 Try.underlying33 ti33 (pl := [(0, 1), (1, 1), (2, 1), (3, 1), (4, 1), (5, 1)]) (vs := [(0, .int .i64 (dP.length : Int)), (1, .slice (some ⟨dC, 0, none⟩) r158.Elems.length r158.Elems.length), (2, .slice (some ⟨dI, 0, none⟩) r158.Elems.length r158.Elems.length), (3, .slice cR cU cS), (5, .slice (some ⟨dS, 0, none⟩) r158.Elems.length r158.Elems.length)]) (cs := #[.int .i64 (dP.length : Int), .slice (some ⟨dC, 0, none⟩) r158.Elems.length r158.Elems.length, .slice (some ⟨dI, 0, none⟩) r158.Elems.length r158.Elems.length, .slice cR cU cS, .slice none 0 0, .slice (some ⟨dS, 0, none⟩) r158.Elems.length r158.Elems.length]) (by kernel_rfl) rfl (by kernel_rfl)) rfl rfl ?_
   refine GoQA.alloc rfl rfl (alAlloc (cs := #[.int .i64 (0 : Int), .slice none 0 0, .slice none 0 0, .slice none 0 0, .slice none 0 0, .slice none 0 0]) ti33 rfl) ?_
   intro yf A234 eH A236 uO uP hd239 hnb240 hh241
   refine sgw uO hO fun s hO => ?_
   refine sgn (e := .blk eH (.cells #[.int .i64 (0 : Int), .slice none 0 0, .slice none 0 0, .slice none 0 0, .slice none 0 0, .slice none 0 0] 33 (0, 0))) uP hO i9 hw175 hnb240 rfl hh241 hd239 (fr : Fr (bl []) w0 _ yf) fun s hO hB => ?_
   refine GoQA.lastI rfl rfl fun Dj A243 uR => ?_
   refine sgw uR hO fun s hO => ?_
   refine sba 0 hO fun Dk s hO => ?_
   refine GoQA.nil fun yg A247 uS uT => ?_
   refine sgw uS hO fun s hO => ?_
   refine spm uT hO fun s hO => ?_
   refine au ?_
   have hB := (fr : Fr (bl []) w0 _ yg)
   replace cy := cy.o hO
   replace ae := ae.o hO
   replace aR := aR.o hO
   replace aD := aD.o hO
   replace af := af.o hO
   replace ad := ad.o hO
   replace aE := aE.o hO
   replace cK := cK.o hO
   revert hO; repeat (rename Owns _ _ _ _ => q; clear q)
   intro hO; repeat (rename Sq _ _ _ _ _ _ => q; clear q)
   refine au ?_
   refine sdr [8] hO fun s hO => ?_
   refine lw H (fun (f7, d_252, fe) σ w => (fun Z => agrees σ [(0, .pointer (some ⟨B11, 0, none⟩)), (2, .pointer (some ⟨B154, 0, none⟩)), (5, .pointer (some ⟨B162, 0, none⟩)), (7, .int .i64 (r158.Elems.length : Int)), (8, .pointer (some ⟨eH, 0, none⟩)), (9, .int .i64 (f7 : Int))] ∧ Owns w0.heap.size w Z A ∧ Els (rppart) (bl Z ++ A) w dG ((([] : List part)) ++ ([(⟨((0 : Int) + r13.Start), r13.Final, (0 : Int)⟩ : part)])) ∧ ISl (Rp.sl (Rp.int .i64)) (bl Z ++ A) w p23 r13.Letters.toNat dP ∧ ISl (Rp.sl (Rp.int .i64)) (bl Z ++ A) w ce cf r158.Gens ∧ ISl (Rp.sl (Rp.int .i64)) (bl Z ++ A) w bE bF r158.Elems ∧ ISl (Rp.int .i64) (bl Z ++ A) w bC bD r158.Prefix ∧ ISl (Rp.int .i64) (bl Z ++ A) w cg ci r158.Last ∧ ISl (Rp.sl (Rp.int .i64)) (bl Z ++ A) w bg bh r158.Right ∧ ISl (rpRule) (bl Z ++ A) w bX bY r158.Rules ∧ Fr (bl []) w0 (bl Z) w) [.blk eH (.cells #[.int .i64 (dP.length : Int), .slice (some ⟨dC, 0, none⟩) r158.Elems.length r158.Elems.length, .slice (some ⟨dI, 0, none⟩) r158.Elems.length r158.Elems.length, .slice cR cU cS, .slice none 0 0, .slice (some ⟨dS, 0, none⟩) r158.Elems.length r158.Elems.length] 33 (0, 0)), t1 Fl.bool 4 (some ⟨dS, 0, none⟩) r158.Elems.length r158.Elems.length d_252, t1 Fl.str 9 (some ⟨dI, 0, none⟩) r158.Elems.length r158.Elems.length fe, t2 Fl.i 31 3 (some ⟨dC, 0, none⟩) r158.Elems.length r158.Elems.length ((fun _ => (none, 0))) (List.replicate r158.Elems.length ([] : List Int)), t1 Fl.i 3 cR cU cS r182, .blk B162 (.cells #[.int .i64 r158.Points, .bool r158.Monoid, .slice ce r158.Gens.length cf, .slice bE r158.Elems.length bF, .slice bC r158.Prefix.length bD, .slice cg r158.Last.length ci, .slice bg r158.Right.length bh, .slice bX r158.Rules.length bY, .int .i64 r158.Done] 123 (0, 0)), .blk B154 (.cells #[.int .i64 (0 : Int), .slice none 0 0, .slice none 0 0, .slice none 0 0, .slice none 0 0, .slice none 0 0] 33 (0, 0)), .row 120 3 dQ (0 + 1) dR dG, .blk B11 (.cells #[.slice p23 r13.Letters.toNat r13.Letters.toNat, .slice dQ (0 + 1) dR, .int .i64 ((0 : Int) + (r13.Final.length : Int))] 83 (0, 0)), .blk B5 (.cells #[.int .i64 (0 : Int), .slice none 0 0, .slice none 0 0, .slice none 0 0, .slice none 0 0, .slice none 0 0] 33 (0, 0))]) ⟨agr, hO, cy.u, cK.u, aR.u, ae.u, af.u, aD.u, ad.u, aE.u, fr⟩ ?_
   refine fun X3 => p2 fun f7 d_252 fe => fun H hX3 σ Dl => d1 fun hag => d1 fun hO => d1 fun cy => d1 fun cK => d1 fun aR => d1 fun ae => d4 fun af aD ad aE hB => ?_
   dsimp only at H
   refine Go1.keep _ hag ?_
   revert hO; repeat (rename Owns _ _ _ _ => q; clear q)
   intro hO; repeat (rename Sq _ _ _ _ _ _ => q; clear q)
   refine scm H (fun qU H => ?_) fun qU H => ?_
   ·refine au ?_
    refine drw 1 [(0, .pure), (1, .stable), (2, .pure), (3, .pure), (4, .stable), (5, .pure), (6, .stable), (7, .pure), (8, .pure), (9, .stable), (10, .pure), (11, .stable), (12, .pure), (13, .stable), (14, .pure), (15, .pure), (16, .stable), (17, .pure), (18, .pure), (19, .loud), (20, .stable), (21, .pure), (22, .pure), (23, .last)] hO fun Dn s hO => ?_
    refine sxl hO af.u H.1 H.2.1 ?_
    refine sxl1 2 hO H.2.2.1 H.2.2.2.1 ?_
    have hle256 := t1le 2 hO H.2.2.1 H.2.2.2.1
    refine sxl hO aD.u H.2.2.2.2.1 H.2.2.2.2.2.1 ?_
    have Do := H.1
    have Dp := H.2.1
    have Dq := H.2.2.1
    have Dr := H.2.2.2.1
    have Du := H.2.2.2.2.1
    have Dv := H.2.2.2.2.2.1
    replace H := H.2.2.2.2.2.2
    obtain ⟨yh, H⟩ := H
    refine GoQ.pure rfl (J0p rfl rfl (wrap_i64 yh)) rfl rfl ?_
    refine GoQ.pure rfl (J3e Try.underlying3 Try.underlying5 rfl rfl) rfl rfl ?_
    refine sbu (Fl.int .u8) 5 [(IntKind.u8.wrap ((97 : Int) + (ix r158.Last (f7 : Int))))] hO fun Dw Dx s hO => ?_
    refine op1 0 hO fun i7 s hO fG => ?_
    have hle269 := J8k fG.bd
    refine GoQ.stable rfl (oldBytes 0 hO rfl fG.u Try.underlying126 Try.underlying5 Try.underlying9 rfl) rfl rfl ?_
    obtain ⟨qV, H⟩ := H
    refine GoQ.pure rfl (J3S rfl rfl qV) rfl rfl ?_
    refine six1 3 hO H.1 H.2.1 ?_
    refine sst (u := ((ix fe (ix r158.Prefix (f7 : Int))) ++ (byt ([(IntKind.u8.wrap ((97 : Int) + (ix r158.Last (f7 : Int))))])))) 3 hO H.1 H.2.1 (fun Dy s hO => ?_) (hR := by exact fun _ _ => ⟨rfl, (lenApp qV)⟩)
    refine six1 2 hO H.2.2.1 H.2.2.2.1 ?_
    refine sst (u := true) 2 hO H.2.2.1 H.2.2.2.1 fun Dz s hO => ?_
    refine sinc (natbd qU ae.bd) ?_
    refine au ?_
    refine cl1 (Fl.int .u8) 0 hO fG.u fun s hO => ?_
    refine sdr [0] hO fun s hO => ?_
    exact hX3 _ H.2.2.2.2 _ _ ⟨agr, hO, cy.u, cK.u, aR.u, ae.u, af.u, aD.u, ad.u, aE.u, fr⟩
   refine sln0 ?_
   refine au ?_
   refine lw (H ad.bd) (fun (cV, d_275, ik) σ w => ∃ gk, (fun Z => agrees σ [(0, .pointer (some ⟨B11, 0, none⟩)), (2, .pointer (some ⟨B154, 0, none⟩)), (5, .pointer (some ⟨B162, 0, none⟩)), (7, .int .i64 (r158.Elems.length : Int)), (8, .pointer (some ⟨eH, 0, none⟩)), (86, .slice bg r158.Right.length bh), (87, .int .i64 (r158.Right.length : Int)), (88, .int .i64 (cV : Int))] ∧ Owns w0.heap.size w Z A ∧ Els (rppart) (bl Z ++ A) w dG ((([] : List part)) ++ ([(⟨((0 : Int) + r13.Start), r13.Final, (0 : Int)⟩ : part)])) ∧ ISl (Rp.sl (Rp.int .i64)) (bl Z ++ A) w p23 r13.Letters.toNat dP ∧ ISl (Rp.sl (Rp.int .i64)) (bl Z ++ A) w ce cf r158.Gens ∧ ISl (Rp.sl (Rp.int .i64)) (bl Z ++ A) w bE bF r158.Elems ∧ ISl (Rp.int .i64) (bl Z ++ A) w bC bD r158.Prefix ∧ ISl (Rp.int .i64) (bl Z ++ A) w cg ci r158.Last ∧ ISl (Rp.sl (Rp.int .i64)) (bl Z ++ A) w bg bh r158.Right ∧ ISl (rpRule) (bl Z ++ A) w bX bY r158.Rules ∧ Fr (bl []) w0 (bl Z) w) [.blk eH (.cells #[.int .i64 (dP.length : Int), .slice (some ⟨dC, 0, none⟩) r158.Elems.length r158.Elems.length, .slice (some ⟨dI, 0, none⟩) r158.Elems.length r158.Elems.length, .slice cR cU cS, .slice none 0 0, .slice (some ⟨dS, 0, none⟩) r158.Elems.length r158.Elems.length] 33 (0, 0)), t1 Fl.bool 4 (some ⟨dS, 0, none⟩) r158.Elems.length r158.Elems.length d_275, t1 Fl.str 9 (some ⟨dI, 0, none⟩) r158.Elems.length r158.Elems.length fe, t2 Fl.i 31 3 (some ⟨dC, 0, none⟩) r158.Elems.length r158.Elems.length gk ik, t1 Fl.i 3 cR cU cS r182, .blk B162 (.cells #[.int .i64 r158.Points, .bool r158.Monoid, .slice ce r158.Gens.length cf, .slice bE r158.Elems.length bF, .slice bC r158.Prefix.length bD, .slice cg r158.Last.length ci, .slice bg r158.Right.length bh, .slice bX r158.Rules.length bY, .int .i64 r158.Done] 123 (0, 0)), .blk B154 (.cells #[.int .i64 (0 : Int), .slice none 0 0, .slice none 0 0, .slice none 0 0, .slice none 0 0, .slice none 0 0] 33 (0, 0)), .row 120 3 dQ (0 + 1) dR dG, .blk B11 (.cells #[.slice p23 r13.Letters.toNat r13.Letters.toNat, .slice dQ (0 + 1) dR, .int .i64 ((0 : Int) + (r13.Final.length : Int))] 83 (0, 0)), .blk B5 (.cells #[.int .i64 (0 : Int), .slice none 0 0, .slice none 0 0, .slice none 0 0, .slice none 0 0, .slice none 0 0] 33 (0, 0))]) ⟨_, agr, hO, cy.u, cK.u, aR.u, ae.u, af.u, aD.u, ad.u, aE.u, fr⟩ ?_
   refine fun X4 => p2 fun cV d_275 ik => fun H hX4 σ DA => e1 fun gk => d1 fun hag => d1 fun hO => d1 fun cy => d1 fun cK => d1 fun aR => d1 fun ae => d4 fun af aD ad aE hB => ?_
   dsimp only at H
   refine Go1.keep _ hag ?_
   revert hO; repeat (rename Owns _ _ _ _ => q; clear q)
   intro hO; repeat (rename Sq _ _ _ _ _ _ => q; clear q)
   refine scm H (fun ne H => ?_) fun ne H => ?_
   ·refine sxls hO ad H.1 H.2.1 fun DB DD uU => ?_
    refine au ?_
    refine drw 1 [(0, .pure), (1, .stable), (2, .pure), (3, .stable), (4, .pure), (5, .stable), (6, .pure), (7, .pure), (8, .loud), (9, .pure), (10, .pure), (11, .last)] hO fun DE s hO => ?_
    refine au ?_
    have DF := H.1
    have DG := H.2.1
    have DH := H.2.2.1
    have fw := H.2.2.2.1
    refine sxb1 1 hO H.2.2.1 H.2.2.2.1 H.2.2.2.2 (fun yj H => ?_) fun yj H => ?_
    ·refine six1 1 hO H.1 H.2.1 ?_
     refine sst (u := true) 1 hO H.1 H.2.1 fun DJ s hO => ?_
     refine au ?_
     refine drw 1 [(0, .pure), (1, .stable), (2, .pure), (3, .pure), (4, .loud), (5, .pure), (6, .last)] hO fun xk s hO => ?_
     refine smk Fl.i H.2.2 hO fun DK yk s hO => ?_
     have DL := H.1
     have DN := H.2.1
     replace H := H.2.2.2.2
     obtain ⟨nf, H⟩ := H
     obtain ⟨ng, H⟩ := H
     refine GoQ.pure rfl (J01 Try.underlying23 ti31 rfl rfl nf (ltn (t2neq 4 hO rfl) ng) (t2some 4 hO rfl nf ng)) rfl rfl ?_
     refine op1 0 hO fun zL s hO uV => ?_
     refine sfr 4 hO fun s hO => ?_
     refine sfr 1 hO fun s hO => ?_
     have zz := t2put (hf := Fl.i) hO uV.u nf ng
     obtain ⟨xl, qW, qX⟩ := zz
     refine GoQ.last rfl (qX Try.underlying31 rfl ti31 (by exact rfl) (by exact rfl)) rfl rfl ?_
     refine nst qW fun s hO => ?_
     refine au ?_
     obtain ⟨jv, H⟩ := H
     obtain ⟨jw, H⟩ := H
     refine zo (J01 Try.underlying23 ti31 rfl rfl jv (ltn (t2neq 0 hO rfl) jw) (t2some 0 hO rfl jv jw)) ?_
     refine zs (t2head 0 hO rfl jv jw Try.underlying31 rfl rfl) ?_
     refine au ?_
     obtain ⟨nh, H⟩ := H
     obtain ⟨ni, H⟩ := H
     refine zo (J01 Try.underlying31 ti3 rfl rfl nh ni (t2isome 0 hO rfl jv jw nh ni)) ?_
     have zz := t2st (r := Rp.int .i64) (hf := Fl.i) rfl 0 hO rfl jv jw nh ni (v := .int .i64 (cV : Int)) (u := (cV : Int)) rfl rfl
     obtain ⟨DO, qY, q8⟩ := zz
     refine zg (q8 Try.underlying3 rfl ti3 (by exact rfl) (by exact rfl)) ?_
     refine nst qY fun s hO => ?_
     refine au ?_
     refine lw H (fun (fP, d_311) σ w => (fun Z => agrees σ [(0, .pointer (some ⟨B11, 0, none⟩)), (2, .pointer (some ⟨B154, 0, none⟩)), (5, .pointer (some ⟨B162, 0, none⟩)), (7, .int .i64 (r158.Elems.length : Int)), (8, .pointer (some ⟨eH, 0, none⟩)), (10, .int .i64 (cV : Int)), (12, .int .i64 (fP : Int)), (86, .slice bg r158.Right.length bh), (87, .int .i64 (r158.Right.length : Int)), (88, .int .i64 (cV : Int))] ∧ Owns w0.heap.size w Z A ∧ Els (rppart) (bl Z ++ A) w dG ((([] : List part)) ++ ([(⟨((0 : Int) + r13.Start), r13.Final, (0 : Int)⟩ : part)])) ∧ ISl (Rp.sl (Rp.int .i64)) (bl Z ++ A) w p23 r13.Letters.toNat dP ∧ ISl (Rp.sl (Rp.int .i64)) (bl Z ++ A) w ce cf r158.Gens ∧ ISl (Rp.sl (Rp.int .i64)) (bl Z ++ A) w bE bF r158.Elems ∧ ISl (Rp.int .i64) (bl Z ++ A) w bC bD r158.Prefix ∧ ISl (Rp.int .i64) (bl Z ++ A) w cg ci r158.Last ∧ ISl (Rp.sl (Rp.int .i64)) (bl Z ++ A) w bg bh r158.Right ∧ ISl (rpRule) (bl Z ++ A) w bX bY r158.Rules ∧ Fr (bl []) w0 (bl Z) w) [t2 Fl.i 31 3 (some ⟨dC, 0, none⟩) r158.Elems.length r158.Elems.length (hup gk (cV : Int).toNat (yk, r158.Elems.length)) d_311, .blk eH (.cells #[.int .i64 (dP.length : Int), .slice (some ⟨dC, 0, none⟩) r158.Elems.length r158.Elems.length, .slice (some ⟨dI, 0, none⟩) r158.Elems.length r158.Elems.length, .slice cR cU cS, .slice none 0 0, .slice (some ⟨dS, 0, none⟩) r158.Elems.length r158.Elems.length] 33 (0, 0)), t1 Fl.bool 4 (some ⟨dS, 0, none⟩) r158.Elems.length r158.Elems.length (st d_275 (0 : Int) true), t1 Fl.str 9 (some ⟨dI, 0, none⟩) r158.Elems.length r158.Elems.length fe, t1 Fl.i 3 cR cU cS r182, .blk B162 (.cells #[.int .i64 r158.Points, .bool r158.Monoid, .slice ce r158.Gens.length cf, .slice bE r158.Elems.length bF, .slice bC r158.Prefix.length bD, .slice cg r158.Last.length ci, .slice bg r158.Right.length bh, .slice bX r158.Rules.length bY, .int .i64 r158.Done] 123 (0, 0)), .blk B154 (.cells #[.int .i64 (0 : Int), .slice none 0 0, .slice none 0 0, .slice none 0 0, .slice none 0 0, .slice none 0 0] 33 (0, 0)), .row 120 3 dQ (0 + 1) dR dG, .blk B11 (.cells #[.slice p23 r13.Letters.toNat r13.Letters.toNat, .slice dQ (0 + 1) dR, .int .i64 ((0 : Int) + (r13.Final.length : Int))] 83 (0, 0)), .blk B5 (.cells #[.int .i64 (0 : Int), .slice none 0 0, .slice none 0 0, .slice none 0 0, .slice none 0 0, .slice none 0 0] 33 (0, 0))]) ⟨agr, hO, cy.u, cK.u, aR.u, ae.u, af.u, aD.u, ad.u, aE.u, fr⟩ ?_
     refine fun X5 => p1 fun fP d_311 => fun H hX5 σ DP => d1 fun hag => d1 fun hO => d1 fun cy => d1 fun cK => d1 fun aR => d1 fun ae => d4 fun af aD ad aE hB => ?_
     dsimp only at H
     refine Go1.keep _ hag ?_
     revert hO; repeat (rename Owns _ _ _ _ => q; clear q)
     intro hO; repeat (rename Sq _ _ _ _ _ _ => q; clear q)
     refine scm H (fun q9 H => ?_) fun q9 H => ?_
     ·refine au ?_
      refine drw 1 [(0, .pure), (1, .stable), (2, .pure), (3, .pure), (4, .stable), (5, .pure), (6, .pure), (7, .stable), (8, .pure), (9, .stable), (10, .pure), (11, .pure), (12, .stable), (13, .pure), (14, .stable), (15, .pure), (16, .pure), (17, .stable), (18, .pure), (19, .stable), (20, .pure), (21, .stable), (22, .pure), (23, .stable), (24, .pure), (25, .pure), (26, .stable), (27, .pure), (28, .stable), (29, .pure), (30, .last)] hO fun xm s hO => ?_
      refine au ?_
      obtain ⟨jx, H⟩ := H
      obtain ⟨jy, H⟩ := H
      refine GoQ.pure rfl (J01 Try.underlying23 ti31 rfl rfl jx (ltn (t2neq 0 hO rfl) jy) (t2some 0 hO rfl jx jy)) rfl rfl ?_
      refine GoQ.stable rfl (t2head 0 hO rfl jx jy Try.underlying31 rfl rfl) rfl rfl ?_
      refine au ?_
      obtain ⟨jz, H⟩ := H
      obtain ⟨jA, H⟩ := H
      refine GoQ.pure rfl (J01 Try.underlying23 ti31 rfl rfl jz (ltn (t2neq 0 hO rfl) jA) (t2some 0 hO rfl jz jA)) rfl rfl ?_
      refine GoQ.stable rfl (t2head 0 hO rfl jz jA Try.underlying31 rfl rfl) rfl rfl ?_
      refine sxl hO af.u H.1 H.2.1 ?_
      have DR := H.1
      have DS := H.2.1
      replace H := H.2.2
      obtain ⟨nj, H⟩ := H
      obtain ⟨nk, H⟩ := H
      refine GoQ.pure rfl (J01 Try.underlying31 ti3 rfl rfl nj nk (t2isome 0 hO rfl jz jA nj nk)) rfl rfl ?_
      refine GoQ.stable rfl (t2Int 0 hO rfl jz jA nj nk Try.underlying3 rfl rfl) rfl rfl ?_
      refine sxls hO ad.u H.1 H.2.1 fun DT DU uW => ?_
      refine sxl hO aD.u H.2.2.1 H.2.2.2.1 ?_
      refine sxl hO uW.u H.2.2.2.2.1 H.2.2.2.2.2.1 ?_
      have DW := H.1
      have DX := H.2.1
      have DY := H.2.2.1
      have D3 := H.2.2.2.1
      have D4 := H.2.2.2.2.1
      have D5 := H.2.2.2.2.2.1
      replace H := H.2.2.2.2.2.2
      obtain ⟨nr, H⟩ := H
      obtain ⟨ns, H⟩ := H
      refine GoQ.pure rfl (J01 Try.underlying31 ti3 rfl rfl nr ns (t2isome 0 hO rfl jx jy nr ns)) rfl rfl ?_
      have zz := t2st (r := Rp.int .i64) (hf := Fl.i) rfl 0 hO rfl jx jy nr ns (v := .int .i64 (ix (ix r158.Right (ix (ix d_311 (cV : Int)) (ix r158.Prefix (fP : Int)))) (ix r158.Last (fP : Int)))) (u := (ix (ix r158.Right (ix (ix d_311 (cV : Int)) (ix r158.Prefix (fP : Int)))) (ix r158.Last (fP : Int)))) rfl rfl
      obtain ⟨D6, rh, rk⟩ := zz
      refine GoQ.last rfl (rk Try.underlying3 rfl ti3 (by exact rfl) (by exact rfl)) rfl rfl ?_
      refine nst rh fun s hO => ?_
      refine sinc (natbd q9 ae.bd) ?_
      refine au ?_
      exact hX5 _ H _ _ ⟨agr, hO, cy.u, cK.u, aR.u, ae.u, af.u, aD.u, ad.u, aE.u, fr⟩
     refine sinc (natbd ne ad.bd) ?_
     refine au ?_
     refine sfr 9 hO fun s hO => ?_
     refine sfr 9 hO fun s hO => ?_
     refine sfr 9 hO fun s hO => ?_
     refine sfr 9 hO fun s hO => ?_
     refine sfr 9 hO fun s hO => ?_
     refine sfr 9 hO fun s hO => ?_
     refine sfr 6 hO fun s hO => ?_
     refine sfr 9 hO fun s hO => ?_
     refine sfr 9 hO fun s hO => ?_
     refine sfr 9 hO fun s hO => ?_
     exact hX4 _ H _ _ ⟨_, agr, hO, cy.u, cK.u, aR.u, ae.u, af.u, aD.u, ad.u, aE.u, fr⟩
    refine au ?_
    refine zcq rfl (J00 body102 rfl (J2x hO.lt uU.u H)) fun _ D7 => e1 fun r336 => sq0 hO fun s hO => fun H => ?_
    refine six1 1 hO H.1 H.2.1 ?_
    refine sst (u := r336) 1 hO H.1 H.2.1 fun D8 s hO => ?_
    refine au ?_
    refine drw 1 [(0, .pure), (1, .stable), (2, .pure), (3, .pure), (4, .loud), (5, .pure), (6, .last)] hO fun xo s hO => ?_
    refine smk Fl.i H.2.2 hO fun xp qb s hO => ?_
    have D9 := H.1
    have Ea := H.2.1
    replace H := H.2.2.2.2
    obtain ⟨nt, H⟩ := H
    obtain ⟨nu, H⟩ := H
    refine GoQ.pure rfl (J01 Try.underlying23 ti31 rfl rfl nt (ltn (t2neq 4 hO rfl) nu) (t2some 4 hO rfl nt nu)) rfl rfl ?_
    refine op1 0 hO fun zM s hO uX => ?_
    refine sfr 4 hO fun s hO => ?_
    refine sfr 1 hO fun s hO => ?_
    have zz := t2put (hf := Fl.i) hO uX.u nt nu
    obtain ⟨Eb, ro, rq⟩ := zz
    refine GoQ.last rfl (rq Try.underlying31 rfl ti31 (by exact rfl) (by exact rfl)) rfl rfl ?_
    refine nst ro fun s hO => ?_
    refine au ?_
    obtain ⟨jB, H⟩ := H
    obtain ⟨jC, H⟩ := H
    refine zo (J01 Try.underlying23 ti31 rfl rfl jB (ltn (t2neq 0 hO rfl) jC) (t2some 0 hO rfl jB jC)) ?_
    refine zs (t2head 0 hO rfl jB jC Try.underlying31 rfl rfl) ?_
    refine au ?_
    obtain ⟨nw, H⟩ := H
    obtain ⟨ny, H⟩ := H
    refine zo (J01 Try.underlying31 ti3 rfl rfl nw ny (t2isome 0 hO rfl jB jC nw ny)) ?_
    have zz := t2st (r := Rp.int .i64) (hf := Fl.i) rfl 0 hO rfl jB jC nw ny (v := .int .i64 (cV : Int)) (u := (cV : Int)) rfl rfl
    obtain ⟨Ec, rs, ru⟩ := zz
    refine zg (ru Try.underlying3 rfl ti3 (by exact rfl) (by exact rfl)) ?_
    refine nst rs fun s hO => ?_
    refine au ?_
    refine lw H (fun (fQ, ja) σ w => (fun Z => agrees σ [(0, .pointer (some ⟨B11, 0, none⟩)), (2, .pointer (some ⟨B154, 0, none⟩)), (5, .pointer (some ⟨B162, 0, none⟩)), (7, .int .i64 (r158.Elems.length : Int)), (8, .pointer (some ⟨eH, 0, none⟩)), (10, .int .i64 (cV : Int)), (12, .int .i64 (fQ : Int)), (86, .slice bg r158.Right.length bh), (87, .int .i64 (r158.Right.length : Int)), (88, .int .i64 (cV : Int))] ∧ Owns w0.heap.size w Z A ∧ Els (rppart) (bl Z ++ A) w dG ((([] : List part)) ++ ([(⟨((0 : Int) + r13.Start), r13.Final, (0 : Int)⟩ : part)])) ∧ ISl (Rp.sl (Rp.int .i64)) (bl Z ++ A) w p23 r13.Letters.toNat dP ∧ ISl (Rp.sl (Rp.int .i64)) (bl Z ++ A) w ce cf r158.Gens ∧ ISl (Rp.sl (Rp.int .i64)) (bl Z ++ A) w bE bF r158.Elems ∧ ISl (Rp.int .i64) (bl Z ++ A) w bC bD r158.Prefix ∧ ISl (Rp.int .i64) (bl Z ++ A) w cg ci r158.Last ∧ ISl (Rp.sl (Rp.int .i64)) (bl Z ++ A) w bg bh r158.Right ∧ ISl (rpRule) (bl Z ++ A) w bX bY r158.Rules ∧ Fr (bl []) w0 (bl Z) w) [t2 Fl.i 31 3 (some ⟨dC, 0, none⟩) r158.Elems.length r158.Elems.length (hup gk (cV : Int).toNat (qb, r158.Elems.length)) ja, .blk eH (.cells #[.int .i64 (dP.length : Int), .slice (some ⟨dC, 0, none⟩) r158.Elems.length r158.Elems.length, .slice (some ⟨dI, 0, none⟩) r158.Elems.length r158.Elems.length, .slice cR cU cS, .slice none 0 0, .slice (some ⟨dS, 0, none⟩) r158.Elems.length r158.Elems.length] 33 (0, 0)), t1 Fl.bool 4 (some ⟨dS, 0, none⟩) r158.Elems.length r158.Elems.length (st d_275 (0 : Int) r336), t1 Fl.str 9 (some ⟨dI, 0, none⟩) r158.Elems.length r158.Elems.length fe, t1 Fl.i 3 cR cU cS r182, .blk B162 (.cells #[.int .i64 r158.Points, .bool r158.Monoid, .slice ce r158.Gens.length cf, .slice bE r158.Elems.length bF, .slice bC r158.Prefix.length bD, .slice cg r158.Last.length ci, .slice bg r158.Right.length bh, .slice bX r158.Rules.length bY, .int .i64 r158.Done] 123 (0, 0)), .blk B154 (.cells #[.int .i64 (0 : Int), .slice none 0 0, .slice none 0 0, .slice none 0 0, .slice none 0 0, .slice none 0 0] 33 (0, 0)), .row 120 3 dQ (0 + 1) dR dG, .blk B11 (.cells #[.slice p23 r13.Letters.toNat r13.Letters.toNat, .slice dQ (0 + 1) dR, .int .i64 ((0 : Int) + (r13.Final.length : Int))] 83 (0, 0)), .blk B5 (.cells #[.int .i64 (0 : Int), .slice none 0 0, .slice none 0 0, .slice none 0 0, .slice none 0 0, .slice none 0 0] 33 (0, 0))]) ⟨agr, hO, cy.u, cK.u, aR.u, ae.u, af.u, aD.u, ad.u, aE.u, fr⟩ ?_
    refine fun X6 => p1 fun fQ ja => fun H hX6 σ Ed => d1 fun hag => d1 fun hO => d1 fun cy => d1 fun cK => d1 fun aR => d1 fun ae => d4 fun af aD ad aE hB => ?_
    dsimp only at H
    refine Go1.keep _ hag ?_
    revert hO; repeat (rename Owns _ _ _ _ => q; clear q)
    intro hO; repeat (rename Sq _ _ _ _ _ _ => q; clear q)
    refine scm H (fun rv H => ?_) fun rv H => ?_
    ·refine au ?_
     refine drw 1 [(0, .pure), (1, .stable), (2, .pure), (3, .pure), (4, .stable), (5, .pure), (6, .pure), (7, .stable), (8, .pure), (9, .stable), (10, .pure), (11, .pure), (12, .stable), (13, .pure), (14, .stable), (15, .pure), (16, .pure), (17, .stable), (18, .pure), (19, .stable), (20, .pure), (21, .stable), (22, .pure), (23, .stable), (24, .pure), (25, .pure), (26, .stable), (27, .pure), (28, .stable), (29, .pure), (30, .last)] hO fun Ee s hO => ?_
     refine au ?_
     obtain ⟨jD, H⟩ := H
     obtain ⟨jE, H⟩ := H
     refine GoQ.pure rfl (J01 Try.underlying23 ti31 rfl rfl jD (ltn (t2neq 0 hO rfl) jE) (t2some 0 hO rfl jD jE)) rfl rfl ?_
     refine GoQ.stable rfl (t2head 0 hO rfl jD jE Try.underlying31 rfl rfl) rfl rfl ?_
     refine au ?_
     obtain ⟨jF, H⟩ := H
     obtain ⟨jG, H⟩ := H
     refine GoQ.pure rfl (J01 Try.underlying23 ti31 rfl rfl jF (ltn (t2neq 0 hO rfl) jG) (t2some 0 hO rfl jF jG)) rfl rfl ?_
     refine GoQ.stable rfl (t2head 0 hO rfl jF jG Try.underlying31 rfl rfl) rfl rfl ?_
     refine sxl hO af.u H.1 H.2.1 ?_
     have Ef := H.1
     have Eg := H.2.1
     replace H := H.2.2
     obtain ⟨nA, H⟩ := H
     obtain ⟨nB, H⟩ := H
     refine GoQ.pure rfl (J01 Try.underlying31 ti3 rfl rfl nA nB (t2isome 0 hO rfl jF jG nA nB)) rfl rfl ?_
     refine GoQ.stable rfl (t2Int 0 hO rfl jF jG nA nB Try.underlying3 rfl rfl) rfl rfl ?_
     refine sxls hO ad.u H.1 H.2.1 fun Eh Ei uY => ?_
     refine sxl hO aD.u H.2.2.1 H.2.2.2.1 ?_
     refine sxl hO uY.u H.2.2.2.2.1 H.2.2.2.2.2.1 ?_
     have Ej := H.1
     have Ek := H.2.1
     have El := H.2.2.1
     have Em := H.2.2.2.1
     have En := H.2.2.2.2.1
     have Eo := H.2.2.2.2.2.1
     replace H := H.2.2.2.2.2.2
     obtain ⟨nC, H⟩ := H
     obtain ⟨nE, H⟩ := H
     refine GoQ.pure rfl (J01 Try.underlying31 ti3 rfl rfl nC nE (t2isome 0 hO rfl jD jE nC nE)) rfl rfl ?_
     have zz := t2st (r := Rp.int .i64) (hf := Fl.i) rfl 0 hO rfl jD jE nC nE (v := .int .i64 (ix (ix r158.Right (ix (ix ja (cV : Int)) (ix r158.Prefix (fQ : Int)))) (ix r158.Last (fQ : Int)))) (u := (ix (ix r158.Right (ix (ix ja (cV : Int)) (ix r158.Prefix (fQ : Int)))) (ix r158.Last (fQ : Int)))) rfl rfl
     obtain ⟨Ep, rB, rC⟩ := zz
     refine GoQ.last rfl (rC Try.underlying3 rfl ti3 (by exact rfl) (by exact rfl)) rfl rfl ?_
     refine nst rB fun s hO => ?_
     refine sinc (natbd rv ae.bd) ?_
     refine au ?_
     exact hX6 _ H _ _ ⟨agr, hO, cy.u, cK.u, aR.u, ae.u, af.u, aD.u, ad.u, aE.u, fr⟩
    refine sinc (natbd ne ad.bd) ?_
    refine au ?_
    refine sfr 9 hO fun s hO => ?_
    refine sfr 9 hO fun s hO => ?_
    refine sfr 9 hO fun s hO => ?_
    refine sfr 9 hO fun s hO => ?_
    refine sfr 9 hO fun s hO => ?_
    refine sfr 9 hO fun s hO => ?_
    refine sfr 6 hO fun s hO => ?_
    refine sfr 9 hO fun s hO => ?_
    refine sfr 9 hO fun s hO => ?_
    refine sfr 9 hO fun s hO => ?_
    exact hX4 _ H _ _ ⟨_, agr, hO, cy.u, cK.u, aR.u, ae.u, af.u, aD.u, ad.u, aE.u, fr⟩
   refine au ?_
   refine zo (J0S Try.underlying81 rfl (Els.neqW cy.u hO 7 rfl)) ?_
   obtain ⟨yl, H⟩ := H
   obtain ⟨ym, H⟩ := H
   have zz := t2makeS (m := (((([] : List part)) ++ ([(⟨((0 : Int) + r13.Start), r13.Final, (0 : Int)⟩ : part)])).length : Int)) (e' := 4) Fl.bool Try.underlying40 ti22 hO yl ym (by decide)
   obtain ⟨Er, jH, rD, zN, rE, hz396⟩ := zz
   refine zg (rE rfl rfl) ?_
   refine nst rD fun s hO => ?_
   refine au ?_
   refine zo (J0S Try.underlying81 rfl (Els.neqW cy.u hO 8 rfl)) ?_
   refine au ?_
   refine sdr [9] hO fun s hO => ?_
   refine lw H (fun (dE, kF) σ w => ∃ kG, (fun Z => agrees σ [(2, .pointer (some ⟨B154, 0, none⟩)), (5, .pointer (some ⟨B162, 0, none⟩)), (7, .int .i64 (r158.Elems.length : Int)), (8, .pointer (some ⟨eH, 0, none⟩)), (13, .slice jH (((([] : List part)) ++ ([(⟨((0 : Int) + r13.Start), r13.Final, (0 : Int)⟩ : part)])).length) (((([] : List part)) ++ ([(⟨((0 : Int) + r13.Start), r13.Final, (0 : Int)⟩ : part)])).length)), (162, .slice dQ (0 + 1) dR), (163, .int .i64 (((([] : List part)) ++ ([(⟨((0 : Int) + r13.Start), r13.Final, (0 : Int)⟩ : part)])).length : Int)), (164, .int .i64 (dE : Int))] ∧ Owns w0.heap.size w Z A ∧ Els (rppart) (bl Z ++ A) w dG ((([] : List part)) ++ ([(⟨((0 : Int) + r13.Start), r13.Final, (0 : Int)⟩ : part)])) ∧ ISl (Rp.sl (Rp.int .i64)) (bl Z ++ A) w ce cf r158.Gens ∧ ISl (Rp.sl (Rp.int .i64)) (bl Z ++ A) w bE bF r158.Elems ∧ ISl (Rp.int .i64) (bl Z ++ A) w bC bD r158.Prefix ∧ ISl (Rp.int .i64) (bl Z ++ A) w cg ci r158.Last ∧ ISl (Rp.sl (Rp.int .i64)) (bl Z ++ A) w bg bh r158.Right ∧ ISl (rpRule) (bl Z ++ A) w bX bY r158.Rules ∧ Fr (bl []) w0 (bl Z) w) [t2 Fl.bool 22 4 jH (((([] : List part)) ++ ([(⟨((0 : Int) + r13.Start), r13.Final, (0 : Int)⟩ : part)])).length) (((([] : List part)) ++ ([(⟨((0 : Int) + r13.Start), r13.Final, (0 : Int)⟩ : part)])).length) kG kF, .blk eH (.cells #[.int .i64 (dP.length : Int), .slice (some ⟨dC, 0, none⟩) r158.Elems.length r158.Elems.length, .slice (some ⟨dI, 0, none⟩) r158.Elems.length r158.Elems.length, .slice cR cU cS, .slice none 0 0, .slice (some ⟨dS, 0, none⟩) r158.Elems.length r158.Elems.length] 33 (0, 0)), t1 Fl.bool 4 (some ⟨dS, 0, none⟩) r158.Elems.length r158.Elems.length d_275, t1 Fl.str 9 (some ⟨dI, 0, none⟩) r158.Elems.length r158.Elems.length fe, t2 Fl.i 31 3 (some ⟨dC, 0, none⟩) r158.Elems.length r158.Elems.length gk ik, t1 Fl.i 3 cR cU cS r182, .blk B162 (.cells #[.int .i64 r158.Points, .bool r158.Monoid, .slice ce r158.Gens.length cf, .slice bE r158.Elems.length bF, .slice bC r158.Prefix.length bD, .slice cg r158.Last.length ci, .slice bg r158.Right.length bh, .slice bX r158.Rules.length bY, .int .i64 r158.Done] 123 (0, 0)), .blk B154 (.cells #[.int .i64 (0 : Int), .slice none 0 0, .slice none 0 0, .slice none 0 0, .slice none 0 0, .slice none 0 0] 33 (0, 0)), .row 120 3 dQ (0 + 1) dR dG, .blk B5 (.cells #[.int .i64 (0 : Int), .slice none 0 0, .slice none 0 0, .slice none 0 0, .slice none 0 0, .slice none 0 0] 33 (0, 0))]) ⟨_, agr, hO, cy.u, aR.u, ae.u, af.u, aD.u, ad.u, aE.u, fr⟩ ?_
   refine fun X7 => p1 fun dE kF => fun H hX7 σ Et => e1 fun kG => d1 fun hag => d1 fun hO => d1 fun cy => d1 fun aR => d1 fun ae => d4 fun af aD ad aE hB => ?_
   dsimp only at H
   refine Go1.keep _ hag ?_
   revert hO; repeat (rename Owns _ _ _ _ => q; clear q)
   intro hO; repeat (rename Sq _ _ _ _ _ _ => q; clear q)
   refine scm H (fun rF H => ?_) fun rF H => ?_
   ·refine au ?_
    obtain ⟨nF, H⟩ := H
    obtain ⟨nG, H⟩ := H
    refine zo (J01 Try.underlying81 ti120 rfl rfl nF (ltn (Els.neqW cy hO 8 rfl) nG) (Els.psomeW cy hO 8 rfl nF nG)) ?_
    have u0 := oldAggR 8 hO rfl (r := rppart) cy nF nG
    obtain ⟨zO, u4, hR407, rG⟩ := u0
    replace hR407 := J74 u4 hR407
    obtain ⟨rH, rI, hcs409, jb⟩ := hR407
    subst hcs409
    refine zs (rG Try.underlying120 rfl ti120 rfl) ?_
    refine sal hO fun Eu B414 s hO => ?_
    refine sba 0 hO fun Ev s hO => ?_
    refine smk Fl.bool H hO fun Ew yo s hO => ?_
    replace H := H.2.2
    obtain ⟨nH, H⟩ := H
    obtain ⟨nI, H⟩ := H
    refine zo (J01 Try.underlying40 ti22 rfl rfl nH (ltn (t2neq 2 hO rfl) nI) (t2some 2 hO rfl nH nI)) ?_
    refine op1 0 hO fun zP s hO u5 => ?_
    refine sfr 2 hO fun s hO => ?_
    refine sfr 1 hO fun s hO => ?_
    have zz := t2put (hf := Fl.bool) hO u5.u nH nI
    obtain ⟨Ex, rJ, rK⟩ := zz
    refine zg (rK Try.underlying22 rfl ti22 (by exact rfl) (by exact rfl)) ?_
    refine nst rJ fun s hO => ?_
    refine sln0 ?_
    refine au ?_
    refine lw H (fun (ld, oM) σ w => (fun Z => agrees σ [(2, .pointer (some ⟨B154, 0, none⟩)), (5, .pointer (some ⟨B162, 0, none⟩)), (7, .int .i64 (r158.Elems.length : Int)), (8, .pointer (some ⟨eH, 0, none⟩)), (13, .slice jH (((([] : List part)) ++ ([(⟨((0 : Int) + r13.Start), r13.Final, (0 : Int)⟩ : part)])).length) (((([] : List part)) ++ ([(⟨((0 : Int) + r13.Start), r13.Final, (0 : Int)⟩ : part)])).length)), (14, .int .i64 (dE : Int)), (15, .pointer (some ⟨B414, 0, none⟩)), (162, .slice dQ (0 + 1) dR), (163, .int .i64 (((([] : List part)) ++ ([(⟨((0 : Int) + r13.Start), r13.Final, (0 : Int)⟩ : part)])).length : Int)), (164, .int .i64 (dE : Int)), (175, .slice bE r158.Elems.length bF), (176, .int .i64 (r158.Elems.length : Int)), (177, .int .i64 (ld : Int))] ∧ Owns w0.heap.size w Z A ∧ Els (rppart) (bl Z ++ A) w dG ((([] : List part)) ++ ([(⟨((0 : Int) + r13.Start), r13.Final, (0 : Int)⟩ : part)])) ∧ ISl (Rp.sl (Rp.int .i64)) (bl Z ++ A) w ce cf r158.Gens ∧ ISl (Rp.sl (Rp.int .i64)) (bl Z ++ A) w bE bF r158.Elems ∧ ISl (Rp.int .i64) (bl Z ++ A) w bC bD r158.Prefix ∧ ISl (Rp.int .i64) (bl Z ++ A) w cg ci r158.Last ∧ ISl (Rp.sl (Rp.int .i64)) (bl Z ++ A) w bg bh r158.Right ∧ ISl (rpRule) (bl Z ++ A) w bX bY r158.Rules ∧ ISl (Rp.bool) (bl Z ++ A) w rH rI ((ix ((([] : List part)) ++ ([(⟨((0 : Int) + r13.Start), r13.Final, (0 : Int)⟩ : part)])) (dE : Int)).final) ∧ Fr (bl []) w0 (bl Z) w) [t2 Fl.bool 22 4 jH (((([] : List part)) ++ ([(⟨((0 : Int) + r13.Start), r13.Final, (0 : Int)⟩ : part)])).length) (((([] : List part)) ++ ([(⟨((0 : Int) + r13.Start), r13.Final, (0 : Int)⟩ : part)])).length) (hup kG (dE : Int).toNat (yo, r158.Elems.length)) oM, .blk B414 (.cells #[.int .i64 ((ix ((([] : List part)) ++ ([(⟨((0 : Int) + r13.Start), r13.Final, (0 : Int)⟩ : part)])) (dE : Int)).start), .slice rH (((ix ((([] : List part)) ++ ([(⟨((0 : Int) + r13.Start), r13.Final, (0 : Int)⟩ : part)])) (dE : Int)).final).length) rI, .int .i64 ((ix ((([] : List part)) ++ ([(⟨((0 : Int) + r13.Start), r13.Final, (0 : Int)⟩ : part)])) (dE : Int)).shift)] 120 (0, 0)), .blk eH (.cells #[.int .i64 (dP.length : Int), .slice (some ⟨dC, 0, none⟩) r158.Elems.length r158.Elems.length, .slice (some ⟨dI, 0, none⟩) r158.Elems.length r158.Elems.length, .slice cR cU cS, .slice none 0 0, .slice (some ⟨dS, 0, none⟩) r158.Elems.length r158.Elems.length] 33 (0, 0)), t1 Fl.bool 4 (some ⟨dS, 0, none⟩) r158.Elems.length r158.Elems.length d_275, t1 Fl.str 9 (some ⟨dI, 0, none⟩) r158.Elems.length r158.Elems.length fe, t2 Fl.i 31 3 (some ⟨dC, 0, none⟩) r158.Elems.length r158.Elems.length gk ik, t1 Fl.i 3 cR cU cS r182, .blk B162 (.cells #[.int .i64 r158.Points, .bool r158.Monoid, .slice ce r158.Gens.length cf, .slice bE r158.Elems.length bF, .slice bC r158.Prefix.length bD, .slice cg r158.Last.length ci, .slice bg r158.Right.length bh, .slice bX r158.Rules.length bY, .int .i64 r158.Done] 123 (0, 0)), .blk B154 (.cells #[.int .i64 (0 : Int), .slice none 0 0, .slice none 0 0, .slice none 0 0, .slice none 0 0, .slice none 0 0] 33 (0, 0)), .row 120 3 dQ (0 + 1) dR dG, .blk B5 (.cells #[.int .i64 (0 : Int), .slice none 0 0, .slice none 0 0, .slice none 0 0, .slice none 0 0, .slice none 0 0] 33 (0, 0))]) ⟨agr, hO, cy.u, aR.u, ae.u, af.u, aD.u, ad.u, aE.u, jb.u, fr⟩ ?_
    refine fun X8 => p1 fun ld oM => fun H hX8 σ Ey => d1 fun hag => d1 fun hO => d1 fun cy => d1 fun aR => d1 fun ae => d1 fun af => d4 fun aD ad aE jb hB => ?_
    dsimp only at H
    refine Go1.keep _ hag ?_
    revert hO; repeat (rename Owns _ _ _ _ => q; clear q)
    intro hO; repeat (rename Sq _ _ _ _ _ _ => q; clear q)
    refine scm H (fun rL H => ?_) fun rL H => ?_
    ·refine sxls hO ae H.1 H.2.1 fun Ez EA u6 => ?_
     refine au ?_
     refine drw 1 [(0, .pure), (1, .pure), (2, .pure), (3, .stable), (4, .pure), (5, .stable), (6, .pure), (7, .loud), (8, .pure), (9, .last)] hO fun EB s hO => ?_
     refine au ?_
     have EC := H.1
     have ED := H.2.1
     replace H := H.2.2
     obtain ⟨jI, H⟩ := H
     obtain ⟨jJ, H⟩ := H
     refine GoQ.pure rfl (J01 Try.underlying40 ti22 rfl rfl jI (ltn (t2neq 0 hO rfl) jJ) (t2some 0 hO rfl jI jJ)) rfl rfl ?_
     refine GoQ.stable rfl (t2head 0 hO rfl jI jJ Try.underlying22 rfl rfl) rfl rfl ?_
     refine sag 1 hO ?_
     refine au ?_
     refine zcq rfl (J00 body103 rfl (J2j (p := (⟨((ix ((([] : List part)) ++ ([(⟨((0 : Int) + r13.Start), r13.Final, (0 : Int)⟩ : part)])) (dE : Int)).start), (ix ((([] : List part)) ++ ([(⟨((0 : Int) + r13.Start), r13.Final, (0 : Int)⟩ : part)])) (dE : Int)).final, ((ix ((([] : List part)) ++ ([(⟨((0 : Int) + r13.Start), r13.Final, (0 : Int)⟩ : part)])) (dE : Int)).shift)⟩ : part)) hO.lt jb.u u6.u H)) fun _ EE => e1 fun rM => sq0 hO fun s hO => fun H => ?_
     obtain ⟨nJ, H⟩ := H
     obtain ⟨nK, H⟩ := H
     refine GoQ.pure rfl (J01 Try.underlying22 ti4 rfl rfl nJ nK (t2isome 0 hO rfl jI jJ nJ nK)) rfl rfl ?_
     have zz := t2st (r := Rp.bool) (hf := Fl.bool) rfl 0 hO rfl jI jJ nJ nK (v := .bool rM) (u := rM) rfl rfl
     obtain ⟨EF, rN, rO⟩ := zz
     refine GoQ.last rfl (rO Try.underlying4 rfl ti4 (by exact rfl) (by exact rfl)) rfl rfl ?_
     refine nst rN fun s hO => ?_
     refine sinc (natbd rL ae.bd) ?_
     refine au ?_
     exact hX8 _ H _ _ ⟨agr, hO, cy.u, aR.u, ae.u, af.u, aD.u, ad.u, aE.u, jb.u, fr⟩
    refine sinc (natbd rF cy.bd) ?_
    refine au ?_
    refine sdr [1] hO fun s hO => ?_
    exact hX7 _ H _ _ ⟨_, agr, hO, cy.u, aR.u, ae.u, af.u, aD.u, ad.u, aE.u, fr⟩
   refine sag 1 hO ?_
   refine sba 7 hO fun EG s hO => ?_
   refine au ?_
   refine Go1.retC3V Try.func63 rfl rfl (rlb 7 hO) (show _ = .slice jH (((([] : List part)) ++ ([(⟨((0 : Int) + r13.Start), r13.Final, (0 : Int)⟩ : part)])).length) (((([] : List part)) ++ ([(⟨((0 : Int) + r13.Start), r13.Final, (0 : Int)⟩ : part)])).length) from rfl) (show _ = .int .i64 (0 : Int) from rfl) ?_
   refine hR152 _ _ ?_
   refine sal hO fun EH B448 s hO => ?_
   refine sba 0 hO fun EI s hO => ?_
   refine au ?_
   refine zo (fun w => opB (J4Z rfl rfl w) (ndT (by decide))) ?_
   refine au ?_
   obtain ⟨kI, H⟩ := H
   obtain ⟨kK, H⟩ := H
   refine zo (J01 Try.underlying40 ti22 rfl rfl kI (ltn (t2neq 1 hO rfl) kK) (t2some 1 hO rfl kI kK)) ?_
   refine zs (t2head 1 hO rfl kI kK Try.underlying22 rfl rfl) ?_
   refine sbs 0 hO fun EJ s hO => ?_
   refine sag 0 hO ?_
   refine sba 10 hO fun EK s hO => ?_
   refine au ?_
   refine sfz2 5 hO fun s hO u7 u9 => ?_
   refine sfz 4 hO fun s hO vb vc => ?_
   refine sfz 4 hO fun s hO vd ve => ?_
   have vg := t2lendIn 1 hO rfl kI kK
   refine sfz2 1 hO fun s hO zQ zR => ?_
   refine sfz 2 hO fun s hO vh vi => ?_
   refine Go1.retC2 Try.func19 rfl rfl (rlb 5 hO) ⟨((⟨(dP.length : Int), ik, fe, r182, (ix kF (0 : Int)), d_275⟩ : Syntactic)), _, _, _, _, _, _, _, _, _, _, _, ?_, frs, u7.r, vb.r, vd.r, vg.r, vh.r, H⟩
   exact (congrArg (fun l => Value.tuple (List.toArray l)) (J02 (congrArg (fun l => Value.agg (List.toArray l)) (J02 rfl (J02 (congrArg (fun nn => Value.slice (some ⟨dC, 0, none⟩) nn r158.Elems.length) u9) (J02 (congrArg (fun nn => Value.slice (some ⟨dI, 0, none⟩) nn r158.Elems.length) vc) (J02 (congrArg (fun nn => Value.slice cR nn cS) ve) (J02 rfl (J02 (congrArg (fun nn => Value.slice (some ⟨dS, 0, none⟩) nn r158.Elems.length) vi) rfl))))))) (J02 rfl rfl)))
  refine au ?_
  refine zo (J09 Try.underlying33 ti33 (pl := [(0, 1), (1, 1), (2, 1), (3, 1), (4, 1), (5, 1)]) (vs := []) (cs := #[.int .i64 (0 : Int), .slice none 0 0, .slice none 0 0, .slice none 0 0, .slice none 0 0, .slice none 0 0]) (by kernel_rfl) rfl (by kernel_rfl)) ?_
  refine sba 1 hO fun EL s hO => ?_
  refine au ?_
  refine Go1.retC3V Try.func63 rfl rfl (rlb 1 hO) (show _ = .slice none 0 0 from rfl) (show _ = .int .i64 r159 from rfl) ?_
  refine hR152 _ _ ?_
  refine sal hO fun EM B468 s hO => ?_
  refine sba 0 hO fun EO s hO => ?_
  refine au ?_
  refine zo (fun w => opB (J4Z rfl rfl w) (ndF qS)) ?_
  refine au ?_
  refine zo (J09 Try.underlying33 ti33 (pl := [(0, 1), (1, 1), (2, 1), (3, 1), (4, 1), (5, 1)]) (vs := []) (cs := #[.int .i64 (0 : Int), .slice none 0 0, .slice none 0 0, .slice none 0 0, .slice none 0 0, .slice none 0 0]) (by kernel_rfl) rfl (by kernel_rfl)) ?_
  refine sba 6 hO fun EP s hO => ?_
  refine au ?_
  refine Go1.retC2 Try.func19 rfl rfl (rlb 6 hO) ⟨((⟨(0 : Int), ([] : List (List Int)), ([] : List Str), ([] : List Int), ([] : List Bool), ([] : List Bool)⟩ : Syntactic)), _, _, _, _, _, _, _, _, _, _, _, ?_, frs, (ISl.null _ _ _), (ISl.null _ _ _), (ISl.null _ _ _), (ISl.null _ _ _), (ISl.null _ _ _), H⟩
  exact rfl
 refine au ?_
 refine zo (J09 Try.underlying33 ti33 (pl := [(0, 1), (1, 1), (2, 1), (3, 1), (4, 1), (5, 1)]) (vs := []) (cs := #[.int .i64 (0 : Int), .slice none 0 0, .slice none 0 0, .slice none 0 0, .slice none 0 0, .slice none 0 0]) (by kernel_rfl) rfl (by kernel_rfl)) ?_
 refine sba 0 hO fun EQ s hO => ?_
 refine au ?_
 refine Go1.retC2 Try.func19 rfl rfl (rlb 0 hO) ⟨((⟨(0 : Int), ([] : List (List Int)), ([] : List Str), ([] : List Int), ([] : List Bool), ([] : List Bool)⟩ : Syntactic)), _, _, _, _, _, _, _, _, _, _, _, ?_, frs, (ISl.null _ _ _), (ISl.null _ _ _), (ISl.null _ _ _), (ISl.null _ _ _), (ISl.null _ _ _), H⟩
 exact rfl
theorem body48 : Body Try.prog 48 := ⟨Try.f48, Try.func48, rfl, by kernel_rfl⟩
theorem J52 {A : List Nat} {w0 : World} {p_a p_b : Option Addr} {c_a c_b : Nat} {a b : List Str} (hA : ∀ b ∈ A, b < w0.heap.size) (h_a : ISl (Rp.str) A w0 p_a c_a a) (h_b : ISl (Rp.str) A w0 p_b c_b b) {K : Bool → Prop} (H : J2z a b K) :
    CallsV Try.prog 48 #[.slice p_a a.length c_a, .slice p_b b.length c_b] w0 (fun v w' => ∃ (r0 : Bool), v = .bool r0 ∧ Same w0 w' ∧ K r0) := by
 refine CallsV.of (l := [.slice p_a a.length c_a, .slice p_b b.length c_b]) Try.func48 rfl Try.ntmps48 rfl ?_
 have hO := Owns.start hA
 have hB := Fr.refl (bl []) w0
 unfold J2z at H
 refine sln0 ?_
 refine sln0 ?_
 refine scm ((H h_a.bd) h_b.bd) (fun h1 H => ?_) fun h1 H => ?_
 ·refine sln0 ?_
  refine au ?_
  refine lw H (fun k1_3 σ w => (fun Z => agrees σ [(0, .slice p_a a.length c_a), (1, .slice p_b b.length c_b), (12, .int .i64 (a.length : Int)), (13, .int .i64 (k1_3 : Int))] ∧ Owns w0.heap.size w Z A ∧ Fr (bl []) w0 (bl Z) w) []) ⟨agr, hO, fr⟩ ?_
  refine fun X1 => fun k1_3 => fun H hX1 σ w2 => d2 fun hag hO hB => ?_
  refine Go1.keep _ hag ?_
  refine scm H (fun h4 H => ?_) fun h4 H => ?_
  ·refine au ?_
   refine drw 0 [(0, .pure), (1, .pure), (2, .pure), (3, .stable), (4, .pure), (5, .pure), (6, .pure), (7, .stable), (8, .pure)] hO fun w5 s hO => ?_
   refine sxl hO h_a.u H.1 H.2.1 ?_
   have hle6 := ISl.J59 h_a H.1 H.2.1
   refine sxl hO h_b.u H.2.2.1 H.2.2.2.1 ?_
   have hle7 := ISl.J59 h_b H.2.2.1 H.2.2.2.1
   have h8 := H.1
   have h9 := H.2.1
   have h10 := H.2.2.1
   have h11 := H.2.2.2.1
   refine scm H.2.2.2.2 (fun h12 H => ?_) fun h12 H => ?_
   ·refine sinc (natbd h4 h_a.bd) ?_
    refine au ?_
    exact hX1 _ H _ _ ⟨agr, hO, fr⟩
   refine au ?_
   refine Go1.ret1 Try.func48 rfl ⟨_, ?_, frs, H⟩
   exact rfl
  refine au ?_
  refine Go1.ret1 Try.func48 rfl ⟨_, ?_, frs, H⟩
  exact rfl
 refine au ?_
 refine Go1.ret1 Try.func48 rfl ⟨_, ?_, frs, H⟩
 exact rfl
theorem body18 : Body Try.prog 18 := ⟨Try.f18, Try.func18, rfl, by kernel_rfl⟩
theorem J0W {A : List Nat} {w0 : World} (hA : ∀ b ∈ A, b < w0.heap.size) {K : Bool → Prop} (H : law21_awake  K) :
    CallsV Try.prog 18 #[] w0 (fun v w' => ∃ (r0 : Bool), v = .bool r0 ∧ Same w0 w' ∧ K r0) := by
 refine CallsV.of (l := []) Try.func18 rfl Try.ntmps18 rfl ?_
 have hO := Owns.start hA
 have hB := Fr.refl (bl []) w0
 unfold law21_awake at H
 refine au ?_
 refine zcr (J00 body60 rfl (J5t hO.lt H)) fun _ w2 => e4 fun r1 vj vk vM => e1 fun vN => sc0 hO fun s hO => d2 fun kM lg H => ?_
 refine zcr (J00 body19 rfl (J1s hO.lt kM lg H)) fun _ w5 => e4 fun r3 r4 vm vn => e4 fun io ip su sv => e4 fun sw sx vO vP => sc0 hO fun s hO => d1 fun vo => d4 fun kN sy dU vQ H => ?_
 refine sal hO fun w6 B7 s hO => ?_
 refine sba 0 hO fun w9 s hO => ?_
 refine scm H (fun h10 H => ?_) fun h10 H => ?_
 ·refine sbu Fl.str 9 [(([] : Str)), (([97] : Str)), (([98] : Str)), (([97, 97] : Str)), (([97, 98] : Str)), (([98, 97] : Str))] hO (fun w11 p12 s hO => ?_) (hE := fun _ _ => (Els.cons rfl ⟨rfl, (by decide)⟩ (Els.cons rfl ⟨rfl, (by decide)⟩ (Els.cons rfl ⟨rfl, (by decide)⟩ (Els.cons rfl ⟨rfl, (by decide)⟩ (Els.cons rfl ⟨rfl, (by decide)⟩ (Els.cons rfl ⟨rfl, (by decide)⟩ (Els.nil _ _ _) (by simp [mx])) (by simp [mx])) (by simp [mx])) (by simp [mx])) (by simp [mx])) (by simp [mx])))
  have yr := t1lend 0 hO
  have jr := t1n 0 hO
  have hOc16 := hO.drop 0
  refine zcr (J00 body48 (show ([.slice io r3.Words.length ip, .slice p12 6 6] : List Value) = [.slice io r3.Words.length ip, .slice p12 ([(([] : Str)), (([97] : Str)), (([98] : Str)), (([97, 97] : Str)), (([97, 98] : Str)), (([98, 97] : Str))]).length 6] from by rw [← jr]) (J52 hOc16.lt (kN.u.ch (Owns.J62 _ _ 0)) yr H)) fun _ w18 => e1 fun r17 => sc0 hO fun s hO => fun H => ?_
  refine au ?_
  cases r17
  ·refine au ?_
   refine Go1.ret1 Try.func18 rfl ⟨_, ?_, frs, (iF H)⟩
   exact rfl
  refine sln0 ?_
  refine scm ((iT H) dU.bd) (fun h19 H => ?_) fun h19 H => ?_
  ·refine six dU H.1 H.2.1 ?_
   have h20 := H.1
   have h21 := H.2.1
   refine sbd hO dU.u H.1 H.2.1 H.2.2 (fun h22 H => ?_) fun h22 H => ?_
   ·refine six dU H.1 H.2.1 ?_
    have h23 := H.1
    have h24 := H.2.1
    refine sbd hO dU.u H.1 H.2.1 H.2.2 (fun h25 H => ?_) fun h25 H => ?_
    ·refine au ?_
     refine Go1.ret1 Try.func18 rfl ⟨_, ?_, frs, H⟩
     exact rfl
    refine au ?_
    refine Go1.ret1 Try.func18 rfl ⟨_, ?_, frs, H⟩
    exact rfl
   refine au ?_
   refine Go1.ret1 Try.func18 rfl ⟨_, ?_, frs, H⟩
   exact rfl
  refine au ?_
  refine Go1.ret1 Try.func18 rfl ⟨_, ?_, frs, H⟩
  exact rfl
 refine au ?_
 refine Go1.ret1 Try.func18 rfl ⟨_, ?_, frs, H⟩
 exact rfl
theorem body49 : Body Try.prog 49 := ⟨Try.f49, Try.func49, rfl, by kernel_rfl⟩
theorem J4U {A : List Nat} {w0 : World} {p_a p_b : Option Addr} {c_a c_b : Nat} {a b : List Int} (hA : ∀ b ∈ A, b < w0.heap.size) (h_a : ISl (Rp.int .i64) A w0 p_a c_a a) (h_b : ISl (Rp.int .i64) A w0 p_b c_b b) {K : Bool → Prop} (H : J2w a b K) :
    CallsV Try.prog 49 #[.slice p_a a.length c_a, .slice p_b b.length c_b] w0 (fun v w' => ∃ (r0 : Bool), v = .bool r0 ∧ Same w0 w' ∧ K r0) := by
 refine CallsV.of (l := [.slice p_a a.length c_a, .slice p_b b.length c_b]) Try.func49 rfl Try.ntmps49 rfl ?_
 have hO := Owns.start hA
 have hB := Fr.refl (bl []) w0
 unfold J2w at H
 refine sln0 ?_
 refine sln0 ?_
 refine scm ((H h_a.bd) h_b.bd) (fun h1 H => ?_) fun h1 H => ?_
 ·refine sln0 ?_
  refine au ?_
  refine lw H (fun k1_3 σ w => (fun Z => agrees σ [(0, .slice p_a a.length c_a), (1, .slice p_b b.length c_b), (12, .int .i64 (a.length : Int)), (13, .int .i64 (k1_3 : Int))] ∧ Owns w0.heap.size w Z A ∧ Fr (bl []) w0 (bl Z) w) []) ⟨agr, hO, fr⟩ ?_
  refine fun X1 => fun k1_3 => fun H hX1 σ w2 => d2 fun hag hO hB => ?_
  refine Go1.keep _ hag ?_
  refine scm H (fun h4 H => ?_) fun h4 H => ?_
  ·refine au ?_
   refine drw 0 [(0, .pure), (1, .pure), (2, .pure), (3, .stable), (4, .pure), (5, .pure), (6, .pure), (7, .stable), (8, .pure)] hO fun w5 s hO => ?_
   refine sxl hO h_a.u H.1 H.2.1 ?_
   refine sxl hO h_b.u H.2.2.1 H.2.2.2.1 ?_
   have h6 := H.1
   have h7 := H.2.1
   have h8 := H.2.2.1
   have h9 := H.2.2.2.1
   refine scm H.2.2.2.2 (fun h10 H => ?_) fun h10 H => ?_
   ·refine sinc (natbd h4 h_a.bd) ?_
    refine au ?_
    exact hX1 _ H _ _ ⟨agr, hO, fr⟩
   refine au ?_
   refine Go1.ret1 Try.func49 rfl ⟨_, ?_, frs, H⟩
   exact rfl
  refine au ?_
  refine Go1.ret1 Try.func49 rfl ⟨_, ?_, frs, H⟩
  exact rfl
 refine au ?_
 refine Go1.ret1 Try.func49 rfl ⟨_, ?_, frs, H⟩
 exact rfl
end Sg
