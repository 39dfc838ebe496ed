/- -/
import Derived.Test.YtlneebpmblkllaaVd
namespace Sg
open Go Go.RowKit Go.Proofs Try
set_option linter.unusedVariables false
set_option linter.unusedSimpArgs false
set_option maxRecDepth 100000
set_option maxHeartbeats 4000000
variable {A : List Nat} {w0 : World}
theorem body24 : Body prog 24 := ⟨f24, func24, rfl, by kernel_rfl⟩
theorem J5V {bu bV : Option Addr} {bw bW : Nat} {d : DFA} (hA : HA0 A w0) (aT : ISb A w0 bu bw d.Final) (b9 : ISs A w0 bV bW d.Next) {K : DFA → Prop} (H : law21_cut d K) :
    CallsV prog 24 #[.agg (cDF d bu bw bV bW)] w0 (fun v w' => ∃ (r0 : DFA), ∃ (aX : Option Addr), ∃ (aY : Nat), ∃ (bK : Option Addr), ∃ (bM : Nat), v = .agg (cDF r0 aX aY bK bM) ∧ Same w0 w' ∧ ISb A w' aX aY r0.Final ∧ ISs A w' bK bM r0.Next ∧ K r0) := by
 refine cal hA func24 ntmps24 fun hO hB => ?_
 unfold law21_cut at H
 refine sbx hO fun w1 B2 s hO => ?_
 refine sal hO fun w4 B5 s hO => ?_
 refine sln0 ?_
 refine scm (H aT.bd) (fun h7 H => ?_) fun h7 H => ?_
 ·refine sag 1 hO ?_
  refine sba 0 hO fun w8 s hO => ?_
  refine au ?_
  refine Go1.retC1 func24 rfl rfl (rlb 0 hO) ⟨((⟨d.Letters, d.Start, d.Final, d.Next⟩ : DFA)), _, _, _, _, er, frs, aT.r, b9.r, H⟩
 refine au ?_
 refine zo (J05 underlying25 ti25 (pl := [(0, 1), (1, 1), (2, 1), (3, 1)]) (vs := [(0, .int .i64 (1 : Int))]) (cs := #[.int .i64 (1 : Int), .int .i64 (0 : Int), .slice none 0 0, .slice none 0 0]) (by kernel_rfl) rfl (by kernel_rfl)) ?_
 refine sal hO fun w9 B10 s hO => ?_
 refine sba 0 hO fun w12 s hO => ?_
 refine au ?_
 refine snil Fl.bool 4 hO fun s hO => ?_
 have Js := Stp.nil (e := 31) (r := 1) hO
 refine nst Js fun s hO => ?_
 have Tt := elN (Rp.sl (Rp.int .i64)) hO
 refine sdr [4] hO fun s hO => ?_
 refine lv [2, 3] hO H (fun E (fX, iQ, vm) σ w => ∃ n24 p22 c23 qo n28 p26 c27, (fun Z => Lo A w0 σ w [(4, .int .i64 (fX : Int))] Z ∧ Els (Rp.sl (Rp.int .i64)) (bl Z ++ A) w qo iQ) (esets E [(0, .row 31 1 p22 n24 c23 qo), (1, t1 Fl.bool 4 p26 n28 c27 vm), (2, .blk B10 (.cells #[.int .i64 (1 : Int), .int .i64 (0 : Int), .slice p26 n28 c27, .slice p22 n24 c23] 25 (0, 0)))])) ⟨_, _, _, _, _, _, _, ⟨agr, hO, fr⟩, Tt.u⟩ ?_
 refine fun X1 => p2 fun fX iQ vm => fun H hX1 σ w17 hk => e4 fun n24 p22 c23 qo => e3 fun n28 p26 c27 => d1 fun hL => fun dp => lh hk (fun hO hB => ?_) hL
 dsimp only [esets, sS, sZ] at hO hB dp
 dsimp only at H
 revert hO; repeat (rename Owns .. => q; clear q)
 intro hO; repeat (rename Sq .. => q; clear q)
 refine scm H (fun h29 H => ?_) fun h29 H => ?_
 ·refine au ?_
  refine Go1.drawT (ok := fun _ => True) (CSv.tr [(some ⟨B10, 2, none⟩), (some ⟨B10, 3, none⟩)]) [13, 15, 17] 18 (.qp 0 (.qs 1 (.qp 2 (.qp 3 (.qp 6 (.qs 7 (.qp 8 (.qp 9 (.qp 10 (.alt 4 (.alt 5 (.qp 14 (.alt 11 (.alt 12 (.alt 13 (.alt 15 (.qp 16 (.alt 17 .nil .fin)) .fin) .fin) .fin) .fin)) (.alt 11 (.alt 5 (.qp 14 (.alt 12 (.alt 13 (.alt 15 (.qp 16 (.alt 17 .nil .fin)) .fin) .fin) .fin)) (.alt 12 (.alt 5 (.qp 14 (.alt 13 (.alt 15 (.qp 16 (.alt 17 .nil .fin)) .fin) .fin)) .fin) .fin)) .fin)) (.alt 11 (.alt 4 (.alt 5 (.qp 14 (.alt 12 (.alt 13 (.alt 15 (.qp 16 (.alt 17 .nil .fin)) .fin) .fin) .fin)) (.alt 12 (.alt 5 (.qp 14 (.alt 13 (.alt 15 (.qp 16 (.alt 17 .nil .fin)) .fin) .fin)) .fin) .fin)) (.alt 12 (.alt 4 (.alt 5 (.qp 14 (.alt 13 (.alt 15 (.qp 16 (.alt 17 .nil .fin)) .fin) .fin)) .fin) .fin) .fin)) .fin))))))))))) mixed (by kernel_rfl) ?_
  intro w30 Tv
  refine sm hO Tv fun s hO => ?_
  refine au ?_
  refine GoT.stable rfl (loadV (.head _) rfl (J00 2 hO rfl rfl) underlying22 rfl rfl) rfl rfl ?_
  refine scm H (fun h32 H => ?_) fun h32 H => ?_
  ·refine au ?_
   refine GoT.stable rfl (loadV (.tail _ (.head _)) rfl (J00 2 hO rfl rfl) underlying23 rfl rfl) rfl rfl ?_
   refine au ?_
   refine GoT.pure rfl (J03 rfl rfl (wrap_i64 (by have := h29; exact ⟨by omega, by omega⟩))) rfl rfl ?_
   by_cases h33 : (6 : Int) < (fX + 1 : Int)
   ·refine GoT.pure rfl (J7r rfl rfl h33) rfl rfl ?_
    replace H := (ifp h33 H)
    refine GoT.both ?_ ?_
    ·skip
     skip
     refine sbuQ Fl.bool 4 [true] hO (fun w34 p35 s hO => ?_) (g := fun _ _ _ hv _ hst h => GoT.step rfl hv (CSv.cons (cs_eq (J00 2 hO rfl rfl) (J00 3 hst.own rfl rfl)) (CSv.cons (cs_eq (J00 2 hO rfl rfl) (J00 3 hst.own rfl rfl)) (CSv.nil _ _))) rfl rfl h)
     refine GoT.both ?_ ?_
     ·skip
      skip
      refine sfz 0 hO fun s hO Tw afC => ?_
      refine sapQ 1 hO Tw H (fun w39 p40 c41 s hO => ?_) (g := fun _ _ _ _ hv hst h => GoT.step rfl hv (CSv.cons (cs_eq (J00 2 hO rfl rfl) (J00 2 hst.own rfl rfl)) (CSv.cons (cs_eq (J00 2 hO rfl rfl) (J00 2 hst.own rfl rfl)) (CSv.nil _ _))) rfl rfl h)
      refine au ?_
      replace H := H.2
      skip
      refine sbuQ Fl.i 3 [(6 : Int)] hO (fun w42 p43 s hO => ?_) (g := fun _ _ _ hv _ hst h => GoT.step rfl hv (CSv.cons (cs_eq (J00 2 hO rfl rfl) (J00 3 hst.own rfl rfl)) (CSv.cons (cs_eq (J00 2 hO rfl rfl) (J00 3 hst.own rfl rfl)) (CSv.nil _ _))) rfl rfl h)
      skip
      refine sfz 0 hO fun s hO gH Tx => ?_
      have zz := obu underlying23 ti31 hO (gH.u) Tx
      obtain ⟨w47, p48, Jt, nB, Ty, Ju⟩ := zz
      refine GoT.step rfl (Ju rfl) (CSv.same Ty) rfl rfl ?_
      refine nst Jt fun s hO => ?_
      skip
      refine sfzR 0 hO nB fun s hO Tz TA => ?_
      obtain ⟨h56, H⟩ := H
      have zz := oapp underlying23 ti31 rfl 0 hO rfl dp.u Tz TA h56 (by decide)
      obtain ⟨w57, p58, c59, afD, Jv, Cg, qr⟩ := zz
      dsimp only [sS, sZ] at Cg
      refine GoT.stepX rfl (qr (by exact rfl) (by exact rfl)) rfl rfl rfl ?_
      refine nst Jv fun s hO => ?_
      skip
      refine sbs 2 hO fun w65 s hO => ?_
      refine au ?_
      skip
      refine sbs 2 hO fun w66 s hO => ?_
      refine au ?_
      refine zo (J03 rfl rfl (wrap_i64 (by have := h29; exact ⟨by omega, by omega⟩))) ?_
      refine au ?_
      exact hX1 _ H _ _ agr ⟨_, _, _, _, _, _, _, ⟨agr, hO, fr⟩, Cg.u⟩
     skip
     refine sbuQ Fl.i 3 [(6 : Int)] hO (fun w67 p68 s hO => ?_) (g := fun _ _ _ hv _ hst h => GoT.step rfl hv (CSv.cons (cs_eq (J00 3 hO rfl rfl) (J00 4 hst.own rfl rfl)) (CSv.cons (cs_eq (J00 3 hO rfl rfl) (J00 4 hst.own rfl rfl)) (CSv.nil _ _))) rfl rfl h)
     refine GoT.both ?_ ?_
     ·skip
      skip
      refine sfz 1 hO fun s hO TB afE => ?_
      refine sapQ 2 hO TB H (fun w72 p73 c74 s hO => ?_) (g := fun _ _ _ _ hv hst h => GoT.step rfl hv (CSv.cons (cs_eq (J00 3 hO rfl rfl) (J00 3 hst.own rfl rfl)) (CSv.cons (cs_eq (J00 3 hO rfl rfl) (J00 3 hst.own rfl rfl)) (CSv.nil _ _))) rfl rfl h)
      refine au ?_
      replace H := H.2
      skip
      refine sfz 0 hO fun s hO vn vo => ?_
      have zz := obu underlying23 ti31 hO (vn) vo
      obtain ⟨w77, p78, Jw, TC, TD, Jx⟩ := zz
      refine GoT.step rfl (Jx rfl) (CSv.same TD) rfl rfl ?_
      refine nst Jw fun s hO => ?_
      skip
      refine sfzR 0 hO TC fun s hO vr TE => ?_
      obtain ⟨h86, H⟩ := H
      have zz := oapp underlying23 ti31 rfl 0 hO rfl dp.u vr TE h86 (by decide)
      obtain ⟨w87, p88, c89, afF, Jy, lT, Jz⟩ := zz
      dsimp only [sS, sZ] at lT
      refine GoT.stepX rfl (Jz (by exact rfl) (by exact rfl)) rfl rfl rfl ?_
      refine nst Jy fun s hO => ?_
      skip
      refine sbs 2 hO fun w95 s hO => ?_
      refine au ?_
      skip
      refine sbs 2 hO fun w96 s hO => ?_
      refine au ?_
      refine zo (J03 rfl rfl (wrap_i64 (by have := h29; exact ⟨by omega, by omega⟩))) ?_
      refine au ?_
      exact hX1 _ H _ _ agr ⟨_, _, _, _, _, _, _, ⟨agr, hO, fr⟩, lT.u⟩
     skip
     refine sfz 0 hO fun s hO TF vu => ?_
     have zz := obu underlying23 ti31 hO (TF) vu
     obtain ⟨w99, TG, Ci, JA, JB, Cj⟩ := zz
     refine GoT.step rfl (Cj rfl) (CSv.same JB) rfl rfl ?_
     refine nst Ci fun s hO => ?_
     skip
     refine sfz 1 hO fun s hO JC iq => ?_
     refine sapQ 2 hO JC H (fun vw afG afH s hO => ?_) (g := fun _ _ _ _ hv hst h => GoT.step rfl hv (CSv.cons (cs_eq (J00 3 hO rfl rfl) (J00 3 hst.own rfl rfl)) (CSv.cons (cs_eq (J00 3 hO rfl rfl) (J00 3 hst.own rfl rfl)) (CSv.nil _ _))) rfl rfl h)
     refine au ?_
     replace H := H.2
     skip
     refine sfzR 0 hO JA.u fun s hO JD JE => ?_
     obtain ⟨iu, H⟩ := H
     have zz := oapp underlying23 ti31 rfl 0 hO rfl dp.u JD JE iu (by decide)
     obtain ⟨TH, afI, afJ, acA, Ck, jo, Cl⟩ := zz
     dsimp only [sS, sZ] at jo
     refine GoT.stepX rfl (Cl (by exact rfl) (by exact rfl)) rfl rfl rfl ?_
     refine nst Ck fun s hO => ?_
     skip
     refine sbs 2 hO fun vy s hO => ?_
     refine au ?_
     skip
     refine sbs 2 hO fun vz s hO => ?_
     refine au ?_
     refine zo (J03 rfl rfl (wrap_i64 (by have := h29; exact ⟨by omega, by omega⟩))) ?_
     refine au ?_
     exact hX1 _ H _ _ agr ⟨_, _, _, _, _, _, _, ⟨agr, hO, fr⟩, jo.u⟩
    skip
    refine sbuQ Fl.i 3 [(6 : Int)] hO (fun TJ afK s hO => ?_) (g := fun _ _ _ hv _ hst h => GoT.step rfl hv (CSv.cons (cs_eq (J00 2 hO rfl rfl) (J00 3 hst.own rfl rfl)) (CSv.cons (cs_eq (J00 2 hO rfl rfl) (J00 3 hst.own rfl rfl)) (CSv.nil _ _))) rfl rfl h)
    refine GoT.both ?_ ?_
    ·skip
     skip
     refine sbuQ Fl.bool 4 [true] hO (fun vA afL s hO => ?_) (g := fun _ _ _ hv _ hst h => GoT.step rfl hv (CSv.cons (cs_eq (J00 3 hO rfl rfl) (J00 4 hst.own rfl rfl)) (CSv.cons (cs_eq (J00 3 hO rfl rfl) (J00 4 hst.own rfl rfl)) (CSv.nil _ _))) rfl rfl h)
     refine GoT.both ?_ ?_
     ·skip
      skip
      refine sfz 0 hO fun s hO kz mH => ?_
      refine sapQ 2 hO kz H (fun TK afM afN s hO => ?_) (g := fun _ _ _ _ hv hst h => GoT.step rfl hv (CSv.cons (cs_eq (J00 3 hO rfl rfl) (J00 3 hst.own rfl rfl)) (CSv.cons (cs_eq (J00 3 hO rfl rfl) (J00 3 hst.own rfl rfl)) (CSv.nil _ _))) rfl rfl h)
      refine au ?_
      replace H := H.2
      skip
      refine sfz 0 hO fun s hO qt kA => ?_
      have zz := obu underlying23 ti31 hO (qt) kA
      obtain ⟨TL, afO, nC, qu, JF, nE⟩ := zz
      refine GoT.step rfl (nE rfl) (CSv.same JF) rfl rfl ?_
      refine nst nC fun s hO => ?_
      skip
      refine sfzR 0 hO qu fun s hO JG JH => ?_
      obtain ⟨TM, H⟩ := H
      have zz := oapp underlying23 ti31 rfl 0 hO rfl dp.u JG JH TM (by decide)
      obtain ⟨afP, afQ, afR, acB, Cm, Af, Cn⟩ := zz
      dsimp only [sS, sZ] at Af
      refine GoT.stepX rfl (Cn (by exact rfl) (by exact rfl)) rfl rfl rfl ?_
      refine nst Cm fun s hO => ?_
      skip
      refine sbs 2 hO fun vB s hO => ?_
      refine au ?_
      skip
      refine sbs 2 hO fun vC s hO => ?_
      refine au ?_
      refine zo (J03 rfl rfl (wrap_i64 (by have := h29; exact ⟨by omega, by omega⟩))) ?_
      refine au ?_
      exact hX1 _ H _ _ agr ⟨_, _, _, _, _, _, _, ⟨agr, hO, fr⟩, Af.u⟩
     skip
     refine sfz 1 hO fun s hO JJ JK => ?_
     have zz := obu underlying23 ti31 hO (JJ) JK
     obtain ⟨Co, TN, Cp, JL, JM, Cq⟩ := zz
     refine GoT.step rfl (Cq rfl) (CSv.same JM) rfl rfl ?_
     refine nst Cp fun s hO => ?_
     skip
     refine sfz 1 hO fun s hO JN acC => ?_
     refine sapQ 2 hO JN H (fun qv Cr TO s hO => ?_) (g := fun _ _ _ _ hv hst h => GoT.step rfl hv (CSv.cons (cs_eq (J00 3 hO rfl rfl) (J00 3 hst.own rfl rfl)) (CSv.cons (cs_eq (J00 3 hO rfl rfl) (J00 3 hst.own rfl rfl)) (CSv.nil _ _))) rfl rfl h)
     refine au ?_
     replace H := H.2
     skip
     refine sfzR 0 hO JL.u fun s hO qw Ag => ?_
     obtain ⟨Ct, H⟩ := H
     have zz := oapp underlying23 ti31 rfl 0 hO rfl dp.u qw Ag Ct (by decide)
     obtain ⟨TP, afS, afT, kB, Cu, Ah, Cv⟩ := zz
     dsimp only [sS, sZ] at Ah
     refine GoT.stepX rfl (Cv (by exact rfl) (by exact rfl)) rfl rfl rfl ?_
     refine nst Cu fun s hO => ?_
     skip
     refine sbs 2 hO fun vD s hO => ?_
     refine au ?_
     skip
     refine sbs 2 hO fun vE s hO => ?_
     refine au ?_
     refine zo (J03 rfl rfl (wrap_i64 (by have := h29; exact ⟨by omega, by omega⟩))) ?_
     refine au ?_
     exact hX1 _ H _ _ agr ⟨_, _, _, _, _, _, _, ⟨agr, hO, fr⟩, Ah.u⟩
    skip
    refine sfz 0 hO fun s hO JO JP => ?_
    have zz := obu underlying23 ti31 hO (JO) JP
    obtain ⟨afU, gI, Cw, JQ, JS, Cx⟩ := zz
    refine GoT.step rfl (Cx rfl) (CSv.same JS) rfl rfl ?_
    refine nst Cw fun s hO => ?_
    skip
    refine sbuQ Fl.bool 4 [true] hO (fun TQ afV s hO => ?_) (g := fun _ _ _ hv _ hst h => GoT.step rfl hv (CSv.cons (cs_eq (J00 3 hO rfl rfl) (J00 4 hst.own rfl rfl)) (CSv.cons (cs_eq (J00 3 hO rfl rfl) (J00 4 hst.own rfl rfl)) (CSv.nil _ _))) rfl rfl h)
    skip
    refine sfz 0 hO fun s hO qz Ai => ?_
    refine sapQ 2 hO qz H (fun Cy afW afX s hO => ?_) (g := fun _ _ _ _ hv hst h => GoT.step rfl hv (CSv.cons (cs_eq (J00 3 hO rfl rfl) (J00 3 hst.own rfl rfl)) (CSv.cons (cs_eq (J00 3 hO rfl rfl) (J00 3 hst.own rfl rfl)) (CSv.nil _ _))) rfl rfl h)
    refine au ?_
    replace H := H.2
    skip
    refine sfzR 0 hO JQ.u fun s hO JT JU => ?_
    obtain ⟨nF, H⟩ := H
    have zz := oapp underlying23 ti31 rfl 0 hO rfl dp.u JT JU nF (by decide)
    obtain ⟨vF, Cz, TS, acD, CA, Aj, CB⟩ := zz
    dsimp only [sS, sZ] at Aj
    refine GoT.stepX rfl (CB (by exact rfl) (by exact rfl)) rfl rfl rfl ?_
    refine nst CA fun s hO => ?_
    skip
    refine sbs 2 hO fun afY s hO => ?_
    refine au ?_
    skip
    refine sbs 2 hO fun TT s hO => ?_
    refine au ?_
    refine zo (J03 rfl rfl (wrap_i64 (by have := h29; exact ⟨by omega, by omega⟩))) ?_
    refine au ?_
    exact hX1 _ H _ _ agr ⟨_, _, _, _, _, _, _, ⟨agr, hO, fr⟩, Aj.u⟩
   refine GoT.pure rfl (J7k rfl rfl h33) rfl rfl ?_
   replace H := (ifn h33 H)
   refine GoT.both ?_ ?_
   ·skip
    skip
    refine sbuQ Fl.bool 4 [true] hO (fun af0 af1 s hO => ?_) (g := fun _ _ _ hv _ hst h => GoT.step rfl hv (CSv.cons (cs_eq (J00 2 hO rfl rfl) (J00 3 hst.own rfl rfl)) (CSv.cons (cs_eq (J00 2 hO rfl rfl) (J00 3 hst.own rfl rfl)) (CSv.nil _ _))) rfl rfl h)
    refine GoT.both ?_ ?_
    ·skip
     skip
     refine sfz 0 hO fun s hO qA Ak => ?_
     refine sapQ 1 hO qA H (fun vG lU lV s hO => ?_) (g := fun _ _ _ _ hv hst h => GoT.step rfl hv (CSv.cons (cs_eq (J00 2 hO rfl rfl) (J00 2 hst.own rfl rfl)) (CSv.cons (cs_eq (J00 2 hO rfl rfl) (J00 2 hst.own rfl rfl)) (CSv.nil _ _))) rfl rfl h)
     refine au ?_
     replace H := H.2
     skip
     refine sbuQ Fl.i 3 [(fX + 1 : Int)] hO (fun TU af2 s hO => ?_) (g := fun _ _ _ hv _ hst h => GoT.step rfl hv (CSv.cons (cs_eq (J00 2 hO rfl rfl) (J00 3 hst.own rfl rfl)) (CSv.cons (cs_eq (J00 2 hO rfl rfl) (J00 3 hst.own rfl rfl)) (CSv.nil _ _))) rfl rfl h)
     skip
     refine sfz 0 hO fun s hO JV JW => ?_
     have zz := obu underlying23 ti31 hO (JV) JW
     obtain ⟨vH, TV, nG, mI, JX, CC⟩ := zz
     refine GoT.step rfl (CC rfl) (CSv.same JX) rfl rfl ?_
     refine nst nG fun s hO => ?_
     skip
     refine sfzR 0 hO mI fun s hO JY J0 => ?_
     obtain ⟨qB, H⟩ := H
     have zz := oapp underlying23 ti31 rfl 0 hO rfl dp.u JY J0 qB (by decide)
     obtain ⟨vI, TW, af3, acE, CD, Am, CE⟩ := zz
     dsimp only [sS, sZ] at Am
     refine GoT.stepX rfl (CE (by exact rfl) (by exact rfl)) rfl rfl rfl ?_
     refine nst CD fun s hO => ?_
     skip
     refine sbs 2 hO fun TX s hO => ?_
     refine au ?_
     skip
     refine sbs 2 hO fun CF s hO => ?_
     refine au ?_
     refine zo (J03 rfl rfl (wrap_i64 (by have := h29; exact ⟨by omega, by omega⟩))) ?_
     refine au ?_
     exact hX1 _ H _ _ agr ⟨_, _, _, _, _, _, _, ⟨agr, hO, fr⟩, Am.u⟩
    skip
    refine sbuQ Fl.i 3 [(fX + 1 : Int)] hO (fun TY nH s hO => ?_) (g := fun _ _ _ hv _ hst h => GoT.step rfl hv (CSv.cons (cs_eq (J00 3 hO rfl rfl) (J00 4 hst.own rfl rfl)) (CSv.cons (cs_eq (J00 3 hO rfl rfl) (J00 4 hst.own rfl rfl)) (CSv.nil _ _))) rfl rfl h)
    refine GoT.both ?_ ?_
    ·skip
     skip
     refine sfz 1 hO fun s hO qC J1 => ?_
     refine sapQ 2 hO qC H (fun T3 T4 T5 s hO => ?_) (g := fun _ _ _ _ hv hst h => GoT.step rfl hv (CSv.cons (cs_eq (J00 3 hO rfl rfl) (J00 3 hst.own rfl rfl)) (CSv.cons (cs_eq (J00 3 hO rfl rfl) (J00 3 hst.own rfl rfl)) (CSv.nil _ _))) rfl rfl h)
     refine au ?_
     replace H := H.2
     skip
     refine sfz 0 hO fun s hO J2 kC => ?_
     have zz := obu underlying23 ti31 hO (J2) kC
     obtain ⟨af4, T6, CG, J3, J4, CH⟩ := zz
     refine GoT.step rfl (CH rfl) (CSv.same J4) rfl rfl ?_
     refine nst CG fun s hO => ?_
     skip
     refine sfzR 0 hO J3 fun s hO qD J5 => ?_
     obtain ⟨vJ, H⟩ := H
     have zz := oapp underlying23 ti31 rfl 0 hO rfl dp.u qD J5 vJ (by decide)
     obtain ⟨af5, af6, af7, acF, CJ, Ao, CK⟩ := zz
     dsimp only [sS, sZ] at Ao
     refine GoT.stepX rfl (CK (by exact rfl) (by exact rfl)) rfl rfl rfl ?_
     refine nst CJ fun s hO => ?_
     skip
     refine sbs 2 hO fun T7 s hO => ?_
     refine au ?_
     skip
     refine sbs 2 hO fun af8 s hO => ?_
     refine au ?_
     refine zo (J03 rfl rfl (wrap_i64 (by have := h29; exact ⟨by omega, by omega⟩))) ?_
     refine au ?_
     exact hX1 _ H _ _ agr ⟨_, _, _, _, _, _, _, ⟨agr, hO, fr⟩, Ao.u⟩
    skip
    refine sfz 0 hO fun s hO J6 J7 => ?_
    have zz := obu underlying23 ti31 hO (J6) J7
    obtain ⟨af9, aga, CM, J8, J9, CO⟩ := zz
    refine GoT.step rfl (CO rfl) (CSv.same J9) rfl rfl ?_
    refine nst CM fun s hO => ?_
    skip
    refine sfz 1 hO fun s hO Ka acG => ?_
    refine sapQ 2 hO Ka H (fun vK T8 agb s hO => ?_) (g := fun _ _ _ _ hv hst h => GoT.step rfl hv (CSv.cons (cs_eq (J00 3 hO rfl rfl) (J00 3 hst.own rfl rfl)) (CSv.cons (cs_eq (J00 3 hO rfl rfl) (J00 3 hst.own rfl rfl)) (CSv.nil _ _))) rfl rfl h)
    refine au ?_
    replace H := H.2
    skip
    refine sfzR 0 hO J8.u fun s hO qE Ap => ?_
    obtain ⟨CP, H⟩ := H
    have zz := oapp underlying23 ti31 rfl 0 hO rfl dp.u qE Ap CP (by decide)
    obtain ⟨CQ, T9, agc, Aq, nI, mJ, CR⟩ := zz
    dsimp only [sS, sZ] at mJ
    refine GoT.stepX rfl (CR (by exact rfl) (by exact rfl)) rfl rfl rfl ?_
    refine nst nI fun s hO => ?_
    skip
    refine sbs 2 hO fun Ua s hO => ?_
    refine au ?_
    skip
    refine sbs 2 hO fun CT s hO => ?_
    refine au ?_
    refine zo (J03 rfl rfl (wrap_i64 (by have := h29; exact ⟨by omega, by omega⟩))) ?_
    refine au ?_
    exact hX1 _ H _ _ agr ⟨_, _, _, _, _, _, _, ⟨agr, hO, fr⟩, mJ.u⟩
   skip
   refine sbuQ Fl.i 3 [(fX + 1 : Int)] hO (fun Ub Uc s hO => ?_) (g := fun _ _ _ hv _ hst h => GoT.step rfl hv (CSv.cons (cs_eq (J00 2 hO rfl rfl) (J00 3 hst.own rfl rfl)) (CSv.cons (cs_eq (J00 2 hO rfl rfl) (J00 3 hst.own rfl rfl)) (CSv.nil _ _))) rfl rfl h)
   refine GoT.both ?_ ?_
   ·skip
    skip
    refine sbuQ Fl.bool 4 [true] hO (fun CU agd s hO => ?_) (g := fun _ _ _ hv _ hst h => GoT.step rfl hv (CSv.cons (cs_eq (J00 3 hO rfl rfl) (J00 4 hst.own rfl rfl)) (CSv.cons (cs_eq (J00 3 hO rfl rfl) (J00 4 hst.own rfl rfl)) (CSv.nil _ _))) rfl rfl h)
    refine GoT.both ?_ ?_
    ·skip
     skip
     refine sfz 0 hO fun s hO Kb acH => ?_
     refine sapQ 2 hO Kb H (fun age agf agh s hO => ?_) (g := fun _ _ _ _ hv hst h => GoT.step rfl hv (CSv.cons (cs_eq (J00 3 hO rfl rfl) (J00 3 hst.own rfl rfl)) (CSv.cons (cs_eq (J00 3 hO rfl rfl) (J00 3 hst.own rfl rfl)) (CSv.nil _ _))) rfl rfl h)
     refine au ?_
     replace H := H.2
     skip
     refine sfz 0 hO fun s hO Kc Kd => ?_
     have zz := obu underlying23 ti31 hO (Kc) Kd
     obtain ⟨agi, agj, nJ, qF, Ke, CV⟩ := zz
     refine GoT.step rfl (CV rfl) (CSv.same Ke) rfl rfl ?_
     refine nst nJ fun s hO => ?_
     skip
     refine sfzR 0 hO qF fun s hO qG Kf => ?_
     obtain ⟨qH, H⟩ := H
     have zz := oapp underlying23 ti31 rfl 0 hO rfl dp.u qG Kf qH (by decide)
     obtain ⟨agk, agl, agm, acI, CW, Ar, CX⟩ := zz
     dsimp only [sS, sZ] at Ar
     refine GoT.stepX rfl (CX (by exact rfl) (by exact rfl)) rfl rfl rfl ?_
     refine nst CW fun s hO => ?_
     skip
     refine sbs 2 hO fun Ud s hO => ?_
     refine au ?_
     skip
     refine sbs 2 hO fun vL s hO => ?_
     refine au ?_
     refine zo (J03 rfl rfl (wrap_i64 (by have := h29; exact ⟨by omega, by omega⟩))) ?_
     refine au ?_
     exact hX1 _ H _ _ agr ⟨_, _, _, _, _, _, _, ⟨agr, hO, fr⟩, Ar.u⟩
    skip
    refine sfz 1 hO fun s hO Kg Kh => ?_
    have zz := obu underlying23 ti31 hO (Kg) Kh
    obtain ⟨C0, agn, nK, Ki, Kj, C1⟩ := zz
    refine GoT.step rfl (C1 rfl) (CSv.same Kj) rfl rfl ?_
    refine nst nK fun s hO => ?_
    skip
    refine sfz 1 hO fun s hO qI Kk => ?_
    refine sapQ 2 hO qI H (fun C2 C3 C4 s hO => ?_) (g := fun _ _ _ _ hv hst h => GoT.step rfl hv (CSv.cons (cs_eq (J00 3 hO rfl rfl) (J00 3 hst.own rfl rfl)) (CSv.cons (cs_eq (J00 3 hO rfl rfl) (J00 3 hst.own rfl rfl)) (CSv.nil _ _))) rfl rfl h)
    refine au ?_
    replace H := H.2
    skip
    refine sfzR 0 hO Ki.u fun s hO Kl Km => ?_
    obtain ⟨iv, H⟩ := H
    have zz := oapp underlying23 ti31 rfl 0 hO rfl dp.u Kl Km iv (by decide)
    obtain ⟨Ue, Uf, Ug, acJ, C5, At, C6⟩ := zz
    dsimp only [sS, sZ] at At
    refine GoT.stepX rfl (C6 (by exact rfl) (by exact rfl)) rfl rfl rfl ?_
    refine nst C5 fun s hO => ?_
    skip
    refine sbs 2 hO fun C7 s hO => ?_
    refine au ?_
    skip
    refine sbs 2 hO fun Uh s hO => ?_
    refine au ?_
    refine zo (J03 rfl rfl (wrap_i64 (by have := h29; exact ⟨by omega, by omega⟩))) ?_
    refine au ?_
    exact hX1 _ H _ _ agr ⟨_, _, _, _, _, _, _, ⟨agr, hO, fr⟩, At.u⟩
   skip
   refine sfz 0 hO fun s hO Kn Ko => ?_
   have zz := obu underlying23 ti31 hO (Kn) Ko
   obtain ⟨Ui, Uj, C8, kD, Kq, C9⟩ := zz
   refine GoT.step rfl (C9 rfl) (CSv.same Kq) rfl rfl ?_
   refine nst C8 fun s hO => ?_
   skip
   refine sbuQ Fl.bool 4 [true] hO (fun ago agp s hO => ?_) (g := fun _ _ _ hv _ hst h => GoT.step rfl hv (CSv.cons (cs_eq (J00 3 hO rfl rfl) (J00 4 hst.own rfl rfl)) (CSv.cons (cs_eq (J00 3 hO rfl rfl) (J00 4 hst.own rfl rfl)) (CSv.nil _ _))) rfl rfl h)
   skip
   refine sfz 0 hO fun s hO Kr acK => ?_
   refine sapQ 2 hO Kr H (fun Dc agq ags s hO => ?_) (g := fun _ _ _ _ hv hst h => GoT.step rfl hv (CSv.cons (cs_eq (J00 3 hO rfl rfl) (J00 3 hst.own rfl rfl)) (CSv.cons (cs_eq (J00 3 hO rfl rfl) (J00 3 hst.own rfl rfl)) (CSv.nil _ _))) rfl rfl h)
   refine au ?_
   replace H := H.2
   skip
   refine sfzR 0 hO kD.u fun s hO qJ qK => ?_
   obtain ⟨vM, H⟩ := H
   have zz := oapp underlying23 ti31 rfl 0 hO rfl dp.u qJ qK vM (by decide)
   obtain ⟨vN, Uk, Ul, Ks, nM, kE, nO⟩ := zz
   dsimp only [sS, sZ] at kE
   refine GoT.stepX rfl (nO (by exact rfl) (by exact rfl)) rfl rfl rfl ?_
   refine nst nM fun s hO => ?_
   skip
   refine sbs 2 hO fun Um s hO => ?_
   refine au ?_
   skip
   refine sbs 2 hO fun agt s hO => ?_
   refine au ?_
   refine zo (J03 rfl rfl (wrap_i64 (by have := h29; exact ⟨by omega, by omega⟩))) ?_
   refine au ?_
   exact hX1 _ H _ _ agr ⟨_, _, _, _, _, _, _, ⟨agr, hO, fr⟩, kE.u⟩
  refine au ?_
  refine GoT.stable rfl (loadV (.tail _ (.head _)) rfl (J00 2 hO rfl rfl) underlying23 rfl rfl) rfl rfl ?_
  refine au ?_
  refine GoT.pure rfl (J03 rfl rfl (wrap_i64 (by have := h29; exact ⟨by omega, by omega⟩))) rfl rfl ?_
  by_cases lW : (6 : Int) < (fX + 1 : Int)
  ·refine GoT.pure rfl (J7r rfl rfl lW) rfl rfl ?_
   replace H := (ifp lW H)
   refine GoT.both ?_ ?_
   ·skip
    skip
    refine sbuQ Fl.bool 4 [false] hO (fun Un agu s hO => ?_) (g := fun _ _ _ hv _ hst h => GoT.step rfl hv (CSv.cons (cs_eq (J00 2 hO rfl rfl) (J00 3 hst.own rfl rfl)) (CSv.cons (cs_eq (J00 2 hO rfl rfl) (J00 3 hst.own rfl rfl)) (CSv.nil _ _))) rfl rfl h)
    refine GoT.both ?_ ?_
    ·skip
     skip
     refine sfz 0 hO fun s hO Kt acL => ?_
     refine sapQ 1 hO Kt H (fun Dd agv agw s hO => ?_) (g := fun _ _ _ _ hv hst h => GoT.step rfl hv (CSv.cons (cs_eq (J00 2 hO rfl rfl) (J00 2 hst.own rfl rfl)) (CSv.cons (cs_eq (J00 2 hO rfl rfl) (J00 2 hst.own rfl rfl)) (CSv.nil _ _))) rfl rfl h)
     refine au ?_
     replace H := H.2
     skip
     refine sbuQ Fl.i 3 [(6 : Int)] hO (fun agx agy s hO => ?_) (g := fun _ _ _ hv _ hst h => GoT.step rfl hv (CSv.cons (cs_eq (J00 2 hO rfl rfl) (J00 3 hst.own rfl rfl)) (CSv.cons (cs_eq (J00 2 hO rfl rfl) (J00 3 hst.own rfl rfl)) (CSv.nil _ _))) rfl rfl h)
     skip
     refine sfz 0 hO fun s hO Ku Kv => ?_
     have zz := obu underlying23 ti31 hO (Ku) Kv
     obtain ⟨Uo, Up, De, Kw, Kx, Dg⟩ := zz
     refine GoT.step rfl (Dg rfl) (CSv.same Kx) rfl rfl ?_
     refine nst De fun s hO => ?_
     skip
     refine sfzR 0 hO Kw fun s hO Ky Kz => ?_
     obtain ⟨Uq, H⟩ := H
     have zz := oapp underlying23 ti31 rfl 0 hO rfl dp.u Ky Kz Uq (by decide)
     obtain ⟨agz, agA, agB, acM, Dh, gY, Di⟩ := zz
     dsimp only [sS, sZ] at gY
     refine GoT.stepX rfl (Di (by exact rfl) (by exact rfl)) rfl rfl rfl ?_
     refine nst Dh fun s hO => ?_
     skip
     refine sbs 2 hO fun agC s hO => ?_
     refine au ?_
     skip
     refine sbs 2 hO fun Ur s hO => ?_
     refine au ?_
     refine zo (J03 rfl rfl (wrap_i64 (by have := h29; exact ⟨by omega, by omega⟩))) ?_
     refine au ?_
     exact hX1 _ H _ _ agr ⟨_, _, _, _, _, _, _, ⟨agr, hO, fr⟩, gY.u⟩
    skip
    refine sbuQ Fl.i 3 [(6 : Int)] hO (fun Dj agD s hO => ?_) (g := fun _ _ _ hv _ hst h => GoT.step rfl hv (CSv.cons (cs_eq (J00 3 hO rfl rfl) (J00 4 hst.own rfl rfl)) (CSv.cons (cs_eq (J00 3 hO rfl rfl) (J00 4 hst.own rfl rfl)) (CSv.nil _ _))) rfl rfl h)
    refine GoT.both ?_ ?_
    ·skip
     skip
     refine sfz 1 hO fun s hO KA acN => ?_
     refine sapQ 2 hO KA H (fun agE agF agG s hO => ?_) (g := fun _ _ _ _ hv hst h => GoT.step rfl hv (CSv.cons (cs_eq (J00 3 hO rfl rfl) (J00 3 hst.own rfl rfl)) (CSv.cons (cs_eq (J00 3 hO rfl rfl) (J00 3 hst.own rfl rfl)) (CSv.nil _ _))) rfl rfl h)
     refine au ?_
     replace H := H.2
     skip
     refine sfz 0 hO fun s hO KB KD => ?_
     have zz := obu underlying23 ti31 hO (KB) KD
     obtain ⟨Us, Ut, Dk, KE, KF, Dl⟩ := zz
     refine GoT.step rfl (Dl rfl) (CSv.same KF) rfl rfl ?_
     refine nst Dk fun s hO => ?_
     skip
     refine sfzR 0 hO KE fun s hO KG KH => ?_
     obtain ⟨Uu, H⟩ := H
     have zz := oapp underlying23 ti31 rfl 0 hO rfl dp.u KG KH Uu (by decide)
     obtain ⟨agH, agI, agJ, acO, Dn, Au, Do⟩ := zz
     dsimp only [sS, sZ] at Au
     refine GoT.stepX rfl (Do (by exact rfl) (by exact rfl)) rfl rfl rfl ?_
     refine nst Dn fun s hO => ?_
     skip
     refine sbs 2 hO fun Uv s hO => ?_
     refine au ?_
     skip
     refine sbs 2 hO fun Dp s hO => ?_
     refine au ?_
     refine zo (J03 rfl rfl (wrap_i64 (by have := h29; exact ⟨by omega, by omega⟩))) ?_
     refine au ?_
     exact hX1 _ H _ _ agr ⟨_, _, _, _, _, _, _, ⟨agr, hO, fr⟩, Au.u⟩
    skip
    refine sfz 0 hO fun s hO KI KJ => ?_
    have zz := obu underlying23 ti31 hO (KI) KJ
    obtain ⟨agK, agL, Dq, KK, KL, Dr⟩ := zz
    refine GoT.step rfl (Dr rfl) (CSv.same KL) rfl rfl ?_
    refine nst Dq fun s hO => ?_
    skip
    refine sfz 1 hO fun s hO KM acP => ?_
    refine sapQ 2 hO KM H (fun agM agN agO s hO => ?_) (g := fun _ _ _ _ hv hst h => GoT.step rfl hv (CSv.cons (cs_eq (J00 3 hO rfl rfl) (J00 3 hst.own rfl rfl)) (CSv.cons (cs_eq (J00 3 hO rfl rfl) (J00 3 hst.own rfl rfl)) (CSv.nil _ _))) rfl rfl h)
    refine au ?_
    replace H := H.2
    skip
    refine sfzR 0 hO KK.u fun s hO KN KO => ?_
    obtain ⟨vO, H⟩ := H
    have zz := oapp underlying23 ti31 rfl 0 hO rfl dp.u KN KO vO (by decide)
    obtain ⟨Uw, Ux, agP, KQ, Du, Aw, Dv⟩ := zz
    dsimp only [sS, sZ] at Aw
    refine GoT.stepX rfl (Dv (by exact rfl) (by exact rfl)) rfl rfl rfl ?_
    refine nst Du fun s hO => ?_
    skip
    refine sbs 2 hO fun Uy s hO => ?_
    refine au ?_
    skip
    refine sbs 2 hO fun Uz s hO => ?_
    refine au ?_
    refine zo (J03 rfl rfl (wrap_i64 (by have := h29; exact ⟨by omega, by omega⟩))) ?_
    refine au ?_
    exact hX1 _ H _ _ agr ⟨_, _, _, _, _, _, _, ⟨agr, hO, fr⟩, Aw.u⟩
   skip
   refine sbuQ Fl.i 3 [(6 : Int)] hO (fun agQ agR s hO => ?_) (g := fun _ _ _ hv _ hst h => GoT.step rfl hv (CSv.cons (cs_eq (J00 2 hO rfl rfl) (J00 3 hst.own rfl rfl)) (CSv.cons (cs_eq (J00 2 hO rfl rfl) (J00 3 hst.own rfl rfl)) (CSv.nil _ _))) rfl rfl h)
   refine GoT.both ?_ ?_
   ·skip
    skip
    refine sbuQ Fl.bool 4 [false] hO (fun agS agT s hO => ?_) (g := fun _ _ _ hv _ hst h => GoT.step rfl hv (CSv.cons (cs_eq (J00 3 hO rfl rfl) (J00 4 hst.own rfl rfl)) (CSv.cons (cs_eq (J00 3 hO rfl rfl) (J00 4 hst.own rfl rfl)) (CSv.nil _ _))) rfl rfl h)
    refine GoT.both ?_ ?_
    ·skip
     skip
     refine sfz 0 hO fun s hO KR acQ => ?_
     refine sapQ 2 hO KR H (fun UA agU agV s hO => ?_) (g := fun _ _ _ _ hv hst h => GoT.step rfl hv (CSv.cons (cs_eq (J00 3 hO rfl rfl) (J00 3 hst.own rfl rfl)) (CSv.cons (cs_eq (J00 3 hO rfl rfl) (J00 3 hst.own rfl rfl)) (CSv.nil _ _))) rfl rfl h)
     refine au ?_
     replace H := H.2
     skip
     refine sfz 0 hO fun s hO KS KT => ?_
     have zz := obu underlying23 ti31 hO (KS) KT
     obtain ⟨agW, agX, Dw, KU, KV, Dx⟩ := zz
     refine GoT.step rfl (Dx rfl) (CSv.same KV) rfl rfl ?_
     refine nst Dw fun s hO => ?_
     skip
     refine sfzR 0 hO KU fun s hO KW KX => ?_
     obtain ⟨nP, H⟩ := H
     have zz := oapp underlying23 ti31 rfl 0 hO rfl dp.u KW KX nP (by decide)
     obtain ⟨agY, ag0, ag1, acR, Dy, Ax, Dz⟩ := zz
     dsimp only [sS, sZ] at Ax
     refine GoT.stepX rfl (Dz (by exact rfl) (by exact rfl)) rfl rfl rfl ?_
     refine nst Dy fun s hO => ?_
     skip
     refine sbs 2 hO fun UB s hO => ?_
     refine au ?_
     skip
     refine sbs 2 hO fun UC s hO => ?_
     refine au ?_
     refine zo (J03 rfl rfl (wrap_i64 (by have := h29; exact ⟨by omega, by omega⟩))) ?_
     refine au ?_
     exact hX1 _ H _ _ agr ⟨_, _, _, _, _, _, _, ⟨agr, hO, fr⟩, Ax.u⟩
    skip
    refine sfz 1 hO fun s hO KY K1 => ?_
    have zz := obu underlying23 ti31 hO (KY) K1
    obtain ⟨UD, ag2, DA, K2, K3, DB⟩ := zz
    refine GoT.step rfl (DB rfl) (CSv.same K3) rfl rfl ?_
    refine nst DA fun s hO => ?_
    skip
    refine sfz 1 hO fun s hO K4 acS => ?_
    refine sapQ 2 hO K4 H (fun UE UG ag3 s hO => ?_) (g := fun _ _ _ _ hv hst h => GoT.step rfl hv (CSv.cons (cs_eq (J00 3 hO rfl rfl) (J00 3 hst.own rfl rfl)) (CSv.cons (cs_eq (J00 3 hO rfl rfl) (J00 3 hst.own rfl rfl)) (CSv.nil _ _))) rfl rfl h)
    refine au ?_
    replace H := H.2
    skip
    refine sfzR 0 hO K2.u fun s hO qL Ay => ?_
    obtain ⟨UH, H⟩ := H
    have zz := oapp underlying23 ti31 rfl 0 hO rfl dp.u qL Ay UH (by decide)
    obtain ⟨ag4, ag5, ag6, K5, DD, Az, DE⟩ := zz
    dsimp only [sS, sZ] at Az
    refine GoT.stepX rfl (DE (by exact rfl) (by exact rfl)) rfl rfl rfl ?_
    refine nst DD fun s hO => ?_
    skip
    refine sbs 2 hO fun UI s hO => ?_
    refine au ?_
    skip
    refine sbs 2 hO fun UJ s hO => ?_
    refine au ?_
    refine zo (J03 rfl rfl (wrap_i64 (by have := h29; exact ⟨by omega, by omega⟩))) ?_
    refine au ?_
    exact hX1 _ H _ _ agr ⟨_, _, _, _, _, _, _, ⟨agr, hO, fr⟩, Az.u⟩
   skip
   refine sfz 0 hO fun s hO K6 K7 => ?_
   have zz := obu underlying23 ti31 hO (K6) K7
   obtain ⟨ag7, ag8, DF, K8, K9, DG⟩ := zz
   refine GoT.step rfl (DG rfl) (CSv.same K9) rfl rfl ?_
   refine nst DF fun s hO => ?_
   skip
   refine sbuQ Fl.bool 4 [false] hO (fun ag9 aha s hO => ?_) (g := fun _ _ _ hv _ hst h => GoT.step rfl hv (CSv.cons (cs_eq (J00 3 hO rfl rfl) (J00 4 hst.own rfl rfl)) (CSv.cons (cs_eq (J00 3 hO rfl rfl) (J00 4 hst.own rfl rfl)) (CSv.nil _ _))) rfl rfl h)
   skip
   refine sfz 0 hO fun s hO La acT => ?_
   refine sapQ 2 hO La H (fun ahb ahc ahd s hO => ?_) (g := fun _ _ _ _ hv hst h => GoT.step rfl hv (CSv.cons (cs_eq (J00 3 hO rfl rfl) (J00 3 hst.own rfl rfl)) (CSv.cons (cs_eq (J00 3 hO rfl rfl) (J00 3 hst.own rfl rfl)) (CSv.nil _ _))) rfl rfl h)
   refine au ?_
   replace H := H.2
   skip
   refine sfzR 0 hO K8.u fun s hO Lb Lc => ?_
   obtain ⟨jN, H⟩ := H
   have zz := oapp underlying23 ti31 rfl 0 hO rfl dp.u Lb Lc jN (by decide)
   obtain ⟨ahe, ahf, ahg, acU, DH, AA, DJ⟩ := zz
   dsimp only [sS, sZ] at AA
   refine GoT.stepX rfl (DJ (by exact rfl) (by exact rfl)) rfl rfl rfl ?_
   refine nst DH fun s hO => ?_
   skip
   refine sbs 2 hO fun ahh s hO => ?_
   refine au ?_
   skip
   refine sbs 2 hO fun UK s hO => ?_
   refine au ?_
   refine zo (J03 rfl rfl (wrap_i64 (by have := h29; exact ⟨by omega, by omega⟩))) ?_
   refine au ?_
   exact hX1 _ H _ _ agr ⟨_, _, _, _, _, _, _, ⟨agr, hO, fr⟩, AA.u⟩
  refine GoT.pure rfl (J7k rfl rfl lW) rfl rfl ?_
  replace H := (ifn lW H)
  refine GoT.both ?_ ?_
  ·skip
   skip
   refine sbuQ Fl.bool 4 [false] hO (fun ahi ahj s hO => ?_) (g := fun _ _ _ hv _ hst h => GoT.step rfl hv (CSv.cons (cs_eq (J00 2 hO rfl rfl) (J00 3 hst.own rfl rfl)) (CSv.cons (cs_eq (J00 2 hO rfl rfl) (J00 3 hst.own rfl rfl)) (CSv.nil _ _))) rfl rfl h)
   refine GoT.both ?_ ?_
   ·skip
    skip
    refine sfz 0 hO fun s hO Ld acV => ?_
    refine sapQ 1 hO Ld H (fun UL UM ahk s hO => ?_) (g := fun _ _ _ _ hv hst h => GoT.step rfl hv (CSv.cons (cs_eq (J00 2 hO rfl rfl) (J00 2 hst.own rfl rfl)) (CSv.cons (cs_eq (J00 2 hO rfl rfl) (J00 2 hst.own rfl rfl)) (CSv.nil _ _))) rfl rfl h)
    refine au ?_
    replace H := H.2
    skip
    refine sbuQ Fl.i 3 [(fX + 1 : Int)] hO (fun ahl ahm s hO => ?_) (g := fun _ _ _ hv _ hst h => GoT.step rfl hv (CSv.cons (cs_eq (J00 2 hO rfl rfl) (J00 3 hst.own rfl rfl)) (CSv.cons (cs_eq (J00 2 hO rfl rfl) (J00 3 hst.own rfl rfl)) (CSv.nil _ _))) rfl rfl h)
    skip
    refine sfz 0 hO fun s hO Le Lf => ?_
    have zz := obu underlying23 ti31 hO (Le) Lf
    obtain ⟨ahn, aho, DK, Lg, Lh, DL⟩ := zz
    refine GoT.step rfl (DL rfl) (CSv.same Lh) rfl rfl ?_
    refine nst DK fun s hO => ?_
    skip
    refine sfzR 0 hO Lg fun s hO Li Lj => ?_
    obtain ⟨UO, H⟩ := H
    have zz := oapp underlying23 ti31 rfl 0 hO rfl dp.u Li Lj UO (by decide)
    obtain ⟨ahp, ahq, ahr, acW, DN, AB, DO⟩ := zz
    dsimp only [sS, sZ] at AB
    refine GoT.stepX rfl (DO (by exact rfl) (by exact rfl)) rfl rfl rfl ?_
    refine nst DN fun s hO => ?_
    skip
    refine sbs 2 hO fun ahs s hO => ?_
    refine au ?_
    skip
    refine sbs 2 hO fun aht s hO => ?_
    refine au ?_
    refine zo (J03 rfl rfl (wrap_i64 (by have := h29; exact ⟨by omega, by omega⟩))) ?_
    refine au ?_
    exact hX1 _ H _ _ agr ⟨_, _, _, _, _, _, _, ⟨agr, hO, fr⟩, AB.u⟩
   skip
   refine sbuQ Fl.i 3 [(fX + 1 : Int)] hO (fun DP UP s hO => ?_) (g := fun _ _ _ hv _ hst h => GoT.step rfl hv (CSv.cons (cs_eq (J00 3 hO rfl rfl) (J00 4 hst.own rfl rfl)) (CSv.cons (cs_eq (J00 3 hO rfl rfl) (J00 4 hst.own rfl rfl)) (CSv.nil _ _))) rfl rfl h)
   refine GoT.both ?_ ?_
   ·skip
    skip
    refine sfz 1 hO fun s hO Lk acX => ?_
    refine sapQ 2 hO Lk H (fun UQ UR ahu s hO => ?_) (g := fun _ _ _ _ hv hst h => GoT.step rfl hv (CSv.cons (cs_eq (J00 3 hO rfl rfl) (J00 3 hst.own rfl rfl)) (CSv.cons (cs_eq (J00 3 hO rfl rfl) (J00 3 hst.own rfl rfl)) (CSv.nil _ _))) rfl rfl h)
    refine au ?_
    replace H := H.2
    skip
    refine sfz 0 hO fun s hO qM AC => ?_
    have zz := obu underlying23 ti31 hO (qM) AC
    obtain ⟨US, UT, DR, Ll, Ln, DS⟩ := zz
    refine GoT.step rfl (DS rfl) (CSv.same Ln) rfl rfl ?_
    refine nst DR fun s hO => ?_
    skip
    refine sfzR 0 hO Ll fun s hO Lr Lt => ?_
    obtain ⟨UU, H⟩ := H
    have zz := oapp underlying23 ti31 rfl 0 hO rfl dp.u Lr Lt UU (by decide)
    obtain ⟨UV, DT, ahv, acY, DU, AD, DW⟩ := zz
    dsimp only [sS, sZ] at AD
    refine GoT.stepX rfl (DW (by exact rfl) (by exact rfl)) rfl rfl rfl ?_
    refine nst DU fun s hO => ?_
    skip
    refine sbs 2 hO fun ahw s hO => ?_
    refine au ?_
    skip
    refine sbs 2 hO fun ahx s hO => ?_
    refine au ?_
    refine zo (J03 rfl rfl (wrap_i64 (by have := h29; exact ⟨by omega, by omega⟩))) ?_
    refine au ?_
    exact hX1 _ H _ _ agr ⟨_, _, _, _, _, _, _, ⟨agr, hO, fr⟩, AD.u⟩
   skip
   refine sfz 0 hO fun s hO Lu Lv => ?_
   have zz := obu underlying23 ti31 hO (Lu) Lv
   obtain ⟨ahy, ahz, DX, Lw, Lx, DY⟩ := zz
   refine GoT.step rfl (DY rfl) (CSv.same Lx) rfl rfl ?_
   refine nst DX fun s hO => ?_
   skip
   refine sfz 1 hO fun s hO Ly ac0 => ?_
   refine sapQ 2 hO Ly H (fun ahA ahB ahC s hO => ?_) (g := fun _ _ _ _ hv hst h => GoT.step rfl hv (CSv.cons (cs_eq (J00 3 hO rfl rfl) (J00 3 hst.own rfl rfl)) (CSv.cons (cs_eq (J00 3 hO rfl rfl) (J00 3 hst.own rfl rfl)) (CSv.nil _ _))) rfl rfl h)
   refine au ?_
   replace H := H.2
   skip
   refine sfzR 0 hO Lw.u fun s hO Lz LA => ?_
   obtain ⟨UW, H⟩ := H
   have zz := oapp underlying23 ti31 rfl 0 hO rfl dp.u Lz LA UW (by decide)
   obtain ⟨ahD, ahE, ahF, ac1, D3, AE, D4⟩ := zz
   dsimp only [sS, sZ] at AE
   refine GoT.stepX rfl (D4 (by exact rfl) (by exact rfl)) rfl rfl rfl ?_
   refine nst D3 fun s hO => ?_
   skip
   refine sbs 2 hO fun ahG s hO => ?_
   refine au ?_
   skip
   refine sbs 2 hO fun ahH s hO => ?_
   refine au ?_
   refine zo (J03 rfl rfl (wrap_i64 (by have := h29; exact ⟨by omega, by omega⟩))) ?_
   refine au ?_
   exact hX1 _ H _ _ agr ⟨_, _, _, _, _, _, _, ⟨agr, hO, fr⟩, AE.u⟩
  skip
  refine sbuQ Fl.i 3 [(fX + 1 : Int)] hO (fun UX UY s hO => ?_) (g := fun _ _ _ hv _ hst h => GoT.step rfl hv (CSv.cons (cs_eq (J00 2 hO rfl rfl) (J00 3 hst.own rfl rfl)) (CSv.cons (cs_eq (J00 2 hO rfl rfl) (J00 3 hst.own rfl rfl)) (CSv.nil _ _))) rfl rfl h)
  refine GoT.both ?_ ?_
  ·skip
   skip
   refine sbuQ Fl.bool 4 [false] hO (fun ahI ahJ s hO => ?_) (g := fun _ _ _ hv _ hst h => GoT.step rfl hv (CSv.cons (cs_eq (J00 3 hO rfl rfl) (J00 4 hst.own rfl rfl)) (CSv.cons (cs_eq (J00 3 hO rfl rfl) (J00 4 hst.own rfl rfl)) (CSv.nil _ _))) rfl rfl h)
   refine GoT.both ?_ ?_
   ·skip
    skip
    refine sfz 0 hO fun s hO LB ac2 => ?_
    refine sapQ 2 hO LB H (fun U1 ahK ahL s hO => ?_) (g := fun _ _ _ _ hv hst h => GoT.step rfl hv (CSv.cons (cs_eq (J00 3 hO rfl rfl) (J00 3 hst.own rfl rfl)) (CSv.cons (cs_eq (J00 3 hO rfl rfl) (J00 3 hst.own rfl rfl)) (CSv.nil _ _))) rfl rfl h)
    refine au ?_
    replace H := H.2
    skip
    refine sfz 0 hO fun s hO qN qO => ?_
    have zz := obu underlying23 ti31 hO (qN) qO
    obtain ⟨ahM, ahN, D5, LD, LE, D6⟩ := zz
    refine GoT.step rfl (D6 rfl) (CSv.same LE) rfl rfl ?_
    refine nst D5 fun s hO => ?_
    skip
    refine sfzR 0 hO LD fun s hO LF LG => ?_
    obtain ⟨U3, H⟩ := H
    have zz := oapp underlying23 ti31 rfl 0 hO rfl dp.u LF LG U3 (by decide)
    obtain ⟨D7, U4, U5, ac3, D8, AF, D9⟩ := zz
    dsimp only [sS, sZ] at AF
    refine GoT.stepX rfl (D9 (by exact rfl) (by exact rfl)) rfl rfl rfl ?_
    refine nst D8 fun s hO => ?_
    skip
    refine sbs 2 hO fun ahO s hO => ?_
    refine au ?_
    skip
    refine sbs 2 hO fun U6 s hO => ?_
    refine au ?_
    refine zo (J03 rfl rfl (wrap_i64 (by have := h29; exact ⟨by omega, by omega⟩))) ?_
    refine au ?_
    exact hX1 _ H _ _ agr ⟨_, _, _, _, _, _, _, ⟨agr, hO, fr⟩, AF.u⟩
   skip
   refine sfz 1 hO fun s hO LH LI => ?_
   have zz := obu underlying23 ti31 hO (LH) LI
   obtain ⟨ahP, ahQ, Ea, LJ, LK, Eb⟩ := zz
   refine GoT.step rfl (Eb rfl) (CSv.same LK) rfl rfl ?_
   refine nst Ea fun s hO => ?_
   skip
   refine sfz 1 hO fun s hO LN ac4 => ?_
   refine sapQ 2 hO LN H (fun ahR ahS ahT s hO => ?_) (g := fun _ _ _ _ hv hst h => GoT.step rfl hv (CSv.cons (cs_eq (J00 3 hO rfl rfl) (J00 3 hst.own rfl rfl)) (CSv.cons (cs_eq (J00 3 hO rfl rfl) (J00 3 hst.own rfl rfl)) (CSv.nil _ _))) rfl rfl h)
   refine au ?_
   replace H := H.2
   skip
   refine sfzR 0 hO LJ.u fun s hO LO LP => ?_
   obtain ⟨U7, H⟩ := H
   have zz := oapp underlying23 ti31 rfl 0 hO rfl dp.u LO LP U7 (by decide)
   obtain ⟨U8, U9, Ve, ac5, Ec, AG, Ed⟩ := zz
   dsimp only [sS, sZ] at AG
   refine GoT.stepX rfl (Ed (by exact rfl) (by exact rfl)) rfl rfl rfl ?_
   refine nst Ec fun s hO => ?_
   skip
   refine sbs 2 hO fun Vf s hO => ?_
   refine au ?_
   skip
   refine sbs 2 hO fun ahU s hO => ?_
   refine au ?_
   refine zo (J03 rfl rfl (wrap_i64 (by have := h29; exact ⟨by omega, by omega⟩))) ?_
   refine au ?_
   exact hX1 _ H _ _ agr ⟨_, _, _, _, _, _, _, ⟨agr, hO, fr⟩, AG.u⟩
  skip
  refine sfz 0 hO fun s hO LQ LS => ?_
  have zz := obu underlying23 ti31 hO (LQ) LS
  obtain ⟨Vg, Vh, Ee, LT, LU, Ef⟩ := zz
  refine GoT.step rfl (Ef rfl) (CSv.same LU) rfl rfl ?_
  refine nst Ee fun s hO => ?_
  skip
  refine sbuQ Fl.bool 4 [false] hO (fun ahV ahW s hO => ?_) (g := fun _ _ _ hv _ hst h => GoT.step rfl hv (CSv.cons (cs_eq (J00 3 hO rfl rfl) (J00 4 hst.own rfl rfl)) (CSv.cons (cs_eq (J00 3 hO rfl rfl) (J00 4 hst.own rfl rfl)) (CSv.nil _ _))) rfl rfl h)
  skip
  refine sfz 0 hO fun s hO LV ac6 => ?_
  refine sapQ 2 hO LV H (fun ahX ahY ah0 s hO => ?_) (g := fun _ _ _ _ hv hst h => GoT.step rfl hv (CSv.cons (cs_eq (J00 3 hO rfl rfl) (J00 3 hst.own rfl rfl)) (CSv.cons (cs_eq (J00 3 hO rfl rfl) (J00 3 hst.own rfl rfl)) (CSv.nil _ _))) rfl rfl h)
  refine au ?_
  replace H := H.2
  skip
  refine sfzR 0 hO LT.u fun s hO LX LY => ?_
  obtain ⟨Vi, H⟩ := H
  have zz := oapp underlying23 ti31 rfl 0 hO rfl dp.u LX LY Vi (by decide)
  obtain ⟨ah1, ah2, ah3, ac7, Eg, AH, Eh⟩ := zz
  dsimp only [sS, sZ] at AH
  refine GoT.stepX rfl (Eh (by exact rfl) (by exact rfl)) rfl rfl rfl ?_
  refine nst Eg fun s hO => ?_
  skip
  refine sbs 2 hO fun ah4 s hO => ?_
  refine au ?_
  skip
  refine sbs 2 hO fun Vj s hO => ?_
  refine au ?_
  refine zo (J03 rfl rfl (wrap_i64 (by have := h29; exact ⟨by omega, by omega⟩))) ?_
  refine au ?_
  exact hX1 _ H _ _ agr ⟨_, _, _, _, _, _, _, ⟨agr, hO, fr⟩, AH.u⟩
 refine sag 2 hO ?_
 refine sba 3 hO fun ah5 s hO => ?_
 refine au ?_
 refine sfz 1 hO fun s hO L5 L6 => ?_
 refine sfzR 0 hO dp.u fun s hO L7 L8 => ?_
 refine Go1.retC1 func24 rfl rfl (rlb 1 hO) ⟨((⟨(1 : Int), (0 : Int), vm, iQ⟩ : DFA)), _, _, _, _, ?_, frs, L5.r, L7.r, H⟩
 exact (congrArg (fun l => Value.agg (List.toArray l)) (J01 rfl (J01 rfl (J01 (congrArg (fun nn => Value.slice p26 nn c27) L6) (J01 (congrArg (fun nn => Value.slice p22 nn c23) L8) rfl)))))
theorem body69 : Body prog 69 := ⟨f69, func69, rfl, by kernel_rfl⟩
theorem J3m {fD : Option Addr} {gJ : Nat} {s_ : List Bool} (hA : HA0 A w0) (gK : ISb A w0 fD gJ s_) {K : List Bool → Prop} (H : J0h s_ K) :
    CallsV prog 69 #[.slice fD s_.length gJ] w0 (fun v w' => ∃ (r0 : List Bool), ∃ (fe : Nat), ∃ (p_r0 : Option Addr), ∃ (c_r0 : Nat), v = .slice p_r0 fe c_r0 ∧ Same w0 w' ∧ Owns w0.heap.size w' [t1 Fl.bool 4 p_r0 fe c_r0 r0] A ∧ K r0) := by
 refine cal hA func69 ntmps69 fun hO hB => ?_
 unfold J0h at H
 refine au ?_
 replace H := H fD.isNone (fun h => gK.nilD h)
 by_cases hz2 : fD.isNone = true
 ·replace H := ifp hz2 H
  refine zo (fun w => opB (J12 underlying22 rfl rfl w) (hz2)) ?_
  refine au ?_
  refine snil Fl.bool 4 hO fun s hO => ?_
  refine Go1.ret1 func69 rfl ⟨_, _, _, _, er, frs, hO, H⟩
 ·replace H := ifn hz2 H
  refine zo (fun w => opB (J12 underlying22 rfl rfl w) (Bool.eq_false_iff.2 hz2)) ?_
  refine sbu Fl.bool 4 ([] : List Bool) hO fun w4 p5 s hO => ?_
  refine sap 0 hO gK.u H fun w7 p8 c9 s hO => ?_
  refine au ?_
  refine Go1.ret1 func69 rfl ⟨_, _, _, _, er, frs, hO, H.2⟩
end Sg
