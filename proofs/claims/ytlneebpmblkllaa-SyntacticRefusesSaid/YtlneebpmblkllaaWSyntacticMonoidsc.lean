/- -/
import Derived.Test.YtlneebpmblkllaaVd
import Derived.Test.YtlneebpmblkllaaWSyntacticMonoids
import Derived.Test.YtlneebpmblkllaaWSyntacticMonoidsb
namespace Sg
open Go Go.RowKit Go.Proofs Try
set_option linter.unusedVariables false
set_option linter.unusedSimpArgs false
set_option maxRecDepth 100000
set_option maxHeartbeats 4000000
variable {A : List Nat} {w0 : World}
theorem body63 : Body prog 63 := ⟨f63, func63, rfl, by kernel_rfl⟩
theorem body62 : Body prog 62 := ⟨f62, func62, rfl, by kernel_rfl⟩
theorem body19 : Body prog 19 := ⟨f19, func19, rfl, by kernel_rfl⟩
theorem J39 {aF aV : Option Addr} {aG aW : Nat} {d : DFA} (hA : HA0 A w0) (aE : ISb A w0 aF aG d.Final) (bg : ISs A w0 aV aW d.Next) {K : Syntactic → Int → Prop} (H : J1f d K) :
    CallsV prog 19 #[.agg (cDF d aF aG aV aW)] w0 (fun v w' => ∃ (r0 : Syntactic), ∃ (r1 : Int), ∃ (dX : Option Addr), ∃ (dY : Nat), ∃ (d5 : Option Addr), ∃ (d6 : Nat), ∃ (dK : Option Addr), ∃ (dM : Nat), ∃ (dN : Option Addr), ∃ (dO : Nat), ∃ (eo : Option Addr), ∃ (eA : Nat), v = .tuple #[.agg (cSY r0 dX dY d5 d6 dK dM dN dO eo eA), .int .i64 r1] ∧ Same w0 w' ∧ ISs A w' dX dY r0.Table ∧ ISt A w' d5 d6 r0.Words ∧ ISi A w' dK dM r0.Images ∧ ISb A w' dN dO r0.Accept ∧ ISb A w' eo eA r0.Plus ∧ K r0 r1) := by
 refine cal hA func19 ntmps19 fun hO hB => ?_
 unfold J1f at H
 refine sbx hO fun w1 B2 s hO => ?_
 refine sal hO fun w4 B5 s hO => ?_
 refine sag 1 hO ?_
 refine zcr (J01 body61 rfl (J0X hO.lt aE.u bg.u H)) fun _ w8 => e1 fun r7 => sc0 hO fun s hO => fun H => ?_
 refine scm H (fun h9 H => ?_) fun h9 H => ?_
 ·refine sal hO fun w10 B11 s hO => ?_
  refine sag 2 hO ?_
  refine zcr (J01 body22 rfl (J3X hO.lt aE.u bg.u H)) fun _ w14 => e4 fun r13 b7 b8 d7 => e1 fun d8 => sc0 hO fun s hO => d2 fun bQ cW H => ?_
  refine GoR.inl (vs := [.pointer (some ⟨B11, 0, none⟩), .agg (cDF r13 b7 b8 d7 d8)]) (caps := []) rfl rfl body62 func62 rfl ntmps62 rfl rfl rfl ?_
  intro RhR15 hR15
  refine sbx hO fun w16 B17 s hO => ?_
  refine sln0 ?_
  refine au ?_
  replace H := (H bQ.bd)
  obtain ⟨h19, H⟩ := H
  refine zo (J06 rfl rfl (wrap_i64 h19)) ?_
  refine scm H (fun h20 H => ?_) fun h20 H => ?_
  ·refine au ?_
   refine Go1.ret1V func62 rfl (show _ = .int .i64 (3 : Int) from rfl) ?_
   refine hR15 _ _ ?_
   refine au ?_
   refine zo (fun w => opB (J5K rfl rfl w) (ndF (by decide))) ?_
   refine au ?_
   refine zo (J0a underlying33 ti33 (pl := [(0, 1), (1, 1), (2, 1), (3, 1), (4, 1), (5, 1)]) (vs := []) (cs := #[.int .i64 (0 : Int), .slice none 0 0, .slice none 0 0, .slice none 0 0, .slice none 0 0, .slice none 0 0]) (by kernel_rfl) rfl (by kernel_rfl)) ?_
   refine sba 2 hO fun w21 s hO => ?_
   refine au ?_
   refine Go1.retC2 func19 rfl rfl (rlb 2 hO) ⟨((⟨(0 : Int), ([] : List (List Int)), ([] : List Str), ([] : List Int), ([] : List Bool), ([] : List Bool)⟩ : Syntactic)), _, _, _, _, _, _, _, _, _, _, _, er, frs, (ISl.null _ _ _), (ISl.null _ _ _), (ISl.null _ _ _), (ISl.null _ _ _), (ISl.null _ _ _), H⟩
  refine au ?_
  refine zo (fun w => opB (J2G underlying23 rfl rfl w) rfl) ?_
  refine au ?_
  obtain ⟨h29, H⟩ := H
  obtain ⟨h30, H⟩ := H
  have zz := t2makeS (m := r13.Letters) (e' := 3) Fl.i underlying23 ti31 hO h29 h30 (by decide)
  obtain ⟨w22, p23, EW, Vg, EX, hz32⟩ := zz
  refine zg (EX rfl rfl) ?_
  refine nst EW fun s hO => ?_
  refine sbs 2 hO fun w33 s hO => ?_
  refine au ?_
  refine zo (J0F underlying23 rfl (t2neq 0 hO rfl)) ?_
  refine au ?_
  refine sdr [4] hO fun s hO => ?_
  refine lv [0, 3, 5, 33] hO H (fun E (dI, fG) σ w => ∃ tP, (fun Z => Lo A w0 σ w [(34, .int .i64 (dI : Int))] Z ∧ ISb (bl Z ++ A) w b7 b8 r13.Final ∧ ISs (bl Z ++ A) w d7 d8 r13.Next) (E.set 0 (t2 Fl.i 31 3 p23 r13.Letters.toNat r13.Letters.toNat tP fG))) ⟨_, ⟨agr, hO, fr⟩, bQ.u, cW.u⟩ ?_
  refine fun X1 => p1 fun dI fG => fun H hX1 σ w34 hk => e1 fun tP => d1 fun hL => d1 fun bQ cW => d2 (fun hag hO hB => keep2 hk hag ?_) hL
  dsimp only [esets, sS, sZ] at hO hB bQ cW
  dsimp only at H
  revert hO; repeat (rename Owns .. => q; clear q)
  intro hO; repeat (rename Sq .. => q; clear q)
  refine scm H (fun h38 H => ?_) fun h38 H => ?_
  ·refine au ?_
   refine lv [0, 3, 5, 6, 33, 34, 37] hO H (fun E (k2_40, d_41) σ w => ∃ gF, (fun Z => Lo A w0 σ w [(38, .int .i64 (k2_40 : Int))] Z ∧ ISb (bl Z ++ A) w b7 b8 r13.Final ∧ ISs (bl Z ++ A) w d7 d8 r13.Next) (E.set 0 (t2 Fl.i 31 3 p23 r13.Letters.toNat r13.Letters.toNat gF d_41))) ⟨_, ⟨agr, hO, fr⟩, bQ, cW⟩ ?_
   refine fun X2 => p1 fun k2_40 d_41 => fun H hX2 σ w39 hk => e1 fun gF => d1 fun hL => d1 fun bQ cW => d2 (fun hag hO hB => keep2 hk hag ?_) hL
   dsimp only [esets, sS, sZ] at hO hB bQ cW
   dsimp only at H
   revert hO; repeat (rename Owns .. => q; clear q)
   intro hO; repeat (rename Sq .. => q; clear q)
   refine scm H (fun h43 H => ?_) fun h43 H => ?_
   ·refine au ?_
    refine Go1.drawT (ok := fun _ => True) Same.tr [26, 28] 29 (.qp 0 (.qp 1 (.qp 2 (.qp 4 (.qp 5 (.qp 6 (.qp 7 (.qs 8 (.qp 9 (.qp 10 (.qs 11 (.qp 12 (.qp 13 (.qp 14 (.qs 15 (.qp 16 (.qs 17 (.qp 18 (.qp 19 (.qs 20 (.qp 21 (.qp 22 (.qs 23 (.qp 24 (.alt 3 (.alt 25 (.alt 26 (.qp 27 (.alt 28 .nil .fin)) .fin) .fin) (.alt 25 (.alt 3 (.alt 26 (.qp 27 (.alt 28 .nil .fin)) .fin) (.alt 26 (.alt 3 (.qp 27 (.alt 28 .nil .fin)) .fin) .fin)) .fin)))))))))))))))))))))))))) mixed (by kernel_rfl) ?_
    intro w44 MX
    refine sm hO MX fun s hO => ?_
    refine sbl 2 ?_
    refine au ?_
    obtain ⟨h46, H⟩ := H
    obtain ⟨h47, H⟩ := H
    refine GoT.pure rfl (J0b underlying23 ti31 rfl rfl h46 (ltn (t2neq 0 hO rfl) h47) (t2some 0 hO rfl h46 h47)) rfl rfl ?_
    refine GoT.stable rfl (t2head 0 hO rfl h46 h47 underlying31 rfl rfl) rfl rfl ?_
    refine sbl 2 ?_
    refine sbl 1 ?_
    refine sxls hO cW.u H.1 H.2.1 fun p48 c49 gC => ?_
    refine sxl hO gC.u H.2.2.1 H.2.2.2.1 ?_
    have h51 := H.1
    have h52 := H.2.1
    have h53 := H.2.2.1
    have h54 := H.2.2.2.1
    replace H := H.2.2.2.2
    obtain ⟨h55, H⟩ := H
    refine GoT.pure rfl (J06 rfl rfl (wrap_i64 h55)) rfl rfl ?_
    refine GoT.both ?_ ?_
    ·skip
     skip
     refine sbl 2 ?_
     skip
     refine sbu Fl.i 3 [((0 : Int) + (ix (ix r13.Next (k2_40 : Int)) (dI : Int)))] hO fun w56 p57 s hO => ?_
     skip
     refine sfr 1 hO fun s hO => ?_
     have zz := t2take (hf := Fl.i) hO h46 h47
     obtain ⟨MY, oY, tT⟩ := zz
     refine nst oY fun s hO => ?_
     have M0 := tT (bl [.row 3 1 (gF (dI : Int).toNat).1 ((ix d_41 (dI : Int)).length) ((gF (dI : Int).toNat).2) MY, t2h Fl.i 31 3 p23 r13.Letters.toNat r13.Letters.toNat gF d_41 (dI : Int).toNat, t1 Fl.i 3 p57 1 1 [((0 : Int) + (ix (ix r13.Next (k2_40 : Int)) (dI : Int)))], .blk B17 (.cells (cDF r13 b7 b8 d7 d8) 25 (0, 0)), .blk B11 (.cells #[.slice p23 r13.Letters.toNat r13.Letters.toNat, .slice none 0 0, .int .i64 (0 : Int)] 83 (0, 0)), .blk B5 (.cells #[.int .i64 (0 : Int), .slice none 0 0, .slice none 0 0, .slice none 0 0, .slice none 0 0, .slice none 0 0] 33 (0, 0))] ++ A)
     refine sfz 2 hO fun s hO M1 M2 => ?_
     obtain ⟨h66, H⟩ := H
     have zz := oapp underlying31 ti3 rfl 0 hO rfl M0.u M1 M2 h66 (by decide)
     obtain ⟨w67, p68, c69, Vh, EY, AA, E0⟩ := zz
     dsimp only [sS, sZ] at AA
     refine GoT.stepX rfl (E0 (by exact rfl) (by exact rfl)) rfl rfl rfl ?_
     refine nst EY fun s hO => ?_
     obtain ⟨h75, H⟩ := H
     obtain ⟨h76, H⟩ := H
     refine GoT.pure rfl (J0b underlying23 ti31 rfl rfl h75 (ltn (t2neqH 1 hO rfl) h76) (t2someH 1 hO rfl h75 h76)) rfl rfl ?_
     skip
     refine sfr 1 hO fun s hO => ?_
     refine sfr 1 hO fun s hO => ?_
     have zz := t2fix (hf := Fl.i) hO AA.u h75 h76 rfl
     obtain ⟨w77, fU, oQ⟩ := zz
     refine GoT.stepX rfl (oQ underlying31 rfl ti31 (by exact rfl) (by exact rfl)) rfl rfl rfl ?_
     refine nst fU fun s hO => ?_
     refine sinc (natbd h43 bQ.bd) ?_
     refine au ?_
     exact hX2 _ H _ _ agr ⟨_, ⟨agr, hO, fr⟩, bQ.u, cW.u⟩
    skip
    refine sbu Fl.i 3 [((0 : Int) + (ix (ix r13.Next (k2_40 : Int)) (dI : Int)))] hO fun w80 p81 s hO => ?_
    refine GoT.both ?_ ?_
    ·skip
     skip
     refine sbl 3 ?_
     skip
     refine sfr 1 hO fun s hO => ?_
     have zz := t2take (hf := Fl.i) hO h46 h47
     obtain ⟨M3, E3, M4⟩ := zz
     refine nst E3 fun s hO => ?_
     have gG := M4 (bl [.row 3 1 (gF (dI : Int).toNat).1 ((ix d_41 (dI : Int)).length) ((gF (dI : Int).toNat).2) M3, t2h Fl.i 31 3 p23 r13.Letters.toNat r13.Letters.toNat gF d_41 (dI : Int).toNat, t1 Fl.i 3 p81 1 1 [((0 : Int) + (ix (ix r13.Next (k2_40 : Int)) (dI : Int)))], .blk B17 (.cells (cDF r13 b7 b8 d7 d8) 25 (0, 0)), .blk B11 (.cells #[.slice p23 r13.Letters.toNat r13.Letters.toNat, .slice none 0 0, .int .i64 (0 : Int)] 83 (0, 0)), .blk B5 (.cells #[.int .i64 (0 : Int), .slice none 0 0, .slice none 0 0, .slice none 0 0, .slice none 0 0, .slice none 0 0] 33 (0, 0))] ++ A)
     refine sfz 2 hO fun s hO M5 ve => ?_
     obtain ⟨h90, H⟩ := H
     have zz := oapp underlying31 ti3 rfl 0 hO rfl gG.u M5 ve h90 (by decide)
     obtain ⟨w91, p92, c93, Vi, E4, AB, E5⟩ := zz
     dsimp only [sS, sZ] at AB
     refine GoT.stepX rfl (E5 (by exact rfl) (by exact rfl)) rfl rfl rfl ?_
     refine nst E4 fun s hO => ?_
     obtain ⟨h99, H⟩ := H
     obtain ⟨mz, H⟩ := H
     refine GoT.pure rfl (J0b underlying23 ti31 rfl rfl h99 (ltn (t2neqH 1 hO rfl) mz) (t2someH 1 hO rfl h99 mz)) rfl rfl ?_
     skip
     refine sfr 1 hO fun s hO => ?_
     refine sfr 1 hO fun s hO => ?_
     have zz := t2fix (hf := Fl.i) hO AB.u h99 mz rfl
     obtain ⟨tG, AC, AD⟩ := zz
     refine GoT.stepX rfl (AD underlying31 rfl ti31 (by exact rfl) (by exact rfl)) rfl rfl rfl ?_
     refine nst AC fun s hO => ?_
     refine sinc (natbd h43 bQ.bd) ?_
     refine au ?_
     exact hX2 _ H _ _ agr ⟨_, ⟨agr, hO, fr⟩, bQ.u, cW.u⟩
    skip
    refine sfr 1 hO fun s hO => ?_
    have zz := t2take (hf := Fl.i) hO h46 h47
    obtain ⟨E6, AE, E7⟩ := zz
    refine nst AE fun s hO => ?_
    have E8 := E7 (bl [.row 3 1 (gF (dI : Int).toNat).1 ((ix d_41 (dI : Int)).length) ((gF (dI : Int).toNat).2) E6, t2h Fl.i 31 3 p23 r13.Letters.toNat r13.Letters.toNat gF d_41 (dI : Int).toNat, t1 Fl.i 3 p81 1 1 [((0 : Int) + (ix (ix r13.Next (k2_40 : Int)) (dI : Int)))], .blk B17 (.cells (cDF r13 b7 b8 d7 d8) 25 (0, 0)), .blk B11 (.cells #[.slice p23 r13.Letters.toNat r13.Letters.toNat, .slice none 0 0, .int .i64 (0 : Int)] 83 (0, 0)), .blk B5 (.cells #[.int .i64 (0 : Int), .slice none 0 0, .slice none 0 0, .slice none 0 0, .slice none 0 0, .slice none 0 0] 33 (0, 0))] ++ A)
    refine sfz 2 hO fun s hO E9 Fa => ?_
    obtain ⟨kD, H⟩ := H
    have zz := oapp underlying31 ti3 rfl 0 hO rfl E8.u E9 Fa kD (by decide)
    obtain ⟨M6, M7, M8, RA, AF, xS, AG⟩ := zz
    dsimp only [sS, sZ] at xS
    refine GoT.stepX rfl (AG (by exact rfl) (by exact rfl)) rfl rfl rfl ?_
    refine nst AF fun s hO => ?_
    skip
    refine sbl 3 ?_
    obtain ⟨vg, H⟩ := H
    obtain ⟨mO, H⟩ := H
    refine GoT.pure rfl (J0b underlying23 ti31 rfl rfl vg (ltn (t2neqH 1 hO rfl) mO) (t2someH 1 hO rfl vg mO)) rfl rfl ?_
    skip
    refine sfr 1 hO fun s hO => ?_
    refine sfr 1 hO fun s hO => ?_
    have zz := t2fix (hf := Fl.i) hO xS.u vg mO rfl
    obtain ⟨vh, AH, mq⟩ := zz
    refine GoT.stepX rfl (mq underlying31 rfl ti31 (by exact rfl) (by exact rfl)) rfl rfl rfl ?_
    refine nst AH fun s hO => ?_
    refine sinc (natbd h43 bQ.bd) ?_
    refine au ?_
    exact hX2 _ H _ _ agr ⟨_, ⟨agr, hO, fr⟩, bQ.u, cW.u⟩
   refine au ?_
   obtain ⟨M9, H⟩ := H
   refine zo (J06 rfl rfl (wrap_i64 M9)) ?_
   refine au ?_
   exact hX1 _ H _ _ agr ⟨_, ⟨agr, hO, fr⟩, bQ.u, cW.u⟩
  refine au ?_
  refine drs 4 [q0, q0, q0, q0, q1, q0, q0, q0, q1, q0, q1, q0, q0, q1, q0, q0, q0, q1, q0, q2, q3, q0, q0, q3] hO fun Vj s hO => ?_
  refine au ?_
  obtain ⟨Na, H⟩ := H
  refine GoQ.pure rfl (J06 rfl rfl (wrap_i64 Na)) rfl rfl ?_
  refine au ?_
  refine GoQ.pure rfl (J0a underlying120 ti120 (pl := [(0, 1), (1, 1), (2, 1)]) (vs := [(0, .int .i64 ((0 : Int) + r13.Start)), (1, .slice b7 r13.Final.length b8), (2, .int .i64 (0 : Int))]) (cs := #[.int .i64 ((0 : Int) + r13.Start), .slice b7 r13.Final.length b8, .int .i64 (0 : Int)]) (by kernel_rfl) rfl (by kernel_rfl)) rfl rfl ?_
  have zz := obuildN (r := rppart) (n := 1) (parts := [(0, .agg #[.int .i64 ((0 : Int) + r13.Start), .slice b7 r13.Final.length b8, .int .i64 (0 : Int)])]) (vs := [.int .i64 ((0 : Int) + r13.Start), .slice b7 r13.Final.length b8, .int .i64 (0 : Int)]) (xs := [(⟨((0 : Int) + r13.Start), r13.Final, (0 : Int)⟩ : part)]) underlying81 ti120 hO (by decide) (by decide) (by kernel_rfl) (Els.consR (us := [.int .i64 ((0 : Int) + r13.Start), .slice b7 r13.Final.length b8, .int .i64 (0 : Int)]) rfl ⟨rfl, ⟨b7, b8, rfl, bQ.u⟩, rfl⟩ (Els.nil _ _ _) (by simp [mx])) rfl
  obtain ⟨zc, Vk, AI, Fb, Fc, AJ⟩ := zz
  refine GoQ.loud rfl (AJ rfl) Fc rfl rfl ?_
  refine nst AI fun s hO => ?_
  refine sfzR 0 hO Fb fun s hO Fd pe => ?_
  have AK := Stp.nil (e := 120) (r := 3) hO
  refine nst AK fun s hO => ?_
  have Fe := elN (rppart) hO
  obtain ⟨Nb, H⟩ := H
  have zz := oapp underlying81 ti120 rfl 0 hO rfl Fe Fd.u pe Nb (by decide)
  obtain ⟨Mx, pS, pT, gS, AM, bS, AO⟩ := zz
  dsimp only [sS, sZ] at bS
  refine GoQ.last rfl (AO (by exact rfl) (by exact rfl)) rfl rfl ?_
  refine nst AM fun s hO => ?_
  refine sbs 3 hO fun My s hO => ?_
  refine au ?_
  obtain ⟨Nc, H⟩ := H
  refine zo (J06 rfl rfl (wrap_i64 Nc)) ?_
  refine sbs 3 hO fun yK s hO => ?_
  refine au ?_
  refine Go1.ret1V func62 rfl (show _ = .int .i64 (0 : Int) from rfl) ?_
  refine hR15 _ _ ?_
  refine au ?_
  refine zo (fun w => opB (J5K rfl rfl w) (ndT (by decide))) ?_
  refine au ?_
  refine GoR.inl (vs := [.pointer (some ⟨B11, 0, none⟩)]) (caps := []) rfl rfl body63 func63 rfl ntmps63 rfl rfl rfl ?_
  intro RhR152 hR152
  refine sal hO fun yL B154 s hO => ?_
  refine au ?_
  refine sfz2 2 hO fun s hO cJ xT => ?_
  refine zcr (J01 body101 (by rw [xT]; exact rfl) (J4a hO.lt cJ H)) fun _ K4 => e4 fun r158 r159 dP dQ => e4 fun dx dy dg dh => e4 fun dR dS dz dA => e2 fun dB dC => sc0 hO fun s hO => d1 fun am => d1 fun af => d4 fun ag ai ae ak H => ?_
  refine sal hO fun Nd B162 s hO => ?_
  refine sba 0 hO fun ph s hO => ?_
  refine scm H (fun vi H => ?_) fun vi H => ?_
  ·refine sln0 ?_
   refine scm (H af.bd) (fun oI H => ?_) fun oI H => ?_
   ·refine au ?_
    refine zo (J0a underlying33 ti33 (pl := [(0, 1), (1, 1), (2, 1), (3, 1), (4, 1), (5, 1)]) (vs := []) (cs := #[.int .i64 (0 : Int), .slice none 0 0, .slice none 0 0, .slice none 0 0, .slice none 0 0, .slice none 0 0]) (by kernel_rfl) rfl (by kernel_rfl)) ?_
    refine sba 1 hO fun yN s hO => ?_
    refine au ?_
    refine Go1.retC3V func63 rfl rfl (rlb 1 hO) (show _ = .slice none 0 0 from rfl) (show _ = .int .i64 (3 : Int) from rfl) ?_
    refine hR152 _ _ ?_
    refine sal hO fun ug B169 s hO => ?_
    refine sba 0 hO fun tI s hO => ?_
    refine au ?_
    refine zo (fun w => opB (J5K rfl rfl w) (ndF (by decide))) ?_
    refine au ?_
    refine zo (J0a underlying33 ti33 (pl := [(0, 1), (1, 1), (2, 1), (3, 1), (4, 1), (5, 1)]) (vs := []) (cs := #[.int .i64 (0 : Int), .slice none 0 0, .slice none 0 0, .slice none 0 0, .slice none 0 0, .slice none 0 0]) (by kernel_rfl) rfl (by kernel_rfl)) ?_
    refine sba 6 hO fun zA s hO => ?_
    refine au ?_
    refine Go1.retC2 func19 rfl rfl (rlb 6 hO) ⟨((⟨(0 : Int), ([] : List (List Int)), ([] : List Str), ([] : List Int), ([] : List Bool), ([] : List Bool)⟩ : Syntactic)), _, _, _, _, _, _, _, _, _, _, _, er, frs, (ISl.null _ _ _), (ISl.null _ _ _), (ISl.null _ _ _), (ISl.null _ _ _), (ISl.null _ _ _), H⟩
   refine au ?_
   refine drA Same.tr 1 [(0, m0), (1, m0), (2, m0), (3, m1), (4, m0), (5, m0), (7, m0), (9, m0), (10, m1), (11, m0), (12, m1), (14, m0), (13, m2), (6, m4), (8, m4), (15, m4), (16, m0), (17, m4), (18, m3)] hO fun pU s hO => ?_
   have lL := hO.le
   have hw175 := (fr : Fr (bl []) w0 _ pU).ch.size
   refine au ?_
   refine au ?_
   refine au ?_
   refine sbl 4 ?_
   refine slnN xT ?_
   refine au ?_
   refine au ?_
   refine au ?_
   refine sbl 0 ?_
   refine sxls hO ae.u (H cJ.bd).1 (H cJ.bd).2.1 fun Vl Vm Ff => ?_
   refine au ?_
   refine GoQA.loudI rfl rfl fun LB A180 Fg => ?_
   refine sgw Fg hO fun s hO => ?_
   have Vn := (H cJ.bd).1
   have Vo := (H cJ.bd).2.1
   refine GoAt.call (J01 body86 rfl (J0t hO.lt Ff.u (H cJ.bd).2.2)) (fun _ _ hr => ⟨fun _ => saq hr, Same.kp hO (saq hr)⟩) rfl fun _ yQ => e4 fun r182 jV iM iN => sA1 hO fun s hO => fun H => ?_
   obtain ⟨tL, H⟩ := H
   obtain ⟨Nf, H⟩ := H
   refine GoQA.alloc rfl rfl (alMake2 (e' := 3) Fl.i underlying23 ti31 tL Nf (by decide) rfl rfl) ?_
   intro Ng A190 g6 A192 pV Fh hd195 hnb196 hh197
   refine sgw pV hO fun s hO => ?_
   refine sgn (e := t2 Fl.i 31 3 (some ⟨g6, 0, none⟩) r158.Elems.length r158.Elems.length ((fun _ => (none, 0))) (List.replicate r158.Elems.length ([] : List Int))) Fh hO lL hw175 hnb196 (J6O g6) hh197 hd195 (fr : Fr (bl []) w0 _ Ng) fun s hO hB => ?_
   obtain ⟨Nh, H⟩ := H
   obtain ⟨AP, H⟩ := H
   have zz := alMakeE (n := (r158.Elems.length : Int)) (r := Rp.str) (d := ([] : Str)) underlying30 ti9 (fun _ _ => ⟨rfl, Nat.zero_le _⟩) rfl Nh AP (by decide)
   obtain ⟨xU, hal214, Fi⟩ := zz
   refine GoQA.alloc rfl rfl (hal214 rfl rfl) ?_
   intro AQ A202 kK A204 pW pX hd207 hnb208 hh209
   refine sgw pW hO fun s hO => ?_
   have pY := Fi (bl [t2 Fl.i 31 3 (some ⟨g6, 0, none⟩) r158.Elems.length r158.Elems.length ((fun _ => (none, 0))) (List.replicate r158.Elems.length ([] : List Int)), t1 Fl.i 3 iM jV iN r182, .blk B162 (.cells #[.int .i64 r158.Points, .bool r158.Monoid, .slice dP r158.Gens.length dQ, .slice dx r158.Elems.length dy, .slice dg r158.Prefix.length dh, .slice dR r158.Last.length dS, .slice dz r158.Right.length dA, .slice dB r158.Rules.length dC, .int .i64 r158.Done] 123 (0, 0)), .blk B154 (.cells #[.int .i64 (0 : Int), .slice none 0 0, .slice none 0 0, .slice none 0 0, .slice none 0 0, .slice none 0 0] 33 (0, 0)), .row 120 3 pS (0 + 1) pT gS, .blk B17 (.cells (cDF r13 b7 b8 d7 d8) 25 (0, 0)), .blk B11 (.cells #[.slice p23 r13.Letters.toNat r13.Letters.toNat, .slice pS (0 + 1) pT, .int .i64 ((0 : Int) + (r13.Final.length : Int))] 83 (0, 0)), .blk B5 (.cells #[.int .i64 (0 : Int), .slice none 0 0, .slice none 0 0, .slice none 0 0, .slice none 0 0, .slice none 0 0] 33 (0, 0))] ++ A202) AQ
   refine sgn (e := .row 9 1 (some ⟨kK, 0, none⟩) r158.Elems.length r158.Elems.length xU) pX hO lL hw175 hnb208 rfl hh209 hd207 (fr : Fr (bl []) w0 _ AQ) fun s hO hB => ?_
   replace pY := pY.ch s.ch
   refine cl1 Fl.str 0 hO pY.u fun s hO => ?_
   obtain ⟨vj, H⟩ := H
   obtain ⟨Ni, H⟩ := H
   have zz := alMakeE (n := (r158.Elems.length : Int)) (r := Rp.bool) (d := false) underlying22 ti4 (fun _ _ => rfl) rfl vj Ni (by decide)
   obtain ⟨Fj, hal230, Fk⟩ := zz
   refine GoQA.alloc rfl rfl (hal230 rfl rfl) ?_
   intro pk A218 kM A220 Fm Fo hd223 hnb224 hh225
   refine sgw Fm hO fun s hO => ?_
   have qa := Fk (bl [t1 Fl.str 9 (some ⟨kK, 0, none⟩) r158.Elems.length r158.Elems.length (List.replicate r158.Elems.length (([] : Str))), t2 Fl.i 31 3 (some ⟨g6, 0, none⟩) r158.Elems.length r158.Elems.length ((fun _ => (none, 0))) (List.replicate r158.Elems.length ([] : List Int)), t1 Fl.i 3 iM jV iN r182, .blk B162 (.cells #[.int .i64 r158.Points, .bool r158.Monoid, .slice dP r158.Gens.length dQ, .slice dx r158.Elems.length dy, .slice dg r158.Prefix.length dh, .slice dR r158.Last.length dS, .slice dz r158.Right.length dA, .slice dB r158.Rules.length dC, .int .i64 r158.Done] 123 (0, 0)), .blk B154 (.cells #[.int .i64 (0 : Int), .slice none 0 0, .slice none 0 0, .slice none 0 0, .slice none 0 0, .slice none 0 0] 33 (0, 0)), .row 120 3 pS (0 + 1) pT gS, .blk B17 (.cells (cDF r13 b7 b8 d7 d8) 25 (0, 0)), .blk B11 (.cells #[.slice p23 r13.Letters.toNat r13.Letters.toNat, .slice pS (0 + 1) pT, .int .i64 ((0 : Int) + (r13.Final.length : Int))] 83 (0, 0)), .blk B5 (.cells #[.int .i64 (0 : Int), .slice none 0 0, .slice none 0 0, .slice none 0 0, .slice none 0 0, .slice none 0 0] 33 (0, 0))] ++ A218) pk
   refine sgn (e := .row 4 1 (some ⟨kM, 0, none⟩) r158.Elems.length r158.Elems.length Fj) Fo hO lL hw175 hnb224 rfl hh225 hd223 (fr : Fr (bl []) w0 _ pk) fun s hO hB => ?_
   replace qa := qa.ch s.ch
   refine cl1 Fl.bool 0 hO qa.u fun s hO => ?_
   refine GoQA.pure rfl (J0a underlying33 ti33 (pl := [(0, 1), (1, 1), (2, 1), (3, 1), (4, 1), (5, 1)]) (vs := [(0, .int .i64 (fG.length : Int)), (1, .slice (some ⟨g6, 0, none⟩) r158.Elems.length r158.Elems.length), (2, .slice (some ⟨kK, 0, none⟩) r158.Elems.length r158.Elems.length), (3, .slice iM jV iN), (5, .slice (some ⟨kM, 0, none⟩) r158.Elems.length r158.Elems.length)]) (cs := #[.int .i64 (fG.length : Int), .slice (some ⟨g6, 0, none⟩) r158.Elems.length r158.Elems.length, .slice (some ⟨kK, 0, none⟩) r158.Elems.length r158.Elems.length, .slice iM jV iN, .slice none 0 0, .slice (some ⟨kM, 0, none⟩) r158.Elems.length r158.Elems.length]) (by kernel_rfl) rfl (by kernel_rfl)) rfl rfl ?_
   refine GoQA.alloc rfl rfl (alAlloc (cs := #[.int .i64 (0 : Int), .slice none 0 0, .slice none 0 0, .slice none 0 0, .slice none 0 0, .slice none 0 0]) ti33 rfl) ?_
   intro AR A234 Nj A236 Fp Fq hd239 hnb240 hh241
   refine sgw Fp hO fun s hO => ?_
   refine sgn (e := .blk Nj (.cells #[.int .i64 (0 : Int), .slice none 0 0, .slice none 0 0, .slice none 0 0, .slice none 0 0, .slice none 0 0] 33 (0, 0))) Fq hO lL hw175 hnb240 rfl hh241 hd239 (fr : Fr (bl []) w0 _ AR) fun s hO hB => ?_
   refine GoQA.lastI rfl rfl fun AT A243 Fs => ?_
   refine sgw Fs hO fun s hO => ?_
   refine sba 0 hO fun Nk s hO => ?_
   refine GoQA.nil fun AU A247 Ft Fu => ?_
   refine sgw Ft hO fun s hO => ?_
   refine spm Fu hO fun s hO => ?_
   refine au ?_
   have hB := (fr : Fr (bl []) w0 _ AU)
   replace bS := bS.o hO
   replace af := af.o hO
   replace am := am.o hO
   replace ai := ai.o hO
   replace ag := ag.o hO
   replace ae := ae.o hO
   replace ak := ak.o hO
   replace cJ := cJ.o hO
   revert hO; repeat (rename Owns .. => q; clear q)
   intro hO; repeat (rename Sq .. => q; clear q)
   refine au ?_
   refine sdr [8] hO fun s hO => ?_
   refine lv [0, 2, 5, 7, 8] hO H (fun E (iO, d_252, lM) σ w => (fun Z => Lo A w0 σ w [(9, .int .i64 (iO : Int))] Z ∧ Els (rppart) (bl Z ++ A) w gS ((([] : List part)) ++ ([(⟨((0 : Int) + r13.Start), r13.Final, (0 : Int)⟩ : part)])) ∧ ISs (bl Z ++ A) w p23 r13.Letters.toNat fG ∧ ISs (bl Z ++ A) w dP dQ r158.Gens ∧ ISs (bl Z ++ A) w dx dy r158.Elems ∧ ISi (bl Z ++ A) w dg dh r158.Prefix ∧ ISi (bl Z ++ A) w dR dS r158.Last ∧ ISs (bl Z ++ A) w dz dA r158.Right ∧ ISl (rpRule) (bl Z ++ A) w dB dC r158.Rules) (esets E [(1, t1 Fl.bool 4 (some ⟨kM, 0, none⟩) r158.Elems.length r158.Elems.length d_252), (2, t1 Fl.str 9 (some ⟨kK, 0, none⟩) r158.Elems.length r158.Elems.length lM)])) ⟨⟨agr, hO, fr⟩, bS.u, cJ.u, am.u, af.u, ag.u, ai.u, ae.u, ak.u⟩ ?_
   refine fun X3 => p2 fun iO d_252 lM => fun H hX3 σ AV hk => d1 fun hL => d1 fun bS => d1 fun cJ => d1 fun am => d4 fun af ag ai ae ak => d2 (fun hag hO hB => keep2 hk hag ?_) hL
   dsimp only [esets, sS, sZ] at hO hB bS cJ am af ag ai ae ak
   dsimp only at H
   revert hO; repeat (rename Owns .. => q; clear q)
   intro hO; repeat (rename Sq .. => q; clear q)
   refine scm H (fun AW H => ?_) fun AW H => ?_
   ·refine au ?_
    refine drs 1 [q0, q1, q0, q0, q1, q0, q1, q0, q0, q1, q0, q1, q0, q1, q0, q0, q1, q0, q0, q2, q1, q0, q0, q3] hO fun vk s hO => ?_
    refine sxl hO ag.u H.1 H.2.1 ?_
    refine sxl1 2 hO H.2.2.1 H.2.2.2.1 ?_
    have hle256 := t1le 2 hO H.2.2.1 H.2.2.2.1
    refine sxl hO ai.u H.2.2.2.2.1 H.2.2.2.2.2.1 ?_
    have mP := H.1
    have Nl := H.2.1
    have Vp := H.2.2.1
    have Vq := H.2.2.2.1
    have Vr := H.2.2.2.2.1
    have Vt := H.2.2.2.2.2.1
    replace H := H.2.2.2.2.2.2
    obtain ⟨vm, H⟩ := H
    refine GoQ.pure rfl (J06 rfl rfl (wrap_i64 vm)) rfl rfl ?_
    refine GoQ.pure rfl (J3o underlying3 underlying5 rfl rfl) rfl rfl ?_
    refine sbu (Fl.int .u8) 5 [(IntKind.u8.wrap ((97 : Int) + (ix r158.Last (iO : Int))))] hO fun Nm Nn s hO => ?_
    refine op1 0 hO fun lK s hO fo => ?_
    have hle269 := J0v fo.bd
    refine GoQ.stable rfl (oldBytes 0 hO rfl fo.u underlying126 underlying5 underlying9 rfl) rfl rfl ?_
    obtain ⟨AX, H⟩ := H
    refine GoQ.pure rfl (J0d rfl rfl AX) rfl rfl ?_
    refine six1 3 hO H.1 H.2.1 ?_
    refine sst (u := ((ix lM (ix r158.Prefix (iO : Int))) ++ (byt ([(IntKind.u8.wrap ((97 : Int) + (ix r158.Last (iO : Int))))])))) 3 hO H.1 H.2.1 (fun Np s hO => ?_) (hR := by exact fun _ _ => ⟨rfl, (lenApp AX)⟩)
    refine six1 2 hO H.2.2.1 H.2.2.2.1 ?_
    refine sst (u := true) 2 hO H.2.2.1 H.2.2.2.1 fun Vu s hO => ?_
    refine sinc (natbd AW af.bd) ?_
    refine au ?_
    refine cl1 (Fl.int .u8) 0 hO fo.u fun s hO => ?_
    refine sdr [0] hO fun s hO => ?_
    exact hX3 _ H.2.2.2.2 _ _ agr ⟨⟨agr, hO, fr⟩, bS.u, cJ.u, am.u, af.u, ag.u, ai.u, ae.u, ak.u⟩
   refine sln0 ?_
   refine au ?_
   refine lv [0, 2, 5, 7, 8, 86, 87] hO (H ae.bd) (fun E (eF, d_275, qb) σ w => ∃ lN, (fun Z => Lo A w0 σ w [(88, .int .i64 (eF : Int))] Z ∧ Els (rppart) (bl Z ++ A) w gS ((([] : List part)) ++ ([(⟨((0 : Int) + r13.Start), r13.Final, (0 : Int)⟩ : part)])) ∧ ISs (bl Z ++ A) w p23 r13.Letters.toNat fG ∧ ISs (bl Z ++ A) w dP dQ r158.Gens ∧ ISs (bl Z ++ A) w dx dy r158.Elems ∧ ISi (bl Z ++ A) w dg dh r158.Prefix ∧ ISi (bl Z ++ A) w dR dS r158.Last ∧ ISs (bl Z ++ A) w dz dA r158.Right ∧ ISl (rpRule) (bl Z ++ A) w dB dC r158.Rules) (esets E [(1, t1 Fl.bool 4 (some ⟨kM, 0, none⟩) r158.Elems.length r158.Elems.length d_275), (3, t2 Fl.i 31 3 (some ⟨g6, 0, none⟩) r158.Elems.length r158.Elems.length lN qb)])) ⟨_, ⟨agr, hO, fr⟩, bS.u, cJ.u, am.u, af.u, ag.u, ai.u, ae.u, ak.u⟩ ?_
   refine fun X4 => p2 fun eF d_275 qb => fun H hX4 σ Nq hk => e1 fun lN => d1 fun hL => d1 fun bS => d1 fun cJ => d1 fun am => d4 fun af ag ai ae ak => d2 (fun hag hO hB => keep2 hk hag ?_) hL
   dsimp only [esets, sS, sZ] at hO hB bS cJ am af ag ai ae ak
   dsimp only at H
   revert hO; repeat (rename Owns .. => q; clear q)
   intro hO; repeat (rename Sq .. => q; clear q)
   refine scm H (fun vn H => ?_) fun vn H => ?_
   ·refine sxls hO ae H.1 H.2.1 fun Vv Vw qc => ?_
    refine au ?_
    refine drs 1 [q0, q1, q0, q1, q0, q1, q0, q0, q2, q0, q0, q3] hO fun Vx s hO => ?_
    refine au ?_
    have Vy := H.1
    have AY := H.2.1
    have Vz := H.2.2.1
    have gD := H.2.2.2.1
    refine sxb1 1 hO H.2.2.1 H.2.2.2.1 H.2.2.2.2 (fun qd H => ?_) fun qd H => ?_
    ·refine six1 1 hO H.1 H.2.1 ?_
     refine sst (u := true) 1 hO H.1 H.2.1 fun vo s hO => ?_
     refine au ?_
     refine drs 1 [q0, q1, q0, q0, q2, q0, q3] hO fun zO s hO => ?_
     refine smk Fl.i H.2.2 hO fun VA Nr s hO => ?_
     have VB := H.1
     have Nt := H.2.1
     replace H := H.2.2.2.2
     obtain ⟨qe, H⟩ := H
     obtain ⟨iP, H⟩ := H
     refine GoQ.pure rfl (J0b underlying23 ti31 rfl rfl qe (ltn (t2neq 4 hO rfl) iP) (t2some 4 hO rfl qe iP)) rfl rfl ?_
     refine op1 0 hO fun RB s hO Fv => ?_
     refine sfr 4 hO fun s hO => ?_
     refine sfr 1 hO fun s hO => ?_
     have zz := t2put (hf := Fl.i) hO Fv.u qe iP
     obtain ⟨zQ, A4, A5⟩ := zz
     refine GoQ.last rfl (A5 underlying31 rfl ti31 (by exact rfl) (by exact rfl)) rfl rfl ?_
     refine nst A4 fun s hO => ?_
     refine au ?_
     obtain ⟨mQ, H⟩ := H
     obtain ⟨mS, H⟩ := H
     refine zo (J0b underlying23 ti31 rfl rfl mQ (ltn (t2neq 0 hO rfl) mS) (t2some 0 hO rfl mQ mS)) ?_
     refine zs (t2head 0 hO rfl mQ mS underlying31 rfl rfl) ?_
     refine au ?_
     obtain ⟨qf, H⟩ := H
     obtain ⟨qg, H⟩ := H
     refine zo (J0b underlying31 ti3 rfl rfl qf qg (t2isome 0 hO rfl mQ mS qf qg)) ?_
     have zz := t2st (r := Rp.int .i64) (hf := Fl.i) rfl 0 hO rfl mQ mS qf qg (v := .int .i64 (eF : Int)) (u := (eF : Int)) rfl rfl
     obtain ⟨VC, A6, A7⟩ := zz
     refine zg (A7 underlying3 rfl ti3 (by exact rfl) (by exact rfl)) ?_
     refine nst A6 fun s hO => ?_
     refine au ?_
     refine lv [0, 2, 5, 7, 8, 10, 86, 87, 88] hO H (fun E (g8, d_311) σ w => (fun Z => Lo A w0 σ w [(12, .int .i64 (g8 : Int))] Z ∧ Els (rppart) (bl Z ++ A) w gS ((([] : List part)) ++ ([(⟨((0 : Int) + r13.Start), r13.Final, (0 : Int)⟩ : part)])) ∧ ISs (bl Z ++ A) w p23 r13.Letters.toNat fG ∧ ISs (bl Z ++ A) w dP dQ r158.Gens ∧ ISs (bl Z ++ A) w dx dy r158.Elems ∧ ISi (bl Z ++ A) w dg dh r158.Prefix ∧ ISi (bl Z ++ A) w dR dS r158.Last ∧ ISs (bl Z ++ A) w dz dA r158.Right ∧ ISl (rpRule) (bl Z ++ A) w dB dC r158.Rules) (E.set 0 (t2 Fl.i 31 3 (some ⟨g6, 0, none⟩) r158.Elems.length r158.Elems.length (hup lN (eF : Int).toNat (Nr, r158.Elems.length)) d_311))) ⟨⟨agr, hO, fr⟩, bS.u, cJ.u, am.u, af.u, ag.u, ai.u, ae.u, ak.u⟩ ?_
     refine fun X5 => p1 fun g8 d_311 => fun H hX5 σ Nu hk => d1 fun hL => d1 fun bS => d1 fun cJ => d1 fun am => d4 fun af ag ai ae ak => d2 (fun hag hO hB => keep2 hk hag ?_) hL
     dsimp only [esets, sS, sZ] at hO hB bS cJ am af ag ai ae ak
     dsimp only at H
     revert hO; repeat (rename Owns .. => q; clear q)
     intro hO; repeat (rename Sq .. => q; clear q)
     refine scm H (fun qh H => ?_) fun qh H => ?_
     ·refine au ?_
      refine drs 1 [q0, q1, q0, q0, q1, q0, q0, q1, q0, q1, q0, q0, q1, q0, q1, q0, q0, q1, q0, q1, q0, q1, q0, q1, q0, q0, q1, q0, q1, q0, q3] hO fun pD s hO => ?_
      refine au ?_
      obtain ⟨mT, H⟩ := H
      obtain ⟨mU, H⟩ := H
      refine GoQ.pure rfl (J0b underlying23 ti31 rfl rfl mT (ltn (t2neq 0 hO rfl) mU) (t2some 0 hO rfl mT mU)) rfl rfl ?_
      refine GoQ.stable rfl (t2head 0 hO rfl mT mU underlying31 rfl rfl) rfl rfl ?_
      refine au ?_
      obtain ⟨mV, H⟩ := H
      obtain ⟨mW, H⟩ := H
      refine GoQ.pure rfl (J0b underlying23 ti31 rfl rfl mV (ltn (t2neq 0 hO rfl) mW) (t2some 0 hO rfl mV mW)) rfl rfl ?_
      refine GoQ.stable rfl (t2head 0 hO rfl mV mW underlying31 rfl rfl) rfl rfl ?_
      refine sxl hO ag.u H.1 H.2.1 ?_
      have VD := H.1
      have VE := H.2.1
      replace H := H.2.2
      obtain ⟨vr, H⟩ := H
      obtain ⟨vu, H⟩ := H
      refine GoQ.pure rfl (J0b underlying31 ti3 rfl rfl vr vu (t2isome 0 hO rfl mV mW vr vu)) rfl rfl ?_
      refine GoQ.stable rfl (t2Int 0 hO rfl mV mW vr vu underlying3 rfl rfl) rfl rfl ?_
      refine sxls hO ae.u H.1 H.2.1 fun VG VH Fw => ?_
      refine sxl hO ai.u H.2.2.1 H.2.2.2.1 ?_
      refine sxl hO Fw.u H.2.2.2.2.1 H.2.2.2.2.2.1 ?_
      have VI := H.1
      have A8 := H.2.1
      have VJ := H.2.2.1
      have Nv := H.2.2.2.1
      have Nw := H.2.2.2.2.1
      have VK := H.2.2.2.2.2.1
      replace H := H.2.2.2.2.2.2
      obtain ⟨mX, H⟩ := H
      obtain ⟨vw, H⟩ := H
      refine GoQ.pure rfl (J0b underlying31 ti3 rfl rfl mX vw (t2isome 0 hO rfl mT mU mX vw)) rfl rfl ?_
      have zz := t2st (r := Rp.int .i64) (hf := Fl.i) rfl 0 hO rfl mT mU mX vw (v := .int .i64 (ix (ix r158.Right (ix (ix d_311 (eF : Int)) (ix r158.Prefix (g8 : Int)))) (ix r158.Last (g8 : Int)))) (u := (ix (ix r158.Right (ix (ix d_311 (eF : Int)) (ix r158.Prefix (g8 : Int)))) (ix r158.Last (g8 : Int)))) rfl rfl
      obtain ⟨A9, Ba, Bb⟩ := zz
      refine GoQ.last rfl (Bb underlying3 rfl ti3 (by exact rfl) (by exact rfl)) rfl rfl ?_
      refine nst Ba fun s hO => ?_
      refine sinc (natbd qh af.bd) ?_
      refine au ?_
      exact hX5 _ H _ _ agr ⟨⟨agr, hO, fr⟩, bS.u, cJ.u, am.u, af.u, ag.u, ai.u, ae.u, ak.u⟩
     refine sinc (natbd vn ae.bd) ?_
     refine au ?_
     refine sfr 9 hO fun s hO => ?_
     refine sfr 9 hO fun s hO => ?_
     refine sfr 9 hO fun s hO => ?_
     refine sfr 9 hO fun s hO => ?_
     refine sfr 9 hO fun s hO => ?_
     refine sfr 9 hO fun s hO => ?_
     refine sfr 6 hO fun s hO => ?_
     refine sfr 9 hO fun s hO => ?_
     refine sfr 9 hO fun s hO => ?_
     refine sfr 9 hO fun s hO => ?_
     exact hX4 _ H _ _ agr ⟨_, ⟨agr, hO, fr⟩, bS.u, cJ.u, am.u, af.u, ag.u, ai.u, ae.u, ak.u⟩
    refine au ?_
    refine zcq rfl (J01 body102 rfl (J35 hO.lt qc.u H)) fun _ Bc => e1 fun r336 => sq0 hO fun s hO => fun H => ?_
    refine six1 1 hO H.1 H.2.1 ?_
    refine sst (u := r336) 1 hO H.1 H.2.1 fun VL s hO => ?_
    refine au ?_
    refine drs 1 [q0, q1, q0, q0, q2, q0, q3] hO fun zY s hO => ?_
    refine smk Fl.i H.2.2 hO fun z3 z4 s hO => ?_
    have VM := H.1
    have VN := H.2.1
    replace H := H.2.2.2.2
    obtain ⟨vy, H⟩ := H
    obtain ⟨mY, H⟩ := H
    refine GoQ.pure rfl (J0b underlying23 ti31 rfl rfl vy (ltn (t2neq 4 hO rfl) mY) (t2some 4 hO rfl vy mY)) rfl rfl ?_
    refine op1 0 hO fun RD s hO Fx => ?_
    refine sfr 4 hO fun s hO => ?_
    refine sfr 1 hO fun s hO => ?_
    have zz := t2put (hf := Fl.i) hO Fx.u vy mY
    obtain ⟨VO, Bd, Be⟩ := zz
    refine GoQ.last rfl (Be underlying31 rfl ti31 (by exact rfl) (by exact rfl)) rfl rfl ?_
    refine nst Bd fun s hO => ?_
    refine au ?_
    obtain ⟨kN, H⟩ := H
    obtain ⟨jz, H⟩ := H
    refine zo (J0b underlying23 ti31 rfl rfl kN (ltn (t2neq 0 hO rfl) jz) (t2some 0 hO rfl kN jz)) ?_
    refine zs (t2head 0 hO rfl kN jz underlying31 rfl rfl) ?_
    refine au ?_
    obtain ⟨vz, H⟩ := H
    obtain ⟨vA, H⟩ := H
    refine zo (J0b underlying31 ti3 rfl rfl vz vA (t2isome 0 hO rfl kN jz vz vA)) ?_
    have zz := t2st (r := Rp.int .i64) (hf := Fl.i) rfl 0 hO rfl kN jz vz vA (v := .int .i64 (eF : Int)) (u := (eF : Int)) rfl rfl
    obtain ⟨Ny, Bf, Bg⟩ := zz
    refine zg (Bg underlying3 rfl ti3 (by exact rfl) (by exact rfl)) ?_
    refine nst Bf fun s hO => ?_
    refine au ?_
    refine lv [0, 2, 5, 7, 8, 10, 86, 87, 88] hO H (fun E (g9, lO) σ w => (fun Z => Lo A w0 σ w [(12, .int .i64 (g9 : Int))] Z ∧ Els (rppart) (bl Z ++ A) w gS ((([] : List part)) ++ ([(⟨((0 : Int) + r13.Start), r13.Final, (0 : Int)⟩ : part)])) ∧ ISs (bl Z ++ A) w p23 r13.Letters.toNat fG ∧ ISs (bl Z ++ A) w dP dQ r158.Gens ∧ ISs (bl Z ++ A) w dx dy r158.Elems ∧ ISi (bl Z ++ A) w dg dh r158.Prefix ∧ ISi (bl Z ++ A) w dR dS r158.Last ∧ ISs (bl Z ++ A) w dz dA r158.Right ∧ ISl (rpRule) (bl Z ++ A) w dB dC r158.Rules) (E.set 0 (t2 Fl.i 31 3 (some ⟨g6, 0, none⟩) r158.Elems.length r158.Elems.length (hup lN (eF : Int).toNat (z4, r158.Elems.length)) lO))) ⟨⟨agr, hO, fr⟩, bS.u, cJ.u, am.u, af.u, ag.u, ai.u, ae.u, ak.u⟩ ?_
    refine fun X6 => p1 fun g9 lO => fun H hX6 σ VP hk => d1 fun hL => d1 fun bS => d1 fun cJ => d1 fun am => d4 fun af ag ai ae ak => d2 (fun hag hO hB => keep2 hk hag ?_) hL
    dsimp only [esets, sS, sZ] at hO hB bS cJ am af ag ai ae ak
    dsimp only at H
    revert hO; repeat (rename Owns .. => q; clear q)
    intro hO; repeat (rename Sq .. => q; clear q)
    refine scm H (fun Bi H => ?_) fun Bi H => ?_
    ·refine au ?_
     refine drs 1 [q0, q1, q0, q0, q1, q0, q0, q1, q0, q1, q0, q0, q1, q0, q1, q0, q0, q1, q0, q1, q0, q1, q0, q1, q0, q0, q1, q0, q1, q0, q3] hO fun VQ s hO => ?_
     refine au ?_
     obtain ⟨m6, H⟩ := H
     obtain ⟨m7, H⟩ := H
     refine GoQ.pure rfl (J0b underlying23 ti31 rfl rfl m6 (ltn (t2neq 0 hO rfl) m7) (t2some 0 hO rfl m6 m7)) rfl rfl ?_
     refine GoQ.stable rfl (t2head 0 hO rfl m6 m7 underlying31 rfl rfl) rfl rfl ?_
     refine au ?_
     obtain ⟨m8, H⟩ := H
     obtain ⟨m9, H⟩ := H
     refine GoQ.pure rfl (J0b underlying23 ti31 rfl rfl m8 (ltn (t2neq 0 hO rfl) m9) (t2some 0 hO rfl m8 m9)) rfl rfl ?_
     refine GoQ.stable rfl (t2head 0 hO rfl m8 m9 underlying31 rfl rfl) rfl rfl ?_
     refine sxl hO ag.u H.1 H.2.1 ?_
     have VR := H.1
     have VU := H.2.1
     replace H := H.2.2
     obtain ⟨vB, H⟩ := H
     obtain ⟨vC, H⟩ := H
     refine GoQ.pure rfl (J0b underlying31 ti3 rfl rfl vB vC (t2isome 0 hO rfl m8 m9 vB vC)) rfl rfl ?_
     refine GoQ.stable rfl (t2Int 0 hO rfl m8 m9 vB vC underlying3 rfl rfl) rfl rfl ?_
     refine sxls hO ae.u H.1 H.2.1 fun VV VW Fy => ?_
     refine sxl hO ai.u H.2.2.1 H.2.2.2.1 ?_
     refine sxl hO Fy.u H.2.2.2.2.1 H.2.2.2.2.2.1 ?_
     have VX := H.1
     have qi := H.2.1
     have VY := H.2.2.1
     have V0 := H.2.2.2.1
     have V1 := H.2.2.2.2.1
     have V2 := H.2.2.2.2.2.1
     replace H := H.2.2.2.2.2.2
     obtain ⟨vD, H⟩ := H
     obtain ⟨vE, H⟩ := H
     refine GoQ.pure rfl (J0b underlying31 ti3 rfl rfl vD vE (t2isome 0 hO rfl m6 m7 vD vE)) rfl rfl ?_
     have zz := t2st (r := Rp.int .i64) (hf := Fl.i) rfl 0 hO rfl m6 m7 vD vE (v := .int .i64 (ix (ix r158.Right (ix (ix lO (eF : Int)) (ix r158.Prefix (g9 : Int)))) (ix r158.Last (g9 : Int)))) (u := (ix (ix r158.Right (ix (ix lO (eF : Int)) (ix r158.Prefix (g9 : Int)))) (ix r158.Last (g9 : Int)))) rfl rfl
     obtain ⟨V3, Bj, Bk⟩ := zz
     refine GoQ.last rfl (Bk underlying3 rfl ti3 (by exact rfl) (by exact rfl)) rfl rfl ?_
     refine nst Bj fun s hO => ?_
     refine sinc (natbd Bi af.bd) ?_
     refine au ?_
     exact hX6 _ H _ _ agr ⟨⟨agr, hO, fr⟩, bS.u, cJ.u, am.u, af.u, ag.u, ai.u, ae.u, ak.u⟩
    refine sinc (natbd vn ae.bd) ?_
    refine au ?_
    refine sfr 9 hO fun s hO => ?_
    refine sfr 9 hO fun s hO => ?_
    refine sfr 9 hO fun s hO => ?_
    refine sfr 9 hO fun s hO => ?_
    refine sfr 9 hO fun s hO => ?_
    refine sfr 9 hO fun s hO => ?_
    refine sfr 6 hO fun s hO => ?_
    refine sfr 9 hO fun s hO => ?_
    refine sfr 9 hO fun s hO => ?_
    refine sfr 9 hO fun s hO => ?_
    exact hX4 _ H _ _ agr ⟨_, ⟨agr, hO, fr⟩, bS.u, cJ.u, am.u, af.u, ag.u, ai.u, ae.u, ak.u⟩
   refine au ?_
   refine zo (J0F underlying81 rfl (Els.neqW bS.u hO 7 rfl)) ?_
   obtain ⟨vF, H⟩ := H
   obtain ⟨Nz, H⟩ := H
   have zz := t2makeS (m := (((([] : List part)) ++ ([(⟨((0 : Int) + r13.Start), r13.Final, (0 : Int)⟩ : part)])).length : Int)) (e' := 4) Fl.bool underlying40 ti22 hO vF Nz (by decide)
   obtain ⟨NA, vG, Bl, RE, Bm, hz396⟩ := zz
   refine zg (Bm rfl rfl) ?_
   refine nst Bl fun s hO => ?_
   refine au ?_
   refine zo (J0F underlying81 rfl (Els.neqW bS.u hO 8 rfl)) ?_
   refine au ?_
   refine sdr [9] hO fun s hO => ?_
   refine lv [2, 5, 7, 8, 13, 162, 163] hO H (fun E (gH, qj) σ w => ∃ qk, (fun Z => Lo A w0 σ w [(164, .int .i64 (gH : Int))] Z ∧ Els (rppart) (bl Z ++ A) w gS ((([] : List part)) ++ ([(⟨((0 : Int) + r13.Start), r13.Final, (0 : Int)⟩ : part)])) ∧ ISs (bl Z ++ A) w dP dQ r158.Gens ∧ ISs (bl Z ++ A) w dx dy r158.Elems ∧ ISi (bl Z ++ A) w dg dh r158.Prefix ∧ ISi (bl Z ++ A) w dR dS r158.Last ∧ ISs (bl Z ++ A) w dz dA r158.Right ∧ ISl (rpRule) (bl Z ++ A) w dB dC r158.Rules) (E.set 0 (t2 Fl.bool 22 4 vG (((([] : List part)) ++ ([(⟨((0 : Int) + r13.Start), r13.Final, (0 : Int)⟩ : part)])).length) (((([] : List part)) ++ ([(⟨((0 : Int) + r13.Start), r13.Final, (0 : Int)⟩ : part)])).length) qk qj))) ⟨_, ⟨agr, hO, fr⟩, bS.u, am.u, af.u, ag.u, ai.u, ae.u, ak.u⟩ ?_
   refine fun X7 => p1 fun gH qj => fun H hX7 σ V4 hk => e1 fun qk => d1 fun hL => d1 fun bS => d1 fun am => d4 fun af ag ai ae ak => d2 (fun hag hO hB => keep2 hk hag ?_) hL
   dsimp only [esets, sS, sZ] at hO hB bS am af ag ai ae ak
   dsimp only at H
   revert hO; repeat (rename Owns .. => q; clear q)
   intro hO; repeat (rename Sq .. => q; clear q)
   refine scm H (fun Bn H => ?_) fun Bn H => ?_
   ·refine au ?_
    obtain ⟨vH, H⟩ := H
    obtain ⟨vI, H⟩ := H
    refine zo (J0b underlying81 ti120 rfl rfl vH (ltn (Els.neqW bS hO 8 rfl) vI) (Els.psomeW bS hO 8 rfl vH vI)) ?_
    have Fz := oldAggR 8 hO rfl (r := rppart) bS vH vI
    obtain ⟨RF, FA, hR407, Bo⟩ := Fz
    replace hR407 := J8q FA hR407
    obtain ⟨NB, NC, hcs409, ip⟩ := hR407
    subst hcs409
    refine zs (Bo underlying120 rfl ti120 rfl) ?_
    refine sal hO fun ND B414 s hO => ?_
    refine sba 0 hO fun V5 s hO => ?_
    refine smk Fl.bool H hO fun V6 NE s hO => ?_
    replace H := H.2.2
    obtain ⟨vJ, H⟩ := H
    obtain ⟨vK, H⟩ := H
    refine zo (J0b underlying40 ti22 rfl rfl vJ (ltn (t2neq 2 hO rfl) vK) (t2some 2 hO rfl vJ vK)) ?_
    refine op1 0 hO fun RG s hO FB => ?_
    refine sfr 2 hO fun s hO => ?_
    refine sfr 1 hO fun s hO => ?_
    have zz := t2put (hf := Fl.bool) hO FB.u vJ vK
    obtain ⟨V7, Bp, Bq⟩ := zz
    refine zg (Bq underlying22 rfl ti22 (by exact rfl) (by exact rfl)) ?_
    refine nst Bp fun s hO => ?_
    refine sln0 ?_
    refine au ?_
    refine lv [2, 5, 7, 8, 13, 14, 15, 162, 163, 164, 175, 176] hO H (fun E (sU, xV) σ w => (fun Z => Lo A w0 σ w [(177, .int .i64 (sU : Int))] Z ∧ Els (rppart) (bl Z ++ A) w gS ((([] : List part)) ++ ([(⟨((0 : Int) + r13.Start), r13.Final, (0 : Int)⟩ : part)])) ∧ ISs (bl Z ++ A) w dP dQ r158.Gens ∧ ISs (bl Z ++ A) w dx dy r158.Elems ∧ ISi (bl Z ++ A) w dg dh r158.Prefix ∧ ISi (bl Z ++ A) w dR dS r158.Last ∧ ISs (bl Z ++ A) w dz dA r158.Right ∧ ISl (rpRule) (bl Z ++ A) w dB dC r158.Rules ∧ ISb (bl Z ++ A) w NB NC ((ix ((([] : List part)) ++ ([(⟨((0 : Int) + r13.Start), r13.Final, (0 : Int)⟩ : part)])) (gH : Int)).final)) (E.set 0 (t2 Fl.bool 22 4 vG (((([] : List part)) ++ ([(⟨((0 : Int) + r13.Start), r13.Final, (0 : Int)⟩ : part)])).length) (((([] : List part)) ++ ([(⟨((0 : Int) + r13.Start), r13.Final, (0 : Int)⟩ : part)])).length) (hup qk (gH : Int).toNat (NE, r158.Elems.length)) xV))) ⟨⟨agr, hO, fr⟩, bS.u, am.u, af.u, ag.u, ai.u, ae.u, ak.u, ip.u⟩ ?_
    refine fun X8 => p1 fun sU xV => fun H hX8 σ V8 hk => d1 fun hL => d1 fun bS => d1 fun am => d1 fun af => d4 fun ag ai ae ak ip => d2 (fun hag hO hB => keep2 hk hag ?_) hL
    dsimp only [esets, sS, sZ] at hO hB bS am af ag ai ae ak ip
    dsimp only at H
    revert hO; repeat (rename Owns .. => q; clear q)
    intro hO; repeat (rename Sq .. => q; clear q)
    refine scm H (fun Br H => ?_) fun Br H => ?_
    ·refine sxls hO af H.1 H.2.1 fun V9 Wa ql => ?_
     refine au ?_
     refine drs 1 [q0, q0, q0, q1, q0, q1, q0, q2, q0, q3] hO fun Wb s hO => ?_
     refine au ?_
     have Wc := H.1
     have Wd := H.2.1
     replace H := H.2.2
     obtain ⟨na, H⟩ := H
     obtain ⟨nb, H⟩ := H
     refine GoQ.pure rfl (J0b underlying40 ti22 rfl rfl na (ltn (t2neq 0 hO rfl) nb) (t2some 0 hO rfl na nb)) rfl rfl ?_
     refine GoQ.stable rfl (t2head 0 hO rfl na nb underlying22 rfl rfl) rfl rfl ?_
     refine sag 1 hO ?_
     refine au ?_
     refine zcq rfl (J01 body103 rfl (J2N (p := (⟨((ix ((([] : List part)) ++ ([(⟨((0 : Int) + r13.Start), r13.Final, (0 : Int)⟩ : part)])) (gH : Int)).start), (ix ((([] : List part)) ++ ([(⟨((0 : Int) + r13.Start), r13.Final, (0 : Int)⟩ : part)])) (gH : Int)).final, ((ix ((([] : List part)) ++ ([(⟨((0 : Int) + r13.Start), r13.Final, (0 : Int)⟩ : part)])) (gH : Int)).shift)⟩ : part)) hO.lt ip.u ql.u H)) fun _ We => e1 fun Bs => sq0 hO fun s hO => fun H => ?_
     obtain ⟨vL, H⟩ := H
     obtain ⟨vM, H⟩ := H
     refine GoQ.pure rfl (J0b underlying22 ti4 rfl rfl vL vM (t2isome 0 hO rfl na nb vL vM)) rfl rfl ?_
     have zz := t2st (r := Rp.bool) (hf := Fl.bool) rfl 0 hO rfl na nb vL vM (v := .bool Bs) (u := Bs) rfl rfl
     obtain ⟨NF, Bt, Bu⟩ := zz
     refine GoQ.last rfl (Bu underlying4 rfl ti4 (by exact rfl) (by exact rfl)) rfl rfl ?_
     refine nst Bt fun s hO => ?_
     refine sinc (natbd Br af.bd) ?_
     refine au ?_
     exact hX8 _ H _ _ agr ⟨⟨agr, hO, fr⟩, bS.u, am.u, af.u, ag.u, ai.u, ae.u, ak.u, ip.u⟩
    refine sinc (natbd Bn bS.bd) ?_
    refine au ?_
    refine sdr [1] hO fun s hO => ?_
    exact hX7 _ H _ _ agr ⟨_, ⟨agr, hO, fr⟩, bS.u, am.u, af.u, ag.u, ai.u, ae.u, ak.u⟩
   refine sag 1 hO ?_
   refine sba 7 hO fun Wf s hO => ?_
   refine au ?_
   refine Go1.retC3V func63 rfl rfl (rlb 7 hO) (show _ = .slice vG (((([] : List part)) ++ ([(⟨((0 : Int) + r13.Start), r13.Final, (0 : Int)⟩ : part)])).length) (((([] : List part)) ++ ([(⟨((0 : Int) + r13.Start), r13.Final, (0 : Int)⟩ : part)])).length) from rfl) (show _ = .int .i64 (0 : Int) from rfl) ?_
   refine hR152 _ _ ?_
   refine sal hO fun NG B448 s hO => ?_
   refine sba 0 hO fun Wg s hO => ?_
   refine au ?_
   refine zo (fun w => opB (J5K rfl rfl w) (ndT (by decide))) ?_
   refine au ?_
   obtain ⟨qm, H⟩ := H
   obtain ⟨qn, H⟩ := H
   refine zo (J0b underlying40 ti22 rfl rfl qm (ltn (t2neq 1 hO rfl) qn) (t2some 1 hO rfl qm qn)) ?_
   refine zs (t2head 1 hO rfl qm qn underlying22 rfl rfl) ?_
   refine sbs 0 hO fun Wh s hO => ?_
   refine sag 0 hO ?_
   refine sba 10 hO fun Wi s hO => ?_
   refine au ?_
   refine sfz2 5 hO fun s hO qo xW => ?_
   refine sfz 4 hO fun s hO FC FD => ?_
   refine sfz 4 hO fun s hO FE FF => ?_
   have FG := t2lendIn 1 hO rfl qm qn
   refine sfz2 1 hO fun s hO RH RJ => ?_
   refine sfz 2 hO fun s hO FH FI => ?_
   refine Go1.retC2 func19 rfl rfl (rlb 5 hO) ⟨((⟨(fG.length : Int), qb, lM, r182, (ix qj (0 : Int)), d_275⟩ : Syntactic)), _, _, _, _, _, _, _, _, _, _, _, ?_, frs, qo.r, FC.r, FE.r, FG.r, FH.r, H⟩
   exact (congrArg (fun l => Value.tuple (List.toArray l)) (J02 (congrArg (fun l => Value.agg (List.toArray l)) (J02 rfl (J02 (congrArg (fun nn => Value.slice (some ⟨g6, 0, none⟩) nn r158.Elems.length) xW) (J02 (congrArg (fun nn => Value.slice (some ⟨kK, 0, none⟩) nn r158.Elems.length) FD) (J02 (congrArg (fun nn => Value.slice iM nn iN) FF) (J02 rfl (J02 (congrArg (fun nn => Value.slice (some ⟨kM, 0, none⟩) nn r158.Elems.length) FI) rfl))))))) (J02 rfl rfl)))
  refine au ?_
  refine zo (J0a underlying33 ti33 (pl := [(0, 1), (1, 1), (2, 1), (3, 1), (4, 1), (5, 1)]) (vs := []) (cs := #[.int .i64 (0 : Int), .slice none 0 0, .slice none 0 0, .slice none 0 0, .slice none 0 0, .slice none 0 0]) (by kernel_rfl) rfl (by kernel_rfl)) ?_
  refine sba 1 hO fun Wj s hO => ?_
  refine au ?_
  refine Go1.retC3V func63 rfl rfl (rlb 1 hO) (show _ = .slice none 0 0 from rfl) (show _ = .int .i64 r159 from rfl) ?_
  refine hR152 _ _ ?_
  refine sal hO fun Wk B468 s hO => ?_
  refine sba 0 hO fun NH s hO => ?_
  refine au ?_
  refine zo (fun w => opB (J5K rfl rfl w) (ndF vi)) ?_
  refine au ?_
  refine zo (J0a underlying33 ti33 (pl := [(0, 1), (1, 1), (2, 1), (3, 1), (4, 1), (5, 1)]) (vs := []) (cs := #[.int .i64 (0 : Int), .slice none 0 0, .slice none 0 0, .slice none 0 0, .slice none 0 0, .slice none 0 0]) (by kernel_rfl) rfl (by kernel_rfl)) ?_
  refine sba 6 hO fun Wl s hO => ?_
  refine au ?_
  refine Go1.retC2 func19 rfl rfl (rlb 6 hO) ⟨((⟨(0 : Int), ([] : List (List Int)), ([] : List Str), ([] : List Int), ([] : List Bool), ([] : List Bool)⟩ : Syntactic)), _, _, _, _, _, _, _, _, _, _, _, er, frs, (ISl.null _ _ _), (ISl.null _ _ _), (ISl.null _ _ _), (ISl.null _ _ _), (ISl.null _ _ _), H⟩
 refine au ?_
 refine zo (J0a underlying33 ti33 (pl := [(0, 1), (1, 1), (2, 1), (3, 1), (4, 1), (5, 1)]) (vs := []) (cs := #[.int .i64 (0 : Int), .slice none 0 0, .slice none 0 0, .slice none 0 0, .slice none 0 0, .slice none 0 0]) (by kernel_rfl) rfl (by kernel_rfl)) ?_
 refine sba 0 hO fun Wm s hO => ?_
 refine au ?_
 refine Go1.retC2 func19 rfl rfl (rlb 0 hO) ⟨((⟨(0 : Int), ([] : List (List Int)), ([] : List Str), ([] : List Int), ([] : List Bool), ([] : List Bool)⟩ : Syntactic)), _, _, _, _, _, _, _, _, _, _, _, er, frs, (ISl.null _ _ _), (ISl.null _ _ _), (ISl.null _ _ _), (ISl.null _ _ _), (ISl.null _ _ _), H⟩
theorem body48 : Body prog 48 := ⟨f48, func48, rfl, by kernel_rfl⟩
theorem J41 {p_a p_b : Option Addr} {c_a c_b : Nat} {a b : List Str} (hA : HA0 A w0) (h_a : ISt A w0 p_a c_a a) (h_b : ISt A w0 p_b c_b b) {K : Bool → Prop} (H : J2i a b K) :
    CallsV prog 48 #[.slice p_a a.length c_a, .slice p_b b.length c_b] w0 (fun v w' => ∃ (r0 : Bool), v = .bool r0 ∧ Same w0 w' ∧ K r0) := by
 refine cal hA func48 ntmps48 fun hO hB => ?_
 unfold J2i at H
 refine sln0 ?_
 refine sln0 ?_
 refine scm ((H h_a.bd) h_b.bd) (fun h1 H => ?_) fun h1 H => ?_
 ·refine sln0 ?_
  refine au ?_
  refine lv [0, 1, 12] hO H (fun E k1_3 σ w => Lo A w0 σ w [(13, .int .i64 (k1_3 : Int))] []) ⟨agr, hO, fr⟩ ?_
  refine fun X1 => fun k1_3 => fun H hX1 σ w2 hk => d2 fun hag hO hB => keep2 hk hag ?_
  refine scm H (fun h4 H => ?_) fun h4 H => ?_
  ·refine au ?_
   refine drs 0 [q0, q0, q0, q1, q0, q0, q0, q1, q0] hO fun w5 s hO => ?_
   refine sxl hO h_a.u H.1 H.2.1 ?_
   have hle6 := ISl.J81 h_a H.1 H.2.1
   refine sxl hO h_b.u H.2.2.1 H.2.2.2.1 ?_
   have hle7 := ISl.J81 h_b H.2.2.1 H.2.2.2.1
   have h8 := H.1
   have h9 := H.2.1
   have h10 := H.2.2.1
   have h11 := H.2.2.2.1
   refine scm H.2.2.2.2 (fun h12 H => ?_) fun h12 H => ?_
   ·refine sinc (natbd h4 h_a.bd) ?_
    refine au ?_
    exact hX1 _ H _ _ agr ⟨agr, hO, fr⟩
   refine au ?_
   refine Go1.ret1 func48 rfl ⟨_, er, frs, H⟩
  refine au ?_
  refine Go1.ret1 func48 rfl ⟨_, er, frs, H⟩
 refine au ?_
 refine Go1.ret1 func48 rfl ⟨_, er, frs, H⟩
theorem body18 : Body prog 18 := ⟨f18, func18, rfl, by kernel_rfl⟩
theorem J08 (hA : HA0 A w0) {K : Bool → Prop} (H : law21_awake  K) :
    CallsV prog 18 #[] w0 (fun v w' => ∃ (r0 : Bool), v = .bool r0 ∧ Same w0 w' ∧ K r0) := by
 refine cal hA func18 ntmps18 fun hO hB => ?_
 unfold law21_awake at H
 refine au ?_
 refine zcr (J01 body60 rfl (J6L hO.lt H)) fun _ w2 => e4 fun r1 FJ FK KE => e1 fun KF => sc0 hO fun s hO => d2 fun qr sV H => ?_
 refine zcr (J01 body19 rfl (J39 hO.lt qr sV H)) fun _ w5 => e4 fun r3 r4 FL FM => e4 fun FN FO C9 Dc => e4 fun Dd De KG KH => sc0 hO fun s hO => d1 fun FP => d4 fun qt Dg fe KI H => ?_
 refine sal hO fun w6 B7 s hO => ?_
 refine sba 0 hO fun w9 s hO => ?_
 refine scm H (fun h10 H => ?_) fun h10 H => ?_
 ·refine sbu Fl.str 9 [(([] : Str)), (([97] : Str)), (([98] : Str)), (([97, 97] : Str)), (([97, 98] : Str)), (([98, 97] : Str))] hO (fun w11 p12 s hO => ?_) (hE := fun _ _ => (Els.cons rfl ⟨rfl, (by decide)⟩ (Els.cons rfl ⟨rfl, (by decide)⟩ (Els.cons rfl ⟨rfl, (by decide)⟩ (Els.cons rfl ⟨rfl, (by decide)⟩ (Els.cons rfl ⟨rfl, (by decide)⟩ (Els.cons rfl ⟨rfl, (by decide)⟩ (Els.nil _ _ _) (by simp [mx])) (by simp [mx])) (by simp [mx])) (by simp [mx])) (by simp [mx])) (by simp [mx])))
  have NI := t1lend 0 hO
  have g5 := t1n 0 hO
  have hOc16 := hO.drop 0
  refine zcr (J01 body48 (by rw [g5]; exact rfl) (J41 hOc16.lt (qt.u.ch (Owns.J03 _ _ 0)) NI H)) fun _ w18 => e1 fun r17 => sc0 hO fun s hO => fun H => ?_
  refine au ?_
  cases r17
  ·refine au ?_
   refine Go1.ret1 func18 rfl ⟨_, er, frs, (iF H)⟩
  refine sln0 ?_
  refine scm ((iT H) fe.bd) (fun h19 H => ?_) fun h19 H => ?_
  ·refine six fe H.1 H.2.1 ?_
   have h20 := H.1
   have h21 := H.2.1
   refine sbd hO fe.u H.1 H.2.1 H.2.2 (fun h22 H => ?_) fun h22 H => ?_
   ·refine six fe H.1 H.2.1 ?_
    have h23 := H.1
    have h24 := H.2.1
    refine sbd hO fe.u H.1 H.2.1 H.2.2 (fun h25 H => ?_) fun h25 H => ?_
    ·refine au ?_
     refine Go1.ret1 func18 rfl ⟨_, er, frs, H⟩
    refine au ?_
    refine Go1.ret1 func18 rfl ⟨_, er, frs, H⟩
   refine au ?_
   refine Go1.ret1 func18 rfl ⟨_, er, frs, H⟩
  refine au ?_
  refine Go1.ret1 func18 rfl ⟨_, er, frs, H⟩
 refine au ?_
 refine Go1.ret1 func18 rfl ⟨_, er, frs, H⟩
theorem body111 : Body prog 111 := ⟨f111, func111, rfl, by kernel_rfl⟩
theorem J32 {p_l : Option Addr} {c_l : Nat} {l : List Int} (hA : HA0 A w0) (h_l : ISi A w0 p_l c_l l) {K : List Int → Prop} (H : J1d l K) :
    CallsV prog 111 #[.slice p_l l.length c_l] w0 (fun v w' => ∃ (r0 : List Int), ∃ (p_r0 : Option Addr), ∃ (c_r0 : Nat), v = .slice p_r0 r0.length c_r0 ∧ Same w0 w' ∧ ISi A w' p_r0 c_r0 r0 ∧ K r0) := by
 refine cal hA func111 ntmps111 fun hO hB => ?_
 unfold J1d at H
 refine au ?_
 have zz := omakeMap (fun a : Int => Value.int .i64 a) (fun a : Int => Value.int .i64 a) hO
 obtain ⟨w1, B2, NJ, hs4, NK⟩ := zz
 refine zg NK ?_
 refine nst NJ fun s hO => ?_
 refine sln0 ?_
 refine smk Fl.i (H h_l.bd) hO fun w7 p8 s hO => ?_
 refine sln0 ?_
 refine au ?_
 refine lv [3, 4, 13, 14] hO (H h_l.bd).2.2 (fun E (k1_11, out1_12, jd) σ w => Lo A w0 σ w [(15, .int .i64 (k1_11 : Int))] [t1 Fl.i 3 p8 l.length l.length out1_12, .any (mapE (fun a : Int => Value.int .i64 a) (fun a : Int => Value.int .i64 a) B2 jd)]) ⟨agr, hO, fr⟩ ?_
 refine fun X1 => p2 fun k1_11 out1_12 jd => fun H hX1 σ w10 hk => d2 fun hag hO hB => keep2 hk hag ?_
 dsimp only at H
 revert hO; repeat (rename Owns .. => q; clear q)
 intro hO; repeat (rename Sq .. => q; clear q)
 refine scm H (fun h14 H => ?_) fun h14 H => ?_
 ·refine sxl hO h_l.u H.1 H.2.1 ?_
  refine au ?_
  have h15 := H.1
  have h16 := H.2.1
  replace H := H.2.2
  by_cases h17 : mhas jd ((ix l (k1_11 : Int))) = true
  ·refine zs (olookT (a := (ix l (k1_11 : Int))) (MK.int underlying3) 1 hO rfl underlying168 rfl rfl h17) ?_
   refine six1 0 hO (ifp h17 H).1 (ifp h17 H).2.1 ?_
   refine sst (u := (mgt jd ((ix l (k1_11 : Int))))) 0 hO (ifp h17 H).1 (ifp h17 H).2.1 fun w18 s hO => ?_
   refine sinc (natbd h14 h_l.bd) ?_
   refine au ?_
   exact hX1 _ (ifp h17 H).2.2 _ _ agr ⟨agr, hO, fr⟩
  refine zs (olookF (a := (ix l (k1_11 : Int))) (MK.int underlying3) 1 hO rfl underlying168 ti3 rfl rfl h17) ?_
  refine au ?_
  refine zs (omapLen 1 hO rfl underlying168 rfl) ?_
  refine au ?_
  have zz := omapUpd (MK.int underlying3) 1 hO rfl underlying168 (ix l (k1_11 : Int)) (jd.length : Int)
  obtain ⟨w19, ow, FQ⟩ := zz
  refine zg (FQ (by exact rfl) (by exact rfl) (by exact rfl)) ?_
  refine nst ow fun s hO => ?_
  refine six1 0 hO (ifn h17 H).1 (ifn h17 H).2.1 ?_
  refine sst (u := (jd.length : Int)) 0 hO (ifn h17 H).1 (ifn h17 H).2.1 fun w22 s hO => ?_
  refine sinc (natbd h14 h_l.bd) ?_
  refine au ?_
  exact hX1 _ (ifn h17 H).2.2 _ _ agr ⟨agr, hO, fr⟩
 refine au ?_
 refine sfz 0 hO fun s hO NL NM => ?_
 refine Go1.ret1 func111 rfl ⟨_, _, _, ?_, frs, NL.r, H⟩
 exact (congrArg (fun nn => Value.slice p8 nn l.length) NM)
theorem body112 : Body prog 112 := ⟨f112, func112, rfl, by kernel_rfl⟩
theorem J5Z {p_p p_q : Option Addr} {c_p c_q : Nat} {p q : List Int} (hA : HA0 A w0) (h_p : ISi A w0 p_p c_p p) (h_q : ISi A w0 p_q c_q q) {K : List Int → Prop} (H : J31 p q K) :
    CallsV prog 112 #[.slice p_p p.length c_p, .slice p_q q.length c_q] w0 (fun v w' => ∃ (r0 : List Int), ∃ (p_r0 : Option Addr), ∃ (c_r0 : Nat), v = .slice p_r0 r0.length c_r0 ∧ Same w0 w' ∧ ISi A w' p_r0 c_r0 r0 ∧ K r0) := by
 refine cal hA func112 ntmps112 fun hO hB => ?_
 unfold J31 at H
 refine sln0 ?_
 refine smk Fl.i (H h_p.bd) hO fun w1 p4 s hO => ?_
 refine sln0 ?_
 refine au ?_
 refine lv [0, 1, 5, 11] hO (H h_p.bd).2.2 (fun E (bw, out1_8) σ w => Lo A w0 σ w [(12, .int .i64 (bw : Int))] [t1 Fl.i 3 p4 p.length p.length out1_8]) ⟨agr, hO, fr⟩ ?_
 refine fun X1 => p1 fun bw out1_8 => fun H hX1 σ w6 hk => d2 fun hag hO hB => keep2 hk hag ?_
 dsimp only at H
 revert hO; repeat (rename Owns .. => q; clear q)
 intro hO; repeat (rename Sq .. => q; clear q)
 refine scm H (fun h9 H => ?_) fun h9 H => ?_
 ·refine au ?_
  refine drs 1 [q0, q0, q0, q0, q0, q1, q0, q0, q0, q0, q0, q0, q0, q1, q0, q0, q3] hO fun w10 s hO => ?_
  refine sxl hO h_p.u H.1 H.2.1 ?_
  refine sln0 ?_
  have h11 := H.1
  have h12 := H.2.1
  replace H := H.2.2
  obtain ⟨h13, H⟩ := H
  refine GoQ.pure rfl (J06 rfl rfl (wrap_i64 h13)) rfl rfl ?_
  obtain ⟨h14, H⟩ := H
  refine GoQ.pure rfl (JaC rfl rfl (wrap_i64 h14)) rfl rfl ?_
  refine sxl hO h_q.u H.1 H.2.1 ?_
  have h15 := H.1
  have h16 := H.2.1
  replace H := H.2.2
  obtain ⟨h17, H⟩ := H
  refine GoQ.pure rfl (J06 rfl rfl (wrap_i64 h17)) rfl rfl ?_
  refine six1 0 hO H.1 H.2.1 ?_
  refine sst (u := (((ix p (bw : Int)) * (p.length + 1 : Int)) + (ix q (bw : Int)))) 0 hO H.1 H.2.1 fun w18 s hO => ?_
  refine sinc (natbd h9 h_p.bd) ?_
  refine au ?_
  exact hX1 _ H.2.2 _ _ agr ⟨agr, hO, fr⟩
 refine au ?_
 refine sfz 0 hO fun s hO vN vO => ?_
 refine zcr (J01 body111 (by rw [vO]; exact rfl) (J32 hO.lt vN H)) fun _ w22 => e3 fun r21 FS FT => sc0 hO fun s hO => d1 fun qu H => ?_
 refine au ?_
 refine Go1.ret1 func112 rfl ⟨_, _, _, er, frs, qu.r, H⟩
theorem body49 : Body prog 49 := ⟨f49, func49, rfl, by kernel_rfl⟩
theorem J1y {p_a p_b : Option Addr} {c_a c_b : Nat} {a b : List Int} (hA : HA0 A w0) (h_a : ISi A w0 p_a c_a a) (h_b : ISi A w0 p_b c_b b) {K : Bool → Prop} (H : J1g a b K) :
    CallsV prog 49 #[.slice p_a a.length c_a, .slice p_b b.length c_b] w0 (fun v w' => ∃ (r0 : Bool), v = .bool r0 ∧ Same w0 w' ∧ K r0) := by
 refine cal hA func49 ntmps49 fun hO hB => ?_
 unfold J1g at H
 refine sln0 ?_
 refine sln0 ?_
 refine scm ((H h_a.bd) h_b.bd) (fun h1 H => ?_) fun h1 H => ?_
 ·refine sln0 ?_
  refine au ?_
  refine lv [0, 1, 12] hO H (fun E k1_3 σ w => Lo A w0 σ w [(13, .int .i64 (k1_3 : Int))] []) ⟨agr, hO, fr⟩ ?_
  refine fun X1 => fun k1_3 => fun H hX1 σ w2 hk => d2 fun hag hO hB => keep2 hk hag ?_
  refine scm H (fun h4 H => ?_) fun h4 H => ?_
  ·refine au ?_
   refine drs 0 [q0, q0, q0, q1, q0, q0, q0, q1, q0] hO fun w5 s hO => ?_
   refine sxl hO h_a.u H.1 H.2.1 ?_
   refine sxl hO h_b.u H.2.2.1 H.2.2.2.1 ?_
   have h6 := H.1
   have h7 := H.2.1
   have h8 := H.2.2.1
   have h9 := H.2.2.2.1
   refine scm H.2.2.2.2 (fun h10 H => ?_) fun h10 H => ?_
   ·refine sinc (natbd h4 h_a.bd) ?_
    refine au ?_
    exact hX1 _ H _ _ agr ⟨agr, hO, fr⟩
   refine au ?_
   refine Go1.ret1 func49 rfl ⟨_, er, frs, H⟩
  refine au ?_
  refine Go1.ret1 func49 rfl ⟨_, er, frs, H⟩
 refine au ?_
 refine Go1.ret1 func49 rfl ⟨_, er, frs, H⟩
theorem body67 : Body prog 67 := ⟨f67, func67, rfl, by kernel_rfl⟩
theorem J4L {aF aV : Option Addr} {aG aW : Nat} {d : DFA} (hA : HA0 A w0) (aE : ISb A w0 aF aG d.Final) (bg : ISs A w0 aV aW d.Next) {K : List Int → Prop} (H : J1z d K) :
    CallsV prog 67 #[.agg (cDF d aF aG aV aW)] w0 (fun v w' => ∃ (r0 : List Int), ∃ (p_r0 : Option Addr), ∃ (c_r0 : Nat), v = .slice p_r0 r0.length c_r0 ∧ Same w0 w' ∧ ISi A w' p_r0 c_r0 r0 ∧ K r0) := by
 refine cal hA func67 ntmps67 fun hO hB => ?_
 unfold J1z at H
 refine sbx hO fun w1 B2 s hO => ?_
 refine sln0 ?_
 refine smk Fl.i (H aE.bd) hO fun w4 p5 s hO => ?_
 refine sln1 0 hO ?_
 refine au ?_
 refine lv [1, 3, 14] hO (H aE.bd).2.2 (fun E (k1_8, Bv) σ w => Lo A w0 σ w [(15, .int .i64 (k1_8 : Int))] (E.set 0 (t1 Fl.i 3 p5 d.Final.length d.Final.length Bv))) ⟨agr, hO, fr⟩ ?_
 refine fun X1 => p1 fun k1_8 Bv => fun H hX1 σ w7 hk => d2 fun hag hO hB => keep2 hk hag ?_
 dsimp only [esets, sS, sZ] at hO hB
 dsimp only at H
 revert hO; repeat (rename Owns .. => q; clear q)
 intro hO; repeat (rename Sq .. => q; clear q)
 refine scm H (fun h10 H => ?_) fun h10 H => ?_
 ·refine au ?_
  have h11 := H.1
  have h12 := H.2.1
  refine sxb hO aE.u H.1 H.2.1 H.2.2 (fun h13 H => ?_) fun h13 H => ?_
  ·refine six1 0 hO H.1 H.2.1 ?_
   refine sst (u := (1 : Int)) 0 hO H.1 H.2.1 fun w14 s hO => ?_
   refine au ?_
   have h15 := H.1
   have h16 := H.2.1
   replace H := H.2.2
   obtain ⟨h17, H⟩ := H
   refine zo (J06 rfl rfl (wrap_i64 h17)) ?_
   refine au ?_
   exact hX1 _ H _ _ agr ⟨agr, hO, fr⟩
  refine au ?_
  obtain ⟨h18, H⟩ := H
  refine zo (J06 rfl rfl (wrap_i64 h18)) ?_
  refine au ?_
  exact hX1 _ H _ _ agr ⟨agr, hO, fr⟩
 refine au ?_
 refine sfz 0 hO fun s hO vN vO => ?_
 refine zcr (J01 body111 (by rw [vO]; exact rfl) (J32 hO.lt vN H)) fun _ w22 => e3 fun r21 FS FT => sc0 hO fun s hO => d1 fun qu H => ?_
 refine au ?_
 refine lv [1] hO H (fun E je σ w => ∃ p25 c26, (fun Z => Lo A w0 σ w [(3, .slice p25 je.length c26)] Z ∧ ISi (bl Z ++ A) w p25 c26 je) E) ⟨_, _, ⟨agr, hO, fr⟩, qu⟩ ?_
 refine fun X2 => fun je => fun H hX2 σ w23 hk => e2 fun p25 c26 => d1 fun hL => fun fS => d2 (fun hag hO hB => keep2 hk hag ?_) hL
 revert hO; repeat (rename Owns .. => q; clear q)
 intro hO; repeat (rename Sq .. => q; clear q)
 refine au ?_
 refine lv [1, 3] hO H (fun E (next3_29, qv) σ w => ∃ p30 c31, (fun Z => Lo A w0 σ w [(5, .slice p30 next3_29.length c31), (6, .int .i64 (qv : Int))] Z ∧ ISi (bl Z ++ A) w p25 c26 je ∧ ISi (bl Z ++ A) w p30 c31 next3_29) E) ⟨_, _, ⟨agr, hO, fr⟩, fS, fS⟩ ?_
 refine fun X3 => p1 fun next3_29 qv => fun H hX3 σ w28 hk => e2 fun p30 c31 => d1 fun hL => d1 fun fS dU => d2 (fun hag hO hB => keep2 hk hag ?_) hL
 dsimp only at H
 revert hO; repeat (rename Owns .. => q; clear q)
 intro hO; repeat (rename Sq .. => q; clear q)
 refine scm H (fun h34 H => ?_) fun h34 H => ?_
 ·refine sln0 ?_
  refine au ?_
  refine snil Fl.i 3 hO fun s hO => ?_
  refine lv [1, 3, 5, 6, 37] hO (H fS.bd) (fun E (qw, to4_38) σ w => ∃ n41 p39 c40, (fun Z => Lo A w0 σ w [(7, .slice p39 n41 c40), (38, .int .i64 (qw : Int))] Z ∧ ISi (bl Z ++ A) w p25 c26 je ∧ ISi (bl Z ++ A) w p30 c31 next3_29) (E.set 0 (t1 Fl.i 3 p39 n41 c40 to4_38))) ⟨_, _, _, ⟨agr, hO, fr⟩, fS.u, dU.u⟩ ?_
  refine fun X4 => p1 fun qw to4_38 => fun H hX4 σ w36 hk => e3 fun n41 p39 c40 => d1 fun hL => d1 fun fS dU => d2 (fun hag hO hB => keep2 hk hag ?_) hL
  dsimp only [esets, sS, sZ] at hO hB fS dU
  dsimp only at H
  revert hO; repeat (rename Owns .. => q; clear q)
  intro hO; repeat (rename Sq .. => q; clear q)
  refine scm H (fun h42 H => ?_) fun h42 H => ?_
  ·refine sxls hO bg.u H.1 H.2.1 fun p43 c44 ig => ?_
   refine sxl hO ig.u H.2.2.1 H.2.2.2.1 ?_
   refine sxl hO fS H.2.2.2.2.1 H.2.2.2.2.2.1 ?_
   refine sap1 ((ix je (ix (ix d.Next (qw : Int)) (qv : Int)))) 0 hO H.2.2.2.2.2.2 fun _ w46 p47 c48 s hO => ?_
   refine sinc (natbd h42 fS.bd) ?_
   refine au ?_
   exact hX4 _ H.2.2.2.2.2.2.2 _ _ agr ⟨_, _, _, ⟨agr, hO, fr⟩, fS.u, dU.u⟩
  refine au ?_
  refine sfz 0 hO fun s hO iq NN => ?_
  refine zcr (J01 body112 (by rw [NN]; exact rfl) (J5Z hO.lt dU.u iq H)) fun _ w52 => e3 fun r51 RK RL => sc0 hO fun s hO => d1 fun FU H => ?_
  refine au ?_
  obtain ⟨h53, H⟩ := H
  refine zo (J06 rfl rfl (wrap_i64 h53)) ?_
  refine au ?_
  exact hX3 _ H _ _ agr ⟨_, _, ⟨agr, hO, fr⟩, fS.u, FU⟩
 refine au ?_
 refine zcr (J01 body49 rfl (J1y hO.lt dU.u fS.u H)) fun _ w55 => e1 fun r54 => sc0 hO fun s hO => fun H => ?_
 refine au ?_
 cases r54
 ·refine au ?_
  exact hX2 _ (iF H) _ _ agr ⟨_, _, ⟨agr, hO, fr⟩, dU.u⟩
 refine au ?_
 refine Go1.ret1 func67 rfl ⟨_, _, _, er, frs, fS.r, (iT H)⟩
end Sg
