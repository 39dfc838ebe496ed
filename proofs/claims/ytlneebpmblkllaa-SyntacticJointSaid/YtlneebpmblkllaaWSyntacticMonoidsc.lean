/- -/
import Derived.Test.YtlneebpmblkllaaVd
import Derived.Test.YtlneebpmblkllaaWSyntacticMonoids
import Derived.Test.YtlneebpmblkllaaWSyntacticMonoidsb
namespace Sg
open Go Go.RowKit Go.Proofs Try
set_option linter.unusedVariables false
set_option linter.unusedSimpArgs false
set_option maxRecDepth 100000
set_option maxHeartbeats 4000000
variable {A : List Nat} {w0 : World}
theorem body63 : Body prog 63 := ⟨f63, func63, rfl, by kernel_rfl⟩
theorem body62 : Body prog 62 := ⟨f62, func62, rfl, by kernel_rfl⟩
theorem body19 : Body prog 19 := ⟨f19, func19, rfl, by kernel_rfl⟩
theorem J4T {bu bV : Option Addr} {bw bW : Nat} {d : DFA} (hA : HA0 A w0) (aT : ISb A w0 bu bw d.Final) (b9 : ISs A w0 bV bW d.Next) {K : Syntactic → Int → Prop} (H : J1I d K) :
    CallsV prog 19 #[.agg (cDF d bu bw bV bW)] w0 (fun v w' => ∃ (r0 : Syntactic), ∃ (r1 : Int), ∃ (cR : Option Addr), ∃ (cS : Nat), ∃ (cU : Option Addr), ∃ (cV : Nat), ∃ (cA : Option Addr), ∃ (cB : Nat), ∃ (cC : Option Addr), ∃ (cD : Nat), ∃ (dx : Option Addr), ∃ (dy : Nat), v = .tuple #[.agg (cSY r0 cR cS cU cV cA cB cC cD dx dy), .int .i64 r1] ∧ Same w0 w' ∧ ISs A w' cR cS r0.Table ∧ ISt A w' cU cV r0.Words ∧ ISi A w' cA cB r0.Images ∧ ISb A w' cC cD r0.Accept ∧ ISb A w' dx dy r0.Plus ∧ K r0 r1) := by
 refine cal hA func19 ntmps19 fun hO hB => ?_
 unfold J1I at H
 refine sbx hO fun w1 B2 s hO => ?_
 refine sal hO fun w4 B5 s hO => ?_
 refine sag 1 hO ?_
 refine zcr (J02 body61 rfl (J0y hO.lt aT.u b9.u H)) fun _ w8 => e1 fun r7 => sc0 hO fun s hO => fun H => ?_
 refine scm H (fun h9 H => ?_) fun h9 H => ?_
 ·refine sal hO fun w10 B11 s hO => ?_
  refine sag 2 hO ?_
  refine zcr (J02 body22 rfl (J1K hO.lt aT.u b9.u H)) fun _ w14 => e4 fun r13 du dw iG => e1 fun iH => sc0 hO fun s hO => d2 fun bX dj H => ?_
  refine GoR.inl (vs := [.pointer (some ⟨B11, 0, none⟩), .agg (cDF r13 du dw iG iH)]) (caps := []) rfl rfl body62 func62 rfl ntmps62 rfl rfl rfl ?_
  intro RhR15 hR15
  refine sbx hO fun w16 B17 s hO => ?_
  refine sln0 ?_
  refine au ?_
  replace H := (H bX.bd)
  obtain ⟨h19, H⟩ := H
  refine zo (J03 rfl rfl (wrap_i64 h19)) ?_
  refine scm H (fun h20 H => ?_) fun h20 H => ?_
  ·refine au ?_
   refine Go1.ret1V func62 rfl (show _ = .int .i64 (3 : Int) from rfl) ?_
   refine hR15 _ _ ?_
   refine au ?_
   refine zo (fun w => opB (J34 rfl rfl w) (ndF (by decide))) ?_
   refine au ?_
   refine zo (J05 underlying33 ti33 (pl := [(0, 1), (1, 1), (2, 1), (3, 1), (4, 1), (5, 1)]) (vs := []) (cs := #[.int .i64 (0 : Int), .slice none 0 0, .slice none 0 0, .slice none 0 0, .slice none 0 0, .slice none 0 0]) (by kernel_rfl) rfl (by kernel_rfl)) ?_
   refine sba 2 hO fun w21 s hO => ?_
   refine au ?_
   refine Go1.retC2 func19 rfl rfl (rlb 2 hO) ⟨((⟨(0 : Int), ([] : List (List Int)), ([] : List Str), ([] : List Int), ([] : List Bool), ([] : List Bool)⟩ : Syntactic)), _, _, _, _, _, _, _, _, _, _, _, er, frs, (ISl.null _ _ _), (ISl.null _ _ _), (ISl.null _ _ _), (ISl.null _ _ _), (ISl.null _ _ _), H⟩
  refine au ?_
  refine zo (fun w => opB (J12 underlying23 rfl rfl w) rfl) ?_
  refine au ?_
  obtain ⟨h29, H⟩ := H
  obtain ⟨h30, H⟩ := H
  have zz := t2makeS (m := r13.Letters) (e' := 3) Fl.i underlying23 ti31 hO h29 h30 (by decide)
  obtain ⟨w22, p23, OP, akV, OQ, hz32⟩ := zz
  refine zg (OQ rfl rfl) ?_
  refine nst OP fun s hO => ?_
  refine sbs 2 hO fun w33 s hO => ?_
  refine au ?_
  refine zo (J0t underlying23 rfl (t2neq 0 hO rfl)) ?_
  refine au ?_
  refine sdr [4] hO fun s hO => ?_
  refine lv [0, 3, 5, 33] hO H (fun E (mY, fO) σ w => ∃ xe, (fun Z => Lo A w0 σ w [(34, .int .i64 (mY : Int))] Z ∧ ISb (bl Z ++ A) w du dw r13.Final ∧ ISs (bl Z ++ A) w iG iH r13.Next) (E.set 0 (t2 Fl.i 31 3 p23 r13.Letters.toNat r13.Letters.toNat xe fO))) ⟨_, ⟨agr, hO, fr⟩, bX.u, dj.u⟩ ?_
  refine fun X1 => p1 fun mY fO => fun H hX1 σ w34 hk => e1 fun xe => d1 fun hL => d1 fun bX dj => lh hk (fun hO hB => ?_) hL
  dsimp only [esets, sS, sZ] at hO hB bX dj
  dsimp only at H
  revert hO; repeat (rename Owns .. => q; clear q)
  intro hO; repeat (rename Sq .. => q; clear q)
  refine scm H (fun h38 H => ?_) fun h38 H => ?_
  ·refine au ?_
   refine lv [0, 3, 5, 6, 33, 34, 37] hO H (fun E (k2_40, d_41) σ w => ∃ Hu, (fun Z => Lo A w0 σ w [(38, .int .i64 (k2_40 : Int))] Z ∧ ISb (bl Z ++ A) w du dw r13.Final ∧ ISs (bl Z ++ A) w iG iH r13.Next) (E.set 0 (t2 Fl.i 31 3 p23 r13.Letters.toNat r13.Letters.toNat Hu d_41))) ⟨_, ⟨agr, hO, fr⟩, bX, dj⟩ ?_
   refine fun X2 => p1 fun k2_40 d_41 => fun H hX2 σ w39 hk => e1 fun Hu => d1 fun hL => d1 fun bX dj => lh hk (fun hO hB => ?_) hL
   dsimp only [esets, sS, sZ] at hO hB bX dj
   dsimp only at H
   revert hO; repeat (rename Owns .. => q; clear q)
   intro hO; repeat (rename Sq .. => q; clear q)
   refine scm H (fun h43 H => ?_) fun h43 H => ?_
   ·refine au ?_
    refine Go1.drawT (ok := fun _ => True) Same.tr [26, 28] 29 (.qp 0 (.qp 1 (.qp 2 (.qp 4 (.qp 5 (.qp 6 (.qp 7 (.qs 8 (.qp 9 (.qp 10 (.qs 11 (.qp 12 (.qp 13 (.qp 14 (.qs 15 (.qp 16 (.qs 17 (.qp 18 (.qp 19 (.qs 20 (.qp 21 (.qp 22 (.qs 23 (.qp 24 (.alt 3 (.alt 25 (.alt 26 (.qp 27 (.alt 28 .nil .fin)) .fin) .fin) (.alt 25 (.alt 3 (.alt 26 (.qp 27 (.alt 28 .nil .fin)) .fin) (.alt 26 (.alt 3 (.qp 27 (.alt 28 .nil .fin)) .fin) .fin)) .fin)))))))))))))))))))))))))) mixed (by kernel_rfl) ?_
    intro w44 Yx
    refine sm hO Yx fun s hO => ?_
    refine sbl 2 ?_
    refine au ?_
    obtain ⟨h46, H⟩ := H
    obtain ⟨h47, H⟩ := H
    refine GoT.pure rfl (J04 underlying23 ti31 rfl rfl h46 (ltn (t2neq 0 hO rfl) h47) (t2some 0 hO rfl h46 h47)) rfl rfl ?_
    refine GoT.stable rfl (t2head 0 hO rfl h46 h47 underlying31 rfl rfl) rfl rfl ?_
    refine sbl 2 ?_
    refine sbl 1 ?_
    refine sxls hO dj.u H.1 H.2.1 fun p48 c49 gM => ?_
    refine sxl hO gM.u H.2.2.1 H.2.2.2.1 ?_
    have h51 := H.1
    have h52 := H.2.1
    have h53 := H.2.2.1
    have h54 := H.2.2.2.1
    replace H := H.2.2.2.2
    obtain ⟨h55, H⟩ := H
    refine GoT.pure rfl (J03 rfl rfl (wrap_i64 h55)) rfl rfl ?_
    refine GoT.both ?_ ?_
    ·skip
     skip
     refine sbl 2 ?_
     skip
     refine sbu Fl.i 3 [((0 : Int) + (ix (ix r13.Next (k2_40 : Int)) (mY : Int)))] hO fun w56 p57 s hO => ?_
     skip
     refine sfr 1 hO fun s hO => ?_
     have zz := t2take (hf := Fl.i) hO h46 h47
     obtain ⟨akW, sC, xi⟩ := zz
     refine nst sC fun s hO => ?_
     have Yy := elX hO (xi _)
     refine sfz 2 hO fun s hO wX Yz => ?_
     obtain ⟨h66, H⟩ := H
     have zz := oapp underlying31 ti3 rfl 0 hO rfl Yy.u wX Yz h66 (by decide)
     obtain ⟨w67, p68, c69, akX, OR, Hv, OS⟩ := zz
     dsimp only [sS, sZ] at Hv
     refine GoT.stepX rfl (OS (by exact rfl) (by exact rfl)) rfl rfl rfl ?_
     refine nst OR fun s hO => ?_
     obtain ⟨h75, H⟩ := H
     obtain ⟨h76, H⟩ := H
     refine GoT.pure rfl (J04 underlying23 ti31 rfl rfl h75 (ltn (t2neqH 1 hO rfl) h76) (t2someH 1 hO rfl h75 h76)) rfl rfl ?_
     skip
     refine sfr 1 hO fun s hO => ?_
     refine sfr 1 hO fun s hO => ?_
     have zz := t2fix (hf := Fl.i) hO Hv.u h75 h76 rfl
     obtain ⟨w77, f5, ss⟩ := zz
     refine GoT.stepX rfl (ss underlying31 rfl ti31 (by exact rfl) (by exact rfl)) rfl rfl rfl ?_
     refine nst f5 fun s hO => ?_
     refine sinc (natbd h43 bX.bd) ?_
     refine au ?_
     exact hX2 _ H _ _ agr ⟨_, ⟨agr, hO, fr⟩, bX.u, dj.u⟩
    skip
    refine sbu Fl.i 3 [((0 : Int) + (ix (ix r13.Next (k2_40 : Int)) (mY : Int)))] hO fun w80 p81 s hO => ?_
    refine GoT.both ?_ ?_
    ·skip
     skip
     refine sbl 3 ?_
     skip
     refine sfr 1 hO fun s hO => ?_
     have zz := t2take (hf := Fl.i) hO h46 h47
     obtain ⟨akY, OT, YA⟩ := zz
     refine nst OT fun s hO => ?_
     have gP := elX hO (YA _)
     refine sfz 2 hO fun s hO YB yu => ?_
     obtain ⟨h90, H⟩ := H
     have zz := oapp underlying31 ti3 rfl 0 hO rfl gP.u YB yu h90 (by decide)
     obtain ⟨w91, p92, c93, ak0, OU, Hw, OV⟩ := zz
     dsimp only [sS, sZ] at Hw
     refine GoT.stepX rfl (OV (by exact rfl) (by exact rfl)) rfl rfl rfl ?_
     refine nst OU fun s hO => ?_
     obtain ⟨h99, H⟩ := H
     obtain ⟨jP, H⟩ := H
     refine GoT.pure rfl (J04 underlying23 ti31 rfl rfl h99 (ltn (t2neqH 1 hO rfl) jP) (t2someH 1 hO rfl h99 jP)) rfl rfl ?_
     skip
     refine sfr 1 hO fun s hO => ?_
     refine sfr 1 hO fun s hO => ?_
     have zz := t2fix (hf := Fl.i) hO Hw.u h99 jP rfl
     obtain ⟨wY, Hx, Hy⟩ := zz
     refine GoT.stepX rfl (Hy underlying31 rfl ti31 (by exact rfl) (by exact rfl)) rfl rfl rfl ?_
     refine nst Hx fun s hO => ?_
     refine sinc (natbd h43 bX.bd) ?_
     refine au ?_
     exact hX2 _ H _ _ agr ⟨_, ⟨agr, hO, fr⟩, bX.u, dj.u⟩
    skip
    refine sfr 1 hO fun s hO => ?_
    have zz := t2take (hf := Fl.i) hO h46 h47
    obtain ⟨adQ, Hz, OW⟩ := zz
    refine nst Hz fun s hO => ?_
    have OX := elX hO (OW _)
    refine sfz 2 hO fun s hO OY O0 => ?_
    obtain ⟨jY, H⟩ := H
    have zz := oapp underlying31 ti3 rfl 0 hO rfl OX.u OY O0 jY (by decide)
    obtain ⟨FF, FG, FH, adR, HA, BJ, HB⟩ := zz
    dsimp only [sS, sZ] at BJ
    refine GoT.stepX rfl (HB (by exact rfl) (by exact rfl)) rfl rfl rfl ?_
    refine nst HA fun s hO => ?_
    skip
    refine sbl 3 ?_
    obtain ⟨yv, H⟩ := H
    obtain ⟨yw, H⟩ := H
    refine GoT.pure rfl (J04 underlying23 ti31 rfl rfl yv (ltn (t2neqH 1 hO rfl) yw) (t2someH 1 hO rfl yv yw)) rfl rfl ?_
    skip
    refine sfr 1 hO fun s hO => ?_
    refine sfr 1 hO fun s hO => ?_
    have zz := t2fix (hf := Fl.i) hO BJ.u yv yw rfl
    obtain ⟨vy, HC, oY⟩ := zz
    refine GoT.stepX rfl (oY underlying31 rfl ti31 (by exact rfl) (by exact rfl)) rfl rfl rfl ?_
    refine nst HC fun s hO => ?_
    refine sinc (natbd h43 bX.bd) ?_
    refine au ?_
    exact hX2 _ H _ _ agr ⟨_, ⟨agr, hO, fr⟩, bX.u, dj.u⟩
   refine au ?_
   obtain ⟨vS, H⟩ := H
   refine zo (J03 rfl rfl (wrap_i64 vS)) ?_
   refine au ?_
   exact hX1 _ H _ _ agr ⟨_, ⟨agr, hO, fr⟩, bX.u, dj.u⟩
  refine au ?_
  refine drs 4 [q0, q0, q0, q0, q1, q0, q0, q0, q1, q0, q1, q0, q0, q1, q0, q0, q0, q1, q0, q2, q3, q0, q0, q3] hO fun Vv s hO => ?_
  refine au ?_
  obtain ⟨FJ, H⟩ := H
  refine GoQ.pure rfl (J03 rfl rfl (wrap_i64 FJ)) rfl rfl ?_
  refine au ?_
  refine GoQ.pure rfl (J05 underlying120 ti120 (pl := [(0, 1), (1, 1), (2, 1)]) (vs := [(0, .int .i64 ((0 : Int) + r13.Start)), (1, .slice du r13.Final.length dw), (2, .int .i64 (0 : Int))]) (cs := #[.int .i64 ((0 : Int) + r13.Start), .slice du r13.Final.length dw, .int .i64 (0 : Int)]) (by kernel_rfl) rfl (by kernel_rfl)) rfl rfl ?_
  have zz := obuildN (r := rppart) (n := 1) (parts := [(0, .agg #[.int .i64 ((0 : Int) + r13.Start), .slice du r13.Final.length dw, .int .i64 (0 : Int)])]) (vs := [.int .i64 ((0 : Int) + r13.Start), .slice du r13.Final.length dw, .int .i64 (0 : Int)]) (xs := [(⟨((0 : Int) + r13.Start), r13.Final, (0 : Int)⟩ : part)]) underlying81 ti120 hO (by decide) (by decide) (by kernel_rfl) (Els.consR (us := [.int .i64 ((0 : Int) + r13.Start), .slice du r13.Final.length dw, .int .i64 (0 : Int)]) rfl ⟨rfl, ⟨du, dw, rfl, bX.u⟩, rfl⟩ (Els.nil _ _ _) (by simp [mx])) rfl
  obtain ⟨Xr, ak1, HD, O1, qT, HE⟩ := zz
  refine GoQ.loud rfl (HE rfl) qT rfl rfl ?_
  refine nst HD fun s hO => ?_
  refine sfzR 0 hO O1 fun s hO qt kA => ?_
  have HF := Stp.nil (e := 120) (r := 3) hO
  refine nst HF fun s hO => ?_
  have O2 := elN (rppart) hO
  obtain ⟨En, H⟩ := H
  have zz := oapp underlying81 ti120 rfl 0 hO rfl O2 qt.u kA En (by decide)
  obtain ⟨Ye, ak2, ak3, jB, HG, bY, HH⟩ := zz
  dsimp only [sS, sZ] at bY
  refine GoQ.last rfl (HH (by exact rfl) (by exact rfl)) rfl rfl ?_
  refine nst HG fun s hO => ?_
  refine sbs 3 hO fun Yf s hO => ?_
  refine au ?_
  obtain ⟨YC, H⟩ := H
  refine zo (J03 rfl rfl (wrap_i64 YC)) ?_
  refine sbs 3 hO fun WW s hO => ?_
  refine au ?_
  refine Go1.ret1V func62 rfl (show _ = .int .i64 (0 : Int) from rfl) ?_
  refine hR15 _ _ ?_
  refine au ?_
  refine zo (fun w => opB (J34 rfl rfl w) (ndT (by decide))) ?_
  refine au ?_
  refine GoR.inl (vs := [.pointer (some ⟨B11, 0, none⟩)]) (caps := []) rfl rfl body63 func63 rfl ntmps63 rfl rfl rfl ?_
  intro RhR152 hR152
  refine sal hO fun Gb B154 s hO => ?_
  refine au ?_
  refine sfz2 2 hO fun s hO cN BK => ?_
  refine zcr (J02 body101 (by rw [BK]; exact rfl) (J20 hO.lt cN H)) fun _ WY => e4 fun r158 r159 eQ eU => e4 fun d9 eg dO dP => e4 fun eV eX eh en => e2 fun eo eA => sc0 hO fun s hO => d1 fun av => d1 fun ae => d4 fun af am ad ap H => ?_
  refine sal hO fun YE B162 s hO => ?_
  refine sba 0 hO fun oc s hO => ?_
  refine scm H (fun HI H => ?_) fun HI H => ?_
  ·refine sln0 ?_
   refine scm (H ae.bd) (fun xc H => ?_) fun xc H => ?_
   ·refine au ?_
    refine zo (J05 underlying33 ti33 (pl := [(0, 1), (1, 1), (2, 1), (3, 1), (4, 1), (5, 1)]) (vs := []) (cs := #[.int .i64 (0 : Int), .slice none 0 0, .slice none 0 0, .slice none 0 0, .slice none 0 0, .slice none 0 0]) (by kernel_rfl) rfl (by kernel_rfl)) ?_
    refine sba 1 hO fun vV s hO => ?_
    refine au ?_
    refine Go1.retC3V func63 rfl rfl (rlb 1 hO) (show _ = .slice none 0 0 from rfl) (show _ = .int .i64 (3 : Int) from rfl) ?_
    refine hR152 _ _ ?_
    refine sal hO fun qv B169 s hO => ?_
    refine sba 0 hO fun wS s hO => ?_
    refine au ?_
    refine zo (fun w => opB (J34 rfl rfl w) (ndF (by decide))) ?_
    refine au ?_
    refine zo (J05 underlying33 ti33 (pl := [(0, 1), (1, 1), (2, 1), (3, 1), (4, 1), (5, 1)]) (vs := []) (cs := #[.int .i64 (0 : Int), .slice none 0 0, .slice none 0 0, .slice none 0 0, .slice none 0 0, .slice none 0 0]) (by kernel_rfl) rfl (by kernel_rfl)) ?_
    refine sba 6 hO fun GD s hO => ?_
    refine au ?_
    refine Go1.retC2 func19 rfl rfl (rlb 6 hO) ⟨((⟨(0 : Int), ([] : List (List Int)), ([] : List Str), ([] : List Int), ([] : List Bool), ([] : List Bool)⟩ : Syntactic)), _, _, _, _, _, _, _, _, _, _, _, er, frs, (ISl.null _ _ _), (ISl.null _ _ _), (ISl.null _ _ _), (ISl.null _ _ _), (ISl.null _ _ _), H⟩
   refine au ?_
   refine drA Same.tr 1 [(0, m0), (1, m0), (2, m0), (3, m1), (4, m0), (5, m0), (7, m0), (9, m0), (10, m1), (11, m0), (12, m1), (14, m0), (13, m2), (6, m4), (8, m4), (15, m4), (16, m0), (17, m4), (18, m3)] hO fun sW s hO => ?_
   have m6 := hO.le
   have hw175 := (fr : Fr (bl []) w0 _ sW).ch.size
   refine au ?_
   refine au ?_
   refine au ?_
   refine sbl 4 ?_
   refine slnN BK ?_
   refine au ?_
   refine au ?_
   refine au ?_
   refine sbl 0 ?_
   refine sxls hO ad.u (H cN.bd).1 (H cN.bd).2.1 fun ak4 ak5 O3 => ?_
   refine au ?_
   refine GoQA.loudI rfl rfl fun Xy A180 O4 => ?_
   refine sgw O4 hO fun s hO => ?_
   have ak6 := (H cN.bd).1
   have qW := (H cN.bd).2.1
   refine GoAt.call (J02 body86 rfl (J0m hO.lt O3.u (H cN.bd).2.2)) (fun _ _ hr => ⟨fun _ => saq hr, Same.kp hO (saq hr)⟩) rfl fun _ W4 => e4 fun r182 uT o9 pc => sA1 hO fun s hO => fun H => ?_
   obtain ⟨iU, H⟩ := H
   obtain ⟨YF, H⟩ := H
   refine GoQA.alloc rfl rfl (alMake2 (e' := 3) Fl.i underlying23 ti31 iU YF (by decide) rfl rfl) ?_
   intro YG A190 jf A192 sX O5 hd195 hnb196 hh197
   refine sgw sX hO fun s hO => ?_
   refine sgn (e := t2 Fl.i 31 3 (some ⟨jf, 0, none⟩) r158.Elems.length r158.Elems.length ((fun _ => (none, 0))) (List.replicate r158.Elems.length ([] : List Int))) O5 hO m6 hw175 hnb196 (J6t jf) hh197 hd195 (fr : Fr (bl []) w0 _ YG) fun s hO hB => ?_
   obtain ⟨YH, H⟩ := H
   obtain ⟨YJ, H⟩ := H
   have zz := alMakeE (n := (r158.Elems.length : Int)) (r := Rp.str) (d := ([] : Str)) underlying30 ti9 (fun _ _ => ⟨rfl, Nat.zero_le _⟩) rfl YH YJ (by decide)
   obtain ⟨BL, hal214, O6⟩ := zz
   refine GoQA.alloc rfl rfl (hal214 rfl rfl) ?_
   intro FQ A202 pe A204 sY ta hd207 hnb208 hh209
   refine sgw sY hO fun s hO => ?_
   have kU := elX hO (O6 _ _)
   refine sgn (e := .row 9 1 (some ⟨pe, 0, none⟩) r158.Elems.length r158.Elems.length BL) ta hO m6 hw175 hnb208 rfl hh209 hd207 (fr : Fr (bl []) w0 _ FQ) fun s hO hB => ?_
   replace kU := kU.ch s.ch
   refine cl1 Fl.str 0 hO kU.u fun s hO => ?_
   obtain ⟨yz, H⟩ := H
   obtain ⟨YK, H⟩ := H
   have zz := alMakeE (n := (r158.Elems.length : Int)) (r := Rp.bool) (d := false) underlying22 ti4 (fun _ _ => rfl) rfl yz YK (by decide)
   obtain ⟨O7, hal230, O8⟩ := zz
   refine GoQA.alloc rfl rfl (hal230 rfl rfl) ?_
   intro GP A218 ma A220 O9 Pa hd223 hnb224 hh225
   refine sgw O9 hO fun s hO => ?_
   have tc := elX hO (O8 _ _)
   refine sgn (e := .row 4 1 (some ⟨ma, 0, none⟩) r158.Elems.length r158.Elems.length O7) Pa hO m6 hw175 hnb224 rfl hh225 hd223 (fr : Fr (bl []) w0 _ GP) fun s hO hB => ?_
   replace tc := tc.ch s.ch
   refine cl1 Fl.bool 0 hO tc.u fun s hO => ?_
   refine GoQA.pure rfl (J05 underlying33 ti33 (pl := [(0, 1), (1, 1), (2, 1), (3, 1), (4, 1), (5, 1)]) (vs := [(0, .int .i64 (fO.length : Int)), (1, .slice (some ⟨jf, 0, none⟩) r158.Elems.length r158.Elems.length), (2, .slice (some ⟨pe, 0, none⟩) r158.Elems.length r158.Elems.length), (3, .slice o9 uT pc), (5, .slice (some ⟨ma, 0, none⟩) r158.Elems.length r158.Elems.length)]) (cs := #[.int .i64 (fO.length : Int), .slice (some ⟨jf, 0, none⟩) r158.Elems.length r158.Elems.length, .slice (some ⟨pe, 0, none⟩) r158.Elems.length r158.Elems.length, .slice o9 uT pc, .slice none 0 0, .slice (some ⟨ma, 0, none⟩) r158.Elems.length r158.Elems.length]) (by kernel_rfl) rfl (by kernel_rfl)) rfl rfl ?_
   refine GoQA.alloc rfl rfl (alAlloc (cs := #[.int .i64 (0 : Int), .slice none 0 0, .slice none 0 0, .slice none 0 0, .slice none 0 0, .slice none 0 0]) ti33 rfl) ?_
   intro v8 A234 YL A236 Pb Pc hd239 hnb240 hh241
   refine sgw Pb hO fun s hO => ?_
   refine sgn (e := .blk YL (.cells #[.int .i64 (0 : Int), .slice none 0 0, .slice none 0 0, .slice none 0 0, .slice none 0 0, .slice none 0 0] 33 (0, 0))) Pc hO m6 hw175 hnb240 rfl hh241 hd239 (fr : Fr (bl []) w0 _ v8) fun s hO hB => ?_
   refine GoQA.lastI rfl rfl fun YM A243 Pd => ?_
   refine sgw Pd hO fun s hO => ?_
   refine sba 0 hO fun TX s hO => ?_
   refine GoQA.nil fun CF A247 Pe Pg => ?_
   refine sgw Pe hO fun s hO => ?_
   refine spm Pg hO fun s hO => ?_
   refine au ?_
   have hB := (fr : Fr (bl []) w0 _ CF)
   replace bY := bY.o hO
   replace ae := ae.o hO
   replace av := av.o hO
   replace am := am.o hO
   replace af := af.o hO
   replace ad := ad.o hO
   replace ap := ap.o hO
   replace cN := cN.o hO
   revert hO; repeat (rename Owns .. => q; clear q)
   intro hO; repeat (rename Sq .. => q; clear q)
   refine au ?_
   refine sdr [8] hO fun s hO => ?_
   refine lv [0, 2, 5, 7, 8] hO H (fun E (jg, d_252, m7) σ w => (fun Z => Lo A w0 σ w [(9, .int .i64 (jg : Int))] Z ∧ Els (rppart) (bl Z ++ A) w jB ((([] : List part)) ++ ([(⟨((0 : Int) + r13.Start), r13.Final, (0 : Int)⟩ : part)])) ∧ ISs (bl Z ++ A) w p23 r13.Letters.toNat fO ∧ ISs (bl Z ++ A) w eQ eU r158.Gens ∧ ISs (bl Z ++ A) w d9 eg r158.Elems ∧ ISi (bl Z ++ A) w dO dP r158.Prefix ∧ ISi (bl Z ++ A) w eV eX r158.Last ∧ ISs (bl Z ++ A) w eh en r158.Right ∧ ISl (rpRule) (bl Z ++ A) w eo eA r158.Rules) (esets E [(1, t1 Fl.bool 4 (some ⟨ma, 0, none⟩) r158.Elems.length r158.Elems.length d_252), (2, t1 Fl.str 9 (some ⟨pe, 0, none⟩) r158.Elems.length r158.Elems.length m7)])) ⟨⟨agr, hO, fr⟩, bY.u, cN.u, av.u, ae.u, af.u, am.u, ad.u, ap.u⟩ ?_
   refine fun X3 => p2 fun jg d_252 m7 => fun H hX3 σ YN hk => d1 fun hL => d1 fun bY => d1 fun cN => d1 fun av => d4 fun ae af am ad ap => lh hk (fun hO hB => ?_) hL
   dsimp only [esets, sS, sZ] at hO hB bY cN av ae af am ad ap
   dsimp only at H
   revert hO; repeat (rename Owns .. => q; clear q)
   intro hO; repeat (rename Sq .. => q; clear q)
   refine scm H (fun HJ H => ?_) fun HJ H => ?_
   ·refine au ?_
    refine drs 1 [q0, q1, q0, q0, q1, q0, q1, q0, q0, q1, q0, q1, q0, q1, q0, q0, q1, q0, q0, q2, q1, q0, q0, q3] hO fun yA s hO => ?_
    refine sxl hO af.u H.1 H.2.1 ?_
    refine sxl1 2 hO H.2.2.1 H.2.2.2.1 ?_
    have hle256 := t1le 2 hO H.2.2.1 H.2.2.2.1
    refine sxl hO am.u H.2.2.2.2.1 H.2.2.2.2.2.1 ?_
    have iw := H.1
    have ak7 := H.2.1
    have ak8 := H.2.2.1
    have jT := H.2.2.2.1
    have jU := H.2.2.2.2.1
    have ak9 := H.2.2.2.2.2.1
    replace H := H.2.2.2.2.2.2
    obtain ⟨yB, H⟩ := H
    refine GoQ.pure rfl (J03 rfl rfl (wrap_i64 yB)) rfl rfl ?_
    refine GoQ.pure rfl (J1Y underlying3 underlying5 rfl rfl) rfl rfl ?_
    refine sbu (Fl.int .u8) 5 [(IntKind.u8.wrap ((97 : Int) + (ix r158.Last (jg : Int))))] hO fun YO YP s hO => ?_
    refine op1 0 hO fun mX s hO fB => ?_
    have hle269 := J0u fB.bd
    refine GoQ.stable rfl (oldBytes 0 hO rfl fB.u underlying126 underlying5 underlying9 rfl) rfl rfl ?_
    obtain ⟨HK, H⟩ := H
    refine GoQ.pure rfl (J08 rfl rfl HK) rfl rfl ?_
    refine six1 3 hO H.1 H.2.1 ?_
    refine sst (u := ((ix m7 (ix r158.Prefix (jg : Int))) ++ (byt ([(IntKind.u8.wrap ((97 : Int) + (ix r158.Last (jg : Int))))])))) 3 hO H.1 H.2.1 (fun YQ s hO => ?_) (hR := by exact fun _ _ => ⟨rfl, (lenApp HK)⟩)
    refine six1 2 hO H.2.2.1 H.2.2.2.1 ?_
    refine sst (u := true) 2 hO H.2.2.1 H.2.2.2.1 fun ala s hO => ?_
    refine sinc (natbd HJ ae.bd) ?_
    refine au ?_
    refine cl1 (Fl.int .u8) 0 hO fB.u fun s hO => ?_
    refine sdr [0] hO fun s hO => ?_
    exact hX3 _ H.2.2.2.2 _ _ agr ⟨⟨agr, hO, fr⟩, bY.u, cN.u, av.u, ae.u, af.u, am.u, ad.u, ap.u⟩
   refine sln0 ?_
   refine au ?_
   refine lv [0, 2, 5, 7, 8, 86, 87] hO (H ad.bd) (fun E (eH, d_275, te) σ w => ∃ m8, (fun Z => Lo A w0 σ w [(88, .int .i64 (eH : Int))] Z ∧ Els (rppart) (bl Z ++ A) w jB ((([] : List part)) ++ ([(⟨((0 : Int) + r13.Start), r13.Final, (0 : Int)⟩ : part)])) ∧ ISs (bl Z ++ A) w p23 r13.Letters.toNat fO ∧ ISs (bl Z ++ A) w eQ eU r158.Gens ∧ ISs (bl Z ++ A) w d9 eg r158.Elems ∧ ISi (bl Z ++ A) w dO dP r158.Prefix ∧ ISi (bl Z ++ A) w eV eX r158.Last ∧ ISs (bl Z ++ A) w eh en r158.Right ∧ ISl (rpRule) (bl Z ++ A) w eo eA r158.Rules) (esets E [(1, t1 Fl.bool 4 (some ⟨ma, 0, none⟩) r158.Elems.length r158.Elems.length d_275), (3, t2 Fl.i 31 3 (some ⟨jf, 0, none⟩) r158.Elems.length r158.Elems.length m8 te)])) ⟨_, ⟨agr, hO, fr⟩, bY.u, cN.u, av.u, ae.u, af.u, am.u, ad.u, ap.u⟩ ?_
   refine fun X4 => p2 fun eH d_275 te => fun H hX4 σ alb hk => e1 fun m8 => d1 fun hL => d1 fun bY => d1 fun cN => d1 fun av => d4 fun ae af am ad ap => lh hk (fun hO hB => ?_) hL
   dsimp only [esets, sS, sZ] at hO hB bY cN av ae af am ad ap
   dsimp only at H
   revert hO; repeat (rename Owns .. => q; clear q)
   intro hO; repeat (rename Sq .. => q; clear q)
   refine scm H (fun yC H => ?_) fun yC H => ?_
   ·refine sxls hO ad H.1 H.2.1 fun alc ald tf => ?_
    refine au ?_
    refine drs 1 [q0, q1, q0, q1, q0, q1, q0, q0, q2, q0, q0, q3] hO fun ale s hO => ?_
    refine au ?_
    have alf := H.1
    have alg := H.2.1
    have alh := H.2.2.1
    have gN := H.2.2.2.1
    refine sxb1 1 hO H.2.2.1 H.2.2.2.1 H.2.2.2.2 (fun tg H => ?_) fun tg H => ?_
    ·refine six1 1 hO H.1 H.2.1 ?_
     refine sst (u := true) 1 hO H.1 H.2.1 fun vK s hO => ?_
     refine au ?_
     refine drs 1 [q0, q1, q0, q0, q2, q0, q3] hO fun GQ s hO => ?_
     refine smk Fl.i H.2.2 hO fun ali YR s hO => ?_
     have CP := H.1
     have alj := H.2.1
     replace H := H.2.2.2.2
     obtain ⟨yD, H⟩ := H
     obtain ⟨pg, H⟩ := H
     refine GoQ.pure rfl (J04 underlying23 ti31 rfl rfl yD (ltn (t2neq 4 hO rfl) pg) (t2some 4 hO rfl yD pg)) rfl rfl ?_
     refine op1 0 hO fun Aq s hO Ph => ?_
     refine sfr 4 hO fun s hO => ?_
     refine sfr 1 hO fun s hO => ?_
     have zz := t2put (hf := Fl.i) hO Ph.u yD pg
     obtain ⟨GR, HL, HM⟩ := zz
     refine GoQ.last rfl (HM underlying31 rfl ti31 (by exact rfl) (by exact rfl)) rfl rfl ?_
     refine nst HL fun s hO => ?_
     refine au ?_
     obtain ⟨ph, H⟩ := H
     obtain ⟨pk, H⟩ := H
     refine zo (J04 underlying23 ti31 rfl rfl ph (ltn (t2neq 0 hO rfl) pk) (t2some 0 hO rfl ph pk)) ?_
     refine zs (t2head 0 hO rfl ph pk underlying31 rfl rfl) ?_
     refine au ?_
     obtain ⟨oe, H⟩ := H
     obtain ⟨yE, H⟩ := H
     refine zo (J04 underlying31 ti3 rfl rfl oe yE (t2isome 0 hO rfl ph pk oe yE)) ?_
     have zz := t2st (r := Rp.int .i64) (hf := Fl.i) rfl 0 hO rfl ph pk oe yE (v := .int .i64 (eH : Int)) (u := (eH : Int)) rfl rfl
     obtain ⟨alk, HN, HO⟩ := zz
     refine zg (HO underlying3 rfl ti3 (by exact rfl) (by exact rfl)) ?_
     refine nst HN fun s hO => ?_
     refine au ?_
     refine lv [0, 2, 5, 7, 8, 10, 86, 87, 88] hO H (fun E (ik, d_311) σ w => (fun Z => Lo A w0 σ w [(12, .int .i64 (ik : Int))] Z ∧ Els (rppart) (bl Z ++ A) w jB ((([] : List part)) ++ ([(⟨((0 : Int) + r13.Start), r13.Final, (0 : Int)⟩ : part)])) ∧ ISs (bl Z ++ A) w p23 r13.Letters.toNat fO ∧ ISs (bl Z ++ A) w eQ eU r158.Gens ∧ ISs (bl Z ++ A) w d9 eg r158.Elems ∧ ISi (bl Z ++ A) w dO dP r158.Prefix ∧ ISi (bl Z ++ A) w eV eX r158.Last ∧ ISs (bl Z ++ A) w eh en r158.Right ∧ ISl (rpRule) (bl Z ++ A) w eo eA r158.Rules) (E.set 0 (t2 Fl.i 31 3 (some ⟨jf, 0, none⟩) r158.Elems.length r158.Elems.length (hup m8 (eH : Int).toNat (YR, r158.Elems.length)) d_311))) ⟨⟨agr, hO, fr⟩, bY.u, cN.u, av.u, ae.u, af.u, am.u, ad.u, ap.u⟩ ?_
     refine fun X5 => p1 fun ik d_311 => fun H hX5 σ YS hk => d1 fun hL => d1 fun bY => d1 fun cN => d1 fun av => d4 fun ae af am ad ap => lh hk (fun hO hB => ?_) hL
     dsimp only [esets, sS, sZ] at hO hB bY cN av ae af am ad ap
     dsimp only at H
     revert hO; repeat (rename Owns .. => q; clear q)
     intro hO; repeat (rename Sq .. => q; clear q)
     refine scm H (fun tj H => ?_) fun tj H => ?_
     ·refine au ?_
      refine drs 1 [q0, q1, q0, q0, q1, q0, q0, q1, q0, q1, q0, q0, q1, q0, q1, q0, q0, q1, q0, q1, q0, q1, q0, q1, q0, q0, q1, q0, q1, q0, q3] hO fun xV s hO => ?_
      refine au ?_
      obtain ⟨iA, H⟩ := H
      obtain ⟨po, H⟩ := H
      refine GoQ.pure rfl (J04 underlying23 ti31 rfl rfl iA (ltn (t2neq 0 hO rfl) po) (t2some 0 hO rfl iA po)) rfl rfl ?_
      refine GoQ.stable rfl (t2head 0 hO rfl iA po underlying31 rfl rfl) rfl rfl ?_
      refine au ?_
      obtain ⟨pp, H⟩ := H
      obtain ⟨pq, H⟩ := H
      refine GoQ.pure rfl (J04 underlying23 ti31 rfl rfl pp (ltn (t2neq 0 hO rfl) pq) (t2some 0 hO rfl pp pq)) rfl rfl ?_
      refine GoQ.stable rfl (t2head 0 hO rfl pp pq underlying31 rfl rfl) rfl rfl ?_
      refine sxl hO af.u H.1 H.2.1 ?_
      have alm := H.1
      have aln := H.2.1
      replace H := H.2.2
      obtain ⟨yF, H⟩ := H
      obtain ⟨yG, H⟩ := H
      refine GoQ.pure rfl (J04 underlying31 ti3 rfl rfl yF yG (t2isome 0 hO rfl pp pq yF yG)) rfl rfl ?_
      refine GoQ.stable rfl (t2Int 0 hO rfl pp pq yF yG underlying3 rfl rfl) rfl rfl ?_
      refine sxls hO ad.u H.1 H.2.1 fun alo alp qG => ?_
      refine sxl hO am.u H.2.2.1 H.2.2.2.1 ?_
      refine sxl hO qG.u H.2.2.2.2.1 H.2.2.2.2.2.1 ?_
      have EW := H.1
      have qH := H.2.1
      have alq := H.2.2.1
      have alr := H.2.2.2.1
      have als := H.2.2.2.2.1
      have alu := H.2.2.2.2.2.1
      replace H := H.2.2.2.2.2.2
      obtain ⟨pt, H⟩ := H
      obtain ⟨yH, H⟩ := H
      refine GoQ.pure rfl (J04 underlying31 ti3 rfl rfl pt yH (t2isome 0 hO rfl iA po pt yH)) rfl rfl ?_
      have zz := t2st (r := Rp.int .i64) (hf := Fl.i) rfl 0 hO rfl iA po pt yH (v := .int .i64 (ix (ix r158.Right (ix (ix d_311 (eH : Int)) (ix r158.Prefix (ik : Int)))) (ix r158.Last (ik : Int)))) (u := (ix (ix r158.Right (ix (ix d_311 (eH : Int)) (ix r158.Prefix (ik : Int)))) (ix r158.Last (ik : Int)))) rfl rfl
      obtain ⟨HP, HQ, HR⟩ := zz
      refine GoQ.last rfl (HR underlying3 rfl ti3 (by exact rfl) (by exact rfl)) rfl rfl ?_
      refine nst HQ fun s hO => ?_
      refine sinc (natbd tj ae.bd) ?_
      refine au ?_
      exact hX5 _ H _ _ agr ⟨⟨agr, hO, fr⟩, bY.u, cN.u, av.u, ae.u, af.u, am.u, ad.u, ap.u⟩
     refine sinc (natbd yC ad.bd) ?_
     refine au ?_
     refine sfr 9 hO fun s hO => ?_
     refine sfr 9 hO fun s hO => ?_
     refine sfr 9 hO fun s hO => ?_
     refine sfr 9 hO fun s hO => ?_
     refine sfr 9 hO fun s hO => ?_
     refine sfr 9 hO fun s hO => ?_
     refine sfr 6 hO fun s hO => ?_
     refine sfr 9 hO fun s hO => ?_
     refine sfr 9 hO fun s hO => ?_
     refine sfr 9 hO fun s hO => ?_
     exact hX4 _ H _ _ agr ⟨_, ⟨agr, hO, fr⟩, bY.u, cN.u, av.u, ae.u, af.u, am.u, ad.u, ap.u⟩
    refine au ?_
    refine zcq rfl (J02 body102 rfl (J17 hO.lt tf.u H)) fun _ YT => e1 fun r336 => sq0 hO fun s hO => fun H => ?_
    refine six1 1 hO H.1 H.2.1 ?_
    refine sst (u := r336) 1 hO H.1 H.2.1 fun alv s hO => ?_
    refine au ?_
    refine drs 1 [q0, q1, q0, q0, q2, q0, q3] hO fun C0 s hO => ?_
    refine smk Fl.i H.2.2 hO fun wk G5 s hO => ?_
    have alw := H.1
    have alx := H.2.1
    replace H := H.2.2.2.2
    obtain ⟨yI, H⟩ := H
    obtain ⟨pv, H⟩ := H
    refine GoQ.pure rfl (J04 underlying23 ti31 rfl rfl yI (ltn (t2neq 4 hO rfl) pv) (t2some 4 hO rfl yI pv)) rfl rfl ?_
    refine op1 0 hO fun adS s hO Pi => ?_
    refine sfr 4 hO fun s hO => ?_
    refine sfr 1 hO fun s hO => ?_
    have zz := t2put (hf := Fl.i) hO Pi.u yI pv
    obtain ⟨aly, HS, HT⟩ := zz
    refine GoQ.last rfl (HT underlying31 rfl ti31 (by exact rfl) (by exact rfl)) rfl rfl ?_
    refine nst HS fun s hO => ?_
    refine au ?_
    obtain ⟨mb, H⟩ := H
    obtain ⟨iv, H⟩ := H
    refine zo (J04 underlying23 ti31 rfl rfl mb (ltn (t2neq 0 hO rfl) iv) (t2some 0 hO rfl mb iv)) ?_
    refine zs (t2head 0 hO rfl mb iv underlying31 rfl rfl) ?_
    refine au ?_
    obtain ⟨yJ, H⟩ := H
    obtain ⟨yK, H⟩ := H
    refine zo (J04 underlying31 ti3 rfl rfl yJ yK (t2isome 0 hO rfl mb iv yJ yK)) ?_
    have zz := t2st (r := Rp.int .i64) (hf := Fl.i) rfl 0 hO rfl mb iv yJ yK (v := .int .i64 (eH : Int)) (u := (eH : Int)) rfl rfl
    obtain ⟨YU, HU, ol⟩ := zz
    refine zg (ol underlying3 rfl ti3 (by exact rfl) (by exact rfl)) ?_
    refine nst HU fun s hO => ?_
    refine au ?_
    refine lv [0, 2, 5, 7, 8, 10, 86, 87, 88] hO H (fun E (io, m9) σ w => (fun Z => Lo A w0 σ w [(12, .int .i64 (io : Int))] Z ∧ Els (rppart) (bl Z ++ A) w jB ((([] : List part)) ++ ([(⟨((0 : Int) + r13.Start), r13.Final, (0 : Int)⟩ : part)])) ∧ ISs (bl Z ++ A) w p23 r13.Letters.toNat fO ∧ ISs (bl Z ++ A) w eQ eU r158.Gens ∧ ISs (bl Z ++ A) w d9 eg r158.Elems ∧ ISi (bl Z ++ A) w dO dP r158.Prefix ∧ ISi (bl Z ++ A) w eV eX r158.Last ∧ ISs (bl Z ++ A) w eh en r158.Right ∧ ISl (rpRule) (bl Z ++ A) w eo eA r158.Rules) (E.set 0 (t2 Fl.i 31 3 (some ⟨jf, 0, none⟩) r158.Elems.length r158.Elems.length (hup m8 (eH : Int).toNat (G5, r158.Elems.length)) m9))) ⟨⟨agr, hO, fr⟩, bY.u, cN.u, av.u, ae.u, af.u, am.u, ad.u, ap.u⟩ ?_
    refine fun X6 => p1 fun io m9 => fun H hX6 σ alz hk => d1 fun hL => d1 fun bY => d1 fun cN => d1 fun av => d4 fun ae af am ad ap => lh hk (fun hO hB => ?_) hL
    dsimp only [esets, sS, sZ] at hO hB bY cN av ae af am ad ap
    dsimp only at H
    revert hO; repeat (rename Owns .. => q; clear q)
    intro hO; repeat (rename Sq .. => q; clear q)
    refine scm H (fun HV H => ?_) fun HV H => ?_
    ·refine au ?_
     refine drs 1 [q0, q1, q0, q0, q1, q0, q0, q1, q0, q1, q0, q0, q1, q0, q1, q0, q0, q1, q0, q1, q0, q1, q0, q1, q0, q0, q1, q0, q1, q0, q3] hO fun Uh s hO => ?_
     refine au ?_
     obtain ⟨pC, H⟩ := H
     obtain ⟨pD, H⟩ := H
     refine GoQ.pure rfl (J04 underlying23 ti31 rfl rfl pC (ltn (t2neq 0 hO rfl) pD) (t2some 0 hO rfl pC pD)) rfl rfl ?_
     refine GoQ.stable rfl (t2head 0 hO rfl pC pD underlying31 rfl rfl) rfl rfl ?_
     refine au ?_
     obtain ⟨pE, H⟩ := H
     obtain ⟨pF, H⟩ := H
     refine GoQ.pure rfl (J04 underlying23 ti31 rfl rfl pE (ltn (t2neq 0 hO rfl) pF) (t2some 0 hO rfl pE pF)) rfl rfl ?_
     refine GoQ.stable rfl (t2head 0 hO rfl pE pF underlying31 rfl rfl) rfl rfl ?_
     refine sxl hO af.u H.1 H.2.1 ?_
     have alA := H.1
     have alB := H.2.1
     replace H := H.2.2
     obtain ⟨yL, H⟩ := H
     obtain ⟨yM, H⟩ := H
     refine GoQ.pure rfl (J04 underlying31 ti3 rfl rfl yL yM (t2isome 0 hO rfl pE pF yL yM)) rfl rfl ?_
     refine GoQ.stable rfl (t2Int 0 hO rfl pE pF yL yM underlying3 rfl rfl) rfl rfl ?_
     refine sxls hO ad.u H.1 H.2.1 fun alC alD Pj => ?_
     refine sxl hO am.u H.2.2.1 H.2.2.2.1 ?_
     refine sxl hO Pj.u H.2.2.2.2.1 H.2.2.2.2.2.1 ?_
     have alE := H.1
     have jV := H.2.1
     have E6 := H.2.2.1
     have alF := H.2.2.2.1
     have alG := H.2.2.2.2.1
     have alH := H.2.2.2.2.2.1
     replace H := H.2.2.2.2.2.2
     obtain ⟨yN, H⟩ := H
     obtain ⟨yO, H⟩ := H
     refine GoQ.pure rfl (J04 underlying31 ti3 rfl rfl yN yO (t2isome 0 hO rfl pC pD yN yO)) rfl rfl ?_
     have zz := t2st (r := Rp.int .i64) (hf := Fl.i) rfl 0 hO rfl pC pD yN yO (v := .int .i64 (ix (ix r158.Right (ix (ix m9 (eH : Int)) (ix r158.Prefix (io : Int)))) (ix r158.Last (io : Int)))) (u := (ix (ix r158.Right (ix (ix m9 (eH : Int)) (ix r158.Prefix (io : Int)))) (ix r158.Last (io : Int)))) rfl rfl
     obtain ⟨VY, HW, HX⟩ := zz
     refine GoQ.last rfl (HX underlying3 rfl ti3 (by exact rfl) (by exact rfl)) rfl rfl ?_
     refine nst HW fun s hO => ?_
     refine sinc (natbd HV ae.bd) ?_
     refine au ?_
     exact hX6 _ H _ _ agr ⟨⟨agr, hO, fr⟩, bY.u, cN.u, av.u, ae.u, af.u, am.u, ad.u, ap.u⟩
    refine sinc (natbd yC ad.bd) ?_
    refine au ?_
    refine sfr 9 hO fun s hO => ?_
    refine sfr 9 hO fun s hO => ?_
    refine sfr 9 hO fun s hO => ?_
    refine sfr 9 hO fun s hO => ?_
    refine sfr 9 hO fun s hO => ?_
    refine sfr 9 hO fun s hO => ?_
    refine sfr 6 hO fun s hO => ?_
    refine sfr 9 hO fun s hO => ?_
    refine sfr 9 hO fun s hO => ?_
    refine sfr 9 hO fun s hO => ?_
    exact hX4 _ H _ _ agr ⟨_, ⟨agr, hO, fr⟩, bY.u, cN.u, av.u, ae.u, af.u, am.u, ad.u, ap.u⟩
   refine au ?_
   refine zo (J0t underlying81 rfl (Els.neqW bY.u hO 7 rfl)) ?_
   obtain ⟨yP, H⟩ := H
   obtain ⟨lW, H⟩ := H
   have zz := t2makeS (m := (((([] : List part)) ++ ([(⟨((0 : Int) + r13.Start), r13.Final, (0 : Int)⟩ : part)])).length : Int)) (e' := 4) Fl.bool underlying40 ti22 hO yP lW (by decide)
   obtain ⟨YV, rs, HY, adT, H0, hz396⟩ := zz
   refine zg (H0 rfl rfl) ?_
   refine nst HY fun s hO => ?_
   refine au ?_
   refine zo (J0t underlying81 rfl (Els.neqW bY.u hO 8 rfl)) ?_
   refine au ?_
   refine sdr [9] hO fun s hO => ?_
   refine lv [2, 5, 7, 8, 13, 162, 163] hO H (fun E (gQ, tm) σ w => ∃ tn, (fun Z => Lo A w0 σ w [(164, .int .i64 (gQ : Int))] Z ∧ Els (rppart) (bl Z ++ A) w jB ((([] : List part)) ++ ([(⟨((0 : Int) + r13.Start), r13.Final, (0 : Int)⟩ : part)])) ∧ ISs (bl Z ++ A) w eQ eU r158.Gens ∧ ISs (bl Z ++ A) w d9 eg r158.Elems ∧ ISi (bl Z ++ A) w dO dP r158.Prefix ∧ ISi (bl Z ++ A) w eV eX r158.Last ∧ ISs (bl Z ++ A) w eh en r158.Right ∧ ISl (rpRule) (bl Z ++ A) w eo eA r158.Rules) (E.set 0 (t2 Fl.bool 22 4 rs (((([] : List part)) ++ ([(⟨((0 : Int) + r13.Start), r13.Final, (0 : Int)⟩ : part)])).length) (((([] : List part)) ++ ([(⟨((0 : Int) + r13.Start), r13.Final, (0 : Int)⟩ : part)])).length) tn tm))) ⟨_, ⟨agr, hO, fr⟩, bY.u, av.u, ae.u, af.u, am.u, ad.u, ap.u⟩ ?_
   refine fun X7 => p1 fun gQ tm => fun H hX7 σ alI hk => e1 fun tn => d1 fun hL => d1 fun bY => d1 fun av => d4 fun ae af am ad ap => lh hk (fun hO hB => ?_) hL
   dsimp only [esets, sS, sZ] at hO hB bY av ae af am ad ap
   dsimp only at H
   revert hO; repeat (rename Owns .. => q; clear q)
   intro hO; repeat (rename Sq .. => q; clear q)
   refine scm H (fun H1 H => ?_) fun H1 H => ?_
   ·refine au ?_
    obtain ⟨yQ, H⟩ := H
    obtain ⟨yR, H⟩ := H
    refine zo (J04 underlying81 ti120 rfl rfl yQ (ltn (Els.neqW bY hO 8 rfl) yR) (Els.psomeW bY hO 8 rfl yQ yR)) ?_
    have Pk := oldAggR 8 hO rfl (r := rppart) bY yQ yR
    obtain ⟨adU, Pl, hR407, H2⟩ := Pk
    replace hR407 := J6e Pl hR407
    obtain ⟨YW, YX, hcs409, iI⟩ := hR407
    subst hcs409
    refine zs (H2 underlying120 rfl ti120 rfl) ?_
    refine sal hO fun YY B414 s hO => ?_
    refine sba 0 hO fun alJ s hO => ?_
    refine smk Fl.bool H hO fun alK Y0 s hO => ?_
    replace H := H.2.2
    obtain ⟨yS, H⟩ := H
    obtain ⟨oq, H⟩ := H
    refine zo (J04 underlying40 ti22 rfl rfl yS (ltn (t2neq 2 hO rfl) oq) (t2some 2 hO rfl yS oq)) ?_
    refine op1 0 hO fun adV s hO gY => ?_
    refine sfr 2 hO fun s hO => ?_
    refine sfr 1 hO fun s hO => ?_
    have zz := t2put (hf := Fl.bool) hO gY.u yS oq
    obtain ⟨alL, H3, H4⟩ := zz
    refine zg (H4 underlying22 rfl ti22 (by exact rfl) (by exact rfl)) ?_
    refine nst H3 fun s hO => ?_
    refine sln0 ?_
    refine au ?_
    refine lv [2, 5, 7, 8, 13, 14, 15, 162, 163, 164, 175, 176] hO H (fun E (uU, BM) σ w => (fun Z => Lo A w0 σ w [(177, .int .i64 (uU : Int))] Z ∧ Els (rppart) (bl Z ++ A) w jB ((([] : List part)) ++ ([(⟨((0 : Int) + r13.Start), r13.Final, (0 : Int)⟩ : part)])) ∧ ISs (bl Z ++ A) w eQ eU r158.Gens ∧ ISs (bl Z ++ A) w d9 eg r158.Elems ∧ ISi (bl Z ++ A) w dO dP r158.Prefix ∧ ISi (bl Z ++ A) w eV eX r158.Last ∧ ISs (bl Z ++ A) w eh en r158.Right ∧ ISl (rpRule) (bl Z ++ A) w eo eA r158.Rules ∧ ISb (bl Z ++ A) w YW YX ((ix ((([] : List part)) ++ ([(⟨((0 : Int) + r13.Start), r13.Final, (0 : Int)⟩ : part)])) (gQ : Int)).final)) (E.set 0 (t2 Fl.bool 22 4 rs (((([] : List part)) ++ ([(⟨((0 : Int) + r13.Start), r13.Final, (0 : Int)⟩ : part)])).length) (((([] : List part)) ++ ([(⟨((0 : Int) + r13.Start), r13.Final, (0 : Int)⟩ : part)])).length) (hup tn (gQ : Int).toNat (Y0, r158.Elems.length)) BM))) ⟨⟨agr, hO, fr⟩, bY.u, av.u, ae.u, af.u, am.u, ad.u, ap.u, iI.u⟩ ?_
    refine fun X8 => p1 fun uU BM => fun H hX8 σ Ur hk => d1 fun hL => d1 fun bY => d1 fun av => d1 fun ae => d4 fun af am ad ap iI => lh hk (fun hO hB => ?_) hL
    dsimp only [esets, sS, sZ] at hO hB bY av ae af am ad ap iI
    dsimp only at H
    revert hO; repeat (rename Owns .. => q; clear q)
    intro hO; repeat (rename Sq .. => q; clear q)
    refine scm H (fun H5 H => ?_) fun H5 H => ?_
    ·refine sxls hO ae H.1 H.2.1 fun alM alN tp => ?_
     refine au ?_
     refine drs 1 [q0, q0, q0, q1, q0, q1, q0, q2, q0, q3] hO fun alO s hO => ?_
     refine au ?_
     have alP := H.1
     have alQ := H.2.1
     replace H := H.2.2
     obtain ⟨jW, H⟩ := H
     obtain ⟨jX, H⟩ := H
     refine GoQ.pure rfl (J04 underlying40 ti22 rfl rfl jW (ltn (t2neq 0 hO rfl) jX) (t2some 0 hO rfl jW jX)) rfl rfl ?_
     refine GoQ.stable rfl (t2head 0 hO rfl jW jX underlying22 rfl rfl) rfl rfl ?_
     refine sag 1 hO ?_
     refine au ?_
     refine zcq rfl (J02 body103 rfl (J0R (p := (⟨((ix ((([] : List part)) ++ ([(⟨((0 : Int) + r13.Start), r13.Final, (0 : Int)⟩ : part)])) (gQ : Int)).start), (ix ((([] : List part)) ++ ([(⟨((0 : Int) + r13.Start), r13.Final, (0 : Int)⟩ : part)])) (gQ : Int)).final, ((ix ((([] : List part)) ++ ([(⟨((0 : Int) + r13.Start), r13.Final, (0 : Int)⟩ : part)])) (gQ : Int)).shift)⟩ : part)) hO.lt iI.u tp.u H)) fun _ alR => e1 fun H6 => sq0 hO fun s hO => fun H => ?_
     obtain ⟨yT, H⟩ := H
     obtain ⟨yU, H⟩ := H
     refine GoQ.pure rfl (J04 underlying22 ti4 rfl rfl yT yU (t2isome 0 hO rfl jW jX yT yU)) rfl rfl ?_
     have zz := t2st (r := Rp.bool) (hf := Fl.bool) rfl 0 hO rfl jW jX yT yU (v := .bool H6) (u := H6) rfl rfl
     obtain ⟨Y1, H7, H8⟩ := zz
     refine GoQ.last rfl (H8 underlying4 rfl ti4 (by exact rfl) (by exact rfl)) rfl rfl ?_
     refine nst H7 fun s hO => ?_
     refine sinc (natbd H5 ae.bd) ?_
     refine au ?_
     exact hX8 _ H _ _ agr ⟨⟨agr, hO, fr⟩, bY.u, av.u, ae.u, af.u, am.u, ad.u, ap.u, iI.u⟩
    refine sinc (natbd H1 bY.bd) ?_
    refine au ?_
    refine sdr [1] hO fun s hO => ?_
    exact hX7 _ H _ _ agr ⟨_, ⟨agr, hO, fr⟩, bY.u, av.u, ae.u, af.u, am.u, ad.u, ap.u⟩
   refine sag 1 hO ?_
   refine sba 7 hO fun alS s hO => ?_
   refine au ?_
   refine Go1.retC3V func63 rfl rfl (rlb 7 hO) (show _ = .slice rs (((([] : List part)) ++ ([(⟨((0 : Int) + r13.Start), r13.Final, (0 : Int)⟩ : part)])).length) (((([] : List part)) ++ ([(⟨((0 : Int) + r13.Start), r13.Final, (0 : Int)⟩ : part)])).length) from rfl) (show _ = .int .i64 (0 : Int) from rfl) ?_
   refine hR152 _ _ ?_
   refine sal hO fun Y2 B448 s hO => ?_
   refine sba 0 hO fun alT s hO => ?_
   refine au ?_
   refine zo (fun w => opB (J34 rfl rfl w) (ndT (by decide))) ?_
   refine au ?_
   obtain ⟨tq, H⟩ := H
   obtain ⟨tt, H⟩ := H
   refine zo (J04 underlying40 ti22 rfl rfl tq (ltn (t2neq 1 hO rfl) tt) (t2some 1 hO rfl tq tt)) ?_
   refine zs (t2head 1 hO rfl tq tt underlying22 rfl rfl) ?_
   refine sbs 0 hO fun V8 s hO => ?_
   refine sag 0 hO ?_
   refine sba 10 hO fun alU s hO => ?_
   refine au ?_
   refine sfz2 5 hO fun s hO tu BN => ?_
   refine sfz 4 hO fun s hO Pm Pn => ?_
   refine sfz 4 hO fun s hO Po Pp => ?_
   have Pq := t2lendIn 1 hO rfl tq tt
   refine sfz2 1 hO fun s hO adW adX => ?_
   refine sfz 2 hO fun s hO Pr Ps => ?_
   refine Go1.retC2 func19 rfl rfl (rlb 5 hO) ⟨((⟨(fO.length : Int), te, m7, r182, (ix tm (0 : Int)), d_275⟩ : Syntactic)), _, _, _, _, _, _, _, _, _, _, _, ?_, frs, tu.r, Pm.r, Po.r, Pq.r, Pr.r, H⟩
   exact (congrArg (fun l => Value.tuple (List.toArray l)) (J01 (congrArg (fun l => Value.agg (List.toArray l)) (J01 rfl (J01 (congrArg (fun nn => Value.slice (some ⟨jf, 0, none⟩) nn r158.Elems.length) BN) (J01 (congrArg (fun nn => Value.slice (some ⟨pe, 0, none⟩) nn r158.Elems.length) Pn) (J01 (congrArg (fun nn => Value.slice o9 nn pc) Pp) (J01 rfl (J01 (congrArg (fun nn => Value.slice (some ⟨ma, 0, none⟩) nn r158.Elems.length) Ps) rfl))))))) (J01 rfl rfl)))
  refine au ?_
  refine zo (J05 underlying33 ti33 (pl := [(0, 1), (1, 1), (2, 1), (3, 1), (4, 1), (5, 1)]) (vs := []) (cs := #[.int .i64 (0 : Int), .slice none 0 0, .slice none 0 0, .slice none 0 0, .slice none 0 0, .slice none 0 0]) (by kernel_rfl) rfl (by kernel_rfl)) ?_
  refine sba 1 hO fun V9 s hO => ?_
  refine au ?_
  refine Go1.retC3V func63 rfl rfl (rlb 1 hO) (show _ = .slice none 0 0 from rfl) (show _ = .int .i64 r159 from rfl) ?_
  refine hR152 _ _ ?_
  refine sal hO fun alV B468 s hO => ?_
  refine sba 0 hO fun Y3 s hO => ?_
  refine au ?_
  refine zo (fun w => opB (J34 rfl rfl w) (ndF HI)) ?_
  refine au ?_
  refine zo (J05 underlying33 ti33 (pl := [(0, 1), (1, 1), (2, 1), (3, 1), (4, 1), (5, 1)]) (vs := []) (cs := #[.int .i64 (0 : Int), .slice none 0 0, .slice none 0 0, .slice none 0 0, .slice none 0 0, .slice none 0 0]) (by kernel_rfl) rfl (by kernel_rfl)) ?_
  refine sba 6 hO fun alW s hO => ?_
  refine au ?_
  refine Go1.retC2 func19 rfl rfl (rlb 6 hO) ⟨((⟨(0 : Int), ([] : List (List Int)), ([] : List Str), ([] : List Int), ([] : List Bool), ([] : List Bool)⟩ : Syntactic)), _, _, _, _, _, _, _, _, _, _, _, er, frs, (ISl.null _ _ _), (ISl.null _ _ _), (ISl.null _ _ _), (ISl.null _ _ _), (ISl.null _ _ _), H⟩
 refine au ?_
 refine zo (J05 underlying33 ti33 (pl := [(0, 1), (1, 1), (2, 1), (3, 1), (4, 1), (5, 1)]) (vs := []) (cs := #[.int .i64 (0 : Int), .slice none 0 0, .slice none 0 0, .slice none 0 0, .slice none 0 0, .slice none 0 0]) (by kernel_rfl) rfl (by kernel_rfl)) ?_
 refine sba 0 hO fun alX s hO => ?_
 refine au ?_
 refine Go1.retC2 func19 rfl rfl (rlb 0 hO) ⟨((⟨(0 : Int), ([] : List (List Int)), ([] : List Str), ([] : List Int), ([] : List Bool), ([] : List Bool)⟩ : Syntactic)), _, _, _, _, _, _, _, _, _, _, _, er, frs, (ISl.null _ _ _), (ISl.null _ _ _), (ISl.null _ _ _), (ISl.null _ _ _), (ISl.null _ _ _), H⟩
theorem body48 : Body prog 48 := ⟨f48, func48, rfl, by kernel_rfl⟩
theorem J3v {p_a p_b : Option Addr} {c_a c_b : Nat} {a b : List Str} (hA : HA0 A w0) (h_a : ISt A w0 p_a c_a a) (h_b : ISt A w0 p_b c_b b) {K : Bool → Prop} (H : J27 a b K) :
    CallsV prog 48 #[.slice p_a a.length c_a, .slice p_b b.length c_b] w0 (fun v w' => ∃ (r0 : Bool), v = .bool r0 ∧ Same w0 w' ∧ K r0) := by
 refine cal hA func48 ntmps48 fun hO hB => ?_
 unfold J27 at H
 refine sln0 ?_
 refine sln0 ?_
 refine scm ((H h_a.bd) h_b.bd) (fun h1 H => ?_) fun h1 H => ?_
 ·refine sln0 ?_
  refine au ?_
  refine lv [0, 1, 12] hO H (fun E k1_3 σ w => Lo A w0 σ w [(13, .int .i64 (k1_3 : Int))] []) ⟨agr, hO, fr⟩ ?_
  refine fun X1 => fun k1_3 => fun H hX1 σ w2 hk => lh hk fun hO hB => ?_
  refine scm H (fun h4 H => ?_) fun h4 H => ?_
  ·refine au ?_
   refine drs 0 [q0, q0, q0, q1, q0, q0, q0, q1, q0] hO fun w5 s hO => ?_
   refine sxl hO h_a.u H.1 H.2.1 ?_
   have hle6 := ISl.J8w h_a H.1 H.2.1
   refine sxl hO h_b.u H.2.2.1 H.2.2.2.1 ?_
   have hle7 := ISl.J8w h_b H.2.2.1 H.2.2.2.1
   have h8 := H.1
   have h9 := H.2.1
   have h10 := H.2.2.1
   have h11 := H.2.2.2.1
   refine scm H.2.2.2.2 (fun h12 H => ?_) fun h12 H => ?_
   ·refine sinc (natbd h4 h_a.bd) ?_
    refine au ?_
    exact hX1 _ H _ _ agr ⟨agr, hO, fr⟩
   refine au ?_
   refine Go1.ret1 func48 rfl ⟨_, er, frs, H⟩
  refine au ?_
  refine Go1.ret1 func48 rfl ⟨_, er, frs, H⟩
 refine au ?_
 refine Go1.ret1 func48 rfl ⟨_, er, frs, H⟩
theorem body18 : Body prog 18 := ⟨f18, func18, rfl, by kernel_rfl⟩
theorem J1X (hA : HA0 A w0) {K : Bool → Prop} (H : law21_awake  K) :
    CallsV prog 18 #[] w0 (fun v w' => ∃ (r0 : Bool), v = .bool r0 ∧ Same w0 w' ∧ K r0) := by
 refine cal hA func18 ntmps18 fun hO hB => ?_
 unfold law21_awake at H
 refine au ?_
 refine zcr (J02 body60 rfl (J6G hO.lt H)) fun _ w2 => e4 fun r1 Pt Pu Tn => e1 fun To => sc0 hO fun s hO => d2 fun tv uV H => ?_
 refine zcr (J02 body19 rfl (J4T hO.lt tv uV H)) fun _ w5 => e4 fun r3 r4 Pv Pw => e4 fun Px Py Je Jf => e4 fun Jg Jh Tp Tq => sc0 hO fun s hO => d1 fun Pz => d4 fun tw Ji fx Ts H => ?_
 refine sal hO fun w6 B7 s hO => ?_
 refine sba 0 hO fun w9 s hO => ?_
 refine scm H (fun h10 H => ?_) fun h10 H => ?_
 ·refine sbu Fl.str 9 [(([] : Str)), (([97] : Str)), (([98] : Str)), (([97, 97] : Str)), (([97, 98] : Str)), (([98, 97] : Str))] hO (fun w11 p12 s hO => ?_) (hE := fun _ _ => (Els.cons rfl ⟨rfl, (by decide)⟩ (Els.cons rfl ⟨rfl, (by decide)⟩ (Els.cons rfl ⟨rfl, (by decide)⟩ (Els.cons rfl ⟨rfl, (by decide)⟩ (Els.cons rfl ⟨rfl, (by decide)⟩ (Els.cons rfl ⟨rfl, (by decide)⟩ (Els.nil _ _ _) (by simp [mx])) (by simp [mx])) (by simp [mx])) (by simp [mx])) (by simp [mx])) (by simp [mx])))
  have Y4 := t1lend 0 hO
  have ii := t1n 0 hO
  have hOc16 := hO.drop 0
  refine zcr (J02 body48 (by rw [ii]; exact rfl) (J3v hOc16.lt (tw.u.ch (Owns.J0c _ _ 0)) Y4 H)) fun _ w18 => e1 fun r17 => sc0 hO fun s hO => fun H => ?_
  refine au ?_
  cases r17
  ·refine au ?_
   refine Go1.ret1 func18 rfl ⟨_, er, frs, (iF H)⟩
  refine sln0 ?_
  refine scm ((iT H) fx.bd) (fun h19 H => ?_) fun h19 H => ?_
  ·refine six fx H.1 H.2.1 ?_
   have h20 := H.1
   have h21 := H.2.1
   refine sbd hO fx.u H.1 H.2.1 H.2.2 (fun h22 H => ?_) fun h22 H => ?_
   ·refine six fx H.1 H.2.1 ?_
    have h23 := H.1
    have h24 := H.2.1
    refine sbd hO fx.u H.1 H.2.1 H.2.2 (fun h25 H => ?_) fun h25 H => ?_
    ·refine au ?_
     refine Go1.ret1 func18 rfl ⟨_, er, frs, H⟩
    refine au ?_
    refine Go1.ret1 func18 rfl ⟨_, er, frs, H⟩
   refine au ?_
   refine Go1.ret1 func18 rfl ⟨_, er, frs, H⟩
  refine au ?_
  refine Go1.ret1 func18 rfl ⟨_, er, frs, H⟩
 refine au ?_
 refine Go1.ret1 func18 rfl ⟨_, er, frs, H⟩
theorem body111 : Body prog 111 := ⟨f111, func111, rfl, by kernel_rfl⟩
theorem J2Y {p_l : Option Addr} {c_l : Nat} {l : List Int} (hA : HA0 A w0) (h_l : ISi A w0 p_l c_l l) {K : List Int → Prop} (H : J18 l K) :
    CallsV prog 111 #[.slice p_l l.length c_l] w0 (fun v w' => ∃ (r0 : List Int), ∃ (p_r0 : Option Addr), ∃ (c_r0 : Nat), v = .slice p_r0 r0.length c_r0 ∧ Same w0 w' ∧ ISi A w' p_r0 c_r0 r0 ∧ K r0) := by
 refine cal hA func111 ntmps111 fun hO hB => ?_
 unfold J18 at H
 refine au ?_
 have zz := omakeMap (fun a : Int => Value.int .i64 a) (fun a : Int => Value.int .i64 a) hO
 obtain ⟨w1, B2, Y5, hs4, Y6⟩ := zz
 refine zg Y6 ?_
 refine nst Y5 fun s hO => ?_
 refine sln0 ?_
 refine smk Fl.i (H h_l.bd) hO fun w7 p8 s hO => ?_
 refine sln0 ?_
 refine au ?_
 refine lv [3, 4, 13, 14] hO (H h_l.bd).2.2 (fun E (k1_11, out1_12, jC) σ w => Lo A w0 σ w [(15, .int .i64 (k1_11 : Int))] [t1 Fl.i 3 p8 l.length l.length out1_12, .any (mapE (fun a : Int => Value.int .i64 a) (fun a : Int => Value.int .i64 a) B2 jC)]) ⟨agr, hO, fr⟩ ?_
 refine fun X1 => p2 fun k1_11 out1_12 jC => fun H hX1 σ w10 hk => lh hk fun hO hB => ?_
 dsimp only at H
 revert hO; repeat (rename Owns .. => q; clear q)
 intro hO; repeat (rename Sq .. => q; clear q)
 refine scm H (fun h14 H => ?_) fun h14 H => ?_
 ·refine sxl hO h_l.u H.1 H.2.1 ?_
  refine au ?_
  have h15 := H.1
  have h16 := H.2.1
  replace H := H.2.2
  by_cases h17 : mhas jC ((ix l (k1_11 : Int))) = true
  ·refine zs (olookT (a := (ix l (k1_11 : Int))) (MK.int underlying3) 1 hO rfl underlying168 rfl rfl h17) ?_
   refine six1 0 hO (ifp h17 H).1 (ifp h17 H).2.1 ?_
   refine sst (u := (mgt jC ((ix l (k1_11 : Int))))) 0 hO (ifp h17 H).1 (ifp h17 H).2.1 fun w18 s hO => ?_
   refine sinc (natbd h14 h_l.bd) ?_
   refine au ?_
   exact hX1 _ (ifp h17 H).2.2 _ _ agr ⟨agr, hO, fr⟩
  refine zs (olookF (a := (ix l (k1_11 : Int))) (MK.int underlying3) 1 hO rfl underlying168 ti3 rfl rfl h17) ?_
  refine au ?_
  refine zs (omapLen 1 hO rfl underlying168 rfl) ?_
  refine au ?_
  have zz := omapUpd (MK.int underlying3) 1 hO rfl underlying168 (ix l (k1_11 : Int)) (jC.length : Int)
  obtain ⟨w19, rW, PA⟩ := zz
  refine zg (PA (by exact rfl) (by exact rfl) (by exact rfl)) ?_
  refine nst rW fun s hO => ?_
  refine six1 0 hO (ifn h17 H).1 (ifn h17 H).2.1 ?_
  refine sst (u := (jC.length : Int)) 0 hO (ifn h17 H).1 (ifn h17 H).2.1 fun w22 s hO => ?_
  refine sinc (natbd h14 h_l.bd) ?_
  refine au ?_
  exact hX1 _ (ifn h17 H).2.2 _ _ agr ⟨agr, hO, fr⟩
 refine au ?_
 refine sfz 0 hO fun s hO Y7 Y8 => ?_
 refine Go1.ret1 func111 rfl ⟨_, _, _, ?_, frs, Y7.r, H⟩
 exact (congrArg (fun nn => Value.slice p8 nn l.length) Y8)
theorem body112 : Body prog 112 := ⟨f112, func112, rfl, by kernel_rfl⟩
theorem J5E {p_p p_q : Option Addr} {c_p c_q : Nat} {p q : List Int} (hA : HA0 A w0) (h_p : ISi A w0 p_p c_p p) (h_q : ISi A w0 p_q c_q q) {K : List Int → Prop} (H : J30 p q K) :
    CallsV prog 112 #[.slice p_p p.length c_p, .slice p_q q.length c_q] w0 (fun v w' => ∃ (r0 : List Int), ∃ (p_r0 : Option Addr), ∃ (c_r0 : Nat), v = .slice p_r0 r0.length c_r0 ∧ Same w0 w' ∧ ISi A w' p_r0 c_r0 r0 ∧ K r0) := by
 refine cal hA func112 ntmps112 fun hO hB => ?_
 unfold J30 at H
 refine sln0 ?_
 refine smk Fl.i (H h_p.bd) hO fun w1 p4 s hO => ?_
 refine sln0 ?_
 refine au ?_
 refine lv [0, 1, 5, 11] hO (H h_p.bd).2.2 (fun E (aK, out1_8) σ w => Lo A w0 σ w [(12, .int .i64 (aK : Int))] [t1 Fl.i 3 p4 p.length p.length out1_8]) ⟨agr, hO, fr⟩ ?_
 refine fun X1 => p1 fun aK out1_8 => fun H hX1 σ w6 hk => lh hk fun hO hB => ?_
 dsimp only at H
 revert hO; repeat (rename Owns .. => q; clear q)
 intro hO; repeat (rename Sq .. => q; clear q)
 refine scm H (fun h9 H => ?_) fun h9 H => ?_
 ·refine au ?_
  refine drs 1 [q0, q0, q0, q0, q0, q1, q0, q0, q0, q0, q0, q0, q0, q1, q0, q0, q3] hO fun w10 s hO => ?_
  refine sxl hO h_p.u H.1 H.2.1 ?_
  refine sln0 ?_
  have h11 := H.1
  have h12 := H.2.1
  replace H := H.2.2
  obtain ⟨h13, H⟩ := H
  refine GoQ.pure rfl (J03 rfl rfl (wrap_i64 h13)) rfl rfl ?_
  obtain ⟨h14, H⟩ := H
  refine GoQ.pure rfl (J9X rfl rfl (wrap_i64 h14)) rfl rfl ?_
  refine sxl hO h_q.u H.1 H.2.1 ?_
  have h15 := H.1
  have h16 := H.2.1
  replace H := H.2.2
  obtain ⟨h17, H⟩ := H
  refine GoQ.pure rfl (J03 rfl rfl (wrap_i64 h17)) rfl rfl ?_
  refine six1 0 hO H.1 H.2.1 ?_
  refine sst (u := (((ix p (aK : Int)) * (p.length + 1 : Int)) + (ix q (aK : Int)))) 0 hO H.1 H.2.1 fun w18 s hO => ?_
  refine sinc (natbd h9 h_p.bd) ?_
  refine au ?_
  exact hX1 _ H.2.2 _ _ agr ⟨agr, hO, fr⟩
 refine au ?_
 refine sfz 0 hO fun s hO jO yV => ?_
 refine zcr (J02 body111 (by rw [yV]; exact rfl) (J2Y hO.lt jO H)) fun _ w22 => e3 fun r21 PB PC => sc0 hO fun s hO => d1 fun tx H => ?_
 refine au ?_
 refine Go1.ret1 func112 rfl ⟨_, _, _, er, frs, tx.r, H⟩
theorem body49 : Body prog 49 := ⟨f49, func49, rfl, by kernel_rfl⟩
theorem J1b {p_a p_b : Option Addr} {c_a c_b : Nat} {a b : List Int} (hA : HA0 A w0) (h_a : ISi A w0 p_a c_a a) (h_b : ISi A w0 p_b c_b b) {K : Bool → Prop} (H : J15 a b K) :
    CallsV prog 49 #[.slice p_a a.length c_a, .slice p_b b.length c_b] w0 (fun v w' => ∃ (r0 : Bool), v = .bool r0 ∧ Same w0 w' ∧ K r0) := by
 refine cal hA func49 ntmps49 fun hO hB => ?_
 unfold J15 at H
 refine sln0 ?_
 refine sln0 ?_
 refine scm ((H h_a.bd) h_b.bd) (fun h1 H => ?_) fun h1 H => ?_
 ·refine sln0 ?_
  refine au ?_
  refine lv [0, 1, 12] hO H (fun E k1_3 σ w => Lo A w0 σ w [(13, .int .i64 (k1_3 : Int))] []) ⟨agr, hO, fr⟩ ?_
  refine fun X1 => fun k1_3 => fun H hX1 σ w2 hk => lh hk fun hO hB => ?_
  refine scm H (fun h4 H => ?_) fun h4 H => ?_
  ·refine au ?_
   refine drs 0 [q0, q0, q0, q1, q0, q0, q0, q1, q0] hO fun w5 s hO => ?_
   refine sxl hO h_a.u H.1 H.2.1 ?_
   refine sxl hO h_b.u H.2.2.1 H.2.2.2.1 ?_
   have h6 := H.1
   have h7 := H.2.1
   have h8 := H.2.2.1
   have h9 := H.2.2.2.1
   refine scm H.2.2.2.2 (fun h10 H => ?_) fun h10 H => ?_
   ·refine sinc (natbd h4 h_a.bd) ?_
    refine au ?_
    exact hX1 _ H _ _ agr ⟨agr, hO, fr⟩
   refine au ?_
   refine Go1.ret1 func49 rfl ⟨_, er, frs, H⟩
  refine au ?_
  refine Go1.ret1 func49 rfl ⟨_, er, frs, H⟩
 refine au ?_
 refine Go1.ret1 func49 rfl ⟨_, er, frs, H⟩
theorem body67 : Body prog 67 := ⟨f67, func67, rfl, by kernel_rfl⟩
theorem J4z {bu bV : Option Addr} {bw bW : Nat} {d : DFA} (hA : HA0 A w0) (aT : ISb A w0 bu bw d.Final) (b9 : ISs A w0 bV bW d.Next) {K : List Int → Prop} (H : J1h d K) :
    CallsV prog 67 #[.agg (cDF d bu bw bV bW)] w0 (fun v w' => ∃ (r0 : List Int), ∃ (p_r0 : Option Addr), ∃ (c_r0 : Nat), v = .slice p_r0 r0.length c_r0 ∧ Same w0 w' ∧ ISi A w' p_r0 c_r0 r0 ∧ K r0) := by
 refine cal hA func67 ntmps67 fun hO hB => ?_
 unfold J1h at H
 refine sbx hO fun w1 B2 s hO => ?_
 refine sln0 ?_
 refine smk Fl.i (H aT.bd) hO fun w4 p5 s hO => ?_
 refine sln1 0 hO ?_
 refine au ?_
 refine lv [1, 3, 14] hO (H aT.bd).2.2 (fun E (k1_8, H9) σ w => Lo A w0 σ w [(15, .int .i64 (k1_8 : Int))] (E.set 0 (t1 Fl.i 3 p5 d.Final.length d.Final.length H9))) ⟨agr, hO, fr⟩ ?_
 refine fun X1 => p1 fun k1_8 H9 => fun H hX1 σ w7 hk => lh hk fun hO hB => ?_
 dsimp only [esets, sS, sZ] at hO hB
 dsimp only at H
 revert hO; repeat (rename Owns .. => q; clear q)
 intro hO; repeat (rename Sq .. => q; clear q)
 refine scm H (fun h10 H => ?_) fun h10 H => ?_
 ·refine au ?_
  have h11 := H.1
  have h12 := H.2.1
  refine sxb hO aT.u H.1 H.2.1 H.2.2 (fun h13 H => ?_) fun h13 H => ?_
  ·refine six1 0 hO H.1 H.2.1 ?_
   refine sst (u := (1 : Int)) 0 hO H.1 H.2.1 fun w14 s hO => ?_
   refine au ?_
   have h15 := H.1
   have h16 := H.2.1
   replace H := H.2.2
   obtain ⟨h17, H⟩ := H
   refine zo (J03 rfl rfl (wrap_i64 h17)) ?_
   refine au ?_
   exact hX1 _ H _ _ agr ⟨agr, hO, fr⟩
  refine au ?_
  obtain ⟨h18, H⟩ := H
  refine zo (J03 rfl rfl (wrap_i64 h18)) ?_
  refine au ?_
  exact hX1 _ H _ _ agr ⟨agr, hO, fr⟩
 refine au ?_
 refine sfz 0 hO fun s hO jO yV => ?_
 refine zcr (J02 body111 (by rw [yV]; exact rfl) (J2Y hO.lt jO H)) fun _ w22 => e3 fun r21 PB PC => sc0 hO fun s hO => d1 fun tx H => ?_
 refine au ?_
 refine lv [1] hO H (fun E jD σ w => ∃ p25 c26, (fun Z => Lo A w0 σ w [(3, .slice p25 jD.length c26)] Z ∧ ISi (bl Z ++ A) w p25 c26 jD) E) ⟨_, _, ⟨agr, hO, fr⟩, tx⟩ ?_
 refine fun X2 => fun jD => fun H hX2 σ w23 hk => e2 fun p25 c26 => d1 fun hL => fun fW => lh hk (fun hO hB => ?_) hL
 revert hO; repeat (rename Owns .. => q; clear q)
 intro hO; repeat (rename Sq .. => q; clear q)
 refine au ?_
 refine lv [1, 3] hO H (fun E (next3_29, tz) σ w => ∃ p30 c31, (fun Z => Lo A w0 σ w [(5, .slice p30 next3_29.length c31), (6, .int .i64 (tz : Int))] Z ∧ ISi (bl Z ++ A) w p25 c26 jD ∧ ISi (bl Z ++ A) w p30 c31 next3_29) E) ⟨_, _, ⟨agr, hO, fr⟩, fW, fW⟩ ?_
 refine fun X3 => p1 fun next3_29 tz => fun H hX3 σ w28 hk => e2 fun p30 c31 => d1 fun hL => d1 fun fW dJ => lh hk (fun hO hB => ?_) hL
 dsimp only at H
 revert hO; repeat (rename Owns .. => q; clear q)
 intro hO; repeat (rename Sq .. => q; clear q)
 refine scm H (fun h34 H => ?_) fun h34 H => ?_
 ·refine sln0 ?_
  refine au ?_
  refine snil Fl.i 3 hO fun s hO => ?_
  refine lv [1, 3, 5, 6, 37] hO (H fW.bd) (fun E (tA, to4_38) σ w => ∃ n41 p39 c40, (fun Z => Lo A w0 σ w [(7, .slice p39 n41 c40), (38, .int .i64 (tA : Int))] Z ∧ ISi (bl Z ++ A) w p25 c26 jD ∧ ISi (bl Z ++ A) w p30 c31 next3_29) (E.set 0 (t1 Fl.i 3 p39 n41 c40 to4_38))) ⟨_, _, _, ⟨agr, hO, fr⟩, fW.u, dJ.u⟩ ?_
  refine fun X4 => p1 fun tA to4_38 => fun H hX4 σ w36 hk => e3 fun n41 p39 c40 => d1 fun hL => d1 fun fW dJ => lh hk (fun hO hB => ?_) hL
  dsimp only [esets, sS, sZ] at hO hB fW dJ
  dsimp only at H
  revert hO; repeat (rename Owns .. => q; clear q)
  intro hO; repeat (rename Sq .. => q; clear q)
  refine scm H (fun h42 H => ?_) fun h42 H => ?_
  ·refine sxls hO b9.u H.1 H.2.1 fun p43 c44 gH => ?_
   refine sxl hO gH.u H.2.2.1 H.2.2.2.1 ?_
   refine sxl hO fW H.2.2.2.2.1 H.2.2.2.2.2.1 ?_
   refine sap1 ((ix jD (ix (ix d.Next (tA : Int)) (tz : Int)))) 0 hO H.2.2.2.2.2.2 fun _ w46 p47 c48 s hO => ?_
   refine sinc (natbd h42 fW.bd) ?_
   refine au ?_
   exact hX4 _ H.2.2.2.2.2.2.2 _ _ agr ⟨_, _, _, ⟨agr, hO, fr⟩, fW.u, dJ.u⟩
  refine au ?_
  refine sfz 0 hO fun s hO iJ Y9 => ?_
  refine zcr (J02 body112 (by rw [Y9]; exact rfl) (J5E hO.lt dJ.u iJ H)) fun _ w52 => e3 fun r51 adY ad0 => sc0 hO fun s hO => d1 fun PD H => ?_
  refine au ?_
  obtain ⟨h53, H⟩ := H
  refine zo (J03 rfl rfl (wrap_i64 h53)) ?_
  refine au ?_
  exact hX3 _ H _ _ agr ⟨_, _, ⟨agr, hO, fr⟩, fW.u, PD⟩
 refine au ?_
 refine zcr (J02 body49 rfl (J1b hO.lt dJ.u fW.u H)) fun _ w55 => e1 fun r54 => sc0 hO fun s hO => fun H => ?_
 refine au ?_
 cases r54
 ·refine au ?_
  exact hX2 _ (iF H) _ _ agr ⟨_, _, ⟨agr, hO, fr⟩, dJ.u⟩
 refine au ?_
 refine Go1.ret1 func67 rfl ⟨_, _, _, er, frs, fW.r, (iT H)⟩
end Sg
