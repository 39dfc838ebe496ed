/- -/
import Derived.Test.YtlneebpmblkllaaVd
import Derived.Test.YtlneebpmblkllaaWSyntacticMonoidsc
namespace Sg
open Go Go.RowKit Go.Proofs Try
set_option linter.unusedVariables false
set_option linter.unusedSimpArgs false
set_option maxRecDepth 100000
set_option maxHeartbeats 4000000
variable {A : List Nat} {w0 : World}
theorem body113 : Body prog 113 := ⟨f113, func113, rfl, by kernel_rfl⟩
theorem J5F {ah ap : Option Addr} {aj aq : Nat} {a0 : DFA} (hA : HA0 A w0) (aa : ISb A w0 ah aj a0.Final) (ar : ISs A w0 ap aq a0.Next) {K : List Int → List Str → Prop} (H : J2c a0 K) :
    CallsV prog 113 #[.agg (cDF a0 ah aj ap aq)] w0 (fun v w' => ∃ (r0 : List Int), ∃ (r1 : List Str), ∃ (p_r0 : Option Addr), ∃ (c_r0 : Nat), ∃ (fq : Option Addr), ∃ (ft : Nat), v = .tuple #[.slice p_r0 r0.length c_r0, .slice fq r1.length ft] ∧ Same w0 w' ∧ ISi A w' p_r0 c_r0 r0 ∧ ISt A w' fq ft r1 ∧ K r0 r1) := by
 refine cal hA func113 ntmps113 fun hO hB => ?_
 unfold J2c at H
 refine sbx hO fun w1 B2 s hO => ?_
 refine sbu Fl.i 3 [a0.Start] hO fun w4 p5 s hO => ?_
 refine sbu Fl.str 9 [(([] : Str))] hO (fun w7 p8 s hO => ?_) (hE := fun _ _ => (Els.cons rfl ⟨rfl, (by decide)⟩ (Els.nil _ _ _) (by simp [mx])))
 refine sln0 ?_
 refine smk Fl.bool (H aa.bd) hO fun w10 p11 s hO => ?_
 refine six1 0 hO (H aa.bd).2.2.1 (H aa.bd).2.2.2.1 ?_
 refine sst (u := true) 0 hO (H aa.bd).2.2.1 (H aa.bd).2.2.2.1 fun w13 s hO => ?_
 refine au ?_
 refine lv [1, 6] hO (H aa.bd).2.2.2.2 (fun E (k1_15, d_16, B9, ki) σ w => ∃ n20 p18 c19 n24 p22 c23, Lo A w0 σ w [(4, .slice p22 n24 c23), (5, .slice p18 n20 c19), (7, .int .i64 (k1_15 : Int))] (esets E [(0, t1 Fl.bool 4 p11 a0.Final.length a0.Final.length d_16), (1, t1 Fl.str 9 p18 n20 c19 B9), (2, t1 Fl.i 3 p22 n24 c23 ki)])) ⟨_, _, _, _, _, _, ⟨agr, hO, fr⟩⟩ ?_
 refine fun X1 => p3 fun k1_15 d_16 B9 ki => fun H hX1 σ w14 hk => e4 fun n20 p18 c19 n24 => e2 fun p22 c23 => d2 fun hag hO hB => keep2 hk hag ?_
 dsimp only [esets, sS, sZ] at hO hB
 dsimp only at H
 revert hO; repeat (rename Owns .. => q; clear q)
 intro hO; repeat (rename Sq .. => q; clear q)
 refine sln1 2 hO ?_
 refine scm H (fun h25 H => ?_) fun h25 H => ?_
 ·refine au ?_
  refine lv [1, 6, 7] hO H (fun E (k2_27, d_28, d_29, fH) σ w => ∃ n32 p30 c31 n36 p34 c35, Lo A w0 σ w [(4, .slice p34 n36 c35), (5, .slice p30 n32 c31), (8, .int .i64 (k2_27 : Int))] (esets E [(0, t1 Fl.bool 4 p11 a0.Final.length a0.Final.length d_28), (1, t1 Fl.str 9 p30 n32 c31 d_29), (2, t1 Fl.i 3 p34 n36 c35 fH)])) ⟨_, _, _, _, _, _, ⟨agr, hO, fr⟩⟩ ?_
  refine fun X2 => p3 fun k2_27 d_28 d_29 fH => fun H hX2 σ w26 hk => e4 fun n32 p30 c31 n36 => e2 fun p34 c35 => d2 fun hag hO hB => keep2 hk hag ?_
  dsimp only [esets, sS, sZ] at hO hB
  dsimp only at H
  revert hO; repeat (rename Owns .. => q; clear q)
  intro hO; repeat (rename Sq .. => q; clear q)
  refine scm H (fun h37 H => ?_) fun h37 H => ?_
  ·refine au ?_
   refine drs 0 [q0, q1, q0, q0, q0, q1, q0, q1, q0, q0, q1, q0] hO fun w38 s hO => ?_
   refine sxl1 2 hO H.1 H.2.1 ?_
   refine sxls hO ar.u H.2.2.1 H.2.2.2.1 fun p39 c40 lM => ?_
   refine sxl hO lM.u H.2.2.2.2.1 H.2.2.2.2.2.1 ?_
   refine au ?_
   have h42 := H.1
   have h43 := H.2.1
   have h44 := H.2.2.1
   have h45 := H.2.2.2.1
   have h46 := H.2.2.2.2.1
   have h47 := H.2.2.2.2.2.1
   have h48 := H.2.2.2.2.2.2.1
   have h49 := H.2.2.2.2.2.2.2.1
   refine sxb1 0 hO H.2.2.2.2.2.2.1 H.2.2.2.2.2.2.2.1 H.2.2.2.2.2.2.2.2 (fun h50 H => ?_) fun h50 H => ?_
   ·refine au ?_
    obtain ⟨h51, H⟩ := H
    refine zo (J03 rfl rfl (wrap_i64 h51)) ?_
    refine au ?_
    exact hX2 _ H _ _ agr ⟨_, _, _, _, _, _, ⟨agr, hO, fr⟩⟩
   refine six1 0 hO H.1 H.2.1 ?_
   refine sst (u := true) 0 hO H.1 H.2.1 fun w52 s hO => ?_
   refine au ?_
   refine Go1.drawT (ok := fun _ => True) Same.tr [3, 16] 19 (.qp 0 (.qp 1 (.qp 4 (.qp 5 (.qp 6 (.qp 7 (.qp 9 (.qp 10 (.qp 11 (.alt 2 (.alt 3 (.alt 8 (.alt 12 (.alt 13 (.qp 14 (.alt 15 (.alt 16 (.qp 17 (.qp 18 .nil)) .fin) .fin)) .fin) .fin) (.alt 12 (.alt 8 (.alt 13 (.qp 14 (.alt 15 (.alt 16 (.qp 17 (.qp 18 .nil)) .fin) .fin)) .fin) (.alt 13 (.alt 8 (.qp 14 (.alt 15 (.alt 16 (.qp 17 (.qp 18 .nil)) .fin) .fin)) .fin) .fin)) .fin)) (.alt 8 (.alt 3 (.alt 12 (.alt 13 (.qp 14 (.alt 15 (.alt 16 (.qp 17 (.qp 18 .nil)) .fin) .fin)) .fin) .fin) (.alt 12 (.alt 3 (.alt 13 (.qp 14 (.alt 15 (.alt 16 (.qp 17 (.qp 18 .nil)) .fin) .fin)) .fin) (.alt 13 (.qp 14 (.alt 3 (.alt 15 (.alt 16 (.qp 17 (.qp 18 .nil)) .fin) .fin) (.alt 15 (.alt 3 (.alt 16 (.qp 17 (.qp 18 .nil)) .fin) .fin) .fin))) .fin)) .fin)) (.alt 12 (.alt 3 (.alt 8 (.alt 13 (.qp 14 (.alt 15 (.alt 16 (.qp 17 (.qp 18 .nil)) .fin) .fin)) .fin) (.alt 13 (.alt 8 (.qp 14 (.alt 15 (.alt 16 (.qp 17 (.qp 18 .nil)) .fin) .fin)) .fin) .fin)) (.alt 8 (.alt 3 (.alt 13 (.qp 14 (.alt 15 (.alt 16 (.qp 17 (.qp 18 .nil)) .fin) .fin)) .fin) (.alt 13 (.qp 14 (.alt 3 (.alt 15 (.alt 16 (.qp 17 (.qp 18 .nil)) .fin) .fin) (.alt 15 (.alt 3 (.alt 16 (.qp 17 (.qp 18 .nil)) .fin) .fin) .fin))) .fin)) (.alt 13 (.alt 3 (.alt 8 (.qp 14 (.alt 15 (.alt 16 (.qp 17 (.qp 18 .nil)) .fin) .fin)) .fin) (.alt 8 (.qp 14 (.alt 3 (.alt 15 (.alt 16 (.qp 17 (.qp 18 .nil)) .fin) .fin) (.alt 15 (.alt 3 (.alt 16 (.qp 17 (.qp 18 .nil)) .fin) .fin) .fin))) .fin)) .fin))) .fin))) (.alt 8 (.alt 2 (.alt 3 (.alt 12 (.alt 13 (.qp 14 (.alt 15 (.alt 16 (.qp 17 (.qp 18 .nil)) .fin) .fin)) .fin) .fin) (.alt 12 (.alt 3 (.alt 13 (.qp 14 (.alt 15 (.alt 16 (.qp 17 (.qp 18 .nil)) .fin) .fin)) .fin) (.alt 13 (.qp 14 (.alt 3 (.alt 15 (.alt 16 (.qp 17 (.qp 18 .nil)) .fin) .fin) (.alt 15 (.alt 3 (.alt 16 (.qp 17 (.qp 18 .nil)) .fin) .fin) .fin))) .fin)) .fin)) (.alt 12 (.alt 2 (.alt 3 (.alt 13 (.qp 14 (.alt 15 (.alt 16 (.qp 17 (.qp 18 .nil)) .fin) .fin)) .fin) (.alt 13 (.qp 14 (.alt 3 (.alt 15 (.alt 16 (.qp 17 (.qp 18 .nil)) .fin) .fin) (.alt 15 (.alt 3 (.alt 16 (.qp 17 (.qp 18 .nil)) .fin) .fin) .fin))) .fin)) (.alt 13 (.qp 14 (.alt 2 (.alt 3 (.alt 15 (.alt 16 (.qp 17 (.qp 18 .nil)) .fin) .fin) (.alt 15 (.alt 3 (.alt 16 (.qp 17 (.qp 18 .nil)) .fin) .fin) .fin)) (.alt 15 (.alt 2 (.alt 3 (.alt 16 (.qp 17 (.qp 18 .nil)) .fin) .fin) .fin) .fin))) .fin)) .fin)) (.alt 12 (.alt 2 (.alt 3 (.alt 8 (.alt 13 (.qp 14 (.alt 15 (.alt 16 (.qp 17 (.qp 18 .nil)) .fin) .fin)) .fin) (.alt 13 (.alt 8 (.qp 14 (.alt 15 (.alt 16 (.qp 17 (.qp 18 .nil)) .fin) .fin)) .fin) .fin)) (.alt 8 (.alt 3 (.alt 13 (.qp 14 (.alt 15 (.alt 16 (.qp 17 (.qp 18 .nil)) .fin) .fin)) .fin) (.alt 13 (.qp 14 (.alt 3 (.alt 15 (.alt 16 (.qp 17 (.qp 18 .nil)) .fin) .fin) (.alt 15 (.alt 3 (.alt 16 (.qp 17 (.qp 18 .nil)) .fin) .fin) .fin))) .fin)) (.alt 13 (.alt 3 (.alt 8 (.qp 14 (.alt 15 (.alt 16 (.qp 17 (.qp 18 .nil)) .fin) .fin)) .fin) (.alt 8 (.qp 14 (.alt 3 (.alt 15 (.alt 16 (.qp 17 (.qp 18 .nil)) .fin) .fin) (.alt 15 (.alt 3 (.alt 16 (.qp 17 (.qp 18 .nil)) .fin) .fin) .fin))) .fin)) .fin))) (.alt 8 (.alt 2 (.alt 3 (.alt 13 (.qp 14 (.alt 15 (.alt 16 (.qp 17 (.qp 18 .nil)) .fin) .fin)) .fin) (.alt 13 (.qp 14 (.alt 3 (.alt 15 (.alt 16 (.qp 17 (.qp 18 .nil)) .fin) .fin) (.alt 15 (.alt 3 (.alt 16 (.qp 17 (.qp 18 .nil)) .fin) .fin) .fin))) .fin)) (.alt 13 (.qp 14 (.alt 2 (.alt 3 (.alt 15 (.alt 16 (.qp 17 (.qp 18 .nil)) .fin) .fin) (.alt 15 (.alt 3 (.alt 16 (.qp 17 (.qp 18 .nil)) .fin) .fin) .fin)) (.alt 15 (.alt 2 (.alt 3 (.alt 16 (.qp 17 (.qp 18 .nil)) .fin) .fin) .fin) .fin))) .fin)) (.alt 13 (.alt 2 (.alt 3 (.alt 8 (.qp 14 (.alt 15 (.alt 16 (.qp 17 (.qp 18 .nil)) .fin) .fin)) .fin) (.alt 8 (.qp 14 (.alt 3 (.alt 15 (.alt 16 (.qp 17 (.qp 18 .nil)) .fin) .fin) (.alt 15 (.alt 3 (.alt 16 (.qp 17 (.qp 18 .nil)) .fin) .fin) .fin))) .fin)) (.alt 8 (.qp 14 (.alt 2 (.alt 3 (.alt 15 (.alt 16 (.qp 17 (.qp 18 .nil)) .fin) .fin) (.alt 15 (.alt 3 (.alt 16 (.qp 17 (.qp 18 .nil)) .fin) .fin) .fin)) (.alt 15 (.alt 2 (.alt 3 (.alt 16 (.qp 17 (.qp 18 .nil)) .fin) .fin) .fin) .fin))) .fin)) .fin))) .fin)))))))))))) mixed (by kernel_rfl) ?_
   intro w53 z8
   refine sm hO z8 fun s hO => ?_
   refine six1 1 hO H.2.2.1 H.2.2.2.1 ?_
   refine au ?_
   have h55 := H.1
   have h56 := H.2.1
   have h57 := H.2.2.1
   have h58 := H.2.2.2.1
   replace H := H.2.2.2.2
   obtain ⟨h59, H⟩ := H
   refine GoT.pure rfl (J03 rfl rfl (wrap_i64 h59)) rfl rfl ?_
   refine GoT.pure rfl (J3M underlying3 underlying5 rfl rfl) rfl rfl ?_
   refine GoT.both ?_ ?_
   ·skip
    skip
    refine sbu Fl.i 3 [(ix (ix a0.Next (ix fH (k1_15 : Int))) (k2_27 : Int))] hO fun w60 p61 s hO => ?_
    refine GoT.both ?_ ?_
    ·skip
     skip
     refine sfz 0 hO fun s hO OA Xl => ?_
     refine sap 2 hO OA.u H fun w65 p66 c67 s hO => ?_
     replace H := H.2
     refine GoT.both ?_ ?_
     ·skip
      skip
      refine sld1 1 hO h57 h58 ?_
      have hle68 := t1le 1 hO h57 h58
      skip
      refine sbu (Fl.int .u8) 5 [(IntKind.u8.wrap ((97 : Int) + (k2_27 : Int)))] hO fun w69 p70 s hO => ?_
      skip
      refine op1 0 hO fun Xm s hO wH => ?_
      have hle74 := J0x wH.bd
      refine GoT.step rfl ((oldBytes 0 hO rfl wH.u underlying126 underlying5 underlying9 rfl) _ (Same.refl _)) (Same.refl _) rfl rfl ?_
      obtain ⟨h75, H⟩ := H
      refine GoT.pure rfl (J0a rfl rfl h75) rfl rfl ?_
      skip
      refine sbu Fl.str 9 [((ix d_29 (k1_15 : Int)) ++ (byt ([(IntKind.u8.wrap ((97 : Int) + (k2_27 : Int)))])))] hO (fun w76 p77 s hO => ?_) (hE := fun _ _ => (Els.cons rfl ⟨rfl, (lenApp h75)⟩ (Els.nil _ _ _) (by simp [mx])))
      skip
      refine sfz 0 hO fun s hO nC qh => ?_
      refine sap 2 hO nC H fun w81 p82 c83 s hO => ?_
      refine au ?_
      replace H := H.2
      obtain ⟨h84, H⟩ := H
      refine zo (J03 rfl rfl (wrap_i64 h84)) ?_
      refine au ?_
      refine cl1 (Fl.int .u8) 0 hO wH.u fun s hO => ?_
      refine sdr [0] hO fun s hO => ?_
      exact hX2 _ H _ _ agr ⟨_, _, _, _, _, _, ⟨agr, hO, fr⟩⟩
     skip
     refine sbu (Fl.int .u8) 5 [(IntKind.u8.wrap ((97 : Int) + (k2_27 : Int)))] hO fun w85 p86 s hO => ?_
     refine GoT.both ?_ ?_
     ·skip
      skip
      refine sld1 2 hO h57 h58 ?_
      have hle88 := t1le 2 hO h57 h58
      skip
      refine op1 0 hO fun Xo s hO lV => ?_
      have hle91 := J0x lV.bd
      refine GoT.step rfl ((oldBytes 0 hO rfl lV.u underlying126 underlying5 underlying9 rfl) _ (Same.refl _)) (Same.refl _) rfl rfl ?_
      obtain ⟨h92, H⟩ := H
      refine GoT.pure rfl (J0a rfl rfl h92) rfl rfl ?_
      skip
      refine sbu Fl.str 9 [((ix d_29 (k1_15 : Int)) ++ (byt ([(IntKind.u8.wrap ((97 : Int) + (k2_27 : Int)))])))] hO (fun w93 p94 s hO => ?_) (hE := fun _ _ => (Els.cons rfl ⟨rfl, (lenApp h92)⟩ (Els.nil _ _ _) (by simp [mx])))
      skip
      refine sfz 0 hO fun s hO oh OB => ?_
      refine sap 2 hO oh H fun w98 p99 OC s hO => ?_
      refine au ?_
      replace H := H.2
      obtain ⟨uL, H⟩ := H
      refine zo (J03 rfl rfl (wrap_i64 uL)) ?_
      refine au ?_
      refine cl1 (Fl.int .u8) 0 hO lV.u fun s hO => ?_
      refine sdr [0] hO fun s hO => ?_
      exact hX2 _ H _ _ agr ⟨_, _, _, _, _, _, ⟨agr, hO, fr⟩⟩
     skip
     refine op1 0 hO fun Sf s hO iI => ?_
     have hle104 := J0x iI.bd
     refine GoT.step rfl ((oldBytes 0 hO rfl iI.u underlying126 underlying5 underlying9 rfl) _ (Same.refl _)) (Same.refl _) rfl rfl ?_
     skip
     refine sld1 2 hO h57 h58 ?_
     have hle105 := t1le 2 hO h57 h58
     obtain ⟨jR, H⟩ := H
     refine GoT.pure rfl (J0a rfl rfl jR) rfl rfl ?_
     skip
     refine sbu Fl.str 9 [((ix d_29 (k1_15 : Int)) ++ (byt ([(IntKind.u8.wrap ((97 : Int) + (k2_27 : Int)))])))] hO (fun Xp Mj s hO => ?_) (hE := fun _ _ => (Els.cons rfl ⟨rfl, (lenApp jR)⟩ (Els.nil _ _ _) (by simp [mx])))
     skip
     refine sfz 0 hO fun s hO mE Sh => ?_
     refine sap 2 hO mE.u H fun NR NS NT s hO => ?_
     refine au ?_
     replace H := H.2
     obtain ⟨vD, H⟩ := H
     refine zo (J03 rfl rfl (wrap_i64 vD)) ?_
     refine au ?_
     refine cl1 (Fl.int .u8) 0 hO iI.u fun s hO => ?_
     refine sdr [0] hO fun s hO => ?_
     exact hX2 _ H _ _ agr ⟨_, _, _, _, _, _, ⟨agr, hO, fr⟩⟩
    refine GoT.both ?_ ?_
    ·skip
     skip
     refine sld1 2 hO h57 h58 ?_
     have hle116 := t1le 2 hO h57 h58
     refine GoT.both ?_ ?_
     ·skip
      skip
      refine sfz 0 hO fun s hO pM yc => ?_
      refine sap 2 hO pM H fun uy LF Xq s hO => ?_
      replace H := H.2
      skip
      refine sbu (Fl.int .u8) 5 [(IntKind.u8.wrap ((97 : Int) + (k2_27 : Int)))] hO fun Bn Xr s hO => ?_
      skip
      refine op1 0 hO fun Si s hO kT => ?_
      have hle127 := J0x kT.bd
      refine GoT.step rfl ((oldBytes 0 hO rfl kT.u underlying126 underlying5 underlying9 rfl) _ (Same.refl _)) (Same.refl _) rfl rfl ?_
      obtain ⟨nk, H⟩ := H
      refine GoT.pure rfl (J0a rfl rfl nk) rfl rfl ?_
      skip
      refine sbu Fl.str 9 [((ix d_29 (k1_15 : Int)) ++ (byt ([(IntKind.u8.wrap ((97 : Int) + (k2_27 : Int)))])))] hO (fun LG nw s hO => ?_) (hE := fun _ _ => (Els.cons rfl ⟨rfl, (lenApp nk)⟩ (Els.nil _ _ _) (by simp [mx])))
      skip
      refine sfz 0 hO fun s hO GR Sj => ?_
      refine sap 2 hO GR H fun Mm rE rF s hO => ?_
      refine au ?_
      replace H := H.2
      obtain ⟨OD, H⟩ := H
      refine zo (J03 rfl rfl (wrap_i64 OD)) ?_
      refine au ?_
      refine cl1 (Fl.int .u8) 0 hO kT.u fun s hO => ?_
      refine sdr [0] hO fun s hO => ?_
      exact hX2 _ H _ _ agr ⟨_, _, _, _, _, _, ⟨agr, hO, fr⟩⟩
     skip
     refine sbu (Fl.int .u8) 5 [(IntKind.u8.wrap ((97 : Int) + (k2_27 : Int)))] hO fun ny Lk s hO => ?_
     refine GoT.both ?_ ?_
     ·skip
      skip
      refine sfz 1 hO fun s hO GT Sk => ?_
      refine sap 3 hO GT H fun LH LI Xs s hO => ?_
      replace H := H.2
      skip
      refine op1 0 hO fun Sl s hO rG => ?_
      have hle148 := J0x rG.bd
      refine GoT.step rfl ((oldBytes 0 hO rfl rG.u underlying126 underlying5 underlying9 rfl) _ (Same.refl _)) (Same.refl _) rfl rfl ?_
      obtain ⟨pq, H⟩ := H
      refine GoT.pure rfl (J0a rfl rfl pq) rfl rfl ?_
      skip
      refine sbu Fl.str 9 [((ix d_29 (k1_15 : Int)) ++ (byt ([(IntKind.u8.wrap ((97 : Int) + (k2_27 : Int)))])))] hO (fun zC Nn s hO => ?_) (hE := fun _ _ => (Els.cons rfl ⟨rfl, (lenApp pq)⟩ (Els.nil _ _ _) (by simp [mx])))
      skip
      refine sfz 0 hO fun s hO GU Sm => ?_
      refine sap 2 hO GU H fun zR Mu Mv s hO => ?_
      refine au ?_
      replace H := H.2
      obtain ⟨uv, H⟩ := H
      refine zo (J03 rfl rfl (wrap_i64 uv)) ?_
      refine au ?_
      refine cl1 (Fl.int .u8) 0 hO rG.u fun s hO => ?_
      refine sdr [0] hO fun s hO => ?_
      exact hX2 _ H _ _ agr ⟨_, _, _, _, _, _, ⟨agr, hO, fr⟩⟩
     replace H := (And.intro H.2.1 (And.intro H.1 (And.intro H.2.2.1 (And.intro H.2.2.2.1 H.2.2.2.2))))
     refine op1 0 hO fun Sn s hO iE => ?_
     have hle161 := J0x iE.bd
     refine GoT.step rfl ((oldBytes 0 hO rfl iE.u underlying126 underlying5 underlying9 rfl) _ (Same.refl _)) (Same.refl _) rfl rfl ?_
     obtain ⟨wI, H⟩ := H
     refine GoT.pure rfl (J0a rfl rfl wI) rfl rfl ?_
     refine GoT.both ?_ ?_
     ·skip
      skip
      refine sfz 1 hO fun s hO qG So => ?_
      refine sap 3 hO qG.u H fun Xt Xu Xv s hO => ?_
      replace H := H.2
      skip
      refine sbu Fl.str 9 [((ix d_29 (k1_15 : Int)) ++ (byt ([(IntKind.u8.wrap ((97 : Int) + (k2_27 : Int)))])))] hO (fun u0 Mw s hO => ?_) (hE := fun _ _ => (Els.cons rfl ⟨rfl, (lenApp wI)⟩ (Els.nil _ _ _) (by simp [mx])))
      skip
      refine sfz 0 hO fun s hO GW Sp => ?_
      refine sap 2 hO GW H fun qO Xw Xx s hO => ?_
      refine au ?_
      replace H := H.2
      obtain ⟨OE, H⟩ := H
      refine zo (J03 rfl rfl (wrap_i64 OE)) ?_
      refine au ?_
      refine cl1 (Fl.int .u8) 0 hO iE.u fun s hO => ?_
      refine sdr [0] hO fun s hO => ?_
      exact hX2 _ H _ _ agr ⟨_, _, _, _, _, _, ⟨agr, hO, fr⟩⟩
     skip
     refine sbu Fl.str 9 [((ix d_29 (k1_15 : Int)) ++ (byt ([(IntKind.u8.wrap ((97 : Int) + (k2_27 : Int)))])))] hO (fun Xy Xz s hO => ?_) (hE := fun _ _ => (Els.cons rfl ⟨rfl, (lenApp wI)⟩ (Els.nil _ _ _) (by simp [mx])))
     skip
     refine sfz 2 hO fun s hO GX Sr => ?_
     refine sap 4 hO GX H fun Nt ke kg s hO => ?_
     replace H := H.2
     skip
     refine sfz 0 hO fun s hO GY Ss => ?_
     refine sap 2 hO GY H fun LV XA XB s hO => ?_
     refine au ?_
     replace H := H.2
     obtain ⟨OF, H⟩ := H
     refine zo (J03 rfl rfl (wrap_i64 OF)) ?_
     refine au ?_
     refine cl1 (Fl.int .u8) 0 hO iE.u fun s hO => ?_
     refine sdr [0] hO fun s hO => ?_
     exact hX2 _ H _ _ agr ⟨_, _, _, _, _, _, ⟨agr, hO, fr⟩⟩
    skip
    refine sbu (Fl.int .u8) 5 [(IntKind.u8.wrap ((97 : Int) + (k2_27 : Int)))] hO fun uA Nu s hO => ?_
    refine GoT.both ?_ ?_
    ·skip
     skip
     refine sfz 1 hO fun s hO G0 St => ?_
     refine sap 3 hO G0 H fun Mz MA XC s hO => ?_
     replace H := H.2
     refine GoT.both ?_ ?_
     ·skip
      skip
      refine sld1 2 hO h57 h58 ?_
      have hle199 := t1le 2 hO h57 h58
      skip
      refine op1 0 hO fun Su s hO rH => ?_
      have hle202 := J0x rH.bd
      refine GoT.step rfl ((oldBytes 0 hO rfl rH.u underlying126 underlying5 underlying9 rfl) _ (Same.refl _)) (Same.refl _) rfl rfl ?_
      obtain ⟨Ca, H⟩ := H
      refine GoT.pure rfl (J0a rfl rfl Ca) rfl rfl ?_
      skip
      refine sbu Fl.str 9 [((ix d_29 (k1_15 : Int)) ++ (byt ([(IntKind.u8.wrap ((97 : Int) + (k2_27 : Int)))])))] hO (fun LY XD s hO => ?_) (hE := fun _ _ => (Els.cons rfl ⟨rfl, (lenApp Ca)⟩ (Els.nil _ _ _) (by simp [mx])))
      skip
      refine sfz 0 hO fun s hO pV yg => ?_
      refine sap 2 hO pV H fun MC MD ME s hO => ?_
      refine au ?_
      replace H := H.2
      obtain ⟨OG, H⟩ := H
      refine zo (J03 rfl rfl (wrap_i64 OG)) ?_
      refine au ?_
      refine cl1 (Fl.int .u8) 0 hO rH.u fun s hO => ?_
      refine sdr [0] hO fun s hO => ?_
      exact hX2 _ H _ _ agr ⟨_, _, _, _, _, _, ⟨agr, hO, fr⟩⟩
     skip
     refine op1 0 hO fun yM s hO jm => ?_
     have hle215 := J0x jm.bd
     refine GoT.step rfl ((oldBytes 0 hO rfl jm.u underlying126 underlying5 underlying9 rfl) _ (Same.refl _)) (Same.refl _) rfl rfl ?_
     skip
     refine sld1 2 hO h57 h58 ?_
     have hle216 := t1le 2 hO h57 h58
     obtain ⟨Cb, H⟩ := H
     refine GoT.pure rfl (J0a rfl rfl Cb) rfl rfl ?_
     skip
     refine sbu Fl.str 9 [((ix d_29 (k1_15 : Int)) ++ (byt ([(IntKind.u8.wrap ((97 : Int) + (k2_27 : Int)))])))] hO (fun XE XF s hO => ?_) (hE := fun _ _ => (Els.cons rfl ⟨rfl, (lenApp Cb)⟩ (Els.nil _ _ _) (by simp [mx])))
     skip
     refine sfz 0 hO fun s hO G1 Sv => ?_
     refine sap 2 hO G1.u H fun XG XH XJ s hO => ?_
     refine au ?_
     replace H := H.2
     obtain ⟨v8, H⟩ := H
     refine zo (J03 rfl rfl (wrap_i64 v8)) ?_
     refine au ?_
     refine cl1 (Fl.int .u8) 0 hO jm.u fun s hO => ?_
     refine sdr [0] hO fun s hO => ?_
     exact hX2 _ H _ _ agr ⟨_, _, _, _, _, _, ⟨agr, hO, fr⟩⟩
    refine GoT.both ?_ ?_
    ·skip
     skip
     refine sld1 3 hO h57 h58 ?_
     have hle227 := t1le 3 hO h57 h58
     refine GoT.both ?_ ?_
     ·skip
      skip
      refine sfz 1 hO fun s hO G3 Sw => ?_
      refine sap 3 hO G3 H fun vE OH XK s hO => ?_
      replace H := H.2
      skip
      refine op1 0 hO fun Sx s hO rI => ?_
      have hle235 := J0x rI.bd
      refine GoT.step rfl ((oldBytes 0 hO rfl rI.u underlying126 underlying5 underlying9 rfl) _ (Same.refl _)) (Same.refl _) rfl rfl ?_
      obtain ⟨Cc, H⟩ := H
      refine GoT.pure rfl (J0a rfl rfl Cc) rfl rfl ?_
      skip
      refine sbu Fl.str 9 [((ix d_29 (k1_15 : Int)) ++ (byt ([(IntKind.u8.wrap ((97 : Int) + (k2_27 : Int)))])))] hO (fun Ay XL s hO => ?_) (hE := fun _ _ => (Els.cons rfl ⟨rfl, (lenApp Cc)⟩ (Els.nil _ _ _) (by simp [mx])))
      skip
      refine sfz 0 hO fun s hO G4 Sy => ?_
      refine sap 2 hO G4 H fun N7 qz qA s hO => ?_
      refine au ?_
      replace H := H.2
      obtain ⟨OI, H⟩ := H
      refine zo (J03 rfl rfl (wrap_i64 OI)) ?_
      refine au ?_
      refine cl1 (Fl.int .u8) 0 hO rI.u fun s hO => ?_
      refine sdr [0] hO fun s hO => ?_
      exact hX2 _ H _ _ agr ⟨_, _, _, _, _, _, ⟨agr, hO, fr⟩⟩
     replace H := (And.intro H.2.1 (And.intro H.1 (And.intro H.2.2.1 (And.intro H.2.2.2.1 H.2.2.2.2))))
     refine op1 0 hO fun Sz s hO mK => ?_
     have hle248 := J0x mK.bd
     refine GoT.step rfl ((oldBytes 0 hO rfl mK.u underlying126 underlying5 underlying9 rfl) _ (Same.refl _)) (Same.refl _) rfl rfl ?_
     obtain ⟨wJ, H⟩ := H
     refine GoT.pure rfl (J0a rfl rfl wJ) rfl rfl ?_
     refine GoT.both ?_ ?_
     ·skip
      skip
      refine sfz 1 hO fun s hO G5 SA => ?_
      refine sap 3 hO G5.u H fun XM XN XO s hO => ?_
      replace H := H.2
      skip
      refine sbu Fl.str 9 [((ix d_29 (k1_15 : Int)) ++ (byt ([(IntKind.u8.wrap ((97 : Int) + (k2_27 : Int)))])))] hO (fun v9 XP s hO => ?_) (hE := fun _ _ => (Els.cons rfl ⟨rfl, (lenApp wJ)⟩ (Els.nil _ _ _) (by simp [mx])))
      skip
      refine sfz 0 hO fun s hO G6 SB => ?_
      refine sap 2 hO G6 H fun XQ XR XS s hO => ?_
      refine au ?_
      replace H := H.2
      obtain ⟨wa, H⟩ := H
      refine zo (J03 rfl rfl (wrap_i64 wa)) ?_
      refine au ?_
      refine cl1 (Fl.int .u8) 0 hO mK.u fun s hO => ?_
      refine sdr [0] hO fun s hO => ?_
      exact hX2 _ H _ _ agr ⟨_, _, _, _, _, _, ⟨agr, hO, fr⟩⟩
     skip
     refine sbu Fl.str 9 [((ix d_29 (k1_15 : Int)) ++ (byt ([(IntKind.u8.wrap ((97 : Int) + (k2_27 : Int)))])))] hO (fun Oa Ob s hO => ?_) (hE := fun _ _ => (Els.cons rfl ⟨rfl, (lenApp wJ)⟩ (Els.nil _ _ _) (by simp [mx])))
     skip
     refine sfz 2 hO fun s hO G7 SC => ?_
     refine sap 4 hO G7 H fun Cd XT XU s hO => ?_
     replace H := H.2
     skip
     refine sfz 0 hO fun s hO rJ mM => ?_
     refine sap 2 hO rJ H fun XV XW XX s hO => ?_
     refine au ?_
     replace H := H.2
     obtain ⟨OJ, H⟩ := H
     refine zo (J03 rfl rfl (wrap_i64 OJ)) ?_
     refine au ?_
     refine cl1 (Fl.int .u8) 0 hO mK.u fun s hO => ?_
     refine sdr [0] hO fun s hO => ?_
     exact hX2 _ H _ _ agr ⟨_, _, _, _, _, _, ⟨agr, hO, fr⟩⟩
    skip
    refine op1 0 hO fun G8 s hO kW => ?_
    have hle280 := J0x kW.bd
    refine GoT.step rfl ((oldBytes 0 hO rfl kW.u underlying126 underlying5 underlying9 rfl) _ (Same.refl _)) (Same.refl _) rfl rfl ?_
    refine GoT.both ?_ ?_
    ·skip
     skip
     refine sfz 1 hO fun s hO qW yP => ?_
     refine sap 3 hO qW H fun MQ XY X0 s hO => ?_
     replace H := H.2
     skip
     refine sld1 2 hO h57 h58 ?_
     have hle286 := t1le 2 hO h57 h58
     obtain ⟨qX, H⟩ := H
     refine GoT.pure rfl (J0a rfl rfl qX) rfl rfl ?_
     skip
     refine sbu Fl.str 9 [((ix d_29 (k1_15 : Int)) ++ (byt ([(IntKind.u8.wrap ((97 : Int) + (k2_27 : Int)))])))] hO (fun Bz Ya s hO => ?_) (hE := fun _ _ => (Els.cons rfl ⟨rfl, (lenApp qX)⟩ (Els.nil _ _ _) (by simp [mx])))
     skip
     refine sfz 0 hO fun s hO G9 SD => ?_
     refine sap 2 hO G9.u H fun vA MU MV s hO => ?_
     refine au ?_
     replace H := H.2
     obtain ⟨nO, H⟩ := H
     refine zo (J03 rfl rfl (wrap_i64 nO)) ?_
     refine au ?_
     refine cl1 (Fl.int .u8) 0 hO kW.u fun s hO => ?_
     refine sdr [0] hO fun s hO => ?_
     exact hX2 _ H _ _ agr ⟨_, _, _, _, _, _, ⟨agr, hO, fr⟩⟩
    replace H := (And.intro H.2.1 (And.intro H.1 (And.intro H.2.2.1 (And.intro H.2.2.2.1 H.2.2.2.2))))
    refine sld1 3 hO h57 h58 ?_
    have hle297 := t1le 3 hO h57 h58
    obtain ⟨wK, H⟩ := H
    refine GoT.pure rfl (J0a rfl rfl wK) rfl rfl ?_
    refine GoT.both ?_ ?_
    ·skip
     skip
     refine sfz 1 hO fun s hO Ha SE => ?_
     refine sap 3 hO Ha.u H fun Yb Yc Yd s hO => ?_
     replace H := H.2
     skip
     refine sbu Fl.str 9 [((ix d_29 (k1_15 : Int)) ++ (byt ([(IntKind.u8.wrap ((97 : Int) + (k2_27 : Int)))])))] hO (fun Ye Yf s hO => ?_) (hE := fun _ _ => (Els.cons rfl ⟨rfl, (lenApp wK)⟩ (Els.nil _ _ _) (by simp [mx])))
     skip
     refine sfz 0 hO fun s hO Hb SF => ?_
     refine sap 2 hO Hb H fun Oe Yg Yh s hO => ?_
     refine au ?_
     replace H := H.2
     obtain ⟨qY, H⟩ := H
     refine zo (J03 rfl rfl (wrap_i64 qY)) ?_
     refine au ?_
     refine cl1 (Fl.int .u8) 0 hO kW.u fun s hO => ?_
     refine sdr [0] hO fun s hO => ?_
     exact hX2 _ H _ _ agr ⟨_, _, _, _, _, _, ⟨agr, hO, fr⟩⟩
    skip
    refine sbu Fl.str 9 [((ix d_29 (k1_15 : Int)) ++ (byt ([(IntKind.u8.wrap ((97 : Int) + (k2_27 : Int)))])))] hO (fun vB MY s hO => ?_) (hE := fun _ _ => (Els.cons rfl ⟨rfl, (lenApp wK)⟩ (Els.nil _ _ _) (by simp [mx])))
    skip
    refine sfz 2 hO fun s hO rK Hc => ?_
    refine sap 4 hO rK H fun OK OL OM s hO => ?_
    replace H := H.2
    skip
    refine sfz 0 hO fun s hO He SG => ?_
    refine sap 2 hO He H fun M1 M2 M3 s hO => ?_
    refine au ?_
    replace H := H.2
    obtain ⟨BE, H⟩ := H
    refine zo (J03 rfl rfl (wrap_i64 BE)) ?_
    refine au ?_
    refine cl1 (Fl.int .u8) 0 hO kW.u fun s hO => ?_
    refine sdr [0] hO fun s hO => ?_
    exact hX2 _ H _ _ agr ⟨_, _, _, _, _, _, ⟨agr, hO, fr⟩⟩
   refine GoT.both ?_ ?_
   ·skip
    skip
    refine sld1 1 hO h57 h58 ?_
    have hle327 := t1le 1 hO h57 h58
    refine GoT.both ?_ ?_
    ·skip
     skip
     refine sbu Fl.i 3 [(ix (ix a0.Next (ix fH (k1_15 : Int))) (k2_27 : Int))] hO fun ON Yi s hO => ?_
     refine GoT.both ?_ ?_
     ·skip
      skip
      refine sfz 0 hO fun s hO Hf SJ => ?_
      refine sap 2 hO Hf H fun BG Yj Yk s hO => ?_
      replace H := H.2
      skip
      refine sbu (Fl.int .u8) 5 [(IntKind.u8.wrap ((97 : Int) + (k2_27 : Int)))] hO fun M6 M7 s hO => ?_
      skip
      refine op1 0 hO fun SK s hO rL => ?_
      have hle341 := J0x rL.bd
      refine GoT.step rfl ((oldBytes 0 hO rfl rL.u underlying126 underlying5 underlying9 rfl) _ (Same.refl _)) (Same.refl _) rfl rfl ?_
      obtain ⟨Ce, H⟩ := H
      refine GoT.pure rfl (J0a rfl rfl Ce) rfl rfl ?_
      skip
      refine sbu Fl.str 9 [((ix d_29 (k1_15 : Int)) ++ (byt ([(IntKind.u8.wrap ((97 : Int) + (k2_27 : Int)))])))] hO (fun AK OO s hO => ?_) (hE := fun _ _ => (Els.cons rfl ⟨rfl, (lenApp Ce)⟩ (Els.nil _ _ _) (by simp [mx])))
      skip
      refine sfz 0 hO fun s hO Hg SM => ?_
      refine sap 2 hO Hg H fun Na Nb Nc s hO => ?_
      refine au ?_
      replace H := H.2
      obtain ⟨Cf, H⟩ := H
      refine zo (J03 rfl rfl (wrap_i64 Cf)) ?_
      refine au ?_
      refine cl1 (Fl.int .u8) 0 hO rL.u fun s hO => ?_
      refine sdr [0] hO fun s hO => ?_
      exact hX2 _ H _ _ agr ⟨_, _, _, _, _, _, ⟨agr, hO, fr⟩⟩
     skip
     refine sbu (Fl.int .u8) 5 [(IntKind.u8.wrap ((97 : Int) + (k2_27 : Int)))] hO fun Yl Ym s hO => ?_
     refine GoT.both ?_ ?_
     ·skip
      skip
      refine sfz 1 hO fun s hO Hh SN => ?_
      refine sap 3 hO Hh H fun Yn Yo Yp s hO => ?_
      replace H := H.2
      skip
      refine op1 0 hO fun SO s hO rM => ?_
      have hle362 := J0x rM.bd
      refine GoT.step rfl ((oldBytes 0 hO rfl rM.u underlying126 underlying5 underlying9 rfl) _ (Same.refl _)) (Same.refl _) rfl rfl ?_
      obtain ⟨Cg, H⟩ := H
      refine GoT.pure rfl (J0a rfl rfl Cg) rfl rfl ?_
      skip
      refine sbu Fl.str 9 [((ix d_29 (k1_15 : Int)) ++ (byt ([(IntKind.u8.wrap ((97 : Int) + (k2_27 : Int)))])))] hO (fun Yq Yr s hO => ?_) (hE := fun _ _ => (Els.cons rfl ⟨rfl, (lenApp Cg)⟩ (Els.nil _ _ _) (by simp [mx])))
      skip
      refine sfz 0 hO fun s hO Hi SP => ?_
      refine sap 2 hO Hi H fun OP OQ OR s hO => ?_
      refine au ?_
      replace H := H.2
      obtain ⟨OS, H⟩ := H
      refine zo (J03 rfl rfl (wrap_i64 OS)) ?_
      refine au ?_
      refine cl1 (Fl.int .u8) 0 hO rM.u fun s hO => ?_
      refine sdr [0] hO fun s hO => ?_
      exact hX2 _ H _ _ agr ⟨_, _, _, _, _, _, ⟨agr, hO, fr⟩⟩
     replace H := (And.intro H.2.1 (And.intro H.1 (And.intro H.2.2.1 (And.intro H.2.2.2.1 H.2.2.2.2))))
     refine op1 0 hO fun SQ s hO mO => ?_
     have hle375 := J0x mO.bd
     refine GoT.step rfl ((oldBytes 0 hO rfl mO.u underlying126 underlying5 underlying9 rfl) _ (Same.refl _)) (Same.refl _) rfl rfl ?_
     obtain ⟨q8, H⟩ := H
     refine GoT.pure rfl (J0a rfl rfl q8) rfl rfl ?_
     refine GoT.both ?_ ?_
     ·skip
      skip
      refine sfz 1 hO fun s hO Hj SR => ?_
      refine sap 3 hO Hj.u H fun Ys Yt Yu s hO => ?_
      replace H := H.2
      skip
      refine sbu Fl.str 9 [((ix d_29 (k1_15 : Int)) ++ (byt ([(IntKind.u8.wrap ((97 : Int) + (k2_27 : Int)))])))] hO (fun OT Yv s hO => ?_) (hE := fun _ _ => (Els.cons rfl ⟨rfl, (lenApp q8)⟩ (Els.nil _ _ _) (by simp [mx])))
      skip
      refine sfz 0 hO fun s hO Hk SS => ?_
      refine sap 2 hO Hk H fun Yw Yx Yy s hO => ?_
      refine au ?_
      replace H := H.2
      obtain ⟨OU, H⟩ := H
      refine zo (J03 rfl rfl (wrap_i64 OU)) ?_
      refine au ?_
      refine cl1 (Fl.int .u8) 0 hO mO.u fun s hO => ?_
      refine sdr [0] hO fun s hO => ?_
      exact hX2 _ H _ _ agr ⟨_, _, _, _, _, _, ⟨agr, hO, fr⟩⟩
     skip
     refine sbu Fl.str 9 [((ix d_29 (k1_15 : Int)) ++ (byt ([(IntKind.u8.wrap ((97 : Int) + (k2_27 : Int)))])))] hO (fun Yz YA s hO => ?_) (hE := fun _ _ => (Els.cons rfl ⟨rfl, (lenApp q8)⟩ (Els.nil _ _ _) (by simp [mx])))
     skip
     refine sfz 2 hO fun s hO Hl ST => ?_
     refine sap 4 hO Hl H fun OV YB YC s hO => ?_
     replace H := H.2
     skip
     refine sfz 0 hO fun s hO kX mP => ?_
     refine sap 2 hO kX H fun YE YF YG s hO => ?_
     refine au ?_
     replace H := H.2
     obtain ⟨OW, H⟩ := H
     refine zo (J03 rfl rfl (wrap_i64 OW)) ?_
     refine au ?_
     refine cl1 (Fl.int .u8) 0 hO mO.u fun s hO => ?_
     refine sdr [0] hO fun s hO => ?_
     exact hX2 _ H _ _ agr ⟨_, _, _, _, _, _, ⟨agr, hO, fr⟩⟩
    skip
    refine sbu (Fl.int .u8) 5 [(IntKind.u8.wrap ((97 : Int) + (k2_27 : Int)))] hO fun YH YJ s hO => ?_
    refine GoT.both ?_ ?_
    ·skip
     skip
     refine sbu Fl.i 3 [(ix (ix a0.Next (ix fH (k1_15 : Int))) (k2_27 : Int))] hO fun YK YL s hO => ?_
     refine GoT.both ?_ ?_
     ·skip
      skip
      refine sfz 0 hO fun s hO Hm SU => ?_
      refine sap 3 hO Hm H fun Om YM YN s hO => ?_
      replace H := H.2
      skip
      refine op1 0 hO fun SV s hO rN => ?_
      have hle418 := J0x rN.bd
      refine GoT.step rfl ((oldBytes 0 hO rfl rN.u underlying126 underlying5 underlying9 rfl) _ (Same.refl _)) (Same.refl _) rfl rfl ?_
      obtain ⟨Ci, H⟩ := H
      refine GoT.pure rfl (J0a rfl rfl Ci) rfl rfl ?_
      skip
      refine sbu Fl.str 9 [((ix d_29 (k1_15 : Int)) ++ (byt ([(IntKind.u8.wrap ((97 : Int) + (k2_27 : Int)))])))] hO (fun YO YP s hO => ?_) (hE := fun _ _ => (Els.cons rfl ⟨rfl, (lenApp Ci)⟩ (Els.nil _ _ _) (by simp [mx])))
      skip
      refine sfz 0 hO fun s hO Hn SW => ?_
      refine sap 2 hO Hn H fun YQ YR YS s hO => ?_
      refine au ?_
      replace H := H.2
      obtain ⟨OX, H⟩ := H
      refine zo (J03 rfl rfl (wrap_i64 OX)) ?_
      refine au ?_
      refine cl1 (Fl.int .u8) 0 hO rN.u fun s hO => ?_
      refine sdr [0] hO fun s hO => ?_
      exact hX2 _ H _ _ agr ⟨_, _, _, _, _, _, ⟨agr, hO, fr⟩⟩
     replace H := (And.intro H.2.1 (And.intro H.1 (And.intro H.2.2.1 (And.intro H.2.2.2.1 H.2.2.2.2))))
     refine op1 1 hO fun SX s hO mQ => ?_
     have hle431 := J0x mQ.bd
     refine GoT.step rfl ((oldBytes 1 hO rfl mQ.u underlying126 underlying5 underlying9 rfl) _ (Same.refl _)) (Same.refl _) rfl rfl ?_
     obtain ⟨wL, H⟩ := H
     refine GoT.pure rfl (J0a rfl rfl wL) rfl rfl ?_
     refine GoT.both ?_ ?_
     ·skip
      skip
      refine sfz 0 hO fun s hO rk SY => ?_
      refine sap 3 hO rk.u H fun YT YU YV s hO => ?_
      replace H := H.2
      skip
      refine sbu Fl.str 9 [((ix d_29 (k1_15 : Int)) ++ (byt ([(IntKind.u8.wrap ((97 : Int) + (k2_27 : Int)))])))] hO (fun YW YX s hO => ?_) (hE := fun _ _ => (Els.cons rfl ⟨rfl, (lenApp wL)⟩ (Els.nil _ _ _) (by simp [mx])))
      skip
      refine sfz 0 hO fun s hO Ho S0 => ?_
      refine sap 2 hO Ho H fun Oq YY Y0 s hO => ?_
      refine au ?_
      replace H := H.2
      obtain ⟨OY, H⟩ := H
      refine zo (J03 rfl rfl (wrap_i64 OY)) ?_
      refine au ?_
      refine cl1 (Fl.int .u8) 0 hO mQ.u fun s hO => ?_
      refine sdr [0] hO fun s hO => ?_
      exact hX2 _ H _ _ agr ⟨_, _, _, _, _, _, ⟨agr, hO, fr⟩⟩
     skip
     refine sbu Fl.str 9 [((ix d_29 (k1_15 : Int)) ++ (byt ([(IntKind.u8.wrap ((97 : Int) + (k2_27 : Int)))])))] hO (fun Os Y1 s hO => ?_) (hE := fun _ _ => (Els.cons rfl ⟨rfl, (lenApp wL)⟩ (Els.nil _ _ _) (by simp [mx])))
     skip
     refine sfz 1 hO fun s hO Hp S3 => ?_
     refine sap 4 hO Hp H fun Y2 Y3 Y4 s hO => ?_
     replace H := H.2
     skip
     refine sfz 0 hO fun s hO rs yO => ?_
     refine sap 2 hO rs H fun Y5 Y6 Y7 s hO => ?_
     refine au ?_
     replace H := H.2
     obtain ⟨O0, H⟩ := H
     refine zo (J03 rfl rfl (wrap_i64 O0)) ?_
     refine au ?_
     refine cl1 (Fl.int .u8) 0 hO mQ.u fun s hO => ?_
     refine sdr [0] hO fun s hO => ?_
     exact hX2 _ H _ _ agr ⟨_, _, _, _, _, _, ⟨agr, hO, fr⟩⟩
    replace H := (And.intro H.2.1 (And.intro H.1 (And.intro H.2.2.1 (And.intro H.2.2.2.1 H.2.2.2.2))))
    refine op1 0 hO fun S4 s hO kY => ?_
    have hle463 := J0x kY.bd
    refine GoT.step rfl ((oldBytes 0 hO rfl kY.u underlying126 underlying5 underlying9 rfl) _ (Same.refl _)) (Same.refl _) rfl rfl ?_
    obtain ⟨rO, H⟩ := H
    refine GoT.pure rfl (J0a rfl rfl rO) rfl rfl ?_
    refine GoT.both ?_ ?_
    ·skip
     skip
     refine sbu Fl.i 3 [(ix (ix a0.Next (ix fH (k1_15 : Int))) (k2_27 : Int))] hO fun Y8 Y9 s hO => ?_
     refine GoT.both ?_ ?_
     ·skip
      skip
      refine sfz 0 hO fun s hO Hq S5 => ?_
      refine sap 3 hO Hq.u H fun Ot aaa aab s hO => ?_
      replace H := H.2
      skip
      refine sbu Fl.str 9 [((ix d_29 (k1_15 : Int)) ++ (byt ([(IntKind.u8.wrap ((97 : Int) + (k2_27 : Int)))])))] hO (fun aac aad s hO => ?_) (hE := fun _ _ => (Els.cons rfl ⟨rfl, (lenApp rO)⟩ (Els.nil _ _ _) (by simp [mx])))
      skip
      refine sfz 0 hO fun s hO Hr S6 => ?_
      refine sap 2 hO Hr H fun aae aaf aag s hO => ?_
      refine au ?_
      replace H := H.2
      obtain ⟨O1, H⟩ := H
      refine zo (J03 rfl rfl (wrap_i64 O1)) ?_
      refine au ?_
      refine cl1 (Fl.int .u8) 0 hO kY.u fun s hO => ?_
      refine sdr [0] hO fun s hO => ?_
      exact hX2 _ H _ _ agr ⟨_, _, _, _, _, _, ⟨agr, hO, fr⟩⟩
     skip
     refine sbu Fl.str 9 [((ix d_29 (k1_15 : Int)) ++ (byt ([(IntKind.u8.wrap ((97 : Int) + (k2_27 : Int)))])))] hO (fun aah aai s hO => ?_) (hE := fun _ _ => (Els.cons rfl ⟨rfl, (lenApp rO)⟩ (Els.nil _ _ _) (by simp [mx])))
     skip
     refine sfz 1 hO fun s hO Hs S7 => ?_
     refine sap 4 hO Hs H fun aaj aak aal s hO => ?_
     replace H := H.2
     skip
     refine sfz 0 hO fun s hO Ht S8 => ?_
     refine sap 2 hO Ht H fun aam aan aao s hO => ?_
     refine au ?_
     replace H := H.2
     obtain ⟨O2, H⟩ := H
     refine zo (J03 rfl rfl (wrap_i64 O2)) ?_
     refine au ?_
     refine cl1 (Fl.int .u8) 0 hO kY.u fun s hO => ?_
     refine sdr [0] hO fun s hO => ?_
     exact hX2 _ H _ _ agr ⟨_, _, _, _, _, _, ⟨agr, hO, fr⟩⟩
    skip
    refine sbu Fl.str 9 [((ix d_29 (k1_15 : Int)) ++ (byt ([(IntKind.u8.wrap ((97 : Int) + (k2_27 : Int)))])))] hO (fun aap aaq s hO => ?_) (hE := fun _ _ => (Els.cons rfl ⟨rfl, (lenApp rO)⟩ (Els.nil _ _ _) (by simp [mx])))
    skip
    refine sbu Fl.i 3 [(ix (ix a0.Next (ix fH (k1_15 : Int))) (k2_27 : Int))] hO fun aar aas s hO => ?_
    skip
    refine sfz 0 hO fun s hO Hu S9 => ?_
    refine sap 4 hO Hu H fun aat aau aav s hO => ?_
    replace H := H.2
    skip
    refine sfz 0 hO fun s hO Hv Ta => ?_
    refine sap 2 hO Hv H fun aaw aax aay s hO => ?_
    refine au ?_
    replace H := H.2
    obtain ⟨O3, H⟩ := H
    refine zo (J03 rfl rfl (wrap_i64 O3)) ?_
    refine au ?_
    refine cl1 (Fl.int .u8) 0 hO kY.u fun s hO => ?_
    refine sdr [0] hO fun s hO => ?_
    exact hX2 _ H _ _ agr ⟨_, _, _, _, _, _, ⟨agr, hO, fr⟩⟩
   skip
   refine sbu (Fl.int .u8) 5 [(IntKind.u8.wrap ((97 : Int) + (k2_27 : Int)))] hO fun aaz aaA s hO => ?_
   refine GoT.both ?_ ?_
   ·skip
    skip
    refine sbu Fl.i 3 [(ix (ix a0.Next (ix fH (k1_15 : Int))) (k2_27 : Int))] hO fun aaB aaC s hO => ?_
    refine GoT.both ?_ ?_
    ·skip
     skip
     refine sfz 0 hO fun s hO Hw Tc => ?_
     refine sap 3 hO Hw H fun aaD aaE aaF s hO => ?_
     replace H := H.2
     refine GoT.both ?_ ?_
     ·skip
      skip
      refine sld1 2 hO h57 h58 ?_
      have hle524 := t1le 2 hO h57 h58
      skip
      refine op1 0 hO fun Td s hO rP => ?_
      have hle527 := J0x rP.bd
      refine GoT.step rfl ((oldBytes 0 hO rfl rP.u underlying126 underlying5 underlying9 rfl) _ (Same.refl _)) (Same.refl _) rfl rfl ?_
      obtain ⟨Cj, H⟩ := H
      refine GoT.pure rfl (J0a rfl rfl Cj) rfl rfl ?_
      skip
      refine sbu Fl.str 9 [((ix d_29 (k1_15 : Int)) ++ (byt ([(IntKind.u8.wrap ((97 : Int) + (k2_27 : Int)))])))] hO (fun aaG aaH s hO => ?_) (hE := fun _ _ => (Els.cons rfl ⟨rfl, (lenApp Cj)⟩ (Els.nil _ _ _) (by simp [mx])))
      skip
      refine sfz 0 hO fun s hO Hx Te => ?_
      refine sap 2 hO Hx H fun aaI aaJ aaK s hO => ?_
      refine au ?_
      replace H := H.2
      obtain ⟨O4, H⟩ := H
      refine zo (J03 rfl rfl (wrap_i64 O4)) ?_
      refine au ?_
      refine cl1 (Fl.int .u8) 0 hO rP.u fun s hO => ?_
      refine sdr [0] hO fun s hO => ?_
      exact hX2 _ H _ _ agr ⟨_, _, _, _, _, _, ⟨agr, hO, fr⟩⟩
     skip
     refine op1 0 hO fun Tf s hO rQ => ?_
     have hle540 := J0x rQ.bd
     refine GoT.step rfl ((oldBytes 0 hO rfl rQ.u underlying126 underlying5 underlying9 rfl) _ (Same.refl _)) (Same.refl _) rfl rfl ?_
     skip
     refine sld1 2 hO h57 h58 ?_
     have hle541 := t1le 2 hO h57 h58
     obtain ⟨Ck, H⟩ := H
     refine GoT.pure rfl (J0a rfl rfl Ck) rfl rfl ?_
     skip
     refine sbu Fl.str 9 [((ix d_29 (k1_15 : Int)) ++ (byt ([(IntKind.u8.wrap ((97 : Int) + (k2_27 : Int)))])))] hO (fun aaL aaM s hO => ?_) (hE := fun _ _ => (Els.cons rfl ⟨rfl, (lenApp Ck)⟩ (Els.nil _ _ _) (by simp [mx])))
     skip
     refine sfz 0 hO fun s hO Hy Tg => ?_
     refine sap 2 hO Hy.u H fun aaN aaO aaP s hO => ?_
     refine au ?_
     replace H := H.2
     obtain ⟨O5, H⟩ := H
     refine zo (J03 rfl rfl (wrap_i64 O5)) ?_
     refine au ?_
     refine cl1 (Fl.int .u8) 0 hO rQ.u fun s hO => ?_
     refine sdr [0] hO fun s hO => ?_
     exact hX2 _ H _ _ agr ⟨_, _, _, _, _, _, ⟨agr, hO, fr⟩⟩
    refine GoT.both ?_ ?_
    ·skip
     skip
     refine sld1 3 hO h57 h58 ?_
     have hle552 := t1le 3 hO h57 h58
     refine GoT.both ?_ ?_
     ·skip
      skip
      refine sfz 0 hO fun s hO Hz Th => ?_
      refine sap 3 hO Hz H fun aaQ aaR aaS s hO => ?_
      replace H := H.2
      skip
      refine op1 0 hO fun Tj s hO rR => ?_
      have hle560 := J0x rR.bd
      refine GoT.step rfl ((oldBytes 0 hO rfl rR.u underlying126 underlying5 underlying9 rfl) _ (Same.refl _)) (Same.refl _) rfl rfl ?_
      obtain ⟨Cl, H⟩ := H
      refine GoT.pure rfl (J0a rfl rfl Cl) rfl rfl ?_
      skip
      refine sbu Fl.str 9 [((ix d_29 (k1_15 : Int)) ++ (byt ([(IntKind.u8.wrap ((97 : Int) + (k2_27 : Int)))])))] hO (fun aaT aaU s hO => ?_) (hE := fun _ _ => (Els.cons rfl ⟨rfl, (lenApp Cl)⟩ (Els.nil _ _ _) (by simp [mx])))
      skip
      refine sfz 0 hO fun s hO HA Tk => ?_
      refine sap 2 hO HA H fun aaV aaW aaX s hO => ?_
      refine au ?_
      replace H := H.2
      obtain ⟨O6, H⟩ := H
      refine zo (J03 rfl rfl (wrap_i64 O6)) ?_
      refine au ?_
      refine cl1 (Fl.int .u8) 0 hO rR.u fun s hO => ?_
      refine sdr [0] hO fun s hO => ?_
      exact hX2 _ H _ _ agr ⟨_, _, _, _, _, _, ⟨agr, hO, fr⟩⟩
     replace H := (And.intro H.2.1 (And.intro H.1 (And.intro H.2.2.1 (And.intro H.2.2.2.1 H.2.2.2.2))))
     refine op1 1 hO fun Tl s hO mS => ?_
     have hle573 := J0x mS.bd
     refine GoT.step rfl ((oldBytes 1 hO rfl mS.u underlying126 underlying5 underlying9 rfl) _ (Same.refl _)) (Same.refl _) rfl rfl ?_
     obtain ⟨wM, H⟩ := H
     refine GoT.pure rfl (J0a rfl rfl wM) rfl rfl ?_
     refine GoT.both ?_ ?_
     ·skip
      skip
      refine sfz 0 hO fun s hO HB Tm => ?_
      refine sap 3 hO HB.u H fun aaY aa0 aa1 s hO => ?_
      replace H := H.2
      skip
      refine sbu Fl.str 9 [((ix d_29 (k1_15 : Int)) ++ (byt ([(IntKind.u8.wrap ((97 : Int) + (k2_27 : Int)))])))] hO (fun aa2 aa3 s hO => ?_) (hE := fun _ _ => (Els.cons rfl ⟨rfl, (lenApp wM)⟩ (Els.nil _ _ _) (by simp [mx])))
      skip
      refine sfz 0 hO fun s hO HC Tn => ?_
      refine sap 2 hO HC H fun aa4 aa5 aa6 s hO => ?_
      refine au ?_
      replace H := H.2
      obtain ⟨O7, H⟩ := H
      refine zo (J03 rfl rfl (wrap_i64 O7)) ?_
      refine au ?_
      refine cl1 (Fl.int .u8) 0 hO mS.u fun s hO => ?_
      refine sdr [0] hO fun s hO => ?_
      exact hX2 _ H _ _ agr ⟨_, _, _, _, _, _, ⟨agr, hO, fr⟩⟩
     skip
     refine sbu Fl.str 9 [((ix d_29 (k1_15 : Int)) ++ (byt ([(IntKind.u8.wrap ((97 : Int) + (k2_27 : Int)))])))] hO (fun aa7 aa8 s hO => ?_) (hE := fun _ _ => (Els.cons rfl ⟨rfl, (lenApp wM)⟩ (Els.nil _ _ _) (by simp [mx])))
     skip
     refine sfz 1 hO fun s hO HD To => ?_
     refine sap 4 hO HD H fun aa9 aba abb s hO => ?_
     replace H := H.2
     skip
     refine sfz 0 hO fun s hO HE Tp => ?_
     refine sap 2 hO HE H fun abc abd abe s hO => ?_
     refine au ?_
     replace H := H.2
     obtain ⟨O8, H⟩ := H
     refine zo (J03 rfl rfl (wrap_i64 O8)) ?_
     refine au ?_
     refine cl1 (Fl.int .u8) 0 hO mS.u fun s hO => ?_
     refine sdr [0] hO fun s hO => ?_
     exact hX2 _ H _ _ agr ⟨_, _, _, _, _, _, ⟨agr, hO, fr⟩⟩
    skip
    refine op1 1 hO fun Tq s hO k8 => ?_
    have hle605 := J0x k8.bd
    refine GoT.step rfl ((oldBytes 1 hO rfl k8.u underlying126 underlying5 underlying9 rfl) _ (Same.refl _)) (Same.refl _) rfl rfl ?_
    refine GoT.both ?_ ?_
    ·skip
     skip
     refine sfz 0 hO fun s hO HF Ts => ?_
     refine sap 3 hO HF H fun abf abg abh s hO => ?_
     replace H := H.2
     skip
     refine sld1 2 hO h57 h58 ?_
     have hle611 := t1le 2 hO h57 h58
     obtain ⟨Cm, H⟩ := H
     refine GoT.pure rfl (J0a rfl rfl Cm) rfl rfl ?_
     skip
     refine sbu Fl.str 9 [((ix d_29 (k1_15 : Int)) ++ (byt ([(IntKind.u8.wrap ((97 : Int) + (k2_27 : Int)))])))] hO (fun abi abj s hO => ?_) (hE := fun _ _ => (Els.cons rfl ⟨rfl, (lenApp Cm)⟩ (Els.nil _ _ _) (by simp [mx])))
     skip
     refine sfz 0 hO fun s hO HG Tt => ?_
     refine sap 2 hO HG.u H fun abk abl abm s hO => ?_
     refine au ?_
     replace H := H.2
     obtain ⟨O9, H⟩ := H
     refine zo (J03 rfl rfl (wrap_i64 O9)) ?_
     refine au ?_
     refine cl1 (Fl.int .u8) 0 hO k8.u fun s hO => ?_
     refine sdr [0] hO fun s hO => ?_
     exact hX2 _ H _ _ agr ⟨_, _, _, _, _, _, ⟨agr, hO, fr⟩⟩
    replace H := (And.intro H.2.1 (And.intro H.1 (And.intro H.2.2.1 (And.intro H.2.2.2.1 H.2.2.2.2))))
    refine sld1 3 hO h57 h58 ?_
    have hle622 := t1le 3 hO h57 h58
    obtain ⟨wN, H⟩ := H
    refine GoT.pure rfl (J0a rfl rfl wN) rfl rfl ?_
    refine GoT.both ?_ ?_
    ·skip
     skip
     refine sfz 0 hO fun s hO HH Tv => ?_
     refine sap 3 hO HH.u H fun abn abo abp s hO => ?_
     replace H := H.2
     skip
     refine sbu Fl.str 9 [((ix d_29 (k1_15 : Int)) ++ (byt ([(IntKind.u8.wrap ((97 : Int) + (k2_27 : Int)))])))] hO (fun abq abr s hO => ?_) (hE := fun _ _ => (Els.cons rfl ⟨rfl, (lenApp wN)⟩ (Els.nil _ _ _) (by simp [mx])))
     skip
     refine sfz 0 hO fun s hO HI Tw => ?_
     refine sap 2 hO HI H fun abs abt abu s hO => ?_
     refine au ?_
     replace H := H.2
     obtain ⟨Pa, H⟩ := H
     refine zo (J03 rfl rfl (wrap_i64 Pa)) ?_
     refine au ?_
     refine cl1 (Fl.int .u8) 0 hO k8.u fun s hO => ?_
     refine sdr [0] hO fun s hO => ?_
     exact hX2 _ H _ _ agr ⟨_, _, _, _, _, _, ⟨agr, hO, fr⟩⟩
    skip
    refine sbu Fl.str 9 [((ix d_29 (k1_15 : Int)) ++ (byt ([(IntKind.u8.wrap ((97 : Int) + (k2_27 : Int)))])))] hO (fun abv abw s hO => ?_) (hE := fun _ _ => (Els.cons rfl ⟨rfl, (lenApp wN)⟩ (Els.nil _ _ _) (by simp [mx])))
    skip
    refine sfz 1 hO fun s hO HJ Tx => ?_
    refine sap 4 hO HJ H fun abx aby abz s hO => ?_
    replace H := H.2
    skip
    refine sfz 0 hO fun s hO HK Ty => ?_
    refine sap 2 hO HK H fun abA abB abC s hO => ?_
    refine au ?_
    replace H := H.2
    obtain ⟨Pb, H⟩ := H
    refine zo (J03 rfl rfl (wrap_i64 Pb)) ?_
    refine au ?_
    refine cl1 (Fl.int .u8) 0 hO k8.u fun s hO => ?_
    refine sdr [0] hO fun s hO => ?_
    exact hX2 _ H _ _ agr ⟨_, _, _, _, _, _, ⟨agr, hO, fr⟩⟩
   refine GoT.both ?_ ?_
   ·skip
    skip
    refine sld1 2 hO h57 h58 ?_
    have hle652 := t1le 2 hO h57 h58
    refine GoT.both ?_ ?_
    ·skip
     skip
     refine sbu Fl.i 3 [(ix (ix a0.Next (ix fH (k1_15 : Int))) (k2_27 : Int))] hO fun abE abG s hO => ?_
     refine GoT.both ?_ ?_
     ·skip
      skip
      refine sfz 0 hO fun s hO HL Tz => ?_
      refine sap 3 hO HL H fun abH abI abJ s hO => ?_
      replace H := H.2
      skip
      refine op1 0 hO fun TA s hO rS => ?_
      have hle663 := J0x rS.bd
      refine GoT.step rfl ((oldBytes 0 hO rfl rS.u underlying126 underlying5 underlying9 rfl) _ (Same.refl _)) (Same.refl _) rfl rfl ?_
      obtain ⟨Cn, H⟩ := H
      refine GoT.pure rfl (J0a rfl rfl Cn) rfl rfl ?_
      skip
      refine sbu Fl.str 9 [((ix d_29 (k1_15 : Int)) ++ (byt ([(IntKind.u8.wrap ((97 : Int) + (k2_27 : Int)))])))] hO (fun abK abL s hO => ?_) (hE := fun _ _ => (Els.cons rfl ⟨rfl, (lenApp Cn)⟩ (Els.nil _ _ _) (by simp [mx])))
      skip
      refine sfz 0 hO fun s hO HM TB => ?_
      refine sap 2 hO HM H fun abM abN abO s hO => ?_
      refine au ?_
      replace H := H.2
      obtain ⟨Pc, H⟩ := H
      refine zo (J03 rfl rfl (wrap_i64 Pc)) ?_
      refine au ?_
      refine cl1 (Fl.int .u8) 0 hO rS.u fun s hO => ?_
      refine sdr [0] hO fun s hO => ?_
      exact hX2 _ H _ _ agr ⟨_, _, _, _, _, _, ⟨agr, hO, fr⟩⟩
     replace H := (And.intro H.2.1 (And.intro H.1 (And.intro H.2.2.1 (And.intro H.2.2.2.1 H.2.2.2.2))))
     refine op1 1 hO fun TC s hO mT => ?_
     have hle676 := J0x mT.bd
     refine GoT.step rfl ((oldBytes 1 hO rfl mT.u underlying126 underlying5 underlying9 rfl) _ (Same.refl _)) (Same.refl _) rfl rfl ?_
     obtain ⟨wO, H⟩ := H
     refine GoT.pure rfl (J0a rfl rfl wO) rfl rfl ?_
     refine GoT.both ?_ ?_
     ·skip
      skip
      refine sfz 0 hO fun s hO HN TD => ?_
      refine sap 3 hO HN.u H fun abP abQ abR s hO => ?_
      replace H := H.2
      skip
      refine sbu Fl.str 9 [((ix d_29 (k1_15 : Int)) ++ (byt ([(IntKind.u8.wrap ((97 : Int) + (k2_27 : Int)))])))] hO (fun abS abT s hO => ?_) (hE := fun _ _ => (Els.cons rfl ⟨rfl, (lenApp wO)⟩ (Els.nil _ _ _) (by simp [mx])))
      skip
      refine sfz 0 hO fun s hO HO TE => ?_
      refine sap 2 hO HO H fun abU abV abX s hO => ?_
      refine au ?_
      replace H := H.2
      obtain ⟨Pd, H⟩ := H
      refine zo (J03 rfl rfl (wrap_i64 Pd)) ?_
      refine au ?_
      refine cl1 (Fl.int .u8) 0 hO mT.u fun s hO => ?_
      refine sdr [0] hO fun s hO => ?_
      exact hX2 _ H _ _ agr ⟨_, _, _, _, _, _, ⟨agr, hO, fr⟩⟩
     skip
     refine sbu Fl.str 9 [((ix d_29 (k1_15 : Int)) ++ (byt ([(IntKind.u8.wrap ((97 : Int) + (k2_27 : Int)))])))] hO (fun abY ab0 s hO => ?_) (hE := fun _ _ => (Els.cons rfl ⟨rfl, (lenApp wO)⟩ (Els.nil _ _ _) (by simp [mx])))
     skip
     refine sfz 1 hO fun s hO HP TF => ?_
     refine sap 4 hO HP H fun ab1 ab2 ab3 s hO => ?_
     replace H := H.2
     skip
     refine sfz 0 hO fun s hO HQ TG => ?_
     refine sap 2 hO HQ H fun ab4 ab5 ab6 s hO => ?_
     refine au ?_
     replace H := H.2
     obtain ⟨Pe, H⟩ := H
     refine zo (J03 rfl rfl (wrap_i64 Pe)) ?_
     refine au ?_
     refine cl1 (Fl.int .u8) 0 hO mT.u fun s hO => ?_
     refine sdr [0] hO fun s hO => ?_
     exact hX2 _ H _ _ agr ⟨_, _, _, _, _, _, ⟨agr, hO, fr⟩⟩
    replace H := (And.intro H.2.1 (And.intro H.1 (And.intro H.2.2.1 (And.intro H.2.2.2.1 H.2.2.2.2))))
    refine op1 0 hO fun TH s hO k9 => ?_
    have hle708 := J0x k9.bd
    refine GoT.step rfl ((oldBytes 0 hO rfl k9.u underlying126 underlying5 underlying9 rfl) _ (Same.refl _)) (Same.refl _) rfl rfl ?_
    obtain ⟨rT, H⟩ := H
    refine GoT.pure rfl (J0a rfl rfl rT) rfl rfl ?_
    refine GoT.both ?_ ?_
    ·skip
     skip
     refine sbu Fl.i 3 [(ix (ix a0.Next (ix fH (k1_15 : Int))) (k2_27 : Int))] hO fun ab7 ab8 s hO => ?_
     refine GoT.both ?_ ?_
     ·skip
      skip
      refine sfz 0 hO fun s hO HR TJ => ?_
      refine sap 3 hO HR.u H fun ab9 aca acb s hO => ?_
      replace H := H.2
      skip
      refine sbu Fl.str 9 [((ix d_29 (k1_15 : Int)) ++ (byt ([(IntKind.u8.wrap ((97 : Int) + (k2_27 : Int)))])))] hO (fun acd ace s hO => ?_) (hE := fun _ _ => (Els.cons rfl ⟨rfl, (lenApp rT)⟩ (Els.nil _ _ _) (by simp [mx])))
      skip
      refine sfz 0 hO fun s hO HS TK => ?_
      refine sap 2 hO HS H fun acf acg ach s hO => ?_
      refine au ?_
      replace H := H.2
      obtain ⟨Pg, H⟩ := H
      refine zo (J03 rfl rfl (wrap_i64 Pg)) ?_
      refine au ?_
      refine cl1 (Fl.int .u8) 0 hO k9.u fun s hO => ?_
      refine sdr [0] hO fun s hO => ?_
      exact hX2 _ H _ _ agr ⟨_, _, _, _, _, _, ⟨agr, hO, fr⟩⟩
     skip
     refine sbu Fl.str 9 [((ix d_29 (k1_15 : Int)) ++ (byt ([(IntKind.u8.wrap ((97 : Int) + (k2_27 : Int)))])))] hO (fun aci acj s hO => ?_) (hE := fun _ _ => (Els.cons rfl ⟨rfl, (lenApp rT)⟩ (Els.nil _ _ _) (by simp [mx])))
     skip
     refine sfz 1 hO fun s hO HT TL => ?_
     refine sap 4 hO HT H fun ack acl acm s hO => ?_
     replace H := H.2
     skip
     refine sfz 0 hO fun s hO HU TM => ?_
     refine sap 2 hO HU H fun acn aco acp s hO => ?_
     refine au ?_
     replace H := H.2
     obtain ⟨Ph, H⟩ := H
     refine zo (J03 rfl rfl (wrap_i64 Ph)) ?_
     refine au ?_
     refine cl1 (Fl.int .u8) 0 hO k9.u fun s hO => ?_
     refine sdr [0] hO fun s hO => ?_
     exact hX2 _ H _ _ agr ⟨_, _, _, _, _, _, ⟨agr, hO, fr⟩⟩
    skip
    refine sbu Fl.str 9 [((ix d_29 (k1_15 : Int)) ++ (byt ([(IntKind.u8.wrap ((97 : Int) + (k2_27 : Int)))])))] hO (fun acq acr s hO => ?_) (hE := fun _ _ => (Els.cons rfl ⟨rfl, (lenApp rT)⟩ (Els.nil _ _ _) (by simp [mx])))
    skip
    refine sbu Fl.i 3 [(ix (ix a0.Next (ix fH (k1_15 : Int))) (k2_27 : Int))] hO fun acs act s hO => ?_
    skip
    refine sfz 0 hO fun s hO HV TN => ?_
    refine sap 4 hO HV H fun acu acv acw s hO => ?_
    replace H := H.2
    skip
    refine sfz 0 hO fun s hO HW TO => ?_
    refine sap 2 hO HW H fun acx acy acz s hO => ?_
    refine au ?_
    replace H := H.2
    obtain ⟨Pi, H⟩ := H
    refine zo (J03 rfl rfl (wrap_i64 Pi)) ?_
    refine au ?_
    refine cl1 (Fl.int .u8) 0 hO k9.u fun s hO => ?_
    refine sdr [0] hO fun s hO => ?_
    exact hX2 _ H _ _ agr ⟨_, _, _, _, _, _, ⟨agr, hO, fr⟩⟩
   skip
   refine op1 0 hO fun TP s hO g9 => ?_
   have hle760 := J0x g9.bd
   refine GoT.step rfl ((oldBytes 0 hO rfl g9.u underlying126 underlying5 underlying9 rfl) _ (Same.refl _)) (Same.refl _) rfl rfl ?_
   refine GoT.both ?_ ?_
   ·skip
    skip
    refine sbu Fl.i 3 [(ix (ix a0.Next (ix fH (k1_15 : Int))) (k2_27 : Int))] hO fun acA acB s hO => ?_
    refine GoT.both ?_ ?_
    ·skip
     skip
     refine sfz 0 hO fun s hO HX TQ => ?_
     refine sap 3 hO HX H fun acC acD acE s hO => ?_
     replace H := H.2
     skip
     refine sld1 2 hO h57 h58 ?_
     have hle769 := t1le 2 hO h57 h58
     obtain ⟨Co, H⟩ := H
     refine GoT.pure rfl (J0a rfl rfl Co) rfl rfl ?_
     skip
     refine sbu Fl.str 9 [((ix d_29 (k1_15 : Int)) ++ (byt ([(IntKind.u8.wrap ((97 : Int) + (k2_27 : Int)))])))] hO (fun acF acG s hO => ?_) (hE := fun _ _ => (Els.cons rfl ⟨rfl, (lenApp Co)⟩ (Els.nil _ _ _) (by simp [mx])))
     skip
     refine sfz 0 hO fun s hO HY TS => ?_
     refine sap 2 hO HY.u H fun acH acI acJ s hO => ?_
     refine au ?_
     replace H := H.2
     obtain ⟨Pj, H⟩ := H
     refine zo (J03 rfl rfl (wrap_i64 Pj)) ?_
     refine au ?_
     refine cl1 (Fl.int .u8) 0 hO g9.u fun s hO => ?_
     refine sdr [0] hO fun s hO => ?_
     exact hX2 _ H _ _ agr ⟨_, _, _, _, _, _, ⟨agr, hO, fr⟩⟩
    replace H := (And.intro H.2.1 (And.intro H.1 (And.intro H.2.2.1 (And.intro H.2.2.2.1 H.2.2.2.2))))
    refine sld1 3 hO h57 h58 ?_
    have hle780 := t1le 3 hO h57 h58
    obtain ⟨wP, H⟩ := H
    refine GoT.pure rfl (J0a rfl rfl wP) rfl rfl ?_
    refine GoT.both ?_ ?_
    ·skip
     skip
     refine sfz 0 hO fun s hO H0 TT => ?_
     refine sap 3 hO H0.u H fun acK acL acM s hO => ?_
     replace H := H.2
     skip
     refine sbu Fl.str 9 [((ix d_29 (k1_15 : Int)) ++ (byt ([(IntKind.u8.wrap ((97 : Int) + (k2_27 : Int)))])))] hO (fun acN acO s hO => ?_) (hE := fun _ _ => (Els.cons rfl ⟨rfl, (lenApp wP)⟩ (Els.nil _ _ _) (by simp [mx])))
     skip
     refine sfz 0 hO fun s hO H1 TU => ?_
     refine sap 2 hO H1 H fun acP acQ acR s hO => ?_
     refine au ?_
     replace H := H.2
     obtain ⟨Pk, H⟩ := H
     refine zo (J03 rfl rfl (wrap_i64 Pk)) ?_
     refine au ?_
     refine cl1 (Fl.int .u8) 0 hO g9.u fun s hO => ?_
     refine sdr [0] hO fun s hO => ?_
     exact hX2 _ H _ _ agr ⟨_, _, _, _, _, _, ⟨agr, hO, fr⟩⟩
    skip
    refine sbu Fl.str 9 [((ix d_29 (k1_15 : Int)) ++ (byt ([(IntKind.u8.wrap ((97 : Int) + (k2_27 : Int)))])))] hO (fun acS acT s hO => ?_) (hE := fun _ _ => (Els.cons rfl ⟨rfl, (lenApp wP)⟩ (Els.nil _ _ _) (by simp [mx])))
    skip
    refine sfz 1 hO fun s hO H2 TV => ?_
    refine sap 4 hO H2 H fun acU acV acW s hO => ?_
    replace H := H.2
    skip
    refine sfz 0 hO fun s hO H3 TW => ?_
    refine sap 2 hO H3 H fun acX acY ac0 s hO => ?_
    refine au ?_
    replace H := H.2
    obtain ⟨Pl, H⟩ := H
    refine zo (J03 rfl rfl (wrap_i64 Pl)) ?_
    refine au ?_
    refine cl1 (Fl.int .u8) 0 hO g9.u fun s hO => ?_
    refine sdr [0] hO fun s hO => ?_
    exact hX2 _ H _ _ agr ⟨_, _, _, _, _, _, ⟨agr, hO, fr⟩⟩
   replace H := (And.intro H.2.1 (And.intro H.1 (And.intro H.2.2.1 (And.intro H.2.2.2.1 H.2.2.2.2))))
   refine sld1 2 hO h57 h58 ?_
   have hle810 := t1le 2 hO h57 h58
   obtain ⟨rU, H⟩ := H
   refine GoT.pure rfl (J0a rfl rfl rU) rfl rfl ?_
   refine GoT.both ?_ ?_
   ·skip
    skip
    refine sbu Fl.i 3 [(ix (ix a0.Next (ix fH (k1_15 : Int))) (k2_27 : Int))] hO fun ac1 ac2 s hO => ?_
    refine GoT.both ?_ ?_
    ·skip
     skip
     refine sfz 0 hO fun s hO H4 TX => ?_
     refine sap 3 hO H4.u H fun ac3 ac4 ac5 s hO => ?_
     replace H := H.2
     skip
     refine sbu Fl.str 9 [((ix d_29 (k1_15 : Int)) ++ (byt ([(IntKind.u8.wrap ((97 : Int) + (k2_27 : Int)))])))] hO (fun ac6 ac7 s hO => ?_) (hE := fun _ _ => (Els.cons rfl ⟨rfl, (lenApp rU)⟩ (Els.nil _ _ _) (by simp [mx])))
     skip
     refine sfz 0 hO fun s hO H5 TY => ?_
     refine sap 2 hO H5 H fun ac8 ac9 ada s hO => ?_
     refine au ?_
     replace H := H.2
     obtain ⟨Pm, H⟩ := H
     refine zo (J03 rfl rfl (wrap_i64 Pm)) ?_
     refine au ?_
     refine cl1 (Fl.int .u8) 0 hO g9.u fun s hO => ?_
     refine sdr [0] hO fun s hO => ?_
     exact hX2 _ H _ _ agr ⟨_, _, _, _, _, _, ⟨agr, hO, fr⟩⟩
    skip
    refine sbu Fl.str 9 [((ix d_29 (k1_15 : Int)) ++ (byt ([(IntKind.u8.wrap ((97 : Int) + (k2_27 : Int)))])))] hO (fun adb adc s hO => ?_) (hE := fun _ _ => (Els.cons rfl ⟨rfl, (lenApp rU)⟩ (Els.nil _ _ _) (by simp [mx])))
    skip
    refine sfz 1 hO fun s hO H6 T3 => ?_
    refine sap 4 hO H6 H fun ade adf adg s hO => ?_
    replace H := H.2
    skip
    refine sfz 0 hO fun s hO H7 T4 => ?_
    refine sap 2 hO H7 H fun adh adi adk s hO => ?_
    refine au ?_
    replace H := H.2
    obtain ⟨Pn, H⟩ := H
    refine zo (J03 rfl rfl (wrap_i64 Pn)) ?_
    refine au ?_
    refine cl1 (Fl.int .u8) 0 hO g9.u fun s hO => ?_
    refine sdr [0] hO fun s hO => ?_
    exact hX2 _ H _ _ agr ⟨_, _, _, _, _, _, ⟨agr, hO, fr⟩⟩
   skip
   refine sbu Fl.str 9 [((ix d_29 (k1_15 : Int)) ++ (byt ([(IntKind.u8.wrap ((97 : Int) + (k2_27 : Int)))])))] hO (fun adl adm s hO => ?_) (hE := fun _ _ => (Els.cons rfl ⟨rfl, (lenApp rU)⟩ (Els.nil _ _ _) (by simp [mx])))
   skip
   refine sbu Fl.i 3 [(ix (ix a0.Next (ix fH (k1_15 : Int))) (k2_27 : Int))] hO fun adn ado s hO => ?_
   skip
   refine sfz 0 hO fun s hO H8 T5 => ?_
   refine sap 4 hO H8 H fun adp adq adr s hO => ?_
   replace H := H.2
   skip
   refine sfz 0 hO fun s hO H9 T6 => ?_
   refine sap 2 hO H9 H fun ads adt adu s hO => ?_
   refine au ?_
   replace H := H.2
   obtain ⟨Po, H⟩ := H
   refine zo (J03 rfl rfl (wrap_i64 Po)) ?_
   refine au ?_
   refine cl1 (Fl.int .u8) 0 hO g9.u fun s hO => ?_
   refine sdr [0] hO fun s hO => ?_
   exact hX2 _ H _ _ agr ⟨_, _, _, _, _, _, ⟨agr, hO, fr⟩⟩
  refine au ?_
  obtain ⟨Pp, H⟩ := H
  refine zo (J03 rfl rfl (wrap_i64 Pp)) ?_
  refine au ?_
  exact hX1 _ H _ _ agr ⟨_, _, _, _, _, _, ⟨agr, hO, fr⟩⟩
 refine au ?_
 refine sfz 2 hO fun s hO Ia Ib => ?_
 refine sfz 1 hO fun s hO Ic Id => ?_
 refine Go1.ret2 func113 rfl ⟨_, _, _, _, _, _, ?_, frs, Ia.r, Ic.r, H⟩
 exact (congrArg (fun l => Value.tuple (List.toArray l)) (J02 (congrArg (fun nn => Value.slice p22 nn c23) Ib) (J02 (congrArg (fun nn => Value.slice p18 nn c19) Id) rfl)))
theorem body68 : Body prog 68 := ⟨f68, func68, rfl, by kernel_rfl⟩
theorem J6u {ah ap : Option Addr} {aj aq : Nat} {a0 : DFA} (hA : HA0 A w0) (aa : ISb A w0 ah aj a0.Final) (ar : ISs A w0 ap aq a0.Next) {K : DFA → List Int → Prop} (H : J3x a0 K) :
    CallsV prog 68 #[.agg (cDF a0 ah aj ap aq)] w0 (fun v w' => ∃ (r0 : DFA), ∃ (r1 : List Int), ∃ (aI : Option Addr), ∃ (aJ : Nat), ∃ (aT : Option Addr), ∃ (aU : Nat), ∃ (fq : Option Addr), ∃ (ft : Nat), v = .tuple #[.agg (cDF r0 aI aJ aT aU), .slice fq r1.length ft] ∧ Same w0 w' ∧ ISb A w' aI aJ r0.Final ∧ ISs A w' aT aU r0.Next ∧ ISi A w' fq ft r1 ∧ K r0 r1) := by
 refine cal hA func68 ntmps68 fun hO hB => ?_
 unfold J3x at H
 refine sbx hO fun w1 B2 s hO => ?_
 refine sal hO fun w4 B5 s hO => ?_
 refine sag 1 hO ?_
 refine zcr (J01 body113 rfl (J5F hO.lt aa.u ar.u H)) fun _ w9 => e4 fun r7 r8 kj kl => e2 fun ce cf => sc0 hO fun s hO => d2 fun cj d7 H => ?_
 refine sln0 ?_
 refine smk Fl.i (H aa.bd) hO fun w10 p11 s hO => ?_
 refine sln1 0 hO ?_
 refine au ?_
 refine lv [1, 2, 4, 6, 26] hO (H aa.bd).2.2 (fun E (k1_14, j9) σ w => (fun Z => Lo A w0 σ w [(27, .int .i64 (k1_14 : Int))] Z ∧ ISi (bl Z ++ A) w kj kl r7) (E.set 0 (t1 Fl.i 3 p11 a0.Final.length a0.Final.length j9))) ⟨⟨agr, hO, fr⟩, cj.u⟩ ?_
 refine fun X1 => p1 fun k1_14 j9 => fun H hX1 σ w13 hk => d1 fun hL => fun cj => d2 (fun hag hO hB => keep2 hk hag ?_) hL
 dsimp only [esets, sS, sZ] at hO hB cj
 dsimp only at H
 revert hO; repeat (rename Owns .. => q; clear q)
 intro hO; repeat (rename Sq .. => q; clear q)
 refine scm H (fun h16 H => ?_) fun h16 H => ?_
 ·refine six1 0 hO H.1 H.2.1 ?_
  refine sst (u := (-1 : Int)) 0 hO H.1 H.2.1 fun w17 s hO => ?_
  refine au ?_
  have h18 := H.1
  have h19 := H.2.1
  replace H := H.2.2
  obtain ⟨h20, H⟩ := H
  refine zo (J03 rfl rfl (wrap_i64 h20)) ?_
  refine au ?_
  exact hX1 _ H _ _ agr ⟨⟨agr, hO, fr⟩, cj.u⟩
 refine sln0 ?_
 refine au ?_
 refine lv [1, 2, 4, 6, 34, 35] hO (H cj.bd) (fun E (rV, i4) σ w => (fun Z => Lo A w0 σ w [(36, .int .i64 (rV : Int))] Z ∧ ISi (bl Z ++ A) w kj kl r7) (E.set 0 (t1 Fl.i 3 p11 a0.Final.length a0.Final.length i4))) ⟨⟨agr, hO, fr⟩, cj.u⟩ ?_
 refine fun X2 => p1 fun rV i4 => fun H hX2 σ w21 hk => d1 fun hL => fun cj => d2 (fun hag hO hB => keep2 hk hag ?_) hL
 dsimp only [esets, sS, sZ] at hO hB cj
 dsimp only at H
 revert hO; repeat (rename Owns .. => q; clear q)
 intro hO; repeat (rename Sq .. => q; clear q)
 refine scm H (fun h24 H => ?_) fun h24 H => ?_
 ·refine sxl hO cj H.1 H.2.1 ?_
  refine six1 0 hO H.2.2.1 H.2.2.2.1 ?_
  refine sst (u := (rV : Int)) 0 hO H.2.2.1 H.2.2.2.1 fun w25 s hO => ?_
  refine sinc (natbd h24 cj.bd) ?_
  refine au ?_
  exact hX2 _ H.2.2.2.2 _ _ agr ⟨⟨agr, hO, fr⟩, cj.u⟩
 refine au ?_
 refine zo (J04 underlying25 ti25 (pl := [(0, 1), (1, 1), (2, 1), (3, 1)]) (vs := [(0, .int .i64 a0.Letters)]) (cs := #[.int .i64 a0.Letters, .int .i64 (0 : Int), .slice none 0 0, .slice none 0 0]) (by kernel_rfl) rfl (by kernel_rfl)) ?_
 refine sal hO fun w26 B27 s hO => ?_
 refine sba 0 hO fun w29 s hO => ?_
 refine sln0 ?_
 refine au ?_
 refine snil Fl.bool 4 hO fun s hO => ?_
 have Ie := Stp.nil (e := 31) (r := 1) hO
 refine nst Ie fun s hO => ?_
 have Pq := elN (Rp.sl (Rp.int .i64)) hO
 refine lv [1, 2, 6, 10, 49, 50] hO H (fun E (fW, fG, d_42) σ w => ∃ n41 p39 c40 rW n45 p43 c44, (fun Z => Lo A w0 σ w [(51, .int .i64 (fW : Int))] Z ∧ Els (Rp.sl (Rp.int .i64)) (bl Z ++ A) w rW fG ∧ ISi (bl Z ++ A) w kj kl r7) (esets E [(0, .row 31 1 p39 n41 c40 rW), (1, t1 Fl.bool 4 p43 n45 c44 d_42), (2, .blk B27 (.cells #[.int .i64 a0.Letters, .int .i64 (0 : Int), .slice p43 n45 c44, .slice p39 n41 c40] 25 (0, 0)))])) ⟨_, _, _, _, _, _, _, ⟨agr, hO, fr⟩, Pq.u, cj.u⟩ ?_
 refine fun X3 => p2 fun fW fG d_42 => fun H hX3 σ w34 hk => e4 fun n41 p39 c40 rW => e3 fun n45 p43 c44 => d1 fun hL => d1 fun km cj => d2 (fun hag hO hB => keep2 hk hag ?_) hL
 dsimp only [esets, sS, sZ] at hO hB km cj
 dsimp only at H
 revert hO; repeat (rename Owns .. => q; clear q)
 intro hO; repeat (rename Sq .. => q; clear q)
 refine scm H (fun h46 H => ?_) fun h46 H => ?_
 ·refine sxl hO cj H.1 H.2.1 ?_
  refine sxls hO ar.u H.2.2.1 H.2.2.2.1 fun p47 c48 iH => ?_
  refine sln0 ?_
  refine au ?_
  refine snil Fl.i 3 hO fun s hO => ?_
  refine lv [1, 2, 6, 10, 12, 49, 50, 51, 59, 60] hO (H.2.2.2.2 iH.bd) (fun E (rX, eC) σ w => ∃ n56 p54 c55, (fun Z => Lo A w0 σ w [(13, .slice p54 n56 c55), (61, .int .i64 (rX : Int))] Z ∧ Els (Rp.sl (Rp.int .i64)) (bl Z ++ A) w rW fG ∧ ISi (bl Z ++ A) w kj kl r7 ∧ ISi (bl Z ++ A) w p47 c48 (ix a0.Next (ix r7 (fW : Int)))) (E.set 0 (t1 Fl.i 3 p54 n56 c55 eC))) ⟨_, _, _, ⟨agr, hO, fr⟩, km.u, cj.u, iH.u⟩ ?_
  refine fun X4 => p1 fun rX eC => fun H hX4 σ w51 hk => e3 fun n56 p54 c55 => d1 fun hL => d2 fun km cj iH => d2 (fun hag hO hB => keep2 hk hag ?_) hL
  dsimp only [esets, sS, sZ] at hO hB km cj iH
  dsimp only at H
  revert hO; repeat (rename Owns .. => q; clear q)
  intro hO; repeat (rename Sq .. => q; clear q)
  refine scm H (fun h57 H => ?_) fun h57 H => ?_
  ·refine sxl hO iH H.1 H.2.1 ?_
   refine sxl1 4 hO H.2.2.1 H.2.2.2.1 ?_
   refine sap1 ((ix i4 (ix (ix a0.Next (ix r7 (fW : Int))) (rX : Int)))) 0 hO H.2.2.2.2 fun _ w58 p59 c60 s hO => ?_
   refine sinc (natbd h57 iH.bd) ?_
   refine au ?_
   exact hX4 _ H.2.2.2.2.2 _ _ agr ⟨_, _, _, ⟨agr, hO, fr⟩, km.u, cj.u, iH.u⟩
  refine au ?_
  refine drA (CSv.tr [(some ⟨B27, 3, none⟩), (some ⟨B27, 2, none⟩), (some ⟨B2, 2, none⟩), (padd ah ((ix r7 (fW : Int)).toNat * (Rp.bool).sz + 0))]) 5 [(0, m0), (1, m1), (2, m0), (5, m0), (6, m1), (7, m0), (8, m1), (9, m0), (10, m0), (11, m1), (3, m4), (4, m2), (14, m0), (12, m4), (13, m2), (15, m3), (16, m0), (17, m3)] hO fun w61 s hO => ?_
  have rY := hO.le
  have hw63 := (fr : Fr (bl []) w0 _ w61).ch.size
  refine au ?_
  refine GoQA.stable rfl (loadV (.head _) rfl (J00 3 hO rfl rfl) underlying23 rfl rfl) rfl rfl ?_
  refine au ?_
  refine au ?_
  refine GoQA.stable rfl (loadV (.tail _ (.head _)) rfl (J00 3 hO rfl rfl) underlying22 rfl rfl) rfl rfl ?_
  refine au ?_
  refine GoQA.stable rfl (loadV (.tail _ (.tail _ (.head _))) rfl (J00 6 hO rfl rfl) underlying22 rfl rfl) rfl rfl ?_
  refine au ?_
  refine six aa H.1 H.2.1 ?_
  have h64 := H.1
  have h65 := H.2.1
  refine GoQA.stable rfl (loadV (.tail _ (.tail _ (.tail _ (.head _)))) (J7W (aa.some_ h64 h65)) (ldBoolC aa.u h64 h65) underlying4 rfl rfl) rfl rfl ?_
  refine sfz 0 hO fun s hO Pr Ps => ?_
  refine GoQA.alloc rfl rfl (alBuild (n := 1) (parts := [(0, .slice p54 n56 c55)]) (vs := [.slice p54 n56 c55]) underlying23 ti31 (by decide) (by decide) (by decide) (by kernel_rfl) rfl rfl) ?_
  intro w67 A68 b69 A70 Pt Pu hd73 hnb74 hh75
  refine sgw Pt hO fun s hO => ?_
  have wQ := elE (Rp.sl (Rp.int .i64)) [.slice p54 n56 c55] [eC] hO (Els.cons rfl ⟨p54, c55, congrArg some (congrArg (fun nn => Value.slice p54 nn c55) Ps), Pr.u⟩ (Els.nil _ _ _) (by simp [mx]))
  refine sgn (e := .row 31 1 (some ⟨b69, 0, none⟩) 1 1 [.slice p54 n56 c55]) Pu hO rY hw63 hnb74 rfl hh75 hd73 (fr : Fr (bl []) w0 _ w67) fun s hO hB => ?_
  replace wQ := wQ.ch s.ch
  refine GoQA.loudI rfl rfl fun w79 A80 Pv => ?_
  refine sgw Pv hO fun s hO => ?_
  refine sfzR 0 hO wQ.u fun s hO Pw Px => ?_
  replace H := H.2.2
  obtain ⟨h84, H⟩ := H
  have zz := oapp underlying23 ti31 rfl 0 hO rfl km.u Pw Px h84 (by decide)
  obtain ⟨w85, p86, c87, adv, ju, lV, Ig⟩ := zz
  dsimp only [sS, sZ] at lV
  refine GoAt.step (Ig (by exact rfl) (by exact rfl)) (fun _ => (CSv.cons (cs_eq (J00 2 hO rfl rfl) (J00 2 ju.own rfl rfl)) (CSv.cons (cs_eq (J00 2 hO rfl rfl) (J00 2 ju.own rfl rfl)) (CSv.cons (cs_eq (J00 5 hO rfl rfl) (J00 5 ju.own rfl rfl)) (CSv.cons (cskC ju.ch aa.u h64 h65) (CSv.nil _ _)))))) (Stp.kp hO ju) rfl ?_
  refine nst ju fun s hO => ?_
  refine au ?_
  refine GoQA.alloc rfl rfl (alBuild (n := 1) (parts := [(0, .bool (ix a0.Final (ix r7 (fW : Int))))]) (vs := [.bool (ix a0.Final (ix r7 (fW : Int)))]) underlying22 ti4 (by decide) (by decide) (by decide) (by kernel_rfl) rfl rfl) ?_
  intro w94 A95 b96 A97 Py Pz hd100 hnb101 hh102
  refine sgw Py hO fun s hO => ?_
  have iI := elE (Rp.bool) [.bool (ix a0.Final (ix r7 (fW : Int)))] [ix a0.Final (ix r7 (fW : Int))] hO (Els.cons rfl rfl (Els.nil _ _ _) (by simp [mx]))
  refine sgn (e := .row 4 1 (some ⟨b96, 0, none⟩) 1 1 [.bool (ix a0.Final (ix r7 (fW : Int)))]) Pz hO rY hw63 hnb101 rfl hh102 hd100 (fr : Fr (bl []) w0 _ w94) fun s hO hB => ?_
  replace iI := iI.ch s.ch
  refine cl1 Fl.bool 0 hO iI.u fun s hO => ?_
  refine GoQA.loudI rfl rfl fun uM A105 Ih => ?_
  refine sgw Ih hO fun s hO => ?_
  refine sfz 0 hO fun s hO Ii T7 => ?_
  have hu112 := uAt hO aa
  refine sapQ 1 hO Ii H (fun ur adw adx s hO => ?_) (g := fun _ _ _ _ hv hst h => GoAt.step hv (fun _ => (CSv.cons (cs_eq (J00 2 hO rfl rfl) (J00 2 hst.own rfl rfl)) (CSv.cons (cs_eq (J00 2 hO rfl rfl) (J00 2 hst.own rfl rfl)) (CSv.cons (cs_eq (J00 5 hO rfl rfl) (J00 5 hst.own rfl rfl)) (CSv.cons (cskC hst.ch hu112 h64 h65) (CSv.nil _ _)))))) (Stp.kp hO hst) rfl h)
  refine GoQA.lastI rfl rfl fun PA A114 Ij => ?_
  refine sgw Ij hO fun s hO => ?_
  refine sbs 2 hO fun ady s hO => ?_
  refine au ?_
  refine GoQA.lastI rfl rfl fun ql A118 sb => ?_
  refine sgw sb hO fun s hO => ?_
  refine sbs 2 hO fun qD s hO => ?_
  refine GoQA.nil fun nj A122 sd se => ?_
  refine sgw sd hO fun s hO => ?_
  refine spm se hO fun s hO => ?_
  refine sinc (natbd h46 cj.bd) ?_
  refine au ?_
  exact hX3 _ H.2 _ _ agr ⟨_, _, _, _, _, _, _, ⟨agr, hO, fr⟩, lV.u, cj.u⟩
 refine sag 2 hO ?_
 refine sba 4 hO fun Ae s hO => ?_
 refine au ?_
 refine sfz 1 hO fun s hO pN pO => ?_
 refine sfzR 0 hO km.u fun s hO Ik Il => ?_
 refine sfz 1 hO fun s hO qE qF => ?_
 refine Go1.retC2 func68 rfl rfl (rlb 1 hO) ⟨((⟨a0.Letters, (0 : Int), d_42, fG⟩ : DFA)), _, _, _, _, _, _, _, ?_, frs, pN.r, Ik.r, qE.r, H⟩
 exact (congrArg (fun l => Value.tuple (List.toArray l)) (J02 (congrArg (fun l => Value.agg (List.toArray l)) (J02 rfl (J02 rfl (J02 (congrArg (fun nn => Value.slice p43 nn c44) pO) (J02 (congrArg (fun nn => Value.slice p39 nn c40) Il) rfl))))) (J02 (congrArg (fun nn => Value.slice p11 nn a0.Final.length) qF) rfl)))
theorem body23 : Body prog 23 := ⟨f23, func23, rfl, by kernel_rfl⟩
theorem J5d {ah ap : Option Addr} {aj aq : Nat} {a0 : DFA} (hA : HA0 A w0) (aa : ISb A w0 ah aj a0.Final) (ar : ISs A w0 ap aq a0.Next) {K : DFA → Prop} (H : J1u a0 K) :
    CallsV prog 23 #[.agg (cDF a0 ah aj ap aq)] w0 (fun v w' => ∃ (r0 : DFA), ∃ (aI : Option Addr), ∃ (aJ : Nat), ∃ (aT : Option Addr), ∃ (aU : Nat), v = .agg (cDF r0 aI aJ aT aU) ∧ Same w0 w' ∧ ISb A w' aI aJ r0.Final ∧ ISs A w' aT aU r0.Next ∧ K r0) := by
 refine cal hA func23 ntmps23 fun hO hB => ?_
 unfold J1u at H
 refine sbx hO fun w1 B2 s hO => ?_
 refine sal hO fun w4 B5 s hO => ?_
 refine sag 1 hO ?_
 refine zcr (J01 body67 rfl (J5l hO.lt aa.u ar.u H)) fun _ w8 => e3 fun r7 kj kl => sc0 hO fun s hO => d1 fun cj H => ?_
 refine au ?_
 refine drs 1 [q0, q1, q0, q0, q1, q0, q1, q0, q2, q3] hO fun w9 s hO => ?_
 refine sxl hO cj.u H.1 H.2.1 ?_
 refine GoQ.pure rfl (J04 underlying25 ti25 (pl := [(0, 1), (1, 1), (2, 1), (3, 1)]) (vs := [(0, .int .i64 a0.Letters), (1, .int .i64 (ix r7 a0.Start))]) (cs := #[.int .i64 a0.Letters, .int .i64 (ix r7 a0.Start), .slice none 0 0, .slice none 0 0]) (by kernel_rfl) rfl (by kernel_rfl)) rfl rfl ?_
 refine sal hO fun w10 B11 s hO => ?_
 refine sba 0 hO fun w13 s hO => ?_
 refine sln0 ?_
 refine au ?_
 refine snil Fl.bool 4 hO fun s hO => ?_
 have Im := Stp.nil (e := 31) (r := 1) hO
 refine nst Im fun s hO => ?_
 have PB := elN (Rp.sl (Rp.int .i64)) hO
 refine lv [1, 2, 3, 4, 21, 22] hO (H.2.2 cj.bd) (fun E (k1_19, k1_20, ki, d_27) σ w => ∃ n26 p24 c25 sf n30 p28 c29, (fun Z => Lo A w0 σ w [(5, .int .i64 (k1_19 : Int)), (23, .int .i64 (k1_20 : Int))] Z ∧ Els (Rp.sl (Rp.int .i64)) (bl Z ++ A) w sf ki ∧ ISi (bl Z ++ A) w kj kl r7) (esets E [(0, .row 31 1 p24 n26 c25 sf), (1, t1 Fl.bool 4 p28 n30 c29 d_27), (2, .blk B11 (.cells #[.int .i64 a0.Letters, .int .i64 (ix r7 a0.Start), .slice p28 n30 c29, .slice p24 n26 c25] 25 (0, 0)))])) ⟨_, _, _, _, _, _, _, ⟨agr, hO, fr⟩, PB.u, cj.u⟩ ?_
 refine fun X1 => p3 fun k1_19 k1_20 ki d_27 => fun H hX1 σ w18 hk => e4 fun n26 p24 c25 sf => e3 fun n30 p28 c29 => d1 fun hL => d1 fun ie cj => d2 (fun hag hO hB => keep2 hk hag ?_) hL
 dsimp only [esets, sS, sZ] at hO hB ie cj
 dsimp only at H
 revert hO; repeat (rename Owns .. => q; clear q)
 intro hO; repeat (rename Sq .. => q; clear q)
 refine scm H (fun h31 H => ?_) fun h31 H => ?_
 ·refine sxl hO cj H.1 H.2.1 ?_
  refine au ?_
  have h32 := H.1
  have h33 := H.2.1
  refine scm H.2.2 (fun h34 H => ?_) fun h34 H => ?_
  ·refine au ?_
   obtain ⟨h35, H⟩ := H
   refine zo (J03 rfl rfl (wrap_i64 h35)) ?_
   refine sxls hO ar.u H.1 H.2.1 fun p36 c37 kn => ?_
   refine sln0 ?_
   refine au ?_
   refine snil Fl.i 3 hO fun s hO => ?_
   refine lv [1, 2, 3, 4, 5, 6, 21, 22, 23, 37, 38] hO (H.2.2 kn.bd) (fun E (sj, d_42) σ w => ∃ n45 p43 c44, (fun Z => Lo A w0 σ w [(8, .slice p43 n45 c44), (39, .int .i64 (sj : Int))] Z ∧ Els (Rp.sl (Rp.int .i64)) (bl Z ++ A) w sf ki ∧ ISi (bl Z ++ A) w kj kl r7 ∧ ISi (bl Z ++ A) w p36 c37 (ix a0.Next (k1_20 : Int))) (E.set 0 (t1 Fl.i 3 p43 n45 c44 d_42))) ⟨_, _, _, ⟨agr, hO, fr⟩, ie.u, cj.u, kn.u⟩ ?_
   refine fun X2 => p1 fun sj d_42 => fun H hX2 σ w40 hk => e3 fun n45 p43 c44 => d1 fun hL => d2 fun ie cj kn => d2 (fun hag hO hB => keep2 hk hag ?_) hL
   dsimp only [esets, sS, sZ] at hO hB ie cj kn
   dsimp only at H
   revert hO; repeat (rename Owns .. => q; clear q)
   intro hO; repeat (rename Sq .. => q; clear q)
   refine scm H (fun h46 H => ?_) fun h46 H => ?_
   ·refine sxl hO kn H.1 H.2.1 ?_
    refine sxl hO cj H.2.2.1 H.2.2.2.1 ?_
    refine sap1 ((ix r7 (ix (ix a0.Next (k1_20 : Int)) (sj : Int)))) 0 hO H.2.2.2.2 fun _ w47 p48 c49 s hO => ?_
    refine sinc (natbd h46 kn.bd) ?_
    refine au ?_
    exact hX2 _ H.2.2.2.2.2 _ _ agr ⟨_, _, _, ⟨agr, hO, fr⟩, ie.u, cj.u, kn.u⟩
   refine au ?_
   refine drA (CSv.tr [(some ⟨B11, 3, none⟩), (some ⟨B11, 2, none⟩), (some ⟨B2, 2, none⟩), (padd ah ((k1_20 : Int).toNat * (Rp.bool).sz + 0))]) 5 [(0, m0), (1, m1), (2, m0), (5, m0), (6, m1), (7, m0), (8, m1), (9, m0), (10, m0), (11, m1), (3, m4), (4, m2), (14, m0), (12, m4), (13, m2), (15, m3), (16, m0), (17, m3)] hO fun w50 s hO => ?_
   have sk := hO.le
   have hw52 := (fr : Fr (bl []) w0 _ w50).ch.size
   refine au ?_
   refine GoQA.stable rfl (loadV (.head _) rfl (J00 3 hO rfl rfl) underlying23 rfl rfl) rfl rfl ?_
   refine au ?_
   refine au ?_
   refine GoQA.stable rfl (loadV (.tail _ (.head _)) rfl (J00 3 hO rfl rfl) underlying22 rfl rfl) rfl rfl ?_
   refine au ?_
   refine GoQA.stable rfl (loadV (.tail _ (.tail _ (.head _))) rfl (J00 5 hO rfl rfl) underlying22 rfl rfl) rfl rfl ?_
   refine au ?_
   refine six aa H.1 H.2.1 ?_
   have h53 := H.1
   have h54 := H.2.1
   refine GoQA.stable rfl (loadV (.tail _ (.tail _ (.tail _ (.head _)))) (J7W (aa.some_ h53 h54)) (ldBoolC aa.u h53 h54) underlying4 rfl rfl) rfl rfl ?_
   refine sfz 0 hO fun s hO uH uI => ?_
   refine GoQA.alloc rfl rfl (alBuild (n := 1) (parts := [(0, .slice p43 n45 c44)]) (vs := [.slice p43 n45 c44]) underlying23 ti31 (by decide) (by decide) (by decide) (by kernel_rfl) rfl rfl) ?_
   intro w56 A57 b58 A59 PC PD hd62 hnb63 hh64
   refine sgw PC hO fun s hO => ?_
   have wR := elE (Rp.sl (Rp.int .i64)) [.slice p43 n45 c44] [d_42] hO (Els.cons rfl ⟨p43, c44, congrArg some (congrArg (fun nn => Value.slice p43 nn c44) uI), uH.u⟩ (Els.nil _ _ _) (by simp [mx]))
   refine sgn (e := .row 31 1 (some ⟨b58, 0, none⟩) 1 1 [.slice p43 n45 c44]) PD hO sk hw52 hnb63 rfl hh64 hd62 (fr : Fr (bl []) w0 _ w56) fun s hO hB => ?_
   replace wR := wR.ch s.ch
   refine GoQA.loudI rfl rfl fun w68 A69 PE => ?_
   refine sgw PE hO fun s hO => ?_
   refine sfzR 0 hO wR.u fun s hO ol wS => ?_
   replace H := H.2.2
   obtain ⟨h73, H⟩ := H
   have zz := oapp underlying23 ti31 rfl 0 hO rfl ie.u ol wS h73 (by decide)
   obtain ⟨w74, p75, c76, adz, fV, Cp, Io⟩ := zz
   dsimp only [sS, sZ] at Cp
   refine GoAt.step (Io (by exact rfl) (by exact rfl)) (fun _ => (CSv.cons (cs_eq (J00 2 hO rfl rfl) (J00 2 fV.own rfl rfl)) (CSv.cons (cs_eq (J00 2 hO rfl rfl) (J00 2 fV.own rfl rfl)) (CSv.cons (cs_eq (J00 4 hO rfl rfl) (J00 4 fV.own rfl rfl)) (CSv.cons (cskC fV.ch aa.u h53 h54) (CSv.nil _ _)))))) (Stp.kp hO fV) rfl ?_
   refine nst fV fun s hO => ?_
   refine au ?_
   refine GoQA.alloc rfl rfl (alBuild (n := 1) (parts := [(0, .bool (ix a0.Final (k1_20 : Int)))]) (vs := [.bool (ix a0.Final (k1_20 : Int))]) underlying22 ti4 (by decide) (by decide) (by decide) (by kernel_rfl) rfl rfl) ?_
   intro w83 A84 b85 A86 PF PG hd89 hnb90 hh91
   refine sgw PF hO fun s hO => ?_
   have wT := elE (Rp.bool) [.bool (ix a0.Final (k1_20 : Int))] [ix a0.Final (k1_20 : Int)] hO (Els.cons rfl rfl (Els.nil _ _ _) (by simp [mx]))
   refine sgn (e := .row 4 1 (some ⟨b85, 0, none⟩) 1 1 [.bool (ix a0.Final (k1_20 : Int))]) PG hO sk hw52 hnb90 rfl hh91 hd89 (fr : Fr (bl []) w0 _ w83) fun s hO hB => ?_
   replace wT := wT.ch s.ch
   refine cl1 Fl.bool 0 hO wT.u fun s hO => ?_
   refine GoQA.loudI rfl rfl fun w93 A94 wU => ?_
   refine sgw wU hO fun s hO => ?_
   refine sfz 0 hO fun s hO oh OB => ?_
   have hu101 := uAt hO aa
   refine sapQ 1 hO oh H (fun w98 p99 OC s hO => ?_) (g := fun _ _ _ _ hv hst h => GoAt.step hv (fun _ => (CSv.cons (cs_eq (J00 2 hO rfl rfl) (J00 2 hst.own rfl rfl)) (CSv.cons (cs_eq (J00 2 hO rfl rfl) (J00 2 hst.own rfl rfl)) (CSv.cons (cs_eq (J00 4 hO rfl rfl) (J00 4 hst.own rfl rfl)) (CSv.cons (cskC hst.ch hu101 h53 h54) (CSv.nil _ _)))))) (Stp.kp hO hst) rfl h)
   refine GoQA.lastI rfl rfl fun vC A103 Ip => ?_
   refine sgw Ip hO fun s hO => ?_
   refine sbs 2 hO fun pK s hO => ?_
   refine au ?_
   refine GoQA.lastI rfl rfl fun Cq A107 Iq => ?_
   refine sgw Iq hO fun s hO => ?_
   refine sbs 2 hO fun ur s hO => ?_
   refine GoQA.nil fun Cr A111 sn sq => ?_
   refine sgw sn hO fun s hO => ?_
   refine spm sq hO fun s hO => ?_
   refine sinc (natbd h31 cj.bd) ?_
   refine au ?_
   exact hX1 _ H.2 _ _ agr ⟨_, _, _, _, _, _, _, ⟨agr, hO, fr⟩, Cp.u, cj.u⟩
  refine sinc (natbd h31 cj.bd) ?_
  refine au ?_
  exact hX1 _ H _ _ agr ⟨_, _, _, _, _, _, _, ⟨agr, hO, fr⟩, ie.u, cj.u⟩
 refine sag 2 hO ?_
 refine sfz 1 hO fun s hO Ir Iu => ?_
 refine sfzR 0 hO ie.u fun s hO Iv Iw => ?_
 refine zcr (J01 body68 (by rw [Iu, Iw]; exact rfl) (J6u (a0 := (⟨a0.Letters, (ix r7 a0.Start), d_27, ki⟩ : DFA)) hO.lt Ir.u Iv H)) fun _ qD => e4 fun lQ adA Ct Cu => e4 fun DW DX Rv Rw => sc0 hO fun s hO => d3 fun om oT Rx H => ?_
 refine sba 0 hO fun nj s hO => ?_
 refine sag 0 hO ?_
 refine sba 1 hO fun Bn s hO => ?_
 refine au ?_
 refine Go1.retC1 func23 rfl rfl (rlb 1 hO) ⟨((⟨lQ.Letters, lQ.Start, lQ.Final, lQ.Next⟩ : DFA)), _, _, _, _, er, frs, om.r, oT.r, H⟩
theorem body65 : Body prog 65 := ⟨f65, func65, rfl, by kernel_rfl⟩
theorem J5U {aL ba : Option Addr} {aM bc : Nat} {d : DFA} (hA : HA0 A w0) (aK : ISb A w0 aL aM d.Final) (bn : ISs A w0 ba bc d.Next) {K : List (List Int) → Prop} (H : J2A d K) :
    CallsV prog 65 #[.agg (cDF d aL aM ba bc)] w0 (fun v w' => ∃ (r0 : List (List Int)), ∃ (p_r0 : Option Addr), ∃ (c_r0 : Nat), v = .slice p_r0 r0.length c_r0 ∧ Same w0 w' ∧ ISs A w' p_r0 c_r0 r0 ∧ K r0) := by
 refine cal hA func65 ntmps65 fun hO hB => ?_
 unfold J2A at H
 refine sbx hO fun w1 B2 s hO => ?_
 refine au ?_
 have nF := Stp.nil (e := 31) (r := 1) hO
 refine nst nF fun s hO => ?_
 have hE6 := elN (Rp.sl (Rp.int .i64)) hO
 refine lv [1] hO H (fun E (wV, out1_9) σ w => ∃ n14 p12 c13 fE, (fun Z => Lo A w0 σ w [(3, .slice p12 n14 c13), (4, .int .i64 (wV : Int))] Z ∧ Els (Rp.sl (Rp.int .i64)) (bl Z ++ A) w fE out1_9) (E.set 0 (.row 31 1 p12 n14 c13 fE))) ⟨_, _, _, _, ⟨agr, hO, fr⟩, hE6.u⟩ ?_
 refine fun X1 => p1 fun wV out1_9 => fun H hX1 σ w7 hk => e4 fun n14 p12 c13 fE => d1 fun hL => fun ci => d2 (fun hag hO hB => keep2 hk hag ?_) hL
 dsimp only [esets, sS, sZ] at hO hB ci
 dsimp only at H
 revert hO; repeat (rename Owns .. => q; clear q)
 intro hO; repeat (rename Sq .. => q; clear q)
 refine scm H (fun h15 H => ?_) fun h15 H => ?_
 ·refine sln0 ?_
  refine au ?_
  refine snil Fl.i 3 hO fun s hO => ?_
  refine lv [1, 3, 4, 15] hO (H bn.bd) (fun E (jv, f2_19) σ w => ∃ n22 p20 c21, (fun Z => Lo A w0 σ w [(5, .slice p20 n22 c21), (16, .int .i64 (jv : Int))] Z ∧ Els (Rp.sl (Rp.int .i64)) (bl Z ++ A) w fE out1_9) (E.set 0 (t1 Fl.i 3 p20 n22 c21 f2_19))) ⟨_, _, _, ⟨agr, hO, fr⟩, ci.u⟩ ?_
  refine fun X2 => p1 fun jv f2_19 => fun H hX2 σ w17 hk => e3 fun n22 p20 c21 => d1 fun hL => fun ci => d2 (fun hag hO hB => keep2 hk hag ?_) hL
  dsimp only [esets, sS, sZ] at hO hB ci
  dsimp only at H
  revert hO; repeat (rename Owns .. => q; clear q)
  intro hO; repeat (rename Sq .. => q; clear q)
  refine scm H (fun h23 H => ?_) fun h23 H => ?_
  ·refine sxls hO bn.u H.1 H.2.1 fun p24 c25 uC => ?_
   refine sxl hO uC.u H.2.2.1 H.2.2.2.1 ?_
   refine sap1 ((ix (ix d.Next (jv : Int)) (wV : Int))) 0 hO H.2.2.2.2 fun _ w27 p28 c29 s hO => ?_
   refine sinc (natbd h23 bn.bd) ?_
   refine au ?_
   exact hX2 _ H.2.2.2.2.2 _ _ agr ⟨_, _, _, ⟨agr, hO, fr⟩, ci.u⟩
  refine au ?_
  refine sfz 0 hO fun s hO iu uw => ?_
  have zz := J1P (r := Rp.sl (Rp.int .i64)) (n := 1) (parts := [(0, .slice p20 n22 c21)]) (vs := [.slice p20 n22 c21]) (xs := [f2_19]) rfl underlying23 ti31 hO (by decide) (by kernel_rfl) (Els.cons rfl ⟨p20, c21, congrArg some (congrArg (fun nn => Value.slice p20 nn c21) uw), iu⟩ (Els.nil _ _ _) (by simp [mx])) rfl
  obtain ⟨w32, p33, Ix, PH, adB, Iy⟩ := zz
  refine zg (Iy rfl) ?_
  refine nst Ix fun s hO => ?_
  refine sfzR 0 hO PH fun s hO PJ PK => ?_
  obtain ⟨h41, H⟩ := H
  have zz := oapp underlying23 ti31 rfl 0 hO rfl ci.u PJ PK h41 (by decide)
  obtain ⟨w42, p43, c44, adC, kO, lN, sr⟩ := zz
  dsimp only [sS, sZ] at lN
  refine zg (sr (by exact rfl) (by exact rfl)) ?_
  refine nst kO fun s hO => ?_
  refine au ?_
  obtain ⟨h50, H⟩ := H
  refine zo (J03 rfl rfl (wrap_i64 h50)) ?_
  refine au ?_
  exact hX1 _ H _ _ agr ⟨_, _, _, _, ⟨agr, hO, fr⟩, lN⟩
 refine au ?_
 refine sfzR 0 hO ci.u fun s hO uO uP => ?_
 refine Go1.ret1 func65 rfl ⟨_, _, _, ?_, frs, uO.r, H⟩
 exact (congrArg (fun nn => Value.slice p12 nn c13) uP)
theorem body170 : Body prog 170 := ⟨f170, func170, rfl, by kernel_rfl⟩
theorem J5V {p_f : Option Addr} {c_f : Nat} {f : List Int} (hA : HA0 A w0) (h_f : ISi A w0 p_f c_f f) {K : Bool → Prop} (H : J2J f K) :
    CallsV prog 170 #[.slice p_f f.length c_f] w0 (fun v w' => ∃ (r0 : Bool), v = .bool r0 ∧ Same w0 w' ∧ K r0) := by
 refine cal hA func170 ntmps170 fun hO hB => ?_
 unfold J2J at H
 refine sln0 ?_
 refine scm (H h_f.bd) (fun h1 H => ?_) fun h1 H => ?_
 ·refine au ?_
  refine Go1.ret1 func170 rfl ⟨_, er, frs, H⟩
 refine sln0 ?_
 refine scm H (fun h2 H => ?_) fun h2 H => ?_
 ·refine au ?_
  refine Go1.ret1 func170 rfl ⟨_, er, frs, H⟩
 refine sln0 ?_
 refine au ?_
 refine lv [0, 13, 14] hO H (fun E k1_4 σ w => Lo A w0 σ w [(15, .int .i64 (k1_4 : Int))] []) ⟨agr, hO, fr⟩ ?_
 refine fun X1 => fun k1_4 => fun H hX1 σ w3 hk => d2 fun hag hO hB => keep2 hk hag ?_
 refine scm H (fun h5 H => ?_) fun h5 H => ?_
 ·refine sxl hO h_f.u H.1 H.2.1 ?_
  refine au ?_
  have h6 := H.1
  have h7 := H.2.1
  refine scm H.2.2 (fun h8 H => ?_) fun h8 H => ?_
  ·refine au ?_
   refine Go1.ret1 func170 rfl ⟨_, er, frs, H⟩
  refine sln0 ?_
  refine scm H (fun h9 H => ?_) fun h9 H => ?_
  ·refine au ?_
   refine Go1.ret1 func170 rfl ⟨_, er, frs, H⟩
  refine sinc (natbd h5 h_f.bd) ?_
  refine au ?_
  exact hX1 _ H _ _ agr ⟨agr, hO, fr⟩
 refine au ?_
 refine Go1.ret1 func170 rfl ⟨_, er, frs, H⟩
theorem body161 : Body prog 161 := ⟨f161, func161, rfl, by kernel_rfl⟩
theorem J5a {eN : Option Addr} {eO : Nat} {gens : List (List Int)} (hA : HA0 A w0) (eP : ISs A w0 eN eO gens) {K : Bool → Prop} (H : J1O gens K) :
    CallsV prog 161 #[.slice eN gens.length eO] w0 (fun v w' => ∃ (r0 : Bool), v = .bool r0 ∧ Same w0 w' ∧ K r0) := by
 refine cal hA func161 ntmps161 fun hO hB => ?_
 unfold J1O at H
 refine sln0 ?_
 refine scm (H eP.bd) (fun h1 H => ?_) fun h1 H => ?_
 ·refine au ?_
  refine Go1.ret1 func161 rfl ⟨_, er, frs, H⟩
 refine sln0 ?_
 refine scm H (fun h2 H => ?_) fun h2 H => ?_
 ·refine au ?_
  refine Go1.ret1 func161 rfl ⟨_, er, frs, H⟩
 refine sln0 ?_
 refine au ?_
 refine lv [0, 13, 14] hO H (fun E k1_4 σ w => Lo A w0 σ w [(15, .int .i64 (k1_4 : Int))] []) ⟨agr, hO, fr⟩ ?_
 refine fun X1 => fun k1_4 => fun H hX1 σ w3 hk => d2 fun hag hO hB => keep2 hk hag ?_
 refine scm H (fun h5 H => ?_) fun h5 H => ?_
 ·refine sxls hO eP.u H.1 H.2.1 fun p6 c7 hi8 => ?_
  refine au ?_
  have h11 := H.1
  have h12 := H.2.1
  refine zcr (J01 body170 rfl (J5V hO.lt hi8.u H.2.2)) fun _ w10 => e1 fun r9 => sc0 hO fun s hO => fun H => ?_
  cases r9
  ·refine au ?_
   refine Go1.ret1 func161 rfl ⟨_, er, frs, (iF H)⟩
  refine sln0 ?_
  refine six eP ((iT H) hi8.bd).1 ((iT H) hi8.bd).2.1 ?_
  refine slds hO eP.u ((iT H) hi8.bd).1 ((iT H) hi8.bd).2.1 fun p13 c14 iO => ?_
  refine sln0 ?_
  have h16 := ((iT H) hi8.bd).1
  have h17 := ((iT H) hi8.bd).2.1
  refine scm (((iT H) hi8.bd).2.2 iO.bd) (fun h18 H => ?_) fun h18 H => ?_
  ·refine sinc (natbd h5 eP.bd) ?_
   refine au ?_
   exact hX1 _ H _ _ agr ⟨agr, hO, fr⟩
  refine au ?_
  refine Go1.ret1 func161 rfl ⟨_, er, frs, H⟩
 refine au ?_
 refine Go1.ret1 func161 rfl ⟨_, er, frs, H⟩
theorem body162 : Body prog 162 := ⟨f162, func162, rfl, by kernel_rfl⟩
theorem J6w {p_a : Option Addr} {c_a : Nat} {a : List (List Int)} (hA : HA0 A w0) (h_a : ISs A w0 p_a c_a a) {K : List (List Int) → Prop} (H : J3B a K) :
    CallsV prog 162 #[.slice p_a a.length c_a] w0 (fun v w' => ∃ (r0 : List (List Int)), ∃ (d6 : Nat), ∃ (p_r0 : Option Addr), ∃ (c_r0 : Nat), ∃ (Iz : Hd), v = .slice p_r0 d6 c_r0 ∧ Same w0 w' ∧ Owns w0.heap.size w' [t2 Fl.i 31 3 p_r0 d6 c_r0 Iz r0] A ∧ K r0) := by
 refine cal hA func162 ntmps162 fun hO hB => ?_
 unfold J3B at H
 refine sln0 ?_
 refine au ?_
 have hst2 := t2nil (e := 31) (e' := 3) Fl.i hO
 refine nst hst2 fun s hO => ?_
 refine lv [6, 7] hO (H h_a.bd) (fun E (k1_4, out1_5) σ w => ∃ n8 p6 c7 hs9, Lo A w0 σ w [(3, .slice p6 n8 c7), (8, .int .i64 (k1_4 : Int))] [t2 Fl.i 31 3 p6 n8 c7 hs9 out1_5]) ⟨_, _, _, _, ⟨agr, hO, fr⟩⟩ ?_
 refine fun X1 => p1 fun k1_4 out1_5 => fun H hX1 σ w3 hk => e4 fun n8 p6 c7 hs9 => d2 fun hag hO hB => keep2 hk hag ?_
 dsimp only at H
 revert hO; repeat (rename Owns .. => q; clear q)
 intro hO; repeat (rename Sq .. => q; clear q)
 refine scm H (fun h10 H => ?_) fun h10 H => ?_
 ·refine sxls hO h_a.u H.1 H.2.1 fun p11 c12 PM => ?_
  refine sbu Fl.i 3 ([] : List Int) hO fun w14 p15 s hO => ?_
  refine sap 0 hO PM.u H.2.2 fun w17 p18 c19 s hO => ?_
  refine op1 0 hO fun adD s hO PO => ?_
  have zz := t2build1 Fl.i underlying23 ti31 hO PO.u
  obtain ⟨w22, p23, pD, IA⟩ := zz
  refine zg (IA rfl) ?_
  refine nst pD fun s hO => ?_
  refine sfr 1 hO fun s hO => ?_
  refine sfr 1 hO fun s hO => ?_
  have h27 := H.1
  have h28 := H.2.1
  replace H := H.2.2.2
  obtain ⟨h29, H⟩ := H
  have zz := t2cat underlying23 ti31 hO h29 (by decide)
  obtain ⟨w30, p31, c32, IB, IC⟩ := zz
  refine zg (IC (by exact rfl) (by exact rfl)) ?_
  refine nst IB fun s hO => ?_
  refine sinc (natbd h10 h_a.bd) ?_
  refine au ?_
  exact hX1 _ H _ _ agr ⟨_, _, _, _, ⟨agr, hO, fr⟩⟩
 refine au ?_
 refine Go1.ret1 func162 rfl ⟨_, _, _, _, _, er, frs, hO, H⟩
theorem body51 : Body prog 51 := ⟨f51, func51, rfl, by kernel_rfl⟩
theorem J4Q {n : Int} (hA : HA0 A w0) {K : List Int → Prop} (H : J1e n K) :
    CallsV prog 51 #[.int .i64 n] w0 (fun v w' => ∃ (r0 : List Int), ∃ (p_r0 : Option Addr), ∃ (c_r0 : Nat), v = .slice p_r0 r0.length c_r0 ∧ Same w0 w' ∧ ISi A w' p_r0 c_r0 r0 ∧ K r0) := by
 refine cal hA func51 ntmps51 fun hO hB => ?_
 unfold J1e at H
 refine smk Fl.i H hO fun w1 p4 s hO => ?_
 refine sln1 0 hO ?_
 refine au ?_
 refine lv [3, 8] hO H.2.2 (fun E (bB, Cv) σ w => Lo A w0 σ w [(9, .int .i64 (bB : Int))] [t1 Fl.i 3 p4 n.toNat n.toNat Cv]) ⟨agr, hO, fr⟩ ?_
 refine fun X1 => p1 fun bB Cv => fun H hX1 σ w6 hk => d2 fun hag hO hB => keep2 hk hag ?_
 dsimp only at H
 revert hO; repeat (rename Owns .. => q; clear q)
 intro hO; repeat (rename Sq .. => q; clear q)
 refine scm H (fun h9 H => ?_) fun h9 H => ?_
 ·refine six1 0 hO H.1 H.2.1 ?_
  refine sst (u := (bB : Int)) 0 hO H.1 H.2.1 fun w10 s hO => ?_
  refine au ?_
  have h11 := H.1
  have h12 := H.2.1
  replace H := H.2.2
  obtain ⟨h13, H⟩ := H
  refine zo (J03 rfl rfl (wrap_i64 h13)) ?_
  refine au ?_
  exact hX1 _ H _ _ agr ⟨agr, hO, fr⟩
 refine au ?_
 refine sfz 0 hO fun s hO jU ig => ?_
 refine Go1.ret1 func51 rfl ⟨_, _, _, ?_, frs, jU.r, H⟩
 exact (congrArg (fun nn => Value.slice p4 nn n.toNat) ig)
theorem body107 : Body prog 107 := ⟨f107, func107, rfl, by kernel_rfl⟩
theorem J1C {pe p_f : Option Addr} {pg c_f : Nat} {elems : List (List Int)} {f : List Int} (hA : HA0 A w0) (lW : ISs A w0 pe pg elems) (h_f : ISi A w0 p_f c_f f) {K : Int → Prop} (H : J1n elems f K) :
    CallsV prog 107 #[.slice pe elems.length pg, .slice p_f f.length c_f] w0 (fun v w' => ∃ (r0 : Int), v = .int .i64 r0 ∧ Same w0 w' ∧ K r0) := by
 refine cal hA func107 ntmps107 fun hO hB => ?_
 unfold J1n at H
 refine sln0 ?_
 refine au ?_
 refine lv [0, 1, 7] hO (H lW.bd) (fun E k1_2 σ w => Lo A w0 σ w [(8, .int .i64 (k1_2 : Int))] []) ⟨agr, hO, fr⟩ ?_
 refine fun X1 => fun k1_2 => fun H hX1 σ w1 hk => d2 fun hag hO hB => keep2 hk hag ?_
 refine scm H (fun h3 H => ?_) fun h3 H => ?_
 ·refine sxls hO lW.u H.1 H.2.1 fun p4 c5 hi6 => ?_
  refine au ?_
  have h9 := H.1
  have h10 := H.2.1
  refine zcr (J01 body49 rfl (J1H hO.lt hi6.u h_f.u H.2.2)) fun _ w8 => e1 fun r7 => sc0 hO fun s hO => fun H => ?_
  refine au ?_
  cases r7
  ·refine sinc (natbd h3 lW.bd) ?_
   refine au ?_
   exact hX1 _ (iF H) _ _ agr ⟨agr, hO, fr⟩
  refine au ?_
  refine Go1.ret1 func107 rfl ⟨_, er, frs, (iT H)⟩
 refine au ?_
 refine Go1.ret1 func107 rfl ⟨_, er, frs, H⟩
theorem body137 : Body prog 137 := ⟨f137, func137, rfl, by kernel_rfl⟩
theorem J15 {x : Int} (hA : HA0 A w0) {K : Str → Prop} (H : J0K x K) :
    CallsV prog 137 #[.int .i64 x] w0 (fun v w' => ∃ (r0 : Str), v = .string (gstr r0) ∧ Same w0 w' ∧ r0.length ≤ mx ∧ K r0) := by
 refine cal hA func137 ntmps137 fun hO hB => ?_
 unfold J0K at H
 refine au ?_
 obtain ⟨h1, H⟩ := H
 refine zo (J03 rfl rfl (wrap_i64 h1)) ?_
 refine zo (J3M underlying3 underlying5 rfl rfl) ?_
 refine sbu (Fl.int .u8) 5 [(IntKind.u8.wrap ((97 : Int) + x))] hO fun w2 p4 s hO => ?_
 refine op1 0 hO fun vs6 s hO hE7 => ?_
 have hle8 := J0x hE7.bd
 refine zs (oldBytes 0 hO rfl hE7.u underlying126 underlying5 underlying9 rfl) ?_
 refine au ?_
 refine Go1.ret1 func137 rfl ⟨_, er, frs, hle8, H⟩
theorem body106 : Body prog 106 := ⟨f106, func106, rfl, by kernel_rfl⟩
theorem J0Y {gP gi fI gR gk gn : Option Addr} {gQ gj fJ gS gm gq : Nat} {e : Enum} {i : Int} (hA : HA0 A w0) (oo : ISs A w0 gP gQ e.Gens) (gt : ISs A w0 gi gj e.Elems) (iJ : ISi A w0 fI fJ e.Prefix) (gT : ISi A w0 gR gS e.Last) (i9 : ISs A w0 gk gm e.Right) (mm : ISl (rpRule) A w0 gn gq e.Rules) {K : Str → Prop} (H : J16 e i K) :
    CallsV prog 106 #[.agg #[.int .i64 e.Points, .bool e.Monoid, .slice gP e.Gens.length gQ, .slice gi e.Elems.length gj, .slice fI e.Prefix.length fJ, .slice gR e.Last.length gS, .slice gk e.Right.length gm, .slice gn e.Rules.length gq, .int .i64 e.Done], .int .i64 i] w0 (fun v w' => ∃ (r0 : Str), v = .string (gstr r0) ∧ Same w0 w' ∧ r0.length ≤ mx ∧ K r0) := by
 refine cal hA func106 ntmps106 fun hO hB => ?_
 unfold J16 at H
 refine sbx hO fun w1 B2 s hO => ?_
 refine au ?_
 refine lv [2] hO H (fun E (i1_5, wW) σ w => (fun Z => Lo A w0 σ w [(1, .int .i64 i1_5), (5, .string (gstr wW))] Z ∧ wW.length ≤ mx) E) ⟨⟨agr, hO, fr⟩, (by decide)⟩ ?_
 refine fun X1 => p1 fun i1_5 wW => fun H hX1 σ w4 hk => d1 fun hL => fun hle_w1_6 => d2 (fun hag hO hB => keep2 hk hag ?_) hL
 dsimp only at H
 revert hO; repeat (rename Owns .. => q; clear q)
 intro hO; repeat (rename Sq .. => q; clear q)
 refine scm H (fun h7 H => ?_) fun h7 H => ?_
 ·refine six gT H.1 H.2.1 ?_
  refine sld hO gT.u H.1 H.2.1 ?_
  have h8 := H.1
  have h9 := H.2.1
  refine scm H.2.2 (fun h10 H => ?_) fun h10 H => ?_
  ·refine sxl hO gT.u H.1 H.2.1 ?_
   have h13 := H.1
   have h14 := H.2.1
   refine zcr (J01 body137 rfl (J15 hO.lt H.2.2)) fun _ w12 => e1 fun r11 => sc0 hO fun s hO => d1 fun Ry H => ?_
   refine au ?_
   obtain ⟨h15, H⟩ := H
   refine zo (J0a rfl rfl h15) ?_
   refine sxl hO iJ.u H.1 H.2.1 ?_
   refine au ?_
   exact hX1 _ H.2.2 _ _ agr ⟨⟨agr, hO, fr⟩, (lenApp h15)⟩
  refine au ?_
  refine Go1.ret1 func106 rfl ⟨_, er, frs, hle_w1_6, H⟩
 refine au ?_
 refine Go1.ret1 func106 rfl ⟨_, er, frs, hle_w1_6, H⟩
end Sg
