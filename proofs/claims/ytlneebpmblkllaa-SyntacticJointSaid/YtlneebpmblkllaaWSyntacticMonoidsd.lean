/- -/
import Derived.Test.YtlneebpmblkllaaVd
import Derived.Test.YtlneebpmblkllaaWSyntacticMonoidsc
namespace Sg
open Go Go.RowKit Go.Proofs Try
set_option linter.unusedVariables false
set_option linter.unusedSimpArgs false
set_option maxRecDepth 100000
set_option maxHeartbeats 4000000
variable {A : List Nat} {w0 : World}
theorem body113 : Body prog 113 := ⟨f113, func113, rfl, by kernel_rfl⟩
theorem J4Y {b7 cx : Option Addr} {ci cy : Nat} {a0 : DFA} (hA : HA0 A w0) (ak : ISb A w0 b7 ci a0.Final) (ck : ISs A w0 cx cy a0.Next) {K : List Int → List Str → Prop} (H : J1N a0 K) :
    CallsV prog 113 #[.agg (cDF a0 b7 ci cx cy)] w0 (fun v w' => ∃ (r0 : List Int), ∃ (r1 : List Str), ∃ (p_r0 : Option Addr), ∃ (c_r0 : Nat), ∃ (dT : Option Addr), ∃ (dU : Nat), v = .tuple #[.slice p_r0 r0.length c_r0, .slice dT r1.length dU] ∧ Same w0 w' ∧ ISi A w' p_r0 c_r0 r0 ∧ ISt A w' dT dU r1 ∧ K r0 r1) := by
 refine cal hA func113 ntmps113 fun hO hB => ?_
 unfold J1N at H
 refine sbx hO fun w1 B2 s hO => ?_
 refine sbu Fl.i 3 [a0.Start] hO fun w4 p5 s hO => ?_
 refine sbu Fl.str 9 [(([] : Str))] hO (fun w7 p8 s hO => ?_) (hE := fun _ _ => (Els.cons rfl ⟨rfl, (by decide)⟩ (Els.nil _ _ _) (by simp [mx])))
 refine sln0 ?_
 refine smk Fl.bool (H ak.bd) hO fun w10 p11 s hO => ?_
 refine six1 0 hO (H ak.bd).2.2.1 (H ak.bd).2.2.2.1 ?_
 refine sst (u := true) 0 hO (H ak.bd).2.2.1 (H ak.bd).2.2.2.1 fun w13 s hO => ?_
 refine au ?_
 refine lv [1, 6] hO (H ak.bd).2.2.2.2 (fun E (k1_15, d_16, Ia, kr) σ w => ∃ n20 p18 c19 n24 p22 c23, Lo A w0 σ w [(4, .slice p22 n24 c23), (5, .slice p18 n20 c19), (7, .int .i64 (k1_15 : Int))] (esets E [(0, t1 Fl.bool 4 p11 a0.Final.length a0.Final.length d_16), (1, t1 Fl.str 9 p18 n20 c19 Ia), (2, t1 Fl.i 3 p22 n24 c23 kr)])) ⟨_, _, _, _, _, _, ⟨agr, hO, fr⟩⟩ ?_
 refine fun X1 => p3 fun k1_15 d_16 Ia kr => fun H hX1 σ w14 hk => e4 fun n20 p18 c19 n24 => e2 fun p22 c23 => lh hk fun hO hB => ?_
 dsimp only [esets, sS, sZ] at hO hB
 dsimp only at H
 revert hO; repeat (rename Owns .. => q; clear q)
 intro hO; repeat (rename Sq .. => q; clear q)
 refine sln1 2 hO ?_
 refine scm H (fun h25 H => ?_) fun h25 H => ?_
 ·refine au ?_
  refine lv [1, 6, 7] hO H (fun E (k2_27, d_28, d_29, fP) σ w => ∃ n32 p30 c31 n36 p34 c35, Lo A w0 σ w [(4, .slice p34 n36 c35), (5, .slice p30 n32 c31), (8, .int .i64 (k2_27 : Int))] (esets E [(0, t1 Fl.bool 4 p11 a0.Final.length a0.Final.length d_28), (1, t1 Fl.str 9 p30 n32 c31 d_29), (2, t1 Fl.i 3 p34 n36 c35 fP)])) ⟨_, _, _, _, _, _, ⟨agr, hO, fr⟩⟩ ?_
  refine fun X2 => p3 fun k2_27 d_28 d_29 fP => fun H hX2 σ w26 hk => e4 fun n32 p30 c31 n36 => e2 fun p34 c35 => lh hk fun hO hB => ?_
  dsimp only [esets, sS, sZ] at hO hB
  dsimp only at H
  revert hO; repeat (rename Owns .. => q; clear q)
  intro hO; repeat (rename Sq .. => q; clear q)
  refine scm H (fun h37 H => ?_) fun h37 H => ?_
  ·refine au ?_
   refine drs 0 [q0, q1, q0, q0, q0, q1, q0, q1, q0, q0, q1, q0] hO fun w38 s hO => ?_
   refine sxl1 2 hO H.1 H.2.1 ?_
   refine sxls hO ck.u H.2.2.1 H.2.2.2.1 fun p39 c40 l5 => ?_
   refine sxl hO l5.u H.2.2.2.2.1 H.2.2.2.2.2.1 ?_
   refine au ?_
   have h42 := H.1
   have h43 := H.2.1
   have h44 := H.2.2.1
   have h45 := H.2.2.2.1
   have h46 := H.2.2.2.2.1
   have h47 := H.2.2.2.2.2.1
   have h48 := H.2.2.2.2.2.2.1
   have h49 := H.2.2.2.2.2.2.2.1
   refine sxb1 0 hO H.2.2.2.2.2.2.1 H.2.2.2.2.2.2.2.1 H.2.2.2.2.2.2.2.2 (fun h50 H => ?_) fun h50 H => ?_
   ·refine au ?_
    obtain ⟨h51, H⟩ := H
    refine zo (J03 rfl rfl (wrap_i64 h51)) ?_
    refine au ?_
    exact hX2 _ H _ _ agr ⟨_, _, _, _, _, _, ⟨agr, hO, fr⟩⟩
   refine six1 0 hO H.1 H.2.1 ?_
   refine sst (u := true) 0 hO H.1 H.2.1 fun w52 s hO => ?_
   refine au ?_
   refine Go1.drawT (ok := fun _ => True) Same.tr [3, 16] 19 (.qp 0 (.qp 1 (.qp 4 (.qp 5 (.qp 6 (.qp 7 (.qp 9 (.qp 10 (.qp 11 (.alt 2 (.alt 3 (.alt 8 (.alt 12 (.alt 13 (.qp 14 (.alt 15 (.alt 16 (.qp 17 (.qp 18 .nil)) .fin) .fin)) .fin) .fin) (.alt 12 (.alt 8 (.alt 13 (.qp 14 (.alt 15 (.alt 16 (.qp 17 (.qp 18 .nil)) .fin) .fin)) .fin) (.alt 13 (.alt 8 (.qp 14 (.alt 15 (.alt 16 (.qp 17 (.qp 18 .nil)) .fin) .fin)) .fin) .fin)) .fin)) (.alt 8 (.alt 3 (.alt 12 (.alt 13 (.qp 14 (.alt 15 (.alt 16 (.qp 17 (.qp 18 .nil)) .fin) .fin)) .fin) .fin) (.alt 12 (.alt 3 (.alt 13 (.qp 14 (.alt 15 (.alt 16 (.qp 17 (.qp 18 .nil)) .fin) .fin)) .fin) (.alt 13 (.qp 14 (.alt 3 (.alt 15 (.alt 16 (.qp 17 (.qp 18 .nil)) .fin) .fin) (.alt 15 (.alt 3 (.alt 16 (.qp 17 (.qp 18 .nil)) .fin) .fin) .fin))) .fin)) .fin)) (.alt 12 (.alt 3 (.alt 8 (.alt 13 (.qp 14 (.alt 15 (.alt 16 (.qp 17 (.qp 18 .nil)) .fin) .fin)) .fin) (.alt 13 (.alt 8 (.qp 14 (.alt 15 (.alt 16 (.qp 17 (.qp 18 .nil)) .fin) .fin)) .fin) .fin)) (.alt 8 (.alt 3 (.alt 13 (.qp 14 (.alt 15 (.alt 16 (.qp 17 (.qp 18 .nil)) .fin) .fin)) .fin) (.alt 13 (.qp 14 (.alt 3 (.alt 15 (.alt 16 (.qp 17 (.qp 18 .nil)) .fin) .fin) (.alt 15 (.alt 3 (.alt 16 (.qp 17 (.qp 18 .nil)) .fin) .fin) .fin))) .fin)) (.alt 13 (.alt 3 (.alt 8 (.qp 14 (.alt 15 (.alt 16 (.qp 17 (.qp 18 .nil)) .fin) .fin)) .fin) (.alt 8 (.qp 14 (.alt 3 (.alt 15 (.alt 16 (.qp 17 (.qp 18 .nil)) .fin) .fin) (.alt 15 (.alt 3 (.alt 16 (.qp 17 (.qp 18 .nil)) .fin) .fin) .fin))) .fin)) .fin))) .fin))) (.alt 8 (.alt 2 (.alt 3 (.alt 12 (.alt 13 (.qp 14 (.alt 15 (.alt 16 (.qp 17 (.qp 18 .nil)) .fin) .fin)) .fin) .fin) (.alt 12 (.alt 3 (.alt 13 (.qp 14 (.alt 15 (.alt 16 (.qp 17 (.qp 18 .nil)) .fin) .fin)) .fin) (.alt 13 (.qp 14 (.alt 3 (.alt 15 (.alt 16 (.qp 17 (.qp 18 .nil)) .fin) .fin) (.alt 15 (.alt 3 (.alt 16 (.qp 17 (.qp 18 .nil)) .fin) .fin) .fin))) .fin)) .fin)) (.alt 12 (.alt 2 (.alt 3 (.alt 13 (.qp 14 (.alt 15 (.alt 16 (.qp 17 (.qp 18 .nil)) .fin) .fin)) .fin) (.alt 13 (.qp 14 (.alt 3 (.alt 15 (.alt 16 (.qp 17 (.qp 18 .nil)) .fin) .fin) (.alt 15 (.alt 3 (.alt 16 (.qp 17 (.qp 18 .nil)) .fin) .fin) .fin))) .fin)) (.alt 13 (.qp 14 (.alt 2 (.alt 3 (.alt 15 (.alt 16 (.qp 17 (.qp 18 .nil)) .fin) .fin) (.alt 15 (.alt 3 (.alt 16 (.qp 17 (.qp 18 .nil)) .fin) .fin) .fin)) (.alt 15 (.alt 2 (.alt 3 (.alt 16 (.qp 17 (.qp 18 .nil)) .fin) .fin) .fin) .fin))) .fin)) .fin)) (.alt 12 (.alt 2 (.alt 3 (.alt 8 (.alt 13 (.qp 14 (.alt 15 (.alt 16 (.qp 17 (.qp 18 .nil)) .fin) .fin)) .fin) (.alt 13 (.alt 8 (.qp 14 (.alt 15 (.alt 16 (.qp 17 (.qp 18 .nil)) .fin) .fin)) .fin) .fin)) (.alt 8 (.alt 3 (.alt 13 (.qp 14 (.alt 15 (.alt 16 (.qp 17 (.qp 18 .nil)) .fin) .fin)) .fin) (.alt 13 (.qp 14 (.alt 3 (.alt 15 (.alt 16 (.qp 17 (.qp 18 .nil)) .fin) .fin) (.alt 15 (.alt 3 (.alt 16 (.qp 17 (.qp 18 .nil)) .fin) .fin) .fin))) .fin)) (.alt 13 (.alt 3 (.alt 8 (.qp 14 (.alt 15 (.alt 16 (.qp 17 (.qp 18 .nil)) .fin) .fin)) .fin) (.alt 8 (.qp 14 (.alt 3 (.alt 15 (.alt 16 (.qp 17 (.qp 18 .nil)) .fin) .fin) (.alt 15 (.alt 3 (.alt 16 (.qp 17 (.qp 18 .nil)) .fin) .fin) .fin))) .fin)) .fin))) (.alt 8 (.alt 2 (.alt 3 (.alt 13 (.qp 14 (.alt 15 (.alt 16 (.qp 17 (.qp 18 .nil)) .fin) .fin)) .fin) (.alt 13 (.qp 14 (.alt 3 (.alt 15 (.alt 16 (.qp 17 (.qp 18 .nil)) .fin) .fin) (.alt 15 (.alt 3 (.alt 16 (.qp 17 (.qp 18 .nil)) .fin) .fin) .fin))) .fin)) (.alt 13 (.qp 14 (.alt 2 (.alt 3 (.alt 15 (.alt 16 (.qp 17 (.qp 18 .nil)) .fin) .fin) (.alt 15 (.alt 3 (.alt 16 (.qp 17 (.qp 18 .nil)) .fin) .fin) .fin)) (.alt 15 (.alt 2 (.alt 3 (.alt 16 (.qp 17 (.qp 18 .nil)) .fin) .fin) .fin) .fin))) .fin)) (.alt 13 (.alt 2 (.alt 3 (.alt 8 (.qp 14 (.alt 15 (.alt 16 (.qp 17 (.qp 18 .nil)) .fin) .fin)) .fin) (.alt 8 (.qp 14 (.alt 3 (.alt 15 (.alt 16 (.qp 17 (.qp 18 .nil)) .fin) .fin) (.alt 15 (.alt 3 (.alt 16 (.qp 17 (.qp 18 .nil)) .fin) .fin) .fin))) .fin)) (.alt 8 (.qp 14 (.alt 2 (.alt 3 (.alt 15 (.alt 16 (.qp 17 (.qp 18 .nil)) .fin) .fin) (.alt 15 (.alt 3 (.alt 16 (.qp 17 (.qp 18 .nil)) .fin) .fin) .fin)) (.alt 15 (.alt 2 (.alt 3 (.alt 16 (.qp 17 (.qp 18 .nil)) .fin) .fin) .fin) .fin))) .fin)) .fin))) .fin)))))))))))) mixed (by kernel_rfl) ?_
   intro w53 Gi
   refine sm hO Gi fun s hO => ?_
   refine six1 1 hO H.2.2.1 H.2.2.2.1 ?_
   refine au ?_
   have h55 := H.1
   have h56 := H.2.1
   have h57 := H.2.2.1
   have h58 := H.2.2.2.1
   replace H := H.2.2.2.2
   obtain ⟨h59, H⟩ := H
   refine GoT.pure rfl (J03 rfl rfl (wrap_i64 h59)) rfl rfl ?_
   refine GoT.pure rfl (J1Y underlying3 underlying5 rfl rfl) rfl rfl ?_
   refine GoT.both ?_ ?_
   ·skip
    skip
    refine sbu Fl.i 3 [(ix (ix a0.Next (ix fP (k1_15 : Int))) (k2_27 : Int))] hO fun w60 p61 s hO => ?_
    refine GoT.both ?_ ?_
    ·skip
     skip
     refine sfz 0 hO fun s hO Ej alY => ?_
     refine sap 2 hO Ej.u H fun w65 p66 c67 s hO => ?_
     replace H := H.2
     refine GoT.both ?_ ?_
     ·skip
      skip
      refine sld1 1 hO h57 h58 ?_
      have hle68 := t1le 1 hO h57 h58
      skip
      refine sbu (Fl.int .u8) 5 [(IntKind.u8.wrap ((97 : Int) + (k2_27 : Int)))] hO fun w69 p70 s hO => ?_
      skip
      refine op1 0 hO fun al0 s hO yW => ?_
      have hle74 := J0u yW.bd
      refine GoT.step rfl ((oldBytes 0 hO rfl yW.u underlying126 underlying5 underlying9 rfl) _ (Same.refl _)) (Same.refl _) rfl rfl ?_
      obtain ⟨h75, H⟩ := H
      refine GoT.pure rfl (J08 rfl rfl h75) rfl rfl ?_
      skip
      refine sbu Fl.str 9 [((ix d_29 (k1_15 : Int)) ++ (byt ([(IntKind.u8.wrap ((97 : Int) + (k2_27 : Int)))])))] hO (fun w76 p77 s hO => ?_) (hE := fun _ _ => (Els.cons rfl ⟨rfl, (lenApp h75)⟩ (Els.nil _ _ _) (by simp [mx])))
      skip
      refine sfz 0 hO fun s hO o5 sD => ?_
      refine sap 2 hO o5 H fun w81 p82 c83 s hO => ?_
      refine au ?_
      replace H := H.2
      obtain ⟨h84, H⟩ := H
      refine zo (J03 rfl rfl (wrap_i64 h84)) ?_
      refine au ?_
      refine cl1 (Fl.int .u8) 0 hO yW.u fun s hO => ?_
      refine sdr [0] hO fun s hO => ?_
      exact hX2 _ H _ _ agr ⟨_, _, _, _, _, _, ⟨agr, hO, fr⟩⟩
     skip
     refine sbu (Fl.int .u8) 5 [(IntKind.u8.wrap ((97 : Int) + (k2_27 : Int)))] hO fun w85 p86 s hO => ?_
     refine GoT.both ?_ ?_
     ·skip
      skip
      refine sld1 2 hO h57 h58 ?_
      have hle88 := t1le 2 hO h57 h58
      skip
      refine op1 0 hO fun al1 s hO mc => ?_
      have hle91 := J0u mc.bd
      refine GoT.step rfl ((oldBytes 0 hO rfl mc.u underlying126 underlying5 underlying9 rfl) _ (Same.refl _)) (Same.refl _) rfl rfl ?_
      obtain ⟨h92, H⟩ := H
      refine GoT.pure rfl (J08 rfl rfl h92) rfl rfl ?_
      skip
      refine sbu Fl.str 9 [((ix d_29 (k1_15 : Int)) ++ (byt ([(IntKind.u8.wrap ((97 : Int) + (k2_27 : Int)))])))] hO (fun w93 p94 s hO => ?_) (hE := fun _ _ => (Els.cons rfl ⟨rfl, (lenApp h92)⟩ (Els.nil _ _ _) (by simp [mx])))
      skip
      refine sfz 0 hO fun s hO pG aaa => ?_
      refine sap 2 hO pG H fun w98 p99 aab s hO => ?_
      refine au ?_
      replace H := H.2
      obtain ⟨nS, H⟩ := H
      refine zo (J03 rfl rfl (wrap_i64 nS)) ?_
      refine au ?_
      refine cl1 (Fl.int .u8) 0 hO mc.u fun s hO => ?_
      refine sdr [0] hO fun s hO => ?_
      exact hX2 _ H _ _ agr ⟨_, _, _, _, _, _, ⟨agr, hO, fr⟩⟩
     skip
     refine op1 0 hO fun ad1 s hO iK => ?_
     have hle104 := J0u iK.bd
     refine GoT.step rfl ((oldBytes 0 hO rfl iK.u underlying126 underlying5 underlying9 rfl) _ (Same.refl _)) (Same.refl _) rfl rfl ?_
     skip
     refine sld1 2 hO h57 h58 ?_
     have hle105 := t1le 2 hO h57 h58
     obtain ⟨j9, H⟩ := H
     refine GoT.pure rfl (J08 rfl rfl j9) rfl rfl ?_
     skip
     refine sbu Fl.str 9 [((ix d_29 (k1_15 : Int)) ++ (byt ([(IntKind.u8.wrap ((97 : Int) + (k2_27 : Int)))])))] hO (fun Wy Xp s hO => ?_) (hE := fun _ _ => (Els.cons rfl ⟨rfl, (lenApp j9)⟩ (Els.nil _ _ _) (by simp [mx])))
     skip
     refine sfz 0 hO fun s hO mW ad2 => ?_
     refine sap 2 hO mW.u H fun FF FG FH s hO => ?_
     refine au ?_
     replace H := H.2
     obtain ⟨xX, H⟩ := H
     refine zo (J03 rfl rfl (wrap_i64 xX)) ?_
     refine au ?_
     refine cl1 (Fl.int .u8) 0 hO iK.u fun s hO => ?_
     refine sdr [0] hO fun s hO => ?_
     exact hX2 _ H _ _ agr ⟨_, _, _, _, _, _, ⟨agr, hO, fr⟩⟩
    refine GoT.both ?_ ?_
    ·skip
     skip
     refine sld1 2 hO h57 h58 ?_
     have hle116 := t1le 2 hO h57 h58
     refine GoT.both ?_ ?_
     ·skip
      skip
      refine sfz 0 hO fun s hO rY Bj => ?_
      refine sap 2 hO rY H fun xa wQ FI s hO => ?_
      replace H := H.2
      skip
      refine sbu (Fl.int .u8) 5 [(IntKind.u8.wrap ((97 : Int) + (k2_27 : Int)))] hO fun vy al2 s hO => ?_
      skip
      refine op1 0 hO fun ad3 s hO k8 => ?_
      have hle127 := J0u k8.bd
      refine GoT.step rfl ((oldBytes 0 hO rfl k8.u underlying126 underlying5 underlying9 rfl) _ (Same.refl _)) (Same.refl _) rfl rfl ?_
      obtain ⟨oN, H⟩ := H
      refine GoT.pure rfl (J08 rfl rfl oN) rfl rfl ?_
      skip
      refine sbu Fl.str 9 [((ix d_29 (k1_15 : Int)) ++ (byt ([(IntKind.u8.wrap ((97 : Int) + (k2_27 : Int)))])))] hO (fun WU xb s hO => ?_) (hE := fun _ _ => (Els.cons rfl ⟨rfl, (lenApp oN)⟩ (Els.nil _ _ _) (by simp [mx])))
      skip
      refine sfz 0 hO fun s hO PE ad4 => ?_
      refine sap 2 hO PE H fun Xs nW nX s hO => ?_
      refine au ?_
      replace H := H.2
      obtain ⟨aac, H⟩ := H
      refine zo (J03 rfl rfl (wrap_i64 aac)) ?_
      refine au ?_
      refine cl1 (Fl.int .u8) 0 hO k8.u fun s hO => ?_
      refine sdr [0] hO fun s hO => ?_
      exact hX2 _ H _ _ agr ⟨_, _, _, _, _, _, ⟨agr, hO, fr⟩⟩
     skip
     refine sbu (Fl.int .u8) 5 [(IntKind.u8.wrap ((97 : Int) + (k2_27 : Int)))] hO fun se al3 s hO => ?_
     refine GoT.both ?_ ?_
     ·skip
      skip
      refine sfz 1 hO fun s hO PF ad5 => ?_
      refine sap 3 hO PF H fun Eo Ep al4 s hO => ?_
      replace H := H.2
      skip
      refine op1 0 hO fun Mg s hO tB => ?_
      have hle148 := J0u tB.bd
      refine GoT.step rfl ((oldBytes 0 hO rfl tB.u underlying126 underlying5 underlying9 rfl) _ (Same.refl _)) (Same.refl _) rfl rfl ?_
      obtain ⟨Ib, H⟩ := H
      refine GoT.pure rfl (J08 rfl rfl Ib) rfl rfl ?_
      skip
      refine sbu Fl.str 9 [((ix d_29 (k1_15 : Int)) ++ (byt ([(IntKind.u8.wrap ((97 : Int) + (k2_27 : Int)))])))] hO (fun Yg Yh s hO => ?_) (hE := fun _ _ => (Els.cons rfl ⟨rfl, (lenApp Ib)⟩ (Els.nil _ _ _) (by simp [mx])))
      skip
      refine sfz 0 hO fun s hO PG ad6 => ?_
      refine sap 2 hO PG H fun vB Xw Xx s hO => ?_
      refine au ?_
      replace H := H.2
      obtain ⟨aad, H⟩ := H
      refine zo (J03 rfl rfl (wrap_i64 aad)) ?_
      refine au ?_
      refine cl1 (Fl.int .u8) 0 hO tB.u fun s hO => ?_
      refine sdr [0] hO fun s hO => ?_
      exact hX2 _ H _ _ agr ⟨_, _, _, _, _, _, ⟨agr, hO, fr⟩⟩
     replace H := (And.intro H.2.1 (And.intro H.1 (And.intro H.2.2.1 (And.intro H.2.2.2.1 H.2.2.2.2))))
     refine op1 0 hO fun ad7 s hO iD => ?_
     have hle161 := J0u iD.bd
     refine GoT.step rfl ((oldBytes 0 hO rfl iD.u underlying126 underlying5 underlying9 rfl) _ (Same.refl _)) (Same.refl _) rfl rfl ?_
     obtain ⟨jQ, H⟩ := H
     refine GoT.pure rfl (J08 rfl rfl jQ) rfl rfl ?_
     refine GoT.both ?_ ?_
     ·skip
      skip
      refine sfz 1 hO fun s hO sP ad8 => ?_
      refine sap 3 hO sP.u H fun al5 al6 al7 s hO => ?_
      replace H := H.2
      skip
      refine sbu Fl.str 9 [((ix d_29 (k1_15 : Int)) ++ (byt ([(IntKind.u8.wrap ((97 : Int) + (k2_27 : Int)))])))] hO (fun qv Cr s hO => ?_) (hE := fun _ _ => (Els.cons rfl ⟨rfl, (lenApp jQ)⟩ (Els.nil _ _ _) (by simp [mx])))
      skip
      refine sfz 0 hO fun s hO qw Ag => ?_
      refine sap 2 hO qw H fun sW al8 al9 s hO => ?_
      refine au ?_
      replace H := H.2
      obtain ⟨aae, H⟩ := H
      refine zo (J03 rfl rfl (wrap_i64 aae)) ?_
      refine au ?_
      refine cl1 (Fl.int .u8) 0 hO iD.u fun s hO => ?_
      refine sdr [0] hO fun s hO => ?_
      exact hX2 _ H _ _ agr ⟨_, _, _, _, _, _, ⟨agr, hO, fr⟩⟩
     skip
     refine sbu Fl.str 9 [((ix d_29 (k1_15 : Int)) ++ (byt ([(IntKind.u8.wrap ((97 : Int) + (k2_27 : Int)))])))] hO (fun WD ama s hO => ?_) (hE := fun _ _ => (Els.cons rfl ⟨rfl, (lenApp jQ)⟩ (Els.nil _ _ _) (by simp [mx])))
     skip
     refine sfz 2 hO fun s hO PH ad9 => ?_
     refine sap 4 hO PH H fun vD ko kq s hO => ?_
     replace H := H.2
     skip
     refine sfz 0 hO fun s hO PJ aea => ?_
     refine sap 2 hO PJ H fun W5 amb amc s hO => ?_
     refine au ?_
     replace H := H.2
     obtain ⟨rL, H⟩ := H
     refine zo (J03 rfl rfl (wrap_i64 rL)) ?_
     refine au ?_
     refine cl1 (Fl.int .u8) 0 hO iD.u fun s hO => ?_
     refine sdr [0] hO fun s hO => ?_
     exact hX2 _ H _ _ agr ⟨_, _, _, _, _, _, ⟨agr, hO, fr⟩⟩
    skip
    refine sbu (Fl.int .u8) 5 [(IntKind.u8.wrap ((97 : Int) + (k2_27 : Int)))] hO fun xd Yl s hO => ?_
    refine GoT.both ?_ ?_
    ·skip
     skip
     refine sfz 1 hO fun s hO PK aeb => ?_
     refine sap 3 hO PK H fun XA XB amd s hO => ?_
     replace H := H.2
     refine GoT.both ?_ ?_
     ·skip
      skip
      refine sld1 2 hO h57 h58 ?_
      have hle199 := t1le 2 hO h57 h58
      skip
      refine op1 0 hO fun aec s hO tC => ?_
      have hle202 := J0u tC.bd
      refine GoT.step rfl ((oldBytes 0 hO rfl tC.u underlying126 underlying5 underlying9 rfl) _ (Same.refl _)) (Same.refl _) rfl rfl ?_
      obtain ⟨nF, H⟩ := H
      refine GoT.pure rfl (J08 rfl rfl nF) rfl rfl ?_
      skip
      refine sbu Fl.str 9 [((ix d_29 (k1_15 : Int)) ++ (byt ([(IntKind.u8.wrap ((97 : Int) + (k2_27 : Int)))])))] hO (fun vF Cz s hO => ?_) (hE := fun _ _ => (Els.cons rfl ⟨rfl, (lenApp nF)⟩ (Els.nil _ _ _) (by simp [mx])))
      skip
      refine sfz 0 hO fun s hO kT mV => ?_
      refine sap 2 hO kT H fun v6 FT XC s hO => ?_
      refine au ?_
      replace H := H.2
      obtain ⟨v7, H⟩ := H
      refine zo (J03 rfl rfl (wrap_i64 v7)) ?_
      refine au ?_
      refine cl1 (Fl.int .u8) 0 hO tC.u fun s hO => ?_
      refine sdr [0] hO fun s hO => ?_
      exact hX2 _ H _ _ agr ⟨_, _, _, _, _, _, ⟨agr, hO, fr⟩⟩
     skip
     refine op1 0 hO fun BL s hO jx => ?_
     have hle215 := J0u jx.bd
     refine GoT.step rfl ((oldBytes 0 hO rfl jx.u underlying126 underlying5 underlying9 rfl) _ (Same.refl _)) (Same.refl _) rfl rfl ?_
     skip
     refine sld1 2 hO h57 h58 ?_
     have hle216 := t1le 2 hO h57 h58
     obtain ⟨Ic, H⟩ := H
     refine GoT.pure rfl (J08 rfl rfl Ic) rfl rfl ?_
     skip
     refine sbu Fl.str 9 [((ix d_29 (k1_15 : Int)) ++ (byt ([(IntKind.u8.wrap ((97 : Int) + (k2_27 : Int)))])))] hO (fun ame amf s hO => ?_) (hE := fun _ _ => (Els.cons rfl ⟨rfl, (lenApp Ic)⟩ (Els.nil _ _ _) (by simp [mx])))
     skip
     refine sfz 0 hO fun s hO PM aed => ?_
     refine sap 2 hO PM.u H fun amg amh ami s hO => ?_
     refine au ?_
     replace H := H.2
     obtain ⟨yz, H⟩ := H
     refine zo (J03 rfl rfl (wrap_i64 yz)) ?_
     refine au ?_
     refine cl1 (Fl.int .u8) 0 hO jx.u fun s hO => ?_
     refine sdr [0] hO fun s hO => ?_
     exact hX2 _ H _ _ agr ⟨_, _, _, _, _, _, ⟨agr, hO, fr⟩⟩
    refine GoT.both ?_ ?_
    ·skip
     skip
     refine sld1 3 hO h57 h58 ?_
     have hle227 := t1le 3 hO h57 h58
     refine GoT.both ?_ ?_
     ·skip
      skip
      refine sfz 1 hO fun s hO rO Be => ?_
      refine sap 3 hO rO H fun rP aaf amj s hO => ?_
      replace H := H.2
      skip
      refine op1 0 hO fun aee s hO tD => ?_
      have hle235 := J0u tD.bd
      refine GoT.step rfl ((oldBytes 0 hO rfl tD.u underlying126 underlying5 underlying9 rfl) _ (Same.refl _)) (Same.refl _) rfl rfl ?_
      obtain ⟨qB, H⟩ := H
      refine GoT.pure rfl (J08 rfl rfl qB) rfl rfl ?_
      skip
      refine sbu Fl.str 9 [((ix d_29 (k1_15 : Int)) ++ (byt ([(IntKind.u8.wrap ((97 : Int) + (k2_27 : Int)))])))] hO (fun vI TW s hO => ?_) (hE := fun _ _ => (Els.cons rfl ⟨rfl, (lenApp qB)⟩ (Els.nil _ _ _) (by simp [mx])))
      skip
      refine sfz 0 hO fun s hO PO aef => ?_
      refine sap 2 hO PO H fun YM sM sN s hO => ?_
      refine au ?_
      replace H := H.2
      obtain ⟨aag, H⟩ := H
      refine zo (J03 rfl rfl (wrap_i64 aag)) ?_
      refine au ?_
      refine cl1 (Fl.int .u8) 0 hO tD.u fun s hO => ?_
      refine sdr [0] hO fun s hO => ?_
      exact hX2 _ H _ _ agr ⟨_, _, _, _, _, _, ⟨agr, hO, fr⟩⟩
     replace H := (And.intro H.2.1 (And.intro H.1 (And.intro H.2.2.1 (And.intro H.2.2.2.1 H.2.2.2.2))))
     refine op1 0 hO fun aeg s hO na => ?_
     have hle248 := J0u na.bd
     refine GoT.step rfl ((oldBytes 0 hO rfl na.u underlying126 underlying5 underlying9 rfl) _ (Same.refl _)) (Same.refl _) rfl rfl ?_
     obtain ⟨yX, H⟩ := H
     refine GoT.pure rfl (J08 rfl rfl yX) rfl rfl ?_
     refine GoT.both ?_ ?_
     ·skip
      skip
      refine sfz 1 hO fun s hO qC J1 => ?_
      refine sap 3 hO qC.u H fun T3 T4 T5 s hO => ?_
      replace H := H.2
      skip
      refine sbu Fl.str 9 [((ix d_29 (k1_15 : Int)) ++ (byt ([(IntKind.u8.wrap ((97 : Int) + (k2_27 : Int)))])))] hO (fun yA amk s hO => ?_) (hE := fun _ _ => (Els.cons rfl ⟨rfl, (lenApp yX)⟩ (Els.nil _ _ _) (by simp [mx])))
      skip
      refine sfz 0 hO fun s hO PP aeh => ?_
      refine sap 2 hO PP H fun aml amm amn s hO => ?_
      refine au ?_
      replace H := H.2
      obtain ⟨yB, H⟩ := H
      refine zo (J03 rfl rfl (wrap_i64 yB)) ?_
      refine au ?_
      refine cl1 (Fl.int .u8) 0 hO na.u fun s hO => ?_
      refine sdr [0] hO fun s hO => ?_
      exact hX2 _ H _ _ agr ⟨_, _, _, _, _, _, ⟨agr, hO, fr⟩⟩
     skip
     refine sbu Fl.str 9 [((ix d_29 (k1_15 : Int)) ++ (byt ([(IntKind.u8.wrap ((97 : Int) + (k2_27 : Int)))])))] hO (fun YO YP s hO => ?_) (hE := fun _ _ => (Els.cons rfl ⟨rfl, (lenApp yX)⟩ (Els.nil _ _ _) (by simp [mx])))
     skip
     refine sfz 2 hO fun s hO PQ aei => ?_
     refine sap 4 hO PQ H fun Id amo amp s hO => ?_
     replace H := H.2
     skip
     refine sfz 0 hO fun s hO tE nb => ?_
     refine sap 2 hO tE H fun amq amr ams s hO => ?_
     refine au ?_
     replace H := H.2
     obtain ⟨aah, H⟩ := H
     refine zo (J03 rfl rfl (wrap_i64 aah)) ?_
     refine au ?_
     refine cl1 (Fl.int .u8) 0 hO na.u fun s hO => ?_
     refine sdr [0] hO fun s hO => ?_
     exact hX2 _ H _ _ agr ⟨_, _, _, _, _, _, ⟨agr, hO, fr⟩⟩
    skip
    refine op1 0 hO fun PR s hO lg => ?_
    have hle280 := J0u lg.bd
    refine GoT.step rfl ((oldBytes 0 hO rfl lg.u underlying126 underlying5 underlying9 rfl) _ (Same.refl _)) (Same.refl _) rfl rfl ?_
    refine GoT.both ?_ ?_
    ·skip
     skip
     refine sfz 1 hO fun s hO tf BO => ?_
     refine sap 3 hO tf H fun XJ amt amu s hO => ?_
     replace H := H.2
     skip
     refine sld1 2 hO h57 h58 ?_
     have hle286 := t1le 2 hO h57 h58
     obtain ⟨tg, H⟩ := H
     refine GoT.pure rfl (J08 rfl rfl tg) rfl rfl ?_
     skip
     refine sbu Fl.str 9 [((ix d_29 (k1_15 : Int)) ++ (byt ([(IntKind.u8.wrap ((97 : Int) + (k2_27 : Int)))])))] hO (fun vK T8 s hO => ?_) (hE := fun _ _ => (Els.cons rfl ⟨rfl, (lenApp tg)⟩ (Els.nil _ _ _) (by simp [mx])))
     skip
     refine sfz 0 hO fun s hO qE Ap => ?_
     refine sap 2 hO qE.u H fun xU XN XO s hO => ?_
     refine au ?_
     replace H := H.2
     obtain ⟨pg, H⟩ := H
     refine zo (J03 rfl rfl (wrap_i64 pg)) ?_
     refine au ?_
     refine cl1 (Fl.int .u8) 0 hO lg.u fun s hO => ?_
     refine sdr [0] hO fun s hO => ?_
     exact hX2 _ H _ _ agr ⟨_, _, _, _, _, _, ⟨agr, hO, fr⟩⟩
    replace H := (And.intro H.2.1 (And.intro H.1 (And.intro H.2.2.1 (And.intro H.2.2.2.1 H.2.2.2.2))))
    refine sld1 3 hO h57 h58 ?_
    have hle297 := t1le 3 hO h57 h58
    obtain ⟨yY, H⟩ := H
    refine GoT.pure rfl (J08 rfl rfl yY) rfl rfl ?_
    refine GoT.both ?_ ?_
    ·skip
     skip
     refine sfz 1 hO fun s hO PS aej => ?_
     refine sap 3 hO PS.u H fun amv amw amx s hO => ?_
     replace H := H.2
     skip
     refine sbu Fl.str 9 [((ix d_29 (k1_15 : Int)) ++ (byt ([(IntKind.u8.wrap ((97 : Int) + (k2_27 : Int)))])))] hO (fun Ub Uc s hO => ?_) (hE := fun _ _ => (Els.cons rfl ⟨rfl, (lenApp yY)⟩ (Els.nil _ _ _) (by simp [mx])))
     skip
     refine sfz 0 hO fun s hO PT aek => ?_
     refine sap 2 hO PT H fun YS amy amz s hO => ?_
     refine au ?_
     replace H := H.2
     obtain ⟨tj, H⟩ := H
     refine zo (J03 rfl rfl (wrap_i64 tj)) ?_
     refine au ?_
     refine cl1 (Fl.int .u8) 0 hO lg.u fun s hO => ?_
     refine sdr [0] hO fun s hO => ?_
     exact hX2 _ H _ _ agr ⟨_, _, _, _, _, _, ⟨agr, hO, fr⟩⟩
    skip
    refine sbu Fl.str 9 [((ix d_29 (k1_15 : Int)) ++ (byt ([(IntKind.u8.wrap ((97 : Int) + (k2_27 : Int)))])))] hO (fun xV XP s hO => ?_) (hE := fun _ _ => (Els.cons rfl ⟨rfl, (lenApp yY)⟩ (Els.nil _ _ _) (by simp [mx])))
    skip
    refine sfz 2 hO fun s hO tF PU => ?_
    refine sap 4 hO tF H fun aai aaj aak s hO => ?_
    replace H := H.2
    skip
    refine sfz 0 hO fun s hO PV ael => ?_
    refine sap 2 hO PV H fun XR XS XT s hO => ?_
    refine au ?_
    replace H := H.2
    obtain ⟨qH, H⟩ := H
    refine zo (J03 rfl rfl (wrap_i64 qH)) ?_
    refine au ?_
    refine cl1 (Fl.int .u8) 0 hO lg.u fun s hO => ?_
    refine sdr [0] hO fun s hO => ?_
    exact hX2 _ H _ _ agr ⟨_, _, _, _, _, _, ⟨agr, hO, fr⟩⟩
   refine GoT.both ?_ ?_
   ·skip
    skip
    refine sld1 1 hO h57 h58 ?_
    have hle327 := t1le 1 hO h57 h58
    refine GoT.both ?_ ?_
    ·skip
     skip
     refine sbu Fl.i 3 [(ix (ix a0.Next (ix fP (k1_15 : Int))) (k2_27 : Int))] hO fun aal amA s hO => ?_
     refine GoT.both ?_ ?_
     ·skip
      skip
      refine sfz 0 hO fun s hO PW aem => ?_
      refine sap 2 hO PW H fun HP amB amC s hO => ?_
      replace H := H.2
      skip
      refine sbu (Fl.int .u8) 5 [(IntKind.u8.wrap ((97 : Int) + (k2_27 : Int)))] hO fun vL XW s hO => ?_
      skip
      refine op1 0 hO fun aen s hO tG => ?_
      have hle341 := J0u tG.bd
      refine GoT.step rfl ((oldBytes 0 hO rfl tG.u underlying126 underlying5 underlying9 rfl) _ (Same.refl _)) (Same.refl _) rfl rfl ?_
      obtain ⟨Ie, H⟩ := H
      refine GoT.pure rfl (J08 rfl rfl Ie) rfl rfl ?_
      skip
      refine sbu Fl.str 9 [((ix d_29 (k1_15 : Int)) ++ (byt ([(IntKind.u8.wrap ((97 : Int) + (k2_27 : Int)))])))] hO (fun G6 aam s hO => ?_) (hE := fun _ _ => (Els.cons rfl ⟨rfl, (lenApp Ie)⟩ (Els.nil _ _ _) (by simp [mx])))
      skip
      refine sfz 0 hO fun s hO qI Kk => ?_
      refine sap 2 hO qI H fun C2 C3 C4 s hO => ?_
      refine au ?_
      replace H := H.2
      obtain ⟨ro, H⟩ := H
      refine zo (J03 rfl rfl (wrap_i64 ro)) ?_
      refine au ?_
      refine cl1 (Fl.int .u8) 0 hO tG.u fun s hO => ?_
      refine sdr [0] hO fun s hO => ?_
      exact hX2 _ H _ _ agr ⟨_, _, _, _, _, _, ⟨agr, hO, fr⟩⟩
     skip
     refine sbu (Fl.int .u8) 5 [(IntKind.u8.wrap ((97 : Int) + (k2_27 : Int)))] hO fun VQ VR s hO => ?_
     refine GoT.both ?_ ?_
     ·skip
      skip
      refine sfz 1 hO fun s hO PX aeo => ?_
      refine sap 3 hO PX H fun amD amE amF s hO => ?_
      replace H := H.2
      skip
      refine op1 0 hO fun aep s hO tH => ?_
      have hle362 := J0u tH.bd
      refine GoT.step rfl ((oldBytes 0 hO rfl tH.u underlying126 underlying5 underlying9 rfl) _ (Same.refl _)) (Same.refl _) rfl rfl ?_
      obtain ⟨Ig, H⟩ := H
      refine GoT.pure rfl (J08 rfl rfl Ig) rfl rfl ?_
      skip
      refine sbu Fl.str 9 [((ix d_29 (k1_15 : Int)) ++ (byt ([(IntKind.u8.wrap ((97 : Int) + (k2_27 : Int)))])))] hO (fun VV amG s hO => ?_) (hE := fun _ _ => (Els.cons rfl ⟨rfl, (lenApp Ig)⟩ (Els.nil _ _ _) (by simp [mx])))
      skip
      refine sfz 0 hO fun s hO cH rq => ?_
      refine sap 2 hO cH H fun aan aao aap s hO => ?_
      refine au ?_
      replace H := H.2
      obtain ⟨aaq, H⟩ := H
      refine zo (J03 rfl rfl (wrap_i64 aaq)) ?_
      refine au ?_
      refine cl1 (Fl.int .u8) 0 hO tH.u fun s hO => ?_
      refine sdr [0] hO fun s hO => ?_
      exact hX2 _ H _ _ agr ⟨_, _, _, _, _, _, ⟨agr, hO, fr⟩⟩
     replace H := (And.intro H.2.1 (And.intro H.1 (And.intro H.2.2.1 (And.intro H.2.2.2.1 H.2.2.2.2))))
     refine op1 0 hO fun aeq s hO nc => ?_
     have hle375 := J0u nc.bd
     refine GoT.step rfl ((oldBytes 0 hO rfl nc.u underlying126 underlying5 underlying9 rfl) _ (Same.refl _)) (Same.refl _) rfl rfl ?_
     obtain ⟨jV, H⟩ := H
     refine GoT.pure rfl (J08 rfl rfl jV) rfl rfl ?_
     refine GoT.both ?_ ?_
     ·skip
      skip
      refine sfz 1 hO fun s hO PY aer => ?_
      refine sap 3 hO PY.u H fun VX amH amI s hO => ?_
      replace H := H.2
      skip
      refine sbu Fl.str 9 [((ix d_29 (k1_15 : Int)) ++ (byt ([(IntKind.u8.wrap ((97 : Int) + (k2_27 : Int)))])))] hO (fun E7 amJ s hO => ?_) (hE := fun _ _ => (Els.cons rfl ⟨rfl, (lenApp jV)⟩ (Els.nil _ _ _) (by simp [mx])))
      skip
      refine sfz 0 hO fun s hO P4 aes => ?_
      refine sap 2 hO P4 H fun amK amL amM s hO => ?_
      refine au ?_
      replace H := H.2
      obtain ⟨aar, H⟩ := H
      refine zo (J03 rfl rfl (wrap_i64 aar)) ?_
      refine au ?_
      refine cl1 (Fl.int .u8) 0 hO nc.u fun s hO => ?_
      refine sdr [0] hO fun s hO => ?_
      exact hX2 _ H _ _ agr ⟨_, _, _, _, _, _, ⟨agr, hO, fr⟩⟩
     skip
     refine sbu Fl.str 9 [((ix d_29 (k1_15 : Int)) ++ (byt ([(IntKind.u8.wrap ((97 : Int) + (k2_27 : Int)))])))] hO (fun amN amO s hO => ?_) (hE := fun _ _ => (Els.cons rfl ⟨rfl, (lenApp jV)⟩ (Els.nil _ _ _) (by simp [mx])))
     skip
     refine sfz 2 hO fun s hO P5 aet => ?_
     refine sap 4 hO P5 H fun aas amP amQ s hO => ?_
     replace H := H.2
     skip
     refine sfz 0 hO fun s hO li ne => ?_
     refine sap 2 hO li H fun amR amS amT s hO => ?_
     refine au ?_
     replace H := H.2
     obtain ⟨aat, H⟩ := H
     refine zo (J03 rfl rfl (wrap_i64 aat)) ?_
     refine au ?_
     refine cl1 (Fl.int .u8) 0 hO nc.u fun s hO => ?_
     refine sdr [0] hO fun s hO => ?_
     exact hX2 _ H _ _ agr ⟨_, _, _, _, _, _, ⟨agr, hO, fr⟩⟩
    skip
    refine sbu (Fl.int .u8) 5 [(IntKind.u8.wrap ((97 : Int) + (k2_27 : Int)))] hO fun amU amV s hO => ?_
    refine GoT.both ?_ ?_
    ·skip
     skip
     refine sbu Fl.i 3 [(ix (ix a0.Next (ix fP (k1_15 : Int))) (k2_27 : Int))] hO fun Uo Up s hO => ?_
     refine GoT.both ?_ ?_
     ·skip
      skip
      refine sfz 0 hO fun s hO P6 aeu => ?_
      refine sap 3 hO P6 H fun YY amW amX s hO => ?_
      replace H := H.2
      skip
      refine op1 0 hO fun aev s hO tI => ?_
      have hle418 := J0u tI.bd
      refine GoT.step rfl ((oldBytes 0 hO rfl tI.u underlying126 underlying5 underlying9 rfl) _ (Same.refl _)) (Same.refl _) rfl rfl ?_
      obtain ⟨Ih, H⟩ := H
      refine GoT.pure rfl (J08 rfl rfl Ih) rfl rfl ?_
      skip
      refine sbu Fl.str 9 [((ix d_29 (k1_15 : Int)) ++ (byt ([(IntKind.u8.wrap ((97 : Int) + (k2_27 : Int)))])))] hO (fun amY am0 s hO => ?_) (hE := fun _ _ => (Els.cons rfl ⟨rfl, (lenApp Ih)⟩ (Els.nil _ _ _) (by simp [mx])))
      skip
      refine sfz 0 hO fun s hO P7 aew => ?_
      refine sap 2 hO P7 H fun am1 am2 am3 s hO => ?_
      refine au ?_
      replace H := H.2
      obtain ⟨aau, H⟩ := H
      refine zo (J03 rfl rfl (wrap_i64 aau)) ?_
      refine au ?_
      refine cl1 (Fl.int .u8) 0 hO tI.u fun s hO => ?_
      refine sdr [0] hO fun s hO => ?_
      exact hX2 _ H _ _ agr ⟨_, _, _, _, _, _, ⟨agr, hO, fr⟩⟩
     replace H := (And.intro H.2.1 (And.intro H.1 (And.intro H.2.2.1 (And.intro H.2.2.2.1 H.2.2.2.2))))
     refine op1 1 hO fun aex s hO nf => ?_
     have hle431 := J0u nf.bd
     refine GoT.step rfl ((oldBytes 1 hO rfl nf.u underlying126 underlying5 underlying9 rfl) _ (Same.refl _)) (Same.refl _) rfl rfl ?_
     obtain ⟨y3, H⟩ := H
     refine GoT.pure rfl (J08 rfl rfl y3) rfl rfl ?_
     refine GoT.both ?_ ?_
     ·skip
      skip
      refine sfz 0 hO fun s hO tp aey => ?_
      refine sap 3 hO tp.u H fun am4 am5 am6 s hO => ?_
      replace H := H.2
      skip
      refine sbu Fl.str 9 [((ix d_29 (k1_15 : Int)) ++ (byt ([(IntKind.u8.wrap ((97 : Int) + (k2_27 : Int)))])))] hO (fun Us Ut s hO => ?_) (hE := fun _ _ => (Els.cons rfl ⟨rfl, (lenApp y3)⟩ (Els.nil _ _ _) (by simp [mx])))
      skip
      refine sfz 0 hO fun s hO P8 aez => ?_
      refine sap 2 hO P8 H fun Y1 am7 am8 s hO => ?_
      refine au ?_
      replace H := H.2
      obtain ⟨aav, H⟩ := H
      refine zo (J03 rfl rfl (wrap_i64 aav)) ?_
      refine au ?_
      refine cl1 (Fl.int .u8) 0 hO nf.u fun s hO => ?_
      refine sdr [0] hO fun s hO => ?_
      exact hX2 _ H _ _ agr ⟨_, _, _, _, _, _, ⟨agr, hO, fr⟩⟩
     skip
     refine sbu Fl.str 9 [((ix d_29 (k1_15 : Int)) ++ (byt ([(IntKind.u8.wrap ((97 : Int) + (k2_27 : Int)))])))] hO (fun Y2 am9 s hO => ?_) (hE := fun _ _ => (Els.cons rfl ⟨rfl, (lenApp y3)⟩ (Els.nil _ _ _) (by simp [mx])))
     skip
     refine sfz 1 hO fun s hO P9 aeA => ?_
     refine sap 4 hO P9 H fun ana anb ane s hO => ?_
     replace H := H.2
     skip
     refine sfz 0 hO fun s hO tu BN => ?_
     refine sap 2 hO tu H fun Dp anf ang s hO => ?_
     refine au ?_
     replace H := H.2
     obtain ⟨aaw, H⟩ := H
     refine zo (J03 rfl rfl (wrap_i64 aaw)) ?_
     refine au ?_
     refine cl1 (Fl.int .u8) 0 hO nf.u fun s hO => ?_
     refine sdr [0] hO fun s hO => ?_
     exact hX2 _ H _ _ agr ⟨_, _, _, _, _, _, ⟨agr, hO, fr⟩⟩
    replace H := (And.intro H.2.1 (And.intro H.1 (And.intro H.2.2.1 (And.intro H.2.2.2.1 H.2.2.2.2))))
    refine op1 0 hO fun aeB s hO lj => ?_
    have hle463 := J0u lj.bd
    refine GoT.step rfl ((oldBytes 0 hO rfl lj.u underlying126 underlying5 underlying9 rfl) _ (Same.refl _)) (Same.refl _) rfl rfl ?_
    obtain ⟨tJ, H⟩ := H
    refine GoT.pure rfl (J08 rfl rfl tJ) rfl rfl ?_
    refine GoT.both ?_ ?_
    ·skip
     skip
     refine sbu Fl.i 3 [(ix (ix a0.Next (ix fP (k1_15 : Int))) (k2_27 : Int))] hO fun anh ani s hO => ?_
     refine GoT.both ?_ ?_
     ·skip
      skip
      refine sfz 0 hO fun s hO Qa aeC => ?_
      refine sap 3 hO Qa.u H fun Y3 anj ank s hO => ?_
      replace H := H.2
      skip
      refine sbu Fl.str 9 [((ix d_29 (k1_15 : Int)) ++ (byt ([(IntKind.u8.wrap ((97 : Int) + (k2_27 : Int)))])))] hO (fun anl anm s hO => ?_) (hE := fun _ _ => (Els.cons rfl ⟨rfl, (lenApp tJ)⟩ (Els.nil _ _ _) (by simp [mx])))
      skip
      refine sfz 0 hO fun s hO Qb aeD => ?_
      refine sap 2 hO Qb H fun ann ano anp s hO => ?_
      refine au ?_
      replace H := H.2
      obtain ⟨rC, H⟩ := H
      refine zo (J03 rfl rfl (wrap_i64 rC)) ?_
      refine au ?_
      refine cl1 (Fl.int .u8) 0 hO lj.u fun s hO => ?_
      refine sdr [0] hO fun s hO => ?_
      exact hX2 _ H _ _ agr ⟨_, _, _, _, _, _, ⟨agr, hO, fr⟩⟩
     skip
     refine sbu Fl.str 9 [((ix d_29 (k1_15 : Int)) ++ (byt ([(IntKind.u8.wrap ((97 : Int) + (k2_27 : Int)))])))] hO (fun Wa anq s hO => ?_) (hE := fun _ _ => (Els.cons rfl ⟨rfl, (lenApp tJ)⟩ (Els.nil _ _ _) (by simp [mx])))
     skip
     refine sfz 1 hO fun s hO Qc aeE => ?_
     refine sap 4 hO Qc H fun anr ans ant s hO => ?_
     replace H := H.2
     skip
     refine sfz 0 hO fun s hO Qd aeF => ?_
     refine sap 2 hO Qd H fun anu anv anw s hO => ?_
     refine au ?_
     replace H := H.2
     obtain ⟨E9, H⟩ := H
     refine zo (J03 rfl rfl (wrap_i64 E9)) ?_
     refine au ?_
     refine cl1 (Fl.int .u8) 0 hO lj.u fun s hO => ?_
     refine sdr [0] hO fun s hO => ?_
     exact hX2 _ H _ _ agr ⟨_, _, _, _, _, _, ⟨agr, hO, fr⟩⟩
    skip
    refine sbu Fl.str 9 [((ix d_29 (k1_15 : Int)) ++ (byt ([(IntKind.u8.wrap ((97 : Int) + (k2_27 : Int)))])))] hO (fun anx anz s hO => ?_) (hE := fun _ _ => (Els.cons rfl ⟨rfl, (lenApp tJ)⟩ (Els.nil _ _ _) (by simp [mx])))
    skip
    refine sbu Fl.i 3 [(ix (ix a0.Next (ix fP (k1_15 : Int))) (k2_27 : Int))] hO fun Wc anA s hO => ?_
    skip
    refine sfz 0 hO fun s hO Qe aeG => ?_
    refine sap 4 hO Qe H fun anB anC anD s hO => ?_
    replace H := H.2
    skip
    refine sfz 0 hO fun s hO Qf aeH => ?_
    refine sap 2 hO Qf H fun anE anF anG s hO => ?_
    refine au ?_
    replace H := H.2
    obtain ⟨aax, H⟩ := H
    refine zo (J03 rfl rfl (wrap_i64 aax)) ?_
    refine au ?_
    refine cl1 (Fl.int .u8) 0 hO lj.u fun s hO => ?_
    refine sdr [0] hO fun s hO => ?_
    exact hX2 _ H _ _ agr ⟨_, _, _, _, _, _, ⟨agr, hO, fr⟩⟩
   skip
   refine sbu (Fl.int .u8) 5 [(IntKind.u8.wrap ((97 : Int) + (k2_27 : Int)))] hO fun anH anI s hO => ?_
   refine GoT.both ?_ ?_
   ·skip
    skip
    refine sbu Fl.i 3 [(ix (ix a0.Next (ix fP (k1_15 : Int))) (k2_27 : Int))] hO fun UB anJ s hO => ?_
    refine GoT.both ?_ ?_
    ·skip
     skip
     refine sfz 0 hO fun s hO Qg aeI => ?_
     refine sap 3 hO Qg H fun anK anL anM s hO => ?_
     replace H := H.2
     refine GoT.both ?_ ?_
     ·skip
      skip
      refine sld1 2 hO h57 h58 ?_
      have hle524 := t1le 2 hO h57 h58
      skip
      refine op1 0 hO fun aeJ s hO tK => ?_
      have hle527 := J0u tK.bd
      refine GoT.step rfl ((oldBytes 0 hO rfl tK.u underlying126 underlying5 underlying9 rfl) _ (Same.refl _)) (Same.refl _) rfl rfl ?_
      obtain ⟨iX, H⟩ := H
      refine GoT.pure rfl (J08 rfl rfl iX) rfl rfl ?_
      skip
      refine sbu Fl.str 9 [((ix d_29 (k1_15 : Int)) ++ (byt ([(IntKind.u8.wrap ((97 : Int) + (k2_27 : Int)))])))] hO (fun UE UG s hO => ?_) (hE := fun _ _ => (Els.cons rfl ⟨rfl, (lenApp iX)⟩ (Els.nil _ _ _) (by simp [mx])))
      skip
      refine sfz 0 hO fun s hO qL Ay => ?_
      refine sap 2 hO qL H fun anN anO anP s hO => ?_
      refine au ?_
      replace H := H.2
      obtain ⟨Ff, H⟩ := H
      refine zo (J03 rfl rfl (wrap_i64 Ff)) ?_
      refine au ?_
      refine cl1 (Fl.int .u8) 0 hO tK.u fun s hO => ?_
      refine sdr [0] hO fun s hO => ?_
      exact hX2 _ H _ _ agr ⟨_, _, _, _, _, _, ⟨agr, hO, fr⟩⟩
     skip
     refine op1 0 hO fun K5 s hO tL => ?_
     have hle540 := J0u tL.bd
     refine GoT.step rfl ((oldBytes 0 hO rfl tL.u underlying126 underlying5 underlying9 rfl) _ (Same.refl _)) (Same.refl _) rfl rfl ?_
     skip
     refine sld1 2 hO h57 h58 ?_
     have hle541 := t1le 2 hO h57 h58
     obtain ⟨lY, H⟩ := H
     refine GoT.pure rfl (J08 rfl rfl lY) rfl rfl ?_
     skip
     refine sbu Fl.str 9 [((ix d_29 (k1_15 : Int)) ++ (byt ([(IntKind.u8.wrap ((97 : Int) + (k2_27 : Int)))])))] hO (fun UI anQ s hO => ?_) (hE := fun _ _ => (Els.cons rfl ⟨rfl, (lenApp lY)⟩ (Els.nil _ _ _) (by simp [mx])))
     skip
     refine sfz 0 hO fun s hO Qh aeK => ?_
     refine sap 2 hO Qh.u H fun We anR anS s hO => ?_
     refine au ?_
     replace H := H.2
     obtain ⟨aay, H⟩ := H
     refine zo (J03 rfl rfl (wrap_i64 aay)) ?_
     refine au ?_
     refine cl1 (Fl.int .u8) 0 hO tL.u fun s hO => ?_
     refine sdr [0] hO fun s hO => ?_
     exact hX2 _ H _ _ agr ⟨_, _, _, _, _, _, ⟨agr, hO, fr⟩⟩
    refine GoT.both ?_ ?_
    ·skip
     skip
     refine sld1 3 hO h57 h58 ?_
     have hle552 := t1le 3 hO h57 h58
     refine GoT.both ?_ ?_
     ·skip
      skip
      refine sfz 0 hO fun s hO Qi aeL => ?_
      refine sap 3 hO Qi H fun anT anU anV s hO => ?_
      replace H := H.2
      skip
      refine op1 0 hO fun M4 s hO kN => ?_
      have hle560 := J0u kN.bd
      refine GoT.step rfl ((oldBytes 0 hO rfl kN.u underlying126 underlying5 underlying9 rfl) _ (Same.refl _)) (Same.refl _) rfl rfl ?_
      obtain ⟨Ii, H⟩ := H
      refine GoT.pure rfl (J08 rfl rfl Ii) rfl rfl ?_
      skip
      refine sbu Fl.str 9 [((ix d_29 (k1_15 : Int)) ++ (byt ([(IntKind.u8.wrap ((97 : Int) + (k2_27 : Int)))])))] hO (fun anW anX s hO => ?_) (hE := fun _ _ => (Els.cons rfl ⟨rfl, (lenApp Ii)⟩ (Els.nil _ _ _) (by simp [mx])))
      skip
      refine sfz 0 hO fun s hO Qj aeM => ?_
      refine sap 2 hO Qj H fun Wh anY an0 s hO => ?_
      refine au ?_
      replace H := H.2
      obtain ⟨aaz, H⟩ := H
      refine zo (J03 rfl rfl (wrap_i64 aaz)) ?_
      refine au ?_
      refine cl1 (Fl.int .u8) 0 hO kN.u fun s hO => ?_
      refine sdr [0] hO fun s hO => ?_
      exact hX2 _ H _ _ agr ⟨_, _, _, _, _, _, ⟨agr, hO, fr⟩⟩
     replace H := (And.intro H.2.1 (And.intro H.1 (And.intro H.2.2.1 (And.intro H.2.2.2.1 H.2.2.2.2))))
     refine op1 1 hO fun aeN s hO ng => ?_
     have hle573 := J0u ng.bd
     refine GoT.step rfl ((oldBytes 1 hO rfl ng.u underlying126 underlying5 underlying9 rfl) _ (Same.refl _)) (Same.refl _) rfl rfl ?_
     obtain ⟨y4, H⟩ := H
     refine GoT.pure rfl (J08 rfl rfl y4) rfl rfl ?_
     refine GoT.both ?_ ?_
     ·skip
      skip
      refine sfz 0 hO fun s hO Qk aeO => ?_
      refine sap 3 hO Qk.u H fun an1 an2 an3 s hO => ?_
      replace H := H.2
      skip
      refine sbu Fl.str 9 [((ix d_29 (k1_15 : Int)) ++ (byt ([(IntKind.u8.wrap ((97 : Int) + (k2_27 : Int)))])))] hO (fun UL UM s hO => ?_) (hE := fun _ _ => (Els.cons rfl ⟨rfl, (lenApp y4)⟩ (Els.nil _ _ _) (by simp [mx])))
      skip
      refine sfz 0 hO fun s hO Ql aeP => ?_
      refine sap 2 hO Ql H fun an4 an5 an6 s hO => ?_
      refine au ?_
      replace H := H.2
      obtain ⟨Fp, H⟩ := H
      refine zo (J03 rfl rfl (wrap_i64 Fp)) ?_
      refine au ?_
      refine cl1 (Fl.int .u8) 0 hO ng.u fun s hO => ?_
      refine sdr [0] hO fun s hO => ?_
      exact hX2 _ H _ _ agr ⟨_, _, _, _, _, _, ⟨agr, hO, fr⟩⟩
     skip
     refine sbu Fl.str 9 [((ix d_29 (k1_15 : Int)) ++ (byt ([(IntKind.u8.wrap ((97 : Int) + (k2_27 : Int)))])))] hO (fun an7 an8 s hO => ?_) (hE := fun _ _ => (Els.cons rfl ⟨rfl, (lenApp y4)⟩ (Els.nil _ _ _) (by simp [mx])))
     skip
     refine sfz 1 hO fun s hO Qm aeQ => ?_
     refine sap 4 hO Qm H fun Wi an9 aoa s hO => ?_
     replace H := H.2
     skip
     refine sfz 0 hO fun s hO Qn aeR => ?_
     refine sap 2 hO Qn H fun aob aoc aod s hO => ?_
     refine au ?_
     replace H := H.2
     obtain ⟨aaA, H⟩ := H
     refine zo (J03 rfl rfl (wrap_i64 aaA)) ?_
     refine au ?_
     refine cl1 (Fl.int .u8) 0 hO ng.u fun s hO => ?_
     refine sdr [0] hO fun s hO => ?_
     exact hX2 _ H _ _ agr ⟨_, _, _, _, _, _, ⟨agr, hO, fr⟩⟩
    skip
    refine op1 1 hO fun aeS s hO lk => ?_
    have hle605 := J0u lk.bd
    refine GoT.step rfl ((oldBytes 1 hO rfl lk.u underlying126 underlying5 underlying9 rfl) _ (Same.refl _)) (Same.refl _) rfl rfl ?_
    refine GoT.both ?_ ?_
    ·skip
     skip
     refine sfz 0 hO fun s hO Qo aeT => ?_
     refine sap 3 hO Qo H fun DP UP aoe s hO => ?_
     replace H := H.2
     skip
     refine sld1 2 hO h57 h58 ?_
     have hle611 := t1le 2 hO h57 h58
     obtain ⟨oH, H⟩ := H
     refine GoT.pure rfl (J08 rfl rfl oH) rfl rfl ?_
     skip
     refine sbu Fl.str 9 [((ix d_29 (k1_15 : Int)) ++ (byt ([(IntKind.u8.wrap ((97 : Int) + (k2_27 : Int)))])))] hO (fun UQ UR s hO => ?_) (hE := fun _ _ => (Els.cons rfl ⟨rfl, (lenApp oH)⟩ (Els.nil _ _ _) (by simp [mx])))
     skip
     refine sfz 0 hO fun s hO qM AC => ?_
     refine sap 2 hO qM.u H fun US UT aof s hO => ?_
     refine au ?_
     replace H := H.2
     obtain ⟨aaB, H⟩ := H
     refine zo (J03 rfl rfl (wrap_i64 aaB)) ?_
     refine au ?_
     refine cl1 (Fl.int .u8) 0 hO lk.u fun s hO => ?_
     refine sdr [0] hO fun s hO => ?_
     exact hX2 _ H _ _ agr ⟨_, _, _, _, _, _, ⟨agr, hO, fr⟩⟩
    replace H := (And.intro H.2.1 (And.intro H.1 (And.intro H.2.2.1 (And.intro H.2.2.2.1 H.2.2.2.2))))
    refine sld1 3 hO h57 h58 ?_
    have hle622 := t1le 3 hO h57 h58
    obtain ⟨y5, H⟩ := H
    refine GoT.pure rfl (J08 rfl rfl y5) rfl rfl ?_
    refine GoT.both ?_ ?_
    ·skip
     skip
     refine sfz 0 hO fun s hO Qp aeU => ?_
     refine sap 3 hO Qp.u H fun aog aoh aoi s hO => ?_
     replace H := H.2
     skip
     refine sbu Fl.str 9 [((ix d_29 (k1_15 : Int)) ++ (byt ([(IntKind.u8.wrap ((97 : Int) + (k2_27 : Int)))])))] hO (fun aoj aok s hO => ?_) (hE := fun _ _ => (Els.cons rfl ⟨rfl, (lenApp y5)⟩ (Els.nil _ _ _) (by simp [mx])))
     skip
     refine sfz 0 hO fun s hO Qq aeV => ?_
     refine sap 2 hO Qq H fun aol aom aon s hO => ?_
     refine au ?_
     replace H := H.2
     obtain ⟨aaC, H⟩ := H
     refine zo (J03 rfl rfl (wrap_i64 aaC)) ?_
     refine au ?_
     refine cl1 (Fl.int .u8) 0 hO lk.u fun s hO => ?_
     refine sdr [0] hO fun s hO => ?_
     exact hX2 _ H _ _ agr ⟨_, _, _, _, _, _, ⟨agr, hO, fr⟩⟩
    skip
    refine sbu Fl.str 9 [((ix d_29 (k1_15 : Int)) ++ (byt ([(IntKind.u8.wrap ((97 : Int) + (k2_27 : Int)))])))] hO (fun Wn aoo s hO => ?_) (hE := fun _ _ => (Els.cons rfl ⟨rfl, (lenApp y5)⟩ (Els.nil _ _ _) (by simp [mx])))
    skip
    refine sfz 1 hO fun s hO Qr aeW => ?_
    refine sap 4 hO Qr H fun aop aoq aor s hO => ?_
    replace H := H.2
    skip
    refine sfz 0 hO fun s hO Qs aeX => ?_
    refine sap 2 hO Qs H fun aos aot aou s hO => ?_
    refine au ?_
    replace H := H.2
    obtain ⟨aaD, H⟩ := H
    refine zo (J03 rfl rfl (wrap_i64 aaD)) ?_
    refine au ?_
    refine cl1 (Fl.int .u8) 0 hO lk.u fun s hO => ?_
    refine sdr [0] hO fun s hO => ?_
    exact hX2 _ H _ _ agr ⟨_, _, _, _, _, _, ⟨agr, hO, fr⟩⟩
   refine GoT.both ?_ ?_
   ·skip
    skip
    refine sld1 2 hO h57 h58 ?_
    have hle652 := t1le 2 hO h57 h58
    refine GoT.both ?_ ?_
    ·skip
     skip
     refine sbu Fl.i 3 [(ix (ix a0.Next (ix fP (k1_15 : Int))) (k2_27 : Int))] hO fun aov aow s hO => ?_
     refine GoT.both ?_ ?_
     ·skip
      skip
      refine sfz 0 hO fun s hO Qt aeY => ?_
      refine sap 3 hO Qt H fun Wo aox aoy s hO => ?_
      replace H := H.2
      skip
      refine op1 0 hO fun ae0 s hO tM => ?_
      have hle663 := J0u tM.bd
      refine GoT.step rfl ((oldBytes 0 hO rfl tM.u underlying126 underlying5 underlying9 rfl) _ (Same.refl _)) (Same.refl _) rfl rfl ?_
      obtain ⟨Ij, H⟩ := H
      refine GoT.pure rfl (J08 rfl rfl Ij) rfl rfl ?_
      skip
      refine sbu Fl.str 9 [((ix d_29 (k1_15 : Int)) ++ (byt ([(IntKind.u8.wrap ((97 : Int) + (k2_27 : Int)))])))] hO (fun UX UY s hO => ?_) (hE := fun _ _ => (Els.cons rfl ⟨rfl, (lenApp Ij)⟩ (Els.nil _ _ _) (by simp [mx])))
      skip
      refine sfz 0 hO fun s hO Qu ae1 => ?_
      refine sap 2 hO Qu H fun Wp aoz aoA s hO => ?_
      refine au ?_
      replace H := H.2
      obtain ⟨aaE, H⟩ := H
      refine zo (J03 rfl rfl (wrap_i64 aaE)) ?_
      refine au ?_
      refine cl1 (Fl.int .u8) 0 hO tM.u fun s hO => ?_
      refine sdr [0] hO fun s hO => ?_
      exact hX2 _ H _ _ agr ⟨_, _, _, _, _, _, ⟨agr, hO, fr⟩⟩
     replace H := (And.intro H.2.1 (And.intro H.1 (And.intro H.2.2.1 (And.intro H.2.2.2.1 H.2.2.2.2))))
     refine op1 1 hO fun ae2 s hO nh => ?_
     have hle676 := J0u nh.bd
     refine GoT.step rfl ((oldBytes 1 hO rfl nh.u underlying126 underlying5 underlying9 rfl) _ (Same.refl _)) (Same.refl _) rfl rfl ?_
     obtain ⟨y6, H⟩ := H
     refine GoT.pure rfl (J08 rfl rfl y6) rfl rfl ?_
     refine GoT.both ?_ ?_
     ·skip
      skip
      refine sfz 0 hO fun s hO rH A5 => ?_
      refine sap 3 hO rH.u H fun aoB aoC aoD s hO => ?_
      replace H := H.2
      skip
      refine sbu Fl.str 9 [((ix d_29 (k1_15 : Int)) ++ (byt ([(IntKind.u8.wrap ((97 : Int) + (k2_27 : Int)))])))] hO (fun aoE aoF s hO => ?_) (hE := fun _ _ => (Els.cons rfl ⟨rfl, (lenApp y6)⟩ (Els.nil _ _ _) (by simp [mx])))
      skip
      refine sfz 0 hO fun s hO A6 ae3 => ?_
      refine sap 2 hO A6 H fun D7 U4 U5 s hO => ?_
      refine au ?_
      replace H := H.2
      obtain ⟨aaF, H⟩ := H
      refine zo (J03 rfl rfl (wrap_i64 aaF)) ?_
      refine au ?_
      refine cl1 (Fl.int .u8) 0 hO nh.u fun s hO => ?_
      refine sdr [0] hO fun s hO => ?_
      exact hX2 _ H _ _ agr ⟨_, _, _, _, _, _, ⟨agr, hO, fr⟩⟩
     skip
     refine sbu Fl.str 9 [((ix d_29 (k1_15 : Int)) ++ (byt ([(IntKind.u8.wrap ((97 : Int) + (k2_27 : Int)))])))] hO (fun Ws aoG s hO => ?_) (hE := fun _ _ => (Els.cons rfl ⟨rfl, (lenApp y6)⟩ (Els.nil _ _ _) (by simp [mx])))
     skip
     refine sfz 1 hO fun s hO Qv ae4 => ?_
     refine sap 4 hO Qv H fun U6 aoH aoI s hO => ?_
     replace H := H.2
     skip
     refine sfz 0 hO fun s hO Qw ae5 => ?_
     refine sap 2 hO Qw H fun aoJ aoK aoL s hO => ?_
     refine au ?_
     replace H := H.2
     obtain ⟨aaG, H⟩ := H
     refine zo (J03 rfl rfl (wrap_i64 aaG)) ?_
     refine au ?_
     refine cl1 (Fl.int .u8) 0 hO nh.u fun s hO => ?_
     refine sdr [0] hO fun s hO => ?_
     exact hX2 _ H _ _ agr ⟨_, _, _, _, _, _, ⟨agr, hO, fr⟩⟩
    replace H := (And.intro H.2.1 (And.intro H.1 (And.intro H.2.2.1 (And.intro H.2.2.2.1 H.2.2.2.2))))
    refine op1 0 hO fun ae6 s hO lm => ?_
    have hle708 := J0u lm.bd
    refine GoT.step rfl ((oldBytes 0 hO rfl lm.u underlying126 underlying5 underlying9 rfl) _ (Same.refl _)) (Same.refl _) rfl rfl ?_
    obtain ⟨tN, H⟩ := H
    refine GoT.pure rfl (J08 rfl rfl tN) rfl rfl ?_
    refine GoT.both ?_ ?_
    ·skip
     skip
     refine sbu Fl.i 3 [(ix (ix a0.Next (ix fP (k1_15 : Int))) (k2_27 : Int))] hO fun aoM aoN s hO => ?_
     refine GoT.both ?_ ?_
     ·skip
      skip
      refine sfz 0 hO fun s hO Qx ae7 => ?_
      refine sap 3 hO Qx.u H fun U8 U9 Ve s hO => ?_
      replace H := H.2
      skip
      refine sbu Fl.str 9 [((ix d_29 (k1_15 : Int)) ++ (byt ([(IntKind.u8.wrap ((97 : Int) + (k2_27 : Int)))])))] hO (fun aoO aoP s hO => ?_) (hE := fun _ _ => (Els.cons rfl ⟨rfl, (lenApp tN)⟩ (Els.nil _ _ _) (by simp [mx])))
      skip
      refine sfz 0 hO fun s hO Qy ae8 => ?_
      refine sap 2 hO Qy H fun Vf aoQ aoR s hO => ?_
      refine au ?_
      replace H := H.2
      obtain ⟨aaH, H⟩ := H
      refine zo (J03 rfl rfl (wrap_i64 aaH)) ?_
      refine au ?_
      refine cl1 (Fl.int .u8) 0 hO lm.u fun s hO => ?_
      refine sdr [0] hO fun s hO => ?_
      exact hX2 _ H _ _ agr ⟨_, _, _, _, _, _, ⟨agr, hO, fr⟩⟩
     skip
     refine sbu Fl.str 9 [((ix d_29 (k1_15 : Int)) ++ (byt ([(IntKind.u8.wrap ((97 : Int) + (k2_27 : Int)))])))] hO (fun Vg Vh s hO => ?_) (hE := fun _ _ => (Els.cons rfl ⟨rfl, (lenApp tN)⟩ (Els.nil _ _ _) (by simp [mx])))
     skip
     refine sfz 1 hO fun s hO Qz ae9 => ?_
     refine sap 4 hO Qz H fun aoS aoT aoU s hO => ?_
     replace H := H.2
     skip
     refine sfz 0 hO fun s hO QA afa => ?_
     refine sap 2 hO QA H fun aoV aoW aoX s hO => ?_
     refine au ?_
     replace H := H.2
     obtain ⟨aaI, H⟩ := H
     refine zo (J03 rfl rfl (wrap_i64 aaI)) ?_
     refine au ?_
     refine cl1 (Fl.int .u8) 0 hO lm.u fun s hO => ?_
     refine sdr [0] hO fun s hO => ?_
     exact hX2 _ H _ _ agr ⟨_, _, _, _, _, _, ⟨agr, hO, fr⟩⟩
    skip
    refine sbu Fl.str 9 [((ix d_29 (k1_15 : Int)) ++ (byt ([(IntKind.u8.wrap ((97 : Int) + (k2_27 : Int)))])))] hO (fun aoY ao0 s hO => ?_) (hE := fun _ _ => (Els.cons rfl ⟨rfl, (lenApp tN)⟩ (Els.nil _ _ _) (by simp [mx])))
    skip
    refine sbu Fl.i 3 [(ix (ix a0.Next (ix fP (k1_15 : Int))) (k2_27 : Int))] hO fun ao1 ao2 s hO => ?_
    skip
    refine sfz 0 hO fun s hO QB afb => ?_
    refine sap 4 hO QB H fun ao3 ao4 ao5 s hO => ?_
    replace H := H.2
    skip
    refine sfz 0 hO fun s hO QC afc => ?_
    refine sap 2 hO QC H fun Vj ao6 ao7 s hO => ?_
    refine au ?_
    replace H := H.2
    obtain ⟨aaJ, H⟩ := H
    refine zo (J03 rfl rfl (wrap_i64 aaJ)) ?_
    refine au ?_
    refine cl1 (Fl.int .u8) 0 hO lm.u fun s hO => ?_
    refine sdr [0] hO fun s hO => ?_
    exact hX2 _ H _ _ agr ⟨_, _, _, _, _, _, ⟨agr, hO, fr⟩⟩
   skip
   refine op1 0 hO fun afd s hO g6 => ?_
   have hle760 := J0u g6.bd
   refine GoT.step rfl ((oldBytes 0 hO rfl g6.u underlying126 underlying5 underlying9 rfl) _ (Same.refl _)) (Same.refl _) rfl rfl ?_
   refine GoT.both ?_ ?_
   ·skip
    skip
    refine sbu Fl.i 3 [(ix (ix a0.Next (ix fP (k1_15 : Int))) (k2_27 : Int))] hO fun ao8 ao9 s hO => ?_
    refine GoT.both ?_ ?_
    ·skip
     skip
     refine sfz 0 hO fun s hO QD afe => ?_
     refine sap 3 hO QD H fun apa apb apc s hO => ?_
     replace H := H.2
     skip
     refine sld1 2 hO h57 h58 ?_
     have hle769 := t1le 2 hO h57 h58
     obtain ⟨Ik, H⟩ := H
     refine GoT.pure rfl (J08 rfl rfl Ik) rfl rfl ?_
     skip
     refine sbu Fl.str 9 [((ix d_29 (k1_15 : Int)) ++ (byt ([(IntKind.u8.wrap ((97 : Int) + (k2_27 : Int)))])))] hO (fun apd ape s hO => ?_) (hE := fun _ _ => (Els.cons rfl ⟨rfl, (lenApp Ik)⟩ (Els.nil _ _ _) (by simp [mx])))
     skip
     refine sfz 0 hO fun s hO QE aff => ?_
     refine sap 2 hO QE.u H fun apf apg aph s hO => ?_
     refine au ?_
     replace H := H.2
     obtain ⟨aaK, H⟩ := H
     refine zo (J03 rfl rfl (wrap_i64 aaK)) ?_
     refine au ?_
     refine cl1 (Fl.int .u8) 0 hO g6.u fun s hO => ?_
     refine sdr [0] hO fun s hO => ?_
     exact hX2 _ H _ _ agr ⟨_, _, _, _, _, _, ⟨agr, hO, fr⟩⟩
    replace H := (And.intro H.2.1 (And.intro H.1 (And.intro H.2.2.1 (And.intro H.2.2.2.1 H.2.2.2.2))))
    refine sld1 3 hO h57 h58 ?_
    have hle780 := t1le 3 hO h57 h58
    obtain ⟨y7, H⟩ := H
    refine GoT.pure rfl (J08 rfl rfl y7) rfl rfl ?_
    refine GoT.both ?_ ?_
    ·skip
     skip
     refine sfz 0 hO fun s hO QF afg => ?_
     refine sap 3 hO QF.u H fun api apj apk s hO => ?_
     replace H := H.2
     skip
     refine sbu Fl.str 9 [((ix d_29 (k1_15 : Int)) ++ (byt ([(IntKind.u8.wrap ((97 : Int) + (k2_27 : Int)))])))] hO (fun apl apm s hO => ?_) (hE := fun _ _ => (Els.cons rfl ⟨rfl, (lenApp y7)⟩ (Els.nil _ _ _) (by simp [mx])))
     skip
     refine sfz 0 hO fun s hO QG afh => ?_
     refine sap 2 hO QG H fun apn apo apq s hO => ?_
     refine au ?_
     replace H := H.2
     obtain ⟨aaL, H⟩ := H
     refine zo (J03 rfl rfl (wrap_i64 aaL)) ?_
     refine au ?_
     refine cl1 (Fl.int .u8) 0 hO g6.u fun s hO => ?_
     refine sdr [0] hO fun s hO => ?_
     exact hX2 _ H _ _ agr ⟨_, _, _, _, _, _, ⟨agr, hO, fr⟩⟩
    skip
    refine sbu Fl.str 9 [((ix d_29 (k1_15 : Int)) ++ (byt ([(IntKind.u8.wrap ((97 : Int) + (k2_27 : Int)))])))] hO (fun apr aps s hO => ?_) (hE := fun _ _ => (Els.cons rfl ⟨rfl, (lenApp y7)⟩ (Els.nil _ _ _) (by simp [mx])))
    skip
    refine sfz 1 hO fun s hO QH afi => ?_
    refine sap 4 hO QH H fun apu apv apw s hO => ?_
    replace H := H.2
    skip
    refine sfz 0 hO fun s hO QI afj => ?_
    refine sap 2 hO QI H fun apx apy apz s hO => ?_
    refine au ?_
    replace H := H.2
    obtain ⟨aaM, H⟩ := H
    refine zo (J03 rfl rfl (wrap_i64 aaM)) ?_
    refine au ?_
    refine cl1 (Fl.int .u8) 0 hO g6.u fun s hO => ?_
    refine sdr [0] hO fun s hO => ?_
    exact hX2 _ H _ _ agr ⟨_, _, _, _, _, _, ⟨agr, hO, fr⟩⟩
   replace H := (And.intro H.2.1 (And.intro H.1 (And.intro H.2.2.1 (And.intro H.2.2.2.1 H.2.2.2.2))))
   refine sld1 2 hO h57 h58 ?_
   have hle810 := t1le 2 hO h57 h58
   obtain ⟨tO, H⟩ := H
   refine GoT.pure rfl (J08 rfl rfl tO) rfl rfl ?_
   refine GoT.both ?_ ?_
   ·skip
    skip
    refine sbu Fl.i 3 [(ix (ix a0.Next (ix fP (k1_15 : Int))) (k2_27 : Int))] hO fun apA apC s hO => ?_
    refine GoT.both ?_ ?_
    ·skip
     skip
     refine sfz 0 hO fun s hO QJ afk => ?_
     refine sap 3 hO QJ.u H fun apD apE apF s hO => ?_
     replace H := H.2
     skip
     refine sbu Fl.str 9 [((ix d_29 (k1_15 : Int)) ++ (byt ([(IntKind.u8.wrap ((97 : Int) + (k2_27 : Int)))])))] hO (fun apG apH s hO => ?_) (hE := fun _ _ => (Els.cons rfl ⟨rfl, (lenApp tO)⟩ (Els.nil _ _ _) (by simp [mx])))
     skip
     refine sfz 0 hO fun s hO QK afl => ?_
     refine sap 2 hO QK H fun apI apJ apK s hO => ?_
     refine au ?_
     replace H := H.2
     obtain ⟨aaN, H⟩ := H
     refine zo (J03 rfl rfl (wrap_i64 aaN)) ?_
     refine au ?_
     refine cl1 (Fl.int .u8) 0 hO g6.u fun s hO => ?_
     refine sdr [0] hO fun s hO => ?_
     exact hX2 _ H _ _ agr ⟨_, _, _, _, _, _, ⟨agr, hO, fr⟩⟩
    skip
    refine sbu Fl.str 9 [((ix d_29 (k1_15 : Int)) ++ (byt ([(IntKind.u8.wrap ((97 : Int) + (k2_27 : Int)))])))] hO (fun apL apM s hO => ?_) (hE := fun _ _ => (Els.cons rfl ⟨rfl, (lenApp tO)⟩ (Els.nil _ _ _) (by simp [mx])))
    skip
    refine sfz 1 hO fun s hO QL afm => ?_
    refine sap 4 hO QL H fun apN apO apP s hO => ?_
    replace H := H.2
    skip
    refine sfz 0 hO fun s hO QM afn => ?_
    refine sap 2 hO QM H fun apQ apR apT s hO => ?_
    refine au ?_
    replace H := H.2
    obtain ⟨aaO, H⟩ := H
    refine zo (J03 rfl rfl (wrap_i64 aaO)) ?_
    refine au ?_
    refine cl1 (Fl.int .u8) 0 hO g6.u fun s hO => ?_
    refine sdr [0] hO fun s hO => ?_
    exact hX2 _ H _ _ agr ⟨_, _, _, _, _, _, ⟨agr, hO, fr⟩⟩
   skip
   refine sbu Fl.str 9 [((ix d_29 (k1_15 : Int)) ++ (byt ([(IntKind.u8.wrap ((97 : Int) + (k2_27 : Int)))])))] hO (fun apU apV s hO => ?_) (hE := fun _ _ => (Els.cons rfl ⟨rfl, (lenApp tO)⟩ (Els.nil _ _ _) (by simp [mx])))
   skip
   refine sbu Fl.i 3 [(ix (ix a0.Next (ix fP (k1_15 : Int))) (k2_27 : Int))] hO fun apW apX s hO => ?_
   skip
   refine sfz 0 hO fun s hO QO afo => ?_
   refine sap 4 hO QO H fun apY ap0 ap1 s hO => ?_
   replace H := H.2
   skip
   refine sfz 0 hO fun s hO QP afp => ?_
   refine sap 2 hO QP H fun ap2 ap3 ap4 s hO => ?_
   refine au ?_
   replace H := H.2
   obtain ⟨aaP, H⟩ := H
   refine zo (J03 rfl rfl (wrap_i64 aaP)) ?_
   refine au ?_
   refine cl1 (Fl.int .u8) 0 hO g6.u fun s hO => ?_
   refine sdr [0] hO fun s hO => ?_
   exact hX2 _ H _ _ agr ⟨_, _, _, _, _, _, ⟨agr, hO, fr⟩⟩
  refine au ?_
  obtain ⟨aaQ, H⟩ := H
  refine zo (J03 rfl rfl (wrap_i64 aaQ)) ?_
  refine au ?_
  exact hX1 _ H _ _ agr ⟨_, _, _, _, _, _, ⟨agr, hO, fr⟩⟩
 refine au ?_
 refine sfz 2 hO fun s hO QQ QR => ?_
 refine sfz 1 hO fun s hO QS QT => ?_
 refine Go1.ret2 func113 rfl ⟨_, _, _, _, _, _, ?_, frs, QQ.r, QS.r, H⟩
 exact (congrArg (fun l => Value.tuple (List.toArray l)) (J01 (congrArg (fun nn => Value.slice p22 nn c23) QR) (J01 (congrArg (fun nn => Value.slice p18 nn c19) QT) rfl)))
theorem body68 : Body prog 68 := ⟨f68, func68, rfl, by kernel_rfl⟩
theorem J5D {b7 cx : Option Addr} {ci cy : Nat} {a0 : DFA} (hA : HA0 A w0) (ak : ISb A w0 b7 ci a0.Final) (ck : ISs A w0 cx cy a0.Next) {K : DFA → List Int → Prop} (H : J32 a0 K) :
    CallsV prog 68 #[.agg (cDF a0 b7 ci cx cy)] w0 (fun v w' => ∃ (r0 : DFA), ∃ (r1 : List Int), ∃ (aX : Option Addr), ∃ (aY : Nat), ∃ (bK : Option Addr), ∃ (bM : Nat), ∃ (dT : Option Addr), ∃ (dU : Nat), v = .tuple #[.agg (cDF r0 aX aY bK bM), .slice dT r1.length dU] ∧ Same w0 w' ∧ ISb A w' aX aY r0.Final ∧ ISs A w' bK bM r0.Next ∧ ISi A w' dT dU r1 ∧ K r0 r1) := by
 refine cal hA func68 ntmps68 fun hO hB => ?_
 unfold J32 at H
 refine sbx hO fun w1 B2 s hO => ?_
 refine sal hO fun w4 B5 s hO => ?_
 refine sag 1 hO ?_
 refine zcr (J02 body113 rfl (J4Y hO.lt ak.u ck.u H)) fun _ w9 => e4 fun r7 r8 iY i4 => e2 fun su sv => sc0 hO fun s hO => d2 fun cb d8 H => ?_
 refine sln0 ?_
 refine smk Fl.i (H ak.bd) hO fun w10 p11 s hO => ?_
 refine sln1 0 hO ?_
 refine au ?_
 refine lv [1, 2, 4, 6, 26] hO (H ak.bd).2.2 (fun E (k1_14, km) σ w => (fun Z => Lo A w0 σ w [(27, .int .i64 (k1_14 : Int))] Z ∧ ISi (bl Z ++ A) w iY i4 r7) (E.set 0 (t1 Fl.i 3 p11 a0.Final.length a0.Final.length km))) ⟨⟨agr, hO, fr⟩, cb.u⟩ ?_
 refine fun X1 => p1 fun k1_14 km => fun H hX1 σ w13 hk => d1 fun hL => fun cb => lh hk (fun hO hB => ?_) hL
 dsimp only [esets, sS, sZ] at hO hB cb
 dsimp only at H
 revert hO; repeat (rename Owns .. => q; clear q)
 intro hO; repeat (rename Sq .. => q; clear q)
 refine scm H (fun h16 H => ?_) fun h16 H => ?_
 ·refine six1 0 hO H.1 H.2.1 ?_
  refine sst (u := (-1 : Int)) 0 hO H.1 H.2.1 fun w17 s hO => ?_
  refine au ?_
  have h18 := H.1
  have h19 := H.2.1
  replace H := H.2.2
  obtain ⟨h20, H⟩ := H
  refine zo (J03 rfl rfl (wrap_i64 h20)) ?_
  refine au ?_
  exact hX1 _ H _ _ agr ⟨⟨agr, hO, fr⟩, cb.u⟩
 refine sln0 ?_
 refine au ?_
 refine lv [1, 2, 4, 6, 34, 35] hO (H cb.bd) (fun E (tP, jd) σ w => (fun Z => Lo A w0 σ w [(36, .int .i64 (tP : Int))] Z ∧ ISi (bl Z ++ A) w iY i4 r7) (E.set 0 (t1 Fl.i 3 p11 a0.Final.length a0.Final.length jd))) ⟨⟨agr, hO, fr⟩, cb.u⟩ ?_
 refine fun X2 => p1 fun tP jd => fun H hX2 σ w21 hk => d1 fun hL => fun cb => lh hk (fun hO hB => ?_) hL
 dsimp only [esets, sS, sZ] at hO hB cb
 dsimp only at H
 revert hO; repeat (rename Owns .. => q; clear q)
 intro hO; repeat (rename Sq .. => q; clear q)
 refine scm H (fun h24 H => ?_) fun h24 H => ?_
 ·refine sxl hO cb H.1 H.2.1 ?_
  refine six1 0 hO H.2.2.1 H.2.2.2.1 ?_
  refine sst (u := (tP : Int)) 0 hO H.2.2.1 H.2.2.2.1 fun w25 s hO => ?_
  refine sinc (natbd h24 cb.bd) ?_
  refine au ?_
  exact hX2 _ H.2.2.2.2 _ _ agr ⟨⟨agr, hO, fr⟩, cb.u⟩
 refine au ?_
 refine zo (J05 underlying25 ti25 (pl := [(0, 1), (1, 1), (2, 1), (3, 1)]) (vs := [(0, .int .i64 a0.Letters)]) (cs := #[.int .i64 a0.Letters, .int .i64 (0 : Int), .slice none 0 0, .slice none 0 0]) (by kernel_rfl) rfl (by kernel_rfl)) ?_
 refine sal hO fun w26 B27 s hO => ?_
 refine sba 0 hO fun w29 s hO => ?_
 refine sln0 ?_
 refine au ?_
 refine snil Fl.bool 4 hO fun s hO => ?_
 have QU := Stp.nil (e := 31) (r := 1) hO
 refine nst QU fun s hO => ?_
 have aaR := elN (Rp.sl (Rp.int .i64)) hO
 refine lv [1, 2, 6, 10, 49, 50] hO H (fun E (f6, fO, d_42) σ w => ∃ n41 p39 c40 tQ n45 p43 c44, (fun Z => Lo A w0 σ w [(51, .int .i64 (f6 : Int))] Z ∧ Els (Rp.sl (Rp.int .i64)) (bl Z ++ A) w tQ fO ∧ ISi (bl Z ++ A) w iY i4 r7) (esets E [(0, .row 31 1 p39 n41 c40 tQ), (1, t1 Fl.bool 4 p43 n45 c44 d_42), (2, .blk B27 (.cells #[.int .i64 a0.Letters, .int .i64 (0 : Int), .slice p43 n45 c44, .slice p39 n41 c40] 25 (0, 0)))])) ⟨_, _, _, _, _, _, _, ⟨agr, hO, fr⟩, aaR.u, cb.u⟩ ?_
 refine fun X3 => p2 fun f6 fO d_42 => fun H hX3 σ w34 hk => e4 fun n41 p39 c40 tQ => e3 fun n45 p43 c44 => d1 fun hL => d1 fun kt cb => lh hk (fun hO hB => ?_) hL
 dsimp only [esets, sS, sZ] at hO hB kt cb
 dsimp only at H
 revert hO; repeat (rename Owns .. => q; clear q)
 intro hO; repeat (rename Sq .. => q; clear q)
 refine scm H (fun h46 H => ?_) fun h46 H => ?_
 ·refine sxl hO cb H.1 H.2.1 ?_
  refine sxls hO ck.u H.2.2.1 H.2.2.2.1 fun p47 c48 iJ => ?_
  refine sln0 ?_
  refine au ?_
  refine snil Fl.i 3 hO fun s hO => ?_
  refine lv [1, 2, 6, 10, 12, 49, 50, 51, 59, 60] hO (H.2.2.2.2 iJ.bd) (fun E (tR, eC) σ w => ∃ n56 p54 c55, (fun Z => Lo A w0 σ w [(13, .slice p54 n56 c55), (61, .int .i64 (tR : Int))] Z ∧ Els (Rp.sl (Rp.int .i64)) (bl Z ++ A) w tQ fO ∧ ISi (bl Z ++ A) w iY i4 r7 ∧ ISi (bl Z ++ A) w p47 c48 (ix a0.Next (ix r7 (f6 : Int)))) (E.set 0 (t1 Fl.i 3 p54 n56 c55 eC))) ⟨_, _, _, ⟨agr, hO, fr⟩, kt.u, cb.u, iJ.u⟩ ?_
  refine fun X4 => p1 fun tR eC => fun H hX4 σ w51 hk => e3 fun n56 p54 c55 => d1 fun hL => d2 fun kt cb iJ => lh hk (fun hO hB => ?_) hL
  dsimp only [esets, sS, sZ] at hO hB kt cb iJ
  dsimp only at H
  revert hO; repeat (rename Owns .. => q; clear q)
  intro hO; repeat (rename Sq .. => q; clear q)
  refine scm H (fun h57 H => ?_) fun h57 H => ?_
  ·refine sxl hO iJ H.1 H.2.1 ?_
   refine sxl1 4 hO H.2.2.1 H.2.2.2.1 ?_
   refine sap1 ((ix jd (ix (ix a0.Next (ix r7 (f6 : Int))) (tR : Int)))) 0 hO H.2.2.2.2 fun _ w58 p59 c60 s hO => ?_
   refine sinc (natbd h57 iJ.bd) ?_
   refine au ?_
   exact hX4 _ H.2.2.2.2.2 _ _ agr ⟨_, _, _, ⟨agr, hO, fr⟩, kt.u, cb.u, iJ.u⟩
  refine au ?_
  refine drA (CSv.tr [(some ⟨B27, 3, none⟩), (some ⟨B27, 2, none⟩), (some ⟨B2, 2, none⟩), (padd b7 ((ix r7 (f6 : Int)).toNat * (Rp.bool).sz + 0))]) 5 [(0, m0), (1, m1), (2, m0), (5, m0), (6, m1), (7, m0), (8, m1), (9, m0), (10, m0), (11, m1), (3, m4), (4, m2), (14, m0), (12, m4), (13, m2), (15, m3), (16, m0), (17, m3)] hO fun w61 s hO => ?_
  have tS := hO.le
  have hw63 := (fr : Fr (bl []) w0 _ w61).ch.size
  refine au ?_
  refine GoQA.stable rfl (loadV (.head _) rfl (J00 3 hO rfl rfl) underlying23 rfl rfl) rfl rfl ?_
  refine au ?_
  refine au ?_
  refine GoQA.stable rfl (loadV (.tail _ (.head _)) rfl (J00 3 hO rfl rfl) underlying22 rfl rfl) rfl rfl ?_
  refine au ?_
  refine GoQA.stable rfl (loadV (.tail _ (.tail _ (.head _))) rfl (J00 6 hO rfl rfl) underlying22 rfl rfl) rfl rfl ?_
  refine au ?_
  refine six ak H.1 H.2.1 ?_
  have h64 := H.1
  have h65 := H.2.1
  refine GoQA.stable rfl (loadV (.tail _ (.tail _ (.tail _ (.head _)))) (J6Y (ak.some_ h64 h65)) (ldBoolC ak.u h64 h65) underlying4 rfl rfl) rfl rfl ?_
  refine sfz 0 hO fun s hO aaS aaT => ?_
  refine GoQA.alloc rfl rfl (alBuild (n := 1) (parts := [(0, .slice p54 n56 c55)]) (vs := [.slice p54 n56 c55]) underlying23 ti31 (by decide) (by decide) (by decide) (by kernel_rfl) rfl rfl) ?_
  intro w67 A68 b69 A70 aaU aaV hd73 hnb74 hh75
  refine sgw aaU hO fun s hO => ?_
  have y8 := elE (Rp.sl (Rp.int .i64)) [.slice p54 n56 c55] [eC] hO (Els.cons rfl ⟨p54, c55, congrArg some (congrArg (fun nn => Value.slice p54 nn c55) aaT), aaS.u⟩ (Els.nil _ _ _) (by simp [mx]))
  refine sgn (e := .row 31 1 (some ⟨b69, 0, none⟩) 1 1 [.slice p54 n56 c55]) aaV hO tS hw63 hnb74 rfl hh75 hd73 (fr : Fr (bl []) w0 _ w67) fun s hO hB => ?_
  replace y8 := y8.ch s.ch
  refine GoQA.loudI rfl rfl fun w79 A80 aaW => ?_
  refine sgw aaW hO fun s hO => ?_
  refine sfzR 0 hO y8.u fun s hO aaX aaY => ?_
  replace H := H.2.2
  obtain ⟨h84, H⟩ := H
  have zz := oapp underlying23 ti31 rfl 0 hO rfl kt.u aaX aaY h84 (by decide)
  obtain ⟨w85, p86, c87, ap5, jE, mc, QV⟩ := zz
  dsimp only [sS, sZ] at mc
  refine GoAt.step (QV (by exact rfl) (by exact rfl)) (fun _ => (CSv.cons (cs_eq (J00 2 hO rfl rfl) (J00 2 jE.own rfl rfl)) (CSv.cons (cs_eq (J00 2 hO rfl rfl) (J00 2 jE.own rfl rfl)) (CSv.cons (cs_eq (J00 5 hO rfl rfl) (J00 5 jE.own rfl rfl)) (CSv.cons (cskC jE.ch ak.u h64 h65) (CSv.nil _ _)))))) (Stp.kp hO jE) rfl ?_
  refine nst jE fun s hO => ?_
  refine au ?_
  refine GoQA.alloc rfl rfl (alBuild (n := 1) (parts := [(0, .bool (ix a0.Final (ix r7 (f6 : Int))))]) (vs := [.bool (ix a0.Final (ix r7 (f6 : Int)))]) underlying22 ti4 (by decide) (by decide) (by decide) (by kernel_rfl) rfl rfl) ?_
  intro w94 A95 b96 A97 aa0 aa1 hd100 hnb101 hh102
  refine sgw aa0 hO fun s hO => ?_
  have iK := elE (Rp.bool) [.bool (ix a0.Final (ix r7 (f6 : Int)))] [ix a0.Final (ix r7 (f6 : Int))] hO (Els.cons rfl rfl (Els.nil _ _ _) (by simp [mx]))
  refine sgn (e := .row 4 1 (some ⟨b96, 0, none⟩) 1 1 [.bool (ix a0.Final (ix r7 (f6 : Int)))]) aa1 hO tS hw63 hnb101 rfl hh102 hd100 (fr : Fr (bl []) w0 _ w94) fun s hO hB => ?_
  replace iK := iK.ch s.ch
  refine cl1 Fl.bool 0 hO iK.u fun s hO => ?_
  refine GoQA.loudI rfl rfl fun xm A105 QW => ?_
  refine sgw QW hO fun s hO => ?_
  refine sfz 0 hO fun s hO qR afq => ?_
  have hu112 := uAt hO ak
  refine sapQ 1 hO qR H (fun F7 ap6 ap7 s hO => ?_) (g := fun _ _ _ _ hv hst h => GoAt.step hv (fun _ => (CSv.cons (cs_eq (J00 2 hO rfl rfl) (J00 2 hst.own rfl rfl)) (CSv.cons (cs_eq (J00 2 hO rfl rfl) (J00 2 hst.own rfl rfl)) (CSv.cons (cs_eq (J00 5 hO rfl rfl) (J00 5 hst.own rfl rfl)) (CSv.cons (cskC hst.ch hu112 h64 h65) (CSv.nil _ _)))))) (Stp.kp hO hst) rfl h)
  refine GoQA.lastI rfl rfl fun El A114 QX => ?_
  refine sgw QX hO fun s hO => ?_
  refine sbs 2 hO fun ap8 s hO => ?_
  refine au ?_
  refine GoQA.lastI rfl rfl fun sI A118 tT => ?_
  refine sgw tT hO fun s hO => ?_
  refine sbs 2 hO fun nT s hO => ?_
  refine GoQA.nil fun nU A122 tU tV => ?_
  refine sgw tU hO fun s hO => ?_
  refine spm tV hO fun s hO => ?_
  refine sinc (natbd h46 cb.bd) ?_
  refine au ?_
  exact hX3 _ H.2 _ _ agr ⟨_, _, _, _, _, _, _, ⟨agr, hO, fr⟩, mc.u, cb.u⟩
 refine sag 2 hO ?_
 refine sba 4 hO fun Gp s hO => ?_
 refine au ?_
 refine sfz 1 hO fun s hO sb sd => ?_
 refine sfzR 0 hO kt.u fun s hO QY Q0 => ?_
 refine sfz 1 hO fun s hO kz mH => ?_
 refine Go1.retC2 func68 rfl rfl (rlb 1 hO) ⟨((⟨a0.Letters, (0 : Int), d_42, fO⟩ : DFA)), _, _, _, _, _, _, _, ?_, frs, sb.r, QY.r, kz.r, H⟩
 exact (congrArg (fun l => Value.tuple (List.toArray l)) (J01 (congrArg (fun l => Value.agg (List.toArray l)) (J01 rfl (J01 rfl (J01 (congrArg (fun nn => Value.slice p43 nn c44) sd) (J01 (congrArg (fun nn => Value.slice p39 nn c40) Q0) rfl))))) (J01 (congrArg (fun nn => Value.slice p11 nn a0.Final.length) mH) rfl)))
theorem body23 : Body prog 23 := ⟨f23, func23, rfl, by kernel_rfl⟩
theorem J2L {b7 cx : Option Addr} {ci cy : Nat} {a0 : DFA} (hA : HA0 A w0) (ak : ISb A w0 b7 ci a0.Final) (ck : ISs A w0 cx cy a0.Next) {K : DFA → Prop} (H : J0A a0 K) :
    CallsV prog 23 #[.agg (cDF a0 b7 ci cx cy)] w0 (fun v w' => ∃ (r0 : DFA), ∃ (aX : Option Addr), ∃ (aY : Nat), ∃ (bK : Option Addr), ∃ (bM : Nat), v = .agg (cDF r0 aX aY bK bM) ∧ Same w0 w' ∧ ISb A w' aX aY r0.Final ∧ ISs A w' bK bM r0.Next ∧ K r0) := by
 refine cal hA func23 ntmps23 fun hO hB => ?_
 unfold J0A at H
 refine sbx hO fun w1 B2 s hO => ?_
 refine sal hO fun w4 B5 s hO => ?_
 refine sag 1 hO ?_
 refine zcr (J02 body67 rfl (J4z hO.lt ak.u ck.u H)) fun _ w8 => e3 fun r7 iY i4 => sc0 hO fun s hO => d1 fun cb H => ?_
 refine au ?_
 refine drs 1 [q0, q1, q0, q0, q1, q0, q1, q0, q2, q3] hO fun w9 s hO => ?_
 refine sxl hO cb.u H.1 H.2.1 ?_
 refine GoQ.pure rfl (J05 underlying25 ti25 (pl := [(0, 1), (1, 1), (2, 1), (3, 1)]) (vs := [(0, .int .i64 a0.Letters), (1, .int .i64 (ix r7 a0.Start))]) (cs := #[.int .i64 a0.Letters, .int .i64 (ix r7 a0.Start), .slice none 0 0, .slice none 0 0]) (by kernel_rfl) rfl (by kernel_rfl)) rfl rfl ?_
 refine sal hO fun w10 B11 s hO => ?_
 refine sba 0 hO fun w13 s hO => ?_
 refine sln0 ?_
 refine au ?_
 refine snil Fl.bool 4 hO fun s hO => ?_
 have Q1 := Stp.nil (e := 31) (r := 1) hO
 refine nst Q1 fun s hO => ?_
 have aa2 := elN (Rp.sl (Rp.int .i64)) hO
 refine lv [1, 2, 3, 4, 21, 22] hO (H.2.2 cb.bd) (fun E (k1_19, k1_20, kr, d_27) σ w => ∃ n26 p24 c25 tW n30 p28 c29, (fun Z => Lo A w0 σ w [(5, .int .i64 (k1_19 : Int)), (23, .int .i64 (k1_20 : Int))] Z ∧ Els (Rp.sl (Rp.int .i64)) (bl Z ++ A) w tW kr ∧ ISi (bl Z ++ A) w iY i4 r7) (esets E [(0, .row 31 1 p24 n26 c25 tW), (1, t1 Fl.bool 4 p28 n30 c29 d_27), (2, .blk B11 (.cells #[.int .i64 a0.Letters, .int .i64 (ix r7 a0.Start), .slice p28 n30 c29, .slice p24 n26 c25] 25 (0, 0)))])) ⟨_, _, _, _, _, _, _, ⟨agr, hO, fr⟩, aa2.u, cb.u⟩ ?_
 refine fun X1 => p3 fun k1_19 k1_20 kr d_27 => fun H hX1 σ w18 hk => e4 fun n26 p24 c25 tW => e3 fun n30 p28 c29 => d1 fun hL => d1 fun ig cb => lh hk (fun hO hB => ?_) hL
 dsimp only [esets, sS, sZ] at hO hB ig cb
 dsimp only at H
 revert hO; repeat (rename Owns .. => q; clear q)
 intro hO; repeat (rename Sq .. => q; clear q)
 refine scm H (fun h31 H => ?_) fun h31 H => ?_
 ·refine sxl hO cb H.1 H.2.1 ?_
  refine au ?_
  have h32 := H.1
  have h33 := H.2.1
  refine scm H.2.2 (fun h34 H => ?_) fun h34 H => ?_
  ·refine au ?_
   obtain ⟨h35, H⟩ := H
   refine zo (J03 rfl rfl (wrap_i64 h35)) ?_
   refine sxls hO ck.u H.1 H.2.1 fun p36 c37 ku => ?_
   refine sln0 ?_
   refine au ?_
   refine snil Fl.i 3 hO fun s hO => ?_
   refine lv [1, 2, 3, 4, 5, 6, 21, 22, 23, 37, 38] hO (H.2.2 ku.bd) (fun E (tX, d_42) σ w => ∃ n45 p43 c44, (fun Z => Lo A w0 σ w [(8, .slice p43 n45 c44), (39, .int .i64 (tX : Int))] Z ∧ Els (Rp.sl (Rp.int .i64)) (bl Z ++ A) w tW kr ∧ ISi (bl Z ++ A) w iY i4 r7 ∧ ISi (bl Z ++ A) w p36 c37 (ix a0.Next (k1_20 : Int))) (E.set 0 (t1 Fl.i 3 p43 n45 c44 d_42))) ⟨_, _, _, ⟨agr, hO, fr⟩, ig.u, cb.u, ku.u⟩ ?_
   refine fun X2 => p1 fun tX d_42 => fun H hX2 σ w40 hk => e3 fun n45 p43 c44 => d1 fun hL => d2 fun ig cb ku => lh hk (fun hO hB => ?_) hL
   dsimp only [esets, sS, sZ] at hO hB ig cb ku
   dsimp only at H
   revert hO; repeat (rename Owns .. => q; clear q)
   intro hO; repeat (rename Sq .. => q; clear q)
   refine scm H (fun h46 H => ?_) fun h46 H => ?_
   ·refine sxl hO ku H.1 H.2.1 ?_
    refine sxl hO cb H.2.2.1 H.2.2.2.1 ?_
    refine sap1 ((ix r7 (ix (ix a0.Next (k1_20 : Int)) (tX : Int)))) 0 hO H.2.2.2.2 fun _ w47 p48 c49 s hO => ?_
    refine sinc (natbd h46 ku.bd) ?_
    refine au ?_
    exact hX2 _ H.2.2.2.2.2 _ _ agr ⟨_, _, _, ⟨agr, hO, fr⟩, ig.u, cb.u, ku.u⟩
   refine au ?_
   refine drA (CSv.tr [(some ⟨B11, 3, none⟩), (some ⟨B11, 2, none⟩), (some ⟨B2, 2, none⟩), (padd b7 ((k1_20 : Int).toNat * (Rp.bool).sz + 0))]) 5 [(0, m0), (1, m1), (2, m0), (5, m0), (6, m1), (7, m0), (8, m1), (9, m0), (10, m0), (11, m1), (3, m4), (4, m2), (14, m0), (12, m4), (13, m2), (15, m3), (16, m0), (17, m3)] hO fun w50 s hO => ?_
   have tY := hO.le
   have hw52 := (fr : Fr (bl []) w0 _ w50).ch.size
   refine au ?_
   refine GoQA.stable rfl (loadV (.head _) rfl (J00 3 hO rfl rfl) underlying23 rfl rfl) rfl rfl ?_
   refine au ?_
   refine au ?_
   refine GoQA.stable rfl (loadV (.tail _ (.head _)) rfl (J00 3 hO rfl rfl) underlying22 rfl rfl) rfl rfl ?_
   refine au ?_
   refine GoQA.stable rfl (loadV (.tail _ (.tail _ (.head _))) rfl (J00 5 hO rfl rfl) underlying22 rfl rfl) rfl rfl ?_
   refine au ?_
   refine six ak H.1 H.2.1 ?_
   have h53 := H.1
   have h54 := H.2.1
   refine GoQA.stable rfl (loadV (.tail _ (.tail _ (.tail _ (.head _)))) (J6Y (ak.some_ h53 h54)) (ldBoolC ak.u h53 h54) underlying4 rfl rfl) rfl rfl ?_
   refine sfz 0 hO fun s hO xj xk => ?_
   refine GoQA.alloc rfl rfl (alBuild (n := 1) (parts := [(0, .slice p43 n45 c44)]) (vs := [.slice p43 n45 c44]) underlying23 ti31 (by decide) (by decide) (by decide) (by kernel_rfl) rfl rfl) ?_
   intro w56 A57 b58 A59 aa3 aa4 hd62 hnb63 hh64
   refine sgw aa3 hO fun s hO => ?_
   have y9 := elE (Rp.sl (Rp.int .i64)) [.slice p43 n45 c44] [d_42] hO (Els.cons rfl ⟨p43, c44, congrArg some (congrArg (fun nn => Value.slice p43 nn c44) xk), xj.u⟩ (Els.nil _ _ _) (by simp [mx]))
   refine sgn (e := .row 31 1 (some ⟨b58, 0, none⟩) 1 1 [.slice p43 n45 c44]) aa4 hO tY hw52 hnb63 rfl hh64 hd62 (fr : Fr (bl []) w0 _ w56) fun s hO hB => ?_
   replace y9 := y9.ch s.ch
   refine GoQA.loudI rfl rfl fun w68 A69 aa5 => ?_
   refine sgw aa5 hO fun s hO => ?_
   refine sfzR 0 hO y9.u fun s hO zc aa6 => ?_
   replace H := H.2.2
   obtain ⟨h73, H⟩ := H
   have zz := oapp underlying23 ti31 rfl 0 hO rfl ig.u zc aa6 h73 (by decide)
   obtain ⟨w74, p75, c76, ap9, f5, Il, Q3⟩ := zz
   dsimp only [sS, sZ] at Il
   refine GoAt.step (Q3 (by exact rfl) (by exact rfl)) (fun _ => (CSv.cons (cs_eq (J00 2 hO rfl rfl) (J00 2 f5.own rfl rfl)) (CSv.cons (cs_eq (J00 2 hO rfl rfl) (J00 2 f5.own rfl rfl)) (CSv.cons (cs_eq (J00 4 hO rfl rfl) (J00 4 f5.own rfl rfl)) (CSv.cons (cskC f5.ch ak.u h53 h54) (CSv.nil _ _)))))) (Stp.kp hO f5) rfl ?_
   refine nst f5 fun s hO => ?_
   refine au ?_
   refine GoQA.alloc rfl rfl (alBuild (n := 1) (parts := [(0, .bool (ix a0.Final (k1_20 : Int)))]) (vs := [.bool (ix a0.Final (k1_20 : Int))]) underlying22 ti4 (by decide) (by decide) (by decide) (by kernel_rfl) rfl rfl) ?_
   intro w83 A84 b85 A86 aa7 aa8 hd89 hnb90 hh91
   refine sgw aa7 hO fun s hO => ?_
   have lT := elE (Rp.bool) [.bool (ix a0.Final (k1_20 : Int))] [ix a0.Final (k1_20 : Int)] hO (Els.cons rfl rfl (Els.nil _ _ _) (by simp [mx]))
   refine sgn (e := .row 4 1 (some ⟨b85, 0, none⟩) 1 1 [.bool (ix a0.Final (k1_20 : Int))]) aa8 hO tY hw52 hnb90 rfl hh91 hd89 (fr : Fr (bl []) w0 _ w83) fun s hO hB => ?_
   replace lT := lT.ch s.ch
   refine cl1 Fl.bool 0 hO lT.u fun s hO => ?_
   refine GoQA.loudI rfl rfl fun w93 A94 zd => ?_
   refine sgw zd hO fun s hO => ?_
   refine sfz 0 hO fun s hO pG aaa => ?_
   have hu101 := uAt hO ak
   refine sapQ 1 hO pG H (fun w98 p99 aab s hO => ?_) (g := fun _ _ _ _ hv hst h => GoAt.step hv (fun _ => (CSv.cons (cs_eq (J00 2 hO rfl rfl) (J00 2 hst.own rfl rfl)) (CSv.cons (cs_eq (J00 2 hO rfl rfl) (J00 2 hst.own rfl rfl)) (CSv.cons (cs_eq (J00 4 hO rfl rfl) (J00 4 hst.own rfl rfl)) (CSv.cons (cskC hst.ch hu101 h53 h54) (CSv.nil _ _)))))) (Stp.kp hO hst) rfl h)
   refine GoQA.lastI rfl rfl fun xW A103 Q4 => ?_
   refine sgw Q4 hO fun s hO => ?_
   refine sbs 2 hO fun rX s hO => ?_
   refine au ?_
   refine GoQA.lastI rfl rfl fun wO A107 Q5 => ?_
   refine sgw Q5 hO fun s hO => ?_
   refine sbs 2 hO fun F7 s hO => ?_
   refine GoQA.nil fun wP A111 t5 t6 => ?_
   refine sgw t5 hO fun s hO => ?_
   refine spm t6 hO fun s hO => ?_
   refine sinc (natbd h31 cb.bd) ?_
   refine au ?_
   exact hX1 _ H.2 _ _ agr ⟨_, _, _, _, _, _, _, ⟨agr, hO, fr⟩, Il.u, cb.u⟩
  refine sinc (natbd h31 cb.bd) ?_
  refine au ?_
  exact hX1 _ H _ _ agr ⟨_, _, _, _, _, _, _, ⟨agr, hO, fr⟩, ig.u, cb.u⟩
 refine sag 2 hO ?_
 refine sfz 1 hO fun s hO Q6 Q7 => ?_
 refine sfzR 0 hO ig.u fun s hO Q8 Q9 => ?_
 refine zcr (J02 body68 (by rw [Q7, Q9]; exact rfl) (J5D (a0 := (⟨a0.Letters, (ix r7 a0.Start), d_27, kr⟩ : DFA)) hO.lt Q6.u Q8 H)) fun _ nT => e4 fun l9 aqa Im Io => e4 fun Jj Jk acq acr => sc0 hO fun s hO => d3 fun pI qg acs H => ?_
 refine sba 0 hO fun nU s hO => ?_
 refine sag 0 hO ?_
 refine sba 1 hO fun vy s hO => ?_
 refine au ?_
 refine Go1.retC1 func23 rfl rfl (rlb 1 hO) ⟨((⟨l9.Letters, l9.Start, l9.Final, l9.Next⟩ : DFA)), _, _, _, _, er, frs, pI.r, qg.r, H⟩
theorem body170 : Body prog 170 := ⟨f170, func170, rfl, by kernel_rfl⟩
theorem J5g {p_f : Option Addr} {c_f : Nat} {f : List Int} (hA : HA0 A w0) (h_f : ISi A w0 p_f c_f f) {K : Bool → Prop} (H : J2y f K) :
    CallsV prog 170 #[.slice p_f f.length c_f] w0 (fun v w' => ∃ (r0 : Bool), v = .bool r0 ∧ Same w0 w' ∧ K r0) := by
 refine cal hA func170 ntmps170 fun hO hB => ?_
 unfold J2y at H
 refine sln0 ?_
 refine scm (H h_f.bd) (fun h1 H => ?_) fun h1 H => ?_
 ·refine au ?_
  refine Go1.ret1 func170 rfl ⟨_, er, frs, H⟩
 refine sln0 ?_
 refine scm H (fun h2 H => ?_) fun h2 H => ?_
 ·refine au ?_
  refine Go1.ret1 func170 rfl ⟨_, er, frs, H⟩
 refine sln0 ?_
 refine au ?_
 refine lv [0, 13, 14] hO H (fun E k1_4 σ w => Lo A w0 σ w [(15, .int .i64 (k1_4 : Int))] []) ⟨agr, hO, fr⟩ ?_
 refine fun X1 => fun k1_4 => fun H hX1 σ w3 hk => lh hk fun hO hB => ?_
 refine scm H (fun h5 H => ?_) fun h5 H => ?_
 ·refine sxl hO h_f.u H.1 H.2.1 ?_
  refine au ?_
  have h6 := H.1
  have h7 := H.2.1
  refine scm H.2.2 (fun h8 H => ?_) fun h8 H => ?_
  ·refine au ?_
   refine Go1.ret1 func170 rfl ⟨_, er, frs, H⟩
  refine sln0 ?_
  refine scm H (fun h9 H => ?_) fun h9 H => ?_
  ·refine au ?_
   refine Go1.ret1 func170 rfl ⟨_, er, frs, H⟩
  refine sinc (natbd h5 h_f.bd) ?_
  refine au ?_
  exact hX1 _ H _ _ agr ⟨agr, hO, fr⟩
 refine au ?_
 refine Go1.ret1 func170 rfl ⟨_, er, frs, H⟩
theorem body161 : Body prog 161 := ⟨f161, func161, rfl, by kernel_rfl⟩
theorem J4j {dQ : Option Addr} {dR : Nat} {gens : List (List Int)} (hA : HA0 A w0) (dI : ISs A w0 dQ dR gens) {K : Bool → Prop} (H : J1q gens K) :
    CallsV prog 161 #[.slice dQ gens.length dR] w0 (fun v w' => ∃ (r0 : Bool), v = .bool r0 ∧ Same w0 w' ∧ K r0) := by
 refine cal hA func161 ntmps161 fun hO hB => ?_
 unfold J1q at H
 refine sln0 ?_
 refine scm (H dI.bd) (fun h1 H => ?_) fun h1 H => ?_
 ·refine au ?_
  refine Go1.ret1 func161 rfl ⟨_, er, frs, H⟩
 refine sln0 ?_
 refine scm H (fun h2 H => ?_) fun h2 H => ?_
 ·refine au ?_
  refine Go1.ret1 func161 rfl ⟨_, er, frs, H⟩
 refine sln0 ?_
 refine au ?_
 refine lv [0, 13, 14] hO H (fun E k1_4 σ w => Lo A w0 σ w [(15, .int .i64 (k1_4 : Int))] []) ⟨agr, hO, fr⟩ ?_
 refine fun X1 => fun k1_4 => fun H hX1 σ w3 hk => lh hk fun hO hB => ?_
 refine scm H (fun h5 H => ?_) fun h5 H => ?_
 ·refine sxls hO dI.u H.1 H.2.1 fun p6 c7 hi8 => ?_
  refine au ?_
  have h11 := H.1
  have h12 := H.2.1
  refine zcr (J02 body170 rfl (J5g hO.lt hi8.u H.2.2)) fun _ w10 => e1 fun r9 => sc0 hO fun s hO => fun H => ?_
  cases r9
  ·refine au ?_
   refine Go1.ret1 func161 rfl ⟨_, er, frs, (iF H)⟩
  refine sln0 ?_
  refine six dI ((iT H) hi8.bd).1 ((iT H) hi8.bd).2.1 ?_
  refine slds hO dI.u ((iT H) hi8.bd).1 ((iT H) hi8.bd).2.1 fun p13 c14 fL => ?_
  refine sln0 ?_
  have h16 := ((iT H) hi8.bd).1
  have h17 := ((iT H) hi8.bd).2.1
  refine scm (((iT H) hi8.bd).2.2 fL.bd) (fun h18 H => ?_) fun h18 H => ?_
  ·refine sinc (natbd h5 dI.bd) ?_
   refine au ?_
   exact hX1 _ H _ _ agr ⟨agr, hO, fr⟩
  refine au ?_
  refine Go1.ret1 func161 rfl ⟨_, er, frs, H⟩
 refine au ?_
 refine Go1.ret1 func161 rfl ⟨_, er, frs, H⟩
theorem body162 : Body prog 162 := ⟨f162, func162, rfl, by kernel_rfl⟩
theorem J5F {p_a : Option Addr} {c_a : Nat} {a : List (List Int)} (hA : HA0 A w0) (h_a : ISs A w0 p_a c_a a) {K : List (List Int) → Prop} (H : J2Z a K) :
    CallsV prog 162 #[.slice p_a a.length c_a] w0 (fun v w' => ∃ (r0 : List (List Int)), ∃ (fe : Nat), ∃ (p_r0 : Option Addr), ∃ (c_r0 : Nat), ∃ (Ra : Hd), v = .slice p_r0 fe c_r0 ∧ Same w0 w' ∧ Owns w0.heap.size w' [t2 Fl.i 31 3 p_r0 fe c_r0 Ra r0] A ∧ K r0) := by
 refine cal hA func162 ntmps162 fun hO hB => ?_
 unfold J2Z at H
 refine sln0 ?_
 refine au ?_
 have hst2 := t2nil (e := 31) (e' := 3) Fl.i hO
 refine nst hst2 fun s hO => ?_
 refine lv [6, 7] hO (H h_a.bd) (fun E (k1_4, out1_5) σ w => ∃ n8 p6 c7 hs9, Lo A w0 σ w [(3, .slice p6 n8 c7), (8, .int .i64 (k1_4 : Int))] [t2 Fl.i 31 3 p6 n8 c7 hs9 out1_5]) ⟨_, _, _, _, ⟨agr, hO, fr⟩⟩ ?_
 refine fun X1 => p1 fun k1_4 out1_5 => fun H hX1 σ w3 hk => e4 fun n8 p6 c7 hs9 => lh hk fun hO hB => ?_
 dsimp only at H
 revert hO; repeat (rename Owns .. => q; clear q)
 intro hO; repeat (rename Sq .. => q; clear q)
 refine scm H (fun h10 H => ?_) fun h10 H => ?_
 ·refine sxls hO h_a.u H.1 H.2.1 fun p11 c12 aa9 => ?_
  refine sbu Fl.i 3 ([] : List Int) hO fun w14 p15 s hO => ?_
  refine sap 0 hO aa9.u H.2.2 fun w17 p18 c19 s hO => ?_
  refine op1 0 hO fun qo s hO dp => ?_
  have zz := t2build1 Fl.i underlying23 ti31 hO dp.u
  obtain ⟨w22, p23, rU, Rb⟩ := zz
  refine zg (Rb rfl) ?_
  refine nst rU fun s hO => ?_
  refine sfr 1 hO fun s hO => ?_
  refine sfr 1 hO fun s hO => ?_
  have h27 := H.1
  have h28 := H.2.1
  replace H := H.2.2.2
  obtain ⟨h29, H⟩ := H
  have zz := t2cat underlying23 ti31 hO h29 (by decide)
  obtain ⟨w30, p31, c32, Rc, Rd⟩ := zz
  refine zg (Rd (by exact rfl) (by exact rfl)) ?_
  refine nst Rc fun s hO => ?_
  refine sinc (natbd h10 h_a.bd) ?_
  refine au ?_
  exact hX1 _ H _ _ agr ⟨_, _, _, _, ⟨agr, hO, fr⟩⟩
 refine au ?_
 refine Go1.ret1 func162 rfl ⟨_, _, _, _, _, er, frs, hO, H⟩
theorem body51 : Body prog 51 := ⟨f51, func51, rfl, by kernel_rfl⟩
theorem J2r {n : Int} (hA : HA0 A w0) {K : List Int → Prop} (H : J0E n K) :
    CallsV prog 51 #[.int .i64 n] w0 (fun v w' => ∃ (r0 : List Int), ∃ (p_r0 : Option Addr), ∃ (c_r0 : Nat), v = .slice p_r0 r0.length c_r0 ∧ Same w0 w' ∧ ISi A w' p_r0 c_r0 r0 ∧ K r0) := by
 refine cal hA func51 ntmps51 fun hO hB => ?_
 unfold J0E at H
 refine smk Fl.i H hO fun w1 p4 s hO => ?_
 refine sln1 0 hO ?_
 refine au ?_
 refine lv [3, 8] hO H.2.2 (fun E (aK, Ip) σ w => Lo A w0 σ w [(9, .int .i64 (aK : Int))] [t1 Fl.i 3 p4 n.toNat n.toNat Ip]) ⟨agr, hO, fr⟩ ?_
 refine fun X1 => p1 fun aK Ip => fun H hX1 σ w6 hk => lh hk fun hO hB => ?_
 dsimp only at H
 revert hO; repeat (rename Owns .. => q; clear q)
 intro hO; repeat (rename Sq .. => q; clear q)
 refine scm H (fun h9 H => ?_) fun h9 H => ?_
 ·refine six1 0 hO H.1 H.2.1 ?_
  refine sst (u := (aK : Int)) 0 hO H.1 H.2.1 fun w10 s hO => ?_
  refine au ?_
  have h11 := H.1
  have h12 := H.2.1
  replace H := H.2.2
  obtain ⟨h13, H⟩ := H
  refine zo (J03 rfl rfl (wrap_i64 h13)) ?_
  refine au ?_
  exact hX1 _ H _ _ agr ⟨agr, hO, fr⟩
 refine au ?_
 refine sfz 0 hO fun s hO ke ii => ?_
 refine Go1.ret1 func51 rfl ⟨_, _, _, ?_, frs, ke.r, H⟩
 exact (congrArg (fun nn => Value.slice p4 nn n.toNat) ii)
theorem body107 : Body prog 107 := ⟨f107, func107, rfl, by kernel_rfl⟩
theorem J1k {qm p_f : Option Addr} {qn c_f : Nat} {elems : List (List Int)} {f : List Int} (hA : HA0 A w0) (mf : ISs A w0 qm qn elems) (h_f : ISi A w0 p_f c_f f) {K : Int → Prop} (H : J14 elems f K) :
    CallsV prog 107 #[.slice qm elems.length qn, .slice p_f f.length c_f] w0 (fun v w' => ∃ (r0 : Int), v = .int .i64 r0 ∧ Same w0 w' ∧ K r0) := by
 refine cal hA func107 ntmps107 fun hO hB => ?_
 unfold J14 at H
 refine sln0 ?_
 refine au ?_
 refine lv [0, 1, 7] hO (H mf.bd) (fun E k1_2 σ w => Lo A w0 σ w [(8, .int .i64 (k1_2 : Int))] []) ⟨agr, hO, fr⟩ ?_
 refine fun X1 => fun k1_2 => fun H hX1 σ w1 hk => lh hk fun hO hB => ?_
 refine scm H (fun h3 H => ?_) fun h3 H => ?_
 ·refine sxls hO mf.u H.1 H.2.1 fun p4 c5 hi6 => ?_
  refine au ?_
  have h9 := H.1
  have h10 := H.2.1
  refine zcr (J02 body49 rfl (J1b hO.lt hi6.u h_f.u H.2.2)) fun _ w8 => e1 fun r7 => sc0 hO fun s hO => fun H => ?_
  refine au ?_
  cases r7
  ·refine sinc (natbd h3 mf.bd) ?_
   refine au ?_
   exact hX1 _ (iF H) _ _ agr ⟨agr, hO, fr⟩
  refine au ?_
  refine Go1.ret1 func107 rfl ⟨_, er, frs, (iT H)⟩
 refine au ?_
 refine Go1.ret1 func107 rfl ⟨_, er, frs, H⟩
theorem body137 : Body prog 137 := ⟨f137, func137, rfl, by kernel_rfl⟩
theorem J0Q {x : Int} (hA : HA0 A w0) {K : Str → Prop} (H : J0z x K) :
    CallsV prog 137 #[.int .i64 x] w0 (fun v w' => ∃ (r0 : Str), v = .string (gstr r0) ∧ Same w0 w' ∧ r0.length ≤ mx ∧ K r0) := by
 refine cal hA func137 ntmps137 fun hO hB => ?_
 unfold J0z at H
 refine au ?_
 obtain ⟨h1, H⟩ := H
 refine zo (J03 rfl rfl (wrap_i64 h1)) ?_
 refine zo (J1Y underlying3 underlying5 rfl rfl) ?_
 refine sbu (Fl.int .u8) 5 [(IntKind.u8.wrap ((97 : Int) + x))] hO fun w2 p4 s hO => ?_
 refine op1 0 hO fun vs6 s hO hE7 => ?_
 have hle8 := J0u hE7.bd
 refine zs (oldBytes 0 hO rfl hE7.u underlying126 underlying5 underlying9 rfl) ?_
 refine au ?_
 refine Go1.ret1 func137 rfl ⟨_, er, frs, hle8, H⟩
theorem body106 : Body prog 106 := ⟨f106, func106, rfl, by kernel_rfl⟩
theorem J0I {gR gi fQ gT gk gn : Option Addr} {gS gj fR gU gm gq : Nat} {e : Enum} {i : Int} (hA : HA0 A w0) (pK : ISs A w0 gR gS e.Gens) (gt : ISs A w0 gi gj e.Elems) (iL : ISi A w0 fQ fR e.Prefix) (gV : ISi A w0 gT gU e.Last) (jh : ISs A w0 gk gm e.Right) (mv : ISl (rpRule) A w0 gn gq e.Rules) {K : Str → Prop} (H : J0N e i K) :
    CallsV prog 106 #[.agg #[.int .i64 e.Points, .bool e.Monoid, .slice gR e.Gens.length gS, .slice gi e.Elems.length gj, .slice fQ e.Prefix.length fR, .slice gT e.Last.length gU, .slice gk e.Right.length gm, .slice gn e.Rules.length gq, .int .i64 e.Done], .int .i64 i] w0 (fun v w' => ∃ (r0 : Str), v = .string (gstr r0) ∧ Same w0 w' ∧ r0.length ≤ mx ∧ K r0) := by
 refine cal hA func106 ntmps106 fun hO hB => ?_
 unfold J0N at H
 refine sbx hO fun w1 B2 s hO => ?_
 refine au ?_
 refine lv [2] hO H (fun E (i1_5, zh) σ w => (fun Z => Lo A w0 σ w [(1, .int .i64 i1_5), (5, .string (gstr zh))] Z ∧ zh.length ≤ mx) E) ⟨⟨agr, hO, fr⟩, (by decide)⟩ ?_
 refine fun X1 => p1 fun i1_5 zh => fun H hX1 σ w4 hk => d1 fun hL => fun hle_w1_6 => lh hk (fun hO hB => ?_) hL
 dsimp only at H
 revert hO; repeat (rename Owns .. => q; clear q)
 intro hO; repeat (rename Sq .. => q; clear q)
 refine scm H (fun h7 H => ?_) fun h7 H => ?_
 ·refine six gV H.1 H.2.1 ?_
  refine sld hO gV.u H.1 H.2.1 ?_
  have h8 := H.1
  have h9 := H.2.1
  refine scm H.2.2 (fun h10 H => ?_) fun h10 H => ?_
  ·refine sxl hO gV.u H.1 H.2.1 ?_
   have h13 := H.1
   have h14 := H.2.1
   refine zcr (J02 body137 rfl (J0Q hO.lt H.2.2)) fun _ w12 => e1 fun r11 => sc0 hO fun s hO => d1 fun act H => ?_
   refine au ?_
   obtain ⟨h15, H⟩ := H
   refine zo (J08 rfl rfl h15) ?_
   refine sxl hO iL.u H.1 H.2.1 ?_
   refine au ?_
   exact hX1 _ H.2.2 _ _ agr ⟨⟨agr, hO, fr⟩, (lenApp h15)⟩
  refine au ?_
  refine Go1.ret1 func106 rfl ⟨_, er, frs, hle_w1_6, H⟩
 refine au ?_
 refine Go1.ret1 func106 rfl ⟨_, er, frs, hle_w1_6, H⟩
end Sg
