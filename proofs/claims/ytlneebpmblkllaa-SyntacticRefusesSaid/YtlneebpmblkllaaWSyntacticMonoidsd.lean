/- -/
import Derived.Test.YtlneebpmblkllaaVd
import Derived.Test.YtlneebpmblkllaaWSyntacticMonoidsc
namespace Sg
open Go Go.RowKit Go.Proofs Try
set_option linter.unusedVariables false
set_option linter.unusedSimpArgs false
set_option maxRecDepth 100000
set_option maxHeartbeats 4000000
variable {A : List Nat} {w0 : World}
theorem body113 : Body prog 113 := ⟨f113, func113, rfl, by kernel_rfl⟩
theorem J5c {bT cz : Option Addr} {cg cA : Nat} {a0 : DFA} (hA : HA0 A w0) (ah : ISb A w0 bT cg a0.Final) (cp : ISs A w0 cz cA a0.Next) {K : List Int → List Str → Prop} (H : J1X a0 K) :
    CallsV prog 113 #[.agg (cDF a0 bT cg cz cA)] w0 (fun v w' => ∃ (r0 : List Int), ∃ (r1 : List Str), ∃ (p_r0 : Option Addr), ∃ (c_r0 : Nat), ∃ (fu : Option Addr), ∃ (fv : Nat), v = .tuple #[.slice p_r0 r0.length c_r0, .slice fu r1.length fv] ∧ Same w0 w' ∧ ISi A w' p_r0 c_r0 r0 ∧ ISt A w' fu fv r1 ∧ K r0 r1) := by
 refine cal hA func113 ntmps113 fun hO hB => ?_
 unfold J1X at H
 refine sbx hO fun w1 B2 s hO => ?_
 refine sbu Fl.i 3 [a0.Start] hO fun w4 p5 s hO => ?_
 refine sbu Fl.str 9 [(([] : Str))] hO (fun w7 p8 s hO => ?_) (hE := fun _ _ => (Els.cons rfl ⟨rfl, (by decide)⟩ (Els.nil _ _ _) (by simp [mx])))
 refine sln0 ?_
 refine smk Fl.bool (H ah.bd) hO fun w10 p11 s hO => ?_
 refine six1 0 hO (H ah.bd).2.2.1 (H ah.bd).2.2.2.1 ?_
 refine sst (u := true) 0 hO (H ah.bd).2.2.1 (H ah.bd).2.2.2.1 fun w13 s hO => ?_
 refine au ?_
 refine lv [1, 6] hO (H ah.bd).2.2.2.2 (fun E (k1_15, d_16, Bw, jA) σ w => ∃ n20 p18 c19 n24 p22 c23, Lo A w0 σ w [(4, .slice p22 n24 c23), (5, .slice p18 n20 c19), (7, .int .i64 (k1_15 : Int))] (esets E [(0, t1 Fl.bool 4 p11 a0.Final.length a0.Final.length d_16), (1, t1 Fl.str 9 p18 n20 c19 Bw), (2, t1 Fl.i 3 p22 n24 c23 jA)])) ⟨_, _, _, _, _, _, ⟨agr, hO, fr⟩⟩ ?_
 refine fun X1 => p3 fun k1_15 d_16 Bw jA => fun H hX1 σ w14 hk => e4 fun n20 p18 c19 n24 => e2 fun p22 c23 => d2 fun hag hO hB => keep2 hk hag ?_
 dsimp only [esets, sS, sZ] at hO hB
 dsimp only at H
 revert hO; repeat (rename Owns .. => q; clear q)
 intro hO; repeat (rename Sq .. => q; clear q)
 refine sln1 2 hO ?_
 refine scm H (fun h25 H => ?_) fun h25 H => ?_
 ·refine au ?_
  refine lv [1, 6, 7] hO H (fun E (k2_27, d_28, d_29, fH) σ w => ∃ n32 p30 c31 n36 p34 c35, Lo A w0 σ w [(4, .slice p34 n36 c35), (5, .slice p30 n32 c31), (8, .int .i64 (k2_27 : Int))] (esets E [(0, t1 Fl.bool 4 p11 a0.Final.length a0.Final.length d_28), (1, t1 Fl.str 9 p30 n32 c31 d_29), (2, t1 Fl.i 3 p34 n36 c35 fH)])) ⟨_, _, _, _, _, _, ⟨agr, hO, fr⟩⟩ ?_
  refine fun X2 => p3 fun k2_27 d_28 d_29 fH => fun H hX2 σ w26 hk => e4 fun n32 p30 c31 n36 => e2 fun p34 c35 => d2 fun hag hO hB => keep2 hk hag ?_
  dsimp only [esets, sS, sZ] at hO hB
  dsimp only at H
  revert hO; repeat (rename Owns .. => q; clear q)
  intro hO; repeat (rename Sq .. => q; clear q)
  refine scm H (fun h37 H => ?_) fun h37 H => ?_
  ·refine au ?_
   refine drs 0 [q0, q1, q0, q0, q0, q1, q0, q1, q0, q0, q1, q0] hO fun w38 s hO => ?_
   refine sxl1 2 hO H.1 H.2.1 ?_
   refine sxls hO cp.u H.2.2.1 H.2.2.2.1 fun p39 c40 mI => ?_
   refine sxl hO mI.u H.2.2.2.2.1 H.2.2.2.2.2.1 ?_
   refine au ?_
   have h42 := H.1
   have h43 := H.2.1
   have h44 := H.2.2.1
   have h45 := H.2.2.2.1
   have h46 := H.2.2.2.2.1
   have h47 := H.2.2.2.2.2.1
   have h48 := H.2.2.2.2.2.2.1
   have h49 := H.2.2.2.2.2.2.2.1
   refine sxb1 0 hO H.2.2.2.2.2.2.1 H.2.2.2.2.2.2.2.1 H.2.2.2.2.2.2.2.2 (fun h50 H => ?_) fun h50 H => ?_
   ·refine au ?_
    obtain ⟨h51, H⟩ := H
    refine zo (J06 rfl rfl (wrap_i64 h51)) ?_
    refine au ?_
    exact hX2 _ H _ _ agr ⟨_, _, _, _, _, _, ⟨agr, hO, fr⟩⟩
   refine six1 0 hO H.1 H.2.1 ?_
   refine sst (u := true) 0 hO H.1 H.2.1 fun w52 s hO => ?_
   refine au ?_
   refine Go1.drawT (ok := fun _ => True) Same.tr [3, 16] 19 (.qp 0 (.qp 1 (.qp 4 (.qp 5 (.qp 6 (.qp 7 (.qp 9 (.qp 10 (.qp 11 (.alt 2 (.alt 3 (.alt 8 (.alt 12 (.alt 13 (.qp 14 (.alt 15 (.alt 16 (.qp 17 (.qp 18 .nil)) .fin) .fin)) .fin) .fin) (.alt 12 (.alt 8 (.alt 13 (.qp 14 (.alt 15 (.alt 16 (.qp 17 (.qp 18 .nil)) .fin) .fin)) .fin) (.alt 13 (.alt 8 (.qp 14 (.alt 15 (.alt 16 (.qp 17 (.qp 18 .nil)) .fin) .fin)) .fin) .fin)) .fin)) (.alt 8 (.alt 3 (.alt 12 (.alt 13 (.qp 14 (.alt 15 (.alt 16 (.qp 17 (.qp 18 .nil)) .fin) .fin)) .fin) .fin) (.alt 12 (.alt 3 (.alt 13 (.qp 14 (.alt 15 (.alt 16 (.qp 17 (.qp 18 .nil)) .fin) .fin)) .fin) (.alt 13 (.qp 14 (.alt 3 (.alt 15 (.alt 16 (.qp 17 (.qp 18 .nil)) .fin) .fin) (.alt 15 (.alt 3 (.alt 16 (.qp 17 (.qp 18 .nil)) .fin) .fin) .fin))) .fin)) .fin)) (.alt 12 (.alt 3 (.alt 8 (.alt 13 (.qp 14 (.alt 15 (.alt 16 (.qp 17 (.qp 18 .nil)) .fin) .fin)) .fin) (.alt 13 (.alt 8 (.qp 14 (.alt 15 (.alt 16 (.qp 17 (.qp 18 .nil)) .fin) .fin)) .fin) .fin)) (.alt 8 (.alt 3 (.alt 13 (.qp 14 (.alt 15 (.alt 16 (.qp 17 (.qp 18 .nil)) .fin) .fin)) .fin) (.alt 13 (.qp 14 (.alt 3 (.alt 15 (.alt 16 (.qp 17 (.qp 18 .nil)) .fin) .fin) (.alt 15 (.alt 3 (.alt 16 (.qp 17 (.qp 18 .nil)) .fin) .fin) .fin))) .fin)) (.alt 13 (.alt 3 (.alt 8 (.qp 14 (.alt 15 (.alt 16 (.qp 17 (.qp 18 .nil)) .fin) .fin)) .fin) (.alt 8 (.qp 14 (.alt 3 (.alt 15 (.alt 16 (.qp 17 (.qp 18 .nil)) .fin) .fin) (.alt 15 (.alt 3 (.alt 16 (.qp 17 (.qp 18 .nil)) .fin) .fin) .fin))) .fin)) .fin))) .fin))) (.alt 8 (.alt 2 (.alt 3 (.alt 12 (.alt 13 (.qp 14 (.alt 15 (.alt 16 (.qp 17 (.qp 18 .nil)) .fin) .fin)) .fin) .fin) (.alt 12 (.alt 3 (.alt 13 (.qp 14 (.alt 15 (.alt 16 (.qp 17 (.qp 18 .nil)) .fin) .fin)) .fin) (.alt 13 (.qp 14 (.alt 3 (.alt 15 (.alt 16 (.qp 17 (.qp 18 .nil)) .fin) .fin) (.alt 15 (.alt 3 (.alt 16 (.qp 17 (.qp 18 .nil)) .fin) .fin) .fin))) .fin)) .fin)) (.alt 12 (.alt 2 (.alt 3 (.alt 13 (.qp 14 (.alt 15 (.alt 16 (.qp 17 (.qp 18 .nil)) .fin) .fin)) .fin) (.alt 13 (.qp 14 (.alt 3 (.alt 15 (.alt 16 (.qp 17 (.qp 18 .nil)) .fin) .fin) (.alt 15 (.alt 3 (.alt 16 (.qp 17 (.qp 18 .nil)) .fin) .fin) .fin))) .fin)) (.alt 13 (.qp 14 (.alt 2 (.alt 3 (.alt 15 (.alt 16 (.qp 17 (.qp 18 .nil)) .fin) .fin) (.alt 15 (.alt 3 (.alt 16 (.qp 17 (.qp 18 .nil)) .fin) .fin) .fin)) (.alt 15 (.alt 2 (.alt 3 (.alt 16 (.qp 17 (.qp 18 .nil)) .fin) .fin) .fin) .fin))) .fin)) .fin)) (.alt 12 (.alt 2 (.alt 3 (.alt 8 (.alt 13 (.qp 14 (.alt 15 (.alt 16 (.qp 17 (.qp 18 .nil)) .fin) .fin)) .fin) (.alt 13 (.alt 8 (.qp 14 (.alt 15 (.alt 16 (.qp 17 (.qp 18 .nil)) .fin) .fin)) .fin) .fin)) (.alt 8 (.alt 3 (.alt 13 (.qp 14 (.alt 15 (.alt 16 (.qp 17 (.qp 18 .nil)) .fin) .fin)) .fin) (.alt 13 (.qp 14 (.alt 3 (.alt 15 (.alt 16 (.qp 17 (.qp 18 .nil)) .fin) .fin) (.alt 15 (.alt 3 (.alt 16 (.qp 17 (.qp 18 .nil)) .fin) .fin) .fin))) .fin)) (.alt 13 (.alt 3 (.alt 8 (.qp 14 (.alt 15 (.alt 16 (.qp 17 (.qp 18 .nil)) .fin) .fin)) .fin) (.alt 8 (.qp 14 (.alt 3 (.alt 15 (.alt 16 (.qp 17 (.qp 18 .nil)) .fin) .fin) (.alt 15 (.alt 3 (.alt 16 (.qp 17 (.qp 18 .nil)) .fin) .fin) .fin))) .fin)) .fin))) (.alt 8 (.alt 2 (.alt 3 (.alt 13 (.qp 14 (.alt 15 (.alt 16 (.qp 17 (.qp 18 .nil)) .fin) .fin)) .fin) (.alt 13 (.qp 14 (.alt 3 (.alt 15 (.alt 16 (.qp 17 (.qp 18 .nil)) .fin) .fin) (.alt 15 (.alt 3 (.alt 16 (.qp 17 (.qp 18 .nil)) .fin) .fin) .fin))) .fin)) (.alt 13 (.qp 14 (.alt 2 (.alt 3 (.alt 15 (.alt 16 (.qp 17 (.qp 18 .nil)) .fin) .fin) (.alt 15 (.alt 3 (.alt 16 (.qp 17 (.qp 18 .nil)) .fin) .fin) .fin)) (.alt 15 (.alt 2 (.alt 3 (.alt 16 (.qp 17 (.qp 18 .nil)) .fin) .fin) .fin) .fin))) .fin)) (.alt 13 (.alt 2 (.alt 3 (.alt 8 (.qp 14 (.alt 15 (.alt 16 (.qp 17 (.qp 18 .nil)) .fin) .fin)) .fin) (.alt 8 (.qp 14 (.alt 3 (.alt 15 (.alt 16 (.qp 17 (.qp 18 .nil)) .fin) .fin) (.alt 15 (.alt 3 (.alt 16 (.qp 17 (.qp 18 .nil)) .fin) .fin) .fin))) .fin)) (.alt 8 (.qp 14 (.alt 2 (.alt 3 (.alt 15 (.alt 16 (.qp 17 (.qp 18 .nil)) .fin) .fin) (.alt 15 (.alt 3 (.alt 16 (.qp 17 (.qp 18 .nil)) .fin) .fin) .fin)) (.alt 15 (.alt 2 (.alt 3 (.alt 16 (.qp 17 (.qp 18 .nil)) .fin) .fin) .fin) .fin))) .fin)) .fin))) .fin)))))))))))) mixed (by kernel_rfl) ?_
   intro w53 y3
   refine sm hO y3 fun s hO => ?_
   refine six1 1 hO H.2.2.1 H.2.2.2.1 ?_
   refine au ?_
   have h55 := H.1
   have h56 := H.2.1
   have h57 := H.2.2.1
   have h58 := H.2.2.2.1
   replace H := H.2.2.2.2
   obtain ⟨h59, H⟩ := H
   refine GoT.pure rfl (J06 rfl rfl (wrap_i64 h59)) rfl rfl ?_
   refine GoT.pure rfl (J3o underlying3 underlying5 rfl rfl) rfl rfl ?_
   refine GoT.both ?_ ?_
   ·skip
    skip
    refine sbu Fl.i 3 [(ix (ix a0.Next (ix fH (k1_15 : Int))) (k2_27 : Int))] hO fun w60 p61 s hO => ?_
    refine GoT.both ?_ ?_
    ·skip
     skip
     refine sfz 0 hO fun s hO NO Wn => ?_
     refine sap 2 hO NO.u H fun w65 p66 c67 s hO => ?_
     replace H := H.2
     refine GoT.both ?_ ?_
     ·skip
      skip
      refine sld1 1 hO h57 h58 ?_
      have hle68 := t1le 1 hO h57 h58
      skip
      refine sbu (Fl.int .u8) 5 [(IntKind.u8.wrap ((97 : Int) + (k2_27 : Int)))] hO fun w69 p70 s hO => ?_
      skip
      refine op1 0 hO fun Wo s hO vP => ?_
      have hle74 := J0v vP.bd
      refine GoT.step rfl ((oldBytes 0 hO rfl vP.u underlying126 underlying5 underlying9 rfl) _ (Same.refl _)) (Same.refl _) rfl rfl ?_
      obtain ⟨h75, H⟩ := H
      refine GoT.pure rfl (J0d rfl rfl h75) rfl rfl ?_
      skip
      refine sbu Fl.str 9 [((ix d_29 (k1_15 : Int)) ++ (byt ([(IntKind.u8.wrap ((97 : Int) + (k2_27 : Int)))])))] hO (fun w76 p77 s hO => ?_) (hE := fun _ _ => (Els.cons rfl ⟨rfl, (lenApp h75)⟩ (Els.nil _ _ _) (by simp [mx])))
      skip
      refine sfz 0 hO fun s hO my o3 => ?_
      refine sap 2 hO my H fun w81 p82 c83 s hO => ?_
      refine au ?_
      replace H := H.2
      obtain ⟨h84, H⟩ := H
      refine zo (J06 rfl rfl (wrap_i64 h84)) ?_
      refine au ?_
      refine cl1 (Fl.int .u8) 0 hO vP.u fun s hO => ?_
      refine sdr [0] hO fun s hO => ?_
      exact hX2 _ H _ _ agr ⟨_, _, _, _, _, _, ⟨agr, hO, fr⟩⟩
     skip
     refine sbu (Fl.int .u8) 5 [(IntKind.u8.wrap ((97 : Int) + (k2_27 : Int)))] hO fun w85 p86 s hO => ?_
     refine GoT.both ?_ ?_
     ·skip
      skip
      refine sld1 2 hO h57 h58 ?_
      have hle88 := t1le 2 hO h57 h58
      skip
      refine op1 0 hO fun Wp s hO kO => ?_
      have hle91 := J0v kO.bd
      refine GoT.step rfl ((oldBytes 0 hO rfl kO.u underlying126 underlying5 underlying9 rfl) _ (Same.refl _)) (Same.refl _) rfl rfl ?_
      obtain ⟨h92, H⟩ := H
      refine GoT.pure rfl (J0d rfl rfl h92) rfl rfl ?_
      skip
      refine sbu Fl.str 9 [((ix d_29 (k1_15 : Int)) ++ (byt ([(IntKind.u8.wrap ((97 : Int) + (k2_27 : Int)))])))] hO (fun w93 p94 s hO => ?_) (hE := fun _ _ => (Els.cons rfl ⟨rfl, (lenApp h92)⟩ (Els.nil _ _ _) (by simp [mx])))
      skip
      refine sfz 0 hO fun s hO nc vQ => ?_
      refine sap 2 hO nc H fun w98 p99 NP s hO => ?_
      refine au ?_
      replace H := H.2
      obtain ⟨mA, H⟩ := H
      refine zo (J06 rfl rfl (wrap_i64 mA)) ?_
      refine au ?_
      refine cl1 (Fl.int .u8) 0 hO kO.u fun s hO => ?_
      refine sdr [0] hO fun s hO => ?_
      exact hX2 _ H _ _ agr ⟨_, _, _, _, _, _, ⟨agr, hO, fr⟩⟩
     skip
     refine op1 0 hO fun RM s hO iu => ?_
     have hle104 := J0v iu.bd
     refine GoT.step rfl ((oldBytes 0 hO rfl iu.u underlying126 underlying5 underlying9 rfl) _ (Same.refl _)) (Same.refl _) rfl rfl ?_
     skip
     refine sld1 2 hO h57 h58 ?_
     have hle105 := t1le 2 hO h57 h58
     obtain ⟨jm, H⟩ := H
     refine GoT.pure rfl (J0d rfl rfl jm) rfl rfl ?_
     skip
     refine sbu Fl.str 9 [((ix d_29 (k1_15 : Int)) ++ (byt ([(IntKind.u8.wrap ((97 : Int) + (k2_27 : Int)))])))] hO (fun Wq Lk s hO => ?_) (hE := fun _ _ => (Els.cons rfl ⟨rfl, (lenApp jm)⟩ (Els.nil _ _ _) (by simp [mx])))
     skip
     refine sfz 0 hO fun s hO lJ RN => ?_
     refine sap 2 hO lJ.u H fun M6 M7 M8 s hO => ?_
     refine au ?_
     replace H := H.2
     obtain ⟨uI, H⟩ := H
     refine zo (J06 rfl rfl (wrap_i64 uI)) ?_
     refine au ?_
     refine cl1 (Fl.int .u8) 0 hO iu.u fun s hO => ?_
     refine sdr [0] hO fun s hO => ?_
     exact hX2 _ H _ _ agr ⟨_, _, _, _, _, _, ⟨agr, hO, fr⟩⟩
    refine GoT.both ?_ ?_
    ·skip
     skip
     refine sld1 2 hO h57 h58 ?_
     have hle116 := t1le 2 hO h57 h58
     refine GoT.both ?_ ?_
     ·skip
      skip
      refine sfz 0 hO fun s hO oC xo => ?_
      refine sap 2 hO oC H fun tH KW Ws s hO => ?_
      replace H := H.2
      skip
      refine sbu (Fl.int .u8) 5 [(IntKind.u8.wrap ((97 : Int) + (k2_27 : Int)))] hO fun vh NQ s hO => ?_
      skip
      refine op1 0 hO fun RO s hO jS => ?_
      have hle127 := J0v jS.bd
      refine GoT.step rfl ((oldBytes 0 hO rfl jS.u underlying126 underlying5 underlying9 rfl) _ (Same.refl _)) (Same.refl _) rfl rfl ?_
      obtain ⟨oF, H⟩ := H
      refine GoT.pure rfl (J0d rfl rfl oF) rfl rfl ?_
      skip
      refine sbu Fl.str 9 [((ix d_29 (k1_15 : Int)) ++ (byt ([(IntKind.u8.wrap ((97 : Int) + (k2_27 : Int)))])))] hO (fun yH mr s hO => ?_) (hE := fun _ _ => (Els.cons rfl ⟨rfl, (lenApp oF)⟩ (Els.nil _ _ _) (by simp [mx])))
      skip
      refine sfz 0 hO fun s hO FV RQ => ?_
      refine sap 2 hO FV H fun zd qz qA s hO => ?_
      refine au ?_
      replace H := H.2
      obtain ⟨NR, H⟩ := H
      refine zo (J06 rfl rfl (wrap_i64 NR)) ?_
      refine au ?_
      refine cl1 (Fl.int .u8) 0 hO jS.u fun s hO => ?_
      refine sdr [0] hO fun s hO => ?_
      exact hX2 _ H _ _ agr ⟨_, _, _, _, _, _, ⟨agr, hO, fr⟩⟩
     skip
     refine sbu (Fl.int .u8) 5 [(IntKind.u8.wrap ((97 : Int) + (k2_27 : Int)))] hO fun mt Wt s hO => ?_
     refine GoT.both ?_ ?_
     ·skip
      skip
      refine sfz 1 hO fun s hO FW RR => ?_
      refine sap 3 hO FW H fun KX KY Wu s hO => ?_
      replace H := H.2
      skip
      refine op1 0 hO fun RS s hO qB => ?_
      have hle148 := J0v qB.bd
      refine GoT.step rfl ((oldBytes 0 hO rfl qB.u underlying126 underlying5 underlying9 rfl) _ (Same.refl _)) (Same.refl _) rfl rfl ?_
      obtain ⟨Bx, H⟩ := H
      refine GoT.pure rfl (J0d rfl rfl Bx) rfl rfl ?_
      skip
      refine sbu Fl.str 9 [((ix d_29 (k1_15 : Int)) ++ (byt ([(IntKind.u8.wrap ((97 : Int) + (k2_27 : Int)))])))] hO (fun Ad Mz s hO => ?_) (hE := fun _ _ => (Els.cons rfl ⟨rfl, (lenApp Bx)⟩ (Els.nil _ _ _) (by simp [mx])))
      skip
      refine sfz 0 hO fun s hO FX RT => ?_
      refine sap 2 hO FX H fun yM Ly Lz s hO => ?_
      refine au ?_
      replace H := H.2
      obtain ⟨NS, H⟩ := H
      refine zo (J06 rfl rfl (wrap_i64 NS)) ?_
      refine au ?_
      refine cl1 (Fl.int .u8) 0 hO qB.u fun s hO => ?_
      refine sdr [0] hO fun s hO => ?_
      exact hX2 _ H _ _ agr ⟨_, _, _, _, _, _, ⟨agr, hO, fr⟩⟩
     replace H := (And.intro H.2.1 (And.intro H.1 (And.intro H.2.2.1 (And.intro H.2.2.2.1 H.2.2.2.2))))
     refine op1 0 hO fun RU s hO ik => ?_
     have hle161 := J0v ik.bd
     refine GoT.step rfl ((oldBytes 0 hO rfl ik.u underlying126 underlying5 underlying9 rfl) _ (Same.refl _)) (Same.refl _) rfl rfl ?_
     obtain ⟨vR, H⟩ := H
     refine GoT.pure rfl (J0d rfl rfl vR) rfl rfl ?_
     refine GoT.both ?_ ?_
     ·skip
      skip
      refine sfz 1 hO fun s hO pK RV => ?_
      refine sap 3 hO pK.u H fun Wv Ww Wx s hO => ?_
      replace H := H.2
      skip
      refine sbu Fl.str 9 [((ix d_29 (k1_15 : Int)) ++ (byt ([(IntKind.u8.wrap ((97 : Int) + (k2_27 : Int)))])))] hO (fun ug LA s hO => ?_) (hE := fun _ _ => (Els.cons rfl ⟨rfl, (lenApp vR)⟩ (Els.nil _ _ _) (by simp [mx])))
      skip
      refine sfz 0 hO fun s hO FY RW => ?_
      refine sap 2 hO FY H fun pU Wy Wz s hO => ?_
      refine au ?_
      replace H := H.2
      obtain ⟨NT, H⟩ := H
      refine zo (J06 rfl rfl (wrap_i64 NT)) ?_
      refine au ?_
      refine cl1 (Fl.int .u8) 0 hO ik.u fun s hO => ?_
      refine sdr [0] hO fun s hO => ?_
      exact hX2 _ H _ _ agr ⟨_, _, _, _, _, _, ⟨agr, hO, fr⟩⟩
     skip
     refine sbu Fl.str 9 [((ix d_29 (k1_15 : Int)) ++ (byt ([(IntKind.u8.wrap ((97 : Int) + (k2_27 : Int)))])))] hO (fun WA WB s hO => ?_) (hE := fun _ _ => (Els.cons rfl ⟨rfl, (lenApp vR)⟩ (Els.nil _ _ _) (by simp [mx])))
     skip
     refine sfz 2 hO fun s hO F0 RX => ?_
     refine sap 4 hO F0 H fun MF jx jy s hO => ?_
     replace H := H.2
     skip
     refine sfz 0 hO fun s hO F1 RY => ?_
     refine sap 2 hO F1 H fun yR WC WD s hO => ?_
     refine au ?_
     replace H := H.2
     obtain ⟨vS, H⟩ := H
     refine zo (J06 rfl rfl (wrap_i64 vS)) ?_
     refine au ?_
     refine cl1 (Fl.int .u8) 0 hO ik.u fun s hO => ?_
     refine sdr [0] hO fun s hO => ?_
     exact hX2 _ H _ _ agr ⟨_, _, _, _, _, _, ⟨agr, hO, fr⟩⟩
    skip
    refine sbu (Fl.int .u8) 5 [(IntKind.u8.wrap ((97 : Int) + (k2_27 : Int)))] hO fun tK MG s hO => ?_
    refine GoT.both ?_ ?_
    ·skip
     skip
     refine sfz 1 hO fun s hO F2 R2 => ?_
     refine sap 3 hO F2 H fun zE zF NU s hO => ?_
     replace H := H.2
     refine GoT.both ?_ ?_
     ·skip
      skip
      refine sld1 2 hO h57 h58 ?_
      have hle199 := t1le 2 hO h57 h58
      skip
      refine op1 0 hO fun R3 s hO qC => ?_
      have hle202 := J0v qC.bd
      refine GoT.step rfl ((oldBytes 0 hO rfl qC.u underlying126 underlying5 underlying9 rfl) _ (Same.refl _)) (Same.refl _) rfl rfl ?_
      obtain ⟨qD, H⟩ := H
      refine GoT.pure rfl (J0d rfl rfl qD) rfl rfl ?_
      skip
      refine sbu Fl.str 9 [((ix d_29 (k1_15 : Int)) ++ (byt ([(IntKind.u8.wrap ((97 : Int) + (k2_27 : Int)))])))] hO (fun yX WE s hO => ?_) (hE := fun _ _ => (Els.cons rfl ⟨rfl, (lenApp qD)⟩ (Els.nil _ _ _) (by simp [mx])))
      skip
      refine sfz 0 hO fun s hO oM xt => ?_
      refine sap 2 hO oM H fun LH LI LJ s hO => ?_
      refine au ?_
      replace H := H.2
      obtain ⟨By, H⟩ := H
      refine zo (J06 rfl rfl (wrap_i64 By)) ?_
      refine au ?_
      refine cl1 (Fl.int .u8) 0 hO qC.u fun s hO => ?_
      refine sdr [0] hO fun s hO => ?_
      exact hX2 _ H _ _ agr ⟨_, _, _, _, _, _, ⟨agr, hO, fr⟩⟩
     skip
     refine op1 0 hO fun xU s hO i9 => ?_
     have hle215 := J0v i9.bd
     refine GoT.step rfl ((oldBytes 0 hO rfl i9.u underlying126 underlying5 underlying9 rfl) _ (Same.refl _)) (Same.refl _) rfl rfl ?_
     skip
     refine sld1 2 hO h57 h58 ?_
     have hle216 := t1le 2 hO h57 h58
     obtain ⟨Bz, H⟩ := H
     refine GoT.pure rfl (J0d rfl rfl Bz) rfl rfl ?_
     skip
     refine sbu Fl.str 9 [((ix d_29 (k1_15 : Int)) ++ (byt ([(IntKind.u8.wrap ((97 : Int) + (k2_27 : Int)))])))] hO (fun WF WG s hO => ?_) (hE := fun _ _ => (Els.cons rfl ⟨rfl, (lenApp Bz)⟩ (Els.nil _ _ _) (by simp [mx])))
     skip
     refine sfz 0 hO fun s hO F3 R4 => ?_
     refine sap 2 hO F3.u H fun WH WI WJ s hO => ?_
     refine au ?_
     replace H := H.2
     obtain ⟨vj, H⟩ := H
     refine zo (J06 rfl rfl (wrap_i64 vj)) ?_
     refine au ?_
     refine cl1 (Fl.int .u8) 0 hO i9.u fun s hO => ?_
     refine sdr [0] hO fun s hO => ?_
     exact hX2 _ H _ _ agr ⟨_, _, _, _, _, _, ⟨agr, hO, fr⟩⟩
    refine GoT.both ?_ ?_
    ·skip
     skip
     refine sld1 3 hO h57 h58 ?_
     have hle227 := t1le 3 hO h57 h58
     refine GoT.both ?_ ?_
     ·skip
      skip
      refine sfz 1 hO fun s hO F4 R5 => ?_
      refine sap 3 hO F4 H fun uL NV WK s hO => ?_
      replace H := H.2
      skip
      refine op1 0 hO fun R6 s hO qE => ?_
      have hle235 := J0v qE.bd
      refine GoT.step rfl ((oldBytes 0 hO rfl qE.u underlying126 underlying5 underlying9 rfl) _ (Same.refl _)) (Same.refl _) rfl rfl ?_
      obtain ⟨BA, H⟩ := H
      refine GoT.pure rfl (J0d rfl rfl BA) rfl rfl ?_
      skip
      refine sbu Fl.str 9 [((ix d_29 (k1_15 : Int)) ++ (byt ([(IntKind.u8.wrap ((97 : Int) + (k2_27 : Int)))])))] hO (fun uh WL s hO => ?_) (hE := fun _ _ => (Els.cons rfl ⟨rfl, (lenApp BA)⟩ (Els.nil _ _ _) (by simp [mx])))
      skip
      refine sfz 0 hO fun s hO F5 R7 => ?_
      refine sap 2 hO F5 H fun AT mF mG s hO => ?_
      refine au ?_
      replace H := H.2
      obtain ⟨NW, H⟩ := H
      refine zo (J06 rfl rfl (wrap_i64 NW)) ?_
      refine au ?_
      refine cl1 (Fl.int .u8) 0 hO qE.u fun s hO => ?_
      refine sdr [0] hO fun s hO => ?_
      exact hX2 _ H _ _ agr ⟨_, _, _, _, _, _, ⟨agr, hO, fr⟩⟩
     replace H := (And.intro H.2.1 (And.intro H.1 (And.intro H.2.2.1 (And.intro H.2.2.2.1 H.2.2.2.2))))
     refine op1 0 hO fun R8 s hO lQ => ?_
     have hle248 := J0v lQ.bd
     refine GoT.step rfl ((oldBytes 0 hO rfl lQ.u underlying126 underlying5 underlying9 rfl) _ (Same.refl _)) (Same.refl _) rfl rfl ?_
     obtain ⟨ne, H⟩ := H
     refine GoT.pure rfl (J0d rfl rfl ne) rfl rfl ?_
     refine GoT.both ?_ ?_
     ·skip
      skip
      refine sfz 1 hO fun s hO F6 R9 => ?_
      refine sap 3 hO F6.u H fun WM WN WO s hO => ?_
      replace H := H.2
      skip
      refine sbu Fl.str 9 [((ix d_29 (k1_15 : Int)) ++ (byt ([(IntKind.u8.wrap ((97 : Int) + (k2_27 : Int)))])))] hO (fun vk WP s hO => ?_) (hE := fun _ _ => (Els.cons rfl ⟨rfl, (lenApp ne)⟩ (Els.nil _ _ _) (by simp [mx])))
      skip
      refine sfz 0 hO fun s hO F7 Sa => ?_
      refine sap 2 hO F7 H fun WQ WR WS s hO => ?_
      refine au ?_
      replace H := H.2
      obtain ⟨vm, H⟩ := H
      refine zo (J06 rfl rfl (wrap_i64 vm)) ?_
      refine au ?_
      refine cl1 (Fl.int .u8) 0 hO lQ.u fun s hO => ?_
      refine sdr [0] hO fun s hO => ?_
      exact hX2 _ H _ _ agr ⟨_, _, _, _, _, _, ⟨agr, hO, fr⟩⟩
     skip
     refine sbu Fl.str 9 [((ix d_29 (k1_15 : Int)) ++ (byt ([(IntKind.u8.wrap ((97 : Int) + (k2_27 : Int)))])))] hO (fun Nm Nn s hO => ?_) (hE := fun _ _ => (Els.cons rfl ⟨rfl, (lenApp ne)⟩ (Els.nil _ _ _) (by simp [mx])))
     skip
     refine sfz 2 hO fun s hO F8 Sb => ?_
     refine sap 4 hO F8 H fun BB WT WU s hO => ?_
     replace H := H.2
     skip
     refine sfz 0 hO fun s hO qF lR => ?_
     refine sap 2 hO qF H fun WW WX WY s hO => ?_
     refine au ?_
     replace H := H.2
     obtain ⟨NX, H⟩ := H
     refine zo (J06 rfl rfl (wrap_i64 NX)) ?_
     refine au ?_
     refine cl1 (Fl.int .u8) 0 hO lQ.u fun s hO => ?_
     refine sdr [0] hO fun s hO => ?_
     exact hX2 _ H _ _ agr ⟨_, _, _, _, _, _, ⟨agr, hO, fr⟩⟩
    skip
    refine op1 0 hO fun F9 s hO jW => ?_
    have hle280 := J0v jW.bd
    refine GoT.step rfl ((oldBytes 0 hO rfl jW.u underlying126 underlying5 underlying9 rfl) _ (Same.refl _)) (Same.refl _) rfl rfl ?_
    refine GoT.both ?_ ?_
    ·skip
     skip
     refine sfz 1 hO fun s hO qc xX => ?_
     refine sap 3 hO qc H fun zN W0 W1 s hO => ?_
     replace H := H.2
     skip
     refine sld1 2 hO h57 h58 ?_
     have hle286 := t1le 2 hO h57 h58
     obtain ⟨qd, H⟩ := H
     refine GoT.pure rfl (J0d rfl rfl qd) rfl rfl ?_
     skip
     refine sbu Fl.str 9 [((ix d_29 (k1_15 : Int)) ++ (byt ([(IntKind.u8.wrap ((97 : Int) + (k2_27 : Int)))])))] hO (fun vo NY s hO => ?_) (hE := fun _ _ => (Els.cons rfl ⟨rfl, (lenApp qd)⟩ (Els.nil _ _ _) (by simp [mx])))
     skip
     refine sfz 0 hO fun s hO Ga Sc => ?_
     refine sap 2 hO Ga.u H fun uG LX LY s hO => ?_
     refine au ?_
     replace H := H.2
     obtain ⟨iP, H⟩ := H
     refine zo (J06 rfl rfl (wrap_i64 iP)) ?_
     refine au ?_
     refine cl1 (Fl.int .u8) 0 hO jW.u fun s hO => ?_
     refine sdr [0] hO fun s hO => ?_
     exact hX2 _ H _ _ agr ⟨_, _, _, _, _, _, ⟨agr, hO, fr⟩⟩
    replace H := (And.intro H.2.1 (And.intro H.1 (And.intro H.2.2.1 (And.intro H.2.2.2.1 H.2.2.2.2))))
    refine sld1 3 hO h57 h58 ?_
    have hle297 := t1le 3 hO h57 h58
    obtain ⟨vT, H⟩ := H
    refine GoT.pure rfl (J0d rfl rfl vT) rfl rfl ?_
    refine GoT.both ?_ ?_
    ·skip
     skip
     refine sfz 1 hO fun s hO Gb xY => ?_
     refine sap 3 hO Gb.u H fun W2 W3 W4 s hO => ?_
     replace H := H.2
     skip
     refine sbu Fl.str 9 [((ix d_29 (k1_15 : Int)) ++ (byt ([(IntKind.u8.wrap ((97 : Int) + (k2_27 : Int)))])))] hO (fun W5 W6 s hO => ?_) (hE := fun _ _ => (Els.cons rfl ⟨rfl, (lenApp vT)⟩ (Els.nil _ _ _) (by simp [mx])))
     skip
     refine sfz 0 hO fun s hO Gc Sd => ?_
     refine sap 2 hO Gc H fun Nu W7 W8 s hO => ?_
     refine au ?_
     replace H := H.2
     obtain ⟨qh, H⟩ := H
     refine zo (J06 rfl rfl (wrap_i64 qh)) ?_
     refine au ?_
     refine cl1 (Fl.int .u8) 0 hO jW.u fun s hO => ?_
     refine sdr [0] hO fun s hO => ?_
     exact hX2 _ H _ _ agr ⟨_, _, _, _, _, _, ⟨agr, hO, fr⟩⟩
    skip
    refine sbu Fl.str 9 [((ix d_29 (k1_15 : Int)) ++ (byt ([(IntKind.u8.wrap ((97 : Int) + (k2_27 : Int)))])))] hO (fun pD L7 s hO => ?_) (hE := fun _ _ => (Els.cons rfl ⟨rfl, (lenApp vT)⟩ (Els.nil _ _ _) (by simp [mx])))
    skip
    refine sfz 2 hO fun s hO qG Gd => ?_
    refine sap 4 hO qG H fun N1 N2 N3 s hO => ?_
    replace H := H.2
    skip
    refine sfz 0 hO fun s hO Ge Se => ?_
    refine sap 2 hO Ge H fun L9 Ma Mc s hO => ?_
    refine au ?_
    replace H := H.2
    obtain ⟨A8, H⟩ := H
    refine zo (J06 rfl rfl (wrap_i64 A8)) ?_
    refine au ?_
    refine cl1 (Fl.int .u8) 0 hO jW.u fun s hO => ?_
    refine sdr [0] hO fun s hO => ?_
    exact hX2 _ H _ _ agr ⟨_, _, _, _, _, _, ⟨agr, hO, fr⟩⟩
   refine GoT.both ?_ ?_
   ·skip
    skip
    refine sld1 1 hO h57 h58 ?_
    have hle327 := t1le 1 hO h57 h58
    refine GoT.both ?_ ?_
    ·skip
     skip
     refine sbu Fl.i 3 [(ix (ix a0.Next (ix fH (k1_15 : Int))) (k2_27 : Int))] hO fun N4 W9 s hO => ?_
     refine GoT.both ?_ ?_
     ·skip
      skip
      refine sfz 0 hO fun s hO Gf Sf => ?_
      refine sap 2 hO Gf H fun A9 Xa Xb s hO => ?_
      replace H := H.2
      skip
      refine sbu (Fl.int .u8) 5 [(IntKind.u8.wrap ((97 : Int) + (k2_27 : Int)))] hO fun Mg Mh s hO => ?_
      skip
      refine op1 0 hO fun Sh s hO qH => ?_
      have hle341 := J0v qH.bd
      refine GoT.step rfl ((oldBytes 0 hO rfl qH.u underlying126 underlying5 underlying9 rfl) _ (Same.refl _)) (Same.refl _) rfl rfl ?_
      obtain ⟨BC, H⟩ := H
      refine GoT.pure rfl (J0d rfl rfl BC) rfl rfl ?_
      skip
      refine sbu Fl.str 9 [((ix d_29 (k1_15 : Int)) ++ (byt ([(IntKind.u8.wrap ((97 : Int) + (k2_27 : Int)))])))] hO (fun z5 N5 s hO => ?_) (hE := fun _ _ => (Els.cons rfl ⟨rfl, (lenApp BC)⟩ (Els.nil _ _ _) (by simp [mx])))
      skip
      refine sfz 0 hO fun s hO Gg Si => ?_
      refine sap 2 hO Gg H fun Mj Mk Ml s hO => ?_
      refine au ?_
      replace H := H.2
      obtain ⟨BD, H⟩ := H
      refine zo (J06 rfl rfl (wrap_i64 BD)) ?_
      refine au ?_
      refine cl1 (Fl.int .u8) 0 hO qH.u fun s hO => ?_
      refine sdr [0] hO fun s hO => ?_
      exact hX2 _ H _ _ agr ⟨_, _, _, _, _, _, ⟨agr, hO, fr⟩⟩
     skip
     refine sbu (Fl.int .u8) 5 [(IntKind.u8.wrap ((97 : Int) + (k2_27 : Int)))] hO fun Xc Xd s hO => ?_
     refine GoT.both ?_ ?_
     ·skip
      skip
      refine sfz 1 hO fun s hO Gh Sj => ?_
      refine sap 3 hO Gh H fun Xe Xf Xg s hO => ?_
      replace H := H.2
      skip
      refine op1 0 hO fun Sk s hO qI => ?_
      have hle362 := J0v qI.bd
      refine GoT.step rfl ((oldBytes 0 hO rfl qI.u underlying126 underlying5 underlying9 rfl) _ (Same.refl _)) (Same.refl _) rfl rfl ?_
      obtain ⟨BE, H⟩ := H
      refine GoT.pure rfl (J0d rfl rfl BE) rfl rfl ?_
      skip
      refine sbu Fl.str 9 [((ix d_29 (k1_15 : Int)) ++ (byt ([(IntKind.u8.wrap ((97 : Int) + (k2_27 : Int)))])))] hO (fun Xh Xi s hO => ?_) (hE := fun _ _ => (Els.cons rfl ⟨rfl, (lenApp BE)⟩ (Els.nil _ _ _) (by simp [mx])))
      skip
      refine sfz 0 hO fun s hO Gi Sl => ?_
      refine sap 2 hO Gi H fun N6 N7 N8 s hO => ?_
      refine au ?_
      replace H := H.2
      obtain ⟨N9, H⟩ := H
      refine zo (J06 rfl rfl (wrap_i64 N9)) ?_
      refine au ?_
      refine cl1 (Fl.int .u8) 0 hO qI.u fun s hO => ?_
      refine sdr [0] hO fun s hO => ?_
      exact hX2 _ H _ _ agr ⟨_, _, _, _, _, _, ⟨agr, hO, fr⟩⟩
     replace H := (And.intro H.2.1 (And.intro H.1 (And.intro H.2.2.1 (And.intro H.2.2.2.1 H.2.2.2.2))))
     refine op1 0 hO fun Sm s hO lT => ?_
     have hle375 := J0v lT.bd
     refine GoT.step rfl ((oldBytes 0 hO rfl lT.u underlying126 underlying5 underlying9 rfl) _ (Same.refl _)) (Same.refl _) rfl rfl ?_
     obtain ⟨qi, H⟩ := H
     refine GoT.pure rfl (J0d rfl rfl qi) rfl rfl ?_
     refine GoT.both ?_ ?_
     ·skip
      skip
      refine sfz 1 hO fun s hO Gj Sn => ?_
      refine sap 3 hO Gj.u H fun Xj Xk Xl s hO => ?_
      replace H := H.2
      skip
      refine sbu Fl.str 9 [((ix d_29 (k1_15 : Int)) ++ (byt ([(IntKind.u8.wrap ((97 : Int) + (k2_27 : Int)))])))] hO (fun Oa Xm s hO => ?_) (hE := fun _ _ => (Els.cons rfl ⟨rfl, (lenApp qi)⟩ (Els.nil _ _ _) (by simp [mx])))
      skip
      refine sfz 0 hO fun s hO Gk So => ?_
      refine sap 2 hO Gk H fun Xo Xp Xq s hO => ?_
      refine au ?_
      replace H := H.2
      obtain ⟨Ob, H⟩ := H
      refine zo (J06 rfl rfl (wrap_i64 Ob)) ?_
      refine au ?_
      refine cl1 (Fl.int .u8) 0 hO lT.u fun s hO => ?_
      refine sdr [0] hO fun s hO => ?_
      exact hX2 _ H _ _ agr ⟨_, _, _, _, _, _, ⟨agr, hO, fr⟩⟩
     skip
     refine sbu Fl.str 9 [((ix d_29 (k1_15 : Int)) ++ (byt ([(IntKind.u8.wrap ((97 : Int) + (k2_27 : Int)))])))] hO (fun Xr Xs s hO => ?_) (hE := fun _ _ => (Els.cons rfl ⟨rfl, (lenApp qi)⟩ (Els.nil _ _ _) (by simp [mx])))
     skip
     refine sfz 2 hO fun s hO Gl Sp => ?_
     refine sap 4 hO Gl H fun Oc Xt Xu s hO => ?_
     replace H := H.2
     skip
     refine sfz 0 hO fun s hO jX lU => ?_
     refine sap 2 hO jX H fun Xv Xw Xx s hO => ?_
     refine au ?_
     replace H := H.2
     obtain ⟨Od, H⟩ := H
     refine zo (J06 rfl rfl (wrap_i64 Od)) ?_
     refine au ?_
     refine cl1 (Fl.int .u8) 0 hO lT.u fun s hO => ?_
     refine sdr [0] hO fun s hO => ?_
     exact hX2 _ H _ _ agr ⟨_, _, _, _, _, _, ⟨agr, hO, fr⟩⟩
    skip
    refine sbu (Fl.int .u8) 5 [(IntKind.u8.wrap ((97 : Int) + (k2_27 : Int)))] hO fun Xy Xz s hO => ?_
    refine GoT.both ?_ ?_
    ·skip
     skip
     refine sbu Fl.i 3 [(ix (ix a0.Next (ix fH (k1_15 : Int))) (k2_27 : Int))] hO fun XA XB s hO => ?_
     refine GoT.both ?_ ?_
     ·skip
      skip
      refine sfz 0 hO fun s hO Gm Sr => ?_
      refine sap 3 hO Gm H fun ND XC XD s hO => ?_
      replace H := H.2
      skip
      refine op1 0 hO fun Ss s hO qJ => ?_
      have hle418 := J0v qJ.bd
      refine GoT.step rfl ((oldBytes 0 hO rfl qJ.u underlying126 underlying5 underlying9 rfl) _ (Same.refl _)) (Same.refl _) rfl rfl ?_
      obtain ⟨BG, H⟩ := H
      refine GoT.pure rfl (J0d rfl rfl BG) rfl rfl ?_
      skip
      refine sbu Fl.str 9 [((ix d_29 (k1_15 : Int)) ++ (byt ([(IntKind.u8.wrap ((97 : Int) + (k2_27 : Int)))])))] hO (fun XE XF s hO => ?_) (hE := fun _ _ => (Els.cons rfl ⟨rfl, (lenApp BG)⟩ (Els.nil _ _ _) (by simp [mx])))
      skip
      refine sfz 0 hO fun s hO Gn St => ?_
      refine sap 2 hO Gn H fun XG XH XJ s hO => ?_
      refine au ?_
      replace H := H.2
      obtain ⟨Oe, H⟩ := H
      refine zo (J06 rfl rfl (wrap_i64 Oe)) ?_
      refine au ?_
      refine cl1 (Fl.int .u8) 0 hO qJ.u fun s hO => ?_
      refine sdr [0] hO fun s hO => ?_
      exact hX2 _ H _ _ agr ⟨_, _, _, _, _, _, ⟨agr, hO, fr⟩⟩
     replace H := (And.intro H.2.1 (And.intro H.1 (And.intro H.2.2.1 (And.intro H.2.2.2.1 H.2.2.2.2))))
     refine op1 1 hO fun Su s hO lV => ?_
     have hle431 := J0v lV.bd
     refine GoT.step rfl ((oldBytes 1 hO rfl lV.u underlying126 underlying5 underlying9 rfl) _ (Same.refl _)) (Same.refl _) rfl rfl ?_
     obtain ⟨vU, H⟩ := H
     refine GoT.pure rfl (J0d rfl rfl vU) rfl rfl ?_
     refine GoT.both ?_ ?_
     ·skip
      skip
      refine sfz 0 hO fun s hO ql Sv => ?_
      refine sap 3 hO ql.u H fun XK XL XM s hO => ?_
      replace H := H.2
      skip
      refine sbu Fl.str 9 [((ix d_29 (k1_15 : Int)) ++ (byt ([(IntKind.u8.wrap ((97 : Int) + (k2_27 : Int)))])))] hO (fun XN XO s hO => ?_) (hE := fun _ _ => (Els.cons rfl ⟨rfl, (lenApp vU)⟩ (Els.nil _ _ _) (by simp [mx])))
      skip
      refine sfz 0 hO fun s hO Gp Sw => ?_
      refine sap 2 hO Gp H fun NF XP XQ s hO => ?_
      refine au ?_
      replace H := H.2
      obtain ⟨Og, H⟩ := H
      refine zo (J06 rfl rfl (wrap_i64 Og)) ?_
      refine au ?_
      refine cl1 (Fl.int .u8) 0 hO lV.u fun s hO => ?_
      refine sdr [0] hO fun s hO => ?_
      exact hX2 _ H _ _ agr ⟨_, _, _, _, _, _, ⟨agr, hO, fr⟩⟩
     skip
     refine sbu Fl.str 9 [((ix d_29 (k1_15 : Int)) ++ (byt ([(IntKind.u8.wrap ((97 : Int) + (k2_27 : Int)))])))] hO (fun NG XR s hO => ?_) (hE := fun _ _ => (Els.cons rfl ⟨rfl, (lenApp vU)⟩ (Els.nil _ _ _) (by simp [mx])))
     skip
     refine sfz 1 hO fun s hO Gq Sx => ?_
     refine sap 4 hO Gq H fun XS XT XU s hO => ?_
     replace H := H.2
     skip
     refine sfz 0 hO fun s hO qo xW => ?_
     refine sap 2 hO qo H fun XV XW XX s hO => ?_
     refine au ?_
     replace H := H.2
     obtain ⟨Oh, H⟩ := H
     refine zo (J06 rfl rfl (wrap_i64 Oh)) ?_
     refine au ?_
     refine cl1 (Fl.int .u8) 0 hO lV.u fun s hO => ?_
     refine sdr [0] hO fun s hO => ?_
     exact hX2 _ H _ _ agr ⟨_, _, _, _, _, _, ⟨agr, hO, fr⟩⟩
    replace H := (And.intro H.2.1 (And.intro H.1 (And.intro H.2.2.1 (And.intro H.2.2.2.1 H.2.2.2.2))))
    refine op1 0 hO fun Sy s hO jY => ?_
    have hle463 := J0v jY.bd
    refine GoT.step rfl ((oldBytes 0 hO rfl jY.u underlying126 underlying5 underlying9 rfl) _ (Same.refl _)) (Same.refl _) rfl rfl ?_
    obtain ⟨qK, H⟩ := H
    refine GoT.pure rfl (J0d rfl rfl qK) rfl rfl ?_
    refine GoT.both ?_ ?_
    ·skip
     skip
     refine sbu Fl.i 3 [(ix (ix a0.Next (ix fH (k1_15 : Int))) (k2_27 : Int))] hO fun XY X0 s hO => ?_
     refine GoT.both ?_ ?_
     ·skip
      skip
      refine sfz 0 hO fun s hO Gr Sz => ?_
      refine sap 3 hO Gr.u H fun NH Ya Yb s hO => ?_
      replace H := H.2
      skip
      refine sbu Fl.str 9 [((ix d_29 (k1_15 : Int)) ++ (byt ([(IntKind.u8.wrap ((97 : Int) + (k2_27 : Int)))])))] hO (fun Yc Yd s hO => ?_) (hE := fun _ _ => (Els.cons rfl ⟨rfl, (lenApp qK)⟩ (Els.nil _ _ _) (by simp [mx])))
      skip
      refine sfz 0 hO fun s hO Gs SA => ?_
      refine sap 2 hO Gs H fun Ye Yf Yg s hO => ?_
      refine au ?_
      replace H := H.2
      obtain ⟨Oi, H⟩ := H
      refine zo (J06 rfl rfl (wrap_i64 Oi)) ?_
      refine au ?_
      refine cl1 (Fl.int .u8) 0 hO jY.u fun s hO => ?_
      refine sdr [0] hO fun s hO => ?_
      exact hX2 _ H _ _ agr ⟨_, _, _, _, _, _, ⟨agr, hO, fr⟩⟩
     skip
     refine sbu Fl.str 9 [((ix d_29 (k1_15 : Int)) ++ (byt ([(IntKind.u8.wrap ((97 : Int) + (k2_27 : Int)))])))] hO (fun Yh Yi s hO => ?_) (hE := fun _ _ => (Els.cons rfl ⟨rfl, (lenApp qK)⟩ (Els.nil _ _ _) (by simp [mx])))
     skip
     refine sfz 1 hO fun s hO Gt SB => ?_
     refine sap 4 hO Gt H fun Yj Yk Yl s hO => ?_
     replace H := H.2
     skip
     refine sfz 0 hO fun s hO Gz SC => ?_
     refine sap 2 hO Gz H fun Ym Yn Yo s hO => ?_
     refine au ?_
     replace H := H.2
     obtain ⟨Oj, H⟩ := H
     refine zo (J06 rfl rfl (wrap_i64 Oj)) ?_
     refine au ?_
     refine cl1 (Fl.int .u8) 0 hO jY.u fun s hO => ?_
     refine sdr [0] hO fun s hO => ?_
     exact hX2 _ H _ _ agr ⟨_, _, _, _, _, _, ⟨agr, hO, fr⟩⟩
    skip
    refine sbu Fl.str 9 [((ix d_29 (k1_15 : Int)) ++ (byt ([(IntKind.u8.wrap ((97 : Int) + (k2_27 : Int)))])))] hO (fun Yp Yq s hO => ?_) (hE := fun _ _ => (Els.cons rfl ⟨rfl, (lenApp qK)⟩ (Els.nil _ _ _) (by simp [mx])))
    skip
    refine sbu Fl.i 3 [(ix (ix a0.Next (ix fH (k1_15 : Int))) (k2_27 : Int))] hO fun Yr Ys s hO => ?_
    skip
    refine sfz 0 hO fun s hO GA SD => ?_
    refine sap 4 hO GA H fun Yt Yu Yv s hO => ?_
    replace H := H.2
    skip
    refine sfz 0 hO fun s hO GB SE => ?_
    refine sap 2 hO GB H fun Yw Yx Yy s hO => ?_
    refine au ?_
    replace H := H.2
    obtain ⟨Ok, H⟩ := H
    refine zo (J06 rfl rfl (wrap_i64 Ok)) ?_
    refine au ?_
    refine cl1 (Fl.int .u8) 0 hO jY.u fun s hO => ?_
    refine sdr [0] hO fun s hO => ?_
    exact hX2 _ H _ _ agr ⟨_, _, _, _, _, _, ⟨agr, hO, fr⟩⟩
   skip
   refine sbu (Fl.int .u8) 5 [(IntKind.u8.wrap ((97 : Int) + (k2_27 : Int)))] hO fun Yz YA s hO => ?_
   refine GoT.both ?_ ?_
   ·skip
    skip
    refine sbu Fl.i 3 [(ix (ix a0.Next (ix fH (k1_15 : Int))) (k2_27 : Int))] hO fun YB YC s hO => ?_
    refine GoT.both ?_ ?_
    ·skip
     skip
     refine sfz 0 hO fun s hO GC SF => ?_
     refine sap 3 hO GC H fun YE YF YG s hO => ?_
     replace H := H.2
     refine GoT.both ?_ ?_
     ·skip
      skip
      refine sld1 2 hO h57 h58 ?_
      have hle524 := t1le 2 hO h57 h58
      skip
      refine op1 0 hO fun SG s hO qL => ?_
      have hle527 := J0v qL.bd
      refine GoT.step rfl ((oldBytes 0 hO rfl qL.u underlying126 underlying5 underlying9 rfl) _ (Same.refl _)) (Same.refl _) rfl rfl ?_
      obtain ⟨BH, H⟩ := H
      refine GoT.pure rfl (J0d rfl rfl BH) rfl rfl ?_
      skip
      refine sbu Fl.str 9 [((ix d_29 (k1_15 : Int)) ++ (byt ([(IntKind.u8.wrap ((97 : Int) + (k2_27 : Int)))])))] hO (fun YH YJ s hO => ?_) (hE := fun _ _ => (Els.cons rfl ⟨rfl, (lenApp BH)⟩ (Els.nil _ _ _) (by simp [mx])))
      skip
      refine sfz 0 hO fun s hO GD SJ => ?_
      refine sap 2 hO GD H fun YK YL YM s hO => ?_
      refine au ?_
      replace H := H.2
      obtain ⟨Ol, H⟩ := H
      refine zo (J06 rfl rfl (wrap_i64 Ol)) ?_
      refine au ?_
      refine cl1 (Fl.int .u8) 0 hO qL.u fun s hO => ?_
      refine sdr [0] hO fun s hO => ?_
      exact hX2 _ H _ _ agr ⟨_, _, _, _, _, _, ⟨agr, hO, fr⟩⟩
     skip
     refine op1 0 hO fun SK s hO qM => ?_
     have hle540 := J0v qM.bd
     refine GoT.step rfl ((oldBytes 0 hO rfl qM.u underlying126 underlying5 underlying9 rfl) _ (Same.refl _)) (Same.refl _) rfl rfl ?_
     skip
     refine sld1 2 hO h57 h58 ?_
     have hle541 := t1le 2 hO h57 h58
     obtain ⟨BJ, H⟩ := H
     refine GoT.pure rfl (J0d rfl rfl BJ) rfl rfl ?_
     skip
     refine sbu Fl.str 9 [((ix d_29 (k1_15 : Int)) ++ (byt ([(IntKind.u8.wrap ((97 : Int) + (k2_27 : Int)))])))] hO (fun YN YO s hO => ?_) (hE := fun _ _ => (Els.cons rfl ⟨rfl, (lenApp BJ)⟩ (Els.nil _ _ _) (by simp [mx])))
     skip
     refine sfz 0 hO fun s hO GE SM => ?_
     refine sap 2 hO GE.u H fun YP YQ YR s hO => ?_
     refine au ?_
     replace H := H.2
     obtain ⟨Om, H⟩ := H
     refine zo (J06 rfl rfl (wrap_i64 Om)) ?_
     refine au ?_
     refine cl1 (Fl.int .u8) 0 hO qM.u fun s hO => ?_
     refine sdr [0] hO fun s hO => ?_
     exact hX2 _ H _ _ agr ⟨_, _, _, _, _, _, ⟨agr, hO, fr⟩⟩
    refine GoT.both ?_ ?_
    ·skip
     skip
     refine sld1 3 hO h57 h58 ?_
     have hle552 := t1le 3 hO h57 h58
     refine GoT.both ?_ ?_
     ·skip
      skip
      refine sfz 0 hO fun s hO GF SN => ?_
      refine sap 3 hO GF H fun YS YT YU s hO => ?_
      replace H := H.2
      skip
      refine op1 0 hO fun SO s hO qN => ?_
      have hle560 := J0v qN.bd
      refine GoT.step rfl ((oldBytes 0 hO rfl qN.u underlying126 underlying5 underlying9 rfl) _ (Same.refl _)) (Same.refl _) rfl rfl ?_
      obtain ⟨BK, H⟩ := H
      refine GoT.pure rfl (J0d rfl rfl BK) rfl rfl ?_
      skip
      refine sbu Fl.str 9 [((ix d_29 (k1_15 : Int)) ++ (byt ([(IntKind.u8.wrap ((97 : Int) + (k2_27 : Int)))])))] hO (fun YV YW s hO => ?_) (hE := fun _ _ => (Els.cons rfl ⟨rfl, (lenApp BK)⟩ (Els.nil _ _ _) (by simp [mx])))
      skip
      refine sfz 0 hO fun s hO GG SP => ?_
      refine sap 2 hO GG H fun YX YY Y0 s hO => ?_
      refine au ?_
      replace H := H.2
      obtain ⟨Oo, H⟩ := H
      refine zo (J06 rfl rfl (wrap_i64 Oo)) ?_
      refine au ?_
      refine cl1 (Fl.int .u8) 0 hO qN.u fun s hO => ?_
      refine sdr [0] hO fun s hO => ?_
      exact hX2 _ H _ _ agr ⟨_, _, _, _, _, _, ⟨agr, hO, fr⟩⟩
     replace H := (And.intro H.2.1 (And.intro H.1 (And.intro H.2.2.1 (And.intro H.2.2.2.1 H.2.2.2.2))))
     refine op1 1 hO fun SQ s hO lW => ?_
     have hle573 := J0v lW.bd
     refine GoT.step rfl ((oldBytes 1 hO rfl lW.u underlying126 underlying5 underlying9 rfl) _ (Same.refl _)) (Same.refl _) rfl rfl ?_
     obtain ⟨vV, H⟩ := H
     refine GoT.pure rfl (J0d rfl rfl vV) rfl rfl ?_
     refine GoT.both ?_ ?_
     ·skip
      skip
      refine sfz 0 hO fun s hO GH SR => ?_
      refine sap 3 hO GH.u H fun Y1 Y2 Y3 s hO => ?_
      replace H := H.2
      skip
      refine sbu Fl.str 9 [((ix d_29 (k1_15 : Int)) ++ (byt ([(IntKind.u8.wrap ((97 : Int) + (k2_27 : Int)))])))] hO (fun Y4 Y5 s hO => ?_) (hE := fun _ _ => (Els.cons rfl ⟨rfl, (lenApp vV)⟩ (Els.nil _ _ _) (by simp [mx])))
      skip
      refine sfz 0 hO fun s hO GJ SS => ?_
      refine sap 2 hO GJ H fun Y6 Y7 Y8 s hO => ?_
      refine au ?_
      replace H := H.2
      obtain ⟨Oq, H⟩ := H
      refine zo (J06 rfl rfl (wrap_i64 Oq)) ?_
      refine au ?_
      refine cl1 (Fl.int .u8) 0 hO lW.u fun s hO => ?_
      refine sdr [0] hO fun s hO => ?_
      exact hX2 _ H _ _ agr ⟨_, _, _, _, _, _, ⟨agr, hO, fr⟩⟩
     skip
     refine sbu Fl.str 9 [((ix d_29 (k1_15 : Int)) ++ (byt ([(IntKind.u8.wrap ((97 : Int) + (k2_27 : Int)))])))] hO (fun Y9 aaa s hO => ?_) (hE := fun _ _ => (Els.cons rfl ⟨rfl, (lenApp vV)⟩ (Els.nil _ _ _) (by simp [mx])))
     skip
     refine sfz 1 hO fun s hO GK ST => ?_
     refine sap 4 hO GK H fun aab aac aad s hO => ?_
     replace H := H.2
     skip
     refine sfz 0 hO fun s hO GL SU => ?_
     refine sap 2 hO GL H fun aae aaf aag s hO => ?_
     refine au ?_
     replace H := H.2
     obtain ⟨Os, H⟩ := H
     refine zo (J06 rfl rfl (wrap_i64 Os)) ?_
     refine au ?_
     refine cl1 (Fl.int .u8) 0 hO lW.u fun s hO => ?_
     refine sdr [0] hO fun s hO => ?_
     exact hX2 _ H _ _ agr ⟨_, _, _, _, _, _, ⟨agr, hO, fr⟩⟩
    skip
    refine op1 1 hO fun SV s hO j8 => ?_
    have hle605 := J0v j8.bd
    refine GoT.step rfl ((oldBytes 1 hO rfl j8.u underlying126 underlying5 underlying9 rfl) _ (Same.refl _)) (Same.refl _) rfl rfl ?_
    refine GoT.both ?_ ?_
    ·skip
     skip
     refine sfz 0 hO fun s hO GM SW => ?_
     refine sap 3 hO GM H fun aah aai aaj s hO => ?_
     replace H := H.2
     skip
     refine sld1 2 hO h57 h58 ?_
     have hle611 := t1le 2 hO h57 h58
     obtain ⟨BL, H⟩ := H
     refine GoT.pure rfl (J0d rfl rfl BL) rfl rfl ?_
     skip
     refine sbu Fl.str 9 [((ix d_29 (k1_15 : Int)) ++ (byt ([(IntKind.u8.wrap ((97 : Int) + (k2_27 : Int)))])))] hO (fun aak aal s hO => ?_) (hE := fun _ _ => (Els.cons rfl ⟨rfl, (lenApp BL)⟩ (Els.nil _ _ _) (by simp [mx])))
     skip
     refine sfz 0 hO fun s hO GO SX => ?_
     refine sap 2 hO GO.u H fun aam aan aao s hO => ?_
     refine au ?_
     replace H := H.2
     obtain ⟨Ot, H⟩ := H
     refine zo (J06 rfl rfl (wrap_i64 Ot)) ?_
     refine au ?_
     refine cl1 (Fl.int .u8) 0 hO j8.u fun s hO => ?_
     refine sdr [0] hO fun s hO => ?_
     exact hX2 _ H _ _ agr ⟨_, _, _, _, _, _, ⟨agr, hO, fr⟩⟩
    replace H := (And.intro H.2.1 (And.intro H.1 (And.intro H.2.2.1 (And.intro H.2.2.2.1 H.2.2.2.2))))
    refine sld1 3 hO h57 h58 ?_
    have hle622 := t1le 3 hO h57 h58
    obtain ⟨vW, H⟩ := H
    refine GoT.pure rfl (J0d rfl rfl vW) rfl rfl ?_
    refine GoT.both ?_ ?_
    ·skip
     skip
     refine sfz 0 hO fun s hO GP SY => ?_
     refine sap 3 hO GP.u H fun aap aaq aar s hO => ?_
     replace H := H.2
     skip
     refine sbu Fl.str 9 [((ix d_29 (k1_15 : Int)) ++ (byt ([(IntKind.u8.wrap ((97 : Int) + (k2_27 : Int)))])))] hO (fun aas aat s hO => ?_) (hE := fun _ _ => (Els.cons rfl ⟨rfl, (lenApp vW)⟩ (Els.nil _ _ _) (by simp [mx])))
     skip
     refine sfz 0 hO fun s hO GQ S0 => ?_
     refine sap 2 hO GQ H fun aau aav aaw s hO => ?_
     refine au ?_
     replace H := H.2
     obtain ⟨Ou, H⟩ := H
     refine zo (J06 rfl rfl (wrap_i64 Ou)) ?_
     refine au ?_
     refine cl1 (Fl.int .u8) 0 hO j8.u fun s hO => ?_
     refine sdr [0] hO fun s hO => ?_
     exact hX2 _ H _ _ agr ⟨_, _, _, _, _, _, ⟨agr, hO, fr⟩⟩
    skip
    refine sbu Fl.str 9 [((ix d_29 (k1_15 : Int)) ++ (byt ([(IntKind.u8.wrap ((97 : Int) + (k2_27 : Int)))])))] hO (fun aax aay s hO => ?_) (hE := fun _ _ => (Els.cons rfl ⟨rfl, (lenApp vW)⟩ (Els.nil _ _ _) (by simp [mx])))
    skip
    refine sfz 1 hO fun s hO GR S3 => ?_
    refine sap 4 hO GR H fun aaz aaA aaB s hO => ?_
    replace H := H.2
    skip
    refine sfz 0 hO fun s hO GT S4 => ?_
    refine sap 2 hO GT H fun aaC aaD aaE s hO => ?_
    refine au ?_
    replace H := H.2
    obtain ⟨Ov, H⟩ := H
    refine zo (J06 rfl rfl (wrap_i64 Ov)) ?_
    refine au ?_
    refine cl1 (Fl.int .u8) 0 hO j8.u fun s hO => ?_
    refine sdr [0] hO fun s hO => ?_
    exact hX2 _ H _ _ agr ⟨_, _, _, _, _, _, ⟨agr, hO, fr⟩⟩
   refine GoT.both ?_ ?_
   ·skip
    skip
    refine sld1 2 hO h57 h58 ?_
    have hle652 := t1le 2 hO h57 h58
    refine GoT.both ?_ ?_
    ·skip
     skip
     refine sbu Fl.i 3 [(ix (ix a0.Next (ix fH (k1_15 : Int))) (k2_27 : Int))] hO fun aaF aaG s hO => ?_
     refine GoT.both ?_ ?_
     ·skip
      skip
      refine sfz 0 hO fun s hO GU S5 => ?_
      refine sap 3 hO GU H fun aaH aaI aaJ s hO => ?_
      replace H := H.2
      skip
      refine op1 0 hO fun S6 s hO qO => ?_
      have hle663 := J0v qO.bd
      refine GoT.step rfl ((oldBytes 0 hO rfl qO.u underlying126 underlying5 underlying9 rfl) _ (Same.refl _)) (Same.refl _) rfl rfl ?_
      obtain ⟨BM, H⟩ := H
      refine GoT.pure rfl (J0d rfl rfl BM) rfl rfl ?_
      skip
      refine sbu Fl.str 9 [((ix d_29 (k1_15 : Int)) ++ (byt ([(IntKind.u8.wrap ((97 : Int) + (k2_27 : Int)))])))] hO (fun aaK aaL s hO => ?_) (hE := fun _ _ => (Els.cons rfl ⟨rfl, (lenApp BM)⟩ (Els.nil _ _ _) (by simp [mx])))
      skip
      refine sfz 0 hO fun s hO GW S7 => ?_
      refine sap 2 hO GW H fun aaM aaN aaO s hO => ?_
      refine au ?_
      replace H := H.2
      obtain ⟨Ow, H⟩ := H
      refine zo (J06 rfl rfl (wrap_i64 Ow)) ?_
      refine au ?_
      refine cl1 (Fl.int .u8) 0 hO qO.u fun s hO => ?_
      refine sdr [0] hO fun s hO => ?_
      exact hX2 _ H _ _ agr ⟨_, _, _, _, _, _, ⟨agr, hO, fr⟩⟩
     replace H := (And.intro H.2.1 (And.intro H.1 (And.intro H.2.2.1 (And.intro H.2.2.2.1 H.2.2.2.2))))
     refine op1 1 hO fun S8 s hO lX => ?_
     have hle676 := J0v lX.bd
     refine GoT.step rfl ((oldBytes 1 hO rfl lX.u underlying126 underlying5 underlying9 rfl) _ (Same.refl _)) (Same.refl _) rfl rfl ?_
     obtain ⟨vX, H⟩ := H
     refine GoT.pure rfl (J0d rfl rfl vX) rfl rfl ?_
     refine GoT.both ?_ ?_
     ·skip
      skip
      refine sfz 0 hO fun s hO GX S9 => ?_
      refine sap 3 hO GX.u H fun aaP aaQ aaR s hO => ?_
      replace H := H.2
      skip
      refine sbu Fl.str 9 [((ix d_29 (k1_15 : Int)) ++ (byt ([(IntKind.u8.wrap ((97 : Int) + (k2_27 : Int)))])))] hO (fun aaS aaT s hO => ?_) (hE := fun _ _ => (Els.cons rfl ⟨rfl, (lenApp vX)⟩ (Els.nil _ _ _) (by simp [mx])))
      skip
      refine sfz 0 hO fun s hO GY Ta => ?_
      refine sap 2 hO GY H fun aaU aaV aaW s hO => ?_
      refine au ?_
      replace H := H.2
      obtain ⟨Ox, H⟩ := H
      refine zo (J06 rfl rfl (wrap_i64 Ox)) ?_
      refine au ?_
      refine cl1 (Fl.int .u8) 0 hO lX.u fun s hO => ?_
      refine sdr [0] hO fun s hO => ?_
      exact hX2 _ H _ _ agr ⟨_, _, _, _, _, _, ⟨agr, hO, fr⟩⟩
     skip
     refine sbu Fl.str 9 [((ix d_29 (k1_15 : Int)) ++ (byt ([(IntKind.u8.wrap ((97 : Int) + (k2_27 : Int)))])))] hO (fun aaX aaY s hO => ?_) (hE := fun _ _ => (Els.cons rfl ⟨rfl, (lenApp vX)⟩ (Els.nil _ _ _) (by simp [mx])))
     skip
     refine sfz 1 hO fun s hO G0 Tc => ?_
     refine sap 4 hO G0 H fun aa0 aa1 aa2 s hO => ?_
     replace H := H.2
     skip
     refine sfz 0 hO fun s hO G1 Td => ?_
     refine sap 2 hO G1 H fun aa3 aa4 aa5 s hO => ?_
     refine au ?_
     replace H := H.2
     obtain ⟨Oy, H⟩ := H
     refine zo (J06 rfl rfl (wrap_i64 Oy)) ?_
     refine au ?_
     refine cl1 (Fl.int .u8) 0 hO lX.u fun s hO => ?_
     refine sdr [0] hO fun s hO => ?_
     exact hX2 _ H _ _ agr ⟨_, _, _, _, _, _, ⟨agr, hO, fr⟩⟩
    replace H := (And.intro H.2.1 (And.intro H.1 (And.intro H.2.2.1 (And.intro H.2.2.2.1 H.2.2.2.2))))
    refine op1 0 hO fun Te s hO j9 => ?_
    have hle708 := J0v j9.bd
    refine GoT.step rfl ((oldBytes 0 hO rfl j9.u underlying126 underlying5 underlying9 rfl) _ (Same.refl _)) (Same.refl _) rfl rfl ?_
    obtain ⟨qP, H⟩ := H
    refine GoT.pure rfl (J0d rfl rfl qP) rfl rfl ?_
    refine GoT.both ?_ ?_
    ·skip
     skip
     refine sbu Fl.i 3 [(ix (ix a0.Next (ix fH (k1_15 : Int))) (k2_27 : Int))] hO fun aa6 aa7 s hO => ?_
     refine GoT.both ?_ ?_
     ·skip
      skip
      refine sfz 0 hO fun s hO G3 Tf => ?_
      refine sap 3 hO G3.u H fun aa8 aa9 aba s hO => ?_
      replace H := H.2
      skip
      refine sbu Fl.str 9 [((ix d_29 (k1_15 : Int)) ++ (byt ([(IntKind.u8.wrap ((97 : Int) + (k2_27 : Int)))])))] hO (fun abb abc s hO => ?_) (hE := fun _ _ => (Els.cons rfl ⟨rfl, (lenApp qP)⟩ (Els.nil _ _ _) (by simp [mx])))
      skip
      refine sfz 0 hO fun s hO G4 Tg => ?_
      refine sap 2 hO G4 H fun abd abe abf s hO => ?_
      refine au ?_
      replace H := H.2
      obtain ⟨Oz, H⟩ := H
      refine zo (J06 rfl rfl (wrap_i64 Oz)) ?_
      refine au ?_
      refine cl1 (Fl.int .u8) 0 hO j9.u fun s hO => ?_
      refine sdr [0] hO fun s hO => ?_
      exact hX2 _ H _ _ agr ⟨_, _, _, _, _, _, ⟨agr, hO, fr⟩⟩
     skip
     refine sbu Fl.str 9 [((ix d_29 (k1_15 : Int)) ++ (byt ([(IntKind.u8.wrap ((97 : Int) + (k2_27 : Int)))])))] hO (fun abg abh s hO => ?_) (hE := fun _ _ => (Els.cons rfl ⟨rfl, (lenApp qP)⟩ (Els.nil _ _ _) (by simp [mx])))
     skip
     refine sfz 1 hO fun s hO G5 Th => ?_
     refine sap 4 hO G5 H fun abi abj abk s hO => ?_
     replace H := H.2
     skip
     refine sfz 0 hO fun s hO G6 Tj => ?_
     refine sap 2 hO G6 H fun abl abm abn s hO => ?_
     refine au ?_
     replace H := H.2
     obtain ⟨OA, H⟩ := H
     refine zo (J06 rfl rfl (wrap_i64 OA)) ?_
     refine au ?_
     refine cl1 (Fl.int .u8) 0 hO j9.u fun s hO => ?_
     refine sdr [0] hO fun s hO => ?_
     exact hX2 _ H _ _ agr ⟨_, _, _, _, _, _, ⟨agr, hO, fr⟩⟩
    skip
    refine sbu Fl.str 9 [((ix d_29 (k1_15 : Int)) ++ (byt ([(IntKind.u8.wrap ((97 : Int) + (k2_27 : Int)))])))] hO (fun abo abp s hO => ?_) (hE := fun _ _ => (Els.cons rfl ⟨rfl, (lenApp qP)⟩ (Els.nil _ _ _) (by simp [mx])))
    skip
    refine sbu Fl.i 3 [(ix (ix a0.Next (ix fH (k1_15 : Int))) (k2_27 : Int))] hO fun abq abr s hO => ?_
    skip
    refine sfz 0 hO fun s hO G7 Tk => ?_
    refine sap 4 hO G7 H fun abs abt abu s hO => ?_
    replace H := H.2
    skip
    refine sfz 0 hO fun s hO G8 Tl => ?_
    refine sap 2 hO G8 H fun abv abw abx s hO => ?_
    refine au ?_
    replace H := H.2
    obtain ⟨OB, H⟩ := H
    refine zo (J06 rfl rfl (wrap_i64 OB)) ?_
    refine au ?_
    refine cl1 (Fl.int .u8) 0 hO j9.u fun s hO => ?_
    refine sdr [0] hO fun s hO => ?_
    exact hX2 _ H _ _ agr ⟨_, _, _, _, _, _, ⟨agr, hO, fr⟩⟩
   skip
   refine op1 0 hO fun Tm s hO gT => ?_
   have hle760 := J0v gT.bd
   refine GoT.step rfl ((oldBytes 0 hO rfl gT.u underlying126 underlying5 underlying9 rfl) _ (Same.refl _)) (Same.refl _) rfl rfl ?_
   refine GoT.both ?_ ?_
   ·skip
    skip
    refine sbu Fl.i 3 [(ix (ix a0.Next (ix fH (k1_15 : Int))) (k2_27 : Int))] hO fun aby abz s hO => ?_
    refine GoT.both ?_ ?_
    ·skip
     skip
     refine sfz 0 hO fun s hO G9 Tn => ?_
     refine sap 3 hO G9 H fun abA abB abC s hO => ?_
     replace H := H.2
     skip
     refine sld1 2 hO h57 h58 ?_
     have hle769 := t1le 2 hO h57 h58
     obtain ⟨BN, H⟩ := H
     refine GoT.pure rfl (J0d rfl rfl BN) rfl rfl ?_
     skip
     refine sbu Fl.str 9 [((ix d_29 (k1_15 : Int)) ++ (byt ([(IntKind.u8.wrap ((97 : Int) + (k2_27 : Int)))])))] hO (fun abE abG s hO => ?_) (hE := fun _ _ => (Els.cons rfl ⟨rfl, (lenApp BN)⟩ (Els.nil _ _ _) (by simp [mx])))
     skip
     refine sfz 0 hO fun s hO Ha To => ?_
     refine sap 2 hO Ha.u H fun abH abI abJ s hO => ?_
     refine au ?_
     replace H := H.2
     obtain ⟨OC, H⟩ := H
     refine zo (J06 rfl rfl (wrap_i64 OC)) ?_
     refine au ?_
     refine cl1 (Fl.int .u8) 0 hO gT.u fun s hO => ?_
     refine sdr [0] hO fun s hO => ?_
     exact hX2 _ H _ _ agr ⟨_, _, _, _, _, _, ⟨agr, hO, fr⟩⟩
    replace H := (And.intro H.2.1 (And.intro H.1 (And.intro H.2.2.1 (And.intro H.2.2.2.1 H.2.2.2.2))))
    refine sld1 3 hO h57 h58 ?_
    have hle780 := t1le 3 hO h57 h58
    obtain ⟨vY, H⟩ := H
    refine GoT.pure rfl (J0d rfl rfl vY) rfl rfl ?_
    refine GoT.both ?_ ?_
    ·skip
     skip
     refine sfz 0 hO fun s hO Hb Tp => ?_
     refine sap 3 hO Hb.u H fun abK abL abM s hO => ?_
     replace H := H.2
     skip
     refine sbu Fl.str 9 [((ix d_29 (k1_15 : Int)) ++ (byt ([(IntKind.u8.wrap ((97 : Int) + (k2_27 : Int)))])))] hO (fun abN abO s hO => ?_) (hE := fun _ _ => (Els.cons rfl ⟨rfl, (lenApp vY)⟩ (Els.nil _ _ _) (by simp [mx])))
     skip
     refine sfz 0 hO fun s hO Hc Tq => ?_
     refine sap 2 hO Hc H fun abP abQ abR s hO => ?_
     refine au ?_
     replace H := H.2
     obtain ⟨OD, H⟩ := H
     refine zo (J06 rfl rfl (wrap_i64 OD)) ?_
     refine au ?_
     refine cl1 (Fl.int .u8) 0 hO gT.u fun s hO => ?_
     refine sdr [0] hO fun s hO => ?_
     exact hX2 _ H _ _ agr ⟨_, _, _, _, _, _, ⟨agr, hO, fr⟩⟩
    skip
    refine sbu Fl.str 9 [((ix d_29 (k1_15 : Int)) ++ (byt ([(IntKind.u8.wrap ((97 : Int) + (k2_27 : Int)))])))] hO (fun abS abT s hO => ?_) (hE := fun _ _ => (Els.cons rfl ⟨rfl, (lenApp vY)⟩ (Els.nil _ _ _) (by simp [mx])))
    skip
    refine sfz 1 hO fun s hO He Ts => ?_
    refine sap 4 hO He H fun abU abV abX s hO => ?_
    replace H := H.2
    skip
    refine sfz 0 hO fun s hO Hf Tt => ?_
    refine sap 2 hO Hf H fun abY ab0 ab1 s hO => ?_
    refine au ?_
    replace H := H.2
    obtain ⟨OE, H⟩ := H
    refine zo (J06 rfl rfl (wrap_i64 OE)) ?_
    refine au ?_
    refine cl1 (Fl.int .u8) 0 hO gT.u fun s hO => ?_
    refine sdr [0] hO fun s hO => ?_
    exact hX2 _ H _ _ agr ⟨_, _, _, _, _, _, ⟨agr, hO, fr⟩⟩
   replace H := (And.intro H.2.1 (And.intro H.1 (And.intro H.2.2.1 (And.intro H.2.2.2.1 H.2.2.2.2))))
   refine sld1 2 hO h57 h58 ?_
   have hle810 := t1le 2 hO h57 h58
   obtain ⟨qQ, H⟩ := H
   refine GoT.pure rfl (J0d rfl rfl qQ) rfl rfl ?_
   refine GoT.both ?_ ?_
   ·skip
    skip
    refine sbu Fl.i 3 [(ix (ix a0.Next (ix fH (k1_15 : Int))) (k2_27 : Int))] hO fun ab2 ab3 s hO => ?_
    refine GoT.both ?_ ?_
    ·skip
     skip
     refine sfz 0 hO fun s hO Hg Tv => ?_
     refine sap 3 hO Hg.u H fun ab4 ab5 ab6 s hO => ?_
     replace H := H.2
     skip
     refine sbu Fl.str 9 [((ix d_29 (k1_15 : Int)) ++ (byt ([(IntKind.u8.wrap ((97 : Int) + (k2_27 : Int)))])))] hO (fun ab7 ab8 s hO => ?_) (hE := fun _ _ => (Els.cons rfl ⟨rfl, (lenApp qQ)⟩ (Els.nil _ _ _) (by simp [mx])))
     skip
     refine sfz 0 hO fun s hO Hh Tw => ?_
     refine sap 2 hO Hh H fun ab9 aca acb s hO => ?_
     refine au ?_
     replace H := H.2
     obtain ⟨OF, H⟩ := H
     refine zo (J06 rfl rfl (wrap_i64 OF)) ?_
     refine au ?_
     refine cl1 (Fl.int .u8) 0 hO gT.u fun s hO => ?_
     refine sdr [0] hO fun s hO => ?_
     exact hX2 _ H _ _ agr ⟨_, _, _, _, _, _, ⟨agr, hO, fr⟩⟩
    skip
    refine sbu Fl.str 9 [((ix d_29 (k1_15 : Int)) ++ (byt ([(IntKind.u8.wrap ((97 : Int) + (k2_27 : Int)))])))] hO (fun acd ace s hO => ?_) (hE := fun _ _ => (Els.cons rfl ⟨rfl, (lenApp qQ)⟩ (Els.nil _ _ _) (by simp [mx])))
    skip
    refine sfz 1 hO fun s hO Hi Tx => ?_
    refine sap 4 hO Hi H fun acf acg ach s hO => ?_
    replace H := H.2
    skip
    refine sfz 0 hO fun s hO Hj Ty => ?_
    refine sap 2 hO Hj H fun aci acj ack s hO => ?_
    refine au ?_
    replace H := H.2
    obtain ⟨OG, H⟩ := H
    refine zo (J06 rfl rfl (wrap_i64 OG)) ?_
    refine au ?_
    refine cl1 (Fl.int .u8) 0 hO gT.u fun s hO => ?_
    refine sdr [0] hO fun s hO => ?_
    exact hX2 _ H _ _ agr ⟨_, _, _, _, _, _, ⟨agr, hO, fr⟩⟩
   skip
   refine sbu Fl.str 9 [((ix d_29 (k1_15 : Int)) ++ (byt ([(IntKind.u8.wrap ((97 : Int) + (k2_27 : Int)))])))] hO (fun acl acm s hO => ?_) (hE := fun _ _ => (Els.cons rfl ⟨rfl, (lenApp qQ)⟩ (Els.nil _ _ _) (by simp [mx])))
   skip
   refine sbu Fl.i 3 [(ix (ix a0.Next (ix fH (k1_15 : Int))) (k2_27 : Int))] hO fun acn aco s hO => ?_
   skip
   refine sfz 0 hO fun s hO Hk Tz => ?_
   refine sap 4 hO Hk H fun acp acq acr s hO => ?_
   replace H := H.2
   skip
   refine sfz 0 hO fun s hO Hl TA => ?_
   refine sap 2 hO Hl H fun acs act acu s hO => ?_
   refine au ?_
   replace H := H.2
   obtain ⟨OH, H⟩ := H
   refine zo (J06 rfl rfl (wrap_i64 OH)) ?_
   refine au ?_
   refine cl1 (Fl.int .u8) 0 hO gT.u fun s hO => ?_
   refine sdr [0] hO fun s hO => ?_
   exact hX2 _ H _ _ agr ⟨_, _, _, _, _, _, ⟨agr, hO, fr⟩⟩
  refine au ?_
  obtain ⟨OI, H⟩ := H
  refine zo (J06 rfl rfl (wrap_i64 OI)) ?_
  refine au ?_
  exact hX1 _ H _ _ agr ⟨_, _, _, _, _, _, ⟨agr, hO, fr⟩⟩
 refine au ?_
 refine sfz 2 hO fun s hO Hm Hn => ?_
 refine sfz 1 hO fun s hO Ho Hp => ?_
 refine Go1.ret2 func113 rfl ⟨_, _, _, _, _, _, ?_, frs, Hm.r, Ho.r, H⟩
 exact (congrArg (fun l => Value.tuple (List.toArray l)) (J02 (congrArg (fun nn => Value.slice p22 nn c23) Hn) (J02 (congrArg (fun nn => Value.slice p18 nn c19) Hp) rfl)))
theorem body68 : Body prog 68 := ⟨f68, func68, rfl, by kernel_rfl⟩
theorem J65 {bT cz : Option Addr} {cg cA : Nat} {a0 : DFA} (hA : HA0 A w0) (ah : ISb A w0 bT cg a0.Final) (cp : ISs A w0 cz cA a0.Next) {K : DFA → List Int → Prop} (H : J34 a0 K) :
    CallsV prog 68 #[.agg (cDF a0 bT cg cz cA)] w0 (fun v w' => ∃ (r0 : DFA), ∃ (r1 : List Int), ∃ (aN : Option Addr), ∃ (aO : Nat), ∃ (bk : Option Addr), ∃ (bm : Nat), ∃ (fu : Option Addr), ∃ (fv : Nat), v = .tuple #[.agg (cDF r0 aN aO bk bm), .slice fu r1.length fv] ∧ Same w0 w' ∧ ISb A w' aN aO r0.Final ∧ ISs A w' bk bm r0.Next ∧ ISi A w' fu fv r1 ∧ K r0 r1) := by
 refine cal hA func68 ntmps68 fun hO hB => ?_
 unfold J34 at H
 refine sbx hO fun w1 B2 s hO => ?_
 refine sal hO fun w4 B5 s hO => ?_
 refine sag 1 hO ?_
 refine zcr (J01 body113 rfl (J5c hO.lt ah.u cp.u H)) fun _ w9 => e4 fun r7 r8 jB jC => e2 fun oR oS => sc0 hO fun s hO => d2 fun cf eg H => ?_
 refine sln0 ?_
 refine smk Fl.i (H ah.bd) hO fun w10 p11 s hO => ?_
 refine sln1 0 hO ?_
 refine au ?_
 refine lv [1, 2, 4, 6, 26] hO (H ah.bd).2.2 (fun E (k1_14, jv) σ w => (fun Z => Lo A w0 σ w [(27, .int .i64 (k1_14 : Int))] Z ∧ ISi (bl Z ++ A) w jB jC r7) (E.set 0 (t1 Fl.i 3 p11 a0.Final.length a0.Final.length jv))) ⟨⟨agr, hO, fr⟩, cf.u⟩ ?_
 refine fun X1 => p1 fun k1_14 jv => fun H hX1 σ w13 hk => d1 fun hL => fun cf => d2 (fun hag hO hB => keep2 hk hag ?_) hL
 dsimp only [esets, sS, sZ] at hO hB cf
 dsimp only at H
 revert hO; repeat (rename Owns .. => q; clear q)
 intro hO; repeat (rename Sq .. => q; clear q)
 refine scm H (fun h16 H => ?_) fun h16 H => ?_
 ·refine six1 0 hO H.1 H.2.1 ?_
  refine sst (u := (-1 : Int)) 0 hO H.1 H.2.1 fun w17 s hO => ?_
  refine au ?_
  have h18 := H.1
  have h19 := H.2.1
  replace H := H.2.2
  obtain ⟨h20, H⟩ := H
  refine zo (J06 rfl rfl (wrap_i64 h20)) ?_
  refine au ?_
  exact hX1 _ H _ _ agr ⟨⟨agr, hO, fr⟩, cf.u⟩
 refine sln0 ?_
 refine au ?_
 refine lv [1, 2, 4, 6, 34, 35] hO (H cf.bd) (fun E (qR, iL) σ w => (fun Z => Lo A w0 σ w [(36, .int .i64 (qR : Int))] Z ∧ ISi (bl Z ++ A) w jB jC r7) (E.set 0 (t1 Fl.i 3 p11 a0.Final.length a0.Final.length iL))) ⟨⟨agr, hO, fr⟩, cf.u⟩ ?_
 refine fun X2 => p1 fun qR iL => fun H hX2 σ w21 hk => d1 fun hL => fun cf => d2 (fun hag hO hB => keep2 hk hag ?_) hL
 dsimp only [esets, sS, sZ] at hO hB cf
 dsimp only at H
 revert hO; repeat (rename Owns .. => q; clear q)
 intro hO; repeat (rename Sq .. => q; clear q)
 refine scm H (fun h24 H => ?_) fun h24 H => ?_
 ·refine sxl hO cf H.1 H.2.1 ?_
  refine six1 0 hO H.2.2.1 H.2.2.2.1 ?_
  refine sst (u := (qR : Int)) 0 hO H.2.2.1 H.2.2.2.1 fun w25 s hO => ?_
  refine sinc (natbd h24 cf.bd) ?_
  refine au ?_
  exact hX2 _ H.2.2.2.2 _ _ agr ⟨⟨agr, hO, fr⟩, cf.u⟩
 refine au ?_
 refine zo (J0a underlying25 ti25 (pl := [(0, 1), (1, 1), (2, 1), (3, 1)]) (vs := [(0, .int .i64 a0.Letters)]) (cs := #[.int .i64 a0.Letters, .int .i64 (0 : Int), .slice none 0 0, .slice none 0 0]) (by kernel_rfl) rfl (by kernel_rfl)) ?_
 refine sal hO fun w26 B27 s hO => ?_
 refine sba 0 hO fun w29 s hO => ?_
 refine sln0 ?_
 refine au ?_
 refine snil Fl.bool 4 hO fun s hO => ?_
 have Hq := Stp.nil (e := 31) (r := 1) hO
 refine nst Hq fun s hO => ?_
 have OJ := elN (Rp.sl (Rp.int .i64)) hO
 refine lv [1, 2, 6, 10, 49, 50] hO H (fun E (fV, fG, d_42) σ w => ∃ n41 p39 c40 qS n45 p43 c44, (fun Z => Lo A w0 σ w [(51, .int .i64 (fV : Int))] Z ∧ Els (Rp.sl (Rp.int .i64)) (bl Z ++ A) w qS fG ∧ ISi (bl Z ++ A) w jB jC r7) (esets E [(0, .row 31 1 p39 n41 c40 qS), (1, t1 Fl.bool 4 p43 n45 c44 d_42), (2, .blk B27 (.cells #[.int .i64 a0.Letters, .int .i64 (0 : Int), .slice p43 n45 c44, .slice p39 n41 c40] 25 (0, 0)))])) ⟨_, _, _, _, _, _, _, ⟨agr, hO, fr⟩, OJ.u, cf.u⟩ ?_
 refine fun X3 => p2 fun fV fG d_42 => fun H hX3 σ w34 hk => e4 fun n41 p39 c40 qS => e3 fun n45 p43 c44 => d1 fun hL => d1 fun jD cf => d2 (fun hag hO hB => keep2 hk hag ?_) hL
 dsimp only [esets, sS, sZ] at hO hB jD cf
 dsimp only at H
 revert hO; repeat (rename Owns .. => q; clear q)
 intro hO; repeat (rename Sq .. => q; clear q)
 refine scm H (fun h46 H => ?_) fun h46 H => ?_
 ·refine sxl hO cf H.1 H.2.1 ?_
  refine sxls hO cp.u H.2.2.1 H.2.2.2.1 fun p47 c48 iq => ?_
  refine sln0 ?_
  refine au ?_
  refine snil Fl.i 3 hO fun s hO => ?_
  refine lv [1, 2, 6, 10, 12, 49, 50, 51, 59, 60] hO (H.2.2.2.2 iq.bd) (fun E (qT, eC) σ w => ∃ n56 p54 c55, (fun Z => Lo A w0 σ w [(13, .slice p54 n56 c55), (61, .int .i64 (qT : Int))] Z ∧ Els (Rp.sl (Rp.int .i64)) (bl Z ++ A) w qS fG ∧ ISi (bl Z ++ A) w jB jC r7 ∧ ISi (bl Z ++ A) w p47 c48 (ix a0.Next (ix r7 (fV : Int)))) (E.set 0 (t1 Fl.i 3 p54 n56 c55 eC))) ⟨_, _, _, ⟨agr, hO, fr⟩, jD.u, cf.u, iq.u⟩ ?_
  refine fun X4 => p1 fun qT eC => fun H hX4 σ w51 hk => e3 fun n56 p54 c55 => d1 fun hL => d2 fun jD cf iq => d2 (fun hag hO hB => keep2 hk hag ?_) hL
  dsimp only [esets, sS, sZ] at hO hB jD cf iq
  dsimp only at H
  revert hO; repeat (rename Owns .. => q; clear q)
  intro hO; repeat (rename Sq .. => q; clear q)
  refine scm H (fun h57 H => ?_) fun h57 H => ?_
  ·refine sxl hO iq H.1 H.2.1 ?_
   refine sxl1 4 hO H.2.2.1 H.2.2.2.1 ?_
   refine sap1 ((ix iL (ix (ix a0.Next (ix r7 (fV : Int))) (qT : Int)))) 0 hO H.2.2.2.2 fun _ w58 p59 c60 s hO => ?_
   refine sinc (natbd h57 iq.bd) ?_
   refine au ?_
   exact hX4 _ H.2.2.2.2.2 _ _ agr ⟨_, _, _, ⟨agr, hO, fr⟩, jD.u, cf.u, iq.u⟩
  refine au ?_
  refine drA (CSv.tr [(some ⟨B27, 3, none⟩), (some ⟨B27, 2, none⟩), (some ⟨B2, 2, none⟩), (padd bT ((ix r7 (fV : Int)).toNat * (Rp.bool).sz + 0))]) 5 [(0, m0), (1, m1), (2, m0), (5, m0), (6, m1), (7, m0), (8, m1), (9, m0), (10, m0), (11, m1), (3, m4), (4, m2), (14, m0), (12, m4), (13, m2), (15, m3), (16, m0), (17, m3)] hO fun w61 s hO => ?_
  have qU := hO.le
  have hw63 := (fr : Fr (bl []) w0 _ w61).ch.size
  refine au ?_
  refine GoQA.stable rfl (loadV (.head _) rfl (J00 3 hO rfl rfl) underlying23 rfl rfl) rfl rfl ?_
  refine au ?_
  refine au ?_
  refine GoQA.stable rfl (loadV (.tail _ (.head _)) rfl (J00 3 hO rfl rfl) underlying22 rfl rfl) rfl rfl ?_
  refine au ?_
  refine GoQA.stable rfl (loadV (.tail _ (.tail _ (.head _))) rfl (J00 6 hO rfl rfl) underlying22 rfl rfl) rfl rfl ?_
  refine au ?_
  refine six ah H.1 H.2.1 ?_
  have h64 := H.1
  have h65 := H.2.1
  refine GoQA.stable rfl (loadV (.tail _ (.tail _ (.tail _ (.head _)))) (J78 (ah.some_ h64 h65)) (ldBoolC ah.u h64 h65) underlying4 rfl rfl) rfl rfl ?_
  refine sfz 0 hO fun s hO OK OL => ?_
  refine GoQA.alloc rfl rfl (alBuild (n := 1) (parts := [(0, .slice p54 n56 c55)]) (vs := [.slice p54 n56 c55]) underlying23 ti31 (by decide) (by decide) (by decide) (by kernel_rfl) rfl rfl) ?_
  intro w67 A68 b69 A70 OM ON hd73 hnb74 hh75
  refine sgw OM hO fun s hO => ?_
  have v5 := elE (Rp.sl (Rp.int .i64)) [.slice p54 n56 c55] [eC] hO (Els.cons rfl ⟨p54, c55, congrArg some (congrArg (fun nn => Value.slice p54 nn c55) OL), OK.u⟩ (Els.nil _ _ _) (by simp [mx]))
  refine sgn (e := .row 31 1 (some ⟨b69, 0, none⟩) 1 1 [.slice p54 n56 c55]) ON hO qU hw63 hnb74 rfl hh75 hd73 (fr : Fr (bl []) w0 _ w67) fun s hO hB => ?_
  replace v5 := v5.ch s.ch
  refine GoQA.loudI rfl rfl fun w79 A80 OO => ?_
  refine sgw OO hO fun s hO => ?_
  refine sfzR 0 hO v5.u fun s hO OP OQ => ?_
  replace H := H.2.2
  obtain ⟨h84, H⟩ := H
  have zz := oapp underlying23 ti31 rfl 0 hO rfl jD.u OP OQ h84 (by decide)
  obtain ⟨w85, p86, c87, acv, jf, kO, Hr⟩ := zz
  dsimp only [sS, sZ] at kO
  refine GoAt.step (Hr (by exact rfl) (by exact rfl)) (fun _ => (CSv.cons (cs_eq (J00 2 hO rfl rfl) (J00 2 jf.own rfl rfl)) (CSv.cons (cs_eq (J00 2 hO rfl rfl) (J00 2 jf.own rfl rfl)) (CSv.cons (cs_eq (J00 5 hO rfl rfl) (J00 5 jf.own rfl rfl)) (CSv.cons (cskC jf.ch ah.u h64 h65) (CSv.nil _ _)))))) (Stp.kp hO jf) rfl ?_
  refine nst jf fun s hO => ?_
  refine au ?_
  refine GoQA.alloc rfl rfl (alBuild (n := 1) (parts := [(0, .bool (ix a0.Final (ix r7 (fV : Int))))]) (vs := [.bool (ix a0.Final (ix r7 (fV : Int)))]) underlying22 ti4 (by decide) (by decide) (by decide) (by kernel_rfl) rfl rfl) ?_
  intro w94 A95 b96 A97 OR OS hd100 hnb101 hh102
  refine sgw OR hO fun s hO => ?_
  have iu := elE (Rp.bool) [.bool (ix a0.Final (ix r7 (fV : Int)))] [ix a0.Final (ix r7 (fV : Int))] hO (Els.cons rfl rfl (Els.nil _ _ _) (by simp [mx]))
  refine sgn (e := .row 4 1 (some ⟨b96, 0, none⟩) 1 1 [.bool (ix a0.Final (ix r7 (fV : Int)))]) OS hO qU hw63 hnb101 rfl hh102 hd100 (fr : Fr (bl []) w0 _ w94) fun s hO hB => ?_
  replace iu := iu.ch s.ch
  refine cl1 Fl.bool 0 hO iu.u fun s hO => ?_
  refine GoQA.loudI rfl rfl fun o7 A105 Hs => ?_
  refine sgw Hs hO fun s hO => ?_
  refine sfz 0 hO fun s hO Ht TB => ?_
  have hu112 := uAt hO ah
  refine sapQ 1 hO Ht H (fun yG acw acx s hO => ?_) (g := fun _ _ _ _ hv hst h => GoAt.step hv (fun _ => (CSv.cons (cs_eq (J00 2 hO rfl rfl) (J00 2 hst.own rfl rfl)) (CSv.cons (cs_eq (J00 2 hO rfl rfl) (J00 2 hst.own rfl rfl)) (CSv.cons (cs_eq (J00 5 hO rfl rfl) (J00 5 hst.own rfl rfl)) (CSv.cons (cskC hst.ch hu112 h64 h65) (CSv.nil _ _)))))) (Stp.kp hO hst) rfl h)
  refine GoQA.lastI rfl rfl fun OT A114 Hu => ?_
  refine sgw Hu hO fun s hO => ?_
  refine sbs 2 hO fun acy s hO => ?_
  refine au ?_
  refine GoQA.lastI rfl rfl fun mC A118 qV => ?_
  refine sgw qV hO fun s hO => ?_
  refine sbs 2 hO fun mJ s hO => ?_
  refine GoQA.nil fun pc A122 qW qX => ?_
  refine sgw qW hO fun s hO => ?_
  refine spm qX hO fun s hO => ?_
  refine sinc (natbd h46 cf.bd) ?_
  refine au ?_
  exact hX3 _ H.2 _ _ agr ⟨_, _, _, _, _, _, _, ⟨agr, hO, fr⟩, kO.u, cf.u⟩
 refine sag 2 hO ?_
 refine sba 4 hO fun uf s hO => ?_
 refine au ?_
 refine sfz 1 hO fun s hO oD oE => ?_
 refine sfzR 0 hO jD.u fun s hO Hv Hw => ?_
 refine sfz 1 hO fun s hO pG pI => ?_
 refine Go1.retC2 func68 rfl rfl (rlb 1 hO) ⟨((⟨a0.Letters, (0 : Int), d_42, fG⟩ : DFA)), _, _, _, _, _, _, _, ?_, frs, oD.r, Hv.r, pG.r, H⟩
 exact (congrArg (fun l => Value.tuple (List.toArray l)) (J02 (congrArg (fun l => Value.agg (List.toArray l)) (J02 rfl (J02 rfl (J02 (congrArg (fun nn => Value.slice p43 nn c44) oE) (J02 (congrArg (fun nn => Value.slice p39 nn c40) Hw) rfl))))) (J02 (congrArg (fun nn => Value.slice p11 nn a0.Final.length) pI) rfl)))
theorem body23 : Body prog 23 := ⟨f23, func23, rfl, by kernel_rfl⟩
theorem J4M {bT cz : Option Addr} {cg cA : Nat} {a0 : DFA} (hA : HA0 A w0) (ah : ISb A w0 bT cg a0.Final) (cp : ISs A w0 cz cA a0.Next) {K : DFA → Prop} (H : J1C a0 K) :
    CallsV prog 23 #[.agg (cDF a0 bT cg cz cA)] w0 (fun v w' => ∃ (r0 : DFA), ∃ (aN : Option Addr), ∃ (aO : Nat), ∃ (bk : Option Addr), ∃ (bm : Nat), v = .agg (cDF r0 aN aO bk bm) ∧ Same w0 w' ∧ ISb A w' aN aO r0.Final ∧ ISs A w' bk bm r0.Next ∧ K r0) := by
 refine cal hA func23 ntmps23 fun hO hB => ?_
 unfold J1C at H
 refine sbx hO fun w1 B2 s hO => ?_
 refine sal hO fun w4 B5 s hO => ?_
 refine sag 1 hO ?_
 refine zcr (J01 body67 rfl (J4L hO.lt ah.u cp.u H)) fun _ w8 => e3 fun r7 jB jC => sc0 hO fun s hO => d1 fun cf H => ?_
 refine au ?_
 refine drs 1 [q0, q1, q0, q0, q1, q0, q1, q0, q2, q3] hO fun w9 s hO => ?_
 refine sxl hO cf.u H.1 H.2.1 ?_
 refine GoQ.pure rfl (J0a underlying25 ti25 (pl := [(0, 1), (1, 1), (2, 1), (3, 1)]) (vs := [(0, .int .i64 a0.Letters), (1, .int .i64 (ix r7 a0.Start))]) (cs := #[.int .i64 a0.Letters, .int .i64 (ix r7 a0.Start), .slice none 0 0, .slice none 0 0]) (by kernel_rfl) rfl (by kernel_rfl)) rfl rfl ?_
 refine sal hO fun w10 B11 s hO => ?_
 refine sba 0 hO fun w13 s hO => ?_
 refine sln0 ?_
 refine au ?_
 refine snil Fl.bool 4 hO fun s hO => ?_
 have Hx := Stp.nil (e := 31) (r := 1) hO
 refine nst Hx fun s hO => ?_
 have OU := elN (Rp.sl (Rp.int .i64)) hO
 refine lv [1, 2, 3, 4, 21, 22] hO (H.2.2 cf.bd) (fun E (k1_19, k1_20, jA, d_27) σ w => ∃ n26 p24 c25 qY n30 p28 c29, (fun Z => Lo A w0 σ w [(5, .int .i64 (k1_19 : Int)), (23, .int .i64 (k1_20 : Int))] Z ∧ Els (Rp.sl (Rp.int .i64)) (bl Z ++ A) w qY jA ∧ ISi (bl Z ++ A) w jB jC r7) (esets E [(0, .row 31 1 p24 n26 c25 qY), (1, t1 Fl.bool 4 p28 n30 c29 d_27), (2, .blk B11 (.cells #[.int .i64 a0.Letters, .int .i64 (ix r7 a0.Start), .slice p28 n30 c29, .slice p24 n26 c25] 25 (0, 0)))])) ⟨_, _, _, _, _, _, _, ⟨agr, hO, fr⟩, OU.u, cf.u⟩ ?_
 refine fun X1 => p3 fun k1_19 k1_20 jA d_27 => fun H hX1 σ w18 hk => e4 fun n26 p24 c25 qY => e3 fun n30 p28 c29 => d1 fun hL => d1 fun gY cf => d2 (fun hag hO hB => keep2 hk hag ?_) hL
 dsimp only [esets, sS, sZ] at hO hB gY cf
 dsimp only at H
 revert hO; repeat (rename Owns .. => q; clear q)
 intro hO; repeat (rename Sq .. => q; clear q)
 refine scm H (fun h31 H => ?_) fun h31 H => ?_
 ·refine sxl hO cf H.1 H.2.1 ?_
  refine au ?_
  have h32 := H.1
  have h33 := H.2.1
  refine scm H.2.2 (fun h34 H => ?_) fun h34 H => ?_
  ·refine au ?_
   obtain ⟨h35, H⟩ := H
   refine zo (J06 rfl rfl (wrap_i64 h35)) ?_
   refine sxls hO cp.u H.1 H.2.1 fun p36 c37 jE => ?_
   refine sln0 ?_
   refine au ?_
   refine snil Fl.i 3 hO fun s hO => ?_
   refine lv [1, 2, 3, 4, 5, 6, 21, 22, 23, 37, 38] hO (H.2.2 jE.bd) (fun E (q8, d_42) σ w => ∃ n45 p43 c44, (fun Z => Lo A w0 σ w [(8, .slice p43 n45 c44), (39, .int .i64 (q8 : Int))] Z ∧ Els (Rp.sl (Rp.int .i64)) (bl Z ++ A) w qY jA ∧ ISi (bl Z ++ A) w jB jC r7 ∧ ISi (bl Z ++ A) w p36 c37 (ix a0.Next (k1_20 : Int))) (E.set 0 (t1 Fl.i 3 p43 n45 c44 d_42))) ⟨_, _, _, ⟨agr, hO, fr⟩, gY.u, cf.u, jE.u⟩ ?_
   refine fun X2 => p1 fun q8 d_42 => fun H hX2 σ w40 hk => e3 fun n45 p43 c44 => d1 fun hL => d2 fun gY cf jE => d2 (fun hag hO hB => keep2 hk hag ?_) hL
   dsimp only [esets, sS, sZ] at hO hB gY cf jE
   dsimp only at H
   revert hO; repeat (rename Owns .. => q; clear q)
   intro hO; repeat (rename Sq .. => q; clear q)
   refine scm H (fun h46 H => ?_) fun h46 H => ?_
   ·refine sxl hO jE H.1 H.2.1 ?_
    refine sxl hO cf H.2.2.1 H.2.2.2.1 ?_
    refine sap1 ((ix r7 (ix (ix a0.Next (k1_20 : Int)) (q8 : Int)))) 0 hO H.2.2.2.2 fun _ w47 p48 c49 s hO => ?_
    refine sinc (natbd h46 jE.bd) ?_
    refine au ?_
    exact hX2 _ H.2.2.2.2.2 _ _ agr ⟨_, _, _, ⟨agr, hO, fr⟩, gY.u, cf.u, jE.u⟩
   refine au ?_
   refine drA (CSv.tr [(some ⟨B11, 3, none⟩), (some ⟨B11, 2, none⟩), (some ⟨B2, 2, none⟩), (padd bT ((k1_20 : Int).toNat * (Rp.bool).sz + 0))]) 5 [(0, m0), (1, m1), (2, m0), (5, m0), (6, m1), (7, m0), (8, m1), (9, m0), (10, m0), (11, m1), (3, m4), (4, m2), (14, m0), (12, m4), (13, m2), (15, m3), (16, m0), (17, m3)] hO fun w50 s hO => ?_
   have kP := hO.le
   have hw52 := (fr : Fr (bl []) w0 _ w50).ch.size
   refine au ?_
   refine GoQA.stable rfl (loadV (.head _) rfl (J00 3 hO rfl rfl) underlying23 rfl rfl) rfl rfl ?_
   refine au ?_
   refine au ?_
   refine GoQA.stable rfl (loadV (.tail _ (.head _)) rfl (J00 3 hO rfl rfl) underlying22 rfl rfl) rfl rfl ?_
   refine au ?_
   refine GoQA.stable rfl (loadV (.tail _ (.tail _ (.head _))) rfl (J00 5 hO rfl rfl) underlying22 rfl rfl) rfl rfl ?_
   refine au ?_
   refine six ah H.1 H.2.1 ?_
   have h53 := H.1
   have h54 := H.2.1
   refine GoQA.stable rfl (loadV (.tail _ (.tail _ (.tail _ (.head _)))) (J78 (ah.some_ h53 h54)) (ldBoolC ah.u h53 h54) underlying4 rfl rfl) rfl rfl ?_
   refine sfz 0 hO fun s hO tU tV => ?_
   refine GoQA.alloc rfl rfl (alBuild (n := 1) (parts := [(0, .slice p43 n45 c44)]) (vs := [.slice p43 n45 c44]) underlying23 ti31 (by decide) (by decide) (by decide) (by kernel_rfl) rfl rfl) ?_
   intro w56 A57 b58 A59 OV OW hd62 hnb63 hh64
   refine sgw OV hO fun s hO => ?_
   have v6 := elE (Rp.sl (Rp.int .i64)) [.slice p43 n45 c44] [d_42] hO (Els.cons rfl ⟨p43, c44, congrArg some (congrArg (fun nn => Value.slice p43 nn c44) tV), tU.u⟩ (Els.nil _ _ _) (by simp [mx]))
   refine sgn (e := .row 31 1 (some ⟨b58, 0, none⟩) 1 1 [.slice p43 n45 c44]) OW hO kP hw52 hnb63 rfl hh64 hd62 (fr : Fr (bl []) w0 _ w56) fun s hO hB => ?_
   replace v6 := v6.ch s.ch
   refine GoQA.loudI rfl rfl fun w68 A69 OX => ?_
   refine sgw OX hO fun s hO => ?_
   refine sfzR 0 hO v6.u fun s hO nf v7 => ?_
   replace H := H.2.2
   obtain ⟨h73, H⟩ := H
   have zz := oapp underlying23 ti31 rfl 0 hO rfl gY.u nf v7 h73 (by decide)
   obtain ⟨w74, p75, c76, acz, fU, BO, Hy⟩ := zz
   dsimp only [sS, sZ] at BO
   refine GoAt.step (Hy (by exact rfl) (by exact rfl)) (fun _ => (CSv.cons (cs_eq (J00 2 hO rfl rfl) (J00 2 fU.own rfl rfl)) (CSv.cons (cs_eq (J00 2 hO rfl rfl) (J00 2 fU.own rfl rfl)) (CSv.cons (cs_eq (J00 4 hO rfl rfl) (J00 4 fU.own rfl rfl)) (CSv.cons (cskC fU.ch ah.u h53 h54) (CSv.nil _ _)))))) (Stp.kp hO fU) rfl ?_
   refine nst fU fun s hO => ?_
   refine au ?_
   refine GoQA.alloc rfl rfl (alBuild (n := 1) (parts := [(0, .bool (ix a0.Final (k1_20 : Int)))]) (vs := [.bool (ix a0.Final (k1_20 : Int))]) underlying22 ti4 (by decide) (by decide) (by decide) (by kernel_rfl) rfl rfl) ?_
   intro w83 A84 b85 A86 OY O0 hd89 hnb90 hh91
   refine sgw OY hO fun s hO => ?_
   have v8 := elE (Rp.bool) [.bool (ix a0.Final (k1_20 : Int))] [ix a0.Final (k1_20 : Int)] hO (Els.cons rfl rfl (Els.nil _ _ _) (by simp [mx]))
   refine sgn (e := .row 4 1 (some ⟨b85, 0, none⟩) 1 1 [.bool (ix a0.Final (k1_20 : Int))]) O0 hO kP hw52 hnb90 rfl hh91 hd89 (fr : Fr (bl []) w0 _ w83) fun s hO hB => ?_
   replace v8 := v8.ch s.ch
   refine cl1 Fl.bool 0 hO v8.u fun s hO => ?_
   refine GoQA.loudI rfl rfl fun w93 A94 v9 => ?_
   refine sgw v9 hO fun s hO => ?_
   refine sfz 0 hO fun s hO nc vQ => ?_
   have hu101 := uAt hO ah
   refine sapQ 1 hO nc H (fun w98 p99 NP s hO => ?_) (g := fun _ _ _ _ hv hst h => GoAt.step hv (fun _ => (CSv.cons (cs_eq (J00 2 hO rfl rfl) (J00 2 hst.own rfl rfl)) (CSv.cons (cs_eq (J00 2 hO rfl rfl) (J00 2 hst.own rfl rfl)) (CSv.cons (cs_eq (J00 4 hO rfl rfl) (J00 4 hst.own rfl rfl)) (CSv.cons (cskC hst.ch hu101 h53 h54) (CSv.nil _ _)))))) (Stp.kp hO hst) rfl h)
   refine GoQA.lastI rfl rfl fun uH A103 Hz => ?_
   refine sgw Hz hO fun s hO => ?_
   refine sbs 2 hO fun mj s hO => ?_
   refine au ?_
   refine GoQA.lastI rfl rfl fun BP A107 HA => ?_
   refine sgw HA hO fun s hO => ?_
   refine sbs 2 hO fun yG s hO => ?_
   refine GoQA.nil fun wa A111 q9 rh => ?_
   refine sgw q9 hO fun s hO => ?_
   refine spm rh hO fun s hO => ?_
   refine sinc (natbd h31 cf.bd) ?_
   refine au ?_
   exact hX1 _ H.2 _ _ agr ⟨_, _, _, _, _, _, _, ⟨agr, hO, fr⟩, BO.u, cf.u⟩
  refine sinc (natbd h31 cf.bd) ?_
  refine au ?_
  exact hX1 _ H _ _ agr ⟨_, _, _, _, _, _, _, ⟨agr, hO, fr⟩, gY.u, cf.u⟩
 refine sag 2 hO ?_
 refine sfz 1 hO fun s hO HB HC => ?_
 refine sfzR 0 hO gY.u fun s hO HD HE => ?_
 refine zcr (J01 body68 (by rw [HC, HE]; exact rfl) (J65 (a0 := (⟨a0.Letters, (ix r7 a0.Start), d_27, jA⟩ : DFA)) hO.lt HB.u HD H)) fun _ mJ => e4 fun kI O1 BQ BR => e4 fun Dh Di Rd Re => sc0 hO fun s hO => d3 fun ng nU Rf H => ?_
 refine sba 0 hO fun pc s hO => ?_
 refine sag 0 hO ?_
 refine sba 1 hO fun vh s hO => ?_
 refine au ?_
 refine Go1.retC1 func23 rfl rfl (rlb 1 hO) ⟨((⟨kI.Letters, kI.Start, kI.Final, kI.Next⟩ : DFA)), _, _, _, _, er, frs, ng.r, nU.r, H⟩
theorem body65 : Body prog 65 := ⟨f65, func65, rfl, by kernel_rfl⟩
theorem J5v {aF aV : Option Addr} {aG aW : Nat} {d : DFA} (hA : HA0 A w0) (aE : ISb A w0 aF aG d.Final) (bg : ISs A w0 aV aW d.Next) {K : List (List Int) → Prop} (H : J2v d K) :
    CallsV prog 65 #[.agg (cDF d aF aG aV aW)] w0 (fun v w' => ∃ (r0 : List (List Int)), ∃ (p_r0 : Option Addr), ∃ (c_r0 : Nat), v = .slice p_r0 r0.length c_r0 ∧ Same w0 w' ∧ ISs A w' p_r0 c_r0 r0 ∧ K r0) := by
 refine cal hA func65 ntmps65 fun hO hB => ?_
 unfold J2v at H
 refine sbx hO fun w1 B2 s hO => ?_
 refine au ?_
 have mB := Stp.nil (e := 31) (r := 1) hO
 refine nst mB fun s hO => ?_
 have hE6 := elN (Rp.sl (Rp.int .i64)) hO
 refine lv [1] hO H (fun E (wc, out1_9) σ w => ∃ n14 p12 c13 fE, (fun Z => Lo A w0 σ w [(3, .slice p12 n14 c13), (4, .int .i64 (wc : Int))] Z ∧ Els (Rp.sl (Rp.int .i64)) (bl Z ++ A) w fE out1_9) (E.set 0 (.row 31 1 p12 n14 c13 fE))) ⟨_, _, _, _, ⟨agr, hO, fr⟩, hE6.u⟩ ?_
 refine fun X1 => p1 fun wc out1_9 => fun H hX1 σ w7 hk => e4 fun n14 p12 c13 fE => d1 fun hL => fun ce => d2 (fun hag hO hB => keep2 hk hag ?_) hL
 dsimp only [esets, sS, sZ] at hO hB ce
 dsimp only at H
 revert hO; repeat (rename Owns .. => q; clear q)
 intro hO; repeat (rename Sq .. => q; clear q)
 refine scm H (fun h15 H => ?_) fun h15 H => ?_
 ·refine sln0 ?_
  refine au ?_
  refine snil Fl.i 3 hO fun s hO => ?_
  refine lv [1, 3, 4, 15] hO (H bg.bd) (fun E (jg, f2_19) σ w => ∃ n22 p20 c21, (fun Z => Lo A w0 σ w [(5, .slice p20 n22 c21), (16, .int .i64 (jg : Int))] Z ∧ Els (Rp.sl (Rp.int .i64)) (bl Z ++ A) w fE out1_9) (E.set 0 (t1 Fl.i 3 p20 n22 c21 f2_19))) ⟨_, _, _, ⟨agr, hO, fr⟩, ce.u⟩ ?_
  refine fun X2 => p1 fun jg f2_19 => fun H hX2 σ w17 hk => e3 fun n22 p20 c21 => d1 fun hL => fun ce => d2 (fun hag hO hB => keep2 hk hag ?_) hL
  dsimp only [esets, sS, sZ] at hO hB ce
  dsimp only at H
  revert hO; repeat (rename Owns .. => q; clear q)
  intro hO; repeat (rename Sq .. => q; clear q)
  refine scm H (fun h23 H => ?_) fun h23 H => ?_
  ·refine sxls hO bg.u H.1 H.2.1 fun p24 c25 tO => ?_
   refine sxl hO tO.u H.2.2.1 H.2.2.2.1 ?_
   refine sap1 ((ix (ix d.Next (jg : Int)) (wc : Int))) 0 hO H.2.2.2.2 fun _ w27 p28 c29 s hO => ?_
   refine sinc (natbd h23 bg.bd) ?_
   refine au ?_
   exact hX2 _ H.2.2.2.2.2 _ _ agr ⟨_, _, _, ⟨agr, hO, fr⟩, ce.u⟩
  refine au ?_
  refine sfz 0 hO fun s hO tE tF => ?_
  have zz := J1u (r := Rp.sl (Rp.int .i64)) (n := 1) (parts := [(0, .slice p20 n22 c21)]) (vs := [.slice p20 n22 c21]) (xs := [f2_19]) rfl underlying23 ti31 hO (by decide) (by kernel_rfl) (Els.cons rfl ⟨p20, c21, congrArg some (congrArg (fun nn => Value.slice p20 nn c21) tF), tE⟩ (Els.nil _ _ _) (by simp [mx])) rfl
  obtain ⟨w32, p33, HF, O2, acA, HG⟩ := zz
  refine zg (HG rfl) ?_
  refine nst HF fun s hO => ?_
  refine sfzR 0 hO O2 fun s hO O3 O4 => ?_
  obtain ⟨h41, H⟩ := H
  have zz := oapp underlying23 ti31 rfl 0 hO rfl ce.u O3 O4 h41 (by decide)
  obtain ⟨w42, p43, c44, acB, jN, kE, rk⟩ := zz
  dsimp only [sS, sZ] at kE
  refine zg (rk (by exact rfl) (by exact rfl)) ?_
  refine nst jN fun s hO => ?_
  refine au ?_
  obtain ⟨h50, H⟩ := H
  refine zo (J06 rfl rfl (wrap_i64 h50)) ?_
  refine au ?_
  exact hX1 _ H _ _ agr ⟨_, _, _, _, ⟨agr, hO, fr⟩, kE⟩
 refine au ?_
 refine sfzR 0 hO ce.u fun s hO t5 t6 => ?_
 refine Go1.ret1 func65 rfl ⟨_, _, _, ?_, frs, t5.r, H⟩
 exact (congrArg (fun nn => Value.slice p12 nn c13) t6)
theorem body170 : Body prog 170 := ⟨f170, func170, rfl, by kernel_rfl⟩
theorem J5s {p_f : Option Addr} {c_f : Nat} {f : List Int} (hA : HA0 A w0) (h_f : ISi A w0 p_f c_f f) {K : Bool → Prop} (H : J2w f K) :
    CallsV prog 170 #[.slice p_f f.length c_f] w0 (fun v w' => ∃ (r0 : Bool), v = .bool r0 ∧ Same w0 w' ∧ K r0) := by
 refine cal hA func170 ntmps170 fun hO hB => ?_
 unfold J2w at H
 refine sln0 ?_
 refine scm (H h_f.bd) (fun h1 H => ?_) fun h1 H => ?_
 ·refine au ?_
  refine Go1.ret1 func170 rfl ⟨_, er, frs, H⟩
 refine sln0 ?_
 refine scm H (fun h2 H => ?_) fun h2 H => ?_
 ·refine au ?_
  refine Go1.ret1 func170 rfl ⟨_, er, frs, H⟩
 refine sln0 ?_
 refine au ?_
 refine lv [0, 13, 14] hO H (fun E k1_4 σ w => Lo A w0 σ w [(15, .int .i64 (k1_4 : Int))] []) ⟨agr, hO, fr⟩ ?_
 refine fun X1 => fun k1_4 => fun H hX1 σ w3 hk => d2 fun hag hO hB => keep2 hk hag ?_
 refine scm H (fun h5 H => ?_) fun h5 H => ?_
 ·refine sxl hO h_f.u H.1 H.2.1 ?_
  refine au ?_
  have h6 := H.1
  have h7 := H.2.1
  refine scm H.2.2 (fun h8 H => ?_) fun h8 H => ?_
  ·refine au ?_
   refine Go1.ret1 func170 rfl ⟨_, er, frs, H⟩
  refine sln0 ?_
  refine scm H (fun h9 H => ?_) fun h9 H => ?_
  ·refine au ?_
   refine Go1.ret1 func170 rfl ⟨_, er, frs, H⟩
  refine sinc (natbd h5 h_f.bd) ?_
  refine au ?_
  exact hX1 _ H _ _ agr ⟨agr, hO, fr⟩
 refine au ?_
 refine Go1.ret1 func170 rfl ⟨_, er, frs, H⟩
theorem body161 : Body prog 161 := ⟨f161, func161, rfl, by kernel_rfl⟩
theorem J4R {eO : Option Addr} {eP : Nat} {gens : List (List Int)} (hA : HA0 A w0) (eQ : ISs A w0 eO eP gens) {K : Bool → Prop} (H : J1n gens K) :
    CallsV prog 161 #[.slice eO gens.length eP] w0 (fun v w' => ∃ (r0 : Bool), v = .bool r0 ∧ Same w0 w' ∧ K r0) := by
 refine cal hA func161 ntmps161 fun hO hB => ?_
 unfold J1n at H
 refine sln0 ?_
 refine scm (H eQ.bd) (fun h1 H => ?_) fun h1 H => ?_
 ·refine au ?_
  refine Go1.ret1 func161 rfl ⟨_, er, frs, H⟩
 refine sln0 ?_
 refine scm H (fun h2 H => ?_) fun h2 H => ?_
 ·refine au ?_
  refine Go1.ret1 func161 rfl ⟨_, er, frs, H⟩
 refine sln0 ?_
 refine au ?_
 refine lv [0, 13, 14] hO H (fun E k1_4 σ w => Lo A w0 σ w [(15, .int .i64 (k1_4 : Int))] []) ⟨agr, hO, fr⟩ ?_
 refine fun X1 => fun k1_4 => fun H hX1 σ w3 hk => d2 fun hag hO hB => keep2 hk hag ?_
 refine scm H (fun h5 H => ?_) fun h5 H => ?_
 ·refine sxls hO eQ.u H.1 H.2.1 fun p6 c7 hi8 => ?_
  refine au ?_
  have h11 := H.1
  have h12 := H.2.1
  refine zcr (J01 body170 rfl (J5s hO.lt hi8.u H.2.2)) fun _ w10 => e1 fun r9 => sc0 hO fun s hO => fun H => ?_
  cases r9
  ·refine au ?_
   refine Go1.ret1 func161 rfl ⟨_, er, frs, (iF H)⟩
  refine sln0 ?_
  refine six eQ ((iT H) hi8.bd).1 ((iT H) hi8.bd).2.1 ?_
  refine slds hO eQ.u ((iT H) hi8.bd).1 ((iT H) hi8.bd).2.1 fun p13 c14 iw => ?_
  refine sln0 ?_
  have h16 := ((iT H) hi8.bd).1
  have h17 := ((iT H) hi8.bd).2.1
  refine scm (((iT H) hi8.bd).2.2 iw.bd) (fun h18 H => ?_) fun h18 H => ?_
  ·refine sinc (natbd h5 eQ.bd) ?_
   refine au ?_
   exact hX1 _ H _ _ agr ⟨agr, hO, fr⟩
  refine au ?_
  refine Go1.ret1 func161 rfl ⟨_, er, frs, H⟩
 refine au ?_
 refine Go1.ret1 func161 rfl ⟨_, er, frs, H⟩
theorem body162 : Body prog 162 := ⟨f162, func162, rfl, by kernel_rfl⟩
theorem J5X {p_a : Option Addr} {c_a : Nat} {a : List (List Int)} (hA : HA0 A w0) (h_a : ISs A w0 p_a c_a a) {K : List (List Int) → Prop} (H : J36 a K) :
    CallsV prog 162 #[.slice p_a a.length c_a] w0 (fun v w' => ∃ (r0 : List (List Int)), ∃ (eN : Nat), ∃ (p_r0 : Option Addr), ∃ (c_r0 : Nat), ∃ (HH : Hd), v = .slice p_r0 eN c_r0 ∧ Same w0 w' ∧ Owns w0.heap.size w' [t2 Fl.i 31 3 p_r0 eN c_r0 HH r0] A ∧ K r0) := by
 refine cal hA func162 ntmps162 fun hO hB => ?_
 unfold J36 at H
 refine sln0 ?_
 refine au ?_
 have hst2 := t2nil (e := 31) (e' := 3) Fl.i hO
 refine nst hst2 fun s hO => ?_
 refine lv [6, 7] hO (H h_a.bd) (fun E (k1_4, out1_5) σ w => ∃ n8 p6 c7 hs9, Lo A w0 σ w [(3, .slice p6 n8 c7), (8, .int .i64 (k1_4 : Int))] [t2 Fl.i 31 3 p6 n8 c7 hs9 out1_5]) ⟨_, _, _, _, ⟨agr, hO, fr⟩⟩ ?_
 refine fun X1 => p1 fun k1_4 out1_5 => fun H hX1 σ w3 hk => e4 fun n8 p6 c7 hs9 => d2 fun hag hO hB => keep2 hk hag ?_
 dsimp only at H
 revert hO; repeat (rename Owns .. => q; clear q)
 intro hO; repeat (rename Sq .. => q; clear q)
 refine scm H (fun h10 H => ?_) fun h10 H => ?_
 ·refine sxls hO h_a.u H.1 H.2.1 fun p11 c12 O5 => ?_
  refine sbu Fl.i 3 ([] : List Int) hO fun w14 p15 s hO => ?_
  refine sap 0 hO O5.u H.2.2 fun w17 p18 c19 s hO => ?_
  refine op1 0 hO fun acC s hO O6 => ?_
  have zz := t2build1 Fl.i underlying23 ti31 hO O6.u
  obtain ⟨w22, p23, ou, HI⟩ := zz
  refine zg (HI rfl) ?_
  refine nst ou fun s hO => ?_
  refine sfr 1 hO fun s hO => ?_
  refine sfr 1 hO fun s hO => ?_
  have h27 := H.1
  have h28 := H.2.1
  replace H := H.2.2.2
  obtain ⟨h29, H⟩ := H
  have zz := t2cat underlying23 ti31 hO h29 (by decide)
  obtain ⟨w30, p31, c32, HJ, HK⟩ := zz
  refine zg (HK (by exact rfl) (by exact rfl)) ?_
  refine nst HJ fun s hO => ?_
  refine sinc (natbd h10 h_a.bd) ?_
  refine au ?_
  exact hX1 _ H _ _ agr ⟨_, _, _, _, ⟨agr, hO, fr⟩⟩
 refine au ?_
 refine Go1.ret1 func162 rfl ⟨_, _, _, _, _, er, frs, hO, H⟩
theorem body51 : Body prog 51 := ⟨f51, func51, rfl, by kernel_rfl⟩
theorem J4i {n : Int} (hA : HA0 A w0) {K : List Int → Prop} (H : J12 n K) :
    CallsV prog 51 #[.int .i64 n] w0 (fun v w' => ∃ (r0 : List Int), ∃ (p_r0 : Option Addr), ∃ (c_r0 : Nat), v = .slice p_r0 r0.length c_r0 ∧ Same w0 w' ∧ ISi A w' p_r0 c_r0 r0 ∧ K r0) := by
 refine cal hA func51 ntmps51 fun hO hB => ?_
 unfold J12 at H
 refine smk Fl.i H hO fun w1 p4 s hO => ?_
 refine sln1 0 hO ?_
 refine au ?_
 refine lv [3, 8] hO H.2.2 (fun E (bw, BS) σ w => Lo A w0 σ w [(9, .int .i64 (bw : Int))] [t1 Fl.i 3 p4 n.toNat n.toNat BS]) ⟨agr, hO, fr⟩ ?_
 refine fun X1 => p1 fun bw BS => fun H hX1 σ w6 hk => d2 fun hag hO hB => keep2 hk hag ?_
 dsimp only at H
 revert hO; repeat (rename Owns .. => q; clear q)
 intro hO; repeat (rename Sq .. => q; clear q)
 refine scm H (fun h9 H => ?_) fun h9 H => ?_
 ·refine six1 0 hO H.1 H.2.1 ?_
  refine sst (u := (bw : Int)) 0 hO H.1 H.2.1 fun w10 s hO => ?_
  refine au ?_
  have h11 := H.1
  have h12 := H.2.1
  replace H := H.2.2
  obtain ⟨h13, H⟩ := H
  refine zo (J06 rfl rfl (wrap_i64 h13)) ?_
  refine au ?_
  exact hX1 _ H _ _ agr ⟨agr, hO, fr⟩
 refine au ?_
 refine sfz 0 hO fun s hO jp g5 => ?_
 refine Go1.ret1 func51 rfl ⟨_, _, _, ?_, frs, jp.r, H⟩
 exact (congrArg (fun nn => Value.slice p4 nn n.toNat) g5)
theorem body107 : Body prog 107 := ⟨f107, func107, rfl, by kernel_rfl⟩
theorem J1o {oq p_f : Option Addr} {ot c_f : Nat} {elems : List (List Int)} {f : List Int} (hA : HA0 A w0) (kQ : ISs A w0 oq ot elems) (h_f : ISi A w0 p_f c_f f) {K : Int → Prop} (H : J1c elems f K) :
    CallsV prog 107 #[.slice oq elems.length ot, .slice p_f f.length c_f] w0 (fun v w' => ∃ (r0 : Int), v = .int .i64 r0 ∧ Same w0 w' ∧ K r0) := by
 refine cal hA func107 ntmps107 fun hO hB => ?_
 unfold J1c at H
 refine sln0 ?_
 refine au ?_
 refine lv [0, 1, 7] hO (H kQ.bd) (fun E k1_2 σ w => Lo A w0 σ w [(8, .int .i64 (k1_2 : Int))] []) ⟨agr, hO, fr⟩ ?_
 refine fun X1 => fun k1_2 => fun H hX1 σ w1 hk => d2 fun hag hO hB => keep2 hk hag ?_
 refine scm H (fun h3 H => ?_) fun h3 H => ?_
 ·refine sxls hO kQ.u H.1 H.2.1 fun p4 c5 hi6 => ?_
  refine au ?_
  have h9 := H.1
  have h10 := H.2.1
  refine zcr (J01 body49 rfl (J1y hO.lt hi6.u h_f.u H.2.2)) fun _ w8 => e1 fun r7 => sc0 hO fun s hO => fun H => ?_
  refine au ?_
  cases r7
  ·refine sinc (natbd h3 kQ.bd) ?_
   refine au ?_
   exact hX1 _ (iF H) _ _ agr ⟨agr, hO, fr⟩
  refine au ?_
  refine Go1.ret1 func107 rfl ⟨_, er, frs, (iT H)⟩
 refine au ?_
 refine Go1.ret1 func107 rfl ⟨_, er, frs, H⟩
theorem body137 : Body prog 137 := ⟨f137, func137, rfl, by kernel_rfl⟩
theorem J0Y {x : Int} (hA : HA0 A w0) {K : Str → Prop} (H : J0C x K) :
    CallsV prog 137 #[.int .i64 x] w0 (fun v w' => ∃ (r0 : Str), v = .string (gstr r0) ∧ Same w0 w' ∧ r0.length ≤ mx ∧ K r0) := by
 refine cal hA func137 ntmps137 fun hO hB => ?_
 unfold J0C at H
 refine au ?_
 obtain ⟨h1, H⟩ := H
 refine zo (J06 rfl rfl (wrap_i64 h1)) ?_
 refine zo (J3o underlying3 underlying5 rfl rfl) ?_
 refine sbu (Fl.int .u8) 5 [(IntKind.u8.wrap ((97 : Int) + x))] hO fun w2 p4 s hO => ?_
 refine op1 0 hO fun vs6 s hO hE7 => ?_
 have hle8 := J0v hE7.bd
 refine zs (oldBytes 0 hO rfl hE7.u underlying126 underlying5 underlying9 rfl) ?_
 refine au ?_
 refine Go1.ret1 func137 rfl ⟨_, er, frs, hle8, H⟩
theorem body106 : Body prog 106 := ⟨f106, func106, rfl, by kernel_rfl⟩
theorem J0T {gI f7 fI gK f9 gh : Option Addr} {gJ f8 fJ gL gf gi : Nat} {e : Enum} {i : Int} (hA : HA0 A w0) (nh : ISs A w0 gI gJ e.Gens) (gj : ISs A w0 f7 f8 e.Elems) (iv : ISi A w0 fI fJ e.Prefix) (gM : ISi A w0 gK gL e.Last) (iQ : ISs A w0 f9 gf e.Right) (lg : ISl (rpRule) A w0 gh gi e.Rules) {K : Str → Prop} (H : J10 e i K) :
    CallsV prog 106 #[.agg #[.int .i64 e.Points, .bool e.Monoid, .slice gI e.Gens.length gJ, .slice f7 e.Elems.length f8, .slice fI e.Prefix.length fJ, .slice gK e.Last.length gL, .slice f9 e.Right.length gf, .slice gh e.Rules.length gi, .int .i64 e.Done], .int .i64 i] w0 (fun v w' => ∃ (r0 : Str), v = .string (gstr r0) ∧ Same w0 w' ∧ r0.length ≤ mx ∧ K r0) := by
 refine cal hA func106 ntmps106 fun hO hB => ?_
 unfold J10 at H
 refine sbx hO fun w1 B2 s hO => ?_
 refine au ?_
 refine lv [2] hO H (fun E (i1_5, we) σ w => (fun Z => Lo A w0 σ w [(1, .int .i64 i1_5), (5, .string (gstr we))] Z ∧ we.length ≤ mx) E) ⟨⟨agr, hO, fr⟩, (by decide)⟩ ?_
 refine fun X1 => p1 fun i1_5 we => fun H hX1 σ w4 hk => d1 fun hL => fun hle_w1_6 => d2 (fun hag hO hB => keep2 hk hag ?_) hL
 dsimp only at H
 revert hO; repeat (rename Owns .. => q; clear q)
 intro hO; repeat (rename Sq .. => q; clear q)
 refine scm H (fun h7 H => ?_) fun h7 H => ?_
 ·refine six gM H.1 H.2.1 ?_
  refine sld hO gM.u H.1 H.2.1 ?_
  have h8 := H.1
  have h9 := H.2.1
  refine scm H.2.2 (fun h10 H => ?_) fun h10 H => ?_
  ·refine sxl hO gM.u H.1 H.2.1 ?_
   have h13 := H.1
   have h14 := H.2.1
   refine zcr (J01 body137 rfl (J0Y hO.lt H.2.2)) fun _ w12 => e1 fun r11 => sc0 hO fun s hO => d1 fun Rg H => ?_
   refine au ?_
   obtain ⟨h15, H⟩ := H
   refine zo (J0d rfl rfl h15) ?_
   refine sxl hO iv.u H.1 H.2.1 ?_
   refine au ?_
   exact hX1 _ H.2.2 _ _ agr ⟨⟨agr, hO, fr⟩, (lenApp h15)⟩
  refine au ?_
  refine Go1.ret1 func106 rfl ⟨_, er, frs, hle_w1_6, H⟩
 refine au ?_
 refine Go1.ret1 func106 rfl ⟨_, er, frs, hle_w1_6, H⟩
end Sg
