/- -/
import Derived.Test.YtbmaaecppfdjfaaGreatDoorVd
import Derived.Test.YtbmaaecppfdjfaaGreatDoorFm
import Derived.Test.YtbmaaecppfdjfaaGreatDoorWTopFinite
import Derived.Test.YtbmaaecppfdjfaaGreatDoorWTopTransitions
import Derived.Test.YtbmaaecppfdjfaaGreatDoorWTopTransitionsc
namespace Sg
open Go Go.RowKit Go.Proofs Tryz
set_option linter.unusedVariables false
set_option linter.unusedSimpArgs false
set_option maxRecDepth 100000
set_option maxHeartbeats 4000000
variable {A : List Nat} {w0 : World}
theorem Jb3 {aI aW : Option Addr} {aJ aX : Nat} {d : DFA} {w_ : Str} (hA : HA0 A w0) (aH : ISb A w0 aI aJ d.Final) (aK : ISs A w0 aW aX d.Next) (bX : w_.length ≤ mx) (hG : ISl (Rp.int .u8) A w0 (some ⟨0, 0, none⟩) 64 dbTab) {K : Bool → Prop} (H : J6g d w_ K) :
    CallsV prog 5 #[.agg (cDF d aI aJ aW aX), .string (gstr w_)] w0 (fun v w' => ∃ (r0 : Bool), v = .bool r0 ∧ Same w0 w' ∧ K r0) := by
 refine cal hA func5 ntmps5 fun hO hB => ?_;unfold J6g at H;refine sbx hO fun w1 B2 s hO => ?_;refine sag 0 hO ?_;refine zcr (J00 (bo func10) rfl (J3C hO.lt aH.u aK.u H)) fun _ w5 => e1 fun r4 => sc0 hO fun s hO => fun H => ?_
 cases r4
 ·refine au ?_;refine zcr (J00 (bo func12) rfl (J05 hO.lt hG.u (iF H))) fun _ w7 => e1 fun r6 => sc0 hO fun s hO => fun H => ?_;refine au ?_;refine Go1.ret1 func5 rfl ⟨_, er, frs, H⟩
 refine au ?_;refine zcr (J00 (bo func11) rfl (J3D hO.lt bX (iT H))) fun _ w9 => e1 fun r8 => sc0 hO fun s hO => fun H => ?_
 cases r8
 ·refine au ?_;refine zcr (J00 (bo func12) rfl (J05 hO.lt hG.u (iF H))) fun _ w11 => e1 fun r10 => sc0 hO fun s hO => fun H => ?_;refine au ?_;refine Go1.ret1 func5 rfl ⟨_, er, frs, H⟩
 refine sag 0 hO ?_;refine zcr (J00 (bo func24) rfl (J11 hO.lt aH.u aK.u (iT H))) fun _ w14 => e4 fun r12 r13 Mp Mq => e4 fun Mr Mu Ih Ii => e4 fun Ij Ik OF OG => sc0 hO fun s hO => d1 fun mX => d4 fun xC wg wh yY H => ?_;refine sal hO fun w15 B16 s hO => ?_;refine sba 0 hO fun w18 s hO => ?_;refine scm H (fun h19 H => ?_) fun h19 H => ?_
 ·refine sln0 ?_;refine scm (H mX.bd) (fun h20 H => ?_) fun h20 H => ?_
  ·refine au ?_;refine Go1.ret1 func5 rfl ⟨_, er, frs, H⟩
  refine sag 1 hO ?_;refine zcr (J00 (bo func26) rfl (JbO hO.lt aH.u aK.u H)) fun _ w22 => e1 fun r21 => sc0 hO fun s hO => fun H => ?_;refine au ?_
  cases r21
  ·refine au ?_;refine zo (J1x underlying9 rfl) ?_;replace H := (iF H);replace H := H bX;refine sag 1 hO ?_;refine zcr (J00 (bo func27) rfl (J0s hO.lt aH.u aK.u H)) fun _ w24 => e4 fun r23 Mv Mw OH => e1 fun OI => sc0 hO fun s hO => d2 fun xD OJ H => ?_;refine zo (Je7 underlying25 rfl underlying22 rfl rfl rfl) ?_;refine sln0 ?_;refine scm (H xD.bd) (fun h25 H => ?_) fun h25 H => ?_
   ·refine au ?_;refine zcr (J00 (bo func12) rfl (J05 hO.lt hG.u H)) fun _ w27 => e1 fun r26 => sc0 hO fun s hO => fun H => ?_;refine au ?_;refine Go1.ret1 func5 rfl ⟨_, er, frs, H⟩
   refine au ?_;refine drw 0 [(0, q1), (1, q0), (3, q0), (4, q1), (2, q2), (5, q2), (6, q0), (7, q0), (8, q2), (9, q0), (10, q0)] hO fun w28 s hO => ?_;refine sag 0 hO ?_;refine au ?_;refine zcq rfl (J00 (bo func28) rfl (Ja8 hO.lt mX.u xC.u wg.u wh.u yY.u bX H)) fun _ w30 => e1 fun r29 => sq0 hO fun s hO => fun H => ?_;refine zcq rfl (J00 (bo func29) rfl (Jd6 hO.lt mX.u H)) fun _ w32 => e1 fun r31 => sq0 hO fun s hO => fun H => ?_;refine scm H (fun h33 H => ?_) fun h33 H => ?_
   ·refine au ?_;refine zcq rfl (J00 (bo func12) rfl (J05 hO.lt hG.u H)) fun _ w35 => e1 fun r34 => sq0 hO fun s hO => fun H => ?_;refine au ?_;refine Go1.ret1 func5 rfl ⟨_, er, frs, H⟩
   refine au ?_;refine Go1.ret1 func5 rfl ⟨_, er, frs, H⟩
  refine au ?_;refine zcr (J00 (bo func12) rfl (J05 hO.lt hG.u (iT H))) fun _ w37 => e1 fun r36 => sc0 hO fun s hO => fun H => ?_;refine au ?_;refine Go1.ret1 func5 rfl ⟨_, er, frs, H⟩
 refine au ?_;refine Go1.ret1 func5 rfl ⟨_, er, frs, H⟩
end Sg
