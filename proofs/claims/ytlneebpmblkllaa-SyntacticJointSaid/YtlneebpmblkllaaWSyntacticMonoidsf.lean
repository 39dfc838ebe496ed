/- -/
import Derived.Test.YtlneebpmblkllaaVd
import Derived.Test.YtlneebpmblkllaaWSyntacticMonoidsc
namespace Sg
open Go Go.RowKit Go.Proofs Try
set_option linter.unusedVariables false
set_option linter.unusedSimpArgs false
set_option maxRecDepth 100000
set_option maxHeartbeats 4000000
variable {A : List Nat} {w0 : World}
theorem body47 : Body prog 47 := ⟨f47, func47, rfl, by kernel_rfl⟩
theorem J44 {p_a p_b : Option Addr} {c_a c_b : Nat} {a b : List (List Int)} (hA : HA0 A w0) (h_a : ISs A w0 p_a c_a a) (h_b : ISs A w0 p_b c_b b) {K : Bool → Prop} (H : J0T a b K) :
    CallsV prog 47 #[.slice p_a a.length c_a, .slice p_b b.length c_b] w0 (fun v w' => ∃ (r0 : Bool), v = .bool r0 ∧ Same w0 w' ∧ K r0) := by
 refine cal hA func47 ntmps47 fun hO hB => ?_
 unfold J0T at H
 refine sln0 ?_
 refine sln0 ?_
 refine scm ((H h_a.bd) h_b.bd) (fun h1 H => ?_) fun h1 H => ?_
 ·refine sln0 ?_
  refine au ?_
  refine lv [0, 1, 12] hO H (fun E k1_3 σ w => Lo A w0 σ w [(13, .int .i64 (k1_3 : Int))] []) ⟨agr, hO, fr⟩ ?_
  refine fun X1 => fun k1_3 => fun H hX1 σ w2 hk => lh hk fun hO hB => ?_
  refine scm H (fun h4 H => ?_) fun h4 H => ?_
  ·refine au ?_
   refine drs 0 [q0, q0, q0, q1, q0, q0, q0, q1, q2, q0] hO fun w5 s hO => ?_
   refine sxls hO h_a.u H.1 H.2.1 fun p6 c7 hi8 => ?_
   refine sxls hO h_b.u H.2.2.1 H.2.2.2.1 fun p9 c10 zE => ?_
   have h14 := H.1
   have h15 := H.2.1
   have h16 := H.2.2.1
   have h17 := H.2.2.2.1
   refine zcq rfl (J02 body49 rfl (J1b hO.lt hi8.u zE.u H.2.2.2.2)) fun _ w13 => e1 fun r12 => sq0 hO fun s hO => fun H => ?_
   cases r12
   ·refine au ?_
    refine Go1.ret1 func47 rfl ⟨_, er, frs, (iF H)⟩
   refine sinc (natbd h4 h_a.bd) ?_
   refine au ?_
   exact hX1 _ (iT H) _ _ agr ⟨agr, hO, fr⟩
  refine au ?_
  refine Go1.ret1 func47 rfl ⟨_, er, frs, H⟩
 refine au ?_
 refine Go1.ret1 func47 rfl ⟨_, er, frs, H⟩
theorem body27 : Body prog 27 := ⟨f27, func27, rfl, by kernel_rfl⟩
theorem J0S {p_a p_b : Option Addr} {c_a c_b : Nat} {a b : List Bool} (hA : HA0 A w0) (h_a : ISb A w0 p_a c_a a) (h_b : ISb A w0 p_b c_b b) {K : Bool → Prop} (H : J0s a b K) :
    CallsV prog 27 #[.slice p_a a.length c_a, .slice p_b b.length c_b] w0 (fun v w' => ∃ (r0 : Bool), v = .bool r0 ∧ Same w0 w' ∧ K r0) := by
 refine cal hA func27 ntmps27 fun hO hB => ?_
 unfold J0s at H
 refine sln0 ?_
 refine sln0 ?_
 refine scm ((H h_a.bd) h_b.bd) (fun h1 H => ?_) fun h1 H => ?_
 ·refine sln0 ?_
  refine au ?_
  refine lv [0, 1, 12] hO H (fun E k1_3 σ w => Lo A w0 σ w [(13, .int .i64 (k1_3 : Int))] []) ⟨agr, hO, fr⟩ ?_
  refine fun X1 => fun k1_3 => fun H hX1 σ w2 hk => lh hk fun hO hB => ?_
  refine scm H (fun h4 H => ?_) fun h4 H => ?_
  ·refine au ?_
   refine drs 0 [q0, q0, q0, q1, q0, q0, q0, q1, q0] hO fun w5 s hO => ?_
   refine au ?_
   have h6 := H.1
   have h7 := H.2.1
   refine sxb hO h_a.u H.1 H.2.1 H.2.2 (fun h8 H => ?_) fun h8 H => ?_
   ·refine au ?_
    have h9 := H.1
    have h10 := H.2.1
    refine sxb hO h_b.u H.1 H.2.1 H.2.2 (fun h11 H => ?_) fun h11 H => ?_
    ·refine GoQ.pure rfl (J3o underlying4 rfl rfl) rfl rfl ?_
     refine sinc (natbd h4 h_a.bd) ?_
     refine au ?_
     exact hX1 _ H _ _ agr ⟨agr, hO, fr⟩
    refine GoQ.pure rfl (J3o underlying4 rfl rfl) rfl rfl ?_
    refine au ?_
    refine Go1.ret1 func27 rfl ⟨_, er, frs, H⟩
   refine au ?_
   have h12 := H.1
   have h13 := H.2.1
   refine sxb hO h_b.u H.1 H.2.1 H.2.2 (fun h14 H => ?_) fun h14 H => ?_
   ·refine GoQ.pure rfl (J3o underlying4 rfl rfl) rfl rfl ?_
    refine au ?_
    refine Go1.ret1 func27 rfl ⟨_, er, frs, H⟩
   refine GoQ.pure rfl (J3o underlying4 rfl rfl) rfl rfl ?_
   refine sinc (natbd h4 h_a.bd) ?_
   refine au ?_
   exact hX1 _ H _ _ agr ⟨agr, hO, fr⟩
  refine au ?_
  refine Go1.ret1 func27 rfl ⟨_, er, frs, H⟩
 refine au ?_
 refine Go1.ret1 func27 rfl ⟨_, er, frs, H⟩
theorem body21 : Body prog 21 := ⟨f21, func21, rfl, by kernel_rfl⟩
theorem J5N {mz mB lJ lL pS mD mF lN lQ pU : Option Addr} {mA mC lK lM pT mE mG lO lR pV : Nat} {a b : Syntactic} (hA : HA0 A w0) (vb : ISs A w0 mz mA a.Table) (vc : ISt A w0 mB mC a.Words) (uG : ISi A w0 lJ lK a.Images) (uH : ISb A w0 lL lM a.Accept) (Ad : ISb A w0 pS pT a.Plus) (vd : ISs A w0 mD mE b.Table) (ve : ISt A w0 mF mG b.Words) (uI : ISi A w0 lN lO b.Images) (uJ : ISb A w0 lQ lR b.Accept) (Ae : ISb A w0 pU pV b.Plus) {K : Bool → Prop} (H : J2X a b K) :
    CallsV prog 21 #[.agg (cSY a mz mA mB mC lJ lK lL lM pS pT), .agg (cSY b mD mE mF mG lN lO lQ lR pU pV)] w0 (fun v w' => ∃ (r0 : Bool), v = .bool r0 ∧ Same w0 w' ∧ K r0) := by
 refine cal hA func21 ntmps21 fun hO hB => ?_
 unfold J2X at H
 refine sbx hO fun w1 B2 s hO => ?_
 refine sbx hO fun w4 B5 s hO => ?_
 refine scm H (fun h7 H => ?_) fun h7 H => ?_
 ·refine au ?_
  refine zcr (J02 body47 rfl (J44 hO.lt vb.u vd.u H)) fun _ w9 => e1 fun r8 => sc0 hO fun s hO => fun H => ?_
  refine au ?_
  cases r8
  ·refine au ?_
   refine Go1.ret1 func21 rfl ⟨_, er, frs, (iF H)⟩
  refine au ?_
  refine zcr (J02 body48 rfl (J3v hO.lt vc.u ve.u (iT H))) fun _ w11 => e1 fun r10 => sc0 hO fun s hO => fun H => ?_
  refine au ?_
  cases r10
  ·refine au ?_
   refine Go1.ret1 func21 rfl ⟨_, er, frs, (iF H)⟩
  refine au ?_
  refine zcr (J02 body49 rfl (J1b hO.lt uG.u uI.u (iT H))) fun _ w13 => e1 fun r12 => sc0 hO fun s hO => fun H => ?_
  refine au ?_
  cases r12
  ·refine au ?_
   refine Go1.ret1 func21 rfl ⟨_, er, frs, (iF H)⟩
  refine au ?_
  refine zcr (J02 body27 rfl (J0S hO.lt uH.u uJ.u (iT H))) fun _ w15 => e1 fun r14 => sc0 hO fun s hO => fun H => ?_
  refine au ?_
  cases r14
  ·refine au ?_
   refine Go1.ret1 func21 rfl ⟨_, er, frs, (iF H)⟩
  refine au ?_
  refine zcr (J02 body27 rfl (J0S hO.lt Ad.u Ae.u (iT H))) fun _ w17 => e1 fun r16 => sc0 hO fun s hO => fun H => ?_
  refine au ?_
  refine Go1.ret1 func21 rfl ⟨_, er, frs, H⟩
 refine au ?_
 refine Go1.ret1 func21 rfl ⟨_, er, frs, H⟩
end Sg
