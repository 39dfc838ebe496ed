/- -/
import Derived.Test.YtbmaaecppfdjfaaGreatDoorVd
import Derived.Test.YtbmaaecppfdjfaaGreatDoorFm
import Derived.Test.YtbmaaecppfdjfaaGreatDoorWTopTransitions
import Derived.Test.YtbmaaecppfdjfaaGreatDoorWTopTransitionsc
import Derived.Test.YtbmaaecppfdjfaaGreatDoorWTopTransitionsd
import Derived.Test.YtbmaaecppfdjfaaGreatDoorWTopTransitionse
namespace Sg
open Go Go.RowKit Go.Proofs Tryz
set_option linter.unusedVariables false
set_option linter.unusedSimpArgs false
set_option maxRecDepth 100000
set_option maxHeartbeats 4000000
variable {A : List Nat} {w0 : World}
theorem J8j {cM dp : Option Addr} {cN dq : Nat} {a0 : DFA} {a1 a2 : Str} (hA : HA0 A w0) (aV : ISb A w0 cM cN a0.Final) (bV : ISs A w0 dp dq a0.Next) (jM : a1.length ≤ mx) (vn : a2.length ≤ mx) (hG : ISl (Rp.int .u8) A w0 (some ⟨0, 0, none⟩) 64 dbTab) {K : Bool → Prop} (H : J2C a0 a1 a2 K) :
    CallsV prog 3 #[.agg (cDF a0 cM cN dp dq), .string (gstr a1), .string (gstr a2)] w0 (fun v w' => ∃ (r0 : Bool), v = .bool r0 ∧ Same w0 w' ∧ K r0) := by
 refine cal hA func3 ntmps3 fun hO hB => ?_;unfold J2C at H;refine sbx hO fun w1 B2 s hO => ?_;refine sag 0 hO ?_;refine zcr (J00 (bo func10) rfl (J3C hO.lt aV.u bV.u H)) fun _ w5 => e1 fun r4 => sc0 hO fun s hO => fun H => ?_
 cases r4
 ·refine au ?_;refine zcr (J00 (bo func12) rfl (J05 hO.lt hG.u (iF H))) fun _ w7 => e1 fun r6 => sc0 hO fun s hO => fun H => ?_;refine au ?_;refine Go1.ret1 func3 rfl ⟨_, er, frs, H⟩
 refine au ?_;refine zo (J1x underlying9 rfl) ?_;replace H := (iT H);replace H := H jM;refine au ?_;refine zo (J1x underlying9 rfl) ?_;replace H := H vn;obtain ⟨h8, H⟩ := H;refine zo (J06 rfl rfl (wrap_i64 h8)) ?_;refine scm H (fun h9 H => ?_) fun h9 H => ?_
 ·refine au ?_;refine zcr (J00 (bo func12) rfl (J05 hO.lt hG.u H)) fun _ w11 => e1 fun r10 => sc0 hO fun s hO => fun H => ?_;refine au ?_;refine Go1.ret1 func3 rfl ⟨_, er, frs, H⟩
 refine au ?_;refine zcr (J00 (bo func11) rfl (J3D hO.lt jM H)) fun _ w13 => e1 fun r12 => sc0 hO fun s hO => fun H => ?_
 cases r12
 ·refine au ?_;refine zcr (J00 (bo func12) rfl (J05 hO.lt hG.u (iF H))) fun _ w15 => e1 fun r14 => sc0 hO fun s hO => fun H => ?_;refine au ?_;refine Go1.ret1 func3 rfl ⟨_, er, frs, H⟩
 refine au ?_;refine zcr (J00 (bo func11) rfl (J3D hO.lt vn (iT H))) fun _ w17 => e1 fun r16 => sc0 hO fun s hO => fun H => ?_
 cases r16
 ·refine au ?_;refine zcr (J00 (bo func12) rfl (J05 hO.lt hG.u (iF H))) fun _ w19 => e1 fun r18 => sc0 hO fun s hO => fun H => ?_;refine au ?_;refine Go1.ret1 func3 rfl ⟨_, er, frs, H⟩
 refine sag 0 hO ?_;refine zcr (J00 (bo func13) rfl (J5L hO.lt aV.u bV.u (iT H))) fun _ w22 => e4 fun r20 r21 bx bz => sc0 hO fun s hO => d1 fun i5 H => ?_;refine au ?_;refine zcr (J00 (bo func14) rfl (J1e hO.lt i5 H)) fun _ w25 => e4 fun r23 r24 tJ tK => e4 fun qY q8 pY qa => e4 fun tL tM q9 rh => e2 fun rk ro => sc0 hO fun s hO => d1 fun dr => d1 fun cU => d4 fun cE dt cV cW H => ?_;refine sal hO fun w26 B27 s hO => ?_;refine sba 0 hO fun w29 s hO => ?_;refine sag 0 hO ?_;refine zcr (J00 (bo func15) rfl (J1V hO.lt dr.u cU.u cE.u dt.u cV.u cW.u H)) fun _ w32 => e4 fun r30 r31 GK GL => sc0 hO fun s hO => d1 fun fu H => ?_;refine scm H (fun h33 H => ?_) fun h33 H => ?_
 ·refine scm H (fun h34 H => ?_) fun h34 H => ?_
  ·refine scm H (fun h35 H => ?_) fun h35 H => ?_
   ·refine sln0 ?_;refine au ?_;refine snil Fl.i 3 hO fun s hO => ?_;refine lv [1, 2, 3, 9, 11, 71, 72] hO (H i5.bd) (fun E (k1_38, d_39) σ w => ∃ n42 p40 c41, (fun Z => Lo A w0 σ w [(13, .slice p40 n42 c41), (73, .int .i64 (k1_38 : Int))] Z ∧ ISs (bl Z ++ A) w bx bz r20 ∧ ISs (bl Z ++ A) w tJ tK r23.Gens ∧ ISs (bl Z ++ A) w qY q8 r23.Elems ∧ ISi (bl Z ++ A) w pY qa r23.Prefix ∧ ISi (bl Z ++ A) w tL tM r23.Last ∧ ISs (bl Z ++ A) w q9 rh r23.Right ∧ ISl (rpRule) (bl Z ++ A) w rk ro r23.Rules ∧ ISs (bl Z ++ A) w GK GL r30) (E.set 0 (t1 Fl.i 3 p40 n42 c41 d_39))) ⟨_, _, _, ⟨agr, hO, fr⟩, i5.u, dr.u, cU.u, cE.u, dt.u, cV.u, cW.u, fu.u⟩ ?_;refine fun X1 => p1 fun k1_38 d_39 => fun H hX1 σ w37 hk => e3 fun n42 p40 c41 => d1 fun hL => d1 fun i5 => d1 fun dr => d1 fun cU => d4 fun cE dt cV cW fu => lh hk (fun hO hB => ?_) hL;dsimp only [esets, sS, sZ] at hO hB i5 dr cU cE dt cV cW fu;dsimp only at H;revert hO; repeat (rename Owns .. => q; clear q)
    intro hO; repeat (rename Sq .. => q; clear q)
    refine scm H (fun h43 H => ?_) fun h43 H => ?_
    ·refine sxls hO i5 H.1 H.2.1 fun p44 c45 fU => ?_;refine sag 1 hO ?_;refine au ?_;have h49 := H.1;have h50 := H.2.1;refine zcr (J00 (bo func16) rfl (J40 hO.lt dr cU cE dt cV cW fU.u H.2.2)) fun _ w48 => e1 fun r47 => sc0 hO fun s hO => fun H => ?_;refine sap1 r47 0 hO H fun _ w51 p52 c53 s hO => ?_;refine sinc (natbd h43 i5.bd) ?_;refine au ?_;exact hX1 _ H.2 _ _ agr ⟨_, _, _, ⟨agr, hO, fr⟩, i5.u, dr.u, cU.u, cE.u, dt.u, cV.u, cW.u, fu.u⟩
    refine au ?_;refine drw 0 [(0, q1), (1, q0), (3, q1), (4, q0), (2, q2), (5, q2), (6, q0), (7, q0)] hO fun w54 s hO => ?_;refine sag 1 hO ?_;refine sag 1 hO ?_;refine au ?_;refine zcq rfl (J00 (bo func17) rfl (J1N hO.lt dr.u cU.u cE.u dt.u cV.u cW.u jM H)) fun _ w56 => e1 fun r55 => sq0 hO fun s hO => fun H => ?_;refine zcq rfl (J00 (bo func17) rfl (J1N hO.lt dr.u cU.u cE.u dt.u cV.u cW.u vn H)) fun _ w58 => e1 fun r57 => sq0 hO fun s hO => fun H => ?_;refine sln0 ?_;refine au ?_;refine lv [1, 2, 3, 9, 11, 13, 16, 17, 92] hO (H aV.bd) (fun E (b2_60, k2_61) σ w => (fun Z => Lo A w0 σ w [(18, .bool b2_60), (93, .int .i64 (k2_61 : Int))] Z ∧ ISs (bl Z ++ A) w tJ tK r23.Gens ∧ ISs (bl Z ++ A) w qY q8 r23.Elems ∧ ISi (bl Z ++ A) w pY qa r23.Prefix ∧ ISi (bl Z ++ A) w tL tM r23.Last ∧ ISs (bl Z ++ A) w q9 rh r23.Right ∧ ISl (rpRule) (bl Z ++ A) w rk ro r23.Rules ∧ ISs (bl Z ++ A) w GK GL r30) E) ⟨⟨agr, hO, fr⟩, dr.u, cU.u, cE.u, dt.u, cV.u, cW.u, fu.u⟩ ?_;refine fun X2 => p1 fun b2_60 k2_61 => fun H hX2 σ w59 hk => d1 fun hL => d1 fun dr => d1 fun cU => d4 fun cE dt cV cW fu => lh hk (fun hO hB => ?_) hL;dsimp only at H;revert hO; repeat (rename Owns .. => q; clear q)
    intro hO; repeat (rename Sq .. => q; clear q)
    refine scm H (fun h62 H => ?_) fun h62 H => ?_
    ·refine au ?_;refine drw 0 [(0, q0), (1, q0), (2, q1), (3, q0), (4, q0), (6, q1), (7, q0), (8, q0), (5, q2), (9, q2), (10, q0), (11, q0), (12, q0)] hO fun w63 s hO => ?_;refine au ?_
     cases b2_60
     ·refine sinc (natbd h62 aV.bd) ?_;refine au ?_;exact hX2 _ (iF H) _ _ agr ⟨⟨agr, hO, fr⟩, dr.u, cU.u, cE.u, dt.u, cV.u, cW.u, fu.u⟩
     refine sag 2 hO ?_;refine sag 2 hO ?_;refine au ?_;refine zcq rfl (J00 (bo func18) rfl (J7t hO.lt aV.u bV.u jM (iT H))) fun _ w65 => e1 fun r64 => sq0 hO fun s hO => fun H => ?_;refine zcq rfl (J00 (bo func18) rfl (J7t hO.lt aV.u bV.u vn H)) fun _ w67 => e1 fun r66 => sq0 hO fun s hO => fun H => ?_;refine scm H (fun h68 H => ?_) fun h68 H => ?_
     ·refine sinc (natbd h62 aV.bd) ?_;refine au ?_;exact hX2 _ H _ _ agr ⟨⟨agr, hO, fr⟩, dr.u, cU.u, cE.u, dt.u, cV.u, cW.u, fu.u⟩
     refine sinc (natbd h62 aV.bd) ?_;refine au ?_;exact hX2 _ H _ _ agr ⟨⟨agr, hO, fr⟩, dr.u, cU.u, cE.u, dt.u, cV.u, cW.u, fu.u⟩
    refine au ?_;refine drw 0 [(0, q0), (1, q0), (2, q0), (3, q0), (4, q0), (5, q0), (6, q0), (7, q2), (8, q2), (9, q0), (10, q0), (11, q0), (12, q0), (13, q0), (14, q0), (15, q0), (16, q0), (17, q0), (18, q0), (19, q1), (20, q0), (21, q0), (22, q0), (24, q0), (25, q0), (26, q0), (27, q1), (28, q0), (29, q0), (30, q1), (23, q2), (31, q0), (32, q0)] hO fun w69 s hO => ?_;refine sln0 ?_;refine scm (H fu.bd) (fun h70 H => ?_) fun h70 H => ?_
    ·refine au ?_;refine Go1.ret1 func3 rfl ⟨_, er, frs, H⟩
    refine sbu Fl.i 3 [r55, r57] hO fun w71 p72 s hO => ?_;have aaL := t1lend 0 hO;have aaM := t1n 0 hO;have hOc76 := hO.drop 0;refine zcq rfl (J00 (bo func19) (by rw [aaM]; exact rfl) (Jbg hOc76.lt (fu.u.ch (Owns.J8Y _ _ 0)) aaL H)) fun _ w78 => e1 fun r77 => sq0 hO fun s hO => fun H => ?_
    cases r77
    ·refine au ?_;refine Go1.ret1 func3 rfl ⟨_, er, frs, (iF H)⟩
    refine scm (iT H) (fun h79 H => ?_) fun h79 H => ?_
    ·refine au ?_
     cases b2_60
     ·refine GoQ.pure rfl (J5W underlying4 rfl rfl) rfl rfl ?_;refine au ?_;refine Go1.ret1 func3 rfl ⟨_, er, frs, (iF H)⟩
     refine GoQ.pure rfl (J5W underlying4 rfl rfl) rfl rfl ?_;refine sag 2 hO ?_;refine au ?_;replace H := (iT H);obtain ⟨h80, H⟩ := H;refine GoQ.pure rfl (JcP rfl rfl h80) rfl rfl ?_;refine six fu H.1 H.2.1 ?_;refine slds hO fu.u H.1 H.2.1 fun p81 c82 A5 => ?_;refine six A5 H.2.2.1 H.2.2.2.1 ?_;refine sld hO A5.u H.2.2.1 H.2.2.2.1 ?_;have h86 := H.1;have h87 := H.2.1;have h88 := H.2.2.1;have h89 := H.2.2.2.1;refine zcq rfl (J00 (bo func17) rfl (J1N hO.lt dr.u cU.u cE.u dt.u cV.u cW.u (lenApp h80) H.2.2.2.2)) fun _ w85 => e1 fun r84 => sq0 hO fun s hO => fun H => ?_;refine scm H (fun h90 H => ?_) fun h90 H => ?_
     ·refine sln0 ?_;refine scm H (fun h91 H => ?_) fun h91 H => ?_
      ·refine au ?_;refine zcr (J00 (bo func12) rfl (J05 hO.lt hG.u H)) fun _ w93 => e1 fun r92 => sc0 hO fun s hO => fun H => ?_;refine au ?_;refine Go1.ret1 func3 rfl ⟨_, er, frs, H⟩
      refine au ?_;have aaN := t1lend 1 hO;have aaO := t1n 1 hO;have hOc96 := hO.drop 1;refine zcr (J00 (bo func20) (by rw [aaO]; exact rfl) (J9h hOc96.lt (fu.u.ch (Owns.J8Y _ _ 1)) aaN jM H)) fun _ w98 => e1 fun r97 => sc0 hO fun s hO => fun H => ?_;refine scm H (fun h99 H => ?_) fun h99 H => ?_
      ·refine au ?_;refine zcr (J00 (bo func21) rfl (J4r hO.lt fu.u H)) fun _ vr => e1 fun r100 => sc0 hO fun s hO => fun H => ?_;refine scm H (fun pI H => ?_) fun pI H => ?_
       ·refine au ?_;refine zcr (J00 (bo func12) rfl (J05 hO.lt hG.u H)) fun _ ul => e1 fun r103 => sc0 hO fun s hO => fun H => ?_;refine au ?_;refine Go1.ret1 func3 rfl ⟨_, er, frs, H⟩
       refine au ?_;refine Go1.ret1 func3 rfl ⟨_, er, frs, H⟩
      refine au ?_;refine Go1.ret1 func3 rfl ⟨_, er, frs, H⟩
     refine au ?_;refine Go1.ret1 func3 rfl ⟨_, er, frs, H⟩
    refine au ?_
    cases b2_60
    ·refine GoQ.pure rfl (J5W underlying4 rfl rfl) rfl rfl ?_;refine sag 2 hO ?_;refine au ?_;replace H := (iF H);obtain ⟨jO, H⟩ := H;refine GoQ.pure rfl (JcP rfl rfl jO) rfl rfl ?_;refine six fu H.1 H.2.1 ?_;refine slds hO fu.u H.1 H.2.1 fun aiv aiw GM => ?_;refine six GM H.2.2.1 H.2.2.2.1 ?_;refine sld hO GM.u H.2.2.1 H.2.2.2.1 ?_;have nV := H.1;have ic := H.2.1;have nf := H.2.2.1;have DE := H.2.2.2.1;refine zcq rfl (J00 (bo func17) rfl (J1N hO.lt dr.u cU.u cE.u dt.u cV.u cW.u (lenApp jO) H.2.2.2.2)) fun _ BX => e1 fun r109 => sq0 hO fun s hO => fun H => ?_;refine scm H (fun oW H => ?_) fun oW H => ?_
     ·refine sln0 ?_;refine scm H (fun oX H => ?_) fun oX H => ?_
      ·refine au ?_;refine zcr (J00 (bo func12) rfl (J05 hO.lt hG.u H)) fun _ I6 => e1 fun r117 => sc0 hO fun s hO => fun H => ?_;refine au ?_;refine Go1.ret1 func3 rfl ⟨_, er, frs, H⟩
      refine au ?_;have Ue := t1lend 1 hO;have Uf := t1n 1 hO;have hOc121 := hO.drop 1;refine zcr (J00 (bo func20) (by rw [Uf]; exact rfl) (J9h hOc121.lt (fu.u.ch (Owns.J8Y _ _ 1)) Ue jM H)) fun _ DT => e1 fun r122 => sc0 hO fun s hO => fun H => ?_;refine scm H (fun kg H => ?_) fun kg H => ?_
      ·refine au ?_;refine zcr (J00 (bo func21) rfl (J4r hO.lt fu.u H)) fun _ tT => e1 fun r125 => sc0 hO fun s hO => fun H => ?_;refine scm H (fun tU H => ?_) fun tU H => ?_
       ·refine au ?_;refine zcr (J00 (bo func12) rfl (J05 hO.lt hG.u H)) fun _ XP => e1 fun r128 => sc0 hO fun s hO => fun H => ?_;refine au ?_;refine Go1.ret1 func3 rfl ⟨_, er, frs, H⟩
       refine au ?_;refine Go1.ret1 func3 rfl ⟨_, er, frs, H⟩
      refine au ?_;refine Go1.ret1 func3 rfl ⟨_, er, frs, H⟩
     refine au ?_;refine Go1.ret1 func3 rfl ⟨_, er, frs, H⟩
    refine GoQ.pure rfl (J5W underlying4 rfl rfl) rfl rfl ?_;refine au ?_;refine Go1.ret1 func3 rfl ⟨_, er, frs, (iT H)⟩
   refine au ?_;refine Go1.ret1 func3 rfl ⟨_, er, frs, H⟩
  refine au ?_;refine Go1.ret1 func3 rfl ⟨_, er, frs, H⟩
 refine au ?_;refine Go1.ret1 func3 rfl ⟨_, er, frs, H⟩
end Sg
