/- -/
import Derived.Test.YtbmaaecppfdjfaaGreatDoorVA
import Derived.Test.YtbmaaecppfdjfaaGreatDoorFm
import Derived.Test.YtbmaaecppfdjfaaGreatDoorWTopFinite
import Derived.Test.YtbmaaecppfdjfaaGreatDoorWTopRanks
import Derived.Test.YtbmaaecppfdjfaaGreatDoorWTopSyntactic
import Derived.Test.YtbmaaecppfdjfaaGreatDoorWTopTransitions
import Derived.Test.YtbmaaecppfdjfaaGreatDoorWTopTransitionsc
namespace Sg
open Go Go.RowKit Go.Proofs Tryz
set_option linter.unusedVariables false
set_option linter.unusedSimpArgs false
set_option maxRecDepth 100000
set_option maxHeartbeats 4000000
variable {A:List Nat} {w0:World}
theorem J5X {p_f:Option Addr} {c_f:Nat} {f:List Int} (hA:HA0 A w0) (h_f:ISi A w0 p_f c_f f) {K:Bool→Prop} (H:J0V f K) :
    CallsV prog 47 #[.slice p_f f.length c_f] w0 (fun v w'=>∃(r0:Bool),v=.bool r0∧Same w0 w'∧K r0):=by
 refine cal hA func47 ntmps47 fun hO hB=>?_;unfold J0V at H;refine au ?_;refine zcr (J00 (bo func30) rfl (J0L hO.lt h_f.u H)) fun _ w2=>e1 fun r1=>sc0 hO fun s hO=>fun H=>?_;refine au ?_
 cases r1
 ·refine au ?_;refine Go1.ret1 func47 rfl ⟨_,er,frs,(iF H)⟩
 refine au ?_;refine zcr (J00 (bo func46) rfl (Ja0 hO.lt h_f.u (iT H))) fun _ w4=>e1 fun r3=>sc0 hO fun s hO=>fun H=>?_;refine sln0 ?_;refine scm (H h_f.bd) (fun h5 H=>?_) fun h5 H=>?_
 ·refine au ?_;refine Go1.ret1 func47 rfl ⟨_,er,frs,H⟩
 refine au ?_;refine Go1.ret1 func47 rfl ⟨_,er,frs,H⟩
theorem J2P {dA dC dg di dO:Option Addr} {dB dD dh dj dP:Nat} {s_:Syntactic} (hA:HA0 A w0) (ck:ISs A w0 dA dB s_.Table) (gy:ISt A w0 dC dD s_.Words) (dI:ISi A w0 dg dh s_.Images) (fv:ISb A w0 di dj s_.Accept) (ie:ISb A w0 dO dP s_.Plus) {K:Bool→Prop} (H:J0r s_ K) :
    CallsV prog 49 #[.agg (cSY s_ dA dB dC dD dg dh di dj dO dP)] w0 (fun v w'=>∃(r0:Bool),v=.bool r0∧Same w0 w'∧K r0):=by
 refine cal hA func49 ntmps49 fun hO hB=>?_;unfold J0r at H;refine sbx hO fun w1 B2 s hO=>?_;refine sag 0 hO ?_;refine zcr (J00 (bo func75) rfl (J6n hO.lt ck.u gy.u dI.u fv.u ie.u H)) fun _ w5=>e1 fun r4=>sc0 hO fun s hO=>fun H=>?_;refine scm H (fun h6 H=>?_) fun h6 H=>?_
 ·refine sln0 ?_;refine au ?_;refine lv [1,10] hO (H ck.bd) (fun E k1_8 σ w=>Lo A w0 σ w [(11,.int .i64 (k1_8:Int))] E) ⟨agr,hO,fr⟩ ?_;refine fun X1=>fun k1_8=>fun H hX1 σ w7 hk=>lh hk fun hO hB=>?_;revert hO;repeat (rename Owns ..=>q;clear q)
  intro hO;repeat (rename Sq ..=>q;clear q)
  refine scm H (fun h9 H=>?_) fun h9 H=>?_
  ·refine au ?_;refine lv [1,3,10,11] hO H (fun E e2_11 σ w=>Lo A w0 σ w [(4,.int .i64 e2_11)] E) ⟨agr,hO,fr⟩ ?_;refine fun X2=>fun e2_11=>fun H hX2 σ w10 hk=>lh hk fun hO hB=>?_;revert hO;repeat (rename Owns ..=>q;clear q)
   intro hO;repeat (rename Sq ..=>q;clear q)
   refine sxls hO ck.u H.1 H.2.1 fun p12 c13 rO=>?_;refine sxl hO rO.u H.2.2.1 H.2.2.2.1 ?_;refine au ?_;have h15:=H.1;have h16:=H.2.1;have h17:=H.2.2.1;have h18:=H.2.2.2.1;refine scm H.2.2.2.2 (fun h19 H=>?_) fun h19 H=>?_
   ·refine sxls hO ck.u H.1 H.2.1 fun p20 c21 CV=>?_;refine sxl hO CV.u H.2.2.1 H.2.2.2.1 ?_;refine au ?_;have h23:=H.1;have h24:=H.2.1;have h25:=H.2.2.1;have h26:=H.2.2.2.1;refine scm H.2.2.2.2 (fun h27 H=>?_) fun h27 H=>?_
    ·refine sinc (natbd h9 ck.bd) ?_;refine au ?_;exact hX1 _ H _ _ agr ⟨agr,hO,fr⟩
    refine au ?_;refine Go1.ret1 func49 rfl ⟨_,er,frs,H⟩
   refine sxls hO ck.u H.1 H.2.1 fun p28 c29 BL=>?_;refine sxl hO BL.u H.2.2.1 H.2.2.2.1 ?_;refine au ?_;exact hX2 _ H.2.2.2.2 _ _ agr ⟨agr,hO,fr⟩
  refine au ?_;refine Go1.ret1 func49 rfl ⟨_,er,frs,H⟩
 refine au ?_;refine Go1.ret1 func49 rfl ⟨_,er,frs,H⟩
theorem J8x {cM dp:Option Addr} {cN dq:Nat} {a0:DFA} (hA:HA0 A w0) (aV:ISb A w0 cM cN a0.Final) (bV:ISs A w0 dp dq a0.Next) (hG:ISl (Rp.int .u8) A w0 (some ⟨0,0,none⟩) 64 dbTab) {K:Bool→Prop} (H:J4o a0 K) :
    CallsV prog 9 #[.agg (cDF a0 cM cN dp dq)] w0 (fun v w'=>∃(r0:Bool),v=.bool r0∧Same w0 w'∧K r0):=by
 refine cal hA func9 ntmps9 fun hO hB=>?_;unfold J4o at H;refine sbx hO fun w1 B2 s hO=>?_;refine sag 0 hO ?_;refine zcr (J00 (bo func10) rfl (J7I hO.lt aV.u bV.u H)) fun _ w5=>e1 fun r4=>sc0 hO fun s hO=>fun H=>?_
 cases r4
 ·refine au ?_;refine zcr (J00 (bo func12) rfl (J0T hO.lt hG.u (iF H))) fun _ w7=>e1 fun r6=>sc0 hO fun s hO=>fun H=>?_;refine au ?_;refine Go1.ret1 func9 rfl ⟨_,er,frs,H⟩
 refine sag 0 hO ?_;refine zcr (J00 (bo func27) rfl (J1K hO.lt aV.u bV.u (iT H))) fun _ w9=>e4 fun r8 sr ss uA=>e1 fun uB=>sc0 hO fun s hO=>d2 fun fo ig H=>?_;refine sal hO fun w10 B11 s hO=>?_;refine sba 0 hO fun w13 s hO=>?_;refine sag 0 hO ?_;refine zcr (J00 (bo func13) rfl (J6E hO.lt fo.u ig.u H)) fun _ w16=>e4 fun r14 r15 fQ fR=>sc0 hO fun s hO=>d1 fun dE H=>?_;refine sag 1 hO ?_;refine zcr (J00 (bo func24) rfl (J3p hO.lt aV.u bV.u H)) fun _ w19=>e4 fun r17 r18 xE xF=>e4 fun xG xH wi wj=>e4 fun wk wm y3 y4=>sc0 hO fun s hO=>d1 fun fw=>d4 fun gP gm gn iA H=>?_;refine sal hO fun w20 B21 s hO=>?_;refine sba 0 hO fun w23 s hO=>?_;refine au ?_;refine zcr (J00 (bo func42) rfl (J8M hO.lt fw.u H)) fun _ w25=>e4 fun r24 GO GP GQ=>e4 fun GR GT GU GW=>e3 fun GX xI xJ=>sc0 hO fun s hO=>d1 fun qf=>d4 fun qg qh jr kE H=>?_;refine sal hO fun w26 B27 s hO=>?_;refine sba 0 hO fun w29 s hO=>?_;refine scm H (fun h30 H=>?_) fun h30 H=>?_
 ·refine scm H (fun h31 H=>?_) fun h31 H=>?_
  ·refine sln0 ?_;refine sln0 ?_;refine scm ((H jr.bd) fw.bd) (fun h32 H=>?_) fun h32 H=>?_
   ·refine sln0 ?_;refine scm H (fun h33 H=>?_) fun h33 H=>?_
    ·refine au ?_;refine Go1.ret1 func9 rfl ⟨_,er,frs,H⟩
    refine sln0 ?_;refine au ?_;refine sdr [2,2] hO fun s hO=>?_;refine lv [6,8,52,53] hO (H dE.bd) (fun E (b1_35,k1_36) σ w=>(fun Z=>Lo A w0 σ w [(9,.bool b1_35),(54,.int .i64 (k1_36:Int))] Z∧ISs (bl Z++A) w fQ fR r14∧ISs (bl Z++A) w xE xF r17.Table∧ISt (bl Z++A) w xG xH r17.Words∧ISi (bl Z++A) w wi wj r17.Images∧ISb (bl Z++A) w wk wm r17.Accept∧ISb (bl Z++A) w y3 y4 r17.Plus∧ISi (bl Z++A) w GO GP r24.R∧ISi (bl Z++A) w GQ GR r24.L∧ISi (bl Z++A) w GT GU r24.J∧ISi (bl Z++A) w GW GX r24.H∧ISl (Rp.sl (Rp.bool)) (bl Z++A) w xI xJ r24.Below) E) ⟨⟨agr,hO,fr⟩,dE.u,fw.u,gP.u,gm.u,gn.u,iA.u,qf.u,qg.u,qh.u,jr.u,kE.u⟩ ?_;refine fun X1=>p1 fun b1_35 k1_36=>fun H hX1 σ w34 hk=>d1 fun hL=>d1 fun dE=>d1 fun fw=>d1 fun gP=>d1 fun gm=>d1 fun gn=>d1 fun iA=>d4 fun qf qg qh jr kE=>lh hk (fun hO hB=>?_) hL;dsimp only at H;revert hO;repeat (rename Owns ..=>q;clear q)
    intro hO;repeat (rename Sq ..=>q;clear q)
    refine scm H (fun h37 H=>?_) fun h37 H=>?_
    ·refine sxls hO dE H.1 H.2.1 fun p38 c39 CX=>?_;refine au ?_
     cases b1_35
     ·refine sinc (natbd h37 dE.bd) ?_;refine au ?_;exact hX1 _ (iF H.2.2) _ _ agr ⟨⟨agr,hO,fr⟩,dE,fw,gP,gm,gn,iA,qf,qg,qh,jr,kE⟩
     refine au ?_;have h43:=H.1;have h44:=H.2.1;refine zcr (J00 (bo func47) rfl (J5X hO.lt CX.u (iT H.2.2))) fun _ w42=>e1 fun r41=>sc0 hO fun s hO=>fun H=>?_;refine sinc (natbd h37 dE.bd) ?_;refine au ?_;exact hX1 _ H _ _ agr ⟨⟨agr,hO,fr⟩,dE.u,fw.u,gP.u,gm.u,gn.u,iA.u,qf.u,qg.u,qh.u,jr.u,kE.u⟩
    refine au ?_;refine drw 0 [(0,q0),(1,q0),(2,q1),(3,q2),(4,q0),(5,q0),(6,q0),(7,q1),(9,q0),(10,q1),(12,q0),(13,q1),(14,q0),(8,q2),(11,q2),(15,q0),(16,q0),(17,q0),(18,q0),(19,q2),(20,q0),(21,q0)] hO fun w45 s hO=>?_;refine au ?_;refine zcq rfl (J00 (bo func48) rfl (J0A hO.lt jr.u H)) fun _ w47=>e1 fun r46=>sq0 hO fun s hO=>fun H=>?_;refine scm H (fun h48 H=>?_) fun h48 H=>?_
    ·cases b1_35
     ·refine GoQ.pure rfl (J47 underlying4 rfl rfl) rfl rfl ?_;refine au ?_;refine Go1.ret1 func9 rfl ⟨_,er,frs,(iF H)⟩
     refine GoQ.pure rfl (J47 underlying4 rfl rfl) rfl rfl ?_;refine sag 1 hO ?_;refine sln0 ?_;refine zcq rfl (J00 (bo func49) rfl (J2P hO.lt fw.u gP.u gm.u gn.u iA.u (iT H))) fun _ w50=>e1 fun r49=>sq0 hO fun s hO=>fun H=>?_;refine zcq rfl (J00 (bo func48) rfl (J0A hO.lt jr.u H)) fun _ w52=>e1 fun r51=>sq0 hO fun s hO=>fun H=>?_;refine scm H (fun h53 H=>?_) fun h53 H=>?_
     ·cases r49
      ·refine GoQ.pure rfl (J47 underlying4 rfl rfl) rfl rfl ?_;refine au ?_;refine Go1.ret1 func9 rfl ⟨_,er,frs,(iF H)⟩
      refine GoQ.pure rfl (J47 underlying4 rfl rfl) rfl rfl ?_;refine au ?_;refine zcq rfl (J00 (bo func12) rfl (J0T hO.lt hG.u (iT H))) fun _ w55=>e1 fun r54=>sq0 hO fun s hO=>fun H=>?_;refine au ?_;refine Go1.ret1 func9 rfl ⟨_,er,frs,H⟩
     cases r49
     ·refine GoQ.pure rfl (J47 underlying4 rfl rfl) rfl rfl ?_;refine au ?_;refine zcq rfl (J00 (bo func12) rfl (J0T hO.lt hG.u (iF H))) fun _ w57=>e1 fun r56=>sq0 hO fun s hO=>fun H=>?_;refine au ?_;refine Go1.ret1 func9 rfl ⟨_,er,frs,H⟩
     refine GoQ.pure rfl (J47 underlying4 rfl rfl) rfl rfl ?_;refine au ?_;refine Go1.ret1 func9 rfl ⟨_,er,frs,(iT H)⟩
    cases b1_35
    ·refine GoQ.pure rfl (J47 underlying4 rfl rfl) rfl rfl ?_;refine sag 1 hO ?_;refine sln0 ?_;refine zcq rfl (J00 (bo func49) rfl (J2P hO.lt fw.u gP.u gm.u gn.u iA.u (iF H))) fun _ w59=>e1 fun r58=>sq0 hO fun s hO=>fun H=>?_;refine zcq rfl (J00 (bo func48) rfl (J0A hO.lt jr.u H)) fun _ w61=>e1 fun r60=>sq0 hO fun s hO=>fun H=>?_;refine scm H (fun h62 H=>?_) fun h62 H=>?_
     ·cases r58
      ·refine GoQ.pure rfl (J47 underlying4 rfl rfl) rfl rfl ?_;refine au ?_;refine Go1.ret1 func9 rfl ⟨_,er,frs,(iF H)⟩
      refine GoQ.pure rfl (J47 underlying4 rfl rfl) rfl rfl ?_;refine au ?_;refine zcq rfl (J00 (bo func12) rfl (J0T hO.lt hG.u (iT H))) fun _ w64=>e1 fun r63=>sq0 hO fun s hO=>fun H=>?_;refine au ?_;refine Go1.ret1 func9 rfl ⟨_,er,frs,H⟩
     cases r58
     ·refine GoQ.pure rfl (J47 underlying4 rfl rfl) rfl rfl ?_;refine au ?_;refine zcq rfl (J00 (bo func12) rfl (J0T hO.lt hG.u (iF H))) fun _ w66=>e1 fun r65=>sq0 hO fun s hO=>fun H=>?_;refine au ?_;refine Go1.ret1 func9 rfl ⟨_,er,frs,H⟩
     refine GoQ.pure rfl (J47 underlying4 rfl rfl) rfl rfl ?_;refine au ?_;refine Go1.ret1 func9 rfl ⟨_,er,frs,(iT H)⟩
    refine GoQ.pure rfl (J47 underlying4 rfl rfl) rfl rfl ?_;refine au ?_;refine Go1.ret1 func9 rfl ⟨_,er,frs,(iT H)⟩
   refine au ?_;refine Go1.ret1 func9 rfl ⟨_,er,frs,H⟩
  refine au ?_;refine Go1.ret1 func9 rfl ⟨_,er,frs,H⟩
 refine au ?_;refine Go1.ret1 func9 rfl ⟨_,er,frs,H⟩
end Sg
