/- -/
import Derived.Test.YtbmaaecppfdjfaaGreatDoorVA
import Derived.Test.YtbmaaecppfdjfaaGreatDoorFm
namespace Sg
open Go Go.RowKit Go.Proofs Tryz
set_option linter.unusedVariables false
set_option linter.unusedSimpArgs false
set_option maxRecDepth 100000
set_option maxHeartbeats 4000000
variable {A:List Nat} {w0:World}
theorem J4r {p_l:Option Addr} {c_l:Nat} {l:List Int} (hA:HA0 A w0) (h_l:ISi A w0 p_l c_l l) {K:List Int→Prop} (H:J0x l K) :
    CallsV prog 141 #[.slice p_l l.length c_l] w0 (fun v w'=>∃(r0:List Int),∃(aF:Option Addr),∃(aG:Nat),v=.slice aF r0.length aG∧Same w0 w'∧ISi A w' aF aG r0∧K r0):=by
 refine cal hA func141 ntmps141 fun hO hB=>?_;unfold J0x at H;refine sln0 ?_;refine smk Fl.i (H h_l.bd) hO fun w1 p4 s hO=>?_;refine au ?_;have zz:=omakeMap (fun a:Int=>Value.int .i64 a) (fun a:Int=>Value.int .i64 a) hO;obtain⟨w6,B7,wH,hs9,sE⟩:=zz;refine zg sE ?_;refine nst wH fun s hO=>?_;refine sln0 ?_;refine au ?_;refine lv [3,4,13,14] hO (H h_l.bd).2.2 (fun E (k1_13,m1_14,p1_15) σ w=>Lo A w0 σ w [(15,.int .i64 (k1_13:Int))] [.any (mapE (fun a:Int=>Value.int .i64 a) (fun a:Int=>Value.int .i64 a) B7 m1_14),t1 Fl.i 3 p4 l.length l.length p1_15]) ⟨agr,hO,fr⟩ ?_;refine fun X1=>p2 fun k1_13 m1_14 p1_15=>fun H hX1 σ w12 hk=>lh hk fun hO hB=>?_;dsimp only at H;revert hO;repeat (rename Owns ..=>q;clear q)
 intro hO;repeat (rename Sq ..=>q;clear q)
 refine scm H (fun h16 H=>?_) fun h16 H=>?_
 ·refine sxl hO h_l.u H.1 H.2.1 ?_;refine au ?_;have h17:=H.1;have h18:=H.2.1;replace H:=H.2.2;by_cases h19:mhas m1_14 ((ix l (k1_13:Int)))=true
  ·refine zs (olookT (a:=(ix l (k1_13:Int))) (MK.int underlying3) 0 hO rfl underlying163 rfl rfl h19) ?_;refine six1 1 hO (ifp h19 H).1 (ifp h19 H).2.1 ?_;refine sst (u:=(mgt m1_14 ((ix l (k1_13:Int))))) 1 hO (ifp h19 H).1 (ifp h19 H).2.1 fun w20 s hO=>?_;refine sinc (natbd h16 h_l.bd) ?_;refine au ?_;exact hX1 _ (ifp h19 H).2.2 _ _ agr ⟨agr,hO,fr⟩
  refine zs (olookF (a:=(ix l (k1_13:Int))) (MK.int underlying3) 0 hO rfl underlying163 ti3 rfl rfl h19) ?_;refine au ?_;refine zs (omapLen 0 hO rfl underlying163 rfl) ?_;refine au ?_;have zz:=omapUpd (MK.int underlying3) 0 hO rfl underlying163 (ix l (k1_13:Int)) (m1_14.length:Int);obtain⟨w21,zS,PA⟩:=zz;refine zg (PA (by exact rfl) (by exact rfl) (by exact rfl)) ?_;refine nst zS fun s hO=>?_;refine six1 1 hO (ifn h19 H).1 (ifn h19 H).2.1 ?_;refine sst (u:=(m1_14.length:Int)) 1 hO (ifn h19 H).1 (ifn h19 H).2.1 fun w24 s hO=>?_;refine sinc (natbd h16 h_l.bd) ?_;refine au ?_;exact hX1 _ (ifn h19 H).2.2 _ _ agr ⟨agr,hO,fr⟩
 refine au ?_;refine sfz 1 hO fun s hO we Dh=>?_;refine Go1.ret1 func141 rfl ⟨_,_,_,?_,frs,we.r,H⟩;exact(congrArg (fun nn=>Value.slice p4 nn l.length) Dh)
theorem J2J {p_l:Option Addr} {c_l:Nat} {l:List Int} (hA:HA0 A w0) (h_l:ISi A w0 p_l c_l l) {K:List Int→Prop} (H:J0D l K) :
    CallsV prog 88 #[.slice p_l l.length c_l] w0 (fun v w'=>∃(r0:List Int),∃(aF:Option Addr),∃(aG:Nat),v=.slice aF r0.length aG∧Same w0 w'∧ISi A w' aF aG r0∧K r0):=by
 refine cal hA func88 ntmps88 fun hO hB=>?_;unfold J0D at H;refine sln0 ?_;refine scm (H h_l.bd) (fun h1 H=>?_) fun h1 H=>?_
 ·refine au ?_;refine Go1.ret1 func88 rfl ⟨_,_,_,er,frs,(ISl.null _ _ _),H⟩
 refine au ?_;refine zcr (J00 (bo func141) rfl (J4r hO.lt h_l.u H)) fun _ w3=>e3 fun r2 ael aem=>sc0 hO fun s hO=>d1 fun Wx H=>?_;refine au ?_;refine Go1.ret1 func88 rfl ⟨_,_,_,er,frs,Wx.r,H⟩
theorem J0z {p_p:Option Addr} {c_p:Nat} {p:List Int} (hA:HA0 A w0) (h_p:ISi A w0 p_p c_p p) {K:Bool→Prop} (H:J0h p K) :
    CallsV prog 105 #[.slice p_p p.length c_p] w0 (fun v w'=>∃(r0:Bool),v=.bool r0∧Same w0 w'∧K r0):=by
 refine cal hA func105 ntmps105 fun hO hB=>?_;unfold J0h at H;refine sln0 ?_;refine scm (H h_p.bd) (fun h1 H=>?_) fun h1 H=>?_
 ·refine au ?_;refine Go1.ret1 func105 rfl ⟨_,er,frs,H⟩
 refine sln0 ?_;refine au ?_;refine lv [9,10] hO H (fun E (count1_3,k1_4) σ w=>Lo A w0 σ w [(3,.int .i64 (count1_3:Int)),(11,.int .i64 (k1_4:Int))] []) ⟨agr,hO,fr⟩ ?_;refine fun X1=>p1 fun count1_3 k1_4=>fun H hX1 σ w2 hk=>lh hk fun hO hB=>?_;dsimp only at H;refine scm H (fun h5 H=>?_) fun h5 H=>?_
 ·refine sxl hO h_p.u H.1 H.2.1 ?_;refine au ?_;have h6:=H.1;have h7:=H.2.1;refine scm H.2.2 (fun h8 H=>?_) fun h8 H=>?_
  ·refine au ?_;refine Go1.ret1 func105 rfl ⟨_,er,frs,H⟩
  refine scm H (fun h9 H=>?_) fun h9 H=>?_
  ·refine au ?_;refine Go1.ret1 func105 rfl ⟨_,er,frs,H⟩
  refine scm H (fun h10 H=>?_) fun h10 H=>?_
  ·refine au ?_;obtain⟨h11,H⟩:=H;refine zo (J05 rfl rfl (wrap_i64 h11)) ?_;refine sinc (natbd h5 h_p.bd) ?_;refine au ?_;exact hX1 _ H _ _ agr ⟨agr,hO,fr⟩
  refine sinc (natbd h5 h_p.bd) ?_;refine au ?_;exact hX1 _ H _ _ agr ⟨agr,hO,fr⟩
 refine au ?_;refine Go1.ret1 func105 rfl ⟨_,er,frs,H⟩
theorem J0A {p_p:Option Addr} {c_p:Nat} {p:List Int} (hA:HA0 A w0) (h_p:ISi A w0 p_p c_p p) {K:Int→Prop} (H:J0d p K) :
    CallsV prog 48 #[.slice p_p p.length c_p] w0 (fun v w'=>∃(r0:Int),v=.int .i64 r0∧Same w0 w'∧K r0):=by
 refine cal hA func48 ntmps48 fun hO hB=>?_;unfold J0d at H;refine au ?_;refine zcr (J00 (bo func105) rfl (J0z hO.lt h_p.u H)) fun _ w2=>e1 fun r1=>sc0 hO fun s hO=>fun H=>?_
 cases r1
 ·refine au ?_;refine Go1.ret1 func48 rfl ⟨_,er,frs,(iF H)⟩
 refine sln0 ?_;refine au ?_;refine lv [9,10] hO ((iT H) h_p.bd) (fun E (count1_4,k1_5) σ w=>Lo A w0 σ w [(3,.int .i64 count1_4),(11,.int .i64 (k1_5:Int))] []) ⟨agr,hO,fr⟩ ?_;refine fun X1=>p1 fun count1_4 k1_5=>fun H hX1 σ w3 hk=>lh hk fun hO hB=>?_;dsimp only at H;revert hO;repeat (rename Owns ..=>q;clear q)
 intro hO;repeat (rename Sq ..=>q;clear q)
 refine scm H (fun h6 H=>?_) fun h6 H=>?_
 ·refine sxl hO h_p.u H.1 H.2.1 ?_;refine au ?_;have h7:=H.1;have h8:=H.2.1;replace H:=H.2.2;obtain⟨h9,H⟩:=H;refine zo (J05 rfl rfl (wrap_i64 h9)) ?_;by_cases h10:count1_4<((ix p (k1_5:Int))+(1:Int))
  ·refine zo (JeF rfl rfl h10) ?_;refine sinc (natbd h6 h_p.bd) ?_;refine au ?_;exact hX1 _ (ifp h10 H) _ _ agr ⟨agr,hO,fr⟩
  refine zo (JeE rfl rfl h10) ?_;refine sinc (natbd h6 h_p.bd) ?_;refine au ?_;exact hX1 _ (ifn h10 H) _ _ agr ⟨agr,hO,fr⟩
 refine au ?_;refine Go1.ret1 func48 rfl ⟨_,er,frs,H⟩
end Sg
