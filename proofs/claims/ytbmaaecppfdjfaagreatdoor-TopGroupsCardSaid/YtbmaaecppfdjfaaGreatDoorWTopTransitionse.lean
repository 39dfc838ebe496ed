/- -/
import Derived.Test.YtbmaaecppfdjfaaGreatDoorVA
import Derived.Test.YtbmaaecppfdjfaaGreatDoorFm
namespace Sg
open Go Go.RowKit Go.Proofs Tryz
set_option linter.unusedVariables false
set_option linter.unusedSimpArgs false
set_option maxRecDepth 100000
set_option maxHeartbeats 4000000
variable {A:List Nat} {w0:World}
theorem J9K {p_t:Option Addr} {c_t:Nat} {t:List (List Int)} (hA:HA0 A w0) (h_t:ISs A w0 p_t c_t t) {K:Int→Prop} (H:J63 t K) :
    CallsV prog 135 #[.slice p_t t.length c_t] w0 (fun v w'=>∃(r0:Int),v=.int .i64 r0∧Same w0 w'∧K r0):=by
 refine cal hA func135 ntmps135 fun hO hB=>?_;unfold J63 at H;refine sln0 ?_;refine scm (H h_t.bd) (fun h1 H=>?_) fun h1 H=>?_
 ·refine au ?_;refine Go1.ret1 func135 rfl ⟨_,er,frs,H⟩
 refine sln0 ?_;refine scm H (fun h2 H=>?_) fun h2 H=>?_
 ·refine au ?_;refine Go1.ret1 func135 rfl ⟨_,er,frs,H⟩
 refine sln0 ?_;refine au ?_;refine lv [0,13,14] hO H (fun E k1_4 σ w=>Lo A w0 σ w [(15,.int .i64 (k1_4:Int))] []) ⟨agr,hO,fr⟩ ?_;refine fun X1=>fun k1_4=>fun H hX1 σ w3 hk=>lh hk fun hO hB=>?_;refine scm H (fun h5 H=>?_) fun h5 H=>?_
 ·refine sxls hO h_t.u H.1 H.2.1 fun p6 c7 hi8=>?_;refine sln0 ?_;refine sln0 ?_;have h9:=H.1;have h10:=H.2.1;refine scm (H.2.2 hi8.bd) (fun h11 H=>?_) fun h11 H=>?_
  ·refine sln0 ?_;refine au ?_;refine lv [0,13,14,15,24,25] hO H (fun E k2_13 σ w=>(fun Z=>Lo A w0 σ w [(26,.int .i64 (k2_13:Int))] Z∧ISi (bl Z++A) w p6 c7 (ix t (k1_4:Int))) []) ⟨⟨agr,hO,fr⟩,hi8.u⟩ ?_;refine fun X2=>fun k2_13=>fun H hX2 σ w12 hk=>d1 fun hL=>fun hi8=>lh hk (fun hO hB=>?_) hL;revert hO;repeat (rename Owns ..=>q;clear q)
   intro hO;repeat (rename Sq ..=>q;clear q)
   refine scm H (fun h14 H=>?_) fun h14 H=>?_
   ·refine sxl hO hi8 H.1 H.2.1 ?_;refine au ?_;have h15:=H.1;have h16:=H.2.1;refine scm H.2.2 (fun h17 H=>?_) fun h17 H=>?_
    ·refine au ?_;refine Go1.ret1 func135 rfl ⟨_,er,frs,H⟩
    refine sln0 ?_;refine scm H (fun h18 H=>?_) fun h18 H=>?_
    ·refine au ?_;refine Go1.ret1 func135 rfl ⟨_,er,frs,H⟩
    refine sinc (natbd h14 hi8.bd) ?_;refine au ?_;exact hX2 _ H _ _ agr ⟨⟨agr,hO,fr⟩,hi8⟩
   refine sinc (natbd h5 h_t.bd) ?_;refine au ?_;exact hX1 _ H _ _ agr ⟨agr,hO,fr⟩
  refine au ?_;refine Go1.ret1 func135 rfl ⟨_,er,frs,H⟩
 refine au ?_;refine Go1.ret1 func135 rfl ⟨_,er,frs,H⟩
theorem J8r {bN:Option Addr} {bO:Nat} {a0:List (List Int)} (hA:HA0 A w0) (aa:ISs A w0 bN bO a0) {K:List Int→Prop} (H:J3d a0 K) :
    CallsV prog 137 #[.slice bN a0.length bO] w0 (fun v w'=>∃(r0:List Int),∃(aF:Option Addr),∃(aG:Nat),v=.slice aF r0.length aG∧Same w0 w'∧ISi A w' aF aG r0∧K r0):=by
 refine cal hA func137 ntmps137 fun hO hB=>?_;unfold J3d at H;refine sal hO fun w1 B2 s hO=>?_;refine sln0 ?_;refine smk Fl.bool (H aa.bd) hO fun w4 p5 s hO=>?_;refine sal hO fun w7 B8 s hO=>?_;refine sbs 0 hO fun w10 s hO=>?_;refine au ?_;refine zo (J52 (vs:=[.pointer (some ⟨B8,0,none⟩),.pointer (some ⟨B2,0,none⟩)]) rfl) ?_;refine sln0 ?_;refine au ?_;refine snil Fl.i 3 hO fun s hO=>?_;refine snil Fl.i 3 hO fun s hO=>?_;refine lv [0,4,5,6,17] hO (H aa.bd).2.2 (fun E (k1_14,k1_15,d_16,d_20,d_24) σ w=>∃n19 p17 c18 n23 p21 c22,Lo A w0 σ w [(3,.slice p21 n23 c22),(7,.int .i64 (k1_14:Int)),(18,.int .i64 (k1_15:Int))] [t1 Fl.i 3 p17 n19 c18 d_16,t1 Fl.i 3 p21 n23 c22 d_20,.blk B8 (.cells #[.slice p5 a0.length a0.length] 22 (0,0)),t1 Fl.bool 4 p5 a0.length a0.length d_24,.blk B2 (.cells #[.slice p17 n19 c18] 32 (0,0))]) ⟨_,_,_,_,_,_,⟨agr,hO,fr⟩⟩ ?_;refine fun X1=>p1 fun k1_14=>p3 fun k1_15 d_16 d_20 d_24=>fun H hX1 σ w13 hk=>e4 fun n19 p17 c18 n23=>e2 fun p21 c22=>lh hk fun hO hB=>?_;dsimp only at H;revert hO;repeat (rename Owns ..=>q;clear q)
 intro hO;repeat (rename Sq ..=>q;clear q)
 refine scm H (fun h25 H=>?_) fun h25 H=>?_
 ·refine au ?_;have h26:=H.1;have h27:=H.2.1;refine sxb1 3 hO H.1 H.2.1 H.2.2 (fun h28 H=>?_) fun h28 H=>?_
  ·refine sinc (natbd h25 aa.bd) ?_;refine au ?_;exact hX1 _ H _ _ agr ⟨_,_,_,_,_,_,⟨agr,hO,fr⟩⟩
  refine au ?_;refine sap1 ((k1_15:Int)) 1 hO H fun _ w29 p30 c31 s hO=>?_;refine au ?_;refine GoR.inl (vs:=[.int .i64 (k1_15:Int)]) (caps:=[.pointer (some ⟨B8,0,none⟩),.pointer (some ⟨B2,0,none⟩)]) rfl rfl (bo func171) func171 rfl ntmps171 rfl rfl rfl ?_;intro RhR32 hR32;refine sxl1 3 hO H.2.1 H.2.2.1 ?_;rw[Bool.eq_false_iff.2 h28];refine six1 3 hO H.2.2.2.1 H.2.2.2.2.1 ?_;refine sst (u:=true) 3 hO H.2.2.2.1 H.2.2.2.2.1 fun w33 s hO=>?_;refine au ?_;refine sap1 ((k1_15:Int)) 0 hO H.2.2.2.2.2 fun _ w34 p35 c36 s hO=>?_;refine sbs 4 hO fun w37 s hO=>?_;refine au ?_;refine Go1.fin0V func171 rfl ?_;refine hR32 _ _ ?_;refine au ?_;refine lv [0,3,4,5,6,17,18] hO H.2.2.2.2.2.2 (fun E (k2_39,d_40,d_44) σ w=>∃n43 p41 c42,Lo A w0 σ w [(7,.int .i64 (k2_39:Int))] (esets E [(0,t1 Fl.i 3 p41 n43 c42 d_40),(3,t1 Fl.bool 4 p5 a0.length a0.length d_44),(4,.blk B2 (.cells #[.slice p41 n43 c42] 32 (0,0)))])) ⟨_,_,_,⟨agr,hO,fr⟩⟩ ?_;refine fun X2=>p2 fun k2_39 d_40 d_44=>fun H hX2 σ w38 hk=>e3 fun n43 p41 c42=>lh hk fun hO hB=>?_;dsimp only[esets,sS,sZ] at hO hB;dsimp only at H;revert hO;repeat (rename Owns ..=>q;clear q)
  intro hO;repeat (rename Sq ..=>q;clear q)
  refine sln1 0 hO ?_;refine scm H (fun h45 H=>?_) fun h45 H=>?_
  ·refine sxl1 0 hO H.1 H.2.1 ?_;refine sinc (natbd h45 (t1b 0 hO)) ?_;refine op1 0 hO fun ais s hO mO=>?_;have h48:=H.1;have h49:=H.2.1;replace H:=H.2.2;obtain⟨h50,H⟩:=H;obtain⟨h51,H⟩:=H
   have hal52:=AL.start 0 hO rfl mO.u ((k2_39+1:Int)).toNat
   refine zo (J7t underlying32 ti3 rfl rfl h50 (Els.lec 0 hO rfl mO.u h51)) ?_;refine zo (J08 underlying32 rfl (takeLen h50 h51)) ?_;refine au ?_;refine lv [0,3,4,5,6,7,9,17,18,45,46] hO H (fun E (k3_54,d_55,d_61) σ w=>∃n60 p58 c59 t5,(fun Z=>Lo A w0 σ w [(47,.int .i64 (k3_54:Int))] Z∧Els (Rp.int .i64) (bl Z++A) w t5 d_55∧AL (Rp.int .i64) (bl Z++A) w p58 d_55 p41 c42 (d_40.take ((k2_39+1:Int)).toNat)) (esets E [(0,.row 3 1 p58 n60 c59 t5),(3,t1 Fl.bool 4 p5 a0.length a0.length d_61),(4,.blk B2 (.cells #[.slice p58 n60 c59] 32 (0,0)))])) ⟨_,_,_,_,⟨agr,hO,fr⟩,mO.u,hal52⟩ ?_;refine fun X3=>p2 fun k3_54 d_55 d_61=>fun H hX3 σ w53 hk=>e4 fun n60 p58 c59 t5=>d1 fun hL=>d1 fun pC hal52=>lh hk (fun hO hB=>?_) hL;dsimp only[esets,sS,sZ] at hO hB pC hal52;dsimp only at H;revert hO;repeat (rename Owns ..=>q;clear q)
   intro hO;repeat (rename Sq ..=>q;clear q)
   refine scm H (fun h62 H=>?_) fun h62 H=>?_
   ·refine au ?_;obtain⟨h63,H⟩:=H;obtain⟨h64,H⟩:=H;refine zo (J01 underlying32 ti3 rfl rfl h63 (ltn (takeLen h50 h51) h64) (hal52.some_ h63 h64)) ?_;refine zs (AL.int 0 hO rfl pC hal52 h63 h64 underlying3 rfl rfl) ?_;refine sxls hO aa.u H.1 H.2.1 fun p65 c66 Dr=>?_;refine sxl hO Dr.u H.2.2.1 H.2.2.2.1 ?_;refine GoR.inl (vs:=[.int .i64 (ix (ix a0 (ix d_40 (k2_39:Int))) (ix (d_40.take ((k2_39+1:Int)).toNat) (k3_54:Int)))]) (caps:=[.pointer (some ⟨B8,0,none⟩),.pointer (some ⟨B2,0,none⟩)]) rfl rfl (bo func171) func171 rfl ntmps171 rfl rfl rfl ?_;intro RhR68 hR68;refine au ?_;have h69:=H.2.2.2.2.1;have h70:=H.2.2.2.2.2.1;refine sxb1 3 hO H.2.2.2.2.1 H.2.2.2.2.2.1 H.2.2.2.2.2.2 (fun h71 H=>?_) fun h71 H=>?_
    ·refine au ?_;refine Go1.fin0V func171 rfl ?_;refine hR68 _ _ ?_;refine sxls hO aa.u H.1 H.2.1 fun p72 c73 Ez=>?_;refine sxl hO Ez.u H.2.2.1 H.2.2.2.1 ?_;refine GoR.inl (vs:=[.int .i64 (ix (ix a0 (ix (d_40.take ((k2_39+1:Int)).toNat) (k3_54:Int))) (ix d_40 (k2_39:Int)))]) (caps:=[.pointer (some ⟨B8,0,none⟩),.pointer (some ⟨B2,0,none⟩)]) rfl rfl (bo func171) func171 rfl ntmps171 rfl rfl rfl ?_;intro RhR75 hR75;refine au ?_;have h76:=H.2.2.2.2.1;have h77:=H.2.2.2.2.2.1;refine sxb1 3 hO H.2.2.2.2.1 H.2.2.2.2.2.1 H.2.2.2.2.2.2 (fun h78 H=>?_) fun h78 H=>?_
     ·refine au ?_;refine Go1.fin0V func171 rfl ?_;refine hR75 _ _ ?_;refine au ?_;obtain⟨h79,H⟩:=H;refine zo (J05 rfl rfl (wrap_i64 h79)) ?_;refine au ?_;exact hX3 _ H _ _ agr ⟨_,_,_,_,⟨agr,hO,fr⟩,pC,hal52⟩
     refine six1 3 hO H.1 H.2.1 ?_;refine sst (u:=true) 3 hO H.1 H.2.1 fun w80 s hO=>?_;refine sbu Fl.i 3 [(ix (ix a0 (ix (d_40.take ((k2_39+1:Int)).toNat) (k3_54:Int))) (ix d_40 (k2_39:Int)))] hO fun w81 p82 s hO=>?_;refine sfz 0 hO fun s hO rJ CK=>?_;have h86:=H.1;have h87:=H.2.1;replace H:=H.2.2;obtain⟨h88,H⟩:=H;have zz:=oapp2 underlying32 ti3 rfl 0 hO rfl pC.u rJ CK h88 (by decide);obtain⟨w89,p90,c91,Xv,vi,uq,hold96,Ag⟩:=zz;dsimp only[sS,sZ] at uq hold96;refine zg (Ag (by exact rfl) (by exact rfl)) ?_;replace hal52:=hal52.u.app (us:=[(ix (ix a0 (ix (d_40.take ((k2_39+1:Int)).toNat) (k3_54:Int))) (ix d_40 (k2_39:Int)))]) (nstc vi) hold96;refine nst vi fun s hO=>?_;refine sbs 4 hO fun w97 s hO=>?_;refine au ?_;refine Go1.fin0V func171 rfl ?_;refine hR75 _ _ ?_;refine au ?_;obtain⟨h98,H⟩:=H;refine zo (J05 rfl rfl (wrap_i64 h98)) ?_;refine au ?_;exact hX3 _ H _ _ agr ⟨_,_,_,_,⟨agr,hO,fr⟩,uq.u,hal52.u⟩
    refine six1 3 hO H.1 H.2.1 ?_;refine sst (u:=true) 3 hO H.1 H.2.1 fun w99 s hO=>?_;refine sbu Fl.i 3 [(ix (ix a0 (ix d_40 (k2_39:Int))) (ix (d_40.take ((k2_39+1:Int)).toNat) (k3_54:Int)))] hO fun Jd oJ s hO=>?_;refine sfz 0 hO fun s hO T9 Ua=>?_;have jO:=H.1;have lE:=H.2.1;replace H:=H.2.2;obtain⟨jc,H⟩:=H;have zz:=oapp2 underlying32 ti3 rfl 0 hO rfl pC.u T9 Ua jc (by decide);obtain⟨V4,zd,zh,yf,fm,i7,hold115,oV⟩:=zz;dsimp only[sS,sZ] at i7 hold115;refine zg (oV (by exact rfl) (by exact rfl)) ?_;replace hal52:=hal52.u.app (us:=[(ix (ix a0 (ix d_40 (k2_39:Int))) (ix (d_40.take ((k2_39+1:Int)).toNat) (k3_54:Int)))]) (nstc fm) hold115;refine nst fm fun s hO=>?_;refine sbs 4 hO fun vY s hO=>?_;refine au ?_;refine Go1.fin0V func171 rfl ?_;refine hR68 _ _ ?_;refine sxls hO aa.u H.1 H.2.1 fun Y9 ait Ub=>?_;refine sxl hO Ub.u H.2.2.1 H.2.2.2.1 ?_;refine GoR.inl (vs:=[.int .i64 (ix (ix a0 (ix (d_40.take ((k2_39+1:Int)).toNat) (k3_54:Int))) (ix d_40 (k2_39:Int)))]) (caps:=[.pointer (some ⟨B8,0,none⟩),.pointer (some ⟨B2,0,none⟩)]) rfl rfl (bo func171) func171 rfl ntmps171 rfl rfl rfl ?_;intro RhR120 hR120;refine au ?_;have je:=H.2.2.2.2.1;have rK:=H.2.2.2.2.2.1;refine sxb1 3 hO H.2.2.2.2.1 H.2.2.2.2.2.1 H.2.2.2.2.2.2 (fun n7 H=>?_) fun n7 H=>?_
    ·refine au ?_;refine Go1.fin0V func171 rfl ?_;refine hR120 _ _ ?_;refine au ?_;obtain⟨kg,H⟩:=H;refine zo (J05 rfl rfl (wrap_i64 kg)) ?_;refine au ?_;exact hX3 _ H _ _ agr ⟨_,_,_,_,⟨agr,hO,fr⟩,i7.u,hal52.u⟩
    refine six1 3 hO H.1 H.2.1 ?_;refine sst (u:=true) 3 hO H.1 H.2.1 fun Hf s hO=>?_;refine sbu Fl.i 3 [(ix (ix a0 (ix (d_40.take ((k2_39+1:Int)).toNat) (k3_54:Int))) (ix d_40 (k2_39:Int)))] hO fun tT EB s hO=>?_;refine sfz 0 hO fun s hO AD AE=>?_;have jd:=H.1;have mS:=H.2.1;replace H:=H.2.2;obtain⟨oY,H⟩:=H;have zz:=oapp2 underlying32 ti3 rfl 0 hO rfl i7.u AD AE oY (by decide);obtain⟨wV,Kz,aiu,jI,sn,u0,hold141,v9⟩:=zz;dsimp only[sS,sZ] at u0 hold141;refine zg (v9 (by exact rfl) (by exact rfl)) ?_;replace hal52:=hal52.u.app (us:=[(ix (ix a0 (ix (d_40.take ((k2_39+1:Int)).toNat) (k3_54:Int))) (ix d_40 (k2_39:Int)))]) (nstc sn) hold141;refine nst sn fun s hO=>?_;refine sbs 4 hO fun Ip s hO=>?_;refine au ?_;refine Go1.fin0V func171 rfl ?_;refine hR120 _ _ ?_;refine au ?_;obtain⟨kh,H⟩:=H;refine zo (J05 rfl rfl (wrap_i64 kh)) ?_;refine au ?_;exact hX3 _ H _ _ agr ⟨_,_,_,_,⟨agr,hO,fr⟩,u0.u,hal52.u⟩
   refine au ?_;obtain⟨lG,H⟩:=H;refine zo (J05 rfl rfl (wrap_i64 lG)) ?_;refine au ?_;refine cl1 Fl.i 0 hO pC.u fun s hO=>?_;exact hX2 _ H _ _ agr ⟨_,_,_,⟨agr,hO,fr⟩⟩
  refine sinc (natbd h25 aa.bd) ?_;refine au ?_;exact hX1 _ H _ _ agr ⟨_,_,_,_,_,_,⟨agr,hO,fr⟩⟩
 refine au ?_;refine sfz 1 hO fun s hO Uc Ud=>?_;refine Go1.ret1 func137 rfl ⟨_,_,_,?_,frs,Uc.r,H⟩;exact(congrArg (fun nn=>Value.slice p21 nn c22) Ud)
theorem J7x {p_t ip:Option Addr} {c_t iq:Nat} {t:List (List Int)} {gens:List Int} (hA:HA0 A w0) (h_t:ISs A w0 p_t c_t t) (eX:ISi A w0 ip iq gens) {K:Bool→Prop} (H:J1L t gens K) :
    CallsV prog 136 #[.slice p_t t.length c_t,.slice ip gens.length iq] w0 (fun v w'=>∃(r0:Bool),v=.bool r0∧Same w0 w'∧K r0):=by
 refine cal hA func136 ntmps136 fun hO hB=>?_;unfold J1L at H;refine sln0 ?_;refine smk Fl.bool (H h_t.bd) hO fun w1 p4 s hO=>?_;refine sln0 ?_;refine au ?_;refine lv [0,5,16,17] hO ((H h_t.bd).2.2 eX.bd) (fun E (k1_7,tried1_8) σ w=>Lo A w0 σ w [(18,.int .i64 (k1_7:Int))] [t1 Fl.bool 4 p4 t.length t.length tried1_8]) ⟨agr,hO,fr⟩ ?_;refine fun X1=>p1 fun k1_7 tried1_8=>fun H hX1 σ w6 hk=>lh hk fun hO hB=>?_;dsimp only at H;revert hO;repeat (rename Owns ..=>q;clear q)
 intro hO;repeat (rename Sq ..=>q;clear q)
 refine scm H (fun h9 H=>?_) fun h9 H=>?_
 ·refine sxl hO eX.u H.1 H.2.1 ?_;refine au ?_;have h10:=H.1;have h11:=H.2.1;have h12:=H.2.2.1;have h13:=H.2.2.2.1;refine sxb1 0 hO H.2.2.1 H.2.2.2.1 H.2.2.2.2 (fun h14 H=>?_) fun h14 H=>?_
  ·refine sinc (natbd h9 eX.bd) ?_;refine au ?_;exact hX1 _ H _ _ agr ⟨agr,hO,fr⟩
  refine six1 0 hO H.1 H.2.1 ?_;refine sst (u:=true) 0 hO H.1 H.2.1 fun w15 s hO=>?_;refine sln0 ?_;refine au ?_;have h18:=H.1;have h19:=H.2.1;refine lv [0,5,7,16,17,18,29,30] hO H.2.2 (fun E k2_17 σ w=>Lo A w0 σ w [(31,.int .i64 (k2_17:Int))] E) ⟨agr,hO,fr⟩ ?_;refine fun X2=>fun k2_17=>fun H hX2 σ w16 hk=>lh hk fun hO hB=>?_;revert hO;repeat (rename Owns ..=>q;clear q)
  intro hO;repeat (rename Sq ..=>q;clear q)
  refine scm H (fun h20 H=>?_) fun h20 H=>?_
  ·refine sxls hO h_t.u H.1 H.2.1 fun p21 c22 oD=>?_;refine sxl hO oD.u H.2.2.1 H.2.2.2.1 ?_;refine sxls hO h_t.u H.2.2.2.2.1 H.2.2.2.2.2.1 fun p24 c25 pt=>?_;refine sxls hO h_t.u H.2.2.2.2.2.2.1 H.2.2.2.2.2.2.2.1 fun p27 c28 pv=>?_;refine sln0 ?_;refine au ?_;have h32:=H.1;have h33:=H.2.1;have h34:=H.2.2.1;have h35:=H.2.2.2.1;have h36:=H.2.2.2.2.1;have h37:=H.2.2.2.2.2.1;have h38:=H.2.2.2.2.2.2.1;have h39:=H.2.2.2.2.2.2.2.1;refine lv [0,5,7,9,10,16,17,18,29,30,31,45,46] hO (H.2.2.2.2.2.2.2.2 pv.bd) (fun E k3_31 σ w=>(fun Z=>Lo A w0 σ w [(47,.int .i64 (k3_31:Int))] Z∧ISi (bl Z++A) w p21 c22 (ix t (k2_17:Int))∧ISi (bl Z++A) w p24 c25 (ix t (ix (ix t (k2_17:Int)) (ix gens (k1_7:Int))))∧ISi (bl Z++A) w p27 c28 (ix t (ix gens (k1_7:Int)))) E) ⟨⟨agr,hO,fr⟩,oD.u,pt.u,pv.u⟩ ?_;refine fun X3=>fun k3_31=>fun H hX3 σ w30 hk=>d1 fun hL=>d2 fun oD pt pv=>lh hk (fun hO hB=>?_) hL;revert hO;repeat (rename Owns ..=>q;clear q)
   intro hO;repeat (rename Sq ..=>q;clear q)
   refine scm H (fun h40 H=>?_) fun h40 H=>?_
   ·refine sxl hO pv H.1 H.2.1 ?_;refine au ?_;refine drs 0 [q0,q0,q0,q1,q0,q0,q0,q1,q0] hO fun w41 s hO=>?_;refine sxl hO pt.u H.2.2.1 H.2.2.2.1 ?_;refine sxl hO oD.u H.2.2.2.2.1 H.2.2.2.2.2.1 ?_;have h42:=H.1;have h43:=H.2.1;have h44:=H.2.2.1;have h45:=H.2.2.2.1;have h46:=H.2.2.2.2.1;have h47:=H.2.2.2.2.2.1;refine scm H.2.2.2.2.2.2 (fun h48 H=>?_) fun h48 H=>?_
    ·refine sinc (natbd h40 pv.bd) ?_;refine au ?_;exact hX3 _ H _ _ agr ⟨⟨agr,hO,fr⟩,oD.u,pt.u,pv.u⟩
    refine au ?_;refine Go1.ret1 func136 rfl ⟨_,er,frs,H⟩
   refine sinc (natbd h20 h_t.bd) ?_;refine au ?_;exact hX2 _ H _ _ agr ⟨agr,hO,fr⟩
  refine sinc (natbd h9 eX.bd) ?_;refine au ?_;exact hX1 _ H _ _ agr ⟨agr,hO,fr⟩
 refine au ?_;refine Go1.ret1 func136 rfl ⟨_,er,frs,H⟩
theorem J0n {p_t:Option Addr} {c_t:Nat} {t:List (List Int)} (hA:HA0 A w0) (h_t:ISs A w0 p_t c_t t) {K:Int→Prop} (H:J0q t K) :
    CallsV prog 86 #[.slice p_t t.length c_t] w0 (fun v w'=>∃(r0:Int),v=.int .i64 r0∧Same w0 w'∧K r0):=by
 refine cal hA func86 ntmps86 fun hO hB=>?_;unfold J0q at H;refine au ?_;refine zcr (J00 (bo func135) rfl (J9K hO.lt h_t.u H)) fun _ w2=>e1 fun r1=>sc0 hO fun s hO=>fun H=>?_;refine scm H (fun h3 H=>?_) fun h3 H=>?_
 ·refine au ?_;refine zcr (J00 (bo func137) rfl (J8r hO.lt h_t.u H)) fun _ w5=>e3 fun r4 UI UJ=>sc0 hO fun s hO=>d1 fun BQ H=>?_;refine zcr (J00 (bo func136) rfl (J7x hO.lt h_t.u BQ H)) fun _ w7=>e1 fun r6=>sc0 hO fun s hO=>fun H=>?_
  cases r6
  ·refine au ?_;refine Go1.ret1 func86 rfl ⟨_,er,frs,(iF H)⟩
  refine au ?_;refine Go1.ret1 func86 rfl ⟨_,er,frs,(iT H)⟩
 refine au ?_;refine Go1.ret1 func86 rfl ⟨_,er,frs,H⟩
end Sg
