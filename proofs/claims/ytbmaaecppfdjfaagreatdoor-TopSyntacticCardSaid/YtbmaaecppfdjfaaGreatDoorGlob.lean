/- -/
import Derived.Test.YtbmaaecppfdjfaaGreatDoorRows
import Derived.Test.YtbmaaecppfdjfaaGreatDoorCC
import Derived.Test.YtbmaaecppfdjfaaGreatDoorPA
import Derived.LaidMore
import Derived.Stop.Joined
import Derived.OpenShut
import Derived.ProofKit
namespace Sg
open Go Go.RowKit Go.ChangeShapes Go.WideShapes Go.Proofs Go.Proofs.YtbmaaecppfdjfaaGreatDoor
set_option maxRecDepth 100000
abbrev laidG:List (String×DataW Unit):=[("math/bits.deBruijn64tab",Rows.laid_math_bits_deBruijn64tab)]
theorem gTab:Tryz.prog.globalNamed "math/bits.deBruijn64tab" = some 0:=by kernel_rfl
theorem tTab:(Tryz.prog.globals[0]?).map (·.type)=some 237:=by kernel_rfl
theorem uTab:Tryz.prog.underlying 237=some (.array 64 5):=by kernel_rfl
theorem uU8:Tryz.prog.underlying 5=some (.int .u8):=by kernel_rfl
theorem cU8:Tryz.prog.cellsOf 5=1:=by kernel_rfl
theorem tabData:(Rows.laid_math_bits_deBruijn64tab:DataW Unit)=.agg (dbTab.map fun k=>.lit (.int .u8 k)):=rfl
theorem JcW {W:World} (h:laidMetH Tryz.prog laidG W):ISl (Rp.int .u8) [] W (some ⟨0,0,none⟩) 64 dbTab:=by
 rw[MakeChecks.laidMetH_plain _ _ _ (by kernel_rfl)] at h;obtain⟨ps,⟨g0,t0,cs0,f0,p0,q0,hg0,ht0,hv0,hd0,_,_⟩,_,_⟩:=h;obtain rfl:=Option.some.inj (gTab.symm.trans hg0);obtain rfl:=Option.some.inj (tTab.symm.trans ht0);obtain⟨xs,m,rfl,hx,hlen,hn,hel⟩:=DataW.trod_array uTab hd0;rw[tabData] at hx;simp only[Prod.mk.injEq,DataW.agg.injEq] at hx;have hl:dbTab.length=64:=rfl
 have key:∀k (hk:k<dbTab.length),W.cell? ⟨0,k,none⟩=some (.int .u8 dbTab[k]):=by
  intro k hk;have h0:=hel k (by omega);rw[cU8,List.getElem?_eq_getElem (show k<xs.length by omega)] at h0;obtain⟨c,e1,e2,_⟩:=DataW.trod_int uU8 h0
  have e3:(xs.map (·.1))[k]?=some (xs[k]'(by omega)).1:=by
   rw[List.getElem?_map,List.getElem?_eq_getElem (show k<xs.length by omega)];rfl
  rw[←hx.1,e2,List.getElem?_map,List.getElem?_eq_getElem hk] at e3;simp only[Option.map_some,Option.some.injEq,DataW.lit.injEq,Lit.int.injEq,true_and] at e3;rw[World.var?_cell hg0 hv0 k,e3];obtain⟨l⟩:=cs0;have e4:(l.drop (k*1)).take 1=[.int .u8 c]:=e1
  have e5:((l.drop (k*1)).take 1)[0]?=some (.int .u8 c):=by rw[e4];rfl
  rw[List.getElem?_take_of_lt (by decide),List.getElem?_drop] at e5;simpa using e5
 have b0:=(Ja9 (key 0 (by decide))).2;refine⟨by decide,by decide,(fun h=>nomatch h),fun a ha k hk=>?_⟩;obtain rfl:=Option.some.inj ha;refine⟨rfl,b0,by simp,?_⟩;have:=key k hk
 show W.cell? ⟨0,0+(k*1+0),none⟩=_
 rw[show 0+(k*1+0)=k by omega];exact this
theorem Jcv (os:Os) (args:Array Value):laidMetH Tryz.prog laidG ((World.doorLaid Tryz.prog 400 os).forCall (fun _ _=>0) ⟨#[],args,[]⟩).memory:=
 laidMetH_of_parts3 (fuel:=8) (laidMet_of_run' 8 (by kernel_rfl) (by kernel_rfl)) (by kernel_rfl) (by kernel_rfl)
end Sg
