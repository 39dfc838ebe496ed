/- -/
import Derived.Test.YtbmaaecppfdjfaaGreatDoorTi
import Derived.Shelf.Sort.Plain
import Derived.Shelf.Slices.In.SortNone
import Derived.Ground.Names2Prog
import Derived.Sort.OwnSortedInts
namespace Sg
open Go Go.Proofs Go.Shelf Go.RowKit
set_option linter.unusedVariables false
set_option linter.unusedSimpArgs false
def JcO:Go.Shelf.Ren:=⟨fun | 189=>103 | 125=>150 | 257=>149 | 128=>181 | 129=>182 | 294=>172 | 295=>173 | 296=>174 | 297=>175 | 298=>176 | 299=>177 | 216=>178 | 300=>179 | 301=>180 | 328=>200 | 329=>201 | 330=>202 | 331=>203 | 332=>204 | 215=>205 | 343=>216 | n=>n,fun | 28=>32 | 3=>3 | 46=>161 | 0=>0 | 51=>207 | 53=>174 | 4=>4 | 183=>201 | 182=>200 | 131=>99 | 5=>5 | 9=>9 | 218=>224 | 222=>210 | 228=>238 | 229=>59 | n=>n,fun | n=>n⟩
theorem sgLays:Go.Proofs.Lays.n189 Tryz.prog JcO:={
 mixed:=by kernel_rfl
 f125:=Tryz.func150.trans (congrArg some (by kernel_rfl))
 f128:=Tryz.func181.trans (congrArg some (by kernel_rfl))
 f129:=Tryz.func182.trans (congrArg some (by kernel_rfl))
 f189:=Tryz.func103.trans (congrArg some (by kernel_rfl))
 f215:=Tryz.func205.trans (congrArg some (by kernel_rfl))
 f216:=Tryz.func178.trans (congrArg some (by kernel_rfl))
 f257:=Tryz.func149.trans (congrArg some (by kernel_rfl))
 f294:=Tryz.func172.trans (congrArg some (by kernel_rfl))
 f295:=Tryz.func173.trans (congrArg some (by kernel_rfl))
 f296:=Tryz.func174.trans (congrArg some (by kernel_rfl))
 f297:=Tryz.func175.trans (congrArg some (by kernel_rfl))
 f298:=Tryz.func176.trans (congrArg some (by kernel_rfl))
 f299:=Tryz.func177.trans (congrArg some (by kernel_rfl))
 f300:=Tryz.func179.trans (congrArg some (by kernel_rfl))
 f301:=Tryz.func180.trans (congrArg some (by kernel_rfl))
 f328:=Tryz.func200.trans (congrArg some (by kernel_rfl))
 f329:=Tryz.func201.trans (congrArg some (by kernel_rfl))
 f330:=Tryz.func202.trans (congrArg some (by kernel_rfl))
 f331:=Tryz.func203.trans (congrArg some (by kernel_rfl))
 f332:=Tryz.func204.trans (congrArg some (by kernel_rfl))
 f343:=Tryz.func216.trans (congrArg some (by kernel_rfl))
 t0:=Tryz.underlying0
 a0:=Tryz.isAgg0
 z0:=Tryz.sizeOf0
 v0:=Tryz.zeroValue0
 t3:=Tryz.underlying3
 a3:=Tryz.isAgg3
 z3:=Tryz.sizeOf3
 v3:=Tryz.zeroValue3
 t4:=Tryz.underlying4
 a4:=Tryz.isAgg4
 z4:=Tryz.sizeOf4
 v4:=Tryz.zeroValue4
 t5:=Tryz.underlying5
 a5:=Tryz.isAgg5
 z5:=Tryz.sizeOf5
 v5:=Tryz.zeroValue5
 t9:=Tryz.underlying9
 a9:=Tryz.isAgg9
 z9:=Tryz.sizeOf9
 v9:=Tryz.zeroValue9
 t28:=Tryz.underlying32
 a28:=Tryz.isAgg32
 z28:=Tryz.sizeOf32
 v28:=Tryz.zeroValue32
 t46:=Tryz.underlying161
 a46:=Tryz.isAgg161
 z46:=Tryz.sizeOf161
 v46:=Tryz.zeroValue161
 t51:=Tryz.underlying207
 a51:=Tryz.isAgg207
 z51:=Tryz.sizeOf207
 v51:=Tryz.zeroValue207
 t53:=Tryz.underlying174
 a53:=Tryz.isAgg174
 z53:=Tryz.sizeOf174
 v53:=Tryz.zeroValue174
 t131:=Tryz.underlying99
 a131:=Tryz.isAgg99
 z131:=Tryz.sizeOf99
 v131:=Tryz.zeroValue99
 t182:=Tryz.underlying200
 a182:=Tryz.isAgg200
 z182:=Tryz.sizeOf200
 v182:=Tryz.zeroValue200
 t183:=Tryz.underlying201
 a183:=Tryz.isAgg201
 z183:=Tryz.sizeOf201
 v183:=Tryz.zeroValue201
 t218:=Tryz.underlying224
 a218:=Tryz.isAgg224
 z218:=Tryz.sizeOf224
 v218:=Tryz.zeroValue224
 t222:=Tryz.underlying210
 a222:=Tryz.isAgg210
 z222:=Tryz.sizeOf210
 v222:=Tryz.zeroValue210
 t228:=Tryz.underlying238
 a228:=Tryz.isAgg238
 z228:=Tryz.sizeOf238
 v228:=Tryz.zeroValue238
 t229:=Tryz.underlying59
 a229:=Tryz.isAgg59
 z229:=Tryz.sizeOf59
 v229:=Tryz.zeroValue59 }
open Go.Sort Go.RowKit in
theorem sgSort (blk off cap:Nat) (zs:List Int) (w:World) (hH:Holds (Value.int .i64) w blk off zs.toArray) (hblk:blk<w.heap.size) (hsz:zs.length<4611686018427387904) :
  Calls Tryz.prog 103 #[.slice (some ⟨blk,off,none⟩) zs.length cap] w fun e w'=>
   e=.returned (.tuple #[])∧∃n os,w'=grow (putRow (Value.int .i64) (Sort.ahead w n) blk off (zs.mergeSort fun x y=>decide (x≤y)).toArray) os:=Any.slices_Sort_int sgLays blk off cap zs w hH hblk hsz
theorem Jc0 (p:Option Addr) (cap:Nat) (w:World) :
  Calls Tryz.prog 103 #[.slice p 0 cap] w fun e w'=>e=.returned (.tuple #[])∧w'=w:=Any.slices_Sort_int_none sgLays p cap w
theorem JdP {B:List Nat} {w:World} {vs:List Value} {xs:List Int} (h:Els (Rp.int .i64) B w vs xs):vs=xs.map (Value.int .i64):=by
 have hl:vs.length=xs.length:=by have:=h.len;simpa [Rp.int] using this
 apply List.ext_getElem (by simpa using hl);intro k h1 h2;have:=h.at_ k (by omega);simp only[Rp.int,Nat.mul_one,Nat.add_zero] at this;rw[List.getElem?_eq_getElem h1] at this;simpa using Option.some.inj this
theorem Jen {B:List Nat} {w:World} {xs:List Int} (hb:xs.length≤mx):Els (Rp.int .i64) B w (xs.map (Value.int .i64)) xs:=
 ⟨by simp[Rp.int],hb,fun k hk=>by simp[Rp.int,List.getElem?_eq_getElem hk]⟩
open Go.Sort in
theorem osort {w:World} {A:List Nat} {E:List Ent} {n0:Nat} {e:TypeId} {p:Option Addr} {n c:Nat} {vs:List Value} {xs:List Int} {σ:Nat→Value} {ty:TypeId} {x:Operand} {ts:Array TypeId} (hb:Body Tryz.prog 103) (j:Nat) (hO:Owns n0 w E A) (hj:E[j]?=some (.row e 1 p n c vs)) (hE:Els (Rp.int .i64) (bl E++A) w vs xs) (hl0:xs.length≤1099511627776) (hx:ev σ x=.slice p n c) :
  OpC Tryz.prog (.call { callee:=.value (.func 103),args:=#[x],argTypes:=ts }) ty σ w (fun v w'=>v=.tuple #[]∧∃vs',Stp n0 A w E w' (E.set j (.row e 1 p n c vs'))∧Els (Rp.int .i64) (bl (E.set j (.row e 1 p n c vs'))++A) w' vs' (msort xs)):=by
 have hh:=hO.at_ _ (List.mem_of_getElem? hj);have hn:n=xs.length:=hE.n_eq (r:=Rp.int .i64) hh;have hvs:=JdP hE;refine J00 (xs:=[x]) (l:=[.slice p n c]) hb (by simp[hx]) ?_
 rcases hh.2 with ⟨hv,h0⟩ | ⟨g,cap,cur,hv,hg0,hg,h1,h2,h3,h4⟩
 ·subst h0;have hx0:xs=[]:=List.eq_nil_of_length_eq_zero hn.symm;subst hx0;refine Calls.mono (Jc0 p c w) fun e1 w1 h=>?_;obtain⟨rfl,rfl⟩:=h;obtain⟨hjl,hje⟩:=List.getElem?_eq_some_iff.1 hj;refine⟨_,rfl,rfl,vs,?_,?_⟩
  ·rw[←hje,List.set_getElem_self];exact Stp.same hO (Same.refl _)
  ·rw[←hje,List.set_getElem_self];simpa [msort] using hE
 ·cases hv
  subst hn
  have ht:cur.toList.take xs.length=xs.map (Value.int .i64):=by rw[←hvs,←h4,Nat.mul_one]
  refine Calls.mono (sgSort g 0 c xs w (holds_of_blockI hg ht) ((Array.getElem?_eq_some_iff.1 hg).1) (by omega)) fun e1 w1 h=>?_;obtain⟨rfl,m,os,rfl⟩:=h;have hgr:=grownBy_sortedI (w:=w) (g:=g) (n:=m) (os:=os) (msort xs).toArray
  have hlen:(msort xs).length=xs.length:=by simp[msort]
  refine⟨_,rfl,rfl,(msort xs).map (Value.int .i64),Stp.turn hO hj ⟨hgr.os,hgr.tape,hgr.output⟩ hgr.size (fun b hb hnb=>hgr.block b hb (by simp[Ent.fp] at hnb;exact fun h=>hnb (Option.some.inj h))) (by simp[Ent.fp]) (fun b hb=>.inl (by simpa [Ent.fp] using hb)) ?_,Jen (by rw[hlen];exact hE.bd)⟩;exact ownsRow_sortedI hlen hg0 hg h1 h2 h3
end Sg
