/- -/
import Derived.Test.YtbmaaecppfdjfaaGreatDoorCB
import Derived.Test.YtbmaaecppfdjfaaGreatDoorPA
import Derived.MapKept
import Derived.ChangeKeysEq
import Derived.Carry
import Derived.Test.YtbmaaecppfdjfaaGreatDoorCA
import Derived.Laws.CopyRow
import Derived.Laws.Rows
import Derived.ChangeArms
import Derived.ChangeOld
import Derived.Laws.Runes
import Derived.Laws.DeepStrings4
import Derived.Laws.StructEq
import Derived.Laws.BytesArg
import Derived.Laws.Cover3
import Derived.Laws.IdiomCopy
import Derived.Lib.Builder
import Derived.Lib.UnsafeStr
set_option linter.unusedVariables false
set_option linter.unusedSimpArgs false
namespace Sg
open Go Go.RowKit
section data
variable {κ ν:Type} [DecidableEq κ]
def fidx:List κ→κ→Option Nat
 | [],_=>none
 | d::D,a=>if a=d then some 0 else (fidx D a).map (·+1)
end data
structure MK (P:Program) (k:TypeId) {κ:Type} [DecidableEq κ] (kv:κ→Value):Prop where
 chk:∀(e:Bool) (a:κ) (w:World),(Instr.checkKey e 10000 k (kv a)).run P w=.ok () w
 fnd:∀(es:List MapEntry) (D:List κ) (a:κ) (w:World),es.map MapEntry.key=D.map kv→(Instr.findKey k (kv a) es).run P w=.ok ((fidx D a).bind fun i=>es[i]?.map fun e=>(i,e.val)) w
 sam:∀a,Instr.sameBits 10000 (kv a) (kv a)=true
theorem J8U {κ:Type} [DecidableEq κ] {d:TypeDesc} {kv:κ→Value} (hs:∀a b,Instr.sameNow d (kv a) (kv b)=some (decide (a=b))):∀(es:List MapEntry) (D:List κ) (a:κ) (i:Nat),es.map MapEntry.key=D.map kv →
    Instr.findNow d (kv a) es i=some ((fidx D a).bind fun j=>es[j]?.map fun e=>(i+j,e.val))
  | [],[],a,i,_=>rfl
  | [],_::_,a,i,h=>by simp at h
  | _::_,[],a,i,h=>by simp at h
  | e :: es, b :: D, a, i, h => by
    simp only[List.map_cons,List.cons.injEq] at h
    unfold Instr.findNow
    rw[h.1,hs]
    by_cases hab:a=b
    · simp[hab,fidx]
    · simp only[hab,decide_false,fidx,if_false]
      rw[J8U hs es D a (i+1) h.2]
      cases fidx D a with
      | none=>rfl
      | some j =>
        simp only[Option.bind_some,Option.map_some,List.getElem?_cons_succ]
        congr 2
        funext e'
        congr 1
        omega
theorem MK.int {P:Program} {k:TypeId} {q:IntKind} (hk:P.underlying k=some (.int q)):MK P k (fun a:Int=>Value.int q a) where
 chk e a w:=Go.MapKept.run_checkKey (d:=.int q) (k:=Value.int q a) hk (show q=q from rfl) e 9999
 fnd es D a w h:=by
  refine Go.MapKept.run_findKey hk ((J8U (fun a b=>?_) es D a 0 h).trans ?_)
  ·simp only[Instr.sameNow,if_true];by_cases hab:a=b<;>simp[hab]
  ·simp only[Nat.zero_add]
 sam a:=Go.MapKept.sameBits_self (d:=.int q) (k:=Value.int q a) (show q=q from rfl) _
theorem Jef {a b:List UInt8} (h:gstr a=gstr b):a=b:=by
 have:=congrArg ByteArray.toList h;simpa using this
theorem MK.str {P:Program} {k:TypeId} (hk:P.underlying k=some .string):MK P k (fun a:List UInt8=>Value.string (gstr a)) where
 chk e a w:=Go.MapKept.run_checkKey (d:=.string) (k:=Value.string (gstr a)) hk (show True from trivial) e 9999
 fnd es D a w h:=by
  refine Go.MapKept.run_findKey hk ((J8U (fun a b=>?_) es D a 0 h).trans ?_)
  ·simp only[Instr.sameNow]
   congr 1
   rw[Bool.eq_iff_iff,decide_eq_true_eq,Go.MapKept.bytes_beq];exact⟨Jef,fun h=>by rw[h]⟩
  ·simp only[Nat.zero_add]
 sam a:=Go.MapKept.sameBits_self (d:=.string) (k:=Value.string (gstr a)) (show True from trivial) _
def mapE {κ ν:Type} (kv:κ→Value) (vv:ν→Value) (b:Nat) (D:List (κ×ν)):AnyE where
 F:=[b]
 H n0 w:=n0≤b∧∃es clock,w.heap[b]?=some (.map es clock)∧es.toList.map (fun e=>(e.key,e.val))=D.map fun p=>(kv p.1,vv p.2)
 lt h c hc:=by
  obtain⟨h0,es,clock,h1,_⟩:=h
  obtain rfl:c=b:=by simpa using hc
  exact⟨h0,(Array.getElem?_eq_some_iff.1 h1).1⟩
 keep h hk:=by
  obtain⟨h0,es,clock,h1,h2⟩:=h;exact⟨h0,es,clock,by rw[hk b (by simp)];exact h1,h2⟩
 base hn h:=⟨Nat.le_trans hn h.1,h.2⟩
section ops
variable {P:Program} {σ:Nat→Value} {w:World} {t ty e k:TypeId} {x y z:Operand} {A:List Nat} {E:List Ent} {n0:Nat}
variable {κ ν:Type} {kv:κ→Value} {vv:ν→Value}
theorem omakeMap (kv:κ→Value) (vv:ν→Value) (hO:Owns n0 w E A) :
  ∃w' B,Stp n0 A w E w' (.any (mapE kv vv B [])::E)∧Same w w'∧∀{P:Program} {σ:Nat→Value} {t ty:TypeId},OpV P (.makeMap t none) ty σ w (.map (some B)) w':=by
 have hs:Same w (w.alloc (.map #[] 0)):=⟨rfl,rfl,rfl,(show w.heap.size≤(w.heap.push _).size by simp),fun b hb=>(Go.MapKept.heap_alloc w _).2 b hb⟩;refine⟨w.alloc (.map #[] 0),w.heap.size,Stp.new hO hs (by simp[Ent.fp,mapE]) (fun b hb=>by simp[Ent.fp,mapE] at hb;omega) ⟨hO.le,#[],0,(Go.MapKept.heap_alloc w _).1,by simp⟩,hs,fun {P σ t ty}=>.inl ?_⟩;simp[execOp,opr,run_makeMap]
theorem Jax {es:List MapEntry} {D:List (κ×ν)} (h:es.map (fun e=>(e.key,e.val))=D.map fun p=>(kv p.1,vv p.2)):es.map MapEntry.key=(D.map (·.1)).map kv:=by
 have:=congrArg (List.map Prod.fst) h;simpa [List.map_map,Function.comp_def] using this
theorem getObjMap {b:Nat} {es:Array MapEntry} {clock:Nat} (hb:w.heap[b]?=some (.map es clock)) (P:Program):(getObj b).run P w=.ok (.map es clock) w:=Go.MapKept.run_getObj_map hb
theorem omapLen {B:Nat} {D:List (κ×ν)} (j:Nat) (hO:Owns n0 w E A) (hj:E[j]?=some (.any (mapE kv vv B D))) (ht:P.underlying t=some (.map k e)) (hx:ev σ x=.map (some B)) (w':World) (hw:Same w w') :
  OpV P (.call { callee:=.builtin .len,args:=#[x],argTypes:=#[t] }) ty σ w' (.int .i64 (D.length:Nat)) w':=.inl (by
 obtain⟨h0,es,clock,h1,h2⟩:=hO.at_ _ (List.mem_of_getElem? hj)
 have h1':w'.heap[B]?=some (.map es clock):=by rw[hw.block B (Array.getElem?_eq_some_iff.1 h1).1];exact h1
 have hlen:es.size=D.length:=by have:=congrArg List.length h2;simpa using this
 simp[execOp,opr,hx,resolve,invoke,builtin,Builtin.len_,run_underlying ht,getObjMap h1',hlen,goInt,Result.andThen])
variable [DecidableEq κ]
theorem Jb2 {es:List MapEntry} {D:List (κ×ν)} (h:es.map (fun e=>(e.key,e.val))=D.map fun p=>(kv p.1,vv p.2)) [Inhabited ν] (a:κ) :
    ((fidx (D.map (·.1)) a).bind fun i=>es[i]?.map fun e=>(i,e.val)).map (·.2)=if mhas D a=true then some (vv (mgt D a)) else none:=by
  induction D generalizing es with
  | nil=>simp[fidx,mhas]
  | cons p D ih =>
    cases es with
    | nil=>simp at h
    | cons e es =>
      simp only[List.map_cons,List.cons.injEq,Prod.mk.injEq] at h;by_cases hp:a=p.1
      · simp[fidx,mhas,mgt,hp,h.1.2]
      · simp only[List.map_cons,fidx,hp,if_false,mhas,mgt,decide_false,Bool.false_or];rw[←ih h.2]
        cases fidx (D.map (·.1)) a with
        | none=>rfl
        | some j =>
          simp only[Option.map_some,Option.bind_some,List.getElem?_cons_succ]
          cases es[j]?<;>rfl
theorem olookT [Inhabited ν] (K:MK P k kv) {B:Nat} {D:List (κ×ν)} (j:Nat) (hO:Owns n0 w E A) (hj:E[j]?=some (.any (mapE kv vv B D))) (ht:P.underlying t=some (.map k e)) {a:κ} (hx:ev σ x=.map (some B)) (hy:ev σ y=kv a) (hm:mhas D a=true) (w':World) (hw:Same w w') :
    OpV P (.lookup t x y true) ty σ w' (.tuple #[vv (mgt D a),.bool true]) w':=.inl (by
  obtain⟨h0,es,clock,h1,h2⟩:=hO.at_ _ (List.mem_of_getElem? hj)
  have h1':w'.heap[B]?=some (.map es clock):=by rw[hw.block B (Array.getElem?_eq_some_iff.1 h1).1];exact h1
  have hf:=K.fnd es.toList (D.map (·.1)) a w' (Jax h2)
  have hh:=Jb2 h2 a
  rw[if_pos hm] at hh
  cases hq:((fidx (D.map (·.1)) a).bind fun i=>es.toList[i]?.map fun e=>(i,e.val)) with
  | none=>rw[hq] at hh;cases hh
  | some q =>
    rw[hq] at hh hf
    simp only[Option.map_some,Option.some.injEq] at hh
    obtain⟨i,v⟩:=q
    simp only at hh
    subst hh
    simp[execOp,opr,hx,hy,Instr.lookup,run_underlying ht,getObjMap h1',K.chk,hf,Result.andThen])
theorem olookF [Inhabited ν] (K:MK P k kv) {B:Nat} {D:List (κ×ν)} (j:Nat) (hO:Owns n0 w E A) (hj:E[j]?=some (.any (mapE kv vv B D))) (ht:P.underlying t=some (.map k e)) {zv:Value} {b s:Nat} (he:ti P e=some (some zv,s,b)) {a:κ} (hx:ev σ x=.map (some B)) (hy:ev σ y=kv a) (hm:¬mhas D a=true) (w':World) (hw:Same w w') :
    OpV P (.lookup t x y true) ty σ w' (.tuple #[zv,.bool false]) w':=.inl (by
  obtain⟨h0,es,clock,h1,h2⟩:=hO.at_ _ (List.mem_of_getElem? hj)
  have h1':w'.heap[B]?=some (.map es clock):=by rw[hw.block B (Array.getElem?_eq_some_iff.1 h1).1];exact h1
  have hf:=K.fnd es.toList (D.map (·.1)) a w' (Jax h2)
  have hh:=Jb2 h2 a
  rw[if_neg hm] at hh
  cases hq:((fidx (D.map (·.1)) a).bind fun i=>es.toList[i]?.map fun e=>(i,e.val)) with
  | some q=>rw[hq] at hh;cases hh
  | none =>
    rw[hq] at hf
    have hz:(zeroValue e).run P w'=.ok zv w':=by
      obtain⟨i,hi,hz,_⟩:=J4h he;simp[zeroValue,typeInfo,hi,hz]
    simp[execOp,opr,hx,hy,Instr.lookup,run_underlying ht,getObjMap h1',K.chk,hf,hz,Result.andThen])
theorem Jf8 {D:List (κ×ν)} {a:κ} {v:ν}:∀{es:List MapEntry},es.map (fun e=>(e.key,e.val))=D.map (fun p=>(kv p.1,vv p.2))→∀i,fidx (D.map (·.1)) a=some i →
    (es.modify i fun e=>{ e with key:=kv a,val:=vv v }).map (fun e=>(e.key,e.val))=(mput D a v).map fun p=>(kv p.1,vv p.2):=by
  induction D with
  | nil=>intro es _ i hi;simp[fidx] at hi
  | cons p D ih =>
    intro es h i hi
    cases es with
    | nil=>simp at h
    | cons e es =>
      simp only[List.map_cons,List.cons.injEq,Prod.mk.injEq] at h;unfold mput;by_cases hp:a=p.1
      · simp only[List.map_cons,fidx,hp,if_true,Option.some.injEq] at hi;subst hi;rw[if_pos hp];simp[h.2]
      · rw[if_neg hp];simp only[List.map_cons,fidx,hp,if_false,Option.map_eq_some_iff] at hi;obtain⟨i',hi',rfl⟩:=hi;simp only[List.modify_succ_cons,List.map_cons,List.cons.injEq,Prod.mk.injEq];exact⟨h.1,ih h.2 i' hi'⟩
theorem Jeq {D:List (κ×ν)} {a:κ} {v:ν} (hn:fidx (D.map (·.1)) a=none):mput D a v=D++[(a,v)]:=by
  induction D with
  | nil=>rfl
  | cons p D ih =>
    by_cases hp:a=p.1
    · simp[fidx,hp] at hn
    · simp only[List.map_cons,fidx,hp,if_false,Option.map_eq_none_iff] at hn;unfold mput;rw[if_neg hp,ih hn];rfl
theorem JeW {D:List κ} {a:κ} {i:Nat} (h:fidx D a=some i):i<D.length:=by
  induction D generalizing i with
  | nil=>simp[fidx] at h
  | cons d D ih =>
    unfold fidx at h
    split at h
    · cases h;simp
    · obtain⟨j,hj,rfl⟩:=Option.map_eq_some_iff.1 h;have:=ih hj;simp;omega
theorem Je0 {D:List κ} {a:κ} {i:Nat} (h:fidx D a=some i):D[i]?=some a:=by
  induction D generalizing i with
  | nil=>simp[fidx] at h
  | cons d D ih =>
    unfold fidx at h
    split at h
    · rename_i hd;cases h;simp[hd]
    · obtain⟨j,hj,rfl⟩:=Option.map_eq_some_iff.1 h;simpa using ih hj
theorem omapUpd (K:MK P k kv) {B:Nat} {D:List (κ×ν)} (j:Nat) (hO:Owns n0 w E A) (hj:E[j]?=some (.any (mapE kv vv B D))) (ht:P.underlying t=some (.map k e)) (a:κ) (v:ν) :
    ∃w',Stp n0 A w E w' (E.set j (.any (mapE kv vv B (mput D a v))))∧∀{σ:Nat→Value} {x y z:Operand} {ty:TypeId},ev σ x=.map (some B)→ev σ y=kv a→ev σ z=vv v→OpV P (.mapUpdate t x y z) ty σ w undef w':=by
  obtain⟨h0,es,clock,h1,h2⟩:=hO.at_ _ (List.mem_of_getElem? hj);have hf:=K.fnd es.toList (D.map (·.1)) a w (Jax h2)
  have hlen:es.size=D.length:=by have:=congrArg List.length h2;simpa using this
  have key:∀es' clock',es'.toList.map (fun e=>(e.key,e.val))=(mput D a v).map (fun p=>(kv p.1,vv p.2)) →
      Stp n0 A w E { w with heap:=w.heap.setIfInBounds B (.map es' clock') } (E.set j (.any (mapE kv vv B (mput D a v)))):=by
    intro es' clock' he;refine Stp.turn hO hj ⟨rfl,rfl,rfl⟩ (by simp) (fun b hb hn=>?_) (by simp[Ent.fp,mapE]) (fun b hb=>.inl hb) ⟨h0,es',clock',(Go.MapKept.heap_set h1).1,he⟩;exact(Go.MapKept.heap_set h1).2 b (fun hh=>hn (by simp[Ent.fp,mapE,hh]))
  cases hq:fidx (D.map (·.1)) a with
  | none =>
    rw[hq] at hf;refine⟨_,key (es.push { key:=kv a,val:=vv v,born:=clock }) (clock+1) ?_,fun {σ x y z ty} hx hy hz=>.inr ⟨?_,rfl⟩⟩
    · rw[Jeq hq];simp[h2]
    · simp only[Option.bind_none] at hf;simp[execOp,opr,hx,hy,hz,Instr.mapUpdate,run_underlying ht,getObjMap h1,K.chk,hf,Go.MapKept.run_setObj_map _ h1,Result.andThen]
  | some i =>
    rw[hq] at hf
    have hi:i<es.size:=by have:=JeW hq;simp at this;omega
    have hkey:es[i].key=kv a:=by
      have e1:=Je0 hq;have e2:=congrArg (fun l=>l[i]?) (Jax h2);simp only[List.getElem?_map,e1,Option.map_some] at e2;simpa [hi] using e2
    refine⟨_,key (es.modify i fun e=>{ e with key:=kv a,val:=vv v }) clock ?_,fun {σ x y z ty} hx hy hz=>.inr ⟨?_,rfl⟩⟩
    · have:=Jf8 (a:=a) (v:=v) h2 i hq;simpa using this
    · simp only[Option.bind_some,Array.getElem?_toList,Array.getElem?_eq_getElem hi,Option.map_some] at hf
      have hkk:(Instr.keyThatStays (kv a) (kv a)).run P w=.ok (kv a) w:=by
        simp[Instr.keyThatStays,K.sam]
      simp[execOp,opr,hx,hy,hz,Instr.mapUpdate,run_underlying ht,getObjMap h1,K.chk,hf,hi,hkey,hkk,Go.MapKept.run_setObj_map _ h1,Result.andThen]
end ops
open Go Go.RowKit
theorem J7e {P:Program} {e:TypeId} {d:TypeDesc} (he:P.underlying e=some d) (hd:scB d=true) {cs:Array Value} {j:Nat} {v:Value} (hv:cs[j]?=some v) (w:World):(part e cs j).run P w=.ok v w:=by
 simp[part,J8u he hd,hv,Result.andThen]
theorem JeM {P:Program} {k e:TypeId} {q:IntKind} {z:Option Value} {bb:Nat} (hk:P.underlying k=some (.array 2 e)) (he:P.underlying e=some (.int q)) (hi:ti P e=some (z,1,bb)) (a b c d:Int) (w:World) :
  (Op.equal k (.agg #[.int q a,.int q b]) (.agg #[.int q c,.int q d])).run P w=.ok (decide ((a,b)=(c,d))) w:=by
 obtain⟨i,hi1,hs⟩:∃i,P.info? e=some i∧i.size=1:=by
  unfold ti at hi
  cases h:P.info? e with
  | none=>simp[h] at hi
  | some i=>simp[h] at hi;exact⟨i,rfl,hi.2.1⟩
 have hc:P.cellsOf e=1:=by simp[Program.cellsOf,hi1,hs]
 have e1:∀(x y:Int) (w:World),(Op.equalIn 9999 e (.int q x) (.int q y)).run P w=.ok (x == y) w:=fun x y w=>run_equalIn_int w 9998 e q q x y he;have p:∀(x y:Value) (w:World),(part e #[x,y] 0).run P w=.ok x w:=fun x y w=>J7e he rfl rfl w;have p':∀(x y:Value) (w:World),(part e #[x,y] 1).run P w=.ok y w:=fun x y w=>J7e he rfl rfl w;have:(Op.equal k (.agg #[.int q a,.int q b]) (.agg #[.int q c,.int q d]))=Op.equalIn (9999+1) k (.agg #[.int q a,.int q b]) (.agg #[.int q c,.int q d]):=rfl;rw[this,run_equalIn_array w 9999 _ _ hk hi1,hc];simp only[List.range,List.range.loop,Op.eqItems,Sem.run_bind,Nat.zero_mul,Nat.one_mul,p,p',Result.andThen_ok,e1];by_cases h1:a=c
 ·by_cases h2:b=d
  ·simp[h1,h2,p',e1,Result.andThen]
  ·simp[h1,h2,p',e1,Result.andThen]
 ·simp[h1,Result.andThen]
theorem J6c {P:Program} {k:TypeId} {κ:Type} [DecidableEq κ] {kv:κ→Value} (hs:∀a b w,(Op.equal k (kv a) (kv b)).run P w=.ok (decide (a=b)) w):∀(es:List MapEntry) (D:List κ) (a:κ) (i:Nat) (w:World),es.map MapEntry.key=D.map kv →
    (Instr.findAsking k (kv a) es i).run P w=.ok ((fidx D a).bind fun j=>es[j]?.map fun e=>(i+j,e.val)) w
  | [],[],a,i,w,_=>rfl
  | [],_::_,a,i,w,h=>by simp at h
  | _::_,[],a,i,w,h=>by simp at h
  | e :: es, b :: D, a, i, w, h => by
    simp only[List.map_cons,List.cons.injEq] at h
    unfold Instr.findAsking
    simp only[Sem.run_bind,h.1,hs,Result.andThen_ok]
    by_cases hab:a=b
    · simp[hab,fidx]
    · simp only[hab,decide_false,fidx,if_false,Bool.false_eq_true]
      rw[J6c hs es D a (i+1) w h.2]
      cases fidx D a with
      | none=>rfl
      | some j =>
        simp only[Option.bind_some,Option.map_some,List.getElem?_cons_succ]
        congr 2
        funext e'
        congr 1
        omega
theorem MK.arr2 {P:Program} {k e:TypeId} {q:IntKind} {z:Option Value} {bb:Nat} (hk:P.underlying k=some (.array 2 e)) (he:P.underlying e=some (.int q)) (hi:ti P e=some (z,1,bb)):MK P k (fun a:Int×Int=>Value.agg #[.int q a.1,.int q a.2]) where
  chk em a w:=by
    have hsz:∀w,(Go.sizeOf e).run P w=.ok 1 w:=fun w=>run_sizeOf hi w;have p:∀(x y:Value) (w:World),(part e #[x,y] 0).run P w=.ok x w:=fun x y w=>J7e he rfl rfl w;have p':∀(x y:Value) (w:World),(part e #[x,y] 1).run P w=.ok y w:=fun x y w=>J7e he rfl rfl w;have c:∀(x:Int) (w:World),(Instr.checkKey em 9999 e (.int q x)).run P w=.ok () w:=fun x w=>Go.MapKept.run_checkKey (d:=.int q) (k:=Value.int q x) he (show q=q from rfl) em 9998;unfold Instr.checkKey;simp only[Sem.run_bind,run_underlying hk,Result.andThen_ok];simp[Std.Legacy.Range.forIn_eq_forIn_range',Std.Legacy.Range.size,List.range',hsz,p,p',c,Result.andThen]
  fnd es D a w h:=by
    unfold Instr.findKey;simp only[Sem.run_bind,run_underlying hk,Result.andThen_ok]
    cases es with
    | nil =>
      cases D with
      | nil=>simp[Instr.findNow,fidx]
      | cons _ _=>simp at h
    | cons e0 es =>
      have hn:Instr.findNow (.array 2 e) (.agg #[.int q a.1,.int q a.2]) (e0::es) 0=none:=by
        simp[Instr.findNow,Instr.sameNow]
      rw[hn];refine(J6c (kv:=fun a:Int×Int=>Value.agg #[.int q a.1,.int q a.2]) (fun a b w=>JeM hk he hi a.1 a.2 b.1 b.2 w) (e0::es) D a 0 w h).trans ?_;simp only[Nat.zero_add]
  sam a:=by simp[Instr.sameBits]
open Go
open Go
def CS (Lq:List (Option Addr)) (w w':World):Prop:=∀q∈Lq,∀a,q=some a→w'.cell? a=w.cell? a
theorem CS.refl {Lq:List (Option Addr)} (w:World):CS Lq w w:=fun _ _ _ _=>rfl
theorem CS.trans {Lq:List (Option Addr)} {a b c:World} (h:CS Lq a b) (k:CS Lq b c):CS Lq a c:=fun q hq x hx=>(k q hq x hx).trans (h q hq x hx)
theorem CS.nil (w w':World):CS [] w w':=fun _ h=>nomatch h
theorem CS.cons {q:Option Addr} {Lq:List (Option Addr)} {w w':World} (h:∀a,q=some a→w'.cell? a=w.cell? a) (k:CS Lq w w'):CS (q::Lq) w w':=fun x hx=>by
 rcases List.mem_cons.1 hx with rfl | hx
 ·exact h
 ·exact k x hx
section
variable {P:Program} {ops:Array Oper} {Q:Exit→Act→World→Prop} {Lq:List (Option Addr)}
def YDR (Lq:List (Option Addr)) (P:Program) (ops:Array Oper) (m:Md) (o:Oper) (v:Value) (a:Act) (w:World):Prop:=
 (Region.wanted o (yielded ops a.tmps)=true∧∀w',(m=.pure∨CS Lq w w')→((execOp a.eval o).run P w'=.ok (.value v) w'∨((execOp a.eval o).run P w'=.ok .skip w'∧v=undef))) ∨
 (Region.wanted o (yielded ops a.tmps)=false∧v=undef)
theorem YDR.run {m:Md} {i:Nat} {o:Oper} {v:Value} {a:Act} {w:World} (hi:ops[i]?=some o) (hy:YDR Lq P ops m o v a w) {K:Act→World→Prop} (h:K (a.put o.dst v) w):wpOp P ops Q i K a w:=by
 unfold wpOp;simp only[hi]
 rcases hy with ⟨hw,hv⟩ | ⟨hw,rfl⟩
 ·simp only[hw,if_true];refine .inl ?_;unfold Oper.wp
  rcases hv w (.inr (CS.refl w)) with hx | ⟨hx,rfl⟩<;>(rw[hx];exact h)
 ·simp only[hw,Bool.false_eq_true,if_false];exact h
end
def GoQR (Lq : List (Option Addr)) (P : Program) (f n : Nat) (L : List Oper) (s0 : List (Nat × Md)) (k : List Item) (R : Value → World → Prop) : List (Nat × Md) → (Nat → Value) → World → Prop
  | [],σ,w=>Go1 P f n k σ w R
  | (i, m) :: s, σ, w => match nth L i with
    | none=>False
    | some o => dOk n o.dst = true ∧ (match m with
      | .pure=>(gd L σ o.guard=false∧GoQR Lq P f n L s0 k R s (putS σ o.dst undef) w)∨(gd L σ o.guard=true∧∃v,(∀w',OpV P o.op o.type σ w' v w')∧GoQR Lq P f n L s0 k R s (putS σ o.dst v) w)
      | .stable=>(gd L σ o.guard=false∧GoQR Lq P f n L s0 k R s (putS σ o.dst undef) w)∨(gd L σ o.guard=true∧∃v,(∀w',CS Lq w w'→OpV P o.op o.type σ w' v w')∧GoQR Lq P f n L s0 k R s (putS σ o.dst v) w)
      | .loud=>(gd L σ o.guard=false∧GoQR Lq P f n L s0 k R s (putS σ o.dst undef) w)∨(gd L σ o.guard=true∧((∃v w',OpV P o.op o.type σ w v w'∧CS Lq w w'∧GoQR Lq P f n L s0 k R s (putS σ o.dst v) w') ∨
          OpC P o.op o.type σ w fun v w'=>CS Lq w w'∧GoQR Lq P f n L s0 k R s (putS σ o.dst v) w'))
      | .last=>(gd L σ o.guard=false∧GoQR Lq P f n L s0 k R s (putS σ o.dst undef) w)∨(gd L σ o.guard=true∧((∃v w',OpV P o.op o.type σ w v w'∧GoQR Lq P f n L s0 k R s (putS σ o.dst v) w') ∨
          OpC P o.op o.type σ w fun v w'=>GoQR Lq P f n L s0 k R s (putS σ o.dst v) w')))
section
variable {Lq:List (Option Addr)} {P:Program} {f n:Nat} {L:List Oper} {s0 s:List (Nat×Md)} {k:List Item} {σ:Nat→Value} {w w':World} {R:Value→World→Prop} {i:Nat}
theorem GoQR.nil (h:Go1 P f n k σ w R):GoQR Lq P f n L s0 k R [] σ w:=h
theorem GoQR.pure {d:Option Nat} {op:Op} {ty:TypeId} {pos:String} {aft:Array Edge} {g:Option (Nat×Bool)} {v:Value}
  (hi:nth L i=some ⟨d,op,ty,pos,aft,g⟩) (hv:∀w',OpV P op ty σ w' v w') (hg:gd L σ g=true) (hd:dOk n d=true)
  (h:GoQR Lq P f n L s0 k R s (putS σ d v) w):GoQR Lq P f n L s0 k R ((i,.pure)::s) σ w:=by
 simp only[GoQR,hi];exact⟨hd,.inr ⟨hg,v,hv,h⟩⟩
theorem GoQR.stable {d:Option Nat} {op:Op} {ty:TypeId} {pos:String} {aft:Array Edge} {g:Option (Nat×Bool)} {v:Value}
  (hi:nth L i=some ⟨d,op,ty,pos,aft,g⟩) (hv:∀w',CS Lq w w'→OpV P op ty σ w' v w') (hg:gd L σ g=true) (hd:dOk n d=true)
  (h:GoQR Lq P f n L s0 k R s (putS σ d v) w):GoQR Lq P f n L s0 k R ((i,.stable)::s) σ w:=by
 simp only[GoQR,hi];exact⟨hd,.inr ⟨hg,v,hv,h⟩⟩
theorem GoQR.pass {d:Option Nat} {op:Op} {ty:TypeId} {pos:String} {aft:Array Edge} {g:Option (Nat×Bool)} {m:Md}
  (hi:nth L i=some ⟨d,op,ty,pos,aft,g⟩) (hg:gd L σ g=false) (hd:dOk n d=true)
  (h:GoQR Lq P f n L s0 k R s (putS σ d undef) w):GoQR Lq P f n L s0 k R ((i,m)::s) σ w:=by
 cases m<;>(simp only[GoQR,hi];exact⟨hd,.inl ⟨hg,h⟩⟩)
theorem GoQR.loud {d:Option Nat} {op:Op} {ty:TypeId} {pos:String} {aft:Array Edge} {g:Option (Nat×Bool)} {v:Value}
  (hi:nth L i=some ⟨d,op,ty,pos,aft,g⟩) (hv:OpV P op ty σ w v w') (hs:CS Lq w w') (hg:gd L σ g=true) (hd:dOk n d=true)
  (h:GoQR Lq P f n L s0 k R s (putS σ d v) w'):GoQR Lq P f n L s0 k R ((i,.loud)::s) σ w:=by
 simp only[GoQR,hi];exact⟨hd,.inr ⟨hg,.inl ⟨v,w',hv,hs,h⟩⟩⟩
theorem GoQR.last {d:Option Nat} {op:Op} {ty:TypeId} {pos:String} {aft:Array Edge} {g:Option (Nat×Bool)} {v:Value}
  (hi:nth L i=some ⟨d,op,ty,pos,aft,g⟩) (hv:OpV P op ty σ w v w') (hg:gd L σ g=true) (hd:dOk n d=true)
  (h:GoQR Lq P f n L s0 k R s (putS σ d v) w'):GoQR Lq P f n L s0 k R ((i,.last)::s) σ w:=by
 simp only[GoQR,hi];exact⟨hd,.inr ⟨hg,.inl ⟨v,w',hv,h⟩⟩⟩
theorem GoQR.call {d:Option Nat} {op:Op} {ty:TypeId} {pos:String} {aft:Array Edge} {g:Option (Nat×Bool)} {R1:Value→World→Prop}
  (hi:nth L i=some ⟨d,op,ty,pos,aft,g⟩) (hc:OpC P op ty σ w R1) (hs:∀v w',R1 v w'→CS Lq w w') (hg:gd L σ g=true) (hd:dOk n d=true)
  (h:∀v w',R1 v w'→GoQR Lq P f n L s0 k R s (putS σ d v) w'):GoQR Lq P f n L s0 k R ((i,.loud)::s) σ w:=by
 simp only[GoQR,hi];obtain⟨fc,args,hx,hcall⟩:=hc;exact⟨hd,.inr ⟨hg,.inr ⟨fc,args,hx,CallsV.mono hcall fun v w' h'=>⟨hs v w' h',h v w' h'⟩⟩⟩⟩
end
section
variable {P:Program} {σ:Nat→Value} {w:World} {t ty e:TypeId} {x:Operand} {A:List Nat} {E:List Ent} {n0:Nat}
theorem J4R {b i:Nat} {cs:Array Value} {T:TypeId} {fz:Nat×Nat} (j:Nat) (hO:Owns n0 w E A) (hj:E[j]?=some (.blk b (.cells cs T fz))) {v:Value} (hv:cs[i]?=some v):∀a,(some ⟨b,i,none⟩:Option Addr)=some a→w.cell? a=some v:=by
 intro a ha
 cases ha
 have hh:=(hO.at_ _ (List.mem_of_getElem? hj)).2;simp[World.cell?,hh,hv]
theorem cs_eq {q:Option Addr} {w w':World} {v:Value} (h:∀a,q=some a→w.cell? a=some v) (k:∀a,q=some a→w'.cell? a=some v):∀a,q=some a→w'.cell? a=w.cell? a:=fun a ha=>(k a ha).trans (h a ha).symm
end
open Go Go.RowKit
section
variable {P:Program} {σ:Nat→Value} {w:World} {t ty e:TypeId} {x y:Operand} {A:List Nat} {E:List Ent} {n0:Nat}
theorem J87 {g o:Nat} {T:TypeId} {cur:Array Value} {v:Value} {us:List Value} {zz:Option Value} {b:Nat} (hg:w.heap[g]?=some (.cells cur T (0,0))) (hv:v.cells.toList=us) (h1:∀u∈us,u.oneCell'=true) (hfit:o+us.length≤cur.size)
  (he:ti P t=some (zz,us.length,b)) (hx:ev σ x=.pointer (some ⟨g,o,none⟩)) (hy:ev σ y=v):OpV P (.store t x y) ty σ w undef (w.setRow g (cur.toList.take o++us++cur.toList.drop (o+us.length)).toArray):=.inr (by
 have hs:=fun w=>run_sizeOf he w
 have hsz:v.cells.size=us.length:=by rw[←hv];simp
 have hst:=run_storeCells_at P g o T us 0 cur w hg (by simpa using hfit) h1
 simp only[Nat.add_zero] at hst
 simp[execOp,opr,hx,hy,Instr.storeAt,Instr.sureAddr,storeVar,hs,hsz,hv,hst])
theorem J8Y (w:World) (g:Nat) (cs:Array Value) (k:Nat) (h:k≠g):(w.setRow g cs).heap[k]?=w.heap[k]?:=by
 simp[World.setRow,Array.getElem?_modify,Ne.symm h]
theorem Jbj {b o:Nat} {cs:Array Value} {T:TypeId} {us:List Value} {cs':Array Value} (j:Nat) (hO:Owns n0 w E A) (hj:E[j]?=some (.blk b (.cells cs T (0,0)))) (h1':us.all Value.oneCell'=true) (hfit:o+us.length≤cs.size) (hcs:(cs.toList.take o++us++cs.toList.drop (o+us.length)).toArray=cs') :
  ∃w',Stp n0 A w E w' (E.set j (.blk b (.cells cs' T (0,0))))∧∀{P:Program} {σ:Nat→Value} {t ty:TypeId} {x y:Operand} {v:Value} {zz:Option Value} {bb:Nat},ti P t=some (zz,us.length,bb) →
   ev σ x=.pointer (some ⟨b,o,none⟩)→ev σ y=v→v.cells.toList=us→OpV P (.store t x y) ty σ w undef w':=by
 obtain⟨hb,hh⟩:=hO.at_ _ (List.mem_of_getElem? hj);subst hcs;have h1:∀u∈us,u.oneCell'=true:=List.all_eq_true.1 h1';refine⟨w.setRow b (cs.toList.take o++us++cs.toList.drop (o+us.length)).toArray,Stp.turn hO hj ⟨rfl,rfl,rfl⟩ (by simp) (fun k hk hn=>J8Y w b _ k (by simpa [Ent.fp] using hn)) (by simp[Ent.fp]) (fun k hk=>.inl hk) ⟨hb,setRow_heap w b cs _ T (0,0) hh⟩,fun he hx hy hv=>?_⟩;exact J87 hh hv h1 hfit he hx hy
end
theorem JcT {l:List Value} (i:Nat):(Value.agg l.toArray).cells[i]?=l[i]?:=by
 show l.toArray[i]?=_
 simp
theorem J03 {α:Type} {a b:α} {l m:List α} (h:a=b) (k:l=m):a::l=b::m:=by rw[h,k]
def segs {α:Type} (l:List α) (a:Nat) (us:List α):List α:=l.take a++us++l.drop (a+us.length)
theorem J6a {α:Type} {l:List α} {a:Nat} {us:List α} (h:a+us.length≤l.length):(segs l a us).length=l.length:=by simp[segs];omega
theorem JaR {α:Type} {l:List α} {a:Nat} {us:List α} (h:a+us.length≤l.length) {m:Nat} (hm:m<us.length):(segs l a us)[a+m]?=us[m]?:=by
 have e:(l.take a).length=a:=by simp;omega
 unfold segs;rw[List.append_assoc,List.getElem?_append_right (by omega),e,List.getElem?_append_left (by omega)]
 congr 1;omega
theorem J9E {α:Type} {l:List α} {a:Nat} {us:List α} (h:a+us.length≤l.length) {m:Nat} (hm:m<a∨a+us.length≤m):(segs l a us)[m]?=l[m]?:=by
 have e:(l.take a).length=a:=by simp;omega
 unfold segs
 rcases hm with hm | hm
 ·rw[List.append_assoc,List.getElem?_append_left (by omega),List.getElem?_take,if_pos hm]
 ·rw[List.append_assoc,List.getElem?_append_right (by omega),e,List.getElem?_append_right (by omega),List.getElem?_drop]
  congr 1;omega
theorem Jb3 {α:Type} {l:List α} {a m:Nat} {us:List α} (h:a+us.length≤m) (hm:m≤l.length):(segs l a us).take m=segs (l.take m) a us:=by
 have hl:(l.take m).length=m:=by simp;omega
 apply List.ext_getElem?;intro j;rw[List.getElem?_take];by_cases hj:j<m
 ·rw[if_pos hj];by_cases h1:j<a∨a+us.length≤j
  ·rw[J9E (by omega) h1,J9E (by omega) h1,List.getElem?_take,if_pos hj]
  ·obtain⟨q,rfl⟩:∃q,j=a+q:=⟨j-a,by omega⟩;rw[JaR (by omega) (by omega),JaR (by omega) (by omega)]
 ·rw[if_neg hj,List.getElem?_eq_none (by rw[J6a (by omega)];omega)]
def Rp.flat {α:Type} (sz:Nat) (enc:α→List Value) (ok:α→Prop) (pos:0<sz) (len:∀x,(enc x).length=sz) (one:∀x,∀v∈enc x,v.oneCell'=true):Rp α where
 sz:=sz
 pos:=pos
 R _ _ cs x:=ok x∧∀i,i<sz→cs i=(enc x)[i]?
 ch _ h:=h
 ext e h:=⟨h.1,fun i hi=>(e i hi).trans (h.2 i hi)⟩
 one {A w cs x} h i hi:=by
  have hl:i<(enc x).length:=by rw[len];exact hi
  exact⟨(enc x)[i],by rw[h.2 i hi,List.getElem?_eq_getElem hl],one x _ (List.getElem_mem hl)⟩
def rpP2 (k:IntKind):Rp (Int×Int):=Rp.flat 2 (fun a=>[.int k a.1,.int k a.2]) (fun _=>True) (by decide) (fun _=>rfl) (fun x v hv=>by
 simp only[List.mem_cons,List.not_mem_nil,or_false] at hv
 rcases hv with rfl | rfl<;>rfl)
section
variable {P:Program} {σ:Nat→Value} {w:World} {t ty e:TypeId} {x y:Operand} {A:List Nat} {E:List Ent} {n0:Nat}
variable {α:Type} [Inhabited α] {sz:Nat} {enc:α→List Value} {ok:α→Prop} {ps:0<sz} {ln:∀x,(enc x).length=sz} {on:∀x,∀v∈enc x,v.oneCell'=true}
theorem ldFlat {p:Option Addr} {c:Nat} {xs:List α} (hs:ISl (Rp.flat sz enc ok ps ln on) A w p c xs) {i:Int} (h0:0≤i) (h1:i<xs.length)
  {d:TypeDesc} (ht:P.underlying t=some d) (hd:scB d=false) {zz:Option Value} {bb:Nat} (he:ti P t=some (zz,sz,bb)) (hx:ev σ x=.pointer (padd p (i.toNat*sz))) (w':World) (hw:Same w w'):OpV P (.load t x) ty σ w' (.agg (enc (ix xs i)).toArray) w':=by
 obtain⟨a,ha,hsp,hb,_,hR⟩:=hs.elem h0 h1;rw[show i.toNat*sz=i.toNat*(Rp.flat sz enc ok ps ln on).sz from rfl,ha] at hx;refine J7q ht hd (by rw[ln];exact he) hx fun m hm=>?_;have h2:=hR.2 m (by rw[←ln (ix xs i)];exact hm);rw[List.getElem?_eq_getElem hm] at h2;rw[add_lit' a hsp];have:=J9D hw hb (a:=a) m;simp only[cel] at this h2;rw[this,h2]
theorem ldFlatOk {p:Option Addr} {c:Nat} {xs:List α} (hs:ISl (Rp.flat sz enc ok ps ln on) A w p c xs) {i:Int} (h0:0≤i) (h1:i<xs.length):ok (ix xs i):=by
 obtain⟨a,ha,hsp,hb,_,hR⟩:=hs.elem h0 h1;exact hR.1
omit [Inhabited α] in
theorem ostFlat {p:Option Addr} {n c:Nat} {vs:List Value} {xs:List α} (j:Nat) (hO:Owns n0 w E A) (hj:E[j]?=some (.row e sz p n c vs)) (hE:Els (Rp.flat sz enc ok ps ln on) (bl E++A) w vs xs) {i:Int} (h0:0≤i) (h1:i<xs.length) (u:α) (hok:ok u) :
  ∃w' vs',Stp n0 A w E w' (E.set j (.row e sz p n c vs'))∧Els (Rp.flat sz enc ok ps ln on) (bl (E.set j (.row e sz p n c vs'))++A) w' vs' (st xs i u)∧∀{P:Program} {σ:Nat→Value} {t ty:TypeId} {x y:Operand} {v:Value} {zz:Option Value} {b:Nat},ti P t=some (zz,sz,b) →
   ev σ x=.pointer (padd p (i.toNat*sz))→ev σ y=v→v.cells.toList=enc u→OpV P (.store t x y) ty σ w undef w':=by
 have hh:=hO.at_ _ (List.mem_of_getElem? hj);have hlen:vs.length=xs.length*sz:=hE.len
 have hil:i.toNat<xs.length:=by omega
 have h3:(i.toNat+1)*sz≤xs.length*sz:=Nat.mul_le_mul_right sz (by omega);rw[Nat.add_mul,Nat.one_mul] at h3
 have hl:i.toNat*sz<vs.length:=by omega
 obtain⟨g,cur,rfl,hg,hb,q1,q2,q3,q4,_⟩:=J2o hh hl;have hu:=ln u
 have hfit:i.toNat*sz+(enc u).length≤cur.size:=by
  have:vs.length≤cur.size:=by rw[←q4];simp;omega
  omega
 have hvl:vs.length≤cur.toList.length:=by rw[←q4];simp only[List.length_take];omega
 have hcl:n*sz≤cur.toList.length:=by rw[Array.length_toList,q3];exact Nat.mul_le_mul_right sz q1
 have hnl:n=xs.length:=hE.n_eq (r:=Rp.flat sz enc ok ps ln on) hh;have hone:∀v∈enc u,v.oneCell'=true:=on u;refine⟨w.setRow g (cur.toList.take (i.toNat*sz)++enc u++cur.toList.drop (i.toNat*sz+(enc u).length)).toArray,segs vs (i.toNat*sz) (enc u),Stp.turn hO hj ⟨rfl,rfl,rfl⟩ (by simp) (fun k hk hn=>J8Y w g _ k (by simpa [Ent.fp] using hn)) (by simp[Ent.fp]) (fun k hk=>.inl (by simpa [Ent.fp] using hk)) ?_,?_,fun he hx hy hv=>?_⟩
 ·refine⟨by rw[J6a (by omega)];exact hh.1,.inr ⟨g,c,_,rfl,hb,setRow_heap w g cur _ e (0,0) hg,q1,q2,?_,?_⟩⟩
  ·have:=J6a (l:=cur.toList) (a:=i.toNat*sz) (us:=enc u) (by simpa using hfit);simp only[segs] at this;simp only[List.size_toArray];rw[this,Array.length_toList,q3]
  ·have:=Jb3 (l:=cur.toList) (a:=i.toNat*sz) (us:=enc u) (m:=n*sz) (by rw[hnl];omega) hcl;rw[q4] at this;exact this
 ·refine⟨by rw[J6a (by omega),J02];exact hlen,by rw[J02];exact hE.bd,fun k hk=>?_⟩;simp only[J02] at hk;have hkk:(k+1)*sz≤xs.length*sz:=Nat.mul_le_mul_right sz (by omega);rw[Nat.add_mul,Nat.one_mul] at hkk;simp only[st,List.getElem_set];by_cases hki:i.toNat=k
  ·subst hki;rw[if_pos rfl];refine⟨hok,fun m hm=>?_⟩
   show (segs vs (i.toNat*sz) (enc u))[i.toNat*sz+m]?=_
   rw[JaR (by omega) (by omega)]
  ·rw[if_neg hki];obtain⟨r1,r2⟩:=hE.at_ k hk;refine⟨r1,fun m hm=>?_⟩;have h5:=r2 m hm
   show (segs vs (i.toNat*sz) (enc u))[k*sz+m]?=_
   rw[J9E (by omega) ?_]
   ·exact h5
   ·rcases Nat.lt_or_ge k i.toNat with h | h
    ·have h6:(k+1)*sz≤i.toNat*sz:=Nat.mul_le_mul_right sz (by omega);rw[Nat.add_mul,Nat.one_mul] at h6;omega
    ·have h6:(i.toNat+1)*sz≤k*sz:=Nat.mul_le_mul_right sz (by omega);rw[Nat.add_mul,Nat.one_mul] at h6;omega
 ·simp only[padd,Option.map_some,Addr.add_lit,Nat.zero_add] at hx;exact J87 hg hv hone hfit (by rw[hu];exact he) hx hy
end
section
variable {P:Program} {σ:Nat→Value} {w:World} {t:TypeId} {A:List Nat} {E:List Ent} {n0 f n:Nat} {k:List Item} {R:Value→World→Prop}
theorem Jc1 {b:Nat} {cs:Array Value} {T:TypeId} {fz:Nat×Nat} {vs:List Value} (j:Nat) (hO:Owns n0 w E A) (hj:E[j]?=some (.blk b (.cells cs T fz))) (hv:(cs.toList.drop 0).take vs.length=vs) {d:TypeDesc} (ht:P.underlying t=some d) (hd:scB d=false)
  {zz:Option Value} {bb:Nat} (he:ti P t=some (zz,vs.length,bb)):(loadVar t ⟨b,0,none⟩).run P w=.ok (.agg vs.toArray) w:=by
 have hh:=(hO.at_ _ (List.mem_of_getElem? hj)).2;have hs:=fun w=>run_sizeOf he w
 have hc:∀m (hm:m<vs.length),w.cell? (Addr.add ⟨b,0,none⟩ (0+m))=some vs[m]:=fun m hm=>by
  rw[Addr.add_lit];simp only[World.cell?,hh,Option.isSome_none,Bool.false_eq_true,if_false];have h1:vs[m]?=some vs[m]:=List.getElem?_eq_getElem hm
  conv at h1=>lhs;rw[←hv]
  rw[List.getElem?_take,if_pos hm,List.getElem?_drop] at h1;simpa using h1
 have hl:=J3G (P:=P) (w:=w) ⟨b,0,none⟩ vs.length 0 #[] vs rfl hc;simp[loadVar,run_isAgg' ht hd,hs,loadCells,hl]
theorem resultsC1 {fn:Func} {r:Nat} {v:Value} {b:Nat} (hr:fn.results=#[.cell r t]) {tmps:Array Value} (hp:tmps.getD r undef=.pointer (some ⟨b,0,none⟩)) (hl:(loadVar t ⟨b,0,none⟩).run P w=.ok v w):(results fn tmps).run P w=.ok v w:=by
 simp only[Array.getD_eq_getD_getElem?] at hp;simp[results,hr,hp,asAddr,hl,Result.andThen]
theorem resultsC2 {fn:Func} {r q:Nat} {v:Value} {b:Nat} (hr:fn.results=#[.cell r t,.tmp q]) {tmps:Array Value} (hp:tmps.getD r undef=.pointer (some ⟨b,0,none⟩)) (hl:(loadVar t ⟨b,0,none⟩).run P w=.ok v w):(results fn tmps).run P w=.ok (.tuple #[v,tmps.getD q undef]) w:=by
 simp only[Array.getD_eq_getD_getElem?] at hp;simp[results,hr,hp,asAddr,hl,Result.andThen]
theorem resultsC3 {fn:Func} {r q u:Nat} {v:Value} {b:Nat} (hr:fn.results=#[.cell r t,.tmp q,.tmp u]) {tmps:Array Value} (hp:tmps.getD r undef=.pointer (some ⟨b,0,none⟩)) (hl:(loadVar t ⟨b,0,none⟩).run P w=.ok v w):(results fn tmps).run P w=.ok (.tuple #[v,tmps.getD q undef,tmps.getD u undef]) w:=by
 simp only[Array.getD_eq_getD_getElem?] at hp;simp[results,hr,hp,asAddr,hl,Result.andThen]
theorem Go1.retC1 {fn:Func} {r:Nat} {v:Value} {b:Nat} (hf:P.funcs[f]?=some fn) (hr:fn.results=#[.cell r t]) (hp:σ r=.pointer (some ⟨b,0,none⟩)) (hl:(loadVar t ⟨b,0,none⟩).run P w=.ok v w) (h:R v w):Go1 P f n (.code .ret::k) σ w R:=
 fun a ha=>.ret hf ha.df (resultsC1 hr (by rw[ha.rd];exact hp) hl) h
theorem Go1.retC2 {fn:Func} {r q:Nat} {v:Value} {b:Nat} (hf:P.funcs[f]?=some fn) (hr:fn.results=#[.cell r t,.tmp q]) (hp:σ r=.pointer (some ⟨b,0,none⟩)) (hl:(loadVar t ⟨b,0,none⟩).run P w=.ok v w) (h:R (.tuple #[v,σ q]) w):Go1 P f n (.code .ret::k) σ w R:=
 fun a ha=>.ret hf ha.df (resultsC2 hr (by rw[ha.rd];exact hp) hl) (by rw[ha.rd];exact h)
theorem Go1.retC3 {fn:Func} {r q u:Nat} {v:Value} {b:Nat} (hf:P.funcs[f]?=some fn) (hr:fn.results=#[.cell r t,.tmp q,.tmp u]) (hp:σ r=.pointer (some ⟨b,0,none⟩)) (hl:(loadVar t ⟨b,0,none⟩).run P w=.ok v w) (h:R (.tuple #[v,σ q,σ u]) w):Go1 P f n (.code .ret::k) σ w R:=
 fun a ha=>.ret hf ha.df (resultsC3 hr (by rw[ha.rd];exact hp) hl) (by rw[ha.rd,ha.rd];exact h)
end
section
variable {P:Program} {σ:Nat→Value} {w:World} {t ty e:TypeId} {x:Operand}
theorem J9F {n:Nat} {zv:Value} {s b:Nat} {z2:Option Value} {s2 b2:Nat} {parts:List (Nat×Operand)} {vs:List (Nat×Value)} {cs:Array Value} (ht:P.underlying t=some (.array n e)) (he:ti P t=some (some zv,s,b)) (h2:ti P e=some (z2,s2,b2))
  (hp:parts.map (fun p=>(p.1,ev σ p.2))=vs) (hf:Instr.fill (fun i=>some (i*s2,s2)) zv.cells vs=some cs) (w:World):OpV P (.build t parts.toArray) ty σ w (.agg cs) w:=.inl (by
 subst hp
 simp only[execOp,opr,Instr.build,Sem.run_bind,J1W he,Result.andThen_ok,run_underlying ht,run_sizeOf h2]
 simp at hf ⊢
 simp[hf])
theorem JdC {fs:Array Field} {fl:Field} {i:Nat} {cs:Array Value} {v:Value} {d:TypeDesc} (ht:P.underlying t=some (.struct fs)) (hf:fs[i]?=some fl) (hd:P.underlying fl.type=some d) (hs:scB d=true) (hx:ev σ x=.agg cs) (hv:cs[fl.offset]?=some v) (w:World):OpV P (.field t x i) ty σ w v w:=.inl (by
 have hp:(part fl.type cs fl.offset).run P w=.ok v w:=by simp[part,J8u hd hs,hv,Result.andThen]
 simp[execOp,opr,hx,Instr.field,run_underlying ht,hf,asAgg,hp,Result.andThen])
end
open Go
section
variable {P:Program} {f n:Nat} {k:List Item} {σ:Nat→Value} {w:World} {R:Value→World→Prop} {t:TypeId}
theorem Go1.retC1V {fn:Func} {r:Nat} {v:Value} {b:Nat} (hf:P.funcs[f]?=some fn) (hr:fn.results=#[.cell r t]) (hp:σ r=.pointer (some ⟨b,0,none⟩)) (hl:(loadVar t ⟨b,0,none⟩).run P w=.ok v w) (h:R v w):Go1 P f n (.code .ret::k) σ w R:=Go1.retC1 hf hr hp hl h
theorem Go1.retC3V {fn:Func} {r q u:Nat} {v x y:Value} {b:Nat} (hf:P.funcs[f]?=some fn) (hr:fn.results=#[.cell r t,.tmp q,.tmp u]) (hp:σ r=.pointer (some ⟨b,0,none⟩)) (hl:(loadVar t ⟨b,0,none⟩).run P w=.ok v w) (hx:σ q=x) (hy:σ u=y) (h:R (.tuple #[v,x,y]) w):Go1 P f n (.code .ret::k) σ w R:=Go1.retC3 hf hr hp hl (hx▸hy▸h)
end
open Go
section
variable {P:Program} {f n:Nat} {L l:List Oper} {s0 s1:List (Nat×Md)} {k:List Item} {σ:Nat→Value} {w:World} {R:Value→World→Prop}
theorem GoR.join {S:Type} {body:(S→Prop)→Prop} {kk:S→Prop} (m:Nat) (Pre:S→(Nat→Value)→World→Prop) (H:Jn body kk)
  (rest:∀s σ w,kk s→Pre s σ w→GoR P f n L (L.drop m) k σ w R)
  (first:∀X:S→Prop,(∀s σ w,X s→Pre s σ w→GoR P f n L (L.drop m) k σ w R)→body X→GoR P f n L l k σ w R):GoR P f n L l k σ w R:=
 first (fun s=>∀σ w,Pre s σ w→GoR P f n L (L.drop m) k σ w R) (fun s σ w h hp=>h σ w hp) (H _ fun s hk σ w hp=>rest s σ w hk hp)
theorem GoQ.join {S:Type} {body:(S→Prop)→Prop} {kk:S→Prop} (s2:List (Nat×Md)) (Pre:S→(Nat→Value)→World→Prop) (H:Jn body kk)
  (rest:∀s σ w,kk s→Pre s σ w→GoQ P f n L s0 k R s2 σ w)
  (first:∀X:S→Prop,(∀s σ w,X s→Pre s σ w→GoQ P f n L s0 k R s2 σ w)→body X→GoQ P f n L s0 k R s1 σ w):GoQ P f n L s0 k R s1 σ w:=
 first (fun s=>∀σ w,Pre s σ w→GoQ P f n L s0 k R s2 σ w) (fun s σ w h hp=>h σ w hp) (H _ fun s hk σ w hp=>rest s σ w hk hp)
end
open Go Go.RowKit
def Opens (P:Program) (t:TypeId) {α:Type} (r:Rp α):Prop:=
 ∀{H:Type} {enc:TypeId×Value→H} {w:World} {base:Nat} {spare:Nat→Bool} {held:Bool} {fuel:Nat} {cs:List Value} {x:DataW H×List MemPlace},DataW.trod enc P w base spare held fuel t cs=some x→cs.length=r.sz∧∃d:α,r.R [] w (fun i=>cs[i]?) d
section
variable {P:Program} {t e:TypeId}
theorem Opens.int {k:IntKind} (ht:P.underlying t=some (.int k)):Opens P t (Rp.int k):=by
 intro H enc w base spare held fuel cs x h;obtain⟨n,rfl,_,_⟩:=DataW.trod_int ht h;exact⟨rfl,n,rfl⟩
theorem Opens.bool (ht:P.underlying t=some .bool):Opens P t Rp.bool:=by
 intro H enc w base spare held fuel cs x h;obtain⟨n,rfl,_⟩:=DataW.trod_bool ht h;exact⟨rfl,n,rfl⟩
theorem Opens.str (ht:P.underlying t=some .string):Opens P t Rp.str:=by
 intro H enc w base spare held fuel cs x h;obtain⟨s,rfl,_,hs⟩:=DataW.trod_string ht h;refine⟨rfl,s.data.toList,by show some _=_;rw[Jd2],?_⟩;have h1:s.data.toList.length=s.size:=(Lib.size_eq s).symm;simp only[maxLen] at hs;rw[h1];simp only[mx];omega
theorem Jbs {w:World} {base:Nat} {a:Addr} {n:Nat} {cs:List Value} (h:w.cells? base a n=some cs):cs.length=n∧∀i (hi:i<n),w.cell? (a.add i)=cs[i]?:=by
 unfold World.cells? at h
 split at h
 ·have hl:cs.length=n:=by simpa using mapM_some_length h
  refine⟨hl,fun i hi=>?_⟩;have:=mapM_some_get h i i (by simp[hi]);exact this
 ·cases h
theorem Ja9 {w:World} {a:Addr} {v:Value} (h:w.cell? a=some v):a.spot=none∧a.block<w.heap.size:=by
  unfold World.cell? at h
  cases hb:w.heap[a.block]? with
  | none=>simp[hb] at h
  | some o =>
    refine⟨?_,(Array.getElem?_eq_some_iff.1 hb).1⟩
    cases o<;>simp[hb] at h
    exact h.1
theorem Opens.sl {α:Type} {r:Rp α} (ht:P.underlying t=some (.slice e)) (hc:P.cellsOf e=r.sz) (he:Opens P e r) {H:Type} {enc:TypeId×Value→H} {w:World} {base:Nat} {spare:Nat→Bool} {held:Bool} {fuel:Nat} {cs:List Value} {x:DataW H×List MemPlace}
    (h:DataW.trod enc P w base spare held fuel t cs=some x):∃(p:Option Addr) (c:Nat) (xs:List α),cs=[.slice p xs.length c]∧ISl r [] w p c xs:=by
  rcases DataW.trod_slice ht h with ⟨rfl,_⟩ | ⟨a,len,cap,elems,rest,n,_,rfl,_,hb,hl,hm,hlen,hel,_,_⟩
  · exact⟨none,0,[],rfl,ISl.null r [] w⟩
  · have each:∀i,i<len→∃d:α,∃cs,w.cells? base (a.add (i*r.sz)) r.sz=some cs∧r.R [] w (fun j=>cs[j]?) d:=by
      intro i hi;have h1:=hel i hi;rw[hc] at h1;have h2:elems[i]?=some (elems[i]'(by omega)):=List.getElem?_eq_getElem (by omega);rw[h2,Option.bind_eq_some_iff] at h1;obtain⟨cs,hcs,htr⟩:=h1;obtain⟨_,d,hd⟩:=he htr;exact⟨d,cs,hcs,hd⟩
    have hx:∃xs:List α,xs.length=len∧∀i (hi:i<xs.length),∃cs,w.cells? base (a.add (i*r.sz)) r.sz=some cs∧r.R [] w (fun j=>cs[j]?) xs[i]:=by
      clear hel hlen h hl hm
      have key:∀m,m≤len→∃xs:List α,xs.length=m∧∀i (hi:i<xs.length),∃cs,w.cells? base (a.add (i*r.sz)) r.sz=some cs∧r.R [] w (fun j=>cs[j]?) xs[i]:=by
        intro m
        induction m with
        | zero=>intro _;exact⟨[],rfl,fun i hi=>by simp at hi⟩
        | succ m ih =>
          intro hm;obtain⟨xs,hxl,hxs⟩:=ih (by omega);obtain⟨d,hd⟩:=each m (by omega);refine⟨xs++[d],by simp[hxl],fun i hi=>?_⟩;by_cases hlt:i<xs.length
          · rw[List.getElem_append_left hlt];exact hxs i hlt
          · have:i=m:=by simp[hxl] at hi;omega
            subst this;simp only[List.getElem_append_right (Nat.le_of_eq hxl),List.getElem_singleton];exact hd
      exact key len (Nat.le_refl _)
    obtain⟨xs,rfl,hxs⟩:=hx;refine⟨some a,cap,xs,rfl,hl,by simp only[maxLen] at hm;simp only[mx];omega,(fun h=>nomatch h),?_⟩;intro a' ha' k hk
    cases ha'
    obtain⟨cs,hcs,hR⟩:=hxs k hk;obtain⟨hcl,hg⟩:=Jbs hcs;have h0:=hg 0 r.pos;have hsome:∃v,cs[0]?=some v:=⟨_,List.getElem?_eq_getElem (by have:=r.pos;omega)⟩;obtain⟨v,hv⟩:=hsome;rw[hv] at h0
    have hsp:a.spot=none∧a.block<w.heap.size:=by
      by_cases hz:k*r.sz=0
      · rw[hz,Addr.add_zero',Addr.add_zero'] at h0;exact Ja9 h0
      · have hk0:0<k:=by
          rcases Nat.eq_zero_or_pos k with h | h
          · subst h;simp at hz
          · exact h
        obtain⟨cs0,hcs0,_⟩:=hxs 0 (by omega);obtain⟨hcl0,hg0⟩:=Jbs hcs0;have h00:=hg0 0 r.pos;rw[Nat.zero_mul,Addr.add_zero',Addr.add_zero',List.getElem?_eq_getElem (by have:=r.pos;omega)] at h00;exact Ja9 h00
    refine⟨hsp.1,hsp.2,List.not_mem_nil,r.ext (fun i hi=>?_) hR⟩
    show w.cell? _=_
    rw[←hg i hi,add_lit' a hsp.1,add_lit' _ rfl];simp[Nat.add_assoc]
theorem Opens.ofSl {α:Type} {r:Rp α} (ht:P.underlying t=some (.slice e)) (hc:P.cellsOf e=r.sz) (he:Opens P e r):Opens P t r.sl:=by
 intro H enc w base spare held fuel cs x h;obtain⟨p,c,xs,rfl,hI⟩:=Opens.sl ht hc he h;exact⟨rfl,xs,p,c,rfl,hI⟩
end
open Go
theorem size4 {cs:Array Value} (h:cs.size=4):∃a b c d:Value,cs=#[a,b,c,d]:=by
 obtain⟨l⟩:=cs
 match l,h with
 | [a,b,c,d],_=>exact⟨a,b,c,d,rfl⟩
open Go Go.RowKit
theorem JeD:∀a b:Str,Op.bytesLess a b=slt a b
  | _,[]=>by simp[Op.bytesLess,slt]
  | [],_::_=>by simp[Op.bytesLess,slt]
  | a :: x, b :: y => by
    rw[Op.bytesLess,slt,JeD x y,Bool.beq_eq_decide_eq]
section
variable {P:Program} {σ:Nat→Value} {t t' ty e:TypeId} {x y z:Operand}
theorem Jde {a b:Str} (hx:ev σ x=.string (gstr a)) (hy:ev σ y=.string (gstr b)) (w:World):OpV P (.binOp .lss t x y t') ty σ w (.bool (slt a b)) w:=.inl (by
 simp[execOp,opr,hx,hy,eqGuard_lss,binOp_string_lss,JeD])
theorem J8n {k:IntKind} {n:Int} {d:TypeDesc} (hs:P.underlying t=some d) (hd:P.underlying t'=some .string) (hx:ev σ x=.int k n) (h0:0≤n) (h1:n<128) (w:World) :
  OpV P (.convert t t' x) ty σ w (.string (gstr (chr n))) w:=.inl (by
 have hv:Utf8.valid n=true:=by
  unfold Utf8.valid;simp only[Bool.and_eq_true,Bool.or_eq_true,decide_eq_true_eq,Bool.not_eq_true',decide_eq_false_iff_not];omega
 have he:Utf8.encode n=gstr (chr n):=by
  have:n.toNat<128:=by omega
  simp[Utf8.encode,hv,this,gstr,chr]
 simp[execOp,opr,hx,run_convert_int_string w t t' k n (by rw[hs];rfl) hd,he])
section
variable {w:World} {A:List Nat} {E:List Ent} {n0:Nat}
theorem ldBytes {p:Option Addr} {c:Nat} {xs:List Int} (hs:ISl (Rp.int .u8) A w p c xs) (ht:P.underlying t=some (.slice e)) (he:P.underlying e=some (.int .u8)) (hd:P.underlying t'=some .string)
    (hx:ev σ x=.slice p xs.length c) (w':World) (hw:Same w w'):OpV P (.convert t t' x) ty σ w' (.string (gstr (byt xs))) w':=.inl (by
  cases p with
  | none =>
    have h1:=hs.cap
    have h2:=hs.nil rfl
    have h3:xs=[]:=List.eq_nil_of_length_eq_zero (by omega)
    subst h3
    have:=run_convert_bytes_nil (P:=P) w' t e ht he ([]:List Int).length c t' hd
    simp only[execOp,opr,hx,Sem.run_bind,this,Result.andThen_ok,Sem.run_pure]
    rfl
  | some a =>
    by_cases h3:xs=[]
    · subst h3
      have:=run_bytesToString (P:=P) w' a 0 c [] (by simp[loadCells,loadCellsFrom,Sem.run_pure])
      have h4:=run_convert_bytes_string w' t t' e (some a) 0 c ht he hd
      rw[this] at h4
      simp only[List.length_nil] at hx
      simp only[execOp,opr,hx,Sem.run_bind,h4,Result.andThen_ok,Sem.run_pure]
      rfl
    · have hl:0<xs.length:=List.length_pos_iff.2 h3
      obtain⟨hsp,hb,_,_⟩:=hs.at_ a rfl 0 hl
      obtain⟨b,off,sp⟩:=a
      simp only at hsp hb
      subst hsp
      have:=run_convert_bytes_arg (P:=P) w' t e ht he b off xs.length c xs rfl (fun i hi=>by
        obtain⟨_,_,_,hR⟩:=hs.at_ _ rfl i hi
        have h6:cel w ⟨b,off,none⟩ (i*1+0)=some (.int .u8 xs[i]):=hR
        simp only[cel,Nat.mul_one,Nat.add_zero] at h6
        rw[World.cell?_of_block (w:=w) (hw.block b hb),h6]
        simp[List.getD_eq_getElem?_getD,hi]) t' hd
      simp only[execOp,opr,hx,Sem.run_bind,this,Result.andThen_ok,Sem.run_pure]
      rfl)
theorem oldBytes {p:Option Addr} {n c:Nat} {vs:List Value} {xs:List Int} (j:Nat) (hO:Owns n0 w E A) {e1:TypeId} (hj:E[j]?=some (.row e1 1 p n c vs)) (hE:Els (Rp.int .u8) (bl E++A) w vs xs)
  (ht:P.underlying t=some (.slice e)) (he:P.underlying e=some (.int .u8)) (hd:P.underlying t'=some .string) (hx:ev σ x=.slice p n c) (w':World) (hw:Same w w'):OpV P (.convert t t' x) ty σ w' (.string (gstr (byt xs))) w':=by
 obtain⟨h1,h2⟩:=rowlend (r:=Rp.int .u8) j hO hj hE;rw[h2] at hx;exact ldBytes h1 ht he hd hx w' hw
end
theorem eqFields2 {f1 f2:Field} {w:World} {a b c d:Str} {n:Nat} (n1:f1.name ≠ "_") (n2:f2.name ≠ "_") (o1:f1.offset=0) (o2:f2.offset=1) (t1:P.underlying f1.type=some .string) (t2:P.underlying f2.type=some .string) :
  (Op.eqFields (n+1) #[.string (gstr a),.string (gstr b)] #[.string (gstr c),.string (gstr d)] [f1,f2]).run P w=.ok (decide (a=c∧b=d)) w:=by
 have hp:∀(f:Field) (cs:Array Value) (k:Nat) (v:Value),P.underlying f.type=some .string→cs[k]?=some v→(part f.type cs k).run P w=.ok v w:=fun f cs k v hf hv=>by
  simp[part,J8u hf rfl,hv,Result.andThen]
 have q1:=run_equalIn_string (P:=P) w n f1.type (gstr a) (gstr c) t1;have q2:=run_equalIn_string (P:=P) w n f2.type (gstr b) (gstr d) t2;simp only[JbG,Jb0] at q1 q2;have k1:=hp f1 #[.string (gstr a),.string (gstr b)] 0 (.string (gstr a)) t1 rfl;have k2:=hp f1 #[.string (gstr c),.string (gstr d)] 0 (.string (gstr c)) t1 rfl;have k3:=hp f2 #[.string (gstr a),.string (gstr b)] 1 (.string (gstr b)) t2 rfl;have k4:=hp f2 #[.string (gstr c),.string (gstr d)] 1 (.string (gstr d)) t2 rfl;unfold Op.eqFields;rw[if_pos n1,o1,Sem.run_bind,k1,Result.andThen_ok,Sem.run_bind,k2,Result.andThen_ok,Sem.run_bind,q1,Result.andThen_ok];by_cases h1:a=c
 ·rw[if_neg (by simp[h1])];unfold Op.eqFields;rw[if_pos n2,o2,Sem.run_bind,k3,Result.andThen_ok,Sem.run_bind,k4,Result.andThen_ok,Sem.run_bind,q2,Result.andThen_ok];by_cases h2:b=d
  ·rw[if_neg (by simp[h2])];simp[Op.eqFields,h1,h2,Sem.run_pure]
  ·rw[if_pos (by simp[h2])];simp[h1,h2,Sem.run_pure]
 ·rw[if_pos (by simp[h1])];simp[h1,Sem.run_pure]
theorem Jcs {f1 f2:Field} {a b c d:Str} (ht:P.underlying t=some (.struct #[f1,f2])) (hp:P.stoodInHeld t=false) (hg:P.eqGuardType P.depth t=false) (n1:f1.name ≠ "_") (n2:f2.name ≠ "_") (o1:f1.offset=0) (o2:f2.offset=1) (t1:P.underlying f1.type=some .string) (t2:P.underlying f2.type=some .string)
  (hx:ev σ x=.agg #[.string (gstr a),.string (gstr b)]) (hy:ev σ y=.agg #[.string (gstr c),.string (gstr d)]) (w:World):OpV P (.binOp .neq t x y t') ty σ w (.bool (!decide (a=c∧b=d))) w:=.inl (by
 have hf:P.fieldsOf t=#[f1,f2]:=by simp[Program.fieldsOf,ht]
 have q:=run_equalIn_struct (P:=P) w 9999 t #[.string (gstr a),.string (gstr b)] #[.string (gstr c),.string (gstr d)] (by rw[hf];exact ht) hp
 rw[hf,eqFields2 n1 n2 o1 o2 t1 t2] at q
 simp only[execOp,opr,hx,hy,Sem.run_bind,run_eqGuard_agg w _ t x y _ _ hg,Result.andThen_ok,run_neq_struct,q,Sem.run_pure])
end
section
variable {P:Program} {w:World} {A:List Nat} {E:List Ent} {n0:Nat} {t e:TypeId}
theorem obuildN {α:Type} {r:Rp α} {z:Value} {by_:Nat} (ht:P.underlying t=some (.slice e)) (he:ti P e=some (some z,r.sz,by_)) {n:Nat} {parts:List (Nat×Value)} {vs:List Value} {xs:List α}
  (hO:Owns n0 w E A) (hn:n≤1000) (hn2:n*r.sz≤1000) (hf:Instr.fill (fun i=>some (i*r.sz,r.sz)) ((Array.range (n*r.sz)).map (z.cells[· % z.cells.size]!)) parts=some vs.toArray) (hE:Els r (bl E++A) w vs xs) (hl:vs.length=n*r.sz) :
  ∃w' p,Stp n0 A w E w' (.row e r.sz p n n vs::E)∧Els r (bl (.row e r.sz p n n vs::E)++A) w' vs xs∧Same w w'∧∀{σ:Nat→Value} {ps:List (Nat×Operand)} {ty:TypeId},(ps.map fun p=>(p.1,ev σ p.2))=parts→OpV P (.buildSlice t n ps.toArray) ty σ w (.slice p n n) w':=by
 obtain⟨i,hi,hz1,hz2,hz3⟩:=J4h he;have hs:Same w (w.alloc (.cells vs.toArray e (0,0))):=⟨rfl,rfl,rfl,by simp,fun k hk=>Below.heap_alloc _ _ _ hk⟩
 have hst:Stp n0 A w E (w.alloc (.cells vs.toArray e (0,0))) (.row e r.sz (some ⟨w.heap.size,0,none⟩) n n vs::E):=by
  refine Stp.new hO hs (by simp[Ent.fp]) (fun b hb=>by simp[Ent.fp] at hb;omega) ?_;have:=World.ownsRow_lit (base:=n0) (e:=e) (size:=r.sz) w vs.toArray n hO.le (by simp only[maxLen];omega) (by simp[hl]);simp only at this;exact this
 refine⟨_,_,hst,hE.ch hst.ch,hs,fun hp=>.inl ?_⟩
 have h24:¬(16777216<n):=by omega
 have h25:¬(16777216<n*r.sz):=by omega
 by_cases hn0:n=0
 ·subst hn0;have hv:vs=[]:=List.eq_nil_of_length_eq_zero (by simpa using hl);subst hv;simp only[Nat.zero_mul] at hf;simp[execOp,opr,hp,Instr.buildSlice,run_underlying ht,Go.sizeOf,typeInfo,hi,hz2,newRow]
  have hf':Instr.fill (fun i=>some (i*r.sz,r.sz)) (Array.map (fun _=>default) (Array.range 0)) parts=some #[]:=by rw[Array.range_zero',Array.map_empty] at hf ⊢;exact hf
  simp only[hf'];simp only[Sem.run_map,run_newObj,Result.andThen_ok]
  rfl
 ·simp[execOp,opr,hp,Instr.buildSlice,run_underlying ht,Go.sizeOf,typeInfo,zeroValue,hi,hz2,hz1,h24,h25,hn0,newRow];simp only[hf];simp only[Sem.run_map,run_newObj,Result.andThen_ok];rw[if_neg (by have:=Nat.mul_pos (Nat.pos_of_ne_zero hn0) r.pos;omega)]
  rfl
theorem Els.flat1 {α:Type} {sz:Nat} {enc:α→List Value} {ok:α→Prop} {ps:0<sz} {ln:∀x,(enc x).length=sz} {on:∀x,∀v∈enc x,v.oneCell'=true} (x:α) (h:ok x):Els (Rp.flat sz enc ok ps ln on) A w (enc x) [x]:=by
 refine⟨by rw[ln];simp[Rp.flat],by simp[mx],fun k hk=>?_⟩
 obtain rfl:k=0:=by simp at hk;omega
 refine⟨h,fun i hi=>?_⟩;simp
theorem oElimN {α:Type} {a:Prop} {f:α→Prop} (h:Option.elim (none:Option α) a f):a:=h
theorem oElimS {α:Type} {a:Prop} {f:α→Prop} {d:α} (h:Option.elim (some d) a f):f d:=h
end
section
variable {P:Program} {σ:Nat→Value} {w:World} {t ty:TypeId} {x:Operand} {A:List Nat}
variable {α:Type} [Inhabited α] {sz:Nat} {enc:α→List Value} {ok:α→Prop} {ps:0<sz} {ln:∀x,(enc x).length=sz} {on:∀x,∀v∈enc x,v.oneCell'=true}
theorem ISl.spot {p:Option Addr} {c:Nat} {xs:List α} (hs:ISl (Rp.flat sz enc ok ps ln on) A w p c xs) {i:Int} (h0:0≤i) (h1:i<xs.length):∃a,padd p (i.toNat*sz)=some a∧a.spot=none:=by
 obtain⟨a,ha,hsp,_,_,_⟩:=hs.elem h0 h1;exact⟨a,ha,hsp⟩
end
open Go
def needOf (o:Oper):Nat:=o.after.toList.foldl (fun m e=>if Region.binds .any e then Nat.lor m (Nat.shiftLeft 1 e.on) else m) 0
theorem Jdm (m i k:Nat):(Nat.lor m (Nat.shiftLeft 1 i)).testBit k=(m.testBit k || decide (k=i)):=by
 show (m ||| (1 <<< i)).testBit k=_
 rw[Nat.testBit_or,Nat.one_shiftLeft,Nat.testBit_two_pow]
 congr 1
 simp[eq_comm]
theorem needFold (l:List Edge) (m k:Nat):(l.foldl (fun m e=>if Region.binds .any e then Nat.lor m (Nat.shiftLeft 1 e.on) else m) m).testBit k=(m.testBit k || l.any fun e=>Region.binds .any e && decide (k=e.on)):=by
  induction l generalizing m with
  | nil=>simp
  | cons e l ih =>
    rw[List.foldl_cons,ih,List.any_cons];by_cases hb:Region.binds .any e=true
    · rw[if_pos hb,Jdm,hb];simp[Bool.or_assoc]
    · rw[if_neg hb];simp[hb]
theorem JaO (o:Oper) (k:Nat):(needOf o).testBit k=true↔∃e∈o.after,Region.binds .any e=true∧e.on=k:=by
 unfold needOf;rw[needFold];simp only[Nat.zero_testBit,Bool.false_or,List.any_eq_true,Bool.and_eq_true,decide_eq_true_eq,Array.mem_toList_iff];exact⟨fun ⟨e,h1,h2,h3⟩=>⟨e,h1,h2,h3.symm⟩,fun ⟨e,h1,h2,h3⟩=>⟨e,h1,h2,h3.symm⟩⟩
def subM (a b:Nat):Bool:=Nat.beq (Nat.land a b) a
theorem JdR {a b:Nat}:subM a b=true↔∀k,a.testBit k=true→b.testBit k=true:=by
 unfold subM;constructor
 ·intro h k hk;have h:=Nat.eq_of_beq_eq_true h
  have h2:(a &&& b).testBit k=true:=by
   show (Nat.land a b).testBit k=true
   rw[h];exact hk
  rw[Nat.testBit_and] at h2;simp only[Bool.and_eq_true] at h2;exact h2.2
 ·intro h
  have:Nat.land a b=a:=by
   apply Nat.eq_of_testBit_eq;intro k
   show (a &&& b).testBit k=_
   rw[Nat.testBit_and]
   cases hk:a.testBit k with
   | false=>rfl
   | true=>simp[h k hk]
  rw[this];exact Nat.beq_refl a
def onlyM (M i:Nat):Nat→List Nat→Bool
 | _,[]=>true
 | j,N::Ns=>(Nat.beq j i || M.testBit j || !subM N M) && onlyM M i (j+1) Ns
def freeM (L:List Oper) (oi:Oper) (M i:Nat):Nat→List Oper→List Nat→Bool
 | _,[],_=>true
 | j,o::os,Ns=>(Nat.beq j i || M.testBit j || (match Ns with | N::_=>N.testBit i | []=>false) || oi.apart L.toArray o) && freeM L oi M i (j+1) os Ns.tail
def nthN:List Nat→Nat→Option Nat
 | [],_=>none
 | o::l,i=>bif Nat.beq i 0 then some o else nthN l (i-1)
theorem JdK:∀(l:List Nat) (i:Nat),nthN l i=l[i]?
  | [],i=>by simp[nthN]
  | o::l,0=>by simp[nthN]
  | o :: l, i + 1 => by
    show (bif Nat.beq (i+1) 0 then some o else nthN l i)=_
    rw[show Nat.beq (i+1) 0=false from rfl,JdK l i]
    simp
def scrF (L:List Oper) (Ns:List Nat) (dep:Nat) (s0:List (Nat×Md)):List (Nat×Md)→List Nat→Nat→Bool
  | [],_,M=>Nat.beq M (2 ^ L.length-1)
  | (i, m) :: s, Ms, M => match nth L i, nthN Ns i, Ms with
    | some o,some N,M'::Ms=>Nat.beq (Nat.lor M (Nat.shiftLeft 1 i)) M' && !M.testBit i && subM N M && (match m with
        | .pure=>freeM L o M i 0 L Ns
        | .stable=>freeM L o M i 0 L Ns && s0.all (fun p=>(match p.2 with | .last=>Nat.beq p.1 i || anc L.toArray dep p.1 i | _=>true))
        | .loud=>onlyM M i 0 Ns
        | .last=>onlyM M i 0 Ns && exOf s0 i) && scrF L Ns dep s0 s Ms M'
    | _,_,_=>false
def needsOk:List Oper→List Nat→Bool
 | [],[]=>true
 | o::os,N::Ns=>Nat.beq (needOf o) N && needsOk os Ns
 | _,_=>false
def scrOkF (L:List Oper) (Ns Ms:List Nat) (dep:Nat) (s:List (Nat×Md)):Bool:=
 Region.noSelect L.toArray && Nat.beq s.length L.length && needsOk L Ns && scrF L Ns dep s s Ms 0
theorem J9W:∀{L:List Oper} {Ns:List Nat},needsOk L Ns=true→Ns.length=L.length∧∀(j:Nat) (o:Oper),L[j]?=some o→Ns[j]?=some (needOf o)
  | [],[],_=>⟨rfl,fun j o h=>by simp at h⟩
  | o :: os, N :: Ns, h => by
    simp only[needsOk,Bool.and_eq_true] at h
    obtain⟨h1,h2⟩:=J9W h.2
    refine⟨by simp[h1],fun j o' hj=>?_⟩
    cases j with
    | zero =>
      simp only[List.getElem?_cons_zero,Option.some.injEq] at hj ⊢
      subst hj
      exact(Nat.eq_of_beq_eq_true h.1).symm
    | succ j=>simpa using h2 j o' (by simpa using hj)
structure LM (n:Nat) (listed:Array Bool) (M:Nat):Prop where
 sz:listed.size=n
 eq:∀j,listed.getD j false=M.testBit j
theorem LM.start (n:Nat):LM n (Array.replicate n false) 0:=by
 refine⟨by simp,fun j=>?_⟩;rw[Nat.zero_testBit];by_cases hj:j<n<;>simp[Array.getD_eq_getD_getElem?,Array.getElem?_replicate,hj]
theorem LM.next {n:Nat} {listed:Array Bool} {M i:Nat} (h:LM n listed M) (hi:i<n):LM n (listed.setIfInBounds i true) (Nat.lor M (Nat.shiftLeft 1 i)):=by
 refine⟨by simpa using h.sz,fun j=>?_⟩;rw[Jdm,←h.eq j];have hs:=h.sz;by_cases hji:j=i
 ·subst hji;simp[Array.getD_eq_getD_getElem?,Array.getElem?_setIfInBounds,hs,hi]
 ·simp[Array.getD_eq_getD_getElem?,Array.getElem?_setIfInBounds,hji,Ne.symm hji]
theorem LM.getT {n:Nat} {listed:Array Bool} {M j:Nat} (h:LM n listed M) (hj:j<n):listed.getD j true=M.testBit j:=by
 rw[←h.eq j];have hs:=h.sz;simp[Array.getD_eq_getD_getElem?,Array.getElem?_eq_getElem (show j<listed.size by omega)]
theorem Jat {M i:Nat}:∀{Ns:List Nat} {b:Nat},onlyM M i b Ns=true→∀(j N:Nat),Ns[j]?=some N→b+j=i∨M.testBit (b+j)=true∨subM N M=false
  | [],_,_,j,N,h=>by simp at h
  | N0 :: Ns, b, h, j, N, hj => by
    simp only[onlyM,Bool.and_eq_true,Bool.or_eq_true,Bool.not_eq_true'] at h
    cases j with
    | zero =>
      simp only[List.getElem?_cons_zero,Option.some.injEq] at hj
      subst hj
      rcases h.1 with (h1 | h1) | h1
      · exact .inl (Nat.eq_of_beq_eq_true h1)
      · exact .inr (.inl h1)
      · exact .inr (.inr h1)
    | succ j =>
      have:=Jat h.2 j N (by simpa using hj)
      rwa [show b+1+j=b+(j+1) from by omega] at this
theorem Jak {L:List Oper} {oi:Oper} {M i:Nat}:∀{os:List Oper} {Ns:List Nat} {b:Nat},freeM L oi M i b os Ns=true→∀(j:Nat) (o:Oper),os[j]?=some o→b+j=i∨M.testBit (b+j)=true∨(∃N,Ns[j]?=some N∧N.testBit i=true)∨oi.apart L.toArray o=true
  | [],_,_,_,j,o,h=>by simp at h
  | o0 :: os, Ns, b, h, j, o, hj => by
    simp only[freeM,Bool.and_eq_true,Bool.or_eq_true] at h
    cases j with
    | zero =>
      simp only[List.getElem?_cons_zero,Option.some.injEq] at hj
      subst hj
      rcases h.1 with ((h1 | h1) | h1) | h1
      · exact .inl (Nat.eq_of_beq_eq_true h1)
      · exact .inr (.inl h1)
      · cases Ns with
        | nil=>simp at h1
        | cons N Ns=>exact .inr (.inr (.inl ⟨N,rfl,h1⟩))
      · exact .inr (.inr (.inr h1))
    | succ j =>
      have:=Jak h.2 j o (by simpa using hj)
      rw[show b+1+j=b+(j+1) from by omega] at this
      rcases this with h1 | h1 | ⟨N,h1,h2⟩ | h1
      · exact .inl h1
      · exact .inr (.inl h1)
      · refine .inr (.inr (.inl ⟨N,?_,h2⟩))
        cases Ns with
        | nil=>simp at h1
        | cons _ _=>simpa using h1
      · exact .inr (.inr (.inr h1))
theorem Jdt {l:List Nat} {i:Nat} (hn:l.Nodup) (hi:i∈l) (h:∀j∈l,j=i):l=[i]:=by
  match l,hn,hi,h with
  | [a],_,_,h=>rw[h a (by simp)]
  | a :: b :: t, hn, _, h =>
    have h1:=h a (by simp);have h2:=h b (by simp);subst h1;subst h2;simp at hn
section
variable {L:List Oper} {Ns:List Nat} {listed:Array Bool} {M i:Nat}
theorem readyF (hN:∀(j:Nat) (o:Oper),L[j]?=some o→Ns[j]?=some (needOf o)) (h:LM L.length listed M) {o:Oper} (ho:L[i]?=some o):i∈Region.ready .any L.toArray listed↔M.testBit i=false∧subM (needOf o) M=true:=by
 have hi:i<L.length:=(List.getElem?_eq_some_iff.1 ho).1;rw[mem_ready,h.getT hi,JdR];constructor
 ·rintro⟨h1,o',ho',h2⟩;simp only[List.getElem?_toArray] at ho';rw[ho] at ho'
  cases ho'
  refine⟨h1,fun k hk=>?_⟩;obtain⟨e,he,hb,rfl⟩:=(JaO o k).1 hk;rw[←h.eq];exact h2 e he hb
 ·rintro⟨h1,h2⟩;exact⟨h1,o,by simpa using ho,fun e he hb=>by rw[h.eq];exact h2 _ ((JaO o _).2 ⟨e,he,hb,rfl⟩)⟩
theorem loneF (hl:Ns.length=L.length) (hN:∀(j:Nat) (o:Oper),L[j]?=some o→Ns[j]?=some (needOf o)) (h:LM L.length listed M) {o:Oper} (ho:L[i]?=some o) (h1:M.testBit i=false) (h2:subM (needOf o) M=true) (h3:onlyM M i 0 Ns=true) :
  Region.ready .any L.toArray listed=[i]:=by
 refine Jdt (List.nodup_range.filter _) ((readyF hN h ho).2 ⟨h1,h2⟩) fun j hj=>?_;obtain⟨_,o',ho',_⟩:=mem_ready.1 hj;simp only[List.getElem?_toArray] at ho';have hr:=(readyF hN h ho').1 hj;have:=Jat h3 j _ (hN j o' ho');simp only[Nat.zero_add] at this
 rcases this with k | k | k
 ·exact k
 ·rw[hr.1] at k;simp at k
 ·rw[hr.2] at k;simp at k
theorem freeF (hN:∀(j:Nat) (o:Oper),L[j]?=some o→Ns[j]?=some (needOf o)) (h:LM L.length listed M) {o:Oper} (ho:L[i]?=some o) (hf:freeM L o M i 0 L Ns=true):Region.free .any L.toArray listed i=true:=by
 unfold Region.free;simp only[List.getElem?_toArray,ho,List.all_eq_true,List.mem_range,List.size_toArray];intro j hj;have hoj:L[j]?=some L[j]:=List.getElem?_eq_getElem hj;have:=Jak hf j L[j] hoj;simp only[Nat.zero_add] at this;simp only[hoj,Bool.or_eq_true,beq_iff_eq]
 rcases this with k | k | ⟨N,k1,k2⟩ | k
 ·exact .inl (.inl k)
 ·exact .inl (.inr (by rw[h.getT hj];exact k))
 ·rw[hN j _ hoj] at k1
  cases k1
  obtain⟨e,he,hb,hon⟩:=(JaO _ _).1 k2;exact .inr (.inl (Array.any_eq_true'.2 ⟨e,he,by simp[hb,hon]⟩))
 ·exact .inr (.inr k)
theorem JcY {dep:Nat} {s0:List (Nat×Md)} (hl:Ns.length=L.length) (hN:∀(j:Nat) (o:Oper),L[j]?=some o→Ns[j]?=some (needOf o)):∀(s:List (Nat×Md)) (Ms:List Nat) (M:Nat) (listed:Array Bool),LM L.length listed M →
    scrF L Ns dep s0 s Ms M=true→scr L.toArray dep s0 s listed=true
  | [], Ms, M, listed, h, hs => by
    simp only[scrF] at hs
    have hs:=Nat.eq_of_beq_eq_true hs
    simp only[scr,List.isEmpty_iff]
    apply List.eq_nil_iff_forall_not_mem.2
    intro j hj
    obtain⟨h1,o,ho,_⟩:=mem_ready.1 hj
    simp only[List.getElem?_toArray] at ho
    have hjl:j<L.length:=(List.getElem?_eq_some_iff.1 ho).1
    rw[h.getT hjl,hs,Nat.testBit_two_pow_sub_one] at h1
    simp[hjl] at h1
  | (i, m) :: s, Ms, M, listed, h, hs => by
    simp only[scrF] at hs
    split at hs
    · rename_i o N M' Ms' ho hNi
      simp only[Bool.and_eq_true,Bool.not_eq_true'] at hs
      obtain⟨⟨⟨⟨h1,h2⟩,h3⟩,h4⟩,h5⟩:=hs
      have hoL:L[i]?=some o:=by rw[←ho,J3i]
      have hil:i<L.length:=(List.getElem?_eq_some_iff.1 hoL).1
      have hNL:Ns[i]?=some N:=by rw[←hNi,JdK]
      rw[hN i o hoL] at hNL
      cases hNL
      have hM':=Nat.eq_of_beq_eq_true h1
      have hrec:=JcY hl hN s Ms' M' (listed.setIfInBounds i true) (hM'▸h.next hil) h5
      have hrd:(Region.ready .any L.toArray listed).contains i=true:=by
        simpa using (readyF hN h hoL).2 ⟨h2,h3⟩
      simp only[scr,Bool.and_eq_true];refine⟨?_,hrec⟩
      cases m with
      | pure=>exact(Bool.and_eq_true _ _).mpr ⟨hrd,freeF hN h hoL h4⟩
      | stable =>
        simp only[Bool.and_eq_true] at h4 ⊢;exact⟨⟨hrd,freeF hN h hoL h4.1⟩,h4.2⟩
      | loud=>simp only[beq_iff_eq];exact loneF hl hN h hoL h2 h3 h4
      | last =>
        simp only[Bool.and_eq_true] at h4 ⊢;exact⟨by simp only[beq_iff_eq];exact loneF hl hN h hoL h2 h3 h4.1,h4.2⟩
    · simp at hs
theorem Jd6 {dep:Nat} {Ms:List Nat} {s:List (Nat×Md)} (h:scrOkF L Ns Ms dep s=true):scrOk L dep s=true:=by
 simp only[scrOkF,scrOk,Bool.and_eq_true] at h ⊢;obtain⟨⟨⟨h1,h2⟩,h3⟩,h4⟩:=h;obtain⟨hl,hN⟩:=J9W h3;exact⟨⟨h1,h2⟩,JcY hl hN s Ms 0 _ (LM.start L.length) h4⟩
end
theorem Go1.drawSF {P:Program} {f n:Nat} {L:List Oper} {k:List Item} {σ:Nat→Value} {w:World} {R:Value→World→Prop} {i:Nat} (Ns Ms:List Nat) (dep:Nat) (s:List (Nat×Md))
  (hm:P.follows .mixedOrders=true) (hB:scrOkF L Ns Ms dep s=true) (h:∀w1,Same w w1→GoQ P f n L s k R s σ w1) :
  Go1 P f n (.code (.region i L.toArray true)::k) σ w R:=Go1.drawS dep s hm (Jd6 hB) h
open Go
variable {P:Program} {f n:Nat} {L l:List Oper} {k:List Item} {σ:Nat→Value} {w:World} {R:Value→World→Prop}
theorem zo {d:Option Nat} {op:Op} {ty:TypeId} {pos:String} {aft:Array Edge} {g:Option (Nat×Bool)} {v:Value}
  (hv:∀w,OpV P op ty σ w v w) (h:GoR P f n L l k (putS σ d v) w R) (hg:gd L σ g=true:=by exact rfl) (hd:dOk n d=true:=by exact rfl) :
  GoR P f n L (⟨d,op,ty,pos,aft,g⟩::l) k σ w R:=GoR.op (hv w) hg hd h
theorem zs {d:Option Nat} {op:Op} {ty:TypeId} {pos:String} {aft:Array Edge} {g:Option (Nat×Bool)} {v:Value}
  (hv:∀w',Same w w'→OpV P op ty σ w' v w') (h:GoR P f n L l k (putS σ d v) w R) (hg:gd L σ g=true:=by exact rfl) (hd:dOk n d=true:=by exact rfl) :
  GoR P f n L (⟨d,op,ty,pos,aft,g⟩::l) k σ w R:=GoR.op (hv w (Same.refl w)) hg hd h
theorem zg {d:Option Nat} {op:Op} {ty:TypeId} {pos:String} {aft:Array Edge} {g:Option (Nat×Bool)} {v:Value} {w':World}
  (hv:OpV P op ty σ w v w') (h:GoR P f n L l k (putS σ d v) w' R) (hg:gd L σ g=true:=by exact rfl) (hd:dOk n d=true:=by exact rfl) :
  GoR P f n L (⟨d,op,ty,pos,aft,g⟩::l) k σ w R:=GoR.op hv hg hd h
theorem zm {d:Option Nat} {x:Operand} {ty:TypeId} {pos:String} {aft:Array Edge} {g:Option (Nat×Bool)} {v:Value}
  (hv:ev σ x=v) (h:GoR P f n L l k (putS σ d v) w R) (hg:gd L σ g=true:=by exact rfl) (hd:dOk n d=true:=by exact rfl) :
  GoR P f n L (⟨d,.move x,ty,pos,aft,g⟩::l) k σ w R:=GoR.op (J0v hv w) hg hd h
theorem za {d:Option Nat} {x:Operand} {ty:TypeId} {pos:String} {aft:Array Edge} {g:Option (Nat×Bool)} {v:Value}
  (hv:ev σ x=v) (h:GoR P f n L l k (putS σ d v) w R) (hg:gd L σ g=true:=by exact rfl) (hd:dOk n d=true:=by exact rfl) :
  GoR P f n L (⟨d,.assign x,ty,pos,aft,g⟩::l) k σ w R:=GoR.op (Jbo hv w) hg hd h
theorem zp {d:Option Nat} {op:Op} {ty:TypeId} {pos:String} {aft:Array Edge} {g:Option (Nat×Bool)}
  (h:GoR P f n L l k (putS σ d undef) w R) (hg:gd L σ g=false:=by exact rfl) (hd:dOk n d=true:=by exact rfl) :
  GoR P f n L (⟨d,op,ty,pos,aft,g⟩::l) k σ w R:=GoR.pass hg hd h
theorem zn (h:Go1 P f n k σ w R):GoR P f n L [] k σ w R:=GoR.nil h
theorem zq {x y:Code} (h:Go1 P f n (.code x::.code y::k) σ w R):Go1 P f n (.code (.seq x y)::k) σ w R:=Go1.seq h
theorem zr {i:Nat} (h:GoR P f n L L k σ w R):Go1 P f n (.code (.region i L.toArray false)::k) σ w R:=Go1.region h
theorem zk (h:Go1 P f n k σ w R):Go1 P f n (.code .skip::k) σ w R:=Go1.skip h
theorem zb {i:Nat} {c:Code} (h:Go1 P f n (.code c::.inBlock i::k) σ w R):Go1 P f n (.code (.block i c)::k) σ w R:=Go1.block h
theorem zt {c:Operand} {x y:Code} {t:Bool} (hc:ev σ c=.bool t) (ht:t=true) (h:Go1 P f n (.code x::k) σ w R) :
  Go1 P f n (.code (.cond c x y)::k) σ w R:=Go1.condT hc ht h
theorem zf {c:Operand} {x y:Code} {t:Bool} (hc:ev σ c=.bool t) (ht:t=false) (h:Go1 P f n (.code y::k) σ w R) :
  Go1 P f n (.code (.cond c x y)::k) σ w R:=Go1.condF hc ht h
section
variable {s0 s:List (Nat×Md)} {i:Nat} {d:Option Nat} {op:Op} {ty:TypeId} {pos:String} {aft:Array Edge} {g:Option (Nat×Bool)} {v:Value}
end
section
open Go.RowKit
variable {t t' e:TypeId} {A:List Nat} {E:List Ent} {n0:Nat}
end
open Go Go.RowKit
def icells (q:IntKind) (l:List Int):List Value:=l.map (Value.int q)
theorem Jap {q:IntKind} {l:List Int} {i:Nat} (h:i<l.length):(icells q l).toArray[i]?=some (.int q (ix l (i:Int))):=by
 simp[icells,List.getElem?_eq_getElem h,ix_lt h]
theorem J7Z {P:Program} {e:TypeId} {q:IntKind} (he:P.underlying e=some (.int q)) {l:List Int} {i:Nat} (h:i<l.length) (w:World):(part e (icells q l).toArray i).run P w=.ok (.int q (ix l (i:Int))) w:=
 J7e he rfl (Jap h) w
theorem J9f {P:Program} {e:TypeId} {q:IntKind} (he:P.underlying e=some (.int q)) (hc:P.cellsOf e=1) {l m:List Int} (hl:l.length=m.length) (w:World):∀is:List Nat,(∀i∈is,i<l.length) →
    (Op.eqItems 9999 e 1 (icells q l).toArray (icells q m).toArray is).run P w=.ok (decide (∀i∈is,ix l (i:Int)=ix m (i:Int))) w
  | [],_=>by simp[Op.eqItems]
  | i :: is, h => by
    have e1:∀(x y:Int) (w:World),(Op.equalIn 9999 e (.int q x) (.int q y)).run P w=.ok (x == y) w:=fun x y w=>run_equalIn_int w 9998 e q q x y he
    have hi:=h i (by simp)
    simp only[Op.eqItems,Sem.run_bind,Nat.mul_one,J7Z he hi,J7Z he (show i<m.length by omega),Result.andThen_ok,e1]
    by_cases hx:ix l (i:Int)=ix m (i:Int)
    · simp only[hx,beq_self_eq_true,Bool.not_true,Bool.false_eq_true,if_false]
      rw[J9f he hc hl w is fun j hj=>h j (List.mem_cons_of_mem _ hj)]
      congr 1
      simp[hx]
    · simp[hx]
theorem Jf1 {P:Program} {k e:TypeId} {q:IntKind} {n:Nat} {z:Option Value} {bb:Nat} (hk:P.underlying k=some (.array n e)) (he:P.underlying e=some (.int q)) (hi:ti P e=some (z,1,bb)) (a b:AN n) (w:World) :
  (Op.equal k (.agg (icells q a.1).toArray) (.agg (icells q b.1).toArray)).run P w=.ok (decide (a=b)) w:=by
 obtain⟨i,hi1,hs⟩:∃i,P.info? e=some i∧i.size=1:=by
  unfold ti at hi
  cases h:P.info? e with
  | none=>simp[h] at hi
  | some i=>simp[h] at hi;exact⟨i,rfl,hi.2.1⟩
 have hc:P.cellsOf e=1:=by simp[Program.cellsOf,hi1,hs]
 have:(Op.equal k (.agg (icells q a.1).toArray) (.agg (icells q b.1).toArray))=Op.equalIn (9999+1) k (.agg (icells q a.1).toArray) (.agg (icells q b.1).toArray):=rfl;rw[this,run_equalIn_array w 9999 _ _ hk hi1,hc,J9f he hc (a.2.trans b.2.symm) w _ fun i hi=>by rw[a.2];simpa using hi]
 congr 1
 apply decide_eq_decide.2;constructor
 ·intro h;refine Subtype.ext (J09 (a.2.trans b.2.symm) fun j hj=>h j ?_);rw[a.2] at hj;simpa using hj
 ·rintro rfl _ _
  rfl
theorem MK.arrN {P:Program} {k e:TypeId} {q:IntKind} {n:Nat} {z:Option Value} {bb:Nat} (hk:P.underlying k=some (.array n e)) (he:P.underlying e=some (.int q)) (hi:ti P e=some (z,1,bb)):MK P k (fun a:AN n=>Value.agg (icells q a.1).toArray) where
  chk em a w:=by
    have hsz:∀w,(Go.sizeOf e).run P w=.ok 1 w:=fun w=>run_sizeOf hi w;have c:∀(x:Int) (w:World),(Instr.checkKey em 9999 e (.int q x)).run P w=.ok () w:=fun x w=>Go.MapKept.run_checkKey (d:=.int q) (k:=Value.int q x) he (show q=q from rfl) em 9998;unfold Instr.checkKey;simp only[Sem.run_bind,run_underlying hk,Result.andThen_ok]
    have key:∀is:List Nat,(∀i∈is,i<n)→((forIn is PUnit.unit fun i (_:PUnit)=>do
        Instr.checkKey em 9999 e (←part e (icells q a.1).toArray (i*(←Go.sizeOf e)))
        pure (ForInStep.yield PUnit.unit):Sem PUnit)).run P w=.ok PUnit.unit w:=by
      intro is
      induction is with
      | nil=>intro _;simp
      | cons i is ih =>
        intro h;have hi:=h i (by simp);simp only[List.forIn_cons,Sem.run_bind,hsz,Result.andThen_ok,Nat.mul_one,J7Z he (show i<a.1.length by rw[a.2];exact hi),c,Sem.run_pure];exact ih fun j hj=>h j (List.mem_cons_of_mem _ hj)
    simp only[Std.Legacy.Range.forIn_eq_forIn_range',Std.Legacy.Range.size,Nat.sub_zero,Nat.add_one_sub_one,Nat.div_one]
    have:=key (List.range' 0 n) fun i hi=>by simpa using hi
    simp[Sem.run_bind,Result.andThen] at this ⊢;rw[this]
  fnd es D a w h:=by
    unfold Instr.findKey;simp only[Sem.run_bind,run_underlying hk,Result.andThen_ok]
    cases es with
    | nil =>
      cases D with
      | nil=>simp[Instr.findNow,fidx]
      | cons _ _=>simp at h
    | cons e0 es =>
      have hn:Instr.findNow (.array n e) (.agg (icells q a.1).toArray) (e0::es) 0=none:=by
        simp[Instr.findNow,Instr.sameNow]
      rw[hn];refine(J6c (kv:=fun a:AN n=>Value.agg (icells q a.1).toArray) (fun a b w=>Jf1 hk he hi a b w) (e0::es) D a 0 w h).trans ?_;simp only[Nat.zero_add]
  sam a:=by
    have h:∀l:List Int,∀x y:Value,(x,y)∈(icells q l).zip (icells q l)→Instr.sameBits 9999 x y=true:=by
      intro l
      induction l with
      | nil=>intro x y h;simp[icells] at h
      | cons b l ih =>
        intro x y h;simp only[icells,List.map_cons,List.zip_cons_cons,List.mem_cons,Prod.mk.injEq] at h
        rcases h with ⟨rfl,rfl⟩ | h
        · simp[Instr.sameBits]
        · exact ih x y h
    simpa [Instr.sameBits] using h a.1
section
variable {P:Program} {σ:Nat→Value} {w:World} {t ty e T:TypeId} {x y:Operand} {A:List Nat} {E:List Ent} {n0 B:Nat} {q:IntKind} {L:List Int}
theorem JbZ {n:Nat} {k:IntKind} {i:Int} {zz:Option Value} {bb:Nat} (ht:P.underlying t=some (.array n e)) (he:ti P e=some (zz,1,bb)) (hx:ev σ x=.pointer (some ⟨B,0,none⟩)) (hy:ev σ y=.int k i)
  (h0:0≤i) (h1:i<n) (w:World):OpV P (.indexAddr t x y) ty σ w (.pointer (some ⟨B,i.toNat,none⟩)) w:=.inl (by
 have hs:=fun w=>run_sizeOf he w
 simp[execOp,opr,hx,hy,Instr.indexAt,Instr.sureAddr,run_underlying ht,asIntOf,h0,h1,hs,Addr.add_lit])
theorem Jdj {i:Int} {v:Int} (h0:0≤i):(icells q L).toArray.setIfInBounds i.toNat (.int q v)=(icells q (st L i v)).toArray:=by
 apply Array.ext';simp[icells,st]
theorem oarrSt (j:Nat) (hO:Owns n0 w E A) (hj:E[j]?=some (.blk B (.cells (icells q L).toArray T (0,0)))) {i v:Int} (h0:0≤i) (h1:i<L.length) :
  ∃w',Stp n0 A w E w' (E.set j (.blk B (.cells (icells q (st L i v)).toArray T (0,0))))∧∀{P:Program} {σ:Nat→Value} {t ty:TypeId} {x y:Operand} {d:TypeDesc} {zz:Option Value} {bb:Nat},P.underlying t=some d→scB d=true→ti P t=some (zz,1,bb) →
   ev σ x=.pointer (some ⟨B,i.toNat,none⟩)→ev σ y=.int q v→OpV P (.store t x y) ty σ w undef w':=by
 obtain⟨w',h1,h2⟩:=J9S (i:=i.toNat) (v:=.int q v) j hO hj (u:=.int q (ix L i)) (by
  obtain⟨k,rfl⟩:=Int.eq_ofNat_of_zero_le h0
  exact Jap (by omega)) rfl (Jdj h0)
 exact⟨w',h1,h2⟩
theorem arrLt {n:Nat} {i:Int} (hL:L.length=n) (h:i<(n:Int)):i<(L.length:Int):=by rw[hL];exact h
theorem oarrStA {M:List Int} (j:Nat) (hO:Owns n0 w E A) (hj:E[j]?=some (.blk B (.cells (icells q L).toArray T (0,0)))) (hl:L.length=M.length) :
  ∃w',Stp n0 A w E w' (E.set j (.blk B (.cells (icells q M).toArray T (0,0))))∧∀{P:Program} {σ:Nat→Value} {t ty:TypeId} {x y:Operand} {zz:Option Value} {bb:Nat},ti P t=some (zz,M.length,bb) →
   ev σ x=.pointer (some ⟨B,0,none⟩)→ev σ y=.agg (icells q M).toArray→OpV P (.store t x y) ty σ w undef w':=by
 obtain⟨w',h1,h2⟩:=Jbj (us:=icells q M) (o:=0) (cs':=(icells q M).toArray) j hO hj (by simp[icells,Value.oneCell']) (by simp[icells,hl]) (by simp[icells,hl]);exact⟨w',h1,fun he hx hy=>h2 (by simpa [icells] using he) hx hy (by simp[Value.cells])⟩
theorem oarrLd {n:Nat} (j:Nat) (hO:Owns n0 w E A) (hj:E[j]?=some (.blk B (.cells (icells q L).toArray T (0,0)))) (hL:L.length=n) {d:TypeDesc} (ht:P.underlying t=some d) (hd:scB d=false)
  {zz:Option Value} {bb:Nat} (he:ti P t=some (zz,n,bb)) (hx:ev σ x=.pointer (some ⟨B,0,none⟩)) (w':World) (hw:Same w w'):OpV P (.load t x) ty σ w' (.agg (icells q (toAN n L).1).toArray) w':=by
 rw[JaY hL];exact J0K (vs:=icells q L) (i:=0) j hO hj (by simp) ht hd (by simpa [icells,hL] using he) hx w' hw
end
section
variable {P:Program} {σ:Nat→Value} {w:World} {t t' ty k e:TypeId} {x y:Operand}
theorem olookN {κ:Type} [DecidableEq κ] {kv:κ→Value} (K:MK P k kv) (ht:P.underlying t=some (.map k e)) {zv:Value} {b s:Nat} (he:ti P e=some (some zv,s,b)) {a:κ} (hx:ev σ x=.map none) (hy:ev σ y=kv a) (w:World) :
  OpV P (.lookup t x y true) ty σ w (.tuple #[zv,.bool false]) w:=.inl (by
 have hf:=K.fnd [] [] a w rfl
 have hz:(zeroValue e).run P w=.ok zv w:=by
  obtain⟨i,hi,hz,_⟩:=J4h he;simp[zeroValue,typeInfo,hi,hz]
 simp[fidx] at hf
 simp[execOp,opr,hx,hy,Instr.lookup,run_underlying ht,K.chk,hf,hz,Result.andThen])
theorem Jb9 {p:Option Nat} (ht:P.underlying t=some (.map k e)) (hx:ev σ x=.map p) (hy:ev σ y=.map none) (w:World):OpV P (.binOp .eql t x y t') ty σ w (.bool p.isNone) w:=.inl (by
 have h:binOp .eql t (.map p) (.map none)=(do pure (.bool (←Op.equal t (.map p) (.map none)))):=rfl
 simp only[execOp,opr,hx,hy,eqGuard_at_map,h,Sem.run_bind,Sem.run_pure,Result.andThen_ok,run_equal_map_nil w t k e p ht])
end
open Go Go.RowKit
section
variable {P:Program} {σ:Nat→Value} {w:World} {t ty e:TypeId} {x y:Operand} {A:List Nat} {E:List Ent} {n0:Nat}
variable {α:Type} {r:Rp α}
theorem Jcg {f:Nat→Option Value} {n:Nat} (h:∀i,i<n→∃v,f i=some v):∃cs:List Value,cs.length=n∧∀i,i<n→f i=cs[i]?:=by
  induction n with
  | zero=>exact⟨[],rfl,fun i hi=>by omega⟩
  | succ n ih =>
    obtain⟨cs,h1,h2⟩:=ih fun i hi=>h i (by omega);obtain⟨v,hv⟩:=h n (by omega);refine⟨cs++[v],by simp[h1],fun i hi=>?_⟩;by_cases hn:i<n
    · rw[h2 i hn,List.getElem?_append_left (by omega)]
    · obtain rfl:i=n:=by omega
      rw[hv,List.getElem?_append_right (by omega),h1];simp
theorem ldAggR [Inhabited α] {p:Option Addr} {c:Nat} {xs:List α} (hs:ISl r A w p c xs) {i:Int} (h0:0≤i) (h1:i<xs.length) :
  ∃cs:List Value,cs.length=r.sz∧r.R A w (fun j=>cs[j]?) (ix xs i)∧∀{P:Program} {σ:Nat→Value} {t ty:TypeId} {x:Operand} {d:TypeDesc} {zz:Option Value} {bb:Nat},P.underlying t=some d→scB d=false→ti P t=some (zz,r.sz,bb)→ev σ x=.pointer (padd p (i.toNat*r.sz)) →
   ∀w',Same w w'→OpV P (.load t x) ty σ w' (.agg cs.toArray) w':=by
 obtain⟨a,ha,hsp,hb,_,hR⟩:=hs.elem h0 h1;obtain⟨cs,hl,hc⟩:=Jcg (f:=cel w a) (n:=r.sz) fun j hj=>let ⟨v,hv,_⟩:=r.one hR j hj;⟨v,hv⟩;refine⟨cs,hl,r.ext (fun j hj=>(hc j hj).symm) hR,fun ht hd he hx w' hw=>?_⟩;rw[ha] at hx;refine J7q ht hd (by rw[hl];exact he) hx fun m hm=>?_;have h2:=hc m (by omega);rw[List.getElem?_eq_getElem hm] at h2;rw[add_lit' a hsp];have:=J9D hw hb (a:=a) m;simp only[cel] at this h2;rw[this,h2]
theorem oldAggR [Inhabited α] {p:Option Addr} {n c:Nat} {vs:List Value} {xs:List α} (j:Nat) (hO:Owns n0 w E A) (hj:E[j]?=some (.row e r.sz p n c vs)) (hE:Els r (bl E++A) w vs xs) {i:Int} (h0:0≤i) (h1:i<xs.length) :
  ∃cs:List Value,cs.length=r.sz∧r.R (bl E++A) w (fun j=>cs[j]?) (ix xs i)∧∀{P:Program} {σ:Nat→Value} {t ty:TypeId} {x:Operand} {d:TypeDesc} {zz:Option Value} {bb:Nat},P.underlying t=some d→scB d=false→ti P t=some (zz,r.sz,bb)→ev σ x=.pointer (padd p (i.toNat*r.sz)) →
   ∀w',Same w w'→OpV P (.load t x) ty σ w' (.agg cs.toArray) w':=by
 have hh:=hO.at_ _ (List.mem_of_getElem? hj);obtain⟨hl,hR⟩:=hE.val h0 h1;have hlen:vs.length=xs.length*r.sz:=hE.len
 have hsz:∀m,m<r.sz→i.toNat*r.sz+m<vs.length:=fun m hm=>by
  rw[hlen];have h3:(i.toNat+1)*r.sz≤xs.length*r.sz:=Nat.mul_le_mul_right r.sz (by omega);rw[Nat.add_mul,Nat.one_mul] at h3;omega
 obtain⟨cs,hcl,hc⟩:=Jcg (f:=fun m=>vs[i.toNat*r.sz+m]?) (n:=r.sz) fun m hm=>⟨_,List.getElem?_eq_getElem (hsz m hm)⟩;refine⟨cs,hcl,r.ext (fun m hm=>(hc m hm).symm) hR,fun ht hd he hx w' hw=>?_⟩;obtain⟨g,cur,rfl,hg,_,_,_,_,_,_⟩:=J2o hh hl;simp only[padd,Option.map_some,Addr.add_lit,Nat.zero_add] at hx;refine J7q ht hd (by rw[hcl];exact he) hx fun m hm=>?_
 have hm':m<r.sz:=by omega
 obtain⟨g',cur',hp,hg',_,_,_,_,_,hcc⟩:=J2o hh (hsz m hm')
 cases hp
 have h2:=hc m hm';rw[List.getElem?_eq_getElem hm] at h2;rw[Addr.add_lit,World.cell?_of_block (w:=w) (hw.block g (Array.getElem?_eq_some_iff.1 hg).1),hcc];rw[←h2];exact(List.getElem?_eq_getElem (hsz m hm')).symm
theorem Els.consR {u:α} {us vs:List Value} {xs:List α} (hl:us.length=r.sz) (hR:r.R A w (fun j=>us[j]?) u) (h:Els r A w vs xs) (hb:xs.length+1≤mx):Els r A w (us++vs) (u::xs):=by
  refine⟨by simp[h.len,hl,Nat.add_mul,Nat.add_comm],by simpa using hb,fun k hk=>?_⟩
  cases k with
  | zero=>exact r.ext (fun i hi=>by simp only[Nat.zero_mul,Nat.zero_add];rw[List.getElem?_append_left (by omega)]) hR
  | succ k =>
    refine r.ext (fun i hi=>?_) (h.at_ k (by simpa using hk))
    show (us++vs)[(k+1)*r.sz+i]?=vs[k*r.sz+i]?
    rw[List.getElem?_append_right (by rw[hl,Nat.add_mul];omega),hl,Nat.add_mul]
    congr 1
    omega
theorem cells3 {cs:List Value} (h:cs.length=3):∃a b c,cs=[a,b,c]:=by
 match cs,h with
 | [a,b,c],_=>exact⟨a,b,c,rfl⟩
end
open Go Go.RowKit
section
variable {P:Program} {σ:Nat→Value} {w:World} {t t' ty e e1 e2 e3:TypeId} {x y z:Operand} {A:List Nat} {E R:List Ent} {n0 n i m:Nat} {G G':Nat→Ent}
end
section
variable {P:Program} {σ:Nat→Value} {w:World} {t t' ty e e1 e2:TypeId} {x y z:Operand} {A:List Nat} {E R:List Ent} {n0:Nat}
variable {α:Type} {r:Rp α} {hf:Fl r} {p:Option Addr} {n c:Nat} {ps:Hd} {hss:Nat→Hd} {xs:List (List (List α))}
structure T3F {α:Type} (vs:List Value) (ps:Hd) (xs:List (List (List α))):Prop where
 eq:vs=hcells ps xs
 bd:xs.length≤mx
variable {vs us:List Value}
theorem T3F.nil (ps:Hd):T3F (α:=α) (hcells ps ([]:List (List (List α)))) ps []:=⟨rfl,by simp[mx]⟩
theorem T3F.one (ps:Hd) (ys:List (List α)):T3F (hcells ps [ys]) ps [ys]:=⟨rfl,by simp[mx]⟩
end
open Go Go.RowKit
section
variable {P:Program} {σ:Nat→Value} {w:World} {t t' ty e:TypeId} {x y z:Operand} {A:List Nat} {E:List Ent} {n0:Nat}
theorem ocopy {α:Type} {r:Rp α} (hf:Fl r) (r1:r.sz=1) {zz:Option Value} {bb:Nat} (ht:P.underlying t=some (.slice e)) (he:ti P e=some (zz,1,bb))
    {p:Option Addr} {n c:Nat} {vs:List Value} {xs:List α} (j:Nat) (hO:Owns n0 w E A) (hj:E[j]?=some (.row e 1 p n c vs)) (hE:Els r (bl E++A) w vs xs)
    {p':Option Addr} {c':Nat} {ys:List α} (hS:ISl r (bl E++A) w p' c' ys) :
    ∃w' vs',Stp n0 A w E w' (E.set j (.row e 1 p n c vs'))∧Els r (bl (E.set j (.row e 1 p n c vs'))++A) w' vs' (ys.take xs.length++xs.drop ys.length) ∧
      ∀{σ:Nat→Value} {x y:Operand} {t2 ty:TypeId},ev σ x=.slice p n c→ev σ y=.slice p' ys.length c'→OpV P (.call { callee:=.builtin .copy,args:=#[x,y],argTypes:=#[t,t2] }) ty σ w (.int .i64 (min ys.length n:Nat)) w':=by
  have hh:=hO.at_ _ (List.mem_of_getElem? hj)
  have hn:n=xs.length:=by rw[←r1] at hj;exact hE.n_eq (r:=r) (hO.at_ _ (List.mem_of_getElem? hj))
  have hvl:=hE.len;rw[r1,Nat.mul_one] at hvl
  have hsz:(P.info? e).map (·.size)=some 1:=by
    unfold ti at he
    cases hq:P.info? e with
    | none=>rw[hq] at he;simp at he
    | some i=>rw[hq] at he;simp at he;simp[he.2.1]
  by_cases h0:min ys.length n=0
  · refine⟨w,vs,?_,?_,fun hx hy=>.inl ?_⟩
    · obtain⟨hjl,hje⟩:=(List.getElem?_eq_some_iff.1 hj);rw[←hje,List.set_getElem_self];exact Stp.same hO (Same.refl w)
    · obtain⟨hjl,hje⟩:=(List.getElem?_eq_some_iff.1 hj);rw[←hje,List.set_getElem_self]
      have:ys.take xs.length++xs.drop ys.length=xs:=by
        by_cases hy:ys.length=0
        · rw[List.eq_nil_of_length_eq_zero hy];simp
        · have:xs.length=0:=by omega
          rw[List.eq_nil_of_length_eq_zero this];simp
      rw[this];exact hE
    · have hrun:=fun ty t2=>run_copy_none (P:=P) w t t2 ty e p p' n c ys.length c' ht hsz h0;simp[execOp,opr,hx,hy,resolve,invoke,builtin,hrun,h0,goInt]
  · rcases hh.2 with ⟨hv,h2⟩ | ⟨g,cap,cur,hv,hb,hg,h1,h2,h3,h4⟩
    · omega
    · cases hv
      cases p' with
      | none=>have:=hS.nil rfl;have:=hS.cap;omega
      | some a =>
        obtain⟨us,hU,hcell,hone⟩:=hS.cells;have hul:=hU.len;rw[r1,Nat.mul_one] at hul;have hk:∃k,k=min ys.length n:=⟨_,rfl⟩;obtain⟨k,hk⟩:=hk;rw[Nat.mul_one] at h4
        have hcs:n≤cur.size:=by
          have:(cur.toList.take n).length=n:=by rw[h4];omega
          simp at this;omega
        have hl:(us.take k).length=k:=by simp;omega
        have hcur:(us.take k++cur.toList.drop k).take n=us.take k++vs.drop k:=by
          rw[List.take_append,hl,List.take_of_length_le (by rw[hl];omega),←h4,List.drop_take]
        have hrun:=fun ty t2=>run_copy_row (P:=P) w t t2 ty e g 0 n c a ys.length c' cur e (us.take k) ht hsz hg (by rw[hl,hk]) (fun q v hq=>hcell q v (by
          rw[List.getElem?_take] at hq
          split at hq
          · exact hq
          · cases hq)) (by rw[hl];omega) (fun v hv=>hone v (List.mem_of_mem_take hv))
        simp only[hl,List.take_zero,List.nil_append,Nat.zero_add] at hrun;refine⟨_,us.take k++vs.drop k,Stp.turn (w':=w.setRow g (us.take k++cur.toList.drop k).toArray) hO hj ⟨rfl,rfl,rfl⟩ (by rw[setRow_size];exact Nat.le_refl _) (fun b _ hnb=>setRow_other w g b _ (by simpa [Ent.fp] using hnb)) (by simp[Ent.fp]) (fun b hb=>.inl hb) ?_,?_,fun hx hy=>.inl ?_⟩
        · refine⟨by simp;omega,.inr ⟨g,c,_,rfl,hb,setRow_heap w g _ _ e _ hg,h1,h2,by simp;omega,by simpa using hcur⟩⟩
        · refine⟨by simp[r1];omega,by have:=hE.bd;simp;omega,fun q hq=>?_⟩;simp only[List.length_append,List.length_take,List.length_drop] at hq;by_cases hqk:q<k
          · rw[List.getElem_append_left (by simp;omega),List.getElem_take];refine r.ext (fun i hi=>?_) (hf (hU.at_ q (by omega)))
            obtain rfl:i=0:=by omega
            rw[r1,Nat.mul_one,Nat.add_zero,List.getElem?_append_left (by omega),List.getElem?_take,if_pos hqk]
          · rw[List.getElem_append_right (by simp;omega),List.getElem_drop];refine r.ext (fun i hi=>?_) (hf (hE.at_ (ys.length+(q-(ys.take xs.length).length)) (by simp;omega)))
            obtain rfl:i=0:=by omega
            rw[r1,Nat.mul_one,Nat.add_zero,Nat.mul_one,Nat.add_zero,List.getElem?_append_right (by omega),List.getElem?_drop,hl]
            congr 1
            simp;omega
        · simp[execOp,opr,hx,hy,resolve,invoke,builtin,hrun,goInt,←hk]
end
open Go Go.RowKit
def rE:Nat→Rp Expr
 | 0=>{ sz:=3,pos:=by decide,R:=fun _ _ _ _=>False,ch:=fun _ h=>h,ext:=fun _ h=>h,one:=fun h=>nomatch h }
 | n+1=>Rp.iso (Rp.prod (Rp.int .i64) (Rp.prod (Rp.int .i64) (Rp.sl (rE n)))) fun e=>(e.Op,e.Letter,e.Kids)
theorem rE_sz (n:Nat):(rE n).sz=3:=by cases n<;>rfl
theorem rE_up:∀(n:Nat) {A:List Nat} {w:World} {cs:Nat→Option Value} {x:Expr},(rE n).R A w cs x→(rE (n+1)).R A w cs x
  | 0,_,_,_,_,h=>nomatch h
  | n + 1, A, w, cs, x, h => by
    obtain⟨h0,h1,p,c,h2,hs⟩:=h
    refine⟨h0,h1,p,c,h2,hs.cap,hs.bd,hs.nil,fun a ha k hk=>?_⟩
    obtain⟨g1,g2,g3,g4⟩:=hs.at_ a ha k hk
    rw[rE_sz] at g4
    exact⟨g1,g2,g3,rE_up n g4⟩
theorem rE_le {n m:Nat} (h:n≤m) {A:List Nat} {w:World} {cs:Nat→Option Value} {x:Expr} (hr:(rE n).R A w cs x):(rE m).R A w cs x:=by
  induction m with
  | zero => obtain rfl : n = 0 := by omega
            exact hr
  | succ m ih =>
    by_cases hn:n=m+1
    · subst hn;exact hr
    · exact rE_up m (ih (by omega))
def rpExpr:Rp Expr where
 sz:=3
 pos:=by decide
 R A w cs x:=∃n,(rE n).R A w cs x
 ch hc h:=let ⟨n,h⟩:=h;⟨n,(rE n).ch hc h⟩
 ext e h:=let ⟨n,h⟩:=h;⟨n,(rE n).ext (fun i hi=>e i (by rw[rE_sz] at hi;exact hi)) h⟩
 one h i hi:=let ⟨n,h⟩:=h;(rE n).one h i (by rw[rE_sz];exact hi)
section
variable {A:List Nat} {w:World} {cs:Nat→Option Value} {x:Expr}
theorem Jd4 {n:Nat} {p:Option Addr} {c:Nat} {xs:List Expr} (h:ISl (rE n) A w p c xs):ISl rpExpr A w p c xs:=by
 refine⟨h.cap,h.bd,h.nil,fun a ha k hk=>?_⟩;obtain⟨g1,g2,g3,g4⟩:=h.at_ a ha k hk;rw[rE_sz] at g4;exact⟨g1,g2,g3,n,g4⟩
theorem Jfi {p:Option Addr} {c:Nat} {xs:List Expr} (h:ISl rpExpr A w p c xs):∃n,ISl (rE n) A w p c xs:=by
  cases p with
  | none=>exact⟨0,h.cap,h.bd,h.nil,fun _ ha=>nomatch ha⟩
  | some a =>
    have key:∀m,m≤xs.length→∃n,∀k (hk:k<xs.length),k<m→(rE n).R A w (fun i=>cel w a (k*3+i)) xs[k]:=by
      intro m
      induction m with
      | zero=>exact fun _=>⟨0,fun k _ hk=>absurd hk (Nat.not_lt_zero _)⟩
      | succ m ih =>
        intro hm;obtain⟨n,hn⟩:=ih (by omega);obtain⟨_,_,_,n2,h2⟩:=h.at_ a rfl m (by omega);refine⟨n+n2,fun k hk hkm=>?_⟩;by_cases e:k=m
        · subst e;exact rE_le (by omega) h2
        · exact rE_le (by omega) (hn k hk (by omega))
    obtain⟨n,hn⟩:=key xs.length (Nat.le_refl _);refine⟨n,h.cap,h.bd,h.nil,fun b hb k hk=>?_⟩;obtain rfl:=Option.some.inj hb;obtain⟨g1,g2,g3,_⟩:=h.at_ a rfl k hk;rw[rE_sz];exact⟨g1,g2,g3,hn k hk hk⟩
theorem J04:rpExpr.R A w cs x↔cs 0=some (.int .i64 x.Op)∧cs 1=some (.int .i64 x.Letter)∧∃p c,cs 2=some (.slice p x.Kids.length c)∧ISl rpExpr A w p c x.Kids:=by
  constructor
  · rintro⟨n,h⟩
    cases n with
    | zero=>exact nomatch h
    | succ n =>
      obtain⟨h0,h1,p,c,h2,hs⟩:=h;exact⟨h0,h1,p,c,h2,Jd4 hs⟩
  · rintro⟨h0,h1,p,c,h2,hs⟩;obtain⟨n,hn⟩:=Jfi hs;exact⟨n+1,h0,h1,p,c,h2,hn⟩
end
section
variable {P:Program} {w:World} {e:TypeId} {A:List Nat} {E:List Ent} {n0:Nat} {α:Type} {r:Rp α}
theorem ostR {p:Option Addr} {n c:Nat} {vs us:List Value} {xs:List α} (j:Nat) (hO:Owns n0 w E A) (hj:E[j]?=some (.row e r.sz p n c vs)) (hE:Els r (bl E++A) w vs xs) {i:Int} (h0:0≤i) (h1:i<xs.length) {u:α} (hu:us.length=r.sz) (hR:r.R (bl E++A) w (fun j=>us[j]?) u) :
  ∃w' vs',Stp n0 A w E w' (E.set j (.row e r.sz p n c vs'))∧Els r (bl (E.set j (.row e r.sz p n c vs'))++A) w' vs' (st xs i u)∧∀{P:Program} {σ:Nat→Value} {t ty:TypeId} {x y:Operand} {v:Value} {zz:Option Value} {b:Nat},ti P t=some (zz,r.sz,b) →
   ev σ x=.pointer (padd p (i.toNat*r.sz))→ev σ y=v→v.cells.toList=us→OpV P (.store t x y) ty σ w undef w':=by
 have hh:=hO.at_ _ (List.mem_of_getElem? hj);have hlen:vs.length=xs.length*r.sz:=hE.len
 have hil:i.toNat<xs.length:=by omega
 have h3:(i.toNat+1)*r.sz≤xs.length*r.sz:=Nat.mul_le_mul_right r.sz (by omega);rw[Nat.add_mul,Nat.one_mul] at h3;have hps:=r.pos
 have hl:i.toNat*r.sz<vs.length:=by omega
 obtain⟨g,cur,rfl,hg,hb,q1,q2,q3,q4,_⟩:=J2o hh hl
 have hfit:i.toNat*r.sz+us.length≤cur.size:=by
  have:vs.length≤cur.size:=by rw[←q4];simp;omega
  omega
 have hvl:vs.length≤cur.toList.length:=by rw[←q4];simp only[List.length_take];omega
 have hcl:n*r.sz≤cur.toList.length:=by rw[Array.length_toList,q3];exact Nat.mul_le_mul_right r.sz q1
 have hnl:n=xs.length:=hE.n_eq (r:=r) hh
 have hone:∀v∈us,v.oneCell'=true:=fun v hv=>by
  obtain⟨m,hm,rfl⟩:=List.getElem_of_mem hv;obtain⟨v',hv',h1⟩:=r.one hR m (by omega);rw[List.getElem?_eq_getElem hm] at hv';rw[Option.some.inj hv'];exact h1
 have hs:Stp n0 A w E (w.setRow g (cur.toList.take (i.toNat*r.sz)++us++cur.toList.drop (i.toNat*r.sz+us.length)).toArray) (E.set j (.row e r.sz (some ⟨g,0,none⟩) n c (segs vs (i.toNat*r.sz) us))):=by
  refine Stp.turn hO hj ⟨rfl,rfl,rfl⟩ (by simp) (fun k hk hn=>J8Y w g _ k (by simpa [Ent.fp] using hn)) (by simp[Ent.fp]) (fun k hk=>.inl (by simpa [Ent.fp] using hk)) ?_;refine⟨by rw[J6a (by omega)];exact hh.1,.inr ⟨g,c,_,rfl,hb,setRow_heap w g cur _ e (0,0) hg,q1,q2,?_,?_⟩⟩
  ·have:=J6a (l:=cur.toList) (a:=i.toNat*r.sz) (us:=us) (by simpa using hfit);simp only[segs] at this;simp only[List.size_toArray];rw[this,Array.length_toList,q3]
  ·have:=Jb3 (l:=cur.toList) (a:=i.toNat*r.sz) (us:=us) (m:=n*r.sz) (by rw[hnl];omega) hcl;rw[q4] at this;exact this
 refine⟨_,_,hs,?_,fun he hx hy hv=>?_⟩
 ·refine⟨by rw[J6a (by omega),J02];exact hlen,by rw[J02];exact hE.bd,fun k hk=>?_⟩;simp only[J02] at hk;have hkk:(k+1)*r.sz≤xs.length*r.sz:=Nat.mul_le_mul_right r.sz (by omega);rw[Nat.add_mul,Nat.one_mul] at hkk;simp only[st,List.getElem_set];by_cases hki:i.toNat=k
  ·subst hki;rw[if_pos rfl];refine r.ext (fun m hm=>?_) (r.ch hs.ch hR);rw[JaR (by omega) (by omega)]
  ·rw[if_neg hki];refine r.ext (fun m hm=>?_) (r.ch hs.ch (hE.at_ k hk));rw[J9E (by omega) ?_]
   rcases Nat.lt_or_ge k i.toNat with h | h
   ·have h6:(k+1)*r.sz≤i.toNat*r.sz:=Nat.mul_le_mul_right r.sz (by omega);rw[Nat.add_mul,Nat.one_mul] at h6;omega
   ·have h6:(i.toNat+1)*r.sz≤k*r.sz:=Nat.mul_le_mul_right r.sz (by omega);rw[Nat.add_mul,Nat.one_mul] at h6;omega
 ·simp only[padd,Option.map_some,Addr.add_lit,Nat.zero_add] at hx;exact J87 hg hv hone hfit (by rw[hu];exact he) hx hy
theorem J0b {a:Expr} {cs:List Value} (hl:cs.length=rpExpr.sz) (h:rpExpr.R A w (fun j=>cs[j]?) a):∃p2 c2,cs=[.int .i64 a.Op,.int .i64 a.Letter,.slice p2 a.Kids.length c2]∧ISl rpExpr A w p2 c2 a.Kids:=by
  obtain⟨h0,h1,p,c,h2,hs⟩:=J04.1 h;refine⟨p,c,?_,hs⟩
  match cs,hl with
  | [x, y, z], _ =>
    obtain rfl:=Option.some.inj h0;obtain rfl:=Option.some.inj h1;obtain rfl:=Option.some.inj h2
    rfl
end
open Go Go.RowKit
section
variable {P:Program} {σ:Nat→Value} {w:World} {t t' ty e:TypeId} {x y z:Operand} {A:List Nat} {E:List Ent} {n0:Nat}
def tailpR (sz:Nat) (p:Option Addr) (l c:Nat):Option Addr:=if c=l then p else padd p (l*sz)
theorem J6C {sz:Nat} {p:Option Addr} {m c:Nat} {h:Int} {kk:IntKind} {zz:Option Value} {bb:Nat} (ht:P.underlying t=some (.slice e)) (he:ti P e=some (zz,sz,bb)) (hx:ev σ x=.slice p m c) (hy:ev σ y=.int kk h) (h0:0≤h) (h1:h≤m) (w:World) :
  OpV P (.slice t x (some y) none none) ty σ w (.slice (tailpR sz p h.toNat c) (m-h.toNat) (c-h.toNat)) w:=.inl (by
 have hs:=fun w=>run_sizeOf he w
 have h2:h≤(m:Int):=h1
 have e1:(Option.map (fun a:Addr=>a.add (h.toNat*sz)) p)=padd p (h.toNat*sz):=rfl
 by_cases hc:c=h.toNat
 ·simp[execOp,opr,hx,hy,Instr.sliceAt,Instr.slice,Instr.sliceBounds,Instr.sliceBound,run_underlying ht,asIntOf,h0,h2,hs,tailpR,hc]
 ·simp[execOp,opr,hx,hy,Instr.sliceAt,Instr.slice,Instr.sliceBounds,Instr.sliceBound,run_underlying ht,asIntOf,h0,h2,hs,tailpR,hc,padd])
theorem JbJ (cs:Array Value) (n:Nat):(Builtin.zeroCells cs n).toList.length=n*cs.size:=by simp[Builtin.zeroCells]
theorem Jfl (cs:Array Value) (n k i:Nat) (hk:k<n) (hi:i<cs.size):(Builtin.zeroCells cs n).toList[k*cs.size+i]?=cs[i]?:=by
 have hle:(k+1)*cs.size≤n*cs.size:=Nat.mul_le_mul_right _ (by omega);rw[Nat.add_mul,Nat.one_mul] at hle
 have e:(k*cs.size+i) % cs.size=i:=by
  rw[Nat.add_comm,Nat.add_mul_mod_self_right,Nat.mod_eq_of_lt hi]
 unfold Builtin.zeroCells;rw[Array.getElem?_toList,Array.getElem?_map,Array.getElem?_range,if_pos (by omega)];simp only[Option.map_some,e];rw[getElem!_pos cs i hi,Array.getElem?_eq_getElem hi]
theorem JeJ {cs:Array Value} {n:Nat} (h:∀v∈cs,v.oneCell'=true) (hp:0<cs.size):∀v∈(Builtin.zeroCells cs n).toList,v.oneCell'=true:=by
 intro v hv;unfold Builtin.zeroCells at hv;rw[Array.toList_map,List.mem_map] at hv;obtain⟨i,_,rfl⟩:=hv;have hi:i % cs.size<cs.size:=Nat.mod_lt _ hp;rw[getElem!_pos cs _ hi];exact h _ (Array.getElem_mem hi)
theorem JcH (w:World) (t e ty:TypeId) (z:Value) (ht:P.underlying t=some (.slice e)) (hv:∀w,(zeroValue e).run P w=.ok z w) (h1:∀v∈z.cells,v.oneCell'=true) (hp:0<z.cells.size) (b o n c:Nat) (hn:0<n)
  (hc:∀j,j<n*z.cells.size→(w.cell? ⟨b,o+j,none⟩).isSome=true) (hf:∀j,j<n*z.cells.size→w.frozen? ⟨b,o+j,none⟩=false) :
  (Builtin.clear_ #[t] ty #[.slice (some ⟨b,o,none⟩) n c]).run P w=.ok (.tuple #[]) (w.setCells b o (Builtin.zeroCells z.cells n).toList):=by
 have hst:=run_storeCells_cells (P:=P) b o (Builtin.zeroCells z.cells n).toList 0 w (by rw[JbJ];simpa using hc) (by rw[JbJ];simpa using hf) (JeJ h1 hp);simp only[Nat.add_zero] at hst;obtain⟨m,rfl⟩:∃m,n=m+1:=⟨n-1,by omega⟩;simp[Builtin.clear_,run_underlying ht,hv,hst]
theorem oclearR {α:Type} {r:Rp α} {d:α} {z:Value} {bb:Nat} (ht:P.underlying t=some (.slice e)) (he:ti P e=some (some z,r.sz,bb)) (hz:z.cells.size=r.sz) (hz1:∀v∈z.cells,v.oneCell'=true) (hd:∀A w,r.R A w (fun i=>z.cells[i]?) d)
  {p:Option Addr} {n c:Nat} {vs:List Value} {xs:List α} (j:Nat) (hO:Owns n0 w E A) (hj:E[j]?=some (.row e r.sz p n c vs)) (hE:Els r (bl E++A) w vs xs) {l:Int} (l0:0≤l) (l1:l≤xs.length) :
  ∃w' vs',Stp n0 A w E w' (E.set j (.row e r.sz p n c vs'))∧Els r (bl (E.set j (.row e r.sz p n c vs'))++A) w' vs' (xs.take l.toNat++List.replicate (xs.length-l.toNat) d) ∧
   ∀{σ:Nat→Value} {x:Operand} {ty:TypeId},ev σ x=.slice (tailpR r.sz p l.toNat c) (n-l.toNat) (c-l.toNat)→OpV P (.call { callee:=.builtin .clear,args:=#[x],argTypes:=#[t] }) ty σ w (.tuple #[]) w':=by
 obtain⟨m,rfl⟩:=Int.eq_ofNat_of_zero_le l0;simp only[Int.toNat_natCast] at *;have hh:=hO.at_ _ (List.mem_of_getElem? hj);have hn:n=xs.length:=hE.n_eq (r:=r) hh;have hvl:=hE.len;have hps:=r.pos
 have hm:m≤n:=by omega
 by_cases hmn:m=n
 ·subst hmn;refine⟨w,vs,?_,?_,fun hx=>.inl ?_⟩
  ·obtain⟨hjl,hje⟩:=(List.getElem?_eq_some_iff.1 hj);rw[←hje,List.set_getElem_self];exact Stp.same hO (Same.refl w)
  ·obtain⟨hjl,hje⟩:=(List.getElem?_eq_some_iff.1 hj);rw[←hje,List.set_getElem_self,hn];simpa using hE
  ·rename_i σ' x' ty;simp only[Nat.sub_self] at hx
   have hcl:∀q k,(Builtin.clear_ #[t] ty #[.slice q 0 k]).run P w=.ok (.tuple #[]) w:=fun q k=>by
    cases q<;>simp[Builtin.clear_,run_underlying ht]
   simp[execOp,opr,hx,resolve,invoke,builtin,hcl]
 ·rcases hh.2 with ⟨hv,h2⟩ | ⟨g,cap,cur,hv,hb,hg,h1,h2,h3,h4⟩
  ·omega
  ·cases hv
   have hcm:c≠m:=by omega
   have e0:tailpR r.sz (some ⟨g,0,none⟩) m c=some ⟨g,m*r.sz,none⟩:=by unfold tailpR;rw[if_neg hcm];simp[padd,Addr.add_lit]
   have hmul:m*r.sz+(n-m)*r.sz=n*r.sz:=by rw[←Nat.add_mul];congr 1;omega
   have hcap:n*r.sz≤c*r.sz:=Nat.mul_le_mul_right _ h1;have hzl:=JbJ z.cells (n-m);rw[hz] at hzl
   have hsz:m*r.sz+(Builtin.zeroCells z.cells (n-m)).toList.length≤cur.size:=by omega
   have hvn:vs.length=n*r.sz:=by rw[hvl,hn]
   have hcur:(sets cur (m*r.sz) (Builtin.zeroCells z.cells (n-m)).toList).toList.take (n*r.sz)=vs.take (m*r.sz)++(Builtin.zeroCells z.cells (n-m)).toList:=by
    rw[J9X _ _ _ hsz]
    have h6:(cur.toList.take (m*r.sz)++(Builtin.zeroCells z.cells (n-m)).toList).length=n*r.sz:=by
     rw[List.length_append,hzl,List.length_take,Array.length_toList];omega
    rw[List.take_append_of_le_length (by omega),List.take_of_length_le (by omega),←h4,List.take_take,Nat.min_eq_left (by omega)]
   have hst:Stp n0 A w E (w.setCells g (m*r.sz) (Builtin.zeroCells z.cells (n-m)).toList) (E.set j (.row e r.sz (some ⟨g,0,none⟩) n c (vs.take (m*r.sz)++(Builtin.zeroCells z.cells (n-m)).toList))):=by
    refine Stp.turn hO hj (J6s _ _ _ _) (by rw[J6v];exact Nat.le_refl _) (fun b _ hnb=>J7f g _ _ _ b (by simpa [Ent.fp] using hnb)) (by simp[Ent.fp]) (fun b hb=>.inl (by simpa [Ent.fp] using hb)) ?_;exact⟨by rw[List.length_append,List.length_take,hzl];omega,.inr ⟨g,c,_,rfl,hb,J6q g e _ _ w cur hg,h1,h2,by rw[Ja8];exact h3,hcur⟩⟩
   refine⟨_,_,hst,?_,fun hx=>.inl ?_⟩
   ·refine⟨?_,by simp;have:=hE.bd;omega,fun k hk=>?_⟩
    ·rw[List.length_append,List.length_take,hzl,List.length_append,List.length_take,List.length_replicate];rw[show min m xs.length+(xs.length-m)=n from by omega];omega
    simp only[List.length_append,List.length_take,List.length_replicate] at hk;by_cases hkm:k<m
    ·have hk1:(k+1)*r.sz≤m*r.sz:=Nat.mul_le_mul_right _ hkm;rw[Nat.add_mul,Nat.one_mul] at hk1;rw[List.getElem_append_left (by simp;omega),List.getElem_take];refine r.ext (fun i hi=>?_) (r.ch hst.ch (hE.at_ k (by omega)));rw[List.getElem?_append_left (by rw[List.length_take];omega),List.getElem?_take,if_pos (by omega)]
    ·rw[List.getElem_append_right (by simp;omega),List.getElem_replicate];have hk1:m*r.sz≤k*r.sz:=Nat.mul_le_mul_right _ (by omega);refine r.ext (fun i hi=>?_) (hd _ _);rw[List.getElem?_append_right (by rw[List.length_take];omega),List.length_take,Nat.min_eq_left (by omega)]
     have e1:k*r.sz+i-m*r.sz=(k-m)*r.sz+i:=by rw[Nat.sub_mul];omega
     rw[e1];have:=Jfl z.cells (n-m) (k-m) i (by omega) (by omega);rw[hz] at this;exact this
   ·rename_i σ' x' ty;rw[e0] at hx
    have hzs:(n-m)*z.cells.size=(n-m)*r.sz:=by rw[hz]
    have hcell:∀q,q<(n-m)*z.cells.size→(w.cell? ⟨g,m*r.sz+q,none⟩).isSome=true:=fun q hq=>by
     rw[hzs] at hq
     have:m*r.sz+q<cur.size:=by omega
     simp[World.cell?,hg,this]
    have hcl:=JcH (P:=P) w t e ty z ht (fun w=>J1W he w) hz1 (by omega) g (m*r.sz) (n-m) (c-m) (by omega) hcell (fun q hq=>by simp[World.frozen?,hg]);simp[execOp,opr,hx,resolve,invoke,builtin,hcl]
theorem ISl.dropR {α:Type} {r:Rp α} {B:List Nat} {p:Option Addr} {c sz:Nat} {xs:List α} (hsz:r.sz=sz) (h:ISl r B w p c xs) (l:Nat):ISl r B w (tailpR sz p l c) (c-l) (xs.drop l):=by
  subst hsz;have h1:=h.cap;have h2:=h.bd;refine⟨by simp;omega,by simp;omega,fun hp=>?_,fun a ha k hk=>?_⟩
  · have:p=none:=by
      unfold tailpR at hp
      split at hp
      · exact hp
      · cases p with
        | none=>rfl
        | some a=>simp[padd] at hp
    have:=h.nil this;omega
  · simp only[List.length_drop] at hk;unfold tailpR at ha;rw[if_neg (by omega)] at ha
    cases p with
    | none=>simp[padd] at ha
    | some a0 =>
      obtain⟨g1,g2,g3,g4⟩:=h.at_ a0 rfl (l+k) (by omega);obtain⟨b,o,q⟩:=a0;simp only at g1 g2 g3;subst g1;simp only[padd,Option.map_some,Addr.add_lit,Option.some.injEq] at ha;subst ha;refine⟨rfl,g2,g3,?_⟩;rw[List.getElem_drop];refine r.ext (fun i hi=>?_) g4
      show w.cell? _=w.cell? _
      congr 2
      simp only[Nat.add_mul];omega
theorem dropLen {α:Type} {n l:Nat} {xs:List α} (h:n=xs.length):n-l=(xs.drop l).length:=by simp[h]
theorem J4S (A:List Nat) (w:World):rpExpr.R A w (fun i=>(Value.agg #[.int .i64 0,.int .i64 0,.slice none 0 0]).cells[i]?) default:=J04.2 ⟨rfl,rfl,none,0,rfl,ISl.null _ _ _⟩
end
section
variable {P:Program} {w:World} {A:List Nat} {E:List Ent} {n0:Nat} {t e:TypeId}
theorem obuE {z:Value} {by_:Nat} {x:Expr} {op lt:Int} {m c:Nat} {p:Option Addr} (ht:P.underlying t=some (.slice e)) (he:ti P e=some (some z,rpExpr.sz,by_)) (hO:Owns n0 w E A) (hk:ISl rpExpr (bl E++A) w p c x.Kids)
  (h1:op=x.Op:=by exact rfl) (h2:lt=x.Letter:=by exact rfl) (h3:m=x.Kids.length:=by exact rfl) (hf:Instr.fill (fun i=>some (i*rpExpr.sz,rpExpr.sz)) ((Array.range (1*rpExpr.sz)).map (z.cells[· % z.cells.size]!)) [(0,.agg #[.int .i64 op,.int .i64 lt,.slice p m c])]=some [.int .i64 op,.int .i64 lt,.slice p m c].toArray:=by kernel_rfl) :
  ∃w' q,Stp n0 A w E w' (.row e rpExpr.sz q 1 1 [.int .i64 op,.int .i64 lt,.slice p m c]::E)∧Els rpExpr (bl (.row e rpExpr.sz q 1 1 [.int .i64 op,.int .i64 lt,.slice p m c]::E)++A) w' [.int .i64 op,.int .i64 lt,.slice p m c] [x]∧Same w w' ∧
   ∀{σ:Nat→Value} {ps:List (Nat×Operand)} {ty:TypeId},(ps.map fun p=>(p.1,ev σ p.2))=[(0,.agg #[.int .i64 op,.int .i64 lt,.slice p m c])]→OpV P (.buildSlice t 1 ps.toArray) ty σ w (.slice q 1 1) w':=by
 subst h1 h2 h3;exact obuildN ht he hO (by decide) (by decide) hf (Els.consR (us:=[.int .i64 x.Op,.int .i64 x.Letter,.slice p x.Kids.length c]) rfl (J04.2 ⟨rfl,rfl,p,c,rfl,hk⟩) (Els.nil _ _ _) (by simp[mx])) rfl
end
open Go Go.RowKit
def selfP (b:Nat) (d:Bool):Value:=if d then .pointer (some ⟨b,0,none⟩) else .pointer none
section
variable {P:Program} {σ:Nat→Value} {w:World} {t t' t2 u ty e:TypeId} {x y:Operand} {A:List Nat} {E:List Ent} {n0:Nat}
theorem Jal {d:Bool} {b:Nat} (ht:P.underlying t=some (.pointer (P.pointee t))) (hx:ev σ x=selfP b d) (hy:ev σ y=.pointer none) (w:World):OpV P (.binOp .eql t x y t') ty σ w (.bool (!d)) w:=.inl (by
 have h:∀a:Option Addr,binOp .eql t (.pointer a) (.pointer none)=(do pure (.bool (←Op.equal t (.pointer a) (.pointer none)))):=fun _=>rfl
 have hq:∀a:Option Addr,(Op.equal t (.pointer a) (.pointer none)).run P w=.ok a.isNone w:=fun a=>run_equal_pointer_nil w t a ht
 cases d
 ·have hx':ev σ x=.pointer none:=hx
  simp only[execOp,opr,hx',hy,eqGuard_at_pointer,h,Sem.run_bind,Sem.run_pure,Result.andThen_ok,hq]
  rfl
 ·have hx':ev σ x=.pointer (some ⟨b,0,none⟩):=hx
  simp only[execOp,opr,hx',hy,eqGuard_at_pointer,h,Sem.run_bind,Sem.run_pure,Result.andThen_ok,hq]
  rfl)
theorem JcZ {d:Bool} {b k:Nat} (ht:P.underlying t=some (.pointer u)) (hz:(P.info? u).map (·.size)=some k) (hd:d=true) (hx:ev σ x=selfP b d) (hy:ev σ y=.pointer (some ⟨b,0,none⟩)) (w:World):OpV P (.binOp .neq t x y t') ty σ w (.bool false) w:=.inl (by
 subst hd
 obtain⟨j,hu,_⟩:=Option.map_eq_some_iff.1 hz
 have hx':ev σ x=.pointer (some ⟨b,0,none⟩):=hx
 have:=Lib.run_neq_ptr_same (P:=P) w ⟨b,0,none⟩ ht hu
 simp only[execOp,opr,hx',hy,eqGuard_at_pointer,Sem.run_bind,Sem.run_pure,Result.andThen_ok,this])
theorem Jc5 {b m:Nat} {cs:Array Value} {T:TypeId} (k:Nat) (hO:Owns n0 w E A) (hk:E[k]?=some (.blk b (.cells cs T (0,0)))) (hc:0<cs.size) (ht:P.underlying t=some (.pointer u)) (ht2:P.underlying t2=some .unsafePointer) (hz:(P.info? u).map (·.size)=some m) (hm:m≠0)
  (hx:ev σ x=.pointer (some ⟨b,0,none⟩)):OpV P (.convert t t2 x) ty σ w (.pointer (some ⟨b,0,none⟩)) w:=.inl (by
 obtain⟨_,hb⟩:=hO.at_ _ (List.mem_of_getElem? hk)
 obtain⟨j,hu,hj⟩:=Option.map_eq_some_iff.1 hz
 have:=Lib.run_to_unsafe (P:=P) w ⟨b,0,none⟩ ht ht2 hu (by rw[hj];exact hm) (e:=T) (cells:=cs.size) (by simp[World.shape?,hb]) hc
 simp[execOp,opr,hx,this])
theorem JaE {b m:Nat} {cs:Array Value} {T:TypeId} (k:Nat) (hO:Owns n0 w E A) (hk:E[k]?=some (.blk b (.cells cs T (0,0)))) (ht:P.underlying t=some (.pointer u)) (ht2:P.underlying t2=some .unsafePointer) (hz:(P.info? u).map (·.size)=some m)
  (hl:liesAt P P.depth T (cs.size / P.cellsOf T) 0 u 1=true)
  (hx:ev σ x=.pointer (some ⟨b,0,none⟩)):OpV P (.convert t2 t x) ty σ w (.pointer (some ⟨b,0,none⟩)) w:=.inl (by
 obtain⟨_,hb⟩:=hO.at_ _ (List.mem_of_getElem? hk)
 obtain⟨j,hu,_⟩:=Option.map_eq_some_iff.1 hz
 have:=Lib.run_from_unsafe (P:=P) w ⟨b,0,none⟩ ht2 ht hu (e:=T) (cells:=cs.size) (by simp[World.shape?,hb]) hl
 simp[execOp,opr,hx,this])
theorem JbL {f:FuncId} {fn:Func} {v:Value} {ts:Array TypeId} (hf:P.funcs[f]?=some fn) (hn:(fn.name == "runtime.NumGoroutine")=false) (hb:fn.body.isNone=true) (hn2:Extern.findNext fn=none) (he:Extern.find fn=some Extern.AbiNoEscape.same)
  (hx:ev σ x=v) (w:World):OpV P (.call { callee:=.value (.func f),args:=#[x],argTypes:=ts }) ty σ w v w:=.inl (by
 have:=run_callFunc_extern hf hn hb hn2 he #[v] w
 rw[Lib.run_noEscape] at this
 simp[execOp,opr,hx,resolve,show ev σ (.func f)=.func (.func f) #[] #[] from rfl,Deferred.ofValue,invoke,this])
theorem JdD {p:Option Addr} {n c sz bb:Nat} {zz:Option Value} (ht:P.underlying t=some (.slice e)) (he:ti P e=some (zz,sz,bb)) (hs:P.underlying t2=some .string) (hx:ev σ x=.slice p n c) (hnc:n≤c) (hy:ev σ y=.string (gstr [])) (w:World) :
  OpV P (.call { callee:=.builtin .append,args:=#[x,y],argTypes:=#[t,t2] }) ty σ w (.slice p n c) w:=.inl (by
 have h:=fun w=>run_sizeOf he w
 have h0:(gstr []).size=0:=rfl
 have hf:∀(w:World),(Builtin.firstCells sz 0 (.string (gstr []))).run P w=.ok #[] w:=fun w=>by
  simp[Builtin.firstCells]
 cases p with
 | none=>simp[execOp,opr,hx,hy,resolve,invoke,builtin,Builtin.append_,run_underlying ht,run_underlying hs,h,Builtin.lenOf,h0,hnc,hf]
 | some a=>simp[execOp,opr,hx,hy,resolve,invoke,builtin,Builtin.append_,run_underlying ht,run_underlying hs,h,Builtin.lenOf,h0,hnc,hf,storeCells])
theorem Jfv {g n c:Nat} (hc:c≠0) (hx:ev σ x=.slice (some ⟨g,0,none⟩) n c) (w:World):OpV P (.call { callee:=.builtin .unsafeSliceData,args:=#[x],argTypes:=#[t] }) ty σ w (.pointer (some ⟨g,0,none⟩)) w:=.inl (by
 have:=Lib.run_unsafeSliceData_row (P:=P) w #[t] ty ⟨g,0,none⟩ n c hc
 simp[execOp,opr,hx,resolve,invoke,builtin,this])
theorem Jar (g n:Nat) (w:World) (k:Nat) (h:k≠g):(w.freeze ⟨g,0,none⟩ n).heap[k]?=w.heap[k]?:=by
 unfold World.freeze
 split
 ·rfl
 ·simp only[Array.getElem?_modify];rw[if_neg (by omega)]
theorem J8i (g n:Nat) (w:World):(w.freeze ⟨g,0,none⟩ n).heap.size=w.heap.size:=by
 unfold World.freeze
 split<;>simp
theorem JbE (g n:Nat) (w:World):(w.freeze ⟨g,0,none⟩ n).os=w.os∧(w.freeze ⟨g,0,none⟩ n).tape=w.tape∧(w.freeze ⟨g,0,none⟩ n).output=w.output:=by
 unfold World.freeze
 split<;>exact⟨rfl,rfl,rfl⟩
theorem Jee {p:Option Addr} {n c:Nat} {vs:List Value} {xs:List Int} (j:Nat) (hO:Owns n0 w E A) (hj:E[j]?=some (.row e 1 p n c vs)) (hE:Els (Rp.int .u8) (bl E++A) w vs xs) (hne:xs≠[]):∃g,p=some ⟨g,0,none⟩∧c≠0∧n=xs.length:=by
 have hh:=hO.at_ _ (List.mem_of_getElem? hj);have hn:n=xs.length:=hE.n_eq (r:=Rp.int .u8) hh
 have hl:xs.length≠0:=by simpa using hne
 rcases hh.2 with ⟨hv,h2⟩ | ⟨g,cap,cur,hv,hb,hg,h1,h2,h3,h4⟩
 ·omega
 ·cases hv;exact⟨g,rfl,by omega,hn⟩
theorem ocUS {g n c:Nat} {vs:List Value} {xs:List Int} (j:Nat) (hO:Owns n0 w E A) (hj:E[j]?=some (.row e 1 (some ⟨g,0,none⟩) n c vs)) (hE:Els (Rp.int .u8) (bl E++A) w vs xs) (hne:xs≠[]) (hby:isBytes xs)
  (ht:P.underlying t=some (.pointer e)) (hc:P.cellsOf e=1) :
  ∃w',Stp n0 A w E w' (E.eraseIdx j)∧∀{σ:Nat→Value} {x y:Operand} {ty:TypeId},ev σ x=.pointer (some ⟨g,0,none⟩)→ev σ y=.int .i64 (xs.length:Int)→OpV P (.call { callee:=.builtin .unsafeString,args:=#[x,y],argTypes:=#[t,t2] }) ty σ w (.string (gstr (bytesOf xs))) w':=by
 have hh:=hO.at_ _ (List.mem_of_getElem? hj);have hn:n=xs.length:=hE.n_eq (r:=Rp.int .u8) hh
 have hl:xs.length≠0:=by simpa using hne
 have hbl:(bytesOf xs).length=xs.length:=by simp[bytesOf]
 have hvl:vs.length=xs.length:=by have:=hE.len;simpa [Rp.int] using this
 rcases hh.2 with ⟨hv,h2⟩ | ⟨g',cap,cur,hv,hb,hg,h1,h2,h3,h4⟩
 ·cases hv
 ·cases hv
  have hcells:∀k x,(bytesOf xs)[k]?=some x→w.cell? ((⟨g,0,none⟩:Addr).add k)=some (.int .u8 x.toNat):=by
   intro k x hx
   have hk:k<xs.length:=by
    have:=(List.getElem?_eq_some_iff.1 hx).1;omega
   have h5:=hE.at_ k hk;simp only[Rp.int,Nat.mul_one,Nat.add_zero] at h5
   have h6:xs[k]=(x.toNat:Int):=by
    have h7:=congrArg (fun l=>l[k]?) hby
    simp only[List.getElem?_map,hx,Option.map_some] at h7;rw[List.getElem?_eq_getElem hk] at h7;exact(Option.some.inj h7).symm
   rw[h6] at h5
   have h8:cur[k]?=some (.int .u8 x.toNat):=by
    rw[←Array.getElem?_toList];rw[←h4,List.getElem?_take,if_pos (by omega)] at h5;exact h5
   simp[Addr.add_lit,World.cell?,hg,h8]
  have hrun:=Lib.run_unsafeString_row (P:=P) w t t2 0 e ht hc g cur.size (by simp[World.shape?,hg]) (bytesOf xs) (by intro h;rw[h] at hbl;simp at hbl;omega) (by omega) (by have:=hE.bd;unfold mx at this;omega) hcells;have hdrop:=hO.drop j;refine⟨w.freeze ⟨g,0,none⟩ (bytesOf xs).length,⟨?_,?_⟩,fun hx hy=>.inl ?_⟩
  ·have hgn:∀b∈bl (E.eraseIdx j),b≠g:=fun b hb' he=>by
    subst he;exact hO.apart j hj b (by simp[Ent.fp]) (List.mem_append_left _ hb')
   exact⟨by rw[J8i];exact hdrop.le,fun b hb'=>by rw[J8i];exact hdrop.bd b hb',hdrop.nd,hdrop.out,fun q hq=>Ent.keep (hdrop.at_ q hq) fun b hb'=>Jar g _ w b (hgn b (List.mem_flatMap.2 ⟨q,hq,hb'⟩))⟩
  ·have hsm:=JbE g (bytesOf xs).length w;refine⟨hsm.1,hsm.2.1,hsm.2.2,⟨by rw[J8i];exact Nat.le_refl _,fun b hb' hnb=>⟨Jar g _ w b fun he=>hnb ?_,fun hx=>hnb ((JcB (List.eraseIdx_sublist E j)).subset hx)⟩⟩⟩;subst he;exact List.mem_flatMap.2 ⟨_,List.mem_of_getElem? hj,by simp[Ent.fp]⟩
  ·rename_i σ' x' y' ty';have hrun':=hrun;rw[hbl] at hrun';have e0:(Builtin.unsafeString_ #[t,t2] ty' #[.pointer (some ⟨g,0,none⟩),.int .i64 (xs.length:Int)])=(Builtin.unsafeString_ #[t,t2] 0 #[.pointer (some ⟨g,0,none⟩),.int .i64 (xs.length:Int)]):=rfl;simp[execOp,opr,hx,hy,resolve,invoke,builtin,e0,hrun',gstr,hbl]
theorem Jfo {e':TypeId} {sz:Nat} {p:Option Addr} {n c:Nat} {vs:List Value} (j:Nat) (hO:Owns n0 w E A) (hj:E[j]?=some (.row e' sz p n c vs)):n≤c:=by
 have hh:=hO.at_ _ (List.mem_of_getElem? hj)
 rcases hh.2 with ⟨hv,h2⟩ | ⟨g,cap,cur,hv,hb,hg,h1,h2,h3,h4⟩
 ·omega
 ·cases hv;exact h1
theorem JdY {xs:List Int} (h:xs.length≤mx):(bytesOf xs).length≤mx:=by simpa [bytesOf] using h
theorem JcF {n B:Nat} {k:IntKind} {i:Int} {zz:Option Value} {bb:Nat} (ht:P.underlying t=some (.array n e)) (he:ti P e=some (zz,1,bb)) (hx:ev σ x=.pointer (some ⟨B,0,none⟩)) (hy:ev σ y=.int k i)
  (h0:0≤i) (h1:i<n) (w:World):OpV P (.indexAddr t x y) ty σ w (.pointer (padd (some ⟨B,0,none⟩) (i.toNat*1))) w:=.inl (by
 have hs:=fun w=>run_sizeOf he w
 simp[execOp,opr,hx,hy,Instr.indexAt,Instr.sureAddr,run_underlying ht,asIntOf,h0,h1,hs,Addr.add_lit,padd])
end
open Go Go.RowKit
section
variable {P:Program} {σ:Nat→Value} {x y z:Operand} {t e ty:TypeId} {w:World} {A:List Nat} {E:List Ent} {n0:Nat}
theorem Jc6 {p:Option Addr} {m c:Nat} {h:Int} {kk kl:IntKind} {zz:Option Value} {sz bb:Nat} (ht:P.underlying t=some (.slice e)) (he:ti P e=some (zz,sz,bb)) (hx:ev σ x=.slice p m c) (hy:ev σ y=.int kk h) (hz:ev σ z=.int kl h) (h0:0≤h) (h1:h≤c) (w:World) :
  OpV P (.slice t x none (some y) (some z)) ty σ w (.slice p h.toNat h.toNat) w:=.inl (by
 have hs:=fun w=>run_sizeOf he w
 have h2:h≤(c:Int):=h1
 have h3:h≤(h.toNat:Int):=by omega
 have hp:Option.map (fun a:Addr=>a.add 0) p=p:=by cases p<;>simp[Addr.add_zero']
 have hm:max h 0=h:=by omega
 by_cases hc:h.toNat=0
 ·obtain rfl:h=0:=by omega
  simp[execOp,opr,hx,hy,hz,Instr.sliceAt,Instr.slice,Instr.sliceBounds,Instr.sliceBound,run_underlying ht,asIntOf,hs]
 ·simp[execOp,opr,hx,hy,hz,Instr.sliceAt,Instr.slice,Instr.sliceBounds,Instr.sliceBound,run_underlying ht,asIntOf,h0,h2,h3,hs,hc,hp,hm])
theorem AL.start3 {α:Type} {r:Rp α} {p:Option Addr} {m c:Nat} {vs:List Value} {xs:List α} (j:Nat) (hO:Owns n0 w E A) (hj:E[j]?=some (.row e r.sz p m c vs)) (hE:Els r (bl E++A) w vs xs) (k:Nat) (hk:k≤xs.length):AL r (bl E++A) w p xs p k (xs.take k):=by
 have hh:=hO.at_ _ (List.mem_of_getElem? hj);have hn:=hE.n_eq hh;have hle:=(J5y hh).1;refine .inr ⟨rfl,⟨xs.drop k,(List.take_append_drop k xs).symm⟩,by simp;omega,fun hp=>?_⟩;subst hp
 rcases hh.2 with ⟨hv,_⟩ | ⟨g,cap,cur,hv,_⟩
 ·cases hv;omega
 ·cases hv
end
open Go Go.RowKit
section
variable {w:World} {e e':TypeId} {A:List Nat} {E:List Ent} {n0:Nat} {α:Type} {r:Rp α} {hf:Fl r} {p:Option Addr} {n c:Nat} {hs:Hd} {xss:List (List α)} {ys:List α} {i:Int}
def Tz (hs:Hd) (xss:List (List α)):Prop:=∀k:Nat,k<xss.length→ix xss (k:Int)=[]→(hs k).1=none
theorem Tz.make:Tz (fun _=>(none,0)) xss:=fun _ _ _=>rfl
theorem Tz.put {h:Option Addr×Nat} (t:Tz hs xss) (h0:0≤i) (hy:ys≠[]):Tz (hup hs i.toNat h) (st xss i ys):=fun k hk hz=>by
 rw[J02] at hk
 by_cases e:(k:Int)=i
 ·subst e
  rw[ix_st _ h0 (by omega) h0,if_pos rfl] at hz
  exact absurd hz hy
 ·have hz':ix xss (k:Int)=[]:=by
   by_cases hi:i<xss.length
   ·rw[ix_st _ h0 hi (by omega),if_neg e] at hz;exact hz
   ·have:st xss i ys=xss:=by unfold st;exact List.set_eq_of_length_le (by omega)
    rw[this] at hz;exact hz
  rw[J3Y _ _ (by omega)];exact t k hk hz'
theorem Tz.st {k:Int} {u:α} (t:Tz hs xss) (h0:0≤i):Tz hs (Sg.st xss i (Sg.st (ix xss i) k u)):=fun j hj hz=>by
 rw[J02] at hj
 by_cases e:(j:Int)=i
 ·subst e
  rw[ix_st _ h0 (by omega) h0,if_pos rfl] at hz
  refine t j hj (List.eq_nil_of_length_eq_zero ?_)
  have:=congrArg List.length hz
  rwa [J02] at this
 ·refine t j hj ?_
  by_cases hi:i<xss.length
  ·rw[ix_st _ h0 hi (by omega),if_neg e] at hz;exact hz
  ·have:Sg.st xss i (Sg.st (ix xss i) k u)=xss:=by unfold Sg.st;exact List.set_eq_of_length_le (by omega)
   rw[this] at hz;exact hz
theorem Tz.nil (j:Nat) (hO:Owns n0 w E A) (hj:E[j]?=some (t2 hf e e' p n c hs xss)) (t:Tz hs xss) (h0:0≤i) (h1:i<(xss.length:Int)) (h:ix xss i=[]):(hs i.toNat).1.isNone=true:=by
 obtain⟨k,rfl⟩:=Int.eq_ofNat_of_zero_le h0;rw[Int.toNat_natCast,t k (by omega) h];rfl
theorem Tz.some (j:Nat) (hO:Owns n0 w E A) (hj:E[j]?=some (t2 hf e e' p n c hs xss)) (t:Tz hs xss) (h0:0≤i) (h1:i<(xss.length:Int)) (h:¬ix xss i=[]):(hs i.toNat).1.isNone=false:=by
 obtain⟨k,rfl⟩:=Int.eq_ofNat_of_zero_le h0;obtain⟨vs,hv,_⟩:=((t2at j hO hj).inn k (by omega)).ex;have:=J8D hv (Nat.pos_of_ne_zero fun e=>h (List.length_eq_zero_iff.1 e));rw[Int.toNat_natCast]
 cases hh:(hs k).1 with
 | none=>rw[hh] at this;cases this
 | some a=>rfl
end
end Sg
