/- -/
import Derived.Still
import Derived.Deep.Draws
import Derived.KernelRfl
set_option linter.unusedVariables false
set_option linter.unusedSimpArgs false
namespace Sg
open Go
def upd (σ:Nat→Value) (d:Nat) (v:Value):Nat→Value:=fun i=>Bool.casesOn (motive:=fun _=>Value) (Nat.beq i d) (σ i) v
def ev (σ:Nat→Value):Operand→Value
 | .tmp t=>σ t
 | .const v=>v
 | .global g=>.pointer (some ⟨g,0,none⟩)
 | .func f=>.func (.func f) #[] #[]
structure Fits (n:Nat) (a:Act) (σ:Nat→Value):Prop where
 df:a.defers=[]
 sz:a.tmps.size=n
 rd:∀i,a.tmps.getD i undef=σ i
theorem Jci (σ:Nat→Value) (d:Nat) (v:Value) (i:Nat):upd σ d v i=if i=d then v else σ i:=by
 unfold upd;by_cases h:i=d
 ·subst h;simp
 ·have:Nat.beq i d=false:=by rw[Bool.eq_false_iff];intro hb;exact h (Nat.eq_of_beq_eq_true hb)
  rw[this,if_neg h]
theorem Fits.eval {n:Nat} {a:Act} {σ:Nat→Value} (h:Fits n a σ):a.eval=ev σ:=by
 funext x
 cases x with
 | tmp t=>exact h.rd t
 | _=>rfl
theorem Fits.put {n:Nat} {a:Act} {σ:Nat→Value} (h:Fits n a σ) {d:Nat} (hd:Nat.blt d n=true) (v:Value) :
  Fits n (a.put (some d) v) (upd σ d v):=by
 have hd':d<n:=by simpa [Nat.blt_eq] using hd
 refine⟨h.df,by simp[Act.put,h.sz],fun i=>?_⟩;rw[Jci];by_cases hi:i=d
 ·subst hi;simp[Act.put,h.sz,hd']
 ·rw[if_neg hi,←h.rd i];simp[Act.put,Array.getElem?_setIfInBounds_ne (Ne.symm hi)]
def setAll (σ:Nat→Value):List (Nat×Value)→Nat→Value
 | []=>σ
 | p::l=>upd (setAll σ l) p.1 p.2
def agrees (σ:Nat→Value):List (Nat×Value)→Prop
 | []=>True
 | p::l=>σ p.1=p.2∧agrees σ l
theorem J4x (σ:Nat→Value):∀l:List (Nat×Value),agrees σ l→setAll σ l=σ
  | [],_=>rfl
  | p :: l, h => by
    funext i
    simp only[setAll,J4x σ l h.2,Jci]
    by_cases hi:i=p.1
    · subst hi;rw[if_pos rfl];exact h.1.symm
    · rw[if_neg hi]
def bs (f:FuncId):Frame:={ (default:Frame) with fn:=f,kind:=.normal }
def Cont (P:Program) (f:FuncId) (k:List Item) (R:Value→World→Prop) (a:Act) (w:World):Prop:=
 ∀cs,∃v w' fr,R v w'∧Steps P (lone ((bs f).at a k) cs w) (lone fr cs w')∧fr.fn=f∧fr.leaving P w' (.returned v)
def Go1 (P:Program) (f n:Nat) (k:List Item) (σ:Nat→Value) (w:World) (R:Value→World→Prop):Prop:=
 ∀a,Fits n a σ→Cont P f k R a w
def CallsV (P:Program) (f:FuncId) (args:Array Value) (w:World) (R:Value→World→Prop):Prop:=
 Calls P f args w fun e w'=>∃v,e=.returned v∧R v w'
theorem CallsV.mono {P:Program} {f:FuncId} {args:Array Value} {w:World} {R R':Value→World→Prop} (h:CallsV P f args w R) (hr:∀v w',R v w'→R' v w'):CallsV P f args w R':=
 Calls.mono h fun _ _ ⟨v,he,hv⟩=>⟨v,he,hr _ _ hv⟩
def initσ (args:List Value):Nat→Value:=fun i=>args.getD i undef
theorem CallsV.of {P:Program} {f n:Nat} {fn:Func} {c:Code} {l:List Value} {w:World} {R:Value→World→Prop}
  (hf:P.funcs[f]?=some fn) (hb:fn.body=some c) (hn:fn.ntmps=n) (hl:Nat.ble l.length n=true)
  (h:Go1 P f n [.code c] (initσ l) w R):CallsV P f l.toArray w R:=by
 intro cs
 have hl':l.length≤n:=by simpa using hl
 have henter:Frame.enter P f l.toArray .normal =
   (bs f).at { tmps:=l.toArray++Array.replicate (n-l.length) undef,defers:=[] } [.code c]:=by
  simp[Frame.enter,Frame.at,hf,hb,bs,hn]
 have hfit:Fits n { tmps:=l.toArray++Array.replicate (n-l.length) undef,defers:=[] } (initσ l):=by
  refine⟨rfl,by simp;omega,fun i=>?_⟩;simp only[initσ];by_cases hi:i<l.length
  ·simp[Array.getElem?_append,hi,List.getD_eq_getElem?_getD]
  ·simp only[Array.getD_eq_getD_getElem?,Array.getElem?_append,List.size_toArray,hi,if_false,List.getD_eq_getElem?_getD,List.getElem?_eq_none (Nat.le_of_not_lt hi),Option.getD_none,Array.getElem?_replicate]
   split<;>rfl
 obtain⟨v,w',fr,hR,hs,hfn,hl⟩:=h _ hfit cs;rw[←henter] at hs;exact⟨.returned v,w',fr,⟨v,rfl,hR⟩,hs,hfn,hl⟩
section rules
variable {P:Program} {f n:Nat} {k:List Item} {σ:Nat→Value} {w:World} {R:Value→World→Prop}
theorem Cont.step {k k':List Item} {a a':Act} {w':World}
  (hs:∀cs,step P (lone ((bs f).at a k) cs w)=.next (lone ((bs f).at a' k') cs w')) (h:Cont P f k' R a' w'):Cont P f k R a w:=
 fun cs=>let ⟨v,w',fr,hR,hst,r⟩:=h cs;⟨v,w',fr,hR,.head (hs cs) hst,r⟩
theorem Go1.seq {x y:Code} (h:Go1 P f n (.code x::.code y::k) σ w R):Go1 P f n (.code (.seq x y)::k) σ w R:=
 fun a ha=>.step (fun _=>step_seq) (h a ha)
theorem Go1.skip (h:Go1 P f n k σ w R):Go1 P f n (.code .skip::k) σ w R:=fun a ha=>.step (fun _=>step_skip) (h a ha)
theorem Go1.label {l:Nat} (h:Go1 P f n k σ w R):Go1 P f n (.code (.label l)::k) σ w R:=fun a ha=>.step (fun _=>step_label) (h a ha)
theorem Go1.block {i:Nat} {c:Code} (h:Go1 P f n (.code c::.inBlock i::k) σ w R):Go1 P f n (.code (.block i c)::k) σ w R:=
 fun a ha=>.step (fun _=>step_block) (h a ha)
theorem Go1.inBlock {i:Nat} (h:Go1 P f n k σ w R):Go1 P f n (.inBlock i::k) σ w R:=fun a ha=>.step (fun _=>step_inBlock) (h a ha)
theorem Go1.exit {i:Nat} {k':List Item} (hk:exitTo i k=some k') (h:Go1 P f n k' σ w R):Go1 P f n (.code (.exit i)::k) σ w R:=
 fun a ha=>.step (fun _=>step_exit hk) (h a ha)
theorem Go1.cond {c:Operand} {x y:Code} {t:Bool} (hc:ev σ c=.bool t) (h:Go1 P f n (.code (if t then x else y)::k) σ w R) :
  Go1 P f n (.code (.cond c x y)::k) σ w R:=
 fun a ha=>.step (fun _=>step_cond (by rw[ha.eval];exact hc)) (h a ha)
theorem Go1.condT {c:Operand} {x y:Code} {t:Bool} (hc:ev σ c=.bool t) (ht:t=true) (h:Go1 P f n (.code x::k) σ w R) :
  Go1 P f n (.code (.cond c x y)::k) σ w R:=.cond hc (by rw[ht];exact h)
theorem Go1.condF {c:Operand} {x y:Code} {t:Bool} (hc:ev σ c=.bool t) (ht:t=false) (h:Go1 P f n (.code y::k) σ w R) :
  Go1 P f n (.code (.cond c x y)::k) σ w R:=.cond hc (by rw[ht];exact h)
theorem Go1.loop {α:Type} {c:Code} (X:α→(Nat→Value)→World→Prop) (μ:α→Nat) (x:α) (h0:X x σ w)
    (round:∀x σ w,X x σ w→(∀x' σ' w',μ x'<μ x→X x' σ' w'→Go1 P f n (.inLoop c::k) σ' w' R)→Go1 P f n (.code c::.inLoop c::k) σ w R) :
    Go1 P f n (.code (.loop c)::k) σ w R:=by
  have key:∀m x σ w,μ x=m→X x σ w→Go1 P f n (.code c::.inLoop c::k) σ w R:=by
    intro m
    induction m using Nat.strongRecOn with
    | _ m ih =>
      intro x σ w hm hx;exact round x σ w hx fun x' σ' w' hlt hx' a ha=>.step (fun _=>step_inLoop) (ih (μ x') (hm▸hlt) x' σ' w' rfl hx' a ha)
  exact fun a ha=>.step (fun _=>step_loop) (key _ x σ w rfl h0 a ha)
theorem Go1.again {c:Code} (h:Go1 P f n (.code c::.inLoop c::k) σ w R):Go1 P f n (.inLoop c::k) σ w R:=
 fun a ha=>.step (fun _=>step_inLoop) (h a ha)
theorem Go1.keep (l:List (Nat×Value)) (hl:agrees σ l) (h:Go1 P f n k (setAll σ l) w R):Go1 P f n k σ w R:=by
 rw[J4x σ l hl] at h;exact h
theorem Cont.ret {a:Act} {k:List Item} {fn:Func} {v:Value} (hf:P.funcs[f]?=some fn) (hd:a.defers=[]) (hv:(results fn a.tmps).run P w=.ok v w) (h:R v w) :
  Cont P f (.code .ret::k) R a w:=
 fun _=>⟨v,w,_,h,.one step_ret,rfl,rfl,hd,rfl,fn,hf,hv⟩
theorem Cont.fin {a:Act} {fn:Func} {v:Value} (hf:P.funcs[f]?=some fn) (hd:a.defers=[]) (hv:(results fn a.tmps).run P w=.ok v w) (h:R v w) :
  Cont P f [] R a w:=
 fun _=>⟨v,w,_,h,.one step_end,rfl,rfl,hd,rfl,fn,hf,hv⟩
theorem results1 {fn:Func} {r:Nat} (hr:fn.results=#[.tmp r]) (tmps:Array Value):(results fn tmps).run P w=.ok (tmps.getD r undef) w:=by
 simp[results,hr,pure,bind,Sem.bind];rfl
theorem results2 {fn:Func} {r s:Nat} (hr:fn.results=#[.tmp r,.tmp s]) (tmps:Array Value):(results fn tmps).run P w=.ok (.tuple #[tmps.getD r undef,tmps.getD s undef]) w:=by
 simp[results,hr,pure,bind,Sem.bind];rfl
theorem results0 {fn:Func} (hr:fn.results=#[]) (tmps:Array Value):(results fn tmps).run P w=.ok (.tuple #[]) w:=by
 simp[results,hr,pure,bind];rfl
theorem Go1.ret0 {fn:Func} (hf:P.funcs[f]?=some fn) (hr:fn.results=#[]) (h:R (.tuple #[]) w):Go1 P f n (.code .ret::k) σ w R:=
 fun a ha=>.ret hf ha.df (results0 hr a.tmps) h
theorem Go1.fin0 {fn:Func} (hf:P.funcs[f]?=some fn) (hr:fn.results=#[]) (h:R (.tuple #[]) w):Go1 P f n [] σ w R:=
 fun a ha=>.fin hf ha.df (results0 hr a.tmps) h
theorem Go1.ret1 {fn:Func} {r:Nat} (hf:P.funcs[f]?=some fn) (hr:fn.results=#[.tmp r]) (h:R (σ r) w):Go1 P f n (.code .ret::k) σ w R:=
 fun a ha=>.ret hf ha.df (results1 hr a.tmps) (by rw[ha.rd];exact h)
theorem Go1.ret2 {fn:Func} {r s:Nat} (hf:P.funcs[f]?=some fn) (hr:fn.results=#[.tmp r,.tmp s]) (h:R (.tuple #[σ r,σ s]) w):Go1 P f n (.code .ret::k) σ w R:=
 fun a ha=>.ret hf ha.df (results2 hr a.tmps) (by rw[ha.rd,ha.rd];exact h)
end rules
def opr (op:Op) (ty:TypeId):Oper:={ dst:=none,op,type:=ty,pos:="",after:=#[],guard:=none }
def OpV (P:Program) (op:Op) (ty:TypeId) (σ:Nat→Value) (w:World) (v:Value) (w':World):Prop:=
 (execOp (ev σ) (opr op ty)).run P w=.ok (.value v) w'∨((execOp (ev σ) (opr op ty)).run P w=.ok .skip w'∧v=undef)
def OpC (P:Program) (op:Op) (ty:TypeId) (σ:Nat→Value) (w:World) (R:Value→World→Prop):Prop:=
 ∃f args,(execOp (ev σ) (opr op ty)).run P w=.ok (.enter f args) w∧CallsV P f args w R
theorem J1z (ρ:Operand→Value) (o:Oper):execOp ρ o=execOp ρ (opr o.op o.type):=rfl
def nth:List Oper→Nat→Option Oper
 | [],_=>none
 | o::l,i=>bif Nat.beq i 0 then some o else nth l (i-1)
theorem J3i:∀(l:List Oper) (i:Nat),nth l i=l[i]?
  | [],i=>by simp[nth]
  | o::l,0=>by simp[nth]
  | o :: l, i + 1 => by
    have:Nat.beq (i+1) 0=false:=by rw[Bool.eq_false_iff];intro hb;exact absurd (Nat.eq_of_beq_eq_true hb) (by omega)
    rw[nth,this];simpa using J3i l i
def isB:Value→Bool→Bool
 | .bool b,want=>b == want
 | _,_=>false
def gd (L:List Oper) (σ:Nat→Value):Option (Nat×Bool)→Bool
  | none=>true
  | some (j, want) => match nth L j with
    | some o => match o.dst with
      | some d=>isB (σ d) want
      | none=>false
    | none=>false
theorem gd_eq {n:Nat} {a:Act} {σ:Nat→Value} (h:Fits n a σ) (L:List Oper) (o:Oper) :
    Region.wanted o (yielded L.toArray a.tmps)=gd L σ o.guard:=by
  unfold Region.wanted
  cases hg:o.guard with
  | none=>rfl
  | some p =>
    obtain⟨j,want⟩:=p;simp only[gd,yielded,J3i,List.getElem?_toArray]
    cases hj:L[j]? with
    | none=>simp
    | some oj =>
      simp only[Option.bind_some]
      cases hd:oj.dst with
      | none=>simp
      | some d =>
        simp only[Option.bind_some];have hr:=h.rd d;simp only[Array.getD_eq_getD_getElem?] at hr
        cases ht:a.tmps[d]? with
        | none =>
          rw[ht] at hr;rw[←hr];simp[undef,isB]
        | some v =>
          rw[ht] at hr;simp only[Option.getD_some] at hr;rw[←hr]
          cases v<;>simp[isB]
def putS (σ:Nat→Value) (d:Option Nat) (v:Value):Nat→Value:=Option.casesOn (motive:=fun _=>Nat→Value) d σ (fun d=>upd σ d v)
def dOk (n:Nat):Option Nat→Bool
 | some d=>Nat.blt d n
 | none=>true
theorem Fits.putO {n:Nat} {a:Act} {σ:Nat→Value} (h:Fits n a σ) {d:Option Nat} (hd:dOk n d=true) (v:Value):Fits n (a.put d v) (putS σ d v):=by
 cases d with
 | none=>exact h
 | some d=>exact h.put hd v
def QN (P:Program) (f:Nat) (k:List Item) (R:Value→World→Prop):Exit→Act→World→Prop:=fun e a w=>e=.normal∧Cont P f k R a w
def GoR (P:Program) (f n:Nat) (L l:List Oper) (k:List Item) (σ:Nat→Value) (w:World) (R:Value→World→Prop):Prop:=
 ∀a,Fits n a σ→∀idx:List Nat,idx.map (L[·]?)=l.map some→wpOps P L.toArray (QN P f k R) idx a w
theorem Cont.of_wp {P:Program} {f:Nat} {c:Code} {k:List Item} {R:Value→World→Prop} {a:Act} {w:World} (h:c.wp P (QN P f k R) a w):Cont P f (.code c::k) R a w:=by
 intro cs;obtain⟨e,a',w',⟨rfl,hc⟩,harr⟩:=h (bs f) k cs;obtain⟨v,w'',fr,hR,hs,r⟩:=hc cs;exact⟨v,w'',fr,hR,Steps.trans harr hs,r⟩
section region
variable {P:Program} {f n:Nat} {k:List Item} {σ:Nat→Value} {w w':World} {R:Value→World→Prop} {L l:List Oper}
theorem Go1.region {i:Nat} (h:GoR P f n L L k σ w R):Go1 P f n (.code (.region i L.toArray false)::k) σ w R:=by
 intro a ha;refine Cont.of_wp (wp_region (h a ha _ ?_));apply List.ext_getElem?;intro j;by_cases hj:j<L.length
 ·simp[hj]
 ·simp[hj]
theorem GoR.nil (h:Go1 P f n k σ w R):GoR P f n L [] k σ w R:=by
 intro a ha idx hidx
 have:idx=[]:=by simpa using hidx
 subst this;exact⟨rfl,h a ha⟩
theorem GoR.cons_inv {idx:List Nat} {o:Oper} {l:List Oper} (h:idx.map (L[·]?)=(o::l).map some) :
    ∃i rest,idx=i::rest∧L[i]?=some o∧rest.map (L[·]?)=l.map some:=by
  cases idx with
  | nil=>simp at h
  | cons i rest =>
    simp only[List.map_cons,List.cons.injEq] at h;exact⟨i,rest,rfl,h.1,h.2⟩
theorem GoR.op {d:Option Nat} {op:Op} {ty:TypeId} {pos:String} {aft:Array Edge} {g:Option (Nat×Bool)} {v:Value}
  (hv:OpV P op ty σ w v w') (hg:gd L σ g=true) (hd:dOk n d=true)
  (h:GoR P f n L l k (putS σ d v) w' R):GoR P f n L (⟨d,op,ty,pos,aft,g⟩::l) k σ w R:=by
 intro a ha idx hidx;obtain⟨i,rest,rfl,hi,hrest⟩:=GoR.cons_inv hidx;rw[wpOps_cons];unfold wpOp
 have hi':L.toArray[i]?=some ⟨d,op,ty,pos,aft,g⟩:=by simpa using hi
 simp only[hi'];rw[gd_eq ha,hg,if_pos rfl];refine .inl ?_;unfold Oper.wp;rw[J1z,ha.eval]
 rcases hv with hv | ⟨hv,rfl⟩<;>(rw[hv];exact h _ (ha.putO hd _) rest hrest)
theorem GoR.pass {d:Option Nat} {op:Op} {ty:TypeId} {pos:String} {aft:Array Edge} {g:Option (Nat×Bool)}
  (hg:gd L σ g=false) (hd:dOk n d=true)
  (h:GoR P f n L l k (putS σ d undef) w R):GoR P f n L (⟨d,op,ty,pos,aft,g⟩::l) k σ w R:=by
 intro a ha idx hidx;obtain⟨i,rest,rfl,hi,hrest⟩:=GoR.cons_inv hidx;rw[wpOps_cons];unfold wpOp
 have hi':L.toArray[i]?=some ⟨d,op,ty,pos,aft,g⟩:=by simpa using hi
 simp only[hi'];rw[gd_eq ha,hg];exact h _ (ha.putO hd _) rest hrest
theorem GoR.call {d:Option Nat} {op:Op} {ty:TypeId} {pos:String} {aft:Array Edge} {g:Option (Nat×Bool)} {R1:Value→World→Prop}
  (hc:OpC P op ty σ w R1) (hg:gd L σ g=true) (hd:dOk n d=true)
  (h:∀v w',R1 v w'→GoR P f n L l k (putS σ d v) w' R):GoR P f n L (⟨d,op,ty,pos,aft,g⟩::l) k σ w R:=by
 intro a ha idx hidx;obtain⟨i,rest,rfl,hi,hrest⟩:=GoR.cons_inv hidx;rw[wpOps_cons];unfold wpOp
 have hi':L.toArray[i]?=some ⟨d,op,ty,pos,aft,g⟩:=by simpa using hi
 simp only[hi'];rw[gd_eq ha,hg,if_pos rfl];refine .inl ?_;unfold Oper.wp;rw[J1z,ha.eval];obtain⟨fc,args,hx,hcall⟩:=hc;rw[hx]
 exact Calls.mono hcall fun e w'' ⟨v,he,hv⟩=>by subst he;exact h v w'' hv _ (ha.putO hd _) rest hrest
end region
open Go
structure Same (w w':World):Prop where
 os:w'.os=w.os
 tape:w'.tape=w.tape
 output:w'.output=w.output
 size:w.heap.size≤w'.heap.size
 block:∀k,k<w.heap.size→w'.heap[k]?=w.heap[k]?
theorem Same.refl (w:World):Same w w:=⟨rfl,rfl,rfl,Nat.le_refl _,fun _ _=>rfl⟩
theorem Same.trans {a b c:World} (h:Same a b) (k:Same b c):Same a c:=
 ⟨k.os.trans h.os,k.tape.trans h.tape,k.output.trans h.output,Nat.le_trans h.size k.size,fun i hi=>(k.block i (Nat.lt_of_lt_of_le hi h.size)).trans (h.block i hi)⟩
theorem Same.drew (w:World):Same w { w with drawn:=w.drawn+1 }:=⟨rfl,rfl,rfl,Nat.le_refl _,fun _ _=>rfl⟩
inductive Md where
 | pure | stable | loud | last
 deriving DecidableEq
section
variable {P:Program} {ops:Array Oper} {Q:Exit→Act→World→Prop}
def wpD (P:Program) (ops:Array Oper) (ex:Nat→Bool) (Q:Exit→Act→World→Prop):Nat→Array Bool→Act→World→Prop
  | 0,listed,a,w=>Region.ready .any ops listed=[]∧Q .normal a w
  | fuel + 1, listed, a, w =>
    (Region.ready .any ops listed=[]→Q .normal a w) ∧
    ∀i∈Region.ready .any ops listed,wpOp P ops Q i (fun a' w'=>(Same w w'∨ex i=true)∧wpD P ops ex Q fuel (listed.setIfInBounds i true) a' w') a w
theorem J9h {ex:Nat→Bool}:∀(fuel:Nat) (listed:Array Bool) (a:Act) (w:World),wpD P ops ex Q fuel listed a w→wpAny P .any ops Q fuel listed a w
 | 0,_,_,_,h=>h
 | fuel+1,_,_,_,h=>⟨h.1,fun i hi=>wpOp_mono (fun a' w' h'=>J9h fuel _ a' w' h'.2) (h.2 i hi)⟩
structure Plain (Q:Exit→Act→World→Prop):Prop where
 panic:∀ch a w,¬Q (.panic ch) a w
 out:¬LetsOut Q
theorem wpOp_put (hQ:Plain Q) {j:Nat} {oi oj:Oper} {v:Value} (hj:ops[j]?=some oj) (hap:oi.apart ops oj=true)
    (hsj:∀cs b,oj.op≠.select cs b) {K:Act→World→Prop} {a:Act} {w:World}
    (h:wpOp P ops Q j K (a.put oi.dst v) w) :
    wpOp P ops Q j (fun a' w'=>(∃u ds,a'={ a.put oj.dst u with defers:=ds })∧K (a'.put oi.dst v) w') a w:=by
  obtain⟨h1,h2,h3⟩:=Oper.apart_spec hap
  have pd:∀(a:Act) (x:Option Tmp) (u:Value),(a.put x u).defers=a.defers:=fun a x u=>by cases x<;>rfl
  unfold wpOp at *;simp only[hj] at *;rw[wanted_put oj a oi.dst v h1] at h
  split
  · rename_i hw;simp only[hw,if_true] at h;refine .inl ?_
    rcases h with h | h
    · unfold Oper.wp at *;rw[execOp_put oj hsj a oi.dst v h1] at h;generalize (execOp a.eval oj).run P w=r at *
      have keep:∀u w',K ((a.put oi.dst v).put oj.dst u) w'→(∃u' ds,a.put oj.dst u={ a.put oj.dst u' with defers:=ds })∧K ((a.put oj.dst u).put oi.dst v) w':=fun u w' hk=>
        ⟨⟨u,(a.put oj.dst u).defers,rfl⟩,by rw[←Act.put_comm a v u h2];exact hk⟩
      cases r with
      | ok x w' =>
        cases x with
        | value u=>exact keep u w' h
        | skip=>exact keep undef w' h
        | defer dd =>
          refine⟨⟨undef,dd::a.defers,?_⟩,?_⟩
          · cases oj.dst<;>rfl
          · have e1:(({ a.put oi.dst v with defers:=dd::(a.put oi.dst v).defers }:Act).put oj.dst undef)=(({ a with defers:=dd::a.defers }:Act).put oj.dst undef).put oi.dst v:=by
              rw[←Act.put_comm _ v undef h2,pd]
              cases oi.dst<;>rfl
            simp only[Oper.upon] at h;rw[e1] at h;exact h
        | enter fc args =>
          refine Calls.mono h ?_;intro e w'' he
          cases e with
          | returned u=>exact keep u w'' he
          | panicked ch=>exact absurd he (hQ.panic ch _ _)
          | outgrown=>exact absurd he hQ.out
        | row row args=>exact Rows.mono h fun u w'' hk=>keep u w'' hk
        | _=>exact h
      | halt x w'=>cases x<;>first | exact absurd h (hQ.panic _ _ _) | exact h
    · exact absurd h.2 hQ.out
  · rename_i hw;simp only[hw] at h;exact⟨⟨undef,(a.put oj.dst undef).defers,rfl⟩,by rw[←Act.put_comm a v undef h2];exact h⟩
def YD (P:Program) (ops:Array Oper) (m:Md) (o:Oper) (v:Value) (a:Act) (w:World):Prop:=
 (Region.wanted o (yielded ops a.tmps)=true∧∀w',(m=.pure∨Same w w')→((execOp a.eval o).run P w'=.ok (.value v) w'∨((execOp a.eval o).run P w'=.ok .skip w'∧v=undef))) ∨
 (Region.wanted o (yielded ops a.tmps)=false∧v=undef)
theorem YD.run {m:Md} {i:Nat} {o:Oper} {v:Value} {a:Act} {w:World} (hi:ops[i]?=some o) (hy:YD P ops m o v a w) {K:Act→World→Prop} (h:K (a.put o.dst v) w):wpOp P ops Q i K a w:=by
 unfold wpOp;simp only[hi]
 rcases hy with ⟨hw,hv⟩ | ⟨hw,rfl⟩
 ·simp only[hw,if_true];refine .inl ?_;unfold Oper.wp
  rcases hv w (.inr (Same.refl w)) with hx | ⟨hx,rfl⟩<;>(rw[hx];exact h)
 ·simp only[hw,Bool.false_eq_true,if_false];exact h
theorem YD.keep {m:Md} {oi oj:Oper} {v:Value} {a:Act} {w w':World} (hy:YD P ops m oi v a w) (hap:oi.apart ops oj=true) (hsi:∀cs b,oi.op≠.select cs b)
  (hw:m=.pure∨Same w w') {a':Act} (ha:∃u ds,a'={ a.put oj.dst u with defers:=ds }):YD P ops m oi v a' w':=by
 obtain⟨u,ds,rfl⟩:=ha;obtain⟨_,_,h3⟩:=Oper.apart_spec hap
 have e1:execOp ({ a.put oj.dst u with defers:=ds }:Act).eval oi=execOp a.eval oi:=by
  have:({ a.put oj.dst u with defers:=ds }:Act).eval=(a.put oj.dst u).eval:=by funext x;cases x<;>rfl
  rw[this];exact execOp_put oi hsi a oj.dst u h3
 have e2:=wanted_put oi a oj.dst u h3;unfold YD at *;rw[e1]
 show (Region.wanted oi (yielded ops (a.put oj.dst u).tmps)=true∧_)∨(Region.wanted oi (yielded ops (a.put oj.dst u).tmps)=false∧_)
 rw[e2]
 rcases hy with ⟨h1,h2⟩ | h
 ·refine .inl ⟨h1,fun w'' h''=>h2 w'' ?_⟩
  rcases hw with hw | hw
  ·exact .inl hw
  ·rcases h'' with h'' | h''
   ·exact .inl h''
   ·exact .inr (hw.trans h'')
 ·exact .inr h
def DC (ops:Array Oper) (listed:Array Bool):Prop:=
 listed.size=ops.size∧∀j o,ops[j]?=some o→listed.getD j false=true→∀e∈o.after,Region.binds .any e=true→listed.getD e.on false=true
theorem DC.start (ops:Array Oper):DC ops (Array.replicate ops.size false):=by
 refine⟨by simp,fun j o ho h=>?_⟩;have:j<ops.size:=(Array.getElem?_eq_some_iff.1 ho).1;simp[this] at h
theorem DC.next {listed:Array Bool} (h:DC ops listed) {i:Nat} (hi:i∈Region.ready .any ops listed):DC ops (listed.setIfInBounds i true):=by
 refine⟨by simpa using h.1,fun j o ho hj e he hb=>?_⟩;by_cases hji:j=i
 ·subst hji;obtain⟨_,o',ho',hall⟩:=mem_ready.1 hi;rw[ho] at ho'
  cases ho'
  exact getD_set_true (hall e he hb)
 ·rw[getD_set_ne false (Ne.symm hji)] at hj;exact getD_set_true (h.2 j o ho hj e he hb)
def anc (ops:Array Oper):Nat→Nat→Nat→Bool
  | 0,_,_=>false
  | n + 1, j, i => match ops[j]? with
    | none=>false
    | some o=>o.after.any fun e=>Region.binds .any e && (Nat.beq e.on i || anc ops n e.on i)
theorem J95 {listed:Array Bool} (h:DC ops listed):∀(n j i:Nat),anc ops n j i=true→(∀o,ops[j]?=some o→∀e∈o.after,Region.binds .any e=true→listed.getD e.on false=true)→listed.getD i false=true
  | 0,_,_,ha,_=>by simp[anc] at ha
  | n + 1, j, i, ha, hj => by
    simp only[anc] at ha
    cases ho:ops[j]? with
    | none=>simp[ho] at ha
    | some o =>
      simp only[ho,Array.any_eq_true'] at ha
      obtain⟨e,he,hh⟩:=ha
      simp only[Bool.and_eq_true,Bool.or_eq_true] at hh
      have hl:=hj o ho e he hh.1
      rcases hh.2 with h2 | h2
      · rw[←Nat.eq_of_beq_eq_true h2];exact hl
      · exact J95 h n e.on i h2 fun o' ho' e' he' hb'=>h.2 e.on o' ho' hl e' he' hb'
theorem Jb1 (hQ:Plain Q) {ex:Nat→Bool} {m:Md} {i:Nat} {oi:Oper} {v:Value} (hi:ops[i]?=some oi) (hsel:∀(j:Nat) (o:Oper) cs b,ops[j]?=some o→o.op≠.select cs b)
    (hm:m=.pure∨∃n,∀j,ex j=true→j≠i→anc ops n j i=true) :
    ∀(fuel:Nat) (listed:Array Bool) (a:Act) (w:World),DC ops listed →
      (∀j oj,ops[j]?=some oj→j≠i→listed.getD j true=false→(∀e∈oj.after,Region.binds .any e=true→e.on≠i)→oi.apart ops oj=true) →
      i∈Region.ready .any ops listed→YD P ops m oi v a w →
      wpD P ops ex Q fuel (listed.setIfInBounds i true) (a.put oi.dst v) w→wpD P ops ex Q (fuel+1) listed a w:=by
  intro fuel
  induction fuel with
  | zero =>
    intro listed a w _ _ hr hy H;refine⟨fun h=>(by rw[h] at hr;cases hr),fun j hj=>?_⟩;by_cases hji:j=i
    · subst hji;exact hy.run hi ⟨.inl (Same.refl w),H⟩
    · have:=ready_mono hj hji;rw[H.1] at this
      cases this
  | succ fuel ih =>
    intro listed a w hdc hfree hr hy H;refine⟨fun h=>(by rw[h] at hr;cases hr),fun j hj=>?_⟩;by_cases hji:j=i
    · subst hji;exact hy.run hi ⟨.inl (Same.refl w),H⟩
    · have h1:=H.2 j (ready_mono hj hji);obtain⟨hjun,oj,hoj,hall⟩:=mem_ready.1 hj;have hiun:listed.getD i true=false:=(mem_ready.1 hr).1
      have hnot:∀e∈oj.after,Region.binds .any e=true→e.on≠i:=fun e he hb heq=>by
        have h1:=hall e he hb;rw[heq] at h1
        rcases Nat.lt_or_ge i listed.size with h' | h'
        · simp[h'] at hiun h1;rw[hiun] at h1;cases h1
        · simp[Array.getElem?_eq_none h'] at h1
      have hap:=hfree j oj hoj hji hjun hnot
      have hex:m=.pure∨ex j≠true:=by
        rcases hm with hm | ⟨n,hm⟩
        · exact .inl hm
        · refine .inr fun hxj=>?_
          have hl:=J95 hdc n j i (hm j hxj hji) fun o ho e he hb=>by rw[hoj] at ho;cases ho;exact hall e he hb
          rcases Nat.lt_or_ge i listed.size with h' | h'
          · simp[h'] at hiun hl;rw[hiun] at hl;cases hl
          · simp[Array.getElem?_eq_none h'] at hl
      have h2:=wpOp_put hQ hoj hap (fun cs b=>hsel j oj cs b hoj) h1
      have hfree':∀k ok,ops[k]?=some ok→k≠i→(listed.setIfInBounds j true).getD k true=false →
          (∀e∈ok.after,Region.binds .any e=true→e.on≠i)→oi.apart ops ok=true:=fun k ok hk hki hun hno=>by
        refine hfree k ok hk hki ?_ hno;by_cases hjk:j=k
        · subst hjk;exact hjun
        · rw[getD_set_ne true hjk] at hun;exact hun
      refine wpOp_mono (fun a' w' h3=>?_) h2;obtain⟨ha',hsame,hrest⟩:=h3;refine⟨hsame,?_⟩
      have hcls:m=.pure∨Same w w':=by
        rcases hex with h | h
        · exact .inl h
        · exact .inr (hsame.resolve_right h)
      refine ih (listed.setIfInBounds j true) a' w' (hdc.next hj) hfree' (ready_mono hr (Ne.symm hji)) (hy.keep hap (fun cs b=>hsel i oi cs b hi) hcls ha') ?_;rw[Array.setIfInBounds_comm _ _ hji];exact hrest
end
def exOf (s:List (Nat×Md)) (j:Nat):Bool:=s.any fun p=>Nat.beq p.1 j && (match p.2 with | .last=>true | _=>false)
def scr (ops:Array Oper) (dep:Nat) (s0:List (Nat×Md)):List (Nat×Md)→Array Bool→Bool
  | [],listed=>(Region.ready .any ops listed).isEmpty
  | (i, m) :: s, listed =>
    (match m with
      | .pure=>(Region.ready .any ops listed).contains i && Region.free .any ops listed i
      | .stable=>(Region.ready .any ops listed).contains i && Region.free .any ops listed i && s0.all (fun p=>(match p.2 with | .last=>Nat.beq p.1 i || anc ops dep p.1 i | _=>true))
      | .loud=>(Region.ready .any ops listed) == [i]
      | .last=>(Region.ready .any ops listed) == [i] && exOf s0 i) && scr ops dep s0 s (listed.setIfInBounds i true)
def scrOk (L:List Oper) (dep:Nat) (s:List (Nat×Md)):Bool:=
 Region.noSelect L.toArray && Nat.beq s.length L.length && scr L.toArray dep s s (Array.replicate L.length false)
def GoQ (P:Program) (f n:Nat) (L:List Oper) (s0:List (Nat×Md)) (k:List Item) (R:Value→World→Prop):List (Nat×Md)→(Nat→Value)→World→Prop
  | [],σ,w=>Go1 P f n k σ w R
  | (i, m) :: s, σ, w => match nth L i with
    | none=>False
    | some o => dOk n o.dst = true ∧ (match m with
      | .pure=>(gd L σ o.guard=false∧GoQ P f n L s0 k R s (putS σ o.dst undef) w)∨(gd L σ o.guard=true∧∃v,(∀w',OpV P o.op o.type σ w' v w')∧GoQ P f n L s0 k R s (putS σ o.dst v) w)
      | .stable=>(gd L σ o.guard=false∧GoQ P f n L s0 k R s (putS σ o.dst undef) w)∨(gd L σ o.guard=true∧∃v,(∀w',Same w w'→OpV P o.op o.type σ w' v w')∧GoQ P f n L s0 k R s (putS σ o.dst v) w)
      | .loud=>(gd L σ o.guard=false∧GoQ P f n L s0 k R s (putS σ o.dst undef) w)∨(gd L σ o.guard=true∧((∃v w',OpV P o.op o.type σ w v w'∧Same w w'∧GoQ P f n L s0 k R s (putS σ o.dst v) w') ∨
          OpC P o.op o.type σ w fun v w'=>Same w w'∧GoQ P f n L s0 k R s (putS σ o.dst v) w'))
      | .last=>(gd L σ o.guard=false∧GoQ P f n L s0 k R s (putS σ o.dst undef) w)∨(gd L σ o.guard=true∧((∃v w',OpV P o.op o.type σ w v w'∧GoQ P f n L s0 k R s (putS σ o.dst v) w') ∨
          OpC P o.op o.type σ w fun v w'=>GoQ P f n L s0 k R s (putS σ o.dst v) w')))
theorem plainQN (P:Program) (f:Nat) (k:List Item) (R:Value→World→Prop):Plain (QN P f k R):=by
 refine⟨fun _ _ _ h=>?_,fun ⟨_,_,h⟩=>?_⟩
 ·cases h.1
 ·cases h.1
theorem Jau {P:Program} {f n:Nat} {L:List Oper} {dep:Nat} {s0:List (Nat×Md)} {k:List Item} {R:Value→World→Prop} (hsel:Region.noSelect L.toArray=true) :
    ∀(s:List (Nat×Md)) (listed:Array Bool),scr L.toArray dep s0 s listed=true→DC L.toArray listed →
    ∀(σ:Nat→Value) (w:World) (a:Act),Fits n a σ→GoQ P f n L s0 k R s σ w→wpD P L.toArray (exOf s0) (QN P f k R) s.length listed a w
  | [],listed,hB,_,σ,w,a,ha,h=>⟨by simpa [scr] using hB,rfl,h a ha⟩
  | (i, m) :: s, listed, hB, hdc, σ, w, a, ha, h => by
    simp only[scr,Bool.and_eq_true] at hB
    obtain⟨hm,hB'⟩:=hB
    simp only[GoQ] at h
    cases hn:nth L i with
    | none=>simp[hn] at h
    | some o =>
      simp only[hn] at h
      obtain⟨hd,h⟩:=h
      have hi:L.toArray[i]?=some o:=by rw[J3i] at hn;simpa using hn
      have ih:∀(hr:i∈Region.ready .any L.toArray listed) (v:Value) (w':World) (_:GoQ P f n L s0 k R s (putS σ o.dst v) w'),wpD P L.toArray (exOf s0) (QN P f k R) s.length (listed.setIfInBounds i true) (a.put o.dst v) w':=
        fun hr v w' hq=>Jau hsel s _ hB' (hdc.next hr) (putS σ o.dst v) w' (a.put o.dst v) (ha.putO hd v) hq
      have quiet:∀(m:Md) (_:m=.pure∨∃n,∀j,exOf s0 j=true→j≠i→anc L.toArray n j i=true),i∈Region.ready .any L.toArray listed→Region.free .any L.toArray listed i=true →
          ((gd L σ o.guard=false∧GoQ P f n L s0 k R s (putS σ o.dst undef) w)∨(gd L σ o.guard=true∧∃v,(∀w',(m=.pure∨Same w w')→OpV P o.op o.type σ w' v w')∧GoQ P f n L s0 k R s (putS σ o.dst v) w)) →
          wpD P L.toArray (exOf s0) (QN P f k R) (s.length+1) listed a w:=by
        intro m hmx hr hf h
        rcases h with ⟨hg,hq⟩ | ⟨hg,v,hv,hq⟩
        · refine Jb1 (plainQN P f k R) (v:=undef) hi (Region.noSelect_spec hsel) hmx s.length listed a w hdc (Region.free_spec hi hf) hr (.inr ⟨by rw[gd_eq ha];exact hg,rfl⟩) (ih hr undef w hq)
        · refine Jb1 (plainQN P f k R) (v:=v) hi (Region.noSelect_spec hsel) hmx s.length listed a w hdc (Region.free_spec hi hf) hr (.inl ⟨by rw[gd_eq ha];exact hg,fun w' hw'=>?_⟩) (ih hr v w hq);have:=hv w' hw';unfold OpV at this;rw[J1z,ha.eval];exact this
      have loud:∀(C:World→Prop) (_:∀w',C w'→Same w w'∨exOf s0 i=true),Region.ready .any L.toArray listed=[i] →
          ((gd L σ o.guard=false∧GoQ P f n L s0 k R s (putS σ o.dst undef) w)∨(gd L σ o.guard=true∧((∃v w',OpV P o.op o.type σ w v w'∧C w'∧GoQ P f n L s0 k R s (putS σ o.dst v) w') ∨
          OpC P o.op o.type σ w fun v w'=>C w'∧GoQ P f n L s0 k R s (putS σ o.dst v) w'))) →
          wpD P L.toArray (exOf s0) (QN P f k R) (s.length+1) listed a w:=by
        intro C hC hr h
        have hri:i∈Region.ready .any L.toArray listed:=by rw[hr];exact List.mem_singleton.2 rfl
        refine⟨fun h0=>(by rw[h0] at hr;cases hr),fun j hj=>?_⟩;rw[hr] at hj;obtain rfl:=List.mem_singleton.1 hj;unfold wpOp;simp only[hi];rw[gd_eq ha]
        rcases h with ⟨hg,hq⟩ | ⟨hg,h⟩
        · rw[hg];exact⟨.inl (Same.refl w),ih hri undef w hq⟩
        · rw[hg,if_pos rfl];refine .inl ?_;unfold Oper.wp;rw[J1z,ha.eval]
          rcases h with ⟨v,w',hv,hc,hq⟩ | ⟨fc,args,hx,hcall⟩
          · rcases hv with hv | ⟨hv,rfl⟩<;>(rw[hv];exact⟨hC w' hc,ih hri _ w' hq⟩)
          · rw[hx]
            exact Calls.mono hcall fun e w'' ⟨v,he,hc,hq⟩=>by subst he;exact⟨hC w'' hc,ih hri v w'' hq⟩
      cases m with
      | pure =>
        simp only[Bool.and_eq_true] at hm;refine quiet .pure (.inl rfl) (by simpa using hm.1) hm.2 ?_
        rcases h with h | ⟨hg,v,hv,hq⟩
        · exact .inl h
        · exact .inr ⟨hg,v,fun w' _=>hv w',hq⟩
      | stable =>
        simp only[Bool.and_eq_true] at hm;refine quiet .stable (.inr ⟨dep,fun j hj hji=>?_⟩) (by simpa using hm.1.1) hm.1.2 ?_
        · simp only[exOf,List.any_eq_true,Bool.and_eq_true] at hj;obtain⟨p,hp,hpj,hpm⟩:=hj;have h1:=List.all_eq_true.1 hm.2 p hp;have e1:=Nat.eq_of_beq_eq_true hpj
          cases hp2:p.2<;>simp[hp2] at hpm h1
          rcases h1 with h1 | h1
          · exact absurd (e1.symm.trans h1) hji
          · rw[←e1];exact h1
        · rcases h with h | ⟨hg,v,hv,hq⟩
          · exact .inl h
          · exact .inr ⟨hg,v,fun w' hw'=>hv w' (hw'.resolve_left (by simp)),hq⟩
      | loud =>
        refine loud (Same w) (fun w' h'=>.inl h') (by simpa using hm) ?_;exact h
      | last =>
        simp only[Bool.and_eq_true] at hm;refine loud (fun _=>True) (fun w' _=>.inr hm.2) (by simpa using hm.1) ?_
        rcases h with h | ⟨hg,h | h⟩
        · exact .inl h
        · obtain⟨v,w',hv,hq⟩:=h;exact .inr ⟨hg,.inl ⟨v,w',hv,trivial,hq⟩⟩
        · obtain⟨fc,args,hx',hcall⟩:=h;exact .inr ⟨hg,.inr ⟨fc,args,hx',CallsV.mono hcall fun v w' hq=>⟨trivial,hq⟩⟩⟩
theorem Go1.draw {P:Program} {f n:Nat} {L:List Oper} {k:List Item} {σ:Nat→Value} {w:World} {R:Value→World→Prop} {i:Nat} (dep:Nat) (s:List (Nat×Md))
  (hm:P.follows .mixedOrders=true) (hB:scrOk L dep s=true) (h:GoQ P f n L s k R s σ { w with drawn:=w.drawn+1 }) :
  Go1 P f n (.code (.region i L.toArray true)::k) σ w R:=by
 simp only[scrOk,Bool.and_eq_true] at hB;obtain⟨⟨h1,h2⟩,h3⟩:=hB;have hl:=Nat.eq_of_beq_eq_true h2;intro a ha;refine Cont.of_wp (wp_region_any hm (J9h (ex:=exOf s) _ _ _ _ ?_));have:=Jau (dep:=dep) h1 s (Array.replicate L.length false) h3 (by simpa using DC.start L.toArray) σ _ a ha h;rw[hl] at this;simpa using this
section
variable {P:Program} {f n:Nat} {L:List Oper} {s0 s:List (Nat×Md)} {k:List Item} {σ:Nat→Value} {w w':World} {R:Value→World→Prop} {i:Nat}
theorem GoQ.nil (h:Go1 P f n k σ w R):GoQ P f n L s0 k R [] σ w:=h
theorem GoQ.pure {d:Option Nat} {op:Op} {ty:TypeId} {pos:String} {aft:Array Edge} {g:Option (Nat×Bool)} {v:Value}
  (hi:nth L i=some ⟨d,op,ty,pos,aft,g⟩) (hv:∀w',OpV P op ty σ w' v w') (hg:gd L σ g=true) (hd:dOk n d=true)
  (h:GoQ P f n L s0 k R s (putS σ d v) w):GoQ P f n L s0 k R ((i,.pure)::s) σ w:=by
 simp only[GoQ,hi];exact⟨hd,.inr ⟨hg,v,hv,h⟩⟩
theorem GoQ.stable {d:Option Nat} {op:Op} {ty:TypeId} {pos:String} {aft:Array Edge} {g:Option (Nat×Bool)} {v:Value}
  (hi:nth L i=some ⟨d,op,ty,pos,aft,g⟩) (hv:∀w',Same w w'→OpV P op ty σ w' v w') (hg:gd L σ g=true) (hd:dOk n d=true)
  (h:GoQ P f n L s0 k R s (putS σ d v) w):GoQ P f n L s0 k R ((i,.stable)::s) σ w:=by
 simp only[GoQ,hi];exact⟨hd,.inr ⟨hg,v,hv,h⟩⟩
theorem GoQ.pass {d:Option Nat} {op:Op} {ty:TypeId} {pos:String} {aft:Array Edge} {g:Option (Nat×Bool)} {m:Md}
  (hi:nth L i=some ⟨d,op,ty,pos,aft,g⟩) (hg:gd L σ g=false) (hd:dOk n d=true)
  (h:GoQ P f n L s0 k R s (putS σ d undef) w):GoQ P f n L s0 k R ((i,m)::s) σ w:=by
 cases m<;>(simp only[GoQ,hi];exact⟨hd,.inl ⟨hg,h⟩⟩)
theorem GoQ.loud {d:Option Nat} {op:Op} {ty:TypeId} {pos:String} {aft:Array Edge} {g:Option (Nat×Bool)} {v:Value}
  (hi:nth L i=some ⟨d,op,ty,pos,aft,g⟩) (hv:OpV P op ty σ w v w') (hs:Same w w') (hg:gd L σ g=true) (hd:dOk n d=true)
  (h:GoQ P f n L s0 k R s (putS σ d v) w'):GoQ P f n L s0 k R ((i,.loud)::s) σ w:=by
 simp only[GoQ,hi];exact⟨hd,.inr ⟨hg,.inl ⟨v,w',hv,hs,h⟩⟩⟩
theorem GoQ.last {d:Option Nat} {op:Op} {ty:TypeId} {pos:String} {aft:Array Edge} {g:Option (Nat×Bool)} {v:Value}
  (hi:nth L i=some ⟨d,op,ty,pos,aft,g⟩) (hv:OpV P op ty σ w v w') (hg:gd L σ g=true) (hd:dOk n d=true)
  (h:GoQ P f n L s0 k R s (putS σ d v) w'):GoQ P f n L s0 k R ((i,.last)::s) σ w:=by
 simp only[GoQ,hi];exact⟨hd,.inr ⟨hg,.inl ⟨v,w',hv,h⟩⟩⟩
theorem GoQ.call {d:Option Nat} {op:Op} {ty:TypeId} {pos:String} {aft:Array Edge} {g:Option (Nat×Bool)} {R1:Value→World→Prop}
  (hi:nth L i=some ⟨d,op,ty,pos,aft,g⟩) (hc:OpC P op ty σ w R1) (hs:∀v w',R1 v w'→Same w w') (hg:gd L σ g=true) (hd:dOk n d=true)
  (h:∀v w',R1 v w'→GoQ P f n L s0 k R s (putS σ d v) w'):GoQ P f n L s0 k R ((i,.loud)::s) σ w:=by
 simp only[GoQ,hi];obtain⟨fc,args,hx,hcall⟩:=hc;exact⟨hd,.inr ⟨hg,.inr ⟨fc,args,hx,CallsV.mono hcall fun v w' h'=>⟨hs v w' h',h v w' h'⟩⟩⟩⟩
theorem GoQ.callLast {d:Option Nat} {op:Op} {ty:TypeId} {pos:String} {aft:Array Edge} {g:Option (Nat×Bool)} {R1:Value→World→Prop}
  (hi:nth L i=some ⟨d,op,ty,pos,aft,g⟩) (hc:OpC P op ty σ w R1) (hg:gd L σ g=true) (hd:dOk n d=true)
  (h:∀v w',R1 v w'→GoQ P f n L s0 k R s (putS σ d v) w'):GoQ P f n L s0 k R ((i,.last)::s) σ w:=by
 simp only[GoQ,hi];obtain⟨fc,args,hx,hcall⟩:=hc;exact⟨hd,.inr ⟨hg,.inr ⟨fc,args,hx,CallsV.mono hcall fun v w' h'=>h v w' h'⟩⟩⟩
end
theorem Go1.drawS {P:Program} {f n:Nat} {L:List Oper} {k:List Item} {σ:Nat→Value} {w:World} {R:Value→World→Prop} {i:Nat} (dep:Nat) (s:List (Nat×Md))
  (hm:P.follows .mixedOrders=true) (hB:scrOk L dep s=true) (h:∀w1,Same w w1→GoQ P f n L s k R s σ w1) :
  Go1 P f n (.code (.region i L.toArray true)::k) σ w R:=Go1.draw dep s hm hB (h _ (Same.drew w))
end Sg
