/- -/
import Derived.Test.YtbmaaecppfdjfaaGreatDoorCC
import Derived.Test.YtbmaaecppfdjfaaGreatDoorCB
set_option linter.unusedVariables false
set_option linter.unusedSimpArgs false
namespace Sg
open Go Go.RowKit
inductive MdA where
 | pure | stable | loud | last | alloc
 deriving DecidableEq
structure Grw (A:List Nat) (w:World) (A1:List Nat) (w1:World):Prop where
 same:Same w w1
 app:∃hb:List Nat,A1.Perm (hb++A)∧∀b∈hb,w.heap.size≤b∧b<w1.heap.size
theorem Grw.refl (A:List Nat) (w:World):Grw A w A w:=⟨Same.refl w,[],List.Perm.refl _,fun _ h=>nomatch h⟩
theorem Grw.trans {A B C:List Nat} {u v w:World} (h:Grw A u B v) (k:Grw B v C w):Grw A u C w:=by
 obtain⟨hb,h1,h2⟩:=h.app;obtain⟨kb,k1,k2⟩:=k.app;refine⟨h.same.trans k.same,kb++hb,?_,fun b hm=>?_⟩
 ·refine k1.trans ?_;rw[List.append_assoc];exact h1.append_left kb
 ·have:=h.same.size;have:=k.same.size
  rcases List.mem_append.1 hm with hm | hm
  ·have:=k2 b hm;omega
  ·have:=h2 b hm;omega
theorem Grw.ch {A A1:List Nat} {w w1:World} (h:Grw A w A1 w1) (B:List Nat):Ch (B++A) w (B++A1) w1:=by
 obtain⟨hb,h1,h2⟩:=h.app;refine⟨h.same.size,fun b hlt hn=>⟨h.same.block b hlt,fun hm=>?_⟩⟩;simp only[List.mem_append,not_or] at hn hm
 rcases hm with hm | hm
 ·exact hn.1 hm
 ·rcases List.mem_append.1 (h1.mem_iff.1 hm) with hm | hm
  ·have:=h2 b hm;omega
  ·exact hn.2 hm
theorem Grw.own {A A1:List Nat} {w w1:World} (h:Grw A w A1 w1) {n0:Nat} {E:List Ent} (hO:Owns n0 w E A):Owns n0 w1 E A1:=by
 obtain⟨hb,h1,h2⟩:=h.app;have hs:=h.same.size;refine⟨Nat.le_trans hO.le hs,fun b hm=>?_,hO.nd,fun b hm hA=>?_,fun e he=>Ent.keep (hO.at_ e he) fun b hb=>h.same.block b (Ent.lt (hO.at_ e he) b hb).2⟩
 ·rcases List.mem_append.1 (h1.mem_iff.1 hm) with hm | hm
  ·exact(h2 b hm).2
  ·exact Nat.lt_of_lt_of_le (hO.bd b hm) hs
 ·rcases List.mem_append.1 (h1.mem_iff.1 hA) with hA | hA
  ·have:=(h2 b hA).1;have:=hO.lt b (List.mem_append_left _ hm);omega
  ·exact hO.out b hm hA
structure Kp (A:List Nat) (w w':World):Prop where
 size:w.heap.size≤w'.heap.size
 keep:∀b∈A,w'.heap[b]?=w.heap[b]?
theorem Stp.kp {n0:Nat} {A:List Nat} {w w':World} {E E':List Ent} (hO:Owns n0 w E A) (h:Stp n0 A w E w' E'):Kp A w w':=
 ⟨h.fr.ch.size,fun b hb=>(h.fr.ch.keep b (hO.bd b hb) fun hm=>hO.out b hm hb).1⟩
theorem Same.kp {n0:Nat} {A:List Nat} {w w':World} {E:List Ent} (hO:Owns n0 w E A) (h:Same w w'):Kp A w w':=
 ⟨h.size,fun b hb=>h.block b (hO.bd b hb)⟩
theorem Owns.gain {n0 N0 b:Nat} {A A2:List Nat} {w:World} {E:List Ent} {e:Ent} (hO:Owns n0 w E A) (hp:A.Perm (b::A2)) (hn:n0≤N0) (hf:e.fp=[b]) (he:e.holds N0 w) (hd:b∉A2):Owns n0 w (e::E) A2:=by
 have hbl:bl (e::E)=b::bl E:=by simp[bl,hf]
 have hbA:b∈A:=hp.mem_iff.2 (by simp);refine⟨hO.le,fun x hx=>hO.bd x (hp.mem_iff.2 (List.mem_cons_of_mem _ hx)),?_,fun x hx hA=>?_,fun x hx=>?_⟩
 ·rw[hbl];exact List.nodup_cons.2 ⟨fun hm=>hO.out b hm hbA,hO.nd⟩
 ·rw[hbl] at hx
  rcases List.mem_cons.1 hx with rfl | hx
  ·exact hd hA
  ·exact hO.out x hx (hp.mem_iff.2 (List.mem_cons_of_mem _ hA))
 ·rcases List.mem_cons.1 hx with rfl | hx
  ·exact Ent.base hn he
  ·exact hO.at_ x hx
theorem gainCh {b:Nat} {A A2:List Nat} {w:World} {E:List Ent} {e:Ent} (hp:A.Perm (b::A2)) (hf:e.fp=[b]):Ch (bl E++A) w (bl (e::E)++A2) w:=by
 refine Ch.mem w fun x hx=>?_
 have hbl:bl (e::E)=b::bl E:=by simp[bl,hf]
 rw[hbl] at hx;simp only[List.cons_append,List.mem_cons,List.mem_append] at hx ⊢
 rcases hx with rfl | hx | hx
 ·exact .inr (hp.mem_iff.2 (by simp))
 ·exact .inl hx
 ·exact .inr (hp.mem_iff.2 (List.mem_cons_of_mem _ hx))
theorem Fr.gain {B0:List Nat} {w0 w:World} {E:List Ent} {e:Ent} {b:Nat} (h:Fr B0 w0 (bl E) w) (hb:w0.heap.size≤b) (hf:e.fp=[b]):Fr B0 w0 (bl (e::E)) w:=by
 refine⟨h.os,h.tape,h.output,⟨h.ch.size,fun x hx hn=>⟨(h.ch.keep x hx hn).1,fun hm=>?_⟩⟩⟩
 have hbl:bl (e::E)=b::bl E:=by simp[bl,hf]
 rw[hbl] at hm
 rcases List.mem_cons.1 hm with rfl | hm
 ·omega
 ·exact(h.ch.keep x hx hn).2 hm
theorem permCh {A A0:List Nat} {w:World} (hp:A.Perm A0) (B:List Nat):Ch (B++A) w (B++A0) w:=Ch.mem w fun x hx=>by
 simp only[List.mem_append] at hx ⊢
 exact hx.imp id hp.mem_iff.2
theorem Owns.permA {n0:Nat} {A A0:List Nat} {w:World} {E:List Ent} (hO:Owns n0 w E A) (hp:A.Perm A0):Owns n0 w E A0:=
 ⟨hO.le,fun b hb=>hO.bd b (hp.mem_iff.2 hb),hO.nd,fun b hb hA=>hO.out b hb (hp.mem_iff.2 hA),hO.at_⟩
def AlE (P:Program) (op:Op) (ty:TypeId) (σ:Nat→Value) (vf:Nat→Value) (ef:Nat→Ent):Prop:=
 (∀b,(ef b).fp=[b])∧∀w,∃w',OpV P op ty σ w (vf w.heap.size) w'∧Same w w'∧w.heap.size<w'.heap.size∧(ef w.heap.size).holds w.heap.size w'
theorem OpV.det {P:Program} {op:Op} {ty:TypeId} {σ:Nat→Value} {w w1 w2:World} {v1 v2:Value} (h:OpV P op ty σ w v1 w1) (k:OpV P op ty σ w v2 w2):v1=v2∧w1=w2:=by
 rcases h with h | ⟨h,rfl⟩<;>rcases k with k | ⟨k,rfl⟩<;>rw[h] at k<;>cases k<;>exact⟨rfl,rfl⟩
theorem ev_congr {ops:Array Oper} {o:Oper} {σ τ:Nat→Value} (h:∀t∈o.looksAt ops,τ t=σ t):∀x∈o.op.operands,ev τ x=ev σ x:=by
 intro x hx
 cases x with
 | tmp t=>exact h t (List.mem_append_left _ (List.mem_filterMap.2 ⟨.tmp t,by simpa using hx,rfl⟩))
 | _=>rfl
theorem Jas {ops:Array Oper} {o:Oper} (hs:∀cs b,o.op≠.select cs b) {σ τ:Nat→Value} (h:∀t∈o.looksAt ops,τ t=σ t):execOp (ev τ) (opr o.op o.type)=execOp (ev σ) (opr o.op o.type):=
 execOp_congr (opr o.op o.type) hs (fun x hx=>ev_congr (o:=o) h x hx)
theorem OpV.congr {ops:Array Oper} {o:Oper} (hs:∀cs b,o.op≠.select cs b) {P:Program} {σ τ:Nat→Value} (h:∀t∈o.looksAt ops,τ t=σ t) {w w':World} {v:Value}:OpV P o.op o.type τ w v w'↔OpV P o.op o.type σ w v w':=by
 unfold OpV;rw[Jas hs h]
theorem AlE.congr {ops:Array Oper} {o:Oper} (hs:∀cs b,o.op≠.select cs b) {P:Program} {σ τ:Nat→Value} (h:∀t∈o.looksAt ops,τ t=σ t) {vf:Nat→Value} {ef:Nat→Ent} (k:AlE P o.op o.type τ vf ef):AlE P o.op o.type σ vf ef:=
 ⟨k.1,fun w=>let ⟨w',h1,h2⟩:=k.2 w;⟨w',(OpV.congr hs h).1 h1,h2⟩⟩
theorem JaX {L:List Oper} {o:Oper} {σ τ:Nat→Value} (h:∀t∈o.looksAt L.toArray,τ t=σ t):gd L τ o.guard=gd L σ o.guard:=by
  cases hg:o.guard with
  | none=>rfl
  | some p =>
    obtain⟨j,want⟩:=p;simp only[gd]
    cases hj:nth L j with
    | none=>rfl
    | some oj =>
      simp only[]
      cases hd:oj.dst with
      | none=>rfl
      | some d =>
        simp only[];rw[h d];refine List.mem_append_right _ ?_;rw[J3i] at hj;simp[hg,hj,hd]
theorem J82 {σ:Nat→Value} {d:Option Nat} {v:Value} {t:Nat} (h:∀e,d=some e→e≠t):putS σ d v t=σ t:=by
  cases d with
  | none=>rfl
  | some e =>
    show upd σ e v t=σ t
    rw[Jci,if_neg (Ne.symm (h e rfl))]
theorem JaB {σ:Nat→Value} {d:Nat} {v:Value}:putS σ (some d) v d=v:=by
 show upd σ d v d=v
 rw[Jci,if_pos rfl]
def LqOk (Lq:List (Option Addr)) (w:World):Prop:=∀q∈Lq,∀a,q=some a→a.block<w.heap.size
structure RTw (T:World→World→Prop):Prop where
 refl:∀w,T w w
 trans:∀{a b c},T a b→T b c→T a c
structure TR (T:World→World→Prop) (ok:World→Prop):Prop where
 rt:RTw T
 same:∀{w w'},ok w→Same w w'→T w w'
 up:∀{w w'},ok w→w.heap.size≤w'.heap.size→ok w'
theorem Same.tr:TR Same (fun _=>True):=⟨⟨Same.refl,Same.trans⟩,fun _ h=>h,fun _ _=>trivial⟩
section
variable {P:Program} {ops:Array Oper} {Q:Exit→Act→World→Prop} {T:World→World→Prop}
def wpDT (T:World→World→Prop) (P:Program) (ops:Array Oper) (ex:Nat→Bool) (Q:Exit→Act→World→Prop):Nat→Array Bool→Act→World→Prop
  | 0,listed,a,w=>Region.ready .any ops listed=[]∧Q .normal a w
  | fuel + 1, listed, a, w =>
    (Region.ready .any ops listed=[]→Q .normal a w) ∧
    ∀i∈Region.ready .any ops listed,wpOp P ops Q i (fun a' w'=>(T w w'∨ex i=true)∧wpDT T P ops ex Q fuel (listed.setIfInBounds i true) a' w') a w
theorem J6A {ex:Nat→Bool}:∀(fuel:Nat) (listed:Array Bool) (a:Act) (w:World),wpDT T P ops ex Q fuel listed a w→wpAny P .any ops Q fuel listed a w
 | 0,_,_,_,h=>h
 | fuel+1,_,_,_,h=>⟨h.1,fun i hi=>wpOp_mono (fun a' w' h'=>J6A fuel _ a' w' h'.2) (h.2 i hi)⟩
def YDT (T:World→World→Prop) (P:Program) (ops:Array Oper) (m:Md) (o:Oper) (v:Value) (a:Act) (w:World):Prop:=
 (Region.wanted o (yielded ops a.tmps)=true∧∀w',(m=.pure∨T w w')→((execOp a.eval o).run P w'=.ok (.value v) w'∨((execOp a.eval o).run P w'=.ok .skip w'∧v=undef))) ∨
 (Region.wanted o (yielded ops a.tmps)=false∧v=undef)
theorem YDT.run (hT:RTw T) {m:Md} {i:Nat} {o:Oper} {v:Value} {a:Act} {w:World} (hi:ops[i]?=some o) (hy:YDT T P ops m o v a w) {K:Act→World→Prop} (h:K (a.put o.dst v) w):wpOp P ops Q i K a w:=by
 unfold wpOp;simp only[hi]
 rcases hy with ⟨hw,hv⟩ | ⟨hw,rfl⟩
 ·simp only[hw,if_true];refine .inl ?_;unfold Oper.wp
  rcases hv w (.inr (hT.refl w)) with hx | ⟨hx,rfl⟩<;>(rw[hx];exact h)
 ·simp only[hw,Bool.false_eq_true,if_false];exact h
theorem YDT.keep (hT:RTw T) {m:Md} {oi oj:Oper} {v:Value} {a:Act} {w w':World} (hy:YDT T P ops m oi v a w) (hap:oi.apart ops oj=true) (hsi:∀cs b,oi.op≠.select cs b)
  (hw:m=.pure∨T w w') {a':Act} (ha:∃u ds,a'={ a.put oj.dst u with defers:=ds }):YDT T P ops m oi v a' w':=by
 obtain⟨u,ds,rfl⟩:=ha;obtain⟨_,_,h3⟩:=Oper.apart_spec hap
 have e1:execOp ({ a.put oj.dst u with defers:=ds }:Act).eval oi=execOp a.eval oi:=by
  have:({ a.put oj.dst u with defers:=ds }:Act).eval=(a.put oj.dst u).eval:=by funext x;cases x<;>rfl
  rw[this];exact execOp_put oi hsi a oj.dst u h3
 have e2:=wanted_put oi a oj.dst u h3;unfold YDT at *;rw[e1]
 show (Region.wanted oi (yielded ops (a.put oj.dst u).tmps)=true∧_)∨(Region.wanted oi (yielded ops (a.put oj.dst u).tmps)=false∧_)
 rw[e2]
 rcases hy with ⟨h1,h2⟩ | h
 ·refine .inl ⟨h1,fun w'' h''=>h2 w'' ?_⟩
  rcases hw with hw | hw
  ·exact .inl hw
  ·rcases h'' with h'' | h''
   ·exact .inl h''
   ·exact .inr (hT.trans hw h'')
 ·exact .inr h
theorem J4t (hT:RTw T) (hQ:Plain Q) {ex:Nat→Bool} {m:Md} {i:Nat} {oi:Oper} {v:Value} (hi:ops[i]?=some oi) (hsel:∀(j:Nat) (o:Oper) cs b,ops[j]?=some o→o.op≠.select cs b)
    (hm:m=.pure∨∃n,∀j,ex j=true→j≠i→anc ops n j i=true) :
    ∀(fuel:Nat) (listed:Array Bool) (a:Act) (w:World),DC ops listed →
      (∀j oj,ops[j]?=some oj→j≠i→listed.getD j true=false→(∀e∈oj.after,Region.binds .any e=true→e.on≠i)→oi.apart ops oj=true) →
      i∈Region.ready .any ops listed→YDT T P ops m oi v a w →
      wpDT T P ops ex Q fuel (listed.setIfInBounds i true) (a.put oi.dst v) w→wpDT T P ops ex Q (fuel+1) listed a w:=by
  intro fuel
  induction fuel with
  | zero =>
    intro listed a w _ _ hr hy H;refine⟨fun h=>(by rw[h] at hr;cases hr),fun j hj=>?_⟩;by_cases hji:j=i
    · subst hji;exact hy.run hT hi ⟨.inl (hT.refl w),H⟩
    · have:=ready_mono hj hji;rw[H.1] at this
      cases this
  | succ fuel ih =>
    intro listed a w hdc hfree hr hy H;refine⟨fun h=>(by rw[h] at hr;cases hr),fun j hj=>?_⟩;by_cases hji:j=i
    · subst hji;exact hy.run hT hi ⟨.inl (hT.refl w),H⟩
    · have h1:=H.2 j (ready_mono hj hji);obtain⟨hjun,oj,hoj,hall⟩:=mem_ready.1 hj;have hiun:listed.getD i true=false:=(mem_ready.1 hr).1
      have hnot:∀e∈oj.after,Region.binds .any e=true→e.on≠i:=fun e he hb heq=>by
        have h1:=hall e he hb;rw[heq] at h1
        rcases Nat.lt_or_ge i listed.size with h' | h'
        · simp[h'] at hiun h1;rw[hiun] at h1;cases h1
        · simp[Array.getElem?_eq_none h'] at h1
      have hap:=hfree j oj hoj hji hjun hnot
      have hex:m=.pure∨ex j≠true:=by
        rcases hm with hm | ⟨n,hm⟩
        · exact .inl hm
        · refine .inr fun hxj=>?_
          have hl:=J95 hdc n j i (hm j hxj hji) fun o ho e he hb=>by rw[hoj] at ho;cases ho;exact hall e he hb
          rcases Nat.lt_or_ge i listed.size with h' | h'
          · simp[h'] at hiun hl;rw[hiun] at hl;cases hl
          · simp[Array.getElem?_eq_none h'] at hl
      have h2:=wpOp_put hQ hoj hap (fun cs b=>hsel j oj cs b hoj) h1
      have hfree':∀k ok,ops[k]?=some ok→k≠i→(listed.setIfInBounds j true).getD k true=false →
          (∀e∈ok.after,Region.binds .any e=true→e.on≠i)→oi.apart ops ok=true:=fun k ok hk hki hun hno=>by
        refine hfree k ok hk hki ?_ hno;by_cases hjk:j=k
        · subst hjk;exact hjun
        · rw[getD_set_ne true hjk] at hun;exact hun
      refine wpOp_mono (fun a' w' h3=>?_) h2;obtain⟨ha',hsame,hrest⟩:=h3;refine⟨hsame,?_⟩
      have hcls:m=.pure∨T w w':=by
        rcases hex with h | h
        · exact .inl h
        · exact .inr (hsame.resolve_right h)
      refine ih (listed.setIfInBounds j true) a' w' (hdc.next hj) hfree' (ready_mono hr (Ne.symm hji)) (hy.keep hT hap (fun cs b=>hsel i oi cs b hi) hcls ha') ?_;rw[Array.setIfInBounds_comm _ _ hji];exact hrest
end
section
variable (N0:Nat) (A0:List Nat) (T:World→World→Prop) (P:Program) (f n:Nat) (L:List Oper) (k:List Item) (R:Value→World→Prop)
def GoQA:List (Nat×MdA)→(Nat→Value)→World→List Nat→Prop
  | [],σ,w,A=>∀w1 A1,Grw A w A1 w1→A1.Perm A0→Go1 P f n k σ w1 R
  | (i, m) :: s, σ, w, A => match nth L i with
    | none=>False
    | some o => dOk n o.dst = true ∧ (match m with
      | .pure=>(gd L σ o.guard=false∧GoQA s (putS σ o.dst undef) w A)∨(gd L σ o.guard=true∧∃v,(∀w',OpV P o.op o.type σ w' v w')∧GoQA s (putS σ o.dst v) w A)
      | .stable=>(gd L σ o.guard=false∧GoQA s (putS σ o.dst undef) w A)∨(gd L σ o.guard=true∧∃v,(∀w',T w w'→OpV P o.op o.type σ w' v w')∧GoQA s (putS σ o.dst v) w A)
      | .loud=>∀w1 A1,Grw A w A1 w1→(gd L σ o.guard=false∧GoQA s (putS σ o.dst undef) w1 A1)∨(gd L σ o.guard=true∧((∃v w',OpV P o.op o.type σ w1 v w'∧T w1 w'∧Kp A1 w1 w'∧GoQA s (putS σ o.dst v) w' A1) ∨
          OpC P o.op o.type σ w1 fun v w'=>T w1 w'∧Kp A1 w1 w'∧GoQA s (putS σ o.dst v) w' A1))
      | .last=>∀w1 A1,Grw A w A1 w1→(gd L σ o.guard=false∧GoQA s (putS σ o.dst undef) w1 A1)∨(gd L σ o.guard=true∧((∃v w',OpV P o.op o.type σ w1 v w'∧Kp A1 w1 w'∧GoQA s (putS σ o.dst v) w' A1) ∨
          OpC P o.op o.type σ w1 fun v w'=>Kp A1 w1 w'∧GoQA s (putS σ o.dst v) w' A1))
      | .alloc=>o.guard=none∧∃vf ef,AlE P o.op o.type σ vf ef∧∀w1 A1 b A2,Grw A w A1 w1→A1.Perm (b::A2)→b∉A2→N0≤b→(ef b).holds N0 w1→GoQA s (putS σ o.dst (vf b)) w1 A2)
end
section
variable {N0:Nat} {A0:List Nat} {T:World→World→Prop} {ok:World→Prop} {P:Program} {f n:Nat} {L:List Oper} {k:List Item} {R:Value→World→Prop}
theorem GoQA.grow (hT:TR T ok):∀{s:List (Nat×MdA)} {σ:Nat→Value} {w w1:World} {A A1:List Nat},ok w→GoQA N0 A0 T P f n L k R s σ w A→Grw A w A1 w1→GoQA N0 A0 T P f n L k R s σ w1 A1
  | [],σ,w,w1,A,A1,hq,h,hg=>fun w2 A2 hg2 hp=>h w2 A2 (hg.trans hg2) hp
  | (i, m) :: s, σ, w, w1, A, A1, hq, h, hg => by
    simp only[GoQA] at h ⊢
    cases hn:nth L i with
    | none=>simp[hn] at h
    | some o =>
      simp only[hn] at h ⊢
      refine⟨h.1,?_⟩
      replace h:=h.2
      have hcs:=hT.same hq hg.same
      cases m with
      | pure =>
        rcases h with ⟨h1,h2⟩ | ⟨h1,v,h2,h3⟩
        · exact .inl ⟨h1,h2.grow hT hq hg⟩
        · exact .inr ⟨h1,v,h2,h3.grow hT hq hg⟩
      | stable =>
        rcases h with ⟨h1,h2⟩ | ⟨h1,v,h2,h3⟩
        · exact .inl ⟨h1,h2.grow hT hq hg⟩
        · exact .inr ⟨h1,v,fun w' hw'=>h2 w' (hT.rt.trans hcs hw'),h3.grow hT hq hg⟩
      | loud=>exact fun w2 A2 hg2=>h w2 A2 (hg.trans hg2)
      | last=>exact fun w2 A2 hg2=>h w2 A2 (hg.trans hg2)
      | alloc =>
        obtain⟨h1,vf,ef,h2,h3⟩:=h
        exact⟨h1,vf,ef,h2,fun w2 A2 b A3 hg2=>h3 w2 A2 b A3 (hg.trans hg2)⟩
end
def alsOf:List (Nat×MdA)→List Nat
  | []=>[]
  | (i, m) :: s => match m with
    | .alloc=>i::alsOf s
    | _=>alsOf s
def setAllB:Array Bool→List Nat→Array Bool
 | l,[]=>l
 | l,j::js=>setAllB (l.setIfInBounds j true) js
def depB (ops:Array Oper) (j i:Nat):Bool:=match ops[j]? with
 | some o=>o.after.any fun e=>Region.binds .any e && Nat.beq e.on i
 | none=>false
def apB (ops:Array Oper) (j i:Nat):Bool:=match ops[j]? with
  | some x => match ops[i]? with
    | some y=>x.apart ops y
    | none=>false
  | none=>false
def isAl:MdA→Bool
 | .alloc=>true
 | _=>false
def exA (s:List (Nat×MdA)) (j:Nat):Bool:=s.any fun p=>Nat.beq p.1 j && (match p.2 with | .last=>true | _=>false)
def scrA (ops:Array Oper) (dep:Nat) (s0:List (Nat×MdA)):List (Nat×MdA)→Array Bool→Bool
  | [],listed=>(Region.ready .any ops listed).isEmpty
  | (i, m) :: s, listed =>
    (Region.ready .any ops listed).contains i &&
    (match m with
      | .pure=>Region.free .any ops listed i
      | .stable=>Region.free .any ops listed i && s0.all (fun p=>(match p.2 with | .last=>Nat.beq p.1 i || anc ops dep p.1 i | _=>true))
      | .loud=>(Region.ready .any ops (setAllB listed (alsOf s))) == [i]
      | .last=>(Region.ready .any ops (setAllB listed (alsOf s))) == [i] && exA s0 i
      | .alloc=>(Region.ready .any ops (setAllB listed (alsOf s))) == [i]) &&
    ((alsOf s).all (fun j=>!(Nat.beq j i) && (apB ops j i || (!(isAl m) && depB ops j i))) &&
    (s.all (fun p=>!(Nat.beq p.1 i)) && scrA ops dep s0 s (listed.setIfInBounds i true)))
def scrOkA (L:List Oper) (dep:Nat) (s:List (Nat×MdA)):Bool:=
 Region.noSelect L.toArray && (Nat.beq s.length L.length && scrA L.toArray dep s s (Array.replicate L.length false))
theorem J9G {s:List (Nat×MdA)} {j:Nat}:j∈alsOf s↔(j,MdA.alloc)∈s:=by
  induction s with
  | nil=>simp[alsOf]
  | cons p s ih =>
    obtain⟨i,m⟩:=p
    cases m<;>simp[alsOf,ih]
theorem J76 {js:List Nat}:∀{l:Array Bool} {j:Nat},(setAllB l js).getD j false=true↔l.getD j false=true∨(j∈js∧j<l.size):=by
  induction js with
  | nil=>simp[setAllB]
  | cons i js ih =>
    intro l j;simp only[setAllB,ih,Array.size_setIfInBounds];by_cases hij:i=j
    · subst hij;by_cases hlt:i<l.size
      · simp[hlt]
      · simp[hlt]
    · rw[getD_set_ne false hij];simp[Ne.symm hij]
theorem Jb8 {js:List Nat}:∀{l:Array Bool},(setAllB l js).size=l.size:=by
 induction js with
 | nil=>intro l;rfl
 | cons i js ih=>intro l;simp[setAllB,ih]
theorem J77 {l:Array Bool} {j:Nat} (h:j<l.size):l.getD j true=l.getD j false:=by simp[h]
structure Itm where
 i:Nat
 m:MdA
 g:Option (Value×Nat)
def Itm.fg (x:Itm):Nat×MdA:=(x.i,x.m)
def cnt:List Itm→Nat
  | []=>0
  | x :: s => match x.g with
    | none=>cnt s+1
    | some _=>cnt s
def bsI:List Itm→List Nat
  | []=>[]
  | x :: s => match x.g with
    | none=>bsI s
    | some p=>p.2::bsI s
def setI (j:Nat) (p:Value×Nat):List Itm→List Itm
 | []=>[]
 | x::s=>if x.i=j then ⟨x.i,x.m,some p⟩::s else x::setI j p s
theorem Jav {j:Nat} {p:Value×Nat}:∀{s:List Itm},(setI j p s).map Itm.fg=s.map Itm.fg
  | []=>rfl
  | x :: s => by
    simp only[setI]
    split
    · rfl
    · simp[Jav (s:=s)]
theorem JbP {j:Nat} {p:Value×Nat} {s:List Itm}:(setI j p s).length=s.length:=by
 have:=congrArg List.length (Jav (j:=j) (p:=p) (s:=s));simpa using this
theorem Jco {j:Nat} {p:Value×Nat}:∀{s:List Itm} {y:Itm},y∈s→y.i=j→y.g=none→(∀z∈s,z.i=j→z.g=none)→cnt (setI j p s)+1=cnt s
  | x :: s, y, hy, hi, hg, hall => by
    simp only[setI]
    split
    · rename_i hx
      have:=hall x (by simp) hx
      simp[cnt,this]
    · rename_i hx
      have hy':y∈s:=by
        rcases List.mem_cons.1 hy with rfl | h
        · exact absurd hi hx
        · exact h
      have ih:=Jco hy' hi hg (fun z hz=>hall z (List.mem_cons_of_mem _ hz)) (p:=p);simp only[cnt]
      cases hxg:x.g with
      | none=>simp only[hxg];omega
      | some q=>simp only[hxg];exact ih
theorem Jc2 {j:Nat} {p:Value×Nat}:∀{s:List Itm} {y:Itm},y∈s→y.i=j→(∀z∈s,z.i=j→z.g=none)→(bsI (setI j p s)).Perm (p.2::bsI s)
  | x :: s, y, hy, hi, hall => by
    simp only[setI]
    split
    · rename_i hx
      have:=hall x (by simp) hx
      simp[bsI,this]
    · rename_i hx
      have hy':y∈s:=by
        rcases List.mem_cons.1 hy with rfl | h
        · exact absurd hi hx
        · exact h
      have ih:=Jc2 hy' hi (fun z hz=>hall z (List.mem_cons_of_mem _ hz)) (p:=p);simp only[bsI]
      cases hxg:x.g with
      | none=>simp only[hxg];exact ih
      | some q =>
        simp only[hxg];exact(ih.cons q.2).trans (List.Perm.swap p.2 q.2 (bsI s))
theorem JbW {v:Value} {b:Nat}:∀{s:List Itm} {y:Itm},y∈s→y.g=some (v,b)→b∈bsI s
  | x :: s, y, hy, hg => by
    rcases List.mem_cons.1 hy with rfl | hy
    · simp[bsI,hg]
    · cases hz:x.g with
      | none=>simp only[bsI,hz];exact JbW hy hg
      | some p=>simp only[bsI,hz];exact List.mem_cons_of_mem _ (JbW hy hg)
theorem J9B {j:Nat} {p:Value×Nat}:∀{s:List Itm} {z:Itm},z∈setI j p s→z∈s∨(z.i=j∧z.g=some p∧∃y∈s,y.i=j∧y.m=z.m)
  | x :: s, z, hz => by
    simp only[setI] at hz
    split at hz
    · rename_i hx
      rcases List.mem_cons.1 hz with rfl | h
      · exact .inr ⟨hx,rfl,x,by simp,hx,rfl⟩
      · exact .inl (List.mem_cons_of_mem _ h)
    · rcases List.mem_cons.1 hz with rfl | h
      · exact .inl (by simp)
      · rcases J9B h with h | ⟨h1,h2,y,h3,h4⟩
        · exact .inl (List.mem_cons_of_mem _ h)
        · exact .inr ⟨h1,h2,y,List.mem_cons_of_mem _ h3,h4⟩
theorem JaV {j:Nat} {p:Value×Nat}:∀{s:List Itm} {y:Itm},y∈s→y.i=j→∃z∈setI j p s,z.i=j∧z.g=some p
  | x :: s, y, hy, hi => by
    simp only[setI]
    split
    · rename_i hx;exact⟨⟨x.i,x.m,some p⟩,by simp,hx,rfl⟩
    · rename_i hx
      have hy':y∈s:=by
        rcases List.mem_cons.1 hy with rfl | h
        · exact absurd hi hx
        · exact h
      obtain⟨z,h1,h2⟩:=JaV hy' hi (p:=p);exact⟨z,List.mem_cons_of_mem _ h1,h2⟩
theorem Ja5 {j:Nat} {p:Value×Nat}:∀{s:List Itm} {z:Itm},z∈s→z.i≠j→z∈setI j p s
  | x :: s, z, hz, hi => by
    simp only[setI]
    split
    · rename_i hx
      rcases List.mem_cons.1 hz with rfl | h
      · exact absurd hx hi
      · exact List.mem_cons_of_mem _ h
    · rcases List.mem_cons.1 hz with rfl | h
      · simp
      · exact List.mem_cons_of_mem _ (Ja5 h hi)
def dstOf (L:List Oper) (i:Nat):Option Nat:=(nth L i).bind (·.dst)
structure RelI (L:List Oper) (s:List Itm) (σ τ:Nat→Value):Prop where
 got:∀x∈s,∀p,x.g=some p→∀d,dstOf L x.i=some d→τ d=p.1
 els:∀t,(∀x∈s,x.g.isSome=true→dstOf L x.i≠some t)→τ t=σ t
def OkI (ops:Array Oper):List Itm→Prop
 | []=>True
 | x::s=>(∀y∈s,y.i≠x.i)∧(∀y∈s,y.m=.alloc→apB ops y.i x.i=true∨(x.m≠.alloc∧depB ops y.i x.i=true))∧OkI ops s
theorem Ja4 {ops:Array Oper} {dep:Nat} {s0:List (Nat×MdA)}:∀{s:List Itm} {l:Array Bool},scrA ops dep s0 (s.map Itm.fg) l=true→OkI ops s
  | [],_,_=>trivial
  | x :: s, l, h => by
    simp only[List.map_cons,Itm.fg,scrA,Bool.and_eq_true] at h
    obtain⟨_,h1,h2,h3⟩:=h
    refine⟨fun y hy he=>?_,fun y hy hm=>?_,Ja4 h3⟩
    · have:=List.all_eq_true.1 h2 (y.i,y.m) (List.mem_map.2 ⟨y,hy,rfl⟩)
      rw[he] at this
      simp at this
    · have:=List.all_eq_true.1 h1 y.i (J9G.2 (List.mem_map.2 ⟨y,hy,by simp[Itm.fg,hm]⟩))
      simp only[Bool.and_eq_true,Bool.or_eq_true] at this
      rcases this.2 with k | k
      · exact .inl k
      · refine .inr ⟨fun hx=>?_,k.2⟩
        rw[hx] at k
        simp[isAl] at k
theorem OkI.distinct {ops:Array Oper}:∀{s:List Itm},OkI ops s→∀y∈s,∀z∈s,y.i=z.i→y=z
  | x :: s, h, y, hy, z, hz, he => by
    rcases List.mem_cons.1 hy with rfl | hy'<;>rcases List.mem_cons.1 hz with rfl | hz'
    · rfl
    · exact absurd he.symm (h.1 z hz')
    · exact absurd he (h.1 y hy')
    · exact OkI.distinct h.2.2 y hy' z hz' he
structure Apt (L:List Oper) (i j:Nat):Prop where
 h:∃oi oj,nth L i=some oi∧nth L j=some oj∧(∀d,oi.dst=some d→d∉oj.looksAt L.toArray)∧(∀d,oi.dst=some d→oj.dst≠some d)∧(∀d,oj.dst=some d→d∉oi.looksAt L.toArray)
theorem Apt.of {L:List Oper} {i j:Nat} (h:apB L.toArray i j=true):Apt L i j:=by
  unfold apB at h
  cases hi:L.toArray[i]? with
  | none=>simp[hi] at h
  | some oi =>
    simp only[hi] at h
    cases hj:L.toArray[j]? with
    | none=>simp[hj] at h
    | some oj =>
      simp only[hj] at h;obtain⟨h1,h2,h3⟩:=Oper.apart_spec h;exact⟨oi,oj,by rw[J3i];simpa using hi,by rw[J3i];simpa using hj,h1,h2,h3⟩
theorem Apt.symm {L:List Oper} {i j:Nat} (h:Apt L i j):Apt L j i:=by
 obtain⟨oi,oj,h1,h2,h3,h4,h5⟩:=h.h;exact⟨oj,oi,h2,h1,h5,fun d hd he=>h4 d he hd,h3⟩
theorem Apt.look {L:List Oper} {i j:Nat} (h:Apt L i j) {oi:Oper} (hi:nth L i=some oi) {d:Nat} (hd:dstOf L j=some d):d∉oi.looksAt L.toArray:=by
 obtain⟨a,b,h1,h2,h3,h4,h5⟩:=h.h;rw[hi] at h1
 cases h1
 refine h5 d ?_;simpa [dstOf,h2] using hd
theorem Apt.dst {L:List Oper} {i j:Nat} (h:Apt L i j) {d e:Nat} (hi:dstOf L i=some d) (hj:dstOf L j=some e):d≠e:=by
 obtain⟨a,b,h1,h2,h3,h4,h5⟩:=h.h;intro he;subst he;exact h4 d (by simpa [dstOf,h1] using hi) (by simpa [dstOf,h2] using hj)
theorem RelI.agree {L:List Oper} {s:List Itm} {σ τ:Nat→Value} (h:RelI L s σ τ) {i:Nat} {o:Oper} (ho:nth L i=some o) (hap:∀y∈s,y.g.isSome=true→Apt L i y.i):∀t∈o.looksAt L.toArray,τ t=σ t:=by
 intro t ht;refine h.els t fun y hy hg hd=>?_;exact(hap y hy hg).look ho hd ht
theorem notListed {ops:Array Oper} {dep:Nat} {s0:List (Nat×MdA)}:∀{s:List Itm} {lS:Array Bool} {z:Itm},scrA ops dep s0 (s.map Itm.fg) lS=true→z∈s→lS.getD z.i false=true→False
  | x :: s, lS, z, h, hz, hl => by
    simp only[List.map_cons,Itm.fg,scrA,Bool.and_eq_true] at h
    rcases List.mem_cons.1 hz with rfl | hz
    · have h1:=h.1.1
      have h2:=(mem_ready.1 (by simpa using h1:z.i∈Region.ready .any ops lS)).1
      have hlt:z.i<lS.size:=by
        rcases Nat.lt_or_ge z.i lS.size with h' | h'
        · exact h'
        · simp[Array.getElem?_eq_none h'] at hl
      rw[J77 hlt,hl] at h2
      cases h2
    · exact notListed h.2.2.2 hz (getD_set_true hl)
theorem allocApt {L:List Oper}:∀{s:List Itm} {y z:Itm},OkI L.toArray s→y∈s→z∈s→y.m=.alloc→z.m=.alloc→y≠z→Apt L y.i z.i
  | x :: s, y, z, h, hy, hz, hym, hzm, hne => by
    rcases List.mem_cons.1 hy with rfl | hy'<;>rcases List.mem_cons.1 hz with rfl | hz'
    · exact absurd rfl hne
    · rcases h.2.1 z hz' hzm with k | ⟨k,_⟩
      · exact(Apt.of k).symm
      · exact absurd hym k
    · rcases h.2.1 y hy' hym with k | ⟨k,_⟩
      · exact Apt.of k
      · exact absurd hzm k
    · exact allocApt h.2.2 hy' hz' hym hzm hne
theorem JaD {L:List Oper} {i j:Nat} (h:Apt L i j) {oi oj:Oper} (hi:nth L i=some oi) (hj:nth L j=some oj) {σ:Nat→Value} {v:Value}:∀t∈oi.looksAt L.toArray,putS σ oj.dst v t=σ t:=by
 intro t ht;refine J82 fun e he hte=>?_;subst hte;exact h.look hi (show dstOf L j=some e by simp[dstOf,hj,he]) ht
theorem CallsV.ex {P:Program} {f:FuncId} {args:Array Value} {w:World} {R:Value→World→Prop} (h:CallsV P f args w R):∃v w',R v w':=by
 obtain⟨e,w',fr,⟨v,_,hr⟩,_⟩:=h [];exact⟨v,w',hr⟩
section
variable {N0:Nat} {A0:List Nat} {T:World→World→Prop} {ok:World→Prop} {P:Program} {f n:Nat} {L:List Oper} {k:List Item} {R:Value→World→Prop}
theorem GoQA.passHead (hT:TR T ok) {i:Nat} {m:MdA} {s:List (Nat×MdA)} {σ:Nat→Value} {w:World} {A:List Nat} (hN:N0≤w.heap.size) (hA:∀x∈A,x<w.heap.size) (h:GoQA N0 A0 T P f n L k R ((i,m)::s) σ w A) :
    ∃o v w' A',nth L i=some o∧(∀x∈A',x<w'.heap.size)∧N0≤w'.heap.size∧(ok w→ok w')∧GoQA N0 A0 T P f n L k R s (putS σ o.dst v) w' A':=by
  simp only[GoQA] at h
  cases hn:nth L i with
  | none=>simp[hn] at h
  | some o =>
    simp only[hn] at h;replace h:=h.2
    cases m with
    | pure =>
      rcases h with ⟨h1,h2⟩ | ⟨h1,v,h2,h3⟩
      · exact⟨o,undef,w,A,rfl,hA,hN,id,h2⟩
      · exact⟨o,v,w,A,rfl,hA,hN,id,h3⟩
    | stable =>
      rcases h with ⟨h1,h2⟩ | ⟨h1,v,h2,h3⟩
      · exact⟨o,undef,w,A,rfl,hA,hN,id,h2⟩
      · exact⟨o,v,w,A,rfl,hA,hN,id,h3⟩
    | loud =>
      rcases h w A (Grw.refl A w) with ⟨h1,h2⟩ | ⟨h1,⟨v,w',h2,h3,h4,h5⟩ | ⟨fc,args,hx,hc⟩⟩
      · exact⟨o,undef,w,A,rfl,hA,hN,id,h2⟩
      · exact⟨o,v,w',A,rfl,fun x hx=>Nat.lt_of_lt_of_le (hA x hx) h4.size,Nat.le_trans hN h4.size,fun hq=>hT.up hq h4.size,h5⟩
      · obtain⟨v,w',h3,h4,h5⟩:=hc.ex;exact⟨o,v,w',A,rfl,fun x hx=>Nat.lt_of_lt_of_le (hA x hx) h4.size,Nat.le_trans hN h4.size,fun hq=>hT.up hq h4.size,h5⟩
    | last =>
      rcases h w A (Grw.refl A w) with ⟨h1,h2⟩ | ⟨h1,⟨v,w',h2,h4,h5⟩ | ⟨fc,args,hx,hc⟩⟩
      · exact⟨o,undef,w,A,rfl,hA,hN,id,h2⟩
      · exact⟨o,v,w',A,rfl,fun x hx=>Nat.lt_of_lt_of_le (hA x hx) h4.size,Nat.le_trans hN h4.size,fun hq=>hT.up hq h4.size,h5⟩
      · obtain⟨v,w',h4,h5⟩:=hc.ex;exact⟨o,v,w',A,rfl,fun x hx=>Nat.lt_of_lt_of_le (hA x hx) h4.size,Nat.le_trans hN h4.size,fun hq=>hT.up hq h4.size,h5⟩
    | alloc =>
      obtain⟨h1,vf,ef,h2,h3⟩:=h;obtain⟨w',k1,k2,k3,k4⟩:=h2.2 w;exact⟨o,_,w',A,rfl,fun x hx=>Nat.lt_trans (hA x hx) k3,by omega,fun hq=>hT.up hq k2.size,h3 w' (w.heap.size::A) w.heap.size A ⟨k2,[w.heap.size],List.Perm.refl _,fun b hb=>by simp at hb;omega⟩ (List.Perm.refl _) (fun hm=>Nat.lt_irrefl _ (hA _ hm)) hN (Ent.base hN k4)⟩
theorem peekA (hT:TR T ok) (hsel:∀(j:Nat) (o:Oper) cs b,L.toArray[j]?=some o→o.op≠.select cs b):∀(s:List Itm) (σ:Nat→Value) (w:World) (A:List Nat) (y:Itm),N0≤w.heap.size→(∀x∈A,x<w.heap.size)→ok w→GoQA N0 A0 T P f n L k R (s.map Itm.fg) σ w A→OkI L.toArray s →
    (∀z∈s,z.g.isSome=true→z.m=.alloc)→(∀z∈s,z.g=none→depB L.toArray y.i z.i=true→False)→y∈s→y.m=.alloc→∃o vf ef,nth L y.i=some o∧dOk n o.dst=true∧o.guard=none∧AlE P o.op o.type σ vf ef
  | x :: s, σ, w, A, y, hN, hA, hq, h, hok, hgot, hdep, hy, hm => by
    rcases List.mem_cons.1 hy with rfl | hy'
    · simp only[List.map_cons,Itm.fg,hm,GoQA] at h
      cases hn:nth L y.i with
      | none=>simp[hn] at h
      | some o =>
        simp only[hn] at h
        obtain⟨h0,h1,vf,ef,h2,h3⟩:=h
        exact⟨o,vf,ef,rfl,h0,h1,h2⟩
    · have hap:Apt L y.i x.i:=by
        rcases hok.2.1 y hy' hm with k | ⟨k1,k2⟩
        · exact Apt.of k
        · exfalso
          cases hxg:x.g with
          | none=>exact hdep x (by simp) hxg k2
          | some p=>exact k1 (hgot x (by simp) (by simp[hxg]))
      obtain⟨ox,v,w',A',e1,e0,e2,e3,e4⟩:=GoQA.passHead hT (m:=x.m) (i:=x.i) hN hA h;obtain⟨o,vf,ef,k1,k2,k3,k4⟩:=peekA hT hsel s _ w' A' y e2 e0 (e3 hq) e4 hok.2.2 (fun z hz=>hgot z (List.mem_cons_of_mem _ hz)) (fun z hz=>hdep z (List.mem_cons_of_mem _ hz)) hy' hm;exact⟨o,vf,ef,k1,k2,k3,k4.congr (hsel y.i o · · (by rw[J3i] at k1;simpa using k1)) (JaD hap k1 e1)⟩
structure MidA (N0:Nat) (A0:List Nat) (T:World→World→Prop) (ok:World→Prop) (P:Program) (f n:Nat) (L:List Oper) (k:List Item) (R:Value→World→Prop) (dep:Nat) (s0:List (Nat×MdA)) (s:List Itm) (lS l:Array Bool) (σ τ:Nat→Value) (a:Act) (w:World) (A:List Nat):Prop where
 scr:scrA L.toArray dep s0 (s.map Itm.fg) lS=true
 sS:lS.size=L.toArray.size
 sl:l.size=L.toArray.size
 hl:∀j,l.getD j false=true↔(lS.getD j false=true∨∃x∈s,x.i=j∧x.g.isSome=true)
 dc:DC L.toArray l
 fits:Fits n a τ
 rel:RelI L s σ τ
 got:∀x∈s,∀v b,x.g=some (v,b)→x.m=.alloc∧N0≤b∧b<w.heap.size∧∃o w0 w0',nth L x.i=some o∧OpV P o.op o.type σ w0 v w0'∧b=w0.heap.size∧w.heap[b]?=w0'.heap[b]?
 prm:A.Perm (bsI s++A0)
 nd:(bsI s).Nodup
 a0:∀b∈A0,b<N0
 lq:ok w
 n0:N0≤w.heap.size
 go:GoQA N0 A0 T P f n L k R (s.map Itm.fg) σ w A
theorem JaQ {b:Nat}:∀{s:List Itm},b∈bsI s→∃x∈s,∃v,x.g=some (v,b)
  | x :: s, h => by
    cases hx:x.g with
    | none =>
      simp only[bsI,hx] at h
      obtain⟨y,h1,h2⟩:=JaQ h
      exact⟨y,List.mem_cons_of_mem _ h1,h2⟩
    | some p =>
      simp only[bsI,hx] at h
      rcases List.mem_cons.1 h with rfl | h
      · exact⟨x,by simp,p.1,hx⟩
      · obtain⟨y,h1,h2⟩:=JaQ h
        exact⟨y,List.mem_cons_of_mem _ h1,h2⟩
variable {dep:Nat} {s0:List (Nat×MdA)} {s:List Itm} {x:Itm} {lS l:Array Bool} {σ τ:Nat→Value} {a:Act} {w:World} {A:List Nat}
theorem MidA.alt (h:MidA N0 A0 T ok P f n L k R dep s0 s lS l σ τ a w A):∀x∈A,x<w.heap.size:=by
 intro x hx
 rcases List.mem_append.1 (h.prm.mem_iff.1 hx) with hx | hx
 ·obtain⟨y,hy,v,hv⟩:=JaQ hx;exact(h.got y hy v x hv).2.2.1
 ·exact Nat.lt_of_lt_of_le (h.a0 x hx) h.n0
theorem Jbg {i:Nat} {o:Oper} (h:nth L i=some o):i<L.toArray.size:=by
 rw[J3i] at h;exact(Array.getElem?_eq_some_iff.1 (show L.toArray[i]?=some o by simpa using h)).1
theorem J9w {l:Array Bool} {i j:Nat} (hi:i<l.size):(l.setIfInBounds i true).getD j false=true↔(j=i∨l.getD j false=true):=by
 by_cases h:i=j
 ·subst h;simp[hi]
 ·rw[getD_set_ne false h];simp[Ne.symm h]
theorem MidA.claim (hsel:∀(j:Nat) (o:Oper) cs b,L.toArray[j]?=some o→o.op≠.select cs b) {v:Value} {b:Nat} (h:MidA N0 A0 T ok P f n L k R dep s0 (x::s) lS l σ τ a w A) (hx:x.g=some (v,b)) :
  ∃σ' A',MidA N0 A0 T ok P f n L k R dep s0 s (lS.setIfInBounds x.i true) l σ' τ a w A':=by
 have hok:=Ja4 h.scr;obtain⟨hm,hNb,hbw,o,w0,w0',ho,hv,hb,hbk⟩:=h.got x (by simp) v b hx;have hgo:=h.go;simp only[List.map_cons,Itm.fg,hm,GoQA,ho] at hgo;obtain⟨hd,hgd,vf,ef,⟨hal1,hal2⟩,hcont⟩:=hgo;obtain⟨w0'',hv',hsm,hsz,hh⟩:=hal2 w0;obtain⟨e1,e2⟩:=hv.det hv';subst e2;rw[←hb] at e1 hh
 have hh':(ef b).holds N0 w:=Ent.base hNb (Ent.keep hh fun c hc=>by
  rw[hal1 b,List.mem_singleton] at hc
  subst hc;exact hbk)
 have hbA:b∈A:=h.prm.mem_iff.2 (by simp[bsI,hx]);have hpe:=List.perm_cons_erase hbA;have hsS:lS.size=L.toArray.size:=h.sS
 have hiS:x.i<lS.size:=by rw[hsS];exact Jbg ho
 have hpe2:(A.erase b).Perm (bsI s++A0):=by
  have h1:=h.prm;simp only[bsI,hx,List.cons_append] at h1;exact List.Perm.cons_inv (hpe.symm.trans h1)
 have hnd:=h.nd;simp only[bsI,hx,List.nodup_cons] at hnd
 have hbn:b∉A.erase b:=fun hm=>by
  rcases List.mem_append.1 (hpe2.mem_iff.1 hm) with hm | hm
  ·exact hnd.1 hm
  ·have:=h.a0 b hm;omega
 refine⟨putS σ o.dst v,A.erase b,⟨?_,by simpa using h.sS,h.sl,fun j=>?_,h.dc,h.fits,⟨fun y hy p hp=>h.rel.got y (List.mem_cons_of_mem _ hy) p hp,fun t ht=>?_⟩,fun y hy v' b' hg'=>?_,hpe2,hnd.2,h.a0,h.lq,h.n0,?_⟩⟩
 ·have:=h.scr;simp only[List.map_cons,Itm.fg,scrA,Bool.and_eq_true] at this;exact this.2.2.2
 ·rw[h.hl j,J9w hiS];constructor
  ·rintro(k | ⟨y,hy,hy2,hy3⟩)
   ·exact .inl (.inr k)
   ·rcases List.mem_cons.1 hy with rfl | hy
    ·exact .inl (.inl hy2.symm)
    ·exact .inr ⟨y,hy,hy2,hy3⟩
  ·rintro((k | k) | ⟨y,hy,hy2,hy3⟩)
   ·exact .inr ⟨x,by simp,k.symm,by simp[hx]⟩
   ·exact .inl k
   ·exact .inr ⟨y,List.mem_cons_of_mem _ hy,hy2,hy3⟩
 ·by_cases hdt:o.dst=some t
  ·have:=h.rel.got x (by simp) (v,b) hx t (by simp[dstOf,ho,hdt]);rw[this,hdt,JaB]
  ·rw[J82 fun e he hte=>hdt (by rw[he,hte])];refine h.rel.els t fun y hy hyg=>?_
   rcases List.mem_cons.1 hy with rfl | hy
   ·simpa [dstOf,ho] using hdt
   ·exact ht y hy hyg
 ·obtain⟨q1,q2,q3,o',u,u',q4,q5,q6,q7⟩:=h.got y (List.mem_cons_of_mem _ hy) v' b' hg';refine⟨q1,q2,q3,o',u,u',q4,?_,q6,q7⟩
  have hap:Apt L y.i x.i:=by
   rcases hok.2.1 y hy q1 with k | ⟨k,_⟩
   ·exact Apt.of k
   ·exact absurd hm k
  exact(OpV.congr (hsel y.i o' · · (by rw[J3i] at q4;simpa using q4)) (JaD hap q4 ho)).2 q5
 ·rw[e1];exact hcont w A b (A.erase b) (Grw.refl A w) hpe hbn hNb hh'
theorem MidA.apt (h:MidA N0 A0 T ok P f n L k R dep s0 (x::s) lS l σ τ a w A) (hx:x.g=none) (hr:x.i∈Region.ready .any L.toArray l):∀y∈s,y.g.isSome=true→Apt L x.i y.i:=by
 intro y hy hyg;have hok:=Ja4 h.scr;obtain⟨⟨v,b⟩,hp⟩:=Option.isSome_iff_exists.1 hyg;obtain⟨q1,_,_,o',_,_,q4,_⟩:=h.got y (List.mem_cons_of_mem _ hy) v b hp
 rcases hok.2.1 y hy q1 with k | ⟨_,k⟩
 ·exact(Apt.of k).symm
 ·exfalso;have hyl:l.getD y.i false=true:=(h.hl y.i).2 (.inr ⟨y,List.mem_cons_of_mem _ hy,rfl,hyg⟩);have hun:=(mem_ready.1 hr).1;unfold depB at k
  have ho':L.toArray[y.i]?=some o':=by rw[J3i] at q4;simpa using q4
  simp only[ho',Array.any_eq_true',Bool.and_eq_true] at k;obtain⟨e,he,hb,hi⟩:=k;have:=h.dc.2 y.i o' ho' hyl e he hb;rw[Nat.eq_of_beq_eq_true hi] at this
  have hlt:x.i<l.size:=by
   rcases Nat.lt_or_ge x.i l.size with h' | h'
   ·exact h'
   ·simp[Array.getElem?_eq_none h'] at this
  rw[J77 hlt,this] at hun
  cases hun
theorem MidA.exec (hT:TR T ok) (hsel:∀(j:Nat) (o:Oper) cs b,L.toArray[j]?=some o→o.op≠.select cs b) (h:MidA N0 A0 T ok P f n L k R dep s0 (x::s) lS l σ τ a w A) (hx:x.g=none) (hr:x.i∈Region.ready .any L.toArray l) {o:Oper} (ho:nth L x.i=some o) (hd:dOk n o.dst=true) {v:Value} {w':World}
  (hk:Kp A w w') (hg:GoQA N0 A0 T P f n L k R (s.map Itm.fg) (putS σ o.dst v) w' A):MidA N0 A0 T ok P f n L k R dep s0 s (lS.setIfInBounds x.i true) (l.setIfInBounds x.i true) (putS σ o.dst v) (putS τ o.dst v) (a.put o.dst v) w' A:=by
 have hap:=h.apt hx hr;have hi:=Jbg ho
 have iS:x.i<lS.size:=by rw[h.sS];exact hi
 have il:x.i<l.size:=by rw[h.sl];exact hi
 have hprm:=h.prm;simp only[bsI,hx] at hprm;refine⟨?_,by simpa using h.sS,by simpa using h.sl,fun j=>?_,h.dc.next hr,h.fits.putO hd v,⟨fun y hy p hp d hyd=>?_,fun t ht=>?_⟩,fun y hy v' b' hg'=>?_,hprm,by have:=h.nd;simpa [bsI,hx] using this,h.a0,hT.up h.lq hk.size,Nat.le_trans h.n0 hk.size,hg⟩
 ·have:=h.scr;simp only[List.map_cons,Itm.fg,scrA,Bool.and_eq_true] at this;exact this.2.2.2
 ·rw[J9w il,J9w iS,h.hl j];constructor
  ·rintro(k | k | ⟨y,hy,hy2,hy3⟩)
   ·exact .inl (.inl k)
   ·exact .inl (.inr k)
   ·rcases List.mem_cons.1 hy with rfl | hy
    ·simp[hx] at hy3
    ·exact .inr ⟨y,hy,hy2,hy3⟩
  ·rintro((k | k) | ⟨y,hy,hy2,hy3⟩)
   ·exact .inl k
   ·exact .inr (.inl k)
   ·exact .inr (.inr ⟨y,List.mem_cons_of_mem _ hy,hy2,hy3⟩)
 ·rw[J82 fun e he hed=>(hap y hy (by simp[hp])).dst (show dstOf L x.i=some e by simp[dstOf,ho,he]) hyd hed];exact h.rel.got y (List.mem_cons_of_mem _ hy) p hp d hyd
 ·by_cases hdt:o.dst=some t
  ·rw[hdt,JaB,JaB]
  ·rw[J82 fun e he hte=>hdt (by rw[he,hte]),J82 fun e he hte=>hdt (by rw[he,hte])];refine h.rel.els t fun y hy hyg=>?_
   rcases List.mem_cons.1 hy with rfl | hy
   ·simp[hx] at hyg
   ·exact ht y hy hyg
 ·obtain⟨q1,q2,q3,o',u,u',q4,q5,q6,q7⟩:=h.got y (List.mem_cons_of_mem _ hy) v' b' hg';have hbA:b'∈A:=hprm.mem_iff.2 (List.mem_append_left _ (JbW hy hg'));exact⟨q1,q2,Nat.lt_of_lt_of_le q3 hk.size,o',u,u',q4,(OpV.congr (hsel y.i o' · · (by rw[J3i] at q4;simpa using q4)) (JaD (hap y hy (by simp[hg'])).symm q4 ho)).2 q5,q6,(hk.keep b' hbA).trans q7⟩
theorem MidA.early (hT:TR T ok) (hsel:∀(j:Nat) (o:Oper) cs b,L.toArray[j]?=some o→o.op≠.select cs b) {y:Itm} (h:MidA N0 A0 T ok P f n L k R dep s0 s lS l σ τ a w A) (hy:y∈s) (hm:y.m=.alloc) (hyg:y.g=none) (hr:y.i∈Region.ready .any L.toArray l) :
  ∃o v w',nth L y.i=some o∧o.guard=none∧OpV P o.op o.type τ w v w'∧Same w w'∧MidA N0 A0 T ok P f n L k R dep s0 (setI y.i (v,w.heap.size) s) lS (l.setIfInBounds y.i true) σ (putS τ o.dst v) (a.put o.dst v) w' (w.heap.size::A):=by
 have hok:=Ja4 h.scr;have hdist:=hok.distinct
 have hun:∀z∈s,z.i=y.i→z.g=none:=fun z hz he=>by rw[hdist z hz y hy he];exact hyg
 obtain⟨hrun,or_,hor,hall⟩:=mem_ready.1 hr
 obtain⟨o,vf,ef,ho,hd,hgd,hal⟩:=peekA hT hsel s σ w A y h.n0 h.alt h.lq h.go hok (fun z hz hzg=>by
   obtain⟨⟨v,b⟩,hp⟩:=Option.isSome_iff_exists.1 hzg
   exact(h.got z hz v b hp).1) (fun z hz hzg hdp=>by
   unfold depB at hdp;simp only[hor,Array.any_eq_true',Bool.and_eq_true] at hdp;obtain⟨e,he,hb,hi⟩:=hdp;have h1:=hall e he hb;rw[Nat.eq_of_beq_eq_true hi] at h1
   rcases(h.hl z.i).1 h1 with k | ⟨z',hz',hz2,hz3⟩
   ·-- listed in the script: but z is still to come
    exact notListed h.scr hz k
   ·rw[hdist z' hz' z hz hz2,hzg] at hz3
    cases hz3) hy hm
 have hi:=Jbg ho
 have il:y.i<l.size:=by rw[h.sl];exact hi
 have hoL:L.toArray[y.i]?=some o:=by rw[J3i] at ho;simpa using ho
 obtain⟨w',hv,hsm,hsz,hh⟩:=hal.2 w
 have hapt:∀z∈s,z.g.isSome=true→Apt L y.i z.i:=fun z hz hzg=>by
  obtain⟨⟨v,b⟩,hp⟩:=Option.isSome_iff_exists.1 hzg;have hzm:=(h.got z hz v b hp).1
  exact allocApt hok hy hz hm hzm fun e=>by subst e;rw[hyg] at hzg;cases hzg
 refine⟨o,vf w.heap.size,w',ho,hgd,(OpV.congr (hsel y.i o · · hoL) (h.rel.agree ho hapt)).2 hv,hsm,⟨by rw[Jav];exact h.scr,h.sS,by simpa using h.sl,fun j=>?_,h.dc.next hr,h.fits.putO hd _,⟨fun z hz p hp d hzd=>?_,fun t ht=>?_⟩,fun z hz v' b' hg'=>?_,?_,?_,h.a0,hT.up h.lq hsm.size,Nat.le_trans h.n0 hsm.size,?_⟩⟩
 ·rw[J9w il,h.hl j];constructor
  ·rintro(k | k | ⟨z,hz,hz2,hz3⟩)
   ·obtain⟨z,k1,k2,k3⟩:=JaV hy rfl (p:=(vf w.heap.size,w.heap.size));exact .inr ⟨z,k1,by rw[k2,k],by simp[k3]⟩
   ·exact .inl k
   ·refine .inr ⟨z,Ja5 hz fun e=>?_,hz2,hz3⟩;rw[hun z hz e] at hz3
    cases hz3
  ·rintro(k | ⟨z,hz,hz2,hz3⟩)
   ·exact .inr (.inl k)
   ·rcases J9B hz with k | ⟨k,_⟩
    ·exact .inr (.inr ⟨z,k,hz2,hz3⟩)
    ·exact .inl (by rw[←hz2,k])
 ·rcases J9B hz with k | ⟨k,k2,_⟩
  ·have hzg:z.g.isSome=true:=by simp[hp]
   rw[J82 fun e he hed=>(hapt z k hzg).dst (show dstOf L y.i=some e by simp[dstOf,ho,he]) hzd hed];exact h.rel.got z k p hp d hzd
  ·rw[k2] at hp
   cases hp
   have:o.dst=some d:=by rw[k] at hzd;simpa [dstOf,ho] using hzd
   rw[this,JaB]
 ·obtain⟨z,k1,k2,k3⟩:=JaV hy rfl (p:=(vf w.heap.size,w.heap.size))
  have hdt:o.dst≠some t:=by
   have:=ht z k1 (by simp[k3]);rw[k2] at this;simpa [dstOf,ho] using this
  rw[J82 fun e he hte=>hdt (by rw[he,hte])];refine h.rel.els t fun q hq hqg=>ht q (Ja5 hq fun e=>?_) hqg;rw[hun q hq e] at hqg
  cases hqg
 ·rcases J9B hz with k | ⟨k,k2,y',k3,k4,k5⟩
  ·obtain⟨q1,q2,q3,o',u,u',q4,q5,q6,q7⟩:=h.got z k v' b' hg';exact⟨q1,q2,Nat.lt_of_lt_of_le q3 hsm.size,o',u,u',q4,q5,q6,(hsm.block b' q3).trans q7⟩
  ·rw[k2] at hg'
   cases hg'
   have:y'=y:=hdist y' k3 y hy k4;subst this;exact⟨by rw[←k5];exact hm,h.n0,by omega,o,w,w',by rw[k];exact ho,hv,rfl,rfl⟩
 ·exact((h.prm.cons w.heap.size).trans (by simpa using ((Jc2 hy rfl hun (p:=(vf w.heap.size,w.heap.size))).symm.append_right A0)))
 ·refine((Jc2 hy rfl hun (p:=(vf w.heap.size,w.heap.size))).nodup_iff).2 (List.nodup_cons.2 ⟨fun hm=>?_,h.nd⟩);obtain⟨z,hz,v,hv⟩:=JaQ hm;exact Nat.lt_irrefl _ (h.got z hz v _ hv).2.2.1
 ·rw[Jav];exact h.go.grow hT h.lq ⟨hsm,[w.heap.size],List.Perm.refl _,fun b hb=>by simp at hb;omega⟩
theorem nilA (h:MidA N0 A0 T ok P f n L k R dep s0 [] lS l σ τ a w A):wpDT T P L.toArray (exA s0) (QN P f k R) (cnt []) l a w:=by
 have e:l=lS:=by
  refine Array.ext (by rw[h.sl,h.sS]) fun j h1 h2=>?_;have:=h.hl j;simp only[List.not_mem_nil,false_and,exists_false,or_false] at this
  have a1:l.getD j false=l[j]:=by simp[h1]
  have a2:lS.getD j false=lS[j]:=by simp[h2]
  rw[a1,a2] at this;exact Bool.eq_iff_iff.2 this
 have hs:=h.scr;simp only[List.map_nil,scrA] at hs;refine⟨by rw[e];simpa using hs,rfl,?_⟩
 have hστ:τ=σ:=funext fun t=>h.rel.els t fun y hy=>nomatch hy
 have hp:=h.prm;simp only[bsI,List.nil_append] at hp;exact h.go w A (Grw.refl A w) hp a (hστ▸h.fits)
theorem Jbd (hT:TR T ok) (hsel:Region.noSelect L.toArray=true):∀(N:Nat) (s:List Itm) (lS l:Array Bool) (σ τ:Nat→Value) (a:Act) (w:World) (A:List Nat),cnt s+s.length≤N→MidA N0 A0 T ok P f n L k R dep s0 s lS l σ τ a w A →
    wpDT T P L.toArray (exA s0) (QN P f k R) (cnt s) l a w:=by
  have hsel':=Region.noSelect_spec hsel;intro N
  induction N with
  | zero =>
    intro s lS l σ τ a w A hN h;have:s=[]:=List.eq_nil_of_length_eq_zero (by omega);subst this;exact nilA h
  | succ N ih =>
    intro s lS l σ τ a w A hN h
    cases s with
    | nil=>exact nilA h
    | cons x s =>
      cases hx:x.g with
      | some p =>
        obtain⟨v,b⟩:=p;obtain⟨σ',A',h'⟩:=h.claim hsel' hx
        have e:cnt (x::s)=cnt s:=by simp[cnt,hx]
        rw[e] at hN ⊢;exact ih s _ _ _ _ _ _ _ (by simp only[List.length_cons] at hN;omega) h'
      | none =>
        have e:cnt (x::s)=cnt s+1:=by simp[cnt,hx]
        rw[e] at hN ⊢;have hscr:=h.scr;simp only[List.map_cons,Itm.fg,scrA,Bool.and_eq_true] at hscr;obtain⟨⟨hrd,hmode⟩,hals,hds,hscr'⟩:=hscr
        have hrS:x.i∈Region.ready .any L.toArray lS:=by simpa using hrd
        have hunS:=(mem_ready.1 hrS).1;obtain⟨_,o,hoL,hallS⟩:=mem_ready.1 hrS
        have ho:nth L x.i=some o:=by rw[J3i];simpa using hoL
        have hi:=Jbg ho
        have il:x.i<l.size:=by rw[h.sl];exact hi
        have hdist:=(Ja4 h.scr).distinct
        have hr:x.i∈Region.ready .any L.toArray l:=by
          refine mem_ready.2 ⟨?_,o,hoL,fun e he hb=>(h.hl e.on).2 (.inl (hallS e he hb))⟩;rw[J77 il];refine Bool.eq_false_iff.2 fun hc=>?_
          rcases(h.hl x.i).1 hc with k | ⟨z,hz,hz2,hz3⟩
          · exact notListed h.scr (z:=x) (by simp) k
          · rw[hdist z hz x (by simp) hz2,hx] at hz3
            cases hz3
        have hgo:=h.go;simp only[List.map_cons,Itm.fg,GoQA,ho] at hgo;obtain⟨hd,hgo⟩:=hgo
        have agree:=h.rel.agree ho (fun y hy hyg=>by
          rcases List.mem_cons.1 hy with rfl | hy
          · rw[hx] at hyg;cases hyg
          · exact h.apt hx hr y hy hyg)
        have step:∀{v:Value} {w':World},Kp A w w'→GoQA N0 A0 T P f n L k R (s.map Itm.fg) (putS σ o.dst v) w' A→wpDT T P L.toArray (exA s0) (QN P f k R) (cnt s) (l.setIfInBounds x.i true) (a.put o.dst v) w':=fun hk hg=>
          ih s _ _ _ _ _ _ _ (by simp only[List.length_cons] at hN;omega) (h.exec hT hsel' hx hr ho hd hk hg)
        have kpr:Kp A w w:=⟨Nat.le_refl _,fun _ _=>rfl⟩
        have early:∀y∈x::s,y.m=.alloc→y.g=none→y.i∈Region.ready .any L.toArray l →
            wpOp P L.toArray (QN P f k R) y.i (fun a' w'=>(T w w'∨exA s0 y.i=true)∧wpDT T P L.toArray (exA s0) (QN P f k R) (cnt s) (l.setIfInBounds y.i true) a' w') a w:=by
          intro y hy hym hyg hyr;obtain⟨oy,v,w',q1,q2,q3,q4,q5⟩:=h.early hT hsel' hy hym hyg hyr
          have hoy:L.toArray[y.i]?=some oy:=by rw[J3i] at q1;simpa using q1
          unfold wpOp;simp only[hoy];rw[gd_eq h.fits,q2];simp only[gd,if_true];refine .inl ?_;unfold Oper.wp;rw[J1z,h.fits.eval]
          have hc:cnt (setI y.i (v,w.heap.size) (x::s))=cnt s:=by
            have:=Jco (p:=(v,w.heap.size)) hy rfl hyg (fun z hz he=>by rw[hdist z hz y hy he];exact hyg);omega
          have fin:=ih _ _ _ _ _ _ _ _ (by rw[hc,JbP];simp only[List.length_cons] at hN ⊢;omega) q5;rw[hc] at fin
          rcases q3 with q3 | ⟨q3,rfl⟩<;>(rw[q3];exact⟨.inl (hT.same h.lq q4),fin⟩)
        have only:(Region.ready .any L.toArray (setAllB lS (alsOf (s.map Itm.fg))))=[x.i]→∀j∈Region.ready .any L.toArray l,j=x.i∨∃y∈s,y.i=j∧y.m=.alloc∧y.g=none:=by
          intro hrr j hj;by_cases hja:j∈alsOf (s.map Itm.fg)
          · obtain⟨y,hy,hye⟩:=List.mem_map.1 (J9G.1 hja);simp only[Itm.fg,Prod.mk.injEq] at hye;refine .inr ⟨y,hy,hye.1,hye.2,?_⟩
            cases hyg:y.g with
            | none=>rfl
            | some p =>
              exfalso;obtain⟨hun,oj,hoj,_⟩:=mem_ready.1 hj
              have hlt:j<l.size:=by rw[h.sl];exact(Array.getElem?_eq_some_iff.1 hoj).1
              rw[J77 hlt,(h.hl j).2 (.inr ⟨y,List.mem_cons_of_mem _ hy,hye.1,by simp[hyg]⟩)] at hun
              cases hun
          · refine .inl ?_;obtain⟨hun,oj,hoj,hallj⟩:=mem_ready.1 hj;have hlt:j<L.toArray.size:=(Array.getElem?_eq_some_iff.1 hoj).1
            have:j∈Region.ready .any L.toArray (setAllB lS (alsOf (s.map Itm.fg))):=by
              refine mem_ready.2 ⟨?_,oj,hoj,fun e he hb=>?_⟩
              · rw[J77 (by rw[Jb8,h.sS];exact hlt)];refine Bool.eq_false_iff.2 fun hc=>?_
                rcases J76.1 hc with k | ⟨k,_⟩
                · rw[J77 (by rw[h.sl];exact hlt),(h.hl j).2 (.inl k)] at hun
                  cases hun
                · exact hja k
              · rcases(h.hl e.on).1 (hallj e he hb) with k | ⟨z,hz,hz2,hz3⟩
                · exact J76.2 (.inl k)
                · rcases List.mem_cons.1 hz with rfl | hz
                  · rw[hx] at hz3;cases hz3
                  · obtain⟨⟨v,b⟩,hp⟩:=Option.isSome_iff_exists.1 hz3;have hzm:=(h.got z (List.mem_cons_of_mem _ hz) v b hp).1;obtain⟨oz,_,_,hoz,_⟩:=(h.got z (List.mem_cons_of_mem _ hz) v b hp).2.2.2;refine J76.2 (.inr ⟨J9G.2 (List.mem_map.2 ⟨z,hz,by simp[Itm.fg,hz2,hzm]⟩),?_⟩);rw[←hz2,h.sS];exact Jbg hoz
            rw[hrr] at this;exact List.mem_singleton.1 this
        have notnil:∀{Q:Prop},Region.ready .any L.toArray l=[]→Q:=fun h0=>by rw[h0] at hr;cases hr
        have quiet:∀(m:Md) (_:m=.pure∨∃n,∀j,exA s0 j=true→j≠x.i→anc L.toArray n j x.i=true),Region.free .any L.toArray lS x.i=true →
            ((gd L σ o.guard=false∧GoQA N0 A0 T P f n L k R (s.map Itm.fg) (putS σ o.dst undef) w A)∨(gd L σ o.guard=true∧∃v,(∀w',(m=.pure∨T w w')→OpV P o.op o.type σ w' v w')∧GoQA N0 A0 T P f n L k R (s.map Itm.fg) (putS σ o.dst v) w A)) →
            wpDT T P L.toArray (exA s0) (QN P f k R) (cnt s+1) l a w:=by
          intro m hmx hf hq
          have hfree:∀j oj,L.toArray[j]?=some oj→j≠x.i→l.getD j true=false→(∀e∈oj.after,Region.binds .any e=true→e.on≠x.i)→o.apart L.toArray oj=true:=by
            intro j oj hoj hne hun hno;refine Region.free_spec hoL hf j oj hoj hne ?_ hno;have hlt:j<L.toArray.size:=(Array.getElem?_eq_some_iff.1 hoj).1;rw[J77 (by rw[h.sS];exact hlt)];refine Bool.eq_false_iff.2 fun hc=>?_;rw[J77 (by rw[h.sl];exact hlt),(h.hl j).2 (.inl hc)] at hun
            cases hun
          rcases hq with ⟨hg,hq⟩ | ⟨hg,v,hv,hq⟩
          · refine J4t hT.rt (plainQN P f k R) (v:=undef) hoL hsel' hmx (cnt s) l a w h.dc hfree hr (.inr ⟨by rw[gd_eq h.fits,JaX agree];exact hg,rfl⟩) (step kpr hq)
          · refine J4t hT.rt (plainQN P f k R) (v:=v) hoL hsel' hmx (cnt s) l a w h.dc hfree hr (.inl ⟨by rw[gd_eq h.fits,JaX agree];exact hg,fun w' hw'=>?_⟩) (step kpr hq);have:=(OpV.congr (hsel' x.i o · · hoL) agree).2 (hv w' hw');unfold OpV at this;rw[J1z,h.fits.eval];exact this
        have loud:∀(C:World→Prop) (_:∀w',C w'→T w w'∨exA s0 x.i=true),(Region.ready .any L.toArray (setAllB lS (alsOf (s.map Itm.fg))))=[x.i] →
            ((gd L σ o.guard = false ∧ GoQA N0 A0 T P f n L k R (s.map Itm.fg) (putS σ o.dst undef) w A) ∨ (gd L σ o.guard = true ∧ ((∃ v w', OpV P o.op o.type σ w v w' ∧ C w' ∧ Kp A w w' ∧ GoQA N0 A0 T P f n L k R (s.map Itm.fg) (putS σ o.dst v) w' A) ∨
              OpC P o.op o.type σ w fun v w'=>C w'∧Kp A w w'∧GoQA N0 A0 T P f n L k R (s.map Itm.fg) (putS σ o.dst v) w' A))) →
            wpDT T P L.toArray (exA s0) (QN P f k R) (cnt s+1) l a w:=by
          intro C hC hrr hq;refine⟨fun h0=>notnil h0,fun j hj=>?_⟩
          rcases only hrr j hj with rfl | ⟨y,hy,rfl,hym,hyg⟩
          · unfold wpOp;simp only[hoL];rw[gd_eq h.fits,JaX agree]
            rcases hq with ⟨hg,hq⟩ | ⟨hg,hq⟩
            · rw[hg];exact⟨.inl (hT.rt.refl w),step kpr hq⟩
            · rw[hg,if_pos rfl];refine .inl ?_;unfold Oper.wp;rw[J1z,h.fits.eval,Jas (hsel' x.i o · · hoL) agree]
              rcases hq with ⟨v,w',hv,hc,hk,hq⟩ | ⟨fc,args,hxx,hcall⟩
              · rcases hv with hv | ⟨hv,rfl⟩<;>(rw[hv];exact⟨hC w' hc,step hk hq⟩)
              · rw[hxx]
                exact Calls.mono hcall fun e w'' ⟨v,he,hc,hk,hq⟩=>by subst he;exact⟨hC w'' hc,step hk hq⟩
          · exact early y (List.mem_cons_of_mem _ hy) hym hyg hj
        cases hm:x.m with
        | pure =>
          rw[hm] at hmode hgo;refine quiet .pure (.inl rfl) hmode ?_
          rcases hgo with hg | ⟨hg,v,hv,hq⟩
          · exact .inl hg
          · exact .inr ⟨hg,v,fun w' _=>hv w',hq⟩
        | stable =>
          rw[hm] at hmode hgo;simp only[Bool.and_eq_true] at hmode;refine quiet .stable (.inr ⟨dep,fun j hj hji=>?_⟩) hmode.1 ?_
          · simp only[exA,List.any_eq_true,Bool.and_eq_true] at hj;obtain⟨p,hp,hpj,hpm⟩:=hj;have h1:=List.all_eq_true.1 hmode.2 p hp;have e1:=Nat.eq_of_beq_eq_true hpj
            cases hp2:p.2<;>simp[hp2] at hpm h1
            rcases h1 with h1 | h1
            · exact absurd (e1.symm.trans h1) hji
            · rw[←e1];exact h1
          · rcases hgo with hg | ⟨hg,v,hv,hq⟩
            · exact .inl hg
            · exact .inr ⟨hg,v,fun w' hw'=>hv w' (hw'.resolve_left (by simp)),hq⟩
        | loud =>
          rw[hm] at hmode hgo;exact loud (T w) (fun w' h'=>.inl h') (by simpa using hmode) (hgo w A (Grw.refl A w))
        | last =>
          rw[hm] at hmode hgo;simp only[Bool.and_eq_true] at hmode;refine loud (fun _=>True) (fun w' _=>.inr hmode.2) (by simpa using hmode.1) ?_
          rcases hgo w A (Grw.refl A w) with hg | ⟨hg,⟨v,w',hv,hk,hq⟩ | ⟨fc,args,hxx,hcall⟩⟩
          · exact .inl hg
          · exact .inr ⟨hg,.inl ⟨v,w',hv,trivial,hk,hq⟩⟩
          · exact .inr ⟨hg,.inr ⟨fc,args,hxx,CallsV.mono hcall fun v w' hq=>⟨trivial,hq⟩⟩⟩
        | alloc =>
          rw[hm] at hmode;refine⟨fun h0=>notnil h0,fun j hj=>?_⟩
          rcases only (by simpa using hmode) j hj with rfl | ⟨y,hy,rfl,hym,hyg⟩
          · exact early x (by simp) hm hx hj
          · exact early y (List.mem_cons_of_mem _ hy) hym hyg hj
theorem Go1.drawA {σ:Nat→Value} {w:World} {i:Nat} (hT:TR T ok) (A:List Nat) (dep:Nat) (s:List (Nat×MdA)) (hm:P.follows .mixedOrders=true) (hB:scrOkA L dep s=true) (hok:ok w) (hA:∀b∈A,b<w.heap.size)
  (h:∀w1,Same w w1→GoQA w1.heap.size A T P f n L k R s σ w1 A):Go1 P f n (.code (.region i L.toArray true)::k) σ w R:=by
 simp only[scrOkA,Bool.and_eq_true] at hB;obtain⟨h1,h2,h3⟩:=hB;have hl:=Nat.eq_of_beq_eq_true h2;intro a ha;refine Cont.of_wp (wp_region_any hm (J6A (T:=T) (ex:=exA s) _ _ _ _ ?_))
 have e1:(s.map fun p=>(⟨p.1,p.2,none⟩:Itm)).map Itm.fg=s:=by
  rw[List.map_map];exact List.map_id'' (fun p=>rfl) s
 have e2:∀s:List (Nat×MdA),cnt (s.map fun p=>(⟨p.1,p.2,none⟩:Itm))=s.length:=by
  intro s
  induction s with
  | nil=>rfl
  | cons p s ih=>simp[cnt,ih]
 have e3:∀s:List (Nat×MdA),bsI (s.map fun p=>(⟨p.1,p.2,none⟩:Itm))=[]:=by
  intro s
  induction s with
  | nil=>rfl
  | cons p s ih=>simp[bsI,ih]
 have e4:∀x∈(s.map fun p=>(⟨p.1,p.2,none⟩:Itm)),x.g=none:=by
  intro x hx;obtain⟨p,_,rfl⟩:=List.mem_map.1 hx
  rfl
 have hs:Same w { w with drawn:=w.drawn+1 }:=Same.drew w;have:=Jbd (ok:=ok) hT h1 _ (s.map fun p=>(⟨p.1,p.2,none⟩:Itm)) (Array.replicate L.length false) (Array.replicate L.length false) σ σ a { w with drawn:=w.drawn+1 } A (Nat.le_refl _)
  (dep:=dep) (s0:=s) ⟨by rw[e1];exact h3,by simp,by simp,fun j=>?_,by simpa using DC.start L.toArray,ha,⟨fun x hx p hp=>?_,fun _ _=>rfl⟩,fun x hx v b hp=>?_,by rw[e3];exact List.Perm.refl _,by rw[e3];exact List.nodup_nil,hA,hT.up hok (Nat.le_refl _),Nat.le_refl _,by rw[e1];exact h _ hs⟩
 ·rw[e2,hl] at this;simpa using this
 ·constructor
  ·exact .inl
  ·rintro(k | ⟨x,hx,_,hg⟩)
   ·exact k
   ·rw[e4 x hx] at hg;cases hg
 ·rw[e4 x hx] at hp;cases hp
 ·rw[e4 x hx] at hp;cases hp
end
section
variable {N0:Nat} {A0:List Nat} {T:World→World→Prop} {P:Program} {f n:Nat} {L:List Oper} {k:List Item} {R:Value→World→Prop} {s:List (Nat×MdA)} {σ:Nat→Value} {w w':World} {A:List Nat} {i:Nat}
def GoAt (N0:Nat) (A0:List Nat) (T:World→World→Prop) (P:Program) (f n:Nat) (L:List Oper) (k:List Item) (R:Value→World→Prop) (c:Bool) (o:Oper) (s:List (Nat×MdA)) (σ:Nat→Value) (w:World) (A:List Nat):Prop:=
 (gd L σ o.guard = false ∧ GoQA N0 A0 T P f n L k R s (putS σ o.dst undef) w A) ∨ (gd L σ o.guard = true ∧ ((∃ v w', OpV P o.op o.type σ w v w' ∧ (c = true → T w w') ∧ Kp A w w' ∧ GoQA N0 A0 T P f n L k R s (putS σ o.dst v) w' A) ∨
  OpC P o.op o.type σ w fun v w'=>(c=true→T w w')∧Kp A w w'∧GoQA N0 A0 T P f n L k R s (putS σ o.dst v) w' A))
theorem GoQA.nil (h:∀w1 A1,Grw A w A1 w1→A1.Perm A0→Go1 P f n k σ w1 R):GoQA N0 A0 T P f n L k R [] σ w A:=h
variable {d:Option Nat} {op:Op} {ty:TypeId} {pos:String} {aft:Array Edge} {g:Option (Nat×Bool)}
theorem GoQA.pure {v:Value} (hi:nth L i=some ⟨d,op,ty,pos,aft,g⟩) (hv:∀w',OpV P op ty σ w' v w') (hg:gd L σ g=true) (hd:dOk n d=true)
  (h:GoQA N0 A0 T P f n L k R s (putS σ d v) w A):GoQA N0 A0 T P f n L k R ((i,.pure)::s) σ w A:=by
 simp only[GoQA,hi];exact⟨hd,.inr ⟨hg,v,hv,h⟩⟩
theorem GoQA.stable {v:Value} (hi:nth L i=some ⟨d,op,ty,pos,aft,g⟩) (hv:∀w',T w w'→OpV P op ty σ w' v w') (hg:gd L σ g=true) (hd:dOk n d=true)
  (h:GoQA N0 A0 T P f n L k R s (putS σ d v) w A):GoQA N0 A0 T P f n L k R ((i,.stable)::s) σ w A:=by
 simp only[GoQA,hi];exact⟨hd,.inr ⟨hg,v,hv,h⟩⟩
theorem GoQA.loudI (hi:nth L i=some ⟨d,op,ty,pos,aft,g⟩) (hd:dOk n d=true) (h:∀w1 A1,Grw A w A1 w1→GoAt N0 A0 T P f n L k R true ⟨d,op,ty,pos,aft,g⟩ s σ w1 A1) :
  GoQA N0 A0 T P f n L k R ((i,.loud)::s) σ w A:=by
 simp only[GoQA,hi];refine⟨hd,fun w1 A1 hg=>?_⟩
 rcases h w1 A1 hg with h | ⟨h1,⟨v,w',h2,h3,h4⟩ | ⟨fc,args,h2,h3⟩⟩
 ·exact .inl h
 ·exact .inr ⟨h1,.inl ⟨v,w',h2,h3 rfl,h4⟩⟩
 ·exact .inr ⟨h1,.inr ⟨fc,args,h2,CallsV.mono h3 fun v w' h=>⟨h.1 rfl,h.2⟩⟩⟩
theorem GoQA.lastI (hi:nth L i=some ⟨d,op,ty,pos,aft,g⟩) (hd:dOk n d=true) (h:∀w1 A1,Grw A w A1 w1→GoAt N0 A0 T P f n L k R false ⟨d,op,ty,pos,aft,g⟩ s σ w1 A1) :
  GoQA N0 A0 T P f n L k R ((i,.last)::s) σ w A:=by
 simp only[GoQA,hi];refine⟨hd,fun w1 A1 hg=>?_⟩
 rcases h w1 A1 hg with h | ⟨h1,⟨v,w',h2,h3,h4⟩ | ⟨fc,args,h2,h3⟩⟩
 ·exact .inl h
 ·exact .inr ⟨h1,.inl ⟨v,w',h2,h4⟩⟩
 ·exact .inr ⟨h1,.inr ⟨fc,args,h2,CallsV.mono h3 fun v w' h=>h.2⟩⟩
theorem GoAt.step {c:Bool} {v:Value} (hv:OpV P op ty σ w v w') (hc:c=true→T w w') (hk:Kp A w w') (hg:gd L σ g=true)
  (h:GoQA N0 A0 T P f n L k R s (putS σ d v) w' A):GoAt N0 A0 T P f n L k R c ⟨d,op,ty,pos,aft,g⟩ s σ w A:=.inr ⟨hg,.inl ⟨v,w',hv,hc,hk,h⟩⟩
theorem GoAt.pass {c:Bool} (hg:gd L σ g=false) (h:GoQA N0 A0 T P f n L k R s (putS σ d undef) w A):GoAt N0 A0 T P f n L k R c ⟨d,op,ty,pos,aft,g⟩ s σ w A:=.inl ⟨hg,h⟩
theorem GoAt.call {c:Bool} {R1:Value→World→Prop} (hcl:OpC P op ty σ w R1) (hs:∀v w',R1 v w'→(c=true→T w w')∧Kp A w w') (hg:gd L σ g=true)
  (h:∀v w',R1 v w'→GoQA N0 A0 T P f n L k R s (putS σ d v) w' A):GoAt N0 A0 T P f n L k R c ⟨d,op,ty,pos,aft,g⟩ s σ w A:=by
 obtain⟨fc,args,hx,hcall⟩:=hcl;exact .inr ⟨hg,.inr ⟨fc,args,hx,CallsV.mono hcall fun v w' h'=>⟨(hs v w' h').1,(hs v w' h').2,h v w' h'⟩⟩⟩
theorem GoQA.alloc {vf:Nat→Value} {ef:Nat→Ent} (hi:nth L i=some ⟨d,op,ty,pos,aft,none⟩) (hd:dOk n d=true) (ha:AlE P op ty σ vf ef)
  (h:∀w1 A1 b A2,Grw A w A1 w1→A1.Perm (b::A2)→b∉A2→N0≤b→(ef b).holds N0 w1→GoQA N0 A0 T P f n L k R s (putS σ d (vf b)) w1 A2):GoQA N0 A0 T P f n L k R ((i,.alloc)::s) σ w A:=by
 simp only[GoQA,hi];exact⟨hd,trivial,vf,ef,ha,h⟩
end
section
variable {P:Program} {σ:Nat→Value} {t e ty:TypeId} {x y:Operand}
theorem AlE.of {op:Op} {vf:Nat→Value} {ef:Nat→Ent} (hf:∀b,(ef b).fp=[b]) (h:∀w,∃w',OpV P op ty σ w (vf w.heap.size) w'∧Same w w'∧(ef w.heap.size).holds w.heap.size w'∧w.heap.size<w'.heap.size):AlE P op ty σ vf ef:=
 ⟨hf,fun w=>let ⟨w',h1,h2,h3,h4⟩:=h w;⟨w',h1,h2,h4,h3⟩⟩
theorem alBuild {z:Value} {sz by_:Nat} (ht:P.underlying t=some (.slice e)) (he:ti P e=some (some z,sz,by_)) {n:Nat} {ps:List (Nat×Operand)} {parts:List (Nat×Value)} {vs:List Value}
  (hs0:0<sz) (hn:n≤1000) (hn2:n*sz≤1000) (hf:Instr.fill (fun i=>some (i*sz,sz)) ((Array.range (n*sz)).map (z.cells[· % z.cells.size]!)) parts=some vs.toArray) (hl:vs.length=n*sz) (hp:(ps.map fun p=>(p.1,ev σ p.2))=parts) :
  AlE P (.buildSlice t n ps.toArray) ty σ (fun b=>.slice (some ⟨b,0,none⟩) n n) (fun b=>.row e sz (some ⟨b,0,none⟩) n n vs):=by
 obtain⟨i,hi,hz1,hz2,hz3⟩:=J4h he;refine AlE.of (fun b=>rfl) fun w=>⟨w.alloc (.cells vs.toArray e (0,0)),.inl ?_,⟨rfl,rfl,rfl,by simp,fun k hk=>Below.heap_alloc _ _ _ hk⟩,?_,by simp⟩
 ·have h24:¬(16777216<n):=by omega
  have h25:¬(16777216<n*sz):=by omega
  by_cases hn0:n=0
  ·subst hn0;have hv:vs=[]:=List.eq_nil_of_length_eq_zero (by simpa using hl);subst hv;simp only[Nat.zero_mul] at hf;simp[execOp,opr,hp,Instr.buildSlice,run_underlying ht,Go.sizeOf,typeInfo,hi,hz2,newRow]
   have hf':Instr.fill (fun i=>some (i*sz,sz)) (Array.map (fun _=>default) (Array.range 0)) parts=some #[]:=by rw[Array.range_zero',Array.map_empty] at hf ⊢;exact hf
   simp only[hf'];simp only[Sem.run_map,run_newObj,Result.andThen_ok]
   rfl
  ·have hns:¬n*sz=0:=Nat.mul_ne_zero hn0 (by omega)
   have hs1:¬sz=0:=by omega
   simp[execOp,opr,hp,Instr.buildSlice,run_underlying ht,Go.sizeOf,typeInfo,zeroValue,hi,hz2,hz1,h24,h25,hn0,hns,hs1,newRow];simp only[hf];simp only[Sem.run_map,run_newObj,Result.andThen_ok]
   rfl
 ·have:=World.ownsRow_lit (base:=w.heap.size) (e:=e) (size:=sz) w vs.toArray n (Nat.le_refl _) (by simp only[maxLen];omega) (by simp[hl]);simp only at this;exact this
theorem alAlloc {zv:Value} {cs:Array Value} {b s:Nat} (he:ti P t=some (some zv,s,b)) (hc:zv.cells=cs):AlE P (.alloc t) ty σ (fun b=>.pointer (some ⟨b,0,none⟩)) (fun b=>.blk b (.cells cs t (0,0))):=by
 refine AlE.of (fun b=>rfl) fun w=>⟨w.alloc (.cells cs t (0,0)),.inl ?_,⟨rfl,rfl,rfl,by simp,fun k hk=>Below.heap_alloc _ _ _ hk⟩,⟨Nat.le_refl _,heap_alloc_new w _⟩,by simp⟩;subst hc;simp[execOp,opr,Instr.alloc,J1W he,newVar,newRow]
theorem alMake {z:Value} {sz by_:Nat} (ht:P.underlying t=some (.slice e)) (he:ti P e=some (some z,sz,by_)) {n:Int} (h0:0≤n) (hb0:n≤1099511627776) (hby:by_≤128) (hx:ev σ x=.int .i64 n) (hy:ev σ y=.int .i64 n) :
  AlE P (.makeSlice t x y) ty σ (fun b=>.slice (some ⟨b,0,none⟩) n.toNat n.toNat) (fun b=>.row e sz (some ⟨b,0,none⟩) n.toNat n.toNat (madeCells z.cells (n.toNat*sz)).toList):=by
 obtain⟨m,rfl⟩:=Int.eq_ofNat_of_zero_le h0
 have hn':(m:Int)≤140737488355328:=by omega
 have hn:(m:Int)*by_≤140737488355328:=by
  have h1:m*by_≤1099511627776*128:=Nat.mul_le_mul (by omega) hby
  rw[←Int.natCast_mul];omega
 obtain⟨i,hi,hz1,hz2,hz3⟩:=J4h he
 have hb:i.bytes*m≤281474976710656:=by
  rw[hz3]
  have h:((by_*m:Nat):Int)≤140737488355328:=by rw[Int.natCast_mul,Int.mul_comm];exact hn
  omega
 refine AlE.of (fun b=>rfl) fun w=>?_;obtain⟨w',hr,hown,hg⟩:=run_make_full (P:=P) w w.heap.size t e i z sz ht hi hz1 hz2 .i64 .i64 m hb (by simp only[maxLen];omega) (Nat.le_refl _);refine⟨w',.inl ?_,Same.grown hg,hown,?_⟩
 ·simp[execOp,opr,hx,hy,hr]
 ·exact(World.ownsRow.lt hown w.heap.size rfl).2
theorem alMakeE {α:Type} {r:Rp α} {z:Value} {d:α} {by_:Nat} (ht:P.underlying t=some (.slice e)) (he:ti P e=some (some z,r.sz,by_)) (hz:∀(A:List Nat) (w:World),r.R A w (fun i=>z.cells[i]?) d) (hs:z.cells.size=r.sz) {n:Int} (h0:0≤n) (hb0:n≤1099511627776) (hby:by_≤128) :
  ∃vs,(∀{σ:Nat→Value} {x y:Operand} {ty:TypeId},ev σ x=.int .i64 n→ev σ y=.int .i64 n→AlE P (.makeSlice t x y) ty σ (fun b=>.slice (some ⟨b,0,none⟩) n.toNat n.toNat) (fun b=>.row e r.sz (some ⟨b,0,none⟩) n.toNat n.toNat vs))∧∀(A:List Nat) (w:World),Els r A w vs (List.replicate n.toNat d):=
 ⟨_,fun hx hy=>alMake ht he h0 hb0 hby hx hy,fun A w=>Els.made hz hs n.toNat (by simp only[mx];omega)⟩
end
section
variable {n0:Nat} {w:World} {E:List Ent} {A:List Nat} {Lq:List (Option Addr)}
theorem LqOk.blk {b i:Nat} {o:Obj} (j:Nat) (hO:Owns n0 w E A) (hj:E[j]?=some (.blk b o)) (h:LqOk Lq w):LqOk (some ⟨b,i,none⟩::Lq) w:=fun q hq a ha=>by
 rcases List.mem_cons.1 hq with rfl | hq
 ·cases ha
  exact(Ent.lt (hO.at_ _ (List.mem_of_getElem? hj)) b (by simp[Ent.fp])).2
 ·exact h q hq a ha
theorem LqOk.row {e:TypeId} {sz:Nat} {p:Option Addr} {n c m:Nat} {vs:List Value} (j:Nat) (hO:Owns n0 w E A) (hj:E[j]?=some (.row e sz p n c vs)) (h:LqOk Lq w):LqOk (padd p m::Lq) w:=fun q hq a ha=>by
  rcases List.mem_cons.1 hq with rfl | hq
  · cases p with
    | none=>simp[padd] at ha
    | some a0 =>
      simp only[padd,Option.map_some,Option.some.injEq] at ha
      have:=(Ent.lt (hO.at_ _ (List.mem_of_getElem? hj)) a0.block (by simp[Ent.fp])).2
      subst ha
      unfold Addr.add
      split<;>exact this
  · exact h q hq a ha
end
open Go Go.RowKit
section
variable {w w':World} {B B':List Nat} {Lq:List (Option Addr)}
end
open Go Go.RowKit
def CSv (Lq:List (Option Addr)) (w w':World):Prop:=∀q∈Lq,∀a,q=some a→∀v,w.cell? a=some v→w'.cell? a=some v
theorem World.cell?_lt {w:World} {a:Addr} {v:Value} (h:w.cell? a=some v):a.block<w.heap.size:=by
 unfold World.cell? at h
 cases hb:w.heap[a.block]? with
 | none=>simp[hb] at h
 | some o=>exact(Array.getElem?_eq_some_iff.1 hb).1
theorem CSv.same {Lq:List (Option Addr)} {w w':World} (h:Same w w'):CSv Lq w w':=fun _ _ a _ _ hv=>
 (World.cell?_of_block (w:=w) (w':=w') (h.block a.block (World.cell?_lt hv))).trans hv
theorem CSv.tr (Lq:List (Option Addr)):TR (CSv Lq) (fun _=>True):=
 ⟨⟨fun _ _ _ _ _ _ hv=>hv,fun h k q hq a ha v hv=>k q hq a ha v (h q hq a ha v hv)⟩,fun _ h=>CSv.same h,fun _ _=>trivial⟩
theorem CSv.nil (w w':World):CSv [] w w':=fun _ h=>nomatch h
theorem CSv.cons {q:Option Addr} {Lq:List (Option Addr)} {w w':World} (h:∀a,q=some a→w'.cell? a=w.cell? a) (k:CSv Lq w w'):CSv (q::Lq) w w':=fun x hx a ha v hv=>by
 rcases List.mem_cons.1 hx with rfl | hx
 ·exact(h a ha).trans hv
 ·exact k x hx a ha v hv
theorem loadV {P:Program} {σ:Nat→Value} {w:World} {t ty:TypeId} {x:Operand} {Lq:List (Option Addr)} {q:Option Addr} {v:Value} {d:TypeDesc} (hq:q∈Lq) (hs:q.isSome=true) (hc:∀a,q=some a→w.cell? a=some v) (ht:P.underlying t=some d) (hd:scB d=true) (hx:ev σ x=.pointer q) (w':World) (hw:CSv Lq w w'):OpV P (.load t x) ty σ w' v w':=by
 obtain⟨a,rfl⟩:=Option.isSome_iff_exists.1 hs;exact J7Y ht hd hx (hw _ hq a rfl v (hc a rfl))
open Go Go.RowKit
inductive Tr where
 | nil | fin
 | qp (i:Nat) (t:Tr)
 | qs (i:Nat) (t:Tr)
 | alt (i:Nat) (t r:Tr)
def Tr.idx:Tr→List Nat
 | .alt i _ r=>i::r.idx
 | _=>[]
def trOk (ops:Array Oper) (xs:List Nat) (dep:Nat):Bool→Nat→Tr→Array Bool→Bool
 | b,m,.nil,listed=>!b && (Nat.beq m 0 && (Region.ready .any ops listed).isEmpty)
 | b,_,.fin,_=>b
 | b,0,.qp _ _,_=>false
 | b,m+1,.qp i t,listed=>!b && ((Region.ready .any ops listed).contains i && (Region.free .any ops listed i && trOk ops xs dep false m t (listed.setIfInBounds i true)))
 | b,0,.qs _ _,_=>false
 | b,m+1,.qs i t,listed=>!b && ((Region.ready .any ops listed).contains i && (Region.free .any ops listed i && ((xs.all fun j=>Nat.beq j i || anc ops dep j i) && trOk ops xs dep false m t (listed.setIfInBounds i true))))
 | b,0,.alt _ _ _,_=>false
 | b,m+1,.alt i t r,listed=>(b || (Region.ready .any ops listed == i::r.idx)) && (trOk ops xs dep false m t (listed.setIfInBounds i true) && trOk ops xs dep true (m+1) r listed)
section
variable (xs:List Nat) (T:World→World→Prop) (P:Program) (f n:Nat) (L:List Oper) (k:List Item) (R:Value→World→Prop)
def GoT:Tr→(Nat→Value)→World→Prop
  | .nil,σ,w=>Go1 P f n k σ w R
  | .fin,_,_=>True
  | .qp i t, σ, w => match nth L i with
    | none=>False
    | some o=>dOk n o.dst=true∧((gd L σ o.guard=false∧GoT t (putS σ o.dst undef) w)∨(gd L σ o.guard=true∧∃v,(∀w',OpV P o.op o.type σ w' v w')∧GoT t (putS σ o.dst v) w))
  | .qs i t, σ, w => match nth L i with
    | none=>False
    | some o=>dOk n o.dst=true∧((gd L σ o.guard=false∧GoT t (putS σ o.dst undef) w)∨(gd L σ o.guard=true∧∃v,(∀w',T w w'→OpV P o.op o.type σ w' v w')∧GoT t (putS σ o.dst v) w))
  | .alt i t r, σ, w => (match nth L i with
    | none=>False
    | some o=>dOk n o.dst=true∧((gd L σ o.guard=false∧GoT t (putS σ o.dst undef) w)∨(gd L σ o.guard=true∧((∃v w',OpV P o.op o.type σ w v w'∧(T w w'∨xs.contains i=true)∧GoT t (putS σ o.dst v) w') ∨
        OpC P o.op o.type σ w fun v w'=>(T w w'∨xs.contains i=true)∧GoT t (putS σ o.dst v) w'))))∧GoT r σ w
end
section
variable {xs:List Nat} {dep:Nat} {T:World→World→Prop} {P:Program} {f n:Nat} {L:List Oper} {k:List Item} {R:Value→World→Prop}
theorem J4B (hT:RTw T) (hsel:Region.noSelect L.toArray=true) :
    ∀(t:Tr) (b:Bool) (m:Nat) (listed:Array Bool),trOk L.toArray xs dep b m t listed=true→DC L.toArray listed →
    ∀(σ:Nat→Value) (w:World) (a:Act),Fits n a σ→GoT xs T P f n L k R t σ w →
    (b=false→wpDT T P L.toArray (fun j=>xs.contains j) (QN P f k R) m listed a w) ∧
    (∀m',m=m'+1→∀j∈t.idx,j∈Region.ready .any L.toArray listed→wpOp P L.toArray (QN P f k R) j (fun a' w'=>(T w w'∨xs.contains j=true)∧wpDT T P L.toArray (fun j=>xs.contains j) (QN P f k R) m' (listed.setIfInBounds j true) a' w') a w)
  | .nil, b, m, listed, hB, hdc, σ, w, a, ha, h => by
    simp only[trOk,Bool.and_eq_true] at hB
    have hm:=Nat.eq_of_beq_eq_true hB.2.1
    subst hm
    exact⟨fun _=>⟨by simpa using hB.2.2,rfl,h a ha⟩,fun m' hm=>by cases hm⟩
  | .fin, b, m, listed, hB, hdc, σ, w, a, ha, h => by
    simp only[trOk] at hB
    refine⟨fun hb=>(by rw[hb] at hB;cases hB),fun m' _ j hj=>by simp[Tr.idx] at hj⟩
  | .qp i t, b, m, listed, hB, hdc, σ, w, a, ha, h => by
    cases m with
    | zero=>simp[trOk] at hB
    | succ m =>
      simp only[trOk,Bool.and_eq_true] at hB
      obtain⟨_,hr,hf,hB'⟩:=hB
      refine⟨fun _=>?_,fun m' _ j hj=>by simp[Tr.idx] at hj⟩
      simp only[GoT] at h
      cases hn:nth L i with
      | none=>simp[hn] at h
      | some o =>
        simp only[hn] at h
        obtain⟨hd,h⟩:=h
        have hi:L.toArray[i]?=some o:=by rw[J3i] at hn;simpa using hn
        have hr':i∈Region.ready .any L.toArray listed:=by simpa using hr
        have ih:∀(v:Value) (_:GoT xs T P f n L k R t (putS σ o.dst v) w),wpDT T P L.toArray (fun j=>xs.contains j) (QN P f k R) m (listed.setIfInBounds i true) (a.put o.dst v) w:=
          fun v hq=>(J4B hT hsel t false m _ hB' (hdc.next hr') (putS σ o.dst v) w (a.put o.dst v) (ha.putO hd v) hq).1 rfl
        rcases h with ⟨hg,hq⟩ | ⟨hg,v,hv,hq⟩
        · exact J4t hT (plainQN P f k R) (m:=.pure) (v:=undef) hi (Region.noSelect_spec hsel) (.inl rfl) m listed a w hdc (Region.free_spec hi hf) hr' (.inr ⟨by rw[gd_eq ha];exact hg,rfl⟩) (ih undef hq)
        · refine J4t hT (plainQN P f k R) (m:=.pure) (v:=v) hi (Region.noSelect_spec hsel) (.inl rfl) m listed a w hdc (Region.free_spec hi hf) hr' (.inl ⟨by rw[gd_eq ha];exact hg,fun w' _=>?_⟩) (ih v hq)
          have:=hv w'
          unfold OpV at this
          rw[J1z,ha.eval]
          exact this
  | .qs i t, b, m, listed, hB, hdc, σ, w, a, ha, h => by
    cases m with
    | zero=>simp[trOk] at hB
    | succ m =>
      simp only[trOk,Bool.and_eq_true] at hB
      obtain⟨_,hr,hf,hx,hB'⟩:=hB
      refine⟨fun _=>?_,fun m' _ j hj=>by simp[Tr.idx] at hj⟩
      simp only[GoT] at h
      cases hn:nth L i with
      | none=>simp[hn] at h
      | some o =>
        simp only[hn] at h
        obtain⟨hd,h⟩:=h
        have hi:L.toArray[i]?=some o:=by rw[J3i] at hn;simpa using hn
        have hr':i∈Region.ready .any L.toArray listed:=by simpa using hr
        have ih:∀(v:Value) (_:GoT xs T P f n L k R t (putS σ o.dst v) w),wpDT T P L.toArray (fun j=>xs.contains j) (QN P f k R) m (listed.setIfInBounds i true) (a.put o.dst v) w:=
          fun v hq=>(J4B hT hsel t false m _ hB' (hdc.next hr') (putS σ o.dst v) w (a.put o.dst v) (ha.putO hd v) hq).1 rfl
        have hex:Md.stable=.pure∨∃n,∀j,(fun j:Nat=>xs.contains j) j=true→j≠i→anc L.toArray n j i=true:=.inr ⟨dep,fun j hj hji=>by
          have hj:j∈xs:=by simpa using hj
          have:=List.all_eq_true.1 hx j hj
          simp only[Bool.or_eq_true] at this
          rcases this with h1 | h1
          · exact absurd (Nat.eq_of_beq_eq_true h1) hji
          · exact h1⟩
        rcases h with ⟨hg,hq⟩ | ⟨hg,v,hv,hq⟩
        · exact J4t hT (plainQN P f k R) (m:=.stable) (v:=undef) hi (Region.noSelect_spec hsel) hex m listed a w hdc (Region.free_spec hi hf) hr' (.inr ⟨by rw[gd_eq ha];exact hg,rfl⟩) (ih undef hq)
        · refine J4t hT (plainQN P f k R) (m:=.stable) (v:=v) hi (Region.noSelect_spec hsel) hex m listed a w hdc (Region.free_spec hi hf) hr' (.inl ⟨by rw[gd_eq ha];exact hg,fun w' hw'=>?_⟩) (ih v hq)
          have:=hv w' (hw'.resolve_left (by simp))
          unfold OpV at this
          rw[J1z,ha.eval]
          exact this
  | .alt i t r, b, m, listed, hB, hdc, σ, w, a, ha, h => by
    cases m with
    | zero=>simp[trOk] at hB
    | succ m =>
      simp only[trOk,Bool.and_eq_true] at hB
      obtain⟨hb,hB',hBr⟩:=hB
      simp only[GoT] at h
      obtain⟨h,hrest⟩:=h
      have key:∀m',m+1=m'+1→∀j∈(Tr.alt i t r).idx,j∈Region.ready .any L.toArray listed→wpOp P L.toArray (QN P f k R) j (fun a' w'=>(T w w'∨xs.contains j=true)∧wpDT T P L.toArray (fun j=>xs.contains j) (QN P f k R) m' (listed.setIfInBounds j true) a' w') a w:=by
        intro m' hm j hj hjr
        have hm:m'=m:=by omega
        subst hm;simp only[Tr.idx,List.mem_cons] at hj
        rcases hj with rfl | hj
        · cases hn:nth L j with
          | none=>simp[hn] at h
          | some o =>
            simp only[hn] at h;obtain⟨hd,h⟩:=h
            have hi:L.toArray[j]?=some o:=by rw[J3i] at hn;simpa using hn
            have ih:∀(v:Value) (w':World) (_:GoT xs T P f n L k R t (putS σ o.dst v) w'),wpDT T P L.toArray (fun j=>xs.contains j) (QN P f k R) m' (listed.setIfInBounds j true) (a.put o.dst v) w':=
              fun v w' hq=>(J4B hT hsel t false m' _ hB' (hdc.next hjr) (putS σ o.dst v) w' (a.put o.dst v) (ha.putO hd v) hq).1 rfl
            unfold wpOp;simp only[hi];rw[gd_eq ha]
            rcases h with ⟨hg,hq⟩ | ⟨hg,h⟩
            · rw[hg];exact⟨.inl (hT.refl w),ih undef w hq⟩
            · rw[hg,if_pos rfl];refine .inl ?_;unfold Oper.wp;rw[J1z,ha.eval]
              rcases h with ⟨v,w',hv,hc,hq⟩ | ⟨fc,args,hx,hcall⟩
              · rcases hv with hv | ⟨hv,rfl⟩<;>(rw[hv];exact⟨hc,ih _ w' hq⟩)
              · rw[hx]
                exact Calls.mono hcall fun e w'' ⟨v,he,hc,hq⟩=>by subst he;exact⟨hc,ih v w'' hq⟩
        · exact(J4B hT hsel r true (m'+1) listed hBr hdc σ w a ha hrest).2 m' rfl j hj hjr
      refine⟨fun hbf=>?_,key⟩;subst hbf
      have hr:Region.ready .any L.toArray listed=i::r.idx:=by simpa using hb
      refine⟨fun h0=>(by rw[h0] at hr;cases hr),fun j hj=>key m rfl j ?_ hj⟩;rw[hr] at hj;exact hj
theorem Go1.drawT {ok:World→Prop} {σ:Nat→Value} {w:World} {i:Nat} (hT:TR T ok) (xs:List Nat) (dep:Nat) (t:Tr) (hm:P.follows .mixedOrders=true) (hB:(Region.noSelect L.toArray && trOk L.toArray xs dep false L.length t (Array.replicate L.length false))=true)
  (h:∀w1,Same w w1→GoT xs T P f n L k R t σ w1):Go1 P f n (.code (.region i L.toArray true)::k) σ w R:=by
 simp only[Bool.and_eq_true] at hB;obtain⟨h1,h3⟩:=hB;intro a ha;refine Cont.of_wp (wp_region_any hm (J6A (T:=T) (ex:=fun j=>xs.contains j) _ _ _ _ ?_));have:=(J4B (xs:=xs) (dep:=dep) hT.rt h1 t false L.length (Array.replicate L.length false) h3 (by simpa using DC.start L.toArray) σ _ a ha (h _ (Same.drew w))).1 rfl;simpa using this
end
section
variable {xs:List Nat} {dep:Nat} {T:World→World→Prop} {P:Program} {f n:Nat} {L:List Oper} {k:List Item} {R:Value→World→Prop} {t r:Tr} {σ:Nat→Value} {w w':World} {i:Nat}
variable {d:Option Nat} {op:Op} {ty:TypeId} {pos:String} {aft:Array Edge} {g:Option (Nat×Bool)}
theorem GoT.nil (h:Go1 P f n k σ w R):GoT xs T P f n L k R .nil σ w:=h
theorem GoT.pure {v:Value} (hi:nth L i=some ⟨d,op,ty,pos,aft,g⟩) (hv:∀w',OpV P op ty σ w' v w') (hg:gd L σ g=true) (hd:dOk n d=true)
  (h:GoT xs T P f n L k R t (putS σ d v) w):GoT xs T P f n L k R (.qp i t) σ w:=by
 simp only[GoT,hi];exact⟨hd,.inr ⟨hg,v,hv,h⟩⟩
theorem GoT.stable {v:Value} (hi:nth L i=some ⟨d,op,ty,pos,aft,g⟩) (hv:∀w',T w w'→OpV P op ty σ w' v w') (hg:gd L σ g=true) (hd:dOk n d=true)
  (h:GoT xs T P f n L k R t (putS σ d v) w):GoT xs T P f n L k R (.qs i t) σ w:=by
 simp only[GoT,hi];exact⟨hd,.inr ⟨hg,v,hv,h⟩⟩
theorem GoT.both (h1:GoT xs T P f n L k R (.alt i t .fin) σ w) (h2:GoT xs T P f n L k R r σ w):GoT xs T P f n L k R (.alt i t r) σ w:=by
 simp only[GoT] at h1 ⊢;exact⟨h1.1,h2⟩
theorem GoT.step {v:Value} (hi:nth L i=some ⟨d,op,ty,pos,aft,g⟩) (hv:OpV P op ty σ w v w') (hs:T w w') (hg:gd L σ g=true) (hd:dOk n d=true)
  (h:GoT xs T P f n L k R t (putS σ d v) w'):GoT xs T P f n L k R (.alt i t .fin) σ w:=by
 simp only[GoT,hi];exact⟨⟨hd,.inr ⟨hg,.inl ⟨v,w',hv,.inl hs,h⟩⟩⟩,trivial⟩
theorem GoT.call {R1:Value→World→Prop} (hi:nth L i=some ⟨d,op,ty,pos,aft,g⟩) (hc:OpC P op ty σ w R1) (hs:∀v w',R1 v w'→T w w') (hg:gd L σ g=true) (hd:dOk n d=true)
  (h:∀v w',R1 v w'→GoT xs T P f n L k R t (putS σ d v) w'):GoT xs T P f n L k R (.alt i t .fin) σ w:=by
 simp only[GoT,hi];obtain⟨fc,args,hx,hcall⟩:=hc;exact⟨⟨hd,.inr ⟨hg,.inr ⟨fc,args,hx,CallsV.mono hcall fun v w' h'=>⟨.inl (hs v w' h'),h v w' h'⟩⟩⟩⟩,trivial⟩
theorem GoT.stepX {v:Value} (hi:nth L i=some ⟨d,op,ty,pos,aft,g⟩) (hv:OpV P op ty σ w v w') (hs:xs.contains i=true) (hg:gd L σ g=true) (hd:dOk n d=true)
  (h:GoT xs T P f n L k R t (putS σ d v) w'):GoT xs T P f n L k R (.alt i t .fin) σ w:=by
 simp only[GoT,hi];exact⟨⟨hd,.inr ⟨hg,.inl ⟨v,w',hv,.inr hs,h⟩⟩⟩,trivial⟩
theorem GoT.callX {R1:Value→World→Prop} (hi:nth L i=some ⟨d,op,ty,pos,aft,g⟩) (hc:OpC P op ty σ w R1) (hs:xs.contains i=true) (hg:gd L σ g=true) (hd:dOk n d=true)
  (h:∀v w',R1 v w'→GoT xs T P f n L k R t (putS σ d v) w'):GoT xs T P f n L k R (.alt i t .fin) σ w:=by
 simp only[GoT,hi];obtain⟨fc,args,hx,hcall⟩:=hc;exact⟨⟨hd,.inr ⟨hg,.inr ⟨fc,args,hx,CallsV.mono hcall fun v w' h'=>⟨.inr hs,h v w' h'⟩⟩⟩⟩,trivial⟩
theorem GoT.pass (hi:nth L i=some ⟨d,op,ty,pos,aft,g⟩) (hg:gd L σ g=false) (hd:dOk n d=true) (h:GoT xs T P f n L k R t (putS σ d undef) w) :
  GoT xs T P f n L k R (.qp i t) σ w∧GoT xs T P f n L k R (.qs i t) σ w∧GoT xs T P f n L k R (.alt i t .fin) σ w:=by
 simp only[GoT,hi];exact⟨⟨hd,.inl ⟨hg,h⟩⟩,⟨hd,.inl ⟨hg,h⟩⟩,⟨hd,.inl ⟨hg,h⟩⟩,trivial⟩
end
open Go Go.RowKit
section
variable {xs:List Nat} {dep:Nat} {T:World→World→Prop} {P:Program} {f n:Nat} {L:List Oper} {k:List Item} {R:Value→World→Prop} {t:Tr} {σ:Nat→Value} {w:World} {i:Nat} {ty:TypeId}
theorem GoT.inl {g m:Nat} {fn:Func} {c:Code} {x:Operand} {ys:List Operand} {vs caps:List Value} {ts:Array TypeId} {d:Option Nat} {pos:String} {aft:Array Edge} {gg:Option (Nat×Bool)}
  (hi:nth L i=some ⟨d,.call { callee:=.value x,args:=ys.toArray,argTypes:=ts },ty,pos,aft,gg⟩)
  (hx:ev σ x=.func (.func g) #[] caps.toArray) (hl:ys.map (ev σ)=vs) (hb:Body P g) (hf:P.funcs[g]?=some fn) (hbody:fn.body=some c) (hn:fn.ntmps=m) (hle:Nat.ble (vs++caps).length m=true) (hg:gd L σ gg=true) (hd:dOk n d=true)
  (h:∀R1:Value→World→Prop,(∀v w',T w w'→GoT xs T P f n L k R t (putS σ d v) w'→R1 v w')→Go1 P g m [.code c] (initσ (vs++caps)) w R1) :
  GoT xs T P f n L k R (.alt i t .fin) σ w:=
 GoT.call (R1:=fun v w'=>T w w'∧GoT xs T P f n L k R t (putS σ d v) w') hi (J3R hb hx hl (CallsV.of hf hbody hn hle (h _ fun _ _ h1 h2=>⟨h1,h2⟩))) (fun _ _ h=>h.1) hg hd fun _ _ h=>h.2
end
section
variable {n0:Nat} {w:World} {E:List Ent} {A:List Nat} {e:TypeId}
end
open Go Go.RowKit
section
variable {P:Program} {t e e':TypeId} {α:Type} {r:Rp α}
theorem JaT {hf:Fl r} {n c m:Nat} (b:Nat):(t2 hf e e' (some ⟨b,0,none⟩) n c (fun _=>(none,0)) (List.replicate m ([]:List α))).fp=[b]:=by
 simp only[t2,Ent.fp,t2fp0];simp[pb]
theorem alMake2 (hf:Fl r) {by_:Nat} (ht:P.underlying t=some (.slice e)) (he:ti P e=some (some (.slice none 0 0),1,by_)) {m:Int} (h0:0≤m) (hb0:m≤1099511627776) (hby:by_≤128) {σ:Nat→Value} {x y:Operand} {ty:TypeId} (hx:ev σ x=.int .i64 m) (hy:ev σ y=.int .i64 m) :
  AlE P (.makeSlice t x y) ty σ (fun b=>.slice (some ⟨b,0,none⟩) m.toNat m.toNat) (fun b=>t2 hf e e' (some ⟨b,0,none⟩) m.toNat m.toNat (fun _=>(none,0)) (List.replicate m.toNat ([]:List α))):=by
 obtain⟨k,rfl⟩:=Int.eq_ofNat_of_zero_le h0;obtain⟨i,hi,hz1,hz2,hz3⟩:=J4h he
 have hn':(k:Int)≤140737488355328:=by omega
 have hb:i.bytes*k≤281474976710656:=by
  rw[hz3];have h1:by_*k≤128*1099511627776:=Nat.mul_le_mul hby (by omega);omega
 have hcells:(madeCells (Value.slice none 0 0).cells (k*1)).toList=hcells (fun _=>(none,0)) (List.replicate k ([]:List α)):=by
  apply List.ext_getElem
  ·simp[size_madeCells]
  ·intro m h1 h2
   have hm:m<k:=by simpa using h2
   rw[J2O (by simpa using hm)];simp only[hcell,J0c _ _ hm,List.length_nil];have:=J48 (.slice none 0 0) 1 k rfl (by decide) m hm 0 (by decide);simp only[Nat.mul_one,Nat.add_zero] at this h1 ⊢;rw[List.getElem?_eq_getElem h1] at this;simpa [Value.cells] using this
 refine AlE.of (fun b=>JaT b) fun w=>?_;obtain⟨w2,hr,hown,hg⟩:=run_make_full (P:=P) w w.heap.size t e i (.slice none 0 0) 1 ht hi hz1 hz2 .i64 .i64 k hb (by simp only[maxLen];omega) (Nat.le_refl _);refine⟨w2,.inl ?_,Same.grown hg,⟨?_,?_,?_,fun q hq=>?_⟩,?_⟩
 ·simp[execOp,opr,hx,hy,hr]
 ·simp only[Int.toNat_natCast];rw[←hcells];exact hown
 ·simp
 ·simp only[List.length_replicate,mx];omega
 ·simp only[Int.toNat_natCast,List.length_replicate] at hq ⊢;rw[J0c _ _ hq];exact⟨[],World.ownsRow_nil w2 w.heap.size e' r.sz,Els.nil _ _ _⟩
 ·exact(World.ownsRow.lt hown w.heap.size rfl).2
end
open Go
theorem GoT.inlX {xs:List Nat} {T:World→World→Prop} {P:Program} {f n:Nat} {L:List Oper} {k:List Item} {R:Value→World→Prop} {t:Tr} {σ:Nat→Value} {w:World} {i:Nat} {ty:TypeId} {g m:Nat} {fn:Func} {c:Code} {x:Operand} {ys:List Operand} {vs caps:List Value} {ts:Array TypeId} {d:Option Nat} {pos:String} {aft:Array Edge} {gg:Option (Nat×Bool)}
  (hi:nth L i=some ⟨d,.call { callee:=.value x,args:=ys.toArray,argTypes:=ts },ty,pos,aft,gg⟩)
  (hx:ev σ x=.func (.func g) #[] caps.toArray) (hl:ys.map (ev σ)=vs) (hb:Body P g) (hf:P.funcs[g]?=some fn) (hbody:fn.body=some c) (hn:fn.ntmps=m) (hle:Nat.ble (vs++caps).length m=true) (hg:gd L σ gg=true) (hd:dOk n d=true) (hs:xs.contains i=true)
  (h:∀R1:Value→World→Prop,(∀v w',GoT xs T P f n L k R t (putS σ d v) w'→R1 v w')→Go1 P g m [.code c] (initσ (vs++caps)) w R1) :
  GoT xs T P f n L k R (.alt i t .fin) σ w:=
 GoT.callX (R1:=fun v w'=>GoT xs T P f n L k R t (putS σ d v) w') hi (J3R hb hx hl (CallsV.of hf hbody hn hle (h _ fun _ _ h1=>h1))) hs hg hd fun _ _ h=>h
open Go Go.RowKit
theorem t2makeS {P:Program} {w:World} {t e e':TypeId} {A:List Nat} {E:List Ent} {n0:Nat} {α:Type} {r:Rp α} (hf:Fl r) {by_:Nat} (ht:P.underlying t=some (.slice e)) (he:ti P e=some (some (.slice none 0 0),1,by_)) (hO:Owns n0 w E A) {m:Int} (h0:0≤m) (hb0:m≤1099511627776) (hby:by_≤128) :
  ∃w' q,Stp n0 A w E w' (t2 hf e e' q m.toNat m.toNat (fun _=>(none,0)) (List.replicate m.toNat ([]:List α))::E)∧Same w w' ∧
   (∀{σ:Nat→Value} {x y:Operand} {ty:TypeId},ev σ x=.int .i64 m→ev σ y=.int .i64 m→OpV P (.makeSlice t x y) ty σ w (.slice q m.toNat m.toNat) w')∧q.isNone=false:=by
 obtain⟨k,rfl⟩:=Int.eq_ofNat_of_zero_le h0;obtain⟨i,hi,hz1,hz2,hz3⟩:=J4h he
 have hn':(k:Int)≤140737488355328:=by omega
 have hb:i.bytes*k≤281474976710656:=by
  rw[hz3];have h1:by_*k≤128*1099511627776:=Nat.mul_le_mul hby (by omega);omega
 obtain⟨w2,hr,hown,hg⟩:=run_make_full (P:=P) w n0 t e i (.slice none 0 0) 1 ht hi hz1 hz2 .i64 .i64 k hb (by simp only[maxLen];omega) hO.le
 have hcells:(madeCells (Value.slice none 0 0).cells (k*1)).toList=hcells (fun _=>(none,0)) (List.replicate k ([]:List α)):=by
  apply List.ext_getElem
  ·simp[size_madeCells]
  ·intro m h1 h2
   have hm:m<k:=by simpa using h2
   rw[J2O (by simpa using hm)];simp only[hcell,J0c _ _ hm,List.length_nil];have:=J48 (.slice none 0 0) 1 k rfl (by decide) m hm 0 (by decide);simp only[Nat.mul_one,Nat.add_zero] at this h1 ⊢;rw[List.getElem?_eq_getElem h1] at this;simpa [Value.cells] using this
 refine⟨w2,some ⟨w.heap.size,0,none⟩,Stp.new hO (Same.grown hg) ?_ (fun b hb=>?_) ⟨?_,?_,?_,fun q hq=>?_⟩,Same.grown hg,fun hx hy=>.inl ?_,rfl⟩
 ·simp only[t2,Ent.fp,t2fp0];simp[pb]
 ·simp only[t2,Ent.fp,t2fp0] at hb;simp[pb] at hb;omega
 ·simp only[Int.toNat_natCast];rw[←hcells];exact hown
 ·simp
 ·simp only[List.length_replicate,mx];omega
 ·simp only[Int.toNat_natCast,List.length_replicate] at hq ⊢;rw[J0c _ _ hq];exact⟨[],World.ownsRow_nil w2 n0 e' r.sz,Els.nil _ _ _⟩
 ·simp[execOp,opr,hx,hy,hr]
end Sg
