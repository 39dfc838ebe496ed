/- -/
import Derived.Test.YtbmaaecppfdjfaaGreatDoorZp
import Derived.Test.YtbmaaecppfdjfaaGreatDoorEv
set_option linter.unusedVariables false
set_option linter.unusedSimpArgs false
namespace Sg
open Go
set_option maxRecDepth 100000
def dAB:DFA:=⟨2,0,[true,false,false],[[1,2],[2,0],[2,2]]⟩
theorem JeC:Da dAB:=J43.1 (by decide +kernel)
theorem JeI {m:DFA} {W:List Str} (c:Can 2 (nero dAB 2) (acc dAB) m W):m.Final.length=3:=by
 have h3:=Jbm JeC rfl c;have fl:=c.fl;have h3:W.length≤3:=h3;have na:∀u v z:Str,LW 2 z→ix dAB.Final (rn dAB dAB.Start (u++z))≠ix dAB.Final (rn dAB dAB.Start (v++z))→nero dAB 2 u≠nero dAB 2 v:=fun u v z hz hn e=>hn (J5z.1 e z hz);have la:LW 2 [lt 0]:=LW.lt (by decide) (by decide);have lb:LW 2 [lt 1]:=LW.lt (by decide) (by decide);obtain⟨i,hi,ei⟩:=c.cl.place (LW.nil 2);obtain⟨j,hj,ej⟩:=c.cl.place la;obtain⟨l,hl,el⟩:=c.cl.place lb;have n1:i≠j:=fun e=>na [] [lt 0] [] (LW.nil 2) (by decide +kernel) (by rw[←ei,←ej,e]);have n2:i≠l:=fun e=>na [] [lt 1] [] (LW.nil 2) (by decide +kernel) (by rw[←ei,←el,e]);have n3:j≠l:=fun e=>na [lt 0] [lt 1] [lt 1] lb (by decide +kernel) (by rw[←ej,←el,e]);omega
theorem J2L {K:Bool→Prop} (h:K true):J13 K:=by
 unfold J13;refine J6b (u_:=30) _ rfl (J6b (u_:=30) _ rfl (J9U (u_:=30) _ rfl (J9U (u_:=30) _ rfl (J9Z (u_:=30) (dAB,0) (by decide +kernel) ?_))))
 show (if (0:Int)=0 then _ else _)
 rw[if_pos rfl];refine J2y JeC rfl fun m W c=>fun _=>?_;have e:=JeI c;rw[if_pos ω];exact J6b (u_:=30) _ rfl (JaJ (u_:=30) true (by decide +kernel) h)
end Sg
namespace Sg
open Go
theorem J9b {d:DFA} {m:Int} {K:Bool→Prop} (h1:Da d→(d.Final.length:Int)≤m→K true) (h0:K false):J65 d m K:=by
 unfold J65;refine fun _=>?_
 split
 ·rename_i hm
  split
  ·refine J98 ?_
   split
   ·rename_i h;exact h1 (J43.1 (daC0.1 h)) hm
   ·exact h0
  ·exact h0
 ·exact h0
end Sg
namespace Sg
open Go
section
variable {gens:List (List Int)} {mon:Bool} {r:run}
theorem Fin.wd (h:Fin gens mon r) {i:Nat} (hi:i<r.words.length):Wd gens mon (ix r.words (i:Int)):=(h.1.si.red (i:=(i:Int)) ω ω).1
theorem Fin.eix (h:Fin gens mon r) {i:Nat} (hi:i<r.words.length):ix r.Enum.Elems (i:Int)=vl gens (ix r.words (i:Int)):=h.1.si.eix ω ω
theorem Fin.el' (h:Fin gens mon r):r.Enum.Elems.length=r.words.length:=h.1.si.elen
theorem Fin.Jf7 (hg:GV gens=true) (h:Fin gens mon r) {i j:Nat} (hi:i<r.words.length) (hj:j<r.words.length):compF (ix r.Enum.Elems (i:Int)) (ix r.Enum.Elems (j:Int))∈r.Enum.Elems:=by
 rw[h.eix hi,h.eix hj];exact h.Je8 hg (h.wd hi) (h.wd hj).1
theorem Fin.mul (hg:GV gens=true) (h:Fin gens mon r) {i j:Nat} (hi:i<r.words.length) (hj:j<r.words.length) :
  ∃m:Nat,mu (tabT r.Enum.Elems) i j=m∧m<r.words.length∧ix r.Enum.Elems (m:Int)=compF (ix r.Enum.Elems (i:Int)) (ix r.Enum.Elems (j:Int)):=by
 have el:=h.el';obtain⟨m0,m1,m2⟩:=JeV (h.Jf7 hg hi hj);obtain⟨m,em⟩:=Int.eq_ofNat_of_zero_le m0;rw[em] at m1 m2;refine⟨m,?_,ω,m2⟩;unfold mu;rw[JbD ω ω,em]
theorem J9Y (E:List (List Int)):(tabT E).length=E.length:=by simp[tabT]
theorem Fin.pos (hg:GV gens=true) (h:Fin gens mon r):1≤r.words.length:=h.1.ne
theorem Fin.inj (h:Fin gens mon r) {i j:Nat} (hi:i<r.words.length) (hj:j<r.words.length) (e:ix r.Enum.Elems (i:Int)=ix r.Enum.Elems (j:Int)):i=j:=by
 have el:=h.el';have hn:=h.1.si.nodup;have h1:=Jca hn (i:=i) ω;have h2:=Jca hn (i:=j) ω;rw[e] at h1;omega
theorem Fin.tab (hg:GV gens=true) (h:Fin gens mon r) (h4:r.Enum.Elems.length≤400):VT (tabT r.Enum.Elems)=true:=by
 have el:=h.el';have tl:=J9Y r.Enum.Elems;have p1:=h.pos hg
 have as:AS (tabT r.Enum.Elems):=fun x y z hx hy hz=>by
  rw[tl,el] at hx hy hz;obtain⟨a,a1,a2,a3⟩:=h.mul hg hx hy;obtain⟨b,b1,b2,b3⟩:=h.mul hg hy hz;rw[a1,b1];obtain⟨c,c1,c2,c3⟩:=h.mul hg a2 hz;obtain⟨d,d1,d2,d3⟩:=h.mul hg hx b2;rw[c1,d1];rw[a3] at c3;rw[b3] at d3;have vx:=h.vfE hg (i:=(x:Int)) ω ω;have vy:=h.vfE hg (i:=(y:Int)) ω ω
  have:=h.inj c2 d2 (by
   rw[c3,d3]
   exact J9M fun j hj=>by
    have:=(J2j.1 vx.1).2.2 j hj
    omega)
  omega
 have sh:SH (tabT r.Enum.Elems)=true:=J6D.2 ⟨ω,ω,fun i hi=>J2p.2 ⟨by
  unfold tabT
  rw[J2M _ ω ω];simp,fun j hj=>by
  have hl:(ix (tabT r.Enum.Elems) (i:Int)).length=r.Enum.Elems.length:=by
   unfold tabT;rw[J2M _ ω ω];simp
  obtain⟨m,m1,m2,_⟩:=h.mul hg (i:=i) (j:=j) ω ω;unfold mu at m1
  omega⟩⟩
 unfold VT;rw[sh,decide_eq_true as];rfl
theorem Fin.num (hg:GV gens=true) (h:Fin gens mon r) {w:Str} (hw:Wd gens mon w):∃m:Nat,fnd r.Enum.Elems (vl gens w)=m∧m<r.words.length∧ix r.Enum.Elems (m:Int)=vl gens w:=by
 obtain⟨a,b,_,c⟩:=h.1.Jce hg hw;obtain⟨m,em⟩:=Int.eq_ofNat_of_zero_le a;rw[em] at b c;exact⟨m,em,ω,by rw[h.eix ω,c]⟩
theorem Fin.n256 (hg:GV gens=true) (h4:(ix gens 0).length≤4) (h:Fin gens mon r):r.words.length≤256:=by
 apply Classical.byContradiction;intro hc;have ok:∀i:Nat,i<r.words.length→VF (ix r.Enum.Elems (i:Int))=true∧(ix r.Enum.Elems (i:Int)).length=(ix gens 0).length:=fun i hi=>h.vfE hg ω ω
 obtain⟨a,b,hab,hb,he⟩:=pigeon 256 (fun m=>code4 (ix r.Enum.Elems (m:Int))) (fun m hm=>by
  obtain⟨h1,h2⟩:=ok m ω;have e0:=entry4 h1 ω 0;have e1:=entry4 h1 ω 1;have e2:=entry4 h1 ω 2;have e3:=entry4 h1 ω 3
  simp only[code4];omega)
 obtain⟨a1,a2⟩:=ok a ω;obtain⟨b1,b2⟩:=ok b ω;have p0:=entry4 a1 ω 0;have p1:=entry4 a1 ω 1;have p2:=entry4 a1 ω 2;have p3:=entry4 a1 ω 3;have q0:=entry4 b1 ω 0;have q1:=entry4 b1 ω 1;have q2:=entry4 b1 ω 2;have q3:=entry4 b1 ω 3;simp only[code4] at he
 have:=h.inj (i:=a) (j:=b) ω ω (J09 ω fun j hj=>by
  have hj4:j<4:=ω
  rcases(by omega:j=0∨j=1∨j=2∨j=3) with rfl | rfl | rfl | rfl<;>omega)
 omega
theorem Fin.mu_vl (hg:GV gens=true) (h:Fin gens mon r) {u v:Str} (hu:Wd gens mon u) (hv:Wd gens mon v):mu (tabT r.Enum.Elems) (fnd r.Enum.Elems (vl gens u)) (fnd r.Enum.Elems (vl gens v))=fnd r.Enum.Elems (vl gens (u++v)):=by
 have el:=h.el';obtain⟨i,e1,hi,v1⟩:=h.num hg hu;obtain⟨j,e2,hj,v2⟩:=h.num hg hv;rw[e1,e2];unfold mu;rw[JbD ω ω,v1,v2,J8q hg hu.1 hv.1]
theorem Fin.Jbq (h:Fin gens mon r) {i:Nat} (hi:i<r.words.length):fnd r.Enum.Elems (vl gens (ix r.words (i:Int)))=i:=by
 have el:=h.el';rw[←h.eix hi];exact Jca h.1.si.nodup ω
end
end Sg
namespace Sg
open Go
section
variable {d m:DFA} {k:Nat}
end
end Sg
namespace Sg
section
variable {α:Type} {m:α→α→α} {e a b:α}
end
end Sg
namespace Sg
open Go
section
variable {k:Nat} {φ:Str→Bool} {s:Syntactic}
end
end Sg
namespace Sg
open Go
section
variable {t:List (List Int)} (hv:VT t=true) (h1:∀x:Nat,x<t.length→mu t 0 x=x∧mu t x 0=x)
end
section
variable {k:Nat} {d m:DFA} {W:List Str} {s:Syntactic}
end
end Sg
namespace Sg
open Go
structure HomT (t u:List (List Int)) (f:List Int):Prop where
 fl:f.length=t.length
 fr:∀x:Nat,x<t.length→0≤ix f (x:Int)∧ix f (x:Int)<u.length
 mul:∀x y:Nat,x<t.length→y<t.length→ix f (mu t x y)=mu u (ix f (x:Int)) (ix f (y:Int))
def GenR (t:List (List Int)) (gens:List Int):Prop:=∀S:Int→Prop,(∀g∈gens,S g)→(∀x g,S x→g∈gens→S (mu t x g))→∀x:Nat,x<t.length→S x
def OntoT (u:List (List Int)) (f:List Int):Prop:=∀y:Nat,y<u.length→(y:Int)∈f
end Sg
namespace Sg
open Go
theorem J55 {l:List Int} {n:Nat} {K:Bool→Prop} (h:K (inB n l)):J1M l n K:=by
 unfold J1M;refine fun _=>LoopWP.scan l.length (fun j=>0≤ix l (j:Int)∧ix l (j:Int)<n) ?_;intro k X hk hP hX
 show J4U l n K X k
 unfold J4U
 split
 ·refine⟨ω,ω,?_⟩
  split
  ·rename_i h1;rw[J61 fun h2=>by have:=h2 k ω;omega] at h;exact h
  ·split
   ·rename_i h1;rw[J61 fun h2=>by have:=h2 k ω;omega] at h;exact h
   ·exact hX ω ⟨ω,ω⟩
 ·rw[J2q.2 fun j hj=>hP j ω] at h;exact h
section
variable {t u:List (List Int)} {f F D:List Int}
structure EX (t:List (List Int)) (f F D:List Int):Prop where
 fl:F.length=t.length
 nf:∀x:Nat,x<t.length→0≤ix f (x:Int)
 or_:∀x:Nat,x<t.length→ix F (x:Int)=-1∨ix F (x:Int)=ix f (x:Int)
 mem:∀x:Nat,x<t.length→((x:Int)∈D↔0≤ix F (x:Int))
 rg:∀v∈D,0≤v∧v<t.length
 nd:D.Nodup
theorem EX.le (h:EX t f F D):D.length≤t.length:=by
 have:=J44 h.nd (l':=iota t.length) fun v hv=>J4p.2 (h.rg v hv)
 rwa [J18] at this
theorem EX.new (h:EX t f F D) {x:Int} (h0:0≤x) (h1:x<t.length) (hn:ix F x<0):EX t f (st F x (ix f x)) (D++[x]):=by
 obtain⟨a,rfl⟩:=Int.eq_ofNat_of_zero_le h0;have fl:=h.fl;have hf:=h.nf a ω;have at_:∀y:Nat,y<t.length→ix (st F (a:Int) (ix f (a:Int))) (y:Int)=if (y:Int)=a then ix f (a:Int) else ix F (y:Int):=fun y hy=>ix_st _ ω ω ω
 have hd:¬(a:Int)∈D:=fun hm=>by have:=(h.mem a ω).1 hm;omega
 refine⟨by simp[fl],h.nf,fun y hy=>?_,fun y hy=>?_,fun v hv=>?_,?_⟩
 ·rw[at_ y hy]
  split
  ·rename_i e;rw[e];exact .inr rfl
  ·exact h.or_ y hy
 ·rw[at_ y hy]
  split
  ·rename_i e;rw[e];simp[hf]
  ·rename_i e;rw[←h.mem y hy];simp[e]
 ·rcases List.mem_append.1 hv with hv | hv
  ·exact h.rg v hv
  ·simp only[List.mem_cons,List.not_mem_nil,or_false] at hv;subst hv;exact⟨h0,h1⟩
 ·refine List.nodup_append.2 ⟨h.nd,by simp,fun a1 ha b hb e=>?_⟩;simp only[List.mem_cons,List.not_mem_nil,or_false] at hb;subst hb;subst e;exact hd ha
theorem EX.old (h:EX t f F D) {x:Int} (h0:0≤x) (h1:x<t.length) (hn:¬ix F x<0):ix F x=ix f x∧x∈D:=by
 obtain⟨a,rfl⟩:=Int.eq_ofNat_of_zero_le h0;exact⟨by have:=h.or_ a ω;omega,(h.mem a ω).2 ω⟩
theorem EX.at_ (h:EX t f F D) {x:Int} (hx:x∈D):ix F x=ix f x:=by
 obtain⟨h0,h1⟩:=h.rg x hx;obtain⟨a,rfl⟩:=Int.eq_ofNat_of_zero_le h0;have:=(h.mem a ω).1 hx;have:=h.or_ a ω;omega
theorem J8B (T:Tb t t.length) (U:Tb u u.length) (H:HomT t u f) {G D0:List Int} {k:Nat} (hk:k<D0.length) (hE:EX t f F D0) (hG:∀g∈G,g∈D0) (gl:G.length≤t.length) {X3:Nat→List Int→List Int→Prop} {K:List Int→Bool→Prop}
  (h:∀F' D',EX t f F' D'→(∃E,D'=D0++E)→(∀g∈G,mu t (ix D0 (k:Int)) g∈D')→X3 (k+1) D' F') :
  LoopWP (S:=Nat×List Int×List Int) (fun s X=>J2W t u G k D0 X3 K (fun a b c=>X (a,b,c)) s.1 s.2.1 s.2.2) (0,D0,F):=by
 have n4:=T.n4;have hx:=hE.rg _ (J0S (xs:=D0) (i:=(k:Int)) ω ω);have rx:=T.row _ hx.1 hx.2
 have tk:G.take ((G.length:Int)).toNat=G:=by simp
 refine LoopWP.fold G.length (fun j (s:List Int×List Int)=>EX t f s.2 s.1∧(∃E,s.1=D0++E)∧∀i:Nat,i<j→mu t (ix D0 (k:Int)) (ix G (i:Int))∈s.1) ⟨hE,⟨[],by simp⟩,fun i hi=>absurd hi (Nat.not_lt_zero _)⟩ ?_;rintro j ⟨D,F⟩ X hj ⟨hE',⟨E,eE⟩,hI⟩ hX
 show J2W t u G k D0 X3 K _ j D F
 unfold J2W
 try dsimp only at hE' eE hI hX
 rw[tk]
 split
 ·rename_i hlt;have hg:=hG _ (J0S (xs:=G) (i:=(j:Int)) ω hlt);have gr:=hE.rg _ hg
  have sub:∀v∈D0,v∈D:=fun v hv=>by rw[eE];exact List.mem_append_left _ hv
  have fx:=hE'.at_ (sub _ (J0S (xs:=D0) (i:=(k:Int)) ω ω));have fg:=hE'.at_ (sub _ hg);have fl:=hE'.fl;have dl:=hE'.le;obtain⟨a,ea⟩:=Int.eq_ofNat_of_zero_le hx.1;obtain⟨b,eb⟩:=Int.eq_ofNat_of_zero_le gr.1;have fa:=H.fr a ω;have fb:=H.fr b ω;have hm:=T.mu hx.1 hx.2 gr.1 gr.2;have hmul:=H.mul a b ω ω;have ru:=U.row (ix f (a:Int)) fa.1 fa.2;rw[←ea] at fa hmul ru;rw[←eb] at fb hmul;unfold mu at hmul hm;have nxt:∀D' F',EX t f F' D'→(∃E,D'=D0++E)→(∀v∈D,v∈D')→ix (ix t (ix D0 (k:Int))) (ix G (j:Int))∈D'→X (j+1,D',F'):=fun D' F' e1 e2 e3 e4=>hX _ ω ⟨e1,e2,upS (fun i hi=>e3 _ (hI i hi)) e4⟩;refine⟨ω,hlt,hx.1,hx.2,gr.1,ω,hx.1,ω,by rw[fx];exact fa.1,by rw[fx];exact fa.2,gr.1,ω,by rw[fg];exact fb.1,by rw[fx,fg];omega,hm.1,ω,?_⟩;rw[fx,fg,←hmul]
  split
  ·rename_i hneg;have e:=hE'.new hm.1 hm.2 hneg;refine⟨hm.1,ω,by simp;omega,hm.1,by rw[J02];omega,?_⟩;rw[if_pos (by rw[e.at_ (by simp)])];exact⟨⟨ω,ω⟩,nxt _ _ e ⟨E++[_],by rw[eE,List.append_assoc]⟩ (fun v hv=>List.mem_append_left _ hv) (by simp)⟩
  ·rename_i hneg;obtain⟨e1,e2⟩:=hE'.old hm.1 hm.2 hneg;refine⟨hm.1,ω,?_⟩;rw[if_pos e1];exact⟨⟨ω,ω⟩,nxt _ _ hE' ⟨E,eE⟩ (fun v hv=>hv) e2⟩
 ·have dl:=hE.le;refine⟨⟨ω,ω⟩,h _ _ hE' ⟨E,eE⟩ fun g hg=>?_⟩;obtain⟨i,hi,rfl⟩:=J0f.1 hg;exact hI i ω
theorem J8s (T:Tb t t.length) (U:Tb u u.length) (H:HomT t u f) {gens G:List Int} (hgr:GenR t gens) (hgG:∀g∈gens,g∈G) (hE:EX t f F G) {K:List Int→Bool→Prop} (h:K f true) :
  LoopWP (S:=Nat×List Int×List Int) (fun s X=>J5j t u G K (fun a b c=>X (a,b,c)) s.1 s.2.1 s.2.2) (0,G,F):=by
 refine LoopWP.to t.length (fun s=>s.1) (fun s=>s.1≤s.2.1.length∧EX t f s.2.2 s.2.1∧(∀g∈G,g∈s.2.1)∧∀i:Nat,i<s.1→∀g∈G,mu t (ix s.2.1 (i:Int)) g∈s.2.1) ⟨Nat.zero_le _,hE,fun g hg=>hg,fun i hi=>absurd hi (Nat.not_lt_zero _)⟩ (fun s hs=>by have:=hs.2.1.le;have:=hs.1;omega) ?_;rintro⟨k,D,F⟩ X ⟨hk,hE',hG,hI⟩ hX
 try dsimp only at hk hE' hG hI ⊢
 unfold J5j
 split
 ·rename_i hlt;refine⟨ω,hlt,J8B T U H ω hE' hG hE.le fun F' D' e1 e2 e3=>?_⟩;obtain⟨E,rfl⟩:=e2;refine hX (k+1,_,_) ⟨by simp;omega,e1,fun g hg=>List.mem_append_left _ (hG g hg),fun i hi g hg=>?_⟩ rfl
  have hi':i<D.length:=by dsimp only at hi;omega
  have ei:ix (D++E) (i:Int)=ix D (i:Int):=Jch ω;dsimp only;rw[ei];by_cases e:i=k
  ·subst e;exact e3 g hg
  ·exact List.mem_append_left _ (hI i (by dsimp only at hi;omega) g hg)
 ·have hkl:k=D.length:=ω
  have all:=hgr (fun x=>x∈D) (fun g hg=>hG g (hgG g hg)) fun x g hx hg=>by
   obtain⟨i,hi,rfl⟩:=J0f.1 hx;exact hI i ω g (hgG g hg)
  have nd:(iota t.length).Nodup:=by
   rw[iota,List.nodup_iff_pairwise_ne,List.pairwise_map]
   exact List.pairwise_lt_range.imp fun h=>by omega
  have l1:=J44 nd (l':=D) fun v hv=>by
   have hv:=J4p.1 hv;obtain⟨y,rfl⟩:=Int.eq_ofNat_of_zero_le hv.1;exact all y ω
  rw[J18] at l1;rw[if_neg ω];have:F=f:=J09 (by rw[hE'.fl,H.fl]) fun j hj=>hE'.at_ (all j (by rw[←hE'.fl];exact hj));rw[this];exact h
theorem Ja6 (ht:VT t=true) (hu:VT u=true) (H:HomT t u f) {gens im:List Int} (hl:gens.length=im.length) (hg:inB t.length gens=true) (hi:inB u.length im=true)
  (hf:∀i:Nat,i<gens.length→ix f (ix gens (i:Int))=ix im (i:Int)) (hgr:GenR t gens) {K:List Int→Bool→Prop} (h:K f true):J3W t gens u im K:=by
 have T:=SH.tb (VT.sh ht);have U:=SH.tb (VT.sh hu);have n4:=T.n4;unfold J3W;refine fun _ _=>?_;rw[if_pos ω];refine J0B ?_;rw[if_pos (vaC0.2 ht)];refine J0B ?_;rw[if_pos (vaC0.2 hu)];refine fun _=>J55 ?_;rw[if_pos hg];refine fun _=>J55 ?_;rw[if_pos hi];refine⟨ω,ω,?_⟩;refine LoopWP.fold t.length (fun k l=>l.length=t.length∧∀j:Nat,j<k→ix l (j:Int)=-1) ⟨by simp,fun j hj=>absurd hj (Nat.not_lt_zero _)⟩ ?_;rintro k l X hk ⟨ll,hI⟩ hX
 show J4I t gens u im K _ k l
 unfold J4I
 split
 ·rename_i hlt;rw[List.length_replicate] at hlt;refine⟨ω,ω,⟨ω,ω⟩,hX _ ω ⟨by simp[ll],upS (fun j hj=>?_) ?_⟩⟩
  ·rw[ix_st _ ω ω ω,if_neg ω];exact hI j hj
  ·rw[ix_st _ ω ω ω,if_pos rfl]
 ·rename_i hlt;rw[List.length_replicate] at hlt;have hE:EX t f l []:=⟨ll,fun x hx=>(H.fr x hx).1,fun x hx=>.inl (hI x ω),fun x hx=>by rw[hI x ω];simp,fun v hv=>(nomatch hv),List.nodup_nil⟩;refine LoopWP.fold gens.length (fun k (s:List Int×List Int)=>EX t f s.2 s.1∧∀i:Nat,i<k→ix gens (i:Int)∈s.1) ⟨hE,fun i hi=>absurd hi (Nat.not_lt_zero _)⟩ ?_;rintro k ⟨D,F⟩ X2 hk2 ⟨hE,hD⟩ hX2
  show J5b t gens u im K _ k D F
  unfold J5b
  try dsimp only at hE hD
  split
  ·rename_i hlt2;have gr:=J2q.1 hg k ω;have fl:=hE.fl;have dl:=hE.le;have hfk:=hf k ω;refine⟨ω,hlt2,ω,ω,gr.1,ω,?_⟩;rw[←hfk]
   split
   ·rename_i hneg;have e:=hE.new gr.1 gr.2 hneg;refine⟨gr.1,ω,by simp;omega,gr.1,by rw[J02];omega,?_⟩;rw[if_pos (by rw[e.at_ (by simp)])];exact hX2 _ ω ⟨e,upS (fun i hi=>List.mem_append_left _ (hD i hi)) (by simp)⟩
   ·rename_i hneg;obtain⟨e1,e2⟩:=hE.old gr.1 gr.2 hneg;refine⟨gr.1,ω,?_⟩;rw[if_pos e1];exact hX2 _ ω ⟨hE,upS hD e2⟩
  ·exact⟨ω,ω,J8s T U H hgr (fun g hg=>by
    obtain⟨i,hi,rfl⟩:=J0f.1 hg
    exact hD i ω) hE h⟩
theorem Jab (T:Tb t t.length) (U:Tb u u.length) (H:HomT t u f) {K:Bool→Prop} (h:K true):J4M t u f K:=by
 unfold J4M;have fl:=H.fl;refine fun _ _=>?_;rw[if_pos ω];refine fun _=>J55 ?_;rw[if_pos (J2q.2 fun j hj=>H.fr j ω)];refine LoopWP.scan t.length (fun _=>True) ?_;intro k X hk _ hX
 show J5N t u f K X k
 unfold J5N
 split
 ·have r:=T.row (k:Int) ω ω;refine⟨ω,ω,fun _=>LoopWP.scan t.length (fun _=>True) ?_⟩;intro j X2 hj _ hX2
  show J5L t u f k X K X2 j
  unfold J5L;rw[r]
  split
  ·have m:=T.mu (x:=(k:Int)) (y:=(j:Int)) ω ω ω ω;have fk:=H.fr k ω;have fj:=H.fr j ω;have ru:=U.row _ fk.1 fk.2;have e:=H.mul k j ω ω;unfold mu at m e;refine⟨ω,ω,m.1,ω,ω,ω,fk.1,fk.2,ω,ω,fj.1,ω,?_⟩;rw[if_pos e];exact hX2 ω trivial
  ·exact hX ω trivial
 ·exact h
theorem Jaa (ht:VT t=true) (hu:VT u=true) (H:HomT t u f) (on:OntoT u f) {K:List Int→Prop} (h:∀l:List Int,l.length=u.length→K l):J5c t u f K:=by
 have T:=SH.tb (VT.sh ht);have U:=SH.tb (VT.sh hu);have n4:=T.n4;have u4:=U.n4;have fl:=H.fl;unfold J5c J6h;refine fun _ _=>?_;rw[if_pos ω];refine J0B ?_;rw[if_pos (vaC0.2 ht)];refine J0B ?_;rw[if_pos (vaC0.2 hu)];refine Jab T U H ((if_pos rfl).mpr ?_);refine fun _=>⟨ω,ω,fun _=>?_⟩;refine LoopWP.fold f.length (fun k l=>l.length=u.length∧∀i:Nat,i<k→ix l (ix f (i:Int))=true) ⟨by simp,fun j hj=>absurd hj (Nat.not_lt_zero _)⟩ ?_;rintro k l X hk ⟨ll,hI⟩ hX
 show J5K f K _ k l
 unfold J5K
 split
 ·have fk:=H.fr k ω;refine⟨ω,ω,fk.1,ω,hX _ ω ⟨by simp[ll],upS (fun j hj=>?_) ?_⟩⟩
  ·have fj:=H.fr j ω;rw[ix_st _ fk.1 ω fj.1]
   split
   ·rfl
   ·exact hI j hj
  ·rw[ix_st _ fk.1 ω fk.1,if_pos rfl]
 ·have all:∀y:Nat,y<u.length→ix l (y:Int)=true:=fun y hy=>by
   obtain⟨i,hi,e⟩:=J0f.1 (on y hy);rw[←e];exact hI i ω
  refine LoopWP.fold u.length (fun k (s:List Int)=>s.length=k) rfl ?_;rintro y s X2 hy hs hX2
  show J5H l K _ y s
  unfold J5H
  split
  ·refine⟨ω,ω,?_⟩;rw[if_pos (all y ω)];exact⟨by simp;omega,hX2 _ ω (by simp[hs])⟩
  ·exact h _ ω
end
end Sg
namespace Sg
open Go
section
variable {d:DFA} {r:run} {s:Syntactic} {gens G:List (List Int)} {φ:Str→Bool} {c:List Int} {set:List Bool} {L:List Int} {q:List (List Int)} {cnt:Nat}
theorem JaU (hg:GV gens=true) {u u' v v':Str} (hu:LW gens.length u) (hu':LW gens.length u') (hv:LW gens.length v) (hv':LW gens.length v') (e:vl gens u=vl gens u') (e':vl gens v=vl gens v'):vl gens (u++v)=vl gens (u'++v'):=by
 rw[J8q hg hu hv,J8q hg hu' hv',e,e']
def ByV (gens:List (List Int)) (φ:Str→Bool):Prop:=∀u v,LW gens.length u→LW gens.length v→vl gens u=vl gens v→φ u=φ v
theorem Jc8 (hg:GV gens=true) (hφ:ByV gens φ) {u v:Str} (hu:LW gens.length u) (hv:LW gens.length v) (e:vl gens u=vl gens v):syn φ gens.length u=syn φ gens.length v:=
 J2x.2 fun x y hx hy=>hφ _ _ (LW.app.2 ⟨LW.app.2 ⟨hx,hu⟩,hy⟩) (LW.app.2 ⟨LW.app.2 ⟨hx,hv⟩,hy⟩) (JaU hg (LW.app.2 ⟨hx,hu⟩) (LW.app.2 ⟨hx,hv⟩) hy hy (JaU hg hx hx hu hv rfl e) rfl)
theorem Fin.nw (hg:GV gens=true) (h:Fin gens true r) {u:Str} (hu:LW gens.length u):∃m:Nat,fnd r.Enum.Elems (vl gens u)=m∧m<r.words.length∧vl gens (ix r.words (m:Int))=vl gens u:=by
 obtain⟨m,e,hm,v⟩:=h.num hg (w:=u) ⟨hu,.inl rfl⟩;exact⟨m,e,hm,by rw[←v,h.eix hm]⟩
theorem Fin.mw (hg:GV gens=true) (h:Fin gens true r) {i j:Nat} (hi:i<r.words.length) (hj:j<r.words.length):∃m:Nat,ix (ix (tabT r.Enum.Elems) (i:Int)) (j:Int)=m∧m<r.words.length∧vl gens (ix r.words (m:Int))=vl gens (ix r.words (i:Int)++ix r.words (j:Int)):=by
 have e:=h.mu_vl hg (h.wd hi) (h.wd hj);rw[h.Jbq hi,h.Jbq hj] at e;obtain⟨m,e1,hm,v⟩:=h.nw hg (u:=ix r.words (i:Int)++ix r.words (j:Int)) (LW.app.2 ⟨(h.wd hi).1,(h.wd hj).1⟩);exact⟨m,by rw[e1] at e;exact e,hm,v⟩
theorem Jf0 (hg:GV gens=true) (h:Fin gens true r) (hφ:ByV gens φ) (hset:∀i:Nat,i<r.words.length→ix set (i:Int)=φ (ix r.words (i:Int)))
  (hs:∀x y:Nat,x<r.words.length→y<r.words.length→ix c (x:Int)=ix c (y:Int)→ix set (x:Int)=ix set (y:Int))
  (st:∀z:Nat,z<r.words.length→Stb (tabT r.Enum.Elems) c c r.words.length (z:Int))
  (gr:∀g∈L,0≤g∧g<(r.words.length:Int))
  (co:∀R,(∀g∈L,CgR (tabT r.Enum.Elems) r.words.length g R)→(∀x y:Nat,x<r.words.length→y<r.words.length→R x y→ix set (x:Int)=ix set (y:Int))→HdR r.words.length R c)
  {i j:Nat} (hi:i<r.words.length) (hj:j<r.words.length):ix c (i:Int)=ix c (j:Int)↔syn φ gens.length (ix r.words (i:Int))=syn φ gens.length (ix r.words (j:Int)):=by
 have lw:∀{x:Nat},x<r.words.length→LW gens.length (ix r.words (x:Int)):=fun hx=>(h.wd hx).1;constructor
 ·intro e;refine J2x.2 fun x y hx hy=>?_;obtain⟨a,_,ha,va⟩:=h.nw hg hx;obtain⟨b,_,hb,vb⟩:=h.nw hg hy;have e1:=(st a ha i j hi hj e).1;obtain⟨p,ep,hp,vp⟩:=h.mw hg ha hi;obtain⟨q,eq,hq,vq⟩:=h.mw hg ha hj;rw[ep,eq] at e1;have e2:=(st b hb p q hp hq e1).2;obtain⟨p2,ep2,hp2,vp2⟩:=h.mw hg hp hb;obtain⟨q2,eq2,hq2,vq2⟩:=h.mw hg hq hb;rw[ep2,eq2] at e2;have e3:=hs p2 q2 hp2 hq2 e2;rw[hset p2 hp2,hset q2 hq2] at e3
  have key:∀{m p p2:Nat},m<r.words.length→p<r.words.length→p2<r.words.length→vl gens (ix r.words (p:Int))=vl gens (ix r.words (a:Int)++ix r.words (m:Int))→vl gens (ix r.words (p2:Int))=vl gens (ix r.words (p:Int)++ix r.words (b:Int))→φ (ix r.words (p2:Int))=φ (x++ix r.words (m:Int)++y):=fun hm hp hp2 v1 v2=>
   hφ _ _ (lw hp2) (LW.app.2 ⟨LW.app.2 ⟨hx,lw hm⟩,hy⟩) (by
    rw[v2]
    exact JaU hg (lw hp) (LW.app.2 ⟨hx,lw hm⟩) (lw hb) hy (by rw[v1];exact JaU hg (lw ha) hx (lw hm) (lw hm) va rfl) vb)
  rw[←key hi hp hp2 vp vp2,←key hj hq hq2 vq vq2,e3]
 ·intro e;refine co (fun x y=>syn φ gens.length (ix r.words (x:Int))=syn φ gens.length (ix r.words (y:Int))) (fun g hgm x y u v hx hy hu hv exy=>?_) (fun x y hx hy exy=>?_) i j hi hj e
  ·obtain⟨g0,g1⟩:=gr g hgm;obtain⟨a,rfl⟩:=Int.eq_ofNat_of_zero_le g0;have ha:a<r.words.length:=ω
   have up:∀{x u:Nat},x<r.words.length→u<r.words.length→ix (ix (tabT r.Enum.Elems) (a:Int)) (x:Int)=u→syn φ gens.length (ix r.words (u:Int))=syn φ gens.length (ix r.words (a:Int)++ix r.words (x:Int)):=fun hx hu e=>by
    obtain⟨m,em,hm,vm⟩:=h.mw hg ha hx;rw[e] at em;have:m=_:=(Int.ofNat.inj em).symm;subst this;exact Jc8 hg hφ (lw hu) (LW.app.2 ⟨lw ha,lw hx⟩) vm
   have up':∀{x u:Nat},x<r.words.length→u<r.words.length→ix (ix (tabT r.Enum.Elems) (x:Int)) (a:Int)=u→syn φ gens.length (ix r.words (u:Int))=syn φ gens.length (ix r.words (x:Int)++ix r.words (a:Int)):=fun hx hu e=>by
    obtain⟨m,em,hm,vm⟩:=h.mw hg hx ha;rw[e] at em;have:m=_:=(Int.ofNat.inj em).symm;subst this;exact Jc8 hg hφ (lw hu) (LW.app.2 ⟨lw hx,lw ha⟩) vm
   exact⟨fun e1 e2=>(up hx hu e1).trans ((J9i φ _ _ _ _ (lw hx) (lw hy) (lw ha) exy).trans (up hy hv e2).symm),fun e1 e2=>(up' hx hu e1).trans (((J8C φ _).app (lw hx) (lw hy) exy (lw ha)).trans (up' hy hv e2).symm)⟩
  ·rw[hset x hx,hset y hy];exact Jd5 φ _ _ _ (lw hx) (lw hy) exy
structure QuoT (t:List (List Int)) (n:Nat) (c:List Int) (cnt:Nat) (q:List (List Int)):Prop where
 ql:q.length=cnt
 rl:∀a:Nat,a<cnt→(ix q (a:Int)).length=cnt
 at_:∀x y:Nat,x<n→y<n→ix (ix q (ix c (x:Int))) (ix c (y:Int))=ix c (ix (ix t (x:Int)) (y:Int))
theorem Nmb.rep {c:List Int} {cnt:Nat} (h:Nmb c cnt):∃f:Nat→Nat,∀a,a<cnt→f a<c.length∧ix c (f a:Int)=a:=by
 have:∀a:Nat,∃q:Nat,a<cnt→q<c.length∧ix c (q:Int)=a:=fun a=>by
  by_cases ha:a<cnt
  ·obtain⟨q,h1,h2⟩:=h.on a ha;exact⟨q,fun _=>⟨h1,h2⟩⟩
  ·exact⟨0,fun h=>absurd h ha⟩
 exact Classical.axiomOfChoice this
theorem QuoT.vt {t:List (List Int)} (hv:VT t=true) (hl:c.length=t.length) (hn:Nmb c cnt) (h4:cnt≤400) (h:QuoT t t.length c cnt q):VT q=true:=by
 have T:=SH.tb (VT.sh hv);have A:=VT.as hv;have n1:=T.n1;obtain⟨f,hf⟩:=hn.rep;obtain⟨a0,ea0,ha0⟩:=hn.rg 0 ω
 have hm:∀x y:Nat,x<t.length→y<t.length→∃m:Nat,ix (ix t (x:Int)) (y:Int)=m∧m<t.length:=fun x y hx hy=>by
  have:=T.mu (x:=(x:Int)) (y:=(y:Int)) ω ω ω ω;unfold mu at this;exact⟨_,(Int.toNat_of_nonneg this.1).symm,ω⟩
 have ql:=h.ql
 have val:∀a b:Nat,a<cnt→b<cnt→ix (ix q (a:Int)) (b:Int)=ix c (ix (ix t (f a:Int)) (f b:Int)):=fun a b ha hb=>by
  have:=h.at_ (f a) (f b) (by have:=(hf a ha).1;omega) (by have:=(hf b hb).1;omega);rw[(hf a ha).2,(hf b hb).2] at this;exact this
 have sh:SH q=true:=J6D.2 ⟨ω,ω,fun a ha=>J2p.2 ⟨by rw[h.rl a ω,ql],fun b hb=>by
  have rl:=h.rl a ω;have hfa:=(hf a ω).1;have hfb:=(hf b ω).1;obtain⟨m,em,hm⟩:=hm (f a) (f b) ω ω;rw[val a b ω ω,em];obtain⟨e,ee,he⟩:=hn.rg m ω
  rw[ee];omega⟩⟩
 have as:AS q:=fun x y z hx hy hz=>by
  have hfx:=hf x ω;have hfy:=hf y ω;have hfz:=hf z ω;obtain⟨m,em,hm1⟩:=hm (f x) (f y) ω ω;obtain⟨p,ep,hp1⟩:=hm (f y) (f z) ω ω
  have e1:mu q x y=ix c (m:Int):=by show ix (ix q (x:Int)) (y:Int)=_;rw[val x y ω ω,em]
  have e2:mu q y z=ix c (p:Int):=by show ix (ix q (y:Int)) (z:Int)=_;rw[val y z ω ω,ep]
  have l:=h.at_ m (f z) ω ω;have rr:=h.at_ (f x) p ω ω;rw[hfz.2] at l;rw[hfx.2] at rr;rw[e1,e2]
  show ix (ix q (ix c (m:Int))) (z:Int)=ix (ix q (x:Int)) (ix c (p:Int))
  rw[l,rr];have:=A (f x) (f y) (f z) ω ω ω;unfold mu at this;rw[em,ep] at this;rw[this]
 unfold VT;rw[sh,decide_eq_true as];rfl
structure SyF (gens:List (List Int)) (r:run) (c:List Int) (cnt:Nat) (q:List (List Int)) (s:Syntactic) (f:List Int):Prop where
 hom:HomT q s.Table f
 on:OntoT s.Table f
 val:∀w,LW gens.length w→ix f (ix c (fnd r.Enum.Elems (vl gens w)))=vlS s w
 gen:∀im:List Int,im.length=gens.length→(∀x:Nat,x<gens.length→ix im (x:Int)=fnd r.Enum.Elems (ix gens (x:Int)))→GenR q ((0::im).map fun y=>ix c y)
 cn:cnt=s.Table.length
theorem syF (hg:GV gens=true) (hk:gens.length<159) (h:Fin gens true r) (hφ:ByV gens φ) (o:SynOf gens.length φ s) (hcl:c.length=r.words.length) (hn:Nmb c cnt)
    (hi:∀i j:Nat,i<r.words.length→j<r.words.length→(ix c (i:Int)=ix c (j:Int)↔syn φ gens.length (ix r.words (i:Int))=syn φ gens.length (ix r.words (j:Int))))
    (hq:QuoT (tabT r.Enum.Elems) r.words.length c cnt q):∃f,SyF gens r c cnt q s f:=by
  have R:=J8C φ gens.length;have L:=J9i φ gens.length;have lw:∀{x:Nat},x<r.words.length→LW gens.length (ix r.words (x:Int)):=fun hx=>(h.wd hx).1;obtain⟨g,hgf⟩:=hn.rep;have ve:∀{u v},LW gens.length u→LW gens.length v→(vlS s u=vlS s v↔syn φ gens.length u=syn φ gens.length v):=fun hu hv=>o.mon.Jbl hk R L hu hv;have tl:=o.mon.tl;have ql:=hq.ql
  have fl:((List.range cnt).map fun a=>vlS s (ix r.words (g a:Int))).length=cnt:=by simp
  have fat:∀a:Nat,a<cnt→ix ((List.range cnt).map fun a=>vlS s (ix r.words (g a:Int))) (a:Int)=vlS s (ix r.words (g a:Int)):=fun a ha=>by
    rw[ix_lt (by simp;exact ha)];simp
  have fx:∀x:Nat,x<r.words.length→ix ((List.range cnt).map fun a=>vlS s (ix r.words (g a:Int))) (ix c (x:Int))=vlS s (ix r.words (x:Int)):=fun x hx=>by
    obtain⟨a,ea,ha⟩:=hn.rg x ω;have hga:=hgf a ha;rw[ea,fat a ha];exact(ve (lw ω) (lw hx)).2 ((hi _ _ ω hx).1 (by rw[hga.2,ea]))
  have val:∀w,LW gens.length w→ix ((List.range cnt).map fun a=>vlS s (ix r.words (g a:Int))) (ix c (fnd r.Enum.Elems (vl gens w)))=vlS s w:=fun w hw=>by
    obtain⟨m,em,hm,vm⟩:=h.nw hg hw;rw[em,fx m hm];exact(ve (lw hm) hw).2 (Jc8 hg hφ (lw hm) hw vm)
  have rng:∀w,LW gens.length w→0≤vlS s w∧vlS s w<s.Table.length:=fun w hw=>by
    obtain⟨m,em,hm,_⟩:=o.mon.val hk R L hw;omega
  have on:OntoT s.Table ((List.range cnt).map fun a=>vlS s (ix r.words (g a:Int))):=fun y hy=>by
    have lwy:=o.mon.cl.lw (show y<s.Words.length by omega);obtain⟨m,em,hm,vm⟩:=h.nw hg lwy;have e:=val _ lwy;rw[o.mon.J1J hk R L ω,em] at e;obtain⟨a,ea,ha⟩:=hn.rg m ω;rw[ea] at e;rw[←e];exact J0S ω (by rw[fl];omega)
  refine⟨_,⟨⟨by rw[fl,ql],fun x hx=>?_,fun x y hx hy=>?_⟩,on,val,fun im il him S h1 h2=>?_,?_⟩⟩
  · have hgx:=hgf x ω;rw[fat x ω];exact rng _ (lw ω)
  · have hgx:=hgf x ω;have hgy:=hgf y ω;have e:=hq.at_ (g x) (g y) ω ω;rw[hgx.2,hgy.2] at e;obtain⟨m,em,hm,vm⟩:=h.mw hg (i:=g x) (j:=g y) ω ω;rw[em] at e
    show ix _ (ix (ix q (x:Int)) (y:Int))=_
    rw[e,fx m hm,fat x ω,fat y ω,(ve (lw hm) (LW.app.2 ⟨lw ω,lw ω⟩)).2 (Jc8 hg hφ (lw hm) (LW.app.2 ⟨lw ω,lw ω⟩) vm),o.mon.J5I hk R L (lw ω) (lw ω)]
    rfl
  · have hS:∀w,LW gens.length w→S (ix c (fnd r.Enum.Elems (vl gens w))):=fun w=>by
      induction w using J8I with
      | h0 =>
        intro _;obtain⟨w0,p0⟩:=h.w0 hg;have:=h.Jbq p0;rw[show ((0:Nat):Int)=0 from rfl,w0] at this;rw[this];exact h1 _ (List.mem_map.2 ⟨0,by simp,rfl⟩)
      | h1 w b ih =>
        intro hw;obtain⟨hw1,hw2⟩:=LW.app.1 hw;obtain⟨x,hx,rfl⟩:=LW.letter hk hw2;have hmul:=h.mu_vl hg (u:=w) (v:=[lt x]) ⟨hw1,.inl rfl⟩ ⟨hw2,.inl rfl⟩;obtain⟨a,ea,ha,_⟩:=h.nw hg hw1;obtain⟨b,eb,hb,_⟩:=h.nw hg hw2;have hIH:=ih hw1;rw[ea] at hmul hIH;rw[eb] at hmul;have e:=hq.at_ a b ha hb;rw[←hmul]
        show S (ix c (ix (ix (tabT r.Enum.Elems) (a:Int)) (b:Int)))
        rw[←e];refine h2 _ _ hIH (List.mem_map.2 ⟨(b:Int),?_,rfl⟩);rw[←eb,J7g hg hx,←him x hx];exact List.mem_cons_of_mem _ (J0S ω ω)
    intro x hx;have hgx:=hgf x ω;have:=hS _ (lw (x:=g x) ω);rw[h.Jbq ω,hgx.2] at this;exact this
  · -- as many classes as elements
    have inj:∀i j:Nat,i<j→j<((List.range cnt).map fun a=>vlS s (ix r.words (g a:Int))).length→ix ((List.range cnt).map fun a=>vlS s (ix r.words (g a:Int))) (i:Int)≠ix ((List.range cnt).map fun a=>vlS s (ix r.words (g a:Int))) (j:Int):=fun i j hij hj e=>by
      rw[fl] at hj;have hgi:=hgf i ω;have hgj:=hgf j ω;rw[fat i ω,fat j hj] at e;have:=(hi _ _ ω ω).2 ((ve (lw ω) (lw ω)).1 e);rw[hgi.2,hgj.2] at this;omega
    have nd:((List.range cnt).map fun a=>vlS s (ix r.words (g a:Int))).Nodup:=by
      rw[List.nodup_iff_pairwise_ne,List.pairwise_iff_getElem];intro i j hi hj hij;rw[←ix_lt,←ix_lt];exact inj i j hij hj
    have l1:=J44 nd (l':=iota s.Table.length) fun v hv=>by
      obtain⟨j,hj,ej⟩:=J0f.1 hv;rw[fl] at hj;have hgj:=hgf j hj;rw[←ej,fat j hj];exact J4p.2 (rng _ (lw ω))
    have nd2:(iota s.Table.length).Nodup:=by
      rw[iota,List.nodup_iff_pairwise_ne,List.pairwise_map]
      exact List.pairwise_lt_range.imp fun h=>by omega
    have l2:=J44 nd2 (l':=(List.range cnt).map fun a=>vlS s (ix r.words (g a:Int))) fun v hv=>by
      have hv:=J4p.1 hv;obtain⟨y,rfl⟩:=Int.eq_ofNat_of_zero_le hv.1;exact on y ω
    rw[J18,fl] at l1 l2;omega
end
end Sg
namespace Sg
open Go
section
variable {t:List (List Int)} {c:List Int} {cnt:Nat}
theorem Nmb.can (h:Nmb c cnt):CanP c:=fun k hk=>by
 obtain⟨a,ea,ha⟩:=h.rg k hk
 refine⟨ω,fun v v0 hv=>?_⟩
 obtain⟨b,rfl⟩:=Int.eq_ofNat_of_zero_le v0
 exact h.fst k b hk hv
theorem J9e (T:Tb t t.length) (hl:c.length=t.length) (st:∀z:Nat,z<t.length→Stb t c c t.length (z:Int)) {D:List Int} {k y:Nat} (hk:k<t.length) (hy:y<t.length) (hd:ix c (k:Int)<D.length) (h0:0≤ix c (k:Int)) (ey:ix D (ix c (k:Int))=y) (ec:ix c (y:Int)=ix c (k:Int)) {X1:Nat→List Int→Prop} {K:Bool→Prop} (h:X1 (k+1) D) :
  LoopWP (S:=Nat) (fun s X=>J0F t c 0 k D X1 K X s) 0:=by
 refine LoopWP.scan t.length (fun _=>True) ?_;intro s X hs _ hX
 show J0F t c 0 k D X1 K X s
 unfold J0F
 split
 ·have hs':s<t.length:=ω;rw[if_neg (by decide),ey];have m1:=T.mu (x:=(s:Int)) (y:=(k:Int)) ω ω ω ω;have m2:=T.mu (x:=(s:Int)) (y:=(y:Int)) ω ω ω ω;have m3:=T.mu (x:=(k:Int)) (y:=(s:Int)) ω ω ω ω;have m4:=T.mu (x:=(y:Int)) (y:=(s:Int)) ω ω ω ω;unfold mu at m1 m2 m3 m4;have r1:=T.row (s:Int) ω ω;have r2:=T.row (k:Int) ω ω;have r3:=T.row (y:Int) ω ω;obtain⟨e1,e2⟩:=st s hs' k y hk hy ec.symm;refine⟨ω,ω,ω,ω,m1.1,ω,ω,ω,ω,ω,m2.1,ω,?_⟩;rw[if_pos e1,if_neg (by decide)];refine⟨ω,ω,ω,ω,m3.1,ω,ω,ω,ω,ω,m4.1,ω,?_⟩;rw[if_pos e2];exact hX hs' trivial
 ·exact h
theorem Jdh {D:List Int} {k j:Nat} {X1:Nat→List Int→Prop} {K:Bool→Prop} {X:Nat→Prop}:J42 t c 0 k D X1 K X j=J0F t c 0 k (D++[(k:Int)]) X1 K X j:=rfl
theorem J6U (hv:VT t=true) (hl:c.length=t.length) (hn:Nmb c cnt) (st:∀z:Nat,z<t.length→Stb t c c t.length (z:Int)) {K:Bool→Prop} (h:K true):J14 t c 0 K:=by
 have T:=SH.tb (VT.sh hv);have n4:=T.n4;unfold J14;rw[if_neg (by decide),if_neg (by decide)];refine fun _ _=>?_;rw[if_pos ω];refine J2w hn.can ω ?_;rw[if_pos rfl];refine J0B ?_;rw[if_pos (vaC0.2 hv)];refine LoopWP.fold c.length (fun k (D:List Int)=>D.length≤k∧(∀q:Nat,q<k→ix c (q:Int)<D.length)∧∀a:Nat,a<D.length→∃y:Nat,ix D (a:Int)=y∧y<t.length∧ix c (y:Int)=a) ⟨Nat.le_refl _,fun q hq=>absurd hq (Nat.not_lt_zero _),fun a ha=>absurd ha (Nat.not_lt_zero _)⟩ ?_;rintro k D X hk ⟨dl,hD,hI⟩ hX
 show J1N t c 0 K _ k D
 unfold J1N
 split
 ·have hk':k<c.length:=ω;obtain⟨a,ea,ha⟩:=hn.rg k hk'
  have hle:a≤D.length:=by
   apply Classical.byContradiction;intro hc;obtain⟨j,hj,ej⟩:=hn.fst k D.length hk' ω;have:=hD j hj;omega
  refine⟨ω,ω,?_⟩
  split
  ·rename_i e;simp only[Jdh]
   have ex:ix (D++[(k:Int)]) (ix c (k:Int))=(k:Nat):=by rw[e,ix_lt (by simp)];simp
   refine⟨by simp;omega,ω,by simp;omega,J9e T hl st ω (y:=k) ω (by simp;omega) ω ex rfl (hX _ ω ⟨by simp;omega,fun q hq=>?_,fun b hb=>?_⟩)⟩
   ·by_cases eq:q=k
    ·subst eq;simp;omega
    ·have:=hD q ω;simp;omega
   ·by_cases eb:b=D.length
    ·subst eb;refine⟨k,?_,ω,e⟩;rw[ix_lt (by simp)];simp
    ·have hb':b<D.length:=by simp at hb;omega
     rw[Jch ω];exact hI b hb'
  ·rename_i e;have ha':a<D.length:=ω;obtain⟨y,e1,e2,e3⟩:=hI a ha';refine⟨ω,ω,J9e T hl st ω e2 ω ω (by rw[ea,e1]) (by rw[e3,ea]) (hX _ ω ⟨ω,fun q hq=>?_,hI⟩)⟩;by_cases eq:q=k
   ·subst eq;omega
   ·exact hD q ω
 ·exact h
theorem J90 (hv:VT t=true) (hl:c.length=t.length) (hn:Nmb c cnt) (st:∀z:Nat,z<t.length→Stb t c c t.length (z:Int)) {K:List (List Int)→Int→Prop} (h:∀q,QuoT t t.length c cnt q→K q 0):J2b t c K:=by
 have T:=SH.tb (VT.sh hv);have n1:=T.n1;have n4:=T.n4;unfold J2b;refine J0B ?_;rw[if_pos (vaC0.2 hv)];refine J6U hv hl hn st ?_;rw[if_pos rfl];refine J4O hn.can ω fun m hm hpos=>?_;have hle:=hm.le;obtain⟨cn,ec,hcn⟩:=hm.nm
 have:cn=cnt:=by
  have f1:=hn.finer hcn rfl fun x y _ _ e=>e;have f2:=hcn.finer hn rfl fun x y _ _ e=>e;omega
 subst this
 have c1:1≤cn:=by have:=hpos ω;omega
 subst ec;refine⟨ω,ω,fun _=>?_⟩
 have mm:∀x y:Nat,x<t.length→y<t.length→∃m:Nat,ix (ix t (x:Int)) (y:Int)=m∧m<t.length:=fun x y hx hy=>by
  have:=T.mu (x:=(x:Int)) (y:=(y:Int)) ω ω ω ω;unfold mu at this;exact⟨_,(Int.toNat_of_nonneg this.1).symm,ω⟩
 have cong:∀x x' y:Nat,x<t.length→x'<t.length→y<t.length→ix c (x:Int)=ix c (x':Int)→ix c (ix (ix t (x:Int)) (y:Int))=ix c (ix (ix t (x':Int)) (y:Int)):=fun x x' y hx hx' hy e=>(st y hy x x' hx hx' e).2;have congl:∀x y y':Nat,x<t.length→y<t.length→y'<t.length→ix c (y:Int)=ix c (y':Int)→ix c (ix (ix t (x:Int)) (y:Int))=ix c (ix (ix t (x:Int)) (y':Int)):=fun x y y' hx hy hy' e=>(st x hx y y' hy hy' e).1;refine LoopWP.fold c.length (fun k (d:List (List Int))=>d.length=cn∧(∀x:Nat,x<k→(ix d (ix c (x:Int))).length=cn∧∀y:Nat,y<t.length→ix (ix d (ix c (x:Int))) (ix c (y:Int))=ix c (ix (ix t (x:Int)) (y:Int)))∧∀a:Nat,a<cn→(∀x:Nat,x<k→ix c (x:Int)≠a)→ix d (a:Int)=[])
  ⟨by simp,fun x hx=>absurd hx (Nat.not_lt_zero _),fun a ha _=>J0c _ _ (by simpa using ha)⟩ ?_
 rintro k d X hk ⟨dl,hI,hE⟩ hX
 show J3v t c K _ k d
 unfold J3v
 split
 ·have hk':k<c.length:=ω;obtain⟨a,ea,ha⟩:=hn.rg k hk';refine⟨ω,ω,ω,ω,?_⟩;by_cases seen:∃x:Nat,x<k∧ix c (x:Int)=a
  ·obtain⟨x,hx,ex⟩:=seen;obtain⟨g1,g2⟩:=hI x hx;rw[ex] at g1 g2
   rw[if_neg (by
    intro e;rw[ea] at e;rw[e] at g1
    simp at g1;omega)]
   refine hX _ ω ⟨dl,fun z hz=>?_,fun b hb hnb=>hE b hb fun x hx=>hnb x ω⟩;by_cases ez:z=k
   ·subst ez;rw[ea];exact⟨g1,fun y hy=>by rw[g2 y hy];exact cong x z y ω ω hy (by rw[ex,ea])⟩
   ·exact hI z ω
  ·have nseen:∀x:Nat,x<k→ix c (x:Int)≠a:=fun x hx e=>seen ⟨x,hx,e⟩;rw[if_pos (by rw[ea];exact hE a ha nseen)]
   refine⟨ω,ω,ω,ω,by
    intro e;have:=congrArg List.length e
    rw[List.length_replicate,List.length_nil] at this;omega,?_⟩
   rw[ea,dl];refine LoopWP.fold c.length (fun y (d2:List (List Int))=>d2.length=cn∧(∀b:Nat,b≠a→ix d2 (b:Int)=ix d (b:Int))∧(ix d2 (a:Int)).length=cn∧∀z:Nat,z<y→ix (ix d2 (a:Int)) (ix c (z:Int))=ix c (ix (ix t (k:Int)) (z:Int)))
    ⟨by simp[dl],fun b hb=>by rw[ix_st _ ω ω ω,if_neg ω],by rw[ix_st _ ω ω ω,if_pos rfl];simp,fun z hz=>absurd hz (Nat.not_lt_zero _)⟩ ?_
   rintro y d2 X2 hy ⟨l2,o2,r2,v2⟩ hX2
   show J3O t c k _ K _ y d2
   unfold J3O
   split
   ·have hy':y<c.length:=ω;obtain⟨b,eb,hb⟩:=hn.rg y hy';obtain⟨m,em,hm'⟩:=mm k y ω ω;have rk:=T.row (k:Int) ω ω;rw[ea];refine⟨ω,ω,ω,ω,ω,ω,ω,ω,ω,ω,ω,ω,hX2 _ ω ⟨by simp[l2],fun e he=>by rw[ix_st _ ω ω ω,if_neg ω];exact o2 e he,?_,fun z hz=>?_⟩⟩
    ·rw[ix_st _ ω ω ω,if_pos rfl];simp[r2]
    ·obtain⟨f,ef,hf⟩:=hn.rg z ω;rw[ix_st _ ω ω ω,if_pos rfl,ix_st _ ω ω ω];by_cases ez:z=y
     ·subst ez;rw[if_pos rfl]
     ·split
      ·rename_i e;exact congl k y z ω ω ω e.symm
      ·exact v2 z ω
   ·have:y=c.length:=ω;subst this;refine hX _ ω ⟨l2,fun x hx=>?_,fun b hb hnb=>?_⟩
    ·by_cases ex:x=k
     ·subst ex;rw[ea];exact⟨r2,fun y hy=>v2 y ω⟩
     ·have hx':x<k:=ω;obtain⟨b,eb,hb⟩:=hn.rg x ω;have hba:b≠a:=fun e=>nseen x hx' (by rw[eb,e]);have:=hI x hx';rw[eb] at this ⊢;rw[o2 b hba];exact this
    ·have hba:b≠a:=fun e=>hnb k ω (by rw[ea,e]);rw[o2 b hba];exact hE b hb fun x hx=>hnb x ω
 ·have:k=c.length:=ω;subst this;refine h d ⟨dl,fun a ha=>?_,fun x y hx hy=>(hI x ω).2 y hy⟩;obtain⟨x,hx,ex⟩:=hn.on a ha;have:=(hI x ω).1
  rwa [ex] at this
end
end Sg
namespace Sg
open Go
section
variable {k:Nat} {d t:DFA}
theorem JcC (D:Da t):(ix (gensD t) 0).length=t.Final.length:=by
 have l1:=D.l1;have:=J6t (d:=t) (x:=0) ω;rw[show ((0:Nat):Int)=0 from rfl] at this;rw[this];simp[D.nx]
theorem vl_rn (D:Da t) (h32:t.Final.length≤32) {w:Str}:LW (gensD t).length w→∀{q:Int},0≤q→q<t.Final.length→ix (vl (gensD t) w) q=rn t q w:=by
  have l1:=D.l1;have l6:=D.l6;have nx:=D.nx;have glen:(gensD t).length=t.Letters.toNat:=J9P;have hg:=JaZ (J43.2 D) h32;have h00:=JcC D
  induction w using J8I with
  | h0 =>
    intro _ q h0 h1;rw[Jbb,ix_iota' h0 ω,JcS]
  | h1 w b ih =>
    intro hw q h0 h1;obtain⟨hw1,hw2⟩:=LW.app.1 hw;obtain⟨x,hx,rfl⟩:=LW.letter ω hw2;have hok:=vl_ok hg hw1
    have e1:((lt x).toNat:Int)-97=x:=by rw[J0j ω];omega
    rw[J6x,e1,J3Q h0 (by rw[hok.2];omega),ih hw1 h0 h1,J4G _ _ _ ω];have hin:=rn_lw D (k:=(gensD t).length) ω hw1 h0 h1;obtain⟨p,ep⟩:=Int.eq_ofNat_of_zero_le hin.1;rw[ep] at hin ⊢;rw[J6t ω];exact JcD ω
theorem J8d (d:DFA):J2m d (fun b=>b=true):=by
  unfold J2m;refine J9b (fun D hf=>?_) ?_
  case refine_2=>exact J2L rfl
  rw[if_pos rfl];have l1:=D.l1;have l6:=D.l6;obtain⟨k,hk⟩:=Int.eq_ofNat_of_zero_le (show 0≤d.Letters by omega);refine J8h D hk.symm fun t pl W ct _=>?_;have Dt:=Jeu D hk.symm ct;have few:=ct.cl.few D hk.symm;have fl:=ct.fl;have le:=ct.le;have nx:=Dt.nx;have hV:=J43.2 Dt;have hg:=JaZ hV ω;have glen:(gensD t).length=t.Letters.toNat:=J9P;have gk:(gensD t).length=k:=ω;have h00:=JcC Dt;refine J7O ?_;rw[if_pos hV,if_neg ω];refine J5x hg (fun d hd=>absurd (Jft ω) hd.1) fun r hr hr2=>?_;have hF:Fin (gensD t) true r:=⟨hr,hr2⟩;have n256:=hF.n256 hg ω;have el:=hF.el';have npos:=hF.pos hg;have hT:=hF.tab hg ω;have tl:=J9Y r.Enum.Elems;refine J8K (fun hn=>absurd (hF.VE hg) hn) (fun _ hn=>absurd (hF.FE hg) hn) (fun _ hn=>by omega) fun _ _=>?_;refine J6F D ω fun s hs=>?_;rw[if_pos rfl,if_pos rfl,if_pos rfl,if_pos rfl];refine fun _ _=>?_;rw[if_pos ω,if_neg ω]
  split
  · exact J2L rfl
  rename_i h30;have lw:∀{i:Nat},i<r.words.length→LW (gensD t).length (ix r.words (i:Int)):=fun hi=>(hF.wd hi).1
  have at_:∀{u:Str},LW (gensD t).length u→ix t.Final (ix (vl (gensD t) u) 0)=acc d u:=fun hu=>by
    rw[vl_rn Dt ω hu ω (by have:=Dt.f1;omega)];have e:=ct.acc (Jdk d k) ω (fun u v _ _ h=>congrArg (ix d.Final) h) (w:=_) (by rw[←gk];exact hu);rw[ct.st] at e;exact e
  have hφ:ByV (gensD t) (acc d):=fun u v hu hv e=>by rw[←at_ hu,←at_ hv,e]
  refine LoopWP.fold r.Enum.Elems.length (fun i (l:List Bool)=>l.length=i∧∀j:Nat,j<i→ix l (j:Int)=acc d (ix r.words (j:Int))) ⟨rfl,fun j hj=>absurd hj (Nat.not_lt_zero _)⟩ ?_;rintro i set X hi ⟨sl,hS⟩ hX
  show J2A t (gensD t) r.Enum (tabT r.Enum.Elems) s _ _ i set
  unfold J2A
  split
  · have hi':i<r.words.length:=ω;obtain⟨vf,vl'⟩:=hF.vfE hg (i:=(i:Int)) ω ω;have hx:=(J2j.1 vf).2.2 0 (by have:=Dt.f1;omega);have e:=at_ (lw hi');rw[←hF.eix hi'] at e;refine⟨ω,ω,fun _ _=>?_⟩;rw[if_pos ω];refine⟨ω,by have:=Dt.f1;omega,hx.1,by rw[show ((0:Nat):Int)=0 from rfl] at hx;omega,by simp;omega,hX _ ω ⟨by simp[sl],upS (fun j hj=>?_) ?_⟩⟩
    · rw[Jch ω];exact hS j hj
    · rw[show (i:Int)=(set.length:Int) by omega,ix_lt (by simp)];simp only[List.getElem_append_right (Nat.le_refl _),Nat.sub_self,List.getElem_cons_zero];rw[sl];exact e
  have hie:i=r.words.length:=ω;subst hie;refine fun _=>LoopWP.fold (gensD t).length (fun x (im:List Int)=>im=((gensD t).take x).map (fnd r.Enum.Elems)) rfl ?_;rintro x im X2 hx rfl hX2
  show J2t (gensD t) r.Enum (tabT r.Enum.Elems) s set _ _ x _
  unfold J2t
  split
  · refine⟨ω,ω,hF.find hg ⟨by simp;omega,hX2 _ ω ?_⟩⟩;rw[Ja7 ω,List.map_append];rfl
  have hxl:x=(gensD t).length:=ω;subst hxl;rw[List.take_length];obtain⟨k0,e0,o,_⟩:=hs.k;have:k0=(gensD t).length:=ω;subst this;have tn:(tabT r.Enum.Elems).length=r.words.length:=ω;refine J8c hT ω fun G c cn hc gr hset hcc hst hco=>?_;rw[tn] at gr hset hcc hst hco;have hst':∀z:Nat,z<(tabT r.Enum.Elems).length→Stb (tabT r.Enum.Elems) c c (tabT r.Enum.Elems).length (z:Int):=fun z hz=>JeN hT (by rw[tn];exact gr) (by rw[tn];exact hst) (hc z hz);obtain⟨cnt,ecn,nm⟩:=hcc.nm;have hcl:=hcc.cl;have hle:=hcc.le
  have ci:∀i j:Nat,i<r.words.length→j<r.words.length→(ix c (i:Int)=ix c (j:Int)↔syn (acc d) (gensD t).length (ix r.words (i:Int))=syn (acc d) (gensD t).length (ix r.words (j:Int))):=fun i j hi hj=>
    Jf0 hg hF hφ hS hset (by rw[tn] at hst';exact hst') gr hco hi hj
  refine J90 hT ω nm hst' fun q hq=>?_;have qv:=hq.vt hT ω nm ω;rw[tn] at hq;obtain⟨f,F⟩:=syF hg ω hF hφ o hcl nm ci hq;have ql:=hq.ql;have fcn:=F.cn;have n4:=hs.n;have stl:=o.mon.tl;have sil:=o.mon.il;have sp:=o.mon.pos;have svt:=hs.vt D;rw[if_pos rfl];refine fun _ _=>?_;rw[if_pos ω]
  have iml:((gensD t).map (fnd r.Enum.Elems)).length=(gensD t).length:=by simp
  have imat:∀x:Nat,x<(gensD t).length→ix ((gensD t).map (fnd r.Enum.Elems)) (x:Int)=fnd r.Enum.Elems (ix (gensD t) (x:Int)):=fun x hx=>J2M _ ω ω
  have imn:∀x:Nat,x<(gensD t).length→∃m:Nat,ix ((gensD t).map (fnd r.Enum.Elems)) (x:Int)=m∧m<r.words.length∧fnd r.Enum.Elems (vl (gensD t) [lt x])=m:=fun x hx=>by
    obtain⟨m,em,hm,_⟩:=hF.nw hg (LW.lt hx ω);exact⟨m,by rw[imat x hx,←J7g hg hx,em],hm,em⟩
  refine JbQ ?_
  rw[if_pos (J2q.2 fun x hx=>by
    have hx:x<((gensD t).map (fnd r.Enum.Elems)).length:=hx;obtain⟨m,em,hm,_⟩:=imn x ω
    show 0≤ix ((gensD t).map (fnd r.Enum.Elems)) (x:Int)∧ix ((gensD t).map (fnd r.Enum.Elems)) (x:Int)<_
    rw[em];omega)]
  refine⟨by simp;omega,?_⟩
  have gl:([(0:Int)]++(gensD t).map (fnd r.Enum.Elems)).length=(gensD t).length+1:=by simp
  have gat:∀j:Nat,j<(gensD t).length+1→∃m:Nat,ix ([(0:Int)]++(gensD t).map (fnd r.Enum.Elems)) (j:Int)=m∧m<r.words.length:=fun j hj=>by
    match j,hj with
    | 0,_=>exact⟨0,by rw[ix_lt (by simp)];simp,ω⟩
    | x + 1, hj =>
      obtain⟨m,em,hm,_⟩:=imn x ω;refine⟨m,?_,hm⟩;rw[←em,ix_lt (by simp;omega),ix_lt (by simp;omega)];simp
  refine LoopWP.fold ((gensD t).length+1) (fun j (l:List Int)=>l.length=(gensD t).length+1∧(∀i:Nat,i<j→ix l (i:Int)=ix c (ix ([(0:Int)]++(gensD t).map (fnd r.Enum.Elems)) (i:Int)))∧∀i:Nat,j≤i→ix l (i:Int)=ix ([(0:Int)]++(gensD t).map (fnd r.Enum.Elems)) (i:Int)) ⟨gl,fun i hi=>absurd hi (Nat.not_lt_zero _),fun i _=>rfl⟩ ?_;rintro j l X3 hj ⟨ll,h1,h2⟩ hX3
  show J2F s _ c q _ _ j l
  unfold J2F;rw[gl]
  split
  · obtain⟨m,em,hm⟩:=gat j ω;have e2:=h2 j (Nat.le_refl _);refine⟨ω,ω,ω,ω,ω,ω,⟨ω,ω⟩,hX3 _ ω ⟨by simp[ll],upS (fun i hi=>?_) ?_,fun i hi=>?_⟩⟩
    · rw[ix_st _ ω ω ω,if_neg ω];exact h1 i hi
    · rw[ix_st _ ω ω ω,if_pos rfl,e2]
    · rw[ix_st _ ω ω ω,if_neg ω];exact h2 i ω
  have hje:j=(gensD t).length+1:=ω;subst hje
  have el':l=((0:Int)::(gensD t).map (fnd r.Enum.Elems)).map fun y=>ix c y:=J09 (by simp[ll]) fun i hi=>by
    rw[h1 i ω,J2M _ ω (by simp;omega)];rfl
  have ilen:([(0:Int)]++s.Images).length=(gensD t).length+1:=by simp;omega
  have ib:=J2q.1 o.mon.imB;refine⟨by simp;omega,Ja6 qv svt F.hom ω (J2q.2 fun i hi=>?_) (J2q.2 fun i hi=>?_) (fun i hi=>?_) (by rw[el'];exact F.gen _ iml imat) ?_⟩
  · obtain⟨m,em,hm⟩:=gat i ω;obtain⟨a,ea,ha⟩:=nm.rg m ω;rw[h1 i ω,em];omega
  · match i,hi with
    | 0,_=>rw[ix_lt (by simp)];simp;omega
    | x + 1, hi =>
      have:=ib x (by simp at hi;omega);rw[ix_lt ω];rw[ix_lt (by simp at hi;omega)] at this;simpa using this
  · rw[h1 i ω]
    match i,hi with
    | 0, _ =>
      have e:=F.val [] (LW.nil _);rw[JaC] at e;obtain⟨w0,p0⟩:=hF.w0 hg;have z:=hF.Jbq p0;rw[show ((0:Nat):Int)=0 from rfl,w0] at z;rw[z] at e
      have e3:∀l:List Int,ix ([(0:Int)]++l) ((0:Nat):Int)=0:=fun l=>by rw[ix_lt (by simp)];simp
      rw[e3,e3];exact e
    | x + 1, hi =>
      have hx:x<(gensD t).length:=ω
      have e4:∀l:List Int,x<l.length→ix ([(0:Int)]++l) ((x+1:Nat):Int)=ix l (x:Int):=fun l hl=>by rw[ix_lt (by simp;omega),ix_lt hl];simp
      rw[e4 _ ω,e4 _ ω];obtain⟨m,em,hm,e5⟩:=imn x hx;have e:=F.val [lt x] (LW.lt hx ω);rw[e5] at e;rw[em,e];have ev:=J8E s [] (x:=x) ω;obtain⟨m',em',hm',_⟩:=o.mon.im x hx;rw[List.nil_append,JaC,em',(o.mon.one_l ω (J8C _ _) (J9i _ _) hm').1] at ev;rw[ev,em']
  · rw[if_pos rfl];refine Jaa qv svt F.hom F.on fun im hl=>?_;refine fun _=>?_;rw[if_pos ω];exact J2L rfl
end
end Sg
