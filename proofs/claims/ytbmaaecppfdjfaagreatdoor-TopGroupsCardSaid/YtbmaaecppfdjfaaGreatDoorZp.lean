/- -/
import Derived.Test.YtbmaaecppfdjfaaGreatDoorZo
set_option linter.unusedVariables false
set_option linter.unusedSimpArgs false
namespace Sg
open Go
theorem Jcy:∀{W V:List Str},W.Pairwise SL→V.Pairwise SL→(∀w,w∈W↔w∈V)→W=V
  | [],[],_,_,_=>rfl
  | [],v::V,_,_,h=>by have:=(h v).2 (by simp);simp at this
  | w::W,[],_,_,h=>by have:=(h w).1 (by simp);simp at this
  | w :: W, v :: V, hw, hv, h => by
    obtain⟨w1,w2⟩:=List.pairwise_cons.1 hw
    obtain⟨v1,v2⟩:=List.pairwise_cons.1 hv
    have e:w=v:=by
      rcases List.mem_cons.1 ((h w).1 (by simp)) with k | k
      · exact k
      · rcases List.mem_cons.1 ((h v).2 (by simp)) with k2 | k2
        · exact k2.symm
        · exact absurd (v1 w k) (w1 v k2).asymm
    subst e;rw[Jcy w2 v2 fun x=>⟨fun hx=>?_,fun hx=>?_⟩]
    · rcases List.mem_cons.1 ((h x).1 (List.mem_cons_of_mem _ hx)) with k | k
      · subst k;exact absurd (w1 x hx) (SL.irrefl x)
      · exact k
    · rcases List.mem_cons.1 ((h x).2 (List.mem_cons_of_mem _ hx)) with k | k
      · subst k;exact absurd (v1 x hx) (SL.irrefl x)
      · exact k
section
variable {k:Nat} {α β:Type} {ρ:Str→α} {ρ':Str→β}
def RC (k:Nat) (ρ:Str→α):Prop:=∀u v b,LW k u→LW k v→LW k [b]→ρ u=ρ v→ρ (u++[b])=ρ (v++[b])
theorem RC.app (h:RC k ρ) {u v:Str} (hu:LW k u) (hv:LW k v) (he:ρ u=ρ v) {w:Str} (hw:LW k w):ρ (u++w)=ρ (v++w):=by
  induction w using snocRec with
  | nil=>simpa using he
  | snoc w b ih =>
    obtain⟨h1,h2⟩:=LW.app.1 hw;rw[←List.append_assoc,←List.append_assoc];exact h _ _ b (LW.app.2 ⟨hu,h1⟩) (LW.app.2 ⟨hv,h1⟩) h2 (ih h1)
def Lst (k:Nat) (ρ:Str→α) (w:Str):Prop:=LW k w∧∀v,LW k v→ρ v=ρ w→¬SL v w
theorem Lst.pre (hr:RC k ρ) {u v:Str} (h:Lst k ρ (u++v)):Lst k ρ u:=by
 obtain⟨l1,l2⟩:=LW.app.1 h.1;exact⟨l1,fun u' h1 h2 h3=>h.2 (u'++v) (LW.app.2 ⟨h1,l2⟩) (hr.app h1 l1 h2 l2) (h3.Jbr v)⟩
theorem Lst.uniq {u v:Str} (hu:Lst k ρ u) (hv:Lst k ρ v) (h:ρ u=ρ v):u=v:=by
 rcases SL.total u v with c | c | c
 ·exact absurd c (hv.2 u hu.1 h)
 ·exact c
 ·exact absurd c (hu.2 v hv.1 h.symm)
theorem Lst.nil:Lst k ρ []:=⟨LW.nil _,fun v _ _ h=>J93 v h⟩
theorem Jan {w:Str}:LW k w→∃r,Lst k ρ r∧ρ r=ρ w∧(r=w∨SL r w):=by
  induction w using SL.wf.induction with
  | _ w ih =>
    intro hw;by_cases h:Lst k ρ w
    · exact⟨w,h,rfl,.inl rfl⟩
    · have:∃v,LW k v∧ρ v=ρ w∧SL v w:=by
        apply Classical.byContradiction;intro hn;exact h ⟨hw,fun v h1 h2 h3=>hn ⟨v,h1,h2,h3⟩⟩
      obtain⟨v,h1,h2,h3⟩:=this;obtain⟨r,k1,k2,k3⟩:=ih v h3 h1;refine⟨r,k1,k2.trans h2,.inr ?_⟩
      rcases k3 with rfl | k3
      · exact h3
      · exact k3.trans h3
theorem Lst.congr (h:∀u v,LW k u→LW k v→(ρ u=ρ v↔ρ' u=ρ' v)) {w:Str} (hw:Lst k ρ w):Lst k ρ' w:=⟨hw.1,fun v h1 h2=>hw.2 v h1 ((h v w h1 hw.1).2 h2)⟩
structure CL (k:Nat) (ρ:Str→α) (W:List Str) (F:Str→Prop):Prop where
 asc:W.Pairwise SL
 mem:∀w,w∈W↔Lst k ρ w∧F w
variable {W V:List Str} {u:Str} {x:Nat} {F:Str→Prop}
theorem CL.uniq (h:CL k ρ W F) (c:CL k ρ V F):W=V:=
 Jcy h.asc c.asc fun w=>(h.mem w).trans (c.mem w).symm
theorem CL.known (h:CL k ρ W (fun w=>SL w (u++[lt x]))) (hx:x+1<159) {w:Str} (hw:w∈W) (he:ρ w=ρ (u++[lt x])):CL k ρ W (fun w=>SL w (u++[lt (x+1)])):=by
 have hk:=(h.mem w).1 hw;have hn:¬Lst k ρ (u++[lt x]):=fun hr=>hr.2 w hk.1.1 he hk.2;refine⟨h.asc,fun v=>⟨fun hv=>?_,fun hv=>?_⟩⟩
 ·obtain⟨k1,k2⟩:=(h.mem v).1 hv;exact⟨k1,k2.trans (SL.J1C (lt_lt ω ω))⟩
 ·refine(h.mem v).2 ⟨hv.1,?_⟩;apply Classical.byContradiction;intro h2;by_cases h0:u≠[]∨v≠[]
  ·have:=between hx h0 hv.2 h2;rw[this] at hv;exact hn hv.1
  ·simp only[not_or,ne_eq,Classical.not_not] at h0;exact h2 (by rw[h0.2];exact SL.nil (by simp))
theorem CL.new (h:CL k ρ W (fun w=>SL w (u++[lt x]))) (hx:x+1<159) (hw:LW k (u++[lt x])) (hn:∀w∈W,ρ w≠ρ (u++[lt x])):CL k ρ (W++[u++[lt x]]) (fun w=>SL w (u++[lt (x+1)])):=by
 have hr:Lst k ρ (u++[lt x]):=by
  refine⟨hw,fun v h1 h2 h3=>?_⟩;obtain⟨r,k1,k2,k3⟩:=Jan (ρ:=ρ) h1;refine hn r ((h.mem r).2 ⟨k1,?_⟩) (k2.trans h2)
  rcases k3 with rfl | k3
  ·exact h3
  ·exact k3.trans h3
 refine⟨List.pairwise_append.2 ⟨h.asc,List.pairwise_singleton _ _,fun a ha b hb=>?_⟩,fun v=>⟨fun hv=>?_,fun hv=>?_⟩⟩
 ·rw[List.mem_singleton.1 hb];exact((h.mem a).1 ha).2
 ·rcases List.mem_append.1 hv with hv | hv
  ·obtain⟨k1,k2⟩:=(h.mem v).1 hv;exact⟨k1,k2.trans (SL.J1C (lt_lt ω ω))⟩
  ·rw[List.mem_singleton.1 hv];exact⟨hr,SL.J1C (lt_lt ω ω)⟩
 ·by_cases h2:SL v (u++[lt x])
  ·exact List.mem_append.2 (.inl ((h.mem v).2 ⟨hv.1,h2⟩))
  ·refine List.mem_append.2 (.inr (List.mem_singleton.2 ?_));by_cases h0:u≠[]∨v≠[]
   ·exact between hx h0 hv.2 h2
   ·simp only[not_or,ne_eq,Classical.not_not] at h0;exact absurd (by rw[h0.2];exact SL.nil (by simp)) h2
theorem CL.congrF {G:Str→Prop} (h:CL k ρ W F) (e:∀w,Lst k ρ w→(F w↔G w)):CL k ρ W G:=
 ⟨h.asc,fun w=>(h.mem w).trans ⟨fun c=>⟨c.1,(e w c.1).1 c.2⟩,fun c=>⟨c.1,(e w c.1).2 c.2⟩⟩⟩
theorem CL.start:CL k ρ [[]] (fun w=>SL w ([]++[lt 0])):=by
  refine⟨List.pairwise_singleton _ _,fun w=>⟨fun h=>?_,fun h=>?_⟩⟩
  · rw[List.mem_singleton.1 h];exact⟨Lst.nil,SL.nil (by simp)⟩
  · rw[List.mem_singleton]
    cases w with
    | nil=>rfl
    | cons a w =>
      exfalso;have ha:=h.1.1 a (by simp)
      rcases h.2 with hs | ⟨hl,hs⟩
      · simp at hs
      · have:w=[]:=List.eq_nil_of_length_eq_zero (by simpa using hl);subst this;rw[List.nil_append,J2l,J0j ω] at hs
        rcases hs with hs | ⟨_,hs⟩
        · omega
        · simp[slt] at hs
theorem gapC (hk:k<159) {u p:Str} {b:UInt8} (hb:LW k [b]) (h:¬SL (p++[b]) (u++[lt k])):SL u p:=by
 have hbk:=(LW.one.1 hb).2
 have hbl:b.toNat<(lt k).toNat:=by rw[J0j hk];omega
 rcases SL.total u p with e | e | e
 ·exact e
 ·subst e;exact absurd (SL.J1C hbl) h
 ·refine absurd ?_ h
  rcases e with e | ⟨e,e2⟩
  ·exact .inl (by simp;omega)
  ·exact .inr ⟨by simp[e],J6Y e e2⟩
theorem SL.up {u u':Str} (h:SL u u') {w:Str} {a b:UInt8} (hw:SL w (u++[a])):SL w (u'++[b]):=by
 refine hw.trans ?_
 rcases h with h | ⟨h,h2⟩
 ·exact .inl (by simp;omega)
 ·exact .inr ⟨by simp[h],J6Y h h2⟩
theorem CL.next (hr:RC k ρ) (hk:k<159) {d:Nat} (h:CL k ρ W (fun w=>SL w (ix W d++[lt k]))) (hd:d+1<W.length):CL k ρ W (fun w=>SL w (ix W ((d+1:Nat):Int)++[lt 0])):=by
 refine h.congrF fun w hw=>⟨fun hF=>SL.up (J8p h.asc ω hd) hF,fun hF=>?_⟩;by_cases h0:w=[]
 ·subst h0;exact SL.nil (by simp)
 ·obtain⟨p,b,rfl⟩:=snocEx h0;apply Classical.byContradiction;intro hn;have h2:=gapC hk (LW.app.1 hw.1).2 hn
  have h3:SL p (ix W ((d+1:Nat):Int)):=by
   rcases SL.snoc hF with c | ⟨_,c⟩
   ·exact c
   ·rw[J0j ω] at c;have:=(LW.one.1 (LW.app.1 hw.1).2).1;omega
  have hu':ix W ((d+1:Nat):Int)∈W:=J0f.2 ⟨d+1,hd,rfl⟩;have hpW:p∈W:=(h.mem p).2 ⟨hw.pre hr,h3.trans ((h.mem _).1 hu').2⟩;obtain⟨j,hj,rfl⟩:=J0f.1 hpW;have:=J60 h.asc ω hj h2;have:=J60 h.asc hj hd h3;omega
theorem CL.all (hr:RC k ρ) (hk:k<159) {d:Nat} (h:CL k ρ W (fun w=>SL w (ix W d++[lt k]))) (hd:d+1=W.length):CL k ρ W (fun _=>True):=by
  refine⟨h.asc,fun w=>⟨fun hw=>⟨((h.mem w).1 hw).1,trivial⟩,fun hw=>?_⟩⟩
  have key:∀w:Str,Lst k ρ w→w∈W:=by
    intro w
    induction w using snocRec with
    | nil=>exact fun hw=>(h.mem _).2 ⟨hw,SL.nil (by simp)⟩
    | snoc p b ih =>
      intro hw;refine(h.mem _).2 ⟨hw,?_⟩;apply Classical.byContradiction;intro hn;have h2:=gapC hk (LW.app.1 hw.1).2 hn;obtain⟨j,hj,rfl⟩:=J0f.1 (ih (hw.pre hr));have:=J60 h.asc ω hj h2;omega
  exact key w hw.1
theorem CL.congrR (hc:∀u v,LW k u→LW k v→(ρ u=ρ v↔ρ' u=ρ' v)) (h:CL k ρ W F):CL k ρ' W F:=
 ⟨h.asc,fun w=>(h.mem w).trans ⟨fun c=>⟨c.1.congr hc,c.2⟩,fun c=>⟨c.1.congr fun u v hu hv=>(hc u v hu hv).symm,c.2⟩⟩⟩
theorem CL.place (h:CL k ρ W (fun _=>True)) {w:Str} (hw:LW k w):∃j:Nat,j<W.length∧ρ (ix W j)=ρ w:=by
 obtain⟨r,h1,h2,_⟩:=Jan (ρ:=ρ) hw;obtain⟨j,hj,e⟩:=J0f.1 ((h.mem r).2 ⟨h1,trivial⟩);exact⟨j,hj,by rw[e];exact h2⟩
theorem CL.inj (h:CL k ρ W F) {i j:Nat} (hi:i<W.length) (hj:j<W.length) (e:ρ (ix W i)=ρ (ix W j)):i=j:=
 J74 h.asc hi hj (((h.mem _).1 (J0f.2 ⟨i,hi,rfl⟩)).1.uniq ((h.mem _).1 (J0f.2 ⟨j,hj,rfl⟩)).1 e)
theorem CL.lw (h:CL k ρ W F) {i:Nat} (hi:i<W.length):LW k (ix W i):=((h.mem _).1 (J0f.2 ⟨i,hi,rfl⟩)).1.1
theorem CL.zero (h:CL k ρ W (fun _=>True)):ix W 0=[]∧0<W.length:=by
 obtain⟨j,hj,e⟩:=J0f.1 ((h.mem []).2 ⟨Lst.nil,trivial⟩)
 rcases Nat.eq_zero_or_pos j with h0 | h0
 ·subst h0;exact⟨e,hj⟩
 ·have:=J8p h.asc h0 hj;rw[e] at this;exact absurd this (J93 _)
end
end Sg
namespace Sg
open Go
theorem J5s (d:DFA) (q:Int) (u v:Str):rn d q (u++v)=rn d (rn d q u) v:=by simp[rn]
theorem JcS (d:DFA) (q:Int):rn d q []=q:=rfl
theorem J4G (d:DFA) (q:Int) (u:Str) {x:Nat} (hx:x<159):rn d q (u++[lt x])=ix (ix d.Next (rn d q u)) (x:Int):=by
 rw[J5s]
 show ix (ix d.Next (rn d q u)) (((lt x).toNat:Int)-97)=_
 rw[J0j hx]
 congr 1
 omega
theorem rn_lw {d:DFA} (D:Da d) {k:Nat} (hk:(k:Int)=d.Letters) {w:Str}:LW k w→∀{q:Int},0≤q→q<d.Final.length→0≤rn d q w∧rn d q w<d.Final.length:=by
  induction w using snocRec with
  | nil=>exact fun _ _ h0 h1=>⟨h0,h1⟩
  | snoc w b ih =>
    intro hw q h0 h1;obtain⟨hw1,hw2⟩:=LW.app.1 hw;have hl:=D.l6;obtain⟨x,hx,rfl⟩:=LW.letter ω hw2;obtain⟨k0,k1⟩:=ih hw1 h0 h1;rw[J4G d q w ω];exact(D.at_ k0 k1 ω ω).2
theorem rn_RC (d:DFA) (k:Nat) (q:Int):RC k (fun w=>rn d q w):=fun u v b _ _ _ h=>by
 show rn d q (u++[b])=rn d q (v++[b])
 rw[J5s,J5s]
 exact congrArg (rn d · [b]) h
def beh (d:DFA) (k:Nat) (q:Int):{w:Str // LW k w}→Bool:=fun w=>ix d.Final (rn d q w.1)
def nero (d:DFA) (k:Nat) (u:Str):{w:Str // LW k w}→Bool:=beh d k (rn d d.Start u)
theorem J8Z (d:DFA) (k:Nat):RC k (nero d k):=fun u v b hu hv hb h=>by
 funext w
 have:=congrFun h ⟨[b]++w.1,LW.app.2 ⟨hb,w.2⟩⟩
 simp only[nero,beh,←J5s] at this ⊢
 simpa using this
theorem J5z {d:DFA} {k:Nat} {u v:Str}:nero d k u=nero d k v↔∀w,LW k w→ix d.Final (rn d d.Start (u++w))=ix d.Final (rn d d.Start (v++w)):=by
 constructor
 ·intro h w hw;have:=congrFun h ⟨w,hw⟩;simpa only[nero,beh,←J5s] using this
 ·intro h
  funext w
  simpa only[nero,beh,←J5s] using h w.1 w.2
structure Can {α:Type} (k:Nat) (ρ:Str→α) (φ:Str→Bool) (m:DFA) (W:List Str):Prop where
 cl:CL k ρ W (fun _=>True)
 le:m.Letters=k
 st:m.Start=0
 fl:m.Final.length=W.length
 nl:m.Next.length=W.length
 fin:∀i:Nat,i<W.length→ix m.Final i=φ (ix W i)
 row:∀i:Nat,i<W.length→(ix m.Next i).length=k
 nx:∀i x:Nat,i<W.length→x<k→∃j:Nat,ix (ix m.Next i) x=j∧j<W.length∧ρ (ix W j)=ρ (ix W i++[lt x])
section
variable {α β:Type} {k:Nat} {ρ:Str→α} {ρ':Str→β} {φ:Str→Bool} {m m':DFA} {W W':List Str}
theorem Can.uniq (h:Can k ρ φ m W) (h':Can k ρ φ m' W'):m=m'∧W=W':=by
 have e:=h.cl.uniq h'.cl;subst e;refine⟨?_,rfl⟩;obtain⟨a1,a2,a3,a4⟩:=m;obtain⟨b1,b2,b3,b4⟩:=m';have hl:a1=b1:=h.le.trans h'.le.symm;have hs:a2=b2:=h.st.trans h'.st.symm
 have hf:a3=b3:=J09 (h.fl.trans h'.fl.symm) fun j hj=>by
  have hj:j<W.length:=by rw[←h.fl];exact hj
  exact(h.fin j hj).trans (h'.fin j hj).symm
 have hn:a4=b4:=J09 (h.nl.trans h'.nl.symm) fun j hj=>by
  have hj:j<W.length:=by rw[←h.nl];exact hj
  refine J09 ((h.row j hj).trans (h'.row j hj).symm) fun x hx=>?_
  have hx:x<k:=by rw[←h.row j hj];exact hx
  obtain⟨i1,e1,l1,r1⟩:=h.nx j x hj hx;obtain⟨i2,e2,l2,r2⟩:=h'.nx j x hj hx;have:=h.cl.inj l1 l2 (r1.trans r2.symm);subst this;exact e1.trans e2.symm
 rw[hl,hs,hf,hn]
theorem Can.congrR (hc:∀u v,LW k u→LW k v→(ρ u=ρ v↔ρ' u=ρ' v)) (hk:k<159) (h:Can k ρ φ m W):Can k ρ' φ m W:=by
 refine⟨h.cl.congrR hc,h.le,h.st,h.fl,h.nl,h.fin,h.row,fun i x hi hx=>?_⟩;obtain⟨j,e,hj,r⟩:=h.nx i x hi hx;exact⟨j,e,hj,(hc _ _ (h.cl.lw hj) (LW.app.2 ⟨h.cl.lw hi,LW.lt hx hk⟩)).1 r⟩
theorem Can.congrF {φ':Str→Bool} (hc:∀u,LW k u→φ u=φ' u) (h:Can k ρ φ m W):Can k ρ φ' m W:=
 ⟨h.cl,h.le,h.st,h.fl,h.nl,fun i hi=>(h.fin i hi).trans (hc _ (h.cl.lw hi)),h.row,h.nx⟩
theorem Can.run (h:Can k ρ φ m W) (hr:RC k ρ) (hk:k<159) {w:Str}:LW k w→∃j:Nat,rn m 0 w=j∧j<W.length∧ρ (ix W j)=ρ w:=by
  induction w using snocRec with
  | nil=>exact fun _=>⟨0,rfl,h.cl.zero.2,by rw[show ((0:Nat):Int)=0 from rfl,h.cl.zero.1]⟩
  | snoc w b ih =>
    intro hw;obtain⟨hw1,hw2⟩:=LW.app.1 hw;obtain⟨x,hx,rfl⟩:=LW.letter hk hw2;obtain⟨i,e1,hi,r1⟩:=ih hw1;obtain⟨j,e2,hj,r2⟩:=h.nx i x hi hx;refine⟨j,?_,hj,r2.trans (hr _ _ _ (h.cl.lw hi) hw1 hw2 r1)⟩;rw[J4G _ _ _ ω,e1,e2]
theorem Can.acc (h:Can k ρ φ m W) (hr:RC k ρ) (hk:k<159) (hφ:∀u v,LW k u→LW k v→ρ u=ρ v→φ u=φ v) {w:Str} (hw:LW k w):ix m.Final (rn m m.Start w)=φ w:=by
 rw[h.st];obtain⟨j,e,hj,r⟩:=h.run hr hk hw;rw[e,h.fin j hj];exact hφ _ _ (h.cl.lw hj) hw r
theorem Can.da (h:Can k ρ φ m W) (h1:1≤k) (h6:k≤6) (hW:W.length≤512):Da m:=by
 have hz:=h.cl.zero.2;refine⟨by rw[h.le];omega,by rw[h.le];omega,by rw[h.fl];omega,by rw[h.fl];exact hW,by rw[h.nl,h.fl],by rw[h.st];omega,by rw[h.st,h.fl];omega,fun j hj=>?_,fun j i hj hi=>?_⟩
 ·rw[h.le,h.row j (by rw[←h.nl];exact hj)]
 ·have hj:j<W.length:=by rw[←h.nl];exact hj
  have hi:i<k:=by rw[←h.row j hj];exact hi
  obtain⟨l,e,hl,_⟩:=h.nx j i hj hi;rw[e,h.fl];exact⟨ω,ω⟩
end
theorem CL.le {k:Nat} {ρ:Str→Int} {W:List Str} {F:Str→Prop} (h:CL k ρ W F) {n:Nat} (hn:∀w,LW k w→0≤ρ w∧ρ w<n):W.length≤n:=by
 apply Classical.byContradiction;intro hc;obtain⟨a,b,h1,h2,e⟩:=pigeon n (fun m=>ρ (ix W (m:Int))) fun m hm=>hn _ (h.lw ω);have:=h.inj (show a<W.length by omega) (show b<W.length by omega) e;omega
end Sg
namespace Sg
open Go
structure Nmb (p:List Int) (c:Nat):Prop where
 rg:∀q:Nat,q<p.length→∃a:Nat,ix p q=a∧a<c
 on:∀a:Nat,a<c→∃q:Nat,q<p.length∧ix p q=a
 fst:∀q a:Nat,q<p.length→(a:Int)<ix p q→∃j:Nat,j<q∧ix p j=a
def Fin2 (p r:List Int):Prop:=∀q q':Nat,q<p.length→q'<p.length→ix p q=ix p q'→ix r q=ix r q'
theorem Nmb.nil:Nmb [] 0:=⟨fun q h=>by simp at h,fun a h=>by omega,fun q a h=>by simp at h⟩
theorem Nmb.finer {p r:List Int} {c c':Nat} (h:Nmb p c) (h':Nmb r c') (hl:p.length=r.length) (k:Fin2 r p):c≤c'∧(c=c'→Fin2 p r):=by
 have rep:∀a:Nat,∃q:Nat,a<c→q<p.length∧ix p q=a:=fun a=>by
  by_cases ha:a<c
  ·obtain⟨q,h1,h2⟩:=h.on a ha;exact⟨q,fun _=>⟨h1,h2⟩⟩
  ·exact⟨0,fun h=>absurd h ha⟩
 obtain⟨f,hf⟩:=Classical.axiomOfChoice rep
 have inr:∀q:Nat,q<p.length→0≤ix r (q:Int)∧ix r (q:Int)<c':=fun q hq=>by
  obtain⟨a,e,ha⟩:=h'.rg q ω;omega
 have key:∀a b:Nat,a<c→b<c→ix r (f a:Int)=ix r (f b:Int)→a=b:=fun a b ha hb e=>by
  have:=k (f a) (f b) (by have:=(hf a ha).1;omega) (by have:=(hf b hb).1;omega) e;rw[(hf a ha).2,(hf b hb).2] at this;omega
 refine⟨?_,?_⟩
 ·apply Classical.byContradiction;intro hc;obtain⟨a,b,h1,h2,e⟩:=pigeon c' (fun m=>ix r (f m:Int)) fun m hm=>inr _ (hf m ω).1;have:=key a b ω ω e;omega
 ·rintro rfl q q' hq hq' e;apply Classical.byContradiction;intro hne;obtain⟨a0,e0,h0⟩:=h.rg q hq
  have:∃z:Nat,z<p.length∧ix p z=a0∧ix r z≠ix r (f a0:Int):=by
   by_cases hz:ix r (q:Int)=ix r (f a0:Int)
   ·exact⟨q',hq',by rw[←e,e0],fun h=>hne (by rw[hz,h])⟩
   ·exact⟨q,hq,e0,hz⟩
  obtain⟨z,hz,ez,nz⟩:=this
  obtain⟨a,b,h1,h2,e⟩:=pigeon c (fun m=>if m<c then ix r (f m:Int) else ix r (z:Int)) fun m hm=>by
   try simp only
   split
   ·rename_i hm;exact inr _ (hf m hm).1
   ·exact inr _ hz
  try simp only at e
  rw[if_pos ω] at e;by_cases hb:b<c
  ·rw[if_pos hb] at e;have:=key a b ω hb e;omega
  ·rw[if_neg hb] at e;have:=k (f a) z (by have:=(hf a ω).1;omega) ω e;rw[(hf a ω).2,ez] at this;have:a=a0:=ω;subst this;exact nz e.symm
theorem Nmb.le {p:List Int} {c:Nat} (h:Nmb p c):c≤p.length:=by
 apply Classical.byContradiction;intro hc
 have rep:∀a:Nat,∃q:Nat,a<c→q<p.length∧ix p q=a:=fun a=>by
  by_cases ha:a<c
  ·obtain⟨q,h1,h2⟩:=h.on a ha;exact⟨q,fun _=>⟨h1,h2⟩⟩
  ·exact⟨0,fun h=>absurd h ha⟩
 obtain⟨f,hf⟩:=Classical.axiomOfChoice rep
 obtain⟨a,b,h1,h2,e⟩:=pigeon p.length (fun m=>(f m:Int)) fun m hm=>by have:=(hf m ω).1;omega
 have ea:=(hf a ω).2;have eb:=(hf b ω).2
 have:f a=f b:=by have e:(f a:Int)=(f b:Int):=e;omega
 rw[this] at ea;omega
theorem Nmb.old {p:List Int} {c a:Nat} (h:Nmb p c) (ha:a<c):Nmb (p++[(a:Int)]) c:=by
 have e1:∀q:Nat,q<p.length→ix (p++[(a:Int)]) q=ix p q:=fun q hq=>by
  simp[J9O,List.getD_eq_getElem?_getD,List.getElem?_append_left hq]
 have e2:ix (p++[(a:Int)]) (p.length:Nat)=a:=by simp[J9O,List.getD_eq_getElem?_getD]
 refine⟨fun q hq=>?_,fun b hb=>?_,fun q b hq hb=>?_⟩
 ·by_cases hp:q<p.length
  ·rw[e1 q hp];exact h.rg q hp
  ·have:q=p.length:=by simp at hq;omega
   subst this;exact⟨a,e2,ha⟩
 ·obtain⟨q,h1,h2⟩:=h.on b hb;exact⟨q,by simp;omega,by rw[e1 q h1,h2]⟩
 ·by_cases hp:q<p.length
  ·rw[e1 q hp] at hb;obtain⟨j,h1,h2⟩:=h.fst q b hp hb;exact⟨j,h1,by rw[e1 j ω,h2]⟩
  ·have:q=p.length:=by simp at hq;omega
   subst this;rw[e2] at hb;obtain⟨j,h1,h2⟩:=h.on b ω;exact⟨j,h1,by rw[e1 j h1,h2]⟩
theorem Nmb.new {p:List Int} {c:Nat} (h:Nmb p c):Nmb (p++[(c:Int)]) (c+1):=by
 have e1:∀q:Nat,q<p.length→ix (p++[(c:Int)]) q=ix p q:=fun q hq=>by
  simp[J9O,List.getD_eq_getElem?_getD,List.getElem?_append_left hq]
 have e2:ix (p++[(c:Int)]) (p.length:Nat)=c:=by simp[J9O,List.getD_eq_getElem?_getD]
 refine⟨fun q hq=>?_,fun b hb=>?_,fun q b hq hb=>?_⟩
 ·by_cases hp:q<p.length
  ·rw[e1 q hp];obtain⟨a,e,ha⟩:=h.rg q hp;exact⟨a,e,ω⟩
  ·have:q=p.length:=by simp at hq;omega
   subst this;exact⟨c,e2,ω⟩
 ·by_cases hc:b<c
  ·obtain⟨q,h1,h2⟩:=h.on b hc;exact⟨q,by simp;omega,by rw[e1 q h1,h2]⟩
  ·have:b=c:=ω;subst this;exact⟨p.length,by simp,e2⟩
 ·by_cases hp:q<p.length
  ·rw[e1 q hp] at hb;obtain⟨j,h1,h2⟩:=h.fst q b hp hb;exact⟨j,h1,by rw[e1 j ω,h2]⟩
  ·have:q=p.length:=by simp at hq;omega
   subst this;rw[e2] at hb;obtain⟨j,h1,h2⟩:=h.on b ω;exact⟨j,h1,by rw[e1 j h1,h2]⟩
structure Keeps (k:Nat) (d:DFA) (p:List Int):Prop where
 fin:∀q q':Nat,q<p.length→q'<p.length→ix p q=ix p q'→ix d.Final q=ix d.Final q'
 nx:∀q q' x:Nat,q<p.length→q'<p.length→x<k→ix p q=ix p q'→ix p (ix (ix d.Next q) x)=ix p (ix (ix d.Next q') x)
def Holds (k:Nat) (d:DFA) (p:List Int):Prop:=∀q q':Nat,q<p.length→q'<p.length→beh d k q=beh d k q'→ix p q=ix p q'
theorem Keeps.beh {k:Nat} {d:DFA} {p:List Int} (h:Keeps k d p) (D:Da d) (hk:(k:Int)=d.Letters) (hl:p.length=d.Final.length) {w:Str}:LW k w→∀q q':Nat,q<p.length→q'<p.length→ix p q=ix p q'→ix p (rn d q w)=ix p (rn d q' w):=by
  have hk6:=D.l6
  induction w using snocRec with
  | nil=>exact fun _ q q' _ _ e=>e
  | snoc w b ih =>
    intro hw q q' hq hq' e;obtain⟨hw1,hw2⟩:=LW.app.1 hw;obtain⟨x,hx,rfl⟩:=LW.letter ω hw2;have r1:=rn_lw D hk hw1 (q:=q) ω ω;have r2:=rn_lw D hk hw1 (q:=q') ω ω;rw[J4G _ _ _ ω,J4G _ _ _ ω];have:=ih hw1 q q' hq hq' e;obtain⟨a,ea⟩:=Int.eq_ofNat_of_zero_le r1.1;obtain⟨b,eb⟩:=Int.eq_ofNat_of_zero_le r2.1;rw[ea,eb] at this ⊢;exact h.nx a b x ω ω hx this
theorem Keeps.nero {k:Nat} {d:DFA} {p:List Int} (h:Keeps k d p) (D:Da d) (hk:(k:Int)=d.Letters) (hl:p.length=d.Final.length) {q q':Nat} (hq:q<p.length) (hq':q'<p.length) (e:ix p q=ix p q'):Sg.beh d k q=Sg.beh d k q':=by
 funext w
 have r1:=rn_lw D hk w.2 (q:=q) ω ω;have r2:=rn_lw D hk w.2 (q:=q') ω ω;have:=h.beh D hk hl w.2 q q' hq hq' e
 show ix d.Final (rn d q w.1)=ix d.Final (rn d q' w.1)
 obtain⟨a,ea⟩:=Int.eq_ofNat_of_zero_le r1.1;obtain⟨b,eb⟩:=Int.eq_ofNat_of_zero_le r2.1;rw[ea,eb] at this ⊢;exact h.fin a b ω ω this
theorem Jeh {k:Nat} {d:DFA} (hk:k<159) {q q':Int} (h:beh d k q=beh d k q') {x:Nat} (hx:x<k):beh d k (ix (ix d.Next q) x)=beh d k (ix (ix d.Next q') x):=by
 funext w
 have:=congrFun h ⟨[lt x]++w.1,LW.app.2 ⟨LW.lt hx hk,w.2⟩⟩;simp only[beh,J5s] at this;have e:∀q,rn d q [lt x]=ix (ix d.Next q) (x:Int):=fun q=>J4G d q [] (x:=x) ω;simpa only[beh,e] using this
structure Quo (k:Nat) (d:DFA) (p:List Int) (Q:DFA):Prop where
 le:Q.Letters=k
 st:Q.Start=ix p d.Start
 nl:Q.Next.length=Q.Final.length
 rg:∀q:Nat,q<p.length→∃a:Nat,ix p q=a∧a<Q.Final.length
 on:∀a:Nat,a<Q.Final.length→∃q:Nat,q<p.length∧ix p q=a∧ix Q.Final a=ix d.Final q∧(ix Q.Next a).length=k∧∀x:Nat,x<k→ix (ix Q.Next a) x=ix p (ix (ix d.Next q) x)
section
variable {k:Nat} {d Q:DFA} {p:List Int}
theorem Quo.da (h:Quo k d p Q) (D:Da d) (hk:(k:Int)=d.Letters) (hl:p.length=d.Final.length) (hn:Q.Final.length≤512):Da Q:=by
 have hd:=D.f1;obtain⟨a,ea,ha⟩:=h.rg 0 ω;have s0:=D.s0;have s1:=D.s1;obtain⟨s,es⟩:=Int.eq_ofNat_of_zero_le s0;obtain⟨b,eb,hb⟩:=h.rg s ω;have hst:=h.st;rw[es,eb] at hst;refine⟨by rw[h.le,hk];exact D.l1,by rw[h.le,hk];exact D.l6,ω,hn,h.nl,ω,ω,fun j hj=>?_,fun j i hj hi=>?_⟩
 ·obtain⟨q,hq,_,_,hr,_⟩:=h.on j (by rw[←h.nl];exact hj);rw[hr,h.le]
 ·obtain⟨q,hq,_,_,hr,hx⟩:=h.on j (by rw[←h.nl];exact hj);rw[hx i ω];have:=D.at_ (q:=q) (x:=i) ω ω ω ω;obtain⟨c,ec⟩:=Int.eq_ofNat_of_zero_le this.2.1;rw[ec] at this ⊢;obtain⟨a,ea,ha⟩:=h.rg c ω;rw[ea];omega
theorem Quo.rn (h:Quo k d p Q) (K:Keeps k d p) (D:Da d) (hk:(k:Int)=d.Letters) (hl:p.length=d.Final.length) {w:Str}:LW k w→∀q:Nat,q<p.length→rn Q (ix p q) w=ix p (rn d q w):=by
  have hk6:=D.l6
  induction w using snocRec with
  | nil=>exact fun _ q _=>rfl
  | snoc w b ih =>
    intro hw q hq;obtain⟨hw1,hw2⟩:=LW.app.1 hw;obtain⟨x,hx,rfl⟩:=LW.letter ω hw2;have r1:=rn_lw D hk hw1 (q:=q) ω ω;rw[J4G _ _ _ ω,J4G _ _ _ ω,ih hw1 q hq];obtain⟨a,ea⟩:=Int.eq_ofNat_of_zero_le r1.1;rw[ea] at r1 ⊢;obtain⟨c,ec,hc⟩:=h.rg a ω;obtain⟨q',hq',e',_,_,hx'⟩:=h.on c hc;rw[ec,hx' x hx];exact K.nx q' a x hq' ω hx (by rw[e',ec])
theorem Quo.fin (h:Quo k d p Q) (K:Keeps k d p) {q:Nat} (hq:q<p.length):ix Q.Final (ix p q)=ix d.Final q:=by
 obtain⟨c,ec,hc⟩:=h.rg q hq;obtain⟨q',hq',e',hf,_⟩:=h.on c hc;rw[ec,hf];exact K.fin q' q hq' hq (by rw[e',ec])
theorem Quo.can {m:DFA} {W:List Str} (h:Quo k d p Q) (K:Keeps k d p) (H:Holds k d p) (D:Da d) (hk:(k:Int)=d.Letters) (hl:p.length=d.Final.length)
  (c:Can k (fun w=>Sg.rn Q Q.Start w) (fun w=>ix Q.Final (Sg.rn Q Q.Start w)) m W):Can k (nero d k) (fun w=>ix d.Final (Sg.rn d d.Start w)) m W:=by
 have hk6:=D.l6;obtain⟨s,es⟩:=Int.eq_ofNat_of_zero_le D.s0
 have hs:s<p.length:=by have:=D.s1;omega
 have e:∀w,LW k w→Sg.rn Q Q.Start w=ix p (Sg.rn d d.Start w):=fun w hw=>by
  rw[h.st,es];exact h.rn K D hk hl hw s hs
 have r:∀w,LW k w→∃a:Nat,Sg.rn d d.Start w=a∧a<p.length:=fun w hw=>by
  have:=rn_lw D hk hw D.s0 D.s1;obtain⟨a,ea⟩:=Int.eq_ofNat_of_zero_le this.1;exact⟨a,ea,ω⟩
 refine Can.congrF (φ:=fun w=>ix Q.Final (Sg.rn Q Q.Start w)) (fun u hu=>?_) (c.congrR (ρ':=Sg.nero d k) (fun u v hu hv=>?_) ω)
 ·obtain⟨a,ea,ha⟩:=r u hu
  show ix Q.Final (Sg.rn Q Q.Start u)=_
  rw[e u hu,ea];exact h.fin K ha
 ·obtain⟨a,ea,ha⟩:=r u hu;obtain⟨b,eb,hb⟩:=r v hv
  show Sg.rn Q Q.Start u=Sg.rn Q Q.Start v↔Sg.beh d k (Sg.rn d d.Start u)=Sg.beh d k (Sg.rn d d.Start v)
  rw[e u hu,e v hv,ea,eb];exact⟨fun h=>K.nero D hk hl ha hb h,fun h=>H a b ha hb h⟩
theorem Can.trim {t m:DFA} {V W:List Str} (D:Da d) (hk:(k:Int)=d.Letters) (hk9:k<159) (c:Can k (fun w=>Sg.rn d d.Start w) (fun w=>ix d.Final (Sg.rn d d.Start w)) t V)
  (h:Can k (nero t k) (fun w=>ix t.Final (Sg.rn t t.Start w)) m W):Can k (nero d k) (fun w=>ix d.Final (Sg.rn d d.Start w)) m W:=by
 have e:∀w,LW k w→ix t.Final (Sg.rn t t.Start w)=ix d.Final (Sg.rn d d.Start w):=fun w hw=>c.acc (rn_RC d k d.Start) hk9 (fun u v _ _ h=>by have h:Sg.rn d d.Start u=Sg.rn d d.Start v:=h;rw[h]) hw;refine Can.congrF e (h.congrR (fun u v hu hv=>?_) hk9);rw[J5z,J5z]
 exact forall_congr' fun w=>forall_congr' fun hw=>by rw[e _ (LW.app.2 ⟨hu,hw⟩),e _ (LW.app.2 ⟨hv,hw⟩)]
end
end Sg
namespace Sg
open Go
section
variable {κ:Type} [DecidableEq κ]
structure NumI (f:Nat→κ) (q:Nat) (p:List Int) (m:List (κ×Int)):Prop where
 len:p.length=q
 nmb:Nmb p m.length
 has:∀a,mhas m a=true↔∃j,j<q∧f j=a
 val:∀j:Nat,j<q→ix p (j:Int)=mgt m (f j)
 rg:∀a,mhas m a=true→0≤mgt m a∧mgt m a<m.length
 inj:∀a b,mhas m a=true→mhas m b=true→mgt m a=mgt m b→a=b
variable {f:Nat→κ} {q:Nat} {p:List Int} {m:List (κ×Int)}
theorem NumI.start:NumI f 0 [] []:=⟨rfl,Nmb.nil,fun a=>by simp[mhas],fun j h=>by omega,fun a h=>by simp[mhas] at h,fun a b h=>by simp[mhas] at h⟩
theorem ixS {l:List Int} {j:Nat} {a:Int} (h:j<l.length):ix (l++[a]) (j:Int)=ix l (j:Int):=by
 simp[J9O,List.getD_eq_getElem?_getD,List.getElem?_append_left h]
theorem ixE {l:List Int} {a:Int}:ix (l++[a]) (l.length:Int)=a:=by simp[J9O,List.getD_eq_getElem?_getD]
theorem NumI.old (h:NumI f q p m) (hm:mhas m (f q)=true):NumI f (q+1) (p++[mgt m (f q)]) m:=by
 obtain⟨g0,g1⟩:=h.rg _ hm;obtain⟨a,ea⟩:=Int.eq_ofNat_of_zero_le g0;refine⟨by simp[h.len],?_,fun b=>?_,fun j hj=>?_,h.rg,h.inj⟩
 ·rw[ea];exact h.nmb.old ω
 ·rw[h.has];constructor
  ·rintro⟨j,h1,h2⟩;exact⟨j,ω,h2⟩
  ·rintro⟨j,h1,h2⟩;by_cases hj:j<q
   ·exact⟨j,hj,h2⟩
   ·obtain rfl:j=q:=ω;rw[h2] at hm;exact(h.has _).1 hm
 ·by_cases hq:j<q
  ·rw[ixS (by rw[h.len];exact hq)];exact h.val j hq
  ·obtain rfl:j=q:=ω;have:=h.len;subst this;exact ixE
theorem NumI.new (h:NumI f q p m) (hm:¬mhas m (f q)=true):NumI f (q+1) (p++[(m.length:Int)]) (mput m (f q) (m.length:Int)):=by
 have hl:(mput m (f q) (m.length:Int)).length=m.length+1:=by rw[JaL,if_neg hm]
 refine⟨by simp[h.len],?_,fun b=>?_,fun j hj=>?_,fun a ha=>?_,fun a b ha hb e=>?_⟩
 ·rw[hl];exact h.nmb.new
 ·rw[J5t];simp only[Bool.or_eq_true,decide_eq_true_eq,h.has];constructor
  ·rintro(rfl | ⟨j,h1,h2⟩)
   ·exact⟨q,ω,rfl⟩
   ·exact⟨j,ω,h2⟩
  ·rintro⟨j,h1,h2⟩;by_cases hj:j<q
   ·exact .inr ⟨j,hj,h2⟩
   ·obtain rfl:j=q:=ω;exact .inl h2.symm
 ·rw[J6T];by_cases hq:j<q
  ·rw[ixS (by rw[h.len];exact hq),if_neg (fun e=>hm (by rw[←e];exact(h.has _).2 ⟨j,hq,rfl⟩))];exact h.val j hq
  ·obtain rfl:j=q:=ω;have:=h.len;subst this;rw[if_pos rfl];exact ixE
 ·rw[J5t] at ha;simp only[Bool.or_eq_true,decide_eq_true_eq] at ha;rw[J6T,hl];by_cases h1:a=f q
  ·rw[if_pos h1];omega
  ·rw[if_neg h1];have:=h.rg a (ha.resolve_left h1);omega
 ·rw[J5t] at ha hb;simp only[Bool.or_eq_true,decide_eq_true_eq] at ha hb;rw[J6T,J6T] at e;by_cases h1:a=f q
  ·by_cases h2:b=f q
   ·rw[h1,h2]
   ·rw[if_pos h1,if_neg h2] at e;have:=h.rg b (hb.resolve_left h2);omega
  ·by_cases h2:b=f q
   ·rw[if_neg h1,if_pos h2] at e;have:=h.rg a (ha.resolve_left h1);omega
   ·rw[if_neg h1,if_neg h2] at e;exact h.inj a b (ha.resolve_left h1) (hb.resolve_left h2) e
theorem NumI.eq (h:NumI f q p m) {i j:Nat} (hi:i<q) (hj:j<q):ix p (i:Int)=ix p (j:Int)↔f i=f j:=by
 rw[h.val i hi,h.val j hj];constructor
 ·intro e;exact h.inj _ _ ((h.has _).2 ⟨i,hi,rfl⟩) ((h.has _).2 ⟨j,hj,rfl⟩) e
 ·intro e;rw[e]
end
section
variable {k:Nat} {d:DFA} {p r:List Int} {c c':Nat}
def FinK (d:DFA) (p:List Int):Prop:=∀q q':Nat,q<p.length→q'<p.length→ix p q=ix p q'→ix d.Final q=ix d.Final q'
def SplitBy (k:Nat) (d:DFA) (p r:List Int):Prop:=∀q q':Nat,q<p.length→q'<p.length→(ix r q=ix r q'↔ix p q=ix p q'∧∀x:Nat,x<k→ix p (ix (ix d.Next q) x)=ix p (ix (ix d.Next q') x))
theorem SplitBy.fin2 (h:SplitBy k d p r) (hl:p.length=r.length):Fin2 r p:=fun q q' hq hq' e=>((h q q' ω ω).1 e).1
theorem SplitBy.fin (h:SplitBy k d p r) (hl:p.length=r.length) (hf:FinK d p):FinK d r:=fun q q' hq hq' e=>hf q q' ω ω ((h q q' ω ω).1 e).1
theorem SplitBy.holds (h:SplitBy k d p r) (hl:p.length=r.length) (D:Da d) (hk:(k:Int)=d.Letters) (hn:p.length=d.Final.length) (H:Holds k d p):Holds k d r:=fun q q' hq hq' e=>by
 have h6:=D.l6
 refine(h q q' ω ω).2 ⟨H q q' ω ω e,fun x hx=>?_⟩
 have a1:=D.at_ (q:=q) (x:=x) ω ω ω ω
 have a2:=D.at_ (q:=q') (x:=x) ω ω ω ω
 have hb:=Jeh ω e hx
 obtain⟨a,ea⟩:=Int.eq_ofNat_of_zero_le a1.2.1
 obtain⟨b,eb⟩:=Int.eq_ofNat_of_zero_le a2.2.1
 rw[ea,eb] at hb ⊢
 exact H a b ω ω hb
theorem SplitBy.keeps (h:SplitBy k d p r) (hl:p.length=r.length) (D:Da d) (hk:(k:Int)=d.Letters) (hn:p.length=d.Final.length) (hf:FinK d p) (h1:Nmb p c) (h2:Nmb r c):Keeps k d r:=by
 have h6:=D.l6;have hpr:=(h1.finer h2 hl (h.fin2 hl)).2 rfl;refine⟨h.fin hl hf,fun q q' x hq hq' hx e=>?_⟩;have e2:=((h q q' ω ω).1 e).2 x hx;have a1:=D.at_ (q:=q) (x:=x) ω ω ω ω;have a2:=D.at_ (q:=q') (x:=x) ω ω ω ω;obtain⟨a,ea⟩:=Int.eq_ofNat_of_zero_le a1.2.1;obtain⟨b,eb⟩:=Int.eq_ofNat_of_zero_le a2.2.1;rw[ea,eb] at e2 ⊢;exact hpr a b ω ω e2
end
end Sg
namespace Sg
open Go
theorem sh6 {x:Nat}:shrK .i64 (x:Int) 6=((x / 64:Nat):Int):=by
 unfold shrK
 have e:(2:Int) ^ (min (6:Int).toNat IntKind.i64.bits)=64:=by decide
 rw[e,Int.fdiv_eq_ediv_of_nonneg _ ω];omega
theorem and63 {x:Nat} (hx:x<2 ^ 63):bits .and .i64 (x:Int) 63=((x % 64:Nat):Int):=by
 have h:=(bits63 (a:=x) (b:=63) hx (by decide)).1;have e:x &&& 63=x % 64:=Nat.and_two_pow_sub_one_eq_mod x 6;rw[e] at h;exact h
theorem shl1 {k:Nat} (hk:k<64):shlK .u64 1 (k:Int)=((1 <<< k:Nat):Int):=by
 have h:(1:Nat)<2 ^ (64-k):=Nat.one_lt_two_pow ω;exact JeU (b:=1) h hk
structure IdW (n:Nat) (s:List Int):Prop where
 len:s.length=(n+63) / 64
 rng:∀j:Nat,j<s.length→0≤ix s (j:Int)∧ix s (j:Int)<18446744073709551616
def hasB (s:List Int) (x:Nat):Bool:=((ix s ((x / 64:Nat):Int)).toNat).testBit (x % 64)
theorem IdW.at_ {n:Nat} {s:List Int} (h:IdW n s) {x:Nat} (hx:x<n):x / 64<s.length∧∃m:Nat,m<2 ^ 64∧ix s ((x / 64:Nat):Int)=(m:Int):=by
 have hl:x / 64<s.length:=by have:=h.len;omega
 have:=h.rng (x / 64) hl;exact⟨hl,(ix s ((x / 64:Nat):Int)).toNat,ω,ω⟩
theorem J7V {n:Nat} (hn:n≤400) {K:List Int→Prop} (h:∀s,IdW n s→(∀x,hasB s x=false)→K s):J1b (n:Int) K:=by
 unfold J1b
 have e:((n:Int)+63).tdiv 64=(((n+63) / 64:Nat):Int):=by
  rw[Int.tdiv_eq_ediv_of_nonneg ω];omega
 rw[e];refine⟨⟨ω,ω⟩,⟨ω,ω⟩,ω,ω,h _ ⟨by simp;omega,fun j hj=>?_⟩ fun x=>?_⟩
 ·rw[J0c _ _ (by simpa using hj)];omega
 ·have:ix (List.replicate (((n+63) / 64:Nat):Int).toNat (0:Int)) ((x / 64:Nat):Int)=0:=by
   simp only[ix,List.getD_eq_getElem?_getD,List.getElem?_replicate]
   split<;>rfl
  unfold hasB;rw[this];simp
theorem Jcm {n:Nat} (hn:n≤400) {s:List Int} (hs:IdW n s) {x:Nat} (hx:x<n) {K:Bool→Prop} (h:K (hasB s x)):J0G s (x:Int) K:=by
 unfold J0G;obtain⟨hl,m,hm,he⟩:=hs.at_ hx;rw[sh6,and63 ω];refine⟨ω,ω,ω,?_⟩;unfold hasB at h;rw[he] at h ⊢;rw[JeL hm ω];rw[Int.toNat_natCast] at h
 cases hb:m.testBit (x % 64) with
 | true=>rw[hb] at h;rw[if_pos (by decide)];exact h
 | false=>rw[hb] at h;rw[if_neg (by decide)];exact h
def addB (s:List Int) (x:Nat):List Int:=st s ((x / 64:Nat):Int) (bits .or .u64 (ix s ((x / 64:Nat):Int)) ((1 <<< (x % 64):Nat):Int))
theorem Jct {n:Nat} {s:List Int} (h:IdW n s) {x:Nat} (hx:x<n):IdW n (addB s x):=by
 obtain⟨hl,m,hm,he⟩:=h.at_ hx
 have h1:(1 <<< (x % 64):Nat)<2 ^ 64:=by rw[Nat.shiftLeft_eq,Nat.one_mul];exact Nat.pow_lt_pow_right ω (Nat.mod_lt _ ω)
 refine⟨by unfold addB;rw[J02];exact h.len,fun j hj=>?_⟩;unfold addB at hj ⊢;rw[J02] at hj;rw[ix_st _ ω ω ω]
 split
 ·rw[he,(bits64 hm h1).2];have:=Nat.or_lt_two_pow hm h1;omega
 ·exact h.rng j hj
theorem J9C {n:Nat} {s:List Int} (h:IdW n s) {x:Nat} (hx:x<n) {y:Nat}:hasB (addB s x) y=(hasB s y || decide (y=x)):=by
 obtain⟨hl,m,hm,he⟩:=h.at_ hx
 have h1:(1 <<< (x % 64):Nat)<2 ^ 64:=by rw[Nat.shiftLeft_eq,Nat.one_mul];exact Nat.pow_lt_pow_right ω (Nat.mod_lt _ ω)
 unfold hasB addB;rw[ix_st _ ω ω ω];by_cases hxy:y / 64=x / 64
 ·rw[if_pos ω,hxy,he,(bits64 hm h1).2,Int.toNat_natCast,Int.toNat_natCast,Nat.testBit_or]
  congr 1
  rw[Nat.one_shiftLeft,Nat.testBit_two_pow];have e1:=Nat.mod_lt y (y:=64) ω;have e2:=Nat.div_add_mod y 64;have e3:=Nat.div_add_mod x 64;by_cases hm':x % 64=y % 64
  ·rw[decide_eq_true hm',decide_eq_true ω]
  ·rw[decide_eq_false hm',decide_eq_false ω]
 ·rw[if_neg ω];have:¬y=x:=fun hh=>hxy (by rw[hh]);simp[this]
theorem uniW {n:Nat} {s u:List Int} (h:IdW n s) (k:IdW n u) {j:Nat} (hj:j<s.length):0≤bits .or .u64 (ix s (j:Int)) (ix u (j:Int))∧bits .or .u64 (ix s (j:Int)) (ix u (j:Int))<18446744073709551616 ∧
  ∀b:Nat,((bits .or .u64 (ix s (j:Int)) (ix u (j:Int))).toNat).testBit b=((ix s (j:Int)).toNat.testBit b || (ix u (j:Int)).toNat.testBit b):=by
 have h1:=h.rng j hj;have h2:=k.rng j (by have:=h.len;have:=k.len;omega);obtain⟨m,hm⟩:=Int.eq_ofNat_of_zero_le h1.1;obtain⟨q,hq⟩:=Int.eq_ofNat_of_zero_le h2.1;have hm1:m<2 ^ 64:=ω;have hq1:q<2 ^ 64:=ω;rw[hm,hq];have e:=(bits64 hm1 hq1).2;have:=Nat.or_lt_two_pow hm1 hq1;rw[e];exact⟨ω,ω,fun b=>by rw[Int.toNat_natCast,Int.toNat_natCast,Int.toNat_natCast,Nat.testBit_or]⟩
structure IdF (n:Nat) (r:List (List Int)) (le:Nat→Nat→Prop):Prop where
 len:r.length=n
 wd:∀y:Nat,y<n→IdW n (ix r (y:Int))
 has:∀x y:Nat,x<n→y<n→(hasB (ix r (y:Int)) x=true↔le x y)
def leR (t:List (List Int)) (x y:Nat):Prop:=x=y∨∃s:Nat,s<t.length∧mu t (y:Int) (s:Int)=(x:Int)
def leL (t:List (List Int)) (x y:Nat):Prop:=x=y∨∃s:Nat,s<t.length∧mu t (s:Int) (y:Int)=(x:Int)
def leJ (t:List (List Int)) (x y:Nat):Prop:=∃z:Nat,z<t.length∧leL t z y∧leR t x z
structure IdK (n k:Nat) (r:List (List Int)) (le:Nat→Nat→Prop):Prop where
 len:r.length=n
 wd:∀y:Nat,y<k→IdW n (ix r (y:Int))
 has:∀x y:Nat,x<n→y<k→(hasB (ix r (y:Int)) x=true↔le x y)
theorem IdK.put {n k:Nat} {r:List (List Int)} {le:Nat→Nat→Prop} (h:IdK n k r le) (hk:k<n) {s:List Int} (hs:IdW n s) (hh:∀x:Nat,x<n→(hasB s x=true↔le x k)):IdK n (k+1) (st r (k:Int) s) le:=by
 have e:∀y:Nat,ix (st r (k:Int) s) (y:Int)=if y=k then s else ix r (y:Int):=fun y=>by
  rw[ix_st _ ω (by rw[h.len];omega) ω];by_cases hy:y=k
  ·rw[if_pos ω,if_pos hy]
  ·rw[if_neg ω,if_neg hy]
 refine⟨by rw[J02];exact h.len,fun y hy=>?_,fun x y hx hy=>?_⟩
 ·rw[e];split
  ·exact hs
  ·exact h.wd y ω
 ·rw[e];split
  ·rename_i hyk;subst hyk;exact hh x hx
  ·exact h.has x y hx ω
theorem IdK.fin {n:Nat} {r:List (List Int)} {le:Nat→Nat→Prop} (h:IdK n n r le):IdF n r le:=⟨h.len,h.wd,fun x y hx hy=>h.has x y hx hy⟩
theorem IdK.start {n:Nat} {le:Nat→Nat→Prop}:IdK n 0 (List.replicate n ([]:List Int)) le:=⟨by simp,fun y hy=>by omega,fun x y hx hy=>by omega⟩
theorem st_st {α:Type} [Inhabited α] {xs:List α} {i:Int} {u v:α}:st (st xs i u) i v=st xs i v:=by simp[st]
theorem J3J {α:Type} [Inhabited α] {xs:List α} {k:Nat} {u:α} (h:k<xs.length):ix (st xs (k:Int) u) (k:Int)=u:=by
 rw[ix_st _ ω ω ω,if_pos rfl]
theorem Jad {t:List (List Int)} (ht:SH t=true) {K:List (List Int)→Prop} (h:∀r,IdF t.length r (leR t)→K r):J1j t K:=by
 have T:=SH.tb ht;have n4:=T.n4;unfold J1j;refine fun _=>⟨ω,ω,LoopWP.fold t.length (fun k (r:List (List Int))=>IdK t.length k r (leR t)) IdK.start ?_⟩;rintro k r X hk hI hX
 show J22 t K _ k r
 unfold J22;have hlen:=hI.len
 split
 ·rename_i hkt;have hkt':k<t.length:=ω;have hrow:=T.row (k:Int) ω ω;refine⟨ω,ω,J7V n4 fun s0 hs0 h0=>?_⟩;obtain⟨hl0,_⟩:=hs0.at_ hkt';rw[J3J ω,sh6,and63 ω,shl1 (Nat.mod_lt _ ω)];refine⟨ω,ω,ω,by rw[J02];omega,ω,ω,ω,ω,ω,fun _=>?_⟩;refine LoopWP.fold (ix t (k:Int)).length (fun m (q:List (List Int))=>∃s,q=st r (k:Int) s∧IdW t.length s∧∀x:Nat,x<t.length→(hasB s x=true↔x=k∨∃j:Nat,j<m∧mu t (k:Int) (j:Int)=(x:Int))) ⟨addB s0 k,by rw[st_st];rfl,Jct hs0 hkt',fun x hx=>?_⟩ ?_
  ·rw[J9C hs0 hkt',h0];simp only[Bool.false_or,decide_eq_true_eq];exact⟨.inl,fun hh=>hh.resolve_right fun ⟨j,hj,_⟩=>absurd hj (Nat.not_lt_zero _)⟩
  rintro m q X2 hm ⟨s,rfl,hs,hh⟩ hX2
  show J23 t k _ K _ m _
  unfold J23;rw[J3J ω]
  split
  ·rename_i hmt;have hml:(m:Int)<t.length:=ω;have hb:=T.mu (x:=(k:Int)) (y:=(m:Int)) ω ω ω hml;obtain⟨z,hz⟩:=Int.eq_ofNat_of_zero_le hb.1;have hzl:z<t.length:=ω;have hz':ix (ix t (k:Int)) (m:Int)=(z:Int):=hz;obtain⟨hl1,_⟩:=hs.at_ hzl;rw[hz',sh6,and63 ω,shl1 (Nat.mod_lt _ ω)];refine⟨ω,ω,ω,by rw[J02];omega,ω,ω,ω,ω,ω,hX2 _ ω ⟨addB s z,by rw[st_st];rfl,Jct hs hzl,fun x hx=>?_⟩⟩;rw[J9C hs hzl,Bool.or_eq_true,hh x hx,decide_eq_true_eq];constructor
   ·rintro((h1 | ⟨j,hj,h1⟩) | h1)
    ·exact .inl h1
    ·exact .inr ⟨j,ω,h1⟩
    ·exact .inr ⟨m,ω,by rw[h1];exact hz⟩
   ·rintro(h1 | ⟨j,hj,h1⟩)
    ·exact .inl (.inl h1)
    ·by_cases hjm:j=m
     ·subst hjm;right;rw[hz] at h1;omega
     ·exact .inl (.inr ⟨j,ω,h1⟩)
  ·rename_i hmt;obtain rfl:m=(ix t (k:Int)).length:=ω;refine hX _ hkt' (hI.put hkt' hs fun x hx=>?_);rw[hh x hx,hrow]
   rfl
 ·obtain rfl:k=t.length:=ω;exact h r hI.fin
theorem Jaw {t:List (List Int)} (ht:SH t=true) {K:List (List Int)→Prop} (h:∀r,IdF t.length r (leL t)→K r):J1w t K:=by
 have T:=SH.tb ht;have n4:=T.n4;unfold J1w;refine fun _=>⟨ω,ω,LoopWP.fold t.length (fun k (r:List (List Int))=>IdK t.length k r (leL t)) IdK.start ?_⟩;rintro k r X hk hI hX
 show J2D t K _ k r
 unfold J2D;have hlen:=hI.len
 split
 ·rename_i hkt;have hkt':k<t.length:=ω;refine J7V n4 fun s0 hs0 h0=>?_;obtain⟨hl0,_⟩:=hs0.at_ hkt';rw[J3J ω,sh6,and63 ω,shl1 (Nat.mod_lt _ ω)];refine⟨ω,ω,ω,by rw[J02];omega,ω,ω,ω,ω,ω,?_⟩;refine LoopWP.fold t.length (fun m (q:List (List Int))=>∃s,q=st r (k:Int) s∧IdW t.length s∧∀x:Nat,x<t.length→(hasB s x=true↔x=k∨∃j:Nat,j<m∧mu t (j:Int) (k:Int)=(x:Int))) ⟨addB s0 k,by rw[st_st];rfl,Jct hs0 hkt',fun x hx=>?_⟩ ?_
  ·rw[J9C hs0 hkt',h0];simp only[Bool.false_or,decide_eq_true_eq];exact⟨.inl,fun hh=>hh.resolve_right fun ⟨j,hj,_⟩=>absurd hj (Nat.not_lt_zero _)⟩
  rintro m q X2 hm ⟨s,rfl,hs,hh⟩ hX2
  show J2H t k _ K _ m _
  unfold J2H;rw[J3J ω]
  split
  ·rename_i hmt;have hml:(m:Int)<t.length:=ω;have hrow:=T.row (m:Int) ω ω;have hb:=T.mu (x:=(m:Int)) (y:=(k:Int)) ω ω ω ω;obtain⟨z,hz⟩:=Int.eq_ofNat_of_zero_le hb.1;have hzl:z<t.length:=ω;have hz':ix (ix t (m:Int)) (k:Int)=(z:Int):=hz;obtain⟨hl1,_⟩:=hs.at_ hzl;rw[hz',sh6,and63 ω,shl1 (Nat.mod_lt _ ω)];refine⟨ω,ω,ω,by rw[J02];omega,ω,ω,ω,ω,ω,ω,ω,hX2 _ ω ⟨addB s z,by rw[st_st];rfl,Jct hs hzl,fun x hx=>?_⟩⟩;rw[J9C hs hzl,Bool.or_eq_true,hh x hx,decide_eq_true_eq];constructor
   ·rintro((h1 | ⟨j,hj,h1⟩) | h1)
    ·exact .inl h1
    ·exact .inr ⟨j,ω,h1⟩
    ·exact .inr ⟨m,ω,by rw[h1];exact hz⟩
   ·rintro(h1 | ⟨j,hj,h1⟩)
    ·exact .inl (.inl h1)
    ·by_cases hjm:j=m
     ·subst hjm;right;rw[hz] at h1;omega
     ·exact .inl (.inr ⟨j,ω,h1⟩)
  ·rename_i hmt;obtain rfl:m=t.length:=ω;refine hX _ hkt' (hI.put hkt' hs fun x hx=>?_);rw[hh x hx]
   rfl
 ·obtain rfl:k=t.length:=ω;exact h r hI.fin
end Sg
namespace Sg
open Go
theorem JbF {n:Nat} (n4:n≤400) {right left:List (List Int)} {eR eL:Nat→Nat→Prop} (hR:IdF n right eR) (hL:IdF n left eL) {K:List (List Int)→Prop} (h:∀r,IdF n r (fun x y=>∃z:Nat,z<n∧eL z y∧eR x z)→K r):J2g right left K:=by
 have hrl:=hR.len;have hll:=hL.len;unfold J2g;rw[hrl];refine fun _=>⟨ω,ω,LoopWP.fold n (fun k (r:List (List Int))=>IdK n k r (fun x y=>∃z:Nat,z<n∧eL z y∧eR x z)) IdK.start ?_⟩;rintro k r X hk hI hX
 show J3B right left K _ k r
 unfold J3B;have hlen:=hI.len;rw[List.length_replicate,hrl]
 split
 ·have hkt':k<n:=ω;refine J7V n4 fun s0 hs0 h0=>⟨ω,ω,?_⟩;refine LoopWP.fold n (fun m (q:List (List Int))=>∃s,q=st r (k:Int) s∧IdW n s∧∀x:Nat,x<n→(hasB s x=true↔∃z:Nat,z<m∧eL z k∧eR x z)) ⟨s0,rfl,hs0,fun x hx=>?_⟩ ?_
  ·rw[h0];exact⟨(fun hh=>by cases hh),fun ⟨j,hj,_⟩=>absurd hj (Nat.not_lt_zero _)⟩
  rintro m q X2 hm ⟨s,rfl,hs,hh⟩ hX2
  show J3m right left k _ K _ m _
  unfold J3m;rw[hrl]
  split
  ·have hml:m<n:=ω;refine⟨ω,ω,Jcm n4 (hL.wd k hkt') hml ?_⟩;have hq:=hL.has m k hml hkt'
   split
   ·rename_i hb;have hu:=hR.wd m hml;refine⟨ω,by rw[J02];omega,ω,ω,?_⟩;refine LoopWP.fold s.length (fun w (d:List (List Int))=>∃s',d=st r (k:Int) s'∧s'.length=s.length∧(∀j:Nat,j<w→ix s' (j:Int)=bits .or .u64 (ix s (j:Int)) (ix (ix right (m:Int)) (j:Int)))∧∀j:Nat,w≤j→ix s' (j:Int)=ix s (j:Int)) ⟨s,rfl,rfl,fun j hj=>by omega,fun j hj=>rfl⟩ ?_;rintro w d X3 hw ⟨s',rfl,hl',hlo,hhi⟩ hX3
    show J3y right k m _ _ K _ w _
    unfold J3y;rw[J3J ω,J3J ω];have hsl:=hs.len;have hul:=hu.len
    split
    ·rename_i hws;refine⟨ω,ω,by rw[J02];omega,ω,ω,ω,ω,ω,by rw[J02];omega,ω,⟨ω,ω⟩,hX3 _ ω ⟨_,st_st,by rw[J02];exact hl',fun j hj=>?_,fun j hj=>?_⟩⟩
     ·rw[ix_st _ ω ω ω];by_cases hjw:j=w
      ·subst hjw;rw[if_pos rfl,hhi j (Nat.le_refl _)]
      ·rw[if_neg ω];exact hlo j ω
     ·rw[ix_st _ ω ω ω,if_neg ω];exact hhi j ω
    ·obtain rfl:w=s.length:=ω;refine hX2 _ ω ⟨s',rfl,⟨by rw[hl'];exact hs.len,fun j hj=>?_⟩,fun x hx=>?_⟩
     ·rw[hlo j ω];have:=uniW hs hu (j:=j) ω;exact⟨this.1,this.2.1⟩
     ·obtain⟨hxl,_⟩:=hs.at_ hx
      have e1:hasB s' x=(hasB s x || hasB (ix right (m:Int)) x):=by
       unfold hasB;rw[hlo (x / 64) hxl];exact(uniW hs hu hxl).2.2 (x % 64)
      rw[e1,Bool.or_eq_true,hh x hx,hR.has x m hx hml];constructor
      ·rintro(⟨z,hz,h1⟩ | h1)
       ·exact⟨z,ω,h1⟩
       ·exact⟨m,ω,hq.1 hb,h1⟩
      ·rintro⟨z,hz,h1,h2⟩;by_cases hzm:z=m
       ·subst hzm;exact .inr h2
       ·exact .inl ⟨z,ω,h1,h2⟩
   ·rename_i hb;refine hX2 _ ω ⟨s,rfl,hs,fun x hx=>?_⟩;rw[hh x hx];constructor
    ·rintro⟨z,hz,h1⟩;exact⟨z,ω,h1⟩
    ·rintro⟨z,hz,h1,h2⟩;by_cases hzm:z=m
     ·subst hzm;exact absurd (hq.2 h1) hb
     ·exact⟨z,ω,h1,h2⟩
  ·obtain rfl:m=n:=ω;exact⟨⟨ω,ω⟩,hX _ hkt' (hI.put hkt' hs hh)⟩
 ·obtain rfl:k=n:=ω;exact h r hI.fin
structure PartOf (p:List Int) (n:Nat) (e:Nat→Nat→Prop):Prop where
 len:p.length=n
 can:CanP p
 ker:∀i j:Nat,i<n→j<n→(ix p (i:Int)=ix p (j:Int)↔e i j)
theorem IsCan.part {κ:Type} [Inhabited κ] {p:List Int} {l:List κ} {n:Nat} {e:Nat→Nat→Prop} (h:IsCan p l) (hl:l.length=n) (he:∀i j:Nat,i<n→j<n→(ix l (i:Int)=ix l (j:Int)↔e i j)):PartOf p n e:=
 ⟨h.len.trans hl,h.can,fun i j hi hj=>(h.ker i j ω ω).trans (he i j hi hj)⟩
theorem CanP.le {p:List Int} (hp:CanP p):∀k:Nat,k<p.length→ix p (k:Int)≤(k:Int):=by
  intro k
  induction k using Nat.strongRecOn with
  | _ k ih =>
    intro hk;by_cases h0:ix p (k:Int)≤0
    · omega
    · obtain⟨j,hj,he⟩:=(hp k hk).2 (ix p (k:Int)-1) ω ω;have:=ih j hj ω;omega
structure LstM (e:Nat→Nat→Prop) (l:List Int) (k:Nat):Prop where
 at_:∀j:Nat,j<k→∃m:Nat,m≤j∧ix l (j:Int)=(m:Int)∧e m j∧∀i:Nat,i<m→¬e i j
theorem LstM.ker {e:Nat→Nat→Prop} {l:List Int} {n:Nat} (h:LstM e l n) (hs:∀i j:Nat,i<n→j<n→e i j→e j i) (ht:∀i j k:Nat,i<n→j<n→k<n→e i j→e j k→e i k) (i j:Nat) (hi:i<n) (hj:j<n):ix l (i:Int)=ix l (j:Int)↔e i j:=by
 obtain⟨a,ha,ea,fa,ga⟩:=h.at_ i hi;obtain⟨b,hb,eb,fb,gb⟩:=h.at_ j hj;rw[ea,eb];constructor
 ·intro hab;obtain rfl:a=b:=ω;exact ht i a j hi ω hj (hs a i ω hi fa) fb
 ·intro hij
  rcases Nat.lt_trichotomy a b with hab | hab | hab
  ·exact absurd (ht a i j ω hi hj fa hij) (gb a hab)
  ·rw[hab]
  ·exact absurd (ht b j i ω hj hi fb (hs i j hi hj hij)) (ga b hab)
theorem LstM.put {e:Nat→Nat→Prop} {l:List Int} {n k m:Nat} (h:LstM e l k) (hl:l.length=n) (hk:k<n) (hm:m≤k) (he:e m k) (hn:∀i:Nat,i<m→¬e i k):LstM e (st l (k:Int) (m:Int)) (k+1):=by
 refine⟨fun j hj=>?_⟩;rw[ix_st _ ω ω ω];by_cases hjk:j=k
 ·subst hjk;rw[if_pos rfl];exact⟨m,hm,rfl,he,hn⟩
 ·rw[if_neg ω];exact h.at_ j ω
theorem J5d {n:Nat} (n4:n≤400) {r:List (List Int)} {le:Nat→Nat→Prop} (hr:IdF n r le) (hrf:∀i:Nat,i<n→le i i) (htr:∀i j k:Nat,i<n→j<n→k<n→le i j→le j k→le i k)
  {K:List Int→Prop} (h:∀p,PartOf p n (fun i j=>le i j∧le j i)→K p):J1O r K:=by
 have hrl:=hr.len;unfold J1O;rw[hrl];refine fun _=>⟨ω,ω,LoopWP.fold n (fun k (c:List Int)=>c.length=n∧LstM (fun i j=>le i j∧le j i) c k) ⟨by simp,⟨fun j hj=>by omega⟩⟩ ?_⟩;rintro k c X hk ⟨hl,hI⟩ hX
 show J4P r K _ k c
 unfold J4P;rw[hrl]
 split
 ·have hkn:k<n:=ω;refine⟨ω,ω,?_⟩;refine LoopWP.scan k (fun y=>¬(le y k∧le k y)) ?_;rintro y X2 hy hno hX2
  show J50 r k c _ K X2 y
  unfold J50;rw[hrl]
  split
  ·refine⟨ω,ω,Jcm n4 (hr.wd k hkn) ω ?_⟩;have h1:=hr.has y k ω hkn;have h2:=hr.has k y hkn ω
   split
   ·rename_i hb;refine⟨ω,ω,Jcm n4 (hr.wd y ω) hkn ?_⟩
    split
    ·rename_i hb2;refine⟨ω,by rw[J02];omega,hX _ hkn ⟨by rw[J02,J02];exact hl,?_⟩⟩;rw[st_st];exact hI.put hl hkn hy ⟨h1.1 hb,h2.1 hb2⟩ hno
    ·rename_i hb2;exact⟨⟨ω,ω⟩,hX2 ω fun hh=>hb2 (h2.2 hh.2)⟩
   ·rename_i hb;exact⟨⟨ω,ω⟩,hX2 ω fun hh=>hb (h1.2 hh.1)⟩
  ·obtain rfl:y=k:=ω;exact hX _ hkn ⟨by rw[J02];exact hl,hI.put hl hkn (Nat.le_refl _) ⟨hrf y hkn,hrf y hkn⟩ hno⟩
 ·obtain rfl:k=n:=ω;exact J3l ω fun p hp=>h p (hp.part hl fun i j hi hj=>hI.ker (fun i j _ _ hh=>⟨hh.2,hh.1⟩) (fun i j k hi hj hk a b=>⟨htr i j k hi hj hk a.1 b.1,htr k j i hk hj hi b.2 a.2⟩) i j hi hj)
end Sg
namespace Sg
open Go
theorem J1G {p:List Int} (hp:CanP p) (hl:p.length≤4096) {K:Bool→Prop} (h:K true):J0h p K:=by
 unfold J0h;intro _;rw[if_neg ω];refine LoopWP.foldR p.length (fun k (c:Nat)=>c≤k∧∀v:Int,(0≤v∧v<(c:Int))↔∃j:Nat,j<k∧ix p (j:Int)=v) 0 ω ⟨ω,fun v=>⟨fun hh=>by omega,fun ⟨j,hj,_⟩=>absurd hj (Nat.not_lt_zero _)⟩⟩ ?_;rintro k c X hk ⟨hck,hI⟩ hX
 show J16 p K _ c k
 unfold J16
 split
 ·have hkp:k<p.length:=ω;obtain⟨p0,p1⟩:=hp k hkp
  have hle:ix p (k:Int)≤(c:Int):=by
   by_cases hlt:(c:Int)<ix p (k:Int)
   ·have:=(hI (c:Int)).2 (p1 _ ω hlt);omega
   ·omega
  refine⟨ω,ω,?_⟩;rw[if_neg ω,if_neg ω]
  split
  ·rename_i he;refine⟨⟨ω,ω⟩,hX _ hkp ⟨ω,fun v=>?_⟩⟩;constructor
   ·intro hv;by_cases hvc:v=(c:Int)
    ·exact⟨k,ω,by rw[he,hvc]⟩
    ·obtain⟨j,hj,hh⟩:=(hI v).1 ω;exact⟨j,ω,hh⟩
   ·rintro⟨j,hj,hh⟩;by_cases hjk:j=k
    ·subst hjk;omega
    ·have:=(hI v).2 ⟨j,ω,hh⟩;omega
  ·rename_i he;refine hX _ hkp ⟨ω,fun v=>?_⟩;rw[hI v];constructor
   ·rintro⟨j,hj,hh⟩;exact⟨j,ω,hh⟩
   ·rintro⟨j,hj,hh⟩;by_cases hjk:j=k
    ·subst hjk;exact(hI v).1 ω
    ·exact⟨j,ω,hh⟩
 ·exact h
theorem J1I {p:List Int} (hp:CanP p) (hl:p.length≤4096) {K:Int→Prop} (h:∀c,IsCnt p c→K c):J0d p K:=by
 unfold J0d;refine J1G hp hl ?_;rw[if_pos rfl];exact J7M hp hl h
def clsF (p:List Int) (c:Nat):List (List Int):=(iota c).map fun v=>(iota p.length).filter fun i=>decide (ix p i=v)
theorem J8v {p:List Int} {c:Nat}:(clsF p c).length=c:=by simp[clsF]
theorem JbY {p:List Int} {c v:Nat} (h:v<c):ix (clsF p c) (v:Int)=(iota p.length).filter fun i=>decide (ix p i=(v:Int)):=by
 unfold clsF;rw[J2M _ ω (by simpa using h),J89 h]
theorem Jdr {p:List Int} (hp:CanP p) {c:Int} (hc:IsCnt p c):c≤(p.length:Int):=by
 by_cases h:(p.length:Int)<c
 ·obtain⟨j,hj,he⟩:=(hc.2 (c-1)).1 ⟨ω,ω⟩;have:=hp.le j hj;omega
 ·omega
theorem J9m {p:List Int} (hp:CanP p) (hl:p.length≤400) {K:List (List Int)→Prop} (h:∀c:Nat,IsCnt p c→K (clsF p c)):J6j p K:=by
 unfold J6j;refine J7M hp ω fun c hc=>?_;have hcl:=Jdr hp hc;obtain⟨c,rfl⟩:=Int.eq_ofNat_of_zero_le hc.1;refine⟨ω,ω,fun _=>LoopWP.fold p.length (fun k (r:List (List Int))=>r.length=c∧∀v:Nat,v<c→ix r (v:Int)=(iota k).filter fun i=>decide (ix p i=(v:Int))) ⟨by simp,fun v hv=>?_⟩ ?_⟩
 ·rw[J0c _ _ (by simpa using hv)];rfl
 rintro k r X hk ⟨hr,hI⟩ hX
 show J46 p K _ k r
 unfold J46
 split
 ·have hkp:k<p.length:=ω;have hv:=(hc.2 (ix p (k:Int))).2 ⟨k,hkp,rfl⟩;obtain⟨v,hv'⟩:=Int.eq_ofNat_of_zero_le hv.1;rw[hv'] at hv ⊢;have hvc:v<c:=ω;refine⟨ω,ω,ω,ω,?_,ω,ω,hX _ hkp ⟨by rw[J02];exact hr,fun u hu=>?_⟩⟩
  ·rw[hI v hvc];have:=List.length_filter_le (fun i=>decide (ix p i=(v:Int))) (iota k);simp at this ⊢;omega
  ·rw[ix_st _ ω ω ω,J7r,List.filter_append];by_cases huv:u=v
   ·subst huv;rw[if_pos rfl,hI u hvc];simp[hv']
   ·rw[if_neg ω,hI u hu];have:¬(v:Int)=(u:Int):=ω;simp[hv',this]
 ·obtain rfl:k=p.length:=ω
  have:r=clsF p c:=by
   refine J09 (by rw[J8v,hr]) fun j hj=>?_;rw[JbY ω];exact hI j ω
  rw[this];exact h c hc
theorem J7B {p:List Int} (hp:CanP p) (hl:p.length≤400) {K:List (List Int)→Prop} (h:∀c:Nat,IsCnt p c→K (clsF p c)):J1g p K:=by
 unfold J1g;refine J1G hp ω ?_;rw[if_pos rfl];refine J1I hp ω fun c hc=>?_;have:=J9m hp hl (K:=K) h;unfold J6j at this;have hcl:=Jdr hp hc;obtain⟨c,rfl⟩:=Int.eq_ofNat_of_zero_le hc.1;refine⟨ω,ω,fun _=>LoopWP.fold p.length (fun k (r:List (List Int))=>r.length=c∧∀v:Nat,v<c→ix r (v:Int)=(iota k).filter fun i=>decide (ix p i=(v:Int))) ⟨by simp,fun v hv=>?_⟩ ?_⟩
 ·rw[J0c _ _ (by simpa using hv)];rfl
 rintro k r X hk ⟨hr,hI⟩ hX
 show J25 p K _ k r
 unfold J25
 split
 ·have hkp:k<p.length:=ω;have hv:=(hc.2 (ix p (k:Int))).2 ⟨k,hkp,rfl⟩;obtain⟨v,hv'⟩:=Int.eq_ofNat_of_zero_le hv.1;rw[hv'] at hv ⊢;have hvc:v<c:=ω;refine⟨ω,ω,ω,ω,?_,ω,ω,hX _ hkp ⟨by rw[J02];exact hr,fun u hu=>?_⟩⟩
  ·rw[hI v hvc];have:=List.length_filter_le (fun i=>decide (ix p i=(v:Int))) (iota k);simp at this ⊢;omega
  ·rw[ix_st _ ω ω ω,J7r,List.filter_append];by_cases huv:u=v
   ·subst huv;rw[if_pos rfl,hI u hvc];simp[hv']
   ·rw[if_neg ω,hI u hu];have:¬(v:Int)=(u:Int):=ω;simp[hv',this]
 ·obtain rfl:k=p.length:=ω
  have:r=clsF p c:=by
   refine J09 (by rw[J8v,hr]) fun j hj=>?_;rw[JbY ω];exact hI j ω
  rw[this];exact h c hc
theorem J4q {l:List (Int×Int)} (hl:l.length≤4096) {K:List Int→Prop} (h:∀p,IsCan p l→K p):J0p l K:=by
 unfold J0p;refine fun _=>⟨ω,ω,LoopWP.fold l.length (fun k (s:List ((Int×Int)×Int)×List Int)=>CN l k s.1 s.2) CN.start ?_⟩;rintro k ⟨m,p⟩ X hk hI hX
 show J0Q l K _ k m p
 unfold J0Q;have hlen:p.length=l.length:=hI.len
 split
 ·refine⟨ω,ω,?_⟩
  split
  ·rename_i hx;exact⟨ω,ω,hX _ ω (hI.old ω hx)⟩
  ·rename_i hx;exact⟨ω,ω,hX _ ω (hI.new ω hx)⟩
 ·obtain rfl:k=l.length:=ω;exact h p hI.fin
theorem J8V {p q:List Int} {n:Nat} (n4:n≤400) {e e':Nat→Nat→Prop} (hp:PartOf p n e) (hq:PartOf q n e') {K:List Int→Prop} (h:∀m,PartOf m n (fun i j=>e i j∧e' i j)→K m):J2d p q K:=by
 have h1:=hp.len;have h2:=hq.len;unfold J2d J1H;refine fun _ _=>?_;rw[if_pos ω];refine J1G hp.can ω ?_;rw[if_pos rfl];refine J1G hq.can ω ?_
 show (if true=true then _ else _)
 rw[if_pos rfl];refine fun _=>⟨ω,ω,LoopWP.fold p.length (fun k (l:List (Int×Int))=>l.length=n∧∀j:Nat,j<k→ix l (j:Int)=(ix p (j:Int),ix q (j:Int))) ⟨by simp[h1],fun j hj=>by omega⟩ ?_⟩;rintro k l X hk ⟨hl,hI⟩ hX
 show J3z p q K _ k l
 unfold J3z
 split
 ·refine⟨ω,ω,ω,ω,ω,ω,hX _ ω ⟨by rw[J02];exact hl,fun j hj=>?_⟩⟩;rw[ix_st _ ω ω ω];by_cases hjk:j=k
  ·subst hjk;rw[if_pos rfl]
  ·rw[if_neg ω];exact hI j ω
 ·refine J4q ω fun m hm=>h m (hm.part hl fun i j hi hj=>?_);rw[hI i ω,hI j ω,Prod.mk.injEq,hp.ker i j hi hj,hq.ker i j hi hj]
end Sg
namespace Sg
open Go
theorem Jem (t:List (List Int)) (x:Nat):leR t x x:=.inl rfl
theorem Je1 (t:List (List Int)) (x:Nat):leL t x x:=.inl rfl
theorem mu_cl {t:List (List Int)} (T:Tb t t.length) {x y:Nat} (hx:x<t.length) (hy:y<t.length):∃z:Nat,z<t.length∧mu t (x:Int) (y:Int)=(z:Int):=by
 have hb:=T.mu (x:=(x:Int)) (y:=(y:Int)) ω ω ω ω;obtain⟨z,hz⟩:=Int.eq_ofNat_of_zero_le hb.1;exact⟨z,ω,hz⟩
theorem Jb4 {t:List (List Int)} (hv:VT t=true) {x y z:Nat} (hz:z<t.length) (h:leR t x y) (k:leR t y z):leR t x z:=by
 have T:=SH.tb (VT.sh hv)
 rcases h with rfl | ⟨s,hs,h⟩
 ·exact k
 ·rcases k with rfl | ⟨u,hu,k⟩
  ·exact .inr ⟨s,hs,h⟩
  ·obtain⟨w,hw,e⟩:=mu_cl T hu hs;refine .inr ⟨w,hw,?_⟩;rw[←e,←VT.as hv z u s hz hu hs,k,h]
theorem Jbh {t:List (List Int)} (hv:VT t=true) {x y z:Nat} (hz:z<t.length) (h:leL t x y) (k:leL t y z):leL t x z:=by
 have T:=SH.tb (VT.sh hv)
 rcases h with rfl | ⟨s,hs,h⟩
 ·exact k
 ·rcases k with rfl | ⟨u,hu,k⟩
  ·exact .inr ⟨s,hs,h⟩
  ·obtain⟨w,hw,e⟩:=mu_cl T hs hu;refine .inr ⟨w,hw,?_⟩;rw[←e,VT.as hv s u z hs hu hz,k,h]
theorem JeH {t:List (List Int)} (hv:VT t=true) {x y z:Nat} (hx:x<t.length) (hz:z<t.length) (h:leL t x y) (k:leR t y z):∃w:Nat,w<t.length∧leR t x w∧leL t w z:=by
 have T:=SH.tb (VT.sh hv)
 rcases h with rfl | ⟨s,hs,h⟩
 ·exact⟨z,hz,k,.inl rfl⟩
 ·rcases k with rfl | ⟨u,hu,k⟩
  ·exact⟨x,hx,.inl rfl,.inr ⟨s,hs,h⟩⟩
  ·obtain⟨w,hw,e⟩:=mu_cl T hs hz;refine⟨w,hw,.inr ⟨u,hu,?_⟩,.inr ⟨s,hs,e⟩⟩;rw[←e,VT.as hv s z u hs hz hu,k,h]
theorem Je6 {t:List (List Int)} {x:Nat} (hx:x<t.length):leJ t x x:=⟨x,hx,.inl rfl,.inl rfl⟩
theorem J70 {t:List (List Int)} (hv:VT t=true) {x y z:Nat} (hy:y<t.length) (hz:z<t.length) (h:leJ t x y) (k:leJ t y z):leJ t x z:=by
 obtain⟨a,ha,a1,a2⟩:=h;obtain⟨b,hb,b1,b2⟩:=k;obtain⟨w,hw,w1,w2⟩:=JeH hv ha hb a1 b2;exact⟨w,hw,Jbh hv hz w2 b1,Jb4 hv hw a2 w1⟩
def eR (t:List (List Int)) (x y:Nat):Prop:=leR t x y∧leR t y x
def eL (t:List (List Int)) (x y:Nat):Prop:=leL t x y∧leL t y x
def eJ (t:List (List Int)) (x y:Nat):Prop:=leJ t x y∧leJ t y x
structure GrOf (t:List (List Int)) (g:Green):Prop where
 R:PartOf g.R t.length (eR t)
 L:PartOf g.L t.length (eL t)
 J:PartOf g.J t.length (eJ t)
 H:PartOf g.H t.length (fun i j=>eR t i j∧eL t i j)
 cnt:IsCnt g.J (g.Below.length:Int)
 row:∀i:Nat,i<g.Below.length→(ix g.Below (i:Int)).length=g.Below.length
 bel:∀x y:Nat,x<t.length→y<t.length→(ix (ix g.Below (ix g.J (x:Int))) (ix g.J (y:Int))=true↔leJ t x y)
theorem Jb7 {p:List Int} {c v:Nat} (hc:IsCnt p (c:Int)) (hv:v<c):∃f:Nat,f<p.length∧ix (ix (clsF p c) (v:Int)) 0=(f:Int)∧ix p (f:Int)=(v:Int)∧0<(ix (clsF p c) (v:Int)).length:=by
 rw[JbY hv];obtain⟨j,hj,he⟩:=(hc.2 (v:Int)).1 ⟨ω,ω⟩
 have hm:(j:Int)∈(iota p.length).filter fun i=>decide (ix p i=(v:Int)):=by
  rw[List.mem_filter,J6Z,decide_eq_true_eq];exact⟨⟨ω,ω⟩,he⟩
 have hl:0<((iota p.length).filter fun i=>decide (ix p i=(v:Int))).length:=List.length_pos_of_mem hm;have h0:=J0S (xs:=(iota p.length).filter fun i=>decide (ix p i=(v:Int))) (i:=0) ω ω;rw[List.mem_filter,J6Z,decide_eq_true_eq] at h0;obtain⟨f,hf⟩:=Int.eq_ofNat_of_zero_le h0.1.1;exact⟨f,ω,hf,by rw[←hf];exact h0.2,hl⟩
theorem Jfk {t:List (List Int)} (hv:VT t=true) {p:List Int} (hp:PartOf p t.length (eJ t)) {x y f g:Nat} (hx:x<t.length) (hy:y<t.length) (hf:f<t.length) (hg:g<t.length) (h1:ix p (x:Int)=ix p (f:Int)) (h2:ix p (y:Int)=ix p (g:Int)):leJ t x y↔leJ t f g:=by
 have a:=(hp.ker x f hx hf).1 h1;have b:=(hp.ker y g hy hg).1 h2;exact⟨fun h=>J70 hv hx hg a.2 (J70 hv hy hg h b.1),fun h=>J70 hv hf hy a.1 (J70 hv hg hy h b.2)⟩
theorem J9t {t:List (List Int)} {K:Green→Prop} (h1:VT t=true→∀g,GrOf t g→K g) (h2:¬VT t=true→K ⟨[],[],[],[],[]⟩):J38 t K:=by
 unfold J38;refine J0B ?_;by_cases h0:vaC t=0
 ·rw[if_pos h0];have hv:=vaC0.1 h0;have hs:=VT.sh hv;have T:=SH.tb hs;have n4:=T.n4;refine Jad hs fun rr hrr=>Jaw hs fun rl hrl=>JbF n4 hrr hrl fun rj hrj=>?_;have hrj':IdF t.length rj (leJ t):=hrj;refine J5d n4 hrr (fun i _=>Jem t i) (fun i j k hi hj hk=>Jb4 hv hk) fun pR hR=>?_;refine J5d n4 hrl (fun i _=>Je1 t i) (fun i j k hi hj hk=>Jbh hv hk) fun pL hL=>?_;refine J5d n4 hrj' (fun i hi=>Je6 hi) (fun i j k hi hj hk=>J70 hv hj hk) fun pJ hJ=>?_;have hJl:=hJ.len;refine J8V n4 hR hL fun pH hH=>J7B hJ.can ω fun c hc=>?_;have hcl:=Jdr hJ.can hc;have hrjl:=hrj'.len;rw[J8v];refine fun _=>⟨ω,ω,?_⟩;refine LoopWP.fold c (fun k (d:List (List Bool))=>d.length=c∧∀i:Nat,i<k→(ix d (i:Int)).length=c∧∀x y j:Nat,x<t.length→y<t.length→ix pJ (x:Int)=(i:Int)→ix pJ (y:Int)=(j:Int)→(ix (ix d (i:Int)) (j:Int)=true↔leJ t x y)) ⟨by simp,fun i hi=>by omega⟩ ?_;rintro k d X hk ⟨hd,hI⟩ hX
  show J4f rj pR pL pJ pH (clsF pJ c) K _ k d
  unfold J4f;rw[J8v]
  split
  ·have hkc:k<c:=ω;obtain⟨f,hf,ef,pf,lf⟩:=Jb7 hc hkc;refine⟨ω,ω,ω,ω,ω,ω,?_⟩;refine LoopWP.fold c (fun m (q:List (List Bool))=>∃row,q=st d (k:Int) row∧row.length=c∧∀x y j:Nat,j<m→x<t.length→y<t.length→ix pJ (x:Int)=(k:Int)→ix pJ (y:Int)=(j:Int)→(ix row (j:Int)=true↔leJ t x y)) ⟨_,rfl,by simp,fun x y j hj=>by omega⟩ ?_;rintro m q X2 hm ⟨row,rfl,hrow,hJ2⟩ hX2
   show J4c rj (clsF pJ c) k _ K _ m _
   unfold J4c;rw[J8v]
   split
   ·have hmc:m<c:=ω;obtain⟨u,hu,eu,pu,lu⟩:=Jb7 hc hmc;rw[ef,eu,J3J ω];refine⟨ω,ω,ω,by rw[J02];omega,ω,ω,ω,ω,ω,ω,Jcm n4 (hrj'.wd u ω) ω ⟨ω,ω,hX2 _ hmc ⟨_,st_st,by rw[J02];exact hrow,fun x y j hj hx hy ex ey=>?_⟩⟩⟩;rw[ix_st _ ω ω ω];by_cases hjm:j=m
    ·subst hjm;rw[if_pos rfl,hrj'.has f u ω ω];exact(Jfk hv hJ hx hy ω ω (by rw[ex,pf]) (by rw[ey,pu])).symm
    ·rw[if_neg ω];exact hJ2 x y j ω hx hy ex ey
   ·obtain rfl:m=c:=ω;refine hX _ hkc ⟨by rw[J02];exact hd,fun i hi=>?_⟩;rw[ix_st _ ω ω ω];by_cases hik:i=k
    ·subst hik;rw[if_pos rfl];refine⟨hrow,fun x y j hx hy ex ey=>hJ2 x y j ?_ hx hy ex ey⟩;have:=(hc.2 (j:Int)).2 ⟨y,ω,ey⟩;omega
    ·rw[if_neg ω];exact hI i ω
  ·obtain rfl:k=c:=ω;refine h1 hv _ ⟨hR,hL,hJ,hH,by simp only;rw[hd];exact hc,fun i hi=>?_,fun x y hx hy=>?_⟩
   ·simp only at hi ⊢;rw[(hI i ω).1,hd]
   ·simp only;have a1:=(hc.2 (ix pJ (x:Int))).2 ⟨x,ω,rfl⟩;have a2:=(hc.2 (ix pJ (y:Int))).2 ⟨y,ω,rfl⟩;obtain⟨i,hi⟩:=Int.eq_ofNat_of_zero_le a1.1;obtain⟨j,hj⟩:=Int.eq_ofNat_of_zero_le a2.1;rw[hi] at a1 ⊢;rw[hj];exact(hI i ω).2 x y j hx hy hi hj
 ·rw[if_neg h0];exact h2 fun hv=>h0 (vaC0.2 hv)
end Sg
namespace Sg
open Go
end Sg
namespace Sg
open Go
end Sg
namespace Sg
open Go
end Sg
namespace Sg
open Go
end Sg
namespace Sg
open Go
end Sg
namespace Sg
open Go
end Sg
namespace Sg
open Go
end Sg
namespace Sg
open Go
section
variable {α β:Type} {k:Nat} {ρ:Str→α} {ρ':Str→β} {φ φ':Str→Bool} {s s':Syntactic}
def LCm (k:Nat) (ρ:Str→α):Prop:=∀u v w,LW k u→LW k v→LW k w→ρ u=ρ v→ρ (w++u)=ρ (w++v)
def Eqv (k:Nat) (ρ:Str→α) (ρ':Str→β):Prop:=∀u v,LW k u→LW k v→(ρ u=ρ v↔ρ' u=ρ' v)
theorem Eqv.symm (h:Eqv k ρ ρ'):Eqv k ρ' ρ:=fun u v hu hv=>(h u v hu hv).symm
structure Mon (k:Nat) (ρ:Str→α) (s:Syntactic):Prop where
 cl:CL k ρ s.Words (fun _=>True)
 le:s.Letters=k
 tl:s.Table.length=s.Words.length
 rl:∀i:Nat,i<s.Words.length→(ix s.Table i).length=s.Words.length
 tb:∀i j:Nat,i<s.Words.length→j<s.Words.length→∃m:Nat,ix (ix s.Table i) j=m∧m<s.Words.length∧ρ (ix s.Words m)=ρ (ix s.Words i++ix s.Words j)
 il:s.Images.length=k
 im:∀x:Nat,x<k→∃m:Nat,ix s.Images x=m∧m<s.Words.length∧ρ (ix s.Words m)=ρ [lt x]
 pl:s.Plus.length=s.Words.length
 ps:∀i:Nat,i<s.Words.length→(ix s.Plus i=true↔∃w,LW k w∧w≠[]∧ρ w=ρ (ix s.Words i))
structure Acc (φ:Str→Bool) (s:Syntactic):Prop where
 al:s.Accept.length=s.Words.length
 ac:∀i:Nat,i<s.Words.length→ix s.Accept i=φ (ix s.Words i)
theorem Mon.congr (hk:k<159) (e:Eqv k ρ ρ') (h:Mon k ρ s):Mon k ρ' s:=by
 have lw:∀i:Nat,i<s.Words.length→LW k (ix s.Words i):=fun i hi=>h.cl.lw hi;refine⟨h.cl.congrR e,h.le,h.tl,h.rl,fun i j hi hj=>?_,h.il,fun x hx=>?_,h.pl,fun i hi=>?_⟩
 ·obtain⟨m,e1,hm,r⟩:=h.tb i j hi hj;exact⟨m,e1,hm,(e _ _ (lw m hm) (LW.app.2 ⟨lw i hi,lw j hj⟩)).1 r⟩
 ·obtain⟨m,e1,hm,r⟩:=h.im x hx;exact⟨m,e1,hm,(e _ _ (lw m hm) (LW.lt hx hk)).1 r⟩
 ·rw[h.ps i hi];exact⟨fun ⟨w,w1,w2,w3⟩=>⟨w,w1,w2,(e _ _ w1 (lw i hi)).1 w3⟩,fun ⟨w,w1,w2,w3⟩=>⟨w,w1,w2,(e _ _ w1 (lw i hi)).2 w3⟩⟩
theorem Mon.words (h:Mon k ρ s) (h':Mon k ρ s'):s.Words=s'.Words:=h.cl.uniq h'.cl
theorem Mon.pos (h:Mon k ρ s):0<s.Words.length:=h.cl.zero.2
theorem Mon.one (h:Mon k ρ s):ix s.Words 0=[]:=h.cl.zero.1
theorem Mon.uniq (h:Mon k ρ s) (h':Mon k ρ s') (ha:Acc φ s) (ha':Acc φ s'):s=s':=by
 have ew:=h.words h';obtain⟨a1,a2,a3,a4,a5,a6⟩:=s;obtain⟨b1,b2,b3,b4,b5,b6⟩:=s';have ew:a3=b3:=ew;subst ew;have el:a1=b1:=h.le.trans h'.le.symm
 have et:a2=b2:=J09 (h.tl.trans h'.tl.symm) fun i hi=>by
  have hi:i<a3.length:=by rw[←h.tl];exact hi
  refine J09 ((h.rl i hi).trans (h'.rl i hi).symm) fun j hj=>?_
  have hj:j<a3.length:=by rw[←h.rl i hi];exact hj
  obtain⟨m1,e1,l1,r1⟩:=h.tb i j hi hj;obtain⟨m2,e2,l2,r2⟩:=h'.tb i j hi hj;have:=h.cl.inj l1 l2 (r1.trans r2.symm);subst this;exact e1.trans e2.symm
 have ei:a4=b4:=J09 (h.il.trans h'.il.symm) fun x hx=>by
  have hx:x<k:=by rw[←h.il];exact hx
  obtain⟨m1,e1,l1,r1⟩:=h.im x hx;obtain⟨m2,e2,l2,r2⟩:=h'.im x hx;have:=h.cl.inj l1 l2 (r1.trans r2.symm);subst this;exact e1.trans e2.symm
 have ea:a5=b5:=J09 (ha.al.trans ha'.al.symm) fun i hi=>by
  have hi:i<a3.length:=by rw[←ha.al];exact hi
  exact(ha.ac i hi).trans (ha'.ac i hi).symm
 have ep:a6=b6:=J09 (h.pl.trans h'.pl.symm) fun i hi=>by
  have hi:i<a3.length:=by rw[←h.pl];exact hi
  rw[Bool.eq_iff_iff];exact(h.ps i hi).trans (h'.ps i hi).symm
 rw[el,et,ei,ea,ep]
theorem Acc.congr (h:Mon k ρ s) (e:∀w,LW k w→φ w=φ' w) (ha:Acc φ s):Acc φ' s:=
 ⟨ha.al,fun i hi=>(ha.ac i hi).trans (e _ (h.cl.lw hi))⟩
theorem Mon.mul (h:Mon k ρ s) (hr:RC k ρ) (hl:LCm k ρ) {i j:Nat} (hi:i<s.Words.length) (hj:j<s.Words.length) {u v:Str} (hu:LW k u) (hv:LW k v) (eu:ρ (ix s.Words i)=ρ u) (ev:ρ (ix s.Words j)=ρ v) :
  ∃m:Nat,ix (ix s.Table i) j=m∧m<s.Words.length∧ρ (ix s.Words m)=ρ (u++v):=by
 obtain⟨m,e,hm,r⟩:=h.tb i j hi hj;exact⟨m,e,hm,r.trans ((hr.app (h.cl.lw hi) hu eu (h.cl.lw hj)).trans (hl _ _ _ (h.cl.lw hj) hv hu ev))⟩
def vlS (s:Syntactic) (w:Str):Int:=w.foldl (fun x b=>ix (ix s.Table x) (ix s.Images ((b.toNat:Int)-97))) 0
theorem J8E (s:Syntactic) (w:Str) {x:Nat} (hx:x<159):vlS s (w++[lt x])=ix (ix s.Table (vlS s w)) (ix s.Images (x:Int)):=by
 have:((lt x).toNat:Int)-97=x:=by rw[J0j hx];omega
 simp[vlS,this]
theorem Mon.val (h:Mon k ρ s) (hk:k<159) (hr:RC k ρ) (hl:LCm k ρ) {w:Str}:LW k w→∃m:Nat,vlS s w=m∧m<s.Words.length∧ρ (ix s.Words m)=ρ w:=by
  induction w using snocRec with
  | nil=>exact fun _=>⟨0,rfl,h.pos,by rw[show ((0:Nat):Int)=0 from rfl,h.one]⟩
  | snoc w b ih =>
    intro hw;obtain⟨hw1,hw2⟩:=LW.app.1 hw;obtain⟨x,hx,rfl⟩:=LW.letter hk hw2;obtain⟨i,e1,hi,r1⟩:=ih hw1;obtain⟨j,e2,hj,r2⟩:=h.im x hx;rw[J8E _ _ ω,e1,e2];exact h.mul hr hl hi hj hw1 (LW.lt hx hk) r1 r2
theorem Mon.Jbl (h:Mon k ρ s) (hk:k<159) (hr:RC k ρ) (hl:LCm k ρ) {u v:Str} (hu:LW k u) (hv:LW k v):vlS s u=vlS s v↔ρ u=ρ v:=by
 obtain⟨i,e1,hi,r1⟩:=h.val hk hr hl hu;obtain⟨j,e2,hj,r2⟩:=h.val hk hr hl hv;rw[e1,e2,←r1,←r2];constructor
 ·intro e;have:i=j:=ω;subst this;rfl
 ·intro e;rw[h.cl.inj hi hj e]
theorem Mon.J1J (h:Mon k ρ s) (hk:k<159) (hr:RC k ρ) (hl:LCm k ρ) {i:Nat} (hi:i<s.Words.length):vlS s (ix s.Words i)=i:=by
 obtain⟨m,e,hm,r⟩:=h.val hk hr hl (h.cl.lw hi);rw[e,h.cl.inj hm hi r]
theorem Mon.J5I (h:Mon k ρ s) (hk:k<159) (hr:RC k ρ) (hl:LCm k ρ) {u v:Str} (hu:LW k u) (hv:LW k v):vlS s (u++v)=ix (ix s.Table (vlS s u)) (vlS s v):=by
 obtain⟨i,e1,hi,r1⟩:=h.val hk hr hl hu;obtain⟨j,e2,hj,r2⟩:=h.val hk hr hl hv;obtain⟨m,e3,hm,r3⟩:=h.val hk hr hl (LW.app.2 ⟨hu,hv⟩);obtain⟨m',e4,hm',r4⟩:=h.mul hr hl hi hj hu hv r1 r2;rw[e1,e2,e3,e4,h.cl.inj hm hm' (r3.trans r4.symm)]
theorem Mon.tab (h:Mon k ρ s) (hk:k<159) (hr:RC k ρ) (hl:LCm k ρ) {i j:Nat} (hi:i<s.Words.length) (hj:j<s.Words.length):ix (ix s.Table i) j=vlS s (ix s.Words i++ix s.Words j):=by
 rw[h.J5I hk hr hl (h.cl.lw hi) (h.cl.lw hj),h.J1J hk hr hl hi,h.J1J hk hr hl hj]
theorem Mon.assoc (h:Mon k ρ s) (hk:k<159) (hr:RC k ρ) (hl:LCm k ρ) {x y z:Nat} (hx:x<s.Words.length) (hy:y<s.Words.length) (hz:z<s.Words.length) :
  ix (ix s.Table (ix (ix s.Table x) y)) z=ix (ix s.Table x) (ix (ix s.Table y) z):=by
 have l1:=h.cl.lw hx;have l2:=h.cl.lw hy;have l3:=h.cl.lw hz;rw[h.tab hk hr hl hx hy,h.tab hk hr hl hy hz]
 conv=>lhs;rw[←h.J1J hk hr hl hz]
 conv=>rhs;rw[←h.J1J hk hr hl hx]
 rw[h.J1J hk hr hl hx,h.J1J hk hr hl hz];have e1:=h.J5I hk hr hl (LW.app.2 ⟨l1,l2⟩) l3;have e2:=h.J5I hk hr hl l1 (LW.app.2 ⟨l2,l3⟩);rw[h.J1J hk hr hl hz] at e1;rw[h.J1J hk hr hl hx] at e2;rw[←e1,←e2,List.append_assoc]
theorem Mon.one_l (h:Mon k ρ s) (hk:k<159) (hr:RC k ρ) (hl:LCm k ρ) {x:Nat} (hx:x<s.Words.length):ix (ix s.Table 0) x=x∧ix (ix s.Table x) 0=x:=by
 have e1:=h.tab hk hr hl h.pos hx;have e2:=h.tab hk hr hl hx h.pos;rw[show ((0:Nat):Int)=0 from rfl,h.one] at e1 e2;rw[List.nil_append,h.J1J hk hr hl hx] at e1;rw[List.append_nil,h.J1J hk hr hl hx] at e2;exact⟨e1,e2⟩
def autS (s:Syntactic):DFA:=⟨s.Letters,0,s.Accept,s.Table.map fun row=>s.Images.map fun y=>ix row y⟩
theorem JaW {i:Int} (h0:0≤i) (h1:i<s.Table.length):ix (autS s).Next i=s.Images.map fun y=>ix (ix s.Table i) y:=by
 rw[autS,J2M _ h0 h1]
theorem JdJ {i:Int} {x:Nat} (h0:0≤i) (h1:i<s.Table.length) (hx:x<s.Images.length):ix (ix (autS s).Next i) (x:Int)=ix (ix s.Table i) (ix s.Images (x:Int)):=by
 rw[JaW h0 h1,J2M _ ω ω]
theorem Mon.aut (h:Mon k ρ s) (hk:k<159) (hr:RC k ρ) (hl:LCm k ρ) {w:Str}:LW k w→rn (autS s) 0 w=vlS s w:=by
  induction w using snocRec with
  | nil=>exact fun _=>rfl
  | snoc w b ih =>
    intro hw;obtain⟨hw1,hw2⟩:=LW.app.1 hw;obtain⟨x,hx,rfl⟩:=LW.letter hk hw2;obtain⟨i,e1,hi,r1⟩:=h.val hk hr hl hw1;rw[J4G _ _ _ ω,J8E _ _ ω,ih hw1,e1];exact JdJ ω (by rw[h.tl];omega) (by rw[h.il];exact hx)
theorem Mon.da (h:Mon k ρ s) (ha:s.Accept.length=s.Words.length) (h1:1≤k) (h6:k≤6) (hn:s.Words.length≤512):Da (autS s):=by
 have hp:=h.pos;have hf:(autS s).Final.length=s.Words.length:=ha
 have hnl:(autS s).Next.length=s.Words.length:=by rw[autS];simp[h.tl]
 have hle:(autS s).Letters=k:=h.le;have htl:=h.tl;refine⟨ω,ω,ω,ω,ω,Int.le_refl _,by show (0:Int)<_;omega,fun j hj=>?_,fun j i hj hi=>?_⟩
 ·rw[JaW ω ω,List.length_map,h.il,hle]
 ·rw[JaW ω ω,List.length_map,h.il] at hi;rw[JdJ ω ω (by rw[h.il];exact hi),hf];obtain⟨m,e,hm,_⟩:=h.im i hi;obtain⟨m',e',hm',_⟩:=h.tb j m ω hm;rw[e,e'];omega
def acc (d:DFA) (w:Str):Bool:=ix d.Final (rn d d.Start w)
def Sat (k:Nat) (ρ:Str→α) (φ:Str→Bool):Prop:=∀u v,LW k u→LW k v→ρ u=ρ v→φ u=φ v
theorem Mon.JeO (h:Mon k ρ s) (ha:Acc φ s) (hk:k<159) (hr:RC k ρ) (hl:LCm k ρ) (hs:Sat k ρ φ) {w:Str} (hw:LW k w):ix s.Accept (vlS s w)=φ w:=by
 obtain⟨m,e,hm,r⟩:=h.val hk hr hl hw;rw[e,ha.ac m hm];exact hs _ _ (h.cl.lw hm) hw r
theorem Mon.JbB (h:Mon k ρ s) (ha:Acc φ s) (hk:k<159) (hr:RC k ρ) (hl:LCm k ρ) (hs:Sat k ρ φ) {w:Str} (hw:LW k w):acc (autS s) w=φ w:=by
 show ix s.Accept (rn (autS s) 0 w)=φ w
 rw[h.aut hk hr hl hw];exact h.JeO ha hk hr hl hs hw
end
section
variable {k:Nat} {φ φ':Str→Bool} {s s':Syntactic} {d:DFA}
def syn (φ:Str→Bool) (k:Nat) (w:Str):{u:Str // LW k u}×{u:Str // LW k u}→Bool:=fun p=>φ (p.1.1++w++p.2.1)
theorem J2x {u v:Str}:syn φ k u=syn φ k v↔∀x y,LW k x→LW k y→φ (x++u++y)=φ (x++v++y):=by
 constructor
 ·intro h x y hx hy;exact congrFun h (⟨x,hx⟩,⟨y,hy⟩)
 ·intro h
  funext p
  exact h p.1.1 p.2.1 p.1.2 p.2.2
theorem J8C (φ:Str→Bool) (k:Nat):RC k (syn φ k):=fun u v b hu hv hb h=>J2x.2 fun x y hx hy=>by
 have:=J2x.1 h x ([b]++y) hx (LW.app.2 ⟨hb,hy⟩)
 simpa [List.append_assoc] using this
theorem J9i (φ:Str→Bool) (k:Nat):LCm k (syn φ k):=fun u v w hu hv hw h=>J2x.2 fun x y hx hy=>by
 have:=J2x.1 h (x++w) y (LW.app.2 ⟨hx,hw⟩) hy
 simpa [List.append_assoc] using this
theorem Jd5 (φ:Str→Bool) (k:Nat):Sat k (syn φ k) φ:=fun u v _ _ h=>by
 have:=J2x.1 h [] [] (LW.nil _) (LW.nil _)
 simpa using this
theorem JcV (e:∀w,LW k w→φ w=φ' w):Eqv k (syn φ k) (syn φ' k):=fun u v hu hv=>by
 rw[J2x,J2x]
 refine forall_congr' fun x=>forall_congr' fun y=>forall_congr' fun hx=>forall_congr' fun hy=>?_
 rw[e _ (LW.app.2 ⟨LW.app.2 ⟨hx,hu⟩,hy⟩),e _ (LW.app.2 ⟨LW.app.2 ⟨hx,hv⟩,hy⟩)]
structure SynOf (k:Nat) (φ:Str→Bool) (s:Syntactic):Prop where
 mon:Mon k (syn φ k) s
 acc:Acc φ s
theorem SynOf.uniq (h:SynOf k φ s) (h':SynOf k φ s'):s=s':=h.mon.uniq h'.mon h.acc h'.acc
theorem SynOf.congr (hk:k<159) (e:∀w,LW k w→φ w=φ' w) (h:SynOf k φ s):SynOf k φ' s:=
 ⟨h.mon.congr hk (JcV e),h.acc.congr h.mon e⟩
theorem SynOf.JbB (h:SynOf k φ s) (hk:k<159) {w:Str} (hw:LW k w):Sg.acc (autS s) w=φ w:=h.mon.JbB h.acc hk (J8C φ k) (J9i φ k) (Jd5 φ k) hw
theorem Jcf (e:∀w,LW k w→Sg.acc d w=φ w) {u v:Str} (hu:LW k u) (hv:LW k v):nero d k u=nero d k v↔∀w,LW k w→φ (u++w)=φ (v++w):=by
 rw[J5z];refine forall_congr' fun w=>forall_congr' fun hw=>?_;rw[←e _ (LW.app.2 ⟨hu,hw⟩),←e _ (LW.app.2 ⟨hv,hw⟩)];exact Iff.rfl
theorem Can.lang {d' m:DFA} {W:List Str} (hk:k<159) (e:∀w,LW k w→Sg.acc d w=Sg.acc d' w) (h:Can k (nero d k) (Sg.acc d) m W):Can k (nero d' k) (Sg.acc d') m W:=
 (h.congrR (fun u v hu hv=>by rw[Jcf e hu hv,Jcf (fun _ _=>rfl) hu hv]) hk).congrF e
structure SynD (d:DFA) (s:Syntactic):Prop where
 k:∃k:Nat,d.Letters=k∧SynOf k (Sg.acc d) s∧∃m W,Can k (nero d k) (Sg.acc d) m W∧W.length≤32
 n:s.Words.length≤400
theorem SynD.uniq (h:SynD d s) (h':SynD d s'):s=s':=by
 obtain⟨k,e,h1,_⟩:=h.k;obtain⟨k',e',h2,_⟩:=h'.k;have:k=k':=ω;subst this;exact h1.uniq h2
theorem SynD.self (D:Da d) (h:SynD d s):Da (autS s)∧SynD (autS s) s:=by
 obtain⟨k,e,h1,m,W,c,hW⟩:=h.k;have l1:=D.l1;have l6:=D.l6;have hk:k<159:=ω;have ha:∀w,LW k w→Sg.acc d w=Sg.acc (autS s) w:=fun w hw=>(h1.JbB hk hw).symm;exact⟨h1.mon.da h1.acc.al ω ω (by have:=h.n;omega),⟨k,h1.mon.le,h1.congr hk ha,m,W,c.lang hk ha,hW⟩,h.n⟩
end
end Sg
namespace Sg
open Go
def rho (d:DFA):Str→Int:=fun w=>rn d d.Start w
section
variable {d:DFA} {k i x:Nat} {W:List Str} {S:List Int}
theorem Jdk (d:DFA) (k:Nat):RC k (rho d):=rn_RC d k d.Start
structure XI (d:DFA) (k i x:Nat) (W:List Str) (S:List Int):Prop where
 cl:CL k (rho d) W (fun w=>SL w (ix W i++[lt x]))
 il:i<W.length
 sl:S.length=W.length
 st:∀j:Nat,j<W.length→ix S j=rho d (ix W j)
theorem Jc9 (D:Da d) (hk:(k:Int)=d.Letters) {w:Str} (hw:LW k w):0≤rho d w∧rho d w<d.Final.length:=rn_lw D hk hw D.s0 D.s1
theorem XI.lw (h:XI d k i x W S) {j:Nat} (hj:j<W.length):LW k (ix W j):=h.cl.lw hj
theorem XI.in_ (h:XI d k i x W S) (D:Da d) (hk:(k:Int)=d.Letters) {j:Nat} (hj:j<W.length):0≤ix S j∧ix S j<d.Final.length:=by
 rw[h.st j hj];exact Jc9 D hk (h.lw hj)
theorem XI.next_ (h:XI d k i x W S) (hx:x<159):ix (ix d.Next (ix S i)) (x:Int)=rho d (ix W i++[lt x]):=by
 rw[h.st i h.il];exact(J4G d d.Start _ hx).symm
theorem CL.few {F:Str→Prop} (h:CL k (rho d) W F) (D:Da d) (hk:(k:Int)=d.Letters):W.length≤d.Final.length:=h.le fun w hw=>Jc9 D hk hw
theorem XI.few (h:XI d k i x W S) (D:Da d) (hk:(k:Int)=d.Letters):W.length≤d.Final.length:=h.cl.few D hk
theorem XI.known (h:XI d k i x W S) (hk:k<159) (hx:x<k) {j:Nat} (hj:j<W.length) (e:ix S j=rho d (ix W i++[lt x])):XI d k i (x+1) W S:=
 ⟨h.cl.known ω (J0S ω ω) ((h.st j hj).symm.trans e),h.il,h.sl,h.st⟩
theorem XI.new (h:XI d k i x W S) (hk:k<159) (hx:x<k) (hn:∀j:Nat,j<W.length→ix S j≠rho d (ix W i++[lt x])):XI d k i (x+1) (W++[ix W i++[lt x]]) (S++[rho d (ix W i++[lt x])]):=by
 have hi:=h.il;have hsl:=h.sl;refine⟨?_,by simp;omega,by simp[hsl],fun j hj=>?_⟩
 ·rw[ixA hi]
  exact h.cl.new ω (LW.app.2 ⟨h.lw hi,LW.lt hx hk⟩) fun w hw=>by
   obtain⟨j,hj,rfl⟩:=J0f.1 hw;rw[←h.st j hj];exact hn j hj
 ·simp only[List.length_append,List.length_singleton] at hj;by_cases hjW:j<W.length
  ·rw[ixA ω,ixA hjW];exact h.st j hjW
  ·have:j=W.length:=ω;rw[ixL' ω,ixL' this]
theorem XI.go (h:XI d k i k W S) (hk:k<159) (hd:i+1<W.length):XI d k (i+1) 0 W S:=⟨h.cl.next (Jdk d k) hk hd,hd,h.sl,h.st⟩
theorem XI.all (h:XI d k i k W S) (hk:k<159) (hd:i+1=W.length):CL k (rho d) W (fun _=>True):=h.cl.all (Jdk d k) hk hd
theorem XI.start:XI d k 0 0 [[]] [d.Start]:=by
 refine⟨CL.start,by simp,rfl,fun j hj=>?_⟩
 have:j=0:=by simpa using hj
 subst this
 rfl
structure YI (d:DFA) (k i:Nat) (W:List Str) (S:List Int):Prop where
 il:i≤W.length
 sl:S.length=W.length
 st:∀j:Nat,j<W.length→ix S j=rho d (ix W j)
 at_:i<W.length→XI d k i 0 W S
 al:i=W.length→CL k (rho d) W (fun _=>True)
 few:W.length≤d.Final.length
theorem YI.start (D:Da d):YI d k 0 [[]] [d.Start]:=⟨by simp,rfl,(XI.start (d:=d) (k:=k)).st,fun _=>XI.start,fun h=>by simp at h,by have:=D.f1;simpa using this⟩
theorem XI.yi (h:XI d k i k W S) (hk:k<159) (D:Da d) (hkl:(k:Int)=d.Letters):YI d k (i+1) W S:=
 ⟨h.il,h.sl,h.st,fun hd=>h.go hk hd,fun hd=>h.all hk hd,h.few D hkl⟩
structure RowsOk (d:DFA) (k i:Nat) (W:List Str) (Nx:List (List Int)) (Fn:List Bool):Prop where
 nl:Nx.length=i
 fl:Fn.length=i
 fin:∀a:Nat,a<i→ix Fn a=acc d (ix W a)
 row:∀a:Nat,a<i→(ix Nx a).length=k
 nx:∀a x:Nat,a<i→x<k→∃j:Nat,ix (ix Nx a) x=j∧j<W.length∧rho d (ix W j)=rho d (ix W a++[lt x])
variable {Nx:List (List Int)} {Fn:List Bool} {row:List Int}
theorem RowsOk.start:RowsOk d k 0 W [] []:=⟨rfl,rfl,fun a h=>by omega,fun a h=>by omega,fun a x h=>by omega⟩
def RowI (d:DFA) (k i x:Nat) (W:List Str) (row:List Int):Prop:=∀y:Nat,y<x→∃j:Nat,ix row y=j∧j<W.length∧rho d (ix W j)=rho d (ix W i++[lt y])
theorem RowI.up (h:RowI d k i x W row) (hi:i<W.length) (c:Str):RowI d k i x (W++[c]) row:=fun y hy=>by
 obtain⟨j,e,hj,r⟩:=h y hy
 exact⟨j,e,by simp;omega,by rw[ixA hj,ixA hi];exact r⟩
theorem RowsOk.up (h:RowsOk d k i W Nx Fn) (hi:i≤W.length) (c:Str):RowsOk d k i (W++[c]) Nx Fn:=by
 refine⟨h.nl,h.fl,fun a ha=>?_,h.row,fun a x ha hx=>?_⟩
 ·rw[ixA ω];exact h.fin a ha
 ·obtain⟨j,e,hj,r⟩:=h.nx a x ha hx;exact⟨j,e,by simp;omega,by rw[ixA hj,ixA ω];exact r⟩
theorem RowsOk.push (h:RowsOk d k i W Nx Fn) (hl:row.length=k) (hr:RowI d k i k W row):RowsOk d k (i+1) W (Nx++[row]) (Fn++[acc d (ix W i)]):=by
 have hn:=h.nl;have hf:=h.fl;refine⟨by simp[hn],by simp[hf],fun a ha=>?_,fun a ha=>?_,fun a x ha hx=>?_⟩
 ·by_cases hai:a=i
  ·subst hai;rw[ixL' ω]
  ·rw[ixA ω];exact h.fin a ω
 ·by_cases hai:a=i
  ·subst hai;rw[ixL' ω];exact hl
  ·rw[ixA ω];exact h.row a ω
 ·by_cases hai:a=i
  ·subst hai;rw[ixL' ω];exact hr x hx
  ·rw[ixA ω];exact h.nx a x ω hx
theorem RowsOk.can (h:RowsOk d k W.length W Nx Fn) (c:CL k (rho d) W (fun _=>True)) {l:Int} (hl:l=k):Can k (rho d) (acc d) ⟨l,0,Fn,Nx⟩ W:=
 ⟨c,hl,rfl,h.fl,h.nl,h.fin,h.row,h.nx⟩
structure Nms (S:List Int) (m:List (Int×Int)):Prop where
 has:∀q,mhas m q=true↔∃j:Nat,j<S.length∧ix S j=q
 get:∀j:Nat,j<S.length→∃j':Nat,mgt m (ix S j)=j'∧j'<S.length∧ix S j'=ix S j
variable {m:List (Int×Int)}
theorem Nms.start (q:Int):Nms [q] (mput [] q 0):=by
 refine⟨fun a=>?_,fun j hj=>?_⟩
 ·simp only[mput,mhas,Bool.or_false,decide_eq_true_eq];constructor
  ·rintro rfl;exact⟨0,by simp,rfl⟩
  ·rintro⟨j,hj,rfl⟩
   have:j=0:=by simpa using hj
   subst this;rfl
 ·have:j=0:=by simpa using hj
  subst this;exact⟨0,by simp[mput,mgt,ix],by simp,rfl⟩
theorem Nms.new (h:Nms S m) {q:Int} (hn:¬mhas m q=true):Nms (S++[q]) (mput m q (S.length:Int)):=by
 refine⟨fun a=>?_,fun j hj=>?_⟩
 ·rw[J5t];simp only[Bool.or_eq_true,decide_eq_true_eq,h.has];constructor
  ·rintro(rfl | ⟨j,hj,e⟩)
   ·exact⟨S.length,by simp,ixL⟩
   ·exact⟨j,by simp;omega,by rw[ixA hj];exact e⟩
  ·rintro⟨j,hj,e⟩;simp only[List.length_append,List.length_singleton] at hj;by_cases hjS:j<S.length
   ·rw[ixA hjS] at e;exact .inr ⟨j,hjS,e⟩
   ·rw[ixL' ω] at e;exact .inl e.symm
 ·simp only[List.length_append,List.length_singleton] at hj;rw[J6T];by_cases hjS:j<S.length
  ·rw[ixA hjS,if_neg (fun e=>hn ((h.has q).2 ⟨j,hjS,e⟩))];obtain⟨j',e1,h1,h2⟩:=h.get j hjS;exact⟨j',e1,by simp;omega,by rw[ixA h1];exact h2⟩
  ·have e:j=S.length:=ω;subst e;rw[ixL,if_pos rfl];exact⟨S.length,rfl,by simp,ixL⟩
def PlaceI (n c:Nat) (pl:List Int):Prop:=pl.length=n∧∀q:Nat,q<n→-1≤ix pl q∧ix pl q<c
theorem PlaceI.set {n c:Nat} {pl:List Int} (h:PlaceI n c pl) {q v:Int} (h0:0≤q) (h1:q<n) (hv0:-1≤v) (hv1:v<c):PlaceI n c (Sg.st pl q v):=by
 refine⟨by simp[h.1],fun p hp=>?_⟩;rw[ix_st _ h0 (by rw[h.1];exact h1) ω]
 split
 ·exact⟨hv0,hv1⟩
 ·exact h.2 p hp
end
section
variable {d:DFA} {k:Nat}
theorem Jac {Nx:List (List Int)} {Fn:List Bool} {S:List Int} {K:DFA→List Int→Prop} {pl:List Int} (hS:∀j:Nat,j<S.length→0≤ix S j∧ix S j<d.Final.length) (hp:PlaceI d.Final.length S.length pl)
  (h:∀pl,PlaceI d.Final.length S.length pl→K ⟨d.Letters,0,Fn,Nx⟩ pl):LoopWP (S:=Nat×List Int) (fun s X=>J7R d Nx Fn S K (fun a b=>X (a,b)) s.1 s.2) (0,pl):=by
 refine LoopWP.to S.length (fun s=>s.1) (fun s=>s.1≤S.length∧PlaceI d.Final.length S.length s.2) ⟨Nat.zero_le _,hp⟩ (fun s h=>h.1) ?_;rintro⟨a,pl⟩ X ⟨ha,hpl⟩ hX
 try dsimp only at ha hpl ⊢
 unfold J7R
 split
 ·rename_i hlt;have:=hS a ω;have hl:=hpl.1;exact⟨ω,hlt,this.1,ω,hX (a+1,_) ⟨by dsimp only;omega,hpl.set this.1 this.2 ω ω⟩ rfl⟩
 ·exact h pl hpl
theorem Jae {Nx:List (List Int)} {Fn:List Bool} {S:List Int} {K:DFA→List Int→Prop} (hd:d.Final.length≤512) (hS:∀j:Nat,j<S.length→0≤ix S j∧ix S j<d.Final.length)
  (h:∀pl,PlaceI d.Final.length S.length pl→K ⟨d.Letters,0,Fn,Nx⟩ pl):LoopWP (S:=Nat×List Int) (fun s X=>J8j d Nx Fn S K (fun a b=>X (a,b)) s.1 s.2) (0,List.replicate d.Final.length (0:Int)):=by
 refine LoopWP.to d.Final.length (fun s=>s.1) (fun s=>s.1≤d.Final.length∧s.2.length=d.Final.length∧∀q:Nat,q<s.1→ix s.2 q=-1) ⟨Nat.zero_le _,by simp,fun q hq=>by simp at hq⟩ (fun s h=>h.1) ?_;rintro⟨a,pl⟩ X ⟨ha,hl,hpl⟩ hX
 try dsimp only at ha hl hpl ⊢
 unfold J8j;rw[List.length_replicate]
 split
 ·rename_i hlt;refine⟨ω,ω,⟨ω,ω⟩,hX (a+1,_) ⟨by dsimp only;omega,by simp[hl],fun q hq=>?_⟩ rfl⟩;dsimp only at hq ⊢;rw[ix_st _ ω ω ω]
  split
  ·rfl
  ·exact hpl q ω
 ·exact Jac hS ⟨hl,fun q hq=>by rw[hpl q ω];omega⟩ h
theorem J8h (D:Da d) (hk:(k:Int)=d.Letters) {K:DFA→List Int→Prop} (h:∀t pl W,Can k (rho d) (acc d) t W→PlaceI d.Final.length W.length pl→K t pl):J6k d K:=by
 have h1:=D.l1;have h6:=D.l6;have hk9:k<159:=ω;have f2:=D.f2;have hnx:=D.nx;unfold J6k;refine J1U ?_;rw[if_pos (daC0.2 (J43.2 D))];refine⟨by simp,?_⟩;refine LoopWP.to d.Final.length (fun s=>s.1) (fun s=>∃W,YI d k s.1 W s.2.2.2.1∧RowsOk d k s.1 W s.2.1 s.2.2.1∧Nms s.2.2.2.1 s.2.2.2.2) ⟨[[]],YI.start D,RowsOk.start,Nms.start _⟩ (fun s ⟨W,hy,_⟩=>Nat.le_trans hy.il hy.few) ?_;rintro⟨i,Nx,Fn,S,m⟩ X ⟨W,hy,hr,hm⟩ hX
 try dsimp only at hy hr hm ⊢
 have hsl:=hy.sl;have hfew:=hy.few;unfold J9L
 split
 ·rename_i hlt;have hi:i<W.length:=ω;refine⟨ω,hlt,ω,ω,?_⟩;have hkn:d.Letters.toNat=k:=ω;refine LoopWP.to k (fun s=>s.1) (fun s=>s.1≤k∧s.2.1.length=k∧∃V,XI d k i s.1 V s.2.2.1∧RowsOk d k i V Nx Fn∧RowI d k i s.1 V s.2.1∧Nms s.2.2.1 s.2.2.2∧∀j:Nat,j<W.length→j<V.length∧ix s.2.2.1 j=ix S j) ⟨Nat.zero_le _,by simp[hkn],W,hy.at_ hi,hr,fun y hy=>by simp at hy,hm,fun j hj=>⟨hj,rfl⟩⟩ (fun s h=>h.1) ?_;rintro⟨x,row,S2,m2⟩ X2 ⟨hx,hrl,V,hxi,hrv,hri,hm2,hpre⟩ hX2
  try dsimp only at hx hrl hxi hrv hri hm2 hpre ⊢
  have hV:=hxi.few D hk;have hiV:=hxi.il;have hsV:=hxi.sl;have eS:ix S (i:Int)=rho d (ix W i):=hy.st i hi;have hSin:=(hy.at_ hi).in_ D hk hi
  have eW:rho d (ix W i)=rho d (ix V i):=by
   have e1:=hxi.st i hiV;rw[←eS,←e1];exact(hpre i hi).2.symm
  unfold Ja2;rw[List.length_replicate,hkn]
  split
  ·rename_i hxk;have hxk':x<k:=ω;have hat:=D.at_ (q:=ix S i) (x:=x) hSin.1 hSin.2 ω ω
   have enx:ix (ix d.Next (ix S i)) (x:Int)=rho d (ix V i++[lt x]):=by
    rw[←hxi.next_ ω,hxi.st i hiV,eS,eW]
   rw[enx];refine⟨hSin.1,ω,ω,ω,?_⟩
   split
   ·rename_i hmh;obtain⟨j,hj,ej⟩:=(hm2.has _).1 hmh;obtain⟨j',e1,hj',e2⟩:=hm2.get j hj;rw[ej] at e1 e2;refine⟨ω,ω,⟨ω,ω⟩,hX2 (x+1,_) ⟨by dsimp only;omega,by simp[hrl],V,hxi.known hk9 hxk' (j:=j) ω ej,hrv,fun y hy=>?_,hm2,hpre⟩ rfl⟩;dsimp only;rw[e1,ix_st _ ω ω ω];by_cases hyx:y=x
    ·subst hyx;rw[if_pos rfl];exact⟨j',rfl,ω,(hxi.st j' ω).symm.trans e2⟩
    ·rw[if_neg ω];exact hri y ω
   ·rename_i hmh;have hn:∀j:Nat,j<V.length→ix S2 j≠rho d (ix V i++[lt x]):=fun j hj e=>hmh ((hm2.has _).2 ⟨j,ω,e⟩);have hnew:=hxi.new hk9 hxk' hn;refine⟨by simp;omega,ω,ω,⟨ω,ω⟩,hX2 (x+1,_) ⟨by dsimp only;omega,by simp[hrl],_,hnew,hrv.up ω _,fun y hy=>?_,hm2.new hmh,fun j hj=>⟨by have:=(hpre j hj).1;simp;omega,by dsimp only;have:=hpre j hj;rw[ixA ω];exact this.2⟩⟩ rfl⟩;dsimp only;rw[ix_st _ ω ω ω];by_cases hyx:y=x
    ·subst hyx;rw[if_pos rfl];exact⟨S2.length,rfl,by simp;omega,by rw[ixL' hsV,ixA hiV]⟩
    ·rw[if_neg ω];exact hri.up hiV _ y ω
  ·rename_i hxk;have hxk':x=k:=ω;subst hxk';have hyi:=hxi.yi hk9 D hk;rw[if_neg ω]
   have hfin:ix d.Final (ix S i)=acc d (ix V i):=by rw[eS,eW];rfl
   have hn:=hrv.nl;have hf:=hrv.fl;rw[hfin];exact⟨by simp;omega,hSin.1,hSin.2,by simp;omega,⟨ω,ω⟩,hX (i+1,_) ⟨V,hyi,hrv.push hrl hri,hm2⟩ rfl⟩
 ·rename_i hlt
  have hi:i=W.length:=by have:=hy.il;omega
  subst hi;have c:=hr.can (hy.al rfl) (l:=d.Letters) hk.symm
  have hS:∀j:Nat,j<S.length→0≤ix S j∧ix S j<d.Final.length:=fun j hj=>by
   rw[hy.st j ω];exact Jc9 D hk (c.cl.lw ω)
  have key:=Jae (d:=d) (Nx:=Nx) (Fn:=Fn) (S:=S) (K:=K) ω hS fun pl hpl=>h _ pl W c (by rw[hsl] at hpl;exact hpl);exact⟨fun _=>⟨ω,ω,key⟩,fun _=>⟨ω,ω,key⟩⟩
end
end Sg
namespace Sg
open Go
theorem JcL {x:Nat} (hx:x<31):byt [IntKind.u8.wrap ((97:Int)+(x:Int))]=[lt x]:=by
 have e:IntKind.u8.wrap ((97:Int)+(x:Int))=((97+x:Nat):Int):=by rw[IntKind.wrap_u8];omega
 rw[e];rfl
section
variable {d:DFA} {k i x:Nat} {W:List Str} {S:List Int}
end
end Sg
namespace Sg
open Go
section
variable {d:DFA} {k:Nat}
structure ClsI (d:DFA) (k:Nat) (p:List Int) (c:Nat):Prop where
 len:p.length=d.Final.length
 nmb:Nmb p c
 fin:FinK d p
 hol:Holds k d p
structure ClsOk (d:DFA) (k:Nat) (p:List Int):Prop where
 len:p.length=d.Final.length
 nmb:∃c,Nmb p c
 kp:Keeps k d p
 hol:Holds k d p
def keyC (d:DFA) (k:Nat) (p:List Int) (q:Nat):AN 7:=toAN 7 (ix p q::((List.range k).map fun (x:Nat)=>ix p (ix (ix d.Next q) (x:Int)))++List.replicate (6-k) 0)
theorem JcA {p:List Int} {q:Nat} (h6:k≤6):(ix p q::((List.range k).map fun (x:Nat)=>ix p (ix (ix d.Next q) (x:Int)))++List.replicate (6-k) 0).length=7:=by
 simp;omega
theorem JeZ (h6:k≤6) {p:List Int} {q q':Nat}:keyC d k p q=keyC d k p q'↔ix p q=ix p q'∧∀x:Nat,x<k→ix p (ix (ix d.Next q) x)=ix p (ix (ix d.Next q') x):=by
 constructor
 ·intro h;have e:=Jei (JcA h6) (JcA h6) h;simp only[List.cons_append,List.cons.injEq] at e;refine⟨e.1,fun x hx=>?_⟩;have e2:=congrArg (fun l:List Int=>l[x]?) e.2;simpa [List.getElem?_append,hx] using e2
 ·rintro⟨h1,h2⟩;unfold keyC;rw[h1]
  congr 3
  apply List.map_congr_left;intro x hx;exact h2 x (by simpa using hx)
theorem Jbn {p r:List Int} {m:List (AN 7×Int)} (h6:k≤6) (hl:p.length=d.Final.length) (h:NumI (keyC d k p) d.Final.length r m):SplitBy k d p r:=fun q q' hq hq'=>by
 rw[h.eq ω ω]
 exact JeZ h6
theorem Je7 {l:List Int} {x:Nat} {v:Int} (hl:l.length=7) (hx:x<6) {p:List Int} {q:Nat} (h:l=ix p q::((List.range x).map fun (x:Nat)=>ix p (ix (ix d.Next q) (x:Int)))++List.replicate (6-x) 0) (hv:v=ix p (ix (ix d.Next q) (x:Int))) :
    st l ((1:Int)+(x:Int)) v=ix p q::((List.range (x+1)).map fun (x:Nat)=>ix p (ix (ix d.Next q) (x:Int)))++List.replicate (6-(x+1)) 0:=by
  apply List.ext_getElem?;intro j;have e:((1:Int)+(x:Int)).toNat=x+1:=ω;rw[st,e,List.getElem?_set];by_cases hj:x+1=j
  · subst hj;rw[if_pos rfl,if_pos ω,hv];simp[List.getElem?_append]
  · rw[if_neg hj,h]
    cases j with
    | zero=>simp
    | succ j =>
      simp only[List.cons_append,List.getElem?_cons_succ,List.getElem?_append,List.length_map,List.length_range];by_cases h1:j<x
      · rw[if_pos h1,if_pos ω];simp[h1,show j<x+1 by omega]
      · rw[if_neg h1,if_neg ω];simp only[List.getElem?_replicate];by_cases h2:j<6
        · rw[if_pos ω,if_pos ω]
        · rw[if_neg ω,if_neg ω]
theorem J6I (D:Da d) (hk:(k:Int)=d.Letters) {p:List Int} {c:Nat} (hp:ClsI d k p c) {q:Nat} (hq:q<d.Final.length) {r:List Int} {m:List (AN 7×Int)} (hrl:r.length=d.Final.length) (hn:NumI (keyC d k p) q (r.take q) m) {X:Nat→List Int→List (AN 7×Int)→Prop} {K:List Int→Prop}
  (h:∀r m,r.length=d.Final.length→NumI (keyC d k p) (q+1) (r.take (q+1)) m→X (q+1) r m) :
  LoopWP (S:=Nat×List Int) (fun s Y=>J2s d p q r m X K (fun a b=>Y (a,b)) s.1 s.2) (0,[ix p q,0,0,0,0,0,0]):=by
 have h1:=D.l1;have h6:=D.l6;have hnx:=D.nx;have hrow:=D.row q ω;refine LoopWP.to k (fun s=>s.1) (fun s=>s.1≤k∧s.2.length=7∧s.2=ix p q::((List.range s.1).map fun (x:Nat)=>ix p (ix (ix d.Next q) (x:Int)))++List.replicate (6-s.1) 0) ⟨Nat.zero_le _,rfl,rfl⟩ (fun s h=>h.1) ?_;rintro⟨x,l⟩ Y ⟨hx,hl,hI⟩ hY
 try dsimp only at hx hl hI ⊢
 unfold J2s
 split
 ·rename_i hlt;have hxk:x<k:=ω;have hat:=D.at_ (q:=q) (x:=x) ω ω ω ω;have hpl:=hp.len;exact⟨ω,hlt,⟨ω,ω⟩,hat.2.1,ω,hl,ω,ω,hY (x+1,_) ⟨by dsimp only;omega,by simp[hl],Je7 hl ω hI rfl⟩ rfl⟩
 ·rename_i hlt;have hxk:x=k:=ω;subst hxk
  have ek:toAN 7 l=keyC d x p q:=by rw[hI];rfl
  rw[ek];refine⟨hl,?_⟩;have tk:∀v:Int,(st r (q:Int) v).take (q+1)=r.take q++[v]:=fun v=>Jf3 ω
  split
  ·rename_i hm;exact⟨ω,ω,h _ _ (by simp[hrl]) (by rw[tk];exact hn.old hm)⟩
  ·rename_i hm;exact⟨hl,ω,ω,h _ _ (by simp[hrl]) (by rw[tk];exact hn.new hm)⟩
theorem J3j (D:Da d) (hk:(k:Int)=d.Letters) {K:List Int→Prop} (h:∀p,ClsOk d k p→K p) {p:List Int} {c:Nat} (hp:ClsI d k p c) :
  LoopWP (S:=List Int×Int) (fun s X=>J2B d K (fun a b=>X (a,b)) s.1 s.2) (p,(c:Int)):=by
 have h1:=D.l1;have h6:=D.l6;have f2:=D.f2;have hnx:=D.nx;refine LoopWP.intro (fun s=>∃c:Nat,s.2=(c:Int)∧ClsI d k s.1 c) (fun s=>d.Final.length-s.2.toNat) ⟨c,rfl,hp⟩ ?_;rintro⟨p,c'⟩ X ⟨c,hc,hp⟩ hX
 try dsimp only at hc hp ⊢
 subst hc;have hpl:=hp.len;have hcn:=hp.nmb.le;unfold J2B;refine fun _=>⟨ω,ω,fun _=>?_⟩;refine LoopWP.to d.Final.length (fun s=>s.1) (fun s=>s.1≤d.Final.length∧s.2.1.length=d.Final.length∧NumI (keyC d k p) s.1 (s.2.1.take s.1) s.2.2) ⟨Nat.zero_le _,by simp[hpl],NumI.start⟩ (fun s h=>h.1) ?_;rintro⟨q,r,m⟩ X2 ⟨hq,hrl,hn⟩ hX2
 try dsimp only at hq hrl hn ⊢
 unfold J4X
 split
 ·rename_i hlt;have hq':q<d.Final.length:=ω;exact⟨ω,hlt,ω,ω,rfl,fun _=>J6I D hk hp hq' hrl hn fun r m h1 h2=>hX2 (q+1,r,m) ⟨hq',h1,h2⟩ rfl⟩
 ·rename_i hlt;have:q=d.Final.length:=ω;subst this;rw[List.take_of_length_le ω] at hn;have hs:=Jbn ω hpl hn;have hpr:p.length=r.length:=ω;have hfin:=hs.fin hpr hp.fin;have hhol:=hs.holds hpr D hk hpl hp.hol
  split
  ·rename_i e;have e:m.length=c:=ω;exact h r ⟨hrl,⟨_,hn.nmb⟩,hs.keeps hpr D hk hpl hp.fin hp.nmb (by rw[←e];exact hn.nmb),hhol⟩
  ·rename_i e;have:=hp.nmb.finer hn.nmb hpr (hs.fin2 hpr);have hmn:=hn.nmb.le;exact hX (r,(m.length:Int)) ⟨m.length,rfl,hrl,hn.nmb,hfin,hhol⟩ (by dsimp only;omega)
theorem Jba (D:Da d) {p:List Int} {c:Nat} (hl:p.length=d.Final.length) (hp:∀q:Nat,q<d.Final.length→ix p q=if ix d.Final q=ix d.Final 0 then 0 else 1) (hc:c=if (∃q:Nat,q<d.Final.length∧ix d.Final q≠ix d.Final 0) then 2 else 1):ClsI d k p c:=by
 have f1:=D.f1
 have h00:ix p ((0:Nat):Int)=0:=by rw[hp 0 ω];exact if_pos rfl
 have hfin:FinK d p:=fun q q' hq hq' e=>by
  rw[hp q ω,hp q' ω] at e;by_cases h1:ix d.Final q=ix d.Final 0<;>by_cases h2:ix d.Final q'=ix d.Final 0
  ·rw[h1,h2]
  ·rw[if_pos h1,if_neg h2] at e;omega
  ·rw[if_neg h1,if_pos h2] at e;omega
  ·revert h1 h2
   cases ix d.Final (q:Int)<;>cases ix d.Final (q':Int)<;>cases ix d.Final 0<;>simp
 refine⟨hl,⟨fun q hq=>?_,fun a ha=>?_,fun q a hq ha=>?_⟩,hfin,fun q q' hq hq' e=>?_⟩
 ·rw[hp q ω]
  split
  ·exact⟨0,rfl,by rw[hc];split<;>omega⟩
  ·rename_i hne;exact⟨1,rfl,by rw[hc,if_pos ⟨q,ω,hne⟩];omega⟩
 ·by_cases ha0:a=0
  ·subst ha0;exact⟨0,ω,h00⟩
  ·by_cases hx:∃q:Nat,q<d.Final.length∧ix d.Final q≠ix d.Final 0
   ·rw[if_pos hx] at hc;obtain⟨q,h1,h2⟩:=hx;refine⟨q,ω,?_⟩;rw[hp q h1,if_neg h2];omega
   ·rw[if_neg hx] at hc;omega
 ·rw[hp q ω] at ha
  split at ha
  ·omega
  ·rename_i hne
   have h0q:0<q:=by
    rcases Nat.eq_zero_or_pos q with h0 | h0
    ·subst h0;exact absurd rfl hne
    ·exact h0
   have ha0:a=0:=ω;subst ha0;exact⟨0,h0q,h00⟩
 ·have:=congrFun e ⟨[],LW.nil k⟩;simp only[beh,JcS] at this;rw[hp q ω,hp q' ω,this]
theorem J8g (D:Da d) (hk:(k:Int)=d.Letters) {K:List Int→Prop} (h:∀p,ClsOk d k p→K p):J1v d K:=by
 have f1:=D.f1;have f2:=D.f2;unfold J1v;refine J1U ?_;rw[if_pos (daC0.2 (J43.2 D))];refine fun _=>⟨ω,ω,?_⟩;refine LoopWP.to d.Final.length (fun s=>s.2.1) (fun s=>s.2.1≤d.Final.length∧s.2.2.length=d.Final.length∧(∀q:Nat,q<d.Final.length→ix s.2.2 q=if q<s.2.1∧ix d.Final q≠ix d.Final 0 then 1 else 0)∧s.1=(if (∃q:Nat,q<s.2.1∧ix d.Final q≠ix d.Final 0) then 2 else 1:Int)) ⟨Nat.zero_le _,by simp,fun q hq=>?_,?_⟩ (fun s h=>h.1) ?_
 ·rw[J0c _ _ hq];simp
 ·rw[if_neg];rintro⟨q,hq,_⟩;simp at hq
 rintro⟨c,a,p⟩ X ⟨ha,hl,hp,hc⟩ hX
 try dsimp only at ha hl hp hc ⊢
 unfold J4T
 split
 ·rename_i hlt;have halt:a<d.Final.length:=ω
  have old:ix d.Final a=ix d.Final 0→X (c,a+1,p):=fun e=>hX (c,a+1,p) ⟨halt,hl,fun q hq=>by
   rw[hp q hq];by_cases hqa:q=a
   ·subst hqa;rw[if_neg (by simp[e]),if_neg (by simp[e])]
   ·by_cases hq2:q<a∧ix d.Final q≠ix d.Final 0
    ·rw[if_pos hq2,if_pos ⟨by dsimp only;omega,hq2.2⟩]
    ·rw[if_neg hq2,if_neg (fun hh=>hq2 ⟨by have:=hh.1;dsimp only at this;omega,hh.2⟩)],by
   dsimp only;rw[hc];by_cases hx:∃q:Nat,q<a∧ix d.Final q≠ix d.Final 0
   ·rw[if_pos hx,if_pos (by obtain⟨q,h1,h2⟩:=hx;exact⟨q,ω,h2⟩)]
   ·rw[if_neg hx,if_neg (by
     rintro⟨q,h1,h2⟩;by_cases hqa:q=a
     ·subst hqa;exact h2 e
     ·exact hx ⟨q,ω,h2⟩)]⟩ rfl
  have new:ix d.Final a≠ix d.Final 0→X (2,a+1,st p (a:Int) 1):=fun e=>hX (2,a+1,_) ⟨halt,by simp[hl],fun q hq=>by
   dsimp only;rw[ix_st _ ω ω ω];by_cases hqa:q=a
   ·subst hqa;rw[if_pos rfl,if_pos ⟨ω,e⟩]
   ·rw[if_neg ω,hp q hq];by_cases hq2:q<a∧ix d.Final q≠ix d.Final 0
    ·rw[if_pos hq2,if_pos ⟨ω,hq2.2⟩]
    ·rw[if_neg hq2,if_neg (fun hh=>hq2 ⟨ω,hh.2⟩)],by
   dsimp only
   rw[if_pos ⟨a,ω,e⟩]⟩ rfl
  refine⟨ω,ω,?_⟩
  split
  ·rename_i ht;refine⟨ω,ω,?_⟩
   split
   ·rename_i h0;exact old (by rw[ht,h0])
   ·rename_i h0;exact⟨ω,ω,new (by rw[ht];exact fun hh=>h0 hh.symm)⟩
  ·rename_i ht;refine⟨ω,ω,?_⟩
   split
   ·rename_i h0;exact⟨ω,ω,new (by rw[h0];exact ht)⟩
   ·rename_i h0;exact old (by rw[Bool.eq_false_iff.2 ht,Bool.eq_false_iff.2 h0])
 ·rename_i hlt;have hae:a=d.Final.length:=ω;subst hae
  have hp':∀q:Nat,q<d.Final.length→ix p q=if ix d.Final q=ix d.Final 0 then 0 else 1:=fun q hq=>by
   rw[hp q hq];by_cases e:ix d.Final q=ix d.Final 0
   ·rw[if_pos e,if_neg (fun hh=>hh.2 e)]
   ·rw[if_neg e,if_pos ⟨hq,e⟩]
  by_cases hx:∃q:Nat,q<d.Final.length∧ix d.Final q≠ix d.Final 0
  ·rw[if_pos hx] at hc;subst hc;exact J3j D hk h (c:=2) (Jba D hl hp' (by rw[if_pos hx]))
  ·rw[if_neg hx] at hc;subst hc;exact J3j D hk h (c:=1) (Jba D hl hp' (by rw[if_neg hx]))
end
section
variable {d:DFA} {k:Nat}
end
end Sg
namespace Sg
open Go
section
variable {d:DFA} {k:Nat} {p:List Int}
structure QuoI (d:DFA) (k:Nat) (p:List Int) (q:Nat) (Nx:List (List Int)) (Fn:List Bool):Prop where
 nl:Nx.length=Fn.length
 rg:∀j:Nat,j<q→ix p j<Fn.length
 on:∀a:Nat,a<Fn.length→∃j:Nat,j<q∧ix p j=a∧ix Fn a=ix d.Final j∧(ix Nx a).length=k∧∀x:Nat,x<k→ix (ix Nx a) x=ix p (ix (ix d.Next j) x)
variable {q:Nat} {Nx:List (List Int)} {Fn:List Bool} {row:List Int}
theorem QuoI.start:QuoI d k p 0 [] []:=⟨rfl,fun j h=>by omega,fun a h=>by simp at h⟩
theorem QuoI.skip (h:QuoI d k p q Nx Fn) (hq:ix p q<Fn.length):QuoI d k p (q+1) Nx Fn:=
 ⟨h.nl, fun j hj => by
  by_cases e:j=q
  ·subst e;exact hq
  ·exact h.rg j ω,fun a ha=>by
  obtain⟨j,h1,h2⟩:=h.on a ha
  exact⟨j,ω,h2⟩⟩
theorem QuoI.next (h:QuoI d k p q Nx Fn) {c:Nat} (hp:Nmb p c) (hq:q<p.length) (hn:¬ix p q<Fn.length):ix p q=Fn.length:=by
 obtain⟨a,ea,ha⟩:=hp.rg q hq
 rcases Nat.lt_or_ge Fn.length a with hlt | hge
 ·obtain⟨j,hj,e⟩:=hp.fst q Fn.length hq ω;have:=h.rg j hj;omega
 ·omega
theorem QuoI.push (h:QuoI d k p q Nx Fn) (e:ix p q=Fn.length) (hl:row.length=k) (hr:∀x:Nat,x<k→ix row x=ix p (ix (ix d.Next q) x)):QuoI d k p (q+1) (Nx++[row]) (Fn++[ix d.Final q]):=by
 have hn:=h.nl;refine⟨by simp[hn],fun j hj=>?_,fun a ha=>?_⟩
 ·by_cases hjq:j=q
  ·subst hjq;rw[e];simp;omega
  ·have:=h.rg j ω;simp;omega
 ·simp only[List.length_append,List.length_singleton] at ha;by_cases haF:a<Fn.length
  ·obtain⟨j,h1,h2,h3,h4,h5⟩:=h.on a haF;refine⟨j,ω,h2,by rw[ixA haF];exact h3,by rw[ixA ω];exact h4,fun x hx=>by rw[ixA ω];exact h5 x hx⟩
  ·have:a=Fn.length:=ω;subst this;exact⟨q,ω,e,by rw[ixL],by rw[ixL' ω];exact hl,fun x hx=>by rw[ixL' ω];exact hr x hx⟩
theorem QuoI.quo (h:QuoI d k p p.length Nx Fn) {c:Nat} (hp:Nmb p c) {l s:Int} (hl:l=k) (hs:s=ix p d.Start):Quo k d p ⟨l,s,Fn,Nx⟩:=
 ⟨hl, hs, h.nl, fun q hq => by
  obtain⟨a,e,ha⟩:=hp.rg q hq
  have:=h.rg q hq
  exact⟨a,e,by show a<Fn.length;omega⟩,fun a ha=>by
  obtain⟨j,h1,h2⟩:=h.on a ha
  exact⟨j,h1,h2⟩⟩
theorem QuoI.few (h:QuoI d k p q Nx Fn) (hq:q≤p.length):Fn.length≤p.length:=by
 apply Classical.byContradiction;intro hc
 have rep:∀a:Nat,∃j:Nat,a<Fn.length→j<q∧ix p j=a:=fun a=>by
  by_cases ha:a<Fn.length
  ·obtain⟨j,h1,h2,_⟩:=h.on a ha;exact⟨j,fun _=>⟨h1,h2⟩⟩
  ·exact⟨0,fun h=>absurd h ha⟩
 obtain⟨f,hf⟩:=Classical.axiomOfChoice rep
 obtain⟨a,b,h1,h2,e⟩:=pigeon p.length (fun m=>(f m:Int)) fun m hm=>by have:=(hf m ω).1;omega
 have ea:=(hf a ω).2;have eb:=(hf b ω).2
 have:f a=f b:=by have e:(f a:Int)=(f b:Int):=e;omega
 rw[this] at ea;omega
theorem JcM {Q m:DFA} {W:List Str} (D:Da d) (hk:(k:Int)=d.Letters) (hc:ClsOk d k p) (hQ:Quo k d p Q) (c:Can k (rho Q) (acc Q) m W):Can k (nero d k) (acc d) m W:=
 hQ.can hc.kp hc.hol D hk hc.len c
theorem Jbz {t m:DFA} {V W:List Str} (D:Da d) (hk:(k:Int)=d.Letters) (c:Can k (rho d) (acc d) t V) (h:Can k (nero t k) (acc t) m W):Can k (nero d k) (acc d) m W:=
 Can.trim D hk (by have:=D.l6;omega) c h
end
section
variable {d:DFA} {k:Nat}
theorem Jeu (D:Da d) (hk:(k:Int)=d.Letters) {t:DFA} {W:List Str} (c:Can k (rho d) (acc d) t W):Da t:=
 c.da (by have:=D.l1;omega) (by have:=D.l6;omega) (by have:=c.cl.few D hk;have:=D.f2;omega)
theorem J7T (D:Da d) (hk:(k:Int)=d.Letters) {K:DFA→List Int→Prop} (h:∀m W s,Can k (nero d k) (acc d) m W→K m s):J1s d K:=by
 have h1:=D.l1;have h6:=D.l6;have f2:=D.f2;unfold J1s;refine J8h D hk fun t pl V ct hpl=>?_;have Dt:=Jeu D hk ct;have hkt:(k:Int)=t.Letters:=ct.le.symm;have f2t:=Dt.f2;have nxt:=Dt.nx;refine J8g Dt hkt fun p hp=>?_;obtain⟨c,hpc⟩:=hp.nmb;have hplen:=hp.len;have hVf:V.length=t.Final.length:=ct.fl.symm;refine fun _=>?_;refine LoopWP.to p.length (fun s=>s.1) (fun s=>s.1≤p.length∧QuoI t k p s.1 s.2.1 s.2.2) ⟨Nat.zero_le _,QuoI.start⟩ (fun s h=>h.1) ?_;rintro⟨q,Nx,Fn⟩ X ⟨hq,hI⟩ hX
 try dsimp only at hq hI ⊢
 have hfew:=hI.few hq;have hnl:=hI.nl;unfold J4u
 split
 ·rename_i hlt;have hq':q<p.length:=ω;refine⟨ω,hlt,?_⟩
  split
  ·rename_i hc2;exact hX (q+1,_) ⟨by dsimp only;omega,hI.skip hc2⟩ rfl
  ·rename_i hc2;have e:=hI.next hpc hq' hc2;have hrow:=Dt.row q ω;refine⟨ω,ω,ω,ω,fun _=>?_⟩;have hkn:d.Letters.toNat=k:=ω;refine LoopWP.to k (fun s=>s.1) (fun s=>s.1≤k∧s.2.length=k∧∀x:Nat,x<s.1→ix s.2 x=ix p (ix (ix t.Next q) x)) ⟨Nat.zero_le _,by simp[hkn],fun x hx=>by simp at hx⟩ (fun s h=>h.1) ?_;rintro⟨x,row⟩ X2 ⟨hx,hrl,hri⟩ hX2
   try dsimp only at hx hrl hri ⊢
   unfold J4V
   split
   ·rename_i hxk;have hat:=Dt.at_ (q:=q) (x:=x) ω ω ω ω;refine⟨ω,hxk,hat.2.1,ω,ω,ω,hX2 (x+1,_) ⟨by dsimp only;omega,by simp[hrl],fun y hy=>?_⟩ rfl⟩;dsimp only at hy ⊢;rw[ix_st _ ω ω ω];by_cases hyx:y=x
    ·subst hyx;rw[if_pos rfl]
    ·rw[if_neg ω];exact hri y ω
   ·rename_i hxk;have:x=k:=ω;subst this;exact⟨ω,ω,by simp;omega,by simp;omega,hX (q+1,_) ⟨by dsimp only;omega,hI.push e hrl hri⟩ rfl⟩
 ·rename_i hlt;have:q=p.length:=ω;subst this;have s0:t.Start=0:=ct.st
  have hp0:ix p t.Start=0:=by
   rw[s0];obtain⟨a,ea,ha⟩:=hpc.rg 0 (by have:=Dt.f1;omega)
   rcases Nat.eq_zero_or_pos a with h0 | h0
   ·subst h0;exact ea
   ·obtain⟨j,hj,_⟩:=hpc.fst 0 0 (by have:=Dt.f1;omega) ω;omega
  have hQ:Quo k t p ⟨d.Letters,0,Fn,Nx⟩:=hI.quo hpc ω hp0.symm;have DQ:=hQ.da Dt hkt hplen (by show Fn.length≤512;omega);refine J8h DQ hk fun m pm W cm hpm=>?_;have hmin:=Jbz D hk ct (JcM Dt hkt hp hQ cm);have hWF:=cm.cl.few DQ hk;have hpll:=hpl.1;refine fun _=>⟨ω,ω,?_⟩;refine LoopWP.to pl.length (fun s=>s.1) (fun s=>s.1≤pl.length∧s.2.length=pl.length) ⟨Nat.zero_le _,by simp⟩ (fun s h=>h.1) ?_;rintro⟨b,o⟩ X2 ⟨hb,hol⟩ hX2
  try dsimp only at hb hol ⊢
  unfold J4D
  split
  ·rename_i hlt2;refine⟨ω,hlt2,ω,ω,?_⟩
   split
   ·rename_i h0;have hb2:=hpl.2 b ω;obtain⟨a,ea,ha⟩:=hQ.rg (ix pl b).toNat ω;have e1:(((ix pl (b:Int)).toNat:Nat):Int)=ix pl b:=ω;rw[e1] at ea;have hpm1:=hpm.1;rw[ea];have ha:a<Fn.length:=ha;have hpm1:pm.length=Fn.length:=hpm1;exact⟨h0,ω,ω,ω,ω,by simp;omega,hX2 (b+1,_) ⟨by dsimp only;omega,by simp[hol]⟩ rfl⟩
   ·exact hX2 (b+1,_) ⟨by dsimp only;omega,by simp[hol]⟩ rfl
  ·exact h m W o hmin
theorem J2y (D:Da d) (hk:(k:Int)=d.Letters) {K:DFA→Prop} (h:∀m W,Can k (nero d k) (acc d) m W→K m):J0M d K:=by
 unfold J0M;refine J1U ?_;rw[if_pos (daC0.2 (J43.2 D))];exact J7T D hk fun m W s c=>h m W c
end
end Sg
namespace Sg
open Go
def MinOf (k:Nat) (d M:DFA):Prop:=∃W,Can k (nero d k) (acc d) M W
section
variable {k:Nat} {d M:DFA}
theorem Jea (d:DFA) (k:Nat):Sat k (nero d k) (acc d):=fun u v _ _ h=>by
 have:=J5z.1 h [] (LW.nil k)
 simpa [acc] using this
theorem MinOf.acc_ (h:MinOf k d M) (hk:k<159) {w:Str} (hw:LW k w):acc M w=acc d w:=by
 obtain⟨W,c⟩:=h;exact c.acc (J8Z d k) hk (Jea d k) hw
theorem MinOf.st (h:MinOf k d M):M.Start=0:=let ⟨_,c⟩:=h;c.st
theorem MinOf.le (h:MinOf k d M):M.Letters=k:=let ⟨_,c⟩:=h;c.le
theorem MinOf.pos (h:MinOf k d M):1≤M.Final.length:=by
 obtain⟨W,c⟩:=h;have:=c.cl.zero.2;rw[c.fl];omega
theorem MinOf.da (h:MinOf k d M) (h1:1≤k) (h6:k≤6) (hn:M.Final.length≤512):Da M:=by
 obtain⟨W,c⟩:=h;exact c.da h1 h6 (by rw[←c.fl];exact hn)
theorem MinOf.J2x (h:MinOf k d M) (hk:k<159) {u v:Str} (hu:LW k u) (hv:LW k v):(∀q:Nat,q<M.Final.length→rn M q u=rn M q v)↔syn (acc d) k u=syn (acc d) k v:=by
 have hacc:∀w,LW k w→ix M.Final (rn M 0 w)=acc d w:=fun w hw=>by
  have:=h.acc_ hk hw;rw[←this,acc,h.st]
 obtain⟨W,c⟩:=h;rw[Sg.J2x];constructor
 ·intro e x y hx hy;rw[←hacc _ (LW.app.2 ⟨LW.app.2 ⟨hx,hu⟩,hy⟩),←hacc _ (LW.app.2 ⟨LW.app.2 ⟨hx,hv⟩,hy⟩),J5s,J5s,J5s,J5s];obtain⟨j,e1,hj,_⟩:=c.run (J8Z d k) hk hx;rw[e1,e j (by rw[c.fl];exact hj)]
 ·intro e q hq
  have hq:q<W.length:=by rw[←c.fl];exact hq
  have lq:=c.cl.lw hq;obtain⟨j,e1,hj,r1⟩:=c.run (J8Z d k) hk lq;have:j=q:=c.cl.inj hj hq r1;subst this;obtain⟨a,ea,ha,ra⟩:=c.run (J8Z d k) hk (LW.app.2 ⟨lq,hu⟩);obtain⟨b,eb,hb,rb⟩:=c.run (J8Z d k) hk (LW.app.2 ⟨lq,hv⟩)
  have hab:a=b:=c.cl.inj ha hb (by
   rw[ra,rb,J5z];intro w hw
   exact e _ w lq hw)
  rw[J5s,e1] at ea eb;rw[ea,eb,hab]
end
def PN (Ms:List DFA):Nat:=(Ms.map fun M=>M.Final.length).sum
theorem JdN:PN []=0:=rfl
theorem Jdi (Ms:List DFA) (M:DFA):PN (Ms++[M])=PN Ms+M.Final.length:=by simp[PN]
theorem Jfg (a b:List DFA):PN (a++b)=PN a+PN b:=by simp[PN]
theorem Jdu {Ms:List DFA} {i:Nat} (hi:i<Ms.length):PN (Ms.take (i+1))=PN (Ms.take i)+(ix Ms (i:Int)).Final.length:=by rw[Ja7 hi,Jdi]
theorem PN_le {Ms:List DFA} {i:Nat} (hi:i<Ms.length):PN (Ms.take i)+(ix Ms (i:Int)).Final.length≤PN Ms:=by
 have h1:Ms=Ms.take (i+1)++Ms.drop (i+1):=(List.take_append_drop _ _).symm;have h2:PN Ms=PN (Ms.take (i+1))+PN (Ms.drop (i+1)):=(congrArg PN h1).trans (Jfg _ _);rw[h2,Jdu hi];omega
theorem Jcb:∀{Ms:List DFA} {p:Nat},p<PN Ms→∃i q,i<Ms.length∧q<(ix Ms (i:Int)).Final.length∧p=PN (Ms.take i)+q:=by
  intro Ms p h
  have key:∀i,i≤Ms.length→p<PN (Ms.take i)→∃i q,i<Ms.length∧q<(ix Ms (i:Int)).Final.length∧p=PN (Ms.take i)+q:=by
    intro i
    induction i with
    | zero=>intro _ h;simp[PN] at h
    | succ i ih =>
      intro hi hp;by_cases hlt:p<PN (Ms.take i)
      · exact ih ω hlt
      · rw[Jdu ω] at hp;exact⟨i,p-PN (Ms.take i),ω,ω,ω⟩
  exact key Ms.length (Nat.le_refl _) (by rw[List.take_length];exact h)
structure Uni (k:Nat) (Ms:List DFA) (gens:List (List Int)):Prop where
 gl:gens.length=k
 cl:∀x:Nat,x<k→(ix gens x).length=PN Ms
 at_:∀i q x:Nat,i<Ms.length→q<(ix Ms (i:Int)).Final.length→x<k→ix (ix gens (x:Int)) ((PN (Ms.take i)+q:Nat):Int)=(PN (Ms.take i):Int)+ix (ix (ix Ms (i:Int)).Next (q:Int)) (x:Int)
structure Mins (k:Nat) (ds Ms:List DFA):Prop where
 len:Ms.length=ds.length
 min:∀i:Nat,i<ds.length→MinOf k (ix ds (i:Int)) (ix Ms (i:Int))
def syJ (ds:List DFA) (k:Nat) (w:Str):Nat→{u:Str // LW k u}×{u:Str // LW k u}→Bool:=fun i=>if i<ds.length then syn (acc (ix ds (i:Int))) k w else fun _=>false
theorem Jd1 {ds:List DFA} {k:Nat} {u v:Str}:syJ ds k u=syJ ds k v↔∀i:Nat,i<ds.length→syn (acc (ix ds (i:Int))) k u=syn (acc (ix ds (i:Int))) k v:=by
 constructor
 ·intro h i hi;have:=congrFun h i;simpa [syJ,hi] using this
 ·intro h
  funext i
  by_cases hi:i<ds.length
  ·simp only[syJ,hi,if_true];exact h i hi
  ·simp only[syJ,hi,if_false]
theorem JcX (d:DFA) (k:Nat):Eqv k (syJ [d] k) (syn (acc d) k):=fun u v hu hv=>by
 rw[Jd1]
 constructor
 ·intro h;exact h 0 (by simp)
 ·intro h i hi
  have:i=0:=by simpa using hi
  subst this
  exact h
section
variable {k:Nat} {ds Ms:List DFA} {gens:List (List Int)}
theorem Uni.GV_ (h:Uni k Ms gens) (hm:Mins k ds Ms) (h1:1≤k) (h6:k≤6) (hd:1≤ds.length) (h32:PN Ms≤32):GV gens=true:=by
 have hgl:=h.gl;have hml:=hm.len;have e0:=h.cl 0 ω;rw[show ((0:Nat):Int)=0 from rfl] at e0
 have hpos:1≤PN Ms:=by
  have:=PN_le (Ms:=Ms) (i:=0) ω;have:=(hm.min 0 ω).pos;omega
 refine J0w.2 ⟨ω,ω,fun x hx=>⟨J2j.2 ⟨?_,?_,fun p hp=>?_⟩,?_⟩⟩
 ·rw[h.cl x ω];exact hpos
 ·rw[h.cl x ω];exact h32
 ·rw[h.cl x ω] at hp ⊢;obtain⟨i,q,hi,hq,rfl⟩:=Jcb hp;rw[h.at_ i q x hi hq ω];have hle:=PN_le hi;have M:=hm.min i ω;have Dm:=M.da h1 h6 ω;have:=(Dm.at_ (q:=q) (x:=x) ω ω ω (by rw[M.le];omega)).2;omega
 ·rw[h.cl x ω,e0]
theorem Uni.len (h:Uni k Ms gens) (h1:1≤k):(ix gens 0).length=PN Ms:=h.cl 0 ω
theorem Uni.vl_at (h:Uni k Ms gens) (hm:Mins k ds Ms) (hg:GV gens=true) (h1:1≤k) (h6:k≤6) (h32:PN Ms≤32) {i q:Nat} (hi:i<Ms.length) (hq:q<(ix Ms (i:Int)).Final.length) {w:Str} :
    LW k w→ix (vl gens w) ((PN (Ms.take i)+q:Nat):Int)=(PN (Ms.take i):Int)+rn (ix Ms (i:Int)) q w:=by
  have hgl:=h.gl;have hml:=hm.len;have hle:=PN_le hi;have M:=hm.min i ω;have Dm:=M.da h1 h6 ω;have hkl:(k:Int)=(ix Ms (i:Int)).Letters:=M.le.symm;have hl0:=h.len h1
  induction w using snocRec with
  | nil =>
    intro _;rw[Jbb,J89 ω,JcS];omega
  | snoc w b ih =>
    intro hw;obtain⟨hw1,hw2⟩:=LW.app.1 hw;obtain⟨x,hx,rfl⟩:=LW.letter ω hw2;have hok:=vl_ok hg (w:=w) (by rw[hgl];exact hw1)
    have e1:((lt x).toNat:Int)-97=x:=by rw[J0j ω];omega
    rw[J6x,e1,J3Q ω (by rw[hok.2];omega),ih hw1,J4G _ _ _ ω];have hin:=rn_lw Dm hkl hw1 (q:=q) ω ω;obtain⟨p,ep⟩:=Int.eq_ofNat_of_zero_le hin.1;rw[ep] at hin ⊢;have:=h.at_ i p x hi ω hx;rw[←this]
    congr 1
theorem Uni.eqv (h:Uni k Ms gens) (hm:Mins k ds Ms) (hg:GV gens=true) (h1:1≤k) (h6:k≤6) (h32:PN Ms≤32):Eqv k (vl gens) (syJ ds k):=fun u v hu hv=>by
 have hgl:=h.gl
 have hml:=hm.len
 have hl0:=h.len h1
 have hu':=vl_ok hg (w:=u) (by rw[hgl];exact hu)
 have hv':=vl_ok hg (w:=v) (by rw[hgl];exact hv)
 rw[Jd1]
 constructor
 ·intro e i hi
  refine((hm.min i hi).J2x ω hu hv).1 fun q hq=>?_
  have a:=h.vl_at hm hg h1 h6 h32 (i:=i) ω hq hu
  have b:=h.vl_at hm hg h1 h6 h32 (i:=i) ω hq hv
  rw[e] at a
  omega
 ·intro e
  refine J09 (by rw[hu'.2,hv'.2]) fun p hp=>?_
  rw[hu'.2,hl0] at hp
  obtain⟨i,q,hi,hq,rfl⟩:=Jcb hp
  rw[h.vl_at hm hg h1 h6 h32 hi hq hu,h.vl_at hm hg h1 h6 h32 hi hq hv,((hm.min i ω).J2x ω hu hv).2 (e i ω) q hq]
end
section
variable {gens:List (List Int)} {r:run}
theorem Fin.CL_ (hg:GV gens=true) (h:Fin gens true r):CL gens.length (vl gens) r.words (fun _=>True):=by
 have hr:=h.1.rlT hg;refine⟨hr.asc,fun w=>?_⟩;rw[hr.mem];constructor
 ·rintro⟨⟨⟨h1,_⟩,h2⟩,_⟩;exact⟨⟨h1,fun v hv=>h2 v ⟨hv,.inl rfl⟩⟩,trivial⟩
 ·rintro⟨⟨h1,h2⟩,_⟩;exact⟨⟨⟨h1,.inl rfl⟩,fun v hv=>h2 v hv.1⟩,trivial⟩
theorem Fin.w0 (hg:GV gens=true) (h:Fin gens true r):ix r.words 0=[]∧0<r.words.length:=(h.CL_ hg).zero
theorem Fin.from_ (hg:GV gens=true) (h:Fin gens true r) {i:Nat} (hi:i<r.words.length) (h0:0<i) :
  ∃p x:Nat,p<i∧ix r.Enum.Prefix i=(p:Int)∧x<gens.length∧ix r.words i=ix r.words p++[lt x]∧ix r.Enum.Last i=(x:Int):=by
 have hk6:=(J0w.1 hg).2.1;have hz:=h.w0 hg;have asc:=(h.CL_ hg).asc
 have hne:ix r.words i≠[]:=fun e=>by
  have:=J74 asc hi hz.2 (by rw[e];exact hz.1.symm);omega
 rcases h.1.si.at_ i hi with ⟨h1,_⟩ | ⟨p,b,h1,h2,h3,h4⟩
 ·exact absurd h1 hne
 ·have hw:=((h.CL_ hg).mem _).1 (J0f.2 ⟨i,hi,rfl⟩);have hw:=hw.1.1;rw[h1] at hw;obtain⟨x,hx,rfl⟩:=LW.letter ω (LW.app.1 hw).2;rw[J0j ω] at h2
  rcases h3 with ⟨_,e2,_⟩ | ⟨_,e2,e3,e4⟩
  ·cases e2
  ·obtain⟨q,hq⟩:=Int.eq_ofNat_of_zero_le e2;rw[hq] at e2 e3 e4;refine⟨q,x,?_,hq,hx,by rw[h1,e4],ω⟩;refine J60 asc ω hi ?_;rw[e4,h1];exact .inl (by simp)
theorem Fin.el (h:Fin gens true r):r.Enum.Elems.length=r.words.length:=h.1.si.elen
theorem Jeg {k:Nat} {α:Type} {ρ:Str→α} {W:List Str} (c:CL k ρ W (fun _=>True)) {i:Nat} (hi:i<W.length) (h0:0<i):∃w,LW k w∧w≠[]∧ρ w=ρ (ix W i):=
 ⟨ix W i, c.lw hi, fun e => by
  have hz:=c.zero
  have:=J74 c.asc hi hz.2 (by rw[e];exact hz.1.symm)
  omega,rfl⟩
theorem Jfh {k:Nat} (hg:GV gens=true) (hk:gens.length=k) (h:Fin gens true r) {l:Int} {T:List (List Int)} {im:List Int} {A P:List Bool} (hl:l=k)
  (t1:T.length=r.words.length) (t2:∀i:Nat,i<r.words.length→(ix T i).length=r.words.length)
  (t3:∀i j:Nat,i<r.words.length→j<r.words.length→∃m:Nat,ix (ix T i) j=m∧m<r.words.length∧vl gens (ix r.words m)=vl gens (ix r.words i++ix r.words j))
  (i1:im.length=k) (i2:∀x:Nat,x<k→∃m:Nat,ix im x=m∧m<r.words.length∧vl gens (ix r.words m)=vl gens [lt x])
  (p1:P.length=r.words.length) (p2:∀i:Nat,0<i→i<r.words.length→ix P i=true) (p3:ix P 0=true↔∃w,LW k w∧w≠[]∧vl gens w=vl gens []):Mon k (vl gens) ⟨l,T,r.words,im,A,P⟩:=by
 have c:=h.CL_ hg;rw[hk] at c;refine⟨c,hl,t1,t2,t3,i1,i2,p1,fun i hi=>?_⟩
 rcases Nat.eq_zero_or_pos i with h0 | h0
 ·subst h0;have hz:=c.zero
  show ix P 0=true↔_
  rw[p3]
  show _↔∃w,LW k w∧w≠[]∧vl gens w=vl gens (ix r.words ((0:Nat):Int))
  rw[show ((0:Nat):Int)=0 from rfl,hz.1]
 ·exact⟨fun _=>Jeg c hi h0,fun _=>p2 i h0 hi⟩
end
end Sg
namespace Sg
open Go
theorem slices_Contains_ok' {s:List Int} {v:Int} {K:Bool→Prop} (h:K (decide (v∈s))):J0U s v K:=by
 unfold J0U J2n;refine fun _=>LoopWP.scan s.length (fun j=>ix s j≠v) ?_;intro j X hj hI hX;unfold J4Y
 split
 ·rename_i hlt;refine⟨ω,hlt,?_⟩
  split
  ·rename_i e;dsimp only;rw[if_pos ω]
   have:v∈s:=by rw[e];exact J0S ω hlt
   rw[decide_eq_true this] at h;exact h
  ·rename_i e;exact hX ω (fun h2=>e h2.symm)
 ·dsimp only;rw[if_neg (by decide)]
  have:v∉s:=fun hm=>by
   obtain⟨i,hi,e⟩:=J0f.1 hm;exact hI i ω e
  rw[decide_eq_false this] at h;exact h
section
variable {gens:List (List Int)} {r:run}
def CellI (gens:List (List Int)) (r:run) (a j:Nat) (v:Int):Prop:=∃m:Nat,v=m∧m<r.words.length∧vl gens (ix r.words m)=vl gens (ix r.words a++ix r.words j)
def TabI (gens:List (List Int)) (r:run) (i:Nat) (T:List (List Int)):Prop:=T.length=r.words.length∧∀a:Nat,a<i→(ix T a).length=r.words.length∧∀j:Nat,j<r.words.length→CellI gens r a j (ix (ix T a) j)
def RowT (gens:List (List Int)) (r:run) (i j:Nat) (T:List (List Int)):Prop:=TabI gens r i T∧(ix T i).length=r.words.length∧∀y:Nat,y<j→CellI gens r i y (ix (ix T i) y)
theorem RowT.all {i:Nat} {T:List (List Int)} (h:RowT gens r i r.words.length T):TabI gens r (i+1) T:=
 ⟨h.1.1, fun a ha => by
  by_cases e:a=i
  ·subst e;exact h.2
  ·exact h.1.2 a ω⟩
theorem RowT.start {i:Nat} {T:List (List Int)} (hg:GV gens=true) (hF:Fin gens true r) (h:TabI gens r i T) (hi:i<r.words.length) :
  RowT gens r i 1 (st (st T (i:Int) (List.replicate r.Enum.Elems.length (0:Int))) (i:Int) (st (ix (st T (i:Int) (List.replicate r.Enum.Elems.length (0:Int))) (i:Int)) (0:Int) (i:Int))):=by
 have hl:=h.1;have hel:=hF.el;have hz:=hF.w0 hg;refine⟨⟨by simp[hl],fun a ha=>?_⟩,?_,fun y hy=>?_⟩
 ·rw[ix_st _ ω (by simp;omega) ω,if_neg ω,ix_st _ ω ω ω,if_neg ω];exact h.2 a ha
 ·rw[ix_st _ ω (by simp;omega) ω,if_pos rfl,ix_st _ ω ω ω,if_pos rfl];simp[hel]
 ·have:y=0:=ω;subst this
  have e:ix (st T (i:Int) (List.replicate r.Enum.Elems.length (0:Int))) (i:Int)=List.replicate r.Enum.Elems.length (0:Int):=by rw[ix_st _ ω ω ω,if_pos rfl]
  rw[ix_st _ ω (by simp;omega) ω,if_pos rfl,e,ix_st _ ω (by simp;omega) ω,if_pos ω];exact⟨i,rfl,hi,by rw[show ((0:Nat):Int)=0 from rfl,hz.1,List.append_nil]⟩
theorem RowT.look {i j:Nat} {T:List (List Int)} (hg:GV gens=true) (hF:Fin gens true r) (h:RowT gens r i j T) (hi:i<r.words.length) (hj:j<r.words.length) (h0:0<j) :
  0≤ix r.Enum.Prefix j∧ix r.Enum.Prefix j<r.words.length∧0≤ix (ix T i) (ix r.Enum.Prefix j)∧ix (ix T i) (ix r.Enum.Prefix j)<r.Enum.Right.length∧0≤ix r.Enum.Last j∧ix r.Enum.Last j<(ix r.Enum.Right (ix (ix T i) (ix r.Enum.Prefix j))).length∧CellI gens r i j (ix (ix r.Enum.Right (ix (ix T i) (ix r.Enum.Prefix j))) (ix r.Enum.Last j)):=by
 obtain⟨p,x,hp,e1,hx,e2,e3⟩:=hF.from_ hg hj h0;obtain⟨m,em,hm,rm⟩:=h.2.2 p hp;rw[e1,em,e3];obtain⟨r1,r2,r3,r4,r5⟩:=hF.1.J8l (q:=(m:Int)) (x:=x) ω ω hx rm;obtain⟨v,ev⟩:=Int.eq_ofNat_of_zero_le r3;refine⟨ω,ω,ω,r1,ω,ω,v,ev,ω,?_⟩;rw[ev] at r5;rw[r5,e2,List.append_assoc]
theorem RowT.step {i j:Nat} {T:List (List Int)} {v:Int} (h:RowT gens r i j T) (hi:i<r.words.length) (hj:j<r.words.length) (hv:CellI gens r i j v):RowT gens r i (j+1) (st T (i:Int) (st (ix T (i:Int)) (j:Int) v)):=by
 have hl:=h.1.1;have hr:=h.2.1;refine⟨⟨by simp[hl],fun a ha=>?_⟩,?_,fun y hy=>?_⟩
 ·rw[ix_st _ ω ω ω,if_neg ω];exact h.1.2 a ha
 ·rw[ix_st _ ω ω ω,if_pos rfl];simp[hr]
 ·rw[ix_st _ ω ω ω,if_pos rfl,ix_st _ ω ω ω];by_cases e:y=j
  ·subst e;rw[if_pos rfl];exact hv
  ·rw[if_neg ω];exact h.2.2 y ω
structure PlI (gens:List (List Int)) (r:run) (i:Nat) (pl:List Bool):Prop where
 len:pl.length=r.words.length
 pos:∀j:Nat,0<j→j<r.words.length→ix pl j=true
 zer:ix pl 0=true↔∃a x:Nat,a<i∧x<gens.length∧ix (ix r.Enum.Right a) x=0
theorem PlI.step {i:Nat} {pl:List Bool} (hF:Fin gens true r) (h:PlI gens r i pl) (hi:i<r.words.length) {b:Bool} (hb:b=(ix pl 0 || decide ((0:Int)∈ix r.Enum.Right (i:Int)))):PlI gens r (i+1) (st pl (0:Int) b):=by
 have hl:=h.len;refine⟨by simp[hl],fun j h0 hj=>?_,?_⟩
 ·rw[ix_st _ ω ω ω,if_neg ω];exact h.pos j h0 hj
 ·rw[ix_st _ ω ω ω,if_pos rfl,hb];simp only[Bool.or_eq_true,decide_eq_true_eq,h.zer];have hrow:=(hF.1.rt.2 i hi).1;constructor
  ·rintro(⟨a,x,h1,h2,h3⟩ | hm)
   ·exact⟨a,x,ω,h2,h3⟩
   ·obtain⟨x,hx,e⟩:=J0f.1 hm;exact⟨i,x,ω,ω,e⟩
  ·rintro⟨a,x,h1,h2,h3⟩;by_cases e:a=i
   ·subst e;refine .inr ?_;rw[←h3];exact J0S ω ω
   ·exact .inl ⟨a,x,ω,h2,h3⟩
theorem PlI.all {pl:List Bool} (hg:GV gens=true) (hF:Fin gens true r) (h:PlI gens r r.words.length pl):ix pl 0=true↔∃w,LW gens.length w∧w≠[]∧vl gens w=vl gens []:=by
 have hk6:=(J0w.1 hg).2.1;have c:=hF.CL_ hg;have hz:=c.zero;rw[h.zer];constructor
 ·rintro⟨a,x,ha,hx,e⟩;obtain⟨_,_,_,_,r5⟩:=hF.1.J8l (q:=(a:Int)) (x:=x) (w:=ix r.words a) ω ω hx rfl;rw[e,hz.1] at r5;exact⟨ix r.words a++[lt x],LW.app.2 ⟨c.lw ha,LW.lt hx ω⟩,by simp,r5.symm⟩
 ·rintro⟨w,hw,hne,e⟩;obtain⟨p,b,rfl⟩:=snocEx hne;obtain⟨hp,hb⟩:=LW.app.1 hw;obtain⟨x,hx,rfl⟩:=LW.letter ω hb;obtain⟨a,ha,ea⟩:=c.place hp;obtain⟨_,_,r3,r4,r5⟩:=hF.1.J8l (q:=(a:Int)) (x:=x) (w:=p) ω ω hx ea;refine⟨a,x,ha,hx,?_⟩;obtain⟨v,ev⟩:=Int.eq_ofNat_of_zero_le r3;rw[ev] at r4 r5 ⊢;have:v=0:=c.inj ω hz.2 (by rw[r5,e,show ((0:Nat):Int)=0 from rfl,hz.1]);omega
def WdI (r:run) (i:Nat) (w:List Str):Prop:=w.length=r.words.length∧∀j:Nat,j<i→ix w j=ix r.words j
theorem WdI.step {i:Nat} {w:List Str} (h:WdI r i w) (hi:i<r.words.length) {u:Str} (hu:u=ix r.words i):WdI r (i+1) (st w (i:Int) u):=by
 have hl:=h.1;refine⟨by simp[hl],fun j hj=>?_⟩;rw[ix_st _ ω ω ω];by_cases e:j=i
 ·subst e;rw[if_pos rfl];exact hu
 ·rw[if_neg ω];exact h.2 j ω
def LsI (P:List part) (r:run) (L:List (List Bool)) (a:Nat):Prop:=(ix L (a:Int)).length=r.words.length∧∀i:Nat,i<r.words.length→ix (ix L (a:Int)) i=ix (ix P (a:Int)).final (ix (ix r.Enum.Elems i) (ix P (a:Int)).start-(ix P (a:Int)).shift)
def PtI (P:List part) (r:run):Prop:=∀a i:Nat,a<P.length→i<r.words.length→0≤(ix P (a:Int)).start∧(ix P (a:Int)).start<(ix r.Enum.Elems i).length∧I64 (ix (ix r.Enum.Elems i) (ix P (a:Int)).start-(ix P (a:Int)).shift)∧0≤ix (ix r.Enum.Elems i) (ix P (a:Int)).start-(ix P (a:Int)).shift∧ix (ix r.Enum.Elems i) (ix P (a:Int)).start-(ix P (a:Int)).shift<(ix P (a:Int)).final.length
section
variable {M:DFA} {im:List Int} {K:Syntactic→Int→Prop}
theorem JbR (hg:GV gens=true) (hF:Fin gens true r) {i:Nat} {pl:List Bool} {T:List (List Int)} {X:Nat→List Bool→List (List Int)→Prop} (hi:i<r.words.length) (hT:RowT gens r i 1 T) (h:∀T,TabI gens r (i+1) T→X (i+1) (st pl (0:Int) true) T) :
  LoopWP (S:=Nat×List (List Int)) (fun s Y=>J4A r.Enum i pl X K (fun a b=>Y (a,b)) s.1 s.2) (1,T):=by
 have hel:=hF.el;have hpl:=hF.1.si.pl;have hll:=hF.1.si.ll;refine LoopWP.to r.words.length (fun s=>s.1) (fun s=>1≤s.1∧s.1≤r.words.length∧RowT gens r i s.1 s.2) ⟨Nat.le_refl _,by show 1≤r.words.length;omega,hT⟩ (fun s h=>h.2.1) ?_;rintro⟨j,T⟩ Y ⟨h1,hj,hT⟩ hY
 try dsimp only at h1 hj hT ⊢
 unfold J4A;have hTl:=hT.1.1;have hrl:=hT.2.1
 split
 ·rename_i hlt;have hj':j<r.words.length:=ω;obtain⟨a1,a2,a3,a4,a5,a6,a7⟩:=hT.look hg hF hi hj' ω;exact⟨ω,ω,ω,ω,ω,ω,a1,ω,a3,a4,ω,ω,a5,a6,ω,ω,hY (j+1,_) ⟨by dsimp only;omega,hj',hT.step hi hj' a7⟩ rfl⟩
 ·have:j=r.words.length:=ω;subst this;exact h T hT.all
theorem JbN (hg:GV gens=true) (hF:Fin gens true r) {i:Nat} {pl:List Bool} {b:Bool} {T:List (List Int)} {X:Nat→List Bool→List (List Int)→Prop} (hi:i<r.words.length) (hT:RowT gens r i 1 T) (h:∀T,TabI gens r (i+1) T→X (i+1) (st pl (0:Int) b) T) :
  LoopWP (S:=Nat×List (List Int)) (fun s Y=>J59 r.Enum i pl X b K (fun a b=>Y (a,b)) s.1 s.2) (1,T):=by
 have hel:=hF.el;have hpl:=hF.1.si.pl;have hll:=hF.1.si.ll;refine LoopWP.to r.words.length (fun s=>s.1) (fun s=>1≤s.1∧s.1≤r.words.length∧RowT gens r i s.1 s.2) ⟨Nat.le_refl _,by show 1≤r.words.length;omega,hT⟩ (fun s h=>h.2.1) ?_;rintro⟨j,T⟩ Y ⟨h1,hj,hT⟩ hY
 try dsimp only at h1 hj hT ⊢
 unfold J59;have hTl:=hT.1.1;have hrl:=hT.2.1
 split
 ·rename_i hlt;have hj':j<r.words.length:=ω;obtain⟨a1,a2,a3,a4,a5,a6,a7⟩:=hT.look hg hF hi hj' ω;exact⟨ω,ω,ω,ω,ω,ω,a1,ω,a3,a4,ω,ω,a5,a6,ω,ω,hY (j+1,_) ⟨by dsimp only;omega,hj',hT.step hi hj' a7⟩ rfl⟩
 ·have:j=r.words.length:=ω;subst this;exact h T hT.all
theorem Jc3 (hF:Fin gens true r) (hn:r.words.length≤400) (hP:PtI (([]:List part)++[(⟨(0:Int)+M.Start,M.Final,(0:Int)⟩:part)]) r) {w:List Str} {pl:List Bool} {T:List (List Int)} (h1:1≤(([]:List part)++[(⟨(0:Int)+M.Start,M.Final,(0:Int)⟩:part)]).length) (h:∀L:List (List Bool),L.length=(([]:List part)++[(⟨(0:Int)+M.Start,M.Final,(0:Int)⟩:part)]).length→(∀a:Nat,a<(([]:List part)++[(⟨(0:Int)+M.Start,M.Final,(0:Int)⟩:part)]).length→LsI (([]:List part)++[(⟨(0:Int)+M.Start,M.Final,(0:Int)⟩:part)]) r L a)→K ⟨(gens.length:Int),T,w,im,ix L (0:Int),pl⟩ 0) :
  LoopWP (S:=Nat×List (List Bool)) (fun s Y=>J56 M gens r.Enum im w pl T K (fun a b=>Y (a,b)) s.1 s.2) (0,List.replicate (([]:List part)++[(⟨(0:Int)+M.Start,M.Final,(0:Int)⟩:part)]).length ([]:List Bool)):=by
 have hel:=hF.el;refine LoopWP.to (([]:List part)++[(⟨(0:Int)+M.Start,M.Final,(0:Int)⟩:part)]).length (fun s=>s.1) (fun s=>s.1≤(([]:List part)++[(⟨(0:Int)+M.Start,M.Final,(0:Int)⟩:part)]).length∧s.2.length=(([]:List part)++[(⟨(0:Int)+M.Start,M.Final,(0:Int)⟩:part)]).length∧∀a:Nat,a<s.1→LsI (([]:List part)++[(⟨(0:Int)+M.Start,M.Final,(0:Int)⟩:part)]) r s.2 a) ⟨Nat.zero_le _,by simp,fun a ha=>by simp at ha⟩ (fun s h=>h.1) ?_;rintro⟨b,L⟩ Y ⟨hb,hL,hI⟩ hY
 try dsimp only at hb hL hI ⊢
 unfold J56
 split
 ·rename_i hlt;have hb':b<(([]:List part)++[(⟨(0:Int)+M.Start,M.Final,(0:Int)⟩:part)]).length:=ω;refine⟨ω,hlt,ω,ω,ω,ω,?_⟩;refine LoopWP.to r.words.length (fun s=>s.1) (fun s=>s.1≤r.words.length∧s.2.length=(([]:List part)++[(⟨(0:Int)+M.Start,M.Final,(0:Int)⟩:part)]).length∧(∀a:Nat,a<b→LsI (([]:List part)++[(⟨(0:Int)+M.Start,M.Final,(0:Int)⟩:part)]) r s.2 a)∧(ix s.2 (b:Int)).length=r.words.length∧∀i:Nat,i<s.1→ix (ix s.2 (b:Int)) i=ix (ix (([]:List part)++[(⟨(0:Int)+M.Start,M.Final,(0:Int)⟩:part)]) (b:Int)).final (ix (ix r.Enum.Elems i) (ix (([]:List part)++[(⟨(0:Int)+M.Start,M.Final,(0:Int)⟩:part)]) (b:Int)).start-(ix (([]:List part)++[(⟨(0:Int)+M.Start,M.Final,(0:Int)⟩:part)]) (b:Int)).shift)) ⟨Nat.zero_le _,by simp only[J02];exact hL,fun a ha=>?_,?_,fun i hi=>by simp at hi⟩ (fun s h=>h.1) ?_
  ·have:=hI a ha;unfold LsI at this ⊢;dsimp only;rw[ix_st _ ω ω ω,if_neg ω];exact this
  ·dsimp only;rw[ix_st _ ω ω ω,if_pos rfl];simp[hel]
  rintro⟨i,L⟩ Z ⟨hi,hL,hI,hbl,hJ⟩ hZ
  try dsimp only at hi hL hI hbl hJ ⊢
  unfold J7d
  split
  ·rename_i hlt2;have hi':i<r.words.length:=ω;obtain⟨p1,p2,p3,p4,p5⟩:=hP b i hb' hi';refine⟨ω,ω,ω,ω,?_⟩;unfold J17;refine⟨p1,p2,p3,p4,p5,ω,ω,hZ (i+1,_) ⟨by dsimp only;omega,by simp only[J02];exact hL,fun a ha=>?_,?_,fun y hy=>?_⟩ rfl⟩
   ·have:=hI a ha;unfold LsI at this ⊢;dsimp only;rw[ix_st _ ω ω ω,if_neg ω];exact this
   ·dsimp only;rw[ix_st _ ω ω ω,if_pos rfl];simp[hbl]
   ·dsimp only at hy ⊢;rw[ix_st _ ω ω ω,if_pos rfl,ix_st _ ω ω ω];by_cases e:y=i
    ·subst e;rw[if_pos rfl]
    ·rw[if_neg ω];exact hJ y ω
  ·have:i=r.words.length:=ω;subst this
   exact hY (b+1,L) ⟨by dsimp only;omega,hL,fun a ha=>by
    by_cases e:a=b
    ·subst e;exact⟨hbl,hJ⟩
    ·exact hI a (by dsimp only at ha;omega)⟩ rfl
 ·rename_i hlt;have:b=(([]:List part)++[(⟨(0:Int)+M.Start,M.Final,(0:Int)⟩:part)]).length:=ω;subst this;have hh:=h L hL hI;exact⟨ω,ω,hh⟩
theorem JbS (hg:GV gens=true) (hF:Fin gens true r) (hn:r.words.length≤400) (hP:PtI (([]:List part)++[(⟨(0:Int)+M.Start,M.Final,(0:Int)⟩:part)]) r) {w:List Str} {pl:List Bool} (h1:1≤(([]:List part)++[(⟨(0:Int)+M.Start,M.Final,(0:Int)⟩:part)]).length) (h32:(([]:List part)++[(⟨(0:Int)+M.Start,M.Final,(0:Int)⟩:part)]).length≤1000) (hpl:PlI gens r 0 pl)
  (h:∀(T:List (List Int)) (pl:List Bool) (L:List (List Bool)),TabI gens r r.words.length T→PlI gens r r.words.length pl→L.length=(([]:List part)++[(⟨(0:Int)+M.Start,M.Final,(0:Int)⟩:part)]).length→(∀a:Nat,a<(([]:List part)++[(⟨(0:Int)+M.Start,M.Final,(0:Int)⟩:part)]).length→LsI (([]:List part)++[(⟨(0:Int)+M.Start,M.Final,(0:Int)⟩:part)]) r L a)→K ⟨(gens.length:Int),T,w,im,ix L (0:Int),pl⟩ 0) :
  LoopWP (S:=Nat×List Bool×List (List Int)) (fun s Y=>J5a M gens r.Enum im w K (fun a b c=>Y (a,b,c)) s.1 s.2.1 s.2.2) (0,pl,List.replicate r.Enum.Elems.length ([]:List Int)):=by
 have hel:=hF.el;have hrt:=hF.1.rt.1;have hz:=hF.w0 hg;refine LoopWP.to r.words.length (fun s=>s.1) (fun s=>s.1≤r.words.length∧PlI gens r s.1 s.2.1∧TabI gens r s.1 s.2.2) ⟨Nat.zero_le _,hpl,by simp[hel],fun a ha=>by simp at ha⟩ (fun s h=>h.1) ?_;rintro⟨i,pl,T⟩ Y ⟨hi,hpl,hT⟩ hY
 try dsimp only at hi hpl hT ⊢
 have hpll:=hpl.len;have hTl:=hT.1;unfold J5a
 split
 ·rename_i hlt;have hi':i<r.words.length:=ω;have hs:=RowT.start hg hF hT hi'
  have e0:((ix (st T (i:Int) (List.replicate r.Enum.Elems.length (0:Int))) (i:Int)).length:Int)=r.words.length:=by
   rw[ix_st _ ω ω ω,if_pos rfl];simp[hel]
  refine⟨ω,hlt,ω,ω,?_⟩
  split
  ·rename_i hp0;refine⟨ω,ω,ω,ω,ω,ω,ω,by rw[J02];omega,ω,ω,JbR hg hF hi' hs fun T hT=>hY (i+1,_,T) ⟨by dsimp only;omega,hpl.step hF hi' (by rw[hp0];rfl),hT⟩ rfl⟩
  ·rename_i hp0;refine slices_Contains_ok' ?_;refine⟨ω,ω,ω,ω,ω,ω,ω,by rw[J02];omega,ω,ω,JbN hg hF hi' hs fun T hT=>hY (i+1,_,T) ⟨by dsimp only;omega,hpl.step hF hi' (by rw[Bool.eq_false_iff.2 hp0];rfl),hT⟩ rfl⟩
 ·have:i=r.words.length:=ω;subst this;exact⟨ω,ω,Jc3 hF hn hP h1 fun L hL hI=>h T pl L hT hpl hL hI⟩
theorem JbK (hg:GV gens=true) (hF:Fin gens true r) (hn:r.words.length≤400) (hP:PtI (([]:List part)++[(⟨(0:Int)+M.Start,M.Final,(0:Int)⟩:part)]) r) (h1:1≤(([]:List part)++[(⟨(0:Int)+M.Start,M.Final,(0:Int)⟩:part)]).length) (h32:(([]:List part)++[(⟨(0:Int)+M.Start,M.Final,(0:Int)⟩:part)]).length≤1000)
  (h:∀(w:List Str) (T:List (List Int)) (pl:List Bool) (L:List (List Bool)),w=r.words→TabI gens r r.words.length T→PlI gens r r.words.length pl→L.length=(([]:List part)++[(⟨(0:Int)+M.Start,M.Final,(0:Int)⟩:part)]).length→(∀a:Nat,a<(([]:List part)++[(⟨(0:Int)+M.Start,M.Final,(0:Int)⟩:part)]).length→LsI (([]:List part)++[(⟨(0:Int)+M.Start,M.Final,(0:Int)⟩:part)]) r L a)→K ⟨(gens.length:Int),T,w,im,ix L (0:Int),pl⟩ 0) :
  LoopWP (S:=Nat×List Bool×List Str) (fun s Y=>J5h M gens r.Enum im K (fun a b c=>Y (a,b,c)) s.1 s.2.1 s.2.2) (1,List.replicate r.Enum.Elems.length false,List.replicate r.Enum.Elems.length ([]:Str)):=by
 have hel:=hF.el;have hplx:=hF.1.si.pl;have hll:=hF.1.si.ll;have hz:=hF.w0 hg;have hk6:=(J0w.1 hg).2.1;refine LoopWP.to r.words.length (fun s=>s.1) (fun s=>1≤s.1∧s.1≤r.words.length∧s.2.1.length=r.words.length∧(∀j:Nat,0<j→j<s.1→ix s.2.1 j=true)∧ix s.2.1 0=false∧WdI r s.1 s.2.2) ⟨Nat.le_refl _,hz.2,by simp[hel],fun j h0 hj=>by dsimp only at hj;omega,?_,by simp[hel],fun j hj=>?_⟩ (fun s h=>h.2.1) ?_
 ·dsimp only;rw[show (0:Int)=((0:Nat):Int) from rfl,J0c _ _ ω]
 ·dsimp only at hj ⊢;have:j=0:=ω;subst this;rw[J0c _ _ ω];exact hz.1.symm
 rintro⟨i,pl,w⟩ Y ⟨h0,hi,hpl,hp1,hp0,hw⟩ hY
 try dsimp only at h0 hi hpl hp1 hp0 hw ⊢
 have hwl:=hw.1;unfold J5h
 split
 ·rename_i hlt;have hi':i<r.words.length:=ω;obtain⟨p,x,hp,e1,hx,e2,e3⟩:=hF.from_ hg hi' ω;have hwp:=hF.1.si.wl p ω;rw[e1,e3,JcL ω,hw.2 p ω]
  exact⟨ω,ω,ω,ω,ω,ω,⟨ω,ω⟩,by simp;omega,ω,ω,ω,ω,hY (i+1,_,_) ⟨by dsimp only;omega,hi',by simp[hpl],fun j h0 hj=>by
   dsimp only at hj ⊢;rw[ix_st _ ω ω ω];by_cases e:j=i
   ·subst e;rw[if_pos rfl]
   ·rw[if_neg ω];exact hp1 j h0 ω,by
   dsimp only
   rw[ix_st _ ω ω ω,if_neg ω];exact hp0,hw.step hi' e2.symm⟩ rfl⟩
 ·have:i=r.words.length:=ω;subst this;have ew:w=r.words:=J09 hw.1 fun j hj=>hw.2 j ω;exact fun _=>JbS hg hF hn hP h1 h32 ⟨hpl,hp1,by rw[hp0];simp⟩ fun T pl L h1 h2 h3 h4=>h w T pl L ew h1 h2 h3 h4
end
section
variable {P:List part} {im:List Int} {K:Syntactic→List (List Bool)→Int→Prop}
end
end
end Sg
namespace Sg
open Go
section
variable {gens:List (List Int)}
theorem RI.ex0 (hg:GV gens=true):∃r,RI gens true 0 r:=by
  have key:∀x,x≤gens.length→∃E Pf Ls R W Bh sg m,BI gens true x E Pf Ls R W Bh sg m:=by
    intro x
    induction x with
    | zero=>intro _;exact⟨_,_,_,_,_,_,_,_,BI.start1 hg⟩
    | succ x ih =>
      intro hx;obtain⟨E,Pf,Ls,R,W,Bh,sg,m,h⟩:=ih ω;by_cases hf:ix gens (x:Int)∈E
      · exact⟨_,_,_,_,_,_,_,_,(h.known hg ω hf).2.2⟩
      · exact⟨_,_,_,_,_,_,_,_,h.new hg ω hf (e:=0) rfl⟩
  obtain⟨E,Pf,Ls,R,W,Bh,sg,m,h⟩:=key gens.length (Nat.le_refl _);exact⟨_,h.fin hg⟩
theorem RI.exS (hg:GV gens=true) {d:Nat} {r:run} (h:RI gens true d r) (hd:d<r.words.length):∃r',RI gens true (d+1) r':=by
  classical
  have key:∀x,x≤gens.length→∃row E Pf Ls R W Bh m,PI gens true r.single r.Enum.Right d x row E Pf Ls R W Bh m:=by
    intro x
    induction x with
    | zero=>intro _;exact⟨_,_,_,_,_,_,_,_,h.pi hg hd⟩
    | succ x ih =>
      intro hx;obtain⟨row,E,Pf,Ls,R,W,Bh,m,hI⟩:=ih ω;by_cases hf:vl gens (ix W d++[lt x])∈E
      · by_cases hu:ix W d=[]
        · exact⟨_,_,_,_,_,_,_,_,hI.skip hg ω hf fun hn=>absurd hu hn⟩
        · by_cases hm:MN gens true (ix W d++[lt x])
          · exact⟨_,_,_,_,_,_,_,_,hI.rule hg ω hf hu hm⟩
          · exact⟨_,_,_,_,_,_,_,_,hI.skip hg ω hf fun _=>hm⟩
      · have hu:ix W d≠[]:=fun k=>hf (hI.Jbf hg ω k);obtain⟨hb,hq⟩:=JaF hI.si hI.dl (show x<gens.length by omega) hI.sg hI.rt hu
        rcases hq with ⟨_,q0,q1,q2⟩ | ⟨_,_,_,_,q0,q1,q2⟩
        · exact⟨_,_,_,_,_,_,_,_,hI.new hg ω hu hf q0 q1 q2⟩
        · exact⟨_,_,_,_,_,_,_,_,hI.new hg ω hu hf q0 q1 q2⟩
  obtain⟨row,E,Pf,Ls,R,W,Bh,m,hI⟩:=key gens.length (Nat.le_refl _);exact⟨_,hI.fin hg h⟩
theorem Jew (hg:GV gens=true) {n:Nat} (hn:n≤2000) (hf:∀W:List Str,(∀w∈W,LW gens.length w)→(∀i j:Nat,i<j→j<W.length→vl gens (ix W i)≠vl gens (ix W j))→W.length≤n):∃r,Fin gens true r:=by
  have few:∀{d:Nat} {r:run},RI gens true d r→r.words.length≤n:=fun {d r} h=>by
    refine hf r.words (fun w hw=>((h.si.rl.mem w).1 hw).1.1.1) fun i j hij hj e=>?_;have ri:=h.si.red (i:=(i:Int)) ω ω;have rj:=h.si.red (i:=(j:Int)) ω ω;have:=J74 h.si.rl.asc ω hj (ri.uniq rj e);omega
  have key:∀d,(∃r,Fin gens true r)∨∃r,RI gens true d r:=by
    intro d
    induction d with
    | zero=>exact .inr (RI.ex0 hg)
    | succ d ih =>
      rcases ih with ih | ⟨r,h⟩
      · exact .inl ih
      · by_cases e:d<r.words.length
        · exact .inr (h.exS hg e)
        · have:=h.dl;have e:d=r.words.length:=ω;subst e;have:=few h;exact .inl ⟨r,h,ω⟩
  rcases key (n+1) with h | ⟨r,h⟩
  · exact h
  · have:=h.dl;have:=few h;omega
theorem Lim.noFin (hg:GV gens=true) {d:Nat} (h:Lim gens true d) (r:run):¬Fin gens true r:=fun hr=>by
 obtain⟨_,⟨s,hs,hd⟩,hl⟩:=h
 have:=hr.1.J6r hg hs
 have:=hl r.words.length r ω hr.1
 have:=hr.2
 omega
theorem JeS {α:Type} {k:Nat} {ρ:Str→α} {s:Syntactic} (h:Mon k ρ s) (W:List Str) (hw:∀w∈W,LW k w) (hd:∀i j:Nat,i<j→j<W.length→ρ (ix W i)≠ρ (ix W j)):W.length≤s.Words.length:=by
 apply Classical.byContradiction;intro hc
 have rep:∀i:Nat,∃j:Nat,i<W.length→j<s.Words.length∧ρ (ix s.Words j)=ρ (ix W i):=fun i=>by
  by_cases hi:i<W.length
  ·obtain⟨j,h1,h2⟩:=h.cl.place (hw _ (J0f.2 ⟨i,hi,rfl⟩));exact⟨j,fun _=>⟨h1,h2⟩⟩
  ·exact⟨0,fun h=>absurd h hi⟩
 obtain⟨f,hf⟩:=Classical.axiomOfChoice rep
 obtain⟨a,b,h1,h2,e⟩:=pigeon s.Words.length (fun m=>(f m:Int)) fun m hm=>by have:=(hf m ω).1;omega
 have ea:=(hf a ω).2;have eb:=(hf b ω).2
 have:f a=f b:=by have e:(f a:Int)=(f b:Int):=e;omega
 rw[this] at ea;exact hd a b h1 ω (ea.symm.trans eb)
end
structure UniP (k:Nat) (Ms:List DFA) (M:DFA) (cnt:Nat→Nat) (G:List (List Int)):Prop where
 gl:G.length=k
 cl:∀y:Nat,y<k→(ix G (y:Int)).length=PN Ms+cnt y
 old:∀i q y:Nat,i<Ms.length→q<(ix Ms (i:Int)).Final.length→y<k→ix (ix G (y:Int)) ((PN (Ms.take i)+q:Nat):Int)=(PN (Ms.take i):Int)+ix (ix (ix Ms (i:Int)).Next (q:Int)) (y:Int)
 new:∀q y:Nat,y<k→q<cnt y→ix (ix G (y:Int)) ((PN Ms+q:Nat):Int)=(PN Ms:Int)+ix (ix M.Next (q:Int)) (y:Int)
section
variable {k x q:Nat} {Ms:List DFA} {M:DFA} {cnt cnt':Nat→Nat} {G:List (List Int)} {v:Int}
theorem UniP.start (h:Uni k Ms G):UniP k Ms M (fun _=>0) G:=⟨h.gl,fun y hy=>h.cl y hy,fun i q y hi hq hy=>h.at_ i q y hi hq hy,fun q y _ h=>absurd h (Nat.not_lt_zero _)⟩
theorem UniP.congr (h:UniP k Ms M cnt G) (e:∀y,y<k→cnt y=cnt' y):UniP k Ms M cnt' G:=
 ⟨h.gl,fun y hy=>by rw[←e y hy];exact h.cl y hy,h.old,fun q y hy hq=>h.new q y hy (by rw[e y hy];exact hq)⟩
theorem UniP.step (h:UniP k Ms M cnt G) (hx:x<k) (hc:cnt x=q) (hv:v=(PN Ms:Int)+ix (ix M.Next (q:Int)) (x:Int)):UniP k Ms M (fun y=>if y=x then q+1 else cnt y) (st G (x:Int) (ix G (x:Int)++[v])):=by
 have hg:=h.gl;have hcx:=h.cl x hx
 have e1:∀y:Nat,y<k→ix (st G (x:Int) (ix G (x:Int)++[v])) (y:Int)=if y=x then ix G (x:Int)++[v] else ix G (y:Int):=fun y hy=>by
  rw[ix_st _ ω ω ω];by_cases e:y=x
  ·subst e;rw[if_pos rfl,if_pos rfl]
  ·rw[if_neg ω,if_neg e]
 refine⟨by simp[hg],fun y hy=>?_,fun i q y hi hq hy=>?_,fun p y hy hp=>?_⟩
 ·rw[e1 y hy];by_cases e:y=x
  ·rw[if_pos e,if_pos e];simp;omega
  ·rw[if_neg e,if_neg e];exact h.cl y hy
 ·rw[e1 y hy];by_cases e:y=x
  ·subst e;rw[if_pos rfl,ixA (by have:=PN_le hi;omega)];exact h.old i q y hi hq hy
  ·rw[if_neg e];exact h.old i q y hi hq hy
 ·rw[e1 y hy];by_cases e:y=x
  ·subst e;rw[if_pos rfl] at hp ⊢;by_cases hpq:p=q
   ·subst hpq;rw[ixL' ω];exact hv
   ·rw[ixA ω];exact h.new p y hy ω
  ·rw[if_neg e] at hp ⊢;exact h.new p y hy hp
theorem Jcn {α:Type} [Inhabited α] {l:List α} {a:α} {i:Nat} (hi:i<(l++[a]).length):(i<l.length∧ix (l++[a]) (i:Int)=ix l (i:Int))∨(i=l.length∧ix (l++[a]) (i:Int)=a):=by
 simp only[List.length_append,List.length_singleton] at hi;by_cases h:i<l.length
 ·exact .inl ⟨h,ixA h⟩
 ·exact .inr ⟨ω,ixL' ω⟩
theorem UniP.all (h:UniP k Ms M (fun _=>M.Final.length) G):Uni k (Ms++[M]) G:=by
 refine⟨h.gl,fun y hy=>by rw[h.cl y hy,Jdi],fun i q y hi hq hy=>?_⟩
 rcases Jcn hi with ⟨h1,e⟩ | ⟨h1,e⟩
 ·rw[e] at hq ⊢;rw[List.take_append_of_le_length ω];exact h.old i q y h1 hq hy
 ·rw[e] at hq ⊢;subst h1;rw[List.take_append_of_le_length (Nat.le_refl _),List.take_length];exact h.new q y hy hq
theorem Uni.nil (k:Nat):Uni k [] (List.replicate k ([]:List Int)):=⟨by simp,fun y hy=>by rw[J0c _ _ hy];rfl,fun i q y hi _ _=>by simp at hi⟩
def cntL (n x q:Nat) (y:Nat):Nat:=if y<x then n else if y=x then q else 0
theorem UniP.stepL {n:Nat} (h:UniP k Ms M (cntL n x q) G) (hx:x<k) (hv:v=(PN Ms:Int)+ix (ix M.Next (q:Int)) (x:Int)):UniP k Ms M (cntL n x (q+1)) (st G (x:Int) (ix G (x:Int)++[v])):=
 (h.step hx (by simp [cntL]) hv).congr fun y _ => by
  unfold cntL
  by_cases e:y=x
  ·subst e;simp
  ·rw[if_neg e]
   by_cases e2:y<x
   ·rw[if_pos e2,if_pos e2]
   ·rw[if_neg e2,if_neg e2,if_neg e,if_neg e]
theorem UniP.nextL {n:Nat} (h:UniP k Ms M (cntL n x n) G):UniP k Ms M (cntL n (x+1) 0) G:=
 h.congr fun y _=>by
  unfold cntL
  by_cases e:y=x
  ·subst e;simp
  ·by_cases e2:y<x
   ·rw[if_pos e2,if_pos ω]
   ·rw[if_neg e2,if_neg e,if_neg ω];split<;>rfl
end
structure SynJ (k:Nat) (ds:List DFA) (s:Syntactic) (L:List (List Bool)):Prop where
 mon:Mon k (syJ ds k) s
 ll:L.length=ds.length
 la:∀i:Nat,i<ds.length→(ix L (i:Int)).length=s.Words.length∧∀j:Nat,j<s.Words.length→ix (ix L (i:Int)) j=acc (ix ds (i:Int)) (ix s.Words j)
 ac:s.Accept=ix L 0
 n:s.Words.length≤400
 few:∃Ms,Mins k ds Ms∧PN Ms≤32
section
variable {k:Nat} {ds Ms:List DFA} {gens:List (List Int)} {r:run} {s s':Syntactic} {L L':List (List Bool)}
theorem SynJ.acc_ (h:SynJ k ds s L) (h1:1≤ds.length):Acc (acc (ix ds 0)) s:=by
 have:=h.la 0 ω;rw[show ((0:Nat):Int)=0 from rfl,←h.ac] at this;exact⟨this.1,this.2⟩
theorem SynJ.fin (h:SynJ k ds s L) (hg:GV gens=true) (hgl:gens.length=k) (he:Eqv k (vl gens) (syJ ds k)):∃r,Fin gens true r∧r.words.length≤400:=by
 have hk6:=(J0w.1 hg).2.1;have hm:=h.mon.congr ω he.symm;obtain⟨r,hr⟩:=Jew hg (n:=400) ω fun W hW hd=>Nat.le_trans (JeS (k:=k) hm W (fun w hw=>by rw[←hgl];exact hW w hw) hd) h.n;refine⟨r,hr,?_⟩;have c:=hr.CL_ hg;rw[hgl] at c;have:=c.uniq hm.cl;rw[this];exact h.n
structure PartsOk (Ms:List DFA) (P:List part):Prop where
 len:P.length=Ms.length
 at_:∀a:Nat,a<Ms.length→(ix P (a:Int)).start=(PN (Ms.take a):Int)∧(ix P (a:Int)).final=(ix Ms (a:Int)).Final∧(ix P (a:Int)).shift=(PN (Ms.take a):Int)
theorem PartsOk.nil:PartsOk [] []:=⟨rfl,fun a h=>by simp at h⟩
theorem PartsOk.push {P:List part} (h:PartsOk Ms P) {M:DFA} (hs:M.Start=0):PartsOk (Ms++[M]) (P++[⟨(PN Ms:Int)+M.Start,M.Final,(PN Ms:Int)⟩]):=by
 have hl:=h.len;refine⟨by simp[hl],fun a ha=>?_⟩
 rcases Jcn ha with ⟨h1,e⟩ | ⟨h1,e⟩
 ·rw[e,ixA ω,List.take_append_of_le_length ω];exact h.at_ a h1
 ·rw[e];subst h1;rw[ixL' ω,List.take_append_of_le_length (Nat.le_refl _),List.take_length];exact⟨by rw[hs];simp,rfl,rfl⟩
section
variable {P:List part}
theorem Jcc (hu:Uni k Ms gens) (hm:Mins k ds Ms) (hg:GV gens=true) (h1:1≤k) (h6:k≤6) (h32:PN Ms≤32) (hP:PartsOk Ms P) (hF:Fin gens true r) {a i:Nat} (ha:a<Ms.length) (hi:i<r.words.length) :
  (ix P (a : Int)).start < (ix r.Enum.Elems i).length ∧ 0 ≤ (ix P (a : Int)).start ∧ 0 ≤ ix (ix r.Enum.Elems i) (ix P (a : Int)).start - (ix P (a : Int)).shift ∧ ix (ix r.Enum.Elems i) (ix P (a : Int)).start - (ix P (a : Int)).shift < (ix P (a : Int)).final.length ∧ (ix P (a : Int)).final.length ≤ 32 ∧
   ix (ix P (a:Int)).final (ix (ix r.Enum.Elems i) (ix P (a:Int)).start-(ix P (a:Int)).shift)=acc (ix ds (a:Int)) (ix r.words i):=by
 have hgl:=hu.gl;have c:=hF.CL_ hg;rw[hgl] at c;have hw:=c.lw hi;obtain⟨e1,e2,e3⟩:=hP.at_ a ha;have hle:=PN_le ha;have M:=hm.min a (by rw[←hm.len];exact ha);have hpos:=M.pos;have hv:=hu.vl_at hm hg h1 h6 h32 ha (q:=0) ω hw;have hok:=vl_ok hg (w:=ix r.words i) (by rw[hgl];exact hw);have hl0:=hu.len h1;have Dm:=M.da h1 h6 ω;have hin:=rn_lw Dm M.le.symm hw (q:=0) ω ω;rw[hF.1.si.eix (i:=(i:Int)) ω ω,e1,e2,e3];simp only[Nat.add_zero] at hv;rw[show ((0:Nat):Int)=0 from rfl] at hv;rw[hv];have e4:(PN (Ms.take a):Int)+rn (ix Ms (a:Int)) 0 (ix r.words i)-(PN (Ms.take a):Int)=rn (ix Ms (a:Int)) 0 (ix r.words i):=ω;rw[e4,←M.acc_ ω hw,acc,M.st];exact⟨ω,ω,hin.1,hin.2,ω,rfl⟩
theorem Jf4 (hu:Uni k Ms gens) (hm:Mins k ds Ms) (hg:GV gens=true) (h1:1≤k) (h6:k≤6) (h32:PN Ms≤32) (hP:PartsOk Ms P) (hF:Fin gens true r):PtI P r:=fun a i ha hi=>by
 have:=Jcc hu hm hg h1 h6 h32 hP hF (a:=a) (i:=i) (by rw[←hP.len];exact ha) hi
 exact⟨this.2.1,this.1,⟨ω,ω⟩,this.2.2.1,this.2.2.2.1⟩
theorem Jf6 (hu:Uni k Ms gens) (hm:Mins k ds Ms) (hg:GV gens=true) (h1:1≤k) (h6:k≤6) (hd:1≤ds.length) (h32:PN Ms≤32) (hP:PartsOk Ms P) (hF:Fin gens true r) (hn:r.words.length≤400)
  {T:List (List Int)} {pl:List Bool} (hT:TabI gens r r.words.length T) (hpl:PlI gens r r.words.length pl) (hL:L.length=P.length) (hLs:∀a:Nat,a<P.length→LsI P r L a) {im:List Int} (him:im=ix r.Enum.Right 0) :
  SynJ k ds ⟨(gens.length:Int),T,r.words,im,ix L 0,pl⟩ L:=by
 have hgl:=hu.gl;have hz:=hF.w0 hg;have hPl:=hP.len;have hml:=hm.len;obtain⟨r1,r2⟩:=hF.1.rt.2 0 hz.2;rw[show ((0:Nat):Int)=0 from rfl,←him] at r1 r2
 have hmon:Mon k (vl gens) ⟨(gens.length:Int),T,r.words,im,ix L 0,pl⟩:=
  Jfh hg hgl hF (by rw[hgl]) hT.1 (fun i hi=>(hT.2 i hi).1) (fun i j hi hj=>(hT.2 i hi).2 j hj) ω
   (fun x hx => by
    obtain⟨a1,a2,a3⟩:=r2 x ω;obtain⟨v,ev⟩:=Int.eq_ofNat_of_zero_le a1;rw[hz.1] at a3
    exact⟨v,ev,ω,by rw[←ev];exact a3⟩) hpl.len hpl.pos (by rw[hpl.all hg hF,hgl])
 refine⟨hmon.congr ω (hu.eqv hm hg h1 h6 h32),ω,fun i hi=>?_,rfl,hn,Ms,hm,h32⟩;have:=hLs i ω;refine⟨this.1,fun j hj=>?_⟩;rw[this.2 j hj];exact(Jcc hu hm hg h1 h6 h32 hP hF ω hj).2.2.2.2.2
end
end
theorem Jbm {k:Nat} {d M:DFA} {W:List Str} (D:Da d) (hk:(k:Int)=d.Letters) (c:Can k (nero d k) (acc d) M W):W.length≤d.Final.length:=by
 apply Classical.byContradiction;intro hc;obtain⟨a,b,q1,q2,e⟩:=pigeon d.Final.length (fun m=>rho d (ix W (m:Int))) fun m hm=>Jc9 D hk (c.cl.lw ω)
 have:nero d k (ix W (a:Int))=nero d k (ix W (b:Int)):=by
  rw[J5z];intro w hw;have e:rn d d.Start (ix W (a:Int))=rn d d.Start (ix W (b:Int)):=e;rw[J5s,J5s,e]
 have:=c.cl.inj (show a<W.length by omega) (show b<W.length by omega) this;omega
theorem few4 {gens:List (List Int)} (hg:GV gens=true) (h4:(ix gens 0).length≤4):∃r,Fin gens true r∧r.words.length≤256:=by
 have key:∀W:List Str,(∀w∈W,LW gens.length w)→(∀i j:Nat,i<j→j<W.length→vl gens (ix W i)≠vl gens (ix W j))→W.length≤256:=fun W hW hd=>by
  apply Classical.byContradiction;intro hc;have ok:∀i:Nat,i<W.length→VF (vl gens (ix W i))=true∧(vl gens (ix W i)).length=(ix gens 0).length:=fun i hi=>vl_ok hg (hW _ (J0f.2 ⟨i,hi,rfl⟩))
  obtain⟨a,b,hab,hb,he⟩:=pigeon 256 (fun m=>code4 (vl gens (ix W (m:Int)))) (fun m hm=>by
   obtain⟨h1,h2⟩:=ok m ω;have e0:=entry4 h1 ω 0;have e1:=entry4 h1 ω 1;have e2:=entry4 h1 ω 2;have e3:=entry4 h1 ω 3
   simp only[code4];omega)
  obtain⟨a1,a2⟩:=ok a ω;obtain⟨b1,b2⟩:=ok b ω;have p0:=entry4 a1 ω 0;have p1:=entry4 a1 ω 1;have p2:=entry4 a1 ω 2;have p3:=entry4 a1 ω 3;have q0:=entry4 b1 ω 0;have q1:=entry4 b1 ω 1;have q2:=entry4 b1 ω 2;have q3:=entry4 b1 ω 3;simp only[code4] at he;refine hd a b hab ω (J09 ω fun j hj=>?_);have hj4:j<4:=ω
  rcases(by omega:j=0∨j=1∨j=2∨j=3) with rfl | rfl | rfl | rfl<;>omega
 obtain⟨r,hr⟩:=Jew hg (n:=256) ω key;refine⟨r,hr,key r.words (fun w hw=>((hr.CL_ hg).mem w).1 hw |>.1.1) fun i j hij hj e=>?_⟩;have:=(hr.CL_ hg).inj ω hj e;omega
theorem SynJ.one {k:Nat} {d:DFA} {s:Syntactic} {L:List (List Bool)} (hk:d.Letters=k) (hk9:k<159) (h:SynJ k [d] s L):SynD d s:=by
 obtain⟨Ms,hm,h32⟩:=h.few;have hml:Ms.length=1:=hm.len;have hle:=PN_le (Ms:=Ms) (i:=0) ω;have M:=hm.min 0 (by simp);obtain⟨W,c⟩:=M;exact⟨⟨k,hk,⟨h.mon.congr hk9 (JcX d k),h.acc_ (by simp)⟩,_,W,c,by have:=c.fl;omega⟩,h.n⟩
theorem SynD.joint {k:Nat} {d:DFA} {s:Syntactic} (hk:d.Letters=k) (hk9:k<159) (h:SynD d s):SynJ k [d] s [s.Accept]:=by
 obtain⟨k',e,hs,M,W,c,hW⟩:=h.k;have:k'=k:=ω;subst this;refine⟨hs.mon.congr hk9 (JcX d k').symm,rfl,fun i hi=>?_,rfl,h.n,[M],⟨rfl,fun i hi=>?_⟩,?_⟩
 ·have:i=0:=by simpa using hi
  subst this;exact⟨hs.acc.al,hs.acc.ac⟩
 ·have:i=0:=by simpa using hi
  subst this;exact⟨W,c⟩
 ·have:=c.fl;simp[PN];omega
abbrev zeroS:Syntactic:=⟨0,[],[],[],[],[]⟩
section
variable {d:DFA} {k:Nat}
theorem Je3 {M:DFA} (h:MinOf k d M):Mins k [d] [M]:=⟨rfl,fun i hi=>by
 have:i=0:=by simpa using hi
 subst this
 exact h⟩
theorem J7c {K:Syntactic→Int→Prop} (h1:¬Da d→K zeroS (daC d)) (h3:Da d→4<d.Final.length→(∀s,¬SynD d s)→K zeroS 3) (h0:Da d→∀s,SynD d s→K s 0):J1n d K:=by
 unfold J1n;refine J1U ?_;by_cases hv:DV d=true
 case neg=>
  rw[if_neg (fun hh=>hv (daC0.1 hh))];exact h1 fun D=>hv (J43.2 D)
 rw[if_pos (daC0.2 hv)];have D:=J43.1 hv;have l1:=D.l1;have l6:=D.l6;obtain⟨k,hk⟩:=Int.eq_ofNat_of_zero_le (show 0≤d.Letters by omega);refine J2y D hk.symm fun M W c=>?_;have hM:MinOf k d M:=⟨W,c⟩;have hms:=Je3 hM;have hMl:=hM.le;have hst:=hM.st
 have hpn:PN [M]=M.Final.length:=by simp[PN]
 have hfew:=c.fl;refine fun _=>?_;by_cases h32:32<M.Final.length
 ·have hno:∀s,¬SynD d s:=fun s hs=>by
   obtain⟨k',e,_,M',W',c',hW'⟩:=hs.k;have:k'=k:=ω;subst this;have:=(c.uniq c').2;subst this;omega
  have hle:=Jbm D hk.symm c;have:=D.f2;refine⟨⟨ω,ω⟩,?_⟩;rw[if_pos ω];exact h3 D ω hno
 ·refine⟨⟨ω,ω⟩,?_⟩;rw[if_neg ω];have DM:=hM.da ω ω ω;have hMn:=DM.nx;have hkn:M.Letters.toNat=k:=ω;refine⟨ω,ω,?_⟩;rw[hkn];refine LoopWP.to k (fun s=>s.1) (fun s=>s.1≤k∧UniP k [] M (cntL M.Final.length s.1 0) s.2) ⟨Nat.zero_le _,(UniP.start (Uni.nil k)).congr fun y _=>by simp[cntL]⟩ (fun s h=>h.1) ?_;rintro⟨x,G⟩ X ⟨hx,hG⟩ hX
  try dsimp only at hx hG ⊢
  unfold J7a;rw[List.length_replicate,hkn];have hgl:=hG.gl
  split
  ·rename_i hlt;have hxk:x<k:=ω;refine LoopWP.to M.Final.length (fun s=>s.1) (fun s=>s.1≤M.Final.length∧UniP k [] M (cntL M.Final.length x s.1) s.2) ⟨Nat.zero_le _,hG⟩ (fun s h=>h.1) ?_;rintro⟨q,G⟩ Y ⟨hq,hG⟩ hY
   try dsimp only at hq hG ⊢
   have hgl:=hG.gl;unfold J7b
   split
   ·rename_i hlt2;have hat:=DM.at_ (q:=q) (x:=x) ω ω ω ω;have hcl:=hG.cl x hxk
    have hc0:cntL M.Final.length x q x=q:=by simp[cntL]
    rw[hc0,JdN] at hcl;exact⟨ω,ω,ω,ω,ω,ω,⟨ω,ω⟩,by simp;omega,ω,ω,hY (q+1,_) ⟨by dsimp only;omega,hG.stepL hxk (by simp[JdN])⟩ rfl⟩
   ·have:q=M.Final.length:=ω;subst this;exact⟨⟨ω,ω⟩,hX (x+1,_) ⟨by dsimp only;omega,hG.nextL⟩ rfl⟩
  ·rename_i hlt;have:x=k:=ω;subst this;have hu:Uni x [M] G:=(hG.congr (cnt':=fun _=>M.Final.length) fun y hy=>by simp[cntL,hy]).all;have hg:=hu.GV_ hms ω ω (by simp) ω;have he:=hu.eqv hms hg ω ω ω;refine⟨⟨ω,ω⟩,by simp,⟨ω,ω⟩,?_⟩;refine J5x hg (fun d' hl=>?_) fun r hr h2000=>?_
   ·rw[if_neg (by decide)];have hle:=Jbm D hk.symm c;have hl0:=hu.len ω
    refine h3 D (by
     apply Classical.byContradiction;intro hc;obtain⟨r,hr,_⟩:=few4 hg ω
     exact hl.noFin hg r hr) fun s hs=>?_
    obtain⟨r,hr,_⟩:=(hs.joint hk ω).fin hg hu.gl he;exact hl.noFin hg r hr
   ·rw[if_pos rfl];have hF:Fin G true r:=⟨hr,h2000⟩;have hel:=hF.el;refine fun _=>?_;by_cases h400:400<r.words.length
    ·rw[if_pos ω];have hle:=Jbm D hk.symm c;have hl0:=hu.len ω
     refine h3 D (by
      apply Classical.byContradiction;intro hc;obtain⟨r',hr',h4⟩:=few4 hg ω;have:=(hF.uniq hg hr').2;rw[this] at h400
      omega) fun s hs=>?_
     obtain⟨r',hr',h4⟩:=(hs.joint hk ω).fin hg hu.gl he;have:=(hF.uniq hg hr').2;rw[this] at h400;omega
    ·rw[if_neg ω];have hz:=hF.w0 hg;have hrt:=hF.1.rt.1;have hr0:=(hF.1.rt.2 0 hz.2).1;rw[show ((0:Nat):Int)=0 from rfl] at hr0;refine fun _=>⟨ω,ω,J1P ω ⟨ω,ω,ω,ω,ω,ω,?_⟩⟩
     have hP:PartsOk [M] (([]:List part)++[(⟨(0:Int)+M.Start,M.Final,(0:Int)⟩:part)]):=by
      have:=PartsOk.nil.push (M:=M) hst;rw[JdN] at this;exact this
     refine JbK hg hF ω (Jf4 hu hms hg ω ω ω hP hF) (by simp) (by simp) fun w T pl L hw hT hpl hL hLs=>?_;subst hw;exact h0 D _ ((Jf6 hu hms hg ω ω (by simp) ω hP hF ω hT hpl hL hLs rfl).one hk ω)
end
end Sg
namespace Sg
open Go
section
variable {α:Type} {k:Nat} {ρ:Str→α} {s:Syntactic}
theorem Mon.sh (h:Mon k ρ s) (hn:s.Words.length≤400):SH s.Table=true:=by
 have hp:=h.pos;have ht:=h.tl;refine J6D.2 ⟨ω,ω,fun i hi=>J2p.2 ⟨by rw[h.rl i ω,ht],fun j hj=>?_⟩⟩;rw[h.rl i ω] at hj;obtain⟨m,e,hm,_⟩:=h.tb i j ω hj;rw[e,ht];omega
theorem Mon.as_ (h:Mon k ρ s) (hk:k<159) (hr:RC k ρ) (hl:LCm k ρ):AS s.Table:=fun x y z hx hy hz=>by
 rw[h.tl] at hx hy hz
 exact h.assoc hk hr hl hx hy hz
theorem Mon.vt (h:Mon k ρ s) (hn:s.Words.length≤400) (hk:k<159) (hr:RC k ρ) (hl:LCm k ρ):VT s.Table=true:=by
 unfold VT;rw[h.sh hn,decide_eq_true (h.as_ hk hr hl)];rfl
theorem Mon.imB (h:Mon k ρ s):inB s.Table.length s.Images=true:=J2q.2 fun x hx=>by
 rw[h.il] at hx
 obtain⟨m,e,hm,_⟩:=h.im x hx
 rw[e,h.tl];omega
end
section
variable {k:Nat} {ds Ms:List DFA} {gens:List (List Int)} {r:run} {fin:List Bool}
end
section
variable {d:DFA}
end
end Sg
namespace Sg
open Go
theorem JaN {a b:List Str} {K:Bool→Prop} (h1:a=b→K true) (h0:a≠b→K false):Jam a b K:=by
 unfold Jam;intro _ _
 split
 ·rename_i hl;refine LoopWP.scan a.length (fun j=>ix a (j:Int)=ix b (j:Int)) ?_;intro k X hk hI hX
  show J6i a b K X k
  unfold J6i
  split
  ·refine⟨ω,ω,ω,ω,?_⟩
   split
   ·rename_i he;exact hX ω he
   ·rename_i hne;exact h0 fun e=>hne (by rw[e])
  ·exact h1 (J09 ω fun j hj=>hI j ω)
 ·rename_i hl;exact h0 fun e=>hl (by rw[e])
theorem J6J {a b:List Str} {K:Bool→Prop} (h1:a=b→K true) (h0:a≠b→K false):J1q a b K:=JaN h1 h0
theorem J8k {a b:List Bool} {K:Bool→Prop} (h1:a=b→K true) (h0:a≠b→K false):J7i a b K:=by
 unfold J7i;intro _ _
 split
 ·rename_i hl;refine LoopWP.scan a.length (fun j=>ix a (j:Int)=ix b (j:Int)) ?_;intro k X hk hI hX
  show J2Z a b K X k
  unfold J2Z
  split
  ·refine⟨ω,ω,?_⟩;by_cases ea:ix a (k:Int)=true
   ·rw[if_pos ea];refine⟨ω,ω,?_⟩;by_cases eb:ix b (k:Int)=true
    ·rw[if_pos eb];exact hX ω (ea.trans eb.symm)
    ·rw[if_neg eb];exact h0 fun e=>eb (by rw[←e];exact ea)
   ·rw[if_neg ea];refine⟨ω,ω,?_⟩;by_cases eb:ix b (k:Int)=true
    ·rw[if_pos eb];exact h0 fun e=>ea (by rw[e];exact eb)
    ·rw[if_neg eb];exact hX ω (by rw[Bool.not_eq_true] at ea eb;exact ea.trans eb.symm)
  ·exact h1 (J09 ω fun j hj=>hI j ω)
 ·rename_i hl;exact h0 fun e=>hl (by rw[e])
theorem J4m {a b:List Bool} {K:Bool→Prop} (h1:a=b→K true) (h0:a≠b→K false):J1l a b K:=J8k h1 h0
theorem J7u {s:List Bool} (hs:s.length≤1099511627776) {K:List Bool→Prop} (h:K s):J1e s K:=by
 unfold J1e;intro z hz
 split
 ·rename_i h1;rw[hz h1] at h;exact h
 ·exact⟨by simpa using hs,by simpa using h⟩
theorem J4Z {l:List Int} {n:Nat} {K:Bool→Prop} (h:K (inB n l)):J0Y l n K:=by
 unfold J0Y;intro _;refine LoopWP.scan l.length (fun j=>0≤ix l (j:Int)∧ix l (j:Int)<n) ?_;intro k X hk hI hX
 show J2z l n K X k
 unfold J2z
 split
 ·refine⟨ω,ω,?_⟩
  split
  ·rw[J61 (fun hh=>by have:=hh k ω;omega)] at h;exact h
  ·split
   ·rw[J61 (fun hh=>by have:=hh k ω;omega)] at h;exact h
   ·exact hX ω ⟨ω,ω⟩
 ·rw[J2q.2 fun j hj=>hI j ω] at h;exact h
structure ShS (s:Syntactic):Prop where
 l1:1≤s.Letters
 l6:s.Letters≤6
 sh:SH s.Table=true
 wl:s.Words.length=s.Table.length
 al:s.Accept.length=s.Table.length
 pl:s.Plus.length=s.Table.length
 il:(s.Images.length:Int)=s.Letters
 ib:inB s.Table.length s.Images=true
theorem J8a {s:Syntactic} {K:Bool→Prop} (h1:ShS s→K true) (h0:¬ShS s→K false):J1t s K:=by
 unfold J1t;intro _
 split
 ·exact h0 fun h=>by have:=h.l1;omega
 split
 ·exact h0 fun h=>by have:=h.l6;omega
 split
 ·exact h0 fun h=>by have:=(J6D.1 h.sh).1;omega
 split
 ·exact h0 fun h=>by have:=(J6D.1 h.sh).2.1;omega
 refine fun _=>?_
 split
 rotate_left
 ·exact h0 fun h=>by have:=h.wl;omega
 refine fun _=>?_
 split
 rotate_left
 ·exact h0 fun h=>by have:=h.al;omega
 refine fun _=>?_
 split
 rotate_left
 ·exact h0 fun h=>by have:=h.pl;omega
 refine fun _=>?_
 split
 rotate_left
 ·exact h0 fun h=>by have:=h.il;omega
 refine LoopWP.scan s.Table.length (fun j=>rowB s.Table.length (ix s.Table (j:Int))=true) ?_;intro k X hk hI hX
 show J2u s K X k
 unfold J2u
 split
 ·refine⟨ω,ω,fun _=>?_⟩
  split
  ·refine J4Z ?_
   split
   ·rename_i hin;exact hX ω (J2p.2 ⟨ω,J2q.1 hin⟩)
   ·rename_i hin;exact h0 fun h=>hin (J2q.2 (J2p.1 ((J6D.1 h.sh).2.2 k ω)).2)
  ·exact h0 fun h=>by have:=(J2p.1 ((J6D.1 h.sh).2.2 k ω)).1;omega
 ·refine J4Z ?_;by_cases hin:inB s.Table.length s.Images=true
  ·rw[hin];exact h1 ⟨ω,ω,J6D.2 ⟨ω,ω,fun j hj=>hI j ω⟩,ω,ω,ω,ω,hin⟩
  ·rw[Bool.not_eq_true] at hin;rw[hin]
   exact h0 fun h=>by have:=h.ib;rw[hin] at this;cases this
theorem ShS.im {s:Syntactic} (h:ShS s) {x:Nat} (hx:x<s.Images.length):0≤ix s.Images (x:Int)∧ix s.Images (x:Int)<s.Table.length:=J2q.1 h.ib x hx
theorem J6O {s:Syntactic} (H:ShS s) {K:DFA→Prop} (h:K (autS s)):J0W s K:=by
 have T:=SH.tb H.sh;have n4:=T.n4;have hal:=H.al;have hil:=H.il;have l6:=H.l6;unfold J0W;refine fun _=>J7u ω ⟨ω,ω,?_⟩;refine LoopWP.fold s.Table.length (fun k d=>d.length=s.Table.length∧∀j:Nat,j<k→ix d (j:Int)=s.Images.map fun y=>ix (ix s.Table (j:Int)) y) ⟨by simp,fun j hj=>absurd hj (Nat.not_lt_zero _)⟩ ?_;rintro k d X hk ⟨hd,hI⟩ hX
 show J1D s s.Accept K _ k d
 unfold J1D
 split
 ·rename_i hlt;have hrow:=T.row k ω ω;refine⟨ω,ω,ω,ω,ω,ω,fun _=>?_⟩;refine LoopWP.fold s.Images.length (fun i e=>e.length=s.Table.length∧(∀j:Nat,j<k→ix e (j:Int)=s.Images.map fun y=>ix (ix s.Table (j:Int)) y)∧(ix e (k:Int)).length=s.Images.length∧∀x:Nat,x<i→ix (ix e (k:Int)) (x:Int)=ix (ix s.Table (k:Int)) (ix s.Images (x:Int)))
   ⟨by simp[hd],fun j hj=>?_,?_,fun x hx=>absurd hx (Nat.not_lt_zero _)⟩ ?_
  ·rw[ix_st _ ω ω ω,if_neg ω];exact hI j hj
  ·rw[ix_st _ ω ω ω,if_pos rfl];simp;omega
  rintro i e Y hi ⟨he,hJ,hl,hV⟩ hY
  show J1E s k _ K _ i e
  unfold J1E
  split
  ·have him:=H.im (x:=i) ω;refine⟨ω,ω,ω,ω,ω,ω,ω,ω,hY _ ω ⟨by simp[he],fun j hj=>?_,?_,fun x hx=>?_⟩⟩
   ·rw[ix_st _ ω ω ω,if_neg ω];exact hJ j hj
   ·rw[ix_st _ ω ω ω,if_pos rfl];simp[hl]
   ·rw[ix_st _ ω ω ω,if_pos rfl,ix_st _ ω ω ω];by_cases ex:x=i
    ·subst ex;rw[if_pos rfl]
    ·rw[if_neg ω];exact hV x ω
  ·have:i=s.Images.length:=ω;subst this;refine hX _ ω ⟨he,fun j hj=>?_⟩;by_cases ej:j=k
   ·subst ej;refine J09 (by simp[hl]) fun x hx=>?_;rw[hV x ω,J2M _ ω ω]
   ·exact hJ j ω
 ·have:d=s.Table.map fun row=>s.Images.map fun y=>ix row y:=J09 (by simp[hd]) fun j hj=>by
   rw[hI j ω,J2M _ ω ω]
  rw[this];exact h
def Vs (s:Syntactic):Prop:=ShS s∧SynD (autS s) s
theorem J7j {s:Syntactic} {K:Int→Prop} (h0:Vs s→K 0) (h8:¬Vs s→K 8):J15 s K:=by
 unfold J15;refine J8a (fun H=>?_) fun n=>?_
 rotate_left
 ·rw[if_neg (by decide)];exact h8 fun v=>n v.1
 rw[if_pos rfl];refine J6O H (J7c (fun nD=>?_) (fun _ _ n=>?_) fun D r hr=>?_)
 ·rw[if_neg fun e=>nD (J43.1 (daC0.1 e))];refine h8 fun v=>nD ?_;have l6:=H.l6;obtain⟨k,_,hs,_⟩:=v.2.k;have e:s.Letters=k:=hs.mon.le;have l1:=H.l1;exact hs.mon.da hs.acc.al ω ω (by have:=v.2.n;omega)
 ·rw[if_neg (by decide)];exact h8 fun v=>n s v.2
 rw[if_pos rfl];have un:Vs s→r=s:=fun v=>hr.uniq v.2;refine fun _ _=>?_
 split
 rotate_left
 ·rename_i hl;exact h8 fun v=>hl (by rw[un v])
 rename_i hl;refine LoopWP.scan r.Table.length (fun j=>ix r.Table (j:Int)=ix s.Table (j:Int)) ?_;intro k X hk hI hX
 show J1V s r K X k
 unfold J1V
 split
 ·refine⟨ω,ω,ω,ω,J0E ?_⟩
  split
  ·rename_i e;exact hX ω (of_decide_eq_true e)
  ·rename_i e;exact h8 fun v=>e (by rw[un v];simp)
 ·have et:r.Table=s.Table:=J09 ω fun j hj=>hI j ω;refine J6J (fun ew=>?_) fun n=>?_
  rotate_left
  ·rw[if_neg (by decide)];exact h8 fun v=>n (by rw[un v])
  rw[if_pos rfl];refine J0E ?_
  split
  rotate_left
  ·rename_i e;exact h8 fun v=>e (by rw[un v];simp)
  rename_i ei;have ei:=of_decide_eq_true ei;refine J4m (fun ea=>?_) fun n=>?_
  rotate_left
  ·rw[if_neg (by decide)];exact h8 fun v=>n (by rw[un v])
  rw[if_pos rfl];refine J4m (fun ep=>?_) fun n=>?_
  rotate_left
  ·rw[if_neg (by decide)];exact h8 fun v=>n (by rw[un v])
  rw[if_pos rfl];refine h0 ⟨H,?_⟩
  have el:r.Letters=s.Letters:=by
   obtain⟨k,e,hs,_⟩:=hr.k;have e2:r.Letters=k:=hs.mon.le;have e3:(autS s).Letters=s.Letters:=rfl;omega
  have:r=s:=by
   obtain⟨a1,a2,a3,a4,a5,a6⟩:=r;obtain⟨b1,b2,b3,b4,b5,b6⟩:=s;simp only at el et ew ei ea ep;rw[el,et,ew,ei,ea,ep]
  rw[this] at hr;exact hr
theorem SynD.vs {d:DFA} {s:Syntactic} (D:Da d) (h:SynD d s):Vs s:=by
 have l1:=D.l1;have l6:=D.l6;have hv:=(h.self D).2;have hn:=h.n;obtain⟨k,e,hs,_⟩:=h.k;have m:=hs.mon;have hp:=m.pos;have hle:=m.le;exact⟨⟨ω,ω,m.sh hn,m.tl.symm,hs.acc.al.trans m.tl.symm,m.pl.trans m.tl.symm,by rw[m.il];exact m.le.symm,m.imB⟩,hv⟩
end Sg
namespace Sg
open Go
instance (u v:Str):Decidable (SL u v):=by unfold SL;infer_instance
end Sg
namespace Sg
open Go
theorem J6F {d:DFA} (D:Da d) (hf:d.Final.length≤4) {K:Syntactic→Int→Prop} (h0:∀s,SynD d s→K s 0):J1n d K:=
 J7c (fun nD=>absurd D nD) (fun _ h4 _=>by omega) fun _ s hs=>h0 s hs
end Sg
namespace Sg
open Go
end Sg
namespace Sg
open Go
def apS (t:List (List Int)) (x:Int):Prop:=∃i,ipR t x i 1
theorem Jdy {t:List (List Int)} (hv:VT t=true) {x:Int} (hx:0≤x∧x<t.length) {n:Nat} (he:mu t (pow t x n) (pow t x n)=pow t x n):apS t x↔mu t (pow t x n) x=pow t x n:=by
  have T:=SH.tb (VT.sh hv);have hs:∀m,pow t x (m+1)=mu t (pow t x m) x:=fun m=>rfl;constructor
  · rintro⟨i,a,m,r,_,hp⟩;have hm:m=a+1:=ω;subst hm;have e1:pow t x (a+1)=pow t x a:=r.eq
    have st:∀j,pow t x (a+j)=pow t x a:=fun j=>by
      induction j with
      | zero=>rfl
      | succ j ih=>rw[show a+(j+1)=(a+j)+1 by omega,hs,ih,←hs,e1]
    have up:∀j,∃m,n+j≤m∧pow t x m=pow t x n:=fun j=>by
      induction j with
      | zero=>exact⟨n,ω,rfl⟩
      | succ j ih =>
        obtain⟨m,h1,h2⟩:=ih;refine⟨m+n+1,ω,?_⟩;rw[←Jcr hv hx,h2,he]
    obtain⟨m,h1,h2⟩:=up a
    have e2:pow t x n=pow t x a:=by rw[←h2,show m=a+(m-a) by omega];exact st _
    rw[←hs,hs,e2,←hs,e1]
  · intro h;have e1:pow t x (n+1)=pow t x n:=h
    have ex:∃a,a≤n∧pow t x (a+1)=pow t x a∧∀b,b<a→pow t x (b+1)≠pow t x b:=by
      clear he
      have:∀k,∀n,n≤k→pow t x (n+1)=pow t x n→∃a,a≤n∧pow t x (a+1)=pow t x a∧∀b,b<a→pow t x (b+1)≠pow t x b:=fun k=>by
        induction k with
        | zero=>exact fun n hn e=>⟨n,Nat.le_refl _,e,fun b hb=>by omega⟩
        | succ k ih =>
          intro n hn e;by_cases hb:∃b,b<n∧pow t x (b+1)=pow t x b
          · obtain⟨b,hb1,hb2⟩:=hb;obtain⟨a,h1,h2,h3⟩:=ih b ω hb2;exact⟨a,ω,h2,h3⟩
          · exact⟨n,Nat.le_refl _,e,fun b h1 h2=>hb ⟨b,h1,h2⟩⟩
      exact this n n (Nat.le_refl _) e1
    obtain⟨a,_,h2,h3⟩:=ex;refine⟨(a:Int)+1,a,a+1,⟨ω,h2,fun i j hij hj e=>?_⟩,rfl,ω⟩
    have sh:∀c,pow t x (i+c)=pow t x (j+c):=fun c=>by
      induction c with
      | zero=>exact e
      | succ c ih=>rw[show i+(c+1)=(i+c)+1 by omega,show j+(c+1)=(j+c)+1 by omega,hs,hs,ih]
    have st:∀c,pow t x (a+c)=pow t x a:=fun c=>by
      induction c with
      | zero=>rfl
      | succ c ih=>rw[show a+(c+1)=(a+c)+1 by omega,hs,ih,←hs,h2]
    have e3:=sh (a-j);rw[show j+(a-j)=a by omega] at e3;have e4:=sh (a-j+1);rw[show j+(a-j+1)=a+1 by omega,st 1] at e4;exact h3 (i+(a-j)) ω (by rw[show i+(a-j)+1=i+(a-j+1) by omega,e3,e4])
theorem JeR {t:List (List Int)} (hv:VT t=true) {x:Int} (hx:0≤x∧x<t.length):∃n,n≤2*t.length*t.length∧mu t (pow t x n) (pow t x n)=pow t x n:=by
  have T:=SH.tb (VT.sh hv);have hs:∀m,pow t x (m+1)=mu t (pow t x m) x:=fun m=>rfl;obtain⟨a,b,hab,hb,e⟩:=pigeon t.length (pow t x) fun m _=>J9d T hx m
  have per:∀c,pow t x (a+c)=pow t x (b+c):=fun c=>by
    induction c with
    | zero=>exact e
    | succ c ih=>rw[show a+(c+1)=(a+c)+1 by omega,show b+(c+1)=(b+c)+1 by omega,hs,hs,ih]
  have perk:∀k c,a≤c→pow t x (c+k*(b-a))=pow t x c:=fun k=>by
    induction k with
    | zero=>intro c _;simp
    | succ k ih =>
      intro c hc;have:=per (c-a+k*(b-a));rw[show a+(c-a+k*(b-a))=c+k*(b-a) by omega,show b+(c-a+k*(b-a))=c+(k+1)*(b-a) by rw[Nat.succ_mul];omega] at this;rw[←this,ih c hc]
  have hp:1≤b-a:=ω;have hq:a+1≤(a+1)*(b-a):=Nat.le_mul_of_pos_right _ hp;refine⟨(a+1)*(b-a)-1,?_,?_⟩
  · have h1:(a+1)*(b-a)≤t.length*t.length:=Nat.mul_le_mul ω ω
    have h2:t.length*t.length≤2*t.length*t.length:=by
      rw[Nat.mul_assoc,Nat.two_mul];omega
    omega
  · rw[Jcr hv hx];have:=perk (a+1) ((a+1)*(b-a)-1) ω;rw[←this]
    congr 1
    omega
theorem J6L {s:Syntactic} (v:Vs s) (hv:VT s.Table=true) {K:Bool→Prop} (h1:(∀x:Nat,x<s.Table.length→apS s.Table x)→K true) (h0:¬(∀x:Nat,x<s.Table.length→apS s.Table x)→K false):J0r s K:=by
  unfold J0r;refine J7j (fun _=>?_) fun n=>absurd v n;rw[if_pos rfl];have T:=SH.tb v.1.sh;refine fun _=>LoopWP.scan s.Table.length (fun x=>apS s.Table x) ?_;intro x X hx hI hX
  show J1F s K X x
  unfold J1F
  split
  · have hx:(x:Int)<s.Table.length:=by assumption
    have hx':(0:Int)≤x∧(x:Int)<s.Table.length:=⟨ω,hx⟩;obtain⟨N,_,hN⟩:=JeR hv hx';intro Y hY
    have key:∀d n,n+d=N→Y (pow s.Table x n):=fun d=>by
      induction d with
      | zero =>
        intro n hn;obtain rfl:n=N:=ω;refine hY _ ?_
        show J0C s x X K Y _
        unfold J0C;have p:=J9d T hx' n;have r:=T.row _ p.1 p.2;refine⟨ω,ω,ω,ω,?_⟩
        split
        rotate_left
        · rename_i c;exact absurd hN c
        refine⟨ω,ω,ω,ω,?_⟩;have e:=Jdy hv hx' hN
        split
        · rename_i h;exact hX ω (e.2 h)
        · rename_i h;exact h0 fun k=>h (e.1 (k x ω))
      | succ d ih =>
        intro n hn;refine hY _ ?_
        show J0C s x X K Y _
        unfold J0C;have p:=J9d T hx' n;have r:=T.row _ p.1 p.2;refine⟨ω,ω,ω,ω,?_⟩
        split
        · rename_i hi;refine⟨ω,ω,ω,ω,?_⟩;have e:=Jdy hv hx' hi
          split
          · rename_i h;exact hX ω (e.2 h)
          · rename_i h;exact h0 fun k=>h (e.1 (k x ω))
        · exact⟨ω,ω,ω,ω,ih (n+1) ω⟩
    exact key N 0 ω
  · exact h1 fun x hx=>hI x ω
theorem SynD.vt {d:DFA} {s:Syntactic} (D:Da d) (h:SynD d s):VT s.Table=true:=by
 have l6:=D.l6;obtain⟨k,e,o,_⟩:=h.k;exact o.mon.vt h.n ω (J8C _ _) (J9i _ _)
end Sg
namespace Sg
open Go
section
variable {d:DFA} {s:Syntactic}
end
end Sg
namespace Sg
open Go
end Sg
namespace Sg
open Go
end Sg
namespace Sg
open Go
end Sg
namespace Sg
open Go
end Sg
namespace Sg
open Go
end Sg
namespace Sg
open Go
end Sg
namespace Sg
open Go
end Sg
namespace Sg
open Go
section
variable {k:Nat} {ds Ms Ms':List DFA} {i:Nat}
end
end Sg
namespace Sg
open Go
section
variable {ds:List DFA} {s s':Syntactic} {L L':List (List Bool)} {e e':Int}
end
section
variable {α:Type} {k:Nat} {ρ:Str→α} {s:Syntactic}
end
end Sg
