/- -/
import Derived.Test.YtbmaaecppfdjfaaGreatDoorZo
set_option linter.unusedVariables false
set_option linter.unusedSimpArgs false
namespace Sg
open Go
theorem Jcy:∀{W V:List Str},W.Pairwise SL→V.Pairwise SL→(∀w,w∈W↔w∈V)→W=V
  | [],[],_,_,_=>rfl
  | [],v::V,_,_,h=>by have:=(h v).2 (by simp);simp at this
  | w::W,[],_,_,h=>by have:=(h w).1 (by simp);simp at this
  | w :: W, v :: V, hw, hv, h => by
    obtain⟨w1,w2⟩:=List.pairwise_cons.1 hw
    obtain⟨v1,v2⟩:=List.pairwise_cons.1 hv
    have e:w=v:=by
      rcases List.mem_cons.1 ((h w).1 (by simp)) with k | k
      · exact k
      · rcases List.mem_cons.1 ((h v).2 (by simp)) with k2 | k2
        · exact k2.symm
        · exact absurd (v1 w k) (w1 v k2).asymm
    subst e;rw[Jcy w2 v2 fun x=>⟨fun hx=>?_,fun hx=>?_⟩]
    · rcases List.mem_cons.1 ((h x).1 (List.mem_cons_of_mem _ hx)) with k | k
      · subst k;exact absurd (w1 x hx) (SL.irrefl x)
      · exact k
    · rcases List.mem_cons.1 ((h x).2 (List.mem_cons_of_mem _ hx)) with k | k
      · subst k;exact absurd (v1 x hx) (SL.irrefl x)
      · exact k
section
variable {k:Nat} {α β:Type} {ρ:Str→α} {ρ':Str→β}
def RC (k:Nat) (ρ:Str→α):Prop:=∀u v b,LW k u→LW k v→LW k [b]→ρ u=ρ v→ρ (u++[b])=ρ (v++[b])
theorem RC.app (h:RC k ρ) {u v:Str} (hu:LW k u) (hv:LW k v) (he:ρ u=ρ v) {w:Str} (hw:LW k w):ρ (u++w)=ρ (v++w):=by
  induction w using snocRec with
  | nil=>simpa using he
  | snoc w b ih =>
    obtain⟨h1,h2⟩:=LW.app.1 hw;rw[←List.append_assoc,←List.append_assoc];exact h _ _ b (LW.app.2 ⟨hu,h1⟩) (LW.app.2 ⟨hv,h1⟩) h2 (ih h1)
def Lst (k:Nat) (ρ:Str→α) (w:Str):Prop:=LW k w∧∀v,LW k v→ρ v=ρ w→¬SL v w
theorem Lst.pre (hr:RC k ρ) {u v:Str} (h:Lst k ρ (u++v)):Lst k ρ u:=by
 obtain⟨l1,l2⟩:=LW.app.1 h.1;exact⟨l1,fun u' h1 h2 h3=>h.2 (u'++v) (LW.app.2 ⟨h1,l2⟩) (hr.app h1 l1 h2 l2) (h3.Jbr v)⟩
theorem Lst.uniq {u v:Str} (hu:Lst k ρ u) (hv:Lst k ρ v) (h:ρ u=ρ v):u=v:=by
 rcases SL.total u v with c | c | c
 ·exact absurd c (hv.2 u hu.1 h)
 ·exact c
 ·exact absurd c (hu.2 v hv.1 h.symm)
theorem Lst.nil:Lst k ρ []:=⟨LW.nil _,fun v _ _ h=>J93 v h⟩
theorem Jan {w:Str}:LW k w→∃r,Lst k ρ r∧ρ r=ρ w∧(r=w∨SL r w):=by
  induction w using SL.wf.induction with
  | _ w ih =>
    intro hw;by_cases h:Lst k ρ w
    · exact⟨w,h,rfl,.inl rfl⟩
    · have:∃v,LW k v∧ρ v=ρ w∧SL v w:=by
        apply Classical.byContradiction;intro hn;exact h ⟨hw,fun v h1 h2 h3=>hn ⟨v,h1,h2,h3⟩⟩
      obtain⟨v,h1,h2,h3⟩:=this;obtain⟨r,k1,k2,k3⟩:=ih v h3 h1;refine⟨r,k1,k2.trans h2,.inr ?_⟩
      rcases k3 with rfl | k3
      · exact h3
      · exact k3.trans h3
theorem Lst.congr (h:∀u v,LW k u→LW k v→(ρ u=ρ v↔ρ' u=ρ' v)) {w:Str} (hw:Lst k ρ w):Lst k ρ' w:=⟨hw.1,fun v h1 h2=>hw.2 v h1 ((h v w h1 hw.1).2 h2)⟩
structure CL (k:Nat) (ρ:Str→α) (W:List Str) (F:Str→Prop):Prop where
 asc:W.Pairwise SL
 mem:∀w,w∈W↔Lst k ρ w∧F w
variable {W V:List Str} {u:Str} {x:Nat} {F:Str→Prop}
theorem CL.uniq (h:CL k ρ W F) (c:CL k ρ V F):W=V:=
 Jcy h.asc c.asc fun w=>(h.mem w).trans (c.mem w).symm
theorem CL.known (h:CL k ρ W (fun w=>SL w (u++[lt x]))) (hx:x+1<159) {w:Str} (hw:w∈W) (he:ρ w=ρ (u++[lt x])):CL k ρ W (fun w=>SL w (u++[lt (x+1)])):=by
 have hk:=(h.mem w).1 hw;have hn:¬Lst k ρ (u++[lt x]):=fun hr=>hr.2 w hk.1.1 he hk.2;refine⟨h.asc,fun v=>⟨fun hv=>?_,fun hv=>?_⟩⟩
 ·obtain⟨k1,k2⟩:=(h.mem v).1 hv;exact⟨k1,k2.trans (SL.J1C (lt_lt ω ω))⟩
 ·refine(h.mem v).2 ⟨hv.1,?_⟩;apply Classical.byContradiction;intro h2;by_cases h0:u≠[]∨v≠[]
  ·have:=between hx h0 hv.2 h2;rw[this] at hv;exact hn hv.1
  ·simp only[not_or,ne_eq,Classical.not_not] at h0;exact h2 (by rw[h0.2];exact SL.nil (by simp))
theorem CL.new (h:CL k ρ W (fun w=>SL w (u++[lt x]))) (hx:x+1<159) (hw:LW k (u++[lt x])) (hn:∀w∈W,ρ w≠ρ (u++[lt x])):CL k ρ (W++[u++[lt x]]) (fun w=>SL w (u++[lt (x+1)])):=by
 have hr:Lst k ρ (u++[lt x]):=by
  refine⟨hw,fun v h1 h2 h3=>?_⟩;obtain⟨r,k1,k2,k3⟩:=Jan (ρ:=ρ) h1;refine hn r ((h.mem r).2 ⟨k1,?_⟩) (k2.trans h2)
  rcases k3 with rfl | k3
  ·exact h3
  ·exact k3.trans h3
 refine⟨List.pairwise_append.2 ⟨h.asc,List.pairwise_singleton _ _,fun a ha b hb=>?_⟩,fun v=>⟨fun hv=>?_,fun hv=>?_⟩⟩
 ·rw[List.mem_singleton.1 hb];exact((h.mem a).1 ha).2
 ·rcases List.mem_append.1 hv with hv | hv
  ·obtain⟨k1,k2⟩:=(h.mem v).1 hv;exact⟨k1,k2.trans (SL.J1C (lt_lt ω ω))⟩
  ·rw[List.mem_singleton.1 hv];exact⟨hr,SL.J1C (lt_lt ω ω)⟩
 ·by_cases h2:SL v (u++[lt x])
  ·exact List.mem_append.2 (.inl ((h.mem v).2 ⟨hv.1,h2⟩))
  ·refine List.mem_append.2 (.inr (List.mem_singleton.2 ?_));by_cases h0:u≠[]∨v≠[]
   ·exact between hx h0 hv.2 h2
   ·simp only[not_or,ne_eq,Classical.not_not] at h0;exact absurd (by rw[h0.2];exact SL.nil (by simp)) h2
theorem CL.congrF {G:Str→Prop} (h:CL k ρ W F) (e:∀w,Lst k ρ w→(F w↔G w)):CL k ρ W G:=
 ⟨h.asc,fun w=>(h.mem w).trans ⟨fun c=>⟨c.1,(e w c.1).1 c.2⟩,fun c=>⟨c.1,(e w c.1).2 c.2⟩⟩⟩
theorem CL.start:CL k ρ [[]] (fun w=>SL w ([]++[lt 0])):=by
  refine⟨List.pairwise_singleton _ _,fun w=>⟨fun h=>?_,fun h=>?_⟩⟩
  · rw[List.mem_singleton.1 h];exact⟨Lst.nil,SL.nil (by simp)⟩
  · rw[List.mem_singleton]
    cases w with
    | nil=>rfl
    | cons a w =>
      exfalso;have ha:=h.1.1 a (by simp)
      rcases h.2 with hs | ⟨hl,hs⟩
      · simp at hs
      · have:w=[]:=List.eq_nil_of_length_eq_zero (by simpa using hl);subst this;rw[List.nil_append,J2l,J0j ω] at hs
        rcases hs with hs | ⟨_,hs⟩
        · omega
        · simp[slt] at hs
theorem gapC (hk:k<159) {u p:Str} {b:UInt8} (hb:LW k [b]) (h:¬SL (p++[b]) (u++[lt k])):SL u p:=by
 have hbk:=(LW.one.1 hb).2
 have hbl:b.toNat<(lt k).toNat:=by rw[J0j hk];omega
 rcases SL.total u p with e | e | e
 ·exact e
 ·subst e;exact absurd (SL.J1C hbl) h
 ·refine absurd ?_ h
  rcases e with e | ⟨e,e2⟩
  ·exact .inl (by simp;omega)
  ·exact .inr ⟨by simp[e],J6Y e e2⟩
theorem SL.up {u u':Str} (h:SL u u') {w:Str} {a b:UInt8} (hw:SL w (u++[a])):SL w (u'++[b]):=by
 refine hw.trans ?_
 rcases h with h | ⟨h,h2⟩
 ·exact .inl (by simp;omega)
 ·exact .inr ⟨by simp[h],J6Y h h2⟩
theorem CL.next (hr:RC k ρ) (hk:k<159) {d:Nat} (h:CL k ρ W (fun w=>SL w (ix W d++[lt k]))) (hd:d+1<W.length):CL k ρ W (fun w=>SL w (ix W ((d+1:Nat):Int)++[lt 0])):=by
 refine h.congrF fun w hw=>⟨fun hF=>SL.up (J8p h.asc ω hd) hF,fun hF=>?_⟩;by_cases h0:w=[]
 ·subst h0;exact SL.nil (by simp)
 ·obtain⟨p,b,rfl⟩:=snocEx h0;apply Classical.byContradiction;intro hn;have h2:=gapC hk (LW.app.1 hw.1).2 hn
  have h3:SL p (ix W ((d+1:Nat):Int)):=by
   rcases SL.snoc hF with c | ⟨_,c⟩
   ·exact c
   ·rw[J0j ω] at c;have:=(LW.one.1 (LW.app.1 hw.1).2).1;omega
  have hu':ix W ((d+1:Nat):Int)∈W:=J0f.2 ⟨d+1,hd,rfl⟩;have hpW:p∈W:=(h.mem p).2 ⟨hw.pre hr,h3.trans ((h.mem _).1 hu').2⟩;obtain⟨j,hj,rfl⟩:=J0f.1 hpW;have:=J60 h.asc ω hj h2;have:=J60 h.asc hj hd h3;omega
theorem CL.all (hr:RC k ρ) (hk:k<159) {d:Nat} (h:CL k ρ W (fun w=>SL w (ix W d++[lt k]))) (hd:d+1=W.length):CL k ρ W (fun _=>True):=by
  refine⟨h.asc,fun w=>⟨fun hw=>⟨((h.mem w).1 hw).1,trivial⟩,fun hw=>?_⟩⟩
  have key:∀w:Str,Lst k ρ w→w∈W:=by
    intro w
    induction w using snocRec with
    | nil=>exact fun hw=>(h.mem _).2 ⟨hw,SL.nil (by simp)⟩
    | snoc p b ih =>
      intro hw;refine(h.mem _).2 ⟨hw,?_⟩;apply Classical.byContradiction;intro hn;have h2:=gapC hk (LW.app.1 hw.1).2 hn;obtain⟨j,hj,rfl⟩:=J0f.1 (ih (hw.pre hr));have:=J60 h.asc ω hj h2;omega
  exact key w hw.1
theorem CL.congrR (hc:∀u v,LW k u→LW k v→(ρ u=ρ v↔ρ' u=ρ' v)) (h:CL k ρ W F):CL k ρ' W F:=
 ⟨h.asc,fun w=>(h.mem w).trans ⟨fun c=>⟨c.1.congr hc,c.2⟩,fun c=>⟨c.1.congr fun u v hu hv=>(hc u v hu hv).symm,c.2⟩⟩⟩
theorem CL.place (h:CL k ρ W (fun _=>True)) {w:Str} (hw:LW k w):∃j:Nat,j<W.length∧ρ (ix W j)=ρ w:=by
 obtain⟨r,h1,h2,_⟩:=Jan (ρ:=ρ) hw;obtain⟨j,hj,e⟩:=J0f.1 ((h.mem r).2 ⟨h1,trivial⟩);exact⟨j,hj,by rw[e];exact h2⟩
theorem CL.inj (h:CL k ρ W F) {i j:Nat} (hi:i<W.length) (hj:j<W.length) (e:ρ (ix W i)=ρ (ix W j)):i=j:=
 J74 h.asc hi hj (((h.mem _).1 (J0f.2 ⟨i,hi,rfl⟩)).1.uniq ((h.mem _).1 (J0f.2 ⟨j,hj,rfl⟩)).1 e)
theorem CL.lw (h:CL k ρ W F) {i:Nat} (hi:i<W.length):LW k (ix W i):=((h.mem _).1 (J0f.2 ⟨i,hi,rfl⟩)).1.1
theorem CL.zero (h:CL k ρ W (fun _=>True)):ix W 0=[]∧0<W.length:=by
 obtain⟨j,hj,e⟩:=J0f.1 ((h.mem []).2 ⟨Lst.nil,trivial⟩)
 rcases Nat.eq_zero_or_pos j with h0 | h0
 ·subst h0;exact⟨e,hj⟩
 ·have:=J8p h.asc h0 hj;rw[e] at this;exact absurd this (J93 _)
end
end Sg
namespace Sg
open Go
theorem J5s (d:DFA) (q:Int) (u v:Str):rn d q (u++v)=rn d (rn d q u) v:=by simp[rn]
theorem JcS (d:DFA) (q:Int):rn d q []=q:=rfl
theorem J4G (d:DFA) (q:Int) (u:Str) {x:Nat} (hx:x<159):rn d q (u++[lt x])=ix (ix d.Next (rn d q u)) (x:Int):=by
 rw[J5s]
 show ix (ix d.Next (rn d q u)) (((lt x).toNat:Int)-97)=_
 rw[J0j hx]
 congr 1
 omega
theorem rn_lw {d:DFA} (D:Da d) {k:Nat} (hk:(k:Int)=d.Letters) {w:Str}:LW k w→∀{q:Int},0≤q→q<d.Final.length→0≤rn d q w∧rn d q w<d.Final.length:=by
  induction w using snocRec with
  | nil=>exact fun _ _ h0 h1=>⟨h0,h1⟩
  | snoc w b ih =>
    intro hw q h0 h1;obtain⟨hw1,hw2⟩:=LW.app.1 hw;have hl:=D.l6;obtain⟨x,hx,rfl⟩:=LW.letter ω hw2;obtain⟨k0,k1⟩:=ih hw1 h0 h1;rw[J4G d q w ω];exact(D.at_ k0 k1 ω ω).2
theorem rn_RC (d:DFA) (k:Nat) (q:Int):RC k (fun w=>rn d q w):=fun u v b _ _ _ h=>by
 show rn d q (u++[b])=rn d q (v++[b])
 rw[J5s,J5s]
 exact congrArg (rn d · [b]) h
def beh (d:DFA) (k:Nat) (q:Int):{w:Str // LW k w}→Bool:=fun w=>ix d.Final (rn d q w.1)
def nero (d:DFA) (k:Nat) (u:Str):{w:Str // LW k w}→Bool:=beh d k (rn d d.Start u)
theorem J8Z (d:DFA) (k:Nat):RC k (nero d k):=fun u v b hu hv hb h=>by
 funext w
 have:=congrFun h ⟨[b]++w.1,LW.app.2 ⟨hb,w.2⟩⟩
 simp only[nero,beh,←J5s] at this ⊢
 simpa using this
theorem J5z {d:DFA} {k:Nat} {u v:Str}:nero d k u=nero d k v↔∀w,LW k w→ix d.Final (rn d d.Start (u++w))=ix d.Final (rn d d.Start (v++w)):=by
 constructor
 ·intro h w hw;have:=congrFun h ⟨w,hw⟩;simpa only[nero,beh,←J5s] using this
 ·intro h
  funext w
  simpa only[nero,beh,←J5s] using h w.1 w.2
structure Can {α:Type} (k:Nat) (ρ:Str→α) (φ:Str→Bool) (m:DFA) (W:List Str):Prop where
 cl:CL k ρ W (fun _=>True)
 le:m.Letters=k
 st:m.Start=0
 fl:m.Final.length=W.length
 nl:m.Next.length=W.length
 fin:∀i:Nat,i<W.length→ix m.Final i=φ (ix W i)
 row:∀i:Nat,i<W.length→(ix m.Next i).length=k
 nx:∀i x:Nat,i<W.length→x<k→∃j:Nat,ix (ix m.Next i) x=j∧j<W.length∧ρ (ix W j)=ρ (ix W i++[lt x])
section
variable {α β:Type} {k:Nat} {ρ:Str→α} {ρ':Str→β} {φ:Str→Bool} {m m':DFA} {W W':List Str}
theorem Can.uniq (h:Can k ρ φ m W) (h':Can k ρ φ m' W'):m=m'∧W=W':=by
 have e:=h.cl.uniq h'.cl;subst e;refine⟨?_,rfl⟩;obtain⟨a1,a2,a3,a4⟩:=m;obtain⟨b1,b2,b3,b4⟩:=m';have hl:a1=b1:=h.le.trans h'.le.symm;have hs:a2=b2:=h.st.trans h'.st.symm
 have hf:a3=b3:=J09 (h.fl.trans h'.fl.symm) fun j hj=>by
  have hj:j<W.length:=by rw[←h.fl];exact hj
  exact(h.fin j hj).trans (h'.fin j hj).symm
 have hn:a4=b4:=J09 (h.nl.trans h'.nl.symm) fun j hj=>by
  have hj:j<W.length:=by rw[←h.nl];exact hj
  refine J09 ((h.row j hj).trans (h'.row j hj).symm) fun x hx=>?_
  have hx:x<k:=by rw[←h.row j hj];exact hx
  obtain⟨i1,e1,l1,r1⟩:=h.nx j x hj hx;obtain⟨i2,e2,l2,r2⟩:=h'.nx j x hj hx;have:=h.cl.inj l1 l2 (r1.trans r2.symm);subst this;exact e1.trans e2.symm
 rw[hl,hs,hf,hn]
theorem Can.congrR (hc:∀u v,LW k u→LW k v→(ρ u=ρ v↔ρ' u=ρ' v)) (hk:k<159) (h:Can k ρ φ m W):Can k ρ' φ m W:=by
 refine⟨h.cl.congrR hc,h.le,h.st,h.fl,h.nl,h.fin,h.row,fun i x hi hx=>?_⟩;obtain⟨j,e,hj,r⟩:=h.nx i x hi hx;exact⟨j,e,hj,(hc _ _ (h.cl.lw hj) (LW.app.2 ⟨h.cl.lw hi,LW.lt hx hk⟩)).1 r⟩
theorem Can.congrF {φ':Str→Bool} (hc:∀u,LW k u→φ u=φ' u) (h:Can k ρ φ m W):Can k ρ φ' m W:=
 ⟨h.cl,h.le,h.st,h.fl,h.nl,fun i hi=>(h.fin i hi).trans (hc _ (h.cl.lw hi)),h.row,h.nx⟩
theorem Can.run (h:Can k ρ φ m W) (hr:RC k ρ) (hk:k<159) {w:Str}:LW k w→∃j:Nat,rn m 0 w=j∧j<W.length∧ρ (ix W j)=ρ w:=by
  induction w using snocRec with
  | nil=>exact fun _=>⟨0,rfl,h.cl.zero.2,by rw[show ((0:Nat):Int)=0 from rfl,h.cl.zero.1]⟩
  | snoc w b ih =>
    intro hw;obtain⟨hw1,hw2⟩:=LW.app.1 hw;obtain⟨x,hx,rfl⟩:=LW.letter hk hw2;obtain⟨i,e1,hi,r1⟩:=ih hw1;obtain⟨j,e2,hj,r2⟩:=h.nx i x hi hx;refine⟨j,?_,hj,r2.trans (hr _ _ _ (h.cl.lw hi) hw1 hw2 r1)⟩;rw[J4G _ _ _ ω,e1,e2]
theorem Can.acc (h:Can k ρ φ m W) (hr:RC k ρ) (hk:k<159) (hφ:∀u v,LW k u→LW k v→ρ u=ρ v→φ u=φ v) {w:Str} (hw:LW k w):ix m.Final (rn m m.Start w)=φ w:=by
 rw[h.st];obtain⟨j,e,hj,r⟩:=h.run hr hk hw;rw[e,h.fin j hj];exact hφ _ _ (h.cl.lw hj) hw r
theorem Can.da (h:Can k ρ φ m W) (h1:1≤k) (h6:k≤6) (hW:W.length≤512):Da m:=by
 have hz:=h.cl.zero.2;refine⟨by rw[h.le];omega,by rw[h.le];omega,by rw[h.fl];omega,by rw[h.fl];exact hW,by rw[h.nl,h.fl],by rw[h.st];omega,by rw[h.st,h.fl];omega,fun j hj=>?_,fun j i hj hi=>?_⟩
 ·rw[h.le,h.row j (by rw[←h.nl];exact hj)]
 ·have hj:j<W.length:=by rw[←h.nl];exact hj
  have hi:i<k:=by rw[←h.row j hj];exact hi
  obtain⟨l,e,hl,_⟩:=h.nx j i hj hi;rw[e,h.fl];exact⟨ω,ω⟩
end
theorem CL.le {k:Nat} {ρ:Str→Int} {W:List Str} {F:Str→Prop} (h:CL k ρ W F) {n:Nat} (hn:∀w,LW k w→0≤ρ w∧ρ w<n):W.length≤n:=by
 apply Classical.byContradiction;intro hc;obtain⟨a,b,h1,h2,e⟩:=pigeon n (fun m=>ρ (ix W (m:Int))) fun m hm=>hn _ (h.lw ω);have:=h.inj (show a<W.length by omega) (show b<W.length by omega) e;omega
end Sg
namespace Sg
open Go
structure Nmb (p:List Int) (c:Nat):Prop where
 rg:∀q:Nat,q<p.length→∃a:Nat,ix p q=a∧a<c
 on:∀a:Nat,a<c→∃q:Nat,q<p.length∧ix p q=a
 fst:∀q a:Nat,q<p.length→(a:Int)<ix p q→∃j:Nat,j<q∧ix p j=a
def Fin2 (p r:List Int):Prop:=∀q q':Nat,q<p.length→q'<p.length→ix p q=ix p q'→ix r q=ix r q'
theorem Nmb.nil:Nmb [] 0:=⟨fun q h=>by simp at h,fun a h=>by omega,fun q a h=>by simp at h⟩
theorem Nmb.finer {p r:List Int} {c c':Nat} (h:Nmb p c) (h':Nmb r c') (hl:p.length=r.length) (k:Fin2 r p):c≤c'∧(c=c'→Fin2 p r):=by
 have rep:∀a:Nat,∃q:Nat,a<c→q<p.length∧ix p q=a:=fun a=>by
  by_cases ha:a<c
  ·obtain⟨q,h1,h2⟩:=h.on a ha;exact⟨q,fun _=>⟨h1,h2⟩⟩
  ·exact⟨0,fun h=>absurd h ha⟩
 obtain⟨f,hf⟩:=Classical.axiomOfChoice rep
 have inr:∀q:Nat,q<p.length→0≤ix r (q:Int)∧ix r (q:Int)<c':=fun q hq=>by
  obtain⟨a,e,ha⟩:=h'.rg q ω;omega
 have key:∀a b:Nat,a<c→b<c→ix r (f a:Int)=ix r (f b:Int)→a=b:=fun a b ha hb e=>by
  have:=k (f a) (f b) (by have:=(hf a ha).1;omega) (by have:=(hf b hb).1;omega) e;rw[(hf a ha).2,(hf b hb).2] at this;omega
 refine⟨?_,?_⟩
 ·apply Classical.byContradiction;intro hc;obtain⟨a,b,h1,h2,e⟩:=pigeon c' (fun m=>ix r (f m:Int)) fun m hm=>inr _ (hf m ω).1;have:=key a b ω ω e;omega
 ·rintro rfl q q' hq hq' e;apply Classical.byContradiction;intro hne;obtain⟨a0,e0,h0⟩:=h.rg q hq
  have:∃z:Nat,z<p.length∧ix p z=a0∧ix r z≠ix r (f a0:Int):=by
   by_cases hz:ix r (q:Int)=ix r (f a0:Int)
   ·exact⟨q',hq',by rw[←e,e0],fun h=>hne (by rw[hz,h])⟩
   ·exact⟨q,hq,e0,hz⟩
  obtain⟨z,hz,ez,nz⟩:=this
  obtain⟨a,b,h1,h2,e⟩:=pigeon c (fun m=>if m<c then ix r (f m:Int) else ix r (z:Int)) fun m hm=>by
   try simp only
   split
   ·rename_i hm;exact inr _ (hf m hm).1
   ·exact inr _ hz
  try simp only at e
  rw[if_pos ω] at e;by_cases hb:b<c
  ·rw[if_pos hb] at e;have:=key a b ω hb e;omega
  ·rw[if_neg hb] at e;have:=k (f a) z (by have:=(hf a ω).1;omega) ω e;rw[(hf a ω).2,ez] at this;have:a=a0:=ω;subst this;exact nz e.symm
theorem Nmb.le {p:List Int} {c:Nat} (h:Nmb p c):c≤p.length:=by
 apply Classical.byContradiction;intro hc
 have rep:∀a:Nat,∃q:Nat,a<c→q<p.length∧ix p q=a:=fun a=>by
  by_cases ha:a<c
  ·obtain⟨q,h1,h2⟩:=h.on a ha;exact⟨q,fun _=>⟨h1,h2⟩⟩
  ·exact⟨0,fun h=>absurd h ha⟩
 obtain⟨f,hf⟩:=Classical.axiomOfChoice rep
 obtain⟨a,b,h1,h2,e⟩:=pigeon p.length (fun m=>(f m:Int)) fun m hm=>by have:=(hf m ω).1;omega
 have ea:=(hf a ω).2;have eb:=(hf b ω).2
 have:f a=f b:=by have e:(f a:Int)=(f b:Int):=e;omega
 rw[this] at ea;omega
theorem Nmb.old {p:List Int} {c a:Nat} (h:Nmb p c) (ha:a<c):Nmb (p++[(a:Int)]) c:=by
 have e1:∀q:Nat,q<p.length→ix (p++[(a:Int)]) q=ix p q:=fun q hq=>by
  simp[J9O,List.getD_eq_getElem?_getD,List.getElem?_append_left hq]
 have e2:ix (p++[(a:Int)]) (p.length:Nat)=a:=by simp[J9O,List.getD_eq_getElem?_getD]
 refine⟨fun q hq=>?_,fun b hb=>?_,fun q b hq hb=>?_⟩
 ·by_cases hp:q<p.length
  ·rw[e1 q hp];exact h.rg q hp
  ·have:q=p.length:=by simp at hq;omega
   subst this;exact⟨a,e2,ha⟩
 ·obtain⟨q,h1,h2⟩:=h.on b hb;exact⟨q,by simp;omega,by rw[e1 q h1,h2]⟩
 ·by_cases hp:q<p.length
  ·rw[e1 q hp] at hb;obtain⟨j,h1,h2⟩:=h.fst q b hp hb;exact⟨j,h1,by rw[e1 j ω,h2]⟩
  ·have:q=p.length:=by simp at hq;omega
   subst this;rw[e2] at hb;obtain⟨j,h1,h2⟩:=h.on b ω;exact⟨j,h1,by rw[e1 j h1,h2]⟩
theorem Nmb.new {p:List Int} {c:Nat} (h:Nmb p c):Nmb (p++[(c:Int)]) (c+1):=by
 have e1:∀q:Nat,q<p.length→ix (p++[(c:Int)]) q=ix p q:=fun q hq=>by
  simp[J9O,List.getD_eq_getElem?_getD,List.getElem?_append_left hq]
 have e2:ix (p++[(c:Int)]) (p.length:Nat)=c:=by simp[J9O,List.getD_eq_getElem?_getD]
 refine⟨fun q hq=>?_,fun b hb=>?_,fun q b hq hb=>?_⟩
 ·by_cases hp:q<p.length
  ·rw[e1 q hp];obtain⟨a,e,ha⟩:=h.rg q hp;exact⟨a,e,ω⟩
  ·have:q=p.length:=by simp at hq;omega
   subst this;exact⟨c,e2,ω⟩
 ·by_cases hc:b<c
  ·obtain⟨q,h1,h2⟩:=h.on b hc;exact⟨q,by simp;omega,by rw[e1 q h1,h2]⟩
  ·have:b=c:=ω;subst this;exact⟨p.length,by simp,e2⟩
 ·by_cases hp:q<p.length
  ·rw[e1 q hp] at hb;obtain⟨j,h1,h2⟩:=h.fst q b hp hb;exact⟨j,h1,by rw[e1 j ω,h2]⟩
  ·have:q=p.length:=by simp at hq;omega
   subst this;rw[e2] at hb;obtain⟨j,h1,h2⟩:=h.on b ω;exact⟨j,h1,by rw[e1 j h1,h2]⟩
structure Keeps (k:Nat) (d:DFA) (p:List Int):Prop where
 fin:∀q q':Nat,q<p.length→q'<p.length→ix p q=ix p q'→ix d.Final q=ix d.Final q'
 nx:∀q q' x:Nat,q<p.length→q'<p.length→x<k→ix p q=ix p q'→ix p (ix (ix d.Next q) x)=ix p (ix (ix d.Next q') x)
def Holds (k:Nat) (d:DFA) (p:List Int):Prop:=∀q q':Nat,q<p.length→q'<p.length→beh d k q=beh d k q'→ix p q=ix p q'
theorem Keeps.beh {k:Nat} {d:DFA} {p:List Int} (h:Keeps k d p) (D:Da d) (hk:(k:Int)=d.Letters) (hl:p.length=d.Final.length) {w:Str}:LW k w→∀q q':Nat,q<p.length→q'<p.length→ix p q=ix p q'→ix p (rn d q w)=ix p (rn d q' w):=by
  have hk6:=D.l6
  induction w using snocRec with
  | nil=>exact fun _ q q' _ _ e=>e
  | snoc w b ih =>
    intro hw q q' hq hq' e;obtain⟨hw1,hw2⟩:=LW.app.1 hw;obtain⟨x,hx,rfl⟩:=LW.letter ω hw2;have r1:=rn_lw D hk hw1 (q:=q) ω ω;have r2:=rn_lw D hk hw1 (q:=q') ω ω;rw[J4G _ _ _ ω,J4G _ _ _ ω];have:=ih hw1 q q' hq hq' e;obtain⟨a,ea⟩:=Int.eq_ofNat_of_zero_le r1.1;obtain⟨b,eb⟩:=Int.eq_ofNat_of_zero_le r2.1;rw[ea,eb] at this ⊢;exact h.nx a b x ω ω hx this
theorem Keeps.nero {k:Nat} {d:DFA} {p:List Int} (h:Keeps k d p) (D:Da d) (hk:(k:Int)=d.Letters) (hl:p.length=d.Final.length) {q q':Nat} (hq:q<p.length) (hq':q'<p.length) (e:ix p q=ix p q'):Sg.beh d k q=Sg.beh d k q':=by
 funext w
 have r1:=rn_lw D hk w.2 (q:=q) ω ω;have r2:=rn_lw D hk w.2 (q:=q') ω ω;have:=h.beh D hk hl w.2 q q' hq hq' e
 show ix d.Final (rn d q w.1)=ix d.Final (rn d q' w.1)
 obtain⟨a,ea⟩:=Int.eq_ofNat_of_zero_le r1.1;obtain⟨b,eb⟩:=Int.eq_ofNat_of_zero_le r2.1;rw[ea,eb] at this ⊢;exact h.fin a b ω ω this
theorem Jeh {k:Nat} {d:DFA} (hk:k<159) {q q':Int} (h:beh d k q=beh d k q') {x:Nat} (hx:x<k):beh d k (ix (ix d.Next q) x)=beh d k (ix (ix d.Next q') x):=by
 funext w
 have:=congrFun h ⟨[lt x]++w.1,LW.app.2 ⟨LW.lt hx hk,w.2⟩⟩;simp only[beh,J5s] at this;have e:∀q,rn d q [lt x]=ix (ix d.Next q) (x:Int):=fun q=>J4G d q [] (x:=x) ω;simpa only[beh,e] using this
structure Quo (k:Nat) (d:DFA) (p:List Int) (Q:DFA):Prop where
 le:Q.Letters=k
 st:Q.Start=ix p d.Start
 nl:Q.Next.length=Q.Final.length
 rg:∀q:Nat,q<p.length→∃a:Nat,ix p q=a∧a<Q.Final.length
 on:∀a:Nat,a<Q.Final.length→∃q:Nat,q<p.length∧ix p q=a∧ix Q.Final a=ix d.Final q∧(ix Q.Next a).length=k∧∀x:Nat,x<k→ix (ix Q.Next a) x=ix p (ix (ix d.Next q) x)
section
variable {k:Nat} {d Q:DFA} {p:List Int}
theorem Quo.da (h:Quo k d p Q) (D:Da d) (hk:(k:Int)=d.Letters) (hl:p.length=d.Final.length) (hn:Q.Final.length≤512):Da Q:=by
 have hd:=D.f1;obtain⟨a,ea,ha⟩:=h.rg 0 ω;have s0:=D.s0;have s1:=D.s1;obtain⟨s,es⟩:=Int.eq_ofNat_of_zero_le s0;obtain⟨b,eb,hb⟩:=h.rg s ω;have hst:=h.st;rw[es,eb] at hst;refine⟨by rw[h.le,hk];exact D.l1,by rw[h.le,hk];exact D.l6,ω,hn,h.nl,ω,ω,fun j hj=>?_,fun j i hj hi=>?_⟩
 ·obtain⟨q,hq,_,_,hr,_⟩:=h.on j (by rw[←h.nl];exact hj);rw[hr,h.le]
 ·obtain⟨q,hq,_,_,hr,hx⟩:=h.on j (by rw[←h.nl];exact hj);rw[hx i ω];have:=D.at_ (q:=q) (x:=i) ω ω ω ω;obtain⟨c,ec⟩:=Int.eq_ofNat_of_zero_le this.2.1;rw[ec] at this ⊢;obtain⟨a,ea,ha⟩:=h.rg c ω;rw[ea];omega
theorem Quo.rn (h:Quo k d p Q) (K:Keeps k d p) (D:Da d) (hk:(k:Int)=d.Letters) (hl:p.length=d.Final.length) {w:Str}:LW k w→∀q:Nat,q<p.length→rn Q (ix p q) w=ix p (rn d q w):=by
  have hk6:=D.l6
  induction w using snocRec with
  | nil=>exact fun _ q _=>rfl
  | snoc w b ih =>
    intro hw q hq;obtain⟨hw1,hw2⟩:=LW.app.1 hw;obtain⟨x,hx,rfl⟩:=LW.letter ω hw2;have r1:=rn_lw D hk hw1 (q:=q) ω ω;rw[J4G _ _ _ ω,J4G _ _ _ ω,ih hw1 q hq];obtain⟨a,ea⟩:=Int.eq_ofNat_of_zero_le r1.1;rw[ea] at r1 ⊢;obtain⟨c,ec,hc⟩:=h.rg a ω;obtain⟨q',hq',e',_,_,hx'⟩:=h.on c hc;rw[ec,hx' x hx];exact K.nx q' a x hq' ω hx (by rw[e',ec])
theorem Quo.fin (h:Quo k d p Q) (K:Keeps k d p) {q:Nat} (hq:q<p.length):ix Q.Final (ix p q)=ix d.Final q:=by
 obtain⟨c,ec,hc⟩:=h.rg q hq;obtain⟨q',hq',e',hf,_⟩:=h.on c hc;rw[ec,hf];exact K.fin q' q hq' hq (by rw[e',ec])
theorem Quo.can {m:DFA} {W:List Str} (h:Quo k d p Q) (K:Keeps k d p) (H:Holds k d p) (D:Da d) (hk:(k:Int)=d.Letters) (hl:p.length=d.Final.length)
  (c:Can k (fun w=>Sg.rn Q Q.Start w) (fun w=>ix Q.Final (Sg.rn Q Q.Start w)) m W):Can k (nero d k) (fun w=>ix d.Final (Sg.rn d d.Start w)) m W:=by
 have hk6:=D.l6;obtain⟨s,es⟩:=Int.eq_ofNat_of_zero_le D.s0
 have hs:s<p.length:=by have:=D.s1;omega
 have e:∀w,LW k w→Sg.rn Q Q.Start w=ix p (Sg.rn d d.Start w):=fun w hw=>by
  rw[h.st,es];exact h.rn K D hk hl hw s hs
 have r:∀w,LW k w→∃a:Nat,Sg.rn d d.Start w=a∧a<p.length:=fun w hw=>by
  have:=rn_lw D hk hw D.s0 D.s1;obtain⟨a,ea⟩:=Int.eq_ofNat_of_zero_le this.1;exact⟨a,ea,ω⟩
 refine Can.congrF (φ:=fun w=>ix Q.Final (Sg.rn Q Q.Start w)) (fun u hu=>?_) (c.congrR (ρ':=Sg.nero d k) (fun u v hu hv=>?_) ω)
 ·obtain⟨a,ea,ha⟩:=r u hu
  show ix Q.Final (Sg.rn Q Q.Start u)=_
  rw[e u hu,ea];exact h.fin K ha
 ·obtain⟨a,ea,ha⟩:=r u hu;obtain⟨b,eb,hb⟩:=r v hv
  show Sg.rn Q Q.Start u=Sg.rn Q Q.Start v↔Sg.beh d k (Sg.rn d d.Start u)=Sg.beh d k (Sg.rn d d.Start v)
  rw[e u hu,e v hv,ea,eb];exact⟨fun h=>K.nero D hk hl ha hb h,fun h=>H a b ha hb h⟩
theorem Can.trim {t m:DFA} {V W:List Str} (D:Da d) (hk:(k:Int)=d.Letters) (hk9:k<159) (c:Can k (fun w=>Sg.rn d d.Start w) (fun w=>ix d.Final (Sg.rn d d.Start w)) t V)
  (h:Can k (nero t k) (fun w=>ix t.Final (Sg.rn t t.Start w)) m W):Can k (nero d k) (fun w=>ix d.Final (Sg.rn d d.Start w)) m W:=by
 have e:∀w,LW k w→ix t.Final (Sg.rn t t.Start w)=ix d.Final (Sg.rn d d.Start w):=fun w hw=>c.acc (rn_RC d k d.Start) hk9 (fun u v _ _ h=>by have h:Sg.rn d d.Start u=Sg.rn d d.Start v:=h;rw[h]) hw;refine Can.congrF e (h.congrR (fun u v hu hv=>?_) hk9);rw[J5z,J5z]
 exact forall_congr' fun w=>forall_congr' fun hw=>by rw[e _ (LW.app.2 ⟨hu,hw⟩),e _ (LW.app.2 ⟨hv,hw⟩)]
end
end Sg
namespace Sg
open Go
section
variable {κ:Type} [DecidableEq κ]
structure NumI (f:Nat→κ) (q:Nat) (p:List Int) (m:List (κ×Int)):Prop where
 len:p.length=q
 nmb:Nmb p m.length
 has:∀a,mhas m a=true↔∃j,j<q∧f j=a
 val:∀j:Nat,j<q→ix p (j:Int)=mgt m (f j)
 rg:∀a,mhas m a=true→0≤mgt m a∧mgt m a<m.length
 inj:∀a b,mhas m a=true→mhas m b=true→mgt m a=mgt m b→a=b
variable {f:Nat→κ} {q:Nat} {p:List Int} {m:List (κ×Int)}
theorem NumI.start:NumI f 0 [] []:=⟨rfl,Nmb.nil,fun a=>by simp[mhas],fun j h=>by omega,fun a h=>by simp[mhas] at h,fun a b h=>by simp[mhas] at h⟩
theorem ixS {l:List Int} {j:Nat} {a:Int} (h:j<l.length):ix (l++[a]) (j:Int)=ix l (j:Int):=by
 simp[J9O,List.getD_eq_getElem?_getD,List.getElem?_append_left h]
theorem ixE {l:List Int} {a:Int}:ix (l++[a]) (l.length:Int)=a:=by simp[J9O,List.getD_eq_getElem?_getD]
theorem NumI.old (h:NumI f q p m) (hm:mhas m (f q)=true):NumI f (q+1) (p++[mgt m (f q)]) m:=by
 obtain⟨g0,g1⟩:=h.rg _ hm;obtain⟨a,ea⟩:=Int.eq_ofNat_of_zero_le g0;refine⟨by simp[h.len],?_,fun b=>?_,fun j hj=>?_,h.rg,h.inj⟩
 ·rw[ea];exact h.nmb.old ω
 ·rw[h.has];constructor
  ·rintro⟨j,h1,h2⟩;exact⟨j,ω,h2⟩
  ·rintro⟨j,h1,h2⟩;by_cases hj:j<q
   ·exact⟨j,hj,h2⟩
   ·obtain rfl:j=q:=ω;rw[h2] at hm;exact(h.has _).1 hm
 ·by_cases hq:j<q
  ·rw[ixS (by rw[h.len];exact hq)];exact h.val j hq
  ·obtain rfl:j=q:=ω;have:=h.len;subst this;exact ixE
theorem NumI.new (h:NumI f q p m) (hm:¬mhas m (f q)=true):NumI f (q+1) (p++[(m.length:Int)]) (mput m (f q) (m.length:Int)):=by
 have hl:(mput m (f q) (m.length:Int)).length=m.length+1:=by rw[JaL,if_neg hm]
 refine⟨by simp[h.len],?_,fun b=>?_,fun j hj=>?_,fun a ha=>?_,fun a b ha hb e=>?_⟩
 ·rw[hl];exact h.nmb.new
 ·rw[J5t];simp only[Bool.or_eq_true,decide_eq_true_eq,h.has];constructor
  ·rintro(rfl | ⟨j,h1,h2⟩)
   ·exact⟨q,ω,rfl⟩
   ·exact⟨j,ω,h2⟩
  ·rintro⟨j,h1,h2⟩;by_cases hj:j<q
   ·exact .inr ⟨j,hj,h2⟩
   ·obtain rfl:j=q:=ω;exact .inl h2.symm
 ·rw[J6T];by_cases hq:j<q
  ·rw[ixS (by rw[h.len];exact hq),if_neg (fun e=>hm (by rw[←e];exact(h.has _).2 ⟨j,hq,rfl⟩))];exact h.val j hq
  ·obtain rfl:j=q:=ω;have:=h.len;subst this;rw[if_pos rfl];exact ixE
 ·rw[J5t] at ha;simp only[Bool.or_eq_true,decide_eq_true_eq] at ha;rw[J6T,hl];by_cases h1:a=f q
  ·rw[if_pos h1];omega
  ·rw[if_neg h1];have:=h.rg a (ha.resolve_left h1);omega
 ·rw[J5t] at ha hb;simp only[Bool.or_eq_true,decide_eq_true_eq] at ha hb;rw[J6T,J6T] at e;by_cases h1:a=f q
  ·by_cases h2:b=f q
   ·rw[h1,h2]
   ·rw[if_pos h1,if_neg h2] at e;have:=h.rg b (hb.resolve_left h2);omega
  ·by_cases h2:b=f q
   ·rw[if_neg h1,if_pos h2] at e;have:=h.rg a (ha.resolve_left h1);omega
   ·rw[if_neg h1,if_neg h2] at e;exact h.inj a b (ha.resolve_left h1) (hb.resolve_left h2) e
theorem NumI.eq (h:NumI f q p m) {i j:Nat} (hi:i<q) (hj:j<q):ix p (i:Int)=ix p (j:Int)↔f i=f j:=by
 rw[h.val i hi,h.val j hj];constructor
 ·intro e;exact h.inj _ _ ((h.has _).2 ⟨i,hi,rfl⟩) ((h.has _).2 ⟨j,hj,rfl⟩) e
 ·intro e;rw[e]
end
section
variable {k:Nat} {d:DFA} {p r:List Int} {c c':Nat}
def FinK (d:DFA) (p:List Int):Prop:=∀q q':Nat,q<p.length→q'<p.length→ix p q=ix p q'→ix d.Final q=ix d.Final q'
def SplitBy (k:Nat) (d:DFA) (p r:List Int):Prop:=∀q q':Nat,q<p.length→q'<p.length→(ix r q=ix r q'↔ix p q=ix p q'∧∀x:Nat,x<k→ix p (ix (ix d.Next q) x)=ix p (ix (ix d.Next q') x))
theorem SplitBy.fin2 (h:SplitBy k d p r) (hl:p.length=r.length):Fin2 r p:=fun q q' hq hq' e=>((h q q' ω ω).1 e).1
theorem SplitBy.fin (h:SplitBy k d p r) (hl:p.length=r.length) (hf:FinK d p):FinK d r:=fun q q' hq hq' e=>hf q q' ω ω ((h q q' ω ω).1 e).1
theorem SplitBy.holds (h:SplitBy k d p r) (hl:p.length=r.length) (D:Da d) (hk:(k:Int)=d.Letters) (hn:p.length=d.Final.length) (H:Holds k d p):Holds k d r:=fun q q' hq hq' e=>by
 have h6:=D.l6
 refine(h q q' ω ω).2 ⟨H q q' ω ω e,fun x hx=>?_⟩
 have a1:=D.at_ (q:=q) (x:=x) ω ω ω ω
 have a2:=D.at_ (q:=q') (x:=x) ω ω ω ω
 have hb:=Jeh ω e hx
 obtain⟨a,ea⟩:=Int.eq_ofNat_of_zero_le a1.2.1
 obtain⟨b,eb⟩:=Int.eq_ofNat_of_zero_le a2.2.1
 rw[ea,eb] at hb ⊢
 exact H a b ω ω hb
theorem SplitBy.keeps (h:SplitBy k d p r) (hl:p.length=r.length) (D:Da d) (hk:(k:Int)=d.Letters) (hn:p.length=d.Final.length) (hf:FinK d p) (h1:Nmb p c) (h2:Nmb r c):Keeps k d r:=by
 have h6:=D.l6;have hpr:=(h1.finer h2 hl (h.fin2 hl)).2 rfl;refine⟨h.fin hl hf,fun q q' x hq hq' hx e=>?_⟩;have e2:=((h q q' ω ω).1 e).2 x hx;have a1:=D.at_ (q:=q) (x:=x) ω ω ω ω;have a2:=D.at_ (q:=q') (x:=x) ω ω ω ω;obtain⟨a,ea⟩:=Int.eq_ofNat_of_zero_le a1.2.1;obtain⟨b,eb⟩:=Int.eq_ofNat_of_zero_le a2.2.1;rw[ea,eb] at e2 ⊢;exact hpr a b ω ω e2
end
end Sg
namespace Sg
open Go
def leR (t:List (List Int)) (x y:Nat):Prop:=x=y∨∃s:Nat,s<t.length∧mu t (y:Int) (s:Int)=(x:Int)
def leL (t:List (List Int)) (x y:Nat):Prop:=x=y∨∃s:Nat,s<t.length∧mu t (s:Int) (y:Int)=(x:Int)
end Sg
namespace Sg
open Go
end Sg
namespace Sg
open Go
end Sg
namespace Sg
open Go
def eR (t:List (List Int)) (x y:Nat):Prop:=leR t x y∧leR t y x
def eL (t:List (List Int)) (x y:Nat):Prop:=leL t x y∧leL t y x
end Sg
namespace Sg
open Go
end Sg
namespace Sg
open Go
end Sg
namespace Sg
open Go
end Sg
namespace Sg
open Go
end Sg
namespace Sg
open Go
end Sg
namespace Sg
open Go
end Sg
namespace Sg
open Go
end Sg
namespace Sg
open Go
section
variable {α β:Type} {k:Nat} {ρ:Str→α} {ρ':Str→β} {φ φ':Str→Bool} {s s':Syntactic}
def LCm (k:Nat) (ρ:Str→α):Prop:=∀u v w,LW k u→LW k v→LW k w→ρ u=ρ v→ρ (w++u)=ρ (w++v)
def Eqv (k:Nat) (ρ:Str→α) (ρ':Str→β):Prop:=∀u v,LW k u→LW k v→(ρ u=ρ v↔ρ' u=ρ' v)
theorem Eqv.symm (h:Eqv k ρ ρ'):Eqv k ρ' ρ:=fun u v hu hv=>(h u v hu hv).symm
structure Mon (k:Nat) (ρ:Str→α) (s:Syntactic):Prop where
 cl:CL k ρ s.Words (fun _=>True)
 le:s.Letters=k
 tl:s.Table.length=s.Words.length
 rl:∀i:Nat,i<s.Words.length→(ix s.Table i).length=s.Words.length
 tb:∀i j:Nat,i<s.Words.length→j<s.Words.length→∃m:Nat,ix (ix s.Table i) j=m∧m<s.Words.length∧ρ (ix s.Words m)=ρ (ix s.Words i++ix s.Words j)
 il:s.Images.length=k
 im:∀x:Nat,x<k→∃m:Nat,ix s.Images x=m∧m<s.Words.length∧ρ (ix s.Words m)=ρ [lt x]
 pl:s.Plus.length=s.Words.length
 ps:∀i:Nat,i<s.Words.length→(ix s.Plus i=true↔∃w,LW k w∧w≠[]∧ρ w=ρ (ix s.Words i))
structure Acc (φ:Str→Bool) (s:Syntactic):Prop where
 al:s.Accept.length=s.Words.length
 ac:∀i:Nat,i<s.Words.length→ix s.Accept i=φ (ix s.Words i)
theorem Mon.congr (hk:k<159) (e:Eqv k ρ ρ') (h:Mon k ρ s):Mon k ρ' s:=by
 have lw:∀i:Nat,i<s.Words.length→LW k (ix s.Words i):=fun i hi=>h.cl.lw hi;refine⟨h.cl.congrR e,h.le,h.tl,h.rl,fun i j hi hj=>?_,h.il,fun x hx=>?_,h.pl,fun i hi=>?_⟩
 ·obtain⟨m,e1,hm,r⟩:=h.tb i j hi hj;exact⟨m,e1,hm,(e _ _ (lw m hm) (LW.app.2 ⟨lw i hi,lw j hj⟩)).1 r⟩
 ·obtain⟨m,e1,hm,r⟩:=h.im x hx;exact⟨m,e1,hm,(e _ _ (lw m hm) (LW.lt hx hk)).1 r⟩
 ·rw[h.ps i hi];exact⟨fun ⟨w,w1,w2,w3⟩=>⟨w,w1,w2,(e _ _ w1 (lw i hi)).1 w3⟩,fun ⟨w,w1,w2,w3⟩=>⟨w,w1,w2,(e _ _ w1 (lw i hi)).2 w3⟩⟩
theorem Mon.pos (h:Mon k ρ s):0<s.Words.length:=h.cl.zero.2
theorem Mon.one (h:Mon k ρ s):ix s.Words 0=[]:=h.cl.zero.1
theorem Mon.mul (h:Mon k ρ s) (hr:RC k ρ) (hl:LCm k ρ) {i j:Nat} (hi:i<s.Words.length) (hj:j<s.Words.length) {u v:Str} (hu:LW k u) (hv:LW k v) (eu:ρ (ix s.Words i)=ρ u) (ev:ρ (ix s.Words j)=ρ v) :
  ∃m:Nat,ix (ix s.Table i) j=m∧m<s.Words.length∧ρ (ix s.Words m)=ρ (u++v):=by
 obtain⟨m,e,hm,r⟩:=h.tb i j hi hj;exact⟨m,e,hm,r.trans ((hr.app (h.cl.lw hi) hu eu (h.cl.lw hj)).trans (hl _ _ _ (h.cl.lw hj) hv hu ev))⟩
def vlS (s:Syntactic) (w:Str):Int:=w.foldl (fun x b=>ix (ix s.Table x) (ix s.Images ((b.toNat:Int)-97))) 0
theorem JaC (s:Syntactic):vlS s []=0:=rfl
theorem J8E (s:Syntactic) (w:Str) {x:Nat} (hx:x<159):vlS s (w++[lt x])=ix (ix s.Table (vlS s w)) (ix s.Images (x:Int)):=by
 have:((lt x).toNat:Int)-97=x:=by rw[J0j hx];omega
 simp[vlS,this]
theorem Mon.val (h:Mon k ρ s) (hk:k<159) (hr:RC k ρ) (hl:LCm k ρ) {w:Str}:LW k w→∃m:Nat,vlS s w=m∧m<s.Words.length∧ρ (ix s.Words m)=ρ w:=by
  induction w using snocRec with
  | nil=>exact fun _=>⟨0,rfl,h.pos,by rw[show ((0:Nat):Int)=0 from rfl,h.one]⟩
  | snoc w b ih =>
    intro hw;obtain⟨hw1,hw2⟩:=LW.app.1 hw;obtain⟨x,hx,rfl⟩:=LW.letter hk hw2;obtain⟨i,e1,hi,r1⟩:=ih hw1;obtain⟨j,e2,hj,r2⟩:=h.im x hx;rw[J8E _ _ ω,e1,e2];exact h.mul hr hl hi hj hw1 (LW.lt hx hk) r1 r2
theorem Mon.Jbl (h:Mon k ρ s) (hk:k<159) (hr:RC k ρ) (hl:LCm k ρ) {u v:Str} (hu:LW k u) (hv:LW k v):vlS s u=vlS s v↔ρ u=ρ v:=by
 obtain⟨i,e1,hi,r1⟩:=h.val hk hr hl hu;obtain⟨j,e2,hj,r2⟩:=h.val hk hr hl hv;rw[e1,e2,←r1,←r2];constructor
 ·intro e;have:i=j:=ω;subst this;rfl
 ·intro e;rw[h.cl.inj hi hj e]
theorem Mon.J1J (h:Mon k ρ s) (hk:k<159) (hr:RC k ρ) (hl:LCm k ρ) {i:Nat} (hi:i<s.Words.length):vlS s (ix s.Words i)=i:=by
 obtain⟨m,e,hm,r⟩:=h.val hk hr hl (h.cl.lw hi);rw[e,h.cl.inj hm hi r]
theorem Mon.J5I (h:Mon k ρ s) (hk:k<159) (hr:RC k ρ) (hl:LCm k ρ) {u v:Str} (hu:LW k u) (hv:LW k v):vlS s (u++v)=ix (ix s.Table (vlS s u)) (vlS s v):=by
 obtain⟨i,e1,hi,r1⟩:=h.val hk hr hl hu;obtain⟨j,e2,hj,r2⟩:=h.val hk hr hl hv;obtain⟨m,e3,hm,r3⟩:=h.val hk hr hl (LW.app.2 ⟨hu,hv⟩);obtain⟨m',e4,hm',r4⟩:=h.mul hr hl hi hj hu hv r1 r2;rw[e1,e2,e3,e4,h.cl.inj hm hm' (r3.trans r4.symm)]
theorem Mon.tab (h:Mon k ρ s) (hk:k<159) (hr:RC k ρ) (hl:LCm k ρ) {i j:Nat} (hi:i<s.Words.length) (hj:j<s.Words.length):ix (ix s.Table i) j=vlS s (ix s.Words i++ix s.Words j):=by
 rw[h.J5I hk hr hl (h.cl.lw hi) (h.cl.lw hj),h.J1J hk hr hl hi,h.J1J hk hr hl hj]
theorem Mon.assoc (h:Mon k ρ s) (hk:k<159) (hr:RC k ρ) (hl:LCm k ρ) {x y z:Nat} (hx:x<s.Words.length) (hy:y<s.Words.length) (hz:z<s.Words.length) :
  ix (ix s.Table (ix (ix s.Table x) y)) z=ix (ix s.Table x) (ix (ix s.Table y) z):=by
 have l1:=h.cl.lw hx;have l2:=h.cl.lw hy;have l3:=h.cl.lw hz;rw[h.tab hk hr hl hx hy,h.tab hk hr hl hy hz]
 conv=>lhs;rw[←h.J1J hk hr hl hz]
 conv=>rhs;rw[←h.J1J hk hr hl hx]
 rw[h.J1J hk hr hl hx,h.J1J hk hr hl hz];have e1:=h.J5I hk hr hl (LW.app.2 ⟨l1,l2⟩) l3;have e2:=h.J5I hk hr hl l1 (LW.app.2 ⟨l2,l3⟩);rw[h.J1J hk hr hl hz] at e1;rw[h.J1J hk hr hl hx] at e2;rw[←e1,←e2,List.append_assoc]
theorem Mon.one_l (h:Mon k ρ s) (hk:k<159) (hr:RC k ρ) (hl:LCm k ρ) {x:Nat} (hx:x<s.Words.length):ix (ix s.Table 0) x=x∧ix (ix s.Table x) 0=x:=by
 have e1:=h.tab hk hr hl h.pos hx;have e2:=h.tab hk hr hl hx h.pos;rw[show ((0:Nat):Int)=0 from rfl,h.one] at e1 e2;rw[List.nil_append,h.J1J hk hr hl hx] at e1;rw[List.append_nil,h.J1J hk hr hl hx] at e2;exact⟨e1,e2⟩
def acc (d:DFA) (w:Str):Bool:=ix d.Final (rn d d.Start w)
def Sat (k:Nat) (ρ:Str→α) (φ:Str→Bool):Prop:=∀u v,LW k u→LW k v→ρ u=ρ v→φ u=φ v
end
section
variable {k:Nat} {φ φ':Str→Bool} {s s':Syntactic} {d:DFA}
def syn (φ:Str→Bool) (k:Nat) (w:Str):{u:Str // LW k u}×{u:Str // LW k u}→Bool:=fun p=>φ (p.1.1++w++p.2.1)
theorem J2x {u v:Str}:syn φ k u=syn φ k v↔∀x y,LW k x→LW k y→φ (x++u++y)=φ (x++v++y):=by
 constructor
 ·intro h x y hx hy;exact congrFun h (⟨x,hx⟩,⟨y,hy⟩)
 ·intro h
  funext p
  exact h p.1.1 p.2.1 p.1.2 p.2.2
theorem J8C (φ:Str→Bool) (k:Nat):RC k (syn φ k):=fun u v b hu hv hb h=>J2x.2 fun x y hx hy=>by
 have:=J2x.1 h x ([b]++y) hx (LW.app.2 ⟨hb,hy⟩)
 simpa [List.append_assoc] using this
theorem J9i (φ:Str→Bool) (k:Nat):LCm k (syn φ k):=fun u v w hu hv hw h=>J2x.2 fun x y hx hy=>by
 have:=J2x.1 h (x++w) y (LW.app.2 ⟨hx,hw⟩) hy
 simpa [List.append_assoc] using this
theorem Jd5 (φ:Str→Bool) (k:Nat):Sat k (syn φ k) φ:=fun u v _ _ h=>by
 have:=J2x.1 h [] [] (LW.nil _) (LW.nil _)
 simpa using this
structure SynOf (k:Nat) (φ:Str→Bool) (s:Syntactic):Prop where
 mon:Mon k (syn φ k) s
 acc:Acc φ s
structure SynD (d:DFA) (s:Syntactic):Prop where
 k:∃k:Nat,d.Letters=k∧SynOf k (Sg.acc d) s∧∃m W,Can k (nero d k) (Sg.acc d) m W∧W.length≤32
 n:s.Words.length≤400
end
end Sg
namespace Sg
open Go
def rho (d:DFA):Str→Int:=fun w=>rn d d.Start w
section
variable {d:DFA} {k i x:Nat} {W:List Str} {S:List Int}
theorem Jdk (d:DFA) (k:Nat):RC k (rho d):=rn_RC d k d.Start
structure XI (d:DFA) (k i x:Nat) (W:List Str) (S:List Int):Prop where
 cl:CL k (rho d) W (fun w=>SL w (ix W i++[lt x]))
 il:i<W.length
 sl:S.length=W.length
 st:∀j:Nat,j<W.length→ix S j=rho d (ix W j)
theorem Jc9 (D:Da d) (hk:(k:Int)=d.Letters) {w:Str} (hw:LW k w):0≤rho d w∧rho d w<d.Final.length:=rn_lw D hk hw D.s0 D.s1
theorem XI.lw (h:XI d k i x W S) {j:Nat} (hj:j<W.length):LW k (ix W j):=h.cl.lw hj
theorem XI.in_ (h:XI d k i x W S) (D:Da d) (hk:(k:Int)=d.Letters) {j:Nat} (hj:j<W.length):0≤ix S j∧ix S j<d.Final.length:=by
 rw[h.st j hj];exact Jc9 D hk (h.lw hj)
theorem XI.next_ (h:XI d k i x W S) (hx:x<159):ix (ix d.Next (ix S i)) (x:Int)=rho d (ix W i++[lt x]):=by
 rw[h.st i h.il];exact(J4G d d.Start _ hx).symm
theorem CL.few {F:Str→Prop} (h:CL k (rho d) W F) (D:Da d) (hk:(k:Int)=d.Letters):W.length≤d.Final.length:=h.le fun w hw=>Jc9 D hk hw
theorem XI.few (h:XI d k i x W S) (D:Da d) (hk:(k:Int)=d.Letters):W.length≤d.Final.length:=h.cl.few D hk
theorem XI.known (h:XI d k i x W S) (hk:k<159) (hx:x<k) {j:Nat} (hj:j<W.length) (e:ix S j=rho d (ix W i++[lt x])):XI d k i (x+1) W S:=
 ⟨h.cl.known ω (J0S ω ω) ((h.st j hj).symm.trans e),h.il,h.sl,h.st⟩
theorem XI.new (h:XI d k i x W S) (hk:k<159) (hx:x<k) (hn:∀j:Nat,j<W.length→ix S j≠rho d (ix W i++[lt x])):XI d k i (x+1) (W++[ix W i++[lt x]]) (S++[rho d (ix W i++[lt x])]):=by
 have hi:=h.il;have hsl:=h.sl;refine⟨?_,by simp;omega,by simp[hsl],fun j hj=>?_⟩
 ·rw[ixA hi]
  exact h.cl.new ω (LW.app.2 ⟨h.lw hi,LW.lt hx hk⟩) fun w hw=>by
   obtain⟨j,hj,rfl⟩:=J0f.1 hw;rw[←h.st j hj];exact hn j hj
 ·simp only[List.length_append,List.length_singleton] at hj;by_cases hjW:j<W.length
  ·rw[ixA ω,ixA hjW];exact h.st j hjW
  ·have:j=W.length:=ω;rw[ixL' ω,ixL' this]
theorem XI.go (h:XI d k i k W S) (hk:k<159) (hd:i+1<W.length):XI d k (i+1) 0 W S:=⟨h.cl.next (Jdk d k) hk hd,hd,h.sl,h.st⟩
theorem XI.all (h:XI d k i k W S) (hk:k<159) (hd:i+1=W.length):CL k (rho d) W (fun _=>True):=h.cl.all (Jdk d k) hk hd
theorem XI.start:XI d k 0 0 [[]] [d.Start]:=by
 refine⟨CL.start,by simp,rfl,fun j hj=>?_⟩
 have:j=0:=by simpa using hj
 subst this
 rfl
structure YI (d:DFA) (k i:Nat) (W:List Str) (S:List Int):Prop where
 il:i≤W.length
 sl:S.length=W.length
 st:∀j:Nat,j<W.length→ix S j=rho d (ix W j)
 at_:i<W.length→XI d k i 0 W S
 al:i=W.length→CL k (rho d) W (fun _=>True)
 few:W.length≤d.Final.length
theorem YI.start (D:Da d):YI d k 0 [[]] [d.Start]:=⟨by simp,rfl,(XI.start (d:=d) (k:=k)).st,fun _=>XI.start,fun h=>by simp at h,by have:=D.f1;simpa using this⟩
theorem XI.yi (h:XI d k i k W S) (hk:k<159) (D:Da d) (hkl:(k:Int)=d.Letters):YI d k (i+1) W S:=
 ⟨h.il,h.sl,h.st,fun hd=>h.go hk hd,fun hd=>h.all hk hd,h.few D hkl⟩
structure RowsOk (d:DFA) (k i:Nat) (W:List Str) (Nx:List (List Int)) (Fn:List Bool):Prop where
 nl:Nx.length=i
 fl:Fn.length=i
 fin:∀a:Nat,a<i→ix Fn a=acc d (ix W a)
 row:∀a:Nat,a<i→(ix Nx a).length=k
 nx:∀a x:Nat,a<i→x<k→∃j:Nat,ix (ix Nx a) x=j∧j<W.length∧rho d (ix W j)=rho d (ix W a++[lt x])
variable {Nx:List (List Int)} {Fn:List Bool} {row:List Int}
theorem RowsOk.start:RowsOk d k 0 W [] []:=⟨rfl,rfl,fun a h=>by omega,fun a h=>by omega,fun a x h=>by omega⟩
def RowI (d:DFA) (k i x:Nat) (W:List Str) (row:List Int):Prop:=∀y:Nat,y<x→∃j:Nat,ix row y=j∧j<W.length∧rho d (ix W j)=rho d (ix W i++[lt y])
theorem RowI.up (h:RowI d k i x W row) (hi:i<W.length) (c:Str):RowI d k i x (W++[c]) row:=fun y hy=>by
 obtain⟨j,e,hj,r⟩:=h y hy
 exact⟨j,e,by simp;omega,by rw[ixA hj,ixA hi];exact r⟩
theorem RowsOk.up (h:RowsOk d k i W Nx Fn) (hi:i≤W.length) (c:Str):RowsOk d k i (W++[c]) Nx Fn:=by
 refine⟨h.nl,h.fl,fun a ha=>?_,h.row,fun a x ha hx=>?_⟩
 ·rw[ixA ω];exact h.fin a ha
 ·obtain⟨j,e,hj,r⟩:=h.nx a x ha hx;exact⟨j,e,by simp;omega,by rw[ixA hj,ixA ω];exact r⟩
theorem RowsOk.push (h:RowsOk d k i W Nx Fn) (hl:row.length=k) (hr:RowI d k i k W row):RowsOk d k (i+1) W (Nx++[row]) (Fn++[acc d (ix W i)]):=by
 have hn:=h.nl;have hf:=h.fl;refine⟨by simp[hn],by simp[hf],fun a ha=>?_,fun a ha=>?_,fun a x ha hx=>?_⟩
 ·by_cases hai:a=i
  ·subst hai;rw[ixL' ω]
  ·rw[ixA ω];exact h.fin a ω
 ·by_cases hai:a=i
  ·subst hai;rw[ixL' ω];exact hl
  ·rw[ixA ω];exact h.row a ω
 ·by_cases hai:a=i
  ·subst hai;rw[ixL' ω];exact hr x hx
  ·rw[ixA ω];exact h.nx a x ω hx
theorem RowsOk.can (h:RowsOk d k W.length W Nx Fn) (c:CL k (rho d) W (fun _=>True)) {l:Int} (hl:l=k):Can k (rho d) (acc d) ⟨l,0,Fn,Nx⟩ W:=
 ⟨c,hl,rfl,h.fl,h.nl,h.fin,h.row,h.nx⟩
structure Nms (S:List Int) (m:List (Int×Int)):Prop where
 has:∀q,mhas m q=true↔∃j:Nat,j<S.length∧ix S j=q
 get:∀j:Nat,j<S.length→∃j':Nat,mgt m (ix S j)=j'∧j'<S.length∧ix S j'=ix S j
variable {m:List (Int×Int)}
theorem Nms.start (q:Int):Nms [q] (mput [] q 0):=by
 refine⟨fun a=>?_,fun j hj=>?_⟩
 ·simp only[mput,mhas,Bool.or_false,decide_eq_true_eq];constructor
  ·rintro rfl;exact⟨0,by simp,rfl⟩
  ·rintro⟨j,hj,rfl⟩
   have:j=0:=by simpa using hj
   subst this;rfl
 ·have:j=0:=by simpa using hj
  subst this;exact⟨0,by simp[mput,mgt,ix],by simp,rfl⟩
theorem Nms.new (h:Nms S m) {q:Int} (hn:¬mhas m q=true):Nms (S++[q]) (mput m q (S.length:Int)):=by
 refine⟨fun a=>?_,fun j hj=>?_⟩
 ·rw[J5t];simp only[Bool.or_eq_true,decide_eq_true_eq,h.has];constructor
  ·rintro(rfl | ⟨j,hj,e⟩)
   ·exact⟨S.length,by simp,ixL⟩
   ·exact⟨j,by simp;omega,by rw[ixA hj];exact e⟩
  ·rintro⟨j,hj,e⟩;simp only[List.length_append,List.length_singleton] at hj;by_cases hjS:j<S.length
   ·rw[ixA hjS] at e;exact .inr ⟨j,hjS,e⟩
   ·rw[ixL' ω] at e;exact .inl e.symm
 ·simp only[List.length_append,List.length_singleton] at hj;rw[J6T];by_cases hjS:j<S.length
  ·rw[ixA hjS,if_neg (fun e=>hn ((h.has q).2 ⟨j,hjS,e⟩))];obtain⟨j',e1,h1,h2⟩:=h.get j hjS;exact⟨j',e1,by simp;omega,by rw[ixA h1];exact h2⟩
  ·have e:j=S.length:=ω;subst e;rw[ixL,if_pos rfl];exact⟨S.length,rfl,by simp,ixL⟩
def PlaceI (n c:Nat) (pl:List Int):Prop:=pl.length=n∧∀q:Nat,q<n→-1≤ix pl q∧ix pl q<c
theorem PlaceI.set {n c:Nat} {pl:List Int} (h:PlaceI n c pl) {q v:Int} (h0:0≤q) (h1:q<n) (hv0:-1≤v) (hv1:v<c):PlaceI n c (Sg.st pl q v):=by
 refine⟨by simp[h.1],fun p hp=>?_⟩;rw[ix_st _ h0 (by rw[h.1];exact h1) ω]
 split
 ·exact⟨hv0,hv1⟩
 ·exact h.2 p hp
end
section
variable {d:DFA} {k:Nat}
theorem Jac {Nx:List (List Int)} {Fn:List Bool} {S:List Int} {K:DFA→List Int→Prop} {pl:List Int} (hS:∀j:Nat,j<S.length→0≤ix S j∧ix S j<d.Final.length) (hp:PlaceI d.Final.length S.length pl)
  (h:∀pl,PlaceI d.Final.length S.length pl→K ⟨d.Letters,0,Fn,Nx⟩ pl):LoopWP (S:=Nat×List Int) (fun s X=>J7R d Nx Fn S K (fun a b=>X (a,b)) s.1 s.2) (0,pl):=by
 refine LoopWP.to S.length (fun s=>s.1) (fun s=>s.1≤S.length∧PlaceI d.Final.length S.length s.2) ⟨Nat.zero_le _,hp⟩ (fun s h=>h.1) ?_;rintro⟨a,pl⟩ X ⟨ha,hpl⟩ hX
 try dsimp only at ha hpl ⊢
 unfold J7R
 split
 ·rename_i hlt;have:=hS a ω;have hl:=hpl.1;exact⟨ω,hlt,this.1,ω,hX (a+1,_) ⟨by dsimp only;omega,hpl.set this.1 this.2 ω ω⟩ rfl⟩
 ·exact h pl hpl
theorem Jae {Nx:List (List Int)} {Fn:List Bool} {S:List Int} {K:DFA→List Int→Prop} (hd:d.Final.length≤512) (hS:∀j:Nat,j<S.length→0≤ix S j∧ix S j<d.Final.length)
  (h:∀pl,PlaceI d.Final.length S.length pl→K ⟨d.Letters,0,Fn,Nx⟩ pl):LoopWP (S:=Nat×List Int) (fun s X=>J8j d Nx Fn S K (fun a b=>X (a,b)) s.1 s.2) (0,List.replicate d.Final.length (0:Int)):=by
 refine LoopWP.to d.Final.length (fun s=>s.1) (fun s=>s.1≤d.Final.length∧s.2.length=d.Final.length∧∀q:Nat,q<s.1→ix s.2 q=-1) ⟨Nat.zero_le _,by simp,fun q hq=>by simp at hq⟩ (fun s h=>h.1) ?_;rintro⟨a,pl⟩ X ⟨ha,hl,hpl⟩ hX
 try dsimp only at ha hl hpl ⊢
 unfold J8j;rw[List.length_replicate]
 split
 ·rename_i hlt;refine⟨ω,ω,⟨ω,ω⟩,hX (a+1,_) ⟨by dsimp only;omega,by simp[hl],fun q hq=>?_⟩ rfl⟩;dsimp only at hq ⊢;rw[ix_st _ ω ω ω]
  split
  ·rfl
  ·exact hpl q ω
 ·exact Jac hS ⟨hl,fun q hq=>by rw[hpl q ω];omega⟩ h
theorem J8h (D:Da d) (hk:(k:Int)=d.Letters) {K:DFA→List Int→Prop} (h:∀t pl W,Can k (rho d) (acc d) t W→PlaceI d.Final.length W.length pl→K t pl):J6k d K:=by
 have h1:=D.l1;have h6:=D.l6;have hk9:k<159:=ω;have f2:=D.f2;have hnx:=D.nx;unfold J6k;refine J1U ?_;rw[if_pos (daC0.2 (J43.2 D))];refine⟨by simp,?_⟩;refine LoopWP.to d.Final.length (fun s=>s.1) (fun s=>∃W,YI d k s.1 W s.2.2.2.1∧RowsOk d k s.1 W s.2.1 s.2.2.1∧Nms s.2.2.2.1 s.2.2.2.2) ⟨[[]],YI.start D,RowsOk.start,Nms.start _⟩ (fun s ⟨W,hy,_⟩=>Nat.le_trans hy.il hy.few) ?_;rintro⟨i,Nx,Fn,S,m⟩ X ⟨W,hy,hr,hm⟩ hX
 try dsimp only at hy hr hm ⊢
 have hsl:=hy.sl;have hfew:=hy.few;unfold J9L
 split
 ·rename_i hlt;have hi:i<W.length:=ω;refine⟨ω,hlt,ω,ω,?_⟩;have hkn:d.Letters.toNat=k:=ω;refine LoopWP.to k (fun s=>s.1) (fun s=>s.1≤k∧s.2.1.length=k∧∃V,XI d k i s.1 V s.2.2.1∧RowsOk d k i V Nx Fn∧RowI d k i s.1 V s.2.1∧Nms s.2.2.1 s.2.2.2∧∀j:Nat,j<W.length→j<V.length∧ix s.2.2.1 j=ix S j) ⟨Nat.zero_le _,by simp[hkn],W,hy.at_ hi,hr,fun y hy=>by simp at hy,hm,fun j hj=>⟨hj,rfl⟩⟩ (fun s h=>h.1) ?_;rintro⟨x,row,S2,m2⟩ X2 ⟨hx,hrl,V,hxi,hrv,hri,hm2,hpre⟩ hX2
  try dsimp only at hx hrl hxi hrv hri hm2 hpre ⊢
  have hV:=hxi.few D hk;have hiV:=hxi.il;have hsV:=hxi.sl;have eS:ix S (i:Int)=rho d (ix W i):=hy.st i hi;have hSin:=(hy.at_ hi).in_ D hk hi
  have eW:rho d (ix W i)=rho d (ix V i):=by
   have e1:=hxi.st i hiV;rw[←eS,←e1];exact(hpre i hi).2.symm
  unfold Ja2;rw[List.length_replicate,hkn]
  split
  ·rename_i hxk;have hxk':x<k:=ω;have hat:=D.at_ (q:=ix S i) (x:=x) hSin.1 hSin.2 ω ω
   have enx:ix (ix d.Next (ix S i)) (x:Int)=rho d (ix V i++[lt x]):=by
    rw[←hxi.next_ ω,hxi.st i hiV,eS,eW]
   rw[enx];refine⟨hSin.1,ω,ω,ω,?_⟩
   split
   ·rename_i hmh;obtain⟨j,hj,ej⟩:=(hm2.has _).1 hmh;obtain⟨j',e1,hj',e2⟩:=hm2.get j hj;rw[ej] at e1 e2;refine⟨ω,ω,⟨ω,ω⟩,hX2 (x+1,_) ⟨by dsimp only;omega,by simp[hrl],V,hxi.known hk9 hxk' (j:=j) ω ej,hrv,fun y hy=>?_,hm2,hpre⟩ rfl⟩;dsimp only;rw[e1,ix_st _ ω ω ω];by_cases hyx:y=x
    ·subst hyx;rw[if_pos rfl];exact⟨j',rfl,ω,(hxi.st j' ω).symm.trans e2⟩
    ·rw[if_neg ω];exact hri y ω
   ·rename_i hmh;have hn:∀j:Nat,j<V.length→ix S2 j≠rho d (ix V i++[lt x]):=fun j hj e=>hmh ((hm2.has _).2 ⟨j,ω,e⟩);have hnew:=hxi.new hk9 hxk' hn;refine⟨by simp;omega,ω,ω,⟨ω,ω⟩,hX2 (x+1,_) ⟨by dsimp only;omega,by simp[hrl],_,hnew,hrv.up ω _,fun y hy=>?_,hm2.new hmh,fun j hj=>⟨by have:=(hpre j hj).1;simp;omega,by dsimp only;have:=hpre j hj;rw[ixA ω];exact this.2⟩⟩ rfl⟩;dsimp only;rw[ix_st _ ω ω ω];by_cases hyx:y=x
    ·subst hyx;rw[if_pos rfl];exact⟨S2.length,rfl,by simp;omega,by rw[ixL' hsV,ixA hiV]⟩
    ·rw[if_neg ω];exact hri.up hiV _ y ω
  ·rename_i hxk;have hxk':x=k:=ω;subst hxk';have hyi:=hxi.yi hk9 D hk;rw[if_neg ω]
   have hfin:ix d.Final (ix S i)=acc d (ix V i):=by rw[eS,eW];rfl
   have hn:=hrv.nl;have hf:=hrv.fl;rw[hfin];exact⟨by simp;omega,hSin.1,hSin.2,by simp;omega,⟨ω,ω⟩,hX (i+1,_) ⟨V,hyi,hrv.push hrl hri,hm2⟩ rfl⟩
 ·rename_i hlt
  have hi:i=W.length:=by have:=hy.il;omega
  subst hi;have c:=hr.can (hy.al rfl) (l:=d.Letters) hk.symm
  have hS:∀j:Nat,j<S.length→0≤ix S j∧ix S j<d.Final.length:=fun j hj=>by
   rw[hy.st j ω];exact Jc9 D hk (c.cl.lw ω)
  have key:=Jae (d:=d) (Nx:=Nx) (Fn:=Fn) (S:=S) (K:=K) ω hS fun pl hpl=>h _ pl W c (by rw[hsl] at hpl;exact hpl);exact⟨fun _=>⟨ω,ω,key⟩,fun _=>⟨ω,ω,key⟩⟩
end
end Sg
namespace Sg
open Go
theorem JcL {x:Nat} (hx:x<31):byt [IntKind.u8.wrap ((97:Int)+(x:Int))]=[lt x]:=by
 have e:IntKind.u8.wrap ((97:Int)+(x:Int))=((97+x:Nat):Int):=by rw[IntKind.wrap_u8];omega
 rw[e];rfl
section
variable {d:DFA} {k i x:Nat} {W:List Str} {S:List Int}
end
end Sg
namespace Sg
open Go
section
variable {d:DFA} {k:Nat}
structure ClsI (d:DFA) (k:Nat) (p:List Int) (c:Nat):Prop where
 len:p.length=d.Final.length
 nmb:Nmb p c
 fin:FinK d p
 hol:Holds k d p
structure ClsOk (d:DFA) (k:Nat) (p:List Int):Prop where
 len:p.length=d.Final.length
 nmb:∃c,Nmb p c
 kp:Keeps k d p
 hol:Holds k d p
def keyC (d:DFA) (k:Nat) (p:List Int) (q:Nat):AN 7:=toAN 7 (ix p q::((List.range k).map fun (x:Nat)=>ix p (ix (ix d.Next q) (x:Int)))++List.replicate (6-k) 0)
theorem JcA {p:List Int} {q:Nat} (h6:k≤6):(ix p q::((List.range k).map fun (x:Nat)=>ix p (ix (ix d.Next q) (x:Int)))++List.replicate (6-k) 0).length=7:=by
 simp;omega
theorem JeZ (h6:k≤6) {p:List Int} {q q':Nat}:keyC d k p q=keyC d k p q'↔ix p q=ix p q'∧∀x:Nat,x<k→ix p (ix (ix d.Next q) x)=ix p (ix (ix d.Next q') x):=by
 constructor
 ·intro h;have e:=Jei (JcA h6) (JcA h6) h;simp only[List.cons_append,List.cons.injEq] at e;refine⟨e.1,fun x hx=>?_⟩;have e2:=congrArg (fun l:List Int=>l[x]?) e.2;simpa [List.getElem?_append,hx] using e2
 ·rintro⟨h1,h2⟩;unfold keyC;rw[h1]
  congr 3
  apply List.map_congr_left;intro x hx;exact h2 x (by simpa using hx)
theorem Jbn {p r:List Int} {m:List (AN 7×Int)} (h6:k≤6) (hl:p.length=d.Final.length) (h:NumI (keyC d k p) d.Final.length r m):SplitBy k d p r:=fun q q' hq hq'=>by
 rw[h.eq ω ω]
 exact JeZ h6
theorem Je7 {l:List Int} {x:Nat} {v:Int} (hl:l.length=7) (hx:x<6) {p:List Int} {q:Nat} (h:l=ix p q::((List.range x).map fun (x:Nat)=>ix p (ix (ix d.Next q) (x:Int)))++List.replicate (6-x) 0) (hv:v=ix p (ix (ix d.Next q) (x:Int))) :
    st l ((1:Int)+(x:Int)) v=ix p q::((List.range (x+1)).map fun (x:Nat)=>ix p (ix (ix d.Next q) (x:Int)))++List.replicate (6-(x+1)) 0:=by
  apply List.ext_getElem?;intro j;have e:((1:Int)+(x:Int)).toNat=x+1:=ω;rw[st,e,List.getElem?_set];by_cases hj:x+1=j
  · subst hj;rw[if_pos rfl,if_pos ω,hv];simp[List.getElem?_append]
  · rw[if_neg hj,h]
    cases j with
    | zero=>simp
    | succ j =>
      simp only[List.cons_append,List.getElem?_cons_succ,List.getElem?_append,List.length_map,List.length_range];by_cases h1:j<x
      · rw[if_pos h1,if_pos ω];simp[h1,show j<x+1 by omega]
      · rw[if_neg h1,if_neg ω];simp only[List.getElem?_replicate];by_cases h2:j<6
        · rw[if_pos ω,if_pos ω]
        · rw[if_neg ω,if_neg ω]
theorem J6I (D:Da d) (hk:(k:Int)=d.Letters) {p:List Int} {c:Nat} (hp:ClsI d k p c) {q:Nat} (hq:q<d.Final.length) {r:List Int} {m:List (AN 7×Int)} (hrl:r.length=d.Final.length) (hn:NumI (keyC d k p) q (r.take q) m) {X:Nat→List Int→List (AN 7×Int)→Prop} {K:List Int→Prop}
  (h:∀r m,r.length=d.Final.length→NumI (keyC d k p) (q+1) (r.take (q+1)) m→X (q+1) r m) :
  LoopWP (S:=Nat×List Int) (fun s Y=>J2s d p q r m X K (fun a b=>Y (a,b)) s.1 s.2) (0,[ix p q,0,0,0,0,0,0]):=by
 have h1:=D.l1;have h6:=D.l6;have hnx:=D.nx;have hrow:=D.row q ω;refine LoopWP.to k (fun s=>s.1) (fun s=>s.1≤k∧s.2.length=7∧s.2=ix p q::((List.range s.1).map fun (x:Nat)=>ix p (ix (ix d.Next q) (x:Int)))++List.replicate (6-s.1) 0) ⟨Nat.zero_le _,rfl,rfl⟩ (fun s h=>h.1) ?_;rintro⟨x,l⟩ Y ⟨hx,hl,hI⟩ hY
 try dsimp only at hx hl hI ⊢
 unfold J2s
 split
 ·rename_i hlt;have hxk:x<k:=ω;have hat:=D.at_ (q:=q) (x:=x) ω ω ω ω;have hpl:=hp.len;exact⟨ω,hlt,⟨ω,ω⟩,hat.2.1,ω,hl,ω,ω,hY (x+1,_) ⟨by dsimp only;omega,by simp[hl],Je7 hl ω hI rfl⟩ rfl⟩
 ·rename_i hlt;have hxk:x=k:=ω;subst hxk
  have ek:toAN 7 l=keyC d x p q:=by rw[hI];rfl
  rw[ek];refine⟨hl,?_⟩;have tk:∀v:Int,(st r (q:Int) v).take (q+1)=r.take q++[v]:=fun v=>Jf3 ω
  split
  ·rename_i hm;exact⟨ω,ω,h _ _ (by simp[hrl]) (by rw[tk];exact hn.old hm)⟩
  ·rename_i hm;exact⟨hl,ω,ω,h _ _ (by simp[hrl]) (by rw[tk];exact hn.new hm)⟩
theorem J3j (D:Da d) (hk:(k:Int)=d.Letters) {K:List Int→Prop} (h:∀p,ClsOk d k p→K p) {p:List Int} {c:Nat} (hp:ClsI d k p c) :
  LoopWP (S:=List Int×Int) (fun s X=>J2B d K (fun a b=>X (a,b)) s.1 s.2) (p,(c:Int)):=by
 have h1:=D.l1;have h6:=D.l6;have f2:=D.f2;have hnx:=D.nx;refine LoopWP.intro (fun s=>∃c:Nat,s.2=(c:Int)∧ClsI d k s.1 c) (fun s=>d.Final.length-s.2.toNat) ⟨c,rfl,hp⟩ ?_;rintro⟨p,c'⟩ X ⟨c,hc,hp⟩ hX
 try dsimp only at hc hp ⊢
 subst hc;have hpl:=hp.len;have hcn:=hp.nmb.le;unfold J2B;refine fun _=>⟨ω,ω,fun _=>?_⟩;refine LoopWP.to d.Final.length (fun s=>s.1) (fun s=>s.1≤d.Final.length∧s.2.1.length=d.Final.length∧NumI (keyC d k p) s.1 (s.2.1.take s.1) s.2.2) ⟨Nat.zero_le _,by simp[hpl],NumI.start⟩ (fun s h=>h.1) ?_;rintro⟨q,r,m⟩ X2 ⟨hq,hrl,hn⟩ hX2
 try dsimp only at hq hrl hn ⊢
 unfold J4X
 split
 ·rename_i hlt;have hq':q<d.Final.length:=ω;exact⟨ω,hlt,ω,ω,rfl,fun _=>J6I D hk hp hq' hrl hn fun r m h1 h2=>hX2 (q+1,r,m) ⟨hq',h1,h2⟩ rfl⟩
 ·rename_i hlt;have:q=d.Final.length:=ω;subst this;rw[List.take_of_length_le ω] at hn;have hs:=Jbn ω hpl hn;have hpr:p.length=r.length:=ω;have hfin:=hs.fin hpr hp.fin;have hhol:=hs.holds hpr D hk hpl hp.hol
  split
  ·rename_i e;have e:m.length=c:=ω;exact h r ⟨hrl,⟨_,hn.nmb⟩,hs.keeps hpr D hk hpl hp.fin hp.nmb (by rw[←e];exact hn.nmb),hhol⟩
  ·rename_i e;have:=hp.nmb.finer hn.nmb hpr (hs.fin2 hpr);have hmn:=hn.nmb.le;exact hX (r,(m.length:Int)) ⟨m.length,rfl,hrl,hn.nmb,hfin,hhol⟩ (by dsimp only;omega)
theorem Jba (D:Da d) {p:List Int} {c:Nat} (hl:p.length=d.Final.length) (hp:∀q:Nat,q<d.Final.length→ix p q=if ix d.Final q=ix d.Final 0 then 0 else 1) (hc:c=if (∃q:Nat,q<d.Final.length∧ix d.Final q≠ix d.Final 0) then 2 else 1):ClsI d k p c:=by
 have f1:=D.f1
 have h00:ix p ((0:Nat):Int)=0:=by rw[hp 0 ω];exact if_pos rfl
 have hfin:FinK d p:=fun q q' hq hq' e=>by
  rw[hp q ω,hp q' ω] at e;by_cases h1:ix d.Final q=ix d.Final 0<;>by_cases h2:ix d.Final q'=ix d.Final 0
  ·rw[h1,h2]
  ·rw[if_pos h1,if_neg h2] at e;omega
  ·rw[if_neg h1,if_pos h2] at e;omega
  ·revert h1 h2
   cases ix d.Final (q:Int)<;>cases ix d.Final (q':Int)<;>cases ix d.Final 0<;>simp
 refine⟨hl,⟨fun q hq=>?_,fun a ha=>?_,fun q a hq ha=>?_⟩,hfin,fun q q' hq hq' e=>?_⟩
 ·rw[hp q ω]
  split
  ·exact⟨0,rfl,by rw[hc];split<;>omega⟩
  ·rename_i hne;exact⟨1,rfl,by rw[hc,if_pos ⟨q,ω,hne⟩];omega⟩
 ·by_cases ha0:a=0
  ·subst ha0;exact⟨0,ω,h00⟩
  ·by_cases hx:∃q:Nat,q<d.Final.length∧ix d.Final q≠ix d.Final 0
   ·rw[if_pos hx] at hc;obtain⟨q,h1,h2⟩:=hx;refine⟨q,ω,?_⟩;rw[hp q h1,if_neg h2];omega
   ·rw[if_neg hx] at hc;omega
 ·rw[hp q ω] at ha
  split at ha
  ·omega
  ·rename_i hne
   have h0q:0<q:=by
    rcases Nat.eq_zero_or_pos q with h0 | h0
    ·subst h0;exact absurd rfl hne
    ·exact h0
   have ha0:a=0:=ω;subst ha0;exact⟨0,h0q,h00⟩
 ·have:=congrFun e ⟨[],LW.nil k⟩;simp only[beh,JcS] at this;rw[hp q ω,hp q' ω,this]
theorem J8g (D:Da d) (hk:(k:Int)=d.Letters) {K:List Int→Prop} (h:∀p,ClsOk d k p→K p):J1v d K:=by
 have f1:=D.f1;have f2:=D.f2;unfold J1v;refine J1U ?_;rw[if_pos (daC0.2 (J43.2 D))];refine fun _=>⟨ω,ω,?_⟩;refine LoopWP.to d.Final.length (fun s=>s.2.1) (fun s=>s.2.1≤d.Final.length∧s.2.2.length=d.Final.length∧(∀q:Nat,q<d.Final.length→ix s.2.2 q=if q<s.2.1∧ix d.Final q≠ix d.Final 0 then 1 else 0)∧s.1=(if (∃q:Nat,q<s.2.1∧ix d.Final q≠ix d.Final 0) then 2 else 1:Int)) ⟨Nat.zero_le _,by simp,fun q hq=>?_,?_⟩ (fun s h=>h.1) ?_
 ·rw[J0c _ _ hq];simp
 ·rw[if_neg];rintro⟨q,hq,_⟩;simp at hq
 rintro⟨c,a,p⟩ X ⟨ha,hl,hp,hc⟩ hX
 try dsimp only at ha hl hp hc ⊢
 unfold J4T
 split
 ·rename_i hlt;have halt:a<d.Final.length:=ω
  have old:ix d.Final a=ix d.Final 0→X (c,a+1,p):=fun e=>hX (c,a+1,p) ⟨halt,hl,fun q hq=>by
   rw[hp q hq];by_cases hqa:q=a
   ·subst hqa;rw[if_neg (by simp[e]),if_neg (by simp[e])]
   ·by_cases hq2:q<a∧ix d.Final q≠ix d.Final 0
    ·rw[if_pos hq2,if_pos ⟨by dsimp only;omega,hq2.2⟩]
    ·rw[if_neg hq2,if_neg (fun hh=>hq2 ⟨by have:=hh.1;dsimp only at this;omega,hh.2⟩)],by
   dsimp only;rw[hc];by_cases hx:∃q:Nat,q<a∧ix d.Final q≠ix d.Final 0
   ·rw[if_pos hx,if_pos (by obtain⟨q,h1,h2⟩:=hx;exact⟨q,ω,h2⟩)]
   ·rw[if_neg hx,if_neg (by
     rintro⟨q,h1,h2⟩;by_cases hqa:q=a
     ·subst hqa;exact h2 e
     ·exact hx ⟨q,ω,h2⟩)]⟩ rfl
  have new:ix d.Final a≠ix d.Final 0→X (2,a+1,st p (a:Int) 1):=fun e=>hX (2,a+1,_) ⟨halt,by simp[hl],fun q hq=>by
   dsimp only;rw[ix_st _ ω ω ω];by_cases hqa:q=a
   ·subst hqa;rw[if_pos rfl,if_pos ⟨ω,e⟩]
   ·rw[if_neg ω,hp q hq];by_cases hq2:q<a∧ix d.Final q≠ix d.Final 0
    ·rw[if_pos hq2,if_pos ⟨ω,hq2.2⟩]
    ·rw[if_neg hq2,if_neg (fun hh=>hq2 ⟨ω,hh.2⟩)],by
   dsimp only
   rw[if_pos ⟨a,ω,e⟩]⟩ rfl
  refine⟨ω,ω,?_⟩
  split
  ·rename_i ht;refine⟨ω,ω,?_⟩
   split
   ·rename_i h0;exact old (by rw[ht,h0])
   ·rename_i h0;exact⟨ω,ω,new (by rw[ht];exact fun hh=>h0 hh.symm)⟩
  ·rename_i ht;refine⟨ω,ω,?_⟩
   split
   ·rename_i h0;exact⟨ω,ω,new (by rw[h0];exact ht)⟩
   ·rename_i h0;exact old (by rw[Bool.eq_false_iff.2 ht,Bool.eq_false_iff.2 h0])
 ·rename_i hlt;have hae:a=d.Final.length:=ω;subst hae
  have hp':∀q:Nat,q<d.Final.length→ix p q=if ix d.Final q=ix d.Final 0 then 0 else 1:=fun q hq=>by
   rw[hp q hq];by_cases e:ix d.Final q=ix d.Final 0
   ·rw[if_pos e,if_neg (fun hh=>hh.2 e)]
   ·rw[if_neg e,if_pos ⟨hq,e⟩]
  by_cases hx:∃q:Nat,q<d.Final.length∧ix d.Final q≠ix d.Final 0
  ·rw[if_pos hx] at hc;subst hc;exact J3j D hk h (c:=2) (Jba D hl hp' (by rw[if_pos hx]))
  ·rw[if_neg hx] at hc;subst hc;exact J3j D hk h (c:=1) (Jba D hl hp' (by rw[if_neg hx]))
end
section
variable {d:DFA} {k:Nat}
end
end Sg
namespace Sg
open Go
section
variable {d:DFA} {k:Nat} {p:List Int}
structure QuoI (d:DFA) (k:Nat) (p:List Int) (q:Nat) (Nx:List (List Int)) (Fn:List Bool):Prop where
 nl:Nx.length=Fn.length
 rg:∀j:Nat,j<q→ix p j<Fn.length
 on:∀a:Nat,a<Fn.length→∃j:Nat,j<q∧ix p j=a∧ix Fn a=ix d.Final j∧(ix Nx a).length=k∧∀x:Nat,x<k→ix (ix Nx a) x=ix p (ix (ix d.Next j) x)
variable {q:Nat} {Nx:List (List Int)} {Fn:List Bool} {row:List Int}
theorem QuoI.start:QuoI d k p 0 [] []:=⟨rfl,fun j h=>by omega,fun a h=>by simp at h⟩
theorem QuoI.skip (h:QuoI d k p q Nx Fn) (hq:ix p q<Fn.length):QuoI d k p (q+1) Nx Fn:=
 ⟨h.nl, fun j hj => by
  by_cases e:j=q
  ·subst e;exact hq
  ·exact h.rg j ω,fun a ha=>by
  obtain⟨j,h1,h2⟩:=h.on a ha
  exact⟨j,ω,h2⟩⟩
theorem QuoI.next (h:QuoI d k p q Nx Fn) {c:Nat} (hp:Nmb p c) (hq:q<p.length) (hn:¬ix p q<Fn.length):ix p q=Fn.length:=by
 obtain⟨a,ea,ha⟩:=hp.rg q hq
 rcases Nat.lt_or_ge Fn.length a with hlt | hge
 ·obtain⟨j,hj,e⟩:=hp.fst q Fn.length hq ω;have:=h.rg j hj;omega
 ·omega
theorem QuoI.push (h:QuoI d k p q Nx Fn) (e:ix p q=Fn.length) (hl:row.length=k) (hr:∀x:Nat,x<k→ix row x=ix p (ix (ix d.Next q) x)):QuoI d k p (q+1) (Nx++[row]) (Fn++[ix d.Final q]):=by
 have hn:=h.nl;refine⟨by simp[hn],fun j hj=>?_,fun a ha=>?_⟩
 ·by_cases hjq:j=q
  ·subst hjq;rw[e];simp;omega
  ·have:=h.rg j ω;simp;omega
 ·simp only[List.length_append,List.length_singleton] at ha;by_cases haF:a<Fn.length
  ·obtain⟨j,h1,h2,h3,h4,h5⟩:=h.on a haF;refine⟨j,ω,h2,by rw[ixA haF];exact h3,by rw[ixA ω];exact h4,fun x hx=>by rw[ixA ω];exact h5 x hx⟩
  ·have:a=Fn.length:=ω;subst this;exact⟨q,ω,e,by rw[ixL],by rw[ixL' ω];exact hl,fun x hx=>by rw[ixL' ω];exact hr x hx⟩
theorem QuoI.quo (h:QuoI d k p p.length Nx Fn) {c:Nat} (hp:Nmb p c) {l s:Int} (hl:l=k) (hs:s=ix p d.Start):Quo k d p ⟨l,s,Fn,Nx⟩:=
 ⟨hl, hs, h.nl, fun q hq => by
  obtain⟨a,e,ha⟩:=hp.rg q hq
  have:=h.rg q hq
  exact⟨a,e,by show a<Fn.length;omega⟩,fun a ha=>by
  obtain⟨j,h1,h2⟩:=h.on a ha
  exact⟨j,h1,h2⟩⟩
theorem QuoI.few (h:QuoI d k p q Nx Fn) (hq:q≤p.length):Fn.length≤p.length:=by
 apply Classical.byContradiction;intro hc
 have rep:∀a:Nat,∃j:Nat,a<Fn.length→j<q∧ix p j=a:=fun a=>by
  by_cases ha:a<Fn.length
  ·obtain⟨j,h1,h2,_⟩:=h.on a ha;exact⟨j,fun _=>⟨h1,h2⟩⟩
  ·exact⟨0,fun h=>absurd h ha⟩
 obtain⟨f,hf⟩:=Classical.axiomOfChoice rep
 obtain⟨a,b,h1,h2,e⟩:=pigeon p.length (fun m=>(f m:Int)) fun m hm=>by have:=(hf m ω).1;omega
 have ea:=(hf a ω).2;have eb:=(hf b ω).2
 have:f a=f b:=by have e:(f a:Int)=(f b:Int):=e;omega
 rw[this] at ea;omega
theorem JcM {Q m:DFA} {W:List Str} (D:Da d) (hk:(k:Int)=d.Letters) (hc:ClsOk d k p) (hQ:Quo k d p Q) (c:Can k (rho Q) (acc Q) m W):Can k (nero d k) (acc d) m W:=
 hQ.can hc.kp hc.hol D hk hc.len c
theorem Jbz {t m:DFA} {V W:List Str} (D:Da d) (hk:(k:Int)=d.Letters) (c:Can k (rho d) (acc d) t V) (h:Can k (nero t k) (acc t) m W):Can k (nero d k) (acc d) m W:=
 Can.trim D hk (by have:=D.l6;omega) c h
end
section
variable {d:DFA} {k:Nat}
theorem Jeu (D:Da d) (hk:(k:Int)=d.Letters) {t:DFA} {W:List Str} (c:Can k (rho d) (acc d) t W):Da t:=
 c.da (by have:=D.l1;omega) (by have:=D.l6;omega) (by have:=c.cl.few D hk;have:=D.f2;omega)
theorem J7T (D:Da d) (hk:(k:Int)=d.Letters) {K:DFA→List Int→Prop} (h:∀m W s,Can k (nero d k) (acc d) m W→K m s):J1s d K:=by
 have h1:=D.l1;have h6:=D.l6;have f2:=D.f2;unfold J1s;refine J8h D hk fun t pl V ct hpl=>?_;have Dt:=Jeu D hk ct;have hkt:(k:Int)=t.Letters:=ct.le.symm;have f2t:=Dt.f2;have nxt:=Dt.nx;refine J8g Dt hkt fun p hp=>?_;obtain⟨c,hpc⟩:=hp.nmb;have hplen:=hp.len;have hVf:V.length=t.Final.length:=ct.fl.symm;refine fun _=>?_;refine LoopWP.to p.length (fun s=>s.1) (fun s=>s.1≤p.length∧QuoI t k p s.1 s.2.1 s.2.2) ⟨Nat.zero_le _,QuoI.start⟩ (fun s h=>h.1) ?_;rintro⟨q,Nx,Fn⟩ X ⟨hq,hI⟩ hX
 try dsimp only at hq hI ⊢
 have hfew:=hI.few hq;have hnl:=hI.nl;unfold J4u
 split
 ·rename_i hlt;have hq':q<p.length:=ω;refine⟨ω,hlt,?_⟩
  split
  ·rename_i hc2;exact hX (q+1,_) ⟨by dsimp only;omega,hI.skip hc2⟩ rfl
  ·rename_i hc2;have e:=hI.next hpc hq' hc2;have hrow:=Dt.row q ω;refine⟨ω,ω,ω,ω,fun _=>?_⟩;have hkn:d.Letters.toNat=k:=ω;refine LoopWP.to k (fun s=>s.1) (fun s=>s.1≤k∧s.2.length=k∧∀x:Nat,x<s.1→ix s.2 x=ix p (ix (ix t.Next q) x)) ⟨Nat.zero_le _,by simp[hkn],fun x hx=>by simp at hx⟩ (fun s h=>h.1) ?_;rintro⟨x,row⟩ X2 ⟨hx,hrl,hri⟩ hX2
   try dsimp only at hx hrl hri ⊢
   unfold J4V
   split
   ·rename_i hxk;have hat:=Dt.at_ (q:=q) (x:=x) ω ω ω ω;refine⟨ω,hxk,hat.2.1,ω,ω,ω,hX2 (x+1,_) ⟨by dsimp only;omega,by simp[hrl],fun y hy=>?_⟩ rfl⟩;dsimp only at hy ⊢;rw[ix_st _ ω ω ω];by_cases hyx:y=x
    ·subst hyx;rw[if_pos rfl]
    ·rw[if_neg ω];exact hri y ω
   ·rename_i hxk;have:x=k:=ω;subst this;exact⟨ω,ω,by simp;omega,by simp;omega,hX (q+1,_) ⟨by dsimp only;omega,hI.push e hrl hri⟩ rfl⟩
 ·rename_i hlt;have:q=p.length:=ω;subst this;have s0:t.Start=0:=ct.st
  have hp0:ix p t.Start=0:=by
   rw[s0];obtain⟨a,ea,ha⟩:=hpc.rg 0 (by have:=Dt.f1;omega)
   rcases Nat.eq_zero_or_pos a with h0 | h0
   ·subst h0;exact ea
   ·obtain⟨j,hj,_⟩:=hpc.fst 0 0 (by have:=Dt.f1;omega) ω;omega
  have hQ:Quo k t p ⟨d.Letters,0,Fn,Nx⟩:=hI.quo hpc ω hp0.symm;have DQ:=hQ.da Dt hkt hplen (by show Fn.length≤512;omega);refine J8h DQ hk fun m pm W cm hpm=>?_;have hmin:=Jbz D hk ct (JcM Dt hkt hp hQ cm);have hWF:=cm.cl.few DQ hk;have hpll:=hpl.1;refine fun _=>⟨ω,ω,?_⟩;refine LoopWP.to pl.length (fun s=>s.1) (fun s=>s.1≤pl.length∧s.2.length=pl.length) ⟨Nat.zero_le _,by simp⟩ (fun s h=>h.1) ?_;rintro⟨b,o⟩ X2 ⟨hb,hol⟩ hX2
  try dsimp only at hb hol ⊢
  unfold J4D
  split
  ·rename_i hlt2;refine⟨ω,hlt2,ω,ω,?_⟩
   split
   ·rename_i h0;have hb2:=hpl.2 b ω;obtain⟨a,ea,ha⟩:=hQ.rg (ix pl b).toNat ω;have e1:(((ix pl (b:Int)).toNat:Nat):Int)=ix pl b:=ω;rw[e1] at ea;have hpm1:=hpm.1;rw[ea];have ha:a<Fn.length:=ha;have hpm1:pm.length=Fn.length:=hpm1;exact⟨h0,ω,ω,ω,ω,by simp;omega,hX2 (b+1,_) ⟨by dsimp only;omega,by simp[hol]⟩ rfl⟩
   ·exact hX2 (b+1,_) ⟨by dsimp only;omega,by simp[hol]⟩ rfl
  ·exact h m W o hmin
theorem J2y (D:Da d) (hk:(k:Int)=d.Letters) {K:DFA→Prop} (h:∀m W,Can k (nero d k) (acc d) m W→K m):J0M d K:=by
 unfold J0M;refine J1U ?_;rw[if_pos (daC0.2 (J43.2 D))];exact J7T D hk fun m W s c=>h m W c
end
end Sg
namespace Sg
open Go
def MinOf (k:Nat) (d M:DFA):Prop:=∃W,Can k (nero d k) (acc d) M W
section
variable {k:Nat} {d M:DFA}
theorem Jea (d:DFA) (k:Nat):Sat k (nero d k) (acc d):=fun u v _ _ h=>by
 have:=J5z.1 h [] (LW.nil k)
 simpa [acc] using this
theorem MinOf.acc_ (h:MinOf k d M) (hk:k<159) {w:Str} (hw:LW k w):acc M w=acc d w:=by
 obtain⟨W,c⟩:=h;exact c.acc (J8Z d k) hk (Jea d k) hw
theorem MinOf.st (h:MinOf k d M):M.Start=0:=let ⟨_,c⟩:=h;c.st
theorem MinOf.le (h:MinOf k d M):M.Letters=k:=let ⟨_,c⟩:=h;c.le
theorem MinOf.pos (h:MinOf k d M):1≤M.Final.length:=by
 obtain⟨W,c⟩:=h;have:=c.cl.zero.2;rw[c.fl];omega
theorem MinOf.da (h:MinOf k d M) (h1:1≤k) (h6:k≤6) (hn:M.Final.length≤512):Da M:=by
 obtain⟨W,c⟩:=h;exact c.da h1 h6 (by rw[←c.fl];exact hn)
theorem MinOf.J2x (h:MinOf k d M) (hk:k<159) {u v:Str} (hu:LW k u) (hv:LW k v):(∀q:Nat,q<M.Final.length→rn M q u=rn M q v)↔syn (acc d) k u=syn (acc d) k v:=by
 have hacc:∀w,LW k w→ix M.Final (rn M 0 w)=acc d w:=fun w hw=>by
  have:=h.acc_ hk hw;rw[←this,acc,h.st]
 obtain⟨W,c⟩:=h;rw[Sg.J2x];constructor
 ·intro e x y hx hy;rw[←hacc _ (LW.app.2 ⟨LW.app.2 ⟨hx,hu⟩,hy⟩),←hacc _ (LW.app.2 ⟨LW.app.2 ⟨hx,hv⟩,hy⟩),J5s,J5s,J5s,J5s];obtain⟨j,e1,hj,_⟩:=c.run (J8Z d k) hk hx;rw[e1,e j (by rw[c.fl];exact hj)]
 ·intro e q hq
  have hq:q<W.length:=by rw[←c.fl];exact hq
  have lq:=c.cl.lw hq;obtain⟨j,e1,hj,r1⟩:=c.run (J8Z d k) hk lq;have:j=q:=c.cl.inj hj hq r1;subst this;obtain⟨a,ea,ha,ra⟩:=c.run (J8Z d k) hk (LW.app.2 ⟨lq,hu⟩);obtain⟨b,eb,hb,rb⟩:=c.run (J8Z d k) hk (LW.app.2 ⟨lq,hv⟩)
  have hab:a=b:=c.cl.inj ha hb (by
   rw[ra,rb,J5z];intro w hw
   exact e _ w lq hw)
  rw[J5s,e1] at ea eb;rw[ea,eb,hab]
end
def PN (Ms:List DFA):Nat:=(Ms.map fun M=>M.Final.length).sum
theorem JdN:PN []=0:=rfl
theorem Jdi (Ms:List DFA) (M:DFA):PN (Ms++[M])=PN Ms+M.Final.length:=by simp[PN]
theorem Jfg (a b:List DFA):PN (a++b)=PN a+PN b:=by simp[PN]
theorem Jdu {Ms:List DFA} {i:Nat} (hi:i<Ms.length):PN (Ms.take (i+1))=PN (Ms.take i)+(ix Ms (i:Int)).Final.length:=by rw[Ja7 hi,Jdi]
theorem PN_le {Ms:List DFA} {i:Nat} (hi:i<Ms.length):PN (Ms.take i)+(ix Ms (i:Int)).Final.length≤PN Ms:=by
 have h1:Ms=Ms.take (i+1)++Ms.drop (i+1):=(List.take_append_drop _ _).symm;have h2:PN Ms=PN (Ms.take (i+1))+PN (Ms.drop (i+1)):=(congrArg PN h1).trans (Jfg _ _);rw[h2,Jdu hi];omega
theorem Jcb:∀{Ms:List DFA} {p:Nat},p<PN Ms→∃i q,i<Ms.length∧q<(ix Ms (i:Int)).Final.length∧p=PN (Ms.take i)+q:=by
  intro Ms p h
  have key:∀i,i≤Ms.length→p<PN (Ms.take i)→∃i q,i<Ms.length∧q<(ix Ms (i:Int)).Final.length∧p=PN (Ms.take i)+q:=by
    intro i
    induction i with
    | zero=>intro _ h;simp[PN] at h
    | succ i ih =>
      intro hi hp;by_cases hlt:p<PN (Ms.take i)
      · exact ih ω hlt
      · rw[Jdu ω] at hp;exact⟨i,p-PN (Ms.take i),ω,ω,ω⟩
  exact key Ms.length (Nat.le_refl _) (by rw[List.take_length];exact h)
structure Uni (k:Nat) (Ms:List DFA) (gens:List (List Int)):Prop where
 gl:gens.length=k
 cl:∀x:Nat,x<k→(ix gens x).length=PN Ms
 at_:∀i q x:Nat,i<Ms.length→q<(ix Ms (i:Int)).Final.length→x<k→ix (ix gens (x:Int)) ((PN (Ms.take i)+q:Nat):Int)=(PN (Ms.take i):Int)+ix (ix (ix Ms (i:Int)).Next (q:Int)) (x:Int)
structure Mins (k:Nat) (ds Ms:List DFA):Prop where
 len:Ms.length=ds.length
 min:∀i:Nat,i<ds.length→MinOf k (ix ds (i:Int)) (ix Ms (i:Int))
def syJ (ds:List DFA) (k:Nat) (w:Str):Nat→{u:Str // LW k u}×{u:Str // LW k u}→Bool:=fun i=>if i<ds.length then syn (acc (ix ds (i:Int))) k w else fun _=>false
theorem Jd1 {ds:List DFA} {k:Nat} {u v:Str}:syJ ds k u=syJ ds k v↔∀i:Nat,i<ds.length→syn (acc (ix ds (i:Int))) k u=syn (acc (ix ds (i:Int))) k v:=by
 constructor
 ·intro h i hi;have:=congrFun h i;simpa [syJ,hi] using this
 ·intro h
  funext i
  by_cases hi:i<ds.length
  ·simp only[syJ,hi,if_true];exact h i hi
  ·simp only[syJ,hi,if_false]
theorem JcX (d:DFA) (k:Nat):Eqv k (syJ [d] k) (syn (acc d) k):=fun u v hu hv=>by
 rw[Jd1]
 constructor
 ·intro h;exact h 0 (by simp)
 ·intro h i hi
  have:i=0:=by simpa using hi
  subst this
  exact h
section
variable {k:Nat} {ds Ms:List DFA} {gens:List (List Int)}
theorem Uni.GV_ (h:Uni k Ms gens) (hm:Mins k ds Ms) (h1:1≤k) (h6:k≤6) (hd:1≤ds.length) (h32:PN Ms≤32):GV gens=true:=by
 have hgl:=h.gl;have hml:=hm.len;have e0:=h.cl 0 ω;rw[show ((0:Nat):Int)=0 from rfl] at e0
 have hpos:1≤PN Ms:=by
  have:=PN_le (Ms:=Ms) (i:=0) ω;have:=(hm.min 0 ω).pos;omega
 refine J0w.2 ⟨ω,ω,fun x hx=>⟨J2j.2 ⟨?_,?_,fun p hp=>?_⟩,?_⟩⟩
 ·rw[h.cl x ω];exact hpos
 ·rw[h.cl x ω];exact h32
 ·rw[h.cl x ω] at hp ⊢;obtain⟨i,q,hi,hq,rfl⟩:=Jcb hp;rw[h.at_ i q x hi hq ω];have hle:=PN_le hi;have M:=hm.min i ω;have Dm:=M.da h1 h6 ω;have:=(Dm.at_ (q:=q) (x:=x) ω ω ω (by rw[M.le];omega)).2;omega
 ·rw[h.cl x ω,e0]
theorem Uni.len (h:Uni k Ms gens) (h1:1≤k):(ix gens 0).length=PN Ms:=h.cl 0 ω
theorem Uni.vl_at (h:Uni k Ms gens) (hm:Mins k ds Ms) (hg:GV gens=true) (h1:1≤k) (h6:k≤6) (h32:PN Ms≤32) {i q:Nat} (hi:i<Ms.length) (hq:q<(ix Ms (i:Int)).Final.length) {w:Str} :
    LW k w→ix (vl gens w) ((PN (Ms.take i)+q:Nat):Int)=(PN (Ms.take i):Int)+rn (ix Ms (i:Int)) q w:=by
  have hgl:=h.gl;have hml:=hm.len;have hle:=PN_le hi;have M:=hm.min i ω;have Dm:=M.da h1 h6 ω;have hkl:(k:Int)=(ix Ms (i:Int)).Letters:=M.le.symm;have hl0:=h.len h1
  induction w using snocRec with
  | nil =>
    intro _;rw[Jbb,J89 ω,JcS];omega
  | snoc w b ih =>
    intro hw;obtain⟨hw1,hw2⟩:=LW.app.1 hw;obtain⟨x,hx,rfl⟩:=LW.letter ω hw2;have hok:=vl_ok hg (w:=w) (by rw[hgl];exact hw1)
    have e1:((lt x).toNat:Int)-97=x:=by rw[J0j ω];omega
    rw[J6x,e1,J3Q ω (by rw[hok.2];omega),ih hw1,J4G _ _ _ ω];have hin:=rn_lw Dm hkl hw1 (q:=q) ω ω;obtain⟨p,ep⟩:=Int.eq_ofNat_of_zero_le hin.1;rw[ep] at hin ⊢;have:=h.at_ i p x hi ω hx;rw[←this]
    congr 1
theorem Uni.eqv (h:Uni k Ms gens) (hm:Mins k ds Ms) (hg:GV gens=true) (h1:1≤k) (h6:k≤6) (h32:PN Ms≤32):Eqv k (vl gens) (syJ ds k):=fun u v hu hv=>by
 have hgl:=h.gl
 have hml:=hm.len
 have hl0:=h.len h1
 have hu':=vl_ok hg (w:=u) (by rw[hgl];exact hu)
 have hv':=vl_ok hg (w:=v) (by rw[hgl];exact hv)
 rw[Jd1]
 constructor
 ·intro e i hi
  refine((hm.min i hi).J2x ω hu hv).1 fun q hq=>?_
  have a:=h.vl_at hm hg h1 h6 h32 (i:=i) ω hq hu
  have b:=h.vl_at hm hg h1 h6 h32 (i:=i) ω hq hv
  rw[e] at a
  omega
 ·intro e
  refine J09 (by rw[hu'.2,hv'.2]) fun p hp=>?_
  rw[hu'.2,hl0] at hp
  obtain⟨i,q,hi,hq,rfl⟩:=Jcb hp
  rw[h.vl_at hm hg h1 h6 h32 hi hq hu,h.vl_at hm hg h1 h6 h32 hi hq hv,((hm.min i ω).J2x ω hu hv).2 (e i ω) q hq]
end
section
variable {gens:List (List Int)} {r:run}
theorem Fin.CL_ (hg:GV gens=true) (h:Fin gens true r):CL gens.length (vl gens) r.words (fun _=>True):=by
 have hr:=h.1.rlT hg;refine⟨hr.asc,fun w=>?_⟩;rw[hr.mem];constructor
 ·rintro⟨⟨⟨h1,_⟩,h2⟩,_⟩;exact⟨⟨h1,fun v hv=>h2 v ⟨hv,.inl rfl⟩⟩,trivial⟩
 ·rintro⟨⟨h1,h2⟩,_⟩;exact⟨⟨⟨h1,.inl rfl⟩,fun v hv=>h2 v hv.1⟩,trivial⟩
theorem Fin.w0 (hg:GV gens=true) (h:Fin gens true r):ix r.words 0=[]∧0<r.words.length:=(h.CL_ hg).zero
theorem Fin.from_ (hg:GV gens=true) (h:Fin gens true r) {i:Nat} (hi:i<r.words.length) (h0:0<i) :
  ∃p x:Nat,p<i∧ix r.Enum.Prefix i=(p:Int)∧x<gens.length∧ix r.words i=ix r.words p++[lt x]∧ix r.Enum.Last i=(x:Int):=by
 have hk6:=(J0w.1 hg).2.1;have hz:=h.w0 hg;have asc:=(h.CL_ hg).asc
 have hne:ix r.words i≠[]:=fun e=>by
  have:=J74 asc hi hz.2 (by rw[e];exact hz.1.symm);omega
 rcases h.1.si.at_ i hi with ⟨h1,_⟩ | ⟨p,b,h1,h2,h3,h4⟩
 ·exact absurd h1 hne
 ·have hw:=((h.CL_ hg).mem _).1 (J0f.2 ⟨i,hi,rfl⟩);have hw:=hw.1.1;rw[h1] at hw;obtain⟨x,hx,rfl⟩:=LW.letter ω (LW.app.1 hw).2;rw[J0j ω] at h2
  rcases h3 with ⟨_,e2,_⟩ | ⟨_,e2,e3,e4⟩
  ·cases e2
  ·obtain⟨q,hq⟩:=Int.eq_ofNat_of_zero_le e2;rw[hq] at e2 e3 e4;refine⟨q,x,?_,hq,hx,by rw[h1,e4],ω⟩;refine J60 asc ω hi ?_;rw[e4,h1];exact .inl (by simp)
theorem Fin.el (h:Fin gens true r):r.Enum.Elems.length=r.words.length:=h.1.si.elen
theorem Jeg {k:Nat} {α:Type} {ρ:Str→α} {W:List Str} (c:CL k ρ W (fun _=>True)) {i:Nat} (hi:i<W.length) (h0:0<i):∃w,LW k w∧w≠[]∧ρ w=ρ (ix W i):=
 ⟨ix W i, c.lw hi, fun e => by
  have hz:=c.zero
  have:=J74 c.asc hi hz.2 (by rw[e];exact hz.1.symm)
  omega,rfl⟩
theorem Jfh {k:Nat} (hg:GV gens=true) (hk:gens.length=k) (h:Fin gens true r) {l:Int} {T:List (List Int)} {im:List Int} {A P:List Bool} (hl:l=k)
  (t1:T.length=r.words.length) (t2:∀i:Nat,i<r.words.length→(ix T i).length=r.words.length)
  (t3:∀i j:Nat,i<r.words.length→j<r.words.length→∃m:Nat,ix (ix T i) j=m∧m<r.words.length∧vl gens (ix r.words m)=vl gens (ix r.words i++ix r.words j))
  (i1:im.length=k) (i2:∀x:Nat,x<k→∃m:Nat,ix im x=m∧m<r.words.length∧vl gens (ix r.words m)=vl gens [lt x])
  (p1:P.length=r.words.length) (p2:∀i:Nat,0<i→i<r.words.length→ix P i=true) (p3:ix P 0=true↔∃w,LW k w∧w≠[]∧vl gens w=vl gens []):Mon k (vl gens) ⟨l,T,r.words,im,A,P⟩:=by
 have c:=h.CL_ hg;rw[hk] at c;refine⟨c,hl,t1,t2,t3,i1,i2,p1,fun i hi=>?_⟩
 rcases Nat.eq_zero_or_pos i with h0 | h0
 ·subst h0;have hz:=c.zero
  show ix P 0=true↔_
  rw[p3]
  show _↔∃w,LW k w∧w≠[]∧vl gens w=vl gens (ix r.words ((0:Nat):Int))
  rw[show ((0:Nat):Int)=0 from rfl,hz.1]
 ·exact⟨fun _=>Jeg c hi h0,fun _=>p2 i h0 hi⟩
end
end Sg
namespace Sg
open Go
theorem slices_Contains_ok' {s:List Int} {v:Int} {K:Bool→Prop} (h:K (decide (v∈s))):J0U s v K:=by
 unfold J0U J2n;refine fun _=>LoopWP.scan s.length (fun j=>ix s j≠v) ?_;intro j X hj hI hX;unfold J4Y
 split
 ·rename_i hlt;refine⟨ω,hlt,?_⟩
  split
  ·rename_i e;dsimp only;rw[if_pos ω]
   have:v∈s:=by rw[e];exact J0S ω hlt
   rw[decide_eq_true this] at h;exact h
  ·rename_i e;exact hX ω (fun h2=>e h2.symm)
 ·dsimp only;rw[if_neg (by decide)]
  have:v∉s:=fun hm=>by
   obtain⟨i,hi,e⟩:=J0f.1 hm;exact hI i ω e
  rw[decide_eq_false this] at h;exact h
section
variable {gens:List (List Int)} {r:run}
def CellI (gens:List (List Int)) (r:run) (a j:Nat) (v:Int):Prop:=∃m:Nat,v=m∧m<r.words.length∧vl gens (ix r.words m)=vl gens (ix r.words a++ix r.words j)
def TabI (gens:List (List Int)) (r:run) (i:Nat) (T:List (List Int)):Prop:=T.length=r.words.length∧∀a:Nat,a<i→(ix T a).length=r.words.length∧∀j:Nat,j<r.words.length→CellI gens r a j (ix (ix T a) j)
def RowT (gens:List (List Int)) (r:run) (i j:Nat) (T:List (List Int)):Prop:=TabI gens r i T∧(ix T i).length=r.words.length∧∀y:Nat,y<j→CellI gens r i y (ix (ix T i) y)
theorem RowT.all {i:Nat} {T:List (List Int)} (h:RowT gens r i r.words.length T):TabI gens r (i+1) T:=
 ⟨h.1.1, fun a ha => by
  by_cases e:a=i
  ·subst e;exact h.2
  ·exact h.1.2 a ω⟩
theorem RowT.start {i:Nat} {T:List (List Int)} (hg:GV gens=true) (hF:Fin gens true r) (h:TabI gens r i T) (hi:i<r.words.length) :
  RowT gens r i 1 (st (st T (i:Int) (List.replicate r.Enum.Elems.length (0:Int))) (i:Int) (st (ix (st T (i:Int) (List.replicate r.Enum.Elems.length (0:Int))) (i:Int)) (0:Int) (i:Int))):=by
 have hl:=h.1;have hel:=hF.el;have hz:=hF.w0 hg;refine⟨⟨by simp[hl],fun a ha=>?_⟩,?_,fun y hy=>?_⟩
 ·rw[ix_st _ ω (by simp;omega) ω,if_neg ω,ix_st _ ω ω ω,if_neg ω];exact h.2 a ha
 ·rw[ix_st _ ω (by simp;omega) ω,if_pos rfl,ix_st _ ω ω ω,if_pos rfl];simp[hel]
 ·have:y=0:=ω;subst this
  have e:ix (st T (i:Int) (List.replicate r.Enum.Elems.length (0:Int))) (i:Int)=List.replicate r.Enum.Elems.length (0:Int):=by rw[ix_st _ ω ω ω,if_pos rfl]
  rw[ix_st _ ω (by simp;omega) ω,if_pos rfl,e,ix_st _ ω (by simp;omega) ω,if_pos ω];exact⟨i,rfl,hi,by rw[show ((0:Nat):Int)=0 from rfl,hz.1,List.append_nil]⟩
theorem RowT.look {i j:Nat} {T:List (List Int)} (hg:GV gens=true) (hF:Fin gens true r) (h:RowT gens r i j T) (hi:i<r.words.length) (hj:j<r.words.length) (h0:0<j) :
  0≤ix r.Enum.Prefix j∧ix r.Enum.Prefix j<r.words.length∧0≤ix (ix T i) (ix r.Enum.Prefix j)∧ix (ix T i) (ix r.Enum.Prefix j)<r.Enum.Right.length∧0≤ix r.Enum.Last j∧ix r.Enum.Last j<(ix r.Enum.Right (ix (ix T i) (ix r.Enum.Prefix j))).length∧CellI gens r i j (ix (ix r.Enum.Right (ix (ix T i) (ix r.Enum.Prefix j))) (ix r.Enum.Last j)):=by
 obtain⟨p,x,hp,e1,hx,e2,e3⟩:=hF.from_ hg hj h0;obtain⟨m,em,hm,rm⟩:=h.2.2 p hp;rw[e1,em,e3];obtain⟨r1,r2,r3,r4,r5⟩:=hF.1.J8l (q:=(m:Int)) (x:=x) ω ω hx rm;obtain⟨v,ev⟩:=Int.eq_ofNat_of_zero_le r3;refine⟨ω,ω,ω,r1,ω,ω,v,ev,ω,?_⟩;rw[ev] at r5;rw[r5,e2,List.append_assoc]
theorem RowT.step {i j:Nat} {T:List (List Int)} {v:Int} (h:RowT gens r i j T) (hi:i<r.words.length) (hj:j<r.words.length) (hv:CellI gens r i j v):RowT gens r i (j+1) (st T (i:Int) (st (ix T (i:Int)) (j:Int) v)):=by
 have hl:=h.1.1;have hr:=h.2.1;refine⟨⟨by simp[hl],fun a ha=>?_⟩,?_,fun y hy=>?_⟩
 ·rw[ix_st _ ω ω ω,if_neg ω];exact h.1.2 a ha
 ·rw[ix_st _ ω ω ω,if_pos rfl];simp[hr]
 ·rw[ix_st _ ω ω ω,if_pos rfl,ix_st _ ω ω ω];by_cases e:y=j
  ·subst e;rw[if_pos rfl];exact hv
  ·rw[if_neg ω];exact h.2.2 y ω
structure PlI (gens:List (List Int)) (r:run) (i:Nat) (pl:List Bool):Prop where
 len:pl.length=r.words.length
 pos:∀j:Nat,0<j→j<r.words.length→ix pl j=true
 zer:ix pl 0=true↔∃a x:Nat,a<i∧x<gens.length∧ix (ix r.Enum.Right a) x=0
theorem PlI.step {i:Nat} {pl:List Bool} (hF:Fin gens true r) (h:PlI gens r i pl) (hi:i<r.words.length) {b:Bool} (hb:b=(ix pl 0 || decide ((0:Int)∈ix r.Enum.Right (i:Int)))):PlI gens r (i+1) (st pl (0:Int) b):=by
 have hl:=h.len;refine⟨by simp[hl],fun j h0 hj=>?_,?_⟩
 ·rw[ix_st _ ω ω ω,if_neg ω];exact h.pos j h0 hj
 ·rw[ix_st _ ω ω ω,if_pos rfl,hb];simp only[Bool.or_eq_true,decide_eq_true_eq,h.zer];have hrow:=(hF.1.rt.2 i hi).1;constructor
  ·rintro(⟨a,x,h1,h2,h3⟩ | hm)
   ·exact⟨a,x,ω,h2,h3⟩
   ·obtain⟨x,hx,e⟩:=J0f.1 hm;exact⟨i,x,ω,ω,e⟩
  ·rintro⟨a,x,h1,h2,h3⟩;by_cases e:a=i
   ·subst e;refine .inr ?_;rw[←h3];exact J0S ω ω
   ·exact .inl ⟨a,x,ω,h2,h3⟩
theorem PlI.all {pl:List Bool} (hg:GV gens=true) (hF:Fin gens true r) (h:PlI gens r r.words.length pl):ix pl 0=true↔∃w,LW gens.length w∧w≠[]∧vl gens w=vl gens []:=by
 have hk6:=(J0w.1 hg).2.1;have c:=hF.CL_ hg;have hz:=c.zero;rw[h.zer];constructor
 ·rintro⟨a,x,ha,hx,e⟩;obtain⟨_,_,_,_,r5⟩:=hF.1.J8l (q:=(a:Int)) (x:=x) (w:=ix r.words a) ω ω hx rfl;rw[e,hz.1] at r5;exact⟨ix r.words a++[lt x],LW.app.2 ⟨c.lw ha,LW.lt hx ω⟩,by simp,r5.symm⟩
 ·rintro⟨w,hw,hne,e⟩;obtain⟨p,b,rfl⟩:=snocEx hne;obtain⟨hp,hb⟩:=LW.app.1 hw;obtain⟨x,hx,rfl⟩:=LW.letter ω hb;obtain⟨a,ha,ea⟩:=c.place hp;obtain⟨_,_,r3,r4,r5⟩:=hF.1.J8l (q:=(a:Int)) (x:=x) (w:=p) ω ω hx ea;refine⟨a,x,ha,hx,?_⟩;obtain⟨v,ev⟩:=Int.eq_ofNat_of_zero_le r3;rw[ev] at r4 r5 ⊢;have:v=0:=c.inj ω hz.2 (by rw[r5,e,show ((0:Nat):Int)=0 from rfl,hz.1]);omega
def WdI (r:run) (i:Nat) (w:List Str):Prop:=w.length=r.words.length∧∀j:Nat,j<i→ix w j=ix r.words j
theorem WdI.step {i:Nat} {w:List Str} (h:WdI r i w) (hi:i<r.words.length) {u:Str} (hu:u=ix r.words i):WdI r (i+1) (st w (i:Int) u):=by
 have hl:=h.1;refine⟨by simp[hl],fun j hj=>?_⟩;rw[ix_st _ ω ω ω];by_cases e:j=i
 ·subst e;rw[if_pos rfl];exact hu
 ·rw[if_neg ω];exact h.2 j ω
def LsI (P:List part) (r:run) (L:List (List Bool)) (a:Nat):Prop:=(ix L (a:Int)).length=r.words.length∧∀i:Nat,i<r.words.length→ix (ix L (a:Int)) i=ix (ix P (a:Int)).final (ix (ix r.Enum.Elems i) (ix P (a:Int)).start-(ix P (a:Int)).shift)
def PtI (P:List part) (r:run):Prop:=∀a i:Nat,a<P.length→i<r.words.length→0≤(ix P (a:Int)).start∧(ix P (a:Int)).start<(ix r.Enum.Elems i).length∧I64 (ix (ix r.Enum.Elems i) (ix P (a:Int)).start-(ix P (a:Int)).shift)∧0≤ix (ix r.Enum.Elems i) (ix P (a:Int)).start-(ix P (a:Int)).shift∧ix (ix r.Enum.Elems i) (ix P (a:Int)).start-(ix P (a:Int)).shift<(ix P (a:Int)).final.length
section
variable {M:DFA} {im:List Int} {K:Syntactic→Int→Prop}
theorem JbR (hg:GV gens=true) (hF:Fin gens true r) {i:Nat} {pl:List Bool} {T:List (List Int)} {X:Nat→List Bool→List (List Int)→Prop} (hi:i<r.words.length) (hT:RowT gens r i 1 T) (h:∀T,TabI gens r (i+1) T→X (i+1) (st pl (0:Int) true) T) :
  LoopWP (S:=Nat×List (List Int)) (fun s Y=>J4A r.Enum i pl X K (fun a b=>Y (a,b)) s.1 s.2) (1,T):=by
 have hel:=hF.el;have hpl:=hF.1.si.pl;have hll:=hF.1.si.ll;refine LoopWP.to r.words.length (fun s=>s.1) (fun s=>1≤s.1∧s.1≤r.words.length∧RowT gens r i s.1 s.2) ⟨Nat.le_refl _,by show 1≤r.words.length;omega,hT⟩ (fun s h=>h.2.1) ?_;rintro⟨j,T⟩ Y ⟨h1,hj,hT⟩ hY
 try dsimp only at h1 hj hT ⊢
 unfold J4A;have hTl:=hT.1.1;have hrl:=hT.2.1
 split
 ·rename_i hlt;have hj':j<r.words.length:=ω;obtain⟨a1,a2,a3,a4,a5,a6,a7⟩:=hT.look hg hF hi hj' ω;exact⟨ω,ω,ω,ω,ω,ω,a1,ω,a3,a4,ω,ω,a5,a6,ω,ω,hY (j+1,_) ⟨by dsimp only;omega,hj',hT.step hi hj' a7⟩ rfl⟩
 ·have:j=r.words.length:=ω;subst this;exact h T hT.all
theorem JbN (hg:GV gens=true) (hF:Fin gens true r) {i:Nat} {pl:List Bool} {b:Bool} {T:List (List Int)} {X:Nat→List Bool→List (List Int)→Prop} (hi:i<r.words.length) (hT:RowT gens r i 1 T) (h:∀T,TabI gens r (i+1) T→X (i+1) (st pl (0:Int) b) T) :
  LoopWP (S:=Nat×List (List Int)) (fun s Y=>J59 r.Enum i pl X b K (fun a b=>Y (a,b)) s.1 s.2) (1,T):=by
 have hel:=hF.el;have hpl:=hF.1.si.pl;have hll:=hF.1.si.ll;refine LoopWP.to r.words.length (fun s=>s.1) (fun s=>1≤s.1∧s.1≤r.words.length∧RowT gens r i s.1 s.2) ⟨Nat.le_refl _,by show 1≤r.words.length;omega,hT⟩ (fun s h=>h.2.1) ?_;rintro⟨j,T⟩ Y ⟨h1,hj,hT⟩ hY
 try dsimp only at h1 hj hT ⊢
 unfold J59;have hTl:=hT.1.1;have hrl:=hT.2.1
 split
 ·rename_i hlt;have hj':j<r.words.length:=ω;obtain⟨a1,a2,a3,a4,a5,a6,a7⟩:=hT.look hg hF hi hj' ω;exact⟨ω,ω,ω,ω,ω,ω,a1,ω,a3,a4,ω,ω,a5,a6,ω,ω,hY (j+1,_) ⟨by dsimp only;omega,hj',hT.step hi hj' a7⟩ rfl⟩
 ·have:j=r.words.length:=ω;subst this;exact h T hT.all
theorem Jc3 (hF:Fin gens true r) (hn:r.words.length≤400) (hP:PtI (([]:List part)++[(⟨(0:Int)+M.Start,M.Final,(0:Int)⟩:part)]) r) {w:List Str} {pl:List Bool} {T:List (List Int)} (h1:1≤(([]:List part)++[(⟨(0:Int)+M.Start,M.Final,(0:Int)⟩:part)]).length) (h:∀L:List (List Bool),L.length=(([]:List part)++[(⟨(0:Int)+M.Start,M.Final,(0:Int)⟩:part)]).length→(∀a:Nat,a<(([]:List part)++[(⟨(0:Int)+M.Start,M.Final,(0:Int)⟩:part)]).length→LsI (([]:List part)++[(⟨(0:Int)+M.Start,M.Final,(0:Int)⟩:part)]) r L a)→K ⟨(gens.length:Int),T,w,im,ix L (0:Int),pl⟩ 0) :
  LoopWP (S:=Nat×List (List Bool)) (fun s Y=>J56 M gens r.Enum im w pl T K (fun a b=>Y (a,b)) s.1 s.2) (0,List.replicate (([]:List part)++[(⟨(0:Int)+M.Start,M.Final,(0:Int)⟩:part)]).length ([]:List Bool)):=by
 have hel:=hF.el;refine LoopWP.to (([]:List part)++[(⟨(0:Int)+M.Start,M.Final,(0:Int)⟩:part)]).length (fun s=>s.1) (fun s=>s.1≤(([]:List part)++[(⟨(0:Int)+M.Start,M.Final,(0:Int)⟩:part)]).length∧s.2.length=(([]:List part)++[(⟨(0:Int)+M.Start,M.Final,(0:Int)⟩:part)]).length∧∀a:Nat,a<s.1→LsI (([]:List part)++[(⟨(0:Int)+M.Start,M.Final,(0:Int)⟩:part)]) r s.2 a) ⟨Nat.zero_le _,by simp,fun a ha=>by simp at ha⟩ (fun s h=>h.1) ?_;rintro⟨b,L⟩ Y ⟨hb,hL,hI⟩ hY
 try dsimp only at hb hL hI ⊢
 unfold J56
 split
 ·rename_i hlt;have hb':b<(([]:List part)++[(⟨(0:Int)+M.Start,M.Final,(0:Int)⟩:part)]).length:=ω;refine⟨ω,hlt,ω,ω,ω,ω,?_⟩;refine LoopWP.to r.words.length (fun s=>s.1) (fun s=>s.1≤r.words.length∧s.2.length=(([]:List part)++[(⟨(0:Int)+M.Start,M.Final,(0:Int)⟩:part)]).length∧(∀a:Nat,a<b→LsI (([]:List part)++[(⟨(0:Int)+M.Start,M.Final,(0:Int)⟩:part)]) r s.2 a)∧(ix s.2 (b:Int)).length=r.words.length∧∀i:Nat,i<s.1→ix (ix s.2 (b:Int)) i=ix (ix (([]:List part)++[(⟨(0:Int)+M.Start,M.Final,(0:Int)⟩:part)]) (b:Int)).final (ix (ix r.Enum.Elems i) (ix (([]:List part)++[(⟨(0:Int)+M.Start,M.Final,(0:Int)⟩:part)]) (b:Int)).start-(ix (([]:List part)++[(⟨(0:Int)+M.Start,M.Final,(0:Int)⟩:part)]) (b:Int)).shift)) ⟨Nat.zero_le _,by simp only[J02];exact hL,fun a ha=>?_,?_,fun i hi=>by simp at hi⟩ (fun s h=>h.1) ?_
  ·have:=hI a ha;unfold LsI at this ⊢;dsimp only;rw[ix_st _ ω ω ω,if_neg ω];exact this
  ·dsimp only;rw[ix_st _ ω ω ω,if_pos rfl];simp[hel]
  rintro⟨i,L⟩ Z ⟨hi,hL,hI,hbl,hJ⟩ hZ
  try dsimp only at hi hL hI hbl hJ ⊢
  unfold J7d
  split
  ·rename_i hlt2;have hi':i<r.words.length:=ω;obtain⟨p1,p2,p3,p4,p5⟩:=hP b i hb' hi';refine⟨ω,ω,ω,ω,?_⟩;unfold J17;refine⟨p1,p2,p3,p4,p5,ω,ω,hZ (i+1,_) ⟨by dsimp only;omega,by simp only[J02];exact hL,fun a ha=>?_,?_,fun y hy=>?_⟩ rfl⟩
   ·have:=hI a ha;unfold LsI at this ⊢;dsimp only;rw[ix_st _ ω ω ω,if_neg ω];exact this
   ·dsimp only;rw[ix_st _ ω ω ω,if_pos rfl];simp[hbl]
   ·dsimp only at hy ⊢;rw[ix_st _ ω ω ω,if_pos rfl,ix_st _ ω ω ω];by_cases e:y=i
    ·subst e;rw[if_pos rfl]
    ·rw[if_neg ω];exact hJ y ω
  ·have:i=r.words.length:=ω;subst this
   exact hY (b+1,L) ⟨by dsimp only;omega,hL,fun a ha=>by
    by_cases e:a=b
    ·subst e;exact⟨hbl,hJ⟩
    ·exact hI a (by dsimp only at ha;omega)⟩ rfl
 ·rename_i hlt;have:b=(([]:List part)++[(⟨(0:Int)+M.Start,M.Final,(0:Int)⟩:part)]).length:=ω;subst this;have hh:=h L hL hI;exact⟨ω,ω,hh⟩
theorem JbS (hg:GV gens=true) (hF:Fin gens true r) (hn:r.words.length≤400) (hP:PtI (([]:List part)++[(⟨(0:Int)+M.Start,M.Final,(0:Int)⟩:part)]) r) {w:List Str} {pl:List Bool} (h1:1≤(([]:List part)++[(⟨(0:Int)+M.Start,M.Final,(0:Int)⟩:part)]).length) (h32:(([]:List part)++[(⟨(0:Int)+M.Start,M.Final,(0:Int)⟩:part)]).length≤1000) (hpl:PlI gens r 0 pl)
  (h:∀(T:List (List Int)) (pl:List Bool) (L:List (List Bool)),TabI gens r r.words.length T→PlI gens r r.words.length pl→L.length=(([]:List part)++[(⟨(0:Int)+M.Start,M.Final,(0:Int)⟩:part)]).length→(∀a:Nat,a<(([]:List part)++[(⟨(0:Int)+M.Start,M.Final,(0:Int)⟩:part)]).length→LsI (([]:List part)++[(⟨(0:Int)+M.Start,M.Final,(0:Int)⟩:part)]) r L a)→K ⟨(gens.length:Int),T,w,im,ix L (0:Int),pl⟩ 0) :
  LoopWP (S:=Nat×List Bool×List (List Int)) (fun s Y=>J5a M gens r.Enum im w K (fun a b c=>Y (a,b,c)) s.1 s.2.1 s.2.2) (0,pl,List.replicate r.Enum.Elems.length ([]:List Int)):=by
 have hel:=hF.el;have hrt:=hF.1.rt.1;have hz:=hF.w0 hg;refine LoopWP.to r.words.length (fun s=>s.1) (fun s=>s.1≤r.words.length∧PlI gens r s.1 s.2.1∧TabI gens r s.1 s.2.2) ⟨Nat.zero_le _,hpl,by simp[hel],fun a ha=>by simp at ha⟩ (fun s h=>h.1) ?_;rintro⟨i,pl,T⟩ Y ⟨hi,hpl,hT⟩ hY
 try dsimp only at hi hpl hT ⊢
 have hpll:=hpl.len;have hTl:=hT.1;unfold J5a
 split
 ·rename_i hlt;have hi':i<r.words.length:=ω;have hs:=RowT.start hg hF hT hi'
  have e0:((ix (st T (i:Int) (List.replicate r.Enum.Elems.length (0:Int))) (i:Int)).length:Int)=r.words.length:=by
   rw[ix_st _ ω ω ω,if_pos rfl];simp[hel]
  refine⟨ω,hlt,ω,ω,?_⟩
  split
  ·rename_i hp0;refine⟨ω,ω,ω,ω,ω,ω,ω,by rw[J02];omega,ω,ω,JbR hg hF hi' hs fun T hT=>hY (i+1,_,T) ⟨by dsimp only;omega,hpl.step hF hi' (by rw[hp0];rfl),hT⟩ rfl⟩
  ·rename_i hp0;refine slices_Contains_ok' ?_;refine⟨ω,ω,ω,ω,ω,ω,ω,by rw[J02];omega,ω,ω,JbN hg hF hi' hs fun T hT=>hY (i+1,_,T) ⟨by dsimp only;omega,hpl.step hF hi' (by rw[Bool.eq_false_iff.2 hp0];rfl),hT⟩ rfl⟩
 ·have:i=r.words.length:=ω;subst this;exact⟨ω,ω,Jc3 hF hn hP h1 fun L hL hI=>h T pl L hT hpl hL hI⟩
theorem JbK (hg:GV gens=true) (hF:Fin gens true r) (hn:r.words.length≤400) (hP:PtI (([]:List part)++[(⟨(0:Int)+M.Start,M.Final,(0:Int)⟩:part)]) r) (h1:1≤(([]:List part)++[(⟨(0:Int)+M.Start,M.Final,(0:Int)⟩:part)]).length) (h32:(([]:List part)++[(⟨(0:Int)+M.Start,M.Final,(0:Int)⟩:part)]).length≤1000)
  (h:∀(w:List Str) (T:List (List Int)) (pl:List Bool) (L:List (List Bool)),w=r.words→TabI gens r r.words.length T→PlI gens r r.words.length pl→L.length=(([]:List part)++[(⟨(0:Int)+M.Start,M.Final,(0:Int)⟩:part)]).length→(∀a:Nat,a<(([]:List part)++[(⟨(0:Int)+M.Start,M.Final,(0:Int)⟩:part)]).length→LsI (([]:List part)++[(⟨(0:Int)+M.Start,M.Final,(0:Int)⟩:part)]) r L a)→K ⟨(gens.length:Int),T,w,im,ix L (0:Int),pl⟩ 0) :
  LoopWP (S:=Nat×List Bool×List Str) (fun s Y=>J5h M gens r.Enum im K (fun a b c=>Y (a,b,c)) s.1 s.2.1 s.2.2) (1,List.replicate r.Enum.Elems.length false,List.replicate r.Enum.Elems.length ([]:Str)):=by
 have hel:=hF.el;have hplx:=hF.1.si.pl;have hll:=hF.1.si.ll;have hz:=hF.w0 hg;have hk6:=(J0w.1 hg).2.1;refine LoopWP.to r.words.length (fun s=>s.1) (fun s=>1≤s.1∧s.1≤r.words.length∧s.2.1.length=r.words.length∧(∀j:Nat,0<j→j<s.1→ix s.2.1 j=true)∧ix s.2.1 0=false∧WdI r s.1 s.2.2) ⟨Nat.le_refl _,hz.2,by simp[hel],fun j h0 hj=>by dsimp only at hj;omega,?_,by simp[hel],fun j hj=>?_⟩ (fun s h=>h.2.1) ?_
 ·dsimp only;rw[show (0:Int)=((0:Nat):Int) from rfl,J0c _ _ ω]
 ·dsimp only at hj ⊢;have:j=0:=ω;subst this;rw[J0c _ _ ω];exact hz.1.symm
 rintro⟨i,pl,w⟩ Y ⟨h0,hi,hpl,hp1,hp0,hw⟩ hY
 try dsimp only at h0 hi hpl hp1 hp0 hw ⊢
 have hwl:=hw.1;unfold J5h
 split
 ·rename_i hlt;have hi':i<r.words.length:=ω;obtain⟨p,x,hp,e1,hx,e2,e3⟩:=hF.from_ hg hi' ω;have hwp:=hF.1.si.wl p ω;rw[e1,e3,JcL ω,hw.2 p ω]
  exact⟨ω,ω,ω,ω,ω,ω,⟨ω,ω⟩,by simp;omega,ω,ω,ω,ω,hY (i+1,_,_) ⟨by dsimp only;omega,hi',by simp[hpl],fun j h0 hj=>by
   dsimp only at hj ⊢;rw[ix_st _ ω ω ω];by_cases e:j=i
   ·subst e;rw[if_pos rfl]
   ·rw[if_neg ω];exact hp1 j h0 ω,by
   dsimp only
   rw[ix_st _ ω ω ω,if_neg ω];exact hp0,hw.step hi' e2.symm⟩ rfl⟩
 ·have:i=r.words.length:=ω;subst this;have ew:w=r.words:=J09 hw.1 fun j hj=>hw.2 j ω;exact fun _=>JbS hg hF hn hP h1 h32 ⟨hpl,hp1,by rw[hp0];simp⟩ fun T pl L h1 h2 h3 h4=>h w T pl L ew h1 h2 h3 h4
end
section
variable {P:List part} {im:List Int} {K:Syntactic→List (List Bool)→Int→Prop}
end
end
end Sg
namespace Sg
open Go
section
variable {gens:List (List Int)}
theorem RI.ex0 (hg:GV gens=true):∃r,RI gens true 0 r:=by
  have key:∀x,x≤gens.length→∃E Pf Ls R W Bh sg m,BI gens true x E Pf Ls R W Bh sg m:=by
    intro x
    induction x with
    | zero=>intro _;exact⟨_,_,_,_,_,_,_,_,BI.start1 hg⟩
    | succ x ih =>
      intro hx;obtain⟨E,Pf,Ls,R,W,Bh,sg,m,h⟩:=ih ω;by_cases hf:ix gens (x:Int)∈E
      · exact⟨_,_,_,_,_,_,_,_,(h.known hg ω hf).2.2⟩
      · exact⟨_,_,_,_,_,_,_,_,h.new hg ω hf (e:=0) rfl⟩
  obtain⟨E,Pf,Ls,R,W,Bh,sg,m,h⟩:=key gens.length (Nat.le_refl _);exact⟨_,h.fin hg⟩
theorem RI.exS (hg:GV gens=true) {d:Nat} {r:run} (h:RI gens true d r) (hd:d<r.words.length):∃r',RI gens true (d+1) r':=by
  classical
  have key:∀x,x≤gens.length→∃row E Pf Ls R W Bh m,PI gens true r.single r.Enum.Right d x row E Pf Ls R W Bh m:=by
    intro x
    induction x with
    | zero=>intro _;exact⟨_,_,_,_,_,_,_,_,h.pi hg hd⟩
    | succ x ih =>
      intro hx;obtain⟨row,E,Pf,Ls,R,W,Bh,m,hI⟩:=ih ω;by_cases hf:vl gens (ix W d++[lt x])∈E
      · by_cases hu:ix W d=[]
        · exact⟨_,_,_,_,_,_,_,_,hI.skip hg ω hf fun hn=>absurd hu hn⟩
        · by_cases hm:MN gens true (ix W d++[lt x])
          · exact⟨_,_,_,_,_,_,_,_,hI.rule hg ω hf hu hm⟩
          · exact⟨_,_,_,_,_,_,_,_,hI.skip hg ω hf fun _=>hm⟩
      · have hu:ix W d≠[]:=fun k=>hf (hI.Jbf hg ω k);obtain⟨hb,hq⟩:=JaF hI.si hI.dl (show x<gens.length by omega) hI.sg hI.rt hu
        rcases hq with ⟨_,q0,q1,q2⟩ | ⟨_,_,_,_,q0,q1,q2⟩
        · exact⟨_,_,_,_,_,_,_,_,hI.new hg ω hu hf q0 q1 q2⟩
        · exact⟨_,_,_,_,_,_,_,_,hI.new hg ω hu hf q0 q1 q2⟩
  obtain⟨row,E,Pf,Ls,R,W,Bh,m,hI⟩:=key gens.length (Nat.le_refl _);exact⟨_,hI.fin hg h⟩
theorem Jew (hg:GV gens=true) {n:Nat} (hn:n≤2000) (hf:∀W:List Str,(∀w∈W,LW gens.length w)→(∀i j:Nat,i<j→j<W.length→vl gens (ix W i)≠vl gens (ix W j))→W.length≤n):∃r,Fin gens true r:=by
  have few:∀{d:Nat} {r:run},RI gens true d r→r.words.length≤n:=fun {d r} h=>by
    refine hf r.words (fun w hw=>((h.si.rl.mem w).1 hw).1.1.1) fun i j hij hj e=>?_;have ri:=h.si.red (i:=(i:Int)) ω ω;have rj:=h.si.red (i:=(j:Int)) ω ω;have:=J74 h.si.rl.asc ω hj (ri.uniq rj e);omega
  have key:∀d,(∃r,Fin gens true r)∨∃r,RI gens true d r:=by
    intro d
    induction d with
    | zero=>exact .inr (RI.ex0 hg)
    | succ d ih =>
      rcases ih with ih | ⟨r,h⟩
      · exact .inl ih
      · by_cases e:d<r.words.length
        · exact .inr (h.exS hg e)
        · have:=h.dl;have e:d=r.words.length:=ω;subst e;have:=few h;exact .inl ⟨r,h,ω⟩
  rcases key (n+1) with h | ⟨r,h⟩
  · exact h
  · have:=h.dl;have:=few h;omega
theorem Lim.noFin (hg:GV gens=true) {d:Nat} (h:Lim gens true d) (r:run):¬Fin gens true r:=fun hr=>by
 obtain⟨_,⟨s,hs,hd⟩,hl⟩:=h
 have:=hr.1.J6r hg hs
 have:=hl r.words.length r ω hr.1
 have:=hr.2
 omega
theorem JeS {α:Type} {k:Nat} {ρ:Str→α} {s:Syntactic} (h:Mon k ρ s) (W:List Str) (hw:∀w∈W,LW k w) (hd:∀i j:Nat,i<j→j<W.length→ρ (ix W i)≠ρ (ix W j)):W.length≤s.Words.length:=by
 apply Classical.byContradiction;intro hc
 have rep:∀i:Nat,∃j:Nat,i<W.length→j<s.Words.length∧ρ (ix s.Words j)=ρ (ix W i):=fun i=>by
  by_cases hi:i<W.length
  ·obtain⟨j,h1,h2⟩:=h.cl.place (hw _ (J0f.2 ⟨i,hi,rfl⟩));exact⟨j,fun _=>⟨h1,h2⟩⟩
  ·exact⟨0,fun h=>absurd h hi⟩
 obtain⟨f,hf⟩:=Classical.axiomOfChoice rep
 obtain⟨a,b,h1,h2,e⟩:=pigeon s.Words.length (fun m=>(f m:Int)) fun m hm=>by have:=(hf m ω).1;omega
 have ea:=(hf a ω).2;have eb:=(hf b ω).2
 have:f a=f b:=by have e:(f a:Int)=(f b:Int):=e;omega
 rw[this] at ea;exact hd a b h1 ω (ea.symm.trans eb)
end
structure UniP (k:Nat) (Ms:List DFA) (M:DFA) (cnt:Nat→Nat) (G:List (List Int)):Prop where
 gl:G.length=k
 cl:∀y:Nat,y<k→(ix G (y:Int)).length=PN Ms+cnt y
 old:∀i q y:Nat,i<Ms.length→q<(ix Ms (i:Int)).Final.length→y<k→ix (ix G (y:Int)) ((PN (Ms.take i)+q:Nat):Int)=(PN (Ms.take i):Int)+ix (ix (ix Ms (i:Int)).Next (q:Int)) (y:Int)
 new:∀q y:Nat,y<k→q<cnt y→ix (ix G (y:Int)) ((PN Ms+q:Nat):Int)=(PN Ms:Int)+ix (ix M.Next (q:Int)) (y:Int)
section
variable {k x q:Nat} {Ms:List DFA} {M:DFA} {cnt cnt':Nat→Nat} {G:List (List Int)} {v:Int}
theorem UniP.start (h:Uni k Ms G):UniP k Ms M (fun _=>0) G:=⟨h.gl,fun y hy=>h.cl y hy,fun i q y hi hq hy=>h.at_ i q y hi hq hy,fun q y _ h=>absurd h (Nat.not_lt_zero _)⟩
theorem UniP.congr (h:UniP k Ms M cnt G) (e:∀y,y<k→cnt y=cnt' y):UniP k Ms M cnt' G:=
 ⟨h.gl,fun y hy=>by rw[←e y hy];exact h.cl y hy,h.old,fun q y hy hq=>h.new q y hy (by rw[e y hy];exact hq)⟩
theorem UniP.step (h:UniP k Ms M cnt G) (hx:x<k) (hc:cnt x=q) (hv:v=(PN Ms:Int)+ix (ix M.Next (q:Int)) (x:Int)):UniP k Ms M (fun y=>if y=x then q+1 else cnt y) (st G (x:Int) (ix G (x:Int)++[v])):=by
 have hg:=h.gl;have hcx:=h.cl x hx
 have e1:∀y:Nat,y<k→ix (st G (x:Int) (ix G (x:Int)++[v])) (y:Int)=if y=x then ix G (x:Int)++[v] else ix G (y:Int):=fun y hy=>by
  rw[ix_st _ ω ω ω];by_cases e:y=x
  ·subst e;rw[if_pos rfl,if_pos rfl]
  ·rw[if_neg ω,if_neg e]
 refine⟨by simp[hg],fun y hy=>?_,fun i q y hi hq hy=>?_,fun p y hy hp=>?_⟩
 ·rw[e1 y hy];by_cases e:y=x
  ·rw[if_pos e,if_pos e];simp;omega
  ·rw[if_neg e,if_neg e];exact h.cl y hy
 ·rw[e1 y hy];by_cases e:y=x
  ·subst e;rw[if_pos rfl,ixA (by have:=PN_le hi;omega)];exact h.old i q y hi hq hy
  ·rw[if_neg e];exact h.old i q y hi hq hy
 ·rw[e1 y hy];by_cases e:y=x
  ·subst e;rw[if_pos rfl] at hp ⊢;by_cases hpq:p=q
   ·subst hpq;rw[ixL' ω];exact hv
   ·rw[ixA ω];exact h.new p y hy ω
  ·rw[if_neg e] at hp ⊢;exact h.new p y hy hp
theorem Jcn {α:Type} [Inhabited α] {l:List α} {a:α} {i:Nat} (hi:i<(l++[a]).length):(i<l.length∧ix (l++[a]) (i:Int)=ix l (i:Int))∨(i=l.length∧ix (l++[a]) (i:Int)=a):=by
 simp only[List.length_append,List.length_singleton] at hi;by_cases h:i<l.length
 ·exact .inl ⟨h,ixA h⟩
 ·exact .inr ⟨ω,ixL' ω⟩
theorem UniP.all (h:UniP k Ms M (fun _=>M.Final.length) G):Uni k (Ms++[M]) G:=by
 refine⟨h.gl,fun y hy=>by rw[h.cl y hy,Jdi],fun i q y hi hq hy=>?_⟩
 rcases Jcn hi with ⟨h1,e⟩ | ⟨h1,e⟩
 ·rw[e] at hq ⊢;rw[List.take_append_of_le_length ω];exact h.old i q y h1 hq hy
 ·rw[e] at hq ⊢;subst h1;rw[List.take_append_of_le_length (Nat.le_refl _),List.take_length];exact h.new q y hy hq
theorem Uni.nil (k:Nat):Uni k [] (List.replicate k ([]:List Int)):=⟨by simp,fun y hy=>by rw[J0c _ _ hy];rfl,fun i q y hi _ _=>by simp at hi⟩
def cntL (n x q:Nat) (y:Nat):Nat:=if y<x then n else if y=x then q else 0
theorem UniP.stepL {n:Nat} (h:UniP k Ms M (cntL n x q) G) (hx:x<k) (hv:v=(PN Ms:Int)+ix (ix M.Next (q:Int)) (x:Int)):UniP k Ms M (cntL n x (q+1)) (st G (x:Int) (ix G (x:Int)++[v])):=
 (h.step hx (by simp [cntL]) hv).congr fun y _ => by
  unfold cntL
  by_cases e:y=x
  ·subst e;simp
  ·rw[if_neg e]
   by_cases e2:y<x
   ·rw[if_pos e2,if_pos e2]
   ·rw[if_neg e2,if_neg e2,if_neg e,if_neg e]
theorem UniP.nextL {n:Nat} (h:UniP k Ms M (cntL n x n) G):UniP k Ms M (cntL n (x+1) 0) G:=
 h.congr fun y _=>by
  unfold cntL
  by_cases e:y=x
  ·subst e;simp
  ·by_cases e2:y<x
   ·rw[if_pos e2,if_pos ω]
   ·rw[if_neg e2,if_neg e,if_neg ω];split<;>rfl
end
structure SynJ (k:Nat) (ds:List DFA) (s:Syntactic) (L:List (List Bool)):Prop where
 mon:Mon k (syJ ds k) s
 ll:L.length=ds.length
 la:∀i:Nat,i<ds.length→(ix L (i:Int)).length=s.Words.length∧∀j:Nat,j<s.Words.length→ix (ix L (i:Int)) j=acc (ix ds (i:Int)) (ix s.Words j)
 ac:s.Accept=ix L 0
 n:s.Words.length≤400
 few:∃Ms,Mins k ds Ms∧PN Ms≤32
section
variable {k:Nat} {ds Ms:List DFA} {gens:List (List Int)} {r:run} {s s':Syntactic} {L L':List (List Bool)}
theorem SynJ.acc_ (h:SynJ k ds s L) (h1:1≤ds.length):Acc (acc (ix ds 0)) s:=by
 have:=h.la 0 ω;rw[show ((0:Nat):Int)=0 from rfl,←h.ac] at this;exact⟨this.1,this.2⟩
theorem SynJ.fin (h:SynJ k ds s L) (hg:GV gens=true) (hgl:gens.length=k) (he:Eqv k (vl gens) (syJ ds k)):∃r,Fin gens true r∧r.words.length≤400:=by
 have hk6:=(J0w.1 hg).2.1;have hm:=h.mon.congr ω he.symm;obtain⟨r,hr⟩:=Jew hg (n:=400) ω fun W hW hd=>Nat.le_trans (JeS (k:=k) hm W (fun w hw=>by rw[←hgl];exact hW w hw) hd) h.n;refine⟨r,hr,?_⟩;have c:=hr.CL_ hg;rw[hgl] at c;have:=c.uniq hm.cl;rw[this];exact h.n
structure PartsOk (Ms:List DFA) (P:List part):Prop where
 len:P.length=Ms.length
 at_:∀a:Nat,a<Ms.length→(ix P (a:Int)).start=(PN (Ms.take a):Int)∧(ix P (a:Int)).final=(ix Ms (a:Int)).Final∧(ix P (a:Int)).shift=(PN (Ms.take a):Int)
theorem PartsOk.nil:PartsOk [] []:=⟨rfl,fun a h=>by simp at h⟩
theorem PartsOk.push {P:List part} (h:PartsOk Ms P) {M:DFA} (hs:M.Start=0):PartsOk (Ms++[M]) (P++[⟨(PN Ms:Int)+M.Start,M.Final,(PN Ms:Int)⟩]):=by
 have hl:=h.len;refine⟨by simp[hl],fun a ha=>?_⟩
 rcases Jcn ha with ⟨h1,e⟩ | ⟨h1,e⟩
 ·rw[e,ixA ω,List.take_append_of_le_length ω];exact h.at_ a h1
 ·rw[e];subst h1;rw[ixL' ω,List.take_append_of_le_length (Nat.le_refl _),List.take_length];exact⟨by rw[hs];simp,rfl,rfl⟩
section
variable {P:List part}
theorem Jcc (hu:Uni k Ms gens) (hm:Mins k ds Ms) (hg:GV gens=true) (h1:1≤k) (h6:k≤6) (h32:PN Ms≤32) (hP:PartsOk Ms P) (hF:Fin gens true r) {a i:Nat} (ha:a<Ms.length) (hi:i<r.words.length) :
  (ix P (a : Int)).start < (ix r.Enum.Elems i).length ∧ 0 ≤ (ix P (a : Int)).start ∧ 0 ≤ ix (ix r.Enum.Elems i) (ix P (a : Int)).start - (ix P (a : Int)).shift ∧ ix (ix r.Enum.Elems i) (ix P (a : Int)).start - (ix P (a : Int)).shift < (ix P (a : Int)).final.length ∧ (ix P (a : Int)).final.length ≤ 32 ∧
   ix (ix P (a:Int)).final (ix (ix r.Enum.Elems i) (ix P (a:Int)).start-(ix P (a:Int)).shift)=acc (ix ds (a:Int)) (ix r.words i):=by
 have hgl:=hu.gl;have c:=hF.CL_ hg;rw[hgl] at c;have hw:=c.lw hi;obtain⟨e1,e2,e3⟩:=hP.at_ a ha;have hle:=PN_le ha;have M:=hm.min a (by rw[←hm.len];exact ha);have hpos:=M.pos;have hv:=hu.vl_at hm hg h1 h6 h32 ha (q:=0) ω hw;have hok:=vl_ok hg (w:=ix r.words i) (by rw[hgl];exact hw);have hl0:=hu.len h1;have Dm:=M.da h1 h6 ω;have hin:=rn_lw Dm M.le.symm hw (q:=0) ω ω;rw[hF.1.si.eix (i:=(i:Int)) ω ω,e1,e2,e3];simp only[Nat.add_zero] at hv;rw[show ((0:Nat):Int)=0 from rfl] at hv;rw[hv];have e4:(PN (Ms.take a):Int)+rn (ix Ms (a:Int)) 0 (ix r.words i)-(PN (Ms.take a):Int)=rn (ix Ms (a:Int)) 0 (ix r.words i):=ω;rw[e4,←M.acc_ ω hw,acc,M.st];exact⟨ω,ω,hin.1,hin.2,ω,rfl⟩
theorem Jf4 (hu:Uni k Ms gens) (hm:Mins k ds Ms) (hg:GV gens=true) (h1:1≤k) (h6:k≤6) (h32:PN Ms≤32) (hP:PartsOk Ms P) (hF:Fin gens true r):PtI P r:=fun a i ha hi=>by
 have:=Jcc hu hm hg h1 h6 h32 hP hF (a:=a) (i:=i) (by rw[←hP.len];exact ha) hi
 exact⟨this.2.1,this.1,⟨ω,ω⟩,this.2.2.1,this.2.2.2.1⟩
theorem Jf6 (hu:Uni k Ms gens) (hm:Mins k ds Ms) (hg:GV gens=true) (h1:1≤k) (h6:k≤6) (hd:1≤ds.length) (h32:PN Ms≤32) (hP:PartsOk Ms P) (hF:Fin gens true r) (hn:r.words.length≤400)
  {T:List (List Int)} {pl:List Bool} (hT:TabI gens r r.words.length T) (hpl:PlI gens r r.words.length pl) (hL:L.length=P.length) (hLs:∀a:Nat,a<P.length→LsI P r L a) {im:List Int} (him:im=ix r.Enum.Right 0) :
  SynJ k ds ⟨(gens.length:Int),T,r.words,im,ix L 0,pl⟩ L:=by
 have hgl:=hu.gl;have hz:=hF.w0 hg;have hPl:=hP.len;have hml:=hm.len;obtain⟨r1,r2⟩:=hF.1.rt.2 0 hz.2;rw[show ((0:Nat):Int)=0 from rfl,←him] at r1 r2
 have hmon:Mon k (vl gens) ⟨(gens.length:Int),T,r.words,im,ix L 0,pl⟩:=
  Jfh hg hgl hF (by rw[hgl]) hT.1 (fun i hi=>(hT.2 i hi).1) (fun i j hi hj=>(hT.2 i hi).2 j hj) ω
   (fun x hx => by
    obtain⟨a1,a2,a3⟩:=r2 x ω;obtain⟨v,ev⟩:=Int.eq_ofNat_of_zero_le a1;rw[hz.1] at a3
    exact⟨v,ev,ω,by rw[←ev];exact a3⟩) hpl.len hpl.pos (by rw[hpl.all hg hF,hgl])
 refine⟨hmon.congr ω (hu.eqv hm hg h1 h6 h32),ω,fun i hi=>?_,rfl,hn,Ms,hm,h32⟩;have:=hLs i ω;refine⟨this.1,fun j hj=>?_⟩;rw[this.2 j hj];exact(Jcc hu hm hg h1 h6 h32 hP hF ω hj).2.2.2.2.2
end
end
theorem Jbm {k:Nat} {d M:DFA} {W:List Str} (D:Da d) (hk:(k:Int)=d.Letters) (c:Can k (nero d k) (acc d) M W):W.length≤d.Final.length:=by
 apply Classical.byContradiction;intro hc;obtain⟨a,b,q1,q2,e⟩:=pigeon d.Final.length (fun m=>rho d (ix W (m:Int))) fun m hm=>Jc9 D hk (c.cl.lw ω)
 have:nero d k (ix W (a:Int))=nero d k (ix W (b:Int)):=by
  rw[J5z];intro w hw;have e:rn d d.Start (ix W (a:Int))=rn d d.Start (ix W (b:Int)):=e;rw[J5s,J5s,e]
 have:=c.cl.inj (show a<W.length by omega) (show b<W.length by omega) this;omega
theorem few4 {gens:List (List Int)} (hg:GV gens=true) (h4:(ix gens 0).length≤4):∃r,Fin gens true r∧r.words.length≤256:=by
 have key:∀W:List Str,(∀w∈W,LW gens.length w)→(∀i j:Nat,i<j→j<W.length→vl gens (ix W i)≠vl gens (ix W j))→W.length≤256:=fun W hW hd=>by
  apply Classical.byContradiction;intro hc;have ok:∀i:Nat,i<W.length→VF (vl gens (ix W i))=true∧(vl gens (ix W i)).length=(ix gens 0).length:=fun i hi=>vl_ok hg (hW _ (J0f.2 ⟨i,hi,rfl⟩))
  obtain⟨a,b,hab,hb,he⟩:=pigeon 256 (fun m=>code4 (vl gens (ix W (m:Int)))) (fun m hm=>by
   obtain⟨h1,h2⟩:=ok m ω;have e0:=entry4 h1 ω 0;have e1:=entry4 h1 ω 1;have e2:=entry4 h1 ω 2;have e3:=entry4 h1 ω 3
   simp only[code4];omega)
  obtain⟨a1,a2⟩:=ok a ω;obtain⟨b1,b2⟩:=ok b ω;have p0:=entry4 a1 ω 0;have p1:=entry4 a1 ω 1;have p2:=entry4 a1 ω 2;have p3:=entry4 a1 ω 3;have q0:=entry4 b1 ω 0;have q1:=entry4 b1 ω 1;have q2:=entry4 b1 ω 2;have q3:=entry4 b1 ω 3;simp only[code4] at he;refine hd a b hab ω (J09 ω fun j hj=>?_);have hj4:j<4:=ω
  rcases(by omega:j=0∨j=1∨j=2∨j=3) with rfl | rfl | rfl | rfl<;>omega
 obtain⟨r,hr⟩:=Jew hg (n:=256) ω key;refine⟨r,hr,key r.words (fun w hw=>((hr.CL_ hg).mem w).1 hw |>.1.1) fun i j hij hj e=>?_⟩;have:=(hr.CL_ hg).inj ω hj e;omega
theorem SynJ.one {k:Nat} {d:DFA} {s:Syntactic} {L:List (List Bool)} (hk:d.Letters=k) (hk9:k<159) (h:SynJ k [d] s L):SynD d s:=by
 obtain⟨Ms,hm,h32⟩:=h.few;have hml:Ms.length=1:=hm.len;have hle:=PN_le (Ms:=Ms) (i:=0) ω;have M:=hm.min 0 (by simp);obtain⟨W,c⟩:=M;exact⟨⟨k,hk,⟨h.mon.congr hk9 (JcX d k),h.acc_ (by simp)⟩,_,W,c,by have:=c.fl;omega⟩,h.n⟩
theorem SynD.joint {k:Nat} {d:DFA} {s:Syntactic} (hk:d.Letters=k) (hk9:k<159) (h:SynD d s):SynJ k [d] s [s.Accept]:=by
 obtain⟨k',e,hs,M,W,c,hW⟩:=h.k;have:k'=k:=ω;subst this;refine⟨hs.mon.congr hk9 (JcX d k').symm,rfl,fun i hi=>?_,rfl,h.n,[M],⟨rfl,fun i hi=>?_⟩,?_⟩
 ·have:i=0:=by simpa using hi
  subst this;exact⟨hs.acc.al,hs.acc.ac⟩
 ·have:i=0:=by simpa using hi
  subst this;exact⟨W,c⟩
 ·have:=c.fl;simp[PN];omega
abbrev zeroS:Syntactic:=⟨0,[],[],[],[],[]⟩
section
variable {d:DFA} {k:Nat}
theorem Je3 {M:DFA} (h:MinOf k d M):Mins k [d] [M]:=⟨rfl,fun i hi=>by
 have:i=0:=by simpa using hi
 subst this
 exact h⟩
theorem J7c {K:Syntactic→Int→Prop} (h1:¬Da d→K zeroS (daC d)) (h3:Da d→4<d.Final.length→(∀s,¬SynD d s)→K zeroS 3) (h0:Da d→∀s,SynD d s→K s 0):J1n d K:=by
 unfold J1n;refine J1U ?_;by_cases hv:DV d=true
 case neg=>
  rw[if_neg (fun hh=>hv (daC0.1 hh))];exact h1 fun D=>hv (J43.2 D)
 rw[if_pos (daC0.2 hv)];have D:=J43.1 hv;have l1:=D.l1;have l6:=D.l6;obtain⟨k,hk⟩:=Int.eq_ofNat_of_zero_le (show 0≤d.Letters by omega);refine J2y D hk.symm fun M W c=>?_;have hM:MinOf k d M:=⟨W,c⟩;have hms:=Je3 hM;have hMl:=hM.le;have hst:=hM.st
 have hpn:PN [M]=M.Final.length:=by simp[PN]
 have hfew:=c.fl;refine fun _=>?_;by_cases h32:32<M.Final.length
 ·have hno:∀s,¬SynD d s:=fun s hs=>by
   obtain⟨k',e,_,M',W',c',hW'⟩:=hs.k;have:k'=k:=ω;subst this;have:=(c.uniq c').2;subst this;omega
  have hle:=Jbm D hk.symm c;have:=D.f2;refine⟨⟨ω,ω⟩,?_⟩;rw[if_pos ω];exact h3 D ω hno
 ·refine⟨⟨ω,ω⟩,?_⟩;rw[if_neg ω];have DM:=hM.da ω ω ω;have hMn:=DM.nx;have hkn:M.Letters.toNat=k:=ω;refine⟨ω,ω,?_⟩;rw[hkn];refine LoopWP.to k (fun s=>s.1) (fun s=>s.1≤k∧UniP k [] M (cntL M.Final.length s.1 0) s.2) ⟨Nat.zero_le _,(UniP.start (Uni.nil k)).congr fun y _=>by simp[cntL]⟩ (fun s h=>h.1) ?_;rintro⟨x,G⟩ X ⟨hx,hG⟩ hX
  try dsimp only at hx hG ⊢
  unfold J7a;rw[List.length_replicate,hkn];have hgl:=hG.gl
  split
  ·rename_i hlt;have hxk:x<k:=ω;refine LoopWP.to M.Final.length (fun s=>s.1) (fun s=>s.1≤M.Final.length∧UniP k [] M (cntL M.Final.length x s.1) s.2) ⟨Nat.zero_le _,hG⟩ (fun s h=>h.1) ?_;rintro⟨q,G⟩ Y ⟨hq,hG⟩ hY
   try dsimp only at hq hG ⊢
   have hgl:=hG.gl;unfold J7b
   split
   ·rename_i hlt2;have hat:=DM.at_ (q:=q) (x:=x) ω ω ω ω;have hcl:=hG.cl x hxk
    have hc0:cntL M.Final.length x q x=q:=by simp[cntL]
    rw[hc0,JdN] at hcl;exact⟨ω,ω,ω,ω,ω,ω,⟨ω,ω⟩,by simp;omega,ω,ω,hY (q+1,_) ⟨by dsimp only;omega,hG.stepL hxk (by simp[JdN])⟩ rfl⟩
   ·have:q=M.Final.length:=ω;subst this;exact⟨⟨ω,ω⟩,hX (x+1,_) ⟨by dsimp only;omega,hG.nextL⟩ rfl⟩
  ·rename_i hlt;have:x=k:=ω;subst this;have hu:Uni x [M] G:=(hG.congr (cnt':=fun _=>M.Final.length) fun y hy=>by simp[cntL,hy]).all;have hg:=hu.GV_ hms ω ω (by simp) ω;have he:=hu.eqv hms hg ω ω ω;refine⟨⟨ω,ω⟩,by simp,⟨ω,ω⟩,?_⟩;refine J5x hg (fun d' hl=>?_) fun r hr h2000=>?_
   ·rw[if_neg (by decide)];have hle:=Jbm D hk.symm c;have hl0:=hu.len ω
    refine h3 D (by
     apply Classical.byContradiction;intro hc;obtain⟨r,hr,_⟩:=few4 hg ω
     exact hl.noFin hg r hr) fun s hs=>?_
    obtain⟨r,hr,_⟩:=(hs.joint hk ω).fin hg hu.gl he;exact hl.noFin hg r hr
   ·rw[if_pos rfl];have hF:Fin G true r:=⟨hr,h2000⟩;have hel:=hF.el;refine fun _=>?_;by_cases h400:400<r.words.length
    ·rw[if_pos ω];have hle:=Jbm D hk.symm c;have hl0:=hu.len ω
     refine h3 D (by
      apply Classical.byContradiction;intro hc;obtain⟨r',hr',h4⟩:=few4 hg ω;have:=(hF.uniq hg hr').2;rw[this] at h400
      omega) fun s hs=>?_
     obtain⟨r',hr',h4⟩:=(hs.joint hk ω).fin hg hu.gl he;have:=(hF.uniq hg hr').2;rw[this] at h400;omega
    ·rw[if_neg ω];have hz:=hF.w0 hg;have hrt:=hF.1.rt.1;have hr0:=(hF.1.rt.2 0 hz.2).1;rw[show ((0:Nat):Int)=0 from rfl] at hr0;refine fun _=>⟨ω,ω,J1P ω ⟨ω,ω,ω,ω,ω,ω,?_⟩⟩
     have hP:PartsOk [M] (([]:List part)++[(⟨(0:Int)+M.Start,M.Final,(0:Int)⟩:part)]):=by
      have:=PartsOk.nil.push (M:=M) hst;rw[JdN] at this;exact this
     refine JbK hg hF ω (Jf4 hu hms hg ω ω ω hP hF) (by simp) (by simp) fun w T pl L hw hT hpl hL hLs=>?_;subst hw;exact h0 D _ ((Jf6 hu hms hg ω ω (by simp) ω hP hF ω hT hpl hL hLs rfl).one hk ω)
end
end Sg
namespace Sg
open Go
section
variable {α:Type} {k:Nat} {ρ:Str→α} {s:Syntactic}
theorem Mon.sh (h:Mon k ρ s) (hn:s.Words.length≤400):SH s.Table=true:=by
 have hp:=h.pos;have ht:=h.tl;refine J6D.2 ⟨ω,ω,fun i hi=>J2p.2 ⟨by rw[h.rl i ω,ht],fun j hj=>?_⟩⟩;rw[h.rl i ω] at hj;obtain⟨m,e,hm,_⟩:=h.tb i j ω hj;rw[e,ht];omega
theorem Mon.as_ (h:Mon k ρ s) (hk:k<159) (hr:RC k ρ) (hl:LCm k ρ):AS s.Table:=fun x y z hx hy hz=>by
 rw[h.tl] at hx hy hz
 exact h.assoc hk hr hl hx hy hz
theorem Mon.vt (h:Mon k ρ s) (hn:s.Words.length≤400) (hk:k<159) (hr:RC k ρ) (hl:LCm k ρ):VT s.Table=true:=by
 unfold VT;rw[h.sh hn,decide_eq_true (h.as_ hk hr hl)];rfl
theorem Mon.imB (h:Mon k ρ s):inB s.Table.length s.Images=true:=J2q.2 fun x hx=>by
 rw[h.il] at hx
 obtain⟨m,e,hm,_⟩:=h.im x hx
 rw[e,h.tl];omega
end
section
variable {k:Nat} {ds Ms:List DFA} {gens:List (List Int)} {r:run} {fin:List Bool}
end
section
variable {d:DFA}
end
end Sg
namespace Sg
open Go
end Sg
namespace Sg
open Go
instance (u v:Str):Decidable (SL u v):=by unfold SL;infer_instance
end Sg
namespace Sg
open Go
theorem J6F {d:DFA} (D:Da d) (hf:d.Final.length≤4) {K:Syntactic→Int→Prop} (h0:∀s,SynD d s→K s 0):J1n d K:=
 J7c (fun nD=>absurd D nD) (fun _ h4 _=>by omega) fun _ s hs=>h0 s hs
end Sg
namespace Sg
open Go
end Sg
namespace Sg
open Go
theorem SynD.vt {d:DFA} {s:Syntactic} (D:Da d) (h:SynD d s):VT s.Table=true:=by
 have l6:=D.l6;obtain⟨k,e,o,_⟩:=h.k;exact o.mon.vt h.n ω (J8C _ _) (J9i _ _)
end Sg
namespace Sg
open Go
section
variable {d:DFA} {s:Syntactic}
end
end Sg
namespace Sg
open Go
end Sg
namespace Sg
open Go
end Sg
namespace Sg
open Go
theorem J9H {t:List (List Int)} (h:SH t=true) {K:Bool→Prop} (hK:K true):J40 t K:=by
 have T:=SH.tb h;have n1:=T.n1;have n4:=T.n4;unfold J40;refine fun _=>?_;rw[if_neg ω,if_neg ω];refine LoopWP.scan t.length (fun _=>True) ?_;intro k X hk _ hX
 show J5f t K X k
 unfold J5f
 split
 ·have hk:(k:Int)<t.length:=by assumption
  have r:=T.row k ω hk;refine⟨ω,ω,fun _=>?_⟩;rw[if_pos ω];refine LoopWP.scan (ix t (k:Int)).length (fun _=>True) ?_;intro i Y hi _ hY
  show J4w t k X K Y i
  unfold J4w
  split
  ·have e:=T.mu (x:=(k:Int)) (y:=(i:Int)) ω hk ω ω;unfold mu at e;refine⟨ω,ω,?_⟩;rw[if_neg ω,if_neg ω];exact hY ω trivial
  ·exact hX ω trivial
 ·exact hK
theorem JdB {l:List Int} {n:Nat} (hd:l.Nodup) (h:∀x∈l,0≤x∧x<n):l.length≤n:=by
 apply Classical.byContradiction;intro hc;obtain⟨a,b,hab,hb,e⟩:=pigeon n (fun m=>ix l (m:Int)) fun m hm=>h _ (J0f.2 ⟨m,ω,rfl⟩);rw[ix_lt ω,ix_lt ω] at e;have:=(List.getElem_inj hd).1 e;omega
structure GN (t:List (List Int)) (els gens nx:List Int) (inn:List Bool):Prop where
 il:inn.length=t.length
 nl:nx.length=t.length
 el:∀x∈els,0≤x∧x<t.length
 me:∀x:Nat,x<t.length→(ix inn (x:Int)=true↔(x:Int)∈els)
 nd:els.Nodup
 cl:∀x∈els,Clo t gens x
 gl:∀g∈gens,0≤g∧g<t.length
 nx:∀x:Nat,x<t.length→0≤ix nx (x:Int)∧ix nx (x:Int)≤gens.length
theorem GN.fit {t:List (List Int)} {els gens nx:List Int} {inn:List Bool} (h:GN t els gens nx inn):els.length≤t.length:=JdB h.nd h.el
theorem GN.add {t:List (List Int)} {els gens nx:List Int} {inn:List Bool} (h:GN t els gens nx inn) {y:Int} (h0:0≤y) (h1:y<t.length) (hn:¬ix inn y=true) (hc:Clo t gens y):GN t (els++[y]) gens nx (st inn y true):=by
 have il:=h.il;obtain⟨m,rfl⟩:=Int.eq_ofNat_of_zero_le h0;refine⟨by simp[il],h.nl,fun x hx=>?_,fun x hx=>?_,?_,fun x hx=>?_,h.gl,h.nx⟩
 ·rcases List.mem_append.1 hx with hx | hx
  ·exact h.el x hx
  ·rw[List.mem_singleton.1 hx];exact⟨h0,h1⟩
 ·rw[ix_st _ ω ω ω,List.mem_append,List.mem_singleton];by_cases e:(x:Int)=m
  ·rw[if_pos e];exact⟨fun _=>.inr e,fun _=>rfl⟩
  ·rw[if_neg e,h.me x hx];exact⟨.inl,fun k=>k.resolve_right e⟩
 ·rw[List.nodup_append];refine⟨h.nd,by simp,fun a ha b hb=>?_⟩;rw[List.mem_singleton.1 hb];rintro rfl;exact hn ((h.me m ω).2 ha)
 ·rcases List.mem_append.1 hx with hx | hx
  ·exact h.cl x hx
  ·rw[List.mem_singleton.1 hx];exact hc
theorem GN.turn {t:List (List Int)} {els gens nx:List Int} {inn:List Bool} (h:GN t els gens nx inn) {y:Int} (h0:0≤y) (h1:y<t.length) (hl:ix nx y<gens.length):GN t els gens (st nx y (ix nx y+1)) inn:=by
 have nl:=h.nl;obtain⟨m,rfl⟩:=Int.eq_ofNat_of_zero_le h0;refine⟨h.il,by simp[nl],h.el,h.me,h.nd,h.cl,h.gl,fun x hx=>?_⟩;rw[ix_st _ ω ω ω];have a:=h.nx x hx
 split
 ·have b:=h.nx m ω;omega
 ·exact a
theorem GN.gen {t:List (List Int)} {els gens nx:List Int} {inn:List Bool} (h:GN t els gens nx inn) {g:Int} (g0:0≤g) (g1:g<t.length):GN t els (gens++[g]) nx inn:=
 ⟨h.il, h.nl, h.el, h.me, h.nd, fun x hx => (h.cl x hx).mono fun y hy => List.mem_append.2 (.inl hy), fun x hx => by
  rcases List.mem_append.1 hx with hx | hx
  ·exact h.gl x hx
  ·rw[List.mem_singleton.1 hx];exact⟨g0,g1⟩,fun x hx=>by have:=h.nx x hx;simp;omega⟩
theorem J6R {t:List (List Int)} (ht:SH t=true) {k:Nat} {gens:List Int} (hgl:gens.length≤k) (hk:k<t.length) {K:List Int→Prop} {X1:Nat→List Int→List Int→List Int→List Bool→Prop}
  {els nx:List Int} {inn:List Bool} (h:GN t els (gens++[(k:Int)]) nx inn) (hin:∀j,j≤k→ix inn (j:Int)=true)
  (hX:∀els' nx' inn',GN t els' (gens++[(k:Int)]) nx' inn'→(∀j,j≤k→ix inn' (j:Int)=true)→X1 (k+1) els' (gens++[(k:Int)]) nx' inn') :
  LoopWP (S:=Nat×List Int×List Int×List Bool) (fun s X=>J2E t k gens X1 K (fun a b c d=>X (a,b,c,d)) s.1 s.2.1 s.2.2.1 s.2.2.2) (0,els,nx,inn):=by
 have T:=SH.tb ht;have n4:=T.n4
 have hgll:(gens++[(k:Int)]).length=gens.length+1:=by simp
 refine LoopWP.to t.length (fun s=>s.1) (fun s=>s.1≤s.2.1.length∧s.1≤t.length∧GN t s.2.1 (gens++[(k:Int)]) s.2.2.1 s.2.2.2∧∀j,j≤k→ix s.2.2.2 (j:Int)=true) ⟨Nat.zero_le _,Nat.zero_le _,h,hin⟩ (fun s h=>h.2.1) ?_;rintro⟨q,els,nx,inn⟩ X ⟨hq,hqn,hG,hI⟩ hXX
 try dsimp only at hq hqn hG hI ⊢
 unfold J2E
 split
 ·rename_i hlt;have hfit:=hG.fit;refine⟨ω,hlt,?_⟩;have he0:ix els (q:Int)∈els:=J0f.2 ⟨q,ω,rfl⟩;obtain⟨e,he⟩:∃e,ix els (q:Int)=e:=⟨_,rfl⟩;rw[he] at he0;have hee:=hG.el e he0;refine LoopWP.intro (fun s=>els.length≤s.1.length∧e∈s.1∧GN t s.1 (gens++[(k:Int)]) s.2.1 s.2.2∧∀j,j≤k→ix s.2.2 (j:Int)=true) (fun s=>(gens.length+1)-(ix s.2.1 e).toNat) ⟨Nat.le_refl _,he0,hG,hI⟩ ?_;rintro⟨els2,nx,inn⟩ Y ⟨hq2,he0,hG,hI⟩ hY
  try dsimp only at hq2 he0 hG hI ⊢
  unfold J4F;rw[he];obtain⟨m,hm⟩:=Int.eq_ofNat_of_zero_le hee.1;have hnx:=hG.nx m ω;rw[←hm] at hnx;have hnl:=hG.nl;have hil:=hG.il;have hfit:=hG.fit;have hrow:=T.row e hee.1 hee.2;refine⟨hee.1,ω,?_⟩
  split
  ·rename_i hlt2;have hgm:ix (gens++[(k:Int)]) (ix nx e)∈gens++[(k:Int)]:=J0S hnx.1 hlt2;have hgg:=hG.gl _ hgm;have hp:=T.mu hee.1 hee.2 hgg.1 hgg.2;have hclo:Clo t (gens++[(k:Int)]) (mu t e (ix (gens++[(k:Int)]) (ix nx e))):=(hG.cl e he0).mul (.gen hgm);unfold mu at hp hclo
   have hmeas:ix (st nx e (ix nx e+1)) e=ix nx e+1:=by rw[ix_st _ hee.1 ω hee.1,if_pos rfl]
   refine⟨hee.1,hee.2,hee.1,ω,hnx.1,hlt2,ω,ω,ω,ω,?_⟩
   split
   ·refine⟨hee.1,ω,⟨ω,ω⟩,hee.1,ω,hY (_,_,_) ⟨hq2,he0,hG.turn hee.1 hee.2 hlt2,hI⟩ ?_⟩;dsimp only;rw[hmeas];omega
   ·rename_i hno;have hG2:=hG.add hp.1 hp.2 hno hclo;have hfit2:=hG2.fit;refine⟨ω,ω,by rw[List.length_append] at hfit2;simp at hfit2 ⊢;omega,hee.1,ω,⟨ω,ω⟩,hee.1,ω,hY (_,_,_) ⟨by simp;omega,List.mem_append.2 (.inl he0),hG2.turn hee.1 hee.2 hlt2,fun j hj=>?_⟩ ?_⟩
    ·dsimp only;rw[ix_st _ hp.1 ω ω]
     split
     ·rfl
     ·exact hI j hj
    ·dsimp only;rw[hmeas];omega
  ·refine⟨⟨ω,ω⟩,hXX (q+1,_,_,_) ⟨by dsimp only;omega,by dsimp only;omega,hG,hI⟩ rfl⟩
 ·exact hX _ _ _ hG hI
theorem J7Q {t:List (List Int)} (ht:SH t=true) {K:List Int→Prop} (h:∀gens,gens.length≤t.length→(∀g∈gens,0≤g∧g<(t.length:Int))→(∀x:Nat,x<t.length→Clo t gens x)→K gens):J1x t K:=by
 have T:=SH.tb ht;have n4:=T.n4;unfold J1x;refine fun _=>⟨ω,ω,ω,ω,?_⟩;refine LoopWP.to t.length (fun s=>s.1) (fun s=>s.1≤t.length∧s.2.2.1.length≤s.1∧GN t s.2.1 s.2.2.1 s.2.2.2.1 s.2.2.2.2∧∀j,j<s.1→ix s.2.2.2.2 (j:Int)=true) ⟨Nat.zero_le _,Nat.zero_le _,?_,fun j hj=>absurd hj (Nat.not_lt_zero _)⟩ (fun s h=>h.1) ?_
 ·refine⟨by simp,by simp,by simp,fun x hx=>?_,by simp,by simp,by simp,fun x hx=>?_⟩
  ·dsimp only;rw[J0c _ _ hx];simp
  ·dsimp only;rw[J0c _ _ hx];simp
 rintro⟨k,els,gens,nx,inn⟩ X ⟨hk,hgl,hG,hI⟩ hX
 try dsimp only at hk hgl hG hI ⊢
 unfold J4z;have hil:=hG.il
 split
 ·rename_i hlt;have hk':k<t.length:=ω;refine⟨ω,ω,?_⟩
  split
  ·rename_i hi;exact hX (k+1,_,_,_,_) ⟨by dsimp only;omega,by dsimp only;omega,hG,upS hI hi⟩ rfl
  ·rename_i hno;have hG2:=hG.gen (g:=(k:Int)) ω hlt;have hG3:=hG2.add (y:=(k:Int)) ω hlt hno (.gen (by simp));have hfit:=hG3.fit;rw[List.length_append] at hfit;refine⟨ω,ω,by simp;omega,by simp at hfit ⊢;omega,?_⟩;refine J6R ht hgl hk' hG3 (fun j hj=>?_) fun els' nx' inn' h1 h2=>hX (k+1,_,_,_,_) ⟨by dsimp only;omega,by simp;omega,h1,fun j hj=>h2 j ω⟩ rfl;rw[ix_st _ ω ω ω];by_cases e:j=k
   ·subst e;rw[if_pos rfl]
   ·rw[if_neg ω];exact hI j ω
 ·refine h gens ω hG.gl fun x hx=>hG.cl _ ((hG.me x hx).1 (hI x ω))
end Sg
namespace Sg
open Go
def cod (im c:List Int) (x:Nat):Int:=(ix c (x:Int))*(c.length:Int)+(ix c (ix im (x:Int)))
structure SPI (n:Nat) (im c:List Int) (R:Int) (x:Nat) (cnt:Int) (label mark nx:List Int):Prop where
 ll:label.length=n*n
 ml:mark.length=n*n
 nl:nx.length=n
 le:∀v:Nat,v<n*n→ix mark (v:Int)≤R
 ex:∃m:List (Int×Int),NumI (cod im c) x (nx.take x) m∧cnt=m.length∧∀v:Nat,v<n*n→(ix mark (v:Int)=R↔mhas m (v:Int)=true)∧(mhas m (v:Int)=true→ix label (v:Int)=mgt m (v:Int))
theorem Jfs {n:Nat} {im c:List Int} (cl:c.length=n) (cr:∀j:Nat,j<n→0≤ix c (j:Int)∧ix c (j:Int)<n) (ir:∀j:Nat,j<n→0≤ix im (j:Int)∧ix im (j:Int)<n) {x:Nat} (hx:x<n) :
  (0≤ix c (x:Int)*(c.length:Int)∧ix c (x:Int)*(c.length:Int)≤(n:Int)*n)∧0≤cod im c x∧cod im c x<((n*n:Nat):Int):=by
 have a:=cr x hx;have i:=ir x hx;obtain⟨y,ey⟩:=Int.eq_ofNat_of_zero_le i.1;have b:=cr y ω;rw[←ey] at b;obtain⟨u,eu⟩:=Int.eq_ofNat_of_zero_le a.1;obtain⟨v,ev⟩:=Int.eq_ofNat_of_zero_le b.1;unfold cod;rw[eu,ev,cl]
 have h1:u*n+v<n*n:=by
  have:(u+1)*n≤n*n:=Nat.mul_le_mul_right n ω;rw[Nat.add_mul] at this;omega
 have h2:((u*n:Nat):Int)=(u:Int)*(n:Int):=by simp
 have h3:((n*n:Nat):Int)=(n:Int)*(n:Int):=by simp
 rw[←h2,←h3];omega
theorem JdM {n x:Nat} {im c label mark nx:List Int} {cnt R:Int} (n4:n≤400) (cl:c.length=n) (il:im.length=n) (cr:∀j:Nat,j<n→0≤ix c (j:Int)∧ix c (j:Int)<n) (ir:∀j:Nat,j<n→0≤ix im (j:Int)∧ix im (j:Int)<n)
  (h:SPI n im c R x cnt label mark nx) (hx:x<n) {Y:Nat→Int→List Int→List Int→List Int→List Int→Prop} (hY:∀cnt' label' mark' nx',SPI n im c R (x+1) cnt' label' mark' nx'→Y (x+1) cnt' label' mark' c nx') :
  (0≤(x:Int)∧(x:Int)<(c.length:Int)∧(I64 ((ix c (x:Int))*(c.length:Int))∧(0≤(x:Int)∧(x:Int)<(im.length:Int)∧(0≤(ix im (x:Int))∧(ix im (x:Int))<(c.length:Int)∧(I64 (cod im c x)∧(0≤(cod im c x)∧(cod im c x)<(mark.length:Int)∧(if (ix mark (cod im c x))=R then (0≤(cod im c x)∧(cod im c x)<(label.length:Int)∧(0≤(x:Int)∧(x:Int)<(nx.length:Int)∧(I64 ((x:Int)+(1:Int))∧(Y (x+1) cnt label mark c (st nx (x:Int) (ix label (cod im c x))))))) else (0≤(cod im c x)∧(cod im c x)<(mark.length:Int)∧(0≤(cod im c x)∧(cod im c x)<(label.length:Int)∧(I64 (cnt+(1:Int))∧(0≤(cod im c x)∧(cod im c x)<((st label (cod im c x) cnt).length:Int)∧(0≤(x:Int)∧(x:Int)<(nx.length:Int)∧(I64 ((x:Int)+(1:Int))∧(Y (x+1) ((cnt+(1:Int))) (st label (cod im c x) cnt) (st mark (cod im c x) R) c (st nx (x:Int) (ix (st label (cod im c x) cnt) (cod im c x))))))))))))))))):=by
 have hc:=Jfs cl cr ir hx;have hi:=ir x hx;have ll:=h.ll;have ml:=h.ml;have nl:=h.nl
 have hnn:(n:Int)*n≤160000:=by
  have:n*n≤400*400:=Nat.mul_le_mul n4 n4
  have h3:((n*n:Nat):Int)=(n:Int)*(n:Int):=by simp
  omega
 have hnn2:((n*n:Nat):Int)=(n:Int)*(n:Int):=by simp
 obtain⟨m,hm,hcnt,hv⟩:=h.ex;obtain⟨v,ev⟩:=Int.eq_ofNat_of_zero_le hc.2.1;have hvn:v<n*n:=ω;have hvv:=hv v hvn
 have tk:∀z:Int,(st nx (x:Int) z).take (x+1)=nx.take x++[z]:=fun z=>by
  refine J09 (by simp;omega) fun j hj=>?_;simp only[List.length_take,J02] at hj
  have e1:∀(l:List Int) (k:Nat),j<k→ix (l.take k) (j:Int)=ix l (j:Int):=fun l k hk=>by
   simp[J9O,List.getD_eq_getElem?_getD,List.getElem?_take,hk]
  rw[e1 _ _ ω,ix_st _ ω ω ω];by_cases e:j=x
  ·subst e;rw[if_pos rfl]
   have:(nx.take j).length=j:=by simp;omega
   have e2:=@ixE (nx.take j) z;rw[this] at e2;exact e2.symm
  ·rw[if_neg ω,ixS (by simp;omega),e1 _ _ ω]
 have hfit:m.length≤x:=by
  have:=hm.nmb;apply Classical.byContradiction;intro hc
  have hl:(nx.take x).length=x:=by simp;omega
  obtain⟨g,hg⟩:∃g:Nat→Nat,∀a,a<m.length→g a<x∧ix (nx.take x) (g a:Int)=a:=by
   have:∀a:Nat,∃q:Nat,a<m.length→q<x∧ix (nx.take x) (q:Int)=a:=fun a=>by
    by_cases ha:a<m.length
    ·obtain⟨q,h1,h2⟩:=hm.nmb.on a ha;exact⟨q,fun _=>⟨ω,h2⟩⟩
    ·exact⟨0,fun h=>absurd h ha⟩
   exact Classical.axiomOfChoice this
  obtain⟨a,b,hab,hb,e⟩:=pigeon x (fun a=>(g a:Int)) fun a ha=>⟨ω,by have:=(hg a ω).1;omega⟩;have h1:=(hg a ω).2;have h2:=(hg b ω).2;rw[e] at h1;omega
 refine⟨ω,ω,⟨ω,ω⟩,ω,ω,hi.1,ω,⟨ω,ω⟩,ω,ω,?_⟩;by_cases hR:ix mark (cod im c x)=R
 ·rw[if_pos hR];refine⟨ω,ω,ω,ω,⟨ω,ω⟩,hY _ _ _ _ ⟨ll,ml,by simp[nl],h.le,m,?_,hcnt,hv⟩⟩;rw[ev] at hR;have hh:=hvv.1.1 hR;have:=hm.old (by rw[ev];exact hh);rw[tk,ev,hvv.2 hh];rw[ev] at this;exact this
 ·rw[if_neg hR];refine⟨ω,ω,ω,ω,⟨ω,ω⟩,ω,by simp;omega,ω,ω,⟨ω,ω⟩,hY _ _ _ _ ⟨by simp[ll],by simp[ml],by simp[nl],fun w hw=>?_,mput m (v:Int) (m.length:Int),?_,?_,fun w hw=>?_⟩⟩
  ·rw[ix_st _ ω ω ω]
   split
   ·exact Int.le_refl _
   ·exact h.le w hw
  ·rw[ev] at hR;have hh:¬mhas m (cod im c x)=true:=fun k=>hR (hvv.1.2 (by rw[←ev];exact k));have:=hm.new hh;rw[tk,ix_st _ ω ω ω,if_pos rfl,hcnt];rw[ev] at this;exact this
  ·rw[ev] at hR;rw[JaL,if_neg fun k=>hR (hvv.1.2 k),hcnt];simp
  ·rw[ix_st _ ω ω ω,ix_st _ ω ω ω,J5t,J6T,ev];by_cases e:(w:Int)=(v:Int)
   ·rw[if_pos e,if_pos e];simp[e,hcnt]
   ·rw[if_neg e,if_neg e];simp only[e,decide_false,Bool.false_or,if_false];exact hv w hw
end Sg
namespace Sg
open Go
theorem SPI.start {n:Nat} {im c label mark nx:List Int} {R:Int} (ll:label.length=n*n) (ml:mark.length=n*n) (nl:nx.length=n) (le:∀v:Nat,v<n*n→ix mark (v:Int)<R):SPI n im c R 0 0 label mark nx:=
 ⟨ll,ml,nl,fun v hv=>by have:=le v hv;omega,[],by simpa using NumI.start,rfl,fun v hv=>⟨⟨fun e=>by have:=le v hv;omega,fun h=>by simp[mhas] at h⟩,fun h=>by simp[mhas] at h⟩⟩
theorem Jff {n:Nat} {im c:List Int} (cl:c.length=n) (cr:∀j:Nat,j<n→0≤ix c (j:Int)∧ix c (j:Int)<n) (ir:∀j:Nat,j<n→0≤ix im (j:Int)∧ix im (j:Int)<n) {x y:Nat} (hx:x<n) (hy:y<n) (e:cod im c x=cod im c y) :
  ix c (x:Int)=ix c (y:Int)∧ix c (ix im (x:Int))=ix c (ix im (y:Int)):=by
 have at_:∀z:Nat,z<n→0≤ix c (ix im (z:Int))∧ix c (ix im (z:Int))<n:=fun z hz=>by
  have i:=ir z hz;obtain⟨w,ew⟩:=Int.eq_ofNat_of_zero_le i.1;rw[ew];exact cr w ω
 have a:=at_ x hx;have b:=at_ y hy;unfold cod at e;rw[cl] at e
 have h1:(ix c (ix im (x:Int))+(n:Int)*ix c (x:Int)) / n=ix c (x:Int):=by
  rw[Int.add_mul_ediv_left _ _ ω,Int.ediv_eq_zero_of_lt a.1 a.2];omega
 have h2:(ix c (ix im (y:Int))+(n:Int)*ix c (y:Int)) / n=ix c (y:Int):=by
  rw[Int.add_mul_ediv_left _ _ ω,Int.ediv_eq_zero_of_lt b.1 b.2];omega
 have e2:ix c (ix im (x:Int))+(n:Int)*ix c (x:Int)=ix c (ix im (y:Int))+(n:Int)*ix c (y:Int):=by
  rw[Int.mul_comm (n:Int),Int.mul_comm (n:Int)];omega
 have e3:ix c (x:Int)=ix c (y:Int):=by rw[←h1,←h2,e2]
 refine⟨e3,?_⟩;rw[e3] at e2;omega
structure SPO (n:Nat) (im c:List Int) (R:Int) (cnt:Int) (label mark nx:List Int):Prop where
 ll:label.length=n*n
 ml:mark.length=n*n
 nl:nx.length=n
 le:∀v:Nat,v<n*n→ix mark (v:Int)≤R
 nm:∃k:Nat,cnt=k∧Nmb nx k
 fin:∀x y:Nat,x<n→y<n→ix nx (x:Int)=ix nx (y:Int)→ix c (x:Int)=ix c (y:Int)∧ix c (ix im (x:Int))=ix c (ix im (y:Int))
 bk:∀x y:Nat,x<n→y<n→ix c (x:Int)=ix c (y:Int)→ix c (ix im (x:Int))=ix c (ix im (y:Int))→ix nx (x:Int)=ix nx (y:Int)
theorem SPI.out {n:Nat} {im c label mark nx:List Int} {cnt R:Int} (cl:c.length=n) (cr:∀j:Nat,j<n→0≤ix c (j:Int)∧ix c (j:Int)<n) (ir:∀j:Nat,j<n→0≤ix im (j:Int)∧ix im (j:Int)<n)
  (h:SPI n im c R n cnt label mark nx):SPO n im c R cnt label mark nx:=by
 obtain⟨m,hm,hc,_⟩:=h.ex;have nl:=h.nl;have e:nx.take n=nx:=List.take_of_length_le ω;rw[e] at hm;exact⟨h.ll,h.ml,nl,h.le,⟨_,hc,hm.nmb⟩,fun x y hx hy he=>Jff cl cr ir hx hy ((hm.eq hx hy).1 he),fun x y hx hy e1 e2=>(hm.eq hx hy).2 (by unfold cod;rw[e1,e2])⟩
theorem J7G {n k2:Nat} {R0:Int} (n4:n≤400) {im c label mark nx:List Int} {X2:Nat→Int→Int→List Int→List Int→List Int→List Int→List Int→Prop} {K:List Int→Prop}
  (cl:c.length=n) (il:im.length=n) (cr:∀j:Nat,j<n→0≤ix c (j:Int)∧ix c (j:Int)<n) (ir:∀j:Nat,j<n→0≤ix im (j:Int)∧ix im (j:Int)<n)
  (ll:label.length=n*n) (ml:mark.length=n*n) (nl:nx.length=n) (le:∀v:Nat,v<n*n→ix mark (v:Int)<R0+1+1)
  (h:∀cnt label' mark' nx',SPO n im c (R0+1+1) cnt label' mark' nx'→X2 (k2+1) cnt (R0+1+1) im label' mark' c nx') :
  LoopWP (S:=Nat×Int×List Int×List Int×List Int×List Int) (fun s X=>J3L k2 R0 X2 c im K (fun a b d e f g=>X (a,b,d,e,f,g)) s.1 s.2.1 s.2.2.1 s.2.2.2.1 s.2.2.2.2.1 s.2.2.2.2.2) (0,(0:Int),label,mark,c,nx):=by
 refine LoopWP.to n (fun s=>s.1) (fun s=>s.1≤n∧s.2.2.2.2.1=c∧SPI n im c (R0+1+1) s.1 s.2.1 s.2.2.1 s.2.2.2.1 s.2.2.2.2.2) ⟨Nat.zero_le _,rfl,.start ll ml nl le⟩ (fun s h=>h.1) ?_;rintro⟨x,cnt,label,mark,c',nx⟩ X ⟨hx,hc',hI⟩ hX
 try dsimp only at hx hc' hI ⊢
 subst hc';unfold J3L
 split
 ·rename_i hlt;exact JdM (Y:=fun a b d e f g=>X (a,b,d,e,f,g)) n4 cl il cr ir hI ω fun _ _ _ _ h=>hX (x+1,_,_,_,_,_) ⟨by dsimp only;omega,rfl,h⟩ rfl
 ·have:x=n:=ω;subst this;exact h _ _ _ _ (hI.out cl cr ir)
structure CCc (n:Nat) (c:List Int) (cnt:Int):Prop where
 cl:c.length=n
 nm:∃k:Nat,cnt=k∧Nmb c k
theorem CCc.rg {n:Nat} {c:List Int} {cnt:Int} (h:CCc n c cnt):∀j:Nat,j<n→0≤ix c (j:Int)∧ix c (j:Int)<n:=fun j hj=>by
 obtain⟨k,_,hn⟩:=h.nm
 have hcl:=h.cl
 obtain⟨a,e,ha⟩:=hn.rg j ω
 have hk:k≤n:=by
  apply Classical.byContradiction;intro hc
  obtain⟨g,hg⟩:∃g:Nat→Nat,∀a,a<k→g a<n∧ix c (g a:Int)=a:=by
   have:∀a:Nat,∃q:Nat,a<k→q<n∧ix c (q:Int)=a:=fun a=>by
    by_cases ha:a<k
    ·obtain⟨q,h1,h2⟩:=hn.on a ha;exact⟨q,fun _=>⟨ω,h2⟩⟩
    ·exact⟨0,fun h=>absurd h ha⟩
   exact Classical.axiomOfChoice this
  obtain⟨a,b,hab,hb,e⟩:=pigeon n (fun a=>(g a:Int)) fun a ha=>⟨ω,by have:=(hg a ω).1;omega⟩;have h1:=(hg a ω).2;have h2:=(hg b ω).2;rw[e] at h1;omega
 omega
theorem CCc.le {n:Nat} {c:List Int} {cnt:Int} (h:CCc n c cnt):cnt≤n:=by
 obtain⟨k,e,hn⟩:=h.nm;by_cases h0:k=0
 ·omega
 ·obtain⟨q,h1,h2⟩:=hn.on (k-1) ω;have:=h.rg q (by rw[←h.cl];exact h1);omega
def Stb (t:List (List Int)) (c0 c:List Int) (n:Nat) (g:Int):Prop:=∀x y:Nat,x<n→y<n→ix c (x:Int)=ix c (y:Int)→ix c0 (ix (ix t g) (x:Int))=ix c0 (ix (ix t g) (y:Int))∧ix c0 (ix (ix t (x:Int)) g)=ix c0 (ix (ix t (y:Int)) g)
def CgR (t:List (List Int)) (n:Nat) (g:Int) (R:Nat→Nat→Prop):Prop:=∀x y u v:Nat,x<n→y<n→u<n→v<n→R x y→(ix (ix t g) (x:Int)=u→ix (ix t g) (y:Int)=v→R u v)∧(ix (ix t (x:Int)) g=u→ix (ix t (y:Int)) g=v→R u v)
def HdR (n:Nat) (R:Nat→Nat→Prop) (c:List Int):Prop:=∀x y:Nat,x<n→y<n→R x y→ix c (x:Int)=ix c (y:Int)
structure GOc (t:List (List Int)) (n:Nat) (c:List Int) (g R:Int) (cnt:Int) (im label mark sp c':List Int):Prop where
 il:im.length=n
 ll:label.length=n*n
 ml:mark.length=n*n
 sl:sp.length=n
 le:∀v:Nat,v<n*n→ix mark (v:Int)≤R
 cc:CCc n c' cnt
 fin:∀x y:Nat,x<n→y<n→ix c' (x:Int)=ix c' (y:Int)→ix c (x:Int)=ix c (y:Int)
 stb:Stb t c c' n g
 co:∀R,CgR t n g R→HdR n R c→HdR n R c'
theorem J7w {t:List (List Int)} (ht:SH t=true) {n k2:Nat} (hn:t.length=n) {gens:List Int} {R0 g:Int} (hg:ix gens (k2:Int)=g) (g0:0≤g) (g1:g<n) (hR:0≤R0∧R0≤1000000000)
  {im c0 c label mark sp:List Int} {cnt:Int} {X2:Nat→Int→Int→List Int→List Int→List Int→List Int→List Int→Prop} {K:List Int→Prop}
  (hc:CCc n c cnt) (il:im.length=n) (ll:label.length=n*n) (ml:mark.length=n*n) (sl:sp.length=n) (le:∀v:Nat,v<n*n→ix mark (v:Int)≤R0+1)
  (h1:∀x y:Nat,x<n→y<n→ix c (x:Int)=ix c (y:Int)→ix c0 (x:Int)=ix c0 (y:Int)∧ix c0 (ix (ix t g) (x:Int))=ix c0 (ix (ix t g) (y:Int)))
  (h2:∀x y:Nat,x<n→y<n→ix c0 (x:Int)=ix c0 (y:Int)→ix c0 (ix (ix t g) (x:Int))=ix c0 (ix (ix t g) (y:Int))→ix c (x:Int)=ix c (y:Int))
  (h:∀cnt' im' label' mark' c',GOc t n c0 g (R0+1+1) cnt' im' label' mark' c c'→X2 (k2+1) cnt' (R0+1+1) im' label' mark' c c') :
  LoopWP (S:=Nat×List Int) (fun s X=>J1X t gens k2 R0 X2 label mark c sp K (fun a b=>X (a,b)) s.1 s.2) (0,im):=by
 have T:=SH.tb ht;have n4:=T.n4;rw[hn] at T;have hcl:=hc.cl;refine LoopWP.fold n (fun x im=>im.length=n∧∀j:Nat,j<x→ix im (j:Int)=ix (ix t (j:Int)) g) ⟨il,fun j hj=>absurd hj (Nat.not_lt_zero _)⟩ ?_;rintro x im X hx ⟨il,hI⟩ hX
 show J1X t gens k2 R0 X2 label mark c sp K _ x im
 unfold J1X;rw[hg]
 split
 ·have hx':(x:Int)<n:=ω;have r:=T.row (x:Int) ω hx';refine⟨ω,ω,g0,ω,ω,ω,hX _ ω ⟨by simp[il],upS (fun j hj=>?_) ?_⟩⟩
  ·rw[ix_st _ ω ω ω,if_neg ω];exact hI j hj
  ·rw[ix_st _ ω ω ω,if_pos rfl]
 ·have hxn:x=n:=ω;subst hxn
  have ir:∀j:Nat,j<t.length→0≤ix im (j:Int)∧ix im (j:Int)<t.length:=fun j hj=>by
   rw[hI j ω];have:=T.mu (x:=(j:Int)) (y:=g) ω ω g0 g1;unfold mu at this;omega
  rw[hn] at ir;refine⟨⟨ω,ω⟩,J7G ω hcl il hc.rg ir ll ml sl (fun v hv=>by have:=le v hv;omega) fun cnt' label' mark' c' ho=>h _ _ _ _ _ ⟨il,ho.ll,ho.ml,hcl,ho.le,⟨ho.nl,ho.nm⟩,fun a b ha hb e=>(h1 a b ha hb (ho.fin a b ha hb e).1).1,fun a b ha hb e=>?_,fun R cg hd=>?_⟩⟩
  case refine_2=>
   have nt:∀{a b:Int},0≤a→a<x→0≤b→b<x→∃u:Nat,ix (ix t a) b=u∧u<x:=fun a0 a1 b0 b1=>by
    have:=T.mu a0 a1 b0 b1;unfold mu at this;exact⟨_,(Int.toNat_of_nonneg this.1).symm,ω⟩
   have hdc:HdR x R c:=fun a b ha hb r=>by
    obtain⟨u,eu,hu⟩:=nt g0 g1 (b:=(a:Int)) ω ω;obtain⟨v,ev,hv⟩:=nt g0 g1 (b:=(b:Int)) ω ω;exact h2 a b ha hb (hd a b ha hb r) (by rw[eu,ev];exact hd u v hu hv ((cg a b u v ha hb hu hv r).1 eu ev))
   intro a b ha hb r;obtain⟨u,eu,hu⟩:=nt (a:=(a:Int)) ω ω g0 g1;obtain⟨v,ev,hv⟩:=nt (a:=(b:Int)) ω ω g0 g1;exact ho.bk a b ha hb (hdc a b ha hb r) (by rw[hI a ha,hI b hb,eu,ev];exact hdc u v hu hv ((cg a b u v ha hb hu hv r).2 eu ev))
  obtain⟨e1,e2⟩:=ho.fin a b ha hb e;refine⟨(h1 a b ha hb e1).2,?_⟩;rw[hI a ha,hI b hb] at e2;obtain⟨u,eu⟩:=Int.eq_ofNat_of_zero_le (T.mu (x:=(a:Int)) (y:=g) ω ω g0 g1).1;obtain⟨w,ew⟩:=Int.eq_ofNat_of_zero_le (T.mu (x:=(b:Int)) (y:=g) ω ω g0 g1).1;have hu:=(T.mu (x:=(a:Int)) (y:=g) ω ω g0 g1).2;have hw:=(T.mu (x:=(b:Int)) (y:=g) ω ω g0 g1).2;unfold mu at eu ew hu hw;rw[eu,ew] at e2 ⊢;exact(h1 u w ω ω e2).1
theorem J7z {t:List (List Int)} (ht:SH t=true) {n k2:Nat} (hn:t.length=n) {gens:List Int} {R0 g:Int} (hg:ix gens (k2:Int)=g) (g0:0≤g) (g1:g<n) (hR:0≤R0∧R0≤1000000000)
  {im c label mark sp:List Int} {cnt:Int} {X2:Nat→Int→Int→List Int→List Int→List Int→List Int→List Int→Prop} {K:List Int→Prop}
  (hc:CCc n c cnt) (il:im.length=n) (ll:label.length=n*n) (ml:mark.length=n*n) (sl:sp.length=n) (le:∀v:Nat,v<n*n→ix mark (v:Int)≤R0)
  (h:∀cnt' im' label' mark' sp' c',GOc t n c g (R0+1+1) cnt' im' label' mark' sp' c'→X2 (k2+1) cnt' (R0+1+1) im' label' mark' sp' c') :
  LoopWP (S:=Nat×Int×List Int×List Int×List Int×List Int) (fun s X=>J3q t gens k2 R0 im c X2 K (fun a b d e f g=>X (a,b,d,e,f,g)) s.1 s.2.1 s.2.2.1 s.2.2.2.1 s.2.2.2.2.1 s.2.2.2.2.2) (0,(0:Int),label,mark,sp,c):=by
 have T:=SH.tb ht;have n4:=T.n4;rw[hn] at T;have hcl:=hc.cl;have hrow:=T.row g g0 g1
 have hIM:(ix t g).take im.length++im.drop (ix t g).length=ix t g:=by
  rw[il,hrow,List.take_of_length_le ω,List.drop_of_length_le ω,List.append_nil]
 have ir:∀j:Nat,j<n→0≤ix (ix t g) (j:Int)∧ix (ix t g) (j:Int)<n:=fun j hj=>T.mu g0 g1 ω ω;refine LoopWP.to n (fun s=>s.1) (fun s=>s.1≤n∧s.2.2.2.2.2=c∧SPI n (ix t g) c (R0+1) s.1 s.2.1 s.2.2.1 s.2.2.2.1 s.2.2.2.2.1) ⟨Nat.zero_le _,rfl,.start ll ml sl fun v hv=>Int.lt_add_one_iff.2 (le v hv)⟩ (fun s h=>h.1) ?_;rintro⟨x,cnt,label,mark,nx,c'⟩ X ⟨hx,hc',hI⟩ hX
 try dsimp only at hx hc' hI ⊢
 subst hc';unfold J3q;rw[hg,hIM]
 split
 ·rename_i hlt;exact JdM (Y:=fun a b d e f g=>X (a,b,d,e,g,f)) ω hcl hrow hc.rg ir hI ω fun _ _ _ _ h=>hX (x+1,_,_,_,_,_) ⟨by dsimp only;omega,rfl,h⟩ rfl
 ·have hxn:x=n:=ω;subst hxn;have ho:=hI.out hcl hc.rg ir;refine J7w (c0:=c') ht hn hg g0 g1 hR ⟨ho.nl,ho.nm⟩ hrow ho.ll ho.ml hcl ho.le ho.fin ho.bk fun cnt' im' label' mark' c'' hG=>h _ _ _ _ _ _ hG
structure GSc (t:List (List Int)) (n:Nat) (gens c0:List Int) (k:Nat) (R cnt:Int) (im label mark sp c:List Int):Prop where
 il:im.length=n
 ll:label.length=n*n
 ml:mark.length=n*n
 sl:sp.length=n
 le:∀v:Nat,v<n*n→ix mark (v:Int)≤R
 cc:CCc n c cnt
 fin:∀x y:Nat,x<n→y<n→ix c (x:Int)=ix c (y:Int)→ix c0 (x:Int)=ix c0 (y:Int)
 stb:∀h:Nat,h<k→Stb t c0 c n (ix gens (h:Int))
 co:∀R,(∀g∈gens,CgR t n g R)→HdR n R c0→HdR n R c
theorem J7H {t:List (List Int)} (ht:SH t=true) {n:Nat} (hn:t.length=n) {gens c0:List Int} (gl:gens.length≤n) (gr:∀g∈gens,0≤g∧g<(n:Int)) {b r0:Int} (h0:0≤r0) (h9:r0+800≤1000000000)
  {im c label mark sp:List Int} {cnt:Int} {X1:Int→Int→Int→List Int→List Int→List Int→List Int→List Int→Prop} {K:List Int→Prop}
  (hG:GSc t n gens c0 0 r0 cnt im label mark sp c)
  (h:∀cnt' r' im' label' mark' sp' c',r0≤r'→r'≤r0+800→GSc t n gens c0 gens.length r' cnt' im' label' mark' sp' c'→X1 b cnt' r' im' label' mark' sp' c') :
  LoopWP (S:=Nat×Int×Int×List Int×List Int×List Int×List Int×List Int) (fun s X=>J3n t gens b X1 K (fun a b d e f g h i=>X (a,b,d,e,f,g,h,i)) s.1 s.2.1 s.2.2.1 s.2.2.2.1 s.2.2.2.2.1 s.2.2.2.2.2.1 s.2.2.2.2.2.2.1 s.2.2.2.2.2.2.2) (0,cnt,r0,im,label,mark,sp,c):=by
 have T:=SH.tb ht;have n4:=T.n4;rw[hn] at T;refine LoopWP.to gens.length (fun s=>s.1) (fun s=>s.1≤gens.length∧s.2.2.1=r0+2*(s.1:Int)∧GSc t n gens c0 s.1 s.2.2.1 s.2.1 s.2.2.2.1 s.2.2.2.2.1 s.2.2.2.2.2.1 s.2.2.2.2.2.2.1 s.2.2.2.2.2.2.2) ⟨Nat.zero_le _,by simp,hG⟩ (fun s h=>h.1) ?_;rintro⟨k,cnt,r,im,label,mark,sp,c⟩ X ⟨hk,hr,hG⟩ hX
 try dsimp only at hk hr hG ⊢
 unfold J3n
 split
 ·rename_i hlt;have hgm:=gr (ix gens (k:Int)) (J0S ω hlt);refine⟨ω,hlt,hgm.1,ω,⟨ω,ω⟩,?_⟩;refine J7z ht hn rfl hgm.1 hgm.2 ⟨ω,ω⟩ hG.cc hG.il hG.ll hG.ml hG.sl hG.le fun cnt' im' label' mark' sp' c' hO=>hX (k+1,_,_,_,_,_,_,_) ⟨by dsimp only;omega,by dsimp only;omega,⟨hO.il,hO.ll,hO.ml,hO.sl,hO.le,hO.cc,fun x y hx hy e=>hG.fin x y hx hy (hO.fin x y hx hy e),fun q hq=>?_,fun R cg hd=>hO.co R (cg _ (J0S ω hlt)) (hG.co R cg hd)⟩⟩ rfl;by_cases e:q=k
  ·subst e;intro x y hx hy exy;obtain⟨e1,e2⟩:=hO.stb x y hx hy exy
   have in_:∀{a b:Int},0≤a∧a<n→0≤b∧b<n→ix c a=ix c b→ix c0 a=ix c0 b:=fun {a b} ha hb e=>by
    obtain⟨u,rfl⟩:=Int.eq_ofNat_of_zero_le ha.1;obtain⟨w,rfl⟩:=Int.eq_ofNat_of_zero_le hb.1;exact hG.fin u w ω ω e
   exact⟨in_ (T.mu hgm.1 hgm.2 ω ω) (T.mu hgm.1 hgm.2 ω ω) e1,in_ (T.mu ω ω hgm.1 hgm.2) (T.mu ω ω hgm.1 hgm.2) e2⟩
  ·exact fun x y hx hy exy=>hG.stb q ω x y hx hy (hO.fin x y hx hy exy)
 ·have:k=gens.length:=ω;subst this;exact h _ _ _ _ _ _ _ ω ω hG
structure Sta (t:List (List Int)) (n:Nat) (gens p c:List Int) (cnt:Int):Prop where
 cc:CCc n c cnt
 fin:∀x y:Nat,x<n→y<n→ix c (x:Int)=ix c (y:Int)→ix p (x:Int)=ix p (y:Int)
 stb:∀h:Nat,h<gens.length→Stb t c c n (ix gens (h:Int))
 co:∀R,(∀g∈gens,CgR t n g R)→HdR n R p→HdR n R c
theorem J7F {t:List (List Int)} (ht:SH t=true) {n:Nat} (hn:t.length=n) {gens p:List Int} (gl:gens.length≤n) (gr:∀g∈gens,0≤g∧g<(n:Int)) {im c label mark sp:List Int} {cnt:Int} {K:List Int→Prop}
  (il:im.length=n) (ll:label.length=n*n) (ml:mark.length=n*n) (sl:sp.length=n) (le:∀v:Nat,v<n*n→ix mark (v:Int)≤0) (cc:CCc n c cnt) (fin:∀x y:Nat,x<n→y<n→ix c (x:Int)=ix c (y:Int)→ix p (x:Int)=ix p (y:Int)) (co:∀R,(∀g∈gens,CgR t n g R)→HdR n R p→HdR n R c) (hpos:0<cnt)
  (h:∀c' cnt',Sta t n gens p c' cnt'→K c') :
  LoopWP (S:=Int×Int×Int×List Int×List Int×List Int×List Int×List Int) (fun s X=>J3x t gens K (fun a b d e f g h i=>X (a,b,d,e,f,g,h,i)) s.1 s.2.1 s.2.2.1 s.2.2.2.1 s.2.2.2.2.1 s.2.2.2.2.2.1 s.2.2.2.2.2.2.1 s.2.2.2.2.2.2.2) ((0:Int),cnt,(0:Int),im,label,mark,sp,c):=by
 have T:=SH.tb ht;have n4:=T.n4;refine LoopWP.intro (fun s=>0≤s.1∧s.1≤s.2.1∧0≤s.2.2.1∧s.2.2.1≤800*s.1∧GSc t n gens p 0 s.2.2.1 s.2.1 s.2.2.2.1 s.2.2.2.2.1 s.2.2.2.2.2.1 s.2.2.2.2.2.2.1 s.2.2.2.2.2.2.2∧(s.1=s.2.1→Sta t n gens p s.2.2.2.2.2.2.2 s.2.1)) (fun s=>n+1-s.1.toNat) ⟨by simp,by dsimp only;omega,by simp,by simp,⟨il,ll,ml,sl,le,cc,fin,fun h hh=>absurd hh (Nat.not_lt_zero _),co⟩,fun e=>by dsimp only at e;omega⟩ ?_;rintro⟨b,cnt,r,im,label,mark,sp,c⟩ X ⟨hb0,hb,hr0,hr,hG,hS⟩ hX
 try dsimp only at hb0 hb hr0 hr hG hS ⊢
 unfold J3x;have hcn:=hG.cc.le
 split
 ·rename_i e;exact h _ _ (hS e)
 ·rename_i hne;refine fun _=>J7H (c0:=c) ht hn gl gr hr0 ω ⟨hG.il,hG.ll,hG.ml,hG.sl,hG.le,hG.cc,fun x y _ _ e=>e,fun q hq=>absurd hq (Nat.not_lt_zero _),fun R _ hd=>hd⟩ fun cnt' r' im' label' mark' sp' c' h1 h2 hO=>?_;obtain⟨k0,e0,nm0⟩:=hG.cc.nm;obtain⟨k1,e1,nm1⟩:=hO.cc.nm;have l0:=hG.cc.cl;have l1:=hO.cc.cl;have fn:=nm0.finer nm1 ω fun x y hx hy e=>hO.fin x y ω ω e;refine hX (_,_,_,_,_,_,_,_) ⟨by dsimp only;omega,by dsimp only;omega,by dsimp only;omega,by dsimp only;omega,⟨hO.il,hO.ll,hO.ml,hO.sl,hO.le,hO.cc,fun x y hx hy e=>hG.fin x y hx hy (hO.fin x y hx hy e),fun q hq=>absurd hq (Nat.not_lt_zero _),fun R cg hd=>hO.co R cg (hG.co R cg hd)⟩,fun e=>?_⟩ (by dsimp only;omega);dsimp only at e;have back:=fn.2 ω;refine⟨hO.cc,fun x y hx hy e=>hG.fin x y hx hy (hO.fin x y hx hy e),fun q hq x y hx hy exy=>?_,fun R cg hd=>hO.co R cg (hG.co R cg hd)⟩;have hgm:=gr (ix gens (q:Int)) (J0S ω ω);obtain⟨s1,s2⟩:=hO.stb q hq x y hx hy exy;rw[hn] at T
  have in_:∀{a b:Int},0≤a∧a<n→0≤b∧b<n→ix c a=ix c b→ix c' a=ix c' b:=fun {a b} ha hb e=>by
   obtain⟨u,rfl⟩:=Int.eq_ofNat_of_zero_le ha.1;obtain⟨w,rfl⟩:=Int.eq_ofNat_of_zero_le hb.1;exact back u w ω ω e
  exact⟨in_ (T.mu hgm.1 hgm.2 ω ω) (T.mu hgm.1 hgm.2 ω ω) s1,in_ (T.mu ω ω hgm.1 hgm.2) (T.mu ω ω hgm.1 hgm.2) s2⟩
end Sg
namespace Sg
open Go
theorem J2w {p:List Int} (hp:CanP p) (hl:p.length≤4096) {K:Bool→Prop} (h:K true):J0h p K:=by
 unfold J0h;intro _;rw[if_neg ω];refine LoopWP.foldR p.length (fun k (c:Nat)=>c≤k∧∀v:Int,(0≤v∧v<(c:Int))↔∃j:Nat,j<k∧ix p (j:Int)=v) 0 ω ⟨ω,fun v=>⟨fun hh=>by omega,fun ⟨j,hj,_⟩=>by omega⟩⟩ ?_;rintro k c X hk ⟨hck,hI⟩ hX
 show J16 p K _ c k
 unfold J16
 split
 ·have hkp:k<p.length:=ω;obtain⟨p0,p1⟩:=hp k hkp
  have hle:ix p (k:Int)≤(c:Int):=by
   by_cases hlt:(c:Int)<ix p (k:Int)
   ·have:=(hI (c:Int)).2 (p1 _ ω hlt);omega
   ·omega
  refine⟨ω,ω,?_⟩;rw[if_neg ω,if_neg ω]
  split
  ·rename_i he;refine⟨⟨ω,ω⟩,hX _ hkp ⟨ω,fun v=>?_⟩⟩;constructor
   ·intro hv;by_cases hvc:v=(c:Int)
    ·exact⟨k,ω,by rw[he,hvc]⟩
    ·obtain⟨j,hj,hh⟩:=(hI v).1 ω;exact⟨j,ω,hh⟩
   ·rintro⟨j,hj,hh⟩;by_cases hjk:j=k
    ·subst hjk;omega
    ·have:=(hI v).2 ⟨j,ω,hh⟩;omega
  ·rename_i he;refine hX _ hkp ⟨ω,fun v=>?_⟩;rw[hI v];constructor
   ·rintro⟨j,hj,hh⟩;exact⟨j,ω,hh⟩
   ·rintro⟨j,hj,hh⟩;by_cases hjk:j=k
    ·subst hjk;exact(hI v).1 ω
    ·exact⟨j,ω,hh⟩
 ·exact h
theorem CanP.nmb {p:List Int} (hp:CanP p) {c:Int} (h1:∀j:Nat,j<p.length→ix p (j:Int)+1≤c) (h2:c=0∨∃j:Nat,j<p.length∧ix p (j:Int)+1=c):∃k:Nat,c=k∧Nmb p k:=by
 have h0:0≤c:=by
  rcases h2 with h2 | ⟨j,hj,e⟩
  ·omega
  ·have:=(hp j hj).1;omega
 obtain⟨k,rfl⟩:=Int.eq_ofNat_of_zero_le h0;refine⟨k,rfl,fun q hq=>?_,fun a ha=>?_,fun q a hq ha=>?_⟩
 ·obtain⟨a,ea⟩:=Int.eq_ofNat_of_zero_le (hp q hq).1;exact⟨a,ea,by have:=h1 q hq;omega⟩
 ·rcases h2 with h2 | ⟨j,hj,e⟩
  ·omega
  ·by_cases e2:ix p (j:Int)=a
   ·exact⟨j,hj,e2⟩
   ·obtain⟨i,hi,ei⟩:=(hp j hj).2 a ω ω;exact⟨i,ω,ei⟩
 ·obtain⟨i,hi,ei⟩:=(hp q hq).2 a ω ha;exact⟨i,hi,ei⟩
theorem J4O {p:List Int} (hp:CanP p) (hl:p.length≤400) {K:Int→Prop} (h:∀c,CCc p.length p c→(0<p.length→0<c)→K c):J0d p K:=by
  unfold J0d;refine J2w hp ω ?_;rw[if_pos rfl];refine fun _=>LoopWP.foldR p.length (fun k (c:Int)=>(∀j:Nat,j<k→ix p (j:Int)+1≤c)∧(c=0∨∃j:Nat,j<k∧ix p (j:Int)+1=c)) 0 ω ⟨fun j hj=>absurd hj (Nat.not_lt_zero _),.inl rfl⟩ ?_;rintro k c X hk ⟨h1,h2⟩ hX
  show J2T p K _ c k
  unfold J2T
  have h0:0≤c:=by
    rcases h2 with h2 | ⟨j,hj,e⟩
    · omega
    · have:=(hp j ω).1;omega
  split
  · have hkp:k<p.length:=ω;have a:=(hp k hkp).1
    have bound:ix p (k:Int)≤400:=by
      have hle:∀m:Nat,∀j:Nat,j<m→j<p.length→ix p (j:Int)≤j:=fun m=>by
        induction m with
        | zero=>intro j hj;exact absurd hj (Nat.not_lt_zero _)
        | succ m ih =>
          intro j hj hjl;by_cases hc:ix p (j:Int)≤j
          · exact hc
          · obtain⟨i,hi,ei⟩:=(hp j hjl).2 j ω ω;have:=ih i ω ω;omega
      have:=hle (k+1) k ω hkp;omega
    refine⟨ω,ω,⟨ω,ω⟩,?_⟩
    split
    · exact hX _ hkp ⟨fun j hj=>by
        by_cases e:j=k
        · subst e;exact Int.le_refl _
        · have:=h1 j ω;omega,.inr ⟨k,ω,rfl⟩⟩
    · refine hX _ hkp ⟨upS h1 ω,?_⟩
      rcases h2 with h2 | ⟨j,hj,e⟩
      · exact .inl h2
      · exact .inr ⟨j,ω,e⟩
  · have:k=p.length:=ω;subst this;refine h c ⟨rfl,hp.nmb h1 h2⟩ fun hpos=>?_;have:=h1 0 hpos;have:=(hp 0 hpos).1;omega
theorem J97 {t:List (List Int)} (ht:SH t=true) {p:List Int} (hp:CanP p) (hl:p.length=t.length) {K:List Int→Prop}
  (h:∀gens c cnt,(∀g∈gens,0≤g∧g<(t.length:Int))→(∀x:Nat,x<t.length→Clo t gens x)→Sta t t.length gens p c cnt→K c):J2i t p K:=by
 have T:=SH.tb ht;have n1:=T.n1;have n4:=T.n4
 have hnn:(t.length:Int)*t.length≤160000∧0≤(t.length:Int)*t.length:=by
  have:t.length*t.length≤400*400:=Nat.mul_le_mul n4 n4
  have h3:((t.length*t.length:Nat):Int)=(t.length:Int)*(t.length:Int):=by simp
  omega
 have hnt:((t.length:Int)*(t.length:Int)).toNat=t.length*t.length:=by
  have h3:((t.length*t.length:Nat):Int)=(t.length:Int)*(t.length:Int):=by simp
  rw[←h3];exact Int.toNat_natCast _
 unfold J2i;refine J9H ht ?_;rw[if_pos rfl];refine fun _ _=>?_;rw[if_pos ω];refine J2w hp ω ?_;rw[if_pos rfl];refine⟨⟨ω,ω⟩,⟨ω,ω⟩,J1P ω ⟨ω,ω,ω,ω,ω,ω,J4O hp ω fun c hc hpos=>J7Q ht fun gens gl gr gc=>⟨ω,ω,?_⟩⟩⟩;rw[hnt];rw[hl] at hc;exact J7F ht rfl gl gr (by simp) (by simp) (by simp) (by simp) (fun v hv=>by rw[J0c _ _ hv];exact Int.le_refl _) hc (fun x y _ _ e=>e) (fun R _ hd=>hd) (hpos ω) fun c' cnt' hS=>h gens c' cnt' gr gc hS
end Sg
namespace Sg
open Go
theorem J8c {t:List (List Int)} (hv:VT t=true) {set:List Bool} (hl:set.length=t.length) {K:List Int→Prop}
  (h:∀gens c cnt,(∀x:Nat,x<t.length→Clo t gens x)→(∀g∈gens,0≤g∧g<(t.length:Int))→(∀x y:Nat,x<t.length→y<t.length→ix c (x:Int)=ix c (y:Int)→ix set (x:Int)=ix set (y:Int))→CCc t.length c cnt→(∀k:Nat,k<gens.length→Stb t c c t.length (ix gens (k:Int)))→(∀R,(∀g∈gens,CgR t t.length g R)→(∀x y:Nat,x<t.length→y<t.length→R x y→ix set (x:Int)=ix set (y:Int))→HdR t.length R c)→K c):J1Q t set K:=by
 have T:=SH.tb (VT.sh hv);have n4:=T.n4;unfold J1Q;refine fun _ _=>?_;rw[if_pos ω];refine J0B ?_;rw[if_pos (vaC0.2 hv)];refine⟨ω,ω,?_⟩;refine LoopWP.fold t.length (fun k l=>l.length=t.length∧(∀j:Nat,j<k→ix l (j:Int)=if ix set (j:Int)=true then 1 else 0)∧∀j:Nat,k≤j→j<t.length→ix l (j:Int)=0) ⟨by simp,fun j hj=>absurd hj (Nat.not_lt_zero _),fun j _ hj=>J0c _ _ hj⟩ ?_;rintro k l X hk ⟨ll,h1,h2⟩ hX
 show J37 t set K _ k l
 unfold J37
 split
 ·refine⟨ω,ω,?_⟩
  split
  ·rename_i hs;refine⟨ω,ω,hX _ ω ⟨by simp[ll],upS (fun j hj=>?_) ?_,fun j hj hjl=>?_⟩⟩
   ·rw[ix_st _ ω ω ω,if_neg ω];exact h1 j hj
   ·rw[ix_st _ ω ω ω,if_pos rfl,if_pos hs]
   ·rw[ix_st _ ω ω ω,if_neg ω];exact h2 j ω hjl
  ·rename_i hs;exact hX _ ω ⟨ll,upS h1 (by rw[h2 k (Nat.le_refl _) ω,if_neg hs]),fun j hj hjl=>h2 j ω hjl⟩
 ·have:k=t.length:=ω;subst this;refine J3l ω fun q hq=>J97 (VT.sh hv) hq.can (hq.len.trans ll) fun gens c cnt gr gc hS=>h gens c cnt gc gr (fun x y hx hy e=>?_) hS.cc hS.stb fun R cg hd=>hS.co R cg fun x y hx hy r=>(hq.ker x y ω ω).2 (by rw[h1 x hx,h1 y hy,hd x y hx hy r]);have e1:=(hq.ker x y ω ω).1 (hS.fin x y hx hy e);rw[h1 x hx,h1 y hy] at e1;by_cases a:ix set (x:Int)=true<;>by_cases b:ix set (y:Int)=true
  ·rw[a,b]
  ·rw[if_pos a,if_neg b] at e1;omega
  ·rw[if_neg a,if_pos b] at e1;omega
  ·rw[Bool.not_eq_true] at a b;rw[a,b]
theorem JeN {t:List (List Int)} (hv:VT t=true) {gens c:List Int} (gr:∀g∈gens,0≤g∧g<(t.length:Int)) (hs:∀k:Nat,k<gens.length→Stb t c c t.length (ix gens (k:Int))) {z:Int} (hz:Clo t gens z):Stb t c c t.length z:=by
  have T:=SH.tb (VT.sh hv);have A:=VT.as hv
  induction hz with
  | gen hg =>
    obtain⟨k,hk,rfl⟩:=J0f.1 hg;exact hs k hk
  | @mul a b ha hb iha ihb =>
    have ra:=ha.in_ T gr;have rb:=hb.in_ T gr;intro x y hx hy e;obtain⟨l1,l2⟩:=ihb x y hx hy e;obtain⟨l3,l4⟩:=iha x y hx hy e;have pbx:=T.mu rb.1 rb.2 (y:=(x:Int)) ω ω;have pby:=T.mu rb.1 rb.2 (y:=(y:Int)) ω ω;have pxa:=T.mu (x:=(x:Int)) ω ω ra.1 ra.2;have pya:=T.mu (x:=(y:Int)) ω ω ra.1 ra.2;have as1:∀{u v w:Int},0≤u∧u<t.length→0≤v∧v<t.length→0≤w∧w<t.length→ix (ix t (ix (ix t u) v)) w=ix (ix t u) (ix (ix t v) w):=fun hu hv hw=>A.all hu hv hw;unfold mu at pbx pby pxa pya;have hxx:0≤(x:Int)∧(x:Int)<t.length:=⟨ω,ω⟩;have hyy:0≤(y:Int)∧(y:Int)<t.length:=⟨ω,ω⟩;constructor
    · show ix c (ix (ix t (ix (ix t a) b)) (x:Int))=ix c (ix (ix t (ix (ix t a) b)) (y:Int))
      rw[as1 ra rb hxx,as1 ra rb hyy];obtain⟨u,eu⟩:=Int.eq_ofNat_of_zero_le pbx.1;obtain⟨w,ew⟩:=Int.eq_ofNat_of_zero_le pby.1;rw[eu,ew] at l1 ⊢;exact(iha u w ω ω l1).1
    · show ix c (ix (ix t (x:Int)) (ix (ix t a) b))=ix c (ix (ix t (y:Int)) (ix (ix t a) b))
      rw[←as1 hxx ra rb,←as1 hyy ra rb];obtain⟨u,eu⟩:=Int.eq_ofNat_of_zero_le pxa.1;obtain⟨w,ew⟩:=Int.eq_ofNat_of_zero_le pya.1;rw[eu,ew] at l4 ⊢;exact(ihb u w ω ω l4).2
end Sg
namespace Sg
open Go
section
variable {k:Nat} {ds Ms Ms':List DFA} {i:Nat}
end
end Sg
namespace Sg
open Go
section
variable {ds:List DFA} {s s':Syntactic} {L L':List (List Bool)} {e e':Int}
end
section
variable {α:Type} {k:Nat} {ρ:Str→α} {s:Syntactic}
end
end Sg
