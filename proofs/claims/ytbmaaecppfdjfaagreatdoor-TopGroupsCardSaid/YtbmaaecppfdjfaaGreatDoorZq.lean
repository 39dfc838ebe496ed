/- -/
import Derived.Test.YtbmaaecppfdjfaaGreatDoorZp
import Derived.Test.YtbmaaecppfdjfaaGreatDoorEv
set_option linter.unusedVariables false
set_option linter.unusedSimpArgs false
namespace Sg
open Go
set_option maxRecDepth 100000
def dAB:DFA:=⟨2,0,[true,false,false],[[1,2],[2,0],[2,2]]⟩
theorem JeC:Da dAB:=J43.1 (by decide +kernel)
theorem JeI {m:DFA} {W:List Str} (c:Can 2 (nero dAB 2) (acc dAB) m W):m.Final.length=3:=by
 have h3:=Jbm JeC rfl c;have fl:=c.fl;have h3:W.length≤3:=h3;have na:∀u v z:Str,LW 2 z→ix dAB.Final (rn dAB dAB.Start (u++z))≠ix dAB.Final (rn dAB dAB.Start (v++z))→nero dAB 2 u≠nero dAB 2 v:=fun u v z hz hn e=>hn (J5z.1 e z hz);have la:LW 2 [lt 0]:=LW.lt (by decide) (by decide);have lb:LW 2 [lt 1]:=LW.lt (by decide) (by decide);obtain⟨i,hi,ei⟩:=c.cl.place (LW.nil 2);obtain⟨j,hj,ej⟩:=c.cl.place la;obtain⟨l,hl,el⟩:=c.cl.place lb;have n1:i≠j:=fun e=>na [] [lt 0] [] (LW.nil 2) (by decide +kernel) (by rw[←ei,←ej,e]);have n2:i≠l:=fun e=>na [] [lt 1] [] (LW.nil 2) (by decide +kernel) (by rw[←ei,←el,e]);have n3:j≠l:=fun e=>na [lt 0] [lt 1] [lt 1] lb (by decide +kernel) (by rw[←ej,←el,e]);omega
theorem J2L {K:Bool→Prop} (h:K true):J13 K:=by
 unfold J13;refine J6b (u_:=30) _ rfl (J6b (u_:=30) _ rfl (J9U (u_:=30) _ rfl (J9U (u_:=30) _ rfl (J9Z (u_:=30) (dAB,0) (by decide +kernel) ?_))))
 show (if (0:Int)=0 then _ else _)
 rw[if_pos rfl];refine J2y JeC rfl fun m W c=>fun _=>?_;have e:=JeI c;rw[if_pos ω];exact J6b (u_:=30) _ rfl (JaJ (u_:=30) true (by decide +kernel) h)
end Sg
namespace Sg
open Go
theorem J9b {d:DFA} {m:Int} {K:Bool→Prop} (h1:Da d→(d.Final.length:Int)≤m→K true) (h0:K false):J65 d m K:=by
 unfold J65;refine fun _=>?_
 split
 ·rename_i hm
  split
  ·refine J98 ?_
   split
   ·rename_i h;exact h1 (J43.1 (daC0.1 h)) hm
   ·exact h0
  ·exact h0
 ·exact h0
end Sg
namespace Sg
open Go
section
variable {gens:List (List Int)} {mon:Bool} {r:run}
end
end Sg
namespace Sg
open Go
section
variable {d m:DFA} {k:Nat}
def rep:Nat→Str→Str
 | 0,_=>[]
 | n+1,v=>v++rep n v
theorem rep_lw {v:Str} (h:LW k v):∀n,LW k (rep n v)
 | 0=>fun _ hb=>nomatch hb
 | n+1=>LW.app.2 ⟨h,rep_lw h n⟩
end
end Sg
namespace Sg
section
variable {α:Type} {m:α→α→α} {e a b:α}
def pwM (m:α→α→α) (e x:α):Nat→α
 | 0=>e
 | n+1=>m (pwM m e x n) x
structure MonL (m:α→α→α) (e:α):Prop where
 as:∀x y z,m (m x y) z=m x (m y z)
 el:∀x,m e x=x
 er:∀x,m x e=x
structure HrM (m:α→α→α) (a b:α):Prop where
 r:∃u,m a u=b
 r':∃v,m b v=a
 l:∃x,m x a=b
 l':∃y,m y b=a
theorem MonL.JcE (M:MonL m e) (x:α) (i:Nat):∀j,pwM m e x (i+j)=m (pwM m e x i) (pwM m e x j)
 | 0=>(M.er _).symm
 | j+1=>by rw[←Nat.add_assoc,pwM,pwM,M.JcE x i j,M.as]
theorem MonL.Jdb (M:MonL m e) (x:α):pwM m e x 1=x:=M.el x
theorem MonL.Jdc (M:MonL m e) (x:α) (n:Nat):pwM m e x (n+1)=m x (pwM m e x n):=by
 rw[Nat.add_comm,M.JcE x 1 n,M.Jdb]
theorem MonL.Jfj (M:MonL m e) (ap:∀x,∃N,pwM m e x (N+1)=pwM m e x N) (h:HrM m a b):a=b:=by
  obtain⟨u,hu⟩:=h.r;obtain⟨x,hx⟩:=h.l;obtain⟨y,hy⟩:=h.l'
  have c:∀n,m (pwM m e x n) a=m a (pwM m e u n):=by
    intro n
    induction n with
    | zero=>show m e a=m a e;rw[M.el,M.er]
    | succ n ih=>rw[pwM,pwM,M.as,hx,←hu,←M.as,ih,M.as]
  have back:∀n z,m (pwM m e y n) (m (pwM m e x n) (m a z))=m a z:=by
    intro n z
    induction n with
    | zero=>show m e (m e _)=_;rw[M.el,M.el]
    | succ n ih =>
      rw[pwM,M.Jdc x n,M.as,M.as,←M.as (pwM m e x n) a z,c n,M.as a,←M.as x a,hx,←M.as y b,hy,←M.as a,←c n,M.as];exact ih
  obtain⟨N,hN⟩:=ap u;have h1:=back N e;have h2:=back N u;rw[M.er] at h1
  have h3:m (pwM m e x N) (m a u)=m (pwM m e x N) a:=by
    rw[←M.as,c N,M.as,show m (pwM m e u N) u=pwM m e u (N+1) from rfl,hN]
  rw[h3,h1,hu] at h2;exact h2
theorem MonL.Jfn (M:MonL m e) {g:α→Int} {n:Nat} (gi:∀x y,g x=g y→x=y) (gn:∀x,0≤g x∧g x<n) (hH:∀a b,HrM m a b→a=b) (x:α):∃N,pwM m e x (N+1)=pwM m e x N:=by
 obtain⟨i,j,hij,_,he⟩:=pigeon n (fun k=>g (pwM m e x k)) fun k _=>gn _;have he:=gi _ _ he;refine⟨i,(hH _ _ ⟨⟨x,rfl⟩,⟨pwM m e x (j-i-1),?_⟩,⟨x,(M.Jdc x i).symm⟩,⟨pwM m e x (j-i-1),?_⟩⟩).symm⟩
 ·show m (pwM m e x (i+1)) _=_
  rw[←M.JcE,show i+1+(j-i-1)=j by omega];exact he.symm
 ·show m _ (pwM m e x (i+1))=_
  rw[←M.JcE,show j-i-1+(i+1)=j by omega];exact he.symm
theorem MonL.one_H (M:MonL m e):(∀a b,HrM m a b)↔∀x,∃y,m x y=e∧m y x=e:=by
 constructor
 ·intro h x;obtain⟨v,hv⟩:=(h e x).r';obtain⟨y,hy⟩:=(h e x).l';refine⟨v,hv,?_⟩
  have:y=v:=by
   have h1:m y (m x v)=y:=by rw[hv,M.er]
   rw[←M.as,hy,M.el] at h1;exact h1.symm
  rw[←this];exact hy
 ·intro h a b;obtain⟨a',a1,a2⟩:=h a;obtain⟨b',b1,b2⟩:=h b;exact⟨⟨m a' b,by rw[←M.as,a1,M.el]⟩,⟨m b' a,by rw[←M.as,b1,M.el]⟩,⟨m b a',by rw[M.as,a2,M.er]⟩,⟨m a b',by rw[M.as,b2,M.er]⟩⟩
end
end Sg
namespace Sg
open Go
section
variable {k:Nat} {φ:Str→Bool} {s:Syntactic}
def nq (φ:Str→Bool) (k:Nat) (u v:Str):Prop:=∀z,LW k z→φ (u++z)=φ (v++z)
theorem JfF {u v w:Str} (hw:LW k w) (h:nq φ k u v):nq φ k (u++w) (v++w):=fun z hz=>by
 have:=h (w++z) (LW.app.2 ⟨hw,hz⟩)
 simpa using this
def InjW (φ:Str→Bool) (k:Nat) (w:Str):Prop:=∀u v,LW k u→LW k v→nq φ k (u++w) (v++w)→nq φ k u v
theorem JdZ {w x:Str} (hw:LW k w) (h1:InjW φ k w) (h2:InjW φ k x):InjW φ k (w++x):=fun u v hu hv h=>by
 refine h1 u v hu hv (h2 _ _ (LW.app.2 ⟨hu,hw⟩) (LW.app.2 ⟨hv,hw⟩) ?_)
 simpa using h
theorem Jcp (hl:∀x,x<k→InjW φ k [lt x]) (hk:k<159):∀{w:Str},LW k w→InjW φ k w
  | [],_=>fun u v _ _ h=>by simpa using h
  | b :: w, hw => by
    obtain⟨h1,h2⟩:=LW.app.1 (show LW k ([b]++w) from hw)
    obtain⟨x,hx,rfl⟩:=LW.letter hk h1
    exact JdZ h1 (hl x hx) (Jcp hl hk h2)
theorem JdF {u v w:Str} (hw:LW k w) (h:syn φ k u=syn φ k v):nq φ k (w++u) (w++v):=fun z hz=>J2x.1 h w z hw hz
theorem Jds (v:Str) (i:Nat):∀j,rep (i+j) v=rep i v++rep j v:=by
 induction i with
 | zero=>intro j;simp[rep]
 | succ i ih=>intro j;rw[show i+1+j=(i+j)+1 by omega,rep,rep,ih,List.append_assoc]
theorem JeP (hk:k<159) (o:SynOf k φ s) (hl:∀x,x<k→InjW φ k [lt x]) {w:Str} (hw:LW k w):∃y,LW k y∧syn φ k (w++y)=syn φ k []∧syn φ k (y++w)=syn φ k []:=by
 have R:=J8C φ k;have L:=J9i φ k
 obtain⟨i,j,hij,_,he⟩:=pigeon s.Words.length (fun n=>vlS s (rep n w)) fun n _=>by
  obtain⟨a,ea,ha,_⟩:=o.mon.val hk R L (rep_lw hw n);rw[ea];omega
 have he:=(o.mon.Jbl hk R L (rep_lw hw i) (rep_lw hw j)).1 he
 have id:∀u,LW k u→nq φ k (u++rep (j-i) w) u:=fun u hu=>by
  refine Jcp hl hk (rep_lw hw i) _ _ (LW.app.2 ⟨hu,rep_lw hw _⟩) hu ?_;have h1:=JdF hu he;intro z hz;have h2:=h1 z hz;rw[List.append_assoc u,←Jds,show j-i+i=j by omega];exact h2.symm
 have one:syn φ k (rep (j-i) w)=syn φ k []:=J2x.2 fun x y hx hy=>by
  have:=id x hx y hy;simpa using this
 refine⟨rep (j-i-1) w,rep_lw hw _,?_,?_⟩
 ·have:w++rep (j-i-1) w=rep (j-i) w:=by
   rw[show j-i=(j-i-1)+1 by omega];rfl
  rw[this];exact one
 ·have:rep (j-i-1) w++w=rep (j-i) w:=by
   have h1:=Jds w (j-i-1) 1;rw[show j-i-1+1=j-i by omega] at h1;rw[h1];simp[rep]
  rw[this];exact one
theorem JeT {w y:Str} (hw:LW k w) (hy:LW k y) (h:syn φ k (w++y)=syn φ k []):InjW φ k w:=fun u v hu hv hq=>by
 have h1:=JfF hy hq
 have a:=JdF hu h
 have b:=JdF hv h
 intro z hz
 have a1:=a z hz
 have b1:=b z hz
 have c1:=h1 z hz
 simp only[List.append_nil,List.append_assoc] at a1 b1 c1
 rw[←a1,←b1]
 exact c1
end
end Sg
namespace Sg
open Go
theorem JaK {l:List Int} (hs:∀v:Nat,v<l.length→(v:Int)∈l) {i j:Nat} (hij:i<j) (hj:j<l.length):ix l (i:Int)≠ix l (j:Int):=fun e=>by
 have sub:∀x∈iota l.length,x∈l.eraseIdx j:=fun x hx=>by
  have hx:=J4p.1 hx
  obtain⟨v,rfl⟩:=Int.eq_ofNat_of_zero_le hx.1
  obtain⟨m,hm,em⟩:=J0f.1 (hs v ω)
  rw[List.mem_eraseIdx_iff_getElem]
  by_cases h:m=j
  ·refine⟨i,ω,ω,?_⟩
   rw[←ix_lt,e,←h,em]
  ·exact⟨m,hm,h,by rw[←ix_lt,em]⟩
 have nd:(iota l.length).Nodup:=by
  rw[iota,List.nodup_iff_pairwise_ne,List.pairwise_map]
  exact List.pairwise_lt_range.imp fun h=>by omega
 have:=J44 nd sub;rw[J18,List.length_eraseIdx_of_lt hj] at this;omega
theorem Jbi {l:List Int} (h:∀i j:Nat,i<j→j<l.length→ix l (i:Int)≠ix l (j:Int)):l.Nodup:=by
 rw[List.nodup_iff_pairwise_ne,List.pairwise_iff_getElem];intro i j hi hj hij;rw[←ix_lt,←ix_lt];exact h i j hij hj
theorem Jcz {f:List Int} (hf:VF f=true):perB f=true↔∀i j:Nat,i<j→j<f.length→ix f (i:Int)≠ix f (j:Int):=by
 have vf:=J2j.1 hf;unfold perB;rw[hf,Bool.true_and,decide_eq_true_eq];constructor
 ·intro h i j hij hj;refine JaK (fun v hv=>?_) hij hj
  have:∀x∈iota f.length,decide (x∈f)=true:=by
   have:=List.length_filter_eq_length_iff.1 (show ((iota f.length).filter fun x=>decide (x∈f)).length=(iota f.length).length by rw[J18];exact h);exact this
  have:=this v (J4p.2 ⟨ω,ω⟩);simpa using this
 ·intro h;have nd:=Jbi h;have h1:=J44 nd (l':=imL f) fun x hx=>((Jdv hf).2 x).2 hx
  have h2:(imL f).length≤f.length:=by
   have:=List.length_filter_le (fun x=>decide (x∈f)) (iota f.length);rw[J18] at this;exact this
  omega
theorem Jf9 {p:List Int} {c:Int} (hc:IsCnt p c) (h0:0<p.length):c=1↔∀i j:Nat,i<p.length→j<p.length→ix p (i:Int)=ix p (j:Int):=by
 have z:=(hc.2 (ix p ((0:Nat):Int))).2 ⟨0,h0,rfl⟩;constructor
 ·intro e i j hi hj;have a:=(hc.2 (ix p (i:Int))).2 ⟨i,hi,rfl⟩;have b:=(hc.2 (ix p (j:Int))).2 ⟨j,hj,rfl⟩;omega
 ·intro e;apply Classical.byContradiction;intro hn;obtain⟨i,hi,a⟩:=(hc.2 0).1 ⟨ω,ω⟩;obtain⟨j,hj,b⟩:=(hc.2 1).1 ⟨ω,ω⟩;have:=e i j hi hj;omega
theorem Jf5 {p:List Int} {c:Int} (hc:IsCnt p c):c=p.length↔∀i j:Nat,i<p.length→j<p.length→ix p (i:Int)=ix p (j:Int)→i=j:=by
 have c0:=hc.1;constructor
 ·intro e i j hi hj h;have s:∀v:Nat,v<p.length→(v:Int)∈p:=fun v hv=>J0f.2 ((hc.2 v).1 ⟨ω,ω⟩)
  rcases Nat.lt_trichotomy i j with k | k | k
  ·exact absurd h (JaK s k hj)
  ·exact k
  ·exact absurd h.symm (JaK s k hi)
 ·intro e
  have nd:=Jbi (l:=p) fun i j hij hj h=>by have:=e i j ω hj h;omega
  obtain⟨n,rfl⟩:=Int.eq_ofNat_of_zero_le c0
  have h1:=J44 nd (l':=iota n) fun x hx=>by
   obtain⟨j,hj,ej⟩:=J0f.1 hx;have:=(hc.2 x).2 ⟨j,hj,ej⟩;exact J4p.2 ⟨ω,ω⟩
  have nd2:(iota n).Nodup:=by
   rw[iota,List.nodup_iff_pairwise_ne,List.pairwise_map]
   exact List.pairwise_lt_range.imp fun h=>by omega
  have h2:=J44 nd2 (l':=p) fun x hx=>by
   have hx:=J4p.1 hx;exact J0f.2 ((hc.2 x).1 ⟨hx.1,ω⟩)
  rw[J18] at h1 h2;omega
section
variable {t:List (List Int)} (hv:VT t=true) (h1:∀x:Nat,x<t.length→mu t 0 x=x∧mu t x 0=x)
abbrev El (t:List (List Int)):={ i:Nat // i<t.length }
include hv in
theorem El.ok (x y:El t):∃m:Nat,mu t x.1 y.1=m∧m<t.length:=by
 have T:=SH.tb (VT.sh hv);have:=T.mu (x:=(x.1:Int)) (y:=(y.1:Int)) ω (by have:=x.2;omega) ω (by have:=y.2;omega);exact⟨(mu t x.1 y.1).toNat,ω,ω⟩
def El.m (x y:El t):El t:=⟨(mu t x.1 y.1).toNat,by obtain⟨m,e,hm⟩:=El.ok hv x y;rw[e];exact hm⟩
theorem El.m_eq (x y:El t):((El.m hv x y).1:Int)=mu t x.1 y.1:=by
 obtain⟨m,e,hm⟩:=El.ok hv x y
 show (((mu t x.1 y.1).toNat:Nat):Int)=_
 rw[e];rfl
def El.e (hv:VT t=true):El t:=⟨0,(SH.tb (VT.sh hv)).n1⟩
theorem El.ext {x y:El t} (h:(x.1:Int)=y.1):x=y:=Subtype.ext ω
include h1 in
theorem El.mon:MonL (El.m hv) (El.e hv):=⟨fun x y z=>El.ext (by
  obtain⟨a,ea,ha⟩:=El.ok hv x y
  obtain⟨b,eb,hb⟩:=El.ok hv y z
  rw[El.m_eq,El.m_eq,El.m_eq,El.m_eq]
  exact(VT.as hv) x.1 y.1 z.1 x.2 y.2 z.2),fun x=>El.ext (by rw[El.m_eq];exact(h1 x.1 x.2).1),fun x=>El.ext (by rw[El.m_eq];exact(h1 x.1 x.2).2)⟩
include h1 in
theorem El.H (x y:El t):HrM (El.m hv) x y↔(leR t x.1 y.1∧leR t y.1 x.1)∧(leL t x.1 y.1∧leL t y.1 x.1):=by
 have er:∀x:El t,El.m hv x (El.e hv)=x:=(El.mon hv h1).er;have el:∀x:El t,El.m hv (El.e hv) x=x:=(El.mon hv h1).el
 have R:∀a b:El t,(∃u,El.m hv a u=b)↔leR t b.1 a.1:=fun a b=>by
  constructor
  ·rintro⟨u,rfl⟩;exact .inr ⟨u.1,u.2,(El.m_eq hv a u).symm⟩
  ·rintro(e | ⟨s,hs,e⟩)
   ·exact⟨El.e hv,by rw[er];exact(Subtype.ext e).symm⟩
   ·exact⟨⟨s,hs⟩,El.ext (by rw[El.m_eq];exact e)⟩
 have L:∀a b:El t,(∃u,El.m hv u a=b)↔leL t b.1 a.1:=fun a b=>by
  constructor
  ·rintro⟨u,rfl⟩;exact .inr ⟨u.1,u.2,(El.m_eq hv u a).symm⟩
  ·rintro(e | ⟨s,hs,e⟩)
   ·exact⟨El.e hv,by rw[el];exact(Subtype.ext e).symm⟩
   ·exact⟨⟨s,hs⟩,El.ext (by rw[El.m_eq];exact e)⟩
 exact⟨fun h=>⟨⟨(R y x).1 h.r',(R x y).1 h.r⟩,(L y x).1 h.l',(L x y).1 h.l⟩,fun h=>⟨(R x y).2 h.1.2,(R y x).2 h.1.1,(L x y).2 h.2.2,(L y x).2 h.2.1⟩⟩
include h1 in
theorem El.pow (x:El t) (n:Nat):((pwM (El.m hv) (El.e hv) x (n+1)).1:Int)=Sg.pow t x.1 n:=by
  induction n with
  | zero=>rw[(El.mon hv h1).Jdb];rfl
  | succ n ih =>
    rw[pwM,El.m_eq,ih];rfl
include h1 in
theorem El.ap (x:El t):apS t x.1↔∃N,pwM (El.m hv) (El.e hv) x (N+1)=pwM (El.m hv) (El.e hv) x N:=by
  have T:=SH.tb (VT.sh hv);constructor
  · rintro⟨i,a,m,r,_,hp⟩;have hm:m=a+1:=ω;subst hm;exact⟨a+1,El.ext (by rw[El.pow hv h1,El.pow hv h1];exact r.eq)⟩
  · rintro⟨N,hN⟩;obtain⟨a,m,r⟩:=exRP T (x:=(x.1:Int)) ⟨ω,by have:=x.2;omega⟩
    have st:∀j,Sg.pow t x.1 (N+j+1)=Sg.pow t x.1 (N+j):=fun j=>by
      induction j with
      | zero =>
        have:=congrArg (fun y=>El.m hv y x) hN;have:=congrArg (fun y:El t=>(y.1:Int)) this;have h2:((pwM (El.m hv) (El.e hv) x (N+1+1)).1:Int)=((pwM (El.m hv) (El.e hv) x (N+1)).1:Int):=this;rw[El.pow hv h1,El.pow hv h1] at h2;exact h2
      | succ j ih=>show mu t (Sg.pow t x.1 (N+j+1)) x.1=mu t (Sg.pow t x.1 (N+j)) x.1;rw[ih]
    have lt:=r.lt;have e1:=Jcw r (N+a) ω;have e2:=Jcw r (N+a+1) ω;rw[st a,←e1] at e2;have b1:=Nat.mod_lt (N+a-a) (show 0<m-a by omega);have b2:=Nat.mod_lt (N+a+1-a) (show 0<m-a by omega)
    have same:(N+a+1-a) % (m-a)=(N+a-a) % (m-a):=by
      rcases Nat.lt_trichotomy ((N+a+1-a) % (m-a)) ((N+a-a) % (m-a)) with h | h | h
      · exact absurd e2 (r.inj _ _ ω ω)
      · exact h
      · exact absurd e2.symm (r.inj _ _ ω ω)
    have dv:m-a∣1:=by
      have:=Nat.sub_mod_eq_zero_of_mod_eq same;rw[show N+a+1-a-(N+a-a)=1 by omega] at this;exact Nat.dvd_of_mod_eq_zero this
    have:=Nat.le_of_dvd (by decide) dv;exact⟨a+1,a,m,r,rfl,ω⟩
end
section
variable {k:Nat} {d m:DFA} {W:List Str} {s:Syntactic}
theorem Jda (hk9:k<159) (c:Can k (nero d k) (acc d) m W) {x:Nat} (hx:x<k):(∀i j:Nat,i<j→j<(col m x).length→ix (col m x) (i:Int)≠ix (col m x) (j:Int))↔InjW (acc d) k [lt x]:=by
 have R:=J8Z d k;have nl:=c.nl
 have cl:(col m x).length=W.length:=by rw[Jd0,nl]
 have nq_iff:∀u v,nq (acc d) k u v↔nero d k u=nero d k v:=fun u v=>J5z.symm;have at_:∀i:Nat,i<W.length→ix (col m x) (i:Int)=ix (ix m.Next (i:Int)) (x:Int):=fun i hi=>JcD ω;have hl:=LW.lt hx hk9;constructor
 ·intro h u v hu hv e;rw[nq_iff] at e ⊢;obtain⟨i,_,hi,ri⟩:=c.run R hk9 hu;obtain⟨j,_,hj,rj⟩:=c.run R hk9 hv;obtain⟨i',ei,hi',ri'⟩:=c.nx i x hi hx;obtain⟨j',ej,hj',rj'⟩:=c.nx j x hj hx;have e1:=R _ _ _ (c.cl.lw hi) hu hl ri;have e2:=R _ _ _ (c.cl.lw hj) hv hl rj;have same:i'=j':=c.cl.inj hi' hj' (by rw[ri',rj',e1,e2,e])
  have:i=j:=by
   rcases Nat.lt_trichotomy i j with q | q | q
   ·exact absurd (by rw[at_ i hi,at_ j hj,ei,ej,same]) (h i j q ω)
   ·exact q
   ·exact absurd (by rw[at_ i hi,at_ j hj,ei,ej,same]) (h j i q ω)
  rw[←ri,←rj,this]
 ·intro h i j hij hj e;have hj:j<W.length:=ω;have hi:i<W.length:=ω;obtain⟨i',ei,hi',ri'⟩:=c.nx i x hi hx;obtain⟨j',ej,hj',rj'⟩:=c.nx j x hj hx;rw[at_ i hi,at_ j hj,ei,ej] at e;have:i'=j':=ω;subst this;have:=(nq_iff _ _).1 (h _ _ (c.cl.lw hi) (c.cl.lw hj) ((nq_iff _ _).2 (by rw[←ri',←rj'])));have:=c.cl.inj hi hj this;omega
theorem JdO (hk9:k<159) (o:SynOf k (acc d) s) (c:Can k (nero d k) (acc d) m W):(∀x,x<k→InjW (acc d) k [lt x])↔∀i:Nat,i<s.Words.length→∃j:Nat,j<s.Words.length∧mu s.Table i j=0∧mu s.Table j i=0:=by
 have R:=J8C (acc d) k;have L:=J9i (acc d) k;have M:=o.mon;constructor
 ·intro h i hi;have li:=M.cl.lw hi;obtain⟨y,hy,e1,e2⟩:=JeP hk9 o h li;obtain⟨j,ej,hj,_⟩:=M.val hk9 R L hy;have a:=(M.Jbl hk9 R L (LW.app.2 ⟨li,hy⟩) (LW.nil k)).2 e1;have b:=(M.Jbl hk9 R L (LW.app.2 ⟨hy,li⟩) (LW.nil k)).2 e2;rw[M.J5I hk9 R L li hy,M.J1J hk9 R L hi,ej] at a;rw[M.J5I hk9 R L hy li,M.J1J hk9 R L hi,ej] at b;exact⟨j,hj,a,b⟩
 ·intro h x hx;have hl:=LW.lt hx hk9;obtain⟨i,ei,hi,_⟩:=M.val hk9 R L hl;obtain⟨j,hj,e1,_⟩:=h i hi;have lj:=M.cl.lw hj;refine JeT hl lj ((M.Jbl hk9 R L (LW.app.2 ⟨hl,lj⟩) (LW.nil k)).1 ?_);rw[M.J5I hk9 R L hl lj,M.J1J hk9 R L hj,ei];exact e1
end
theorem J9v (d:DFA):J4o d (fun b=>b=true):=by
 unfold J4o;refine J9b (fun D hf=>?_) ?_
 case refine_2=>exact J2L rfl
 rw[if_pos rfl];have l1:=D.l1;have l6:=D.l6;obtain⟨k,hk⟩:=Int.eq_ofNat_of_zero_le (show 0≤d.Letters by omega);have hk':(k:Int)=d.Letters:=hk.symm;refine J2y D hk' fun m W c=>?_;have hW:=Jbm D hk' c;have fl:=c.fl;have nl:=c.nl;have M:=c.da ω ω ω;have hM:=J43.2 M;have mle:=c.le;refine J7O ?_;rw[if_pos hM,if_neg ω];refine J6F D ω fun s hs=>?_;have v:=hs.vs D;have hT:=hs.vt D;have T:=SH.tb (VT.sh hT);have n1:=T.n1;have n4:=T.n4;refine J9t (fun _ g G=>?_) fun hn=>absurd hT hn;have lH:=G.H.len;rw[if_pos rfl,if_pos rfl];refine fun _ _=>?_;rw[if_pos ω,if_neg ω];refine fun _=>LoopWP.foldR (gensD m).length (fun x (b:Bool)=>b=decide (∀y:Nat,y<x→perB (col m y)=true)) 0 (Nat.zero_le _) (by simp) ?_
 have glen:(gensD m).length=k:=by rw[J9P];omega
 rintro x b X hx rfl hX
 show J4a (gensD m) s g _ _ _ x
 unfold J4a
 split
 ·have hxk:x<k:=ω;have ec:ix (gensD m) (x:Int)=col m x:=J6t ω
  have nxt:∀e:Bool,e=(decide (∀y:Nat,y<x→perB (col m y)=true) && perB (col m x))→X (e,x+1):=fun e he=>hX _ ω (by
   rw[he,←Bool.decide_eq_true (b:=perB (col m x)),←Bool.decide_and];refine decide_eq_decide.2 ⟨fun ⟨h1,h2⟩ y hy=>?_,fun h=>⟨fun y hy=>h y ω,h x ω⟩⟩;by_cases e:y=x
   ·subst e;exact h2
   ·exact h1 y ω)
  refine⟨ω,ω,?_⟩
  split
  ·rename_i ht;have ht:decide (∀y:Nat,y<x→perB (col m y)=true)=true:=ht;refine J6P ?_;rw[ec];exact nxt _ (by rw[ht,Bool.true_and])
  ·rename_i ht;have ht:decide (∀y:Nat,y<x→perB (col m y)=true)=false:=(Bool.not_eq_true _).mp ht;exact nxt _ (by rw[ht];rfl)
 have hxk:x=k:=ω;subst hxk;obtain⟨k',e',o,_⟩:=hs.k;have:k'=x:=ω;subst this;have hk9:k'<159:=ω;have tl:=o.mon.tl;have R:=J8C (acc d) k';have L:=J9i (acc d) k';have one:∀y:Nat,y<s.Table.length→mu s.Table 0 y=y∧mu s.Table y 0=y:=fun y hy=>o.mon.one_l hk9 R L ω;have Mo:=El.mon hT one
 have HH:∀i j:Nat,(hi:i<s.Table.length)→(hj:j<s.Table.length)→(ix g.H (i:Int)=ix g.H (j:Int)↔HrM (El.m hT) (⟨i,hi⟩:El s.Table) ⟨j,hj⟩):=fun i j hi hj=>by
  rw[G.H.ker i j hi hj,El.H hT one];rfl
 have perm:(∀y:Nat,y<k'→perB (col m y)=true)↔∀i j:Nat,i<g.H.length→j<g.H.length→ix g.H (i:Int)=ix g.H (j:Int):=by
  have p1:(∀y:Nat,y<k'→perB (col m y)=true)↔∀y,y<k'→InjW (acc d) k' [lt y]:=by
   have vc:∀y:Nat,y<k'→VF (col m y)=true:=fun y hy=>by
    have:=(J0w.1 (JaZ hM ω)).2.2 y ω;rw[J6t ω] at this;exact this.1
   exact⟨fun h y hy=>(Jda hk9 c hy).1 ((Jcz (vc y hy)).1 (h y hy)),fun h y hy=>(Jcz (vc y hy)).2 ((Jda hk9 c hy).2 (h y hy))⟩
  rw[p1,JdO hk9 o c];have p2:=Mo.one_H;constructor
  ·intro h i j hi hj;refine(HH i j ω ω).2 (p2.2 (fun x=>?_) _ _);obtain⟨j,hj,e1,e2⟩:=h x.1 (by have:=x.2;omega);exact⟨⟨j,ω⟩,El.ext (by rw[El.m_eq];exact e1),El.ext (by rw[El.m_eq];exact e2)⟩
  ·intro h i hi;obtain⟨y,e1,e2⟩:=p2.1 (fun a b=>(HH a.1 b.1 a.2 b.2).1 (h _ _ (by have:=a.2;omega) (by have:=b.2;omega))) ⟨i,ω⟩;refine⟨y.1,by have:=y.2;omega,?_,?_⟩
   ·have:=congrArg (fun z:El s.Table=>(z.1:Int)) e1;rw[El.m_eq] at this;exact this
   ·have:=congrArg (fun z:El s.Table=>(z.1:Int)) e2;rw[El.m_eq] at this;exact this
 have aper:(∀x:Nat,x<s.Table.length→apS s.Table x)↔∀i j:Nat,i<g.H.length→j<g.H.length→ix g.H (i:Int)=ix g.H (j:Int)→i=j:=by
  constructor
  ·intro h i j hi hj e;have:=Mo.Jfj (fun x=>(El.ap hT one x).1 (h x.1 x.2)) ((HH i j ω ω).1 e);exact congrArg Subtype.val this
  ·intro h x hx;refine(El.ap hT one ⟨x,hx⟩).2 (Mo.Jfn (g:=fun y=>(y.1:Int)) (n:=s.Table.length) (fun a b e=>El.ext e) (fun a=>⟨ω,by have:=a.2;omega⟩) (fun a b e=>?_) _);have:=h a.1 b.1 (by have:=a.2;omega) (by have:=b.2;omega) ((HH a.1 b.1 a.2 b.2).2 e);exact Subtype.ext this
 refine J1I G.H.can ω fun cn hcn=>?_;have c1:=Jf9 hcn ω;have c2:=Jf5 hcn
 have rest:∀{K:Bool→Prop},K true→J0r s fun r49=>(J0d g.H fun r51=>(if r51=(s.Table.length:Int) then (if r49=true then (J13  fun r54=>(K r54)) else (K false)) else (if r49=true then (K false) else (J13  fun r56=>(K r56))))):=fun {K} hK=>by
  refine J6L v hT (fun ha=>?_) fun ha=>?_
  ·refine J1I G.H.can ω fun cn' hcn'=>?_;have:=hcn.uniq hcn';subst this;rw[if_pos (by rw[c2.2 (aper.1 ha)];omega),if_pos rfl];exact J2L hK
  ·refine J1I G.H.can ω fun cn' hcn'=>?_;have:=hcn.uniq hcn';subst this;rw[if_neg (fun e=>ha (aper.2 (c2.1 ω))),if_neg (by decide)];exact J2L hK
 split
 ·rename_i e;have e2:decide (∀y:Nat,y<k'→perB (col m y)=true)=true:=decide_eq_true (perm.2 (c1.1 e));rw[if_pos e2];exact rest rfl
 ·rename_i e;have e2:¬decide (∀y:Nat,y<k'→perB (col m y)=true)=true:=fun h=>e (c1.2 (perm.1 (of_decide_eq_true h)));rw[if_neg e2];exact rest rfl
end Sg
namespace Sg
open Go
end Sg
namespace Sg
open Go
section
variable {t u:List (List Int)} {f F D:List Int}
end
end Sg
namespace Sg
open Go
section
variable {d:DFA} {r:run} {s:Syntactic} {gens G:List (List Int)} {φ:Str→Bool} {c:List Int} {set:List Bool} {L:List Int} {q:List (List Int)} {cnt:Nat}
end
end Sg
namespace Sg
open Go
section
variable {t:List (List Int)} {c:List Int} {cnt:Nat}
end
end Sg
namespace Sg
open Go
section
variable {k:Nat} {d t:DFA}
end
end Sg
