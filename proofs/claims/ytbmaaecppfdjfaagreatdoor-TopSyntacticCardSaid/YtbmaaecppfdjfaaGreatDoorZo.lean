/- -/
import Derived.Test.YtbmaaecppfdjfaaGreatDoorRef
import Derived.Test.YtbmaaecppfdjfaaGreatDoorPA
set_option linter.unusedVariables false
set_option linter.unusedSimpArgs false
namespace Sg
open Go
theorem J8o {a b:List Int} {K:Bool→Prop} (h:K (decide (a=b))):J92 a b K:=by
 unfold J92;intro ha hb
 split
 ·rename_i hl;have hl':a.length=b.length:=ω;refine LoopWP.to a.length (fun k:Nat=>k) (fun k=>k≤a.length∧∀j:Nat,j<k→ix a j=ix b j) ⟨ω,fun j hj=>by omega⟩ (fun s h=>h.1) ?_;rintro k X ⟨hk,hI⟩ hX
  show J6o a b K X k
  unfold J6o
  split
  ·refine⟨ω,ω,ω,ω,?_⟩
   split
   ·rename_i he;refine hX (k+1) ⟨ω,fun j hj=>?_⟩ rfl;by_cases hjk:j=k
    ·subst hjk;exact he
    ·exact hI j ω
   ·rename_i hne;have:a≠b:=fun h=>hne (by rw[h]);simpa [this] using h
  ·have:a=b:=J09 hl' fun j hj=>hI j ω;simpa [this] using h
 ·rename_i hl;have:a≠b:=fun h=>hl (by rw[h]);simpa [this] using h
theorem J8R {a b:List (List Int)} {K:Bool→Prop} (h:K (decide (a=b))):J7N a b K:=by
 unfold J7N;intro ha hb
 split
 ·rename_i hl;have hl':a.length=b.length:=ω;refine LoopWP.to a.length (fun k:Nat=>k) (fun k=>k≤a.length∧∀j:Nat,j<k→ix a j=ix b j) ⟨ω,fun j hj=>by omega⟩ (fun s h=>h.1) ?_;rintro k X ⟨hk,hI⟩ hX
  show J3A a b K X k
  unfold J3A
  split
  ·refine⟨ω,ω,ω,ω,J8o ?_⟩;by_cases he:ix a (k:Int)=ix b (k:Int)
   ·rw[if_pos (by simpa using he)];refine hX (k+1) ⟨ω,fun j hj=>?_⟩ rfl;by_cases hjk:j=k
    ·subst hjk;exact he
    ·exact hI j ω
   ·rw[if_neg (by simpa using he)];have:a≠b:=fun h=>he (by rw[h]);simpa [this] using h
  ·have:a=b:=J09 hl' fun j hj=>hI j ω;simpa [this] using h
 ·rename_i hl;have:a≠b:=fun h=>hl (by rw[h]);simpa [this] using h
end Sg
namespace Sg
open Go
theorem J94 {n:Int} {K:List Int→Prop} (h0:0≤n) (h1:n≤1099511627776) (h:K (iota n.toNat)):J7K n K:=by
 unfold J7K;refine⟨h0,h1,?_⟩;refine LoopWP.to n.toNat (fun s:Nat×List Int=>s.1) (fun s=>s.1≤n.toNat∧s.2.length=n.toNat∧∀j:Nat,j<s.1→ix s.2 j=j) ⟨by simp,by simp,fun j hj=>by simp at hj⟩ (fun s h=>h.1) ?_;rintro⟨k,p⟩ X ⟨hk,hl,hI⟩ hX;simp only at hk hl hI
 show J3C n K _ k p
 unfold J3C;simp only[List.length_replicate]
 split
 ·refine⟨ω,ω,⟨ω,ω⟩,hX (k+1,_) ⟨by simp only;omega,by simpa using hl,fun j hj=>?_⟩ rfl⟩;simp only at hj ⊢;rw[ix_st _ ω ω ω]
  split
  ·omega
  ·exact hI j ω
 ·have:p=iota n.toNat:=J09 (by simpa using hl) fun j hj=>by rw[hI j ω,J89 ω]
  rw[←this] at h;exact h
end Sg
namespace Sg
open Go
theorem J8P {n:Int} {K:List Int→Prop} (h:K (if 1≤n∧n≤32 then iota n.toNat else [])):J2f n K:=by
 unfold J2f
 split
 ·rw[if_neg ω] at h;exact h
 ·split
  ·rw[if_neg ω] at h;exact h
  ·rw[if_pos ω] at h;have:=J94 (n:=n) ω ω h;exact this
def VF (f:List Int):Bool:=decide (1≤f.length) && decide (f.length≤32) && f.all fun x=>decide (0≤x) && decide (x<f.length)
theorem J2j {f:List Int}:VF f=true↔1≤f.length∧f.length≤32∧∀j:Nat,j<f.length→0≤ix f j∧ix f j<f.length:=by
 have:(∀x∈f,0≤x∧x<(f.length:Int))↔∀j:Nat,j<f.length→0≤ix f j∧ix f j<f.length:=J0N (p:=fun x=>0≤x∧x<(f.length:Int));simp only[VF,Bool.and_eq_true,decide_eq_true_eq,List.all_eq_true,←this,and_assoc]
theorem VF.at_ {f:List Int} (h:VF f=true) {i:Int} (h0:0≤i) (h1:i<f.length):0≤ix f i∧ix f i<f.length:=by
 obtain⟨j,rfl⟩:=Int.eq_ofNat_of_zero_le h0;exact(J2j.1 h).2.2 j ω
theorem VF.len {f:List Int} (h:VF f=true):1≤f.length∧f.length≤32:=⟨(J2j.1 h).1,(J2j.1 h).2.1⟩
theorem J9A {f:List Int} (h:¬(1≤f.length∧f.length≤32∧∀j:Nat,j<f.length→0≤ix f j∧ix f j<f.length)):VF f=false:=by
 rw[Bool.eq_false_iff,ne_eq,J2j];exact h
theorem Jaf {f:List Int} {K:Bool→Prop} (h:K (VF f)):Ja1 f K:=by
 unfold Ja1;intro hm
 split
 ·rw[J9A ω] at h;exact h
 ·split
  ·rw[J9A ω] at h;exact h
  ·refine LoopWP.to f.length (fun k:Nat=>k) (fun k=>k≤f.length∧∀j:Nat,j<k→0≤ix f j∧ix f j<f.length) ⟨ω,fun j hj=>by omega⟩ (fun s h=>h.1) ?_;rintro k X ⟨hk,hI⟩ hX
   show J5J f K X k
   unfold J5J
   split
   ·refine⟨ω,ω,?_⟩
    split
    ·rw[J9A (fun hv=>by have:=hv.2.2 k ω;omega)] at h;exact h
    ·split
     ·rw[J9A (fun hv=>by have:=hv.2.2 k ω;omega)] at h;exact h
     ·refine hX (k+1) ⟨ω,fun j hj=>?_⟩ rfl;by_cases hjk:j=k
      ·subst hjk;omega
      ·exact hI j ω
   ·rw[J2j.2 ⟨ω,ω,fun j hj=>hI j ω⟩] at h;exact h
theorem J1A {f:List Int} {K:Bool→Prop} (h:K (VF f)):J19 f K:=Jaf h
def compF (f g:List Int):List Int:=f.map fun x=>ix g x
@[simp] theorem J5C (f g:List Int):(compF f g).length=f.length:=by simp[compF]
theorem J3Q {f g:List Int} {i:Int} (h0:0≤i) (h1:i<f.length):ix (compF f g) i=ix g (ix f i):=J2M _ h0 h1
theorem J9u {f g:List Int} {K:List Int→Prop} (hl:f.length≤1099511627776) (hg:∀j:Nat,j<f.length→0≤ix f j∧ix f j<g.length) (h:K (compF f g)):J8t f g K:=by
 unfold J8t;intro hm;refine⟨ω,ω,?_⟩;refine LoopWP.to f.length (fun s:Nat×List Int=>s.1) (fun s=>s.1≤f.length∧s.2.length=f.length∧∀j:Nat,j<s.1→ix s.2 j=ix g (ix f j)) ⟨by simp,by simp,fun j hj=>by simp at hj⟩ (fun s h=>h.1) ?_;rintro⟨k,p⟩ X ⟨hk,hpl,hI⟩ hX;simp only at hk hpl hI
 show J4i f g K _ k p
 unfold J4i
 split
 ·have:=hg k ω;refine⟨ω,ω,ω,ω,ω,ω,hX (k+1,_) ⟨by simp only;omega,by simpa using hpl,fun j hj=>?_⟩ rfl⟩;simp only at hj ⊢;rw[ix_st _ ω ω ω]
  split
  ·rename_i he;rw[he]
  ·exact hI j ω
 ·have:p=compF f g:=J09 (by simpa using hpl) fun j hj=>by rw[hI j ω,J3Q ω ω]
  rw[←this] at h;exact h
def pairB (f g:List Int):Bool:=VF f && VF g && decide (f.length=g.length)
def compT (f g:List Int):List Int:=if pairB f g=true then compF f g else []
theorem J79 {f g:List Int}:pairB f g=true↔VF f=true∧VF g=true∧f.length=g.length:=by simp[pairB,and_assoc]
theorem J9l {f g:List Int} {K:List Int→Prop} (h:K (compT f g)):J3f f g K:=by
 unfold J3f;intro hm hm'
 split
 ·rename_i hl;refine J1A ?_
  split
  ·rename_i hf;refine J1A ?_
   split
   ·rename_i hg;have hp:pairB f g=true:=J79.2 ⟨hf,hg,ω⟩;rw[compT,if_pos hp] at h;have:=J9u (f:=f) (g:=g) (K:=K) (by have:=hf |> VF.len;omega) (fun j hj=>by have:=(J2j.1 hf).2.2 j hj;omega) h;exact this hm
   ·rename_i hg;rw[compT,if_neg (by rw[J79];exact fun h=>hg h.2.1)] at h;exact h
  ·rename_i hf;rw[compT,if_neg (by rw[J79];exact fun h=>hf h.1)] at h;exact h
 ·rename_i hl;rw[compT,if_neg (by rw[J79];exact fun h=>hl (by rw[h.2.2]))] at h;exact h
end Sg
namespace Sg
open Go
theorem Jeo {f g:List Int} (hf:VF f=true) (hg:VF g=true) (hl:f.length=g.length):VF (compF f g)=true:=by
 rw[J2j];have:=VF.len hf;refine⟨by simp;omega,by simp;omega,fun j hj=>?_⟩;simp only[J5C] at hj ⊢;have h1:=(J2j.1 hf).2.2 j hj;rw[J3Q ω ω];have h2:=VF.at_ hg h1.1 ω;omega
def itr (f:List Int):Nat→Int→Int
 | 0,x=>x
 | k+1,x=>itr f k (ix f x)
def pw (f:List Int) (k:Nat):List Int:=(iota f.length).map (itr f k)
@[simp] theorem Jdx (f:List Int) (k:Nat):(pw f k).length=f.length:=by simp[pw]
end Sg
namespace Sg
open Go
end Sg
namespace Sg
open Go
def GV (gens:List (List Int)):Bool:=decide (1≤gens.length) && decide (gens.length≤6) && gens.all fun f=>VF f && decide (f.length=(ix gens 0).length)
theorem J0w {gens:List (List Int)}:GV gens=true↔1≤gens.length∧gens.length≤6∧∀j:Nat,j<gens.length→VF (ix gens j)=true∧(ix gens j).length=(ix gens 0).length:=by
 have:(∀x∈gens,VF x=true∧x.length=(ix gens 0).length)↔∀j:Nat,j<gens.length→VF (ix gens j)=true∧(ix gens j).length=(ix gens 0).length:=J0N (p:=fun x:List Int=>VF x=true∧x.length=(ix gens 0).length);simp only[GV,Bool.and_eq_true,decide_eq_true_eq,List.all_eq_true,←this,and_assoc]
theorem Jeb {gens:List (List Int)} (h:¬(1≤gens.length∧gens.length≤6∧∀j:Nat,j<gens.length→VF (ix gens j)=true∧(ix gens j).length=(ix gens 0).length)):GV gens=false:=by
 rw[Bool.eq_false_iff,ne_eq,J0w];exact h
def stepW (gens:List (List Int)) (f:List Int) (b:UInt8):List Int:=compF f (ix gens ((b.toNat:Int)-97))
def runW (gens:List (List Int)) (f:List Int) (w:Str):List Int:=w.foldl (stepW gens) f
theorem JdE {n:Nat} (h1:1≤n) (h2:n≤32):VF (iota n)=true:=by
 rw[J2j];refine⟨by simpa using h1,by simpa using h2,fun j hj=>?_⟩;rw[J18] at hj;rw[J89 hj,J18];omega
def ofWord (gens:List (List Int)) (w:Str):List Int:=runW gens (iota (ix gens 0).length) w
theorem GV.len0 {gens:List (List Int)} (hg:GV gens=true):1≤(ix gens 0).length∧(ix gens 0).length≤32:=by
 have h:=(J0w.1 hg);exact VF.len (h.2.2 0 ω).1
theorem J9M {a b c:List Int} (ha:∀j:Nat,j<a.length→0≤ix a j∧ix a j<b.length):compF (compF a b) c=compF a (compF b c):=J09 (by simp) fun j hj=>by
 simp only[J5C] at hj
 have:=ha j hj
 rw[J3Q ω (by simp;omega),J3Q ω ω,J3Q ω ω,J3Q ω ω]
theorem JcP (g:List Int) {n:Nat} (hg:∀j:Nat,j<g.length→0≤ix g j∧ix g j<n):compF g (iota n)=g:=J09 (by simp) fun j hj=>by
 simp only[J5C] at hj
 have:=hg j hj
 rw[J3Q ω ω,ix_iota' this.1 this.2]
end Sg
namespace Sg
open Go
theorem u8_lt {a b:UInt8}:a<b↔a.toNat<b.toNat:=UInt8.lt_iff_toNat_lt
theorem u8_eq {a b:UInt8} (h:a.toNat=b.toNat):a=b:=UInt8.toNat_inj.1 h
theorem J2l {a b:UInt8} {x y:Str}:slt (a::x) (b::y)=true↔a.toNat<b.toNat∨(a=b∧slt x y=true):=by
 simp[slt,u8_lt]
theorem J8X:∀w:Str,slt w w=false
  | []=>rfl
  | a :: w => by
    rw[Bool.eq_false_iff,ne_eq,J2l,J8X w]
    simp
theorem Ja3:∀{u v w:Str},slt u v=true→slt v w=true→slt u w=true
  | _,[],_,h,_=>by simp[slt] at h
  | _,_::_,[],_,h=>by simp[slt] at h
  | [],_::_,_::_,_,_=>rfl
  | a :: u, b :: v, c :: w, h, k => by
    rw[J2l] at *
    rcases h with h | ⟨rfl,h⟩
    · rcases k with k | ⟨rfl,k⟩
      · exact .inl ω
      · exact .inl h
    · rcases k with k | ⟨rfl,k⟩
      · exact .inl k
      · exact .inr ⟨rfl,Ja3 h k⟩
theorem J9T:∀{u v:Str},u.length=v.length→slt u v=true∨u=v∨slt v u=true
  | [],[],_=>.inr (.inl rfl)
  | a :: u, b :: v, h => by
    simp only[List.length_cons,Nat.add_right_cancel_iff] at h
    rw[J2l,J2l]
    by_cases hab:a.toNat=b.toNat
    · have hab:=u8_eq hab
      subst hab
      rcases J9T h with k | rfl | k
      · exact .inl (.inr ⟨rfl,k⟩)
      · exact .inr (.inl rfl)
      · exact .inr (.inr (.inr ⟨rfl,k⟩))
    · by_cases hl:a.toNat<b.toNat
      · exact .inl (.inl hl)
      · exact .inr (.inr (.inl ω))
theorem J6Y {p q u v:Str} (hl:p.length=q.length) (h:slt p q=true):slt (p++u) (q++v)=true:=by
  induction p generalizing q with
  | nil => cases q with
    | nil=>simp[slt] at h
    | cons b q=>simp at hl
  | cons a p ih => cases q with
    | nil=>simp at hl
    | cons b q =>
      simp only[List.length_cons,Nat.add_right_cancel_iff] at hl;rw[List.cons_append,List.cons_append,J2l];rw[J2l] at h
      rcases h with h | ⟨h1,h2⟩
      · exact .inl h
      · exact .inr ⟨h1,ih hl h2⟩
theorem Jbw (p:Str) {u v:Str}:slt (p++u) (p++v)=slt u v:=by
  induction p with
  | nil=>rfl
  | cons a p ih =>
    rw[Bool.eq_iff_iff,List.cons_append,List.cons_append,J2l,ih];simp
def SL (u v:Str):Prop:=u.length<v.length∨(u.length=v.length∧slt u v=true)
theorem SL.irrefl (w:Str):¬SL w w:=fun h=>by
 rcases h with h | ⟨_,h⟩
 ·omega
 ·rw[J8X] at h;cases h
theorem SL.trans {u v w:Str} (h:SL u v) (k:SL v w):SL u w:=by
 rcases h with h | ⟨h,h2⟩<;>rcases k with k | ⟨k,k2⟩
 ·exact .inl ω
 ·exact .inl ω
 ·exact .inl ω
 ·exact .inr ⟨ω,Ja3 h2 k2⟩
theorem SL.total (u v:Str):SL u v∨u=v∨SL v u:=by
 by_cases h:u.length=v.length
 ·rcases J9T h with k | k | k
  ·exact .inl (.inr ⟨h,k⟩)
  ·exact .inr (.inl k)
  ·exact .inr (.inr (.inr ⟨h.symm,k⟩))
 ·by_cases h2:u.length<v.length
  ·exact .inl (.inl h2)
  ·exact .inr (.inr (.inl ω))
theorem SL.asymm {u v:Str} (h:SL u v):¬SL v u:=fun k=>SL.irrefl u (h.trans k)
theorem SL.Jbr {u v:Str} (h:SL u v) (w:Str):SL (u++w) (v++w):=by
 rcases h with h | ⟨h,k⟩
 ·exact .inl (by simp;omega)
 ·exact .inr ⟨by simp[h],J6Y h k⟩
theorem SL.Jel {u v:Str} (h:SL u v) (w:Str):SL (w++u) (w++v):=by
 rcases h with h | ⟨h,k⟩
 ·exact .inl (by simp;omega)
 ·exact .inr ⟨by simp[h],by rw[Jbw];exact k⟩
theorem SL.snoc {u v:Str} {a b:UInt8} (h:SL (u++[a]) (v++[b])):SL u v∨(u=v∧a.toNat<b.toNat):=by
 rcases h with h | ⟨h,k⟩
 ·simp only[List.length_append,List.length_singleton] at h;exact .inl (.inl ω)
 ·simp only[List.length_append,List.length_singleton] at h;have hl:u.length=v.length:=ω
  rcases J9T hl with e | e | e
  ·exact .inl (.inr ⟨hl,e⟩)
  ·subst e;rw[Jbw,J2l] at k
   rcases k with k | ⟨_,k⟩
   ·exact .inr ⟨rfl,k⟩
   ·simp[slt] at k
  ·have:=J6Y (u:=[b]) (v:=[a]) hl.symm e;have:=Ja3 k this;rw[J8X] at this;cases this
theorem SL.J1C {u:Str} {a b:UInt8} (h:a.toNat<b.toNat):SL (u++[a]) (u++[b]):=.inr ⟨by simp,by rw[Jbw,J2l];exact .inl h⟩
theorem SL.nil {w:Str} (h:w≠[]):SL [] w:=.inl (by cases w with
 | nil=>exact absurd rfl h
 | cons a w=>simp)
theorem J93 (w:Str):¬SL w []:=fun h=>by
 rcases h with h | ⟨h,k⟩
 ·simp at h
 ·cases w with
  | nil=>simp[slt] at k
  | cons a w=>simp at h
theorem SL.wf:WellFounded SL:=by
  have key : ∀ n (w : Str), w.length = n → Acc SL w := by
    intro n
    induction n using Nat.strongRecOn with
    | _ n ih =>
      have num:∀m (w:Str),w.length=n→w.foldl (fun a b=>a*256+b.toNat) 0=m→Acc SL w:=by
        intro m
        induction m using Nat.strongRecOn with
        | _ m ih2 =>
          intro w hw hm;refine⟨w,fun v hv=>?_⟩
          rcases hv with hv | ⟨hv,hs⟩
          · exact ih v.length ω v rfl
          · refine ih2 _ ?_ v ω rfl;rw[←hm]
            have lt : ∀ (u v : Str) (a b : Nat), u.length = v.length → (a < b ∨ (a = b ∧ slt u v = true)) → u.foldl (fun a b => a * 256 + b.toNat) a < v.foldl (fun a b => a * 256 + b.toNat) b := by
              intro u
              induction u with
              | nil =>
                intro v a b hl h
                cases v with
                | nil => rcases h with h | ⟨_, h⟩
                         · exact h
                         · simp[slt] at h
                | cons c v=>simp at hl
              | cons c u ih3 =>
                intro v a b hl h
                cases v with
                | nil=>simp at hl
                | cons d v =>
                  simp only[List.foldl_cons];refine ih3 v _ _ (by simpa using hl) ?_;have hc:=c.toNat_lt;have hd:=d.toNat_lt
                  rcases h with h | ⟨rfl,h⟩
                  · exact .inl ω
                  · rcases J2l.1 h with h' | ⟨h1,h'⟩
                    · exact .inl ω
                    · exact .inr ⟨by rw[h1],h'⟩
            exact lt v w 0 0 ω (.inr ⟨rfl,hs⟩)
      intro w hw;exact num _ w hw rfl
  exact⟨fun w=>key _ w rfl⟩
end Sg
namespace Sg
open Go
def lt (x:Nat):UInt8:=UInt8.ofNat (97+x)
theorem J0j {x:Nat} (h:x<159):(lt x).toNat=97+x:=by
 simp only[lt,UInt8.toNat_ofNat'];omega
theorem lt_lt {x y:Nat} (h:x<y) (hy:y<159):(lt x).toNat<(lt y).toNat:=by rw[J0j hy,J0j ω];omega
def LW (k:Nat) (w:Str):Prop:=∀b∈w,97≤b.toNat∧b.toNat<97+k
theorem LW.nil (k:Nat):LW k []:=fun _ h=>nomatch h
theorem LW.app {k:Nat} {u v:Str}:LW k (u++v)↔LW k u∧LW k v:=by
 simp only[LW,List.mem_append];exact⟨fun h=>⟨fun b hb=>h b (.inl hb),fun b hb=>h b (.inr hb)⟩,fun h b hb=>hb.elim (h.1 b) (h.2 b)⟩
theorem LW.one {k:Nat} {b:UInt8}:LW k [b]↔97≤b.toNat∧b.toNat<97+k:=by simp[LW]
theorem LW.lt {k x:Nat} (h:x<k) (hk:k<159):LW k [lt x]:=LW.one.2 (by rw[J0j ω];omega)
theorem LW.letter {k:Nat} (hk:k<159) {b:UInt8} (h:LW k [b]):∃x,x<k∧b=Sg.lt x:=by
 have:=LW.one.1 h;exact⟨b.toNat-97,ω,u8_eq (by rw[J0j ω];omega)⟩
theorem snocEx {w:Str} (h:w≠[]):∃p b,w=p++[b]:=⟨w.dropLast,w.getLast h,(List.dropLast_concat_getLast h).symm⟩
theorem snocRec {motive:Str→Prop} (nil:motive []) (snoc:∀w b,motive w→motive (w++[b])) (w:Str):motive w:=by
  have key:∀n (w:Str),w.length=n→motive w:=by
    intro n
    induction n with
    | zero=>intro w h;rw[List.eq_nil_of_length_eq_zero h];exact nil
    | succ n ih =>
      intro w h;obtain⟨p,b,rfl⟩:=snocEx (w:=w) (by rintro rfl;simp at h);exact snoc p b (ih p (by simpa using h))
  exact key _ w rfl
section
variable {gens:List (List Int)}
abbrev vl (gens:List (List Int)) (w:Str):List Int:=ofWord gens w
theorem Jbb (gens:List (List Int)):vl gens []=iota (ix gens 0).length:=rfl
theorem J6x (w:Str) (b:UInt8):vl gens (w++[b])=compF (vl gens w) (ix gens ((b.toNat:Int)-97)):=by
 simp[vl,ofWord,runW,stepW]
theorem GV.at_ (hg:GV gens=true) {b:UInt8} (hb:LW gens.length [b]):VF (ix gens ((b.toNat:Int)-97))=true∧(ix gens ((b.toNat:Int)-97)).length=(ix gens 0).length:=by
 have h:=LW.one.1 hb;have:=(J0w.1 hg).2.2 (b.toNat-97) ω
 rwa [show ((b.toNat:Int)-97)=((b.toNat-97:Nat):Int) by omega]
theorem vl_ok (hg:GV gens=true):∀{w:Str},LW gens.length w→VF (vl gens w)=true∧(vl gens w).length=(ix gens 0).length:=by
  intro w
  induction w using snocRec with
  | nil =>
    intro _;have:=GV.len0 hg;exact⟨JdE this.1 this.2,by simp[Jbb]⟩
  | snoc w b ih =>
    intro h;obtain⟨h1,h2⟩:=LW.app.1 h;obtain⟨k1,k2⟩:=ih h1;obtain⟨g1,g2⟩:=GV.at_ hg h2;rw[J6x];exact⟨Jeo k1 g1 ω,by simpa using k2⟩
theorem J8q (hg:GV gens=true) {u v:Str} (hu:LW gens.length u) (hv:LW gens.length v):vl gens (u++v)=compF (vl gens u) (vl gens v):=by
  obtain⟨u1,u2⟩:=vl_ok hg hu
  induction v using snocRec with
  | nil =>
    rw[List.append_nil,Jbb,JcP];intro j hj;have:=(J2j.1 u1).2.2 j hj;omega
  | snoc v b ih =>
    obtain⟨h1,h2⟩:=LW.app.1 hv;obtain⟨v1,v2⟩:=vl_ok hg h1;rw[←List.append_assoc,J6x,J6x,ih h1,J9M];intro j hj;have:=(J2j.1 u1).2.2 j hj;omega
def Wd (gens:List (List Int)) (mon:Bool) (w:Str):Prop:=LW gens.length w∧(mon=true∨w≠[])
def Red (gens:List (List Int)) (mon:Bool) (w:Str):Prop:=Wd gens mon w∧∀v,Wd gens mon v→vl gens v=vl gens w→¬SL v w
variable {mon:Bool}
theorem Red.pre (hg:GV gens=true) {u v:Str} (h:Red gens mon (u++v)) (hu:mon=true∨u≠[]):Red gens mon u:=by
 obtain⟨l1,l2⟩:=LW.app.1 h.1.1;refine⟨⟨l1,hu⟩,fun u' h1 h2 h3=>h.2 (u'++v) ⟨LW.app.2 ⟨h1.1,l2⟩,h1.2.imp id fun hn=>by simp[hn]⟩ ?_ (h3.Jbr v)⟩;rw[J8q hg h1.1 l2,J8q hg l1 l2,h2]
theorem Red.post (hg:GV gens=true) {u v:Str} (h:Red gens mon (u++v)) (hv:mon=true∨v≠[]):Red gens mon v:=by
 obtain⟨l1,l2⟩:=LW.app.1 h.1.1;refine⟨⟨l2,hv⟩,fun v' h1 h2 h3=>h.2 (u++v') ⟨LW.app.2 ⟨l1,h1.1⟩,h1.2.imp id fun hn=>by simp[hn]⟩ ?_ (h3.Jel u)⟩;rw[J8q hg l1 h1.1,J8q hg l1 l2,h2]
theorem Red.uniq {u v:Str} (hu:Red gens mon u) (hv:Red gens mon v) (h:vl gens u=vl gens v):u=v:=by
 rcases SL.total u v with k | k | k
 ·exact absurd k (hv.2 u hu.1 h)
 ·exact k
 ·exact absurd k (hu.2 v hv.1 h.symm)
theorem J7s {w:Str}:Wd gens mon w→∃r,Red gens mon r∧vl gens r=vl gens w∧(r=w∨SL r w):=by
  induction w using SL.wf.induction with
  | _ w ih =>
    intro hw;by_cases h:Red gens mon w
    · exact⟨w,h,rfl,.inl rfl⟩
    · have:∃v,Wd gens mon v∧vl gens v=vl gens w∧SL v w:=by
        apply Classical.byContradiction;intro hn;exact h ⟨hw,fun v h1 h2 h3=>hn ⟨v,h1,h2,h3⟩⟩
      obtain⟨v,h1,h2,h3⟩:=this;obtain⟨r,k1,k2,k3⟩:=ih v h3 h1;refine⟨r,k1,k2.trans h2,.inr ?_⟩
      rcases k3 with rfl | k3
      · exact h3
      · exact k3.trans h3
structure RL (gens:List (List Int)) (mon:Bool) (W:List Str) (F:Str→Prop):Prop where
 asc:W.Pairwise SL
 mem:∀w,w∈W↔Red gens mon w∧F w
theorem between {u v:Str} {x:Nat} (hx:x+1<159) (hu:u≠[]∨v≠[]) (h1:SL v (u++[lt (x+1)])) (h2:¬SL v (u++[lt x])):v=u++[lt x]:=by
 have hv:v≠[]:=by
  rintro rfl;exact h2 (SL.nil (by simp))
 obtain⟨p,b,rfl⟩:=snocEx hv
 rcases SL.snoc h1 with k | ⟨rfl,k⟩
 ·refine absurd ?_ h2
  rcases k with k | ⟨k,k2⟩
  ·exact .inl (by simp;omega)
  ·exact .inr ⟨by simp[k],J6Y k k2⟩
 ·rw[J0j hx] at k;by_cases hb:b.toNat<97+x
  ·exact absurd (SL.J1C (by rw[J0j ω];exact hb)) h2
  ·have:b=lt x:=u8_eq (by rw[J0j ω];omega);rw[this]
variable {W:List Str} {u:Str} {x:Nat}
theorem RL.known (h:RL gens mon W (fun w=>SL w (u++[lt x]))) (hx:x+1<159) {w:Str} (hw:w∈W) (he:vl gens w=vl gens (u++[lt x])) :
  ¬Red gens mon (u++[lt x])∧RL gens mon W (fun w=>SL w (u++[lt (x+1)])):=by
 have hk:=(h.mem w).1 hw;have hn:¬Red gens mon (u++[lt x]):=fun hr=>hr.2 w hk.1.1 he hk.2;refine⟨hn,h.asc,fun v=>⟨fun hv=>?_,fun hv=>?_⟩⟩
 ·obtain⟨k1,k2⟩:=(h.mem v).1 hv;exact⟨k1,k2.trans (SL.J1C (lt_lt ω ω))⟩
 ·refine(h.mem v).2 ⟨hv.1,?_⟩;apply Classical.byContradiction;intro h2;by_cases h0:u≠[]∨v≠[]
  ·have:=between hx h0 hv.2 h2;rw[this] at hv;exact hn hv.1
  ·simp only[not_or,ne_eq,Classical.not_not] at h0;exact h2 (by rw[h0.2];exact SL.nil (by simp))
theorem RL.new (h:RL gens mon W (fun w=>SL w (u++[lt x]))) (hx:x+1<159) (hw:Wd gens mon (u++[lt x])) (hn:∀w∈W,vl gens w≠vl gens (u++[lt x])) :
  Red gens mon (u++[lt x])∧RL gens mon (W++[u++[lt x]]) (fun w=>SL w (u++[lt (x+1)])):=by
 have hr:Red gens mon (u++[lt x]):=by
  refine⟨hw,fun v h1 h2 h3=>?_⟩;obtain⟨r,k1,k2,k3⟩:=J7s h1;refine hn r ((h.mem r).2 ⟨k1,?_⟩) (k2.trans h2)
  rcases k3 with rfl | k3
  ·exact h3
  ·exact k3.trans h3
 refine⟨hr,List.pairwise_append.2 ⟨h.asc,List.pairwise_singleton _ _,fun a ha b hb=>?_⟩,fun v=>⟨fun hv=>?_,fun hv=>?_⟩⟩
 ·rw[List.mem_singleton.1 hb];exact((h.mem a).1 ha).2
 ·rcases List.mem_append.1 hv with hv | hv
  ·obtain⟨k1,k2⟩:=(h.mem v).1 hv;exact⟨k1,k2.trans (SL.J1C (lt_lt ω ω))⟩
  ·rw[List.mem_singleton.1 hv];exact⟨hr,SL.J1C (lt_lt ω ω)⟩
 ·by_cases h2:SL v (u++[lt x])
  ·exact List.mem_append.2 (.inl ((h.mem v).2 ⟨hv.1,h2⟩))
  ·refine List.mem_append.2 (.inr (List.mem_singleton.2 ?_));by_cases h0:u≠[]∨v≠[]
   ·exact between hx h0 hv.2 h2
   ·simp only[not_or,ne_eq,Classical.not_not] at h0;exact absurd (by rw[h0.2];exact SL.nil (by simp)) h2
end
end Sg
namespace Sg
open Go
section
variable {gens:List (List Int)} {mon:Bool}
structure MN (gens:List (List Int)) (mon:Bool) (c:Str):Prop where
 lw:LW gens.length c
 ne:c≠[]
 nr:¬Red gens mon c
 init:c.dropLast=[]∨Red gens mon c.dropLast
 tail:c.tail=[]∨Red gens mon c.tail
structure RU (gens:List (List Int)) (mon:Bool) (R:List Rule) (F:Str→Prop):Prop where
 asc:R.Pairwise fun a b=>SL a.Left b.Left
 mem:∀r,r∈R↔(MN gens mon r.Left∧F r.Left∧Red gens mon r.Right∧vl gens r.Right=vl gens r.Left)
variable {R:List Rule} {u:Str} {x:Nat}
theorem RU.add (h:RU gens mon R (fun w=>SL w (u++[lt x]))) (hx:x+1<159) (hm:MN gens mon (u++[lt x])) {w:Str} (hw:Red gens mon w) (he:vl gens w=vl gens (u++[lt x])) :
  RU gens mon (R++[⟨u++[lt x],w⟩]) (fun w=>SL w (u++[lt (x+1)])):=by
 refine⟨List.pairwise_append.2 ⟨h.asc,List.pairwise_singleton _ _,fun a ha b hb=>?_⟩,fun r=>⟨fun hr=>?_,fun hr=>?_⟩⟩
 ·rw[List.mem_singleton.1 hb];exact((h.mem a).1 ha).2.1
 ·rcases List.mem_append.1 hr with hr | hr
  ·obtain⟨k1,k2,k3⟩:=(h.mem r).1 hr;exact⟨k1,k2.trans (SL.J1C (lt_lt ω ω)),k3⟩
  ·rw[List.mem_singleton.1 hr];exact⟨hm,SL.J1C (lt_lt ω ω),hw,he⟩
 ·obtain⟨k1,k2,k3,k4⟩:=hr;by_cases h2:SL r.Left (u++[lt x])
  ·exact List.mem_append.2 (.inl ((h.mem r).2 ⟨k1,h2,k3,k4⟩))
  ·refine List.mem_append.2 (.inr (List.mem_singleton.2 ?_));have e:=between hx (.inr k1.ne) k2 h2;have e2:r.Right=w:=k3.uniq hw (by rw[k4,he,e])
   cases r
   simp only at e e2;rw[e,e2]
theorem RU.skip (h:RU gens mon R (fun w=>SL w (u++[lt x]))) (hx:x+1<159) (hm:¬MN gens mon (u++[lt x])):RU gens mon R (fun w=>SL w (u++[lt (x+1)])):=by
 refine⟨h.asc,fun r=>⟨fun hr=>?_,fun hr=>?_⟩⟩
 ·obtain⟨k1,k2,k3⟩:=(h.mem r).1 hr;exact⟨k1,k2.trans (SL.J1C (lt_lt ω ω)),k3⟩
 ·obtain⟨k1,k2,k3⟩:=hr;refine(h.mem r).2 ⟨k1,?_,k3⟩;apply Classical.byContradiction;intro h2;exact hm (between hx (.inr k1.ne) k2 h2▸k1)
def FF (k:Nat) (u:Str) (x:Nat) (w:Str):Prop:=SL w [lt k]∨SL w (u++[lt x])
theorem FF_ne {k:Nat} {u:Str} (hu:u≠[]) (x:Nat) (w:Str):FF k u x w↔SL w (u++[lt x]):=by
 refine⟨fun h=>h.elim (fun h=>h.trans (.inl ?_)) id,.inr⟩;have:=List.length_pos_iff.2 hu;simp;omega
theorem Jbk {k x:Nat} (hx:x≤k) (hk:k<159) (w:Str):FF k [] x w↔SL w [lt k]:=by
 refine⟨fun h=>h.elim id fun h2=>?_,.inl⟩;by_cases hxk:x=k
 ·rw[hxk] at h2;exact h2
 ·exact SL.trans h2 (SL.J1C (u:=[]) (lt_lt ω hk))
theorem FF.dn {k:Nat} {u:Str} {x:Nat} {v w:Str} (h:SL v w) (hw:FF k u x w):FF k u x v:=hw.imp h.trans h.trans
theorem RL.congr {W:List Str} {F G:Str→Prop} (h:RL gens mon W F) (e:∀w,Red gens mon w→(F w↔G w)):RL gens mon W G:=
 ⟨h.asc,fun w=>(h.mem w).trans ⟨fun k=>⟨k.1,(e w k.1).1 k.2⟩,fun k=>⟨k.1,(e w k.1).2 k.2⟩⟩⟩
theorem RU.congr {F G:Str→Prop} (h:RU gens mon R F) (e:∀w,MN gens mon w→(F w↔G w)):RU gens mon R G:=
 ⟨h.asc,fun r=>(h.mem r).trans ⟨fun k=>⟨k.1,(e _ k.1).1 k.2.1,k.2.2⟩,fun k=>⟨k.1,(e _ k.1).2 k.2.1,k.2.2⟩⟩⟩
theorem gap {k:Nat} (hk:k<159) {u p:Str} {b:UInt8} (hb:LW k [b]) (h:¬FF k u k (p++[b])):p≠[]∧SL u p:=by
 have hbk:=(LW.one.1 hb).2
 have hbl:b.toNat<(lt k).toNat:=by rw[J0j hk];omega
 have hp:p≠[]:=by
  rintro rfl;exact h (.inl (SL.J1C (u:=[]) hbl))
 refine⟨hp,?_⟩
 rcases SL.total u p with e | e | e
 ·exact e
 ·subst e;exact absurd (.inr (SL.J1C hbl)) h
 ·refine absurd (.inr ?_) h
  rcases e with e | ⟨e,e2⟩
  ·exact .inl (by simp;omega)
  ·exact .inr ⟨by simp[e],J6Y e e2⟩
theorem lastLW {k:Nat} {p:Str} {b:UInt8} (h:LW k (p++[b])):LW k [b]:=(LW.app.1 h).2
theorem J8p {W:List Str} (h:W.Pairwise SL) {i j:Nat} (hij:i<j) (hj:j<W.length):SL (ix W i) (ix W j):=by
 rw[ix_lt hj,ix_lt ω];exact List.pairwise_iff_getElem.1 h i j ω hj hij
theorem J60 {W:List Str} (h:W.Pairwise SL) {i j:Nat} (hi:i<W.length) (hj:j<W.length) (hs:SL (ix W i) (ix W j)):i<j:=by
 rcases Nat.lt_trichotomy i j with k | k | k
 ·exact k
 ·subst k;exact absurd hs (SL.irrefl _)
 ·exact absurd (J8p h k hi) hs.asymm
theorem J74 {W:List Str} (h:W.Pairwise SL) {i j:Nat} (hi:i<W.length) (hj:j<W.length) (he:ix W i=ix W j):i=j:=by
 rcases Nat.lt_trichotomy i j with k | k | k
 ·have:=J8p h k hj;rw[he] at this;exact absurd this (SL.irrefl _)
 ·exact k
 ·have:=J8p h k hi;rw[he] at this;exact absurd this (SL.irrefl _)
variable {W:List Str}
theorem noGap {d:Nat} (hk:gens.length<159) (h:RL gens mon W (FF gens.length (ix W d) gens.length)) (hd:d+1<W.length) {p:Str} {b:UInt8} (hb:LW gens.length [b]) (hp:p=[]∨Red gens mon p)
  (hF:FF gens.length (ix W ((d+1:Nat):Int)) 0 (p++[b])):FF gens.length (ix W d) gens.length (p++[b]):=by
 apply Classical.byContradiction;intro hn;obtain⟨h1,h2⟩:=gap hk hb hn;have hr:=hp.resolve_left h1;have hu':ix W ((d+1:Nat):Int)∈W:=J0f.2 ⟨d+1,hd,rfl⟩
 have h3:SL p (ix W ((d+1:Nat):Int)):=by
  rcases hF with hF | hF
  ·exact absurd (.inl hF) hn
  ·rcases SL.snoc hF with k | ⟨_,k⟩
   ·exact k
   ·rw[J0j ω] at k;have:=(LW.one.1 hb).1;omega
 have hpW:p∈W:=(h.mem p).2 ⟨hr,FF.dn h3 ((h.mem _).1 hu').2⟩;obtain⟨j,hj,rfl⟩:=J0f.1 hpW;have:=J60 h.asc ω hj h2;have:=J60 h.asc hj hd h3;omega
theorem redSplit (hg:GV gens=true) {w:Str} (h:Red gens mon w) (hw:w≠[]):∃p b,w=p++[b]∧LW gens.length [b]∧(p=[]∨Red gens mon p):=by
 obtain⟨p,b,rfl⟩:=snocEx hw;refine⟨p,b,rfl,lastLW h.1.1,?_⟩;by_cases hp:p=[]
 ·exact .inl hp
 ·exact .inr (h.pre hg (.inr hp))
theorem mnSplit {w:Str} (h:MN gens mon w):∃p b,w=p++[b]∧LW gens.length [b]∧(p=[]∨Red gens mon p):=by
 obtain⟨p,b,rfl⟩:=snocEx h.ne;refine⟨p,b,rfl,lastLW h.lw,?_⟩;have:=h.init;simpa using this
theorem FF_up {k:Nat} (hk:k<159) {u u':Str} (h:SL u u') {w:Str} (hw:FF k u k w):FF k u' 0 w:=by
 rcases hw with hw | hw
 ·exact .inl hw
 ·refine .inr (hw.trans ?_)
  rcases h with h | ⟨h,h2⟩
  ·exact .inl (by simp;omega)
  ·exact .inr ⟨by simp[h],J6Y h h2⟩
theorem RL.next (hg:GV gens=true) (hk:gens.length<159) {d:Nat} (h:RL gens mon W (FF gens.length (ix W d) gens.length)) (hd:d+1<W.length):RL gens mon W (FF gens.length (ix W ((d+1:Nat):Int)) 0):=by
 refine h.congr fun w hw=>⟨FF_up hk (J8p h.asc ω hd),fun hF=>?_⟩;by_cases h0:w=[]
 ·subst h0;exact .inl (SL.nil (by simp))
 ·obtain⟨p,b,rfl,hb,hp⟩:=redSplit hg hw h0;exact noGap hk h hd hb hp hF
theorem RU.next (hk:gens.length<159) {d:Nat} (hr:RL gens mon W (FF gens.length (ix W d) gens.length)) (h:RU gens mon R (FF gens.length (ix W d) gens.length)) (hd:d+1<W.length):RU gens mon R (FF gens.length (ix W ((d+1:Nat):Int)) 0):=by
 refine h.congr fun w hw=>⟨FF_up hk (J8p hr.asc ω hd),fun hF=>?_⟩;obtain⟨p,b,rfl,hb,hp⟩:=mnSplit hw;exact noGap hk hr hd hb hp hF
theorem RL.all (hg:GV gens=true) (hk:gens.length<159) {d:Nat} (h:RL gens mon W (FF gens.length (ix W d) gens.length)) (hd:d+1=W.length) {w:Str} (hw:Red gens mon w):w∈W:=by
  induction w using snocRec with
  | nil=>exact(h.mem _).2 ⟨hw,.inl (SL.nil (by simp))⟩
  | snoc p b ih =>
    refine(h.mem _).2 ⟨hw,?_⟩;apply Classical.byContradiction;intro hn;obtain⟨h1,h2⟩:=gap hk (lastLW hw.1.1) hn;obtain⟨j,hj,rfl⟩:=J0f.1 (ih (hw.pre hg (.inr h1)));have:=J60 h.asc ω hj h2;omega
end
end Sg
namespace Sg
open Go
def txt (f:List Int):Str:=byt (f.map fun x=>IntKind.u8.wrap x)
theorem J0l {f:List Int} {K:Str→Prop} (hl:f.length≤1099511627776) (h:K (txt f)):J0i f K:=by
 unfold J0i;intro hm;refine⟨ω,ω,?_⟩;refine LoopWP.to f.length (fun s:Nat×List Int=>s.1) (fun s=>s.1≤f.length∧s.2.length=f.length∧∀j:Nat,j<s.1→ix s.2 j=IntKind.u8.wrap (ix f j)) ⟨by simp,by simp,fun j hj=>by simp at hj⟩ (fun s h=>h.1) ?_;rintro⟨k,p⟩ X ⟨hk,hpl,hI⟩ hX;simp only at hk hpl hI
 show J3r f K _ k p
 unfold J3r
 split
 ·refine⟨ω,ω,ω,ω,hX (k+1,_) ⟨by simp only;omega,by simpa using hpl,fun j hj=>?_⟩ rfl⟩;simp only at hj ⊢;rw[ix_st _ ω ω ω]
  split
  ·rename_i he;rw[he]
  ·exact hI j ω
 ·have:p=f.map fun x=>IntKind.u8.wrap x:=J09 (by simpa using hpl) fun j hj=>by rw[hI j ω,J2M _ ω ω]
  rw[this];exact h
theorem Jaj (f:List Int):(txt f).length=f.length:=by simp[txt]
theorem Jey {f:List Int} (hf:VF f=true) {j:Nat} (hj:j<f.length):(ix (txt f) j).toNat=(ix f j).toNat:=by
 have h:=(J2j.1 hf).2.2 j hj;have hl:=VF.len hf
 have e:ix (txt f) j=UInt8.ofNat (IntKind.u8.wrap (ix f j)).toNat:=by
  rw[txt,byt,J2M _ ω (by simp;omega),J2M _ ω ω]
 rw[e,IntKind.wrap_u8];simp only[UInt8.toNat_ofNat'];omega
theorem JdI {f g:List Int} (hf:VF f=true) (hg:VF g=true) (h:txt f=txt g):f=g:=by
 have hl:f.length=g.length:=by rw[←Jaj f,←Jaj g,h]
 refine J09 hl fun j hj=>?_;have h1:=Jey hf hj;have h2:=Jey hg (show j<g.length by omega);have k1:=(J2j.1 hf).2.2 j hj;have k2:=(J2j.1 hg).2.2 j ω;rw[h] at h1;omega
theorem ixA {α:Type} [Inhabited α] {xs ys:List α} {i:Nat} (h:i<xs.length):ix (xs++ys) (i:Int)=ix xs (i:Int):=by
 rw[ix_lt h,ix_lt (by simp;omega),List.getElem_append_left h]
theorem ixAI {α:Type} [Inhabited α] {xs ys:List α} {i:Int} (h0:0≤i) (h:i<xs.length):ix (xs++ys) i=ix xs i:=by
 obtain⟨j,rfl⟩:=Int.eq_ofNat_of_zero_le h0;exact ixA ω
theorem ixL {α:Type} [Inhabited α] {xs:List α} {a:α}:ix (xs++[a]) (xs.length:Int)=a:=by
 rw[ix_lt (by simp)];simp
theorem ixL' {α:Type} [Inhabited α] {xs:List α} {a:α} {n:Nat} (h:n=xs.length):ix (xs++[a]) (n:Int)=a:=by rw[h,ixL]
theorem J1P {s:List Int} {K:List Int→Prop} (hl:s.length≤1099511627776) (h:K s):J0g s K:=by
 unfold J0g;intro z hz
 split
 ·rename_i hh;rw[hz hh] at h;exact h
 ·exact⟨by simpa using hl,by simpa using h⟩
structure NM (E:List (List Int)) (m:List (Str×Int)):Prop where
 has:∀f,VF f=true→(mhas m (txt f)=true↔f∈E)
 get:∀i:Nat,i<E.length→mgt m (txt (ix E i))=i
theorem NM.nil:NM [] []:=⟨fun f hf=>by simp[mhas],fun i hi=>by simp at hi⟩
theorem NM.new {E:List (List Int)} {m:List (Str×Int)} {f:List Int} (h:NM E m) (hE:∀g∈E,VF g=true) (hf:VF f=true) (hn:f∉E):NM (E++[f]) (mput m (txt f) (E.length:Int)):=by
 refine⟨fun g hg=>?_,fun i hi=>?_⟩
 ·rw[J5t,Bool.or_eq_true,decide_eq_true_eq,h.has g hg,List.mem_append,List.mem_singleton];exact⟨fun k=>k.elim (fun k=>.inr (JdI hg hf k)) .inl,fun k=>k.elim .inr fun k=>.inl (by rw[k])⟩
 ·rw[J6T];simp only[List.length_append,List.length_singleton] at hi;by_cases hie:i=E.length
  ·subst hie;rw[ixL,if_pos rfl]
  ·rw[ixA ω,if_neg,h.get i ω];intro k;have hm:ix E i∈E:=J0f.2 ⟨i,ω,rfl⟩;exact hn (JdI (hE _ hm) hf k▸hm)
def Em (mon:Bool) (W:List Str) (w:Str) (i:Int):Prop:=(w=[]∧mon=false∧i=-1)∨(¬(w=[]∧mon=false)∧0≤i∧i<W.length∧ix W i=w)
theorem Em.up {mon:Bool} {W:List Str} {w c:Str} {i:Int} (h:Em mon W w i):Em mon (W++[c]) w i:=by
 rcases h with h | ⟨h1,h2,h3,h4⟩
 ·exact .inl h
 ·exact .inr ⟨h1,h2,by simp;omega,by rw[ixAI h2 h3];exact h4⟩
theorem Em.inj {mon:Bool} {W:List Str} {w v:Str} {i:Int} (h:Em mon W w i) (k:Em mon W v i):w=v:=by
 rcases h with h | ⟨h1,h2,h3,h4⟩<;>rcases k with k | ⟨k1,k2,k3,k4⟩
 ·rw[h.1,k.1]
 ·omega
 ·omega
 ·rw[←h4,k4]
theorem Em.uniq {mon:Bool} {W:List Str} (hW:W.Pairwise SL) {w:Str} {i j:Int} (h:Em mon W w i) (k:Em mon W w j):i=j:=by
 rcases h with h | ⟨h1,h2,h3,h4⟩<;>rcases k with k | ⟨k1,k2,k3,k4⟩
 ·omega
 ·exact absurd ⟨h.1,h.2.1⟩ k1
 ·exact absurd ⟨k.1,k.2.1⟩ h1
 ·obtain⟨a,rfl⟩:=Int.eq_ofNat_of_zero_le h2;obtain⟨b,rfl⟩:=Int.eq_ofNat_of_zero_le k2;have:=J74 hW (i:=a) (j:=b) ω ω (h4.trans k4.symm);omega
def AT (mon:Bool) (W:List Str) (Pf Ls Bh:List Int) (i:Int):Prop:=
 (ix W i=[]∧ix Pf i=-1∧ix Ls i=-1∧ix Bh i=-1)∨∃p b,ix W i=p++[b]∧ix Ls i=(b.toNat:Int)-97∧Em mon W p (ix Pf i)∧Em mon W (ix W i).tail (ix Bh i)
structure SI (gens:List (List Int)) (mon:Bool) (F:Str→Prop) (E:List (List Int)) (Pf Ls:List Int) (R:List Rule) (W:List Str) (Bh:List Int) (m:List (Str×Int)):Prop where
 rl:RL gens mon W F
 ru:RU gens mon R F
 el:E=W.map (vl gens)
 pl:Pf.length=W.length
 ll:Ls.length=W.length
 bl:Bh.length=W.length
 at_:∀i:Nat,i<W.length→AT mon W Pf Ls Bh i
 nm:NM E m
 wl:∀i:Nat,i<W.length→(ix W i).length≤i+1
section
variable {gens:List (List Int)} {mon:Bool} {F F':Str→Prop} {E:List (List Int)} {Pf Ls:List Int} {R R':List Rule} {W:List Str} {Bh:List Int} {m:List (Str×Int)}
theorem SI.elen (h:SI gens mon F E Pf Ls R W Bh m):E.length=W.length:=by rw[h.el];simp
theorem SI.eix (h:SI gens mon F E Pf Ls R W Bh m) {i:Int} (h0:0≤i) (h1:i<W.length):ix E i=vl gens (ix W i):=by rw[h.el,J2M _ h0 h1]
theorem SI.red (h:SI gens mon F E Pf Ls R W Bh m) {i:Int} (h0:0≤i) (h1:i<W.length):Red gens mon (ix W i):=((h.rl.mem _).1 (J0S h0 h1)).1
theorem SI.vf (h:SI gens mon F E Pf Ls R W Bh m) (hg:GV gens=true):∀f∈E,VF f=true∧f.length=(ix gens 0).length:=by
 intro f hf;rw[h.el,List.mem_map] at hf;obtain⟨w,hw,rfl⟩:=hf;exact vl_ok hg ((h.rl.mem w).1 hw).1.1.1
theorem SI.mem (h:SI gens mon F E Pf Ls R W Bh m) {w:Str}:vl gens w∈E↔∃v∈W,vl gens v=vl gens w:=by rw[h.el,List.mem_map]
theorem SI.num (h:SI gens mon F E Pf Ls R W Bh m) {f:List Int} (hf:f∈E):0≤mgt m (txt f)∧mgt m (txt f)<W.length∧vl gens (ix W (mgt m (txt f)))=f:=by
 obtain⟨i,hi,rfl⟩:=J0f.1 hf;rw[h.nm.get i hi];have:=h.elen;exact⟨ω,ω,by rw[←h.eix ω ω]⟩
theorem SI.push (h:SI gens mon F E Pf Ls R W Bh m) (hg:GV gens=true) {p:Str} {b:UInt8} {ip ib:Int} (h1:RL gens mon (W++[p++[b]]) F') (h2:RU gens mon R F') (hp:Em mon W p ip) (hb:Em mon W (p++[b]).tail ib)
  (hn:vl gens (p++[b])∉E):SI gens mon F' (E++[vl gens (p++[b])]) (Pf++[ip]) (Ls++[(b.toNat:Int)-97]) R (W++[p++[b]]) (Bh++[ib]) (mput m (txt (vl gens (p++[b]))) (E.length:Int)):=by
 have hr:=((h1.mem (p++[b])).1 (by simp)).1;have hl:=h.elen;have pl:=h.pl;have ll:=h.ll;have bl:=h.bl;refine⟨h1,h2,by rw[h.el];simp,by simp[pl],by simp[ll],by simp[bl],fun i hi=>?_,h.nm.new (fun g hgE=>(h.vf hg g hgE).1) (vl_ok hg hr.1.1).1 hn,fun i hi=>?_⟩
 ·simp only[List.length_append,List.length_singleton] at hi;by_cases hie:i=W.length
  ·refine .inr ⟨p,b,?_,?_,?_,?_⟩
   ·rw[ixL' hie]
   ·rw[ixL' ω]
   ·rw[ixL' ω];exact hp.up
   ·rw[ixL' hie,ixL' ω];exact hb.up
  ·unfold AT;rw[ixA ω,ixA ω,ixA ω,ixA ω]
   rcases h.at_ i ω with k | ⟨q,a,k1,k2,k3,k4⟩
   ·exact .inl k
   ·exact .inr ⟨q,a,k1,k2,k3.up,k4.up⟩
 ·simp only[List.length_append,List.length_singleton] at hi;by_cases hie:i=W.length
  ·rw[ixL' hie];simp only[List.length_append,List.length_singleton]
   rcases hp with hp | ⟨_,k2,k3,k4⟩
   ·rw[hp.1];simp
   ·obtain⟨j,rfl⟩:=Int.eq_ofNat_of_zero_le k2;have:=h.wl j ω;rw[k4] at this;omega
  ·rw[ixA ω];exact h.wl i ω
theorem SI.keep (h:SI gens mon F E Pf Ls R W Bh m) (h1:RL gens mon W F') (h2:RU gens mon R' F'):SI gens mon F' E Pf Ls R' W Bh m:=⟨h1,h2,h.el,h.pl,h.ll,h.bl,h.at_,h.nm,h.wl⟩
end
end Sg
namespace Sg
open Go
theorem Jdd {k:Nat} (h:k<31):0≤IntKind.i32.wrap ((97:Int)+(k:Int))∧IntKind.i32.wrap ((97:Int)+(k:Int))<128∧chr (IntKind.i32.wrap ((97:Int)+(k:Int)))=[lt k]:=by
 have e:IntKind.i32.wrap ((97:Int)+(k:Int))=((97+k:Nat):Int):=by rw[IntKind.wrap_i32];omega
 rw[e];exact⟨ω,ω,rfl⟩
theorem low {k:Nat} {w:Str} (h:LW k w) (hn:w≠[]):¬SL w [lt 0]:=fun hs=>by
  cases w with
  | nil=>exact hn rfl
  | cons a w =>
    have ha:=h a (by simp)
    rcases hs with hs | ⟨hl,hs⟩
    · simp at hs
    · have:w=[]:=List.eq_nil_of_length_eq_zero (by simpa using hl)
      subst this
      rw[J2l] at hs
      rw[J0j ω] at hs
      rcases hs with hs | ⟨_,hs⟩
      · omega
      · simp[slt] at hs
theorem Jej {g:List Int} {n:Nat} (h:g.length=n):compF (iota n) g=g:=J09 (by simp[h]) fun j hj=>by
 simp only[J5C,J18] at hj
 rw[J3Q ω (by simp;omega),J89 hj]
section
variable {gens:List (List Int)} {mon:Bool} {W:List Str}
theorem J7g (hg:GV gens=true) {x:Nat} (hx:x<gens.length):vl gens [lt x]=ix gens (x:Int):=by
 have hk:=(J0w.1 hg).2.1;have:=J6x (gens:=gens) [] (lt x);rw[List.nil_append] at this;rw[this,Jbb,J0j ω,show ((97+x:Nat):Int)-97=(x:Int) by omega];exact Jej ((J0w.1 hg).2.2 x hx).2
def SG (gens:List (List Int)) (W:List Str) (sg:List Int) (x:Nat):Prop:=sg.length=x∧∀y:Nat,y<x→0≤ix sg y∧ix sg y<W.length∧vl gens (ix W (ix sg y))=vl gens [lt y]
theorem SG.up {sg:List Int} {x:Nat} {c:Str} (h:SG gens W sg x):SG gens (W++[c]) sg x:=
 ⟨h.1, fun y hy => by
  obtain⟨h1,h2,h3⟩:=h.2 y hy
  exact⟨h1,by simp;omega,by rw[ixAI h1 h2];exact h3⟩⟩
theorem SG.add {sg:List Int} {x:Nat} {i:Int} (h:SG gens W sg x) (h0:0≤i) (h1:i<W.length) (h2:vl gens (ix W i)=vl gens [lt x]):SG gens W (sg++[i]) (x+1):=by
 have hl:=h.1;refine⟨by simp[h.1],fun y hy=>?_⟩;by_cases hyx:y=x
 ·rw[ixL' ω,hyx];exact⟨h0,h1,h2⟩
 ·rw[ixA ω];exact h.2 y ω
def RT (gens:List (List Int)) (W:List Str) (Rt:List (List Int)) (d:Nat):Prop:=Rt.length=d∧∀i:Nat,i<d→(ix Rt i).length=gens.length∧∀y:Nat,y<gens.length→0≤ix (ix Rt i) y∧ix (ix Rt i) y<W.length∧vl gens (ix W (ix (ix Rt i) y))=vl gens (ix W i++[lt y])
def FD (gens:List (List Int)) (d:Nat) (W:List Str):Str→Prop:=FF gens.length (if d=0 then [] else ix W ((d-1:Nat):Int)) gens.length
structure RI (gens:List (List Int)) (mon:Bool) (d:Nat) (r:run):Prop where
 pts:r.Enum.Points=((ix gens 0).length:Int)
 mon_:r.Enum.Monoid=mon
 gn:r.Enum.Gens=gens
 dn:r.Enum.Done=(d:Int)
 dl:d≤r.words.length
 ne:1≤r.words.length
 si:SI gens mon (FD gens d r.words) r.Enum.Elems r.Enum.Prefix r.Enum.Last r.Enum.Rules r.words r.behind r.number
 sg:SG gens r.words r.single gens.length
 rt:RT gens r.words r.Enum.Right d
 rb:r.Enum.Rules.length≤6*(d+1)
 wb:r.words.length≤6*(d+1)+1
 m0:mon=true→ix r.words 0=[]
structure BI (gens:List (List Int)) (mon:Bool) (x:Nat) (E:List (List Int)) (Pf Ls:List Int) (R:List Rule) (W:List Str) (Bh sg:List Int) (m:List (Str×Int)):Prop where
 si:SI gens mon (fun w=>SL w ([]++[lt x])) E Pf Ls R W Bh m
 sg:SG gens W sg x
 m0:mon=true→1≤W.length∧ix W 0=[]
 wb:W.length≤x+1
 rb:R.length≤x
variable {x:Nat} {E:List (List Int)} {Pf Ls:List Int} {R:List Rule} {Bh sg:List Int} {m:List (Str×Int)}
theorem BI.known (hg:GV gens=true) (h:BI gens mon x E Pf Ls R W Bh sg m) (hx:x<gens.length) (hf:ix gens (x:Int)∈E) :
  0≤mgt m (txt (ix gens (x:Int)))∧mgt m (txt (ix gens (x:Int)))<W.length∧BI gens mon (x+1) E Pf Ls (R++[⟨[lt x],ix W (mgt m (txt (ix gens (x:Int))))⟩]) W Bh (sg++[mgt m (txt (ix gens (x:Int)))]) m:=by
 have hk:=(J0w.1 hg).2.1;obtain⟨h0,h1,h2⟩:=h.si.num hf;have hv:=J7g hg hx;have hw:=J0S h0 h1;obtain⟨nr,rl⟩:=h.si.rl.known (x:=x) (u:=[]) ω hw (by rw[h2];exact hv.symm);refine⟨h0,h1,h.si.keep rl (h.si.ru.add ω ⟨LW.lt hx ω,by simp,nr,.inl rfl,.inl rfl⟩ (h.si.red h0 h1) (by rw[h2];exact hv.symm)),h.sg.add h0 h1 (by rw[h2];exact hv.symm),h.m0,?_,?_⟩
 ·have:=h.wb;omega
 ·have:=h.rb;simp;omega
theorem BI.new (hg:GV gens=true) (h:BI gens mon x E Pf Ls R W Bh sg m) (hx:x<gens.length) (hf:ix gens (x:Int)∉E) {e:Int} (he:e=if mon=true then 0 else -1) :
    BI gens mon (x+1) (E++[ix gens (x:Int)]) (Pf++[e]) (Ls++[(x:Int)]) R (W++[[lt x]]) (Bh++[e]) (sg++[(E.length:Int)]) (mput m (txt (ix gens (x:Int))) (E.length:Int)):=by
  have hk:=(J0w.1 hg).2.1;have hv:=J7g hg hx
  have hem:Em mon W [] e:=by
    cases hm:mon with
    | false=>rw[hm] at he;exact .inl ⟨rfl,rfl,he⟩
    | true =>
      rw[hm,if_pos rfl] at he;obtain⟨k1,k2⟩:=h.m0 hm;subst he;exact .inr ⟨by simp,ω,ω,k2⟩
  have hn:∀w∈W,vl gens w≠vl gens ([]++[lt x]):=fun w hw k=>hf (by rw[←hv,h.si.mem];exact⟨w,hw,k⟩);obtain⟨hr,rl⟩:=h.si.rl.new (x:=x) (u:=[]) ω ⟨LW.lt hx ω,.inr (by simp)⟩ hn;have p:=h.si.push hg (p:=[]) (b:=lt x) (ip:=e) (ib:=e) rl (h.si.ru.skip ω fun k=>k.nr hr) hem hem (by rw[List.nil_append,hv];exact hf);simp only[List.nil_append,hv] at p;rw[J0j ω,show ((97+x:Nat):Int)-97=(x:Int) by omega] at p;have hl:=h.si.elen;refine⟨p,?_,fun hm=>?_,?_,?_⟩
  · refine SG.add h.sg.up ω (by simp;omega) ?_;rw[hl,ixL]
  · obtain⟨k1,k2⟩:=h.m0 hm;refine⟨by simp,?_⟩;have:=ixA (xs:=W) (ys:=[[lt x]]) (i:=0) ω;exact this.trans k2
  · have:=h.wb;simp;omega
  · have:=h.rb;omega
theorem BI.fin (hg:GV gens=true) (h:BI gens mon gens.length E Pf Ls R W Bh sg m):RI gens mon 0 ⟨⟨((ix gens 0).length:Int),mon,gens,E,Pf,Ls,[],R,0⟩,m,W,Bh,sg⟩:=by
 have hk:=(J0w.1 hg).1;have hk6:=(J0w.1 hg).2.1;have e:∀w,SL w ([]++[lt gens.length])↔FD gens 0 W w:=fun w=>(Jbk (Nat.le_refl _) ω w).symm
 have hne:1≤W.length:=by
  obtain⟨h0,h1,_⟩:=h.sg.2 0 ω;omega
 have wb:=h.wb;have rb:=h.rb;exact⟨rfl,rfl,rfl,rfl,ω,hne,h.si.keep (h.si.rl.congr fun w _=>e w) (h.si.ru.congr fun w _=>e w),h.sg,⟨rfl,fun i hi=>by omega⟩,by simp only;omega,by simp only;omega,fun hm=>(h.m0 hm).2⟩
theorem BI.start0 (hg:GV gens=true):BI gens false 0 [] [] [] [] [] [] [] []:=by
 refine⟨⟨⟨List.Pairwise.nil,fun w=>⟨fun h=>(by simp at h),fun h=>absurd h.2 (low h.1.1.1 (h.1.1.2.resolve_left (by simp)))⟩⟩,⟨List.Pairwise.nil,fun r=>⟨fun h=>(by simp at h),fun h=>absurd h.2.1 (low h.1.lw h.1.ne)⟩⟩,rfl,rfl,rfl,rfl,fun i hi=>by simp at hi,NM.nil,fun i hi=>by simp at hi⟩,⟨rfl,fun y hy=>by omega⟩,fun h=>(by simp at h),by simp,by simp⟩
theorem BI.start1 (hg:GV gens=true):BI gens true 0 [iota (ix gens 0).length] [-1] [-1] [] [[]] [-1] [] (mput [] (txt (iota (ix gens 0).length)) 0):=by
 have hl:=GV.len0 hg;have hr:Red gens true []:=⟨⟨LW.nil _,.inl rfl⟩,fun v _ _ h=>J93 v h⟩;refine⟨⟨⟨List.pairwise_singleton _ _,fun w=>⟨fun h=>?_,fun h=>?_⟩⟩,⟨List.Pairwise.nil,fun r=>⟨fun h=>(by simp at h),fun h=>absurd h.2.1 (low h.1.lw h.1.ne)⟩⟩,rfl,rfl,rfl,rfl,fun i hi=>?_,?_,fun i hi=>?_⟩,⟨rfl,fun y hy=>by omega⟩,fun h=>⟨by simp,rfl⟩,by simp,by simp⟩
 ·rw[List.mem_singleton.1 h];exact⟨hr,SL.nil (by simp)⟩
 ·rw[List.mem_singleton];apply Classical.byContradiction;intro hn;exact low h.1.1.1 hn h.2
 ·simp only[List.length_singleton] at hi;obtain rfl:i=0:=ω;exact .inl ⟨rfl,rfl,rfl,rfl⟩
 ·exact NM.nil.new (f:=iota (ix gens 0).length) (fun g hg=>by simp at hg) (JdE hl.1 hl.2) (by simp)
 ·simp only[List.length_singleton] at hi;obtain rfl:i=0:=ω;simp[ix]
end
end Sg
namespace Sg
open Go
set_option maxRecDepth 10000
section
variable {gens:List (List Int)} {mon:Bool}
theorem JdS (hg:GV gens=true) {K:Option run→Int→Prop} (h3:∀r,RI gens false 0 r→K (some r) 0) :
  LoopWP (S:=Nat×List Int×List Int×List Str×List Rule×List Int×List Int×List (List Int)×(List (Str×Int))) (fun s X=>J3a gens gens K (fun a b c d e f g h i=>X (a,b,c,d,e,f,g,h,i)) s.1 s.2.1 s.2.2.1 s.2.2.2.1 s.2.2.2.2.1 s.2.2.2.2.2.1 s.2.2.2.2.2.2.1 s.2.2.2.2.2.2.2.1 s.2.2.2.2.2.2.2.2) (0,[],[],[],[],[],[],[],[]):=by
 have hk:=J0w.1 hg;refine LoopWP.to gens.length (fun s=>s.1) (fun s=>s.1≤gens.length∧BI gens false s.1 s.2.2.2.2.2.2.2.1 s.2.2.2.2.2.2.1 s.2.2.2.2.2.1 s.2.2.2.2.1 s.2.2.2.1 s.2.2.1 s.2.1 s.2.2.2.2.2.2.2.2) ⟨by simp,BI.start0 hg⟩ (fun s h=>h.1) ?_;rintro⟨k,sg,Bh,W,R,Ls,Pf,E,m⟩ X ⟨hkl,hI⟩ hX;simp only at hkl hI;have hl:=hI.si.elen;have wb:=hI.wb;have rb:=hI.rb;have pl:=hI.si.pl;have ll:=hI.si.ll;have bl:=hI.si.bl;have sl:=hI.sg.1;dsimp only;unfold J3a
 split
 ·rename_i hlt;have hlt':k<gens.length:=ω;have hv:=hk.2.2 k hlt';have hc:=Jdd (k:=k) ω;have hvl:=VF.len hv.1;refine⟨ω,ω,⟨ω,ω⟩,hc.1,hc.2.1,J0l ω ?_⟩;rw[hc.2.2]
  split
  ·rename_i hm;have hf:=(hI.si.nm.has _ hv.1).1 hm;obtain⟨k0,k1,k2⟩:=hI.known hg hlt' hf;exact⟨k0,k1,by simp;omega,by simp;omega,hX (k+1,_) ⟨by simp only;omega,k2⟩ rfl⟩
  ·rename_i hm;have hf:ix gens (k:Int)∉E:=fun hf=>hm ((hI.si.nm.has _ hv.1).2 hf);have k2:=hI.new hg hlt' hf (e:=-1) (by simp);refine J1P ω (J0l ω ⟨by simp;omega,by simp;omega,by simp;omega,by simp;omega,by simp;omega,by simp;omega,hX (k+1,_) ⟨by simp only;omega,k2⟩ rfl⟩)
 ·have:k=gens.length:=ω;subst this;exact h3 _ (hI.fin hg)
theorem Jep (hg:GV gens=true) {K:Option run→Int→Prop} (h3:∀r,RI gens true 0 r→K (some r) 0) :
  LoopWP (S:=Nat×List Int×List Rule×List Int×List Str×List Int×List Int×List (List Int)×(List (Str×Int))) (fun s X=>J2Y gens gens K (fun a b c d e f g h i=>X (a,b,c,d,e,f,g,h,i)) s.1 s.2.1 s.2.2.1 s.2.2.2.1 s.2.2.2.2.1 s.2.2.2.2.2.1 s.2.2.2.2.2.2.1 s.2.2.2.2.2.2.2.1 s.2.2.2.2.2.2.2.2)
   (0,[],[],[-1],[[]],[-1],[-1],[iota (ix gens 0).length],mput [] (txt (iota (ix gens 0).length)) 0):=by
 have hk:=J0w.1 hg;refine LoopWP.to gens.length (fun s=>s.1) (fun s=>s.1≤gens.length∧BI gens true s.1 s.2.2.2.2.2.2.2.1 s.2.2.2.2.2.2.1 s.2.2.2.2.2.1 s.2.2.1 s.2.2.2.2.1 s.2.2.2.1 s.2.1 s.2.2.2.2.2.2.2.2) ⟨by simp,BI.start1 hg⟩ (fun s h=>h.1) ?_;rintro⟨k,sg,R,Bh,W,Ls,Pf,E,m⟩ X ⟨hkl,hI⟩ hX;simp only at hkl hI;have hl:=hI.si.elen;have wb:=hI.wb;have rb:=hI.rb;have pl:=hI.si.pl;have ll:=hI.si.ll;have bl:=hI.si.bl;have sl:=hI.sg.1;dsimp only;unfold J2Y
 split
 ·rename_i hlt;have hlt':k<gens.length:=ω;have hv:=hk.2.2 k hlt';have hc:=Jdd (k:=k) ω;have hvl:=VF.len hv.1;refine⟨ω,ω,⟨ω,ω⟩,hc.1,hc.2.1,J0l ω ?_⟩;rw[hc.2.2]
  split
  ·rename_i hm;have hf:=(hI.si.nm.has _ hv.1).1 hm;obtain⟨k0,k1,k2⟩:=hI.known hg hlt' hf;exact⟨k0,k1,by simp;omega,by simp;omega,hX (k+1,_) ⟨by simp only;omega,k2⟩ rfl⟩
  ·rename_i hm;have hf:ix gens (k:Int)∉E:=fun hf=>hm ((hI.si.nm.has _ hv.1).2 hf);have k2:=hI.new hg hlt' hf (e:=0) (by simp);refine J1P ω (J0l ω ⟨by simp;omega,by simp;omega,by simp;omega,by simp;omega,by simp;omega,by simp;omega,hX (k+1,_) ⟨by simp only;omega,k2⟩ rfl⟩)
 ·have:k=gens.length:=ω;subst this;exact h3 _ (hI.fin hg)
theorem JdT {α:Type} {xs:List α} {k:Nat} (h:xs.length≤k):xs.take k=xs:=List.take_of_length_le h
theorem J5w {K:Option run→Int→Prop} (h1:¬(1≤gens.length∧gens.length≤6)→K none 1) (h2:1≤gens.length∧gens.length≤6→GV gens=false→K none 4)
    (h3:GV gens=true→∀r,RI gens mon 0 r→K (some r) 0):J1m gens mon K:=by
  unfold J1m;intro hm
  split
  · exact h1 ω
  · split
    · exact h1 ω
    · refine ⟨ω, ω, fun hm0 => ?_⟩;refine LoopWP.to gens.length (fun s : Nat × List (List Int) => s.1) (fun s => s.1 ≤ gens.length ∧ s.2 = gens.take s.1 ∧ ∀ j : Nat, j < s.1 → VF (ix gens j) = true ∧ (ix gens j).length = (ix gens 0).length) ⟨by simp, by simp, fun j hj => by simp at hj⟩ (fun s h => h.1) ?_;rintro ⟨k, d⟩ X ⟨hk, hd, hI⟩ hX;simp only at hk hd hI;subst hd;dsimp only;unfold J5u
      split
      · rename_i hlt;refine⟨ω,ω,fun hmk=>?_⟩
        have bad:¬(VF (ix gens (k:Int))=true∧(ix gens (k:Int)).length=(ix gens 0).length)→K none 4:=fun hn=>
          h2 ω (Jeb fun h=>hn (h.2.2 k ω))
        split
        · rename_i he;refine J1A ?_
          split
          · rename_i hv;have hvl:=VF.len hv;refine J1P ω ⟨by simp;omega,hX (k+1,_) ⟨by simp only;omega,?_,fun j hj=>?_⟩ rfl⟩
            · simp only;rw[Ja7 ω]
            · by_cases hjk:j=k
              · subst hjk;exact⟨hv,ω⟩
              · exact hI j (by simp only at hj;omega)
          · rename_i hv;exact bad fun h=>hv h.1
        · rename_i he;exact bad fun h=>he (by rw[h.2])
      · have hg:GV gens=true:=J0w.2 ⟨ω,ω,fun j hj=>hI j ω⟩;have hl0:=GV.len0 hg;rw[JdT ω]
        cases mon with
        | false =>
          rw[if_neg (by simp)];exact JdS hg (h3 hg)
        | true =>
          rw[if_pos rfl];refine J8P ?_;rw[if_pos ω,Int.toNat_natCast];refine J0l (by simp;omega) ⟨by simp,by simp,by simp,by simp,by simp,?_⟩;exact Jep hg (h3 hg)
end
end Sg
namespace Sg
open Go
def Few (gens:List (List Int)):Prop:=∀L:List (List Int),L.Nodup→(∀f∈L,VF f=true∧f.length=(ix gens 0).length)→L.length<2000
section
variable {gens:List (List Int)} {mon:Bool} {F:Str→Prop} {E:List (List Int)} {Pf Ls:List Int} {R:List Rule} {W:List Str} {Bh:List Int} {m:List (Str×Int)}
theorem SI.nodup (h:SI gens mon F E Pf Ls R W Bh m):E.Nodup:=by
 rw[h.el,List.Nodup,List.pairwise_map];refine List.Pairwise.imp_of_mem (fun {a b} ha hb hab he=>?_) h.rl.asc;have:=((h.rl.mem a).1 ha).1.uniq ((h.rl.mem b).1 hb).1 he;subst this;exact SL.irrefl _ hab
theorem RT.up {Rt:List (List Int)} {d:Nat} {c:Str} (h:RT gens W Rt d) (hd:d≤W.length):RT gens (W++[c]) Rt d:=
 ⟨h.1, fun i hi => ⟨(h.2 i hi).1, fun y hy => by
  obtain⟨h1,h2,h3⟩:=(h.2 i hi).2 y hy
  exact⟨h1,by simp;omega,by rw[ixAI h1 h2,ixA ω];exact h3⟩⟩⟩
theorem J8J {u:Str} (hu:u≠[]) (b:UInt8):(u++[b]).tail=u.tail++[b]:=by
 cases u with
 | nil=>exact absurd rfl hu
 | cons a u=>rfl
theorem Jd7 (u:Str) (b:UInt8):(u++[b]).dropLast=u:=by simp
theorem JaF (h:SI gens mon F E Pf Ls R W Bh m) {d x:Nat} {sg:List Int} {Rt:List (List Int)} (hd:d<W.length) (hx:x<gens.length) (hsg:SG gens W sg gens.length) (hrt:RT gens W Rt d) (hu:ix W d≠[]) :
  Em mon W (ix W d).tail (ix Bh d)∧((ix Bh d=-1∧0≤ix sg x∧ix sg x<W.length∧vl gens (ix W (ix sg x))=vl gens ((ix W d).tail++[lt x])) ∨
   (ix Bh d≠-1∧0≤ix Bh d∧ix Bh d<Rt.length∧(ix Rt (ix Bh d)).length=gens.length∧0≤ix (ix Rt (ix Bh d)) x∧ix (ix Rt (ix Bh d)) x<W.length∧vl gens (ix W (ix (ix Rt (ix Bh d)) x))=vl gens ((ix W d).tail++[lt x]))):=by
 rcases h.at_ d hd with k | ⟨p,b,k1,k2,k3,k4⟩
 ·exact absurd k.1 hu
 ·refine⟨k4,?_⟩
  rcases k4 with ⟨e1,e2,e3⟩ | ⟨e1,e2,e3,e4⟩
  ·obtain⟨s1,s2,s3⟩:=hsg.2 x hx;exact .inl ⟨e3,s1,s2,by rw[e1];exact s3⟩
  ·obtain⟨i,hi⟩:=Int.eq_ofNat_of_zero_le e2;rw[hi] at e2 e3 e4 ⊢
   have hlt:i<d:=by
    refine J60 h.rl.asc ω hd ?_;rw[e4];refine .inl ?_;have:=List.length_pos_iff.2 hu;simp;omega
   obtain⟨r1,r2⟩:=hrt.2 i hlt;obtain⟨r3,r4,r5⟩:=r2 x hx;have:=hrt.1;exact .inr ⟨ω,ω,ω,r1,r3,r4,by rw[r5,e4]⟩
theorem JcG (h:SI gens mon F E Pf Ls R W Bh m) (hk:gens.length<159) {q:Int} {t:Str} {x:Nat} {ib:Int} (hx:x<gens.length) (q0:0≤q) (q1:q<W.length) (hb:Em mon W t ib) :
  ix W q=t++[lt x]↔ix Pf q=ib∧ix Ls q=(x:Int):=by
 obtain⟨i,rfl⟩:=Int.eq_ofNat_of_zero_le q0
 rcases h.at_ i ω with ⟨k1,k2,k3,k4⟩ | ⟨p,b,k1,k2,k3,k4⟩
 ·exact⟨fun e=>by rw[k1] at e;simp at e,fun e=>by omega⟩
 ·rw[k1];constructor
  ·intro e;obtain⟨e1,e2⟩:=List.append_inj' e rfl
   have e2:b=lt x:=by simpa using e2
   subst e1;exact⟨k3.uniq h.rl.asc hb,by rw[k2,e2,J0j ω];omega⟩
  ·rintro⟨e1,e2⟩;rw[e1] at k3;have hbx:b=lt x:=u8_eq (by rw[J0j ω];omega);rw[k3.inj hb,hbx]
structure PI (gens:List (List Int)) (mon:Bool) (sg:List Int) (Rt:List (List Int)) (d x:Nat) (row:List Int) (E:List (List Int)) (Pf Ls:List Int) (R:List Rule) (W:List Str) (Bh:List Int) (m:List (Str×Int)):Prop where
 si:SI gens mon (FF gens.length (ix W d) x) E Pf Ls R W Bh m
 dl:d<W.length
 rw_:row.length=gens.length
 row:∀y:Nat,y<x→0≤ix row y∧ix row y<W.length∧vl gens (ix W (ix row y))=vl gens (ix W d++[lt y])
 sg:SG gens W sg gens.length
 rt:RT gens W Rt d
 rb:R.length≤6*(d+1)+x
 wb:W.length≤6*(d+1)+1+x
 m0:mon=true→ix W 0=[]
variable {sg:List Int} {Rt:List (List Int)} {d x:Nat} {row:List Int}
theorem PI.u_red (h:PI gens mon sg Rt d x row E Pf Ls R W Bh m):Red gens mon (ix W d):=h.si.red ω (by have:=h.dl;omega)
theorem Jd8 (hr:row.length=gens.length) (hx:x<gens.length) {q:Int} {P:Nat→Int→Prop} (h:∀y:Nat,y<x→P y (ix row y)) (hq:P x q):∀y:Nat,y<x+1→P y (ix (st row (x:Int) q) y):=fun y hy=>by
 rw[ix_st _ ω ω ω]
 split
 ·rename_i e
  have:y=x:=ω
  subst this;exact hq
 ·exact h y ω
theorem PI.known (hg:GV gens=true) (h:PI gens mon sg Rt d x row E Pf Ls R W Bh m) (hx:x<gens.length) {R':List Rule} (hf:vl gens (ix W d++[lt x])∈E)
  (hR:RU gens mon R' (FF gens.length (ix W d) (x+1))) (hl:R'.length≤R.length+1) :
  PI gens mon sg Rt d (x+1) (st row (x:Int) (mgt m (txt (vl gens (ix W d++[lt x]))))) E Pf Ls R' W Bh m:=by
 have hk:=(J0w.1 hg).2.1;obtain⟨h0,h1,h2⟩:=h.si.num hf
 have rl:RL gens mon W (FF gens.length (ix W d) (x+1)):=by
  by_cases hu:ix W d=[]
  ·refine h.si.rl.congr fun w _=>?_;rw[hu,Jbk ω ω,Jbk ω ω]
  ·have a:RL gens mon W (fun w=>SL w (ix W d++[lt x])):=h.si.rl.congr fun w _=>FF_ne hu x w;exact(a.known ω (J0S h0 h1) h2).2.congr fun w _=>(FF_ne hu (x+1) w).symm
 have rb:=h.rb;have wb:=h.wb;exact⟨h.si.keep rl hR,h.dl,by simpa using h.rw_,Jd8 h.rw_ hx (P:=fun y q=>0≤q∧q<W.length∧vl gens (ix W q)=vl gens (ix W d++[lt y])) h.row ⟨h0,h1,h2⟩,h.sg,h.rt,ω,ω,h.m0⟩
end
end Sg
namespace Sg
open Go
set_option maxRecDepth 10000
section
variable {gens:List (List Int)} {mon:Bool} {F:Str→Prop} {E:List (List Int)} {Pf Ls:List Int} {R:List Rule} {W:List Str} {Bh:List Int} {m:List (Str×Int)} {sg:List Int} {Rt:List (List Int)} {d x:Nat} {row:List Int}
theorem PI.new (hg:GV gens=true) (h:PI gens mon sg Rt d x row E Pf Ls R W Bh m) (hx:x<gens.length) (hu:ix W d≠[]) (hf:vl gens (ix W d++[lt x])∉E) {q:Int} (q0:0≤q) (q1:q<W.length) (hq:vl gens (ix W q)=vl gens ((ix W d).tail++[lt x])) :
  PI gens mon sg Rt d (x+1) (st row (x:Int) (E.length:Int)) (E++[vl gens (ix W d++[lt x])]) (Pf++[(d:Int)]) (Ls++[(x:Int)]) R (W++[ix W d++[lt x]]) (Bh++[q]) (mput m (txt (vl gens (ix W d++[lt x]))) (E.length:Int)):=by
 have hk:=(J0w.1 hg).2.1;have hdl:=h.dl;have hel:=h.si.elen;have a:RL gens mon W (fun w=>SL w (ix W d++[lt x])):=h.si.rl.congr fun w _=>FF_ne hu x w;have b:RU gens mon R (fun w=>SL w (ix W d++[lt x])):=h.si.ru.congr fun w _=>FF_ne hu x w;obtain⟨hr,rl⟩:=a.new ω ⟨LW.app.2 ⟨h.u_red.1.1,LW.lt hx ω⟩,.inr (by simp)⟩ fun w hw e=>hf (h.si.mem.2 ⟨w,hw,e⟩)
 have ht:ix W q=(ix W d).tail++[lt x]:=by
  refine(h.si.red q0 q1).uniq ?_ hq
  have e:ix W d++[lt x]=[(ix W d).head hu]++((ix W d).tail++[lt x]):=by
   have:=List.cons_head_tail hu
   calc ix W d++[lt x]=((ix W d).head hu::(ix W d).tail)++[lt x]:=by rw[this]
    _=_:=rfl
  exact Red.post hg (e▸hr) (.inr (by simp))
 have p:=h.si.push hg (p:=ix W d) (b:=lt x) (ip:=d) (ib:=q) rl (b.skip ω fun k=>k.nr hr) (.inr ⟨fun k=>hu k.1,ω,ω,rfl⟩) (.inr ⟨fun k=>by rw[J8J hu] at k;simp at k,q0,q1,by rw[J8J hu];exact ht⟩) hf;rw[J0j ω,show ((97+x:Nat):Int)-97=(x:Int) by omega] at p;have ed:ix (W++[ix W d++[lt x]]) (d:Int)=ix W d:=ixA hdl;have rb:=h.rb;have wb:=h.wb;refine⟨?_,by simp;omega,by simpa using h.rw_,?_,h.sg.up,h.rt.up ω,ω,by simp;omega,fun hm=>?_⟩
 ·rw[ed];exact p.keep (rl.congr fun w _=>(FF_ne hu (x+1) w).symm) (p.ru.congr fun w _=>(FF_ne hu (x+1) w).symm)
 ·rw[ed];refine Jd8 h.rw_ hx (P:=fun y q=>0≤q∧q<((W++[ix W d++[lt x]]).length:Int)∧vl gens (ix (W++[ix W d++[lt x]]) q)=vl gens (ix W d++[lt y])) (fun y hy=>?_) ⟨ω,by simp;omega,by rw[hel,ixL]⟩;obtain⟨k1,k2,k3⟩:=h.row y hy;exact⟨k1,by simp;omega,by rw[ixAI k1 k2];exact k3⟩
 ·have:=ixA (xs:=W) (ys:=[ix W d++[lt x]]) (i:=0) ω;exact this.trans (h.m0 hm)
theorem PI.Jbf (hg:GV gens=true) (h:PI gens mon sg Rt d x row E Pf Ls R W Bh m) (hx:x<gens.length) (hu:ix W d=[]):vl gens (ix W d++[lt x])∈E:=by
 have hk:=(J0w.1 hg).2.1;obtain⟨r,k1,k2,k3⟩:=J7s (gens:=gens) (mon:=mon) (w:=[]++[lt x]) ⟨LW.lt hx ω,.inr (by simp)⟩;rw[h.si.mem];refine⟨r,(h.si.rl.mem r).2 ⟨k1,.inl ?_⟩,by rw[hu];exact k2⟩;have:SL ([]++[lt x]) [lt gens.length]:=SL.J1C (u:=[]) (lt_lt hx ω)
 rcases k3 with rfl | k3
 ·exact this
 ·exact k3.trans this
theorem gap0 (hk:gens.length<159) (h:RL gens mon W (FF gens.length [] gens.length)) (h0:1≤W.length) {p:Str} {b:UInt8} (hb:LW gens.length [b]) (hp:p=[]∨Red gens mon p)
  (hF:FF gens.length (ix W 0) 0 (p++[b])):FF gens.length [] gens.length (p++[b]):=by
 have hbk:=LW.one.1 hb;have one:SL ([]++[b]) ([]++[lt gens.length]):=SL.J1C (by rw[J0j hk];omega)
 rcases hF with hF | hF
 ·exact .inl hF
 ·rcases SL.snoc hF with k | ⟨_,k⟩
  ·rcases hp with rfl | hp
   ·exact .inl one
   ·have hu:ix W 0∈W:=J0f.2 ⟨0,ω,rfl⟩;have hpW:p∈W:=(h.mem p).2 ⟨hp,FF.dn k ((h.mem _).1 hu).2⟩;obtain⟨j,hj,rfl⟩:=J0f.1 hpW;have:=J60 h.asc (i:=j) (j:=0) hj ω k;omega
  ·rw[J0j ω] at k;omega
theorem Je4 (hg:GV gens=true) {r:run} (h:RI gens mon d r) (hd:d<r.words.length):RL gens mon r.words (FF gens.length (ix r.words d) 0)∧RU gens mon r.Enum.Rules (FF gens.length (ix r.words d) 0):=by
 have hk:=(J0w.1 hg).2.1;have rl:=h.si.rl;have ru:=h.si.ru;unfold FD at rl ru;by_cases h0:d=0
 ·subst h0;rw[if_pos rfl] at rl ru;have up:∀w,FF gens.length [] gens.length w→FF gens.length (ix r.words 0) 0 w:=fun w hw=>.inl (hw.elim id id);refine⟨rl.congr fun w hw=>⟨up w,fun hF=>?_⟩,ru.congr fun w hw=>⟨up w,fun hF=>?_⟩⟩
  ·by_cases hn:w=[]
   ·subst hn;exact .inl (SL.nil (by simp))
   ·obtain⟨p,b,rfl,hb,hp⟩:=redSplit hg hw hn;exact gap0 ω rl h.ne hb hp hF
  ·obtain⟨p,b,rfl,hb,hp⟩:=mnSplit hw;exact gap0 ω rl h.ne hb hp hF
 ·rw[if_neg h0] at rl ru;obtain⟨e,rfl⟩:∃e,d=e+1:=⟨d-1,ω⟩;rw[show e+1-1=e by omega] at rl ru;exact⟨rl.next hg ω hd,RU.next ω rl ru hd⟩
theorem RI.pi (hg:GV gens=true) {r:run} (h:RI gens mon d r) (hd:d<r.words.length):PI gens mon r.single r.Enum.Right d 0 (List.replicate gens.length 0) r.Enum.Elems r.Enum.Prefix r.Enum.Last r.Enum.Rules r.words r.behind r.number:=by
 obtain⟨a,b⟩:=Je4 hg h hd;exact⟨h.si.keep a b,hd,by simp,fun y hy=>by omega,h.sg,h.rt,h.rb,h.wb,h.m0⟩
theorem PI.fin (hg:GV gens=true) {r:run} (h0:RI gens mon d r) (h:PI gens mon r.single r.Enum.Right d gens.length row E Pf Ls R W Bh m) :
  RI gens mon (d+1) ⟨⟨r.Enum.Points,r.Enum.Monoid,r.Enum.Gens,E,Pf,Ls,r.Enum.Right++[row],R,r.Enum.Done+1⟩,m,W,Bh,r.single⟩:=by
 have hk:=(J0w.1 hg).2.1;have dl:=h.dl;have rb:=h.rb;have wb:=h.wb;have hrt:=h.rt;refine⟨h0.pts,h0.mon_,h0.gn,by simp only[h0.dn];omega,by simp only;omega,by simp only;omega,?_,h.sg,⟨by simp[hrt.1],fun i hi=>?_⟩,by simp only;omega,by simp only;omega,h.m0⟩
 ·have e:FD gens (d+1) W=FF gens.length (ix W d) gens.length:=by
   unfold FD;rw[if_neg ω,show d+1-1=d by omega]
  show SI gens mon (FD gens (d+1) W) E Pf Ls R W Bh m
  rw[e];exact h.si
 ·simp only;have hl:=hrt.1;by_cases hid:i=d
  ·subst hid;rw[ixL' hl.symm];exact⟨h.rw_,fun y hy=>h.row y hy⟩
  ·rw[ixA ω];exact hrt.2 i ω
end
end Sg
namespace Sg
open Go
theorem Jdo:∀{W V:List Str},W.Pairwise SL→V.Pairwise SL→(∀w,w∈W↔w∈V)→W=V
  | [],[],_,_,_=>rfl
  | [],v::V,_,_,h=>by have:=(h v).2 (by simp);simp at this
  | w::W,[],_,_,h=>by have:=(h w).1 (by simp);simp at this
  | w :: W, v :: V, hw, hv, h => by
    obtain⟨w1,w2⟩:=List.pairwise_cons.1 hw
    obtain⟨v1,v2⟩:=List.pairwise_cons.1 hv
    have e:w=v:=by
      rcases List.mem_cons.1 ((h w).1 (by simp)) with k | k
      · exact k
      · rcases List.mem_cons.1 ((h v).2 (by simp)) with k2 | k2
        · exact k2.symm
        · exact absurd (v1 w k) (w1 v k2).asymm
    subst e;rw[Jdo w2 v2 fun x=>⟨fun hx=>?_,fun hx=>?_⟩]
    · rcases List.mem_cons.1 ((h x).1 (List.mem_cons_of_mem _ hx)) with k | k
      · subst k;exact absurd (w1 x hx) (SL.irrefl x)
      · exact k
    · rcases List.mem_cons.1 ((h x).2 (List.mem_cons_of_mem _ hx)) with k | k
      · subst k;exact absurd (v1 x hx) (SL.irrefl x)
      · exact k
section
variable {gens:List (List Int)} {mon:Bool}
theorem RL.uniq {W V:List Str} {F:Str→Prop} (h:RL gens mon W F) (k:RL gens mon V F):W=V:=Jdo h.asc k.asc fun w=>(h.mem w).trans (k.mem w).symm
theorem RL.part {W V:List Str} {F G:Str→Prop} (h:RL gens mon W F) (k:RL gens mon V G) (hFG:∀w,F w→G w) (dn:∀v w,SL v w→F w→F v):∀i:Nat,i<W.length→i<V.length∧ix V i=ix W i:=by
  intro i
  induction i using Nat.strongRecOn with
  | _ i ih =>
    intro hi;have hm:=(h.mem (ix W i)).1 (J0f.2 ⟨i,hi,rfl⟩);obtain⟨j,hj,e⟩:=J0f.1 ((k.mem _).2 ⟨hm.1,hFG _ hm.2⟩)
    have hij:j=i:=by
      rcases Nat.lt_trichotomy j i with hl | hl | hl
      · have:=(ih j hl ω).2;rw[this] at e;have:=J74 h.asc ω hi e;omega
      · exact hl
      · have hV:=(k.mem (ix V i)).1 (J0f.2 ⟨i,ω,rfl⟩)
        have hs:SL (ix V i) (ix W i):=by rw[←e];exact J8p k.asc hl hj
        obtain⟨l,hl1,e2⟩:=J0f.1 ((h.mem _).2 ⟨hV.1,dn _ _ hs hm.2⟩);have hs2:=hs;rw[←e2] at hs2;have hli:=J60 h.asc hl1 hi hs2;have:=(ih l hli hl1).2;rw[e2] at this;have:=J74 k.asc ω ω this;omega
    subst hij;exact⟨hj,e⟩
theorem Jdn {k:Nat} (hk:k<159) {u v:Str} (h:u=v∨SL u v) {w:Str} (hw:FF k u k w):FF k v k w:=by
 rcases h with rfl | h
 ·exact hw
 ·rcases hw with hw | hw
  ·exact .inl hw
  ·refine .inr (hw.trans ?_)
   rcases h with h | ⟨h,h2⟩
   ·exact .inl (by simp;omega)
   ·exact .inr ⟨by simp[h],J6Y h h2⟩
theorem JcN (hg:GV gens=true) {d:Nat} {W V:List Str} (h:RL gens mon W (FD gens d W)) (k:RL gens mon V (FD gens d V)) (hd:d≤W.length) (kd:d≤V.length):W=V:=by
 have hk:=(J0w.1 hg).2.1;unfold FD at h k;by_cases h0:d=0
 ·rw[if_pos h0] at h k;exact h.uniq k
 ·rw[if_neg h0] at h k
  have key:∀{A B:List Str},RL gens mon A (FF gens.length (ix A ((d-1:Nat):Int)) gens.length)→RL gens mon B (FF gens.length (ix B ((d-1:Nat):Int)) gens.length)→d≤A.length→(ix A ((d-1:Nat):Int)=ix B ((d-1:Nat):Int)∨SL (ix A ((d-1:Nat):Int)) (ix B ((d-1:Nat):Int)))→A=B:=by
   intro A B ha hb hdA hle;have e:=(ha.part hb (fun w hw=>Jdn ω hle hw) (fun v w hvw hw=>FF.dn hvw hw) (d-1) ω).2;rw[e] at hb;exact ha.uniq hb
  rcases SL.total (ix W ((d-1:Nat):Int)) (ix V ((d-1:Nat):Int)) with c | c | c
  ·exact key h k hd (.inr c)
  ·exact key h k hd (.inl c)
  ·exact(key k h kd (.inr c)).symm
variable {F:Str→Prop} {E:List (List Int)} {Pf Ls:List Int} {R:List Rule} {W:List Str} {Bh:List Int} {m:List (Str×Int)} {sg:List Int} {Rt:List (List Int)} {d x:Nat} {row:List Int}
theorem PI.limit (hg:GV gens=true) (h:PI gens mon sg Rt d x row E Pf Ls R W Bh m) (hx:x<gens.length) (hu:ix W d≠[]) (hf:vl gens (ix W d++[lt x])∉E) {d':Nat} (hd:d<d') {s:run} (hs:RI gens mon d' s):W.length<s.words.length:=by
 have hk:=(J0w.1 hg).2.1;have hdl:=h.dl;have sdl:=hs.dl;have a:RL gens mon W (fun w=>SL w (ix W d++[lt x])):=h.si.rl.congr fun w _=>FF_ne hu x w;obtain⟨hr,rl⟩:=a.new ω ⟨LW.app.2 ⟨h.u_red.1.1,LW.lt hx ω⟩,.inr (by simp)⟩ fun w hw e=>hf (h.si.mem.2 ⟨w,hw,e⟩);have rl:RL gens mon (W++[ix W d++[lt x]]) (FF gens.length (ix W d) (x+1)):=rl.congr fun w _=>(FF_ne hu (x+1) w).symm;have k:=hs.si.rl;unfold FD at k;rw[if_neg ω] at k
 have up:∀w,FF gens.length (ix W d) (x+1) w→FF gens.length (ix W d) gens.length w:=fun w hw=>by
  refine hw.imp id fun h2=>?_;by_cases e:x+1=gens.length
  ·rw[←e];exact h2
  ·exact h2.trans (SL.J1C (lt_lt ω ω))
 have key:(ix W d=ix s.words ((d'-1:Nat):Int)∨SL (ix W d) (ix s.words ((d'-1:Nat):Int)))→W.length<s.words.length:=fun hle=>
  (rl.part k (fun w hw=>Jdn ω hle (up w hw)) (fun v w hvw hw=>FF.dn hvw hw) W.length (by simp)).1
 rcases SL.total (ix W d) (ix s.words ((d'-1:Nat):Int)) with c | c | c
 ·exact key (.inr c)
 ·exact key (.inl c)
 ·exfalso;have e:=(k.part rl (fun w hw=>?_) (fun v w hvw hw=>FF.dn hvw hw) d ω).2
  ·rw[ixA hdl] at e;rw[e] at c;by_cases hdd:d=d'-1
   ·subst hdd;exact SL.irrefl _ c
   ·exact(J8p hs.si.rl.asc (by omega:d<d'-1) ω).asymm c
  ·have:=FF_up ω c hw;refine this.imp id fun h2=>h2.trans (SL.J1C (lt_lt ω ω))
end
end Sg
namespace Sg
open Go
set_option maxRecDepth 10000
section
variable {gens:List (List Int)} {mon:Bool} {F:Str→Prop} {E:List (List Int)} {Pf Ls:List Int} {R:List Rule} {W:List Str} {Bh:List Int} {m:List (Str×Int)} {sg:List Int} {Rt:List (List Int)} {d x:Nat} {row:List Int}
theorem PI.skip (hg:GV gens=true) (h:PI gens mon sg Rt d x row E Pf Ls R W Bh m) (hx:x<gens.length) (hf:vl gens (ix W d++[lt x])∈E) (hn:ix W d≠[]→¬MN gens mon (ix W d++[lt x])) :
  PI gens mon sg Rt d (x+1) (st row (x:Int) (mgt m (txt (vl gens (ix W d++[lt x]))))) E Pf Ls R W Bh m:=by
 have hk:=(J0w.1 hg).2.1;refine h.known hg hx hf ?_ ω;by_cases hu:ix W d=[]
 ·refine h.si.ru.congr fun w _=>?_;rw[hu,Jbk ω ω,Jbk ω ω]
 ·have b:RU gens mon R (fun w=>SL w (ix W d++[lt x])):=h.si.ru.congr fun w _=>FF_ne hu x w;exact(b.skip ω (hn hu)).congr fun w _=>(FF_ne hu (x+1) w).symm
theorem PI.rule (hg:GV gens=true) (h:PI gens mon sg Rt d x row E Pf Ls R W Bh m) (hx:x<gens.length) (hf:vl gens (ix W d++[lt x])∈E) (hu:ix W d≠[]) (hm:MN gens mon (ix W d++[lt x])) :
  PI gens mon sg Rt d (x+1) (st row (x:Int) (mgt m (txt (vl gens (ix W d++[lt x]))))) E Pf Ls (R++[⟨ix W d++[lt x],ix W (mgt m (txt (vl gens (ix W d++[lt x]))))⟩]) W Bh m:=by
 have hk:=(J0w.1 hg).2.1;obtain⟨h0,h1,h2⟩:=h.si.num hf;refine h.known hg hx hf ?_ (by simp);have b:RU gens mon R (fun w=>SL w (ix W d++[lt x])):=h.si.ru.congr fun w _=>FF_ne hu x w;exact(b.add ω hm (h.si.red h0 h1) h2).congr fun w _=>(FF_ne hu (x+1) w).symm
theorem PI.mn (hg:GV gens=true) (h:PI gens mon sg Rt d x row E Pf Ls R W Bh m) (hx:x<gens.length) (hf:vl gens (ix W d++[lt x])∈E) (hu:ix W d≠[]) {q ib:Int} (q0:0≤q) (q1:q<W.length) (hq:vl gens (ix W q)=vl gens ((ix W d).tail++[lt x]))
  (hb:Em mon W (ix W d).tail ib):MN gens mon (ix W d++[lt x])↔ix Pf q=ib∧ix Ls q=(x:Int):=by
 have hk:=(J0w.1 hg).2.1;rw[←JcG h.si ω hx q0 q1 hb];have a:RL gens mon W (fun w=>SL w (ix W d++[lt x])):=h.si.rl.congr fun w _=>FF_ne hu x w;obtain⟨h0,h1,h2⟩:=h.si.num hf;have nr:=(a.known ω (J0S h0 h1) h2).1;constructor
 ·intro hm;have ht:=hm.tail;rw[J8J hu] at ht;exact(h.si.red q0 q1).uniq (ht.resolve_left (by simp)) hq
 ·intro e;refine⟨LW.app.2 ⟨h.u_red.1.1,LW.lt hx ω⟩,by simp,nr,.inr (by rw[Jd7];exact h.u_red),.inr ?_⟩;rw[J8J hu,←e];exact h.si.red q0 q1
theorem J2I (hg:GV gens=true) {r:run} (hr:RI gens mon d r) (hw:r.words.length≤2000) (hd:d<r.words.length) {K:Int→run→Prop} (hL:¬Few gens→(∀d' s,d<d'→RI gens mon d' s→2000<s.words.length)→∀q,K 3 q)
  (hK:∀r',RI gens mon (d+1) r'→r'.words.length≤2000→K 0 r'):J0s r K:=by
 have hgv:=J0w.1 hg;unfold J0s;rw[hr.gn];refine⟨ω,ω,?_⟩;refine LoopWP.to gens.length (fun s=>s.1) (fun s=>s.1≤gens.length∧PI gens mon r.single r.Enum.Right d s.1 s.2.1 s.2.2.1 s.2.2.2.1 s.2.2.2.2.1 s.2.2.2.2.2.1 s.2.2.2.2.2.2.1 s.2.2.2.2.2.2.2.1 s.2.2.2.2.2.2.2.2∧s.2.2.2.2.2.2.1.length≤2000) ⟨by simp,by simpa using hr.pi hg hd,hw⟩ (fun s h=>h.1) ?_;rintro⟨x,row,E,Pf,Ls,R,W,Bh,m⟩ X ⟨hxl,hI,few⟩ hX;simp only at hxl hI few;have hel:=hI.si.elen;have rb:=hI.rb;have pl:=hI.si.pl;have ll:=hI.si.ll;have bl:=hI.si.bl;have rl:=hI.rw_;have hdl:=hI.dl;have sl:=hI.sg.1;have rtl:=hI.rt.1;dsimp only;unfold J2R;rw[hr.gn,hr.dn]
 split
 ·rename_i hlt;have hx:x<gens.length:=ω;have hv:=hgv.2.2 x hx;have hc:=Jdd (k:=x) ω;have hu:=hI.u_red;have hwl:=hI.si.wl d hdl;have huv:=vl_ok hg hu.1.1
  have hcp:compT (ix E (d:Int)) (ix gens (x:Int))=vl gens (ix W d++[lt x]):=by
   rw[hI.si.eix ω ω,J6x,J0j ω,show ((97+x:Nat):Int)-97=(x:Int) by omega,compT,if_pos (J79.2 ⟨huv.1,hv.1,ω⟩)]
  have hcv:=vl_ok hg (w:=ix W d++[lt x]) (LW.app.2 ⟨hu.1.1,LW.lt hx ω⟩);have hcl:=VF.len hcv.1;refine⟨ω,ω,ω,ω,J9l ?_⟩;rw[hcp];refine J0l ω ?_;rw[hc.2.2]
  split
  ·rename_i hm;have hf:=(hI.si.nm.has _ hcv.1).1 hm;obtain⟨k0,k1,k2⟩:=hI.si.num hf;refine⟨ω,ω,⟨ω,ω⟩,hc.1,hc.2.1,by simp;omega,ω,ω,?_⟩
   split
   ·rename_i hu0;exact⟨ω,ω,hX (x+1,_) ⟨by simp only;omega,hI.skip hg hx hf fun hn=>absurd hu0 hn,few⟩ rfl⟩
   ·rename_i hu0;obtain⟨hb,hq⟩:=JaF hI.si hdl hx hI.sg hI.rt hu0;refine⟨ω,ω,?_⟩
    rcases hq with ⟨e0,q0,q1,q2⟩ | ⟨e0,e1,e2,e3,q0,q1,q2⟩
    ·rw[if_pos e0];have mn:=hI.mn hg hx hf hu0 q0 q1 q2 hb;refine⟨ω,ω,ω,ω,?_⟩
     split
     ·rename_i p1;refine⟨ω,ω,?_⟩
      split
      ·rename_i p2;exact⟨ω,ω,by simp;omega,ω,ω,hX (x+1,_) ⟨by simp only;omega,hI.rule hg hx hf hu0 (mn.2 ⟨p1,p2⟩),few⟩ rfl⟩
      ·rename_i p2;exact⟨ω,ω,hX (x+1,_) ⟨by simp only;omega,hI.skip hg hx hf fun _ k=>p2 (mn.1 k).2,few⟩ rfl⟩
     ·rename_i p1;exact⟨ω,ω,hX (x+1,_) ⟨by simp only;omega,hI.skip hg hx hf fun _ k=>p1 (mn.1 k).1,few⟩ rfl⟩
    ·rw[if_neg e0];have mn:=hI.mn hg hx hf hu0 q0 q1 q2 hb;refine⟨ω,ω,ω,ω,ω,ω,?_⟩
     split
     ·rename_i p1;refine⟨ω,ω,?_⟩
      split
      ·rename_i p2;exact⟨ω,ω,by simp;omega,ω,ω,hX (x+1,_) ⟨by simp only;omega,hI.rule hg hx hf hu0 (mn.2 ⟨p1,p2⟩),few⟩ rfl⟩
      ·rename_i p2;exact⟨ω,ω,hX (x+1,_) ⟨by simp only;omega,hI.skip hg hx hf fun _ k=>p2 (mn.1 k).2,few⟩ rfl⟩
     ·rename_i p1;exact⟨ω,ω,hX (x+1,_) ⟨by simp only;omega,hI.skip hg hx hf fun _ k=>p1 (mn.1 k).1,few⟩ rfl⟩
  ·rename_i hm;have hf:vl gens (ix W d++[lt x])∉E:=fun hf=>hm ((hI.si.nm.has _ hcv.1).2 hf);have hu0:ix W d≠[]:=fun k=>hf (hI.Jbf hg hx k);obtain⟨hb,hq⟩:=JaF hI.si hdl hx hI.sg hI.rt hu0;refine⟨ω,ω,⟨ω,ω⟩,hc.1,hc.2.1,by simp;omega,?_⟩;by_cases h2000:W.length=2000
   ·rw[if_pos ω];refine hL (fun hF=>?_) (fun d' s hd' hs=>h2000▸hI.limit hg hx hu0 hf hd' hs) _
    have:=hF (vl gens (ix W d++[lt x])::E) (List.nodup_cons.2 ⟨hf,hI.si.nodup⟩) fun f hm=>by
     rcases List.mem_cons.1 hm with rfl | hm
     ·exact hcv
     ·exact hI.si.vf hg f hm
    simp only[List.length_cons] at this;omega
   rw[if_neg ω];refine⟨ω,ω,?_⟩
   rcases hq with ⟨e0,q0,q1,q2⟩ | ⟨e0,e1,e2,e3,q0,q1,q2⟩
   ·rw[if_pos e0];exact⟨ω,ω,J0l ω ⟨by simp;omega,by simp;omega,by simp;omega,by simp;omega,by simp;omega,ω,ω,hX (x+1,_) ⟨by simp only;omega,hI.new hg hx hu0 hf q0 q1 q2,by simp;omega⟩ rfl⟩⟩
   ·rw[if_neg e0];exact⟨ω,ω,ω,ω,J0l ω ⟨by simp;omega,by simp;omega,by simp;omega,by simp;omega,by simp;omega,ω,ω,hX (x+1,_) ⟨by simp only;omega,hI.new hg hx hu0 hf q0 q1 q2,by simp;omega⟩ rfl⟩⟩
 ·have:x=gens.length:=ω;subst this;refine⟨by simp;omega,⟨ω,ω⟩,?_⟩;have:=hK _ (hI.fin hg hr) few;rw[hr.gn,hr.dn] at this;exact this
end
end Sg
namespace Sg
open Go
theorem Jfw {xs:List Int} {j:Nat} (h:xs.length≤j):ix xs (j:Int)=0:=by
 simp[ix,List.getD_eq_getElem?_getD,List.getElem?_eq_none h]
def code4 (f:List Int):Int:=ix f (0:Nat)+4*ix f (1:Nat)+16*ix f (2:Nat)+64*ix f (3:Nat)
theorem entry4 {f:List Int} (hf:VF f=true) (hl:f.length≤4) (j:Nat):0≤ix f (j:Int)∧ix f (j:Int)<4:=by
 by_cases h:j<f.length
 ·have:=(J2j.1 hf).2.2 j h;omega
 ·rw[Jfw ω];omega
theorem Jft {gens:List (List Int)} (h:(ix gens 0).length≤4):Few gens:=by
 intro L hn hL;apply Classical.byContradiction;intro hlen
 obtain⟨a,b,hab,hb,he⟩:=pigeon 256 (fun m=>code4 (ix L (m:Int))) (fun m hm=>by
  obtain⟨h1,h2⟩:=hL _ (J0f.2 ⟨m,ω,rfl⟩);have e0:=entry4 h1 ω 0;have e1:=entry4 h1 ω 1;have e2:=entry4 h1 ω 2;have e3:=entry4 h1 ω 3
  simp only[code4];omega)
 obtain⟨a1,a2⟩:=hL _ (J0f.2 ⟨a,ω,rfl⟩);obtain⟨b1,b2⟩:=hL _ (J0f.2 ⟨b,ω,rfl⟩);have p0:=entry4 a1 ω 0;have p1:=entry4 a1 ω 1;have p2:=entry4 a1 ω 2;have p3:=entry4 a1 ω 3;have q0:=entry4 b1 ω 0;have q1:=entry4 b1 ω 1;have q2:=entry4 b1 ω 2;have q3:=entry4 b1 ω 3;simp only[code4] at he
 have:ix L (a:Int)=ix L (b:Int):=J09 ω fun j hj=>by
  have hj4:j<4:=ω
  rcases(by omega:j=0∨j=1∨j=2∨j=3) with rfl | rfl | rfl | rfl<;>omega
 rw[ix_lt ω,ix_lt ω] at this;have:=(List.pairwise_iff_getElem.1 hn) a b ω ω hab
 contradiction
end Sg
namespace Sg
open Go
set_option maxRecDepth 10000
section
variable {gens:List (List Int)} {mon:Bool}
def ofTup (s:Int×Bool×Int×List (List Int)×List (List Int)×List Int×List Int×List (List Int)×List Rule×List Str×List Int×List Int×(List (Str×Int))):run:=
 ⟨⟨s.1,s.2.1,s.2.2.2.1,s.2.2.2.2.1,s.2.2.2.2.2.1,s.2.2.2.2.2.2.1,s.2.2.2.2.2.2.2.1,s.2.2.2.2.2.2.2.2.1,s.2.2.1⟩,s.2.2.2.2.2.2.2.2.2.2.2.2,s.2.2.2.2.2.2.2.2.2.1,s.2.2.2.2.2.2.2.2.2.2.1,s.2.2.2.2.2.2.2.2.2.2.2.1⟩
def Lim (gens:List (List Int)) (mon:Bool) (d:Nat):Prop:=¬Few gens∧(∃s,RI gens mon d s∧d<s.words.length)∧∀d' s,d<d'→RI gens mon d' s→2000<s.words.length
theorem J5x {K:Enum→Int→Prop} (hg:GV gens=true) (hL:∀d,Lim gens mon d→K ⟨0,false,[],[],[],[],[],[],0⟩ 3) (h:∀r,RI gens mon r.words.length r→r.words.length≤2000→K r.Enum 0):J1d gens mon K:=by
 unfold J1d;refine J5w (fun hn=>absurd ⟨(J0w.1 hg).1,(J0w.1 hg).2.1⟩ hn) (fun _ hn=>by rw[hg] at hn;cases hn) fun _ r0 hr0=>?_;rw[Option.elim_some,if_pos rfl];refine LoopWP.to 2000 (fun s=>(ofTup s).Enum.Done.toNat) (fun s=>∃d,RI gens mon d (ofTup s)∧(ofTup s).words.length≤2000) ⟨0,hr0,by have:=hr0.wb;have:(ofTup (r0.Enum.Points,r0.Enum.Monoid,r0.Enum.Done,r0.Enum.Gens,r0.Enum.Elems,r0.Enum.Prefix,r0.Enum.Last,r0.Enum.Right,r0.Enum.Rules,r0.words,r0.behind,r0.single,r0.number)).words=r0.words:=rfl;rw[this];omega⟩ (fun s ⟨d,hd,hw⟩=>?_) ?_
 ·have:=hd.dl;rw[hd.dn];simp only[Int.toNat_natCast];omega
 ·rintro⟨k1,b1,k2,dg,de,dp,dlst,drt,dru,dw,db,ds,dm⟩ X ⟨d,hd,hw⟩ hX;dsimp only;unfold J5v;have hdn:k2=(d:Int):=hd.dn;have hel:de.length=dw.length:=hd.si.elen;have hdl:d≤dw.length:=hd.dl
  split
  ·rename_i e;have e2:d=dw.length:=ω;subst e2;exact h (ofTup (k1,b1,k2,dg,de,dp,dlst,drt,dru,dw,db,ds,dm)) hd hw
  ·rename_i e;refine J2I hg hd hw (show d<dw.length by omega) (fun hF hl q=>?_) fun r' hr' hw'=>?_
   ·rw[if_neg (by decide)];exact hL d ⟨hF,⟨_,hd,show d<dw.length by omega⟩,hl⟩
   rw[if_pos rfl];refine hX (r'.Enum.Points,r'.Enum.Monoid,r'.Enum.Done,r'.Enum.Gens,r'.Enum.Elems,r'.Enum.Prefix,r'.Enum.Last,r'.Enum.Right,r'.Enum.Rules,r'.words,r'.behind,r'.single,r'.number) ⟨d+1,hr',hw'⟩ ?_
   show r'.Enum.Done.toNat=k2.toNat+1
   rw[hr'.dn,hdn];simp only[Int.toNat_natCast]
end
end Sg
namespace Sg
open Go
theorem Jcu {α:Type} {r:α→α→Prop} (ir:∀a,¬r a a) (as:∀a b,r a b→¬r b a):∀{W V:List α},W.Pairwise r→V.Pairwise r→(∀w,w∈W↔w∈V)→W=V
  | [],[],_,_,_=>rfl
  | [],v::V,_,_,h=>by have:=(h v).2 (by simp);simp at this
  | w::W,[],_,_,h=>by have:=(h w).1 (by simp);simp at this
  | w :: W, v :: V, hw, hv, h => by
    obtain⟨w1,w2⟩:=List.pairwise_cons.1 hw
    obtain⟨v1,v2⟩:=List.pairwise_cons.1 hv
    have e:w=v:=by
      rcases List.mem_cons.1 ((h w).1 (by simp)) with k | k
      · exact k
      · rcases List.mem_cons.1 ((h v).2 (by simp)) with k2 | k2
        · exact k2.symm
        · exact absurd (v1 w k) (as _ _ (w1 v k2))
    subst e;rw[Jcu ir as w2 v2 fun x=>⟨fun hx=>?_,fun hx=>?_⟩]
    · rcases List.mem_cons.1 ((h x).1 (List.mem_cons_of_mem _ hx)) with k | k
      · subst k;exact absurd (w1 x hx) (ir x)
      · exact k
    · rcases List.mem_cons.1 ((h x).2 (List.mem_cons_of_mem _ hx)) with k | k
      · subst k;exact absurd (v1 x hx) (ir x)
      · exact k
section
variable {gens:List (List Int)} {mon:Bool}
theorem RU.uniq {R S:List Rule} {F:Str→Prop} (h:RU gens mon R F) (k:RU gens mon S F):R=S:=
 Jcu (r:=fun a b:Rule=>SL a.Left b.Left) (fun a=>SL.irrefl _) (fun a b h=>h.asymm) h.asc k.asc fun w=>(h.mem w).trans (k.mem w).symm
theorem JdA {W:List Str} (hW:W.Pairwise SL) {P1 L1 B1 P2 L2 B2:List Int} {i:Int} (h:AT mon W P1 L1 B1 i) (k:AT mon W P2 L2 B2 i):ix P1 i=ix P2 i∧ix L1 i=ix L2 i∧ix B1 i=ix B2 i:=by
 rcases h with ⟨a1,a2,a3,a4⟩ | ⟨p,b,a1,a2,a3,a4⟩<;>rcases k with ⟨c1,c2,c3,c4⟩ | ⟨q,c,c1,c2,c3,c4⟩
 ·exact⟨ω,ω,ω⟩
 ·rw[a1] at c1;simp at c1
 ·rw[c1] at a1;simp at a1
 ·rw[a1] at c1;obtain⟨e1,e2⟩:=List.append_inj' c1 rfl
  have e2:b=c:=by simpa using e2
  subst e1 e2;exact⟨a3.uniq hW c3,ω,a4.uniq hW c4⟩
theorem JdX {W:List Str} {F:Str→Prop} (h:RL gens mon W F) {i j:Int} (i0:0≤i) (i1:i<W.length) (j0:0≤j) (j1:j<W.length) (e:vl gens (ix W i)=vl gens (ix W j)):i=j:=by
 have:=((h.mem _).1 (J0S i0 i1)).1.uniq ((h.mem _).1 (J0S j0 j1)).1 e;obtain⟨a,rfl⟩:=Int.eq_ofNat_of_zero_le i0;obtain⟨b,rfl⟩:=Int.eq_ofNat_of_zero_le j0;have:=J74 h.asc (i:=a) (j:=b) ω ω this;omega
theorem RI.J7k (hg:GV gens=true) {d:Nat} {r s:run} (h:RI gens mon d r) (k:RI gens mon d s):r.words=s.words∧r.Enum=s.Enum:=by
 have e:=JcN hg h.si.rl k.si.rl h.dl k.dl;refine⟨e,?_⟩;obtain⟨⟨Pt,Mo,Ge,El,Pr,La,Ri,Ru,Dn⟩,nu,wo,be,si⟩:=r;obtain⟨⟨Pt',Mo',Ge',El',Pr',La',Ri',Ru',Dn'⟩,nu',wo',be',si'⟩:=s;obtain⟨h1,h2,h3,h4,h5,h6,h7,h8,h9,h10,h11,h12⟩:=h;obtain⟨k1,k2,k3,k4,k5,k6,k7,k8,k9,k10,k11,k12⟩:=k;simp only at e h1 h2 h3 h4 h5 h6 h7 h8 h9 k1 k2 k3 k4 k5 k6 k7 k8 k9;subst e
 have eE:El=El':=by rw[h7.el,k7.el]
 have eR:Ru=Ru':=h7.ru.uniq k7.ru;have pl:=h7.pl;have pl':=k7.pl;have ll:=h7.ll;have ll':=k7.ll;have eP:Pr=Pr':=J09 ω fun j hj=>(JdA h7.rl.asc (h7.at_ j ω) (k7.at_ j ω)).1;have eL:La=La':=J09 ω fun j hj=>(JdA h7.rl.asc (h7.at_ j ω) (k7.at_ j ω)).2.1;have r1:=h9.1;have r2:=k9.1
 have eRi:Ri=Ri':=J09 ω fun i hi=>by
  obtain⟨a1,a2⟩:=h9.2 i ω;obtain⟨b1,b2⟩:=k9.2 i ω;refine J09 ω fun y hy=>?_;obtain⟨x1,x2,x3⟩:=a2 y ω;obtain⟨y1,y2,y3⟩:=b2 y ω;exact JdX h7.rl x1 x2 y1 y2 (x3.trans y3.symm)
 rw[h1,k1,h2,k2,h3,k3,h4,k4,eE,eR,eP,eL,eRi]
end
end Sg
namespace Sg
open Go
set_option maxRecDepth 10000
theorem J0E {a b:List Int} {K:Bool→Prop} (h:K (decide (a=b))):J0k a b K:=J8o h
theorem J0R {a b:List (List Int)} {K:Bool→Prop} (h:K (decide (a=b))):J0m a b K:=J8R h
theorem Jer {a b:Rule}:(a.Left=b.Left∧a.Right=b.Right)↔a=b:=by
 cases a;cases b;simp
theorem J2S {a b:List Rule} {K:Bool→Prop} (h:K (decide (a=b))):J0u a b K:=by
 unfold J0u;intro ha hb
 split
 ·rename_i hl;have hl':a.length=b.length:=ω;refine LoopWP.to a.length (fun k:Nat=>k) (fun k=>k≤a.length∧∀j:Nat,j<k→ix a j=ix b j) ⟨ω,fun j hj=>by omega⟩ (fun s h=>h.1) ?_;rintro k X ⟨hk,hI⟩ hX
  show J1f a b K X k
  unfold J1f
  split
  ·refine⟨ω,ω,ω,ω,?_⟩
   split
   ·rename_i he;refine hX (k+1) ⟨ω,fun j hj=>?_⟩ rfl;by_cases hjk:j=k
    ·subst hjk;exact Jer.1 he
    ·exact hI j ω
   ·rename_i hne;have:a≠b:=fun h=>hne (by rw[h];exact⟨rfl,rfl⟩);simpa [this] using h
  ·have:a=b:=J09 hl' fun j hj=>hI j ω;simpa [this] using h
 ·rename_i hl;have:a≠b:=fun h=>hl (by rw[h]);simpa [this] using h
def VE (e:Enum):Prop:=GV e.Gens=true∧∃d r,RI e.Gens e.Monoid d r∧r.words.length≤2000∧r.Enum=e
theorem VE.done {e:Enum} (h:VE e):∃d r,RI e.Gens e.Monoid d r∧r.words.length≤2000∧r.Enum=e∧e.Done=(d:Int)∧d≤r.words.length:=by
 obtain⟨hg,d,r,h1,h2,h3⟩:=h;exact⟨d,r,h1,h2,h3,h3▸h1.dn,h1.dl⟩
theorem VE.of {e:Enum} {d:Nat} {r:run} (hg:GV e.Gens=true) (hr:RI e.Gens e.Monoid d r) (hd:e.Done=(d:Int)) (h:VE e):r.Enum=e:=by
 obtain⟨d',s,k1,k2,k3,k4,k5⟩:=h.done;have:d=d':=ω;subst this;rw[(hr.J7k hg k1).2,k3]
theorem VE.mk' {gens:List (List Int)} {mon:Bool} {d:Nat} {r:run} (hg:GV gens=true) (hr:RI gens mon d r) (hw:r.words.length≤2000):VE r.Enum:=by
 have e1:=hr.gn;have e2:=hr.mon_;exact⟨by rw[e1];exact hg,d,r,by rw[e1,e2];exact hr,hw,rfl⟩
theorem Jfx {e:Enum} {d:Nat} (h:Lim e.Gens e.Monoid d) (hd:(d:Int)<e.Done):¬VE e:=fun hv=>by
 obtain⟨d',s,k1,k2,k3,k4,k5⟩:=hv.done
 have:=h.2.2 d' s ω k1
 omega
theorem FD_dn {gens:List (List Int)} {d:Nat} {W:List Str} {v w:Str} (h:SL v w) (hw:FD gens d W w):FD gens d W v:=FF.dn h hw
theorem RI.rlT {gens:List (List Int)} {mon:Bool} {r:run} (hg:GV gens=true) (hr:RI gens mon r.words.length r):RL gens mon r.words (fun _=>True):=by
 have hk:=(J0w.1 hg).2.1;have h1:=hr.si.rl;have hne:=hr.ne;unfold FD at h1;rw[if_neg ω] at h1;exact⟨h1.asc,fun w=>⟨fun hw=>⟨((h1.mem w).1 hw).1,trivial⟩,fun hw=>h1.all hg ω ω hw.1⟩⟩
theorem RI.J6r {gens:List (List Int)} {mon:Bool} {r s:run} {d:Nat} (hg:GV gens=true) (hr:RI gens mon r.words.length r) (hs:RI gens mon d s):s.words.length≤r.words.length:=by
 have:=hs.ne;have:=(hs.si.rl.part (hr.rlT hg) (fun _ _=>trivial) (fun v w hvw hw=>FD_dn hvw hw) (s.words.length-1) ω).1;omega
theorem JeQ {e:Enum} {r:run} (hg:GV e.Gens=true) (hr:RI e.Gens e.Monoid r.words.length r) (hd:(r.words.length:Int)<e.Done):¬VE e:=fun hv=>by
 obtain⟨d',s,k1,k2,k3,k4,k5⟩:=hv.done
 have:=hr.J6r hg k1
 omega
theorem JbO {r e:Enum} (hg:r.Gens=e.Gens) (hm:r.Monoid=e.Monoid):r=e↔r.Points=e.Points∧r.Done=e.Done∧r.Elems=e.Elems∧r.Prefix=e.Prefix∧r.Last=e.Last∧r.Right=e.Right∧r.Rules=e.Rules:=by
 cases r;cases e
 simp only at hg hm;subst hg hm;simp only[Enum.mk.injEq,true_and];constructor
 ·rintro⟨h1,h2,h3,h4,h5,h6,h7⟩;exact⟨h1,h7,h2,h3,h4,h5,h6⟩
 ·rintro⟨h1,h7,h2,h3,h4,h5,h6⟩;exact⟨h1,h2,h3,h4,h5,h6,h7⟩
structure RK (e:Enum) (K:Option run→Bool→Prop):Prop where
 no:¬VE e→K none false
 no':¬VE e→∀r,K (some r) false
 yes:GV e.Gens=true→∀d r,RI e.Gens e.Monoid d r→r.words.length≤2000→r.Enum=e→K (some r) true
theorem JcK {e:Enum} {K:Option run→Bool→Prop} (hK:RK e K) (hg:GV e.Gens=true) {d:Nat} {r:run} (hr:RI e.Gens e.Monoid d r) (hw:r.words.length≤2000) (hd:e.Done≤(d:Int)) (hd0:(d:Int)≤e.Done∨d=0) :
  (if r.Enum.Points=e.Points then (if r.Enum.Done=e.Done then (J0m r.Enum.Elems e.Elems fun r132=>(if r132=true then (J0k r.Enum.Prefix e.Prefix fun r141=>(if r141=true then (J0k r.Enum.Last e.Last fun r150=>(if r150=true then (J0m r.Enum.Right e.Right fun r159=>(if r159=true then (J0u r.Enum.Rules e.Rules fun r168=>(K (some r) r168)) else (K (some r) false))) else (K (some r) false))) else (K (some r) false))) else (K (some r) false))) else (K (some r) false)) else (K (some r) false)):=by
 have dn:=hr.dn
 have nv:r.Enum≠e→¬VE e:=fun hne hv=>by
  obtain⟨d',s,k1,k2,k3,k4,k5⟩:=hv.done;exact hne (hv.of hg hr ω)
 have pp:=JbO hr.gn hr.mon_;by_cases he:r.Enum=e
 ·have hy:=hK.yes hg d r hr hw he;obtain⟨p1,p2,p3,p4,p5,p6,p7⟩:=pp.1 he;rw[if_pos p1,if_pos p2];refine J0R ?_;rw[if_pos (decide_eq_true p3)];refine J0E ?_;rw[if_pos (decide_eq_true p4)];refine J0E ?_;rw[if_pos (decide_eq_true p5)];refine J0R ?_;rw[if_pos (decide_eq_true p6)];refine J2S ?_;rw[decide_eq_true p7];exact hy
 ·have hn:=hK.no' (nv he) r
  split
  ·split
   ·refine J0R ?_
    split
    ·refine J0E ?_
     split
     ·refine J0E ?_
      split
      ·refine J0R ?_
       split
       ·refine J2S ?_;by_cases h7:r.Enum.Rules=e.Rules
        ·rename_i p1 p2 p3 p4 p5 p6;exact absurd (pp.2 ⟨p1,p2,of_decide_eq_true p3,of_decide_eq_true p4,of_decide_eq_true p5,of_decide_eq_true p6,h7⟩) he
        ·rw[decide_eq_false h7];exact hn
       ·exact hn
      ·exact hn
     ·exact hn
    ·exact hn
   ·exact hn
  ·exact hn
theorem JbX {e:Enum} {K:Option run→Bool→Prop} (hK:RK e K) (hg:GV e.Gens=true) {r0:run} (hr0:RI e.Gens e.Monoid 0 r0) :
  LoopWP (S:=Int×Bool×Int×List (List Int)×List (List Int)×List Int×List Int×List (List Int)×List Rule×List Str×List Int×List Int×(List (Str×Int))) (fun s X=>J2C e K (fun k2_37 b2_38 k2_39 d_40 d_46 d_52 d_58 d_64 d_70 d_76 d_82 d_88 m2_94=>X (k2_37,b2_38,k2_39,d_40,d_46,d_52,d_58,d_64,d_70,d_76,d_82,d_88,m2_94)) s.1 s.2.1 s.2.2.1 s.2.2.2.1 s.2.2.2.2.1 s.2.2.2.2.2.1 s.2.2.2.2.2.2.1 s.2.2.2.2.2.2.2.1 s.2.2.2.2.2.2.2.2.1 s.2.2.2.2.2.2.2.2.2.1 s.2.2.2.2.2.2.2.2.2.2.1 s.2.2.2.2.2.2.2.2.2.2.2.1 s.2.2.2.2.2.2.2.2.2.2.2.2)
   (r0.Enum.Points,r0.Enum.Monoid,r0.Enum.Done,r0.Enum.Gens,r0.Enum.Elems,r0.Enum.Prefix,r0.Enum.Last,r0.Enum.Right,r0.Enum.Rules,r0.words,r0.behind,r0.single,r0.number):=by
 refine LoopWP.to 2000 (fun s=>(ofTup s).Enum.Done.toNat) (fun s=>∃d,RI e.Gens e.Monoid d (ofTup s)∧(ofTup s).words.length≤2000∧((d:Int)≤e.Done∨d=0)) ⟨0,hr0,?_,.inr rfl⟩ (fun s ⟨d,hd,hw,_⟩=>?_) ?_
 ·have:=hr0.wb
  show r0.words.length≤2000
  omega
 ·have:=hd.dl;rw[hd.dn];simp only[Int.toNat_natCast];omega
 ·rintro⟨k1,b1,k2,dg,de,dp,dlst,drt,dru,dw,db,ds,dm⟩ X ⟨d,hd,hw,h0⟩ hX;dsimp only;unfold J2C;have hdn:k2=(d:Int):=hd.dn;have hel:de.length=dw.length:=hd.si.elen;have hdl:d≤dw.length:=hd.dl
  split
  ·rename_i hlt
   split
   ·rename_i e2;have e3:d=dw.length:=ω;subst e3;exact hK.no (JeQ (r:=ofTup (k1,b1,k2,dg,de,dp,dlst,drt,dru,dw,db,ds,dm)) hg hd (show (dw.length:Int)<e.Done by omega))
   ·rename_i e2;refine J2I hg hd hw (show d<dw.length by omega) (fun hF hl q=>?_) fun r' hr' hw'=>?_
    ·rw[if_neg (by decide)];exact hK.no (Jfx ⟨hF,⟨_,hd,show d<dw.length by omega⟩,hl⟩ ω)
    rw[if_pos rfl];refine hX (r'.Enum.Points,r'.Enum.Monoid,r'.Enum.Done,r'.Enum.Gens,r'.Enum.Elems,r'.Enum.Prefix,r'.Enum.Last,r'.Enum.Right,r'.Enum.Rules,r'.words,r'.behind,r'.single,r'.number) ⟨d+1,hr',hw',.inl ω⟩ ?_
    show r'.Enum.Done.toNat=k2.toNat+1
    rw[hr'.dn,hdn];simp only[Int.toNat_natCast]
  ·rename_i hlt;exact JcK hK hg hd hw ω h0
theorem J58 {e:Enum} {K:Option run→Bool→Prop} (hK:RK e K):J0Z e K:=by
 have nv:¬GV e.Gens=true→K none false:=fun h=>hK.no fun hv=>h hv.1;unfold J0Z;refine J5w (fun hn=>?_) (fun _ hn=>?_) fun hg r0 hr0=>?_
 ·rw[Option.elim_none,if_neg (by decide)];exact nv fun hg=>hn ⟨(J0w.1 hg).1,(J0w.1 hg).2.1⟩
 ·rw[Option.elim_none,if_neg (by decide)]
  exact nv fun hg=>by rw[hg] at hn;cases hn
 ·rw[Option.elim_some,if_pos rfl];exact JbX hK hg hr0
end Sg
namespace Sg
open Go
set_option maxRecDepth 10000
def Fin (gens:List (List Int)) (mon:Bool) (r:run):Prop:=RI gens mon r.words.length r∧r.words.length≤2000
section
variable {gens:List (List Int)} {mon:Bool}
theorem Fin.uniq (hg:GV gens=true) {r s:run} (h:Fin gens mon r) (k:Fin gens mon s):r.Enum=s.Enum∧r.words=s.words:=by
 have a:=RI.J6r hg h.1 k.1;have b:=RI.J6r hg k.1 h.1;have e:r.words.length=s.words.length:=ω;have k1:=k.1;rw[←e] at k1;exact⟨(h.1.J7k hg k1).2,(h.1.J7k hg k1).1⟩
end
end Sg
namespace Sg
open Go
set_option maxRecDepth 10000
def fnd (E:List (List Int)) (f:List Int):Int:=if f∈E then (E.idxOf f:Int) else -1
theorem Jca {E:List (List Int)} (hn:E.Nodup) {i:Nat} (hi:i<E.length):fnd E (ix E (i:Int))=i:=by
 have hm:ix E (i:Int)∈E:=J0f.2 ⟨i,hi,rfl⟩;have h1:E.idxOf (ix E (i:Int))<E.length:=List.idxOf_lt_length_iff.2 hm;have h2:E[E.idxOf (ix E (i:Int))]=ix E (i:Int):=List.getElem_idxOf h1;rw[fnd,if_pos hm];have:=(List.getElem_inj hn).1 (h2.trans (ix_lt hi));omega
theorem Jev {E:List (List Int)} {f:List Int} (h:f∉E):fnd E f=-1:=by rw[fnd,if_neg h]
theorem JeV {E:List (List Int)} {f:List Int} (h:f∈E):0≤fnd E f∧fnd E f<E.length∧ix E (fnd E f)=f:=by
 have h1:E.idxOf f<E.length:=List.idxOf_lt_length_iff.2 h;rw[fnd,if_pos h];refine⟨ω,ω,?_⟩;rw[ix_lt h1];exact List.getElem_idxOf h1
section
variable {gens:List (List Int)} {mon:Bool} {F:Str→Prop} {E:List (List Int)} {Pf Ls:List Int} {R:List Rule} {W:List Str} {Bh:List Int} {m:List (Str×Int)} {r:run}
theorem SI.fnd_ (h:SI gens mon F E Pf Ls R W Bh m) {i:Int} (h0:0≤i) (h1:i<W.length) {f:List Int} (he:vl gens (ix W i)=f):fnd E f=i:=by
 obtain⟨j,rfl⟩:=Int.eq_ofNat_of_zero_le h0;rw[←he,←h.eix h0 h1];exact Jca h.nodup (by rw[h.elen];omega)
theorem SI.mgt_ (h:SI gens mon F E Pf Ls R W Bh m) {f:List Int} (hf:f∈E):mgt m (txt f)=fnd E f:=by
 obtain⟨k0,k1,k2⟩:=h.num hf;exact(h.fnd_ k0 k1 k2).symm
theorem J96 {e:Enum} {f:List Int} {K:Int→Prop} (h:¬VE e→K (-1)) (h1:VE e→K (fnd e.Elems f)):J1y e f K:=by
 unfold J1y;refine J58 ⟨fun hv=>?_,fun hv r=>?_,fun hg d r hr hw he=>?_⟩
 ·rw[Option.elim_none,if_neg (by decide)];exact h hv
 ·rw[Option.elim_some,if_neg (by decide)];exact h hv
 ·have hk:=h1 ⟨hg,d,r,hr,hw,he⟩;rw[←he] at hk;rw[Option.elim_some,if_pos rfl];refine J1A ?_
  split
  ·rename_i hv;have hl:=VF.len hv;refine J0l ω ?_
   split
   ·rename_i hm;have hf:=(hr.si.nm.has f hv).1 hm;rw[hr.si.mgt_ hf];exact hk
   ·rename_i hm;rw[Jev fun hf=>hm ((hr.si.nm.has f hv).2 hf)] at hk;exact hk
  ·rename_i hv;rw[Jev fun hf=>hv (hr.si.vf hg f hf).1] at hk;exact hk
def FE (e:Enum):Prop:=VE e∧e.Done=(e.Elems.length:Int)
theorem RI.fin_ {e:Enum} {d:Nat} (hr:RI e.Gens e.Monoid d r) (hw:r.words.length≤2000) (he:r.Enum=e) (hd:r.Enum.Done=(r.Enum.Elems.length:Int)):Fin e.Gens e.Monoid r:=by
 have hel:=hr.si.elen;have hdn:=hr.dn;have:d=r.words.length:=ω;subst this;exact⟨hr,hw⟩
theorem Fin.VE (hg:GV gens=true) (h:Fin gens mon r):VE r.Enum:=VE.mk' hg h.1 h.2
theorem Fin.FE (hg:GV gens=true) (h:Fin gens mon r):FE r.Enum:=⟨h.VE hg,by rw[h.1.dn,h.1.si.elen]⟩
theorem RI.gm {d:Nat} (h:RI gens mon d r):r.Enum.Gens=gens∧r.Enum.Monoid=mon:=⟨h.gn,h.mon_⟩
theorem Jdq {u v:Str} (h:vl gens u=vl gens v) (b:UInt8):vl gens (u++[b])=vl gens (v++[b]):=by rw[J6x,J6x,h]
end
end Sg
namespace Sg
open Go
set_option maxRecDepth 10000
def tabT (E:List (List Int)):List (List Int):=E.map fun f=>E.map fun g=>fnd E (compF f g)
theorem Jdw {d T:List (List Int)} {k:Nat} (hl:d.length=T.length) (hk:k<T.length) (h:∀j:Nat,j<k→ix d j=ix T j) (hr:ix d (k:Int)=ix T (k:Int)):∀j:Nat,j<k+1→ix d j=ix T j:=upS h hr
section
variable {gens:List (List Int)} {mon:Bool} {r:run}
theorem RI.JdV (hg:GV gens=true) (hr:RI gens mon r.words.length r) {i:Nat} (hi:i<r.words.length) :
  (ix r.words i=[]∧ix r.Enum.Last i=-1) ∨
  (ix r.Enum.Prefix i=-1∧∃x,x<gens.length∧ix r.words i=[lt x]∧ix r.Enum.Last i=(x:Int)) ∨
  (∃p x:Nat,p<i∧ix r.Enum.Prefix i=(p:Int)∧x<gens.length∧ix r.words i=ix r.words p++[lt x]∧ix r.Enum.Last i=(x:Int)):=by
 have hk6:=(J0w.1 hg).2.1
 rcases hr.si.at_ i hi with ⟨h1,h2,h3,h4⟩ | ⟨p,b,h1,h2,h3,h4⟩
 ·exact .inl ⟨h1,h3⟩
 ·have hw:=(hr.si.red (i:=(i:Int)) ω ω).1.1;rw[h1] at hw;obtain⟨x,hx,rfl⟩:=LW.letter ω (LW.app.1 hw).2;rw[J0j ω] at h2
  rcases h3 with ⟨e1,e2,e3⟩ | ⟨e1,e2,e3,e4⟩
  ·exact .inr (.inl ⟨e3,x,hx,by rw[h1,e1];rfl,ω⟩)
  ·obtain⟨q,hq⟩:=Int.eq_ofNat_of_zero_le e2;rw[hq] at e2 e3 e4;refine .inr (.inr ⟨q,x,?_,hq,hx,by rw[h1,e4],ω⟩);refine J60 hr.si.rl.asc ω hi ?_;rw[e4,h1];exact .inl (by simp)
theorem RI.J8l (hr:RI gens mon r.words.length r) {q:Int} {x:Nat} {w:Str} (q0:0≤q) (q1:q<r.words.length) (hx:x<gens.length) (hq:vl gens (ix r.words q)=vl gens w) :
  q<r.Enum.Right.length∧(ix r.Enum.Right q).length=gens.length∧0≤ix (ix r.Enum.Right q) x∧ix (ix r.Enum.Right q) x<r.words.length∧vl gens (ix r.words (ix (ix r.Enum.Right q) x))=vl gens (w++[lt x]):=by
 obtain⟨i,rfl⟩:=Int.eq_ofNat_of_zero_le q0;obtain⟨r1,r2⟩:=hr.rt.2 i ω;obtain⟨r3,r4,r5⟩:=r2 x hx;have:=hr.rt.1;exact⟨ω,r1,r3,r4,by rw[r5];exact Jdq hq _⟩
theorem JbD {E:List (List Int)} {i x:Nat} (hi:i<E.length) (hx:x<E.length):ix (ix (tabT E) i) x=fnd E (compF (ix E i) (ix E x)):=by
 rw[tabT,J2M _ ω ω,J2M _ ω ω]
theorem Je2 {E:List (List Int)} {i:Nat} (hi:i<E.length):(ix (tabT E) i).length=E.length:=by
 rw[tabT,J2M _ ω ω];simp
theorem Jay (hg:GV gens=true) (hr:RI gens mon r.words.length r) {i j:Nat} (hi:i<r.words.length) (hj:j<r.words.length) {v:Int} (v0:0≤v) (v1:v<r.words.length) (hv:vl gens (ix r.words v)=vl gens (ix r.words i++ix r.words j)):v=ix (ix (tabT r.Enum.Elems) i) j:=by
 have hel:=hr.si.elen;have hw:=(hr.si.red (i:=(i:Int)) ω ω).1.1;have hw2:=(hr.si.red (i:=(j:Int)) ω ω).1.1;rw[JbD ω ω,hr.si.eix ω ω,hr.si.eix ω ω,←J8q hg hw hw2];exact(hr.si.fnd_ v0 v1 hv).symm
theorem JeG (hg:GV gens=true) (hr:RI gens mon r.words.length r) {i j:Nat} (hi:i<r.words.length) (hj:j<r.words.length):0≤ix (ix (tabT r.Enum.Elems) i) j∧ix (ix (tabT r.Enum.Elems) i) j<r.words.length∧vl gens (ix r.words (ix (ix (tabT r.Enum.Elems) i) j))=vl gens (ix r.words i++ix r.words j):=by
 have w1:=(hr.si.red (i:=(i:Int)) ω ω).1;have w2:=(hr.si.red (i:=(j:Int)) ω ω).1;have hwd:Wd gens mon (ix r.words i++ix r.words j):=⟨LW.app.2 ⟨w1.1,w2.1⟩,w1.2.imp id fun h=>by simp[h]⟩;obtain⟨s,s1,s2,s3⟩:=J7s hwd;obtain⟨q,hq,e⟩:=J0f.1 (((hr.rlT hg).mem s).2 ⟨s1,trivial⟩);have h:=Jay hg hr hi hj (v:=(q:Int)) ω ω (by rw[e,s2]);rw[←h];exact⟨ω,ω,by rw[e,s2]⟩
theorem Jek {d T:List (List Int)} {i x:Nat} {v:Int} (hd:d.length=T.length) (hi:i<T.length) (hx:x<(ix d (i:Int)).length) (h1:∀j:Nat,j<i→ix d j=ix T j) (h2:∀y:Nat,y<x→ix (ix d i) y=ix (ix T i) y) (hv:v=ix (ix T i) x) :
  (st d (i:Int) (st (ix d (i:Int)) (x:Int) v)).length=T.length∧(ix (st d (i:Int) (st (ix d (i:Int)) (x:Int) v)) i).length=(ix d (i:Int)).length∧(∀j:Nat,j<i→ix (st d (i:Int) (st (ix d (i:Int)) (x:Int) v)) j=ix T j)∧∀y:Nat,y<x+1→ix (ix (st d (i:Int) (st (ix d (i:Int)) (x:Int) v)) i) y=ix (ix T i) y:=by
 have e:ix (st d (i:Int) (st (ix d (i:Int)) (x:Int) v)) i=st (ix d (i:Int)) (x:Int) v:=by
  rw[ix_st _ ω ω ω,if_pos rfl]
 refine⟨by simpa using hd,by rw[e];simp,fun j hj=>?_,fun y hy=>?_⟩
 ·rw[ix_st _ ω ω ω,if_neg ω];exact h1 j hj
 ·rw[e,ix_st _ ω ω ω]
  split
  ·rename_i he;have:y=x:=ω;subst this;exact hv
  ·exact h2 y ω
theorem J8K {e:Enum} {K:List (List Int)→Int→Prop} (h8:¬VE e→K [] 8) (h7:VE e→¬FE e→K [] 7) (h3:FE e→400<e.Elems.length→K [] 3) (h0:FE e→e.Elems.length≤400→K (tabT e.Elems) 0):J1S e K:=by
 unfold J1S;refine J58 ⟨fun hv=>?_,fun hv r=>?_,fun hg d r hr hw he=>?_⟩
 ·rw[Option.elim_none,if_neg (by decide)];exact h8 hv
 ·rw[Option.elim_some,if_neg (by decide)];exact h8 hv
 ·have hv:VE e:=⟨hg,d,r,hr,hw,he⟩;subst he;have hel:=hr.si.elen;rw[Option.elim_some,if_pos rfl]
  split
  ·rename_i hd;have fe:FE r.Enum:=⟨hv,hd⟩
   split
   ·exact h3 fe ω
   have hf:=(hr.fin_ hw rfl hd);have hk:=h0 fe ω;rw[hr.gm.1,hr.gm.2] at hf;rw[hr.gm.1] at hg;generalize r.Enum.Monoid=mon at hf;generalize r.Enum.Gens=gens at hf hg;clear hr hv h8 h7 h3 h0 d hd fe;have hr:=hf.1;have hgn:=hr.gn;have hk6:=(J0w.1 hg).2.1;refine⟨ω,ω,?_⟩;refine LoopWP.to r.words.length (fun s:Nat×List (List Int)=>s.1) (fun s=>s.1≤r.words.length∧s.2.length=r.words.length∧∀j:Nat,j<s.1→ix s.2 j=ix (tabT r.Enum.Elems) j) ⟨by simp,by simp[hel],fun j hj=>by simp at hj⟩ (fun s h=>h.1) ?_;rintro⟨i,d⟩ X ⟨hi,hdl,hI⟩ hX;simp only at hi hdl hI;dsimp only;unfold J5F
   have hTl:(tabT r.Enum.Elems).length=r.words.length:=by simp[tabT,hel]
   simp only[List.length_replicate,J02]
   split
   ·rename_i hlt;have hi':i<r.words.length:=ω;refine⟨ω,ω,ω,ω,ω,ω,?_⟩
    have e0:ix (st d (i:Int) (List.replicate r.Enum.Elems.length (0:Int))) (i:Int)=List.replicate r.Enum.Elems.length (0:Int):=by rw[ix_st _ ω ω ω,if_pos rfl]
    refine LoopWP.to r.words.length (fun s:Nat×List (List Int)=>s.1) (fun s=>s.1≤r.words.length∧s.2.length=r.words.length∧(ix s.2 i).length=r.words.length∧(∀j:Nat,j<i→ix s.2 j=ix (tabT r.Enum.Elems) j)∧∀y:Nat,y<s.1→ix (ix s.2 i) y=ix (ix (tabT r.Enum.Elems) i) y)
     ⟨by simp,by simpa using hdl,by simp only;rw[e0];simp[hel],fun j hj=>?_,fun y hy=>by simp at hy⟩ (fun s h=>h.1) ?_
    ·simp only;rw[ix_st _ ω ω ω,if_neg ω];exact hI j hj
    rintro⟨x,d2⟩ X2 ⟨hx,hdl2,hrl,hI1,hI2⟩ hX2;simp only at hx hdl2 hrl hI1 hI2;dsimp only;unfold J5G;have hpl:=hr.si.pl;have hll:=hr.si.ll;rw[e0];simp only[List.length_replicate]
    split
    ·rename_i hlt2;have hx':x<r.words.length:=ω
     have fin:∀v,v=ix (ix (tabT r.Enum.Elems) i) x→X2 (x+1,st d2 (i:Int) (st (ix d2 (i:Int)) (x:Int) v)):=fun v hv=>by
      obtain⟨c1,c2,c3,c4⟩:=Jek (T:=tabT r.Enum.Elems) ω ω ω hI1 hI2 hv;exact hX2 (x+1,_) ⟨by simp only;omega,by simp only;omega,by simp only;omega,c3,c4⟩ rfl
     refine⟨ω,ω,ω,ω,?_⟩
     rcases hr.JdV hg hx' with ⟨a1,a2⟩ | ⟨a1,y,a2,a3,a4⟩ | ⟨p,y,a0,a1,a2,a3,a4⟩
     ·rw[if_pos ω];refine⟨ω,ω,ω,ω,⟨ω,ω⟩,fin _ (Jay hg hr hi' hx' ω ω ?_)⟩;rw[a1,List.append_nil]
     ·rw[if_neg ω,if_pos ω];obtain⟨b1,b2,b3,b4,b5⟩:=hr.J8l (q:=(i:Int)) ω ω a2 rfl;rw[a4];refine⟨ω,ω,ω,b1,ω,ω,ω,ω,⟨ω,ω⟩,fin _ (Jay hg hr hi' hx' b3 b4 ?_)⟩;rw[b5,a3]
     ·rw[if_neg ω,if_neg ω];rw[a4,a1];have ep:=hI2 p a0;obtain⟨g1,g2,g3⟩:=JeG hg hr (i:=i) (j:=p) hi' ω;obtain⟨b1,b2,b3,b4,b5⟩:=hr.J8l g1 g2 a2 g3;rw[←ep] at g1 g2 g3 b1 b2 b3 b4 b5;refine⟨ω,ω,ω,ω,ω,ω,g1,b1,ω,ω,ω,ω,⟨ω,ω⟩,fin _ (Jay hg hr hi' hx' b3 b4 ?_)⟩;rw[b5,a3,List.append_assoc]
    ·have hxg:x=r.words.length:=ω;refine⟨⟨ω,ω⟩,hX (i+1,d2) ⟨by simp only;omega,hdl2,Jdw (d:=d2) ω ω hI1 (J09 ?_ fun y hy=>hI2 y ω)⟩ rfl⟩;rw[Je2 ω];omega
   ·have hin:i=r.words.length:=ω;subst hin;have:d=tabT r.Enum.Elems:=J09 ω fun j hj=>hI j ω;rw[this];exact hk
  ·rename_i hd;exact h7 hv fun k=>hd k.2
end
end Sg
namespace Sg
open Go
set_option maxRecDepth 10000
section
variable {gens:List (List Int)} {mon:Bool} {r:run}
end
end Sg
namespace Sg
open Go
set_option maxRecDepth 10000
section
variable {gens:List (List Int)} {mon:Bool} {r:run}
theorem RI.Jce (hg:GV gens=true) (hr:RI gens mon r.words.length r) {w:Str} (hw:Wd gens mon w):0≤fnd r.Enum.Elems (vl gens w)∧fnd r.Enum.Elems (vl gens w)<r.words.length∧Red gens mon (ix r.words (fnd r.Enum.Elems (vl gens w)))∧vl gens (ix r.words (fnd r.Enum.Elems (vl gens w)))=vl gens w:=by
 obtain⟨v,v1,v2,v3⟩:=J7s hw;obtain⟨j,hj,e⟩:=J0f.1 (((hr.rlT hg).mem v).2 ⟨v1,trivial⟩);have h:=hr.si.fnd_ (i:=(j:Int)) ω ω (f:=vl gens w) (by rw[e,v2]);rw[h];exact⟨ω,ω,by rw[e];exact v1,by rw[e,v2]⟩
end
end Sg
namespace Sg
open Go
set_option maxRecDepth 10000
section
variable {gens:List (List Int)} {mon:Bool} {r:run}
theorem Fin.find {f:List Int} {K:Int→Prop} (hg:GV gens=true) (h:Fin gens mon r) (hK:K (fnd r.Enum.Elems f)):J1y r.Enum f K:=
 J96 (fun hn=>absurd (h.VE hg) hn) fun _=>hK
end
end Sg
namespace Sg
open Go
set_option maxRecDepth 10000
section
variable {gens:List (List Int)} {mon:Bool} {r:run}
theorem Fin.vfE (hg:GV gens=true) (h:Fin gens mon r) {i:Int} (h0:0≤i) (h1:i<r.words.length):VF (ix r.Enum.Elems i)=true∧(ix r.Enum.Elems i).length=(ix gens 0).length:=by
 have:=h.1.si.elen;exact h.1.si.vf hg _ (J0S h0 ω)
theorem Fin.Je8 (hg:GV gens=true) (h:Fin gens mon r) {u v:Str} (hu:Wd gens mon u) (hv:LW gens.length v):compF (vl gens u) (vl gens v)∈r.Enum.Elems:=by
 obtain⟨n0,n1,n2,n3⟩:=h.1.Jce hg (w:=u++v) ⟨LW.app.2 ⟨hu.1,hv⟩,hu.2.imp id fun k=>by simp[k]⟩;rw[←J8q hg hu.1 hv,←n3,←h.1.si.eix n0 n1];exact J0S n0 (by have:=h.1.si.elen;omega)
end
end Sg
namespace Sg
open Go
set_option maxRecDepth 10000
section
variable {gens:List (List Int)} {mon:Bool} {F:Str→Prop} {E:List (List Int)} {Pf Ls:List Int} {R:List Rule} {W:List Str} {Bh:List Int} {m:List (Str×Int)} {r:run}
end
end Sg
namespace Sg
open Go
set_option maxRecDepth 10000
theorem Jf3 {xs:List Int} {x:Nat} {q:Int} (h:x<xs.length):(st xs (x:Int) q).take (x+1)=xs.take x++[q]:=by
 have h2:x<(st xs (x:Int) q).length:=by simpa using h
 rw[Ja7 h2,ix_st _ ω ω ω,if_pos rfl]
 congr 1
 simp only[st,Int.toNat_natCast,List.take_set];exact List.set_eq_of_length_le (by simp;omega)
section
variable {gens:List (List Int)} {mon:Bool} {F:Str→Prop} {E:List (List Int)} {Pf Ls:List Int} {R:List Rule} {W:List Str} {Bh:List Int} {m lm:List (Str×Int)} {sg:List Int} {Rt:List (List Int)} {d x:Nat} {row:List Int} {r:run}
end
end Sg
namespace Sg
open Go
set_option maxRecDepth 10000
section
variable {gens:List (List Int)} {mon:Bool} {r:run} {t:Nat} {b:Int}
end
end Sg
namespace Sg
open Go
set_option maxRecDepth 10000
end Sg
namespace Sg
open Go
set_option maxRecDepth 10000
section
variable {gens:List (List Int)} {mon:Bool} {r:run} {t:Nat}
end
section
variable {gens:List (List Int)} {mon:Bool} {r:run} {t:Nat}
end
end Sg
namespace Sg
open Go
def mu (t:List (List Int)) (x y:Int):Int:=ix (ix t x) y
def rowB (n:Nat) (row:List Int):Bool:=decide (row.length=n) && row.all fun x=>decide (0≤x) && decide (x<n)
def SH (t:List (List Int)):Bool:=decide (1≤t.length) && decide (t.length≤400) && t.all (rowB t.length)
theorem J2p {n:Nat} {row:List Int}:rowB n row=true↔row.length=n∧∀j:Nat,j<row.length→0≤ix row j∧ix row j<n:=by
 have:(∀x∈row,0≤x∧x<(n:Int))↔∀j:Nat,j<row.length→0≤ix row j∧ix row j<n:=J0N (p:=fun x:Int=>0≤x∧x<(n:Int));simp only[rowB,Bool.and_eq_true,decide_eq_true_eq,List.all_eq_true,←this]
theorem J6D {t:List (List Int)}:SH t=true↔1≤t.length∧t.length≤400∧∀j:Nat,j<t.length→rowB t.length (ix t j)=true:=by
 have:(∀x∈t,rowB t.length x=true)↔∀j:Nat,j<t.length→rowB t.length (ix t j)=true:=J0N (p:=fun x=>rowB t.length x=true);simp only[SH,Bool.and_eq_true,decide_eq_true_eq,List.all_eq_true,←this,and_assoc]
structure Tb (t:List (List Int)) (n:Nat):Prop where
 len:t.length=n
 n1:1≤n
 n4:n≤400
 row:∀x:Int,0≤x→x<n→(ix t x).length=n
 lo:∀x y:Int,0≤x→x<n→0≤y→y<n→0≤ix (ix t x) y
 hi:∀x y:Int,0≤x→x<n→0≤y→y<n→ix (ix t x) y<n
theorem SH.tb {t:List (List Int)} (h:SH t=true):Tb t t.length:=by
 obtain⟨h1,h2,h3⟩:=J6D.1 h
 have hr:∀x:Int,0≤x→x<t.length→rowB t.length (ix t x)=true:=fun x h0 hx=>by
  obtain⟨m,rfl⟩:=Int.eq_ofNat_of_zero_le h0;exact h3 m ω
 have hl:∀x:Int,0≤x→x<t.length→(ix t x).length=t.length:=fun x h0 hx=>(J2p.1 (hr x h0 hx)).1
 have he:∀x y:Int,0≤x→x<t.length→0≤y→y<t.length→0≤ix (ix t x) y∧ix (ix t x) y<t.length:=fun x y h0 hx k0 ky=>by
  obtain⟨m,rfl⟩:=Int.eq_ofNat_of_zero_le k0;exact(J2p.1 (hr x h0 hx)).2 m (by have:=hl x h0 hx;omega)
 exact⟨rfl,h1,h2,hl,fun x y a b c d=>(he x y a b c d).1,fun x y a b c d=>(he x y a b c d).2⟩
theorem Tb.mu {t:List (List Int)} {n:Nat} (h:Tb t n) {x y:Int} (h0:0≤x) (h1:x<n) (k0:0≤y) (k1:y<n):0≤mu t x y∧mu t x y<n:=⟨h.lo x y h0 h1 k0 k1,h.hi x y h0 h1 k0 k1⟩
def shC (t:List (List Int)):Int:=if 400<t.length then 3 else if SH t=true then 0 else 4
theorem J9z {t:List (List Int)} (h:¬(1≤t.length∧t.length≤400∧∀j:Nat,j<t.length→rowB t.length (ix t j)=true)):SH t=false:=by
 rw[Bool.eq_false_iff,ne_eq,J6D];exact h
theorem shC4 {t:List (List Int)} (h:¬400<t.length) (h2:SH t=false):shC t=4:=by rw[shC,if_neg h,h2];rfl
theorem JaI {t:List (List Int)} {K:Int→Prop} (h:K (shC t)):J63 t K:=by
 unfold J63;intro _
 split
 ·rw[shC,if_pos ω] at h;exact h
 ·split
  ·rw[shC4 ω (J9z ω)] at h;exact h
  ·refine LoopWP.to t.length (fun k:Nat=>k) (fun k=>k≤t.length∧∀j:Nat,j<k→rowB t.length (ix t j)=true) ⟨ω,fun j hj=>by omega⟩ (fun s h=>h.1) ?_;rintro k X ⟨hk,hI⟩ hX
   show J6e t K X k
   unfold J6e
   split
   ·refine⟨ω,ω,fun _=>?_⟩
    split
    ·rename_i hrl;refine LoopWP.to (ix t (k:Int)).length (fun m:Nat=>m) (fun m=>m≤(ix t (k:Int)).length∧∀j:Nat,j<m→0≤ix (ix t (k:Int)) j∧ix (ix t (k:Int)) j<t.length) ⟨ω,fun j hj=>by omega⟩ (fun s h=>h.1) ?_;rintro m X2 ⟨hm,hJ⟩ hX2
     show J6z t k X K X2 m
     unfold J6z
     split
     ·refine⟨ω,ω,?_⟩
      split
      ·rw[shC4 ω (J9z fun hs=>by have:=(J2p.1 (hs.2.2 k ω)).2 m ω;omega)] at h;exact h
      ·split
       ·rw[shC4 ω (J9z fun hs=>by have:=(J2p.1 (hs.2.2 k ω)).2 m ω;omega)] at h;exact h
       ·refine hX2 (m+1) ⟨ω,fun j hj=>?_⟩ rfl;by_cases hjm:j=m
        ·subst hjm;omega
        ·exact hJ j ω
     ·refine hX (k+1) ⟨ω,fun j hj=>?_⟩ rfl;by_cases hjk:j=k
      ·subst hjk;exact J2p.2 ⟨ω,fun i hi=>hJ i ω⟩
      ·exact hI j ω
    ·rw[shC4 ω (J9z fun hs=>by have:=(J2p.1 (hs.2.2 k ω)).1;omega)] at h;exact h
   ·rw[shC,if_neg ω,if_pos (J6D.2 ⟨ω,ω,fun j hj=>hI j ω⟩)] at h;exact h
theorem shC0 {t:List (List Int)}:shC t=0↔SH t=true:=by
 unfold shC;constructor
 ·intro h;split at h
  ·omega
  ·split at h
   ·assumption
   ·omega
 ·intro h;have:=(J6D.1 h).2.1;rw[if_neg ω,if_pos h]
def inB (n:Nat) (l:List Int):Bool:=l.all fun x=>decide (0≤x) && decide (x<n)
theorem J2q {n:Nat} {l:List Int}:inB n l=true↔∀j:Nat,j<l.length→0≤ix l j∧ix l j<n:=by
 have:(∀x∈l,0≤x∧x<(n:Int))↔∀j:Nat,j<l.length→0≤ix l j∧ix l j<n:=J0N (p:=fun x:Int=>0≤x∧x<(n:Int));simp only[inB,Bool.and_eq_true,decide_eq_true_eq,List.all_eq_true,←this]
theorem JbC {n:Nat} {l:List Int}:inB n l=true↔∀x∈l,0≤x∧x<(n:Int):=by
 simp only[inB,Bool.and_eq_true,decide_eq_true_eq,List.all_eq_true]
theorem J61 {n:Nat} {l:List Int} (h:¬∀j:Nat,j<l.length→0≤ix l j∧ix l j<n):inB n l=false:=by
 rw[Bool.eq_false_iff,ne_eq,J2q];exact h
theorem J7W {t:List (List Int)} {l:List Int} {K:Bool→Prop} (h:K (inB t.length l)):J6G t l K:=by
 unfold J6G;intro _;refine LoopWP.to l.length (fun k:Nat=>k) (fun k=>k≤l.length∧∀j:Nat,j<k→0≤ix l j∧ix l j<t.length) ⟨ω,fun j hj=>by omega⟩ (fun s h=>h.1) ?_;rintro k X ⟨hk,hI⟩ hX
 show J2v t l K X k
 unfold J2v
 split
 ·refine⟨ω,ω,?_⟩
  split
  ·rw[J61 (fun hh=>by have:=hh k ω;omega)] at h;exact h
  ·intro _
   split
   ·rw[J61 (fun hh=>by have:=hh k ω;omega)] at h;exact h
   ·refine hX (k+1) ⟨ω,fun j hj=>?_⟩ rfl;by_cases hjk:j=k
    ·subst hjk;omega
    ·exact hI j ω
 ·rw[J2q.2 fun j hj=>hI j ω] at h;exact h
theorem JbQ {t:List (List Int)} {l:List Int} {K:Bool→Prop} (h:K (inB t.length l)):J9x t l K:=J7W h
def lgB (t:List (List Int)) (g:Int):Bool:=(iota t.length).all fun x=>(iota t.length).all fun y=>decide (mu t (mu t x g) y=mu t x (mu t g y))
theorem J6Z {n:Nat} {x:Int}:x∈iota n↔0≤x∧x<n:=by
 simp only[iota,List.mem_map,List.mem_range];constructor
 ·rintro⟨a,h,rfl⟩;omega
 ·rintro⟨h0,h1⟩;exact⟨x.toNat,ω,ω⟩
theorem J8f {t:List (List Int)} {g:Int}:lgB t g=true↔∀x y:Nat,x<t.length→y<t.length→mu t (mu t x g) y=mu t x (mu t g y):=by
 simp only[lgB,List.all_eq_true,J6Z,decide_eq_true_eq];constructor
 ·intro h x y hx hy;exact h x ω y ω
 ·intro h x hx y hy;obtain⟨a,rfl⟩:=Int.eq_ofNat_of_zero_le hx.1;obtain⟨b,rfl⟩:=Int.eq_ofNat_of_zero_le hy.1;exact h a b ω ω
theorem Jdp {t:List (List Int)} {g:Int} (h:¬∀x y:Nat,x<t.length→y<t.length→mu t (mu t x g) y=mu t x (mu t g y)):lgB t g=false:=by
 rw[Bool.eq_false_iff,ne_eq,J8f];exact h
theorem JcU {α:Type} [Inhabited α] {p:α→Bool} {l:List α} {k:Nat} (hk:k<l.length) (h:p (ix l k)=false):l.all p=false:=by
 rw[Bool.eq_false_iff,ne_eq,List.all_eq_true];intro hh;have:=hh _ (J0S (i:=(k:Int)) ω ω);rw[h] at this;cases this
theorem Jfu {α:Type} [Inhabited α] {p:α→Bool} {l:List α} (h:∀j:Nat,j<l.length→p (ix l j)=true):l.all p=true:=by
 rw[List.all_eq_true];exact(J0N (p:=fun x=>p x=true)).2 h
theorem J8z {t:List (List Int)} (ht:SH t=true) {gens:List Int} (hg:inB t.length gens=true) {K:Bool→Prop} (h:K (gens.all (lgB t))):J1L t gens K:=by
 unfold J1L;have T:=SH.tb ht;have n4:=T.n4;refine fun _=>⟨ω,ω,fun _=>?_⟩;have hgi:=J2q.1 hg;refine LoopWP.to gens.length (fun s:Nat×List Bool=>s.1) (fun s=>s.1≤gens.length∧s.2.length=t.length∧(∀j:Nat,j<s.1→lgB t (ix gens j)=true)∧∀x:Nat,x<t.length→ix s.2 x=true→lgB t x=true)
  ⟨by simp,by simp,fun j hj=>by simp at hj,fun x hx hh=>by rw[J0c _ _ hx] at hh;cases hh⟩ (fun s h=>h.1) ?_
 rintro⟨k,tr⟩ X ⟨hk,hl,hI,hT⟩ hX;simp only at hk hl hI hT
 show J31 t gens K _ k tr
 unfold J31
 split
 ·have hgk:=hgi k ω;obtain⟨g,hgg⟩:=Int.eq_ofNat_of_zero_le hgk.1;rw[hgg] at hgk ⊢;refine⟨ω,ω,ω,ω,?_⟩
  split
  ·rename_i htr;refine hX (k+1,tr) ⟨by simp only;omega,hl,fun j hj=>?_,hT⟩ rfl;simp only at hj;by_cases hjk:j=k
   ·subst hjk;rw[hgg];exact hT g ω htr
   ·exact hI j ω
  ·refine⟨ω,ω,?_⟩;refine LoopWP.to t.length (fun x:Nat=>x) (fun x=>x≤t.length∧∀a b:Nat,a<x→b<t.length→mu t (mu t a g) b=mu t a (mu t g b)) ⟨ω,fun a b ha=>by omega⟩ (fun s h=>h.1) ?_;rintro x X2 ⟨hx,hJ⟩ hX2
   show J2U t gens k tr _ K X2 x
   unfold J2U;rw[hgg]
   split
   ·have hxn:(x:Int)<t.length:=ω;have r1:=T.row x ω hxn;have m1:=T.mu (x:=x) (y:=g) ω hxn ω hgk.2;unfold mu at m1;have r2:=T.row g ω hgk.2;have r3:=T.row _ m1.1 m1.2;refine⟨ω,ω,ω,ω,m1.1,m1.2,ω,ω,fun _=>?_⟩;refine LoopWP.to t.length (fun y:Nat=>y) (fun y=>y≤t.length∧∀b:Nat,b<y→mu t (mu t x g) b=mu t x (mu t g b)) ⟨ω,fun b hb=>by omega⟩ (fun s h=>h.1) ?_;rintro y X3 ⟨hy,hL⟩ hX3
    show J34 t gens k x X2 K X3 y
    unfold J34;rw[hgg]
    split
    ·have hyn:(y:Int)<t.length:=ω;have m2:=T.mu (x:=g) (y:=y) ω hgk.2 ω hyn;unfold mu at m2;refine⟨ω,ω,ω,ω,m2.1,ω,?_⟩
     split
     ·rename_i he;refine hX3 (y+1) ⟨ω,fun b hb=>?_⟩ rfl;by_cases hby:b=y
      ·subst hby;exact he
      ·exact hL b ω
     ·rename_i he;rw[JcU (k:=k) ω (Jdp fun hh=>he (by rw[hgg] at hh;exact hh x y ω ω))] at h;exact h
    ·refine hX2 (x+1) ⟨ω,fun a b ha hb=>?_⟩ rfl;by_cases hax:a=x
     ·subst hax;exact hL b ω
     ·exact hJ a b ω hb
   ·have hlg:lgB t g=true:=J8f.2 fun a b ha hb=>hJ a b ω hb;refine hX (k+1,_) ⟨by simp only;omega,by simpa using hl,fun j hj=>?_,fun a ha hh=>?_⟩ rfl
    ·simp only at hj;by_cases hjk:j=k
     ·subst hjk;rw[hgg];exact hlg
     ·exact hI j ω
    ·simp only at hh;rw[ix_st _ ω ω ω] at hh
     split at hh
     ·rename_i hag;rw[hag];exact hlg
     ·exact hT a ha hh
 ·rw[Jfu fun j hj=>hI j ω] at h;exact h
inductive Clo (t:List (List Int)) (G:List Int):Int→Prop
 | gen {x:Int}:x∈G→Clo t G x
 | mul {x y:Int}:Clo t G x→Clo t G y→Clo t G (mu t x y)
theorem Clo.mono {t:List (List Int)} {G G':List Int} (h:∀x∈G,x∈G') {x:Int} (hx:Clo t G x):Clo t G' x:=by
 induction hx with
 | gen hg=>exact .gen (h _ hg)
 | mul _ _ ih1 ih2=>exact .mul ih1 ih2
theorem Clo.in_ {t:List (List Int)} {n:Nat} (T:Tb t n) {G:List Int} (hG:∀x∈G,0≤x∧x<(n:Int)) {x:Int} (hx:Clo t G x):0≤x∧x<(n:Int):=by
 induction hx with
 | gen hg=>exact hG _ hg
 | mul _ _ ih1 ih2=>exact T.mu ih1.1 ih1.2 ih2.1 ih2.2
theorem Jcd {l:List Int} (hn:l.Nodup) {n:Nat} (hl:∀x∈l,0≤x∧x<(n:Int)):l.length≤n:=by
 rcases Nat.lt_or_ge n l.length with hlt | hge
 ·exfalso;obtain⟨a,b,hab,hb,he⟩:=pigeon n (fun m=>ix l m) fun m hm=>hl _ (J0S ω ω);rw[ix_lt ω,ix_lt ω] at he;exact(List.pairwise_iff_getElem.1 hn) a b ω ω hab he
 ·exact hge
structure MI (t:List (List Int)) (n:Nat) (G made:List Int) (mk:List Bool):Prop where
 nd:made.Nodup
 len:mk.length=n
 inn:∀x∈made,0≤x∧x<(n:Int)
 mkd:∀x:Nat,x<n→(ix mk x=true↔(x:Int)∈made)
 clo:∀x∈made,Clo t G x
theorem MI.add {t:List (List Int)} {n:Nat} {G made:List Int} {mk:List Bool} (h:MI t n G made mk) {x:Int} (h0:0≤x) (h1:x<n) (hc:Clo t G x) (hx:¬ix mk x=true):MI t n G (made++[x]) (st mk x true):=by
 obtain⟨m,rfl⟩:=Int.eq_ofNat_of_zero_le h0;have hnm:(m:Int)∉made:=fun hh=>hx ((h.mkd m ω).2 hh);refine⟨List.nodup_append.2 ⟨h.nd,by simp,fun a ha b hb hab=>?_⟩,by simpa using h.len,fun x hx=>?_,fun x hxn=>?_,fun x hx=>?_⟩
 ·rw[List.mem_singleton] at hb;subst hab;subst hb;exact hnm ha
 ·rcases List.mem_append.1 hx with hx | hx
  ·exact h.inn x hx
  ·rw[List.mem_singleton] at hx;subst hx;omega
 ·rw[ix_st _ ω (by have:=h.len;omega) ω,List.mem_append,List.mem_singleton]
  split
  ·rename_i he;exact⟨fun _=>.inr he,fun _=>rfl⟩
  ·rename_i he;rw[h.mkd x hxn];exact⟨.inl,fun hh=>hh.resolve_right he⟩
 ·rcases List.mem_append.1 hx with hx | hx
  ·exact h.clo x hx
  ·rw[List.mem_singleton] at hx;subst hx;exact hc
theorem MI.mono {t:List (List Int)} {n:Nat} {G G' made:List Int} {mk:List Bool} (h:MI t n G made mk) (hG:∀x∈G,x∈G'):MI t n G' made mk:=⟨h.nd,h.len,h.inn,h.mkd,fun x hx=>(h.clo x hx).mono hG⟩
structure SIM (t:List (List Int)) (n:Nat) (G:List Int) (g:Nat) (made:List Int) (mk:List Bool):Prop where
 mi:MI t n G made mk
 up:∀j:Nat,j<g→(j:Int)∈made
theorem SIM.add {t:List (List Int)} {n:Nat} {G:List Int} {g:Nat} {made:List Int} {mk:List Bool} (h:SIM t n G g made mk) {x:Int} (h0:0≤x) (h1:x<n) (hc:Clo t G x) (hx:¬ix mk x=true):SIM t n G g (made++[x]) (st mk x true):=
 ⟨h.mi.add h0 h1 hc hx,fun j hj=>List.mem_append_left _ (h.up j hj)⟩
theorem SIM.le {t:List (List Int)} {n:Nat} {G:List Int} {g:Nat} {made:List Int} {mk:List Bool} (h:SIM t n G g made mk):made.length≤n:=Jcd h.mi.nd h.mi.inn
theorem J9k {t:List (List Int)} (ht:SH t=true) {K:List Int→Prop} (h:∀G,inB t.length G=true→(∀x:Nat,x<t.length→Clo t G x)→K G):J3d t K:=by
 unfold J3d;have T:=SH.tb ht;have n4:=T.n4;refine fun _=>⟨ω,ω,?_⟩;refine LoopWP.to t.length (fun s:Nat×Nat×List Int×List Int×List Bool=>s.2.1)
  (fun s=>s.2.1≤t.length∧s.1≤s.2.2.1.length∧s.2.2.2.1.length≤s.2.1∧(∀x∈s.2.2.2.1,0≤x∧x<(t.length:Int))∧SIM t t.length s.2.2.2.1 s.2.1 s.2.2.1 s.2.2.2.2)
  ⟨by simp,by simp,by simp,by simp,⟨⟨List.nodup_nil,by simp,by simp,fun x hx=>by simp[J0c _ _ hx],by simp⟩,fun j hj=>by simp at hj⟩⟩ (fun s h=>h.1) ?_
 rintro⟨m,g,made,gens,mk⟩ X ⟨hg,hm,hgl,hG,hI⟩ hX;simp only at hg hm hgl hG hI
 show J4b t K _ m g made gens mk
 unfold J4b;have hml:=hI.mi.len
 split
 ·refine⟨ω,ω,?_⟩
  split
  ·rename_i hmk;refine hX (m,g+1,made,gens,mk) ⟨by simp only;omega,hm,by simp only;omega,hG,⟨hI.mi,fun j hj=>?_⟩⟩ rfl;by_cases hjg:j=g
   ·subst hjg;exact(hI.mi.mkd j ω).1 hmk
   ·exact hI.up j (by simp only at hj;omega)
  ·rename_i hmk;refine⟨by simp;omega,ω,ω,ω,ω,by have:=hI.le;simp;omega,?_⟩
   have hI2:SIM t t.length (gens++[(g:Int)]) (g+1) (made++[(g:Int)]) (st mk (g:Int) true):=by
    have h1:SIM t t.length (gens++[(g:Int)]) g made mk:=⟨hI.mi.mono fun x hx=>List.mem_append_left _ hx,hI.up⟩;have h2:=h1.add (x:=(g:Int)) ω ω (.gen (by simp)) hmk;refine⟨h2.mi,fun j hj=>?_⟩;by_cases hjg:j=g
    ·subst hjg;simp
    ·exact h2.up j ω
   have hG2:∀x∈gens++[(g:Int)],0≤x∧x<(t.length:Int):=by
    intro x hx
    rcases List.mem_append.1 hx with hx | hx
    ·exact hG x hx
    ·rw[List.mem_singleton] at hx;subst hx;omega
   have hgl2:(gens++[(g:Int)]).length≤g+1:=by simp;omega
   generalize hGe:gens++[(g:Int)]=G2 at *;refine LoopWP.to t.length (fun s:Nat×List Int×List Bool=>s.1) (fun s=>s.1≤s.2.1.length∧SIM t t.length G2 (g+1) s.2.1 s.2.2) ⟨by simp;omega,hI2⟩ (fun s h=>Nat.le_trans h.1 h.2.le) ?_;rintro⟨a,md,mk2⟩ X2 ⟨ha,hJ⟩ hX2;simp only at ha hJ
   show J4e t g gens _ K _ a md mk2
   unfold J4e
   split
   ·rename_i hal;refine⟨ω,ω,ω,ω,?_⟩;have hjl:=hJ.le;have e1:(((a+1:Nat):Int)).toNat=a+1:=ω;have hax:=hJ.mi.inn _ (J0S (xs:=md) (i:=(a:Int)) ω ω);have hac:=hJ.mi.clo _ (J0S (xs:=md) (i:=(a:Int)) ω ω);refine LoopWP.to (a+1) (fun s:Nat×List Int×List Bool=>s.1) (fun s=>s.1≤a+1∧a+1≤s.2.1.length∧SIM t t.length G2 (g+1) s.2.1 s.2.2) ⟨by simp,by simp only;omega,hJ⟩ (fun s h=>h.1) ?_;rintro⟨b,md3,mk3⟩ X3 ⟨hb,hl3,hL⟩ hX3;simp only at hb hl3 hL
    show J4d t a md _ K _ b md3 mk3
    unfold J4d;have e2:(((a:Int)+1)).toNat=a+1:=ω
    have htl:(md.take (a+1)).length=a+1:=by rw[List.length_take];omega
    simp only[e2,htl]
    split
    ·rename_i hb1
     have e3:ix (md.take (a+1)) (b:Int)=ix md (b:Int):=by
      rw[ix_lt ω,ix_lt ω,List.getElem_take]
     rw[e3];have hbx:=hJ.mi.inn _ (J0S (xs:=md) (i:=(b:Int)) ω ω);have hbc:=hJ.mi.clo _ (J0S (xs:=md) (i:=(b:Int)) ω ω);generalize ix md (a:Int)=x at *;generalize ix md (b:Int)=y at *;have r1:=T.row x hax.1 hax.2;have r2:=T.row y hbx.1 hbx.2;have m1:=T.mu hax.1 hax.2 hbx.1 hbx.2;have m2:=T.mu hbx.1 hbx.2 hax.1 hax.2;have c1:=Clo.mul hac hbc;have c2:=Clo.mul hbc hac;unfold mu at m1 m2 c1 c2;have l3:=hL.mi.len;have le3:=hL.le;refine⟨ω,ω,hax.1,hax.2,hbx.1,ω,m1.1,ω,?_⟩
     split
     ·refine⟨hbx.1,hbx.2,hax.1,ω,m2.1,ω,?_⟩
      split
      ·exact⟨⟨ω,ω⟩,hX3 (b+1,md3,mk3) ⟨by simp only;omega,hl3,hL⟩ rfl⟩
      ·rename_i hn;exact⟨m2.1,ω,by simp;omega,⟨ω,ω⟩,hX3 (b+1,_,_) ⟨by simp only;omega,by simp;omega,hL.add m2.1 m2.2 c2 hn⟩ rfl⟩
     ·rename_i hn;have hL2:=hL.add m1.1 m1.2 c1 hn;have l4:=hL2.mi.len;have le4:=hL2.le;refine⟨m1.1,ω,by simp;omega,hbx.1,hbx.2,hax.1,ω,m2.1,ω,?_⟩
      split
      ·exact⟨⟨ω,ω⟩,hX3 (b+1,_,_) ⟨by simp only;omega,by simp;omega,hL2⟩ rfl⟩
      ·rename_i hn2;exact⟨m2.1,ω,by simp at le4 ⊢;omega,⟨ω,ω⟩,hX3 (b+1,_,_) ⟨by simp only;omega,by simp;omega,hL2.add m2.1 m2.2 c2 hn2⟩ rfl⟩
    ·exact⟨⟨ω,ω⟩,hX2 (a+1,md3,mk3) ⟨by simp only;omega,hL⟩ rfl⟩
   ·refine hX (a,g+1,md,_,mk2) ⟨by simp only;omega,ha,?_,?_,?_⟩ rfl
    ·simp only[hGe];omega
    ·simp only[hGe];exact hG2
    ·simp only[hGe];exact hJ
 ·exact h gens (JbC.2 hG) fun x hx=>hI.mi.clo _ (hI.up x ω)
def AS (t:List (List Int)):Prop:=∀x y z:Nat,x<t.length→y<t.length→z<t.length→mu t (mu t x y) z=mu t x (mu t y z)
instance (t:List (List Int)):Decidable (AS t):=decidable_of_iff ((iota t.length).all fun y=>lgB t y) (by
 simp only[List.all_eq_true,J6Z,J8f]
 constructor
 ·intro h x y z hx hy hz;exact h y ω x z hx hz
 ·intro h y hy x z hx hz
  obtain⟨b,rfl⟩:=Int.eq_ofNat_of_zero_le hy.1
  exact h x b z hx ω hz)
theorem AS.all {t:List (List Int)} (h:AS t) {x y z:Int} (hx:0≤x∧x<t.length) (hy:0≤y∧y<t.length) (hz:0≤z∧z<t.length):mu t (mu t x y) z=mu t x (mu t y z):=by
 obtain⟨a,rfl⟩:=Int.eq_ofNat_of_zero_le hx.1;obtain⟨b,rfl⟩:=Int.eq_ofNat_of_zero_le hy.1;obtain⟨c,rfl⟩:=Int.eq_ofNat_of_zero_le hz.1;exact h a b c ω ω ω
theorem JaA {t:List (List Int)} {g:Int} (h:lgB t g=true) {x y:Int} (hx:0≤x∧x<t.length) (hy:0≤y∧y<t.length):mu t (mu t x g) y=mu t x (mu t g y):=by
 obtain⟨a,rfl⟩:=Int.eq_ofNat_of_zero_le hx.1;obtain⟨b,rfl⟩:=Int.eq_ofNat_of_zero_le hy.1;exact J8f.1 h a b ω ω
theorem Jfq {t:List (List Int)} (T:Tb t t.length) {g k:Int} (hg:0≤g∧g<t.length) (hk:0≤k∧k<t.length) (h1:lgB t g=true) (h2:lgB t k=true):lgB t (mu t g k)=true:=by
 refine J8f.2 fun x y hx hy=>?_;have hx':0≤(x:Int)∧(x:Int)<t.length:=ω;have hy':0≤(y:Int)∧(y:Int)<t.length:=ω;rw[←JaA h1 hx' hk,JaA h2 (T.mu hx'.1 hx'.2 hg.1 hg.2) hy',JaA h1 hx' (T.mu hk.1 hk.2 hy'.1 hy'.2),←JaA h2 hg hy']
theorem light {t:List (List Int)} (T:Tb t t.length) {G:List Int} (hG:inB t.length G=true) (hc:∀x:Nat,x<t.length→Clo t G x):G.all (lgB t)=decide (AS t):=by
 have hin:=JbC.1 hG;by_cases h:AS t
 ·rw[decide_eq_true h,List.all_eq_true];exact fun g hg=>J8f.2 fun x y hx hy=>h.all ω (hin g hg) ω
 ·rw[decide_eq_false h,Bool.eq_false_iff];intro ha;rw[List.all_eq_true] at ha
  have key:∀x,Clo t G x→lgB t x=true:=fun x hx=>by
   induction hx with
   | gen hg=>exact ha _ hg
   | mul h1 h2 i1 i2=>exact Jfq T (h1.in_ T hin) (h2.in_ T hin) i1 i2
  exact h fun x y z hx hy hz=>J8f.1 (key y (hc y hy)) x z hx hz
def VT (t:List (List Int)):Bool:=SH t && decide (AS t)
def vaC (t:List (List Int)):Int:=if SH t=true then (if AS t then 0 else 5) else shC t
theorem vaC0 {t:List (List Int)}:vaC t=0↔VT t=true:=by
 unfold vaC VT;by_cases h:SH t=true
 ·rw[if_pos h,h];by_cases h2:AS t
  ·simp[h2]
  ·simp[h2]
 ·rw[if_neg h];have:shC t≠0:=fun hh=>h (shC0.1 hh);simp[h,this]
theorem VT.sh {t:List (List Int)} (h:VT t=true):SH t=true:=by simp only[VT,Bool.and_eq_true] at h;exact h.1
theorem VT.as {t:List (List Int)} (h:VT t=true):AS t:=by simp only[VT,Bool.and_eq_true,decide_eq_true_eq] at h;exact h.2
theorem J0B {t:List (List Int)} {K:Int→Prop} (h:K (vaC t)):J0q t K:=by
 unfold J0q;refine JaI ?_
 split
 ·rename_i h0;have ht:=shC0.1 h0;rw[vaC,if_pos ht] at h;refine J9k ht fun G hG hc=>J8z ht hG ?_;rw[light (SH.tb ht) hG hc];by_cases ha:AS t
  ·simpa [ha] using h
  ·simpa [ha] using h
 ·rename_i h0;rw[vaC,if_neg (fun hh=>h0 (shC0.2 hh))] at h;exact h
end Sg
namespace Sg
open Go
end Sg
namespace Sg
open Go
section
variable {t:List (List Int)} (hv:VT t=true) {x:Int} (hx:0≤x∧x<t.length)
include hv hx
end
end Sg
namespace Sg
open Go
end Sg
namespace Sg
open Go
def ltM (im:List Int) (b:UInt8):Int:=ix im ((b.toNat:Int)-97)
def val (t:List (List Int)) (im:List Int):Str→Int
 | []=>0
 | b::w=>w.foldl (fun x b=>mu t x (ltM im b)) (ltM im b)
end Sg
namespace Sg
open Go
section
variable {t u:List (List Int)} (T:Tb t t.length) (U:Tb u u.length)
include T U
end
end Sg
namespace Sg
open Go
end Sg
namespace Sg
open Go
end Sg
namespace Sg
open Go
end Sg
namespace Sg
open Go
theorem Jch {α:Type} [Inhabited α] {L r:List α} {a:Nat} (h:a<L.length):ix (L++r) (a:Int)=ix L (a:Int):=by
 rw[ix_lt (by simp;omega),ix_lt h,List.getElem_append_left]
end Sg
namespace Sg
open Go
def oRow (t:List (List Int)) (x:Nat):List Int:=t.map fun row=>ix row (x:Int)
def opp (t:List (List Int)):List (List Int):=(List.range t.length).map (oRow t)
@[simp] theorem JfG {t:List (List Int)} {x:Nat}:(oRow t x).length=t.length:=by simp[oRow]
@[simp] theorem JfH {t:List (List Int)}:(opp t).length=t.length:=by simp[opp]
def aRows (t:List (List Int)) (k:Nat):List (List Int):=(List.range k).map fun (x:Nat)=>ix t (x:Int)++[(x:Int)]
def adj (t:List (List Int)):List (List Int):=aRows t t.length++[iota t.length++[(t.length:Int)]]
@[simp] theorem JfB {t:List (List Int)} (k:Nat):(aRows t k).length=k:=by simp[aRows]
@[simp] theorem JfI {t:List (List Int)}:(adj t).length=t.length+1:=by simp[adj]
end Sg
namespace Sg
open Go
section
variable {t u:List (List Int)} (T:Tb t t.length) (U:Tb u u.length)
include T U
end
end Sg
namespace Sg
open Go
end Sg
namespace Sg
open Go
def posR (s:List Int):Nat→Int→Int
 | 0,_=>-1
 | k+1,x=>if x=ix s (k:Int) then (k:Int) else posR s k x
def subRow (t:List (List Int)) (s:List Int) (i:Int):List Int:=(iota s.length).map fun j=>posR s s.length (mu t (ix s i) (ix s j))
def subTab (t:List (List Int)) (s:List Int):List (List Int):=(iota s.length).map (subRow t s)
@[simp] theorem Jfc {t:List (List Int)} {s:List Int} {i:Int}:(subRow t s i).length=s.length:=by simp[subRow]
@[simp] theorem Jfb {t:List (List Int)} {s:List Int}:(subTab t s).length=s.length:=by simp[subTab]
end Sg
namespace Sg
open Go
end Sg
namespace Sg
open Go
def DV (d:DFA):Bool:=decide (1≤d.Letters) && decide (d.Letters≤6) && decide (1≤d.Final.length) && decide (d.Final.length≤512) && decide (d.Next.length=d.Final.length) && decide (0≤d.Start) && decide (d.Start<d.Final.length) &&
 d.Next.all fun row=>decide ((row.length:Int)=d.Letters) && row.all fun q=>decide (0≤q) && decide (q<d.Final.length)
structure Da (d:DFA):Prop where
 l1:1≤d.Letters
 l6:d.Letters≤6
 f1:1≤d.Final.length
 f2:d.Final.length≤512
 nx:d.Next.length=d.Final.length
 s0:0≤d.Start
 s1:d.Start<d.Final.length
 row:∀j:Nat,j<d.Next.length→((ix d.Next j).length:Int)=d.Letters
 el:∀j i:Nat,j<d.Next.length→i<(ix d.Next j).length→0≤ix (ix d.Next j) i∧ix (ix d.Next j) i<d.Final.length
theorem J43 {d:DFA}:DV d=true↔Da d:=by
 have h1:∀row:List Int,(∀q∈row,0≤q∧q<(d.Final.length:Int))↔∀i:Nat,i<row.length→0≤ix row i∧ix row i<d.Final.length:=fun row=>J0N (p:=fun q:Int=>0≤q∧q<(d.Final.length:Int))
 have h2:(∀row∈d.Next,(row.length:Int)=d.Letters∧∀q∈row,0≤q∧q<(d.Final.length:Int))↔∀j:Nat,j<d.Next.length→((ix d.Next j).length:Int)=d.Letters∧∀q∈ix d.Next j,0≤q∧q<(d.Final.length:Int):=
  J0N (p:=fun row:List Int=>(row.length:Int)=d.Letters∧∀q∈row,0≤q∧q<(d.Final.length:Int))
 simp only[DV,Bool.and_eq_true,decide_eq_true_eq,List.all_eq_true];rw[h2];constructor
 ·rintro⟨⟨⟨⟨⟨⟨⟨a,b⟩,c⟩,d1⟩,e⟩,f⟩,g⟩,h⟩;exact⟨a,b,c,d1,e,f,g,fun j hj=>(h j hj).1,fun j i hj hi=>(h1 _).1 (h j hj).2 i hi⟩
 ·rintro⟨a,b,c,d1,e,f,g,h,k⟩;exact⟨⟨⟨⟨⟨⟨⟨a,b⟩,c⟩,d1⟩,e⟩,f⟩,g⟩,fun j hj=>⟨h j hj,(h1 _).2 fun i hi=>k j i hj hi⟩⟩
theorem Da.at_ {d:DFA} (D:Da d) {q x:Int} (h0:0≤q) (h1:q<d.Final.length) (k0:0≤x) (k1:x<d.Letters):((ix d.Next q).length:Int)=d.Letters∧0≤ix (ix d.Next q) x∧ix (ix d.Next q) x<d.Final.length:=by
 obtain⟨a,rfl⟩:=Int.eq_ofNat_of_zero_le h0;obtain⟨b,rfl⟩:=Int.eq_ofNat_of_zero_le k0;have hn:=D.nx;have hr:=D.row a ω;have:=D.el a b ω ω;exact⟨hr,this⟩
def daC (d:DFA):Int:=if d.Letters<1∨6<d.Letters then 1 else if 512<d.Final.length then 3 else if DV d=true then 0 else 4
theorem daC0 {d:DFA}:daC d=0↔DV d=true:=by
 unfold daC;constructor
 ·intro h
  split at h
  ·omega
  ·split at h
   ·omega
   ·split at h
    ·assumption
    ·omega
 ·intro h;have D:=J43.1 h;rw[if_neg (by have:=D.l1;have:=D.l6;omega),if_neg (by have:=D.f2;omega),if_pos h]
theorem daC4 {d:DFA} (h1:¬(d.Letters<1∨6<d.Letters)) (h2:¬512<d.Final.length) (h3:¬Da d):daC d=4:=by
 rw[daC,if_neg h1,if_neg h2,if_neg (fun h=>h3 (J43.1 h))]
theorem J1U {d:DFA} {K:Int→Prop} (h:K (daC d)):J11 d K:=by
 unfold J11
 split
 ·rw[daC,if_pos ω] at h;exact h
 ·split
  ·rw[daC,if_pos ω] at h;exact h
  ·refine fun _=>?_
   split
   ·rw[daC,if_neg ω,if_pos ω] at h;exact h
   ·refine fun _=>?_
    split
    ·rename_i hnx
     split
     ·rw[daC4 ω ω fun D=>by have:=D.s0;omega] at h;exact h
     ·split
      ·rw[daC4 ω ω fun D=>by have:=D.s1;omega] at h;exact h
      ·refine LoopWP.scan d.Next.length (fun j=>((ix d.Next j).length:Int)=d.Letters∧∀i:Nat,i<(ix d.Next j).length→0≤ix (ix d.Next j) i∧ix (ix d.Next j) i<d.Final.length) ?_;intro k X hk hI hX
       show J4W d K _ k
       unfold J4W
       split
       ·refine⟨ω,ω,fun _=>?_⟩
        split
        ·rename_i hrow;refine LoopWP.scan (ix d.Next (k:Int)).length (fun i=>0≤ix (ix d.Next (k:Int)) i∧ix (ix d.Next (k:Int)) i<d.Final.length) ?_;intro i X2 hi hJ hX2
         show J4H d k _ K _ i
         unfold J4H
         split
         ·refine⟨ω,ω,?_⟩
          split
          ·rw[daC4 ω ω fun D=>by have:=D.el k i ω ω;omega] at h;exact h
          ·split
           ·rw[daC4 ω ω fun D=>by have:=D.el k i ω ω;omega] at h;exact h
           ·exact hX2 ω ⟨ω,ω⟩
         ·exact hX ω ⟨hrow,fun i hi=>hJ i ω⟩
        ·rename_i hrow;rw[daC4 ω ω fun D=>hrow (D.row k ω)] at h;exact h
       ·have D:Da d:=⟨ω,ω,ω,ω,ω,ω,ω,fun j hj=>(hI j ω).1,fun j i hj hi=>(hI j ω).2 i hi⟩;rw[daC0.2 (J43.2 D)] at h;exact h
    ·rw[daC4 ω ω fun D=>by have:=D.nx;omega] at h;exact h
theorem J98 {d:DFA} {K:Int→Prop} (h:K (daC d)):J2e d K:=by
 unfold J2e J2k;refine fun _=>?_
 split
 ·split
  ·simp only[if_true]
   split
   ·rw[daC,if_neg ω,if_pos ω] at h;exact h
   ·split
    ·rw[daC4 ω ω fun D=>by have:=D.f1;omega] at h;exact h
    ·refine fun _=>?_
     split
     ·rename_i hnx
      split
      ·rw[daC4 ω ω fun D=>by have:=D.s0;omega] at h;exact h
      ·split
       ·rw[daC4 ω ω fun D=>by have:=D.s1;omega] at h;exact h
       ·refine LoopWP.scan d.Next.length (fun j=>((ix d.Next j).length:Int)=d.Letters∧∀i:Nat,i<(ix d.Next j).length→0≤ix (ix d.Next j) i∧ix (ix d.Next j) i<d.Final.length) ?_;intro k X hk hI hX
        show J3K d K _ k
        unfold J3K
        split
        ·refine⟨ω,ω,fun _=>?_⟩
         split
         ·rename_i hrow;refine LoopWP.scan (ix d.Next (k:Int)).length (fun i=>0≤ix (ix d.Next (k:Int)) i∧ix (ix d.Next (k:Int)) i<d.Final.length) ?_;intro i X2 hi hJ hX2
          show J3t d k _ K _ i
          unfold J3t
          split
          ·refine⟨ω,ω,?_⟩
           split
           ·rw[daC4 ω ω fun D=>by have:=D.el k i ω ω;omega] at h;exact h
           ·split
            ·rw[daC4 ω ω fun D=>by have:=D.el k i ω ω;omega] at h;exact h
            ·exact hX2 ω ⟨ω,ω⟩
          ·exact hX ω ⟨hrow,fun i hi=>hJ i ω⟩
         ·rename_i hrow;rw[daC4 ω ω fun D=>hrow (D.row k ω)] at h;exact h
        ·have D:Da d:=⟨ω,ω,ω,ω,ω,ω,ω,fun j hj=>(hI j ω).1,fun j i hj hi=>(hI j ω).2 i hi⟩;rw[daC0.2 (J43.2 D)] at h;exact h
     ·rw[daC4 ω ω fun D=>by have:=D.nx;omega] at h;exact h
  ·simp only[Bool.false_eq_true,if_false];rw[daC,if_pos ω] at h;exact h
 ·simp only[Bool.false_eq_true,if_false];rw[daC,if_pos ω] at h;exact h
def rn (d:DFA) (q:Int) (w:Str):Int:=w.foldl (fun q b=>ix (ix d.Next q) ((b.toNat:Int)-97)) q
end Sg
namespace Sg
open Go
def CanP (p:List Int):Prop:=∀k:Nat,k<p.length→0≤ix p (k:Int)∧∀v:Int,0≤v→v<ix p (k:Int)→∃j:Nat,j<k∧ix p (j:Int)=v
structure IsCan {κ:Type} [Inhabited κ] (p:List Int) (l:List κ):Prop where
 len:p.length=l.length
 can:CanP p
 ker:∀i j:Nat,i<l.length→j<l.length→(ix p (i:Int)=ix p (j:Int)↔ix l (i:Int)=ix l (j:Int))
structure CN {κ:Type} [Inhabited κ] [DecidableEq κ] (l:List κ) (k:Nat) (m:List (κ×Int)) (p:List Int):Prop where
 len:p.length=l.length
 has:∀x,mhas m x=true↔∃j:Nat,j<k∧ix l (j:Int)=x
 at_:∀j:Nat,j<k→ix p (j:Int)=mgt m (ix l (j:Int))
 lo:∀j:Nat,j<k→0≤ix p (j:Int)∧ix p (j:Int)<(m.length:Int)
 inj:∀i j:Nat,i<k→j<k→ix p (i:Int)=ix p (j:Int)→ix l (i:Int)=ix l (j:Int)
 all:∀v:Int,0≤v→v<(m.length:Int)→∃j:Nat,j<k∧ix p (j:Int)=v
 can:∀q:Nat,q<k→∀v:Int,0≤v→v<ix p (q:Int)→∃j:Nat,j<q∧ix p (j:Int)=v
 le:m.length≤k
section
variable {κ:Type} [Inhabited κ] [DecidableEq κ] {l:List κ}
theorem CN.start:CN l 0 ([]:List (κ×Int)) (List.replicate l.length 0):=⟨by simp,fun x=>by simp[mhas],fun j hj=>by omega,fun j hj=>by omega,fun i j hi=>by omega,fun v h0 h1=>by simp at h1;omega,fun q hq=>by omega,by simp⟩
theorem CN.fin {m:List (κ×Int)} {p:List Int} (h:CN l l.length m p):IsCan p l:=
 ⟨h.len,fun k hk=>⟨(h.lo k (by rw[←h.len];exact hk)).1,h.can k (by rw[←h.len];exact hk)⟩,fun i j hi hj=>⟨h.inj i j hi hj,fun he=>by rw[h.at_ i hi,h.at_ j hj,he]⟩⟩
theorem CN.old {k:Nat} {m:List (κ×Int)} {p:List Int} (h:CN l k m p) (hk:k<l.length) (hx:mhas m (ix l (k:Int))=true):CN l (k+1) m (st p (k:Int) (mgt m (ix l (k:Int)))):=by
 obtain⟨i,hi,he⟩:=(h.has _).1 hx
 have e:∀j:Nat,ix (st p (k:Int) (mgt m (ix l (k:Int)))) (j:Int)=if j=k then mgt m (ix l (k:Int)) else ix p (j:Int):=fun j=>by
  rw[ix_st _ ω (by rw[h.len];omega) ω];by_cases hj:j=k
  ·rw[if_pos ω,if_pos hj]
  ·rw[if_neg ω,if_neg hj]
 have hi':mgt m (ix l (k:Int))=ix p (i:Int):=by rw[h.at_ i hi,he]
 refine⟨by simpa using h.len,fun x=>?_,fun j hj=>?_,fun j hj=>?_,fun a b ha hb hab=>?_,fun v h0 h1=>?_,fun q hq v h0 h1=>?_,by have:=h.le;omega⟩
 ·rw[h.has];constructor
  ·rintro⟨j,hj,hh⟩;exact⟨j,ω,hh⟩
  ·rintro⟨j,hj,hh⟩;by_cases hjk:j=k
   ·subst hjk;exact⟨i,hi,he.trans hh⟩
   ·exact⟨j,ω,hh⟩
 ·rw[e];by_cases hjk:j=k
  ·rw[if_pos hjk,hjk]
  ·rw[if_neg hjk];exact h.at_ j ω
 ·rw[e];by_cases hjk:j=k
  ·rw[if_pos hjk,hi'];exact h.lo i hi
  ·rw[if_neg hjk];exact h.lo j ω
 ·rw[e,e] at hab;by_cases hak:a=k
  ·by_cases hbk:b=k
   ·rw[hak,hbk]
   ·rw[if_pos hak,if_neg hbk,hi'] at hab;rw[hak,←he];exact h.inj i b hi ω hab
  ·by_cases hbk:b=k
   ·rw[if_neg hak,if_pos hbk,hi'] at hab;rw[hbk,←he];exact h.inj a i ω hi hab
   ·rw[if_neg hak,if_neg hbk] at hab;exact h.inj a b ω ω hab
 ·obtain⟨j,hj,hv⟩:=h.all v h0 h1;exact⟨j,ω,by rw[e,if_neg ω];exact hv⟩
 ·rw[e] at h1;by_cases hqk:q=k
  ·rw[if_pos hqk,hi'] at h1;obtain⟨j,hj,hv⟩:=h.can i hi v h0 h1;exact⟨j,ω,by rw[e,if_neg ω];exact hv⟩
  ·rw[if_neg hqk] at h1;obtain⟨j,hj,hv⟩:=h.can q ω v h0 h1;exact⟨j,ω,by rw[e,if_neg ω];exact hv⟩
theorem CN.new {k:Nat} {m:List (κ×Int)} {p:List Int} (h:CN l k m p) (hk:k<l.length) (hx:¬mhas m (ix l (k:Int))=true):CN l (k+1) (mput m (ix l (k:Int)) (m.length:Int)) (st p (k:Int) (m.length:Int)):=by
 have e:∀j:Nat,ix (st p (k:Int) (m.length:Int)) (j:Int)=if j=k then (m.length:Int) else ix p (j:Int):=fun j=>by
  rw[ix_st _ ω (by rw[h.len];omega) ω];by_cases hj:j=k
  ·rw[if_pos ω,if_pos hj]
  ·rw[if_neg ω,if_neg hj]
 have hn:∀j:Nat,j<k→¬ix l (j:Int)=ix l (k:Int):=fun j hj hh=>hx ((h.has _).2 ⟨j,hj,hh⟩)
 have hlen:(mput m (ix l (k:Int)) (m.length:Int)).length=m.length+1:=by rw[JaL,if_neg hx]
 refine⟨by simpa using h.len,fun x=>?_,fun j hj=>?_,fun j hj=>?_,fun a b ha hb hab=>?_,fun v h0 h1=>?_,fun q hq v h0 h1=>?_,by have:=h.le;omega⟩
 ·rw[J5t,Bool.or_eq_true,decide_eq_true_eq,h.has];constructor
  ·rintro(rfl | ⟨j,hj,hh⟩)
   ·exact⟨k,ω,rfl⟩
   ·exact⟨j,ω,hh⟩
  ·rintro⟨j,hj,hh⟩;by_cases hjk:j=k
   ·subst hjk;exact .inl hh.symm
   ·exact .inr ⟨j,ω,hh⟩
 ·rw[e,J6T];by_cases hjk:j=k
  ·rw[if_pos hjk,hjk,if_pos rfl]
  ·rw[if_neg hjk,if_neg (hn j ω)];exact h.at_ j ω
 ·rw[e,hlen];by_cases hjk:j=k
  ·rw[if_pos hjk];omega
  ·rw[if_neg hjk];have:=h.lo j ω;omega
 ·rw[e,e] at hab;by_cases hak:a=k
  ·by_cases hbk:b=k
   ·rw[hak,hbk]
   ·rw[if_pos hak,if_neg hbk] at hab;have:=h.lo b ω;omega
  ·by_cases hbk:b=k
   ·rw[if_neg hak,if_pos hbk] at hab;have:=h.lo a ω;omega
   ·rw[if_neg hak,if_neg hbk] at hab;exact h.inj a b ω ω hab
 ·rw[hlen] at h1;by_cases hv:v=(m.length:Int)
  ·exact⟨k,ω,by rw[e,if_pos rfl,hv]⟩
  ·obtain⟨j,hj,hv⟩:=h.all v h0 ω;exact⟨j,ω,by rw[e,if_neg ω];exact hv⟩
 ·rw[e] at h1;by_cases hqk:q=k
  ·rw[if_pos hqk] at h1;obtain⟨j,hj,hv⟩:=h.all v h0 h1;exact⟨j,ω,by rw[e,if_neg ω];exact hv⟩
  ·rw[if_neg hqk] at h1;obtain⟨j,hj,hv⟩:=h.can q ω v h0 h1;exact⟨j,ω,by rw[e,if_neg ω];exact hv⟩
end
theorem J5r {l:List Int} (hl:l.length≤4096) {K:List Int→Prop} (h:∀p,IsCan p l→K p):J0x l K:=by
 unfold J0x;refine fun _=>⟨ω,ω,LoopWP.fold l.length (fun k (s:List (Int×Int)×List Int)=>CN l k s.1 s.2) CN.start ?_⟩;rintro k ⟨m,p⟩ X hk hI hX
 show J0X l K _ k m p
 unfold J0X;have hlen:p.length=l.length:=hI.len
 split
 ·refine⟨ω,ω,?_⟩
  split
  ·rename_i hx;exact⟨ω,ω,hX _ ω (hI.old ω hx)⟩
  ·rename_i hx;exact⟨ω,ω,hX _ ω (hI.new ω hx)⟩
 ·obtain rfl:k=l.length:=ω;exact h p hI.fin
theorem J3l {l:List Int} (hl:l.length≤4096) {K:List Int→Prop} (h:∀p,IsCan p l→K p):J0D l K:=by
 unfold J0D;intro _;rw[if_neg ω];exact J5r hl h
end Sg
namespace Sg
open Go
def orbit (f:List Int) (i:Int) (k:Nat):List Int:=(List.range k).map fun m=>itr f m i
@[simp] theorem Jbp (f:List Int) (i:Int) (k:Nat):(orbit f i k).length=k:=by simp[orbit]
end Sg
namespace Sg
open Go
def PL (f:List Int) (m:Nat):List (List Int):=(List.range m).map fun k=>pw f (k+1)
@[simp] theorem JfD (f:List Int) (m:Nat):(PL f m).length=m:=by simp[PL]
end Sg
namespace Sg
open Go
def col (d:DFA) (x:Nat):List Int:=d.Next.map fun row=>ix row (x:Int)
def gensD (d:DFA):List (List Int):=(List.range d.Letters.toNat).map (col d)
theorem J6t {d:DFA} {x:Nat} (h:x<d.Letters.toNat):ix (gensD d) (x:Int)=col d x:=by
 rw[ix_lt (by simpa [gensD] using h)];simp[gensD]
theorem JcD {d:DFA} {x q:Nat} (h:q<d.Next.length):ix (col d x) (q:Int)=ix (ix d.Next (q:Int)) (x:Int):=by
 unfold col;rw[J2M _ ω ω]
@[simp] theorem Jd0 {d:DFA} {x:Nat}:(col d x).length=d.Next.length:=by simp[col]
@[simp] theorem J9P {d:DFA}:(gensD d).length=d.Letters.toNat:=by simp[gensD]
theorem J7O {d:DFA} {K:List (List Int)→Int→Prop} (h:if DV d=true then (if 32<d.Final.length then K [] 3 else K (gensD d) 0) else K [] (daC d)):J3u d K:=by
 unfold J3u;refine J1U ?_
 split
 ·rename_i h0;have hv:=daC0.1 h0;have D:=J43.1 hv;rw[if_pos hv] at h;refine fun _=>?_
  split
  ·rw[if_pos ω] at h;exact h
  ·rw[if_neg ω] at h;have l1:=D.l1;have l6:=D.l6;have nx:=D.nx;refine⟨ω,ω,LoopWP.fold d.Letters.toNat (fun k (g:List (List Int))=>g.length=d.Letters.toNat∧∀j:Nat,j<k→ix g j=col d j) ⟨by simp,fun j hj=>absurd hj (Nat.not_lt_zero _)⟩ ?_⟩;rintro k g X hk ⟨hl,hI⟩ hX
   show J5Q d K _ k g
   unfold J5Q;simp only[List.length_replicate]
   split
   ·rename_i hkl;refine fun _=>⟨ω,ω,ω,ω,?_⟩;refine LoopWP.fold d.Next.length (fun m (g:List (List Int))=>g.length=d.Letters.toNat∧(∀j:Nat,j<k→ix g j=col d j)∧(ix g (k:Int)).length=d.Next.length∧∀q:Nat,q<m→ix (ix g (k:Int)) q=ix (ix d.Next q) (k:Int)) ⟨by simpa using hl,fun j hj=>?_,?_,fun q hq=>absurd hq (Nat.not_lt_zero _)⟩ ?_
    ·rw[ix_st _ ω ω ω,if_neg ω];exact hI j hj
    ·rw[ix_st _ ω ω ω,if_pos rfl];simp
    ·rintro m g2 X2 hm ⟨hl2,hJ,hlen,hq⟩ hX2
     show J5P d k _ K _ m g2
     unfold J5P
     split
     ·have hml:m<d.Next.length:=ω;have hr:=D.row m hml;refine⟨ω,ω,ω,ω,ω,ω,ω,ω,hX2 _ hml ⟨by simpa using hl2,fun j hj=>?_,?_,fun q hqm=>?_⟩⟩
      ·rw[ix_st _ ω ω ω,if_neg ω];exact hJ j hj
      ·rw[ix_st _ ω ω ω,if_pos rfl];simpa using hlen
      ·rw[ix_st (xs:=g2) _ ω ω ω,if_pos rfl,ix_st _ ω ω ω]
       split
       ·rename_i he;have:q=m:=ω;subst this;rfl
       ·exact hq q ω
     ·have:m=d.Next.length:=ω;subst this;refine⟨⟨ω,ω⟩,hX _ ω ⟨hl2,fun j hj=>?_⟩⟩;by_cases hjk:j=k
      ·subst hjk
       exact J09 (by simp[hlen]) fun q hql=>by rw[hq q ω,JcD ω]
      ·exact hJ j ω
   ·have:g=gensD d:=J09 (by simp[hl]) fun j hj=>by rw[hI j ω,J6t ω]
    subst this;exact h
 ·rename_i h0;rw[if_neg (fun hh=>h0 (daC0.2 hh))] at h;exact h
theorem JaZ {d:DFA} (hv:DV d=true) (h32:d.Final.length≤32):GV (gensD d)=true:=by
 have D:=J43.1 hv;have l1:=D.l1;have l6:=D.l6;have nx:=D.nx;have f1:=D.f1
 have h0:(ix (gensD d) 0).length=d.Next.length:=by
  have:=J6t (d:=d) (x:=0) ω;rw[show ((0:Nat):Int)=0 from rfl] at this;rw[this];simp
 refine J0w.2 ⟨by simp;omega,by simp;omega,fun j hj=>?_⟩
 have hj':j<d.Letters.toNat:=by simpa using hj
 rw[J6t hj',h0];refine⟨J2j.2 ⟨by simp;omega,by simp;omega,fun i hi=>?_⟩,by simp⟩
 have hi':i<d.Next.length:=by simpa using hi
 rw[JcD hi',Jd0];have hr:=D.row i hi';have:=D.el i j hi' ω;omega
end Sg
namespace Sg
open Go
theorem J4p {n:Nat} {x:Int}:x∈iota n↔0≤x∧x<n:=by
 simp only[iota,List.mem_map,List.mem_range];constructor
 ·rintro⟨a,h,rfl⟩;omega
 ·rintro⟨h0,h1⟩;exact⟨x.toNat,ω,ω⟩
theorem J44 {l:List Int}:∀{l':List Int},l.Nodup→(∀x∈l,x∈l')→l.length≤l'.length:=by
  induction l with
  | nil=>intro l' _ _;simp
  | cons a l ih =>
    intro l' hn hs;rw[List.nodup_cons] at hn;have ha:=hs a (by simp);have h1:=ih (l':=l'.erase a) hn.2 fun x hx=>(List.mem_erase_of_ne (fun e=>hn.1 (by rw[←e];exact hx))).2 (hs x (by simp[hx]));rw[List.length_erase_of_mem ha] at h1;have:=List.length_pos_of_mem ha;simp only[List.length_cons];omega
end Sg
namespace Sg
open Go
def invS (f:List Int):Nat→List Int
 | 0=>List.replicate f.length 0
 | k+1=>st (invS f k) (ix f (k:Int)) (k:Int)
@[simp] theorem Jed {f:List Int}:∀k,(invS f k).length=f.length
 | 0=>by simp[invS]
 | k+1=>by simp[invS,Jed k]
end Sg
namespace Sg
open Go
end Sg
