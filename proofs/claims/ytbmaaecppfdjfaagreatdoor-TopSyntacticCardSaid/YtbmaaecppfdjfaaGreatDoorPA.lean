/- -/
import Derived.Laws.Bits
import Derived.Laws.Entries
set_option linter.unusedVariables false
set_option linter.unusedSimpArgs false
namespace Sg
theorem ω {p:Prop} (h:p:=by omega):p:=h
open Go
abbrev Str:=List UInt8
abbrev Bd (i n:Int) (p:Prop):Prop:=0≤i∧i<n∧p
def ix {α:Type} [Inhabited α] (xs:List α) (i:Int):α:=xs.getD i.toNat default
def st {α:Type} (xs:List α) (i:Int) (v:α):List α:=xs.set i.toNat v
theorem ix_eq {α:Type} [Inhabited α] {xs:List α} {i:Int} (h:i.toNat<xs.length):ix xs i=xs[i.toNat]:=by
 simp[ix,List.getD_eq_getElem?_getD,h]
@[simp] theorem J02 {α:Type} (xs:List α) (i:Int) (v:α):(st xs i v).length=xs.length:=by simp[st]
theorem J9O {α:Type} [Inhabited α] (xs:List α) (k:Nat):ix xs (k:Int)=xs.getD k default:=rfl
theorem ix_lt {α:Type} [Inhabited α] {xs:List α} {k:Nat} (h:k<xs.length):ix xs (k:Int)=xs[k]:=by
 rw[ix_eq (by simpa using h)];simp
theorem ix_st {α:Type} [Inhabited α] {xs:List α} {i j:Int} (v:α) (h0:0≤i) (h1:i<xs.length) (hj:0≤j):ix (st xs i v) j=if j=i then v else ix xs j:=by
 simp only[ix,st,List.getD_eq_getElem?_getD,List.getElem?_set];by_cases h:j=i
 ·subst h;rw[if_pos rfl,if_pos rfl,if_pos (by omega)];rfl
 ·rw[if_neg (by omega),if_neg h]
def I64 (r:Int):Prop:=-9223372036854775808≤r∧r≤9223372036854775807
def U64 (r:Int):Prop:=0≤r∧r≤18446744073709551615
def mx:Nat:=9223372036854775807
def shlK (k:IntKind) (a b:Int):Int:=k.wrap (a*2 ^ (min b.toNat k.bits))
def shrK (k:IntKind) (a b:Int):Int:=a.fdiv (2 ^ (min b.toNat k.bits))
def msort (xs:List Int):List Int:=xs.mergeSort fun x y=>decide (x≤y)
def LoopWP {S:Type} (body:S→(S→Prop)→Prop) (s:S):Prop:=∀X:S→Prop,(∀s,body s X→X s)→X s
theorem LoopWP.intro {S:Type} {body:S→(S→Prop)→Prop} {s:S} (I:S→Prop) (μ:S→Nat) (h:I s)
    (round:∀s X,I s→(∀s',I s'→μ s'<μ s→X s')→body s X):LoopWP body s:=by
  intro X hX
  have key:∀m s,μ s=m→I s→X s:=by
    intro m
    induction m using Nat.strongRecOn with
    | _ m ih =>
      intro s hm hs;exact hX s (round s X hs fun s' hs' hlt=>ih (μ s') (hm▸hlt) s' rfl hs')
  exact key _ s rfl h
theorem ifp {c:Prop} [Decidable c] {a b:Prop} (h:c) (H:if c then a else b):a:=by rwa [if_pos h] at H
theorem ifn {c:Prop} [Decidable c] {a b:Prop} (h:¬c) (H:if c then a else b):b:=by rwa [if_neg h] at H
theorem LoopWP.to {S:Type} {body:S→(S→Prop)→Prop} {s:S} (n:Nat) (c:S→Nat) (I:S→Prop) (h:I s) (hc:∀s,I s→c s≤n)
  (round:∀s X,I s→(∀s',I s'→c s'=c s+1→X s')→body s X):LoopWP body s:=
 LoopWP.intro I (fun s=>n-c s) h fun s X hs hX=>round s X hs fun s' hs' hcs=>hX s' hs' (by have:=hc s' hs';omega)
theorem J09 {α:Type} [Inhabited α] {xs ys:List α} (h:xs.length=ys.length) (hi:∀j:Nat,j<xs.length→ix xs j=ix ys j):xs=ys:=by
 apply List.ext_getElem h;intro j h1 h2;have:=hi j h1
 rwa [ix_lt h1,ix_lt h2] at this
theorem J0S {α:Type} [Inhabited α] {xs:List α} {i:Int} (h0:0≤i) (h1:i<xs.length):ix xs i∈xs:=by
 rw[ix_eq (by omega)];exact List.getElem_mem _
theorem J2M {α β:Type} [Inhabited α] [Inhabited β] (g:α→β) {xs:List α} {i:Int} (h0:0≤i) (h1:i<xs.length):ix (xs.map g) i=g (ix xs i):=by
 rw[ix_eq (by simp;omega),ix_eq (by omega)];simp
theorem J0N {α:Type} [Inhabited α] {xs:List α} {p:α→Prop}:(∀x∈xs,p x)↔∀j:Nat,j<xs.length→p (ix xs j):=by
 refine⟨fun h j hj=>h _ (J0S (by omega) (by omega)),fun h x hx=>?_⟩;obtain⟨j,hj,rfl⟩:=List.getElem_of_mem hx;have:=h j hj
 rwa [ix_lt hj] at this
@[simp] theorem J0c {α:Type} [Inhabited α] (n:Nat) (v:α) {j:Nat} (h:j<n):ix (List.replicate n v) (j:Int)=v:=by
 rw[ix_lt (by simpa using h)];simp
def RecWP {S T:Type} (body:(S→(T→Prop)→Prop)→S→(T→Prop)→Prop) (s:S) (K:T→Prop):Prop:=
 ∀X:S→(T→Prop)→Prop,(∀s K,body X s K→X s K)→X s K
theorem RecWP.intro {S T:Type} {body:(S→(T→Prop)→Prop)→S→(T→Prop)→Prop} {s:S} {K:T→Prop} (I:S→Prop) (Q:S→T→Prop) (μ:S→Nat) (h:I s) (hK:∀t,Q s t→K t)
    (round:∀X s K,I s→(∀s' K',I s'→μ s'<μ s→(∀t,Q s' t→K' t)→X s' K')→(∀t,Q s t→K t)→body X s K):RecWP body s K:=by
  intro X hX
  have key:∀m s K,μ s=m→I s→(∀t,Q s t→K t)→X s K:=by
    intro m
    induction m using Nat.strongRecOn with
    | _ m ih =>
      intro s K hm hs hK;exact hX s K (round X s K hs (fun s' K' hs' hlt hK'=>ih (μ s') (hm▸hlt) s' K' rfl hs' hK') hK)
  exact key _ s K rfl h hK
def Jn {S:Type} (body:(S→Prop)→Prop) (k:S→Prop):Prop:=∀X:S→Prop,(∀s,k s→X s)→body X
theorem Jn.of {S:Type} {body:(S→Prop)→Prop} {k:S→Prop} (s0:S) (hb:∀X:S→Prop,X s0→body X) (hk:k s0):Jn body k:=fun X hX=>hb X (hX s0 hk)
theorem exE {α:Sort _} {P:α→Prop} {G:Prop} (h:∀a,P a→G):(∃a,P a)→G:=fun ⟨a,k⟩=>h a k
theorem andE {p q G:Prop} (h:p→q→G):p∧q→G:=fun k=>h k.1 k.2
theorem prE {α β:Type _} {M:α×β→Prop} (h:∀a b,M (a,b)):∀s,M s:=fun ⟨a,b⟩=>h a b
open Go
theorem Jb5 (n:Int):IntKind.u64.wrap n=n % 18446744073709551616:=by simp[IntKind.wrap,IntKind.bits,IntKind.signed]
theorem J9V {n:Int} (h:U64 n):IntKind.u64.wrap n=n:=by rw[Jb5];unfold U64 at h;omega
theorem Jbv {n:Int} (h:I64 n):IntKind.i64.wrap n=n:=by rw[IntKind.wrap_i64];unfold I64 at h;omega
theorem bits64 {a b:Nat} (ha:a<2 ^ 64) (hb:b<2 ^ 64):bits .and .u64 (a:Int) b=((a &&& b:Nat):Int)∧bits .or .u64 (a:Int) b=((a ||| b:Nat):Int):=
 bits_nat .u64 64 (by decide) (fun n h0 h1=>J9V ⟨h0,by omega⟩) a b ha hb
theorem bits63 {a b:Nat} (ha:a<2 ^ 63) (hb:b<2 ^ 63):bits .and .i64 (a:Int) b=((a &&& b:Nat):Int)∧bits .or .i64 (a:Int) b=((a ||| b:Nat):Int):=
 bits_nat .i64 63 (by decide) (fun n h0 h1=>Jbv ⟨by omega,by omega⟩) a b ha hb
theorem Jf2 {a k:Nat} (hk:k<64):shrK .u64 (a:Int) (k:Int)=((a >>> k:Nat):Int):=by
 unfold shrK;rw[show (min (k:Int).toNat IntKind.u64.bits)=k from by show min k 64=k;omega];rw[Nat.shiftRight_eq_div_pow,Int.fdiv_eq_ediv_of_nonneg _ (by exact_mod_cast Nat.zero_le _)];simp
theorem JeL {a k:Nat} (ha:a<2 ^ 64) (hk:k<64):bits .and .u64 (shrK .u64 (a:Int) (k:Int)) 1=((a.testBit k).toNat:Int):=by
 rw[Jf2 hk];have:=(bits64 (a:=a >>> k) (b:=1) (Nat.lt_of_le_of_lt (by rw[Nat.shiftRight_eq_div_pow];exact Nat.div_le_self _ _) ha) (by decide)).1;rw[Nat.and_one_is_mod] at this;refine this.trans ?_
 congr 1
 rw[Nat.testBit_eq_decide_div_mod_eq,Nat.shiftRight_eq_div_pow];by_cases h:a / 2 ^ k % 2=1
 ·simp[h]
 ·have:a / 2 ^ k % 2=0:=by omega
  simp[this]
theorem JeU {b j:Nat} (hb:b<2 ^ (64-j)) (hj:j<64):shlK .u64 (b:Int) (j:Int)=((b <<< j:Nat):Int):=by
 unfold shlK;rw[show (min (j:Int).toNat IntKind.u64.bits)=j from by show min j 64=j;omega]
 have h1:b*2 ^ j<2 ^ 64:=by
  have:2 ^ 64=2 ^ (64-j)*2 ^ j:=by rw[←Nat.pow_add];congr 1;omega
  rw[this];exact Nat.mul_lt_mul_of_pos_right hb (Nat.two_pow_pos j)
 have h2:(b:Int)*2 ^ j=((b*2 ^ j:Nat):Int):=by simp
 rw[h2,J9V ⟨by omega,by omega⟩,Nat.shiftLeft_eq]
open Go
def iota (n:Nat):List Int:=(List.range n).map fun (j:Nat)=>(j:Int)
@[simp] theorem J18 (n:Nat):(iota n).length=n:=by simp[iota]
theorem J89 {n j:Nat} (h:j<n):ix (iota n) (j:Int)=j:=by
 rw[ix_lt (by simpa using h)];simp[iota]
theorem ix_iota' {n:Nat} {i:Int} (h0:0≤i) (h:i<n):ix (iota n) i=i:=by
 obtain⟨j,rfl⟩:=Int.eq_ofNat_of_zero_le h0;exact J89 (by omega)
def WV (w:Str) (n:Int):Bool:=decide (1≤n) && decide (n≤6) && decide (w.length≤2048) && w.all fun b=>decide (97≤b.toNat) && decide ((b.toNat:Int)-97<n)
theorem Jfr {w:Str} {n:Int}:WV w n=true↔1≤n∧n≤6∧w.length≤2048∧∀j:Nat,j<w.length→97≤(ix w j).toNat∧((ix w j).toNat:Int)-97<n:=by
 have:(∀x∈w,97≤x.toNat∧(x.toNat:Int)-97<n)↔∀j:Nat,j<w.length→97≤(ix w j).toNat∧((ix w j).toNat:Int)-97<n:=J0N (p:=fun x:UInt8=>97≤x.toNat∧(x.toNat:Int)-97<n);simp only[WV,Bool.and_eq_true,decide_eq_true_eq,List.all_eq_true,←this,and_assoc]
theorem wrapL {b:UInt8} (h:97≤b.toNat):IntKind.i64.wrap (IntKind.u8.wrap ((b.toNat:Int)-97))=(b.toNat:Int)-97:=by
 have:=b.toNat_lt;rw[IntKind.wrap_u8,IntKind.wrap_i64];omega
theorem Ja7 {α:Type} [Inhabited α] {xs:List α} {k:Nat} (h:k<xs.length):xs.take (k+1)=xs.take k++[ix xs (k:Int)]:=by
 rw[ix_lt h];exact(List.take_append_getElem h).symm
theorem pigeon (n:Nat):∀g:Nat→Int,(∀m,m≤n→0≤g m∧g m<n)→∃a b,a<b∧b≤n∧g a=g b:=by
  induction n with
  | zero=>intro g hg;have:=hg 0 (Nat.le_refl _);omega
  | succ n ih =>
    intro g hg;by_cases hx:∃m,m≤n∧g m=g (n+1)
    · obtain⟨m,h1,h2⟩:=hx;exact⟨m,n+1,by omega,Nat.le_refl _,h2⟩
    · have hx':∀m,m≤n→g m≠g (n+1):=fun m hm he=>hx ⟨m,hm,he⟩
      obtain⟨a,b,hab,hbn,he⟩:=ih (fun m=>if g m=n then g (n+1) else g m) (fun m hm=>by
        have h1:=hg m (by omega);have h2:=hg (n+1) (Nat.le_refl _);have h3:=hx' m hm
        split<;>omega)
      refine⟨a,b,hab,by omega,?_⟩;have ha:=hx' a (by omega);have hb:=hx' b (by omega)
      split at he<;>split at he<;>omega
theorem JcI (g:Nat→Int) (d:Nat) (hd:1≤d):∃m,m<d∧∀j,j<d→g m≤g j:=by
  induction d with
  | zero=>omega
  | succ d ih =>
    rcases Nat.eq_zero_or_pos d with h0 | h0
    · subst h0;exact⟨0,by omega,fun j hj=>by rw[show j=0 from by omega];exact Int.le_refl _⟩
    · obtain⟨m,hm,hmin⟩:=ih h0;by_cases hc:g m≤g d
      · exact⟨m,by omega,fun j hj=>by
          by_cases hjd:j=d
          · subst hjd;exact hc
          · exact hmin j (by omega)⟩
      · exact⟨d,by omega,fun j hj=>by
          by_cases hjd:j=d
          · subst hjd;exact Int.le_refl _
          · have:=hmin j (by omega);omega⟩
theorem Jcl (p:Nat→Prop) (n:Nat) (h:p n):∃m,p m∧m≤n∧∀j,j<m→¬p j:=by
  induction n using Nat.strongRecOn with
  | _ n ih =>
    by_cases hx:∃j,j<n∧p j
    · obtain⟨j,hj,hpj⟩:=hx;obtain⟨m,h1,h2,h3⟩:=ih j hj hpj;exact⟨m,h1,by omega,h3⟩
    · exact⟨n,h,Nat.le_refl _,fun j hj hpj=>hx ⟨j,hj,hpj⟩⟩
theorem J0f {α:Type} [Inhabited α] {xs:List α} {x:α}:x∈xs↔∃j:Nat,j<xs.length∧ix xs j=x:=by
 constructor
 ·intro h;obtain⟨j,hj,rfl⟩:=List.getElem_of_mem h;exact⟨j,hj,ix_lt hj⟩
 ·rintro⟨j,hj,rfl⟩;exact J0S (by omega) (by omega)
theorem LoopWP.scan {body:Nat→(Nat→Prop)→Prop} (n:Nat) (P:Nat→Prop) (h:∀k X,k≤n→(∀j,j<k→P j)→(k<n→P k→X (k+1))→body k X):LoopWP body 0:=by
 refine LoopWP.to n (fun k=>k) (fun k=>k≤n∧∀j,j<k→P j) ⟨Nat.zero_le _,fun j hj=>absurd hj (Nat.not_lt_zero _)⟩ (fun s h=>h.1) ?_;intro k X hk hX;refine h k X hk.1 hk.2 fun hkn hP=>hX (k+1) ⟨hkn,fun j hj=>?_⟩ rfl;by_cases hjk:j=k
 ·subst hjk;exact hP
 ·exact hk.2 j (by omega)
theorem LoopWP.fold {S:Type} {body:Nat×S→(Nat×S→Prop)→Prop} (n:Nat) (I:Nat→S→Prop) {s0:S} (h0:I 0 s0) (h:∀k s X,k≤n→I k s→(∀s',k<n→I (k+1) s'→X (k+1,s'))→body (k,s) X):LoopWP body (0,s0):=by
 refine LoopWP.to n (fun s:Nat×S=>s.1) (fun s=>s.1≤n∧I s.1 s.2) ⟨Nat.zero_le _,h0⟩ (fun s h=>h.1) ?_;rintro⟨k,s⟩ X ⟨hk,hI⟩ hX;exact h k s X hk hI fun s' hkn hs'=>hX (k+1,s') ⟨hkn,hs'⟩ rfl
theorem LoopWP.foldR {S:Type} {body:S×Nat→(S×Nat→Prop)→Prop} (n:Nat) (I:Nat→S→Prop) (m:Nat) {s0:S} (hm:m≤n) (h0:I m s0) (h:∀k s X,k≤n→I k s→(∀s',k<n→I (k+1) s'→X (s',k+1))→body (s,k) X):LoopWP body (s0,m):=by
 refine LoopWP.to n (fun s:S×Nat=>s.2) (fun s=>s.2≤n∧I s.2 s.1) ⟨hm,h0⟩ (fun s h=>h.1) ?_;rintro⟨s,k⟩ X ⟨hk,hI⟩ hX;exact h k s X hk hI fun s' hkn hs'=>hX (s',k+1) ⟨hkn,hs'⟩ rfl
theorem upS {p:Nat→Prop} {k:Nat} (h:∀j,j<k→p j) (hk:p k):∀j,j<k+1→p j:=fun j hj=>by
 by_cases hjk:j=k
 ·subst hjk;exact hk
 ·exact h j (by omega)
theorem J8I {α:Type} {P:List α→Prop} (h0:P []) (h1:∀l a,P l→P (l++[a])) (l:List α):P l:=by
 rw[←l.reverse_reverse]
 induction l.reverse with
 | nil=>exact h0
 | cons a l ih=>rw[List.reverse_cons];exact h1 _ _ ih
section data
variable {κ ν:Type} [DecidableEq κ]
def mhas:List (κ×ν)→κ→Bool
 | [],_=>false
 | p::D,a=>decide (a=p.1) || mhas D a
def mgt [Inhabited ν]:List (κ×ν)→κ→ν
 | [],_=>default
 | p::D,a=>if a=p.1 then p.2 else mgt D a
def mput:List (κ×ν)→κ→ν→List (κ×ν)
 | [],a,v=>[(a,v)]
 | p::D,a,v=>if a=p.1 then (a,v)::D else p::mput D a v
theorem J5t {D:List (κ×ν)} {a b:κ} {v:ν}:mhas (mput D a v) b=(decide (b=a) || mhas D b):=by
  induction D with
  | nil=>simp[mput,mhas]
  | cons p D ih =>
    unfold mput;by_cases h:a=p.1
    · rw[if_pos h];subst h;simp[mhas]
    · rw[if_neg h];simp only[mhas,ih]
      cases decide (b=p.1)<;>cases decide (b=a)<;>rfl
theorem J6T [Inhabited ν] {D:List (κ×ν)} {a b:κ} {v:ν}:mgt (mput D a v) b=if b=a then v else mgt D b:=by
  induction D with
  | nil=>simp[mput,mgt]
  | cons p D ih =>
    unfold mput;by_cases h:a=p.1
    · rw[if_pos h];subst h;by_cases hb:b=p.1<;>simp[mgt,hb]
    · rw[if_neg h];simp only[mgt,ih];by_cases hb:b=p.1
      · have:¬b=a:=fun hh=>h (hh▸hb);simp[hb,Ne.symm h]
      · simp[hb]
theorem JaL {D:List (κ×ν)} {a:κ} {v:ν}:(mput D a v).length=if mhas D a=true then D.length else D.length+1:=by
  induction D with
  | nil=>simp[mput,mhas]
  | cons p D ih =>
    unfold mput;by_cases h:a=p.1
    · rw[if_pos h];simp[mhas,h]
    · rw[if_neg h];simp only[mhas,h,decide_false,Bool.false_or,List.length_cons,ih]
      split<;>rfl
end data
def byt (xs:List Int):Str:=xs.map fun n=>UInt8.ofNat n.toNat
def chr (n:Int):Str:=[UInt8.ofNat n.toNat]
def slt:Str→Str→Bool
 | _,[]=>false
 | [],_::_=>true
 | a::x,b::y=>decide (a<b) || (decide (a=b) && slt x y)
@[simp] theorem Jfa (xs:List Int):(byt xs).length=xs.length:=by simp[byt]
@[simp] theorem Jfd (n:Int):(chr n).length=1:=rfl
theorem Jck (n:Int):(chr n).length≤mx:=by simp[mx]
theorem JeB {xs:List Int} (h:xs.length≤mx):(byt xs).length≤mx:=by simpa using h
def AN (n:Nat):Type:={l:List Int // l.length=n}
instance (n:Nat):DecidableEq (AN n):=fun a b=>decidable_of_iff (a.1=b.1) Subtype.ext_iff.symm
instance (n:Nat):Inhabited (AN n):=⟨⟨List.replicate n 0,by simp⟩⟩
def toAN (n:Nat) (l:List Int):AN n:=⟨(l++List.replicate n 0).take n,by simp⟩
theorem JaY {n:Nat} {l:List Int} (h:l.length=n):(toAN n l).1=l:=by
 subst h;simp[toAN]
theorem Jei {n:Nat} {l m:List Int} (h:l.length=n) (k:m.length=n) (e:toAN n l=toAN n m):l=m:=by
 have:=congrArg Subtype.val e
 rwa [JaY h,JaY k] at this
inductive Expr where
 | mk (Op Letter:Int) (Kids:List Expr)
def Expr.Op:Expr→Int | .mk o _ _=>o
def Expr.Letter:Expr→Int | .mk _ l _=>l
def Expr.Kids:Expr→List Expr | .mk _ _ k=>k
instance:Inhabited Expr:=⟨.mk 0 0 []⟩
mutual
def eqE:Expr→Expr→Bool
 | .mk o l k,.mk o' l' k'=>decide (o=o') && (decide (l=l') && eqL k k')
def eqL:List Expr→List Expr→Bool
 | [],[]=>true
 | a::x,b::y=>eqE a b && eqL x y
 | _,_=>false
end
mutual
theorem JdH:∀a b:Expr,eqE a b=true↔a=b
  | .mk o l k, .mk o' l' k' => by
    simp only[eqE,Bool.and_eq_true,decide_eq_true_eq,JdG k k',Expr.mk.injEq]
theorem JdG:∀a b:List Expr,eqL a b=true↔a=b
 | [],[]=>by simp[eqL]
 | a::x,b::y=>by simp only[eqL,Bool.and_eq_true,JdH a b,JdG x y,List.cons.injEq]
 | [],_::_=>by simp[eqL]
 | _::_,[]=>by simp[eqL]
end
instance:DecidableEq Expr:=fun a b=>decidable_of_iff _ (JdH a b)
def bytesOf (xs:List Int):Str:=xs.map fun x=>UInt8.ofNat x.toNat
def isBytes (xs:List Int):Prop:=(bytesOf xs).map (fun b=>(b.toNat:Int))=xs
instance (xs:List Int):Decidable (isBytes xs):=inferInstanceAs (Decidable (_=_))
def dbTab:List Int:=[0,1,56,2,57,49,28,3,61,58,42,50,38,29,17,4,62,47,59,36,45,43,51,22,53,39,33,30,24,18,12,5,63,55,48,27,60,41,37,16,46,35,44,21,52,32,23,11,54,26,40,15,34,20,31,10,25,14,19,9,13,8,7,6]
end Sg
