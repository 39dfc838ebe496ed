/- -/
import Derived.Test.YtbmaaecppfdjfaaGreatDoorFm
namespace Sg
open Go
set_option linter.unusedVariables false
def J3C (n:Int) (K:List Int→Prop) (X1:Nat→List Int→Prop) (a:Nat) (b:List Int):Prop:=
 (if (a:Int)<((List.replicate n.toNat ((0:Int))).length:Int) then (0≤(a:Int)∧(a:Int)<(b.length:Int)∧(I64 ((a:Int)+(1:Int))∧(X1 (a+1) (st b (a:Int) (a:Int))))) else (K b))
def J7K (n:Int) (K:List Int→Prop):Prop:=
 (0≤n∧n≤1099511627776∧(LoopWP (S:=Nat×List Int) (fun s X=>J3C n K (fun a b=>X (a,b)) s.1 s.2) (0,List.replicate n.toNat ((0:Int)))))
def J4i (f:List Int) (g:List Int) (K:List Int→Prop) (X1:Nat→List Int→Prop) (a:Nat) (b:List Int):Prop:=
 (if (a:Int)<(f.length:Int) then (0≤(a:Int)∧(a:Int)<(f.length:Int)∧(0≤(ix f (a:Int))∧(ix f (a:Int))<(g.length:Int)∧(0≤(a:Int)∧(a:Int)<(b.length:Int)∧(X1 (a+1) (st b (a:Int) (ix g (ix f (a:Int)))))))) else (K b))
def J8t (f:List Int) (g:List Int) (K:List Int→Prop):Prop:=
 (f.length≤mx→(0≤(f.length:Int)∧(f.length:Int)≤1099511627776∧(LoopWP (S:=Nat×List Int) (fun s X=>J4i f g K (fun b a=>X (b,a)) s.1 s.2) (0,List.replicate f.length ((0:Int))))))
def J6i (a:List Str) (b:List Str) (K:Bool→Prop) (X1:Nat→Prop) (c:Nat):Prop:=
 (if (c:Int)<(a.length:Int) then (0≤(c:Int)∧(c:Int)<(a.length:Int)∧(0≤(c:Int)∧(c:Int)<(b.length:Int)∧(if (ix a (c:Int))=(ix b (c:Int)) then (X1 (c+1)) else (K false)))) else (K true))
def Jam (a:List Str) (b:List Str) (K:Bool→Prop):Prop:=
 (a.length≤mx→(b.length≤mx→(if (a.length:Int)=(b.length:Int) then (LoopWP (S:=Nat) (fun s X=>J6i a b K X s) 0) else (K false))))
def J2Z (a:List Bool) (b:List Bool) (K:Bool→Prop) (X1:Nat→Prop) (c:Nat):Prop:=
 (if (c:Int)<(a.length:Int) then (0≤(c:Int)∧(c:Int)<(a.length:Int)∧(if ix a (c:Int)=true then (0≤(c:Int)∧(c:Int)<(b.length:Int)∧(if ix b (c:Int)=true then (X1 (c+1)) else (K false))) else (0≤(c:Int)∧(c:Int)<(b.length:Int)∧(if ix b (c:Int)=true then (K false) else (X1 (c+1)))))) else (K true))
def J7i (a:List Bool) (b:List Bool) (K:Bool→Prop):Prop:=
 (a.length≤mx→(b.length≤mx→(if (a.length:Int)=(b.length:Int) then (LoopWP (S:=Nat) (fun s X=>J2Z a b K X s) 0) else (K false))))
def J5S (p:List Int) (K:Int→Prop) (X1:Int→Nat→Prop) (n1_2:Int) (k1_3:Nat):Prop:=
 (if (k1_3:Int)<(p.length:Int) then (0≤(k1_3:Int)∧(k1_3:Int)<(p.length:Int)∧(I64 ((ix p (k1_3:Int))+(1:Int))∧(if n1_2<((ix p (k1_3:Int))+(1:Int)) then (X1 (((ix p (k1_3:Int))+(1:Int))) (k1_3+1)) else (X1 n1_2 (k1_3+1))))) else (K n1_2))
def J8b (p:List Int) (K:Int→Prop):Prop:=
 (p.length≤mx→(LoopWP (S:=Int×Nat) (fun s X=>J5S p K (fun n1_2 k1_3=>X (n1_2,k1_3)) s.1 s.2) ((0:Int),0)))
def J46 (p:List Int) (K:List (List Int)→Prop) (X1:Nat→List (List Int)→Prop) (k1_18:Nat) (out1_19:List (List Int)):Prop:=
 (if (k1_18:Int)<(p.length:Int) then (0≤(k1_18:Int)∧(k1_18:Int)<(p.length:Int)∧(0≤(ix p (k1_18:Int))∧(ix p (k1_18:Int))<(out1_19.length:Int)∧(((ix out1_19 (ix p (k1_18:Int)))).length+([(k1_18:Int)]).length≤1099511627776∧(0≤(ix p (k1_18:Int))∧(ix p (k1_18:Int))<(out1_19.length:Int)∧(X1 (k1_18+1) (st out1_19 (ix p (k1_18:Int)) (((ix out1_19 (ix p (k1_18:Int))))++([(k1_18:Int)])))))))) else (K out1_19))
def J6j (p:List Int) (K:List (List Int)→Prop):Prop:=
 (J8b p fun r1=>(0≤r1∧r1≤1099511627776∧(p.length≤mx→(LoopWP (S:=Nat×List (List Int)) (fun s X=>J46 p K (fun k1_18 out1_19=>X (k1_18,out1_19)) s.1 s.2) (0,List.replicate r1.toNat ([]:List Int))))))
end Sg
