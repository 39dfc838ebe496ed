/- -/
import Derived.Test.YtbmaaecppfdjfaaGreatDoorFm
namespace Sg
open Go
set_option linter.unusedVariables false
def J3C (n:Int) (K:List Int→Prop) (X1:Nat→List Int→Prop) (a:Nat) (b:List Int):Prop:=
 (if (a:Int)<((List.replicate n.toNat ((0:Int))).length:Int) then (0≤(a:Int)∧(a:Int)<(b.length:Int)∧(I64 ((a:Int)+(1:Int))∧(X1 (a+1) (st b (a:Int) (a:Int))))) else (K b))
def J7K (n:Int) (K:List Int→Prop):Prop:=
 (0≤n∧n≤1099511627776∧(LoopWP (S:=Nat×List Int) (fun s X=>J3C n K (fun a b=>X (a,b)) s.1 s.2) (0,List.replicate n.toNat ((0:Int)))))
def J4i (f:List Int) (g:List Int) (K:List Int→Prop) (X1:Nat→List Int→Prop) (a:Nat) (b:List Int):Prop:=
 (if (a:Int)<(f.length:Int) then (0≤(a:Int)∧(a:Int)<(f.length:Int)∧(0≤(ix f (a:Int))∧(ix f (a:Int))<(g.length:Int)∧(0≤(a:Int)∧(a:Int)<(b.length:Int)∧(X1 (a+1) (st b (a:Int) (ix g (ix f (a:Int)))))))) else (K b))
def J8t (f:List Int) (g:List Int) (K:List Int→Prop):Prop:=
 (f.length≤mx→(0≤(f.length:Int)∧(f.length:Int)≤1099511627776∧(LoopWP (S:=Nat×List Int) (fun s X=>J4i f g K (fun b a=>X (b,a)) s.1 s.2) (0,List.replicate f.length ((0:Int))))))
def J3A (a:List (List Int)) (b:List (List Int)) (K:Bool→Prop) (X1:Nat→Prop) (k1_3:Nat):Prop:=
 (if (k1_3:Int)<(a.length:Int) then (0≤(k1_3:Int)∧(k1_3:Int)<(a.length:Int)∧(0≤(k1_3:Int)∧(k1_3:Int)<(b.length:Int)∧(J92 (ix a (k1_3:Int)) (ix b (k1_3:Int)) fun r20=>(if r20=true then (X1 (k1_3+1)) else (K false))))) else (K true))
def J7N (a:List (List Int)) (b:List (List Int)) (K:Bool→Prop):Prop:=
 (a.length≤mx→(b.length≤mx→(if (a.length:Int)=(b.length:Int) then (LoopWP (S:=Nat) (fun s X=>J3A a b K X s) 0) else (K false))))
end Sg
