/- -/
import Derived.Test.YtbmaaecppfdjfaaGreatDoorFm
namespace Sg
open Go
set_option linter.unusedVariables false
def J4Q (n : Int) (K : List Int → Prop) (X1 : Nat → List Int → Prop) (a : Nat) (b : List Int) : Prop :=
 (if (a : Int) < ((List.replicate n.toNat ((0 : Int))).length : Int) then (0 ≤ (a : Int) ∧ (a : Int) < (b.length : Int) ∧ (I64 ((a : Int) + (1 : Int)) ∧ (X1 (a + 1) (st b (a : Int) (a : Int))))) else (K b))
def Jaf (n : Int) (K : List Int → Prop) : Prop :=
 (0 ≤ n ∧ n ≤ 1099511627776 ∧ (LoopWP (S := Nat × List Int) (fun s X => J4Q n K (fun a b => X (a, b)) s.1 s.2) (0, List.replicate n.toNat ((0 : Int)))))
def J5Q (f : List Int) (g : List Int) (K : List Int → Prop) (X1 : Nat → List Int → Prop) (a : Nat) (b : List Int) : Prop :=
 (if (a : Int) < (f.length : Int) then (0 ≤ (a : Int) ∧ (a : Int) < (f.length : Int) ∧ (0 ≤ (ix f (a : Int)) ∧ (ix f (a : Int)) < (g.length : Int) ∧ (0 ≤ (a : Int) ∧ (a : Int) < (b.length : Int) ∧ (X1 (a + 1) (st b (a : Int) (ix g (ix f (a : Int)))))))) else (K b))
def Jbr (f : List Int) (g : List Int) (K : List Int → Prop) : Prop :=
 (f.length ≤ mx → (0 ≤ (f.length : Int) ∧ (f.length : Int) ≤ 1099511627776 ∧ (LoopWP (S := Nat × List Int) (fun s X => J5Q f g K (fun b a => X (b, a)) s.1 s.2) (0, List.replicate f.length ((0 : Int))))))
def J51 (a : List (List Int)) (b : List (List Int)) (K : Bool → Prop) (X1 : Nat → Prop) (k1_3 : Nat) : Prop :=
 (if (k1_3 : Int) < (a.length : Int) then (0 ≤ (k1_3 : Int) ∧ (k1_3 : Int) < (a.length : Int) ∧ (0 ≤ (k1_3 : Int) ∧ (k1_3 : Int) < (b.length : Int) ∧ (J6k (ix a (k1_3 : Int)) (ix b (k1_3 : Int)) fun r20 => (if r20 = true then (X1 (k1_3 + 1)) else (K false))))) else (K true))
def Jah (a : List (List Int)) (b : List (List Int)) (K : Bool → Prop) : Prop :=
 (a.length ≤ mx → (b.length ≤ mx → (if (a.length : Int) = (b.length : Int) then (LoopWP (S := Nat) (fun s X => J51 a b K X s) 0) else (K false))))
def J7H (p : List Int) (K : Int → Prop) (X1 : Int → Nat → Prop) (n1_2 : Int) (k1_3 : Nat) : Prop :=
 (if (k1_3 : Int) < (p.length : Int) then (0 ≤ (k1_3 : Int) ∧ (k1_3 : Int) < (p.length : Int) ∧ (I64 ((ix p (k1_3 : Int)) + (1 : Int)) ∧ (if n1_2 < ((ix p (k1_3 : Int)) + (1 : Int)) then (X1 (((ix p (k1_3 : Int)) + (1 : Int))) (k1_3 + 1)) else (X1 n1_2 (k1_3 + 1))))) else (K n1_2))
def Jam (p : List Int) (K : Int → Prop) : Prop :=
 (p.length ≤ mx → (LoopWP (S := Int × Nat) (fun s X => J7H p K (fun n1_2 k1_3 => X (n1_2, k1_3)) s.1 s.2) ((0 : Int), 0)))
def J5K (p : List Int) (K : List (List Int) → Prop) (X1 : Nat → List (List Int) → Prop) (k1_18 : Nat) (out1_19 : List (List Int)) : Prop :=
 (if (k1_18 : Int) < (p.length : Int) then (0 ≤ (k1_18 : Int) ∧ (k1_18 : Int) < (p.length : Int) ∧ (0 ≤ (ix p (k1_18 : Int)) ∧ (ix p (k1_18 : Int)) < (out1_19.length : Int) ∧ (((ix out1_19 (ix p (k1_18 : Int)))).length + ([(k1_18 : Int)]).length ≤ 1099511627776 ∧ (0 ≤ (ix p (k1_18 : Int)) ∧ (ix p (k1_18 : Int)) < (out1_19.length : Int) ∧ (X1 (k1_18 + 1) (st out1_19 (ix p (k1_18 : Int)) (((ix out1_19 (ix p (k1_18 : Int)))) ++ ([(k1_18 : Int)])))))))) else (K out1_19))
def J8P (p : List Int) (K : List (List Int) → Prop) : Prop :=
 (Jam p fun r1 => (0 ≤ r1 ∧ r1 ≤ 1099511627776 ∧ (p.length ≤ mx → (LoopWP (S := Nat × List (List Int)) (fun s X => J5K p K (fun k1_18 out1_19 => X (k1_18, out1_19)) s.1 s.2) (0, List.replicate r1.toNat ([] : List Int))))))
end Sg
