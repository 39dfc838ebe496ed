/- What functions compute, as plain transformers, read off their operations by walkgen.py. -/
import Derived.Test.YtdcibmiaiijjpaaPMap
namespace Sg
open Go
set_option linter.unusedVariables false
structure Green where
  R : List Int
  L : List Int
  J : List Int
  H : List Int
  Below : List (List Bool)
  deriving Inhabited, DecidableEq
structure Box where
  Rows : List Int
  Cols : List Int
  Cells : List (List (List Int))
  Groups : List (List Bool)
  deriving Inhabited, DecidableEq
/- semigroup/semigroupref14.Shape -/
def ref14_Shape_L2 (t : List (List Int)) (k1_4 : Nat) (X1 : Nat → Prop) (K : Int → Prop) (X2 : Nat → Prop) (k2_14 : Nat) : Prop :=
  (if (k2_14 : Int) < ((ix t (k1_4 : Int)).length : Int) then (0 ≤ (k2_14 : Int) ∧ (k2_14 : Int) < ((ix t (k1_4 : Int)).length : Int) ∧ (if (ix (ix t (k1_4 : Int)) (k2_14 : Int)) < (0 : Int) then (K ((4 : Int))) else (if (t.length : Int) ≤ (ix (ix t (k1_4 : Int)) (k2_14 : Int)) then (K ((4 : Int))) else (X2 (k2_14 + 1))))) else (X1 (k1_4 + 1)))
def ref14_Shape_L1 (t : List (List Int)) (K : Int → Prop) (X1 : Nat → Prop) (k1_4 : Nat) : Prop :=
  (if (k1_4 : Int) < (t.length : Int) then (0 ≤ (k1_4 : Int) ∧ (k1_4 : Int) < (t.length : Int) ∧ ((ix t (k1_4 : Int)).length ≤ mx → (if ((ix t (k1_4 : Int)).length : Int) = (t.length : Int) then (LoopWP (S := Nat) (fun s X => ref14_Shape_L2 t k1_4 X1 K X s) 0) else (K ((4 : Int)))))) else (K ((0 : Int))))
def ref14_Shape (t : List (List Int)) (K : Int → Prop) : Prop :=
  (t.length ≤ mx → (if (400 : Int) < (t.length : Int) then (K ((3 : Int))) else (if (t.length : Int) = (0 : Int) then (K ((4 : Int))) else (LoopWP (S := Nat) (fun s X => ref14_Shape_L1 t K X s) 0))))
/- semigroup/semigroupref14.Associative -/
def ref14_Associative_L3 (t : List (List Int)) (k1_9 : Nat) (k2_12 : Nat) (X2 : Nat → Prop) (K : Int → Int → Int → Int → Prop) (X3 : Nat → Prop) (k3_15 : Nat) : Prop :=
  (if (k3_15 : Int) < (t.length : Int) then (0 ≤ (k1_9 : Int) ∧ (k1_9 : Int) < (t.length : Int) ∧ (0 ≤ (k2_12 : Int) ∧ (k2_12 : Int) < ((ix t (k1_9 : Int)).length : Int) ∧ (0 ≤ (ix (ix t (k1_9 : Int)) (k2_12 : Int)) ∧ (ix (ix t (k1_9 : Int)) (k2_12 : Int)) < (t.length : Int) ∧ (0 ≤ (k3_15 : Int) ∧ (k3_15 : Int) < ((ix t (ix (ix t (k1_9 : Int)) (k2_12 : Int))).length : Int) ∧ (0 ≤ (k1_9 : Int) ∧ (k1_9 : Int) < (t.length : Int) ∧ (0 ≤ (k2_12 : Int) ∧ (k2_12 : Int) < (t.length : Int) ∧ (0 ≤ (k3_15 : Int) ∧ (k3_15 : Int) < ((ix t (k2_12 : Int)).length : Int) ∧ (0 ≤ (ix (ix t (k2_12 : Int)) (k3_15 : Int)) ∧ (ix (ix t (k2_12 : Int)) (k3_15 : Int)) < ((ix t (k1_9 : Int)).length : Int) ∧ (if (ix (ix t (ix (ix t (k1_9 : Int)) (k2_12 : Int))) (k3_15 : Int)) = (ix (ix t (k1_9 : Int)) (ix (ix t (k2_12 : Int)) (k3_15 : Int))) then (X3 (k3_15 + 1)) else (K ((k1_9 : Int)) ((k2_12 : Int)) ((k3_15 : Int)) ((5 : Int)))))))))))) else (X2 (k2_12 + 1)))
def ref14_Associative_L2 (t : List (List Int)) (k1_9 : Nat) (X1 : Nat → Prop) (K : Int → Int → Int → Int → Prop) (X2 : Nat → Prop) (k2_12 : Nat) : Prop :=
  (if (k2_12 : Int) < (t.length : Int) then (LoopWP (S := Nat) (fun s X => ref14_Associative_L3 t k1_9 k2_12 X2 K X s) 0) else (X1 (k1_9 + 1)))
def ref14_Associative_L1 (t : List (List Int)) (K : Int → Int → Int → Int → Prop) (X1 : Nat → Prop) (k1_9 : Nat) : Prop :=
  (if (k1_9 : Int) < (t.length : Int) then (LoopWP (S := Nat) (fun s X => ref14_Associative_L2 t k1_9 X1 K X s) 0) else (K ((0 : Int)) ((0 : Int)) ((0 : Int)) ((0 : Int))))
def ref14_Associative (t : List (List Int)) (K : Int → Int → Int → Int → Prop) : Prop :=
  (ref14_Shape t fun r1 => (if r1 = (0 : Int) then (t.length ≤ mx → (LoopWP (S := Nat) (fun s X => ref14_Associative_L1 t K X s) 0)) else (K ((0 : Int)) ((0 : Int)) ((0 : Int)) r1)))
/- semigroup/semigroupref14.Validate -/
def ref14_Validate (t : List (List Int)) (K : Int → Prop) : Prop :=
  (ref14_Associative t fun r1 r2 r3 r4 => (K r4))
/- semigroup/semigroupref14.Valid -/
def ref14_Valid (t : List (List Int)) (K : Bool → Prop) : Prop :=
  (ref14_Validate t fun r1 => (if r1 = (0 : Int) then (K true) else (K false)))
/- semigroup/semigrouplaw15.small -/
def law15_small (t : List (List Int)) (most : Int) (K : Bool → Prop) : Prop :=
  (t.length ≤ mx → (if (t.length : Int) ≤ most then (ref14_Valid t fun r2 => (K r2)) else (K false)))
/- semigroup/semigroupref14.In -/
def ref14_In_L1 (t : List (List Int)) (l : List Int) (K : Bool → Prop) (X1 : Nat → Prop) (k1_2 : Nat) : Prop :=
  (if (k1_2 : Int) < (l.length : Int) then (0 ≤ (k1_2 : Int) ∧ (k1_2 : Int) < (l.length : Int) ∧ (if (ix l (k1_2 : Int)) < (0 : Int) then (K false) else (t.length ≤ mx → (if (t.length : Int) ≤ (ix l (k1_2 : Int)) then (K false) else (X1 (k1_2 + 1)))))) else (K true))
def ref14_In (t : List (List Int)) (l : List Int) (K : Bool → Prop) : Prop :=
  (l.length ≤ mx → (LoopWP (S := Nat) (fun s X => ref14_In_L1 t l K X s) 0))
/- semigroup/semigrouplaw15.flip -/
def law15_flip (K : List (List Int) → Prop) : Prop :=
  (K ([[(0 : Int), (1 : Int), (2 : Int)], [(1 : Int), (0 : Int), (2 : Int)], [(2 : Int), (2 : Int), (2 : Int)]]))
/- semigroup/mult.shape -/
def mult_shape_L2 (t : List (List Int)) (k1_4 : Nat) (X1 : Nat → Prop) (K : Int → Prop) (X2 : Nat → Prop) (k2_14 : Nat) : Prop :=
  (if (k2_14 : Int) < ((ix t (k1_4 : Int)).length : Int) then (0 ≤ (k2_14 : Int) ∧ (k2_14 : Int) < ((ix t (k1_4 : Int)).length : Int) ∧ (if (ix (ix t (k1_4 : Int)) (k2_14 : Int)) < (0 : Int) then (K ((4 : Int))) else (if (t.length : Int) ≤ (ix (ix t (k1_4 : Int)) (k2_14 : Int)) then (K ((4 : Int))) else (X2 (k2_14 + 1))))) else (X1 (k1_4 + 1)))
def mult_shape_L1 (t : List (List Int)) (K : Int → Prop) (X1 : Nat → Prop) (k1_4 : Nat) : Prop :=
  (if (k1_4 : Int) < (t.length : Int) then (0 ≤ (k1_4 : Int) ∧ (k1_4 : Int) < (t.length : Int) ∧ ((ix t (k1_4 : Int)).length ≤ mx → (if ((ix t (k1_4 : Int)).length : Int) = (t.length : Int) then (LoopWP (S := Nat) (fun s X => mult_shape_L2 t k1_4 X1 K X s) 0) else (K ((4 : Int)))))) else (K ((0 : Int))))
def mult_shape (t : List (List Int)) (K : Int → Prop) : Prop :=
  (t.length ≤ mx → (if (400 : Int) < (t.length : Int) then (K ((3 : Int))) else (if (t.length : Int) = (0 : Int) then (K ((4 : Int))) else (LoopWP (S := Nat) (fun s X => mult_shape_L1 t K X s) 0))))
/- semigroup/mult.spanning -/
def mult_spanning_L3 (a0 : List (List Int)) (k2_106 : Nat) (d_107 : List Int) (X2 : Nat → List Int → List Bool → Prop) (K : List Int → Prop) (X3 : Nat → List Int → List Bool → Prop) (k3_123 : Nat) (d_124 : List Int) (d_130 : List Bool) : Prop :=
  (if (k3_123 : Int) < ((d_107.take ((k2_106 + 1 : Int)).toNat).length : Int) then (0 ≤ (k3_123 : Int) ∧ (k3_123 : Int) < ((d_107.take ((k2_106 + 1 : Int)).toNat).length : Int) ∧ (0 ≤ (ix d_107 (k2_106 : Int)) ∧ (ix d_107 (k2_106 : Int)) < (a0.length : Int) ∧ (0 ≤ (ix (d_107.take ((k2_106 + 1 : Int)).toNat) (k3_123 : Int)) ∧ (ix (d_107.take ((k2_106 + 1 : Int)).toNat) (k3_123 : Int)) < ((ix a0 (ix d_107 (k2_106 : Int))).length : Int) ∧ (0 ≤ (ix (ix a0 (ix d_107 (k2_106 : Int))) (ix (d_107.take ((k2_106 + 1 : Int)).toNat) (k3_123 : Int))) ∧ (ix (ix a0 (ix d_107 (k2_106 : Int))) (ix (d_107.take ((k2_106 + 1 : Int)).toNat) (k3_123 : Int))) < (d_130.length : Int) ∧ (if ix d_130 (ix (ix a0 (ix d_107 (k2_106 : Int))) (ix (d_107.take ((k2_106 + 1 : Int)).toNat) (k3_123 : Int))) = true then (0 ≤ (ix (d_107.take ((k2_106 + 1 : Int)).toNat) (k3_123 : Int)) ∧ (ix (d_107.take ((k2_106 + 1 : Int)).toNat) (k3_123 : Int)) < (a0.length : Int) ∧ (0 ≤ (ix d_107 (k2_106 : Int)) ∧ (ix d_107 (k2_106 : Int)) < ((ix a0 (ix (d_107.take ((k2_106 + 1 : Int)).toNat) (k3_123 : Int))).length : Int) ∧ (0 ≤ (ix (ix a0 (ix (d_107.take ((k2_106 + 1 : Int)).toNat) (k3_123 : Int))) (ix d_107 (k2_106 : Int))) ∧ (ix (ix a0 (ix (d_107.take ((k2_106 + 1 : Int)).toNat) (k3_123 : Int))) (ix d_107 (k2_106 : Int))) < (d_130.length : Int) ∧ (if ix d_130 (ix (ix a0 (ix (d_107.take ((k2_106 + 1 : Int)).toNat) (k3_123 : Int))) (ix d_107 (k2_106 : Int))) = true then (I64 ((k3_123 : Int) + (1 : Int)) ∧ (X3 (k3_123 + 1) d_124 d_130)) else (0 ≤ (ix (ix a0 (ix (d_107.take ((k2_106 + 1 : Int)).toNat) (k3_123 : Int))) (ix d_107 (k2_106 : Int))) ∧ (ix (ix a0 (ix (d_107.take ((k2_106 + 1 : Int)).toNat) (k3_123 : Int))) (ix d_107 (k2_106 : Int))) < (d_130.length : Int) ∧ (d_124.length + ([(ix (ix a0 (ix (d_107.take ((k2_106 + 1 : Int)).toNat) (k3_123 : Int))) (ix d_107 (k2_106 : Int)))]).length ≤ 1099511627776 ∧ (I64 ((k3_123 : Int) + (1 : Int)) ∧ (X3 (k3_123 + 1) (d_124 ++ ([(ix (ix a0 (ix (d_107.take ((k2_106 + 1 : Int)).toNat) (k3_123 : Int))) (ix d_107 (k2_106 : Int)))])) (st d_130 (ix (ix a0 (ix (d_107.take ((k2_106 + 1 : Int)).toNat) (k3_123 : Int))) (ix d_107 (k2_106 : Int))) true))))))))) else (0 ≤ (ix (ix a0 (ix d_107 (k2_106 : Int))) (ix (d_107.take ((k2_106 + 1 : Int)).toNat) (k3_123 : Int))) ∧ (ix (ix a0 (ix d_107 (k2_106 : Int))) (ix (d_107.take ((k2_106 + 1 : Int)).toNat) (k3_123 : Int))) < (d_130.length : Int) ∧ (d_124.length + ([(ix (ix a0 (ix d_107 (k2_106 : Int))) (ix (d_107.take ((k2_106 + 1 : Int)).toNat) (k3_123 : Int)))]).length ≤ 1099511627776 ∧ (0 ≤ (ix (d_107.take ((k2_106 + 1 : Int)).toNat) (k3_123 : Int)) ∧ (ix (d_107.take ((k2_106 + 1 : Int)).toNat) (k3_123 : Int)) < (a0.length : Int) ∧ (0 ≤ (ix d_107 (k2_106 : Int)) ∧ (ix d_107 (k2_106 : Int)) < ((ix a0 (ix (d_107.take ((k2_106 + 1 : Int)).toNat) (k3_123 : Int))).length : Int) ∧ (0 ≤ (ix (ix a0 (ix (d_107.take ((k2_106 + 1 : Int)).toNat) (k3_123 : Int))) (ix d_107 (k2_106 : Int))) ∧ (ix (ix a0 (ix (d_107.take ((k2_106 + 1 : Int)).toNat) (k3_123 : Int))) (ix d_107 (k2_106 : Int))) < ((st d_130 (ix (ix a0 (ix d_107 (k2_106 : Int))) (ix (d_107.take ((k2_106 + 1 : Int)).toNat) (k3_123 : Int))) true).length : Int) ∧ (if ix (st d_130 (ix (ix a0 (ix d_107 (k2_106 : Int))) (ix (d_107.take ((k2_106 + 1 : Int)).toNat) (k3_123 : Int))) true) (ix (ix a0 (ix (d_107.take ((k2_106 + 1 : Int)).toNat) (k3_123 : Int))) (ix d_107 (k2_106 : Int))) = true then (I64 ((k3_123 : Int) + (1 : Int)) ∧ (X3 (k3_123 + 1) (d_124 ++ ([(ix (ix a0 (ix d_107 (k2_106 : Int))) (ix (d_107.take ((k2_106 + 1 : Int)).toNat) (k3_123 : Int)))])) (st d_130 (ix (ix a0 (ix d_107 (k2_106 : Int))) (ix (d_107.take ((k2_106 + 1 : Int)).toNat) (k3_123 : Int))) true))) else (0 ≤ (ix (ix a0 (ix (d_107.take ((k2_106 + 1 : Int)).toNat) (k3_123 : Int))) (ix d_107 (k2_106 : Int))) ∧ (ix (ix a0 (ix (d_107.take ((k2_106 + 1 : Int)).toNat) (k3_123 : Int))) (ix d_107 (k2_106 : Int))) < ((st d_130 (ix (ix a0 (ix d_107 (k2_106 : Int))) (ix (d_107.take ((k2_106 + 1 : Int)).toNat) (k3_123 : Int))) true).length : Int) ∧ ((d_124 ++ ([(ix (ix a0 (ix d_107 (k2_106 : Int))) (ix (d_107.take ((k2_106 + 1 : Int)).toNat) (k3_123 : Int)))])).length + ([(ix (ix a0 (ix (d_107.take ((k2_106 + 1 : Int)).toNat) (k3_123 : Int))) (ix d_107 (k2_106 : Int)))]).length ≤ 1099511627776 ∧ (I64 ((k3_123 : Int) + (1 : Int)) ∧ (X3 (k3_123 + 1) ((d_124 ++ ([(ix (ix a0 (ix d_107 (k2_106 : Int))) (ix (d_107.take ((k2_106 + 1 : Int)).toNat) (k3_123 : Int)))])) ++ ([(ix (ix a0 (ix (d_107.take ((k2_106 + 1 : Int)).toNat) (k3_123 : Int))) (ix d_107 (k2_106 : Int)))])) (st (st d_130 (ix (ix a0 (ix d_107 (k2_106 : Int))) (ix (d_107.take ((k2_106 + 1 : Int)).toNat) (k3_123 : Int))) true) (ix (ix a0 (ix (d_107.take ((k2_106 + 1 : Int)).toNat) (k3_123 : Int))) (ix d_107 (k2_106 : Int))) true)))))))))))))))) else (I64 ((k2_106 : Int) + (1 : Int)) ∧ (X2 (k2_106 + 1) d_124 d_130)))
def mult_spanning_L2 (a0 : List (List Int)) (k1_34 : Nat) (d_41 : List Int) (X1 : Nat → Nat → List Int → List Int → List Bool → Prop) (K : List Int → Prop) (X2 : Nat → List Int → List Bool → Prop) (k2_106 : Nat) (d_107 : List Int) (d_113 : List Bool) : Prop :=
  (if (k2_106 : Int) < (d_107.length : Int) then (0 ≤ (k2_106 : Int) ∧ (k2_106 : Int) < (d_107.length : Int) ∧ (0 ≤ (k2_106 + 1 : Int) ∧ (k2_106 + 1 : Int) ≤ (d_107.length : Int) ∧ (LoopWP (S := Nat × List Int × List Bool) (fun s X => mult_spanning_L3 a0 k2_106 d_107 X2 K (fun k3_123 d_124 d_130 => X (k3_123, d_124, d_130)) s.1 s.2.1 s.2.2) (0, d_107, d_113)))) else (X1 k2_106 (k1_34 + 1) d_107 (d_41 ++ ([(k1_34 : Int)])) d_113))
def mult_spanning_L1 (a0 : List (List Int)) (K : List Int → Prop) (X1 : Nat → Nat → List Int → List Int → List Bool → Prop) (k1_33 : Nat) (k1_34 : Nat) (d_35 : List Int) (d_41 : List Int) (d_47 : List Bool) : Prop :=
  (if (k1_34 : Int) < (a0.length : Int) then (0 ≤ (k1_34 : Int) ∧ (k1_34 : Int) < (d_47.length : Int) ∧ (if ix d_47 (k1_34 : Int) = true then (X1 k1_33 (k1_34 + 1) d_35 d_41 d_47) else (d_41.length + ([(k1_34 : Int)]).length ≤ 1099511627776 ∧ (0 ≤ (k1_34 : Int) ∧ (k1_34 : Int) < (d_47.length : Int) ∧ (0 ≤ (k1_34 : Int) ∧ (k1_34 : Int) < (d_47.length : Int) ∧ (d_35.length + ([(k1_34 : Int)]).length ≤ 1099511627776 ∧ (LoopWP (S := Nat × List Int × List Bool) (fun s X => mult_spanning_L2 a0 k1_34 d_41 X1 K (fun k2_106 d_107 d_113 => X (k2_106, d_107, d_113)) s.1 s.2.1 s.2.2) (k1_33, d_35 ++ ([(k1_34 : Int)]), st d_47 (k1_34 : Int) true)))))))) else (K d_41))
def mult_spanning (a0 : List (List Int)) (K : List Int → Prop) : Prop :=
  (a0.length ≤ mx → (0 ≤ (a0.length : Int) ∧ (a0.length : Int) ≤ 1099511627776 ∧ (LoopWP (S := Nat × Nat × List Int × List Int × List Bool) (fun s X => mult_spanning_L1 a0 K (fun k1_33 k1_34 d_35 d_41 d_47 => X (k1_33, k1_34, d_35, d_41, d_47)) s.1 s.2.1 s.2.2.1 s.2.2.2.1 s.2.2.2.2) (0, 0, ([] : List Int), ([] : List Int), List.replicate a0.length false))))
/- semigroup/mult.associates -/
def mult_associates_L3 (t : List (List Int)) (gens : List Int) (k1_12 : Nat) (k2_30 : Nat) (X2 : Nat → Prop) (K : Bool → Prop) (X3 : Nat → Prop) (k3_53 : Nat) : Prop :=
  (if (k3_53 : Int) < ((ix t (ix gens (k1_12 : Int))).length : Int) then (0 ≤ (k3_53 : Int) ∧ (k3_53 : Int) < ((ix t (ix gens (k1_12 : Int))).length : Int) ∧ (0 ≤ (k3_53 : Int) ∧ (k3_53 : Int) < ((ix t (ix (ix t (k2_30 : Int)) (ix gens (k1_12 : Int)))).length : Int) ∧ (0 ≤ (ix (ix t (ix gens (k1_12 : Int))) (k3_53 : Int)) ∧ (ix (ix t (ix gens (k1_12 : Int))) (k3_53 : Int)) < ((ix t (k2_30 : Int)).length : Int) ∧ (if (ix (ix t (ix (ix t (k2_30 : Int)) (ix gens (k1_12 : Int)))) (k3_53 : Int)) = (ix (ix t (k2_30 : Int)) (ix (ix t (ix gens (k1_12 : Int))) (k3_53 : Int))) then (X3 (k3_53 + 1)) else (K false))))) else (X2 (k2_30 + 1)))
def mult_associates_L2 (t : List (List Int)) (gens : List Int) (k1_12 : Nat) (tried1_13 : List Bool) (X1 : Nat → List Bool → Prop) (K : Bool → Prop) (X2 : Nat → Prop) (k2_30 : Nat) : Prop :=
  (if (k2_30 : Int) < (t.length : Int) then (0 ≤ (k2_30 : Int) ∧ (k2_30 : Int) < (t.length : Int) ∧ (0 ≤ (ix gens (k1_12 : Int)) ∧ (ix gens (k1_12 : Int)) < ((ix t (k2_30 : Int)).length : Int) ∧ (0 ≤ (ix (ix t (k2_30 : Int)) (ix gens (k1_12 : Int))) ∧ (ix (ix t (k2_30 : Int)) (ix gens (k1_12 : Int))) < (t.length : Int) ∧ (0 ≤ (ix gens (k1_12 : Int)) ∧ (ix gens (k1_12 : Int)) < (t.length : Int) ∧ ((ix t (ix gens (k1_12 : Int))).length ≤ mx → (LoopWP (S := Nat) (fun s X => mult_associates_L3 t gens k1_12 k2_30 X2 K X s) 0)))))) else (X1 (k1_12 + 1) (st tried1_13 (ix gens (k1_12 : Int)) true)))
def mult_associates_L1 (t : List (List Int)) (gens : List Int) (K : Bool → Prop) (X1 : Nat → List Bool → Prop) (k1_12 : Nat) (tried1_13 : List Bool) : Prop :=
  (if (k1_12 : Int) < (gens.length : Int) then (0 ≤ (k1_12 : Int) ∧ (k1_12 : Int) < (gens.length : Int) ∧ (0 ≤ (ix gens (k1_12 : Int)) ∧ (ix gens (k1_12 : Int)) < (tried1_13.length : Int) ∧ (if ix tried1_13 (ix gens (k1_12 : Int)) = true then (X1 (k1_12 + 1) tried1_13) else (0 ≤ (ix gens (k1_12 : Int)) ∧ (ix gens (k1_12 : Int)) < (tried1_13.length : Int) ∧ (LoopWP (S := Nat) (fun s X => mult_associates_L2 t gens k1_12 tried1_13 X1 K X s) 0))))) else (K true))
def mult_associates (t : List (List Int)) (gens : List Int) (K : Bool → Prop) : Prop :=
  (t.length ≤ mx → (0 ≤ (t.length : Int) ∧ (t.length : Int) ≤ 1099511627776 ∧ (gens.length ≤ mx → (LoopWP (S := Nat × List Bool) (fun s X => mult_associates_L1 t gens K (fun k1_12 tried1_13 => X (k1_12, tried1_13)) s.1 s.2) (0, List.replicate t.length false)))))
/- semigroup/mult.Validate -/
def mult_Validate (t : List (List Int)) (K : Int → Prop) : Prop :=
  (mult_shape t fun r1 => (if r1 = (0 : Int) then (mult_spanning t fun r8 => (mult_associates t r8 fun r14 => (if r14 = true then (K ((0 : Int))) else (K ((5 : Int)))))) else (K r1)))
/- semigroup/green.newIdeal -/
def green_newIdeal (n : Int) (K : List Int → Prop) : Prop :=
  (I64 (n + (63 : Int)) ∧ (I64 ((n + (63 : Int)).tdiv (64 : Int)) ∧ (0 ≤ ((n + (63 : Int)).tdiv (64 : Int)) ∧ ((n + (63 : Int)).tdiv (64 : Int)) ≤ 1099511627776 ∧ (K (List.replicate (((n + (63 : Int)).tdiv (64 : Int)).toNat) ((0 : Int)))))))
/- semigroup/green.rightIdeals -/
def green_rightIdeals_L2 (t : List (List Int)) (k1_12 : Nat) (X1 : Nat → List (List Int) → Prop) (K : List (List Int) → Prop) (X2 : Nat → List (List Int) → Prop) (k2_55 : Nat) (ideals2_56 : List (List Int)) : Prop :=
  (if (k2_55 : Int) < ((ix t (k1_12 : Int)).length : Int) then (0 ≤ (k2_55 : Int) ∧ (k2_55 : Int) < ((ix t (k1_12 : Int)).length : Int) ∧ (0 ≤ (k1_12 : Int) ∧ (k1_12 : Int) < (ideals2_56.length : Int) ∧ ((0 ≤ (shrK .i64 (ix (ix t (k1_12 : Int)) (k2_55 : Int)) (6 : Int)) ∧ (shrK .i64 (ix (ix t (k1_12 : Int)) (k2_55 : Int)) (6 : Int)) < ((ix ideals2_56 (k1_12 : Int)).length : Int) ∧ (0 ≤ (bits .and .i64 (ix (ix t (k1_12 : Int)) (k2_55 : Int)) (63 : Int)) ∧ (0 ≤ (shrK .i64 (ix (ix t (k1_12 : Int)) (k2_55 : Int)) (6 : Int)) ∧ (shrK .i64 (ix (ix t (k1_12 : Int)) (k2_55 : Int)) (6 : Int)) < ((ix ideals2_56 (k1_12 : Int)).length : Int) ∧ (X2 (k2_55 + 1) (st ideals2_56 (k1_12 : Int) (st (ix ideals2_56 (k1_12 : Int)) (shrK .i64 (ix (ix t (k1_12 : Int)) (k2_55 : Int)) (6 : Int)) (bits .or .u64 (ix (ix ideals2_56 (k1_12 : Int)) (shrK .i64 (ix (ix t (k1_12 : Int)) (k2_55 : Int)) (6 : Int))) (shlK .u64 (1 : Int) (bits .and .i64 (ix (ix t (k1_12 : Int)) (k2_55 : Int)) (63 : Int))))))))))))) else (X1 (k1_12 + 1) ideals2_56))
def green_rightIdeals_L1 (t : List (List Int)) (K : List (List Int) → Prop) (X1 : Nat → List (List Int) → Prop) (k1_12 : Nat) (ideals1_13 : List (List Int)) : Prop :=
  (if (k1_12 : Int) < (t.length : Int) then (0 ≤ (k1_12 : Int) ∧ (k1_12 : Int) < (t.length : Int) ∧ (green_newIdeal ((t.length : Int)) fun r25 => (0 ≤ (k1_12 : Int) ∧ (k1_12 : Int) < (ideals1_13.length : Int) ∧ (0 ≤ (k1_12 : Int) ∧ (k1_12 : Int) < ((st ideals1_13 (k1_12 : Int) r25).length : Int) ∧ ((0 ≤ (shrK .i64 (k1_12 : Int) (6 : Int)) ∧ (shrK .i64 (k1_12 : Int) (6 : Int)) < ((ix (st ideals1_13 (k1_12 : Int) r25) (k1_12 : Int)).length : Int) ∧ (0 ≤ (bits .and .i64 (k1_12 : Int) (63 : Int)) ∧ (0 ≤ (shrK .i64 (k1_12 : Int) (6 : Int)) ∧ (shrK .i64 (k1_12 : Int) (6 : Int)) < ((ix (st ideals1_13 (k1_12 : Int) r25) (k1_12 : Int)).length : Int) ∧ ((ix t (k1_12 : Int)).length ≤ mx → (LoopWP (S := Nat × List (List Int)) (fun s X => green_rightIdeals_L2 t k1_12 X1 K (fun k2_55 ideals2_56 => X (k2_55, ideals2_56)) s.1 s.2) (0, st (st ideals1_13 (k1_12 : Int) r25) (k1_12 : Int) (st (ix (st ideals1_13 (k1_12 : Int) r25) (k1_12 : Int)) (shrK .i64 (k1_12 : Int) (6 : Int)) (bits .or .u64 (ix (ix (st ideals1_13 (k1_12 : Int) r25) (k1_12 : Int)) (shrK .i64 (k1_12 : Int) (6 : Int))) (shlK .u64 (1 : Int) (bits .and .i64 (k1_12 : Int) (63 : Int)))))))))))))))) else (K ideals1_13))
def green_rightIdeals (t : List (List Int)) (K : List (List Int) → Prop) : Prop :=
  (t.length ≤ mx → (0 ≤ (t.length : Int) ∧ (t.length : Int) ≤ 1099511627776 ∧ (LoopWP (S := Nat × List (List Int)) (fun s X => green_rightIdeals_L1 t K (fun k1_12 ideals1_13 => X (k1_12, ideals1_13)) s.1 s.2) (0, List.replicate t.length ([] : List Int)))))
/- semigroup/green.leftIdeals -/
def green_leftIdeals_L2 (t : List (List Int)) (k1_12 : Nat) (X1 : Nat → List (List Int) → Prop) (K : List (List Int) → Prop) (X2 : Nat → List (List Int) → Prop) (k2_49 : Nat) (ideals2_50 : List (List Int)) : Prop :=
  (if (k2_49 : Int) < (t.length : Int) then (0 ≤ (k2_49 : Int) ∧ (k2_49 : Int) < (t.length : Int) ∧ (0 ≤ (k1_12 : Int) ∧ (k1_12 : Int) < (ideals2_50.length : Int) ∧ (0 ≤ (k1_12 : Int) ∧ (k1_12 : Int) < ((ix t (k2_49 : Int)).length : Int) ∧ ((0 ≤ (shrK .i64 (ix (ix t (k2_49 : Int)) (k1_12 : Int)) (6 : Int)) ∧ (shrK .i64 (ix (ix t (k2_49 : Int)) (k1_12 : Int)) (6 : Int)) < ((ix ideals2_50 (k1_12 : Int)).length : Int) ∧ (0 ≤ (bits .and .i64 (ix (ix t (k2_49 : Int)) (k1_12 : Int)) (63 : Int)) ∧ (0 ≤ (shrK .i64 (ix (ix t (k2_49 : Int)) (k1_12 : Int)) (6 : Int)) ∧ (shrK .i64 (ix (ix t (k2_49 : Int)) (k1_12 : Int)) (6 : Int)) < ((ix ideals2_50 (k1_12 : Int)).length : Int) ∧ (X2 (k2_49 + 1) (st ideals2_50 (k1_12 : Int) (st (ix ideals2_50 (k1_12 : Int)) (shrK .i64 (ix (ix t (k2_49 : Int)) (k1_12 : Int)) (6 : Int)) (bits .or .u64 (ix (ix ideals2_50 (k1_12 : Int)) (shrK .i64 (ix (ix t (k2_49 : Int)) (k1_12 : Int)) (6 : Int))) (shlK .u64 (1 : Int) (bits .and .i64 (ix (ix t (k2_49 : Int)) (k1_12 : Int)) (63 : Int)))))))))))))) else (X1 (k1_12 + 1) ideals2_50))
def green_leftIdeals_L1 (t : List (List Int)) (K : List (List Int) → Prop) (X1 : Nat → List (List Int) → Prop) (k1_12 : Nat) (ideals1_13 : List (List Int)) : Prop :=
  (if (k1_12 : Int) < (t.length : Int) then (green_newIdeal ((t.length : Int)) fun r19 => (0 ≤ (k1_12 : Int) ∧ (k1_12 : Int) < (ideals1_13.length : Int) ∧ (0 ≤ (k1_12 : Int) ∧ (k1_12 : Int) < ((st ideals1_13 (k1_12 : Int) r19).length : Int) ∧ ((0 ≤ (shrK .i64 (k1_12 : Int) (6 : Int)) ∧ (shrK .i64 (k1_12 : Int) (6 : Int)) < ((ix (st ideals1_13 (k1_12 : Int) r19) (k1_12 : Int)).length : Int) ∧ (0 ≤ (bits .and .i64 (k1_12 : Int) (63 : Int)) ∧ (0 ≤ (shrK .i64 (k1_12 : Int) (6 : Int)) ∧ (shrK .i64 (k1_12 : Int) (6 : Int)) < ((ix (st ideals1_13 (k1_12 : Int) r19) (k1_12 : Int)).length : Int) ∧ (LoopWP (S := Nat × List (List Int)) (fun s X => green_leftIdeals_L2 t k1_12 X1 K (fun k2_49 ideals2_50 => X (k2_49, ideals2_50)) s.1 s.2) (0, st (st ideals1_13 (k1_12 : Int) r19) (k1_12 : Int) (st (ix (st ideals1_13 (k1_12 : Int) r19) (k1_12 : Int)) (shrK .i64 (k1_12 : Int) (6 : Int)) (bits .or .u64 (ix (ix (st ideals1_13 (k1_12 : Int) r19) (k1_12 : Int)) (shrK .i64 (k1_12 : Int) (6 : Int))) (shlK .u64 (1 : Int) (bits .and .i64 (k1_12 : Int) (63 : Int)))))))))))))) else (K ideals1_13))
def green_leftIdeals (t : List (List Int)) (K : List (List Int) → Prop) : Prop :=
  (t.length ≤ mx → (0 ≤ (t.length : Int) ∧ (t.length : Int) ≤ 1099511627776 ∧ (LoopWP (S := Nat × List (List Int)) (fun s X => green_leftIdeals_L1 t K (fun k1_12 ideals1_13 => X (k1_12, ideals1_13)) s.1 s.2) (0, List.replicate t.length ([] : List Int)))))
/- (semigroup/green.ideal).has -/
def green_ideal_has (s_ : List Int) (x : Int) (K : Bool → Prop) : Prop :=
  ((0 ≤ (shrK .i64 x (6 : Int)) ∧ (shrK .i64 x (6 : Int)) < (s_.length : Int) ∧ (0 ≤ (bits .and .i64 x (63 : Int)) ∧ (if (bits .and .u64 (shrK .u64 (ix s_ (shrK .i64 x (6 : Int))) (bits .and .i64 x (63 : Int))) (1 : Int)) = (1 : Int) then (K true) else (K false)))))
/- semigroup/green.twoSided -/
def green_twoSided_L3 (right : List (List Int)) (k1_12 : Nat) (k2_35 : Nat) (ideals2_36 : List (List Int)) (X2 : Nat → List (List Int) → Prop) (K : List (List Int) → Prop) (X3 : Nat → List (List Int) → Prop) (k3_63 : Nat) (d_64 : List (List Int)) : Prop :=
  (if (k3_63 : Int) < ((ix ideals2_36 (k1_12 : Int)).length : Int) then (0 ≤ (k3_63 : Int) ∧ (k3_63 : Int) < ((ix ideals2_36 (k1_12 : Int)).length : Int) ∧ (k1_12 : Int) < (d_64.length : Int) ∧ (k3_63 : Int) < ((ix d_64 (k1_12 : Int)).length : Int) ∧ (0 ≤ (k3_63 : Int) ∧ (k3_63 : Int) < ((ix right (k2_35 : Int)).length : Int) ∧ (0 ≤ (k3_63 : Int) ∧ (k3_63 : Int) < ((ix ideals2_36 (k1_12 : Int)).length : Int) ∧ (k1_12 : Int) < (d_64.length : Int) ∧ (k3_63 : Int) < ((ix d_64 (k1_12 : Int)).length : Int) ∧ (I64 ((k3_63 : Int) + (1 : Int)) ∧ (X3 (k3_63 + 1) (st d_64 (k1_12 : Int) (st (ix d_64 (k1_12 : Int)) (k3_63 : Int) (bits .or .u64 (ix (ix d_64 (k1_12 : Int)) (k3_63 : Int)) (ix (ix right (k2_35 : Int)) (k3_63 : Int)))))))))) else (X2 (k2_35 + 1) d_64))
def green_twoSided_L2 (right : List (List Int)) (left : List (List Int)) (k1_12 : Nat) (X1 : Nat → List (List Int) → Prop) (K : List (List Int) → Prop) (X2 : Nat → List (List Int) → Prop) (k2_35 : Nat) (ideals2_36 : List (List Int)) : Prop :=
  (if (k2_35 : Int) < (right.length : Int) then (0 ≤ (k1_12 : Int) ∧ (k1_12 : Int) < (left.length : Int) ∧ (green_ideal_has (ix left (k1_12 : Int)) ((k2_35 : Int)) fun r44 => (if r44 = true then (0 ≤ (k1_12 : Int) ∧ (k1_12 : Int) < (ideals2_36.length : Int) ∧ (0 ≤ (k2_35 : Int) ∧ (k2_35 : Int) < (right.length : Int) ∧ (LoopWP (S := Nat × List (List Int)) (fun s X => green_twoSided_L3 right k1_12 k2_35 ideals2_36 X2 K (fun k3_63 d_64 => X (k3_63, d_64)) s.1 s.2) (0, ideals2_36)))) else (X2 (k2_35 + 1) ideals2_36)))) else (I64 ((k1_12 : Int) + (1 : Int)) ∧ (X1 (k1_12 + 1) ideals2_36)))
def green_twoSided_L1 (right : List (List Int)) (left : List (List Int)) (K : List (List Int) → Prop) (X1 : Nat → List (List Int) → Prop) (k1_12 : Nat) (ideals1_13 : List (List Int)) : Prop :=
  (if (k1_12 : Int) < ((List.replicate right.length ([] : List Int)).length : Int) then (green_newIdeal ((right.length : Int)) fun r19 => (0 ≤ (k1_12 : Int) ∧ (k1_12 : Int) < (ideals1_13.length : Int) ∧ (LoopWP (S := Nat × List (List Int)) (fun s X => green_twoSided_L2 right left k1_12 X1 K (fun k2_35 ideals2_36 => X (k2_35, ideals2_36)) s.1 s.2) (0, st ideals1_13 (k1_12 : Int) r19)))) else (K ideals1_13))
def green_twoSided (right : List (List Int)) (left : List (List Int)) (K : List (List Int) → Prop) : Prop :=
  (right.length ≤ mx → (0 ≤ (right.length : Int) ∧ (right.length : Int) ≤ 1099511627776 ∧ (LoopWP (S := Nat × List (List Int)) (fun s X => green_twoSided_L1 right left K (fun k1_12 ideals1_13 => X (k1_12, ideals1_13)) s.1 s.2) (0, List.replicate right.length ([] : List Int)))))
/- semigroup/partition.canonical[int] -/
def partition_canonical_int_L1 (l : List Int) (K : List Int → Prop) (X1 : Nat → List (Int × Int) → List Int → Prop) (k1_18 : Nat) (m1_19 : List (Int × Int)) (p1_20 : List Int) : Prop :=
  (if (k1_18 : Int) < (l.length : Int) then (0 ≤ (k1_18 : Int) ∧ (k1_18 : Int) < (l.length : Int) ∧ (if mhas m1_19 ((ix l (k1_18 : Int))) = true then (0 ≤ (k1_18 : Int) ∧ (k1_18 : Int) < (p1_20.length : Int) ∧ (X1 (k1_18 + 1) m1_19 (st p1_20 (k1_18 : Int) (mgt m1_19 ((ix l (k1_18 : Int))))))) else (0 ≤ (k1_18 : Int) ∧ (k1_18 : Int) < (p1_20.length : Int) ∧ (X1 (k1_18 + 1) (mput m1_19 ((ix l (k1_18 : Int))) ((m1_19.length : Int))) (st p1_20 (k1_18 : Int) (m1_19.length : Int)))))) else (K p1_20))
def partition_canonical_int (l : List Int) (K : List Int → Prop) : Prop :=
  (l.length ≤ mx → (0 ≤ (l.length : Int) ∧ (l.length : Int) ≤ 1099511627776 ∧ (LoopWP (S := Nat × (List (Int × Int)) × List Int) (fun s X => partition_canonical_int_L1 l K (fun k1_18 m1_19 p1_20 => X (k1_18, m1_19, p1_20)) s.1 s.2.1 s.2.2) (0, ([] : List (Int × Int)), List.replicate l.length ((0 : Int))))))
/- semigroup/partition.Canonical -/
def partition_Canonical (l : List Int) (K : List Int → Prop) : Prop :=
  (l.length ≤ mx → (if (4096 : Int) < (l.length : Int) then (K (([] : List Int))) else (partition_canonical_int l fun r2 => (K r2))))
/- semigroup/green.mutual -/
def green_mutual_L2 (ideals : List (List Int)) (k1_12 : Nat) (class1_13 : List Int) (X1 : Nat → List Int → Prop) (K : List Int → Prop) (X2 : Nat → Prop) (k2_25 : Nat) : Prop :=
  (if (k2_25 : Int) < (k1_12 : Int) then (0 ≤ (k1_12 : Int) ∧ (k1_12 : Int) < (ideals.length : Int) ∧ (green_ideal_has (ix ideals (k1_12 : Int)) ((k2_25 : Int)) fun r33 => (if r33 = true then (0 ≤ (k2_25 : Int) ∧ (k2_25 : Int) < (ideals.length : Int) ∧ (green_ideal_has (ix ideals (k2_25 : Int)) ((k1_12 : Int)) fun r46 => (if r46 = true then (0 ≤ (k1_12 : Int) ∧ (k1_12 : Int) < ((st class1_13 (k1_12 : Int) (k1_12 : Int)).length : Int) ∧ (X1 (k1_12 + 1) (st (st class1_13 (k1_12 : Int) (k1_12 : Int)) (k1_12 : Int) (k2_25 : Int)))) else (I64 ((k2_25 : Int) + (1 : Int)) ∧ (X2 (k2_25 + 1)))))) else (I64 ((k2_25 : Int) + (1 : Int)) ∧ (X2 (k2_25 + 1)))))) else (X1 (k1_12 + 1) (st class1_13 (k1_12 : Int) (k1_12 : Int))))
def green_mutual_L1 (ideals : List (List Int)) (K : List Int → Prop) (X1 : Nat → List Int → Prop) (k1_12 : Nat) (class1_13 : List Int) : Prop :=
  (if (k1_12 : Int) < (ideals.length : Int) then (0 ≤ (k1_12 : Int) ∧ (k1_12 : Int) < (class1_13.length : Int) ∧ (LoopWP (S := Nat) (fun s X => green_mutual_L2 ideals k1_12 class1_13 X1 K X s) 0)) else (partition_Canonical class1_13 fun r63 => (K r63)))
def green_mutual (ideals : List (List Int)) (K : List Int → Prop) : Prop :=
  (ideals.length ≤ mx → (0 ≤ (ideals.length : Int) ∧ (ideals.length : Int) ≤ 1099511627776 ∧ (LoopWP (S := Nat × List Int) (fun s X => green_mutual_L1 ideals K (fun k1_12 class1_13 => X (k1_12, class1_13)) s.1 s.2) (0, List.replicate ideals.length ((0 : Int))))))
/- semigroup/partition.Valid -/
def partition_Valid_L1 (p : List Int) (K : Bool → Prop) (X1 : Nat → Nat → Prop) (count1_3 : Nat) (k1_4 : Nat) : Prop :=
  (if (k1_4 : Int) < (p.length : Int) then (0 ≤ (k1_4 : Int) ∧ (k1_4 : Int) < (p.length : Int) ∧ (if (ix p (k1_4 : Int)) < (0 : Int) then (K false) else (if (count1_3 : Int) < (ix p (k1_4 : Int)) then (K false) else (if (ix p (k1_4 : Int)) = (count1_3 : Int) then (I64 ((count1_3 : Int) + (1 : Int)) ∧ (X1 (count1_3 + 1) (k1_4 + 1))) else (X1 count1_3 (k1_4 + 1)))))) else (K true))
def partition_Valid (p : List Int) (K : Bool → Prop) : Prop :=
  (p.length ≤ mx → (if (4096 : Int) < (p.length : Int) then (K false) else (LoopWP (S := Nat × Nat) (fun s X => partition_Valid_L1 p K (fun count1_3 k1_4 => X (count1_3, k1_4)) s.1 s.2) (0, 0))))
/- semigroup/partition.matching -/
def partition_matching (p : List Int) (q : List Int) (K : Bool → Prop) : Prop :=
  (p.length ≤ mx → (q.length ≤ mx → (if (p.length : Int) = (q.length : Int) then (partition_Valid p fun r2 => (if r2 = true then (partition_Valid q fun r8 => (K r8)) else (K false))) else (K false))))
/- semigroup/partition.canonical[[2]int] -/
def partition_canonical_2_int_L1 (l : List (Int × Int)) (K : List Int → Prop) (X1 : Nat → List ((Int × Int) × Int) → List Int → Prop) (k1_18 : Nat) (m1_19 : List ((Int × Int) × Int)) (p1_20 : List Int) : Prop :=
  (if (k1_18 : Int) < (l.length : Int) then (0 ≤ (k1_18 : Int) ∧ (k1_18 : Int) < (l.length : Int) ∧ (if mhas m1_19 ((ix l (k1_18 : Int))) = true then (0 ≤ (k1_18 : Int) ∧ (k1_18 : Int) < (p1_20.length : Int) ∧ (X1 (k1_18 + 1) m1_19 (st p1_20 (k1_18 : Int) (mgt m1_19 ((ix l (k1_18 : Int))))))) else (0 ≤ (k1_18 : Int) ∧ (k1_18 : Int) < (p1_20.length : Int) ∧ (X1 (k1_18 + 1) (mput m1_19 ((ix l (k1_18 : Int))) ((m1_19.length : Int))) (st p1_20 (k1_18 : Int) (m1_19.length : Int)))))) else (K p1_20))
def partition_canonical_2_int (l : List (Int × Int)) (K : List Int → Prop) : Prop :=
  (l.length ≤ mx → (0 ≤ (l.length : Int) ∧ (l.length : Int) ≤ 1099511627776 ∧ (LoopWP (S := Nat × (List ((Int × Int) × Int)) × List Int) (fun s X => partition_canonical_2_int_L1 l K (fun k1_18 m1_19 p1_20 => X (k1_18, m1_19, p1_20)) s.1 s.2.1 s.2.2) (0, ([] : List ((Int × Int) × Int)), List.replicate l.length ((0 : Int))))))
/- semigroup/partition.Meet -/
def partition_Meet_L1 (p : List Int) (q : List Int) (K : List Int → Prop) (X1 : Nat → List (Int × Int) → Prop) (k1_18 : Nat) (pairs1_19 : List (Int × Int)) : Prop :=
  (if (k1_18 : Int) < (p.length : Int) then (0 ≤ (k1_18 : Int) ∧ (k1_18 : Int) < (p.length : Int) ∧ (0 ≤ (k1_18 : Int) ∧ (k1_18 : Int) < (q.length : Int) ∧ (0 ≤ (k1_18 : Int) ∧ (k1_18 : Int) < (pairs1_19.length : Int) ∧ (X1 (k1_18 + 1) (st pairs1_19 (k1_18 : Int) ((ix p (k1_18 : Int)), (ix q (k1_18 : Int)))))))) else (partition_canonical_2_int pairs1_19 fun r40 => (K r40)))
def partition_Meet (p : List Int) (q : List Int) (K : List Int → Prop) : Prop :=
  (partition_matching p q fun r1 => (if r1 = true then (p.length ≤ mx → (0 ≤ (p.length : Int) ∧ (p.length : Int) ≤ 1099511627776 ∧ (LoopWP (S := Nat × (List (Int × Int))) (fun s X => partition_Meet_L1 p q K (fun k1_18 pairs1_19 => X (k1_18, pairs1_19)) s.1 s.2) (0, List.replicate p.length (((0, 0) : Int × Int)))))) else (K (([] : List Int)))))
/- semigroup/partition.Count -/
def partition_Count_L1 (p : List Int) (K : Int → Prop) (X1 : Int → Nat → Prop) (count1_8 : Int) (k1_9 : Nat) : Prop :=
  (if (k1_9 : Int) < (p.length : Int) then (0 ≤ (k1_9 : Int) ∧ (k1_9 : Int) < (p.length : Int) ∧ (I64 ((ix p (k1_9 : Int)) + (1 : Int)) ∧ (if count1_8 < ((ix p (k1_9 : Int)) + (1 : Int)) then (X1 (((ix p (k1_9 : Int)) + (1 : Int))) (k1_9 + 1)) else (X1 count1_8 (k1_9 + 1))))) else (K count1_8))
def partition_Count (p : List Int) (K : Int → Prop) : Prop :=
  (partition_Valid p fun r1 => (if r1 = true then (p.length ≤ mx → (LoopWP (S := Int × Nat) (fun s X => partition_Count_L1 p K (fun count1_8 k1_9 => X (count1_8, k1_9)) s.1 s.2) ((0 : Int), 0))) else (K ((0 : Int)))))
/- semigroup/partition.Classes -/
def partition_Classes_L1 (p : List Int) (K : List (List Int) → Prop) (X1 : Nat → List (List Int) → Prop) (k1_24 : Nat) (classes1_25 : List (List Int)) : Prop :=
  (if (k1_24 : Int) < (p.length : Int) then (0 ≤ (k1_24 : Int) ∧ (k1_24 : Int) < (p.length : Int) ∧ (0 ≤ (ix p (k1_24 : Int)) ∧ (ix p (k1_24 : Int)) < (classes1_25.length : Int) ∧ (((ix classes1_25 (ix p (k1_24 : Int)))).length + ([(k1_24 : Int)]).length ≤ 1099511627776 ∧ (0 ≤ (ix p (k1_24 : Int)) ∧ (ix p (k1_24 : Int)) < (classes1_25.length : Int) ∧ (X1 (k1_24 + 1) (st classes1_25 (ix p (k1_24 : Int)) (((ix classes1_25 (ix p (k1_24 : Int)))) ++ ([(k1_24 : Int)])))))))) else (K classes1_25))
def partition_Classes (p : List Int) (K : List (List Int) → Prop) : Prop :=
  (partition_Valid p fun r1 => (if r1 = true then (partition_Count p fun r7 => (0 ≤ r7 ∧ r7 ≤ 1099511627776 ∧ (p.length ≤ mx → (LoopWP (S := Nat × List (List Int)) (fun s X => partition_Classes_L1 p K (fun k1_24 classes1_25 => X (k1_24, classes1_25)) s.1 s.2) (0, List.replicate r7.toNat ([] : List Int)))))) else (K (([] : List (List Int))))))
/- semigroup/green.Classes -/
def green_Classes_L2 (r26 : List (List Int)) (r68 : List (List Int)) (k1_88 : Nat) (X1 : Nat → List (List Bool) → Prop) (K : Green → Prop) (X2 : Nat → List (List Bool) → Prop) (k2_122 : Nat) (d_123 : List (List Bool)) : Prop :=
  (if (k2_122 : Int) < (r68.length : Int) then (0 ≤ (k2_122 : Int) ∧ (k2_122 : Int) < (r68.length : Int) ∧ (0 ≤ (k1_88 : Int) ∧ (k1_88 : Int) < (d_123.length : Int) ∧ (0 ≤ (0 : Int) ∧ (0 : Int) < ((ix r68 (k2_122 : Int)).length : Int) ∧ (0 ≤ (ix (ix r68 (k2_122 : Int)) (0 : Int)) ∧ (ix (ix r68 (k2_122 : Int)) (0 : Int)) < (r26.length : Int) ∧ (0 ≤ (0 : Int) ∧ (0 : Int) < ((ix r68 (k1_88 : Int)).length : Int) ∧ (green_ideal_has (ix r26 (ix (ix r68 (k2_122 : Int)) (0 : Int))) ((ix (ix r68 (k1_88 : Int)) (0 : Int))) fun r146 => (0 ≤ (k2_122 : Int) ∧ (k2_122 : Int) < ((ix d_123 (k1_88 : Int)).length : Int) ∧ (X2 (k2_122 + 1) (st d_123 (k1_88 : Int) (st (ix d_123 (k1_88 : Int)) (k2_122 : Int) r146)))))))))) else (X1 (k1_88 + 1) d_123))
def green_Classes_L1 (r26 : List (List Int)) (r32 : List Int) (r38 : List Int) (r44 : List Int) (r59 : List Int) (r68 : List (List Int)) (K : Green → Prop) (X1 : Nat → List (List Bool) → Prop) (k1_88 : Nat) (d_89 : List (List Bool)) : Prop :=
  (if (k1_88 : Int) < (r68.length : Int) then (0 ≤ (k1_88 : Int) ∧ (k1_88 : Int) < (r68.length : Int) ∧ (0 ≤ (r68.length : Int) ∧ (r68.length : Int) ≤ 1099511627776 ∧ (0 ≤ (k1_88 : Int) ∧ (k1_88 : Int) < (d_89.length : Int) ∧ (LoopWP (S := Nat × List (List Bool)) (fun s X => green_Classes_L2 r26 r68 k1_88 X1 K (fun k2_122 d_123 => X (k2_122, d_123)) s.1 s.2) (0, st d_89 (k1_88 : Int) (List.replicate r68.length false)))))) else (K ((⟨r32, r38, r44, r59, d_89⟩ : Green))))
def green_Classes (a0 : List (List Int)) (K : Green → Prop) : Prop :=
  (mult_Validate a0 fun r7 => (if r7 = (0 : Int) then (green_rightIdeals a0 fun r14 => (green_leftIdeals a0 fun r20 => (green_twoSided r14 r20 fun r26 => (green_mutual r14 fun r32 => (green_mutual r20 fun r38 => (green_mutual r26 fun r44 => (partition_Meet r32 r38 fun r59 => (partition_Classes r44 fun r68 => (r68.length ≤ mx → (0 ≤ (r68.length : Int) ∧ (r68.length : Int) ≤ 1099511627776 ∧ (LoopWP (S := Nat × List (List Bool)) (fun s X => green_Classes_L1 r26 r32 r38 r44 r59 r68 K (fun k1_88 d_89 => X (k1_88, d_89)) s.1 s.2) (0, List.replicate r68.length ([] : List Bool))))))))))))) else (K ((⟨([] : List Int), ([] : List Int), ([] : List Int), ([] : List Int), ([] : List (List Bool))⟩ : Green)))))
/- semigroup/semigroupref03.Same -/
def ref03_Same_L1 (a : List Int) (b : List Int) (K : Bool → Prop) (X1 : Nat → Prop) (k1_3 : Nat) : Prop :=
  (if (k1_3 : Int) < (a.length : Int) then (0 ≤ (k1_3 : Int) ∧ (k1_3 : Int) < (a.length : Int) ∧ (0 ≤ (k1_3 : Int) ∧ (k1_3 : Int) < (b.length : Int) ∧ (if (ix a (k1_3 : Int)) = (ix b (k1_3 : Int)) then (X1 (k1_3 + 1)) else (K false)))) else (K true))
def ref03_Same (a : List Int) (b : List Int) (K : Bool → Prop) : Prop :=
  (a.length ≤ mx → (b.length ≤ mx → (if (a.length : Int) = (b.length : Int) then (LoopWP (S := Nat) (fun s X => ref03_Same_L1 a b K X s) 0) else (K false))))
/- semigroup/green.Heights -/
def green_Heights_L4 (r1 : Green) (i3_64 : Int) (X3 : Int → (List Int) → (Int → (List Int) → Prop) → Prop) (KR3 : Int → (List Int) → Prop) (K : List Int → Prop) (X4 : Nat → List Int → Prop) (k4_86 : Nat) (d_87 : List Int) : Prop :=
  (if (k4_86 : Int) < ((ix r1.Below i3_64).length : Int) then (0 ≤ (k4_86 : Int) ∧ (k4_86 : Int) < ((ix r1.Below i3_64).length : Int) ∧ (if ix (ix r1.Below i3_64) (k4_86 : Int) = true then (if (k4_86 : Int) = i3_64 then (X4 (k4_86 + 1) d_87) else (0 ≤ i3_64 ∧ i3_64 < (d_87.length : Int) ∧ (X3 ((k4_86 : Int)) d_87 fun r102 d103 => (ix d103 i3_64 = ix d_87 i3_64 ∧ i3_64 < (d103.length : Int) ∧ (I64 ((1 : Int) + r102) ∧ (if (ix d_87 i3_64) < ((1 : Int) + r102) then (0 ≤ i3_64 ∧ i3_64 < (d103.length : Int) ∧ (X4 (k4_86 + 1) (st d103 i3_64 ((1 : Int) + r102)))) else (0 ≤ i3_64 ∧ i3_64 < (d103.length : Int) ∧ (X4 (k4_86 + 1) (st d103 i3_64 (ix d_87 i3_64)))))))))) else (X4 (k4_86 + 1) d_87))) else (0 ≤ i3_64 ∧ i3_64 < (d_87.length : Int) ∧ (KR3 ((ix d_87 i3_64)) d_87)))
def green_Heights_R3 (r1 : Green) (K : List Int → Prop) (X3 : Int → (List Int) → (Int → (List Int) → Prop) → Prop) (i3_64 : Int) (d3_65 : List Int) (KR3 : Int → (List Int) → Prop) : Prop :=
  (0 ≤ i3_64 ∧ i3_64 < (d3_65.length : Int) ∧ (if (ix d3_65 i3_64) < (0 : Int) then (0 ≤ i3_64 ∧ i3_64 < (d3_65.length : Int) ∧ (0 ≤ i3_64 ∧ i3_64 < (r1.Below.length : Int) ∧ ((ix r1.Below i3_64).length ≤ mx → (LoopWP (S := Nat × List Int) (fun s X => green_Heights_L4 r1 i3_64 X3 KR3 K (fun k4_86 d_87 => X (k4_86, d_87)) s.1 s.2) (0, st d3_65 i3_64 (0 : Int)))))) else (0 ≤ i3_64 ∧ i3_64 < (d3_65.length : Int) ∧ (KR3 ((ix d3_65 i3_64)) d3_65))))
def green_Heights_L2 (t : List (List Int)) (r1 : Green) (d_37 : List Int) (K : List Int → Prop) (X2 : Nat → List Int → Prop) (k2_59 : Nat) (d_60 : List Int) : Prop :=
  (if (k2_59 : Int) < (d_37.length : Int) then (RecWP (S := Int × List Int) (T := Int × List Int) (fun X s KR3 => green_Heights_R3 r1 K (fun i3_64 d3_65 k => X (i3_64, d3_65) (fun t => k t.1 t.2)) s.1 s.2 (fun r3_0 d3_65 => KR3 (r3_0, d3_65))) ((k2_59 : Int), d_60) (fun t => (fun r127 d128 => (I64 ((k2_59 : Int) + (1 : Int)) ∧ (X2 (k2_59 + 1) d128))) t.1 t.2)) else (K d_60))
def green_Heights_L1 (t : List (List Int)) (r1 : Green) (K : List Int → Prop) (X1 : Nat → List Int → Prop) (k1_36 : Nat) (d_37 : List Int) : Prop :=
  (if (k1_36 : Int) < ((List.replicate r1.Below.length ((0 : Int))).length : Int) then (0 ≤ (k1_36 : Int) ∧ (k1_36 : Int) < (d_37.length : Int) ∧ (I64 ((k1_36 : Int) + (1 : Int)) ∧ (X1 (k1_36 + 1) (st d_37 (k1_36 : Int) (-1 : Int))))) else (LoopWP (S := Nat × List Int) (fun s X => green_Heights_L2 t r1 d_37 K (fun k2_59 d_60 => X (k2_59, d_60)) s.1 s.2) (0, d_37)))
def green_Heights (t : List (List Int)) (K : List Int → Prop) : Prop :=
  (green_Classes t fun r1 => (r1.Below.length ≤ mx → (0 ≤ (r1.Below.length : Int) ∧ (r1.Below.length : Int) ≤ 1099511627776 ∧ (LoopWP (S := Nat × List Int) (fun s X => green_Heights_L1 t r1 K (fun k1_36 d_37 => X (k1_36, d_37)) s.1 s.2) (0, List.replicate r1.Below.length ((0 : Int)))))))
/- semigroup/semigrouplaw15.awake -/
def law15_awake (K : Bool → Prop) : Prop :=
  (law15_flip  fun r1 => (green_Classes r1 fun r7 => (ref03_Same r7.J ([(0 : Int), (0 : Int), (1 : Int)]) fun r32 => (if r32 = true then (r7.Below.length ≤ mx → (if (r7.Below.length : Int) = (2 : Int) then (law15_flip  fun r39 => (green_Heights r39 fun r45 => (ref03_Same r45 ([(0 : Int), (1 : Int)]) fun r61 => (K r61)))) else (K false))) else (K false)))))
/- semigroup/green.areElements -/
def green_areElements (t : List (List Int)) (x : Int) (y : Int) (K : Bool → Prop) : Prop :=
  (if y < x then (if (0 : Int) ≤ y then (if x < y then (t.length ≤ mx → (if y < (t.length : Int) then (mult_Validate t fun r5 => (if r5 = (0 : Int) then (K true) else (K false))) else (K false))) else (t.length ≤ mx → (if x < (t.length : Int) then (mult_Validate t fun r13 => (if r13 = (0 : Int) then (K true) else (K false))) else (K false)))) else (K false)) else (if (0 : Int) ≤ x then (if x < y then (t.length ≤ mx → (if y < (t.length : Int) then (mult_Validate t fun r23 => (if r23 = (0 : Int) then (K true) else (K false))) else (K false))) else (t.length ≤ mx → (if x < (t.length : Int) then (mult_Validate t fun r31 => (if r31 = (0 : Int) then (K true) else (K false))) else (K false)))) else (K false)))
/- semigroup/green.LeqR -/
def green_LeqR (t : List (List Int)) (x : Int) (y : Int) (K : Bool → Prop) : Prop :=
  (green_areElements t x y fun r1 => (if r1 = true then (green_rightIdeals t fun r7 => (0 ≤ y ∧ y < (r7.length : Int) ∧ (green_ideal_has (ix r7 y) x fun r19 => (K r19)))) else (K false)))
/- semigroup/green.LeqL -/
def green_LeqL (t : List (List Int)) (x : Int) (y : Int) (K : Bool → Prop) : Prop :=
  (green_areElements t x y fun r1 => (if r1 = true then (green_leftIdeals t fun r7 => (0 ≤ y ∧ y < (r7.length : Int) ∧ (green_ideal_has (ix r7 y) x fun r19 => (K r19)))) else (K false)))
/- semigroup/green.LeqJ -/
def green_LeqJ (t : List (List Int)) (x : Int) (y : Int) (K : Bool → Prop) : Prop :=
  (green_areElements t x y fun r1 => (if r1 = true then (green_rightIdeals t fun r7 => (green_leftIdeals t fun r13 => (green_twoSided r7 r13 fun r19 => (0 ≤ y ∧ y < (r19.length : Int) ∧ (green_ideal_has (ix r19 y) x fun r31 => (K r31)))))) else (K false)))
/- semigroup/semigrouplaw15.GreenOrders -/
def law15_GreenOrders_J14 (K : Bool → Prop) (jb14_76 : Bool) : Prop :=
  (K jb14_76)
def law15_GreenOrders_J13 (K : Bool → Prop) (jb13_74 : Bool) : Prop :=
  (Jn (S := Bool) (fun X14 => (if jb13_74 = true then (law15_awake  fun r77 => (X14 r77)) else (X14 false))) (fun jb14_76 => law15_GreenOrders_J14 K jb14_76))
def law15_GreenOrders_J15 (X13 : Bool → Prop) (K : Bool → Prop) : Prop :=
  (X13 false)
def law15_GreenOrders_J16 (X13 : Bool → Prop) (K : Bool → Prop) (jb16_94 : Bool) : Prop :=
  (if jb16_94 = true then (X13 true) else (X13 false))
def law15_GreenOrders_J17 (X13 : Bool → Prop) (K : Bool → Prop) (jb17_106 : Bool) : Prop :=
  (if jb17_106 = true then (X13 false) else (X13 true))
def law15_GreenOrders_J12 (a1 : Int) (a2 : Int) (r9 : Green) (K : Bool → Prop) (jb12_72 : Bool) : Prop :=
  (Jn (S := Bool) (fun X13 => (if jb12_72 = true then (0 ≤ a1 ∧ a1 < (r9.H.length : Int) ∧ (0 ≤ a2 ∧ a2 < (r9.H.length : Int) ∧ (if (ix r9.H a1) = (ix r9.H a2) then (0 ≤ a1 ∧ a1 < (r9.R.length : Int) ∧ (0 ≤ a2 ∧ a2 < (r9.R.length : Int) ∧ (Jn (S := Bool) (fun X16 => (if (ix r9.R a1) = (ix r9.R a2) then (0 ≤ a1 ∧ a1 < (r9.L.length : Int) ∧ (0 ≤ a2 ∧ a2 < (r9.L.length : Int) ∧ (if (ix r9.L a1) = (ix r9.L a2) then (X16 true) else (X16 false)))) else (X16 false))) (fun jb16_94 => law15_GreenOrders_J16 X13 K jb16_94)))) else (0 ≤ a1 ∧ a1 < (r9.R.length : Int) ∧ (0 ≤ a2 ∧ a2 < (r9.R.length : Int) ∧ (Jn (S := Bool) (fun X17 => (if (ix r9.R a1) = (ix r9.R a2) then (0 ≤ a1 ∧ a1 < (r9.L.length : Int) ∧ (0 ≤ a2 ∧ a2 < (r9.L.length : Int) ∧ (if (ix r9.L a1) = (ix r9.L a2) then (X17 true) else (X17 false)))) else (X17 false))) (fun jb17_106 => law15_GreenOrders_J17 X13 K jb17_106))))))) else (Jn (S := Unit) (fun X => (fun (X15 : Prop) => X15) (X ())) (fun _ => law15_GreenOrders_J15 X13 K )))) (fun jb13_74 => law15_GreenOrders_J13 K jb13_74))
def law15_GreenOrders_J18 (X12 : Bool → Prop) (K : Bool → Prop) : Prop :=
  (X12 false)
def law15_GreenOrders_J19 (X12 : Bool → Prop) (K : Bool → Prop) (jb19_126 : Bool) : Prop :=
  (if jb19_126 = true then (X12 true) else (X12 false))
def law15_GreenOrders_J20 (X12 : Bool → Prop) (K : Bool → Prop) (jb20_140 : Bool) : Prop :=
  (if jb20_140 = true then (X12 false) else (X12 true))
def law15_GreenOrders_J11 (a0 : List (List Int)) (a1 : Int) (a2 : Int) (r9 : Green) (K : Bool → Prop) (jb11_70 : Bool) : Prop :=
  (Jn (S := Bool) (fun X12 => (if jb11_70 = true then (0 ≤ a1 ∧ a1 < (r9.J.length : Int) ∧ (0 ≤ a2 ∧ a2 < (r9.J.length : Int) ∧ (if (ix r9.J a1) = (ix r9.J a2) then (green_LeqJ a0 a1 a2 fun r119 => (Jn (S := Bool) (fun X19 => (if r119 = true then (green_LeqJ a0 a2 a1 fun r127 => (X19 r127)) else (X19 false))) (fun jb19_126 => law15_GreenOrders_J19 X12 K jb19_126))) else (green_LeqJ a0 a1 a2 fun r133 => (Jn (S := Bool) (fun X20 => (if r133 = true then (green_LeqJ a0 a2 a1 fun r141 => (X20 r141)) else (X20 false))) (fun jb20_140 => law15_GreenOrders_J20 X12 K jb20_140)))))) else (Jn (S := Unit) (fun X => (fun (X18 : Prop) => X18) (X ())) (fun _ => law15_GreenOrders_J18 X12 K )))) (fun jb12_72 => law15_GreenOrders_J12 a1 a2 r9 K jb12_72))
def law15_GreenOrders_J22 (X11 : Bool → Prop) (K : Bool → Prop) : Prop :=
  (X11 false)
def law15_GreenOrders_J23 (X11 : Bool → Prop) (K : Bool → Prop) (jb23_169 : Bool) : Prop :=
  (if jb23_169 = true then (X11 true) else (X11 false))
def law15_GreenOrders_J24 (X11 : Bool → Prop) (K : Bool → Prop) (jb24_183 : Bool) : Prop :=
  (if jb24_183 = true then (X11 false) else (X11 true))
def law15_GreenOrders_J21 (a0 : List (List Int)) (a1 : Int) (a2 : Int) (r9 : Green) (X11 : Bool → Prop) (K : Bool → Prop) (jb21_155 : Bool) : Prop :=
  (if jb21_155 = true then (0 ≤ a1 ∧ a1 < (r9.L.length : Int) ∧ (0 ≤ a2 ∧ a2 < (r9.L.length : Int) ∧ (if (ix r9.L a1) = (ix r9.L a2) then (green_LeqL a0 a1 a2 fun r162 => (Jn (S := Bool) (fun X23 => (if r162 = true then (green_LeqL a0 a2 a1 fun r170 => (X23 r170)) else (X23 false))) (fun jb23_169 => law15_GreenOrders_J23 X11 K jb23_169))) else (green_LeqL a0 a1 a2 fun r176 => (Jn (S := Bool) (fun X24 => (if r176 = true then (green_LeqL a0 a2 a1 fun r184 => (X24 r184)) else (X24 false))) (fun jb24_183 => law15_GreenOrders_J24 X11 K jb24_183)))))) else (Jn (S := Unit) (fun X => (fun (X22 : Prop) => X22) (X ())) (fun _ => law15_GreenOrders_J22 X11 K )))
def law15_GreenOrders_J26 (X11 : Bool → Prop) (K : Bool → Prop) (jb26_216 : Bool) : Prop :=
  (if jb26_216 = true then (X11 true) else (X11 false))
def law15_GreenOrders_J27 (X11 : Bool → Prop) (K : Bool → Prop) (jb27_230 : Bool) : Prop :=
  (if jb27_230 = true then (X11 false) else (X11 true))
def law15_GreenOrders_J28 (X11 : Bool → Prop) (K : Bool → Prop) : Prop :=
  (X11 false)
def law15_GreenOrders_J25 (a0 : List (List Int)) (a1 : Int) (a2 : Int) (r9 : Green) (X11 : Bool → Prop) (K : Bool → Prop) (jb25_203 : Bool) : Prop :=
  (if jb25_203 = true then (Jn (S := Unit) (fun X => (fun (X28 : Prop) => X28) (X ())) (fun _ => law15_GreenOrders_J28 X11 K )) else (0 ≤ a1 ∧ a1 < (r9.L.length : Int) ∧ (0 ≤ a2 ∧ a2 < (r9.L.length : Int) ∧ (if (ix r9.L a1) = (ix r9.L a2) then (green_LeqL a0 a1 a2 fun r209 => (Jn (S := Bool) (fun X26 => (if r209 = true then (green_LeqL a0 a2 a1 fun r217 => (X26 r217)) else (X26 false))) (fun jb26_216 => law15_GreenOrders_J26 X11 K jb26_216))) else (green_LeqL a0 a1 a2 fun r223 => (Jn (S := Bool) (fun X27 => (if r223 = true then (green_LeqL a0 a2 a1 fun r231 => (X27 r231)) else (X27 false))) (fun jb27_230 => law15_GreenOrders_J27 X11 K jb27_230)))))))
def law15_GreenOrders_J10 (a0 : List (List Int)) (a1 : Int) (a2 : Int) (r9 : Green) (K : Bool → Prop) (jb10_61 : Bool) : Prop :=
  (if jb10_61 = true then (K false) else (0 ≤ a1 ∧ a1 < (r9.R.length : Int) ∧ (0 ≤ a2 ∧ a2 < (r9.R.length : Int) ∧ (Jn (S := Bool) (fun X11 => (if (ix r9.R a1) = (ix r9.R a2) then (green_LeqR a0 a1 a2 fun r148 => (Jn (S := Bool) (fun X21 => (if r148 = true then (green_LeqR a0 a2 a1 fun r190 => (X21 r190)) else (X21 false))) (fun jb21_155 => law15_GreenOrders_J21 a0 a1 a2 r9 X11 K jb21_155))) else (green_LeqR a0 a1 a2 fun r196 => (Jn (S := Bool) (fun X25 => (if r196 = true then (green_LeqR a0 a2 a1 fun r238 => (X25 r238)) else (X25 false))) (fun jb25_203 => law15_GreenOrders_J25 a0 a1 a2 r9 X11 K jb25_203))))) (fun jb11_70 => law15_GreenOrders_J11 a0 a1 a2 r9 K jb11_70)))))
def law15_GreenOrders_J30 (X10 : Bool → Prop) (K : Bool → Prop) (jb30_253 : Bool) : Prop :=
  (X10 jb30_253)
def law15_GreenOrders_J29 (a0 : List (List Int)) (a1 : Int) (a3 : Int) (X10 : Bool → Prop) (K : Bool → Prop) (jb29_251 : Bool) : Prop :=
  (Jn (S := Bool) (fun X30 => (if jb29_251 = true then (green_LeqJ a0 a1 a3 fun r254 => (if r254 = true then (X30 false) else (X30 true))) else (X30 false))) (fun jb30_253 => law15_GreenOrders_J30 X10 K jb30_253))
def law15_GreenOrders_J32 (X10 : Bool → Prop) (K : Bool → Prop) : Prop :=
  (X10 true)
def law15_GreenOrders_J31 (X10 : Bool → Prop) (K : Bool → Prop) : Prop :=
  (Jn (S := Unit) (fun X => (fun (X32 : Prop) => X32) (X ())) (fun _ => law15_GreenOrders_J32 X10 K ))
def law15_GreenOrders_J9 (a0 : List (List Int)) (a1 : Int) (a2 : Int) (a3 : Int) (r9 : Green) (K : Bool → Prop) (jb9_59 : Bool) : Prop :=
  (Jn (S := Bool) (fun X10 => (if jb9_59 = true then (Jn (S := Unit) (fun X => (fun (X31 : Prop) => X31) (X ())) (fun _ => law15_GreenOrders_J31 X10 K )) else (green_LeqJ a0 a1 a2 fun r244 => (Jn (S := Bool) (fun X29 => (if r244 = true then (green_LeqJ a0 a2 a3 fun r260 => (X29 r260)) else (X29 false))) (fun jb29_251 => law15_GreenOrders_J29 a0 a1 a3 X10 K jb29_251))))) (fun jb10_61 => law15_GreenOrders_J10 a0 a1 a2 r9 K jb10_61))
def law15_GreenOrders_J8 (a0 : List (List Int)) (a1 : Int) (a2 : Int) (a3 : Int) (r9 : Green) (K : Bool → Prop) (jb8_57 : Bool) : Prop :=
  (Jn (S := Bool) (fun X9 => (if jb8_57 = true then (green_LeqR a0 a1 a3 fun r268 => (if r268 = true then (X9 false) else (X9 true))) else (X9 false))) (fun jb9_59 => law15_GreenOrders_J9 a0 a1 a2 a3 r9 K jb9_59))
def law15_GreenOrders_J7 (a0 : List (List Int)) (a1 : Int) (a2 : Int) (a3 : Int) (r9 : Green) (K : Bool → Prop) (jb7_49 : Bool) : Prop :=
  (if jb7_49 = true then (K false) else (green_LeqR a0 a1 a2 fun r50 => (Jn (S := Bool) (fun X8 => (if r50 = true then (green_LeqR a0 a2 a3 fun r274 => (X8 r274)) else (X8 false))) (fun jb8_57 => law15_GreenOrders_J8 a0 a1 a2 a3 r9 K jb8_57))))
def law15_GreenOrders_J6 (a0 : List (List Int)) (a1 : Int) (a2 : Int) (a3 : Int) (r9 : Green) (K : Bool → Prop) (jb6_47 : Bool) : Prop :=
  (Jn (S := Bool) (fun X7 => (if jb6_47 = true then (X7 true) else (green_LeqJ a0 ((ix (ix a0 a1) a2)) a2 fun r280 => (if r280 = true then (X7 false) else (X7 true))))) (fun jb7_49 => law15_GreenOrders_J7 a0 a1 a2 a3 r9 K jb7_49))
def law15_GreenOrders_J5 (a0 : List (List Int)) (a1 : Int) (a2 : Int) (a3 : Int) (r9 : Green) (K : Bool → Prop) (jb5_45 : Bool) : Prop :=
  (Jn (S := Bool) (fun X6 => (if jb5_45 = true then (X6 true) else (green_LeqJ a0 ((ix (ix a0 a1) a2)) a1 fun r286 => (if r286 = true then (X6 false) else (X6 true))))) (fun jb6_47 => law15_GreenOrders_J6 a0 a1 a2 a3 r9 K jb6_47))
def law15_GreenOrders_J4 (a0 : List (List Int)) (a1 : Int) (a2 : Int) (a3 : Int) (r9 : Green) (K : Bool → Prop) (jb4_29 : Bool) : Prop :=
  (if jb4_29 = true then (K false) else (0 ≤ a1 ∧ a1 < (a0.length : Int) ∧ (0 ≤ a2 ∧ a2 < ((ix a0 a1).length : Int) ∧ (green_LeqR a0 ((ix (ix a0 a1) a2)) a1 fun r38 => (Jn (S := Bool) (fun X5 => (if r38 = true then (green_LeqL a0 ((ix (ix a0 a1) a2)) a2 fun r292 => (if r292 = true then (X5 false) else (X5 true))) else (X5 true))) (fun jb5_45 => law15_GreenOrders_J5 a0 a1 a2 a3 r9 K jb5_45))))))
def law15_GreenOrders_J3 (a0 : List (List Int)) (a1 : Int) (a2 : Int) (a3 : Int) (r9 : Green) (K : Bool → Prop) (jb3_27 : Bool) : Prop :=
  (Jn (S := Bool) (fun X4 => (if jb3_27 = true then (X4 true) else (r9.H.length ≤ mx → (if (r9.H.length : Int) = (a0.length : Int) then (X4 false) else (X4 true))))) (fun jb4_29 => law15_GreenOrders_J4 a0 a1 a2 a3 r9 K jb4_29))
def law15_GreenOrders_J2 (a0 : List (List Int)) (a1 : Int) (a2 : Int) (a3 : Int) (r9 : Green) (K : Bool → Prop) (jb2_25 : Bool) : Prop :=
  (Jn (S := Bool) (fun X3 => (if jb2_25 = true then (X3 true) else (r9.J.length ≤ mx → (if (r9.J.length : Int) = (a0.length : Int) then (X3 false) else (X3 true))))) (fun jb3_27 => law15_GreenOrders_J3 a0 a1 a2 a3 r9 K jb3_27))
def law15_GreenOrders_J1 (a0 : List (List Int)) (a1 : Int) (a2 : Int) (a3 : Int) (K : Bool → Prop) (jb1_8 : Bool) : Prop :=
  (if jb1_8 = true then (law15_awake  fun r302 => (K r302)) else (green_Classes a0 fun r9 => (r9.R.length ≤ mx → (a0.length ≤ mx → (Jn (S := Bool) (fun X2 => (if (r9.R.length : Int) = (a0.length : Int) then (r9.L.length ≤ mx → (if (r9.L.length : Int) = (a0.length : Int) then (X2 false) else (X2 true))) else (X2 true))) (fun jb2_25 => law15_GreenOrders_J2 a0 a1 a2 a3 r9 K jb2_25))))))
def law15_GreenOrders (a0 : List (List Int)) (a1 : Int) (a2 : Int) (a3 : Int) (K : Bool → Prop) : Prop :=
  (law15_small a0 ((16 : Int)) fun r1 => (Jn (S := Bool) (fun X1 => (if r1 = true then (ref14_In a0 ([a1, a2, a3]) fun r318 => (if r318 = true then (X1 false) else (X1 true))) else (X1 true))) (fun jb1_8 => law15_GreenOrders_J1 a0 a1 a2 a3 K jb1_8)))
/- semigroup/semigrouplaw15.large -/
/- cmp.isNaN[int] -/
/- cmp.Less[int] -/
/- slices.isNaN[int] -/
/- slices.BinarySearch[[]int,int] -/
/- semigroup/semigroupref15.Right -/
/- semigroup/semigroupref15.Left -/
/- semigroup/semigroupref15.Both -/
/- semigroup/semigroupref15.ideals -/
/- semigroup/semigroupref03.Canonical -/
/- semigroup/semigroupref15.mutual -/
/- semigroup/semigroupref03.Meet -/
/- semigroup/semigroupref03.Count -/
def ref03_Count_L1 (p : List Int) (K : Int → Prop) (X1 : Int → Nat → Prop) (n1_2 : Int) (k1_3 : Nat) : Prop :=
  (if (k1_3 : Int) < (p.length : Int) then (0 ≤ (k1_3 : Int) ∧ (k1_3 : Int) < (p.length : Int) ∧ (I64 ((ix p (k1_3 : Int)) + (1 : Int)) ∧ (if n1_2 < ((ix p (k1_3 : Int)) + (1 : Int)) then (X1 (((ix p (k1_3 : Int)) + (1 : Int))) (k1_3 + 1)) else (X1 n1_2 (k1_3 + 1))))) else (K n1_2))
def ref03_Count (p : List Int) (K : Int → Prop) : Prop :=
  (p.length ≤ mx → (LoopWP (S := Int × Nat) (fun s X => ref03_Count_L1 p K (fun n1_2 k1_3 => X (n1_2, k1_3)) s.1 s.2) ((0 : Int), 0)))
/- semigroup/semigroupref03.Classes -/
def ref03_Classes_L1 (p : List Int) (K : List (List Int) → Prop) (X1 : Nat → List (List Int) → Prop) (k1_18 : Nat) (out1_19 : List (List Int)) : Prop :=
  (if (k1_18 : Int) < (p.length : Int) then (0 ≤ (k1_18 : Int) ∧ (k1_18 : Int) < (p.length : Int) ∧ (0 ≤ (ix p (k1_18 : Int)) ∧ (ix p (k1_18 : Int)) < (out1_19.length : Int) ∧ (((ix out1_19 (ix p (k1_18 : Int)))).length + ([(k1_18 : Int)]).length ≤ 1099511627776 ∧ (0 ≤ (ix p (k1_18 : Int)) ∧ (ix p (k1_18 : Int)) < (out1_19.length : Int) ∧ (X1 (k1_18 + 1) (st out1_19 (ix p (k1_18 : Int)) (((ix out1_19 (ix p (k1_18 : Int)))) ++ ([(k1_18 : Int)])))))))) else (K out1_19))
def ref03_Classes (p : List Int) (K : List (List Int) → Prop) : Prop :=
  (ref03_Count p fun r1 => (0 ≤ r1 ∧ r1 ≤ 1099511627776 ∧ (p.length ≤ mx → (LoopWP (S := Nat × List (List Int)) (fun s X => ref03_Classes_L1 p K (fun k1_18 out1_19 => X (k1_18, out1_19)) s.1 s.2) (0, List.replicate r1.toNat ([] : List Int))))))
/- semigroup/semigroupref15.Classes -/
/- semigroup/semigroupref03.SameRows -/
/- semigroup/semigroupref15.SameBox -/
/- semigroup/semigroupref03.Members -/
/- semigroup/semigroupref15.of -/
/- semigroup/semigroupref15.Box -/
/- semigroup/mult.areElements -/
def mult_areElements_L1 (t : List (List Int)) (numbers : List Int) (K : Bool → Prop) (X1 : Nat → Prop) (k1_2 : Nat) : Prop :=
  (if (k1_2 : Int) < (numbers.length : Int) then (0 ≤ (k1_2 : Int) ∧ (k1_2 : Int) < (numbers.length : Int) ∧ (if (ix numbers (k1_2 : Int)) < (0 : Int) then (K false) else (t.length ≤ mx → (if (t.length : Int) ≤ (ix numbers (k1_2 : Int)) then (K false) else (X1 (k1_2 + 1)))))) else (K true))
def mult_areElements (t : List (List Int)) (numbers : List Int) (K : Bool → Prop) : Prop :=
  (numbers.length ≤ mx → (LoopWP (S := Nat) (fun s X => mult_areElements_L1 t numbers K X s) 0))
/- semigroup/mult.Sub -/
end Sg
