/- What functions compute, as plain transformers, read off their operations by walkgen.py. -/
import Derived.Test.YtjegmdkaiddokaaPure
namespace Sg
open Go
set_option linter.unusedVariables false
structure DFA where
  Letters : Int
  Start : Int
  Final : List Bool
  Next : List (List Int)
/- semigroup/trans.Valid -/
def trans_Valid_L1 (f : List Int) (K : Bool → Prop) (X1 : Nat → Prop) (k1_4 : Nat) : Prop :=
  (if (k1_4 : Int) < (f.length : Int) then (0 ≤ (k1_4 : Int) ∧ (k1_4 : Int) < (f.length : Int) ∧ (if (ix f (k1_4 : Int)) < (0 : Int) then (K false) else (if (f.length : Int) ≤ (ix f (k1_4 : Int)) then (K false) else (X1 (k1_4 + 1))))) else (K true))
def trans_Valid (f : List Int) (K : Bool → Prop) : Prop :=
  (f.length ≤ mx → (if (f.length : Int) < (1 : Int) then (K false) else (if (32 : Int) < (f.length : Int) then (K false) else (LoopWP (S := Nat) (fun s X => trans_Valid_L1 f K X s) 0))))
/- semigroup/trans.Compose -/
def trans_Compose_L1 (f : List Int) (g : List Int) (K : List Int → Prop) (X1 : Nat → List Int → Prop) (k1_23 : Nat) (h1_24 : List Int) : Prop :=
  (if (k1_23 : Int) < (f.length : Int) then (0 ≤ (k1_23 : Int) ∧ (k1_23 : Int) < (f.length : Int) ∧ (0 ≤ (ix f (k1_23 : Int)) ∧ (ix f (k1_23 : Int)) < (g.length : Int) ∧ (0 ≤ (k1_23 : Int) ∧ (k1_23 : Int) < (h1_24.length : Int) ∧ (X1 (k1_23 + 1) (st h1_24 (k1_23 : Int) (ix g (ix f (k1_23 : Int)))))))) else (K h1_24))
def trans_Compose (f : List Int) (g : List Int) (K : List Int → Prop) : Prop :=
  (f.length ≤ mx → (g.length ≤ mx → (if (f.length : Int) = (g.length : Int) then (trans_Valid f fun r2 => (if r2 = true then (trans_Valid g fun r7 => (if r7 = true then (0 ≤ (f.length : Int) ∧ (f.length : Int) ≤ 1099511627776 ∧ (LoopWP (S := Nat × List Int) (fun s X => trans_Compose_L1 f g K (fun k1_23 h1_24 => X (k1_23, h1_24)) s.1 s.2) (0, List.replicate f.length ((0 : Int))))) else (K (([] : List Int))))) else (K (([] : List Int))))) else (K (([] : List Int))))))
/- semigroup/semigroupref11.Valid -/
def ref11_Valid_L1 (f : List Int) (K : Bool → Prop) (X1 : Nat → Prop) (k1_4 : Nat) : Prop :=
  (if (k1_4 : Int) < (f.length : Int) then (0 ≤ (k1_4 : Int) ∧ (k1_4 : Int) < (f.length : Int) ∧ (if (ix f (k1_4 : Int)) < (0 : Int) then (K false) else (if (f.length : Int) ≤ (ix f (k1_4 : Int)) then (K false) else (X1 (k1_4 + 1))))) else (K true))
def ref11_Valid (f : List Int) (K : Bool → Prop) : Prop :=
  (f.length ≤ mx → (if (f.length : Int) < (1 : Int) then (K false) else (if (32 : Int) < (f.length : Int) then (K false) else (LoopWP (S := Nat) (fun s X => ref11_Valid_L1 f K X s) 0))))
/- semigroup/semigrouplaw11.pair -/
def law11_pair (f : List Int) (g : List Int) (K : Bool → Prop) : Prop :=
  (ref11_Valid f fun r1 => (if r1 = true then (ref11_Valid g fun r6 => (if r6 = true then (f.length ≤ mx → (g.length ≤ mx → (if (f.length : Int) = (g.length : Int) then (K true) else (K false)))) else (K false))) else (K false)))
/- semigroup/semigroupref03.Same -/
def ref03_Same_L1 (a : List Int) (b : List Int) (K : Bool → Prop) (X1 : Nat → Prop) (k1_3 : Nat) : Prop :=
  (if (k1_3 : Int) < (a.length : Int) then (0 ≤ (k1_3 : Int) ∧ (k1_3 : Int) < (a.length : Int) ∧ (0 ≤ (k1_3 : Int) ∧ (k1_3 : Int) < (b.length : Int) ∧ (if (ix a (k1_3 : Int)) = (ix b (k1_3 : Int)) then (X1 (k1_3 + 1)) else (K false)))) else (K true))
def ref03_Same (a : List Int) (b : List Int) (K : Bool → Prop) : Prop :=
  (a.length ≤ mx → (b.length ≤ mx → (if (a.length : Int) = (b.length : Int) then (LoopWP (S := Nat) (fun s X => ref03_Same_L1 a b K X s) 0) else (K false))))
/- semigroup/semigrouplaw11.awake -/
def law11_awake (K : Bool → Prop) : Prop :=
  (trans_Compose ([(1 : Int), (2 : Int), (0 : Int)]) ([(0 : Int), (0 : Int), (2 : Int)]) fun r21 => (ref03_Same r21 ([(0 : Int), (2 : Int), (0 : Int)]) fun r36 => (K r36)))
/- semigroup/semigroupref11.Compose -/
def ref11_Compose_L1 (f : List Int) (g : List Int) (K : List Int → Prop) (X1 : Nat → List Int → Prop) (k1_12 : Nat) (out1_13 : List Int) : Prop :=
  (if (k1_12 : Int) < (f.length : Int) then (0 ≤ (k1_12 : Int) ∧ (k1_12 : Int) < (f.length : Int) ∧ (0 ≤ (ix f (k1_12 : Int)) ∧ (ix f (k1_12 : Int)) < (g.length : Int) ∧ (0 ≤ (k1_12 : Int) ∧ (k1_12 : Int) < (out1_13.length : Int) ∧ (X1 (k1_12 + 1) (st out1_13 (k1_12 : Int) (ix g (ix f (k1_12 : Int)))))))) else (K out1_13))
def ref11_Compose (f : List Int) (g : List Int) (K : List Int → Prop) : Prop :=
  (f.length ≤ mx → (0 ≤ (f.length : Int) ∧ (f.length : Int) ≤ 1099511627776 ∧ (LoopWP (S := Nat × List Int) (fun s X => ref11_Compose_L1 f g K (fun k1_12 out1_13 => X (k1_12, out1_13)) s.1 s.2) (0, List.replicate f.length ((0 : Int))))))
/- semigroup/semigrouplaw11.TransComposes -/
def law11_TransComposes (f : List Int) (g : List Int) (K : Bool → Prop) : Prop :=
  (trans_Compose f g fun r1 => (law11_pair f g fun r6 => (if r6 = true then (ref11_Compose f g fun r17 => (ref03_Same r1 r17 fun r22 => (if r22 = true then (law11_awake  fun r27 => (K r27)) else (K false)))) else (r1.length ≤ mx → (if (r1.length : Int) = (0 : Int) then (law11_awake  fun r12 => (K r12)) else (K false))))))
/- semigroup/trans.Identity -/
def trans_Identity_L1 (n : Int) (K : List Int → Prop) (X1 : Nat → List Int → Prop) (k1_14 : Nat) (f1_15 : List Int) : Prop :=
  (if (k1_14 : Int) < ((List.replicate n.toNat ((0 : Int))).length : Int) then (0 ≤ (k1_14 : Int) ∧ (k1_14 : Int) < (f1_15.length : Int) ∧ (I64 ((k1_14 : Int) + (1 : Int)) ∧ (X1 (k1_14 + 1) (st f1_15 (k1_14 : Int) (k1_14 : Int))))) else (K f1_15))
def trans_Identity (n : Int) (K : List Int → Prop) : Prop :=
  (if n < (1 : Int) then (K (([] : List Int))) else (if (32 : Int) < n then (K (([] : List Int))) else (0 ≤ n ∧ n ≤ 1099511627776 ∧ (LoopWP (S := Nat × List Int) (fun s X => trans_Identity_L1 n K (fun k1_14 f1_15 => X (k1_14, f1_15)) s.1 s.2) (0, List.replicate n.toNat ((0 : Int)))))))
/- semigroup/semigroupref03.Discrete -/
def ref03_Discrete_L1 (n : Int) (K : List Int → Prop) (X1 : Nat → List Int → Prop) (k1_12 : Nat) (p1_13 : List Int) : Prop :=
  (if (k1_12 : Int) < ((List.replicate n.toNat ((0 : Int))).length : Int) then (0 ≤ (k1_12 : Int) ∧ (k1_12 : Int) < (p1_13.length : Int) ∧ (I64 ((k1_12 : Int) + (1 : Int)) ∧ (X1 (k1_12 + 1) (st p1_13 (k1_12 : Int) (k1_12 : Int))))) else (K p1_13))
def ref03_Discrete (n : Int) (K : List Int → Prop) : Prop :=
  (0 ≤ n ∧ n ≤ 1099511627776 ∧ (LoopWP (S := Nat × List Int) (fun s X => ref03_Discrete_L1 n K (fun k1_12 p1_13 => X (k1_12, p1_13)) s.1 s.2) (0, List.replicate n.toNat ((0 : Int)))))
/- semigroup/semigrouplaw11.TransValid -/
def law11_TransValid (f : List Int) (n : Int) (K : Bool → Prop) : Prop :=
  (trans_Identity n fun r1 => (if n < (1 : Int) then (trans_Valid f fun r7 => (ref11_Valid f fun r12 => (if r7 = true then (if r12 = true then (r1.length ≤ mx → (if (r1.length : Int) = (0 : Int) then (law11_awake  fun r24 => (K r24)) else (K false))) else (K false)) else (if r12 = true then (K false) else (r1.length ≤ mx → (if (r1.length : Int) = (0 : Int) then (law11_awake  fun r18 => (K r18)) else (K false))))))) else (if (32 : Int) < n then (trans_Valid f fun r30 => (ref11_Valid f fun r35 => (if r30 = true then (if r35 = true then (r1.length ≤ mx → (if (r1.length : Int) = (0 : Int) then (law11_awake  fun r47 => (K r47)) else (K false))) else (K false)) else (if r35 = true then (K false) else (r1.length ≤ mx → (if (r1.length : Int) = (0 : Int) then (law11_awake  fun r41 => (K r41)) else (K false))))))) else (trans_Valid f fun r52 => (ref11_Valid f fun r57 => (if r52 = true then (if r57 = true then (ref03_Discrete n fun r77 => (ref03_Same r1 r77 fun r82 => (if r82 = true then (law11_awake  fun r87 => (K r87)) else (K false)))) else (K false)) else (if r57 = true then (K false) else (ref03_Discrete n fun r62 => (ref03_Same r1 r62 fun r67 => (if r67 = true then (law11_awake  fun r72 => (K r72)) else (K false)))))))))))
/- semigroup/trans.Apply -/
def trans_Apply_L1 (f : List Int) (set_ : Int) (K : Int → Prop) (X1 : Int → Nat → Prop) (image1_7 : Int) (k1_8 : Nat) : Prop :=
  (if (k1_8 : Int) < (f.length : Int) then (0 ≤ (k1_8 : Int) ∧ (k1_8 : Int) < (f.length : Int) ∧ ((0 ≤ (ix f (k1_8 : Int)) ∧ (X1 ((bits .or .u64 image1_7 (shlK .u64 (bits .and .u64 (shrK .u64 set_ (k1_8 : Int)) (1 : Int)) (ix f (k1_8 : Int))))) (k1_8 + 1))))) else (K image1_7))
def trans_Apply (f : List Int) (set_ : Int) (K : Int → Prop) : Prop :=
  (trans_Valid f fun r1 => (if r1 = true then (f.length ≤ mx → (LoopWP (S := Int × Nat) (fun s X => trans_Apply_L1 f set_ K (fun image1_7 k1_8 => X (image1_7, k1_8)) s.1 s.2) ((0 : Int), 0))) else (K ((0 : Int)))))
/- semigroup/semigroupref02.Has -/
def ref02_Has (set_ : Int) (j : Int) (K : Bool → Prop) : Prop :=
  (0 ≤ (IntKind.u64.wrap j) ∧ (if (bits .and .u64 (shrK .u64 set_ (IntKind.u64.wrap j)) (1 : Int)) = (1 : Int) then (K true) else (K false)))
/- semigroup/semigroupref02.Bit -/
def ref02_Bit (j : Int) (K : Int → Prop) : Prop :=
  (0 ≤ (IntKind.u64.wrap j) ∧ (K ((shlK .u64 (1 : Int) (IntKind.u64.wrap j)))))
/- semigroup/semigrouplaw11.TransApplies -/
def law11_TransApplies_L1 (f : List Int) (g : List Int) (set_ : Int) (r1 : Int) (K : Bool → Prop) (X1 : Int → Nat → Prop) (want1_18 : Int) (k1_19 : Nat) : Prop :=
  (if (k1_19 : Int) < (f.length : Int) then (0 ≤ (k1_19 : Int) ∧ (k1_19 : Int) < (f.length : Int) ∧ (ref02_Has set_ ((k1_19 : Int)) fun r23 => (if r23 = true then (ref02_Bit ((ix f (k1_19 : Int))) fun r28 => (X1 ((bits .or .u64 want1_18 r28)) (k1_19 + 1))) else (X1 want1_18 (k1_19 + 1))))) else (if r1 = want1_18 then (law11_pair f g fun r34 => (if r34 = true then (trans_Compose f g fun r44 => (trans_Apply r44 set_ fun r49 => (trans_Apply g r1 fun r54 => (if r49 = r54 then (law11_awake  fun r60 => (K r60)) else (K false))))) else (law11_awake  fun r39 => (K r39)))) else (K false)))
def law11_TransApplies (f : List Int) (g : List Int) (set_ : Int) (K : Bool → Prop) : Prop :=
  (trans_Apply f set_ fun r1 => (ref11_Valid f fun r6 => (if r6 = true then (f.length ≤ mx → (LoopWP (S := Int × Nat) (fun s X => law11_TransApplies_L1 f g set_ r1 K (fun want1_18 k1_19 => X (want1_18, k1_19)) s.1 s.2) ((0 : Int), 0))) else (if r1 = (0 : Int) then (law11_awake  fun r12 => (K r12)) else (K false)))))
/- semigroup/trans.Power -/
def trans_Power_L1 (K : List Int → Prop) (X1 : Int → List Int → List Int → Prop) (k1_13 : Int) (result1_14 : List Int) (square1_18 : List Int) : Prop :=
  (if (0 : Int) < k1_13 then (if (bits .and .i64 k1_13 (1 : Int)) = (1 : Int) then (trans_Compose result1_14 square1_18 fun r24 => (trans_Compose square1_18 square1_18 fun r29 => ((X1 ((shrK .i64 k1_13 (1 : Int))) r24 r29)))) else (trans_Compose square1_18 square1_18 fun r34 => ((X1 ((shrK .i64 k1_13 (1 : Int))) result1_14 r34)))) else (K result1_14))
def trans_Power (f : List Int) (k : Int) (K : List Int → Prop) : Prop :=
  (trans_Valid f fun r1 => (if r1 = true then (if k < (0 : Int) then (K (([] : List Int))) else (f.length ≤ mx → (trans_Identity ((f.length : Int)) fun r7 => (LoopWP (S := Int × List Int × List Int) (fun s X => trans_Power_L1  K (fun k1_13 result1_14 square1_18 => X (k1_13, result1_14, square1_18)) s.1 s.2.1 s.2.2) (k, r7, f))))) else (K (([] : List Int)))))
/- semigroup/semigroupref11.Power -/
def ref11_Power_L1 (K : List Int → Prop) (X1 : List Int → Int → List Int → Prop) (f1_7 : List Int) (k1_11 : Int) (out1_12 : List Int) : Prop :=
  (if (0 : Int) < k1_11 then ((if (k1_11.tmod (2 : Int)) = (1 : Int) then (ref11_Compose out1_12 f1_7 fun r18 => (ref11_Compose f1_7 f1_7 fun r23 => (I64 (k1_11.tdiv (2 : Int)) ∧ (X1 r23 ((k1_11.tdiv (2 : Int))) r18)))) else (ref11_Compose f1_7 f1_7 fun r29 => (I64 (k1_11.tdiv (2 : Int)) ∧ (X1 r29 ((k1_11.tdiv (2 : Int))) out1_12))))) else (K out1_12))
def ref11_Power (f : List Int) (k : Int) (K : List Int → Prop) : Prop :=
  (f.length ≤ mx → (ref03_Discrete ((f.length : Int)) fun r1 => (LoopWP (S := List Int × Int × List Int) (fun s X => ref11_Power_L1  K (fun f1_7 k1_11 out1_12 => X (f1_7, k1_11, out1_12)) s.1 s.2.1 s.2.2) (f, k, r1))))
/- semigroup/semigrouplaw11.TransPowers -/
def law11_TransPowers (f : List Int) (k : Int) (K : Bool → Prop) : Prop :=
  (trans_Power f k fun r1 => (ref11_Valid f fun r6 => (if r6 = true then (if k < (0 : Int) then (r1.length ≤ mx → (if (r1.length : Int) = (0 : Int) then (law11_awake  fun r19 => (K r19)) else (K false))) else (ref11_Power f k fun r24 => (ref03_Same r1 r24 fun r29 => (if r29 = true then (law11_awake  fun r34 => (K r34)) else (K false))))) else (r1.length ≤ mx → (if (r1.length : Int) = (0 : Int) then (law11_awake  fun r12 => (K r12)) else (K false))))))
/- semigroup/word.Valid -/
def word_Valid_L1 (w_ : Str) (letters : Int) (K : Bool → Prop) (X1 : Nat → Prop) (k1_5 : Nat) : Prop :=
  (if (k1_5 : Int) < (w_.length : Int) then (0 ≤ (k1_5 : Int) ∧ (k1_5 : Int) < (w_.length : Int) ∧ (if ((ix w_ (k1_5 : Int)).toNat : Int) < (97 : Int) then (K false) else (0 ≤ (k1_5 : Int) ∧ (k1_5 : Int) < (w_.length : Int) ∧ (if letters ≤ (IntKind.i64.wrap (IntKind.u8.wrap (((ix w_ (k1_5 : Int)).toNat : Int) - (97 : Int)))) then (K false) else (X1 (k1_5 + 1)))))) else (K true))
def word_Valid (w_ : Str) (letters : Int) (K : Bool → Prop) : Prop :=
  (if letters < (1 : Int) then (K false) else (if (6 : Int) < letters then (K false) else (w_.length ≤ mx → (if (2048 : Int) < (w_.length : Int) then (K false) else (LoopWP (S := Nat) (fun s X => word_Valid_L1 w_ letters K X s) 0)))))
/- semigroup/trans.OfWord -/
def trans_OfWord_L2 (gens : List (List Int)) (w_ : Str) (K : List Int → Prop) (X2 : List Int → Nat → Prop) (f2_46 : List Int) (i2_50 : Nat) : Prop :=
  (if (i2_50 : Int) < (w_.length : Int) then ((ix w_ (i2_50 : Int)).toNat < 128 ∧ (0 ≤ (IntKind.i32.wrap (((ix w_ (i2_50 : Int)).toNat : Int) - (97 : Int))) ∧ (IntKind.i32.wrap (((ix w_ (i2_50 : Int)).toNat : Int) - (97 : Int))) < (gens.length : Int) ∧ (trans_Compose f2_46 (ix gens (IntKind.i32.wrap (((ix w_ (i2_50 : Int)).toNat : Int) - (97 : Int)))) fun r62 => (X2 r62 (i2_50 + 1))))) else (K f2_46))
def trans_OfWord_L1 (gens : List (List Int)) (w_ : Str) (K : List Int → Prop) (X1 : Nat → Prop) (k1_8 : Nat) : Prop :=
  (if (k1_8 : Int) < (gens.length : Int) then (0 ≤ (k1_8 : Int) ∧ (k1_8 : Int) < (gens.length : Int) ∧ ((ix gens (k1_8 : Int)).length ≤ mx → (0 ≤ (0 : Int) ∧ (0 : Int) < (gens.length : Int) ∧ ((ix gens (0 : Int)).length ≤ mx → (if ((ix gens (k1_8 : Int)).length : Int) = ((ix gens (0 : Int)).length : Int) then (trans_Valid (ix gens (k1_8 : Int)) fun r23 => (if r23 = true then (X1 (k1_8 + 1)) else (K (([] : List Int))))) else (K (([] : List Int)))))))) else (0 ≤ (0 : Int) ∧ (0 : Int) < (gens.length : Int) ∧ ((ix gens (0 : Int)).length ≤ mx → (trans_Identity (((ix gens (0 : Int)).length : Int)) fun r34 => (LoopWP (S := List Int × Nat) (fun s X => trans_OfWord_L2 gens w_ K (fun f2_46 i2_50 => X (f2_46, i2_50)) s.1 s.2) (r34, 0))))))
def trans_OfWord (gens : List (List Int)) (w_ : Str) (K : List Int → Prop) : Prop :=
  (gens.length ≤ mx → (if (gens.length : Int) = (0 : Int) then (K (([] : List Int))) else (word_Valid w_ ((gens.length : Int)) fun r2 => (if r2 = true then (LoopWP (S := Nat) (fun s X => trans_OfWord_L1 gens w_ K X s) 0) else (K (([] : List Int)))))))
/- semigroup/semigroupref11.MayGens -/
def ref11_MayGens_L1 (gens : List (List Int)) (K : Bool → Prop) (X1 : Nat → Prop) (k1_4 : Nat) : Prop :=
  (if (k1_4 : Int) < (gens.length : Int) then (0 ≤ (k1_4 : Int) ∧ (k1_4 : Int) < (gens.length : Int) ∧ (ref11_Valid (ix gens (k1_4 : Int)) fun r12 => (if r12 = true then ((ix gens (k1_4 : Int)).length ≤ mx → (0 ≤ (0 : Int) ∧ (0 : Int) < (gens.length : Int) ∧ ((ix gens (0 : Int)).length ≤ mx → (if ((ix gens (k1_4 : Int)).length : Int) = ((ix gens (0 : Int)).length : Int) then (X1 (k1_4 + 1)) else (K false))))) else (K false)))) else (K true))
def ref11_MayGens (gens : List (List Int)) (K : Bool → Prop) : Prop :=
  (gens.length ≤ mx → (if (gens.length : Int) < (1 : Int) then (K false) else (if (6 : Int) < (gens.length : Int) then (K false) else (LoopWP (S := Nat) (fun s X => ref11_MayGens_L1 gens K X s) 0))))
/- semigroup/semigroupref01.MayLetters -/
def ref01_MayLetters (letters : Int) (K : Bool → Prop) : Prop :=
  (if (1 : Int) ≤ letters then (if letters ≤ (6 : Int) then (K true) else (K false)) else (K false))
/- semigroup/semigroupref01.Valid -/
def ref01_Valid_L1 (w_ : Str) (letters : Int) (K : Bool → Prop) (X1 : Nat → Prop) (i1_8 : Nat) : Prop :=
  (if (i1_8 : Int) < (w_.length : Int) then (0 ≤ (i1_8 : Int) ∧ (i1_8 : Int) < (w_.length : Int) ∧ (if ((ix w_ (i1_8 : Int)).toNat : Int) < (97 : Int) then (K false) else (0 ≤ (i1_8 : Int) ∧ (i1_8 : Int) < (w_.length : Int) ∧ (if letters ≤ (IntKind.i64.wrap (IntKind.u8.wrap (((ix w_ (i1_8 : Int)).toNat : Int) - (97 : Int)))) then (K false) else (X1 (i1_8 + 1)))))) else (K true))
def ref01_Valid (w_ : Str) (letters : Int) (K : Bool → Prop) : Prop :=
  (ref01_MayLetters letters fun r1 => (if r1 = true then (w_.length ≤ mx → (if (2048 : Int) < (w_.length : Int) then (K false) else (LoopWP (S := Nat) (fun s X => ref01_Valid_L1 w_ letters K X s) 0))) else (K false)))
/- semigroup/semigroupref11.OfWord -/
def ref11_OfWord_L1 (gens : List (List Int)) (w_ : Str) (K : List Int → Prop) (X1 : List Int → Nat → Prop) (out1_18 : List Int) (i1_22 : Nat) : Prop :=
  (w_.length ≤ mx → (if (i1_22 : Int) < (w_.length : Int) then (0 ≤ (i1_22 : Int) ∧ (i1_22 : Int) < (w_.length : Int) ∧ (0 ≤ (IntKind.i64.wrap (IntKind.u8.wrap (((ix w_ (i1_22 : Int)).toNat : Int) - (97 : Int)))) ∧ (IntKind.i64.wrap (IntKind.u8.wrap (((ix w_ (i1_22 : Int)).toNat : Int) - (97 : Int)))) < (gens.length : Int) ∧ (ref11_Compose out1_18 (ix gens (IntKind.i64.wrap (IntKind.u8.wrap (((ix w_ (i1_22 : Int)).toNat : Int) - (97 : Int))))) fun r32 => (X1 r32 (i1_22 + 1))))) else (K out1_18)))
def ref11_OfWord (gens : List (List Int)) (w_ : Str) (K : List Int → Prop) : Prop :=
  (gens.length ≤ mx → (ref01_Valid w_ ((gens.length : Int)) fun r1 => (if r1 = true then (0 ≤ (0 : Int) ∧ (0 : Int) < (gens.length : Int) ∧ ((ix gens (0 : Int)).length ≤ mx → (ref03_Discrete (((ix gens (0 : Int)).length : Int)) fun r12 => (LoopWP (S := List Int × Nat) (fun s X => ref11_OfWord_L1 gens w_ K (fun out1_18 i1_22 => X (out1_18, i1_22)) s.1 s.2) (r12, 0))))) else (K (([] : List Int))))))
/- semigroup/semigrouplaw11.TransWords -/
def law11_TransWords (gens : List (List Int)) (u : Str) (w_ : Str) (K : Bool → Prop) : Prop :=
  (trans_OfWord gens w_ fun r1 => (ref11_MayGens gens fun r6 => (if r6 = true then (gens.length ≤ mx → (ref01_Valid w_ ((gens.length : Int)) fun r17 => (if r17 = true then (ref11_OfWord gens w_ fun r28 => (ref03_Same r1 r28 fun r33 => (if r33 = true then (u.length + w_.length ≤ 9223372036854775807 ∧ (ref01_Valid (u ++ w_) ((gens.length : Int)) fun r39 => (if r39 = true then (u.length + w_.length ≤ 9223372036854775807 ∧ (trans_OfWord gens (u ++ w_) fun r50 => (trans_OfWord gens u fun r55 => (trans_Compose r55 r1 fun r60 => (ref03_Same r50 r60 fun r65 => (if r65 = true then (law11_awake  fun r70 => (K r70)) else (K false))))))) else (law11_awake  fun r44 => (K r44))))) else (K false)))) else (r1.length ≤ mx → (if (r1.length : Int) = (0 : Int) then (law11_awake  fun r23 => (K r23)) else (K false)))))) else (r1.length ≤ mx → (if (r1.length : Int) = (0 : Int) then (law11_awake  fun r12 => (K r12)) else (K false))))))
/- semigroup/dfa.Validate -/
def dfa_Validate_L2 (d : DFA) (k1_14 : Nat) (X1 : Nat → Prop) (K : Int → Prop) (X2 : Nat → Prop) (k2_24 : Nat) : Prop :=
  (if (k2_24 : Int) < ((ix d.Next (k1_14 : Int)).length : Int) then (0 ≤ (k2_24 : Int) ∧ (k2_24 : Int) < ((ix d.Next (k1_14 : Int)).length : Int) ∧ (if (ix (ix d.Next (k1_14 : Int)) (k2_24 : Int)) < (0 : Int) then (K ((4 : Int))) else (if (d.Final.length : Int) ≤ (ix (ix d.Next (k1_14 : Int)) (k2_24 : Int)) then (K ((4 : Int))) else (X2 (k2_24 + 1))))) else (X1 (k1_14 + 1)))
def dfa_Validate_L1 (d : DFA) (K : Int → Prop) (X1 : Nat → Prop) (k1_14 : Nat) : Prop :=
  (if (k1_14 : Int) < (d.Next.length : Int) then (0 ≤ (k1_14 : Int) ∧ (k1_14 : Int) < (d.Next.length : Int) ∧ ((ix d.Next (k1_14 : Int)).length ≤ mx → (if ((ix d.Next (k1_14 : Int)).length : Int) = d.Letters then (LoopWP (S := Nat) (fun s X => dfa_Validate_L2 d k1_14 X1 K X s) 0) else (K ((4 : Int)))))) else (K ((0 : Int))))
def dfa_Validate (d : DFA) (K : Int → Prop) : Prop :=
  (if d.Letters < (1 : Int) then (K ((1 : Int))) else (if (6 : Int) < d.Letters then (K ((1 : Int))) else (d.Final.length ≤ mx → (if (512 : Int) < (d.Final.length : Int) then (K ((3 : Int))) else (d.Next.length ≤ mx → (if (d.Next.length : Int) = (d.Final.length : Int) then (if d.Start < (0 : Int) then (K ((4 : Int))) else (if (d.Final.length : Int) ≤ d.Start then (K ((4 : Int))) else (LoopWP (S := Nat) (fun s X => dfa_Validate_L1 d K X s) 0))) else (K ((4 : Int)))))))))
/- semigroup/semigroupref07.Validate -/
def ref07_Validate_L2 (d : DFA) (k1_18 : Nat) (X1 : Nat → Prop) (K : Int → Prop) (X2 : Nat → Prop) (k2_28 : Nat) : Prop :=
  (if (k2_28 : Int) < ((ix d.Next (k1_18 : Int)).length : Int) then (0 ≤ (k2_28 : Int) ∧ (k2_28 : Int) < ((ix d.Next (k1_18 : Int)).length : Int) ∧ (if (ix (ix d.Next (k1_18 : Int)) (k2_28 : Int)) < (0 : Int) then (K ((4 : Int))) else (if (d.Final.length : Int) ≤ (ix (ix d.Next (k1_18 : Int)) (k2_28 : Int)) then (K ((4 : Int))) else (X2 (k2_28 + 1))))) else (X1 (k1_18 + 1)))
def ref07_Validate_L1 (d : DFA) (K : Int → Prop) (X1 : Nat → Prop) (k1_18 : Nat) : Prop :=
  (if (k1_18 : Int) < (d.Next.length : Int) then (0 ≤ (k1_18 : Int) ∧ (k1_18 : Int) < (d.Next.length : Int) ∧ ((ix d.Next (k1_18 : Int)).length ≤ mx → (if ((ix d.Next (k1_18 : Int)).length : Int) = d.Letters then (LoopWP (S := Nat) (fun s X => ref07_Validate_L2 d k1_18 X1 K X s) 0) else (K ((4 : Int)))))) else (K ((0 : Int))))
def ref07_Validate (d : DFA) (K : Int → Prop) : Prop :=
  (d.Final.length ≤ mx → (ref01_MayLetters d.Letters fun r7 => (if r7 = true then (if (512 : Int) < (d.Final.length : Int) then (K ((3 : Int))) else (if (d.Final.length : Int) = (0 : Int) then (K ((4 : Int))) else (d.Next.length ≤ mx → (if (d.Next.length : Int) = (d.Final.length : Int) then (if d.Start < (0 : Int) then (K ((4 : Int))) else (if (d.Final.length : Int) ≤ d.Start then (K ((4 : Int))) else (LoopWP (S := Nat) (fun s X => ref07_Validate_L1 d K X s) 0))) else (K ((4 : Int))))))) else (K ((1 : Int))))))
/- semigroup/semigroupref11.OfDFA -/
def ref11_OfDFA_L2 (d : DFA) (x1_11 : Nat) (out1_12 : List (List Int)) (X1 : Nat → List (List Int) → Prop) (K : List (List Int) → Prop) (X2 : Nat → List Int → Prop) (k2_23 : Nat) (f2_24 : List Int) : Prop :=
  (if (k2_23 : Int) < (d.Next.length : Int) then (0 ≤ (k2_23 : Int) ∧ (k2_23 : Int) < (d.Next.length : Int) ∧ (0 ≤ (x1_11 : Int) ∧ (x1_11 : Int) < ((ix d.Next (k2_23 : Int)).length : Int) ∧ (f2_24.length + ([(ix (ix d.Next (k2_23 : Int)) (x1_11 : Int))]).length ≤ 1099511627776 ∧ (X2 (k2_23 + 1) (f2_24 ++ ([(ix (ix d.Next (k2_23 : Int)) (x1_11 : Int))])))))) else (out1_12.length + ([f2_24]).length ≤ 1099511627776 ∧ (I64 ((x1_11 : Int) + (1 : Int)) ∧ (X1 (x1_11 + 1) (out1_12 ++ ([f2_24]))))))
def ref11_OfDFA_L1 (d : DFA) (K : List (List Int) → Prop) (X1 : Nat → List (List Int) → Prop) (x1_11 : Nat) (out1_12 : List (List Int)) : Prop :=
  (if (x1_11 : Int) < d.Letters then (d.Next.length ≤ mx → (LoopWP (S := Nat × List Int) (fun s X => ref11_OfDFA_L2 d x1_11 out1_12 X1 K (fun k2_23 f2_24 => X (k2_23, f2_24)) s.1 s.2) (0, ([] : List Int)))) else (K out1_12))
def ref11_OfDFA (d : DFA) (K : List (List Int) → Prop) : Prop :=
  (LoopWP (S := Nat × List (List Int)) (fun s X => ref11_OfDFA_L1 d K (fun x1_11 out1_12 => X (x1_11, out1_12)) s.1 s.2) (0, ([] : List (List Int))))
/- semigroup/semigroupref03.SameRows -/
def ref03_SameRows_L1 (a : List (List Int)) (b : List (List Int)) (K : Bool → Prop) (X1 : Nat → Prop) (k1_3 : Nat) : Prop :=
  (if (k1_3 : Int) < (a.length : Int) then (0 ≤ (k1_3 : Int) ∧ (k1_3 : Int) < (a.length : Int) ∧ (0 ≤ (k1_3 : Int) ∧ (k1_3 : Int) < (b.length : Int) ∧ (ref03_Same (ix a (k1_3 : Int)) (ix b (k1_3 : Int)) fun r20 => (if r20 = true then (X1 (k1_3 + 1)) else (K false))))) else (K true))
def ref03_SameRows (a : List (List Int)) (b : List (List Int)) (K : Bool → Prop) : Prop :=
  (a.length ≤ mx → (b.length ≤ mx → (if (a.length : Int) = (b.length : Int) then (LoopWP (S := Nat) (fun s X => ref03_SameRows_L1 a b K X s) 0) else (K false))))
/- semigroup/trans.Cycles -/
def trans_Cycles_L2 (f : List Int) (k1_10 : Nat) (cycles1_11 : List (List Int)) (X1 : Nat → List (List Int) → Prop) (K : List (List Int) → Prop) (X2 : Int → List Int → Prop) (j2_28 : Int) (cycle2_29 : List Int) : Prop :=
  (if (k1_10 : Int) < j2_28 then (if (cycle2_29.length : Int) < (f.length : Int) then (cycle2_29.length + ([j2_28]).length ≤ 1099511627776 ∧ (0 ≤ j2_28 ∧ j2_28 < (f.length : Int) ∧ (X2 ((ix f j2_28)) (cycle2_29 ++ ([j2_28]))))) else (if j2_28 = (k1_10 : Int) then (cycles1_11.length + ([cycle2_29]).length ≤ 1099511627776 ∧ (X1 (k1_10 + 1) (cycles1_11 ++ ([cycle2_29])))) else (X1 (k1_10 + 1) cycles1_11))) else (if j2_28 = (k1_10 : Int) then (cycles1_11.length + ([cycle2_29]).length ≤ 1099511627776 ∧ (X1 (k1_10 + 1) (cycles1_11 ++ ([cycle2_29])))) else (X1 (k1_10 + 1) cycles1_11)))
def trans_Cycles_L1 (f : List Int) (K : List (List Int) → Prop) (X1 : Nat → List (List Int) → Prop) (k1_10 : Nat) (cycles1_11 : List (List Int)) : Prop :=
  (if (k1_10 : Int) < (f.length : Int) then (0 ≤ (k1_10 : Int) ∧ (k1_10 : Int) < (f.length : Int) ∧ (LoopWP (S := Int × List Int) (fun s X => trans_Cycles_L2 f k1_10 cycles1_11 X1 K (fun j2_28 cycle2_29 => X (j2_28, cycle2_29)) s.1 s.2) ((ix f (k1_10 : Int)), [(k1_10 : Int)]))) else (K cycles1_11))
def trans_Cycles (f : List Int) (K : List (List Int) → Prop) : Prop :=
  (trans_Valid f fun r1 => (if r1 = true then (f.length ≤ mx → (LoopWP (S := Nat × List (List Int)) (fun s X => trans_Cycles_L1 f K (fun k1_10 cycles1_11 => X (k1_10, cycles1_11)) s.1 s.2) (0, ([] : List (List Int))))) else (K (([] : List (List Int))))))
/- semigroup/trans.divisor -/
def trans_divisor_L1 (K : Int → Prop) (X1 : Int → Int → Prop) (a1_2 : Int) (b1_3 : Int) : Prop :=
  (if (0 : Int) < b1_3 then (b1_3 ≠ 0 ∧ (X1 b1_3 ((a1_2.tmod b1_3)))) else (K a1_2))
def trans_divisor (a : Int) (b : Int) (K : Int → Prop) : Prop :=
  (LoopWP (S := Int × Int) (fun s X => trans_divisor_L1  K (fun a1_2 b1_3 => X (a1_2, b1_3)) s.1 s.2) (a, b))
/- semigroup/trans.IndexPeriod -/
def trans_IndexPeriod_L2 (r16 : List (List Int)) (k1_22 : Int) (k1_23 : Nat) (X1 : Int → Nat → List Bool → Prop) (K : Int → Int → Prop) (X2 : Nat → List Bool → Prop) (k2_38 : Nat) (d_39 : List Bool) : Prop :=
  (if (k2_38 : Int) < ((ix r16 (k1_23 : Int)).length : Int) then (0 ≤ (k2_38 : Int) ∧ (k2_38 : Int) < ((ix r16 (k1_23 : Int)).length : Int) ∧ (0 ≤ (ix (ix r16 (k1_23 : Int)) (k2_38 : Int)) ∧ (ix (ix r16 (k1_23 : Int)) (k2_38 : Int)) < (d_39.length : Int) ∧ (X2 (k2_38 + 1) (st d_39 (ix (ix r16 (k1_23 : Int)) (k2_38 : Int)) true)))) else (trans_divisor k1_22 (((ix r16 (k1_23 : Int)).length : Int)) fun r55 => (r55 ≠ 0 ∧ I64 (k1_22.tdiv r55) ∧ (I64 ((k1_22.tdiv r55) * ((ix r16 (k1_23 : Int)).length : Int)) ∧ (X1 (((k1_22.tdiv r55) * ((ix r16 (k1_23 : Int)).length : Int))) (k1_23 + 1) d_39)))))
def trans_IndexPeriod_L4 (Listappend : List Int) (d_24 : List Bool) (k3_64 : Int) (k3_65 : Nat) (X3 : Int → Nat → Prop) (K : Int → Int → Prop) (X4 : Nat → Int → Prop) (k4_68 : Nat) (k4_69 : Int) : Prop :=
  (0 ≤ k4_69 ∧ k4_69 < (d_24.length : Int) ∧ (if ix d_24 k4_69 = true then (if k3_64 < (k4_68 : Int) then (X3 ((k4_68 : Int)) (k3_65 + 1)) else (X3 k3_64 (k3_65 + 1))) else (I64 ((k4_68 : Int) + (1 : Int)) ∧ (0 ≤ k4_69 ∧ k4_69 < (Listappend.length : Int) ∧ (X4 (k4_68 + 1) ((ix Listappend k4_69)))))))
def trans_IndexPeriod_L3 (Listappend : List Int) (k1_22 : Int) (d_24 : List Bool) (K : Int → Int → Prop) (X3 : Int → Nat → Prop) (k3_64 : Int) (k3_65 : Nat) : Prop :=
  (if (k3_65 : Int) < (Listappend.length : Int) then (LoopWP (S := Nat × Int) (fun s X => trans_IndexPeriod_L4 Listappend d_24 k3_64 k3_65 X3 K (fun k4_68 k4_69 => X (k4_68, k4_69)) s.1 s.2) (0, (k3_65 : Int))) else (K k3_64 k1_22))
def trans_IndexPeriod_L1 (Listappend : List Int) (r16 : List (List Int)) (K : Int → Int → Prop) (X1 : Int → Nat → List Bool → Prop) (k1_22 : Int) (k1_23 : Nat) (d_24 : List Bool) : Prop :=
  (if (k1_23 : Int) < (r16.length : Int) then (0 ≤ (k1_23 : Int) ∧ (k1_23 : Int) < (r16.length : Int) ∧ ((ix r16 (k1_23 : Int)).length ≤ mx → (LoopWP (S := Nat × List Bool) (fun s X => trans_IndexPeriod_L2 r16 k1_22 k1_23 X1 K (fun k2_38 d_39 => X (k2_38, d_39)) s.1 s.2) (0, d_24)))) else (LoopWP (S := Int × Nat) (fun s X => trans_IndexPeriod_L3 Listappend k1_22 d_24 K (fun k3_64 k3_65 => X (k3_64, k3_65)) s.1 s.2) ((1 : Int), 0)))
def trans_IndexPeriod (Listappend : List Int) (K : Int → Int → Prop) : Prop :=
  (trans_Valid Listappend fun r1 => (if r1 = true then (Listappend.length ≤ mx → (0 ≤ (Listappend.length : Int) ∧ (Listappend.length : Int) ≤ 1099511627776 ∧ (trans_Cycles Listappend fun r16 => (r16.length ≤ mx → (LoopWP (S := Int × Nat × List Bool) (fun s X => trans_IndexPeriod_L1 Listappend r16 K (fun k1_22 k1_23 d_24 => X (k1_22, k1_23, d_24)) s.1 s.2.1 s.2.2) ((1 : Int), 0, List.replicate Listappend.length false)))))) else (K ((0 : Int)) ((0 : Int)))))
/- semigroup/trans.Omega -/
def trans_Omega (f : List Int) (K : List Int → Prop) : Prop :=
  (trans_Valid f fun r1 => (if r1 = true then (trans_IndexPeriod f fun r6 r7 => (I64 (r6 + r7) ∧ (I64 ((r6 + r7) - (1 : Int)) ∧ (r7 ≠ 0 ∧ I64 (((r6 + r7) - (1 : Int)).tdiv r7) ∧ (I64 ((((r6 + r7) - (1 : Int)).tdiv r7) * r7) ∧ (trans_Power f (((((r6 + r7) - (1 : Int)).tdiv r7) * r7)) fun r17 => (K r17))))))) else (K (([] : List Int)))))
/- semigroup/semigroupref11.Cycles -/
def ref11_Cycles_L2 (f : List Int) (k1_5 : Nat) (out1_6 : List (List Int)) (X1 : Nat → List (List Int) → Prop) (K : List (List Int) → Prop) (X2 : Int → List Int → Prop) (x2_23 : Int) (c2_24 : List Int) : Prop :=
  (if (k1_5 : Int) < x2_23 then (if (c2_24.length : Int) ≤ (f.length : Int) then (c2_24.length + ([x2_23]).length ≤ 1099511627776 ∧ (0 ≤ x2_23 ∧ x2_23 < (f.length : Int) ∧ (X2 ((ix f x2_23)) (c2_24 ++ ([x2_23]))))) else (I64 ((c2_24.length : Int) - (1 : Int)) ∧ (0 ≤ ((c2_24.length : Int) - (1 : Int)) ∧ ((c2_24.length : Int) - (1 : Int)) < (c2_24.length : Int) ∧ (0 ≤ (ix c2_24 ((c2_24.length : Int) - (1 : Int))) ∧ (ix c2_24 ((c2_24.length : Int) - (1 : Int))) < (f.length : Int) ∧ (if (ix f (ix c2_24 ((c2_24.length : Int) - (1 : Int)))) = (k1_5 : Int) then (out1_6.length + ([c2_24]).length ≤ 1099511627776 ∧ (X1 (k1_5 + 1) (out1_6 ++ ([c2_24])))) else (X1 (k1_5 + 1) out1_6)))))) else (I64 ((c2_24.length : Int) - (1 : Int)) ∧ (0 ≤ ((c2_24.length : Int) - (1 : Int)) ∧ ((c2_24.length : Int) - (1 : Int)) < (c2_24.length : Int) ∧ (0 ≤ (ix c2_24 ((c2_24.length : Int) - (1 : Int))) ∧ (ix c2_24 ((c2_24.length : Int) - (1 : Int))) < (f.length : Int) ∧ (if (ix f (ix c2_24 ((c2_24.length : Int) - (1 : Int)))) = (k1_5 : Int) then (out1_6.length + ([c2_24]).length ≤ 1099511627776 ∧ (X1 (k1_5 + 1) (out1_6 ++ ([c2_24])))) else (X1 (k1_5 + 1) out1_6))))))
def ref11_Cycles_L1 (f : List Int) (K : List (List Int) → Prop) (X1 : Nat → List (List Int) → Prop) (k1_5 : Nat) (out1_6 : List (List Int)) : Prop :=
  (if (k1_5 : Int) < (f.length : Int) then (0 ≤ (k1_5 : Int) ∧ (k1_5 : Int) < (f.length : Int) ∧ (LoopWP (S := Int × List Int) (fun s X => ref11_Cycles_L2 f k1_5 out1_6 X1 K (fun x2_23 c2_24 => X (x2_23, c2_24)) s.1 s.2) ((ix f (k1_5 : Int)), [(k1_5 : Int)]))) else (K out1_6))
def ref11_Cycles (f : List Int) (K : List (List Int) → Prop) : Prop :=
  (f.length ≤ mx → (LoopWP (S := Nat × List (List Int)) (fun s X => ref11_Cycles_L1 f K (fun k1_5 out1_6 => X (k1_5, out1_6)) s.1 s.2) (0, ([] : List (List Int)))))
/- semigroup/semigroupref11.Powers -/
def ref11_Powers_L2 (l1_9 : List (List Int)) (X1 : List (List Int) → Prop) (r22 : List Int) (K : List (List Int) → Int → Prop) (X2 : Nat → Prop) (k2_28 : Nat) : Prop :=
  (if (k2_28 : Int) < (l1_9.length : Int) then (0 ≤ (k2_28 : Int) ∧ (k2_28 : Int) < (l1_9.length : Int) ∧ (ref03_Same (ix l1_9 (k2_28 : Int)) r22 fun r36 => (if r36 = true then (K l1_9 ((k2_28 : Int))) else (X2 (k2_28 + 1))))) else (l1_9.length + ([r22]).length ≤ 1099511627776 ∧ (X1 (l1_9 ++ ([r22])))))
def ref11_Powers_L1 (f : List Int) (K : List (List Int) → Int → Prop) (X1 : List (List Int) → Prop) (l1_9 : List (List Int)) : Prop :=
  (I64 ((l1_9.length : Int) - (1 : Int)) ∧ (0 ≤ ((l1_9.length : Int) - (1 : Int)) ∧ ((l1_9.length : Int) - (1 : Int)) < (l1_9.length : Int) ∧ (ref11_Compose (ix l1_9 ((l1_9.length : Int) - (1 : Int))) f fun r22 => (LoopWP (S := Nat) (fun s X => ref11_Powers_L2 l1_9 X1 r22 K X s) 0))))
def ref11_Powers (f : List Int) (K : List (List Int) → Int → Prop) : Prop :=
  (LoopWP (S := List (List Int)) (fun s X => ref11_Powers_L1 f K X s) ([f]))
/- semigroup/semigroupref11.IndexPeriod -/
def ref11_IndexPeriod (f : List Int) (K : Int → Int → Prop) : Prop :=
  (ref11_Powers f fun r1 r2 => (I64 (r2 + (1 : Int)) ∧ (r1.length ≤ mx → (I64 ((r1.length : Int) - r2) ∧ (K ((r2 + (1 : Int))) (((r1.length : Int) - r2)))))))
/- semigroup/semigroupref11.Omega -/
def ref11_Omega_L1 (r1 : List (List Int)) (K : List Int → Prop) (X1 : Nat → Prop) (k1_8 : Nat) : Prop :=
  (if (k1_8 : Int) < (r1.length : Int) then (0 ≤ (k1_8 : Int) ∧ (k1_8 : Int) < (r1.length : Int) ∧ (ref11_Compose (ix r1 (k1_8 : Int)) (ix r1 (k1_8 : Int)) fun r16 => (ref03_Same r16 (ix r1 (k1_8 : Int)) fun r21 => (if r21 = true then (K (ix r1 (k1_8 : Int))) else (X1 (k1_8 + 1)))))) else (K (([] : List Int))))
def ref11_Omega (f : List Int) (K : List Int → Prop) : Prop :=
  (ref11_Powers f fun r1 r2 => (r1.length ≤ mx → (LoopWP (S := Nat) (fun s X => ref11_Omega_L1 r1 K X s) 0)))
/- semigroup/semigrouplaw11.TransCycles -/
def law11_TransCycles (Listappend : List Int) (K : Bool → Prop) : Prop :=
  (trans_IndexPeriod Listappend fun r1 r2 => (trans_Omega Listappend fun r7 => (trans_Cycles Listappend fun r12 => (ref11_Valid Listappend fun r17 => (if r17 = true then (Listappend.length ≤ mx → (if (16 : Int) < (Listappend.length : Int) then (ref11_Cycles Listappend fun r32 => (ref03_SameRows r12 r32 fun r37 => (if r37 = true then (law11_awake  fun r42 => (K r42)) else (K false)))) else (ref11_IndexPeriod Listappend fun r47 r48 => (if r1 = r47 then (if r2 = r48 then (ref11_Omega Listappend fun r55 => (ref03_Same r7 r55 fun r60 => (if r60 = true then (ref11_Cycles Listappend fun r65 => (ref03_SameRows r12 r65 fun r70 => (if r70 = true then (law11_awake  fun r75 => (K r75)) else (K false)))) else (K false)))) else (K false)) else (K false))))) else (if r1 = (0 : Int) then (if r2 = (0 : Int) then (r7.length ≤ mx → (if (r7.length : Int) = (0 : Int) then (r12.length ≤ mx → (if (r12.length : Int) = (0 : Int) then (law11_awake  fun r26 => (K r26)) else (K false))) else (K false))) else (K false)) else (K false)))))))
/- semigroup/semigrouplaw11.TransRepeats -/
def law11_TransRepeats_L2 (r62 : List (List Int)) (k1_68 : Int) (k1_69 : Nat) (X1 : Int → Nat → Prop) (K : Bool → Prop) (X2 : Int → Prop) (k2_80 : Int) : Prop :=
  (((ix r62 (k1_69 : Int)).length : Int) ≠ 0 ∧ (if (k2_80.tmod ((ix r62 (k1_69 : Int)).length : Int)) = (0 : Int) then (X1 k2_80 (k1_69 + 1)) else (I64 (k2_80 + k1_68) ∧ (X2 ((k2_80 + k1_68))))))
def law11_TransRepeats_L1 (Listappend : List Int) (r18 : Int) (r62 : List (List Int)) (K : Bool → Prop) (X1 : Int → Nat → Prop) (k1_68 : Int) (k1_69 : Nat) : Prop :=
  (if (k1_69 : Int) < (r62.length : Int) then (0 ≤ (k1_69 : Int) ∧ (k1_69 : Int) < (r62.length : Int) ∧ ((ix r62 (k1_69 : Int)).length ≤ mx → (if ((ix r62 (k1_69 : Int)).length : Int) < (1 : Int) then (K false) else (if (Listappend.length : Int) < ((ix r62 (k1_69 : Int)).length : Int) then (K false) else (LoopWP (S := Int) (fun s X => law11_TransRepeats_L2 r62 k1_68 k1_69 X1 K X s) k1_68))))) else (trans_Omega Listappend fun r84 => (if r18 = k1_68 then (trans_Compose r84 r84 fun r90 => (ref03_Same r90 r84 fun r95 => (if r95 = true then (trans_Compose r84 Listappend fun r100 => (trans_Compose Listappend r84 fun r105 => (ref03_Same r100 r105 fun r110 => (if r110 = true then (law11_awake  fun r115 => (K r115)) else (K false))))) else (K false)))) else (K false))))
def law11_TransRepeats_L4 (r120 : List (List Int)) (k3_126 : Int) (k3_127 : Nat) (X3 : Int → Nat → Prop) (K : Bool → Prop) (X4 : Int → Prop) (k4_138 : Int) : Prop :=
  (((ix r120 (k3_127 : Int)).length : Int) ≠ 0 ∧ (if (k4_138.tmod ((ix r120 (k3_127 : Int)).length : Int)) = (0 : Int) then (X3 k4_138 (k3_127 + 1)) else (I64 (k4_138 + k3_126) ∧ (X4 ((k4_138 + k3_126))))))
def law11_TransRepeats_L3 (Listappend : List Int) (r18 : Int) (r120 : List (List Int)) (K : Bool → Prop) (X3 : Int → Nat → Prop) (k3_126 : Int) (k3_127 : Nat) : Prop :=
  (if (k3_127 : Int) < (r120.length : Int) then (0 ≤ (k3_127 : Int) ∧ (k3_127 : Int) < (r120.length : Int) ∧ ((ix r120 (k3_127 : Int)).length ≤ mx → (if ((ix r120 (k3_127 : Int)).length : Int) < (1 : Int) then (K false) else (if (Listappend.length : Int) < ((ix r120 (k3_127 : Int)).length : Int) then (K false) else (LoopWP (S := Int) (fun s X => law11_TransRepeats_L4 r120 k3_126 k3_127 X3 K X s) k3_126))))) else (trans_Omega Listappend fun r142 => (if r18 = k3_126 then (trans_Compose r142 r142 fun r148 => (ref03_Same r148 r142 fun r153 => (if r153 = true then (trans_Compose r142 Listappend fun r158 => (trans_Compose Listappend r142 fun r163 => (ref03_Same r158 r163 fun r168 => (if r168 = true then (law11_awake  fun r173 => (K r173)) else (K false))))) else (K false)))) else (K false))))
def law11_TransRepeats (Listappend : List Int) (String : Int) (K : Bool → Prop) : Prop :=
  (ref11_Valid Listappend fun r1 => (if r1 = true then (Listappend.length ≤ mx → (if (16 : Int) < (Listappend.length : Int) then (law11_awake  fun r12 => (K r12)) else (trans_IndexPeriod Listappend fun r17 r18 => (if r17 < (1 : Int) then (K false) else (if r18 < (1 : Int) then (K false) else (I64 (r17 + (IntKind.i64.wrap String)) ∧ (trans_Power Listappend ((r17 + (IntKind.i64.wrap String))) fun r26 => (I64 (r17 + (IntKind.i64.wrap String)) ∧ (I64 ((r17 + (IntKind.i64.wrap String)) + r18) ∧ (trans_Power Listappend (((r17 + (IntKind.i64.wrap String)) + r18)) fun r33 => (ref03_Same r26 r33 fun r38 => (if r38 = true then (if (1 : Int) < r17 then (I64 (r17 - (1 : Int)) ∧ (trans_Power Listappend ((r17 - (1 : Int))) fun r45 => (I64 (r17 - (1 : Int)) ∧ (I64 ((r17 - (1 : Int)) + r18) ∧ (trans_Power Listappend (((r17 - (1 : Int)) + r18)) fun r52 => (ref03_Same r45 r52 fun r57 => (if r57 = true then (K false) else (trans_Cycles Listappend fun r62 => (r62.length ≤ mx → (LoopWP (S := Int × Nat) (fun s X => law11_TransRepeats_L1 Listappend r18 r62 K (fun k1_68 k1_69 => X (k1_68, k1_69)) s.1 s.2) ((1 : Int), 0))))))))))) else (trans_Cycles Listappend fun r120 => (r120.length ≤ mx → (LoopWP (S := Int × Nat) (fun s X => law11_TransRepeats_L3 Listappend r18 r120 K (fun k3_126 k3_127 => X (k3_126, k3_127)) s.1 s.2) ((1 : Int), 0))))) else (K false))))))))))))) else (law11_awake  fun r6 => (K r6))))
/- semigroup/dfa.Run -/
def dfa_Run_L1 (d : DFA) (w_ : Str) (K : Int → Prop) (X1 : Int → Nat → Prop) (state1_21 : Int) (k1_22 : Nat) : Prop :=
  (if (k1_22 : Int) < (w_.length : Int) then (0 ≤ state1_21 ∧ state1_21 < (d.Next.length : Int) ∧ (0 ≤ (k1_22 : Int) ∧ (k1_22 : Int) < (w_.length : Int) ∧ (0 ≤ (IntKind.u8.wrap (((ix w_ (k1_22 : Int)).toNat : Int) - (97 : Int))) ∧ (IntKind.u8.wrap (((ix w_ (k1_22 : Int)).toNat : Int) - (97 : Int))) < ((ix d.Next state1_21).length : Int) ∧ (X1 ((ix (ix d.Next state1_21) (IntKind.u8.wrap (((ix w_ (k1_22 : Int)).toNat : Int) - (97 : Int))))) (k1_22 + 1))))) else (K state1_21))
def dfa_Run (d : DFA) (state : Int) (w_ : Str) (K : Int → Prop) : Prop :=
  (dfa_Validate d fun r7 => (if r7 = (0 : Int) then (if state < (0 : Int) then (K ((-1 : Int))) else (d.Final.length ≤ mx → (if (d.Final.length : Int) ≤ state then (K ((-1 : Int))) else (word_Valid w_ d.Letters fun r15 => (if r15 = true then (w_.length ≤ mx → (LoopWP (S := Int × Nat) (fun s X => dfa_Run_L1 d w_ K (fun state1_21 k1_22 => X (state1_21, k1_22)) s.1 s.2) (state, 0))) else (K ((-1 : Int)))))))) else (K ((-1 : Int)))))
/- semigroup/semigroupref03.Set -/
def ref03_Set_L1 (l : List Int) (n : Int) (K : List Bool → Prop) (X1 : Nat → List Bool → Prop) (k1_12 : Nat) (out1_13 : List Bool) : Prop :=
  (if (k1_12 : Int) < (l.length : Int) then (0 ≤ (k1_12 : Int) ∧ (k1_12 : Int) < (l.length : Int) ∧ (if (0 : Int) ≤ (ix l (k1_12 : Int)) then (if (ix l (k1_12 : Int)) < n then (0 ≤ (ix l (k1_12 : Int)) ∧ (ix l (k1_12 : Int)) < (out1_13.length : Int) ∧ (X1 (k1_12 + 1) (st out1_13 (ix l (k1_12 : Int)) true))) else (X1 (k1_12 + 1) out1_13)) else (X1 (k1_12 + 1) out1_13))) else (K out1_13))
def ref03_Set (l : List Int) (n : Int) (K : List Bool → Prop) : Prop :=
  (0 ≤ n ∧ n ≤ 1099511627776 ∧ (l.length ≤ mx → (LoopWP (S := Nat × List Bool) (fun s X => ref03_Set_L1 l n K (fun k1_12 out1_13 => X (k1_12, out1_13)) s.1 s.2) (0, List.replicate n.toNat false))))
/- semigroup/semigroupref03.Members -/
def ref03_Members_L1 (set_ : List Bool) (K : List Int → Prop) (X1 : Nat → List Int → Prop) (k1_5 : Nat) (l1_6 : List Int) : Prop :=
  (if (k1_5 : Int) < (set_.length : Int) then (0 ≤ (k1_5 : Int) ∧ (k1_5 : Int) < (set_.length : Int) ∧ (if ix set_ (k1_5 : Int) = true then (l1_6.length + ([(k1_5 : Int)]).length ≤ 1099511627776 ∧ (X1 (k1_5 + 1) (l1_6 ++ ([(k1_5 : Int)])))) else (X1 (k1_5 + 1) l1_6))) else (K l1_6))
def ref03_Members (set_ : List Bool) (K : List Int → Prop) : Prop :=
  (set_.length ≤ mx → (LoopWP (S := Nat × List Int) (fun s X => ref03_Members_L1 set_ K (fun k1_5 l1_6 => X (k1_5, l1_6)) s.1 s.2) (0, ([] : List Int))))
/- semigroup/semigroupref11.Image -/
def ref11_Image (f : List Int) (K : List Int → Prop) : Prop :=
  (f.length ≤ mx → (ref03_Set f ((f.length : Int)) fun r1 => (ref03_Members r1 fun r6 => (K r6))))
/- semigroup/semigroupref11.IsPermutation -/
def ref11_IsPermutation (f : List Int) (K : Bool → Prop) : Prop :=
  (ref11_Valid f fun r1 => (if r1 = true then (ref11_Image f fun r6 => (r6.length ≤ mx → (f.length ≤ mx → (if (r6.length : Int) = (f.length : Int) then (K true) else (K false))))) else (K false)))
/- semigroup/semigroupref11.Inverse -/
def ref11_Inverse_L1 (f : List Int) (K : List Int → Prop) (X1 : Nat → List Int → Prop) (k1_12 : Nat) (out1_13 : List Int) : Prop :=
  (if (k1_12 : Int) < (f.length : Int) then (0 ≤ (k1_12 : Int) ∧ (k1_12 : Int) < (f.length : Int) ∧ (0 ≤ (ix f (k1_12 : Int)) ∧ (ix f (k1_12 : Int)) < (out1_13.length : Int) ∧ (X1 (k1_12 + 1) (st out1_13 (ix f (k1_12 : Int)) (k1_12 : Int))))) else (K out1_13))
def ref11_Inverse (f : List Int) (K : List Int → Prop) : Prop :=
  (f.length ≤ mx → (0 ≤ (f.length : Int) ∧ (f.length : Int) ≤ 1099511627776 ∧ (LoopWP (S := Nat × List Int) (fun s X => ref11_Inverse_L1 f K (fun k1_12 out1_13 => X (k1_12, out1_13)) s.1 s.2) (0, List.replicate f.length ((0 : Int))))))
/- semigroup/semigroupref03.Count -/
def ref03_Count_L1 (p : List Int) (K : Int → Prop) (X1 : Int → Nat → Prop) (n1_2 : Int) (k1_3 : Nat) : Prop :=
  (if (k1_3 : Int) < (p.length : Int) then (0 ≤ (k1_3 : Int) ∧ (k1_3 : Int) < (p.length : Int) ∧ (I64 ((ix p (k1_3 : Int)) + (1 : Int)) ∧ (if n1_2 < ((ix p (k1_3 : Int)) + (1 : Int)) then (X1 (((ix p (k1_3 : Int)) + (1 : Int))) (k1_3 + 1)) else (X1 n1_2 (k1_3 + 1))))) else (K n1_2))
def ref03_Count (p : List Int) (K : Int → Prop) : Prop :=
  (p.length ≤ mx → (LoopWP (S := Int × Nat) (fun s X => ref03_Count_L1 p K (fun n1_2 k1_3 => X (n1_2, k1_3)) s.1 s.2) ((0 : Int), 0)))
end Sg
