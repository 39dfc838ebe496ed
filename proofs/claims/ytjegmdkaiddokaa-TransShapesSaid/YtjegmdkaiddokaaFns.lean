/- What functions compute, as plain transformers, read off their operations by walkgen.py. -/
import Derived.Test.YtjegmdkaiddokaaPMap
namespace Sg
open Go
set_option linter.unusedVariables false
structure DFA where
  Letters : Int
  Start : Int
  Final : List Bool
  Next : List (List Int)
/- semigroup/trans.Valid -/
def trans_Valid_L1 (f : List Int) (K : Bool → Prop) (X1 : Nat → Prop) (k1_4 : Nat) : Prop :=
  (if (k1_4 : Int) < (f.length : Int) then (0 ≤ (k1_4 : Int) ∧ (k1_4 : Int) < (f.length : Int) ∧ (if (ix f (k1_4 : Int)) < (0 : Int) then (K false) else (if (f.length : Int) ≤ (ix f (k1_4 : Int)) then (K false) else (X1 (k1_4 + 1))))) else (K true))
def trans_Valid (f : List Int) (K : Bool → Prop) : Prop :=
  (f.length ≤ mx → (if (f.length : Int) < (1 : Int) then (K false) else (if (32 : Int) < (f.length : Int) then (K false) else (LoopWP (S := Nat) (fun s X => trans_Valid_L1 f K X s) 0))))
/- semigroup/trans.Compose -/
def trans_Compose_L1 (f : List Int) (g : List Int) (K : List Int → Prop) (X1 : Nat → List Int → Prop) (k1_25 : Nat) (h1_26 : List Int) : Prop :=
  (if (k1_25 : Int) < (f.length : Int) then (0 ≤ (k1_25 : Int) ∧ (k1_25 : Int) < (f.length : Int) ∧ (0 ≤ (ix f (k1_25 : Int)) ∧ (ix f (k1_25 : Int)) < (g.length : Int) ∧ (0 ≤ (k1_25 : Int) ∧ (k1_25 : Int) < (h1_26.length : Int) ∧ (X1 (k1_25 + 1) (st h1_26 (k1_25 : Int) (ix g (ix f (k1_25 : Int)))))))) else (K h1_26))
def trans_Compose (f : List Int) (g : List Int) (K : List Int → Prop) : Prop :=
  (f.length ≤ mx → (g.length ≤ mx → (if (f.length : Int) = (g.length : Int) then (trans_Valid f fun r2 => (if r2 = true then (trans_Valid g fun r8 => (if r8 = true then (0 ≤ (f.length : Int) ∧ (f.length : Int) ≤ 1099511627776 ∧ (LoopWP (S := Nat × List Int) (fun s X => trans_Compose_L1 f g K (fun k1_25 h1_26 => X (k1_25, h1_26)) s.1 s.2) (0, List.replicate f.length ((0 : Int))))) else (K (([] : List Int))))) else (K (([] : List Int))))) else (K (([] : List Int))))))
/- semigroup/semigroupref11.Valid -/
def ref11_Valid_L1 (f : List Int) (K : Bool → Prop) (X1 : Nat → Prop) (k1_4 : Nat) : Prop :=
  (if (k1_4 : Int) < (f.length : Int) then (0 ≤ (k1_4 : Int) ∧ (k1_4 : Int) < (f.length : Int) ∧ (if (ix f (k1_4 : Int)) < (0 : Int) then (K false) else (if (f.length : Int) ≤ (ix f (k1_4 : Int)) then (K false) else (X1 (k1_4 + 1))))) else (K true))
def ref11_Valid (f : List Int) (K : Bool → Prop) : Prop :=
  (f.length ≤ mx → (if (f.length : Int) < (1 : Int) then (K false) else (if (32 : Int) < (f.length : Int) then (K false) else (LoopWP (S := Nat) (fun s X => ref11_Valid_L1 f K X s) 0))))
/- semigroup/semigrouplaw11.pair -/
def law11_pair (f : List Int) (g : List Int) (K : Bool → Prop) : Prop :=
  (ref11_Valid f fun r1 => (if r1 = true then (ref11_Valid g fun r7 => (if r7 = true then (f.length ≤ mx → (g.length ≤ mx → (if (f.length : Int) = (g.length : Int) then (K true) else (K false)))) else (K false))) else (K false)))
/- semigroup/semigroupref03.Same -/
def ref03_Same_L1 (a : List Int) (b : List Int) (K : Bool → Prop) (X1 : Nat → Prop) (k1_3 : Nat) : Prop :=
  (if (k1_3 : Int) < (a.length : Int) then (0 ≤ (k1_3 : Int) ∧ (k1_3 : Int) < (a.length : Int) ∧ (0 ≤ (k1_3 : Int) ∧ (k1_3 : Int) < (b.length : Int) ∧ (if (ix a (k1_3 : Int)) = (ix b (k1_3 : Int)) then (X1 (k1_3 + 1)) else (K false)))) else (K true))
def ref03_Same (a : List Int) (b : List Int) (K : Bool → Prop) : Prop :=
  (a.length ≤ mx → (b.length ≤ mx → (if (a.length : Int) = (b.length : Int) then (LoopWP (S := Nat) (fun s X => ref03_Same_L1 a b K X s) 0) else (K false))))
/- semigroup/semigrouplaw11.awake -/
def law11_awake (K : Bool → Prop) : Prop :=
  (trans_Compose ([(1 : Int), (2 : Int), (0 : Int)]) ([(0 : Int), (0 : Int), (2 : Int)]) fun r21 => (ref03_Same r21 ([(0 : Int), (2 : Int), (0 : Int)]) fun r37 => (K r37)))
/- semigroup/semigroupref11.Compose -/
def ref11_Compose_L1 (f : List Int) (g : List Int) (K : List Int → Prop) (X1 : Nat → List Int → Prop) (k1_12 : Nat) (out1_13 : List Int) : Prop :=
  (if (k1_12 : Int) < (f.length : Int) then (0 ≤ (k1_12 : Int) ∧ (k1_12 : Int) < (f.length : Int) ∧ (0 ≤ (ix f (k1_12 : Int)) ∧ (ix f (k1_12 : Int)) < (g.length : Int) ∧ (0 ≤ (k1_12 : Int) ∧ (k1_12 : Int) < (out1_13.length : Int) ∧ (X1 (k1_12 + 1) (st out1_13 (k1_12 : Int) (ix g (ix f (k1_12 : Int)))))))) else (K out1_13))
def ref11_Compose (f : List Int) (g : List Int) (K : List Int → Prop) : Prop :=
  (f.length ≤ mx → (0 ≤ (f.length : Int) ∧ (f.length : Int) ≤ 1099511627776 ∧ (LoopWP (S := Nat × List Int) (fun s X => ref11_Compose_L1 f g K (fun k1_12 out1_13 => X (k1_12, out1_13)) s.1 s.2) (0, List.replicate f.length ((0 : Int))))))
/- semigroup/semigrouplaw11.TransComposes -/
def law11_TransComposes (f : List Int) (g : List Int) (K : Bool → Prop) : Prop :=
  (trans_Compose f g fun r1 => (law11_pair f g fun r7 => (if r7 = true then (ref11_Compose f g fun r20 => (ref03_Same r1 r20 fun r26 => (if r26 = true then (law11_awake  fun r32 => (K r32)) else (K false)))) else (r1.length ≤ mx → (if (r1.length : Int) = (0 : Int) then (law11_awake  fun r14 => (K r14)) else (K false))))))
/- semigroup/trans.Identity -/
def trans_Identity_L1 (n : Int) (K : List Int → Prop) (X1 : Nat → List Int → Prop) (k1_14 : Nat) (f1_15 : List Int) : Prop :=
  (if (k1_14 : Int) < ((List.replicate n.toNat ((0 : Int))).length : Int) then (0 ≤ (k1_14 : Int) ∧ (k1_14 : Int) < (f1_15.length : Int) ∧ (I64 ((k1_14 : Int) + (1 : Int)) ∧ (X1 (k1_14 + 1) (st f1_15 (k1_14 : Int) (k1_14 : Int))))) else (K f1_15))
def trans_Identity (n : Int) (K : List Int → Prop) : Prop :=
  (if n < (1 : Int) then (K (([] : List Int))) else (if (32 : Int) < n then (K (([] : List Int))) else (0 ≤ n ∧ n ≤ 1099511627776 ∧ (LoopWP (S := Nat × List Int) (fun s X => trans_Identity_L1 n K (fun k1_14 f1_15 => X (k1_14, f1_15)) s.1 s.2) (0, List.replicate n.toNat ((0 : Int)))))))
/- semigroup/semigroupref03.Discrete -/
def ref03_Discrete_L1 (n : Int) (K : List Int → Prop) (X1 : Nat → List Int → Prop) (k1_12 : Nat) (p1_13 : List Int) : Prop :=
  (if (k1_12 : Int) < ((List.replicate n.toNat ((0 : Int))).length : Int) then (0 ≤ (k1_12 : Int) ∧ (k1_12 : Int) < (p1_13.length : Int) ∧ (I64 ((k1_12 : Int) + (1 : Int)) ∧ (X1 (k1_12 + 1) (st p1_13 (k1_12 : Int) (k1_12 : Int))))) else (K p1_13))
def ref03_Discrete (n : Int) (K : List Int → Prop) : Prop :=
  (0 ≤ n ∧ n ≤ 1099511627776 ∧ (LoopWP (S := Nat × List Int) (fun s X => ref03_Discrete_L1 n K (fun k1_12 p1_13 => X (k1_12, p1_13)) s.1 s.2) (0, List.replicate n.toNat ((0 : Int)))))
/- semigroup/semigrouplaw11.TransValid -/
def law11_TransValid (f : List Int) (n : Int) (K : Bool → Prop) : Prop :=
  (trans_Identity n fun r1 => (if n < (1 : Int) then (trans_Valid f fun r8 => (ref11_Valid f fun r14 => (if r8 = true then (if r14 = true then (r1.length ≤ mx → (if (r1.length : Int) = (0 : Int) then (law11_awake  fun r28 => (K r28)) else (K false))) else (K false)) else (if r14 = true then (K false) else (r1.length ≤ mx → (if (r1.length : Int) = (0 : Int) then (law11_awake  fun r21 => (K r21)) else (K false))))))) else (if (32 : Int) < n then (trans_Valid f fun r35 => (ref11_Valid f fun r41 => (if r35 = true then (if r41 = true then (r1.length ≤ mx → (if (r1.length : Int) = (0 : Int) then (law11_awake  fun r55 => (K r55)) else (K false))) else (K false)) else (if r41 = true then (K false) else (r1.length ≤ mx → (if (r1.length : Int) = (0 : Int) then (law11_awake  fun r48 => (K r48)) else (K false))))))) else (trans_Valid f fun r61 => (ref11_Valid f fun r67 => (if r61 = true then (if r67 = true then (ref03_Discrete n fun r91 => (ref03_Same r1 r91 fun r97 => (if r97 = true then (law11_awake  fun r103 => (K r103)) else (K false)))) else (K false)) else (if r67 = true then (K false) else (ref03_Discrete n fun r73 => (ref03_Same r1 r73 fun r79 => (if r79 = true then (law11_awake  fun r85 => (K r85)) else (K false)))))))))))
/- semigroup/trans.Apply -/
def trans_Apply_L1 (f : List Int) (set_ : Int) (K : Int → Prop) (X1 : Int → Nat → Prop) (image1_8 : Int) (k1_9 : Nat) : Prop :=
  (if (k1_9 : Int) < (f.length : Int) then (0 ≤ (k1_9 : Int) ∧ (k1_9 : Int) < (f.length : Int) ∧ ((0 ≤ (ix f (k1_9 : Int)) ∧ (X1 ((bits .or .u64 image1_8 (shlK .u64 (bits .and .u64 (shrK .u64 set_ (k1_9 : Int)) (1 : Int)) (ix f (k1_9 : Int))))) (k1_9 + 1))))) else (K image1_8))
def trans_Apply (f : List Int) (set_ : Int) (K : Int → Prop) : Prop :=
  (trans_Valid f fun r1 => (if r1 = true then (f.length ≤ mx → (LoopWP (S := Int × Nat) (fun s X => trans_Apply_L1 f set_ K (fun image1_8 k1_9 => X (image1_8, k1_9)) s.1 s.2) ((0 : Int), 0))) else (K ((0 : Int)))))
/- semigroup/semigroupref02.Has -/
def ref02_Has (set_ : Int) (j : Int) (K : Bool → Prop) : Prop :=
  (0 ≤ (IntKind.u64.wrap j) ∧ (if (bits .and .u64 (shrK .u64 set_ (IntKind.u64.wrap j)) (1 : Int)) = (1 : Int) then (K true) else (K false)))
/- semigroup/semigroupref02.Bit -/
def ref02_Bit (j : Int) (K : Int → Prop) : Prop :=
  (0 ≤ (IntKind.u64.wrap j) ∧ (K ((shlK .u64 (1 : Int) (IntKind.u64.wrap j)))))
/- semigroup/semigrouplaw11.TransApplies -/
def law11_TransApplies_L1 (f : List Int) (g : List Int) (set_ : Int) (r1 : Int) (K : Bool → Prop) (X1 : Int → Nat → Prop) (want1_21 : Int) (k1_22 : Nat) : Prop :=
  (if (k1_22 : Int) < (f.length : Int) then (0 ≤ (k1_22 : Int) ∧ (k1_22 : Int) < (f.length : Int) ∧ (ref02_Has set_ ((k1_22 : Int)) fun r26 => (if r26 = true then (ref02_Bit ((ix f (k1_22 : Int))) fun r32 => (X1 ((bits .or .u64 want1_21 r32)) (k1_22 + 1))) else (X1 want1_21 (k1_22 + 1))))) else (if r1 = want1_21 then (law11_pair f g fun r39 => (if r39 = true then (trans_Compose f g fun r51 => (trans_Apply r51 set_ fun r57 => (trans_Apply g r1 fun r63 => (if r57 = r63 then (law11_awake  fun r70 => (K r70)) else (K false))))) else (law11_awake  fun r45 => (K r45)))) else (K false)))
def law11_TransApplies (f : List Int) (g : List Int) (set_ : Int) (K : Bool → Prop) : Prop :=
  (trans_Apply f set_ fun r1 => (ref11_Valid f fun r7 => (if r7 = true then (f.length ≤ mx → (LoopWP (S := Int × Nat) (fun s X => law11_TransApplies_L1 f g set_ r1 K (fun want1_21 k1_22 => X (want1_21, k1_22)) s.1 s.2) ((0 : Int), 0))) else (if r1 = (0 : Int) then (law11_awake  fun r14 => (K r14)) else (K false)))))
/- semigroup/trans.Power -/
def trans_Power_L1 (K : List Int → Prop) (X1 : Int → List Int → List Int → Prop) (k1_15 : Int) (result1_16 : List Int) (square1_20 : List Int) : Prop :=
  (if (0 : Int) < k1_15 then (if (bits .and .i64 k1_15 (1 : Int)) = (1 : Int) then (trans_Compose result1_16 square1_20 fun r26 => (trans_Compose square1_20 square1_20 fun r32 => ((X1 ((shrK .i64 k1_15 (1 : Int))) r26 r32)))) else (trans_Compose square1_20 square1_20 fun r38 => ((X1 ((shrK .i64 k1_15 (1 : Int))) result1_16 r38)))) else (K result1_16))
def trans_Power (f : List Int) (k : Int) (K : List Int → Prop) : Prop :=
  (trans_Valid f fun r1 => (if r1 = true then (if k < (0 : Int) then (K (([] : List Int))) else (f.length ≤ mx → (trans_Identity ((f.length : Int)) fun r8 => (LoopWP (S := Int × List Int × List Int) (fun s X => trans_Power_L1  K (fun k1_15 result1_16 square1_20 => X (k1_15, result1_16, square1_20)) s.1 s.2.1 s.2.2) (k, r8, f))))) else (K (([] : List Int)))))
/- semigroup/semigroupref11.Power -/
def ref11_Power_L1 (K : List Int → Prop) (X1 : List Int → Int → List Int → Prop) (f1_8 : List Int) (k1_12 : Int) (out1_13 : List Int) : Prop :=
  (if (0 : Int) < k1_12 then ((if (k1_12.tmod (2 : Int)) = (1 : Int) then (ref11_Compose out1_13 f1_8 fun r19 => (ref11_Compose f1_8 f1_8 fun r25 => (I64 (k1_12.tdiv (2 : Int)) ∧ (X1 r25 ((k1_12.tdiv (2 : Int))) r19)))) else (ref11_Compose f1_8 f1_8 fun r32 => (I64 (k1_12.tdiv (2 : Int)) ∧ (X1 r32 ((k1_12.tdiv (2 : Int))) out1_13))))) else (K out1_13))
def ref11_Power (f : List Int) (k : Int) (K : List Int → Prop) : Prop :=
  (f.length ≤ mx → (ref03_Discrete ((f.length : Int)) fun r1 => (LoopWP (S := List Int × Int × List Int) (fun s X => ref11_Power_L1  K (fun f1_8 k1_12 out1_13 => X (f1_8, k1_12, out1_13)) s.1 s.2.1 s.2.2) (f, k, r1))))
/- semigroup/semigrouplaw11.TransPowers -/
def law11_TransPowers (f : List Int) (k : Int) (K : Bool → Prop) : Prop :=
  (trans_Power f k fun r1 => (ref11_Valid f fun r7 => (if r7 = true then (if k < (0 : Int) then (r1.length ≤ mx → (if (r1.length : Int) = (0 : Int) then (law11_awake  fun r22 => (K r22)) else (K false))) else (ref11_Power f k fun r28 => (ref03_Same r1 r28 fun r34 => (if r34 = true then (law11_awake  fun r40 => (K r40)) else (K false))))) else (r1.length ≤ mx → (if (r1.length : Int) = (0 : Int) then (law11_awake  fun r14 => (K r14)) else (K false))))))
/- semigroup/word.Valid -/
def word_Valid_L1 (w_ : Str) (letters : Int) (K : Bool → Prop) (X1 : Nat → Prop) (k1_5 : Nat) : Prop :=
  (if (k1_5 : Int) < (w_.length : Int) then (0 ≤ (k1_5 : Int) ∧ (k1_5 : Int) < (w_.length : Int) ∧ (if ((ix w_ (k1_5 : Int)).toNat : Int) < (97 : Int) then (K false) else (0 ≤ (k1_5 : Int) ∧ (k1_5 : Int) < (w_.length : Int) ∧ (if letters ≤ (IntKind.i64.wrap (IntKind.u8.wrap (((ix w_ (k1_5 : Int)).toNat : Int) - (97 : Int)))) then (K false) else (X1 (k1_5 + 1)))))) else (K true))
def word_Valid (w_ : Str) (letters : Int) (K : Bool → Prop) : Prop :=
  (if letters < (1 : Int) then (K false) else (if (6 : Int) < letters then (K false) else (w_.length ≤ mx → (if (2048 : Int) < (w_.length : Int) then (K false) else (LoopWP (S := Nat) (fun s X => word_Valid_L1 w_ letters K X s) 0)))))
/- semigroup/trans.OfWord -/
def trans_OfWord_L2 (gens : List (List Int)) (w_ : Str) (K : List Int → Prop) (X2 : List Int → Nat → Prop) (f2_49 : List Int) (i2_53 : Nat) : Prop :=
  (if (i2_53 : Int) < (w_.length : Int) then ((ix w_ (i2_53 : Int)).toNat < 128 ∧ (0 ≤ (IntKind.i32.wrap (((ix w_ (i2_53 : Int)).toNat : Int) - (97 : Int))) ∧ (IntKind.i32.wrap (((ix w_ (i2_53 : Int)).toNat : Int) - (97 : Int))) < (gens.length : Int) ∧ (trans_Compose f2_49 (ix gens (IntKind.i32.wrap (((ix w_ (i2_53 : Int)).toNat : Int) - (97 : Int)))) fun r65 => (X2 r65 (i2_53 + 1))))) else (K f2_49))
def trans_OfWord_L1 (gens : List (List Int)) (w_ : Str) (K : List Int → Prop) (X1 : Nat → Prop) (k1_9 : Nat) : Prop :=
  (if (k1_9 : Int) < (gens.length : Int) then (0 ≤ (k1_9 : Int) ∧ (k1_9 : Int) < (gens.length : Int) ∧ ((ix gens (k1_9 : Int)).length ≤ mx → (0 ≤ (0 : Int) ∧ (0 : Int) < (gens.length : Int) ∧ ((ix gens (0 : Int)).length ≤ mx → (if ((ix gens (k1_9 : Int)).length : Int) = ((ix gens (0 : Int)).length : Int) then (trans_Valid (ix gens (k1_9 : Int)) fun r24 => (if r24 = true then (X1 (k1_9 + 1)) else (K (([] : List Int))))) else (K (([] : List Int)))))))) else (0 ≤ (0 : Int) ∧ (0 : Int) < (gens.length : Int) ∧ ((ix gens (0 : Int)).length ≤ mx → (trans_Identity (((ix gens (0 : Int)).length : Int)) fun r36 => (LoopWP (S := List Int × Nat) (fun s X => trans_OfWord_L2 gens w_ K (fun f2_49 i2_53 => X (f2_49, i2_53)) s.1 s.2) (r36, 0))))))
def trans_OfWord (gens : List (List Int)) (w_ : Str) (K : List Int → Prop) : Prop :=
  (gens.length ≤ mx → (if (gens.length : Int) = (0 : Int) then (K (([] : List Int))) else (word_Valid w_ ((gens.length : Int)) fun r2 => (if r2 = true then (LoopWP (S := Nat) (fun s X => trans_OfWord_L1 gens w_ K X s) 0) else (K (([] : List Int)))))))
/- semigroup/semigroupref11.MayGens -/
def ref11_MayGens_L1 (gens : List (List Int)) (K : Bool → Prop) (X1 : Nat → Prop) (k1_4 : Nat) : Prop :=
  (if (k1_4 : Int) < (gens.length : Int) then (0 ≤ (k1_4 : Int) ∧ (k1_4 : Int) < (gens.length : Int) ∧ (ref11_Valid (ix gens (k1_4 : Int)) fun r12 => (if r12 = true then ((ix gens (k1_4 : Int)).length ≤ mx → (0 ≤ (0 : Int) ∧ (0 : Int) < (gens.length : Int) ∧ ((ix gens (0 : Int)).length ≤ mx → (if ((ix gens (k1_4 : Int)).length : Int) = ((ix gens (0 : Int)).length : Int) then (X1 (k1_4 + 1)) else (K false))))) else (K false)))) else (K true))
def ref11_MayGens (gens : List (List Int)) (K : Bool → Prop) : Prop :=
  (gens.length ≤ mx → (if (gens.length : Int) < (1 : Int) then (K false) else (if (6 : Int) < (gens.length : Int) then (K false) else (LoopWP (S := Nat) (fun s X => ref11_MayGens_L1 gens K X s) 0))))
/- semigroup/semigroupref01.MayLetters -/
def ref01_MayLetters (letters : Int) (K : Bool → Prop) : Prop :=
  (if (1 : Int) ≤ letters then (if letters ≤ (6 : Int) then (K true) else (K false)) else (K false))
/- semigroup/semigroupref01.Valid -/
def ref01_Valid_L1 (w_ : Str) (letters : Int) (K : Bool → Prop) (X1 : Nat → Prop) (i1_9 : Nat) : Prop :=
  (if (i1_9 : Int) < (w_.length : Int) then (0 ≤ (i1_9 : Int) ∧ (i1_9 : Int) < (w_.length : Int) ∧ (if ((ix w_ (i1_9 : Int)).toNat : Int) < (97 : Int) then (K false) else (0 ≤ (i1_9 : Int) ∧ (i1_9 : Int) < (w_.length : Int) ∧ (if letters ≤ (IntKind.i64.wrap (IntKind.u8.wrap (((ix w_ (i1_9 : Int)).toNat : Int) - (97 : Int)))) then (K false) else (X1 (i1_9 + 1)))))) else (K true))
def ref01_Valid (w_ : Str) (letters : Int) (K : Bool → Prop) : Prop :=
  (ref01_MayLetters letters fun r1 => (if r1 = true then (w_.length ≤ mx → (if (2048 : Int) < (w_.length : Int) then (K false) else (LoopWP (S := Nat) (fun s X => ref01_Valid_L1 w_ letters K X s) 0))) else (K false)))
/- semigroup/semigroupref11.OfWord -/
def ref11_OfWord_L1 (gens : List (List Int)) (w_ : Str) (K : List Int → Prop) (X1 : List Int → Nat → Prop) (out1_20 : List Int) (i1_24 : Nat) : Prop :=
  (w_.length ≤ mx → (if (i1_24 : Int) < (w_.length : Int) then (0 ≤ (i1_24 : Int) ∧ (i1_24 : Int) < (w_.length : Int) ∧ (0 ≤ (IntKind.i64.wrap (IntKind.u8.wrap (((ix w_ (i1_24 : Int)).toNat : Int) - (97 : Int)))) ∧ (IntKind.i64.wrap (IntKind.u8.wrap (((ix w_ (i1_24 : Int)).toNat : Int) - (97 : Int)))) < (gens.length : Int) ∧ (ref11_Compose out1_20 (ix gens (IntKind.i64.wrap (IntKind.u8.wrap (((ix w_ (i1_24 : Int)).toNat : Int) - (97 : Int))))) fun r34 => (X1 r34 (i1_24 + 1))))) else (K out1_20)))
def ref11_OfWord (gens : List (List Int)) (w_ : Str) (K : List Int → Prop) : Prop :=
  (gens.length ≤ mx → (ref01_Valid w_ ((gens.length : Int)) fun r1 => (if r1 = true then (0 ≤ (0 : Int) ∧ (0 : Int) < (gens.length : Int) ∧ ((ix gens (0 : Int)).length ≤ mx → (ref03_Discrete (((ix gens (0 : Int)).length : Int)) fun r13 => (LoopWP (S := List Int × Nat) (fun s X => ref11_OfWord_L1 gens w_ K (fun out1_20 i1_24 => X (out1_20, i1_24)) s.1 s.2) (r13, 0))))) else (K (([] : List Int))))))
/- semigroup/semigrouplaw11.TransWords -/
def law11_TransWords (gens : List (List Int)) (u : Str) (w_ : Str) (K : Bool → Prop) : Prop :=
  (trans_OfWord gens w_ fun r1 => (ref11_MayGens gens fun r7 => (if r7 = true then (gens.length ≤ mx → (ref01_Valid w_ ((gens.length : Int)) fun r20 => (if r20 = true then (ref11_OfWord gens w_ fun r33 => (ref03_Same r1 r33 fun r39 => (if r39 = true then (u.length + w_.length ≤ 9223372036854775807 ∧ (ref01_Valid (u ++ w_) ((gens.length : Int)) fun r46 => (if r46 = true then (u.length + w_.length ≤ 9223372036854775807 ∧ (trans_OfWord gens (u ++ w_) fun r59 => (trans_OfWord gens u fun r65 => (trans_Compose r65 r1 fun r71 => (ref03_Same r59 r71 fun r77 => (if r77 = true then (law11_awake  fun r83 => (K r83)) else (K false))))))) else (law11_awake  fun r52 => (K r52))))) else (K false)))) else (r1.length ≤ mx → (if (r1.length : Int) = (0 : Int) then (law11_awake  fun r27 => (K r27)) else (K false)))))) else (r1.length ≤ mx → (if (r1.length : Int) = (0 : Int) then (law11_awake  fun r14 => (K r14)) else (K false))))))
/- semigroup/dfa.Validate -/
def dfa_Validate_L2 (d : DFA) (k1_14 : Nat) (X1 : Nat → Prop) (K : Int → Prop) (X2 : Nat → Prop) (k2_24 : Nat) : Prop :=
  (if (k2_24 : Int) < ((ix d.Next (k1_14 : Int)).length : Int) then (0 ≤ (k2_24 : Int) ∧ (k2_24 : Int) < ((ix d.Next (k1_14 : Int)).length : Int) ∧ (if (ix (ix d.Next (k1_14 : Int)) (k2_24 : Int)) < (0 : Int) then (K ((4 : Int))) else (if (d.Final.length : Int) ≤ (ix (ix d.Next (k1_14 : Int)) (k2_24 : Int)) then (K ((4 : Int))) else (X2 (k2_24 + 1))))) else (X1 (k1_14 + 1)))
def dfa_Validate_L1 (d : DFA) (K : Int → Prop) (X1 : Nat → Prop) (k1_14 : Nat) : Prop :=
  (if (k1_14 : Int) < (d.Next.length : Int) then (0 ≤ (k1_14 : Int) ∧ (k1_14 : Int) < (d.Next.length : Int) ∧ ((ix d.Next (k1_14 : Int)).length ≤ mx → (if ((ix d.Next (k1_14 : Int)).length : Int) = d.Letters then (LoopWP (S := Nat) (fun s X => dfa_Validate_L2 d k1_14 X1 K X s) 0) else (K ((4 : Int)))))) else (K ((0 : Int))))
def dfa_Validate (d : DFA) (K : Int → Prop) : Prop :=
  (if d.Letters < (1 : Int) then (K ((1 : Int))) else (if (6 : Int) < d.Letters then (K ((1 : Int))) else (d.Final.length ≤ mx → (if (512 : Int) < (d.Final.length : Int) then (K ((3 : Int))) else (d.Next.length ≤ mx → (if (d.Next.length : Int) = (d.Final.length : Int) then (if d.Start < (0 : Int) then (K ((4 : Int))) else (if (d.Final.length : Int) ≤ d.Start then (K ((4 : Int))) else (LoopWP (S := Nat) (fun s X => dfa_Validate_L1 d K X s) 0))) else (K ((4 : Int)))))))))
/- semigroup/trans.OfDFA -/
def trans_OfDFA_L2 (d : DFA) (k1_26 : Nat) (X1 : Nat → List (List Int) → Prop) (K : List (List Int) → Int → Prop) (X2 : Nat → List (List Int) → Prop) (k2_51 : Nat) (gens2_52 : List (List Int)) : Prop :=
  (if (k2_51 : Int) < (d.Next.length : Int) then (0 ≤ (k2_51 : Int) ∧ (k2_51 : Int) < (d.Next.length : Int) ∧ (0 ≤ (k1_26 : Int) ∧ (k1_26 : Int) < (gens2_52.length : Int) ∧ (0 ≤ (k1_26 : Int) ∧ (k1_26 : Int) < ((ix d.Next (k2_51 : Int)).length : Int) ∧ (0 ≤ (k2_51 : Int) ∧ (k2_51 : Int) < ((ix gens2_52 (k1_26 : Int)).length : Int) ∧ (X2 (k2_51 + 1) (st gens2_52 (k1_26 : Int) (st (ix gens2_52 (k1_26 : Int)) (k2_51 : Int) (ix (ix d.Next (k2_51 : Int)) (k1_26 : Int))))))))) else (I64 ((k1_26 : Int) + (1 : Int)) ∧ (X1 (k1_26 + 1) gens2_52)))
def trans_OfDFA_L1 (d : DFA) (K : List (List Int) → Int → Prop) (X1 : Nat → List (List Int) → Prop) (k1_26 : Nat) (gens1_27 : List (List Int)) : Prop :=
  (if (k1_26 : Int) < ((List.replicate d.Letters.toNat ([] : List Int)).length : Int) then (d.Next.length ≤ mx → (0 ≤ (d.Next.length : Int) ∧ (d.Next.length : Int) ≤ 1099511627776 ∧ (0 ≤ (k1_26 : Int) ∧ (k1_26 : Int) < (gens1_27.length : Int) ∧ (LoopWP (S := Nat × List (List Int)) (fun s X => trans_OfDFA_L2 d k1_26 X1 K (fun k2_51 gens2_52 => X (k2_51, gens2_52)) s.1 s.2) (0, st gens1_27 (k1_26 : Int) (List.replicate d.Next.length ((0 : Int)))))))) else (K gens1_27 ((0 : Int))))
def trans_OfDFA (d : DFA) (K : List (List Int) → Int → Prop) : Prop :=
  (dfa_Validate d fun r7 => (if r7 = (0 : Int) then (d.Final.length ≤ mx → (if (32 : Int) < (d.Final.length : Int) then (K (([] : List (List Int))) ((3 : Int))) else (0 ≤ d.Letters ∧ d.Letters ≤ 1099511627776 ∧ (LoopWP (S := Nat × List (List Int)) (fun s X => trans_OfDFA_L1 d K (fun k1_26 gens1_27 => X (k1_26, gens1_27)) s.1 s.2) (0, List.replicate d.Letters.toNat ([] : List Int)))))) else (K (([] : List (List Int))) r7)))
/- semigroup/semigroupref07.Validate -/
def ref07_Validate_L2 (d : DFA) (k1_19 : Nat) (X1 : Nat → Prop) (K : Int → Prop) (X2 : Nat → Prop) (k2_29 : Nat) : Prop :=
  (if (k2_29 : Int) < ((ix d.Next (k1_19 : Int)).length : Int) then (0 ≤ (k2_29 : Int) ∧ (k2_29 : Int) < ((ix d.Next (k1_19 : Int)).length : Int) ∧ (if (ix (ix d.Next (k1_19 : Int)) (k2_29 : Int)) < (0 : Int) then (K ((4 : Int))) else (if (d.Final.length : Int) ≤ (ix (ix d.Next (k1_19 : Int)) (k2_29 : Int)) then (K ((4 : Int))) else (X2 (k2_29 + 1))))) else (X1 (k1_19 + 1)))
def ref07_Validate_L1 (d : DFA) (K : Int → Prop) (X1 : Nat → Prop) (k1_19 : Nat) : Prop :=
  (if (k1_19 : Int) < (d.Next.length : Int) then (0 ≤ (k1_19 : Int) ∧ (k1_19 : Int) < (d.Next.length : Int) ∧ ((ix d.Next (k1_19 : Int)).length ≤ mx → (if ((ix d.Next (k1_19 : Int)).length : Int) = d.Letters then (LoopWP (S := Nat) (fun s X => ref07_Validate_L2 d k1_19 X1 K X s) 0) else (K ((4 : Int)))))) else (K ((0 : Int))))
def ref07_Validate (d : DFA) (K : Int → Prop) : Prop :=
  (d.Final.length ≤ mx → (ref01_MayLetters d.Letters fun r7 => (if r7 = true then (if (512 : Int) < (d.Final.length : Int) then (K ((3 : Int))) else (if (d.Final.length : Int) = (0 : Int) then (K ((4 : Int))) else (d.Next.length ≤ mx → (if (d.Next.length : Int) = (d.Final.length : Int) then (if d.Start < (0 : Int) then (K ((4 : Int))) else (if (d.Final.length : Int) ≤ d.Start then (K ((4 : Int))) else (LoopWP (S := Nat) (fun s X => ref07_Validate_L1 d K X s) 0))) else (K ((4 : Int))))))) else (K ((1 : Int))))))
/- semigroup/semigroupref11.OfDFA -/
def ref11_OfDFA_L2 (d : DFA) (x1_11 : Nat) (out1_12 : List (List Int)) (X1 : Nat → List (List Int) → Prop) (K : List (List Int) → Prop) (X2 : Nat → List Int → Prop) (k2_23 : Nat) (f2_24 : List Int) : Prop :=
  (if (k2_23 : Int) < (d.Next.length : Int) then (0 ≤ (k2_23 : Int) ∧ (k2_23 : Int) < (d.Next.length : Int) ∧ (0 ≤ (x1_11 : Int) ∧ (x1_11 : Int) < ((ix d.Next (k2_23 : Int)).length : Int) ∧ (f2_24.length + ([(ix (ix d.Next (k2_23 : Int)) (x1_11 : Int))]).length ≤ 1099511627776 ∧ (X2 (k2_23 + 1) (f2_24 ++ ([(ix (ix d.Next (k2_23 : Int)) (x1_11 : Int))])))))) else (out1_12.length + ([f2_24]).length ≤ 1099511627776 ∧ (I64 ((x1_11 : Int) + (1 : Int)) ∧ (X1 (x1_11 + 1) (out1_12 ++ ([f2_24]))))))
def ref11_OfDFA_L1 (d : DFA) (K : List (List Int) → Prop) (X1 : Nat → List (List Int) → Prop) (x1_11 : Nat) (out1_12 : List (List Int)) : Prop :=
  (if (x1_11 : Int) < d.Letters then (d.Next.length ≤ mx → (LoopWP (S := Nat × List Int) (fun s X => ref11_OfDFA_L2 d x1_11 out1_12 X1 K (fun k2_23 f2_24 => X (k2_23, f2_24)) s.1 s.2) (0, ([] : List Int)))) else (K out1_12))
def ref11_OfDFA (d : DFA) (K : List (List Int) → Prop) : Prop :=
  (LoopWP (S := Nat × List (List Int)) (fun s X => ref11_OfDFA_L1 d K (fun x1_11 out1_12 => X (x1_11, out1_12)) s.1 s.2) (0, ([] : List (List Int))))
/- semigroup/semigroupref03.SameRows -/
def ref03_SameRows_L1 (a : List (List Int)) (b : List (List Int)) (K : Bool → Prop) (X1 : Nat → Prop) (k1_3 : Nat) : Prop :=
  (if (k1_3 : Int) < (a.length : Int) then (0 ≤ (k1_3 : Int) ∧ (k1_3 : Int) < (a.length : Int) ∧ (0 ≤ (k1_3 : Int) ∧ (k1_3 : Int) < (b.length : Int) ∧ (ref03_Same (ix a (k1_3 : Int)) (ix b (k1_3 : Int)) fun r20 => (if r20 = true then (X1 (k1_3 + 1)) else (K false))))) else (K true))
def ref03_SameRows (a : List (List Int)) (b : List (List Int)) (K : Bool → Prop) : Prop :=
  (a.length ≤ mx → (b.length ≤ mx → (if (a.length : Int) = (b.length : Int) then (LoopWP (S := Nat) (fun s X => ref03_SameRows_L1 a b K X s) 0) else (K false))))
/- semigroup/semigrouplaw11.TransLetters -/
def law11_TransLetters (d : DFA) (K : Bool → Prop) : Prop :=
  (trans_OfDFA d fun r7 r8 => (ref07_Validate d fun r14 => (if r14 = (0 : Int) then (d.Final.length ≤ mx → (if (32 : Int) < (d.Final.length : Int) then (if (3 : Int) = (0 : Int) then (if r8 = (0 : Int) then (ref11_OfDFA d fun r24 => (ref03_SameRows r7 r24 fun r30 => (if r30 = true then (law11_awake  fun r36 => (K r36)) else (K false)))) else (K false)) else (if r8 = (3 : Int) then (r7.length ≤ mx → (if (r7.length : Int) = (0 : Int) then (law11_awake  fun r44 => (K r44)) else (K false))) else (K false))) else (if r8 = (0 : Int) then (ref11_OfDFA d fun r51 => (ref03_SameRows r7 r51 fun r57 => (if r57 = true then (law11_awake  fun r63 => (K r63)) else (K false)))) else (K false)))) else (if r8 = r14 then (r7.length ≤ mx → (if (r7.length : Int) = (0 : Int) then (law11_awake  fun r71 => (K r71)) else (K false))) else (K false)))))
/- semigroup/trans.Cycles -/
def trans_Cycles_L2 (f : List Int) (k1_11 : Nat) (cycles1_12 : List (List Int)) (X1 : Nat → List (List Int) → Prop) (K : List (List Int) → Prop) (X2 : Int → List Int → Prop) (j2_29 : Int) (cycle2_30 : List Int) : Prop :=
  (if (k1_11 : Int) < j2_29 then (if (cycle2_30.length : Int) < (f.length : Int) then (cycle2_30.length + ([j2_29]).length ≤ 1099511627776 ∧ (0 ≤ j2_29 ∧ j2_29 < (f.length : Int) ∧ (X2 ((ix f j2_29)) (cycle2_30 ++ ([j2_29]))))) else (if j2_29 = (k1_11 : Int) then (cycles1_12.length + ([cycle2_30]).length ≤ 1099511627776 ∧ (X1 (k1_11 + 1) (cycles1_12 ++ ([cycle2_30])))) else (X1 (k1_11 + 1) cycles1_12))) else (if j2_29 = (k1_11 : Int) then (cycles1_12.length + ([cycle2_30]).length ≤ 1099511627776 ∧ (X1 (k1_11 + 1) (cycles1_12 ++ ([cycle2_30])))) else (X1 (k1_11 + 1) cycles1_12)))
def trans_Cycles_L1 (f : List Int) (K : List (List Int) → Prop) (X1 : Nat → List (List Int) → Prop) (k1_11 : Nat) (cycles1_12 : List (List Int)) : Prop :=
  (if (k1_11 : Int) < (f.length : Int) then (0 ≤ (k1_11 : Int) ∧ (k1_11 : Int) < (f.length : Int) ∧ (LoopWP (S := Int × List Int) (fun s X => trans_Cycles_L2 f k1_11 cycles1_12 X1 K (fun j2_29 cycle2_30 => X (j2_29, cycle2_30)) s.1 s.2) ((ix f (k1_11 : Int)), [(k1_11 : Int)]))) else (K cycles1_12))
def trans_Cycles (f : List Int) (K : List (List Int) → Prop) : Prop :=
  (trans_Valid f fun r1 => (if r1 = true then (f.length ≤ mx → (LoopWP (S := Nat × List (List Int)) (fun s X => trans_Cycles_L1 f K (fun k1_11 cycles1_12 => X (k1_11, cycles1_12)) s.1 s.2) (0, ([] : List (List Int))))) else (K (([] : List (List Int))))))
/- semigroup/trans.divisor -/
def trans_divisor_L1 (K : Int → Prop) (X1 : Int → Int → Prop) (a1_2 : Int) (b1_3 : Int) : Prop :=
  (if (0 : Int) < b1_3 then (b1_3 ≠ 0 ∧ (X1 b1_3 ((a1_2.tmod b1_3)))) else (K a1_2))
def trans_divisor (a : Int) (b : Int) (K : Int → Prop) : Prop :=
  (LoopWP (S := Int × Int) (fun s X => trans_divisor_L1  K (fun a1_2 b1_3 => X (a1_2, b1_3)) s.1 s.2) (a, b))
/- semigroup/trans.IndexPeriod -/
def trans_IndexPeriod_L2 (r17 : List (List Int)) (k1_24 : Int) (k1_25 : Nat) (X1 : Int → Nat → List Bool → Prop) (K : Int → Int → Prop) (X2 : Nat → List Bool → Prop) (k2_37 : Nat) (d_38 : List Bool) : Prop :=
  (if (k2_37 : Int) < ((ix r17 (k1_25 : Int)).length : Int) then (0 ≤ (k2_37 : Int) ∧ (k2_37 : Int) < ((ix r17 (k1_25 : Int)).length : Int) ∧ (0 ≤ (ix (ix r17 (k1_25 : Int)) (k2_37 : Int)) ∧ (ix (ix r17 (k1_25 : Int)) (k2_37 : Int)) < (d_38.length : Int) ∧ (X2 (k2_37 + 1) (st d_38 (ix (ix r17 (k1_25 : Int)) (k2_37 : Int)) true)))) else (trans_divisor k1_24 (((ix r17 (k1_25 : Int)).length : Int)) fun r51 => (r51 ≠ 0 ∧ I64 (k1_24.tdiv r51) ∧ (I64 ((k1_24.tdiv r51) * ((ix r17 (k1_25 : Int)).length : Int)) ∧ (X1 (((k1_24.tdiv r51) * ((ix r17 (k1_25 : Int)).length : Int))) (k1_25 + 1) d_38)))))
def trans_IndexPeriod_L4 (a0 : List Int) (d_26 : List Bool) (k3_61 : Int) (k3_62 : Nat) (X3 : Int → Nat → Prop) (K : Int → Int → Prop) (X4 : Nat → Int → Prop) (k4_65 : Nat) (k4_66 : Int) : Prop :=
  (0 ≤ k4_66 ∧ k4_66 < (d_26.length : Int) ∧ (if ix d_26 k4_66 = true then (if k3_61 < (k4_65 : Int) then (X3 ((k4_65 : Int)) (k3_62 + 1)) else (X3 k3_61 (k3_62 + 1))) else (I64 ((k4_65 : Int) + (1 : Int)) ∧ (0 ≤ k4_66 ∧ k4_66 < (a0.length : Int) ∧ (X4 (k4_65 + 1) ((ix a0 k4_66)))))))
def trans_IndexPeriod_L3 (a0 : List Int) (k1_24 : Int) (d_26 : List Bool) (K : Int → Int → Prop) (X3 : Int → Nat → Prop) (k3_61 : Int) (k3_62 : Nat) : Prop :=
  (if (k3_62 : Int) < (a0.length : Int) then (LoopWP (S := Nat × Int) (fun s X => trans_IndexPeriod_L4 a0 d_26 k3_61 k3_62 X3 K (fun k4_65 k4_66 => X (k4_65, k4_66)) s.1 s.2) (0, (k3_62 : Int))) else (K k3_61 k1_24))
def trans_IndexPeriod_L1 (a0 : List Int) (r17 : List (List Int)) (K : Int → Int → Prop) (X1 : Int → Nat → List Bool → Prop) (k1_24 : Int) (k1_25 : Nat) (d_26 : List Bool) : Prop :=
  (if (k1_25 : Int) < (r17.length : Int) then (0 ≤ (k1_25 : Int) ∧ (k1_25 : Int) < (r17.length : Int) ∧ ((ix r17 (k1_25 : Int)).length ≤ mx → (LoopWP (S := Nat × List Bool) (fun s X => trans_IndexPeriod_L2 r17 k1_24 k1_25 X1 K (fun k2_37 d_38 => X (k2_37, d_38)) s.1 s.2) (0, d_26)))) else (LoopWP (S := Int × Nat) (fun s X => trans_IndexPeriod_L3 a0 k1_24 d_26 K (fun k3_61 k3_62 => X (k3_61, k3_62)) s.1 s.2) ((1 : Int), 0)))
def trans_IndexPeriod (a0 : List Int) (K : Int → Int → Prop) : Prop :=
  (trans_Valid a0 fun r1 => (if r1 = true then (a0.length ≤ mx → (0 ≤ (a0.length : Int) ∧ (a0.length : Int) ≤ 1099511627776 ∧ (trans_Cycles a0 fun r17 => (r17.length ≤ mx → (LoopWP (S := Int × Nat × List Bool) (fun s X => trans_IndexPeriod_L1 a0 r17 K (fun k1_24 k1_25 d_26 => X (k1_24, k1_25, d_26)) s.1 s.2.1 s.2.2) ((1 : Int), 0, List.replicate a0.length false)))))) else (K ((0 : Int)) ((0 : Int)))))
/- semigroup/trans.Omega -/
def trans_Omega (f : List Int) (K : List Int → Prop) : Prop :=
  (trans_Valid f fun r1 => (if r1 = true then (trans_IndexPeriod f fun r7 r8 => (I64 (r7 + r8) ∧ (I64 ((r7 + r8) - (1 : Int)) ∧ (r8 ≠ 0 ∧ I64 (((r7 + r8) - (1 : Int)).tdiv r8) ∧ (I64 ((((r7 + r8) - (1 : Int)).tdiv r8) * r8) ∧ (trans_Power f (((((r7 + r8) - (1 : Int)).tdiv r8) * r8)) fun r19 => (K r19))))))) else (K (([] : List Int)))))
/- semigroup/semigroupref11.Cycles -/
def ref11_Cycles_L2 (f : List Int) (k1_5 : Nat) (out1_6 : List (List Int)) (X1 : Nat → List (List Int) → Prop) (K : List (List Int) → Prop) (X2 : Int → List Int → Prop) (x2_23 : Int) (c2_24 : List Int) : Prop :=
  (if (k1_5 : Int) < x2_23 then (if (c2_24.length : Int) ≤ (f.length : Int) then (c2_24.length + ([x2_23]).length ≤ 1099511627776 ∧ (0 ≤ x2_23 ∧ x2_23 < (f.length : Int) ∧ (X2 ((ix f x2_23)) (c2_24 ++ ([x2_23]))))) else (I64 ((c2_24.length : Int) - (1 : Int)) ∧ (0 ≤ ((c2_24.length : Int) - (1 : Int)) ∧ ((c2_24.length : Int) - (1 : Int)) < (c2_24.length : Int) ∧ (0 ≤ (ix c2_24 ((c2_24.length : Int) - (1 : Int))) ∧ (ix c2_24 ((c2_24.length : Int) - (1 : Int))) < (f.length : Int) ∧ (if (ix f (ix c2_24 ((c2_24.length : Int) - (1 : Int)))) = (k1_5 : Int) then (out1_6.length + ([c2_24]).length ≤ 1099511627776 ∧ (X1 (k1_5 + 1) (out1_6 ++ ([c2_24])))) else (X1 (k1_5 + 1) out1_6)))))) else (I64 ((c2_24.length : Int) - (1 : Int)) ∧ (0 ≤ ((c2_24.length : Int) - (1 : Int)) ∧ ((c2_24.length : Int) - (1 : Int)) < (c2_24.length : Int) ∧ (0 ≤ (ix c2_24 ((c2_24.length : Int) - (1 : Int))) ∧ (ix c2_24 ((c2_24.length : Int) - (1 : Int))) < (f.length : Int) ∧ (if (ix f (ix c2_24 ((c2_24.length : Int) - (1 : Int)))) = (k1_5 : Int) then (out1_6.length + ([c2_24]).length ≤ 1099511627776 ∧ (X1 (k1_5 + 1) (out1_6 ++ ([c2_24])))) else (X1 (k1_5 + 1) out1_6))))))
def ref11_Cycles_L1 (f : List Int) (K : List (List Int) → Prop) (X1 : Nat → List (List Int) → Prop) (k1_5 : Nat) (out1_6 : List (List Int)) : Prop :=
  (if (k1_5 : Int) < (f.length : Int) then (0 ≤ (k1_5 : Int) ∧ (k1_5 : Int) < (f.length : Int) ∧ (LoopWP (S := Int × List Int) (fun s X => ref11_Cycles_L2 f k1_5 out1_6 X1 K (fun x2_23 c2_24 => X (x2_23, c2_24)) s.1 s.2) ((ix f (k1_5 : Int)), [(k1_5 : Int)]))) else (K out1_6))
def ref11_Cycles (f : List Int) (K : List (List Int) → Prop) : Prop :=
  (f.length ≤ mx → (LoopWP (S := Nat × List (List Int)) (fun s X => ref11_Cycles_L1 f K (fun k1_5 out1_6 => X (k1_5, out1_6)) s.1 s.2) (0, ([] : List (List Int)))))
/- semigroup/semigroupref11.Powers -/
def ref11_Powers_L2 (l1_9 : List (List Int)) (X1 : List (List Int) → Prop) (r22 : List Int) (K : List (List Int) → Int → Prop) (X2 : Nat → Prop) (k2_29 : Nat) : Prop :=
  (if (k2_29 : Int) < (l1_9.length : Int) then (0 ≤ (k2_29 : Int) ∧ (k2_29 : Int) < (l1_9.length : Int) ∧ (ref03_Same (ix l1_9 (k2_29 : Int)) r22 fun r37 => (if r37 = true then (K l1_9 ((k2_29 : Int))) else (X2 (k2_29 + 1))))) else (l1_9.length + ([r22]).length ≤ 1099511627776 ∧ (X1 (l1_9 ++ ([r22])))))
def ref11_Powers_L1 (f : List Int) (K : List (List Int) → Int → Prop) (X1 : List (List Int) → Prop) (l1_9 : List (List Int)) : Prop :=
  (I64 ((l1_9.length : Int) - (1 : Int)) ∧ (0 ≤ ((l1_9.length : Int) - (1 : Int)) ∧ ((l1_9.length : Int) - (1 : Int)) < (l1_9.length : Int) ∧ (ref11_Compose (ix l1_9 ((l1_9.length : Int) - (1 : Int))) f fun r22 => (LoopWP (S := Nat) (fun s X => ref11_Powers_L2 l1_9 X1 r22 K X s) 0))))
def ref11_Powers (f : List Int) (K : List (List Int) → Int → Prop) : Prop :=
  (LoopWP (S := List (List Int)) (fun s X => ref11_Powers_L1 f K X s) ([f]))
/- semigroup/semigroupref11.IndexPeriod -/
def ref11_IndexPeriod (f : List Int) (K : Int → Int → Prop) : Prop :=
  (ref11_Powers f fun r1 r2 => (I64 (r2 + (1 : Int)) ∧ (r1.length ≤ mx → (I64 ((r1.length : Int) - r2) ∧ (K ((r2 + (1 : Int))) (((r1.length : Int) - r2)))))))
/- semigroup/semigroupref11.Omega -/
def ref11_Omega_L1 (r1 : List (List Int)) (K : List Int → Prop) (X1 : Nat → Prop) (k1_9 : Nat) : Prop :=
  (if (k1_9 : Int) < (r1.length : Int) then (0 ≤ (k1_9 : Int) ∧ (k1_9 : Int) < (r1.length : Int) ∧ (ref11_Compose (ix r1 (k1_9 : Int)) (ix r1 (k1_9 : Int)) fun r17 => (ref03_Same r17 (ix r1 (k1_9 : Int)) fun r23 => (if r23 = true then (K (ix r1 (k1_9 : Int))) else (X1 (k1_9 + 1)))))) else (K (([] : List Int))))
def ref11_Omega (f : List Int) (K : List Int → Prop) : Prop :=
  (ref11_Powers f fun r1 r2 => (r1.length ≤ mx → (LoopWP (S := Nat) (fun s X => ref11_Omega_L1 r1 K X s) 0)))
/- semigroup/semigrouplaw11.TransCycles -/
def law11_TransCycles (a0 : List Int) (K : Bool → Prop) : Prop :=
  (trans_IndexPeriod a0 fun r1 r2 => (trans_Omega a0 fun r8 => (trans_Cycles a0 fun r14 => (ref11_Valid a0 fun r20 => (if r20 = true then (a0.length ≤ mx → (if (16 : Int) < (a0.length : Int) then (ref11_Cycles a0 fun r37 => (ref03_SameRows r14 r37 fun r43 => (if r43 = true then (law11_awake  fun r49 => (K r49)) else (K false)))) else (ref11_IndexPeriod a0 fun r55 r56 => (if r1 = r55 then (if r2 = r56 then (ref11_Omega a0 fun r64 => (ref03_Same r8 r64 fun r70 => (if r70 = true then (ref11_Cycles a0 fun r76 => (ref03_SameRows r14 r76 fun r82 => (if r82 = true then (law11_awake  fun r88 => (K r88)) else (K false)))) else (K false)))) else (K false)) else (K false))))) else (if r1 = (0 : Int) then (if r2 = (0 : Int) then (r8.length ≤ mx → (if (r8.length : Int) = (0 : Int) then (r14.length ≤ mx → (if (r14.length : Int) = (0 : Int) then (law11_awake  fun r30 => (K r30)) else (K false))) else (K false))) else (K false)) else (K false)))))))
/- semigroup/semigrouplaw11.TransRepeats -/
def law11_TransRepeats_L2 (r72 : List (List Int)) (k1_79 : Int) (k1_80 : Nat) (X1 : Int → Nat → Prop) (K : Bool → Prop) (X2 : Int → Prop) (k2_91 : Int) : Prop :=
  (((ix r72 (k1_80 : Int)).length : Int) ≠ 0 ∧ (if (k2_91.tmod ((ix r72 (k1_80 : Int)).length : Int)) = (0 : Int) then (X1 k2_91 (k1_80 + 1)) else (I64 (k2_91 + k1_79) ∧ (X2 ((k2_91 + k1_79))))))
def law11_TransRepeats_L1 (a0 : List Int) (r21 : Int) (r72 : List (List Int)) (K : Bool → Prop) (X1 : Int → Nat → Prop) (k1_79 : Int) (k1_80 : Nat) : Prop :=
  (if (k1_80 : Int) < (r72.length : Int) then (0 ≤ (k1_80 : Int) ∧ (k1_80 : Int) < (r72.length : Int) ∧ ((ix r72 (k1_80 : Int)).length ≤ mx → (if ((ix r72 (k1_80 : Int)).length : Int) < (1 : Int) then (K false) else (if (a0.length : Int) < ((ix r72 (k1_80 : Int)).length : Int) then (K false) else (LoopWP (S := Int) (fun s X => law11_TransRepeats_L2 r72 k1_79 k1_80 X1 K X s) k1_79))))) else (trans_Omega a0 fun r95 => (if r21 = k1_79 then (trans_Compose r95 r95 fun r102 => (ref03_Same r102 r95 fun r108 => (if r108 = true then (trans_Compose r95 a0 fun r114 => (trans_Compose a0 r95 fun r120 => (ref03_Same r114 r120 fun r126 => (if r126 = true then (law11_awake  fun r132 => (K r132)) else (K false))))) else (K false)))) else (K false))))
def law11_TransRepeats_L4 (r138 : List (List Int)) (k3_145 : Int) (k3_146 : Nat) (X3 : Int → Nat → Prop) (K : Bool → Prop) (X4 : Int → Prop) (k4_157 : Int) : Prop :=
  (((ix r138 (k3_146 : Int)).length : Int) ≠ 0 ∧ (if (k4_157.tmod ((ix r138 (k3_146 : Int)).length : Int)) = (0 : Int) then (X3 k4_157 (k3_146 + 1)) else (I64 (k4_157 + k3_145) ∧ (X4 ((k4_157 + k3_145))))))
def law11_TransRepeats_L3 (a0 : List Int) (r21 : Int) (r138 : List (List Int)) (K : Bool → Prop) (X3 : Int → Nat → Prop) (k3_145 : Int) (k3_146 : Nat) : Prop :=
  (if (k3_146 : Int) < (r138.length : Int) then (0 ≤ (k3_146 : Int) ∧ (k3_146 : Int) < (r138.length : Int) ∧ ((ix r138 (k3_146 : Int)).length ≤ mx → (if ((ix r138 (k3_146 : Int)).length : Int) < (1 : Int) then (K false) else (if (a0.length : Int) < ((ix r138 (k3_146 : Int)).length : Int) then (K false) else (LoopWP (S := Int) (fun s X => law11_TransRepeats_L4 r138 k3_145 k3_146 X3 K X s) k3_145))))) else (trans_Omega a0 fun r161 => (if r21 = k3_145 then (trans_Compose r161 r161 fun r168 => (ref03_Same r168 r161 fun r174 => (if r174 = true then (trans_Compose r161 a0 fun r180 => (trans_Compose a0 r161 fun r186 => (ref03_Same r180 r186 fun r192 => (if r192 = true then (law11_awake  fun r198 => (K r198)) else (K false))))) else (K false)))) else (K false))))
def law11_TransRepeats (a0 : List Int) (a1 : Int) (K : Bool → Prop) : Prop :=
  (ref11_Valid a0 fun r1 => (if r1 = true then (a0.length ≤ mx → (if (16 : Int) < (a0.length : Int) then (law11_awake  fun r14 => (K r14)) else (trans_IndexPeriod a0 fun r20 r21 => (if r20 < (1 : Int) then (K false) else (if r21 < (1 : Int) then (K false) else (I64 (r20 + (IntKind.i64.wrap a1)) ∧ (trans_Power a0 ((r20 + (IntKind.i64.wrap a1))) fun r30 => (I64 (r20 + (IntKind.i64.wrap a1)) ∧ (I64 ((r20 + (IntKind.i64.wrap a1)) + r21) ∧ (trans_Power a0 (((r20 + (IntKind.i64.wrap a1)) + r21)) fun r38 => (ref03_Same r30 r38 fun r44 => (if r44 = true then (if (1 : Int) < r20 then (I64 (r20 - (1 : Int)) ∧ (trans_Power a0 ((r20 - (1 : Int))) fun r52 => (I64 (r20 - (1 : Int)) ∧ (I64 ((r20 - (1 : Int)) + r21) ∧ (trans_Power a0 (((r20 - (1 : Int)) + r21)) fun r60 => (ref03_Same r52 r60 fun r66 => (if r66 = true then (K false) else (trans_Cycles a0 fun r72 => (r72.length ≤ mx → (LoopWP (S := Int × Nat) (fun s X => law11_TransRepeats_L1 a0 r21 r72 K (fun k1_79 k1_80 => X (k1_79, k1_80)) s.1 s.2) ((1 : Int), 0))))))))))) else (trans_Cycles a0 fun r138 => (r138.length ≤ mx → (LoopWP (S := Int × Nat) (fun s X => law11_TransRepeats_L3 a0 r21 r138 K (fun k3_145 k3_146 => X (k3_145, k3_146)) s.1 s.2) ((1 : Int), 0))))) else (K false))))))))))))) else (law11_awake  fun r7 => (K r7))))
/- semigroup/dfa.Run -/
def dfa_Run_L1 (d : DFA) (w_ : Str) (K : Int → Prop) (X1 : Int → Nat → Prop) (state1_23 : Int) (k1_24 : Nat) : Prop :=
  (if (k1_24 : Int) < (w_.length : Int) then (0 ≤ state1_23 ∧ state1_23 < (d.Next.length : Int) ∧ (0 ≤ (k1_24 : Int) ∧ (k1_24 : Int) < (w_.length : Int) ∧ (0 ≤ (IntKind.u8.wrap (((ix w_ (k1_24 : Int)).toNat : Int) - (97 : Int))) ∧ (IntKind.u8.wrap (((ix w_ (k1_24 : Int)).toNat : Int) - (97 : Int))) < ((ix d.Next state1_23).length : Int) ∧ (X1 ((ix (ix d.Next state1_23) (IntKind.u8.wrap (((ix w_ (k1_24 : Int)).toNat : Int) - (97 : Int))))) (k1_24 + 1))))) else (K state1_23))
def dfa_Run (d : DFA) (state : Int) (w_ : Str) (K : Int → Prop) : Prop :=
  (dfa_Validate d fun r7 => (if r7 = (0 : Int) then (if state < (0 : Int) then (K ((-1 : Int))) else (d.Final.length ≤ mx → (if (d.Final.length : Int) ≤ state then (K ((-1 : Int))) else (word_Valid w_ d.Letters fun r16 => (if r16 = true then (w_.length ≤ mx → (LoopWP (S := Int × Nat) (fun s X => dfa_Run_L1 d w_ K (fun state1_23 k1_24 => X (state1_23, k1_24)) s.1 s.2) (state, 0))) else (K ((-1 : Int)))))))) else (K ((-1 : Int)))))
/- semigroup/semigrouplaw11.TransRuns -/
def law11_TransRuns (d : DFA) (q : Int) (w_ : Str) (K : Bool → Prop) : Prop :=
  (trans_OfDFA d fun r7 r8 => (if r8 = (0 : Int) then (if q < (0 : Int) then (law11_awake  fun r16 => (K r16)) else (d.Final.length ≤ mx → (if (d.Final.length : Int) ≤ q then (law11_awake  fun r23 => (K r23)) else (ref01_Valid w_ d.Letters fun r29 => (if r29 = true then (trans_OfWord r7 w_ fun r41 => (r41.length ≤ mx → (if (r41.length : Int) = (d.Final.length : Int) then (0 ≤ q ∧ q < (r41.length : Int) ∧ (dfa_Run d q w_ fun r53 => (if (ix r41 q) = r53 then (law11_awake  fun r60 => (K r60)) else (K false)))) else (K false)))) else (law11_awake  fun r35 => (K r35))))))) else (law11_awake  fun r66 => (K r66))))
/- slices.Clone[[]int,int] -/
def slices_Clone_int (s : List Int) (K : List Int → Prop) : Prop :=
  (∀ z1 : Bool, (z1 = true → s = []) → (if z1 = true then (K (([] : List Int))) else ((([] : List Int)).length + s.length ≤ 1099511627776 ∧ (K ((([] : List Int)) ++ s)))))
/- semigroup/trans.Image -/
def trans_Image_L2 (k1_27 : Nat) (K : List Int → Prop) (X2 : Nat → Nat → List Int → Prop) (k2_41 : Nat) (k22_42 : Nat) (s2_43 : List Int) : Prop :=
  (if (k22_42 : Int) < ((s2_43.length - (k1_27 : Int).toNat : Nat) : Int) then (0 ≤ (k22_42 : Int) ∧ (k1_27 : Int) + (k22_42 : Int) < (s2_43.length : Int) ∧ (I64 ((k22_42 : Int) - (1 : Int)) ∧ (0 ≤ ((k22_42 : Int) - (1 : Int)) ∧ (k1_27 : Int) + ((k22_42 : Int) - (1 : Int)) < (s2_43.length : Int) ∧ (if (ix s2_43 ((k1_27 : Int) + (k22_42 : Int))) = (ix s2_43 ((k1_27 : Int) + ((k22_42 : Int) - (1 : Int)))) then (I64 ((k22_42 : Int) + (1 : Int)) ∧ (X2 k2_41 (k22_42 + 1) s2_43)) else (0 ≤ (k22_42 : Int) ∧ (k1_27 : Int) + (k22_42 : Int) < (s2_43.length : Int) ∧ (0 ≤ (k2_41 : Int) ∧ (k2_41 : Int) < (s2_43.length : Int) ∧ (I64 ((k2_41 : Int) + (1 : Int)) ∧ (I64 ((k22_42 : Int) + (1 : Int)) ∧ (X2 (k2_41 + 1) (k22_42 + 1) (st s2_43 (k2_41 : Int) (ix s2_43 ((k1_27 : Int) + (k22_42 : Int))))))))))))) else (0 ≤ (k2_41 : Int) ∧ (k2_41 : Int) ≤ (s2_43.length : Int) ∧ (0 ≤ (k2_41 : Int) ∧ (k2_41 : Int) ≤ ((s2_43.take (k2_41 : Int).toNat ++ List.replicate (s2_43.length - (k2_41 : Int).toNat) ((0 : Int))).length : Int) ∧ (K ((s2_43.take (k2_41 : Int).toNat ++ List.replicate (s2_43.length - (k2_41 : Int).toNat) ((0 : Int))).take ((k2_41 : Int)).toNat)))))
def trans_Image_L1 (r7 : List Int) (K : List Int → Prop) (X1 : Nat → Prop) (k1_27 : Nat) : Prop :=
  (if (k1_27 : Int) < ((msort r7).length : Int) then (0 ≤ (k1_27 : Int) ∧ (k1_27 : Int) < ((msort r7).length : Int) ∧ (I64 ((k1_27 : Int) - (1 : Int)) ∧ (0 ≤ ((k1_27 : Int) - (1 : Int)) ∧ ((k1_27 : Int) - (1 : Int)) < ((msort r7).length : Int) ∧ (if (ix (msort r7) (k1_27 : Int)) = (ix (msort r7) ((k1_27 : Int) - (1 : Int))) then (0 ≤ (k1_27 : Int) ∧ (k1_27 : Int) ≤ ((msort r7).length : Int) ∧ (LoopWP (S := Nat × Nat × List Int) (fun s X => trans_Image_L2 k1_27 K (fun k2_41 k22_42 s2_43 => X (k2_41, k22_42, s2_43)) s.1 s.2.1 s.2.2) (k1_27, 1, msort r7))) else (X1 (k1_27 + 1)))))) else (K (msort r7)))
def trans_Image (f : List Int) (K : List Int → Prop) : Prop :=
  (trans_Valid f fun r1 => (if r1 = true then (slices_Clone_int f fun r7 => (r7.length ≤ 1099511627776 ∧ (if ((msort r7).length : Int) < (2 : Int) then (K (msort r7)) else (LoopWP (S := Nat) (fun s X => trans_Image_L1 r7 K X s) 1)))) else (K (([] : List Int)))))
/- semigroup/trans.Rank -/
def trans_Rank (f : List Int) (K : Int → Prop) : Prop :=
  (trans_Image f fun r1 => (r1.length ≤ mx → (K ((r1.length : Int)))))
/- semigroup/semigrouplaw11.TransAssociates -/
def law11_TransAssociates (a0 : List Int) (a1 : List Int) (a2 : List Int) (K : Bool → Prop) : Prop :=
  (law11_pair a0 a1 fun r1 => (if r1 = true then (law11_pair a1 a2 fun r13 => (if r13 = true then (trans_Compose a0 a1 fun r25 => (trans_Compose r25 a2 fun r31 => (trans_Compose a1 a2 fun r37 => (trans_Compose a0 r37 fun r43 => (a0.length ≤ mx → (trans_Identity ((a0.length : Int)) fun r49 => (trans_Compose a0 a1 fun r55 => (trans_Rank r55 fun r61 => (r31.length ≤ mx → (if (r31.length : Int) = (a0.length : Int) then (ref03_Same r31 r43 fun r68 => (if r68 = true then (trans_Compose r49 a0 fun r74 => (ref03_Same r74 a0 fun r80 => (if r80 = true then (trans_Compose a0 r49 fun r86 => (ref03_Same r86 a0 fun r92 => (if r92 = true then (if (0 : Int) < r61 then (trans_Rank a0 fun r99 => (if r61 ≤ r99 then (trans_Rank a1 fun r106 => (if r61 ≤ r106 then (law11_awake  fun r113 => (K r113)) else (K false))) else (K false))) else (K false)) else (K false)))) else (K false)))) else (K false))) else (K false))))))))))) else (law11_awake  fun r19 => (K r19)))) else (law11_awake  fun r7 => (K r7))))
/- semigroup/trans.IsPermutation -/
def trans_IsPermutation (f : List Int) (K : Bool → Prop) : Prop :=
  (trans_Valid f fun r1 => (if r1 = true then (trans_Rank f fun r7 => (f.length ≤ mx → (if r7 = (f.length : Int) then (K true) else (K false)))) else (K false)))
/- semigroup/trans.Inverse -/
def trans_Inverse_L1 (f : List Int) (K : List Int → Prop) (X1 : Nat → List Int → Prop) (k1_18 : Nat) (g1_19 : List Int) : Prop :=
  (if (k1_18 : Int) < (f.length : Int) then (0 ≤ (k1_18 : Int) ∧ (k1_18 : Int) < (f.length : Int) ∧ (0 ≤ (ix f (k1_18 : Int)) ∧ (ix f (k1_18 : Int)) < (g1_19.length : Int) ∧ (X1 (k1_18 + 1) (st g1_19 (ix f (k1_18 : Int)) (k1_18 : Int))))) else (K g1_19))
def trans_Inverse (f : List Int) (K : List Int → Prop) : Prop :=
  (trans_IsPermutation f fun r1 => (if r1 = true then (f.length ≤ mx → (0 ≤ (f.length : Int) ∧ (f.length : Int) ≤ 1099511627776 ∧ (LoopWP (S := Nat × List Int) (fun s X => trans_Inverse_L1 f K (fun k1_18 g1_19 => X (k1_18, g1_19)) s.1 s.2) (0, List.replicate f.length ((0 : Int)))))) else (K (([] : List Int)))))
/- semigroup/semigroupref03.Set -/
def ref03_Set_L1 (l : List Int) (n : Int) (K : List Bool → Prop) (X1 : Nat → List Bool → Prop) (k1_12 : Nat) (out1_13 : List Bool) : Prop :=
  (if (k1_12 : Int) < (l.length : Int) then (0 ≤ (k1_12 : Int) ∧ (k1_12 : Int) < (l.length : Int) ∧ (if (0 : Int) ≤ (ix l (k1_12 : Int)) then (if (ix l (k1_12 : Int)) < n then (0 ≤ (ix l (k1_12 : Int)) ∧ (ix l (k1_12 : Int)) < (out1_13.length : Int) ∧ (X1 (k1_12 + 1) (st out1_13 (ix l (k1_12 : Int)) true))) else (X1 (k1_12 + 1) out1_13)) else (X1 (k1_12 + 1) out1_13))) else (K out1_13))
def ref03_Set (l : List Int) (n : Int) (K : List Bool → Prop) : Prop :=
  (0 ≤ n ∧ n ≤ 1099511627776 ∧ (l.length ≤ mx → (LoopWP (S := Nat × List Bool) (fun s X => ref03_Set_L1 l n K (fun k1_12 out1_13 => X (k1_12, out1_13)) s.1 s.2) (0, List.replicate n.toNat false))))
/- semigroup/semigroupref03.Members -/
def ref03_Members_L1 (set_ : List Bool) (K : List Int → Prop) (X1 : Nat → List Int → Prop) (k1_5 : Nat) (l1_6 : List Int) : Prop :=
  (if (k1_5 : Int) < (set_.length : Int) then (0 ≤ (k1_5 : Int) ∧ (k1_5 : Int) < (set_.length : Int) ∧ (if ix set_ (k1_5 : Int) = true then (l1_6.length + ([(k1_5 : Int)]).length ≤ 1099511627776 ∧ (X1 (k1_5 + 1) (l1_6 ++ ([(k1_5 : Int)])))) else (X1 (k1_5 + 1) l1_6))) else (K l1_6))
def ref03_Members (set_ : List Bool) (K : List Int → Prop) : Prop :=
  (set_.length ≤ mx → (LoopWP (S := Nat × List Int) (fun s X => ref03_Members_L1 set_ K (fun k1_5 l1_6 => X (k1_5, l1_6)) s.1 s.2) (0, ([] : List Int))))
/- semigroup/semigroupref11.Image -/
def ref11_Image (f : List Int) (K : List Int → Prop) : Prop :=
  (f.length ≤ mx → (ref03_Set f ((f.length : Int)) fun r1 => (ref03_Members r1 fun r12 => (K r12))))
/- semigroup/semigroupref11.IsPermutation -/
def ref11_IsPermutation (f : List Int) (K : Bool → Prop) : Prop :=
  (ref11_Valid f fun r1 => (if r1 = true then (ref11_Image f fun r7 => (r7.length ≤ mx → (f.length ≤ mx → (if (r7.length : Int) = (f.length : Int) then (K true) else (K false))))) else (K false)))
/- semigroup/semigroupref11.Inverse -/
def ref11_Inverse_L1 (f : List Int) (K : List Int → Prop) (X1 : Nat → List Int → Prop) (k1_12 : Nat) (out1_13 : List Int) : Prop :=
  (if (k1_12 : Int) < (f.length : Int) then (0 ≤ (k1_12 : Int) ∧ (k1_12 : Int) < (f.length : Int) ∧ (0 ≤ (ix f (k1_12 : Int)) ∧ (ix f (k1_12 : Int)) < (out1_13.length : Int) ∧ (X1 (k1_12 + 1) (st out1_13 (ix f (k1_12 : Int)) (k1_12 : Int))))) else (K out1_13))
def ref11_Inverse (f : List Int) (K : List Int → Prop) : Prop :=
  (f.length ≤ mx → (0 ≤ (f.length : Int) ∧ (f.length : Int) ≤ 1099511627776 ∧ (LoopWP (S := Nat × List Int) (fun s X => ref11_Inverse_L1 f K (fun k1_12 out1_13 => X (k1_12, out1_13)) s.1 s.2) (0, List.replicate f.length ((0 : Int))))))
/- semigroup/semigrouplaw11.TransInverts -/
def law11_TransInverts (f : List Int) (K : Bool → Prop) : Prop :=
  (trans_IsPermutation f fun r1 => (trans_Inverse f fun r7 => (ref11_IsPermutation f fun r13 => (if r1 = true then (if r13 = true then (f.length ≤ mx → (trans_Identity ((f.length : Int)) fun r26 => (ref11_Inverse f fun r32 => (ref03_Same r7 r32 fun r38 => (if r38 = true then (trans_Compose f r7 fun r44 => (ref03_Same r44 r26 fun r50 => (if r50 = true then (trans_Compose r7 f fun r56 => (ref03_Same r56 r26 fun r62 => (if r62 = true then (trans_Rank f fun r68 => (if r68 = (f.length : Int) then (law11_awake  fun r75 => (K r75)) else (K false))) else (K false)))) else (K false)))) else (K false)))))) else (K false)) else (if r13 = true then (K false) else (r7.length ≤ mx → (if (r7.length : Int) = (0 : Int) then (law11_awake  fun r20 => (K r20)) else (K false))))))))
/- semigroup/partition.canonical[int] -/
def partition_canonical_int_L1 (l : List Int) (K : List Int → Prop) (X1 : Nat → List (Int × Int) → List Int → Prop) (k1_18 : Nat) (m1_19 : List (Int × Int)) (p1_20 : List Int) : Prop :=
  (if (k1_18 : Int) < (l.length : Int) then (0 ≤ (k1_18 : Int) ∧ (k1_18 : Int) < (l.length : Int) ∧ (if mhas m1_19 ((ix l (k1_18 : Int))) = true then (0 ≤ (k1_18 : Int) ∧ (k1_18 : Int) < (p1_20.length : Int) ∧ (X1 (k1_18 + 1) m1_19 (st p1_20 (k1_18 : Int) (mgt m1_19 ((ix l (k1_18 : Int))))))) else (0 ≤ (k1_18 : Int) ∧ (k1_18 : Int) < (p1_20.length : Int) ∧ (X1 (k1_18 + 1) (mput m1_19 ((ix l (k1_18 : Int))) ((m1_19.length : Int))) (st p1_20 (k1_18 : Int) (m1_19.length : Int)))))) else (K p1_20))
def partition_canonical_int (l : List Int) (K : List Int → Prop) : Prop :=
  (l.length ≤ mx → (0 ≤ (l.length : Int) ∧ (l.length : Int) ≤ 1099511627776 ∧ (LoopWP (S := Nat × (List (Int × Int)) × List Int) (fun s X => partition_canonical_int_L1 l K (fun k1_18 m1_19 p1_20 => X (k1_18, m1_19, p1_20)) s.1 s.2.1 s.2.2) (0, ([] : List (Int × Int)), List.replicate l.length ((0 : Int))))))
/- semigroup/partition.Canonical -/
def partition_Canonical (l : List Int) (K : List Int → Prop) : Prop :=
  (l.length ≤ mx → (if (4096 : Int) < (l.length : Int) then (K (([] : List Int))) else (partition_canonical_int l fun r2 => (K r2))))
/- semigroup/trans.Kernel -/
def trans_Kernel (f : List Int) (K : List Int → Prop) : Prop :=
  (trans_Valid f fun r1 => (if r1 = true then (partition_Canonical f fun r7 => (K r7)) else (K (([] : List Int)))))
/- semigroup/semigroupref03.Canonical -/
def ref03_Canonical_L1 (l : List Int) (K : List Int → Prop) (X1 : Nat → Nat → List (Int × Int) → List Int → Prop) (next1_19 : Nat) (k1_20 : Nat) (m1_21 : List (Int × Int)) (out1_22 : List Int) : Prop :=
  (if (k1_20 : Int) < (l.length : Int) then (0 ≤ (k1_20 : Int) ∧ (k1_20 : Int) < (l.length : Int) ∧ (if mhas m1_21 ((ix l (k1_20 : Int))) = true then (0 ≤ (k1_20 : Int) ∧ (k1_20 : Int) < (out1_22.length : Int) ∧ (X1 next1_19 (k1_20 + 1) m1_21 (st out1_22 (k1_20 : Int) (mgt m1_21 ((ix l (k1_20 : Int))))))) else (I64 ((next1_19 : Int) + (1 : Int)) ∧ (0 ≤ (k1_20 : Int) ∧ (k1_20 : Int) < (out1_22.length : Int) ∧ (X1 (next1_19 + 1) (k1_20 + 1) (mput m1_21 ((ix l (k1_20 : Int))) ((next1_19 : Int))) (st out1_22 (k1_20 : Int) (next1_19 : Int))))))) else (K out1_22))
def ref03_Canonical (l : List Int) (K : List Int → Prop) : Prop :=
  (l.length ≤ mx → (if (4096 : Int) < (l.length : Int) then (K (([] : List Int))) else (0 ≤ (l.length : Int) ∧ (l.length : Int) ≤ 1099511627776 ∧ (LoopWP (S := Nat × Nat × (List (Int × Int)) × List Int) (fun s X => ref03_Canonical_L1 l K (fun next1_19 k1_20 m1_21 out1_22 => X (next1_19, k1_20, m1_21, out1_22)) s.1 s.2.1 s.2.2.1 s.2.2.2) (0, 0, ([] : List (Int × Int)), List.replicate l.length ((0 : Int)))))))
/- semigroup/semigroupref03.Count -/
def ref03_Count_L1 (p : List Int) (K : Int → Prop) (X1 : Int → Nat → Prop) (n1_2 : Int) (k1_3 : Nat) : Prop :=
  (if (k1_3 : Int) < (p.length : Int) then (0 ≤ (k1_3 : Int) ∧ (k1_3 : Int) < (p.length : Int) ∧ (I64 ((ix p (k1_3 : Int)) + (1 : Int)) ∧ (if n1_2 < ((ix p (k1_3 : Int)) + (1 : Int)) then (X1 (((ix p (k1_3 : Int)) + (1 : Int))) (k1_3 + 1)) else (X1 n1_2 (k1_3 + 1))))) else (K n1_2))
def ref03_Count (p : List Int) (K : Int → Prop) : Prop :=
  (p.length ≤ mx → (LoopWP (S := Int × Nat) (fun s X => ref03_Count_L1 p K (fun n1_2 k1_3 => X (n1_2, k1_3)) s.1 s.2) ((0 : Int), 0)))
/- semigroup/semigrouplaw11.TransShapes -/
def law11_TransShapes (f : List Int) (K : Bool → Prop) : Prop :=
  (trans_Image f fun r1 => (trans_Kernel f fun r7 => (trans_Rank f fun r13 => (ref11_Valid f fun r19 => (if r19 = true then (ref11_Image f fun r34 => (ref03_Same r1 r34 fun r40 => (if r40 = true then (ref03_Canonical f fun r46 => (ref03_Same r7 r46 fun r52 => (if r52 = true then (r1.length ≤ mx → (if r13 = (r1.length : Int) then (ref03_Count r7 fun r59 => (if r13 = r59 then (law11_awake  fun r66 => (K r66)) else (K false))) else (K false))) else (K false)))) else (K false)))) else (r1.length ≤ mx → (if (r1.length : Int) = (0 : Int) then (r7.length ≤ mx → (if (r7.length : Int) = (0 : Int) then (if r13 = (0 : Int) then (law11_awake  fun r28 => (K r28)) else (K false)) else (K false))) else (K false))))))))
end Sg
