/- -/
import Derived.Test.YtdcibmiaiijjpaaPure
namespace Sg
open Go
set_option linter.unusedVariables false
set_option linter.unusedSimpArgs false
theorem J4L (n : Int) : IntKind.u64.wrap n = n % 18446744073709551616 := by simp [IntKind.wrap, IntKind.bits, IntKind.signed]
theorem J2R {n : Int} (h : U64 n) : IntKind.u64.wrap n = n := by rw [J4L]; unfold U64 at h; omega
theorem J41 {n : Int} (h : I64 n) : IntKind.i64.wrap n = n := by rw [IntKind.wrap_i64]; unfold I64 at h; omega
theorem bits64 {a b : Nat} (ha : a < 2 ^ 64) (hb : b < 2 ^ 64) : bits .and .u64 (a : Int) b = ((a &&& b : Nat) : Int) ∧ bits .or .u64 (a : Int) b = ((a ||| b : Nat) : Int) :=
 bits_nat .u64 64 (by decide) (fun n h0 h1 => J2R ⟨h0, by omega⟩) a b ha hb
theorem bits63 {a b : Nat} (ha : a < 2 ^ 63) (hb : b < 2 ^ 63) : bits .and .i64 (a : Int) b = ((a &&& b : Nat) : Int) ∧ bits .or .i64 (a : Int) b = ((a ||| b : Nat) : Int) :=
 bits_nat .i64 63 (by decide) (fun n h0 h1 => J41 ⟨by omega, by omega⟩) a b ha hb
theorem J5Y {a k : Nat} (hk : k < 64) : shrK .u64 (a : Int) (k : Int) = ((a >>> k : Nat) : Int) := by
 unfold shrK
 rw [show (min (k : Int).toNat IntKind.u64.bits) = k from by show min k 64 = k; omega]
 rw [Nat.shiftRight_eq_div_pow, Int.fdiv_eq_ediv_of_nonneg _ (by exact_mod_cast Nat.zero_le _)]
 simp
theorem J79 {a k : Nat} (ha : a < 2 ^ 64) (hk : k < 64) : bits .and .u64 (shrK .u64 (a : Int) (k : Int)) 1 = ((a.testBit k).toNat : Int) := by
 rw [J5Y hk]
 have := (bits64 (a := a >>> k) (b := 1) (Nat.lt_of_le_of_lt (by rw [Nat.shiftRight_eq_div_pow]; exact Nat.div_le_self _ _) ha) (by decide)).1
 rw [Nat.and_one_is_mod] at this
 refine this.trans ?_
 congr 1
 rw [Nat.testBit_eq_decide_div_mod_eq, Nat.shiftRight_eq_div_pow]
 by_cases h : a / 2 ^ k % 2 = 1
 ·simp [h]
 ·have : a / 2 ^ k % 2 = 0 := by omega
  simp [this]
theorem J6V {b j : Nat} (hb : b < 2 ^ (64 - j)) (hj : j < 64) : shlK .u64 (b : Int) (j : Int) = ((b <<< j : Nat) : Int) := by
 unfold shlK
 rw [show (min (j : Int).toNat IntKind.u64.bits) = j from by show min j 64 = j; omega]
 have h1 : b * 2 ^ j < 2 ^ 64 := by
  have : 2 ^ 64 = 2 ^ (64 - j) * 2 ^ j := by rw [← Nat.pow_add]; congr 1; omega
  rw [this]; exact Nat.mul_lt_mul_of_pos_right hb (Nat.two_pow_pos j)
 have h2 : (b : Int) * 2 ^ j = ((b * 2 ^ j : Nat) : Int) := by simp
 rw [h2, J2R ⟨by omega, by omega⟩, Nat.shiftLeft_eq]
end Sg
