/- Strings as lists of bytes: of numbers, of one letter, in order. -/
import Derived.Test.YtjegjjdfgefkoaaPure
namespace Sg
set_option linter.unusedVariables false
set_option linter.unusedSimpArgs false
/-- The string of bytes given as numbers. -/
def byt (xs : List Int) : Str := xs.map fun n => UInt8.ofNat n.toNat
/-- The string of one small rune. -/
def chr (n : Int) : Str := [UInt8.ofNat n.toNat]
/-- The order of strings. -/
def slt : Str → Str → Bool
  | _, [] => false
  | [], _ :: _ => true
  | a :: x, b :: y => decide (a < b) || (decide (a = b) && slt x y)
@[simp] theorem byt_length (xs : List Int) : (byt xs).length = xs.length := by simp [byt]
@[simp] theorem chr_length (n : Int) : (chr n).length = 1 := rfl
theorem chr_le (n : Int) : (chr n).length ≤ mx := by simp [mx]
theorem byt_le {xs : List Int} (h : xs.length ≤ mx) : (byt xs).length ≤ mx := by simpa using h
end Sg
