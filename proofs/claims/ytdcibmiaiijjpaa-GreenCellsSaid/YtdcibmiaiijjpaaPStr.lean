/- -/
import Derived.Test.YtdcibmiaiijjpaaPure
namespace Sg
set_option linter.unusedVariables false
set_option linter.unusedSimpArgs false
def byt (xs : List Int) : Str := xs.map fun n => UInt8.ofNat n.toNat
def chr (n : Int) : Str := [UInt8.ofNat n.toNat]
def slt : Str → Str → Bool
 | _, [] => false
 | [], _ :: _ => true
 | a :: x, b :: y => decide (a < b) || (decide (a = b) && slt x y)
@[simp] theorem J7b (xs : List Int) : (byt xs).length = xs.length := by simp [byt]
@[simp] theorem J7a (n : Int) : (chr n).length = 1 := rfl
end Sg
