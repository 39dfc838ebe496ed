/- -/
import Derived.Test.YtlneebpmblkllaaPure
namespace Sg
def AN (n : Nat) : Type := {l : List Int // l.length = n}
instance (n : Nat) : DecidableEq (AN n) := fun a b => decidable_of_iff (a.1 = b.1) Subtype.ext_iff.symm
instance (n : Nat) : Inhabited (AN n) := ⟨⟨List.replicate n 0, by simp⟩⟩
def toAN (n : Nat) (l : List Int) : AN n := ⟨(l ++ List.replicate n 0).take n, by simp⟩
theorem J6D {n : Nat} {l : List Int} (h : l.length = n) : (toAN n l).1 = l := by
 subst h
 simp [toAN]
theorem J8W {n : Nat} {l m : List Int} (h : l.length = n) (k : m.length = n) (e : toAN n l = toAN n m) : l = m := by
 have := congrArg Subtype.val e
 rwa [J6D h, J6D k] at this
end Sg
