/- Ways that meet again: what holds where they meet is said once. -/
import Derived.Test.YtdcibmiaiijjpaaDraw
import Derived.Test.YtdcibmiaiijjpaaPure
namespace Sg
open Go
set_option linter.unusedVariables false
set_option linter.unusedSimpArgs false
section
variable {P : Program} {f n : Nat} {L l : List Oper} {s0 s1 : List (Nat × Md)} {k : List Item} {σ : Nat → Value} {w : World} {R : Value → World → Prop}
theorem GoR.keep (ls : List (Nat × Value)) (hl : agrees σ ls) (h : GoR P f n L l k (setAll σ ls) w R) : GoR P f n L l k σ w R := by
  rw [setAll_self σ ls hl] at h; exact h
theorem GoQ.keep (ls : List (Nat × Value)) (hl : agrees σ ls) (h : GoQ P f n L s0 k R s1 (setAll σ ls) w) : GoQ P f n L s0 k R s1 σ w := by
  rw [setAll_self σ ls hl] at h; exact h
theorem GoR.join {S : Type} {body : (S → Prop) → Prop} {kk : S → Prop} (m : Nat) (Pre : S → (Nat → Value) → World → Prop) (H : Jn body kk)
    (rest : ∀ s σ w, kk s → Pre s σ w → GoR P f n L (L.drop m) k σ w R)
    (first : ∀ X : S → Prop, (∀ s σ w, X s → Pre s σ w → GoR P f n L (L.drop m) k σ w R) → body X → GoR P f n L l k σ w R) : GoR P f n L l k σ w R :=
  first (fun s => ∀ σ w, Pre s σ w → GoR P f n L (L.drop m) k σ w R) (fun s σ w h hp => h σ w hp) (H _ fun s hk σ w hp => rest s σ w hk hp)
theorem GoQ.join {S : Type} {body : (S → Prop) → Prop} {kk : S → Prop} (s2 : List (Nat × Md)) (Pre : S → (Nat → Value) → World → Prop) (H : Jn body kk)
    (rest : ∀ s σ w, kk s → Pre s σ w → GoQ P f n L s0 k R s2 σ w)
    (first : ∀ X : S → Prop, (∀ s σ w, X s → Pre s σ w → GoQ P f n L s0 k R s2 σ w) → body X → GoQ P f n L s0 k R s1 σ w) : GoQ P f n L s0 k R s1 σ w :=
  first (fun s => ∀ σ w, Pre s σ w → GoQ P f n L s0 k R s2 σ w) (fun s σ w h hp => h σ w hp) (H _ fun s hk σ w hp => rest s σ w hk hp)
end
end Sg
