/- -/
import Derived.Test.YtbmaaecppfdjfaaGreatDoorTu
import Derived.Test.YtbmaaecppfdjfaaGreatDoorAl
import Derived.Test.YtbmaaecppfdjfaaGreatDoorDrawF
namespace Sg
open Go Go.RowKit Go.Proofs
set_option linter.unusedVariables false
set_option linter.unusedSimpArgs false
set_option maxRecDepth 100000
section
variable {G : Prop}
theorem e1 {α : Sort _} {P : α → Prop} (h : ∀ a, P a → G) : (∃ a, P a) → G := fun ⟨a, k⟩ => h a k
theorem e2 {α β : Sort _} {P : α → β → Prop} (h : ∀ a b, P a b → G) : (∃ a b, P a b) → G := fun ⟨a, b, k⟩ => h a b k
theorem e3 {α β γ : Sort _} {P : α → β → γ → Prop} (h : ∀ a b c, P a b c → G) : (∃ a b c, P a b c) → G := fun ⟨a, b, c, k⟩ => h a b c k
theorem e4 {α β γ δ : Sort _} {P : α → β → γ → δ → Prop} (h : ∀ a b c d, P a b c d → G) : (∃ a b c d, P a b c d) → G := fun ⟨a, b, c, d, k⟩ => h a b c d k
theorem d1 {p q : Prop} (h : p → q → G) : p ∧ q → G := fun k => h k.1 k.2
theorem d2 {p q r : Prop} (h : p → q → r → G) : p ∧ q ∧ r → G := fun k => h k.1 k.2.1 k.2.2
theorem d3 {p q r s : Prop} (h : p → q → r → s → G) : p ∧ q ∧ r ∧ s → G := fun k => h k.1 k.2.1 k.2.2.1 k.2.2.2
theorem d4 {p q r s t : Prop} (h : p → q → r → s → t → G) : p ∧ q ∧ r ∧ s ∧ t → G := fun k => h k.1 k.2.1 k.2.2.1 k.2.2.2.1 k.2.2.2.2
end
theorem p1 {α β : Type _} {M : α × β → Prop} (h : ∀ a b, M (a, b)) : ∀ s, M s := fun ⟨a, b⟩ => h a b
theorem p2 {α β γ : Type _} {M : α × β × γ → Prop} (h : ∀ a b c, M (a, b, c)) : ∀ s, M s := fun ⟨a, b, c⟩ => h a b c
theorem p3 {α β γ δ : Type _} {M : α × β × γ × δ → Prop} (h : ∀ a b c d, M (a, b, c, d)) : ∀ s, M s := fun ⟨a, b, c, d⟩ => h a b c d
theorem iT {a b : Prop} (H : if true = true then a else b) : a := H
theorem iF {a b : Prop} (H : if false = true then a else b) : b := H
structure Sq (A : List Nat) (w : World) (E : List Ent) (A' : List Nat) (w' : World) (E' : List Ent) : Prop where
 fr : Fr (bl E) w (bl E') w'
 ch : Ch (bl E ++ A) w (bl E' ++ A') w'
theorem Stp.q {n0 : Nat} {A : List Nat} {w w' : World} {E E' : List Ent} (h : Stp n0 A w E w' E') : Sq A w E A w' E' := ⟨h.fr, h.ch⟩
structure Sg (A : List Nat) (w : World) (E : List Ent) (A' : List Nat) (w' : World) (E' : List Ent) : Prop where
 ch : Ch (bl E ++ A) w (bl E' ++ A') w'
theorem frA0 {B A : List Nat} {w0 w : World} (h : Fr (bl []) w0 B w) : Ch A w0 (B ++ A) w := h.ch.app A
theorem frA {E B A : List Nat} {w0 w : World} (h : Fr E w0 B w) : Ch (E ++ A) w0 (B ++ A) w := h.ch.app A
theorem chR {A A' : List Nat} {w : World} (h : A = A') : Ch A w A' w := h ▸ Ch.refl _ _
theorem chx {A A' : List Nat} {w w' : World} (h : Ch A w A' w' := by
 repeat (first
  | with_reducible exact Ch.refl _ _
  | ((with_reducible refine chR ?_); exact rfl)
  | with_reducible exact frA0 (by assumption)
  | with_reducible exact frA (by assumption)
  | (rename Sq _ _ _ _ _ _ => h; (with_reducible refine Ch.trans ?_ h.ch); clear h)
  | (rename Sg _ _ _ _ _ _ => h; (with_reducible refine Ch.trans ?_ h.ch); clear h)
  | (rename Sq _ _ _ _ _ _ => h; refine Ch.trans ?_ h.ch; clear h)
  | exact Ch.refl _ _
  | exact frA0 (by assumption))) : Ch A w A' w' := h
theorem fr {B B' : List Nat} {w w' : World} (h : Fr B w B' w' := by
 repeat (first
  | with_reducible exact Fr.refl _ _
  | with_reducible assumption
  | (rename Sq _ _ _ _ _ _ => h; refine Fr.trans ?_ h.fr; clear h)
  | exact Fr.refl _ _
  | assumption)) : Fr B w B' w' := h
theorem frs {B' : List Nat} {w w' : World} (h : Fr (bl []) w B' w' := by exact fr) : Same w w' := h.same
theorem ISl.u {α : Type} {r : Rp α} {A A' : List Nat} {w w' : World} {p : Option Addr} {c : Nat} {xs : List α} (h : ISl r A w p c xs) (k : Ch A w A' w' := by exact chx) : ISl r A' w' p c xs := h.ch k
theorem Els.u {α : Type} {r : Rp α} {A A' : List Nat} {w w' : World} {vs : List Value} {xs : List α} (h : Els r A w vs xs) (k : Ch A w A' w' := by exact chx) : Els r A' w' vs xs := h.ch k
theorem ISl.o {α : Type} {r : Rp α} {n0 : Nat} {A A0 : List Nat} {w w0 : World} {E : List Ent} {p : Option Addr} {c : Nat} {xs : List α} (h : ISl r A0 w0 p c xs) (hO : Owns n0 w E A) (k : Ch A0 w0 (bl E ++ A) w := by exact chx) : ISl r (bl E ++ A) w p c xs := h.ch k
theorem Els.o {α : Type} {r : Rp α} {n0 : Nat} {A A0 : List Nat} {w w0 : World} {E : List Ent} {vs : List Value} {xs : List α} (h : Els r A0 w0 vs xs) (hO : Owns n0 w E A) (k : Ch A0 w0 (bl E ++ A) w := by exact chx) : Els r (bl E ++ A) w vs xs := h.ch k
theorem elN {α : Type} (r : Rp α) {n0 : Nat} {A : List Nat} {w : World} {E : List Ent} (hO : Owns n0 w E A) : Els r (bl E ++ A) w [] [] := Els.nil _ _ _
theorem elE {α : Type} (r : Rp α) {n0 : Nat} {A : List Nat} {w : World} {E : List Ent} (vs : List Value) (xs : List α) (hO : Owns n0 w E A) (h : Els r (bl E ++ A) w vs xs) : Els r (bl E ++ A) w vs xs := h
theorem agr {p : Prop} (h : p := by repeat (first | exact True.intro | refine ⟨rfl, ?_⟩)) : p := h
end Sg
