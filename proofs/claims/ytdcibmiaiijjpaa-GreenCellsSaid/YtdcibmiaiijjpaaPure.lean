/- -/
import Derived.Laws.Bits
import Derived.Laws.Entries
namespace Sg
open Go
set_option linter.unusedVariables false
set_option linter.unusedSimpArgs false
abbrev Str := List UInt8
def ix {α : Type} [Inhabited α] (xs : List α) (i : Int) : α := xs.getD i.toNat default
def st {α : Type} (xs : List α) (i : Int) (v : α) : List α := xs.set i.toNat v
theorem ix_eq {α : Type} [Inhabited α] {xs : List α} {i : Int} (h : i.toNat < xs.length) : ix xs i = xs[i.toNat] := by
 simp [ix, List.getD_eq_getElem?_getD, h]
@[simp] theorem J02 {α : Type} (xs : List α) (i : Int) (v : α) : (st xs i v).length = xs.length := by simp [st]
theorem ix_lt {α : Type} [Inhabited α] {xs : List α} {k : Nat} (h : k < xs.length) : ix xs (k : Int) = xs[k] := by
 rw [ix_eq (by simpa using h)]; simp
theorem ix_st {α : Type} [Inhabited α] {xs : List α} {i j : Int} (v : α) (h0 : 0 ≤ i) (h1 : i < xs.length) (hj : 0 ≤ j) : ix (st xs i v) j = if j = i then v else ix xs j := by
 simp only [ix, st, List.getD_eq_getElem?_getD, List.getElem?_set]
 by_cases h : j = i
 ·subst h; rw [if_pos rfl, if_pos rfl, if_pos (by omega)]; rfl
 ·rw [if_neg (by omega), if_neg h]
def I64 (r : Int) : Prop := -9223372036854775808 ≤ r ∧ r ≤ 9223372036854775807
def U64 (r : Int) : Prop := 0 ≤ r ∧ r ≤ 18446744073709551615
def mx : Nat := 9223372036854775807
def shlK (k : IntKind) (a b : Int) : Int := k.wrap (a * 2 ^ (min b.toNat k.bits))
def shrK (k : IntKind) (a b : Int) : Int := a.fdiv (2 ^ (min b.toNat k.bits))
def msort (xs : List Int) : List Int := xs.mergeSort fun x y => decide (x ≤ y)
def LoopWP {S : Type} (body : S → (S → Prop) → Prop) (s : S) : Prop := ∀ X : S → Prop, (∀ s, body s X → X s) → X s
theorem LoopWP.intro {S : Type} {body : S → (S → Prop) → Prop} {s : S} (I : S → Prop) (μ : S → Nat) (h : I s)
    (round : ∀ s X, I s → (∀ s', I s' → μ s' < μ s → X s') → body s X) : LoopWP body s := by
  intro X hX
  have key : ∀ m s, μ s = m → I s → X s := by
    intro m
    induction m using Nat.strongRecOn with
    | _ m ih =>
      intro s hm hs
      exact hX s (round s X hs fun s' hs' hlt => ih (μ s') (hm ▸ hlt) s' rfl hs')
  exact key _ s rfl h
theorem ifp {c : Prop} [Decidable c] {a b : Prop} (h : c) (H : if c then a else b) : a := by rwa [if_pos h] at H
theorem ifn {c : Prop} [Decidable c] {a b : Prop} (h : ¬ c) (H : if c then a else b) : b := by rwa [if_neg h] at H
end Sg
namespace Sg
theorem LoopWP.to {S : Type} {body : S → (S → Prop) → Prop} {s : S} (n : Nat) (c : S → Nat) (I : S → Prop) (h : I s) (hc : ∀ s, I s → c s ≤ n)
  (round : ∀ s X, I s → (∀ s', I s' → c s' = c s + 1 → X s') → body s X) : LoopWP body s :=
 LoopWP.intro I (fun s => n - c s) h fun s X hs hX => round s X hs fun s' hs' hcs => hX s' hs' (by have := hc s' hs'; omega)
theorem J22 {α : Type} [Inhabited α] {xs ys : List α} (h : xs.length = ys.length) (hi : ∀ j : Nat, j < xs.length → ix xs j = ix ys j) : xs = ys := by
 apply List.ext_getElem h
 intro j h1 h2
 have := hi j h1
 rwa [ix_lt h1, ix_lt h2] at this
theorem J0R {α : Type} [Inhabited α] {xs : List α} {i : Int} (h0 : 0 ≤ i) (h1 : i < xs.length) : ix xs i ∈ xs := by
 rw [ix_eq (by omega)]; exact List.getElem_mem _
theorem J0V {α β : Type} [Inhabited α] [Inhabited β] (g : α → β) {xs : List α} {i : Int} (h0 : 0 ≤ i) (h1 : i < xs.length) : ix (xs.map g) i = g (ix xs i) := by
 rw [ix_eq (by simp; omega), ix_eq (by omega)]; simp
theorem J1O {α : Type} [Inhabited α] {xs : List α} {p : α → Prop} : (∀ x ∈ xs, p x) ↔ ∀ j : Nat, j < xs.length → p (ix xs j) := by
 refine ⟨fun h j hj => h _ (J0R (by omega) (by omega)), fun h x hx => ?_⟩
 obtain ⟨j, hj, rfl⟩ := List.getElem_of_mem hx
 have := h j hj
 rwa [ix_lt hj] at this
@[simp] theorem J0D {α : Type} [Inhabited α] (n : Nat) (v : α) {j : Nat} (h : j < n) : ix (List.replicate n v) (j : Int) = v := by
 rw [ix_lt (by simpa using h)]; simp
end Sg
namespace Sg
def RecWP {S T : Type} (body : (S → (T → Prop) → Prop) → S → (T → Prop) → Prop) (s : S) (K : T → Prop) : Prop :=
 ∀ X : S → (T → Prop) → Prop, (∀ s K, body X s K → X s K) → X s K
theorem RecWP.intro {S T : Type} {body : (S → (T → Prop) → Prop) → S → (T → Prop) → Prop} {s : S} {K : T → Prop} (I : S → Prop) (Q : S → T → Prop) (μ : S → Nat) (h : I s) (hK : ∀ t, Q s t → K t)
    (round : ∀ X s K, I s → (∀ s' K', I s' → μ s' < μ s → (∀ t, Q s' t → K' t) → X s' K') → (∀ t, Q s t → K t) → body X s K) : RecWP body s K := by
  intro X hX
  have key : ∀ m s K, μ s = m → I s → (∀ t, Q s t → K t) → X s K := by
    intro m
    induction m using Nat.strongRecOn with
    | _ m ih =>
      intro s K hm hs hK
      exact hX s K (round X s K hs (fun s' K' hs' hlt hK' => ih (μ s') (hm ▸ hlt) s' K' rfl hs' hK') hK)
  exact key _ s K rfl h hK
end Sg
namespace Sg
def Jn {S : Type} (body : (S → Prop) → Prop) (k : S → Prop) : Prop := ∀ X : S → Prop, (∀ s, k s → X s) → body X
theorem Jn.of {S : Type} {body : (S → Prop) → Prop} {k : S → Prop} (s0 : S) (hb : ∀ X : S → Prop, X s0 → body X) (hk : k s0) : Jn body k := fun X hX => hb X (hX s0 hk)
theorem exE {α : Sort _} {P : α → Prop} {G : Prop} (h : ∀ a, P a → G) : (∃ a, P a) → G := fun ⟨a, k⟩ => h a k
theorem andE {p q G : Prop} (h : p → q → G) : p ∧ q → G := fun k => h k.1 k.2
theorem prE {α β : Type _} {M : α × β → Prop} (h : ∀ a b, M (a, b)) : ∀ s, M s := fun ⟨a, b⟩ => h a b
end Sg
