/- -/
import Derived.Test.YtdcibmiaiijjpaaBits
namespace Sg
open Go
set_option linter.unusedVariables false
set_option linter.unusedSimpArgs false
def iota (n : Nat) : List Int := (List.range n).map fun (j : Nat) => (j : Int)
@[simp] theorem J72 (n : Nat) : (iota n).length = n := by simp [iota]
theorem J4s {n j : Nat} (h : j < n) : ix (iota n) (j : Int) = j := by
 rw [ix_lt (by simpa using h)]; simp [iota]
theorem pigeon (n : Nat) : ∀ g : Nat → Int, (∀ m, m ≤ n → 0 ≤ g m ∧ g m < n) → ∃ a b, a < b ∧ b ≤ n ∧ g a = g b := by
  induction n with
  | zero => intro g hg; have := hg 0 (Nat.le_refl _); omega
  | succ n ih =>
    intro g hg
    by_cases hx : ∃ m, m ≤ n ∧ g m = g (n + 1)
    · obtain ⟨m, h1, h2⟩ := hx; exact ⟨m, n + 1, by omega, Nat.le_refl _, h2⟩
    · have hx' : ∀ m, m ≤ n → g m ≠ g (n + 1) := fun m hm he => hx ⟨m, hm, he⟩
      obtain ⟨a, b, hab, hbn, he⟩ := ih (fun m => if g m = n then g (n + 1) else g m) (fun m hm => by
        have h1 := hg m (by omega); have h2 := hg (n + 1) (Nat.le_refl _); have h3 := hx' m hm
        split <;> omega)
      refine ⟨a, b, hab, by omega, ?_⟩
      have ha := hx' a (by omega); have hb := hx' b (by omega)
      split at he <;> split at he <;> omega
theorem J6E (p : Nat → Prop) (n : Nat) (h : p n) : ∃ m, p m ∧ m ≤ n ∧ ∀ j, j < m → ¬ p j := by
  induction n using Nat.strongRecOn with
  | _ n ih =>
    by_cases hx : ∃ j, j < n ∧ p j
    · obtain ⟨j, hj, hpj⟩ := hx
      obtain ⟨m, h1, h2, h3⟩ := ih j hj hpj
      exact ⟨m, h1, by omega, h3⟩
    · exact ⟨n, h, Nat.le_refl _, fun j hj hpj => hx ⟨j, hj, hpj⟩⟩
theorem J4h {α : Type} [Inhabited α] {xs : List α} {x : α} : x ∈ xs ↔ ∃ j : Nat, j < xs.length ∧ ix xs j = x := by
 constructor
 ·intro h
  obtain ⟨j, hj, rfl⟩ := List.getElem_of_mem h
  exact ⟨j, hj, ix_lt hj⟩
 ·rintro ⟨j, hj, rfl⟩
  exact J0R (by omega) (by omega)
theorem LoopWP.scan {body : Nat → (Nat → Prop) → Prop} (n : Nat) (P : Nat → Prop) (h : ∀ k X, k ≤ n → (∀ j, j < k → P j) → (k < n → P k → X (k + 1)) → body k X) : LoopWP body 0 := by
 refine LoopWP.to n (fun k => k) (fun k => k ≤ n ∧ ∀ j, j < k → P j) ⟨Nat.zero_le _, fun j hj => absurd hj (Nat.not_lt_zero _)⟩ (fun s h => h.1) ?_
 intro k X hk hX
 refine h k X hk.1 hk.2 fun hkn hP => hX (k + 1) ⟨hkn, fun j hj => ?_⟩ rfl
 by_cases hjk : j = k
 ·subst hjk; exact hP
 ·exact hk.2 j (by omega)
theorem LoopWP.fold {S : Type} {body : Nat × S → (Nat × S → Prop) → Prop} (n : Nat) (I : Nat → S → Prop) {s0 : S} (h0 : I 0 s0) (h : ∀ k s X, k ≤ n → I k s → (∀ s', k < n → I (k + 1) s' → X (k + 1, s')) → body (k, s) X) : LoopWP body (0, s0) := by
 refine LoopWP.to n (fun s : Nat × S => s.1) (fun s => s.1 ≤ n ∧ I s.1 s.2) ⟨Nat.zero_le _, h0⟩ (fun s h => h.1) ?_
 rintro ⟨k, s⟩ X ⟨hk, hI⟩ hX
 exact h k s X hk hI fun s' hkn hs' => hX (k + 1, s') ⟨hkn, hs'⟩ rfl
theorem LoopWP.foldR {S : Type} {body : S × Nat → (S × Nat → Prop) → Prop} (n : Nat) (I : Nat → S → Prop) (m : Nat) {s0 : S} (hm : m ≤ n) (h0 : I m s0) (h : ∀ k s X, k ≤ n → I k s → (∀ s', k < n → I (k + 1) s' → X (s', k + 1)) → body (s, k) X) : LoopWP body (s0, m) := by
 refine LoopWP.to n (fun s : S × Nat => s.2) (fun s => s.2 ≤ n ∧ I s.2 s.1) ⟨hm, h0⟩ (fun s h => h.1) ?_
 rintro ⟨s, k⟩ X ⟨hk, hI⟩ hX
 exact h k s X hk hI fun s' hkn hs' => hX (s', k + 1) ⟨hkn, hs'⟩ rfl
end Sg
