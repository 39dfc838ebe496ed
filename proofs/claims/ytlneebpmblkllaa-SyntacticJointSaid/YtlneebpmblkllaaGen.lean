/- -/
import Derived.Test.YtlneebpmblkllaaBits
namespace Sg
open Go
set_option linter.unusedVariables false
set_option linter.unusedSimpArgs false
def iota (n : Nat) : List Int := (List.range n).map fun (j : Nat) => (j : Int)
@[simp] theorem J47 (n : Nat) : (iota n).length = n := by simp [iota]
theorem J4d {n j : Nat} (h : j < n) : ix (iota n) (j : Int) = j := by
 rw [ix_lt (by simpa using h)]; simp [iota]
theorem ix_iota' {n : Nat} {i : Int} (h0 : 0 ≤ i) (h : i < n) : ix (iota n) i = i := by
 obtain ⟨j, rfl⟩ := Int.eq_ofNat_of_zero_le h0
 exact J4d (by omega)
def WV (w : Str) (n : Int) : Bool := decide (1 ≤ n) && decide (n ≤ 6) && decide (w.length ≤ 2048) && w.all fun b => decide (97 ≤ b.toNat) && decide ((b.toNat : Int) - 97 < n)
theorem J81 {w : Str} {n : Int} : WV w n = true ↔ 1 ≤ n ∧ n ≤ 6 ∧ w.length ≤ 2048 ∧ ∀ j : Nat, j < w.length → 97 ≤ (ix w j).toNat ∧ ((ix w j).toNat : Int) - 97 < n := by
 have : (∀ x ∈ w, 97 ≤ x.toNat ∧ (x.toNat : Int) - 97 < n) ↔ ∀ j : Nat, j < w.length → 97 ≤ (ix w j).toNat ∧ ((ix w j).toNat : Int) - 97 < n := J0w (p := fun x : UInt8 => 97 ≤ x.toNat ∧ (x.toNat : Int) - 97 < n)
 simp only [WV, Bool.and_eq_true, decide_eq_true_eq, List.all_eq_true, ← this, and_assoc]
theorem J4q {w : Str} {n : Int} (h : ¬ (1 ≤ n ∧ n ≤ 6 ∧ w.length ≤ 2048 ∧ ∀ j : Nat, j < w.length → 97 ≤ (ix w j).toNat ∧ ((ix w j).toNat : Int) - 97 < n)) : WV w n = false := by
 rw [Bool.eq_false_iff, ne_eq, J81]; exact h
theorem wrapL {b : UInt8} (h : 97 ≤ b.toNat) : IntKind.i64.wrap (IntKind.u8.wrap ((b.toNat : Int) - 97)) = (b.toNat : Int) - 97 := by
 have := b.toNat_lt
 rw [IntKind.wrap_u8, IntKind.wrap_i64]; omega
theorem J2A {α : Type} [Inhabited α] {xs : List α} {k : Nat} (h : k < xs.length) : xs.take (k + 1) = xs.take k ++ [ix xs (k : Int)] := by
 rw [ix_lt h]; exact (List.take_append_getElem h).symm
theorem pigeon (n : Nat) : ∀ g : Nat → Int, (∀ m, m ≤ n → 0 ≤ g m ∧ g m < n) → ∃ a b, a < b ∧ b ≤ n ∧ g a = g b := by
  induction n with
  | zero => intro g hg; have := hg 0 (Nat.le_refl _); omega
  | succ n ih =>
    intro g hg
    by_cases hx : ∃ m, m ≤ n ∧ g m = g (n + 1)
    · obtain ⟨m, h1, h2⟩ := hx; exact ⟨m, n + 1, by omega, Nat.le_refl _, h2⟩
    · have hx' : ∀ m, m ≤ n → g m ≠ g (n + 1) := fun m hm he => hx ⟨m, hm, he⟩
      obtain ⟨a, b, hab, hbn, he⟩ := ih (fun m => if g m = n then g (n + 1) else g m) (fun m hm => by
        have h1 := hg m (by omega); have h2 := hg (n + 1) (Nat.le_refl _); have h3 := hx' m hm
        split <;> omega)
      refine ⟨a, b, hab, by omega, ?_⟩
      have ha := hx' a (by omega); have hb := hx' b (by omega)
      split at he <;> split at he <;> omega
theorem J97 (p : Nat → Prop) (n : Nat) (h : p n) : ∃ m, p m ∧ m ≤ n ∧ ∀ j, j < m → ¬ p j := by
  induction n using Nat.strongRecOn with
  | _ n ih =>
    by_cases hx : ∃ j, j < n ∧ p j
    · obtain ⟨j, hj, hpj⟩ := hx
      obtain ⟨m, h1, h2, h3⟩ := ih j hj hpj
      exact ⟨m, h1, by omega, h3⟩
    · exact ⟨n, h, Nat.le_refl _, fun j hj hpj => hx ⟨j, hj, hpj⟩⟩
theorem J0g {α : Type} [Inhabited α] {xs : List α} {x : α} : x ∈ xs ↔ ∃ j : Nat, j < xs.length ∧ ix xs j = x := by
 constructor
 ·intro h
  obtain ⟨j, hj, rfl⟩ := List.getElem_of_mem h
  exact ⟨j, hj, ix_lt hj⟩
 ·rintro ⟨j, hj, rfl⟩
  exact J0U (by omega) (by omega)
theorem LoopWP.scan {body : Nat → (Nat → Prop) → Prop} (n : Nat) (P : Nat → Prop) (h : ∀ k X, k ≤ n → (∀ j, j < k → P j) → (k < n → P k → X (k + 1)) → body k X) : LoopWP body 0 := by
 refine LoopWP.to n (fun k => k) (fun k => k ≤ n ∧ ∀ j, j < k → P j) ⟨Nat.zero_le _, fun j hj => absurd hj (Nat.not_lt_zero _)⟩ (fun s h => h.1) ?_
 intro k X hk hX
 refine h k X hk.1 hk.2 fun hkn hP => hX (k + 1) ⟨hkn, fun j hj => ?_⟩ rfl
 by_cases hjk : j = k
 ·subst hjk; exact hP
 ·exact hk.2 j (by omega)
theorem LoopWP.fold {S : Type} {body : Nat × S → (Nat × S → Prop) → Prop} (n : Nat) (I : Nat → S → Prop) {s0 : S} (h0 : I 0 s0) (h : ∀ k s X, k ≤ n → I k s → (∀ s', k < n → I (k + 1) s' → X (k + 1, s')) → body (k, s) X) : LoopWP body (0, s0) := by
 refine LoopWP.to n (fun s : Nat × S => s.1) (fun s => s.1 ≤ n ∧ I s.1 s.2) ⟨Nat.zero_le _, h0⟩ (fun s h => h.1) ?_
 rintro ⟨k, s⟩ X ⟨hk, hI⟩ hX
 exact h k s X hk hI fun s' hkn hs' => hX (k + 1, s') ⟨hkn, hs'⟩ rfl
theorem upS {p : Nat → Prop} {k : Nat} (h : ∀ j, j < k → p j) (hk : p k) : ∀ j, j < k + 1 → p j := fun j hj => by
 by_cases hjk : j = k
 ·subst hjk; exact hk
 ·exact h j (by omega)
theorem J7W {α : Type} {P : List α → Prop} (h0 : P []) (h1 : ∀ l a, P l → P (l ++ [a])) (l : List α) : P l := by
 rw [← l.reverse_reverse]
 induction l.reverse with
 | nil => exact h0
 | cons a l ih => rw [List.reverse_cons]; exact h1 _ _ ih
end Sg
