/- Lists of numbers, words, least numbers: no function in sight. -/
import Derived.Test.YtjegjjdfgefkoaaBits
namespace Sg
open Go
set_option linter.unusedVariables false
set_option linter.unusedSimpArgs false
def iota (n : Nat) : List Int := (List.range n).map fun (j : Nat) => (j : Int)
@[simp] theorem iota_length (n : Nat) : (iota n).length = n := by simp [iota]
theorem ix_iota {n j : Nat} (h : j < n) : ix (iota n) (j : Int) = j := by
  rw [ix_lt (by simpa using h)]; simp [iota]
theorem ix_iota' {n : Nat} {i : Int} (h0 : 0 ≤ i) (h : i < n) : ix (iota n) i = i := by
  obtain ⟨j, rfl⟩ := Int.eq_ofNat_of_zero_le h0
  exact ix_iota (by omega)
def WV (w : Str) (n : Int) : Bool := decide (1 ≤ n) && decide (n ≤ 6) && decide (w.length ≤ 2048) && w.all fun b => decide (97 ≤ b.toNat) && decide ((b.toNat : Int) - 97 < n)
theorem WV_iff {w : Str} {n : Int} : WV w n = true ↔ 1 ≤ n ∧ n ≤ 6 ∧ w.length ≤ 2048 ∧ ∀ j : Nat, j < w.length → 97 ≤ (ix w j).toNat ∧ ((ix w j).toNat : Int) - 97 < n := by
  have : (∀ x ∈ w, 97 ≤ x.toNat ∧ (x.toNat : Int) - 97 < n) ↔ ∀ j : Nat, j < w.length → 97 ≤ (ix w j).toNat ∧ ((ix w j).toNat : Int) - 97 < n := forall_mem_ix (p := fun x : UInt8 => 97 ≤ x.toNat ∧ (x.toNat : Int) - 97 < n)
  simp only [WV, Bool.and_eq_true, decide_eq_true_eq, List.all_eq_true, ← this, and_assoc]
theorem WV_false {w : Str} {n : Int} (h : ¬ (1 ≤ n ∧ n ≤ 6 ∧ w.length ≤ 2048 ∧ ∀ j : Nat, j < w.length → 97 ≤ (ix w j).toNat ∧ ((ix w j).toNat : Int) - 97 < n)) : WV w n = false := by
  rw [Bool.eq_false_iff, ne_eq, WV_iff]; exact h
theorem wrapL {b : UInt8} (h : 97 ≤ b.toNat) : IntKind.i64.wrap (IntKind.u8.wrap ((b.toNat : Int) - 97)) = (b.toNat : Int) - 97 := by
  have := b.toNat_lt
  rw [IntKind.wrap_u8, IntKind.wrap_i64]; omega
theorem take_ix {α : Type} [Inhabited α] {xs : List α} {k : Nat} (h : k < xs.length) : xs.take (k + 1) = xs.take k ++ [ix xs (k : Int)] := by
  rw [ix_lt h]; exact (List.take_append_getElem h).symm
theorem pigeon (n : Nat) : ∀ g : Nat → Int, (∀ m, m ≤ n → 0 ≤ g m ∧ g m < n) → ∃ a b, a < b ∧ b ≤ n ∧ g a = g b := by
  induction n with
  | zero => intro g hg; have := hg 0 (Nat.le_refl _); omega
  | succ n ih =>
    intro g hg
    by_cases hx : ∃ m, m ≤ n ∧ g m = g (n + 1)
    · obtain ⟨m, h1, h2⟩ := hx; exact ⟨m, n + 1, by omega, Nat.le_refl _, h2⟩
    · have hx' : ∀ m, m ≤ n → g m ≠ g (n + 1) := fun m hm he => hx ⟨m, hm, he⟩
      obtain ⟨a, b, hab, hbn, he⟩ := ih (fun m => if g m = n then g (n + 1) else g m) (fun m hm => by
        have h1 := hg m (by omega); have h2 := hg (n + 1) (Nat.le_refl _); have h3 := hx' m hm
        split <;> omega)
      refine ⟨a, b, hab, by omega, ?_⟩
      have ha := hx' a (by omega); have hb := hx' b (by omega)
      split at he <;> split at he <;> omega
theorem mem_ix {α : Type} [Inhabited α] {xs : List α} {x : α} : x ∈ xs ↔ ∃ j : Nat, j < xs.length ∧ ix xs j = x := by
  constructor
  · intro h
    obtain ⟨j, hj, rfl⟩ := List.getElem_of_mem h
    exact ⟨j, hj, ix_lt hj⟩
  · rintro ⟨j, hj, rfl⟩
    exact ix_mem (by omega) (by omega)
theorem upS {p : Nat → Prop} {k : Nat} (h : ∀ j, j < k → p j) (hk : p k) : ∀ j, j < k + 1 → p j := fun j hj => by
  by_cases hjk : j = k
  · subst hjk; exact hk
  · exact h j (by omega)
end Sg
