/- Tables: powers. Plain laws. -/
import Derived.Test.YthobeabghciknaaMultB
namespace Sg
open Go
set_option linter.unusedVariables false
set_option linter.unusedSimpArgs false

/-- The powers of an element: at k the one with the exponent k + 1. -/
def pow (t : List (List Int)) (x : Int) : Nat → Int
  | 0 => x
  | k + 1 => mu t (pow t x k) x
theorem pow_in {t : List (List Int)} {n : Nat} (T : Tb t n) {x : Int} (hx : 0 ≤ x ∧ x < n) : ∀ k, 0 ≤ pow t x k ∧ pow t x k < n
  | 0 => hx
  | k + 1 => T.mu (pow_in T hx k).1 (pow_in T hx k).2 hx.1 hx.2
section
variable {t : List (List Int)} (hv : VT t = true) {x : Int} (hx : 0 ≤ x ∧ x < t.length)
include hv hx
theorem pow_mu (a b : Nat) : mu t (pow t x a) (pow t x b) = pow t x (a + b + 1) := by
  have T := SH.tb (VT.sh hv)
  induction b with
  | zero => rfl
  | succ b ih =>
    show mu t (pow t x a) (mu t (pow t x b) x) = mu t (pow t x (a + b + 1)) x
    rw [← ih, (VT.as hv).all (pow_in T hx a) (pow_in T hx b) hx]
theorem pow_pow (a b : Nat) : pow t (pow t x a) b = pow t x ((a + 1) * (b + 1) - 1) := by
  induction b with
  | zero => simp [pow]
  | succ b ih =>
    show mu t (pow t (pow t x a) b) (pow t x a) = _
    rw [ih, pow_mu hv hx]
    congr 1
    rw [Nat.mul_add (a + 1) (b + 1) 1]
    have : 1 ≤ (a + 1) * (b + 1) := Nat.mul_pos (by omega) (by omega)
    omega
end
/-- The values come again: at m the value of at, none before. -/
structure RP (g : Nat → Int) (a m : Nat) : Prop where
  lt : a < m
  eq : g m = g a
  inj : ∀ i j, i < j → j < m → g i ≠ g j
theorem RP.uniq {g : Nat → Int} {a m a' m' : Nat} (h : RP g a m) (k : RP g a' m') : a = a' ∧ m = m' := by
  have hm : m = m' := by
    rcases Nat.lt_trichotomy m m' with hx | hx | hx
    · exact absurd h.eq.symm (k.inj _ _ h.lt hx)
    · exact hx
    · exact absurd k.eq.symm (h.inj _ _ k.lt hx)
  subst hm
  refine ⟨?_, rfl⟩
  have e := h.eq.symm.trans k.eq
  rcases Nat.lt_trichotomy a a' with hx | hx | hx
  · exact absurd e (h.inj _ _ hx k.lt)
  · exact hx
  · exact absurd e.symm (h.inj _ _ hx h.lt)
theorem inj_le {g : Nat → Int} {n m : Nat} (hg : ∀ k, 0 ≤ g k ∧ g k < (n : Int)) (h : ∀ i j, i < j → j < m → g i ≠ g j) : m ≤ n := by
  rcases Nat.lt_or_ge n m with hlt | hge
  · obtain ⟨a, b, hab, hb, he⟩ := pigeon n g fun k _ => hg k
    exact absurd he (h a b hab (by omega))
  · exact hge
theorem RP.le {g : Nat → Int} {n a m : Nat} (h : RP g a m) (hg : ∀ k, 0 ≤ g k ∧ g k < (n : Int)) : m ≤ n := inj_le hg h.inj
/-- Powers from the index on come again with the period. -/
theorem pow_shift {t : List (List Int)} {x : Int} {a m : Nat} (h : RP (pow t x) a m) : ∀ k, a ≤ k → pow t x (k + (m - a)) = pow t x k := by
  intro k hk
  obtain ⟨d, rfl⟩ := Nat.exists_eq_add_of_le hk
  induction d with
  | zero => rw [Nat.add_zero, show a + (m - a) = m from by have := h.lt; omega]; exact h.eq
  | succ d ih =>
    have := ih (by omega)
    show pow t x (a + (d + 1) + (m - a)) = mu t (pow t x (a + d)) x
    rw [← this]
    show _ = pow t x (a + d + (m - a) + 1)
    congr 1; omega
theorem pow_shift_mul {t : List (List Int)} {x : Int} {a m : Nat} (h : RP (pow t x) a m) (q k : Nat) (hk : a ≤ k) : pow t x (k + q * (m - a)) = pow t x k := by
  induction q with
  | zero => simp
  | succ q ih => rw [Nat.succ_mul, ← Nat.add_assoc, pow_shift h _ (by omega), ih]
theorem pow_wrap {t : List (List Int)} {x : Int} {a m : Nat} (h : RP (pow t x) a m) (k : Nat) (hk : a ≤ k) : pow t x (a + (k - a) % (m - a)) = pow t x k := by
  have := pow_shift_mul h ((k - a) / (m - a)) (a + (k - a) % (m - a)) (by omega)
  rw [← this]
  congr 1
  have := Nat.mod_add_div (k - a) (m - a)
  rw [Nat.mul_comm] at this
  omega
/-- What the program and the reference say of a power: index and period, as numbers. -/
def ipR (t : List (List Int)) (x i p : Int) : Prop := ∃ a m : Nat, RP (pow t x) a m ∧ i = (a : Int) + 1 ∧ p = (m : Int) - a
theorem ipR.uniq {t : List (List Int)} {x i p i' p' : Int} (h : ipR t x i p) (k : ipR t x i' p') : i = i' ∧ p = p' := by
  obtain ⟨a, m, h1, rfl, rfl⟩ := h
  obtain ⟨b, l, k1, rfl, rfl⟩ := k
  obtain ⟨rfl, rfl⟩ := h1.uniq k1
  exact ⟨rfl, rfl⟩
/-- The idempotent power. -/
def omR (t : List (List Int)) (x r : Int) : Prop := ∃ j, r = pow t x j ∧ mu t r r = r
theorem omR.uniq {t : List (List Int)} (hv : VT t = true) {x : Int} (hx : 0 ≤ x ∧ x < t.length) {r r' : Int} (h : omR t x r) (k : omR t x r') : r = r' := by
  obtain ⟨a, rfl, ha⟩ := h
  obtain ⟨b, rfl, hb⟩ := k
  have id_pow : ∀ y : Int, mu t y y = y → ∀ c, pow t y c = y := fun y hy c => by
    induction c with
    | zero => rfl
    | succ c ih => show mu t (pow t y c) y = y; rw [ih, hy]
  have e1 := pow_pow hv hx a b
  have e2 := pow_pow hv hx b a
  rw [id_pow _ ha b] at e1
  rw [id_pow _ hb a, Nat.mul_comm] at e2
  rw [e1, e2]
/-- There is one among the powers up to the first that comes again. -/
theorem omR.mul {t : List (List Int)} (hv : VT t = true) {x : Int} (hx : 0 ≤ x ∧ x < t.length) {a m q : Nat} (h : RP (pow t x) a m) (hq : a + 1 ≤ q * (m - a)) : mu t (pow t x (q * (m - a) - 1)) (pow t x (q * (m - a) - 1)) = pow t x (q * (m - a) - 1) := by
  rw [pow_mu hv hx]
  have := pow_shift_mul h q (q * (m - a) - 1) (by omega)
  rw [← this]
  congr 1; omega
/-- The least multiple of the period that is not less than the index. -/
theorem ceil_mul {i p : Nat} (hi : 1 ≤ i) (hp : 1 ≤ p) : ∃ q, ((((i : Int) + p - 1).tdiv p) * p) = ((q * p : Nat) : Int) ∧ i ≤ q * p ∧ q * p ≤ i + p - 1 ∧ ((i : Int) + p - 1).tdiv p = q := by
  refine ⟨(i + p - 1) / p, ?_, ?_, ?_, ?_⟩
  · rw [show (i : Int) + p - 1 = ((i + p - 1 : Nat) : Int) from by omega, ← Int.ofNat_tdiv]; simp
  · have h1 := Nat.mod_add_div (i + p - 1) p
    have h2 := Nat.mod_lt (i + p - 1) (show 0 < p by omega)
    rw [Nat.mul_comm] at h1; omega
  · have := Nat.div_mul_le_self (i + p - 1) p; omega
  · rw [show (i : Int) + p - 1 = ((i + p - 1 : Nat) : Int) from by omega, ← Int.ofNat_tdiv]
end Sg
