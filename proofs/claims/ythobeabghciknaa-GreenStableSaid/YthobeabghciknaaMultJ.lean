/- Tables: generators chosen one after the other. Plain laws. -/
import Derived.Test.YthobeabghciknaaMultI
namespace Sg
open Go
set_option linter.unusedVariables false
set_option linter.unusedSimpArgs false

/-- A list that is closed under its generators. -/
structure CL (t : List (List Int)) (n : Nat) (G L : List Int) (mk : List Bool) : Prop where
  mi : MI t n G L mk
  gen : ∀ h ∈ G, h ∈ L
  rt : ∀ x ∈ L, ∀ h ∈ G, mu t x h ∈ L
theorem CL.all {t : List (List Int)} (hv : VT t = true) {G L : List Int} {mk : List Bool} (h : CL t t.length G L mk) (x : Int) : x ∈ L ↔ Clo t G x := by
  have T := SH.tb (VT.sh hv)
  have hG : ∀ y ∈ G, 0 ≤ y ∧ y < (t.length : Int) := fun y hy => h.mi.inn y (h.gen y hy)
  refine ⟨h.mi.clo x, fun hx => ?_⟩
  have mulr : ∀ z, Clo t G z → ∀ y ∈ L, mu t y z ∈ L := fun z hz => by
    induction hz with
    | gen hg => exact fun y hy => h.rt y hy _ hg
    | mul h1 h2 i1 i2 =>
      intro y hy
      rw [← (VT.as hv).all (h.mi.inn y hy) (h1.in_ T hG) (h2.in_ T hG)]
      exact i2 _ (i1 y hy)
  induction hx with
  | gen hg => exact h.gen _ hg
  | mul h1 h2 i1 i2 => exact mulr _ h2 _ i1
/-- A generator is being added: what the list holds when i elements are done. -/
structure GS (t : List (List Int)) (n : Nat) (G : List Int) (g : Int) (L0 : List Int) (i : Nat) (L : List Int) (mk : List Bool) : Prop where
  mi : MI t n (G ++ [g]) L mk
  pre : ∃ r, L = L0 ++ g :: r
  le : i ≤ L.length
  old : ∀ a : Nat, a < i → a < L0.length → mu t (ix L a) g ∈ L
  new : ∀ a : Nat, a < i → L0.length ≤ a → ∀ h ∈ G ++ [g], mu t (ix L a) h ∈ L
theorem GS.start {t : List (List Int)} {n : Nat} {G : List Int} {g : Int} {L0 : List Int} {mk : List Bool} (h : CL t n G L0 mk) (h0 : 0 ≤ g) (h1 : g < n) (hg : ¬ ix mk g = true) : GS t n G g L0 0 (L0 ++ [g]) (st mk g true) :=
  ⟨(h.mi.mono fun x hx => List.mem_append_left _ hx).add h0 h1 (.gen (by simp)) hg, ⟨[], rfl⟩, Nat.zero_le _, fun a ha => absurd ha (Nat.not_lt_zero _), fun a ha => absurd ha (Nat.not_lt_zero _)⟩
theorem ix_app {α : Type} [Inhabited α] {L r : List α} {a : Nat} (h : a < L.length) : ix (L ++ r) (a : Int) = ix L (a : Int) := by
  rw [ix_lt (by simp; omega), ix_lt h, List.getElem_append_left]
theorem GS.fin {t : List (List Int)} {n : Nat} {G : List Int} {g : Int} {L0 L : List Int} {mk0 mk : List Bool} (h0 : CL t n G L0 mk0) (h : GS t n G g L0 L.length L mk) : CL t n (G ++ [g]) L mk := by
  obtain ⟨r, hr⟩ := h.pre
  have sub : ∀ x ∈ L0, x ∈ L := fun x hx => by rw [hr]; simp [hx]
  refine ⟨h.mi, fun y hy => ?_, fun x hx y hy => ?_⟩
  · rcases List.mem_append.1 hy with hy | hy
    · exact sub y (h0.gen y hy)
    · rw [List.mem_singleton] at hy; subst hy; rw [hr]; simp
  · obtain ⟨a, ha, rfl⟩ := mem_ix.1 hx
    by_cases hal : a < L0.length
    · rcases List.mem_append.1 hy with hy | hy
      · have e1 : ix L (a : Int) = ix L0 (a : Int) := by rw [hr]; exact ix_app hal
        rw [e1]
        exact sub _ (h0.rt _ (ix_mem (by omega) (by omega)) y hy)
      · rw [List.mem_singleton] at hy; subst hy; exact h.old a ha hal
    · exact h.new a ha (by omega) y hy
theorem GS.grow {t : List (List Int)} {n : Nat} {G : List Int} {g : Int} {L0 : List Int} {i : Nat} {L : List Int} {mk : List Bool} (h : GS t n G g L0 i L mk) {x : Int} (x0 : 0 ≤ x) (x1 : x < n) (hc : Clo t (G ++ [g]) x) (hx : ¬ ix mk x = true) : GS t n G g L0 i (L ++ [x]) (st mk x true) := by
  obtain ⟨r, hr⟩ := h.pre
  have hle := h.le
  refine ⟨h.mi.add x0 x1 hc hx, ⟨r ++ [x], by rw [hr]; simp⟩, by simp; omega, fun a ha hal => ?_, fun a ha hal y hy => ?_⟩
  · rw [ix_app (by omega)]; exact List.mem_append_left _ (h.old a ha hal)
  · rw [ix_app (by omega)]; exact List.mem_append_left _ (h.new a ha hal y hy)
theorem GS.mem {t : List (List Int)} {n : Nat} {G : List Int} {g : Int} {L0 : List Int} {i : Nat} {L : List Int} {mk : List Bool} (h : GS t n G g L0 i L mk) {x : Int} (x0 : 0 ≤ x) (x1 : x < n) (hx : ix mk x = true) : x ∈ L := by
  obtain ⟨m, rfl⟩ := Int.eq_ofNat_of_zero_le x0
  exact (h.mi.mkd m (by omega)).1 hx
open Classical in
/-- The greedy choice. -/
noncomputable def gre (t : List (List Int)) : Nat → List Int
  | 0 => []
  | k + 1 => if Clo t (gre t k) k then gre t k else gre t k ++ [(k : Int)]
theorem gre_in {t : List (List Int)} : ∀ k, ∀ x ∈ gre t k, 0 ≤ x ∧ x < (k : Int)
  | 0, x, hx => by simp [gre] at hx
  | k + 1, x, hx => by
    unfold gre at hx
    split at hx
    · have := gre_in k x hx; omega
    · rcases List.mem_append.1 hx with hx | hx
      · have := gre_in k x hx; omega
      · rw [List.mem_singleton] at hx; omega
theorem gre_len {t : List (List Int)} : ∀ k, (gre t k).length ≤ k
  | 0 => by simp [gre]
  | k + 1 => by
    have := gre_len (t := t) k
    unfold gre
    split
    · omega
    · simp; omega
end Sg
