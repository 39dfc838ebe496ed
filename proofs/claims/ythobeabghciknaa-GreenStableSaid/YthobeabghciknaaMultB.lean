/- Tables: least triples, identity and zero, what elements generate. Plain laws. -/
import Derived.Test.YthobeabghciknaaMult
namespace Sg
open Go
set_option linter.unusedVariables false
set_option linter.unusedSimpArgs false

/-! ### The least triple that is not associative -/
def bad (t : List (List Int)) (x y z : Nat) : Prop := mu t (mu t x y) z ≠ mu t x (mu t y z)
def Fst (t : List (List Int)) (x y z : Nat) : Prop := x < t.length ∧ y < t.length ∧ z < t.length ∧ bad t x y z ∧ (∀ a b c : Nat, a < x → b < t.length → c < t.length → ¬ bad t a b c) ∧ (∀ b c : Nat, b < y → c < t.length → ¬ bad t x b c) ∧ ∀ c : Nat, c < z → ¬ bad t x y c
def AsR (t : List (List Int)) (x y z f : Int) : Prop := (f = 5 ∧ vaC t = 5 ∧ ∃ a b c : Nat, x = a ∧ y = b ∧ z = c ∧ Fst t a b c) ∨ (f ≠ 5 ∧ f = vaC t ∧ x = 0 ∧ y = 0 ∧ z = 0)
theorem Fst.uniq {t : List (List Int)} {x y z x' y' z' : Nat} (h : Fst t x y z) (k : Fst t x' y' z') : x = x' ∧ y = y' ∧ z = z' := by
  obtain ⟨h1, h2, h3, h4, h5, h6, h7⟩ := h
  obtain ⟨k1, k2, k3, k4, k5, k6, k7⟩ := k
  rcases Nat.lt_trichotomy x x' with hx | hx | hx
  · exact absurd h4 (k5 _ _ _ hx h2 h3)
  · subst hx
    rcases Nat.lt_trichotomy y y' with hy | hy | hy
    · exact absurd h4 (k6 _ _ hy h3)
    · subst hy
      rcases Nat.lt_trichotomy z z' with hz | hz | hz
      · exact absurd h4 (k7 _ hz)
      · exact ⟨rfl, rfl, hz⟩
      · exact absurd k4 (h7 _ hz)
    · exact absurd k4 (h6 _ _ hy k3)
  · exact absurd k4 (h5 _ _ _ hx k2 k3)
theorem AsR.uniq {t : List (List Int)} {x y z f x' y' z' f' : Int} (h : AsR t x y z f) (k : AsR t x' y' z' f') : x = x' ∧ y = y' ∧ z = z' ∧ f = f' := by
  rcases h with ⟨h1, h2, a, b, c, rfl, rfl, rfl, hf⟩ | ⟨h1, h2, rfl, rfl, rfl⟩ <;> rcases k with ⟨k1, k2, a', b', c', rfl, rfl, rfl, kf⟩ | ⟨k1, k2, rfl, rfl, rfl⟩
  · obtain ⟨rfl, rfl, rfl⟩ := hf.uniq kf
    exact ⟨rfl, rfl, rfl, by omega⟩
  · omega
  · omega
  · exact ⟨rfl, rfl, rfl, by omega⟩
theorem AsR.code {t : List (List Int)} {x y z f : Int} (h : AsR t x y z f) : f = vaC t := by
  rcases h with ⟨h1, h2, _⟩ | ⟨h1, h2, _⟩ <;> omega
theorem vaC_sh {t : List (List Int)} (h : vaC t = 5) : SH t = true := by
  unfold vaC at h
  by_cases hs : SH t = true
  · exact hs
  · rw [if_neg hs] at h; unfold shC at h; split at h
    · omega
    · simp at h
theorem vaC5 {t : List (List Int)} (ht : SH t = true) (h : ∃ x y z : Nat, x < t.length ∧ y < t.length ∧ z < t.length ∧ bad t x y z) : vaC t = 5 := by
  obtain ⟨x, y, z, hx, hy, hz, hb⟩ := h
  rw [vaC, if_pos ht, if_neg (fun ha => hb (ha x y z hx hy hz))]
theorem vaC_as {t : List (List Int)} (ht : SH t = true) (h : ∀ x y z : Nat, x < t.length → y < t.length → z < t.length → ¬ bad t x y z) : vaC t = 0 := by
  rw [vaC, if_pos ht, if_pos (show AS t from fun x y z hx hy hz => Classical.not_not.1 (h x y z hx hy hz))]
theorem ref14_Associative_ok {t : List (List Int)} {K : Int → Int → Int → Int → Prop} (h : ∀ x y z f, AsR t x y z f → K x y z f) : ref14_Associative t K := by
  unfold ref14_Associative
  refine ref14_Shape_ok ?_
  split
  · rename_i h0
    have ht := shC0.1 h0
    have T := SH.tb ht
    have n4 := T.n4
    refine fun _ => LoopWP.scan t.length (fun a => ∀ b c : Nat, b < t.length → c < t.length → ¬ bad t a b c) ?_
    intro x X hx hI hX
    show ref14_Associative_L1 t K _ x
    unfold ref14_Associative_L1
    split
    · have hxn : (x : Int) < t.length := by omega
      have r1 := T.row x (by omega) hxn
      refine LoopWP.scan t.length (fun b => ∀ c : Nat, c < t.length → ¬ bad t x b c) ?_
      intro y X2 hy hJ hX2
      show ref14_Associative_L2 t x _ K _ y
      unfold ref14_Associative_L2
      split
      · have hyn : (y : Int) < t.length := by omega
        have r2 := T.row y (by omega) hyn
        have m1 := T.mu (x := x) (y := y) (by omega) hxn (by omega) hyn
        unfold mu at m1
        have r3 := T.row _ m1.1 m1.2
        refine LoopWP.scan t.length (fun c => ¬ bad t x y c) ?_
        intro z X3 hz hL hX3
        show ref14_Associative_L3 t x y _ K _ z
        unfold ref14_Associative_L3
        split
        · have hzn : (z : Int) < t.length := by omega
          have m2 := T.mu (x := y) (y := z) (by omega) hyn (by omega) hzn
          unfold mu at m2
          refine ⟨by omega, by omega, by omega, by omega, m1.1, m1.2, by omega, by omega, by omega, by omega, by omega, by omega, by omega, by omega, m2.1, by omega, ?_⟩
          split
          · rename_i he
            exact hX3 (by omega) fun hb => hb he
          · rename_i he
            have hF : Fst t x y z := ⟨by omega, by omega, by omega, he, fun a b c ha => hI a ha b c, fun b c hb => hJ b hb c, hL⟩
            exact h _ _ _ _ (.inl ⟨rfl, vaC5 ht ⟨x, y, z, by omega, by omega, by omega, he⟩, x, y, z, rfl, rfl, rfl, hF⟩)
        · exact hX2 (by omega) fun c hc => hL c (by omega)
      · exact hX (by omega) fun b c hb hc => hJ b (by omega) c hc
    · have h5 := vaC_as ht fun a b c ha hb hc => hI a (by omega) b c hb hc
      exact h _ _ _ _ (.inr ⟨by omega, h5.symm, rfl, rfl, rfl⟩)
  · rename_i h0
    have hs : ¬ SH t = true := fun hh => h0 (shC0.2 hh)
    have e : vaC t = shC t := by rw [vaC, if_neg hs]
    exact h _ _ _ _ (.inr ⟨fun h5 => hs (vaC_sh (e.trans h5)), e.symm, rfl, rfl, rfl⟩)
theorem ref14_Validate_ok {t : List (List Int)} {K : Int → Prop} (h : K (vaC t)) : ref14_Validate t K := by
  unfold ref14_Validate
  exact ref14_Associative_ok fun x y z f hf => by rw [hf.code]; exact h
theorem ref14_Valid_ok {t : List (List Int)} {K : Bool → Prop} (h : K (VT t)) : ref14_Valid t K := by
  unfold ref14_Valid
  refine ref14_Validate_ok ?_
  by_cases hv : VT t = true
  · rw [if_pos (vaC0.2 hv)]; rw [hv] at h; exact h
  · rw [if_neg (fun hh => hv (vaC0.1 hh))]; rw [Bool.eq_false_iff.2 hv] at h; exact h
/-! ### Identity and zero -/
def isI (t : List (List Int)) (e : Nat) : Prop := ∀ x : Nat, x < t.length → mu t e x = x ∧ mu t x e = x
def isZ (t : List (List Int)) (e : Nat) : Prop := ∀ x : Nat, x < t.length → mu t e x = e ∧ mu t x e = e
/-- The first place where p holds, or -1. -/
def FR (n : Nat) (p : Nat → Prop) (r : Int) : Prop := (∃ e : Nat, e < n ∧ r = e ∧ p e ∧ ∀ j : Nat, j < e → ¬ p j) ∨ (r = -1 ∧ ∀ j : Nat, j < n → ¬ p j)
theorem FR.uniq {n : Nat} {p : Nat → Prop} {r r' : Int} (h : FR n p r) (k : FR n p r') : r = r' := by
  rcases h with ⟨e, h1, rfl, h2, h3⟩ | ⟨rfl, h⟩ <;> rcases k with ⟨e', k1, rfl, k2, k3⟩ | ⟨rfl, k⟩
  · rcases Nat.lt_trichotomy e e' with hx | hx | hx
    · exact absurd h2 (k3 _ hx)
    · rw [hx]
    · exact absurd k2 (h3 _ hx)
  · exact absurd h2 (k _ h1)
  · exact absurd k2 (h _ k1)
  · rfl
theorem FR.ex (p : Nat → Prop) (n : Nat) : ∃ r, FR n p r := by
  by_cases h : ∃ e, e < n ∧ p e
  · obtain ⟨e, he, hp⟩ := h
    obtain ⟨m, hm, hme, hmin⟩ := least_of p e hp
    exact ⟨m, .inl ⟨m, by omega, rfl, hm, hmin⟩⟩
  · exact ⟨-1, .inr ⟨rfl, fun j hj hp => h ⟨j, hj, hp⟩⟩⟩
def idR (t : List (List Int)) (r : Int) : Prop := FR t.length (isI t) r
def zeR (t : List (List Int)) (r : Int) : Prop := FR t.length (isZ t) r
theorem mult_elements_ok {t : List (List Int)} (n4 : t.length ≤ 400) {K : List Int → Prop} (h : K (iota t.length)) : mult_elements t K := by
  unfold mult_elements
  refine fun _ => ⟨by omega, by omega, LoopWP.fold t.length (fun k (l : List Int) => l.length = t.length ∧ ∀ j : Nat, j < k → ix l j = j) ⟨by simp, fun j hj => absurd hj (Nat.not_lt_zero _)⟩ ?_⟩
  intro k l X hk hI hX
  obtain ⟨hl, hI⟩ := hI
  show mult_elements_L1 t K _ k l
  unfold mult_elements_L1
  simp only [List.length_replicate]
  split
  · refine ⟨by omega, by omega, ⟨by omega, by omega⟩, hX _ (by omega) ⟨by simpa using hl, fun j hj => ?_⟩⟩
    rw [ix_st _ (by omega) (by omega) (by omega)]
    split
    · omega
    · exact hI j (by omega)
  · have : l = iota t.length := list_ix (by simpa using hl) fun j hj => by rw [hI j (by omega), ix_iota (by omega)]
    rw [← this] at h; exact h
end Sg
