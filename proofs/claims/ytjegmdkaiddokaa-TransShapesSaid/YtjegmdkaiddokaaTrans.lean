/- What the functions of transformations compute: plain laws, no program in sight. -/
import Derived.Test.YtjegmdkaiddokaaFns
import Derived.Test.YtjegmdkaiddokaaPSame
import Derived.Test.YtjegmdkaiddokaaPDisc
namespace Sg
open Go

/-! ### Lists of numbers -/
theorem trans_Identity_ok {n : Int} {K : List Int → Prop} (h : K (if 1 ≤ n ∧ n ≤ 32 then iota n.toNat else [])) : trans_Identity n K := by
  unfold trans_Identity
  split
  · rw [if_neg (by omega)] at h; exact h
  · split
    · rw [if_neg (by omega)] at h; exact h
    · rw [if_pos (by omega)] at h
      have := ref03_Discrete_ok (n := n) (by omega) (by omega) h
      exact this

/-! ### Which lists are transformations -/
def VF (f : List Int) : Bool := decide (1 ≤ f.length) && decide (f.length ≤ 32) && f.all fun x => decide (0 ≤ x) && decide (x < f.length)
theorem VF_iff {f : List Int} : VF f = true ↔ 1 ≤ f.length ∧ f.length ≤ 32 ∧ ∀ j : Nat, j < f.length → 0 ≤ ix f j ∧ ix f j < f.length := by
  have : (∀ x ∈ f, 0 ≤ x ∧ x < (f.length : Int)) ↔ ∀ j : Nat, j < f.length → 0 ≤ ix f j ∧ ix f j < f.length := forall_mem_ix (p := fun x => 0 ≤ x ∧ x < (f.length : Int))
  simp only [VF, Bool.and_eq_true, decide_eq_true_eq, List.all_eq_true, ← this, and_assoc]
theorem VF.at_ {f : List Int} (h : VF f = true) {i : Int} (h0 : 0 ≤ i) (h1 : i < f.length) : 0 ≤ ix f i ∧ ix f i < f.length := by
  obtain ⟨j, rfl⟩ := Int.eq_ofNat_of_zero_le h0
  exact (VF_iff.1 h).2.2 j (by omega)
theorem VF.len {f : List Int} (h : VF f = true) : 1 ≤ f.length ∧ f.length ≤ 32 := ⟨(VF_iff.1 h).1, (VF_iff.1 h).2.1⟩
theorem VF_false {f : List Int} (h : ¬ (1 ≤ f.length ∧ f.length ≤ 32 ∧ ∀ j : Nat, j < f.length → 0 ≤ ix f j ∧ ix f j < f.length)) : VF f = false := by
  rw [Bool.eq_false_iff, ne_eq, VF_iff]; exact h
theorem ref11_Valid_ok {f : List Int} {K : Bool → Prop} (h : K (VF f)) : ref11_Valid f K := by
  unfold ref11_Valid
  intro hm
  split
  · rw [VF_false (by omega)] at h; exact h
  · split
    · rw [VF_false (by omega)] at h; exact h
    · refine LoopWP.to f.length (fun k : Nat => k) (fun k => k ≤ f.length ∧ ∀ j : Nat, j < k → 0 ≤ ix f j ∧ ix f j < f.length) ⟨by omega, fun j hj => by omega⟩ (fun s h => h.1) ?_
      rintro k X ⟨hk, hI⟩ hX
      show ref11_Valid_L1 f K X k
      unfold ref11_Valid_L1
      split
      · refine ⟨by omega, by omega, ?_⟩
        split
        · rw [VF_false (fun hv => by have := hv.2.2 k (by omega); omega)] at h; exact h
        · split
          · rw [VF_false (fun hv => by have := hv.2.2 k (by omega); omega)] at h; exact h
          · refine hX (k + 1) ⟨by omega, fun j hj => ?_⟩ rfl
            by_cases hjk : j = k
            · subst hjk; omega
            · exact hI j (by omega)
      · rw [VF_iff.2 ⟨by omega, by omega, fun j hj => hI j (by omega)⟩] at h; exact h
theorem trans_Valid_ok {f : List Int} {K : Bool → Prop} (h : K (VF f)) : trans_Valid f K := ref11_Valid_ok h

/-! ### Products -/
def compF (f g : List Int) : List Int := f.map fun x => ix g x
@[simp] theorem compF_length (f g : List Int) : (compF f g).length = f.length := by simp [compF]
theorem ix_compF {f g : List Int} {i : Int} (h0 : 0 ≤ i) (h1 : i < f.length) : ix (compF f g) i = ix g (ix f i) := ix_map _ h0 h1
theorem ref11_Compose_ok {f g : List Int} {K : List Int → Prop} (hl : f.length ≤ 1099511627776) (hg : ∀ j : Nat, j < f.length → 0 ≤ ix f j ∧ ix f j < g.length) (h : K (compF f g)) : ref11_Compose f g K := by
  unfold ref11_Compose
  intro hm
  refine ⟨by omega, by omega, ?_⟩
  refine LoopWP.to f.length (fun s : Nat × List Int => s.1) (fun s => s.1 ≤ f.length ∧ s.2.length = f.length ∧ ∀ j : Nat, j < s.1 → ix s.2 j = ix g (ix f j)) ⟨by simp, by simp, fun j hj => by simp at hj⟩ (fun s h => h.1) ?_
  rintro ⟨k, p⟩ X ⟨hk, hpl, hI⟩ hX
  simp only at hk hpl hI
  show ref11_Compose_L1 f g K _ k p
  unfold ref11_Compose_L1
  split
  · have := hg k (by omega)
    refine ⟨by omega, by omega, by omega, by omega, by omega, by omega, hX (k + 1, _) ⟨by simp only; omega, by simpa using hpl, fun j hj => ?_⟩ rfl⟩
    simp only at hj ⊢
    rw [ix_st _ (by omega) (by omega) (by omega)]
    split
    · rename_i he; rw [he]
    · exact hI j (by omega)
  · have : p = compF f g := list_ix (by simpa using hpl) fun j hj => by rw [hI j (by omega), ix_compF (by omega) (by omega)]
    rw [← this] at h; exact h
/-- Two transformations of as many points. -/
def pairB (f g : List Int) : Bool := VF f && VF g && decide (f.length = g.length)
def compT (f g : List Int) : List Int := if pairB f g = true then compF f g else []
theorem pairB_iff {f g : List Int} : pairB f g = true ↔ VF f = true ∧ VF g = true ∧ f.length = g.length := by simp [pairB, and_assoc]
theorem trans_Compose_ok {f g : List Int} {K : List Int → Prop} (h : K (compT f g)) : trans_Compose f g K := by
  unfold trans_Compose
  intro hm hm'
  split
  · rename_i hl
    refine trans_Valid_ok ?_
    split
    · rename_i hf
      refine trans_Valid_ok ?_
      split
      · rename_i hg
        have hp : pairB f g = true := pairB_iff.2 ⟨hf, hg, by omega⟩
        rw [compT, if_pos hp] at h
        have := ref11_Compose_ok (f := f) (g := g) (K := K) (by have := hf |> VF.len; omega) (fun j hj => by have := (VF_iff.1 hf).2.2 j hj; omega) h
        exact this hm
      · rename_i hg
        rw [compT, if_neg (by rw [pairB_iff]; exact fun h => hg h.2.1)] at h; exact h
    · rename_i hf
      rw [compT, if_neg (by rw [pairB_iff]; exact fun h => hf h.1)] at h; exact h
  · rename_i hl
    rw [compT, if_neg (by rw [pairB_iff]; exact fun h => hl (by rw [h.2.2]))] at h; exact h
theorem law11_pair_ok {f g : List Int} {K : Bool → Prop} (h : K (pairB f g)) : law11_pair f g K := by
  unfold law11_pair
  refine ref11_Valid_ok ?_
  split
  · rename_i hf
    refine ref11_Valid_ok ?_
    split
    · rename_i hg
      intro _ _
      split
      · rw [pairB_iff.2 ⟨hf, hg, by omega⟩] at h; exact h
      · have : pairB f g = false := by rw [Bool.eq_false_iff, ne_eq, pairB_iff]; omega
        rw [this] at h; exact h
    · rename_i hg
      have : pairB f g = false := by rw [Bool.eq_false_iff, ne_eq, pairB_iff]; exact fun h => hg h.2.1
      rw [this] at h; exact h
  · rename_i hf
    have : pairB f g = false := by rw [Bool.eq_false_iff, ne_eq, pairB_iff]; exact fun h => hf h.1
    rw [this] at h; exact h
theorem law11_awake_ok {K : Bool → Prop} (h : K true) : law11_awake K := by
  unfold law11_awake
  refine trans_Compose_ok (ref03_Same_ok ?_)
  have : decide (compT [1, 2, 0] [0, 0, 2] = [0, 2, 0]) = true := by decide
  rw [this]; exact h
theorem compT_length {f g : List Int} (h : pairB f g = false) : compT f g = [] := by rw [compT, h]; rfl
theorem law11_TransComposes_ok (f g : List Int) : law11_TransComposes f g (fun b => b = true) := by
  unfold law11_TransComposes
  refine trans_Compose_ok (law11_pair_ok ?_)
  split
  · rename_i hp
    obtain ⟨hf, hg, hl⟩ := pairB_iff.1 hp
    refine ref11_Compose_ok (by have := VF.len hf; omega) (fun j hj => by have := (VF_iff.1 hf).2.2 j hj; omega) (ref03_Same_ok ?_)
    rw [compT, if_pos hp]
    simp only [decide_true, if_true]
    exact law11_awake_ok rfl
  · rename_i hp
    rw [compT_length (by simpa using hp)]
    intro _
    simp only [List.length_nil]
    exact law11_awake_ok rfl
theorem law11_TransValid_ok (f : List Int) (n : Int) (_hn : I64 n) : law11_TransValid f n (fun b => b = true) := by
  unfold law11_TransValid
  refine trans_Identity_ok ?_
  by_cases hn : 1 ≤ n ∧ n ≤ 32
  · rw [if_pos hn, if_neg (by omega), if_neg (by omega)]
    refine trans_Valid_ok (ref11_Valid_ok ?_)
    cases VF f
    all_goals
      refine ref03_Discrete_ok (by omega) (by omega) (ref03_Same_ok ?_)
      simp only [decide_true, if_true]
      exact law11_awake_ok rfl
  · rw [if_neg hn]
    split
    · refine trans_Valid_ok (ref11_Valid_ok ?_)
      cases VF f <;> exact fun _ => law11_awake_ok rfl
    · rw [if_pos (by omega)]
      refine trans_Valid_ok (ref11_Valid_ok ?_)
      cases VF f <;> exact fun _ => law11_awake_ok rfl
end Sg
