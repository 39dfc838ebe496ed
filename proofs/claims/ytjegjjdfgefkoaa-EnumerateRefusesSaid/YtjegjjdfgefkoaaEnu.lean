/- PDisc, PSame, PWord, Trans, TransB, TransC, Enum, EnumB, EnumC, EnumD, EnumE, EnumF, EnumG, EnumH, EnumI, EnumJ, EnumK, EnumL, EnumM, EnumN, EnumO, EnumP, EnumQ, EnumR, EnumS, EnumT, EnumU, EnumV, EnumW, EnumX, EnumY, EnumZ, merged. -/
import Derived.Test.YtjegjjdfgefkoaaFns
import Derived.Test.YtjegjjdfgefkoaaGen
import Derived.Test.YtjegjjdfgefkoaaBits
import Derived.Test.YtjegjjdfgefkoaaPStr
import Derived.Test.YtjegjjdfgefkoaaEv
namespace Sg
open Go
set_option linter.unusedVariables false
set_option linter.unusedSimpArgs false
theorem ref03_Discrete_ok {n : Int} {K : List Int → Prop} (h0 : 0 ≤ n) (h1 : n ≤ 1099511627776) (h : K (iota n.toNat)) : ref03_Discrete n K := by
  unfold ref03_Discrete
  refine ⟨h0, h1, ?_⟩
  refine LoopWP.to n.toNat (fun s : Nat × List Int => s.1) (fun s => s.1 ≤ n.toNat ∧ s.2.length = n.toNat ∧ ∀ j : Nat, j < s.1 → ix s.2 j = j) ⟨by simp, by simp, fun j hj => by simp at hj⟩ (fun s h => h.1) ?_
  rintro ⟨k, p⟩ X ⟨hk, hl, hI⟩ hX
  simp only at hk hl hI
  show ref03_Discrete_L1 n K _ k p
  unfold ref03_Discrete_L1
  simp only [List.length_replicate]
  split
  · refine ⟨by omega, by omega, ⟨by omega, by omega⟩, hX (k + 1, _) ⟨by simp only; omega, by simpa using hl, fun j hj => ?_⟩ rfl⟩
    simp only at hj ⊢
    rw [ix_st _ (by omega) (by omega) (by omega)]
    split
    · omega
    · exact hI j (by omega)
  · have : p = iota n.toNat := list_ix (by simpa using hl) fun j hj => by rw [hI j (by omega), ix_iota (by omega)]
    rw [← this] at h; exact h
end Sg
namespace Sg
open Go
set_option linter.unusedVariables false
set_option linter.unusedSimpArgs false
theorem ref03_Same_ok {a b : List Int} {K : Bool → Prop} (h : K (decide (a = b))) : ref03_Same a b K := by
  unfold ref03_Same
  intro ha hb
  split
  · rename_i hl
    have hl' : a.length = b.length := by omega
    refine LoopWP.to a.length (fun k : Nat => k) (fun k => k ≤ a.length ∧ ∀ j : Nat, j < k → ix a j = ix b j) ⟨by omega, fun j hj => by omega⟩ (fun s h => h.1) ?_
    rintro k X ⟨hk, hI⟩ hX
    show ref03_Same_L1 a b K X k
    unfold ref03_Same_L1
    split
    · refine ⟨by omega, by omega, by omega, by omega, ?_⟩
      split
      · rename_i he
        refine hX (k + 1) ⟨by omega, fun j hj => ?_⟩ rfl
        by_cases hjk : j = k
        · subst hjk; exact he
        · exact hI j (by omega)
      · rename_i hne
        have : a ≠ b := fun h => hne (by rw [h])
        simpa [this] using h
    · have : a = b := list_ix hl' fun j hj => hI j (by omega)
      simpa [this] using h
  · rename_i hl
    have : a ≠ b := fun h => hl (by rw [h])
    simpa [this] using h

theorem ref03_SameRows_ok {a b : List (List Int)} {K : Bool → Prop} (h : K (decide (a = b))) : ref03_SameRows a b K := by
  unfold ref03_SameRows
  intro ha hb
  split
  · rename_i hl
    have hl' : a.length = b.length := by omega
    refine LoopWP.to a.length (fun k : Nat => k) (fun k => k ≤ a.length ∧ ∀ j : Nat, j < k → ix a j = ix b j) ⟨by omega, fun j hj => by omega⟩ (fun s h => h.1) ?_
    rintro k X ⟨hk, hI⟩ hX
    show ref03_SameRows_L1 a b K X k
    unfold ref03_SameRows_L1
    split
    · refine ⟨by omega, by omega, by omega, by omega, ref03_Same_ok ?_⟩
      by_cases he : ix a (k : Int) = ix b (k : Int)
      · rw [if_pos (by simpa using he)]
        refine hX (k + 1) ⟨by omega, fun j hj => ?_⟩ rfl
        by_cases hjk : j = k
        · subst hjk; exact he
        · exact hI j (by omega)
      · rw [if_neg (by simpa using he)]
        have : a ≠ b := fun h => he (by rw [h])
        simpa [this] using h
    · have : a = b := list_ix hl' fun j hj => hI j (by omega)
      simpa [this] using h
  · rename_i hl
    have : a ≠ b := fun h => hl (by rw [h])
    simpa [this] using h
end Sg
namespace Sg
open Go
set_option linter.unusedVariables false
set_option linter.unusedSimpArgs false
theorem word_Valid_ok {w : Str} {n : Int} {K : Bool → Prop} (h : K (WV w n)) : word_Valid w n K := by
  unfold word_Valid
  split
  · rw [WV_false (by omega)] at h; exact h
  · split
    · rw [WV_false (by omega)] at h; exact h
    · intro _
      split
      · rw [WV_false (by omega)] at h; exact h
      · refine LoopWP.to w.length (fun k : Nat => k) (fun k => k ≤ w.length ∧ ∀ j : Nat, j < k → 97 ≤ (ix w j).toNat ∧ ((ix w j).toNat : Int) - 97 < n) ⟨by omega, fun j hj => by omega⟩ (fun s h => h.1) ?_
        rintro k X ⟨hk, hI⟩ hX
        show word_Valid_L1 w n K X k
        unfold word_Valid_L1
        split
        · refine ⟨by omega, by omega, ?_⟩
          split
          · rw [WV_false (fun hv => by have := hv.2.2.2 k (by omega); omega)] at h; exact h
          · rename_i hlo
            refine ⟨by omega, by omega, ?_⟩
            rw [wrapL (by omega)]
            split
            · rw [WV_false (fun hv => by have := hv.2.2.2 k (by omega); omega)] at h; exact h
            · refine hX (k + 1) ⟨by omega, fun j hj => ?_⟩ rfl
              by_cases hjk : j = k
              · subst hjk; exact ⟨by omega, by omega⟩
              · exact hI j (by omega)
        · rw [WV_iff.2 ⟨by omega, by omega, by omega, fun j hj => hI j (by omega)⟩] at h; exact h
end Sg
namespace Sg
open Go
set_option linter.unusedVariables false
set_option linter.unusedSimpArgs false

/-! ### Lists of numbers -/
theorem trans_Identity_ok {n : Int} {K : List Int → Prop} (h : K (if 1 ≤ n ∧ n ≤ 32 then iota n.toNat else [])) : trans_Identity n K := by
  unfold trans_Identity
  split
  · rw [if_neg (by omega)] at h; exact h
  · split
    · rw [if_neg (by omega)] at h; exact h
    · rw [if_pos (by omega)] at h
      have := ref03_Discrete_ok (n := n) (by omega) (by omega) h
      exact this

/-! ### Which lists are transformations -/
def VF (f : List Int) : Bool := decide (1 ≤ f.length) && decide (f.length ≤ 32) && f.all fun x => decide (0 ≤ x) && decide (x < f.length)
theorem VF_iff {f : List Int} : VF f = true ↔ 1 ≤ f.length ∧ f.length ≤ 32 ∧ ∀ j : Nat, j < f.length → 0 ≤ ix f j ∧ ix f j < f.length := by
  have : (∀ x ∈ f, 0 ≤ x ∧ x < (f.length : Int)) ↔ ∀ j : Nat, j < f.length → 0 ≤ ix f j ∧ ix f j < f.length := forall_mem_ix (p := fun x => 0 ≤ x ∧ x < (f.length : Int))
  simp only [VF, Bool.and_eq_true, decide_eq_true_eq, List.all_eq_true, ← this, and_assoc]
theorem VF.at_ {f : List Int} (h : VF f = true) {i : Int} (h0 : 0 ≤ i) (h1 : i < f.length) : 0 ≤ ix f i ∧ ix f i < f.length := by
  obtain ⟨j, rfl⟩ := Int.eq_ofNat_of_zero_le h0
  exact (VF_iff.1 h).2.2 j (by omega)
theorem VF.len {f : List Int} (h : VF f = true) : 1 ≤ f.length ∧ f.length ≤ 32 := ⟨(VF_iff.1 h).1, (VF_iff.1 h).2.1⟩
theorem VF_false {f : List Int} (h : ¬ (1 ≤ f.length ∧ f.length ≤ 32 ∧ ∀ j : Nat, j < f.length → 0 ≤ ix f j ∧ ix f j < f.length)) : VF f = false := by
  rw [Bool.eq_false_iff, ne_eq, VF_iff]; exact h
theorem ref11_Valid_ok {f : List Int} {K : Bool → Prop} (h : K (VF f)) : ref11_Valid f K := by
  unfold ref11_Valid
  intro hm
  split
  · rw [VF_false (by omega)] at h; exact h
  · split
    · rw [VF_false (by omega)] at h; exact h
    · refine LoopWP.to f.length (fun k : Nat => k) (fun k => k ≤ f.length ∧ ∀ j : Nat, j < k → 0 ≤ ix f j ∧ ix f j < f.length) ⟨by omega, fun j hj => by omega⟩ (fun s h => h.1) ?_
      rintro k X ⟨hk, hI⟩ hX
      show ref11_Valid_L1 f K X k
      unfold ref11_Valid_L1
      split
      · refine ⟨by omega, by omega, ?_⟩
        split
        · rw [VF_false (fun hv => by have := hv.2.2 k (by omega); omega)] at h; exact h
        · split
          · rw [VF_false (fun hv => by have := hv.2.2 k (by omega); omega)] at h; exact h
          · refine hX (k + 1) ⟨by omega, fun j hj => ?_⟩ rfl
            by_cases hjk : j = k
            · subst hjk; omega
            · exact hI j (by omega)
      · rw [VF_iff.2 ⟨by omega, by omega, fun j hj => hI j (by omega)⟩] at h; exact h
theorem trans_Valid_ok {f : List Int} {K : Bool → Prop} (h : K (VF f)) : trans_Valid f K := ref11_Valid_ok h

/-! ### Products -/
def compF (f g : List Int) : List Int := f.map fun x => ix g x
@[simp] theorem compF_length (f g : List Int) : (compF f g).length = f.length := by simp [compF]
theorem ix_compF {f g : List Int} {i : Int} (h0 : 0 ≤ i) (h1 : i < f.length) : ix (compF f g) i = ix g (ix f i) := ix_map _ h0 h1
theorem ref11_Compose_ok {f g : List Int} {K : List Int → Prop} (hl : f.length ≤ 1099511627776) (hg : ∀ j : Nat, j < f.length → 0 ≤ ix f j ∧ ix f j < g.length) (h : K (compF f g)) : ref11_Compose f g K := by
  unfold ref11_Compose
  intro hm
  refine ⟨by omega, by omega, ?_⟩
  refine LoopWP.to f.length (fun s : Nat × List Int => s.1) (fun s => s.1 ≤ f.length ∧ s.2.length = f.length ∧ ∀ j : Nat, j < s.1 → ix s.2 j = ix g (ix f j)) ⟨by simp, by simp, fun j hj => by simp at hj⟩ (fun s h => h.1) ?_
  rintro ⟨k, p⟩ X ⟨hk, hpl, hI⟩ hX
  simp only at hk hpl hI
  show ref11_Compose_L1 f g K _ k p
  unfold ref11_Compose_L1
  split
  · have := hg k (by omega)
    refine ⟨by omega, by omega, by omega, by omega, by omega, by omega, hX (k + 1, _) ⟨by simp only; omega, by simpa using hpl, fun j hj => ?_⟩ rfl⟩
    simp only at hj ⊢
    rw [ix_st _ (by omega) (by omega) (by omega)]
    split
    · rename_i he; rw [he]
    · exact hI j (by omega)
  · have : p = compF f g := list_ix (by simpa using hpl) fun j hj => by rw [hI j (by omega), ix_compF (by omega) (by omega)]
    rw [← this] at h; exact h
/-- Two transformations of as many points. -/
def pairB (f g : List Int) : Bool := VF f && VF g && decide (f.length = g.length)
def compT (f g : List Int) : List Int := if pairB f g = true then compF f g else []
theorem pairB_iff {f g : List Int} : pairB f g = true ↔ VF f = true ∧ VF g = true ∧ f.length = g.length := by simp [pairB, and_assoc]
theorem trans_Compose_ok {f g : List Int} {K : List Int → Prop} (h : K (compT f g)) : trans_Compose f g K := by
  unfold trans_Compose
  intro hm hm'
  split
  · rename_i hl
    refine trans_Valid_ok ?_
    split
    · rename_i hf
      refine trans_Valid_ok ?_
      split
      · rename_i hg
        have hp : pairB f g = true := pairB_iff.2 ⟨hf, hg, by omega⟩
        rw [compT, if_pos hp] at h
        have := ref11_Compose_ok (f := f) (g := g) (K := K) (by have := hf |> VF.len; omega) (fun j hj => by have := (VF_iff.1 hf).2.2 j hj; omega) h
        exact this hm
      · rename_i hg
        rw [compT, if_neg (by rw [pairB_iff]; exact fun h => hg h.2.1)] at h; exact h
    · rename_i hf
      rw [compT, if_neg (by rw [pairB_iff]; exact fun h => hf h.1)] at h; exact h
  · rename_i hl
    rw [compT, if_neg (by rw [pairB_iff]; exact fun h => hl (by rw [h.2.2]))] at h; exact h
end Sg
namespace Sg
open Go
set_option linter.unusedVariables false
set_option linter.unusedSimpArgs false

/-! ### Images of sets -/
theorem VF_compF {f g : List Int} (hf : VF f = true) (hg : VF g = true) (hl : f.length = g.length) : VF (compF f g) = true := by
  rw [VF_iff]
  have := VF.len hf
  refine ⟨by simp; omega, by simp; omega, fun j hj => ?_⟩
  simp only [compF_length] at hj ⊢
  have h1 := (VF_iff.1 hf).2.2 j hj
  rw [ix_compF (by omega) (by omega)]
  have h2 := VF.at_ hg h1.1 (by omega)
  omega
/-! ### Powers -/
def itr (f : List Int) : Nat → Int → Int
  | 0, x => x
  | k + 1, x => itr f k (ix f x)
/-- The power of a transformation. -/
def pw (f : List Int) (k : Nat) : List Int := (iota f.length).map (itr f k)
@[simp] theorem pw_length (f : List Int) (k : Nat) : (pw f k).length = f.length := by simp [pw]
end Sg
namespace Sg
open Go
set_option linter.unusedVariables false
set_option linter.unusedSimpArgs false

/-! ### Words -/

/-! ### The transformation of a word -/
/-- Generators of as many points. -/
def GV (gens : List (List Int)) : Bool := decide (1 ≤ gens.length) && decide (gens.length ≤ 6) && gens.all fun f => VF f && decide (f.length = (ix gens 0).length)
theorem GV_iff {gens : List (List Int)} : GV gens = true ↔ 1 ≤ gens.length ∧ gens.length ≤ 6 ∧ ∀ j : Nat, j < gens.length → VF (ix gens j) = true ∧ (ix gens j).length = (ix gens 0).length := by
  have : (∀ x ∈ gens, VF x = true ∧ x.length = (ix gens 0).length) ↔ ∀ j : Nat, j < gens.length → VF (ix gens j) = true ∧ (ix gens j).length = (ix gens 0).length := forall_mem_ix (p := fun x : List Int => VF x = true ∧ x.length = (ix gens 0).length)
  simp only [GV, Bool.and_eq_true, decide_eq_true_eq, List.all_eq_true, ← this, and_assoc]
theorem GV_false {gens : List (List Int)} (h : ¬ (1 ≤ gens.length ∧ gens.length ≤ 6 ∧ ∀ j : Nat, j < gens.length → VF (ix gens j) = true ∧ (ix gens j).length = (ix gens 0).length)) : GV gens = false := by
  rw [Bool.eq_false_iff, ne_eq, GV_iff]; exact h
theorem ref11_MayGens_ok {gens : List (List Int)} {K : Bool → Prop} (h : K (GV gens)) : ref11_MayGens gens K := by
  unfold ref11_MayGens
  intro _
  split
  · rw [GV_false (by omega)] at h; exact h
  · split
    · rw [GV_false (by omega)] at h; exact h
    · refine LoopWP.to gens.length (fun k : Nat => k) (fun k => k ≤ gens.length ∧ ∀ j : Nat, j < k → VF (ix gens j) = true ∧ (ix gens j).length = (ix gens 0).length) ⟨by omega, fun j hj => by omega⟩ (fun s h => h.1) ?_
      rintro k X ⟨hk, hI⟩ hX
      show ref11_MayGens_L1 gens K X k
      unfold ref11_MayGens_L1
      split
      · refine ⟨by omega, by omega, ref11_Valid_ok ?_⟩
        split
        · rename_i hv
          refine fun _ => ⟨by omega, by omega, fun _ => ?_⟩
          split
          · refine hX (k + 1) ⟨by omega, fun j hj => ?_⟩ rfl
            by_cases hjk : j = k
            · subst hjk; exact ⟨hv, by omega⟩
            · exact hI j (by omega)
          · rw [GV_false (fun hg => by have := (hg.2.2 k (by omega)).2; omega)] at h; exact h
        · rename_i hv
          rw [GV_false (fun hg => hv (hg.2.2 k (by omega)).1)] at h; exact h
      · rw [GV_iff.2 ⟨by omega, by omega, fun j hj => hI j (by omega)⟩] at h; exact h
def stepW (gens : List (List Int)) (f : List Int) (b : UInt8) : List Int := compF f (ix gens ((b.toNat : Int) - 97))
def runW (gens : List (List Int)) (f : List Int) (w : Str) : List Int := w.foldl (stepW gens) f
theorem VF_iota {n : Nat} (h1 : 1 ≤ n) (h2 : n ≤ 32) : VF (iota n) = true := by
  rw [VF_iff]
  refine ⟨by simpa using h1, by simpa using h2, fun j hj => ?_⟩
  rw [iota_length] at hj
  rw [ix_iota hj, iota_length]; omega
def ofWord (gens : List (List Int)) (w : Str) : List Int := runW gens (iota (ix gens 0).length) w
theorem GV.len0 {gens : List (List Int)} (hg : GV gens = true) : 1 ≤ (ix gens 0).length ∧ (ix gens 0).length ≤ 32 := by
  have h := (GV_iff.1 hg)
  exact VF.len (h.2.2 0 (by omega)).1
theorem compF_assoc {a b c : List Int} (ha : ∀ j : Nat, j < a.length → 0 ≤ ix a j ∧ ix a j < b.length) : compF (compF a b) c = compF a (compF b c) := list_ix (by simp) fun j hj => by
  simp only [compF_length] at hj
  have := ha j hj
  rw [ix_compF (by omega) (by simp; omega), ix_compF (by omega) (by omega), ix_compF (by omega) (by omega), ix_compF (by omega) (by omega)]
theorem compF_iota (g : List Int) {n : Nat} (hg : ∀ j : Nat, j < g.length → 0 ≤ ix g j ∧ ix g j < n) : compF g (iota n) = g := list_ix (by simp) fun j hj => by
  simp only [compF_length] at hj
  have := hg j hj
  rw [ix_compF (by omega) (by omega), ix_iota' this.1 this.2]
end Sg
namespace Sg
open Go
set_option linter.unusedVariables false
set_option linter.unusedSimpArgs false

theorem u8_lt {a b : UInt8} : a < b ↔ a.toNat < b.toNat := UInt8.lt_iff_toNat_lt
theorem u8_eq {a b : UInt8} (h : a.toNat = b.toNat) : a = b := UInt8.toNat_inj.1 h
theorem slt_cons {a b : UInt8} {x y : Str} : slt (a :: x) (b :: y) = true ↔ a.toNat < b.toNat ∨ (a = b ∧ slt x y = true) := by
  simp [slt, u8_lt]
theorem slt_irrefl : ∀ w : Str, slt w w = false
  | [] => rfl
  | a :: w => by
    rw [Bool.eq_false_iff, ne_eq, slt_cons, slt_irrefl w]
    simp
theorem slt_trans : ∀ {u v w : Str}, slt u v = true → slt v w = true → slt u w = true
  | _, [], _, h, _ => by simp [slt] at h
  | _, _ :: _, [], _, h => by simp [slt] at h
  | [], _ :: _, _ :: _, _, _ => rfl
  | a :: u, b :: v, c :: w, h, k => by
    rw [slt_cons] at *
    rcases h with h | ⟨rfl, h⟩
    · rcases k with k | ⟨rfl, k⟩
      · exact .inl (by omega)
      · exact .inl h
    · rcases k with k | ⟨rfl, k⟩
      · exact .inl k
      · exact .inr ⟨rfl, slt_trans h k⟩
theorem slt_total : ∀ {u v : Str}, u.length = v.length → slt u v = true ∨ u = v ∨ slt v u = true
  | [], [], _ => .inr (.inl rfl)
  | a :: u, b :: v, h => by
    simp only [List.length_cons, Nat.add_right_cancel_iff] at h
    rw [slt_cons, slt_cons]
    by_cases hab : a.toNat = b.toNat
    · have hab := u8_eq hab
      subst hab
      rcases slt_total h with k | rfl | k
      · exact .inl (.inr ⟨rfl, k⟩)
      · exact .inr (.inl rfl)
      · exact .inr (.inr (.inr ⟨rfl, k⟩))
    · by_cases hl : a.toNat < b.toNat
      · exact .inl (.inl hl)
      · exact .inr (.inr (.inl (by omega)))
theorem slt_app {p q u v : Str} (hl : p.length = q.length) (h : slt p q = true) : slt (p ++ u) (q ++ v) = true := by
  induction p generalizing q with
  | nil => cases q with
    | nil => simp [slt] at h
    | cons b q => simp at hl
  | cons a p ih => cases q with
    | nil => simp at hl
    | cons b q =>
      simp only [List.length_cons, Nat.add_right_cancel_iff] at hl
      rw [List.cons_append, List.cons_append, slt_cons]
      rw [slt_cons] at h
      rcases h with h | ⟨h1, h2⟩
      · exact .inl h
      · exact .inr ⟨h1, ih hl h2⟩
theorem slt_pre (p : Str) {u v : Str} : slt (p ++ u) (p ++ v) = slt u v := by
  induction p with
  | nil => rfl
  | cons a p ih =>
    rw [Bool.eq_iff_iff, List.cons_append, List.cons_append, slt_cons, ih]
    simp

/-- u comes ahead of v. -/
def SL (u v : Str) : Prop := u.length < v.length ∨ (u.length = v.length ∧ slt u v = true)
theorem SL.irrefl (w : Str) : ¬ SL w w := fun h => by
  rcases h with h | ⟨_, h⟩
  · omega
  · rw [slt_irrefl] at h; cases h
theorem SL.trans {u v w : Str} (h : SL u v) (k : SL v w) : SL u w := by
  rcases h with h | ⟨h, h2⟩ <;> rcases k with k | ⟨k, k2⟩
  · exact .inl (by omega)
  · exact .inl (by omega)
  · exact .inl (by omega)
  · exact .inr ⟨by omega, slt_trans h2 k2⟩
theorem SL.total (u v : Str) : SL u v ∨ u = v ∨ SL v u := by
  by_cases h : u.length = v.length
  · rcases slt_total h with k | k | k
    · exact .inl (.inr ⟨h, k⟩)
    · exact .inr (.inl k)
    · exact .inr (.inr (.inr ⟨h.symm, k⟩))
  · by_cases h2 : u.length < v.length
    · exact .inl (.inl h2)
    · exact .inr (.inr (.inl (by omega)))
theorem SL.asymm {u v : Str} (h : SL u v) : ¬ SL v u := fun k => SL.irrefl u (h.trans k)
theorem SL.app_right {u v : Str} (h : SL u v) (w : Str) : SL (u ++ w) (v ++ w) := by
  rcases h with h | ⟨h, k⟩
  · exact .inl (by simp; omega)
  · exact .inr ⟨by simp [h], slt_app h k⟩
theorem SL.app_left {u v : Str} (h : SL u v) (w : Str) : SL (w ++ u) (w ++ v) := by
  rcases h with h | ⟨h, k⟩
  · exact .inl (by simp; omega)
  · exact .inr ⟨by simp [h], by rw [slt_pre]; exact k⟩
/-- A word with one letter more. -/
theorem SL.snoc {u v : Str} {a b : UInt8} (h : SL (u ++ [a]) (v ++ [b])) : SL u v ∨ (u = v ∧ a.toNat < b.toNat) := by
  rcases h with h | ⟨h, k⟩
  · simp only [List.length_append, List.length_singleton] at h
    exact .inl (.inl (by omega))
  · simp only [List.length_append, List.length_singleton] at h
    have hl : u.length = v.length := by omega
    rcases slt_total hl with e | e | e
    · exact .inl (.inr ⟨hl, e⟩)
    · subst e
      rw [slt_pre, slt_cons] at k
      rcases k with k | ⟨_, k⟩
      · exact .inr ⟨rfl, k⟩
      · simp [slt] at k
    · have := slt_app (u := [b]) (v := [a]) hl.symm e
      have := slt_trans k this
      rw [slt_irrefl] at this; cases this
theorem SL.snoc_lt {u : Str} {a b : UInt8} (h : a.toNat < b.toNat) : SL (u ++ [a]) (u ++ [b]) := .inr ⟨by simp, by rw [slt_pre, slt_cons]; exact .inl h⟩
theorem SL.nil {w : Str} (h : w ≠ []) : SL [] w := .inl (by cases w with
  | nil => exact absurd rfl h
  | cons a w => simp)
theorem not_SL_nil (w : Str) : ¬ SL w [] := fun h => by
  rcases h with h | ⟨h, k⟩
  · simp at h
  · cases w with
    | nil => simp [slt] at k
    | cons a w => simp at h
/-- Induction along the order. -/
theorem SL.wf : WellFounded SL := by
  have key : ∀ n (w : Str), w.length = n → Acc SL w := by
    intro n
    induction n using Nat.strongRecOn with
    | _ n ih =>
      -- the words of one length: by their number
      have num : ∀ m (w : Str), w.length = n → w.foldl (fun a b => a * 256 + b.toNat) 0 = m → Acc SL w := by
        intro m
        induction m using Nat.strongRecOn with
        | _ m ih2 =>
          intro w hw hm
          refine ⟨w, fun v hv => ?_⟩
          rcases hv with hv | ⟨hv, hs⟩
          · exact ih v.length (by omega) v rfl
          · refine ih2 _ ?_ v (by omega) rfl
            rw [← hm]
            have lt : ∀ (u v : Str) (a b : Nat), u.length = v.length → (a < b ∨ (a = b ∧ slt u v = true)) → u.foldl (fun a b => a * 256 + b.toNat) a < v.foldl (fun a b => a * 256 + b.toNat) b := by
              intro u
              induction u with
              | nil =>
                intro v a b hl h
                cases v with
                | nil => rcases h with h | ⟨_, h⟩
                         · exact h
                         · simp [slt] at h
                | cons c v => simp at hl
              | cons c u ih3 =>
                intro v a b hl h
                cases v with
                | nil => simp at hl
                | cons d v =>
                  simp only [List.foldl_cons]
                  refine ih3 v _ _ (by simpa using hl) ?_
                  have hc := c.toNat_lt
                  have hd := d.toNat_lt
                  rcases h with h | ⟨rfl, h⟩
                  · exact .inl (by omega)
                  · rcases slt_cons.1 h with h' | ⟨h1, h'⟩
                    · exact .inl (by omega)
                    · exact .inr ⟨by rw [h1], h'⟩
            exact lt v w 0 0 (by omega) (.inr ⟨rfl, hs⟩)
      intro w hw
      exact num _ w hw rfl
  exact ⟨fun w => key _ w rfl⟩
end Sg
namespace Sg
open Go
set_option linter.unusedVariables false
set_option linter.unusedSimpArgs false

/-- The letter of a number. -/
def lt (x : Nat) : UInt8 := UInt8.ofNat (97 + x)
theorem lt_toNat {x : Nat} (h : x < 159) : (lt x).toNat = 97 + x := by
  simp only [lt, UInt8.toNat_ofNat']
  omega
theorem lt_lt {x y : Nat} (h : x < y) (hy : y < 159) : (lt x).toNat < (lt y).toNat := by rw [lt_toNat hy, lt_toNat (by omega)]; omega
/-- A word over the first k letters. -/
def LW (k : Nat) (w : Str) : Prop := ∀ b ∈ w, 97 ≤ b.toNat ∧ b.toNat < 97 + k
theorem LW.nil (k : Nat) : LW k [] := fun _ h => nomatch h
theorem LW.app {k : Nat} {u v : Str} : LW k (u ++ v) ↔ LW k u ∧ LW k v := by
  simp only [LW, List.mem_append]
  exact ⟨fun h => ⟨fun b hb => h b (.inl hb), fun b hb => h b (.inr hb)⟩, fun h b hb => hb.elim (h.1 b) (h.2 b)⟩
theorem LW.one {k : Nat} {b : UInt8} : LW k [b] ↔ 97 ≤ b.toNat ∧ b.toNat < 97 + k := by simp [LW]
theorem LW.lt {k x : Nat} (h : x < k) (hk : k < 159) : LW k [lt x] := LW.one.2 (by rw [lt_toNat (by omega)]; omega)
theorem LW.letter {k : Nat} (hk : k < 159) {b : UInt8} (h : LW k [b]) : ∃ x, x < k ∧ b = Sg.lt x := by
  have := LW.one.1 h
  exact ⟨b.toNat - 97, by omega, u8_eq (by rw [lt_toNat (by omega)]; omega)⟩

theorem snocEx {w : Str} (h : w ≠ []) : ∃ p b, w = p ++ [b] := ⟨w.dropLast, w.getLast h, (List.dropLast_concat_getLast h).symm⟩
theorem snocRec {motive : Str → Prop} (nil : motive []) (snoc : ∀ w b, motive w → motive (w ++ [b])) (w : Str) : motive w := by
  have key : ∀ n (w : Str), w.length = n → motive w := by
    intro n
    induction n with
    | zero => intro w h; rw [List.eq_nil_of_length_eq_zero h]; exact nil
    | succ n ih =>
      intro w h
      obtain ⟨p, b, rfl⟩ := snocEx (w := w) (by rintro rfl; simp at h)
      exact snoc p b (ih p (by simpa using h))
  exact key _ w rfl
section
variable {gens : List (List Int)}
/-- The transformation of a word. -/
abbrev vl (gens : List (List Int)) (w : Str) : List Int := ofWord gens w
theorem vl_nil (gens : List (List Int)) : vl gens [] = iota (ix gens 0).length := rfl
theorem vl_snoc (w : Str) (b : UInt8) : vl gens (w ++ [b]) = compF (vl gens w) (ix gens ((b.toNat : Int) - 97)) := by
  simp [vl, ofWord, runW, stepW]
theorem GV.at_ (hg : GV gens = true) {b : UInt8} (hb : LW gens.length [b]) : VF (ix gens ((b.toNat : Int) - 97)) = true ∧ (ix gens ((b.toNat : Int) - 97)).length = (ix gens 0).length := by
  have h := LW.one.1 hb
  have := (GV_iff.1 hg).2.2 (b.toNat - 97) (by omega)
  rwa [show ((b.toNat : Int) - 97) = ((b.toNat - 97 : Nat) : Int) by omega]
theorem vl_ok (hg : GV gens = true) : ∀ {w : Str}, LW gens.length w → VF (vl gens w) = true ∧ (vl gens w).length = (ix gens 0).length := by
  intro w
  induction w using snocRec with
  | nil =>
    intro _
    have := GV.len0 hg
    exact ⟨VF_iota this.1 this.2, by simp [vl_nil]⟩
  | snoc w b ih =>
    intro h
    obtain ⟨h1, h2⟩ := LW.app.1 h
    obtain ⟨k1, k2⟩ := ih h1
    obtain ⟨g1, g2⟩ := GV.at_ hg h2
    rw [vl_snoc]
    exact ⟨VF_compF k1 g1 (by omega), by simpa using k2⟩
theorem vl_app (hg : GV gens = true) {u v : Str} (hu : LW gens.length u) (hv : LW gens.length v) : vl gens (u ++ v) = compF (vl gens u) (vl gens v) := by
  obtain ⟨u1, u2⟩ := vl_ok hg hu
  induction v using snocRec with
  | nil =>
    rw [List.append_nil, vl_nil, compF_iota]
    intro j hj
    have := (VF_iff.1 u1).2.2 j hj
    omega
  | snoc v b ih =>
    obtain ⟨h1, h2⟩ := LW.app.1 hv
    obtain ⟨v1, v2⟩ := vl_ok hg h1
    rw [← List.append_assoc, vl_snoc, vl_snoc, ih h1, compF_assoc]
    intro j hj
    have := (VF_iff.1 u1).2.2 j hj
    omega

/-- A word that stands for an element. -/
def Wd (gens : List (List Int)) (mon : Bool) (w : Str) : Prop := LW gens.length w ∧ (mon = true ∨ w ≠ [])
/-- The least word of its element. -/
def Red (gens : List (List Int)) (mon : Bool) (w : Str) : Prop := Wd gens mon w ∧ ∀ v, Wd gens mon v → vl gens v = vl gens w → ¬ SL v w
variable {mon : Bool}
theorem Red.pre (hg : GV gens = true) {u v : Str} (h : Red gens mon (u ++ v)) (hu : mon = true ∨ u ≠ []) : Red gens mon u := by
  obtain ⟨l1, l2⟩ := LW.app.1 h.1.1
  refine ⟨⟨l1, hu⟩, fun u' h1 h2 h3 => h.2 (u' ++ v) ⟨LW.app.2 ⟨h1.1, l2⟩, h1.2.imp id fun hn => by simp [hn]⟩ ?_ (h3.app_right v)⟩
  rw [vl_app hg h1.1 l2, vl_app hg l1 l2, h2]
theorem Red.post (hg : GV gens = true) {u v : Str} (h : Red gens mon (u ++ v)) (hv : mon = true ∨ v ≠ []) : Red gens mon v := by
  obtain ⟨l1, l2⟩ := LW.app.1 h.1.1
  refine ⟨⟨l2, hv⟩, fun v' h1 h2 h3 => h.2 (u ++ v') ⟨LW.app.2 ⟨l1, h1.1⟩, h1.2.imp id fun hn => by simp [hn]⟩ ?_ (h3.app_left u)⟩
  rw [vl_app hg l1 h1.1, vl_app hg l1 l2, h2]
theorem Red.uniq {u v : Str} (hu : Red gens mon u) (hv : Red gens mon v) (h : vl gens u = vl gens v) : u = v := by
  rcases SL.total u v with k | k | k
  · exact absurd k (hv.2 u hu.1 h)
  · exact k
  · exact absurd k (hu.2 v hv.1 h.symm)
theorem exists_red {w : Str} : Wd gens mon w → ∃ r, Red gens mon r ∧ vl gens r = vl gens w ∧ (r = w ∨ SL r w) := by
  induction w using SL.wf.induction with
  | _ w ih =>
    intro hw
    by_cases h : Red gens mon w
    · exact ⟨w, h, rfl, .inl rfl⟩
    · have : ∃ v, Wd gens mon v ∧ vl gens v = vl gens w ∧ SL v w := by
        apply Classical.byContradiction
        intro hn
        exact h ⟨hw, fun v h1 h2 h3 => hn ⟨v, h1, h2, h3⟩⟩
      obtain ⟨v, h1, h2, h3⟩ := this
      obtain ⟨r, k1, k2, k3⟩ := ih v h3 h1
      refine ⟨r, k1, k2.trans h2, .inr ?_⟩
      rcases k3 with rfl | k3
      · exact h3
      · exact k3.trans h3

/-- The list of the reduced words of which something holds, in their order. -/
structure RL (gens : List (List Int)) (mon : Bool) (W : List Str) (F : Str → Prop) : Prop where
  asc : W.Pairwise SL
  mem : ∀ w, w ∈ W ↔ Red gens mon w ∧ F w
/-- Ahead of a word with one letter more: nothing new but the word itself. -/
theorem between {u v : Str} {x : Nat} (hx : x + 1 < 159) (hu : u ≠ [] ∨ v ≠ []) (h1 : SL v (u ++ [lt (x + 1)])) (h2 : ¬ SL v (u ++ [lt x])) : v = u ++ [lt x] := by
  have hv : v ≠ [] := by
    rintro rfl
    exact h2 (SL.nil (by simp))
  obtain ⟨p, b, rfl⟩ := snocEx hv
  rcases SL.snoc h1 with k | ⟨rfl, k⟩
  · refine absurd ?_ h2
    rcases k with k | ⟨k, k2⟩
    · exact .inl (by simp; omega)
    · exact .inr ⟨by simp [k], slt_app k k2⟩
  · rw [lt_toNat hx] at k
    by_cases hb : b.toNat < 97 + x
    · exact absurd (SL.snoc_lt (by rw [lt_toNat (by omega)]; exact hb)) h2
    · have : b = lt x := u8_eq (by rw [lt_toNat (by omega)]; omega)
      rw [this]
variable {W : List Str} {u : Str} {x : Nat}
/-- A candidate whose element is there already is not reduced. -/
theorem RL.known (h : RL gens mon W (fun w => SL w (u ++ [lt x]))) (hx : x + 1 < 159) {w : Str} (hw : w ∈ W) (he : vl gens w = vl gens (u ++ [lt x])) :
    ¬ Red gens mon (u ++ [lt x]) ∧ RL gens mon W (fun w => SL w (u ++ [lt (x + 1)])) := by
  have hk := (h.mem w).1 hw
  have hn : ¬ Red gens mon (u ++ [lt x]) := fun hr => hr.2 w hk.1.1 he hk.2
  refine ⟨hn, h.asc, fun v => ⟨fun hv => ?_, fun hv => ?_⟩⟩
  · obtain ⟨k1, k2⟩ := (h.mem v).1 hv
    exact ⟨k1, k2.trans (SL.snoc_lt (lt_lt (by omega) (by omega)))⟩
  · refine (h.mem v).2 ⟨hv.1, ?_⟩
    apply Classical.byContradiction
    intro h2
    by_cases h0 : u ≠ [] ∨ v ≠ []
    · have := between hx h0 hv.2 h2
      rw [this] at hv
      exact hn hv.1
    · simp only [not_or, ne_eq, Classical.not_not] at h0
      exact h2 (by rw [h0.2]; exact SL.nil (by simp))
/-- A candidate whose element is new is reduced. -/
theorem RL.new (h : RL gens mon W (fun w => SL w (u ++ [lt x]))) (hx : x + 1 < 159) (hw : Wd gens mon (u ++ [lt x])) (hn : ∀ w ∈ W, vl gens w ≠ vl gens (u ++ [lt x])) :
    Red gens mon (u ++ [lt x]) ∧ RL gens mon (W ++ [u ++ [lt x]]) (fun w => SL w (u ++ [lt (x + 1)])) := by
  have hr : Red gens mon (u ++ [lt x]) := by
    refine ⟨hw, fun v h1 h2 h3 => ?_⟩
    obtain ⟨r, k1, k2, k3⟩ := exists_red h1
    refine hn r ((h.mem r).2 ⟨k1, ?_⟩) (k2.trans h2)
    rcases k3 with rfl | k3
    · exact h3
    · exact k3.trans h3
  refine ⟨hr, List.pairwise_append.2 ⟨h.asc, List.pairwise_singleton _ _, fun a ha b hb => ?_⟩, fun v => ⟨fun hv => ?_, fun hv => ?_⟩⟩
  · rw [List.mem_singleton.1 hb]
    exact ((h.mem a).1 ha).2
  · rcases List.mem_append.1 hv with hv | hv
    · obtain ⟨k1, k2⟩ := (h.mem v).1 hv
      exact ⟨k1, k2.trans (SL.snoc_lt (lt_lt (by omega) (by omega)))⟩
    · rw [List.mem_singleton.1 hv]
      exact ⟨hr, SL.snoc_lt (lt_lt (by omega) (by omega))⟩
  · by_cases h2 : SL v (u ++ [lt x])
    · exact List.mem_append.2 (.inl ((h.mem v).2 ⟨hv.1, h2⟩))
    · refine List.mem_append.2 (.inr (List.mem_singleton.2 ?_))
      by_cases h0 : u ≠ [] ∨ v ≠ []
      · exact between hx h0 hv.2 h2
      · simp only [not_or, ne_eq, Classical.not_not] at h0
        exact absurd (by rw [h0.2]; exact SL.nil (by simp)) h2
end
end Sg
namespace Sg
open Go
set_option linter.unusedVariables false
set_option linter.unusedSimpArgs false
section
variable {gens : List (List Int)} {mon : Bool}
/-- Not reduced, but without its first letter and without its last letter it is. -/
structure MN (gens : List (List Int)) (mon : Bool) (c : Str) : Prop where
  lw : LW gens.length c
  ne : c ≠ []
  nr : ¬ Red gens mon c
  init : c.dropLast = [] ∨ Red gens mon c.dropLast
  tail : c.tail = [] ∨ Red gens mon c.tail
/-- The rules for the words of which something holds, in order. -/
structure RU (gens : List (List Int)) (mon : Bool) (R : List Rule) (F : Str → Prop) : Prop where
  asc : R.Pairwise fun a b => SL a.Left b.Left
  mem : ∀ r, r ∈ R ↔ (MN gens mon r.Left ∧ F r.Left ∧ Red gens mon r.Right ∧ vl gens r.Right = vl gens r.Left)
variable {R : List Rule} {u : Str} {x : Nat}
theorem RU.add (h : RU gens mon R (fun w => SL w (u ++ [lt x]))) (hx : x + 1 < 159) (hm : MN gens mon (u ++ [lt x])) {w : Str} (hw : Red gens mon w) (he : vl gens w = vl gens (u ++ [lt x])) :
    RU gens mon (R ++ [⟨u ++ [lt x], w⟩]) (fun w => SL w (u ++ [lt (x + 1)])) := by
  refine ⟨List.pairwise_append.2 ⟨h.asc, List.pairwise_singleton _ _, fun a ha b hb => ?_⟩, fun r => ⟨fun hr => ?_, fun hr => ?_⟩⟩
  · rw [List.mem_singleton.1 hb]
    exact ((h.mem a).1 ha).2.1
  · rcases List.mem_append.1 hr with hr | hr
    · obtain ⟨k1, k2, k3⟩ := (h.mem r).1 hr
      exact ⟨k1, k2.trans (SL.snoc_lt (lt_lt (by omega) (by omega))), k3⟩
    · rw [List.mem_singleton.1 hr]
      exact ⟨hm, SL.snoc_lt (lt_lt (by omega) (by omega)), hw, he⟩
  · obtain ⟨k1, k2, k3, k4⟩ := hr
    by_cases h2 : SL r.Left (u ++ [lt x])
    · exact List.mem_append.2 (.inl ((h.mem r).2 ⟨k1, h2, k3, k4⟩))
    · refine List.mem_append.2 (.inr (List.mem_singleton.2 ?_))
      have e := between hx (.inr k1.ne) k2 h2
      have e2 : r.Right = w := k3.uniq hw (by rw [k4, he, e])
      cases r
      simp only at e e2
      rw [e, e2]
theorem RU.skip (h : RU gens mon R (fun w => SL w (u ++ [lt x]))) (hx : x + 1 < 159) (hm : ¬ MN gens mon (u ++ [lt x])) : RU gens mon R (fun w => SL w (u ++ [lt (x + 1)])) := by
  refine ⟨h.asc, fun r => ⟨fun hr => ?_, fun hr => ?_⟩⟩
  · obtain ⟨k1, k2, k3⟩ := (h.mem r).1 hr
    exact ⟨k1, k2.trans (SL.snoc_lt (lt_lt (by omega) (by omega))), k3⟩
  · obtain ⟨k1, k2, k3⟩ := hr
    refine (h.mem r).2 ⟨k1, ?_, k3⟩
    apply Classical.byContradiction
    intro h2
    exact hm (between hx (.inr k1.ne) k2 h2 ▸ k1)

/-- How far it has come: all ahead of the letter x after the word u. -/
def FF (k : Nat) (u : Str) (x : Nat) (w : Str) : Prop := SL w [lt k] ∨ SL w (u ++ [lt x])
theorem FF_ne {k : Nat} {u : Str} (hu : u ≠ []) (x : Nat) (w : Str) : FF k u x w ↔ SL w (u ++ [lt x]) := by
  refine ⟨fun h => h.elim (fun h => h.trans (.inl ?_)) id, .inr⟩
  have := List.length_pos_iff.2 hu
  simp; omega
theorem FF_nil {k x : Nat} (hx : x ≤ k) (hk : k < 159) (w : Str) : FF k [] x w ↔ SL w [lt k] := by
  refine ⟨fun h => h.elim id fun h2 => ?_, .inl⟩
  by_cases hxk : x = k
  · rw [hxk] at h2; exact h2
  · exact SL.trans h2 (SL.snoc_lt (u := []) (lt_lt (by omega) hk))
theorem FF.dn {k : Nat} {u : Str} {x : Nat} {v w : Str} (h : SL v w) (hw : FF k u x w) : FF k u x v := hw.imp h.trans h.trans
theorem RL.congr {W : List Str} {F G : Str → Prop} (h : RL gens mon W F) (e : ∀ w, Red gens mon w → (F w ↔ G w)) : RL gens mon W G :=
  ⟨h.asc, fun w => (h.mem w).trans ⟨fun k => ⟨k.1, (e w k.1).1 k.2⟩, fun k => ⟨k.1, (e w k.1).2 k.2⟩⟩⟩
theorem RU.congr {F G : Str → Prop} (h : RU gens mon R F) (e : ∀ w, MN gens mon w → (F w ↔ G w)) : RU gens mon R G :=
  ⟨h.asc, fun r => (h.mem r).trans ⟨fun k => ⟨k.1, (e _ k.1).1 k.2.1, k.2.2⟩, fun k => ⟨k.1, (e _ k.1).2 k.2.1, k.2.2⟩⟩⟩
/-- A word that is not ahead has a first part behind u. -/
theorem gap {k : Nat} (hk : k < 159) {u p : Str} {b : UInt8} (hb : LW k [b]) (h : ¬ FF k u k (p ++ [b])) : p ≠ [] ∧ SL u p := by
  have hbk := (LW.one.1 hb).2
  have hbl : b.toNat < (lt k).toNat := by rw [lt_toNat hk]; omega
  have hp : p ≠ [] := by
    rintro rfl
    exact h (.inl (SL.snoc_lt (u := []) hbl))
  refine ⟨hp, ?_⟩
  rcases SL.total u p with e | e | e
  · exact e
  · subst e
    exact absurd (.inr (SL.snoc_lt hbl)) h
  · refine absurd (.inr ?_) h
    rcases e with e | ⟨e, e2⟩
    · exact .inl (by simp; omega)
    · exact .inr ⟨by simp [e], slt_app e e2⟩
theorem lastLW {k : Nat} {p : Str} {b : UInt8} (h : LW k (p ++ [b])) : LW k [b] := (LW.app.1 h).2

/-- Words in ascending order, by their places. -/
theorem asc_ix {W : List Str} (h : W.Pairwise SL) {i j : Nat} (hij : i < j) (hj : j < W.length) : SL (ix W i) (ix W j) := by
  rw [ix_lt hj, ix_lt (by omega)]
  exact List.pairwise_iff_getElem.1 h i j (by omega) hj hij
theorem asc_lt {W : List Str} (h : W.Pairwise SL) {i j : Nat} (hi : i < W.length) (hj : j < W.length) (hs : SL (ix W i) (ix W j)) : i < j := by
  rcases Nat.lt_trichotomy i j with k | k | k
  · exact k
  · subst k; exact absurd hs (SL.irrefl _)
  · exact absurd (asc_ix h k hi) hs.asymm
theorem asc_inj {W : List Str} (h : W.Pairwise SL) {i j : Nat} (hi : i < W.length) (hj : j < W.length) (he : ix W i = ix W j) : i = j := by
  rcases Nat.lt_trichotomy i j with k | k | k
  · have := asc_ix h k hj
    rw [he] at this
    exact absurd this (SL.irrefl _)
  · exact k
  · have := asc_ix h k hi
    rw [he] at this
    exact absurd this (SL.irrefl _)
variable {W : List Str}
/-- Nothing lies between the last letter after a word and the first letter after the next one. -/
theorem noGap {d : Nat} (hk : gens.length < 159) (h : RL gens mon W (FF gens.length (ix W d) gens.length)) (hd : d + 1 < W.length) {p : Str} {b : UInt8} (hb : LW gens.length [b]) (hp : p = [] ∨ Red gens mon p)
    (hF : FF gens.length (ix W ((d + 1 : Nat) : Int)) 0 (p ++ [b])) : FF gens.length (ix W d) gens.length (p ++ [b]) := by
  apply Classical.byContradiction
  intro hn
  obtain ⟨h1, h2⟩ := gap hk hb hn
  have hr := hp.resolve_left h1
  have hu' : ix W ((d + 1 : Nat) : Int) ∈ W := mem_ix.2 ⟨d + 1, hd, rfl⟩
  have h3 : SL p (ix W ((d + 1 : Nat) : Int)) := by
    rcases hF with hF | hF
    · exact absurd (.inl hF) hn
    · rcases SL.snoc hF with k | ⟨_, k⟩
      · exact k
      · rw [lt_toNat (by omega)] at k
        have := (LW.one.1 hb).1
        omega
  have hpW : p ∈ W := (h.mem p).2 ⟨hr, FF.dn h3 ((h.mem _).1 hu').2⟩
  obtain ⟨j, hj, rfl⟩ := mem_ix.1 hpW
  have := asc_lt h.asc (by omega) hj h2
  have := asc_lt h.asc hj hd h3
  omega
theorem redSplit (hg : GV gens = true) {w : Str} (h : Red gens mon w) (hw : w ≠ []) : ∃ p b, w = p ++ [b] ∧ LW gens.length [b] ∧ (p = [] ∨ Red gens mon p) := by
  obtain ⟨p, b, rfl⟩ := snocEx hw
  refine ⟨p, b, rfl, lastLW h.1.1, ?_⟩
  by_cases hp : p = []
  · exact .inl hp
  · exact .inr (h.pre hg (.inr hp))
theorem mnSplit {w : Str} (h : MN gens mon w) : ∃ p b, w = p ++ [b] ∧ LW gens.length [b] ∧ (p = [] ∨ Red gens mon p) := by
  obtain ⟨p, b, rfl⟩ := snocEx h.ne
  refine ⟨p, b, rfl, lastLW h.lw, ?_⟩
  have := h.init
  simpa using this
theorem FF_up {k : Nat} (hk : k < 159) {u u' : Str} (h : SL u u') {w : Str} (hw : FF k u k w) : FF k u' 0 w := by
  rcases hw with hw | hw
  · exact .inl hw
  · refine .inr (hw.trans ?_)
    rcases h with h | ⟨h, h2⟩
    · exact .inl (by simp; omega)
    · exact .inr ⟨by simp [h], slt_app h h2⟩
theorem RL.next (hg : GV gens = true) (hk : gens.length < 159) {d : Nat} (h : RL gens mon W (FF gens.length (ix W d) gens.length)) (hd : d + 1 < W.length) : RL gens mon W (FF gens.length (ix W ((d + 1 : Nat) : Int)) 0) := by
  refine h.congr fun w hw => ⟨FF_up hk (asc_ix h.asc (by omega) hd), fun hF => ?_⟩
  by_cases h0 : w = []
  · subst h0; exact .inl (SL.nil (by simp))
  · obtain ⟨p, b, rfl, hb, hp⟩ := redSplit hg hw h0
    exact noGap hk h hd hb hp hF
theorem RU.next (hk : gens.length < 159) {d : Nat} (hr : RL gens mon W (FF gens.length (ix W d) gens.length)) (h : RU gens mon R (FF gens.length (ix W d) gens.length)) (hd : d + 1 < W.length) : RU gens mon R (FF gens.length (ix W ((d + 1 : Nat) : Int)) 0) := by
  refine h.congr fun w hw => ⟨FF_up hk (asc_ix hr.asc (by omega) hd), fun hF => ?_⟩
  obtain ⟨p, b, rfl, hb, hp⟩ := mnSplit hw
  exact noGap hk hr hd hb hp hF
/-- After the last word all reduced words are there. -/
theorem RL.all (hg : GV gens = true) (hk : gens.length < 159) {d : Nat} (h : RL gens mon W (FF gens.length (ix W d) gens.length)) (hd : d + 1 = W.length) {w : Str} (hw : Red gens mon w) : w ∈ W := by
  induction w using snocRec with
  | nil => exact (h.mem _).2 ⟨hw, .inl (SL.nil (by simp))⟩
  | snoc p b ih =>
    refine (h.mem _).2 ⟨hw, ?_⟩
    apply Classical.byContradiction
    intro hn
    obtain ⟨h1, h2⟩ := gap hk (lastLW hw.1.1) hn
    obtain ⟨j, hj, rfl⟩ := mem_ix.1 (ih (hw.pre hg (.inr h1)))
    have := asc_lt h.asc (by omega) hj h2
    omega
theorem FF.all (hg : GV gens = true) (hk : gens.length < 159) {d : Nat} (h : RL gens mon W (FF gens.length (ix W d) gens.length)) (hd : d + 1 = W.length) {p : Str} {b : UInt8} (hb : LW gens.length [b]) (hp : p = [] ∨ Red gens mon p) : FF gens.length (ix W d) gens.length (p ++ [b]) := by
  apply Classical.byContradiction
  intro hn
  obtain ⟨h1, h2⟩ := gap hk hb hn
  obtain ⟨j, hj, rfl⟩ := mem_ix.1 (h.all hg hk hd (hp.resolve_left h1))
  have := asc_lt h.asc (by omega) hj h2
  omega
end
end Sg
namespace Sg
open Go
set_option linter.unusedVariables false
set_option linter.unusedSimpArgs false
/-- The text of a transformation. -/
def txt (f : List Int) : Str := byt (f.map fun x => IntKind.u8.wrap x)
theorem enumerate_text_ok {f : List Int} {K : Str → Prop} (hl : f.length ≤ 1099511627776) (h : K (txt f)) : enumerate_text f K := by
  unfold enumerate_text
  intro hm
  refine ⟨by omega, by omega, ?_⟩
  refine LoopWP.to f.length (fun s : Nat × List Int => s.1) (fun s => s.1 ≤ f.length ∧ s.2.length = f.length ∧ ∀ j : Nat, j < s.1 → ix s.2 j = IntKind.u8.wrap (ix f j)) ⟨by simp, by simp, fun j hj => by simp at hj⟩ (fun s h => h.1) ?_
  rintro ⟨k, p⟩ X ⟨hk, hpl, hI⟩ hX
  simp only at hk hpl hI
  show enumerate_text_L1 f K _ k p
  unfold enumerate_text_L1
  split
  · refine ⟨by omega, by omega, by omega, by omega, hX (k + 1, _) ⟨by simp only; omega, by simpa using hpl, fun j hj => ?_⟩ rfl⟩
    simp only at hj ⊢
    rw [ix_st _ (by omega) (by omega) (by omega)]
    split
    · rename_i he; rw [he]
    · exact hI j (by omega)
  · have : p = f.map fun x => IntKind.u8.wrap x := list_ix (by simpa using hpl) fun j hj => by rw [hI j (by omega), ix_map _ (by omega) (by omega)]
    rw [this]; exact h
theorem txt_length (f : List Int) : (txt f).length = f.length := by simp [txt]
theorem ix_txt {f : List Int} (hf : VF f = true) {j : Nat} (hj : j < f.length) : (ix (txt f) j).toNat = (ix f j).toNat := by
  have h := (VF_iff.1 hf).2.2 j hj
  have hl := VF.len hf
  have e : ix (txt f) j = UInt8.ofNat (IntKind.u8.wrap (ix f j)).toNat := by
    rw [txt, byt, ix_map _ (by omega) (by simp; omega), ix_map _ (by omega) (by omega)]
  rw [e, IntKind.wrap_u8]
  simp only [UInt8.toNat_ofNat']
  omega
theorem txt_inj {f g : List Int} (hf : VF f = true) (hg : VF g = true) (h : txt f = txt g) : f = g := by
  have hl : f.length = g.length := by rw [← txt_length f, ← txt_length g, h]
  refine list_ix hl fun j hj => ?_
  have h1 := ix_txt hf hj
  have h2 := ix_txt hg (show j < g.length by omega)
  have k1 := (VF_iff.1 hf).2.2 j hj
  have k2 := (VF_iff.1 hg).2.2 j (by omega)
  rw [h] at h1
  omega
theorem ixA {α : Type} [Inhabited α] {xs ys : List α} {i : Nat} (h : i < xs.length) : ix (xs ++ ys) (i : Int) = ix xs (i : Int) := by
  rw [ix_lt h, ix_lt (by simp; omega), List.getElem_append_left h]
theorem ixAI {α : Type} [Inhabited α] {xs ys : List α} {i : Int} (h0 : 0 ≤ i) (h : i < xs.length) : ix (xs ++ ys) i = ix xs i := by
  obtain ⟨j, rfl⟩ := Int.eq_ofNat_of_zero_le h0
  exact ixA (by omega)
theorem ixL {α : Type} [Inhabited α] {xs : List α} {a : α} : ix (xs ++ [a]) (xs.length : Int) = a := by
  rw [ix_lt (by simp)]; simp
theorem ixL' {α : Type} [Inhabited α] {xs : List α} {a : α} {n : Nat} (h : n = xs.length) : ix (xs ++ [a]) (n : Int) = a := by rw [h, ixL]
theorem slices_Clone_ok {s : List Int} {K : List Int → Prop} (hl : s.length ≤ 1099511627776) (h : K s) : slices_Clone_int s K := by
  unfold slices_Clone_int
  intro z hz
  split
  · rename_i hh; rw [hz hh] at h; exact h
  · exact ⟨by simpa using hl, by simpa using h⟩

/-- The numbers of the elements, by their texts. -/
structure NM (E : List (List Int)) (m : List (Str × Int)) : Prop where
  has : ∀ f, VF f = true → (mhas m (txt f) = true ↔ f ∈ E)
  get : ∀ i : Nat, i < E.length → mgt m (txt (ix E i)) = i
theorem NM.nil : NM [] [] := ⟨fun f hf => by simp [mhas], fun i hi => by simp at hi⟩
theorem NM.new {E : List (List Int)} {m : List (Str × Int)} {f : List Int} (h : NM E m) (hE : ∀ g ∈ E, VF g = true) (hf : VF f = true) (hn : f ∉ E) : NM (E ++ [f]) (mput m (txt f) (E.length : Int)) := by
  refine ⟨fun g hg => ?_, fun i hi => ?_⟩
  · rw [mhas_put, Bool.or_eq_true, decide_eq_true_eq, h.has g hg, List.mem_append, List.mem_singleton]
    exact ⟨fun k => k.elim (fun k => .inr (txt_inj hg hf k)) .inl, fun k => k.elim .inr fun k => .inl (by rw [k])⟩
  · rw [mgt_put]
    simp only [List.length_append, List.length_singleton] at hi
    by_cases hie : i = E.length
    · subst hie; rw [ixL, if_pos rfl]
    · rw [ixA (by omega), if_neg, h.get i (by omega)]
      intro k
      have hm : ix E i ∈ E := mem_ix.2 ⟨i, by omega, rfl⟩
      exact hn (txt_inj (hE _ hm) hf k ▸ hm)

/-- The number of the element of a word; the empty word may have none. -/
def Em (mon : Bool) (W : List Str) (w : Str) (i : Int) : Prop := (w = [] ∧ mon = false ∧ i = -1) ∨ (¬ (w = [] ∧ mon = false) ∧ 0 ≤ i ∧ i < W.length ∧ ix W i = w)
theorem Em.up {mon : Bool} {W : List Str} {w c : Str} {i : Int} (h : Em mon W w i) : Em mon (W ++ [c]) w i := by
  rcases h with h | ⟨h1, h2, h3, h4⟩
  · exact .inl h
  · exact .inr ⟨h1, h2, by simp; omega, by rw [ixAI h2 h3]; exact h4⟩
theorem Em.inj {mon : Bool} {W : List Str} {w v : Str} {i : Int} (h : Em mon W w i) (k : Em mon W v i) : w = v := by
  rcases h with h | ⟨h1, h2, h3, h4⟩ <;> rcases k with k | ⟨k1, k2, k3, k4⟩
  · rw [h.1, k.1]
  · omega
  · omega
  · rw [← h4, k4]
theorem Em.uniq {mon : Bool} {W : List Str} (hW : W.Pairwise SL) {w : Str} {i j : Int} (h : Em mon W w i) (k : Em mon W w j) : i = j := by
  rcases h with h | ⟨h1, h2, h3, h4⟩ <;> rcases k with k | ⟨k1, k2, k3, k4⟩
  · omega
  · exact absurd ⟨h.1, h.2.1⟩ k1
  · exact absurd ⟨k.1, k.2.1⟩ h1
  · obtain ⟨a, rfl⟩ := Int.eq_ofNat_of_zero_le h2
    obtain ⟨b, rfl⟩ := Int.eq_ofNat_of_zero_le k2
    have := asc_inj hW (i := a) (j := b) (by omega) (by omega) (h4.trans k4.symm)
    omega
/-- The first part, the last letter, and what is behind the first letter, of the word of an element. -/
def AT (mon : Bool) (W : List Str) (Pf Ls Bh : List Int) (i : Int) : Prop :=
  (ix W i = [] ∧ ix Pf i = -1 ∧ ix Ls i = -1 ∧ ix Bh i = -1) ∨ ∃ p b, ix W i = p ++ [b] ∧ ix Ls i = (b.toNat : Int) - 97 ∧ Em mon W p (ix Pf i) ∧ Em mon W (ix W i).tail (ix Bh i)
/-- A state between two candidates. -/
structure SI (gens : List (List Int)) (mon : Bool) (F : Str → Prop) (E : List (List Int)) (Pf Ls : List Int) (R : List Rule) (W : List Str) (Bh : List Int) (m : List (Str × Int)) : Prop where
  rl : RL gens mon W F
  ru : RU gens mon R F
  el : E = W.map (vl gens)
  pl : Pf.length = W.length
  ll : Ls.length = W.length
  bl : Bh.length = W.length
  at_ : ∀ i : Nat, i < W.length → AT mon W Pf Ls Bh i
  nm : NM E m
  wl : ∀ i : Nat, i < W.length → (ix W i).length ≤ i + 1
section
variable {gens : List (List Int)} {mon : Bool} {F F' : Str → Prop} {E : List (List Int)} {Pf Ls : List Int} {R R' : List Rule} {W : List Str} {Bh : List Int} {m : List (Str × Int)}
theorem SI.elen (h : SI gens mon F E Pf Ls R W Bh m) : E.length = W.length := by rw [h.el]; simp
theorem SI.eix (h : SI gens mon F E Pf Ls R W Bh m) {i : Int} (h0 : 0 ≤ i) (h1 : i < W.length) : ix E i = vl gens (ix W i) := by rw [h.el, ix_map _ h0 h1]
theorem SI.red (h : SI gens mon F E Pf Ls R W Bh m) {i : Int} (h0 : 0 ≤ i) (h1 : i < W.length) : Red gens mon (ix W i) := ((h.rl.mem _).1 (ix_mem h0 h1)).1
theorem SI.vf (h : SI gens mon F E Pf Ls R W Bh m) (hg : GV gens = true) : ∀ f ∈ E, VF f = true ∧ f.length = (ix gens 0).length := by
  intro f hf
  rw [h.el, List.mem_map] at hf
  obtain ⟨w, hw, rfl⟩ := hf
  exact vl_ok hg ((h.rl.mem w).1 hw).1.1.1
theorem SI.mem (h : SI gens mon F E Pf Ls R W Bh m) {w : Str} : vl gens w ∈ E ↔ ∃ v ∈ W, vl gens v = vl gens w := by rw [h.el, List.mem_map]
/-- What the map says of an element that is there. -/
theorem SI.num (h : SI gens mon F E Pf Ls R W Bh m) {f : List Int} (hf : f ∈ E) : 0 ≤ mgt m (txt f) ∧ mgt m (txt f) < W.length ∧ vl gens (ix W (mgt m (txt f))) = f := by
  obtain ⟨i, hi, rfl⟩ := mem_ix.1 hf
  rw [h.nm.get i hi]
  have := h.elen
  exact ⟨by omega, by omega, by rw [← h.eix (by omega) (by omega)]⟩
/-- An element more. -/
theorem SI.push (h : SI gens mon F E Pf Ls R W Bh m) (hg : GV gens = true) {p : Str} {b : UInt8} {ip ib : Int} (h1 : RL gens mon (W ++ [p ++ [b]]) F') (h2 : RU gens mon R F') (hp : Em mon W p ip) (hb : Em mon W (p ++ [b]).tail ib)
    (hn : vl gens (p ++ [b]) ∉ E) : SI gens mon F' (E ++ [vl gens (p ++ [b])]) (Pf ++ [ip]) (Ls ++ [(b.toNat : Int) - 97]) R (W ++ [p ++ [b]]) (Bh ++ [ib]) (mput m (txt (vl gens (p ++ [b]))) (E.length : Int)) := by
  have hr := ((h1.mem (p ++ [b])).1 (by simp)).1
  have hl := h.elen
  have pl := h.pl
  have ll := h.ll
  have bl := h.bl
  refine ⟨h1, h2, by rw [h.el]; simp, by simp [pl], by simp [ll], by simp [bl], fun i hi => ?_, h.nm.new (fun g hgE => (h.vf hg g hgE).1) (vl_ok hg hr.1.1).1 hn, fun i hi => ?_⟩
  · simp only [List.length_append, List.length_singleton] at hi
    by_cases hie : i = W.length
    · refine .inr ⟨p, b, ?_, ?_, ?_, ?_⟩
      · rw [ixL' hie]
      · rw [ixL' (by omega)]
      · rw [ixL' (by omega)]; exact hp.up
      · rw [ixL' hie, ixL' (by omega)]; exact hb.up
    · unfold AT
      rw [ixA (by omega), ixA (by omega), ixA (by omega), ixA (by omega)]
      rcases h.at_ i (by omega) with k | ⟨q, a, k1, k2, k3, k4⟩
      · exact .inl k
      · exact .inr ⟨q, a, k1, k2, k3.up, k4.up⟩
  · simp only [List.length_append, List.length_singleton] at hi
    by_cases hie : i = W.length
    · rw [ixL' hie]
      simp only [List.length_append, List.length_singleton]
      rcases hp with hp | ⟨_, k2, k3, k4⟩
      · rw [hp.1]; simp
      · obtain ⟨j, rfl⟩ := Int.eq_ofNat_of_zero_le k2
        have := h.wl j (by omega)
        rw [k4] at this
        omega
    · rw [ixA (by omega)]; exact h.wl i (by omega)
theorem SI.keep (h : SI gens mon F E Pf Ls R W Bh m) (h1 : RL gens mon W F') (h2 : RU gens mon R' F') : SI gens mon F' E Pf Ls R' W Bh m := ⟨h1, h2, h.el, h.pl, h.ll, h.bl, h.at_, h.nm, h.wl⟩
end
end Sg
namespace Sg
open Go
set_option linter.unusedVariables false
set_option linter.unusedSimpArgs false
theorem chr_lt {k : Nat} (h : k < 31) : 0 ≤ IntKind.i32.wrap ((97 : Int) + (k : Int)) ∧ IntKind.i32.wrap ((97 : Int) + (k : Int)) < 128 ∧ chr (IntKind.i32.wrap ((97 : Int) + (k : Int))) = [lt k] := by
  have e : IntKind.i32.wrap ((97 : Int) + (k : Int)) = ((97 + k : Nat) : Int) := by rw [IntKind.wrap_i32]; omega
  rw [e]
  exact ⟨by omega, by omega, rfl⟩
theorem low {k : Nat} {w : Str} (h : LW k w) (hn : w ≠ []) : ¬ SL w [lt 0] := fun hs => by
  cases w with
  | nil => exact hn rfl
  | cons a w =>
    have ha := h a (by simp)
    rcases hs with hs | ⟨hl, hs⟩
    · simp at hs
    · have : w = [] := List.eq_nil_of_length_eq_zero (by simpa using hl)
      subst this
      rw [slt_cons] at hs
      rw [lt_toNat (by omega)] at hs
      rcases hs with hs | ⟨_, hs⟩
      · omega
      · simp [slt] at hs
theorem compF_id {g : List Int} {n : Nat} (h : g.length = n) : compF (iota n) g = g := list_ix (by simp [h]) fun j hj => by
  simp only [compF_length, iota_length] at hj
  rw [ix_compF (by omega) (by simp; omega), ix_iota hj]
section
variable {gens : List (List Int)} {mon : Bool} {W : List Str}
theorem vl_letter (hg : GV gens = true) {x : Nat} (hx : x < gens.length) : vl gens [lt x] = ix gens (x : Int) := by
  have hk := (GV_iff.1 hg).2.1
  have := vl_snoc (gens := gens) [] (lt x)
  rw [List.nil_append] at this
  rw [this, vl_nil, lt_toNat (by omega), show ((97 + x : Nat) : Int) - 97 = (x : Int) by omega]
  exact compF_id ((GV_iff.1 hg).2.2 x hx).2
/-- The elements of the letters. -/
def SG (gens : List (List Int)) (W : List Str) (sg : List Int) (x : Nat) : Prop := sg.length = x ∧ ∀ y : Nat, y < x → 0 ≤ ix sg y ∧ ix sg y < W.length ∧ vl gens (ix W (ix sg y)) = vl gens [lt y]
theorem SG.up {sg : List Int} {x : Nat} {c : Str} (h : SG gens W sg x) : SG gens (W ++ [c]) sg x :=
  ⟨h.1, fun y hy => by
    obtain ⟨h1, h2, h3⟩ := h.2 y hy
    exact ⟨h1, by simp; omega, by rw [ixAI h1 h2]; exact h3⟩⟩
theorem SG.add {sg : List Int} {x : Nat} {i : Int} (h : SG gens W sg x) (h0 : 0 ≤ i) (h1 : i < W.length) (h2 : vl gens (ix W i) = vl gens [lt x]) : SG gens W (sg ++ [i]) (x + 1) := by
  have hl := h.1
  refine ⟨by simp [h.1], fun y hy => ?_⟩
  by_cases hyx : y = x
  · rw [ixL' (by omega), hyx]; exact ⟨h0, h1, h2⟩
  · rw [ixA (by omega)]; exact h.2 y (by omega)
/-- Right products. -/
def RT (gens : List (List Int)) (W : List Str) (Rt : List (List Int)) (d : Nat) : Prop := Rt.length = d ∧ ∀ i : Nat, i < d → (ix Rt i).length = gens.length ∧ ∀ y : Nat, y < gens.length → 0 ≤ ix (ix Rt i) y ∧ ix (ix Rt i) y < W.length ∧ vl gens (ix W (ix (ix Rt i) y)) = vl gens (ix W i ++ [lt y])
/-- How far it has come when d elements are processed. -/
def FD (gens : List (List Int)) (d : Nat) (W : List Str) : Str → Prop := FF gens.length (if d = 0 then [] else ix W ((d - 1 : Nat) : Int)) gens.length
/-- The state when d elements are processed. -/
structure RI (gens : List (List Int)) (mon : Bool) (d : Nat) (r : run) : Prop where
  pts : r.Enum.Points = ((ix gens 0).length : Int)
  mon_ : r.Enum.Monoid = mon
  gn : r.Enum.Gens = gens
  dn : r.Enum.Done = (d : Int)
  dl : d ≤ r.words.length
  ne : 1 ≤ r.words.length
  si : SI gens mon (FD gens d r.words) r.Enum.Elems r.Enum.Prefix r.Enum.Last r.Enum.Rules r.words r.behind r.number
  sg : SG gens r.words r.single gens.length
  rt : RT gens r.words r.Enum.Right d
  rb : r.Enum.Rules.length ≤ 6 * (d + 1)
  wb : r.words.length ≤ 6 * (d + 1) + 1
  m0 : mon = true → ix r.words 0 = []
/-- The state when x letters have been taken. -/
structure BI (gens : List (List Int)) (mon : Bool) (x : Nat) (E : List (List Int)) (Pf Ls : List Int) (R : List Rule) (W : List Str) (Bh sg : List Int) (m : List (Str × Int)) : Prop where
  si : SI gens mon (fun w => SL w ([] ++ [lt x])) E Pf Ls R W Bh m
  sg : SG gens W sg x
  m0 : mon = true → 1 ≤ W.length ∧ ix W 0 = []
  wb : W.length ≤ x + 1
  rb : R.length ≤ x
variable {x : Nat} {E : List (List Int)} {Pf Ls : List Int} {R : List Rule} {Bh sg : List Int} {m : List (Str × Int)}
theorem BI.known (hg : GV gens = true) (h : BI gens mon x E Pf Ls R W Bh sg m) (hx : x < gens.length) (hf : ix gens (x : Int) ∈ E) :
    0 ≤ mgt m (txt (ix gens (x : Int))) ∧ mgt m (txt (ix gens (x : Int))) < W.length ∧ BI gens mon (x + 1) E Pf Ls (R ++ [⟨[lt x], ix W (mgt m (txt (ix gens (x : Int))))⟩]) W Bh (sg ++ [mgt m (txt (ix gens (x : Int)))]) m := by
  have hk := (GV_iff.1 hg).2.1
  obtain ⟨h0, h1, h2⟩ := h.si.num hf
  have hv := vl_letter hg hx
  have hw := ix_mem h0 h1
  obtain ⟨nr, rl⟩ := h.si.rl.known (x := x) (u := []) (by omega) hw (by rw [h2]; exact hv.symm)
  refine ⟨h0, h1, h.si.keep rl (h.si.ru.add (by omega) ⟨LW.lt hx (by omega), by simp, nr, .inl rfl, .inl rfl⟩ (h.si.red h0 h1) (by rw [h2]; exact hv.symm)), h.sg.add h0 h1 (by rw [h2]; exact hv.symm), h.m0, ?_, ?_⟩
  · have := h.wb; omega
  · have := h.rb; simp; omega
theorem BI.new (hg : GV gens = true) (h : BI gens mon x E Pf Ls R W Bh sg m) (hx : x < gens.length) (hf : ix gens (x : Int) ∉ E) {e : Int} (he : e = if mon = true then 0 else -1) :
    BI gens mon (x + 1) (E ++ [ix gens (x : Int)]) (Pf ++ [e]) (Ls ++ [(x : Int)]) R (W ++ [[lt x]]) (Bh ++ [e]) (sg ++ [(E.length : Int)]) (mput m (txt (ix gens (x : Int))) (E.length : Int)) := by
  have hk := (GV_iff.1 hg).2.1
  have hv := vl_letter hg hx
  have hem : Em mon W [] e := by
    cases hm : mon with
    | false => rw [hm] at he; exact .inl ⟨rfl, rfl, he⟩
    | true =>
      rw [hm, if_pos rfl] at he
      obtain ⟨k1, k2⟩ := h.m0 hm
      subst he
      exact .inr ⟨by simp, by omega, by omega, k2⟩
  have hn : ∀ w ∈ W, vl gens w ≠ vl gens ([] ++ [lt x]) := fun w hw k => hf (by rw [← hv, h.si.mem]; exact ⟨w, hw, k⟩)
  obtain ⟨hr, rl⟩ := h.si.rl.new (x := x) (u := []) (by omega) ⟨LW.lt hx (by omega), .inr (by simp)⟩ hn
  have p := h.si.push hg (p := []) (b := lt x) (ip := e) (ib := e) rl (h.si.ru.skip (by omega) fun k => k.nr hr) hem hem (by rw [List.nil_append, hv]; exact hf)
  simp only [List.nil_append, hv] at p
  rw [lt_toNat (by omega), show ((97 + x : Nat) : Int) - 97 = (x : Int) by omega] at p
  have hl := h.si.elen
  refine ⟨p, ?_, fun hm => ?_, ?_, ?_⟩
  · refine SG.add h.sg.up (by omega) (by simp; omega) ?_
    rw [hl, ixL]
  · obtain ⟨k1, k2⟩ := h.m0 hm
    refine ⟨by simp, ?_⟩
    have := ixA (xs := W) (ys := [[lt x]]) (i := 0) (by omega)
    exact this.trans k2
  · have := h.wb; simp; omega
  · have := h.rb; omega
theorem BI.fin (hg : GV gens = true) (h : BI gens mon gens.length E Pf Ls R W Bh sg m) : RI gens mon 0 ⟨⟨((ix gens 0).length : Int), mon, gens, E, Pf, Ls, [], R, 0⟩, m, W, Bh, sg⟩ := by
  have hk := (GV_iff.1 hg).1
  have hk6 := (GV_iff.1 hg).2.1
  have e : ∀ w, SL w ([] ++ [lt gens.length]) ↔ FD gens 0 W w := fun w => (FF_nil (Nat.le_refl _) (by omega) w).symm
  have hne : 1 ≤ W.length := by
    obtain ⟨h0, h1, _⟩ := h.sg.2 0 (by omega)
    omega
  have wb := h.wb
  have rb := h.rb
  exact ⟨rfl, rfl, rfl, rfl, by omega, hne, h.si.keep (h.si.rl.congr fun w _ => e w) (h.si.ru.congr fun w _ => e w), h.sg, ⟨rfl, fun i hi => by omega⟩, by simp only; omega, by simp only; omega, fun hm => (h.m0 hm).2⟩
theorem BI.start0 (hg : GV gens = true) : BI gens false 0 [] [] [] [] [] [] [] [] := by
  refine ⟨⟨⟨List.Pairwise.nil, fun w => ⟨fun h => (by simp at h), fun h => absurd h.2 (low h.1.1.1 (h.1.1.2.resolve_left (by simp)))⟩⟩, ⟨List.Pairwise.nil, fun r => ⟨fun h => (by simp at h), fun h => absurd h.2.1 (low h.1.lw h.1.ne)⟩⟩, rfl, rfl, rfl, rfl, fun i hi => by simp at hi, NM.nil, fun i hi => by simp at hi⟩, ⟨rfl, fun y hy => by omega⟩, fun h => (by simp at h), by simp, by simp⟩
theorem BI.start1 (hg : GV gens = true) : BI gens true 0 [iota (ix gens 0).length] [-1] [-1] [] [[]] [-1] [] (mput [] (txt (iota (ix gens 0).length)) 0) := by
  have hl := GV.len0 hg
  have hr : Red gens true [] := ⟨⟨LW.nil _, .inl rfl⟩, fun v _ _ h => not_SL_nil v h⟩
  refine ⟨⟨⟨List.pairwise_singleton _ _, fun w => ⟨fun h => ?_, fun h => ?_⟩⟩, ⟨List.Pairwise.nil, fun r => ⟨fun h => (by simp at h), fun h => absurd h.2.1 (low h.1.lw h.1.ne)⟩⟩, rfl, rfl, rfl, rfl, fun i hi => ?_, ?_, fun i hi => ?_⟩, ⟨rfl, fun y hy => by omega⟩, fun h => ⟨by simp, rfl⟩, by simp, by simp⟩
  · rw [List.mem_singleton.1 h]
    exact ⟨hr, SL.nil (by simp)⟩
  · rw [List.mem_singleton]
    apply Classical.byContradiction
    intro hn
    exact low h.1.1.1 hn h.2
  · simp only [List.length_singleton] at hi
    obtain rfl : i = 0 := by omega
    exact .inl ⟨rfl, rfl, rfl, rfl⟩
  · exact NM.nil.new (f := iota (ix gens 0).length) (fun g hg => by simp at hg) (VF_iota hl.1 hl.2) (by simp)
  · simp only [List.length_singleton] at hi
    obtain rfl : i = 0 := by omega
    simp [ix]
end
end Sg
namespace Sg
open Go
set_option linter.unusedVariables false
set_option linter.unusedSimpArgs false
set_option maxRecDepth 10000
section
variable {gens : List (List Int)} {mon : Bool}
theorem begin_L2 (hg : GV gens = true) {K : Option run → Int → Prop} (h3 : ∀ r, RI gens false 0 r → K (some r) 0) :
    LoopWP (S := Nat × List Int × List Int × List Str × List Rule × List Int × List Int × List (List Int) × (List (Str × Int))) (fun s X => enumerate_begin_L2 gens gens K (fun a b c d e f g h i => X (a, b, c, d, e, f, g, h, i)) s.1 s.2.1 s.2.2.1 s.2.2.2.1 s.2.2.2.2.1 s.2.2.2.2.2.1 s.2.2.2.2.2.2.1 s.2.2.2.2.2.2.2.1 s.2.2.2.2.2.2.2.2) (0, [], [], [], [], [], [], [], []) := by
  have hk := GV_iff.1 hg
  refine LoopWP.to gens.length (fun s => s.1) (fun s => s.1 ≤ gens.length ∧ BI gens false s.1 s.2.2.2.2.2.2.2.1 s.2.2.2.2.2.2.1 s.2.2.2.2.2.1 s.2.2.2.2.1 s.2.2.2.1 s.2.2.1 s.2.1 s.2.2.2.2.2.2.2.2) ⟨by simp, BI.start0 hg⟩ (fun s h => h.1) ?_
  rintro ⟨k, sg, Bh, W, R, Ls, Pf, E, m⟩ X ⟨hkl, hI⟩ hX
  simp only at hkl hI
  have hl := hI.si.elen
  have wb := hI.wb
  have rb := hI.rb
  have pl := hI.si.pl
  have ll := hI.si.ll
  have bl := hI.si.bl
  have sl := hI.sg.1
  dsimp only
  unfold enumerate_begin_L2
  split
  · rename_i hlt
    have hlt' : k < gens.length := by omega
    have hv := hk.2.2 k hlt'
    have hc := chr_lt (k := k) (by omega)
    have hvl := VF.len hv.1
    refine ⟨by omega, by omega, ⟨by omega, by omega⟩, hc.1, hc.2.1, enumerate_text_ok (by omega) ?_⟩
    rw [hc.2.2]
    split
    · rename_i hm
      have hf := (hI.si.nm.has _ hv.1).1 hm
      obtain ⟨k0, k1, k2⟩ := hI.known hg hlt' hf
      exact ⟨k0, k1, by simp; omega, by simp; omega, hX (k + 1, _) ⟨by simp only; omega, k2⟩ rfl⟩
    · rename_i hm
      have hf : ix gens (k : Int) ∉ E := fun hf => hm ((hI.si.nm.has _ hv.1).2 hf)
      have k2 := hI.new hg hlt' hf (e := -1) (by simp)
      refine slices_Clone_ok (by omega) (enumerate_text_ok (by omega) ⟨by simp; omega, by simp; omega, by simp; omega, by simp; omega, by simp; omega, by simp; omega, hX (k + 1, _) ⟨by simp only; omega, k2⟩ rfl⟩)
  · have : k = gens.length := by omega
    subst this
    exact h3 _ (hI.fin hg)
theorem begin_L3 (hg : GV gens = true) {K : Option run → Int → Prop} (h3 : ∀ r, RI gens true 0 r → K (some r) 0) :
    LoopWP (S := Nat × List Int × List Rule × List Int × List Str × List Int × List Int × List (List Int) × (List (Str × Int))) (fun s X => enumerate_begin_L3 gens gens K (fun a b c d e f g h i => X (a, b, c, d, e, f, g, h, i)) s.1 s.2.1 s.2.2.1 s.2.2.2.1 s.2.2.2.2.1 s.2.2.2.2.2.1 s.2.2.2.2.2.2.1 s.2.2.2.2.2.2.2.1 s.2.2.2.2.2.2.2.2)
      (0, [], [], [-1], [[]], [-1], [-1], [iota (ix gens 0).length], mput [] (txt (iota (ix gens 0).length)) 0) := by
  have hk := GV_iff.1 hg
  refine LoopWP.to gens.length (fun s => s.1) (fun s => s.1 ≤ gens.length ∧ BI gens true s.1 s.2.2.2.2.2.2.2.1 s.2.2.2.2.2.2.1 s.2.2.2.2.2.1 s.2.2.1 s.2.2.2.2.1 s.2.2.2.1 s.2.1 s.2.2.2.2.2.2.2.2) ⟨by simp, BI.start1 hg⟩ (fun s h => h.1) ?_
  rintro ⟨k, sg, R, Bh, W, Ls, Pf, E, m⟩ X ⟨hkl, hI⟩ hX
  simp only at hkl hI
  have hl := hI.si.elen
  have wb := hI.wb
  have rb := hI.rb
  have pl := hI.si.pl
  have ll := hI.si.ll
  have bl := hI.si.bl
  have sl := hI.sg.1
  dsimp only
  unfold enumerate_begin_L3
  split
  · rename_i hlt
    have hlt' : k < gens.length := by omega
    have hv := hk.2.2 k hlt'
    have hc := chr_lt (k := k) (by omega)
    have hvl := VF.len hv.1
    refine ⟨by omega, by omega, ⟨by omega, by omega⟩, hc.1, hc.2.1, enumerate_text_ok (by omega) ?_⟩
    rw [hc.2.2]
    split
    · rename_i hm
      have hf := (hI.si.nm.has _ hv.1).1 hm
      obtain ⟨k0, k1, k2⟩ := hI.known hg hlt' hf
      exact ⟨k0, k1, by simp; omega, by simp; omega, hX (k + 1, _) ⟨by simp only; omega, k2⟩ rfl⟩
    · rename_i hm
      have hf : ix gens (k : Int) ∉ E := fun hf => hm ((hI.si.nm.has _ hv.1).2 hf)
      have k2 := hI.new hg hlt' hf (e := 0) (by simp)
      refine slices_Clone_ok (by omega) (enumerate_text_ok (by omega) ⟨by simp; omega, by simp; omega, by simp; omega, by simp; omega, by simp; omega, by simp; omega, hX (k + 1, _) ⟨by simp only; omega, k2⟩ rfl⟩)
  · have : k = gens.length := by omega
    subst this
    exact h3 _ (hI.fin hg)
theorem take_all {α : Type} {xs : List α} {k : Nat} (h : xs.length ≤ k) : xs.take k = xs := List.take_of_length_le h
theorem enumerate_begin_ok {K : Option run → Int → Prop} (h1 : ¬ (1 ≤ gens.length ∧ gens.length ≤ 6) → K none 1) (h2 : 1 ≤ gens.length ∧ gens.length ≤ 6 → GV gens = false → K none 4)
    (h3 : GV gens = true → ∀ r, RI gens mon 0 r → K (some r) 0) : enumerate_begin gens mon K := by
  unfold enumerate_begin
  intro hm
  split
  · exact h1 (by omega)
  · split
    · exact h1 (by omega)
    · refine ⟨by omega, by omega, fun hm0 => ?_⟩
      refine LoopWP.to gens.length (fun s : Nat × List (List Int) => s.1) (fun s => s.1 ≤ gens.length ∧ s.2 = gens.take s.1 ∧ ∀ j : Nat, j < s.1 → VF (ix gens j) = true ∧ (ix gens j).length = (ix gens 0).length) ⟨by simp, by simp, fun j hj => by simp at hj⟩ (fun s h => h.1) ?_
      rintro ⟨k, d⟩ X ⟨hk, hd, hI⟩ hX
      simp only at hk hd hI
      subst hd
      dsimp only
      unfold enumerate_begin_L1
      split
      · rename_i hlt
        refine ⟨by omega, by omega, fun hmk => ?_⟩
        have bad : ¬ (VF (ix gens (k : Int)) = true ∧ (ix gens (k : Int)).length = (ix gens 0).length) → K none 4 := fun hn =>
          h2 (by omega) (GV_false fun h => hn (h.2.2 k (by omega)))
        split
        · rename_i he
          refine trans_Valid_ok ?_
          split
          · rename_i hv
            have hvl := VF.len hv
            refine slices_Clone_ok (by omega) ⟨by simp; omega, hX (k + 1, _) ⟨by simp only; omega, ?_, fun j hj => ?_⟩ rfl⟩
            · simp only
              rw [take_ix (by omega)]
            · by_cases hjk : j = k
              · subst hjk; exact ⟨hv, by omega⟩
              · exact hI j (by simp only at hj; omega)
          · rename_i hv
            exact bad fun h => hv h.1
        · rename_i he
          exact bad fun h => he (by rw [h.2])
      · have hg : GV gens = true := GV_iff.2 ⟨by omega, by omega, fun j hj => hI j (by omega)⟩
        have hl0 := GV.len0 hg
        rw [take_all (by omega)]
        cases mon with
        | false =>
          rw [if_neg (by simp)]
          exact begin_L2 hg (h3 hg)
        | true =>
          rw [if_pos rfl]
          refine trans_Identity_ok ?_
          rw [if_pos (by omega), Int.toNat_natCast]
          refine enumerate_text_ok (by simp; omega) ⟨by simp, by simp, by simp, by simp, by simp, ?_⟩
          exact begin_L3 hg (h3 hg)
end
end Sg
namespace Sg
open Go
set_option linter.unusedVariables false
set_option linter.unusedSimpArgs false
/-- There are not too many transformations. -/
def Few (gens : List (List Int)) : Prop := ∀ L : List (List Int), L.Nodup → (∀ f ∈ L, VF f = true ∧ f.length = (ix gens 0).length) → L.length < 2000
section
variable {gens : List (List Int)} {mon : Bool} {F : Str → Prop} {E : List (List Int)} {Pf Ls : List Int} {R : List Rule} {W : List Str} {Bh : List Int} {m : List (Str × Int)}
theorem SI.nodup (h : SI gens mon F E Pf Ls R W Bh m) : E.Nodup := by
  rw [h.el, List.Nodup, List.pairwise_map]
  refine List.Pairwise.imp_of_mem (fun {a b} ha hb hab he => ?_) h.rl.asc
  have := ((h.rl.mem a).1 ha).1.uniq ((h.rl.mem b).1 hb).1 he
  subst this
  exact SL.irrefl _ hab
theorem RT.up {Rt : List (List Int)} {d : Nat} {c : Str} (h : RT gens W Rt d) (hd : d ≤ W.length) : RT gens (W ++ [c]) Rt d :=
  ⟨h.1, fun i hi => ⟨(h.2 i hi).1, fun y hy => by
    obtain ⟨h1, h2, h3⟩ := (h.2 i hi).2 y hy
    exact ⟨h1, by simp; omega, by rw [ixAI h1 h2, ixA (by omega)]; exact h3⟩⟩⟩
theorem tail_snoc {u : Str} (hu : u ≠ []) (b : UInt8) : (u ++ [b]).tail = u.tail ++ [b] := by
  cases u with
  | nil => exact absurd rfl hu
  | cons a u => rfl
theorem drop_snoc (u : Str) (b : UInt8) : (u ++ [b]).dropLast = u := by simp
/-- The element behind the first letter, times a letter. -/
theorem after_ok (h : SI gens mon F E Pf Ls R W Bh m) {d x : Nat} {sg : List Int} {Rt : List (List Int)} (hd : d < W.length) (hx : x < gens.length) (hsg : SG gens W sg gens.length) (hrt : RT gens W Rt d) (hu : ix W d ≠ []) :
    Em mon W (ix W d).tail (ix Bh d) ∧ ((ix Bh d = -1 ∧ 0 ≤ ix sg x ∧ ix sg x < W.length ∧ vl gens (ix W (ix sg x)) = vl gens ((ix W d).tail ++ [lt x])) ∨
      (ix Bh d ≠ -1 ∧ 0 ≤ ix Bh d ∧ ix Bh d < Rt.length ∧ (ix Rt (ix Bh d)).length = gens.length ∧ 0 ≤ ix (ix Rt (ix Bh d)) x ∧ ix (ix Rt (ix Bh d)) x < W.length ∧ vl gens (ix W (ix (ix Rt (ix Bh d)) x)) = vl gens ((ix W d).tail ++ [lt x]))) := by
  rcases h.at_ d hd with k | ⟨p, b, k1, k2, k3, k4⟩
  · exact absurd k.1 hu
  · refine ⟨k4, ?_⟩
    rcases k4 with ⟨e1, e2, e3⟩ | ⟨e1, e2, e3, e4⟩
    · obtain ⟨s1, s2, s3⟩ := hsg.2 x hx
      exact .inl ⟨e3, s1, s2, by rw [e1]; exact s3⟩
    · obtain ⟨i, hi⟩ := Int.eq_ofNat_of_zero_le e2
      rw [hi] at e2 e3 e4 ⊢
      have hlt : i < d := by
        refine asc_lt h.rl.asc (by omega) hd ?_
        rw [e4]
        refine .inl ?_
        have := List.length_pos_iff.2 hu
        simp; omega
      obtain ⟨r1, r2⟩ := hrt.2 i hlt
      obtain ⟨r3, r4, r5⟩ := r2 x hx
      have := hrt.1
      exact .inr ⟨by omega, by omega, by omega, r1, r3, r4, by rw [r5, e4]⟩
/-- Is the word behind the first letter, with one letter more, the word of its element? -/
theorem reduced_ok (h : SI gens mon F E Pf Ls R W Bh m) (hk : gens.length < 159) {q : Int} {t : Str} {x : Nat} {ib : Int} (hx : x < gens.length) (q0 : 0 ≤ q) (q1 : q < W.length) (hb : Em mon W t ib) :
    ix W q = t ++ [lt x] ↔ ix Pf q = ib ∧ ix Ls q = (x : Int) := by
  obtain ⟨i, rfl⟩ := Int.eq_ofNat_of_zero_le q0
  rcases h.at_ i (by omega) with ⟨k1, k2, k3, k4⟩ | ⟨p, b, k1, k2, k3, k4⟩
  · exact ⟨fun e => by rw [k1] at e; simp at e, fun e => by omega⟩
  · rw [k1]
    constructor
    · intro e
      obtain ⟨e1, e2⟩ := List.append_inj' e rfl
      have e2 : b = lt x := by simpa using e2
      subst e1
      exact ⟨k3.uniq h.rl.asc hb, by rw [k2, e2, lt_toNat (by omega)]; omega⟩
    · rintro ⟨e1, e2⟩
      rw [e1] at k3
      have hbx : b = lt x := u8_eq (by rw [lt_toNat (by omega)]; omega)
      rw [k3.inj hb, hbx]
/-- The state when x products are taken. -/
structure PI (gens : List (List Int)) (mon : Bool) (sg : List Int) (Rt : List (List Int)) (d x : Nat) (row : List Int) (E : List (List Int)) (Pf Ls : List Int) (R : List Rule) (W : List Str) (Bh : List Int) (m : List (Str × Int)) : Prop where
  si : SI gens mon (FF gens.length (ix W d) x) E Pf Ls R W Bh m
  dl : d < W.length
  rw_ : row.length = gens.length
  row : ∀ y : Nat, y < x → 0 ≤ ix row y ∧ ix row y < W.length ∧ vl gens (ix W (ix row y)) = vl gens (ix W d ++ [lt y])
  sg : SG gens W sg gens.length
  rt : RT gens W Rt d
  rb : R.length ≤ 6 * (d + 1) + x
  wb : W.length ≤ 6 * (d + 1) + 1 + x
  m0 : mon = true → ix W 0 = []
variable {sg : List Int} {Rt : List (List Int)} {d x : Nat} {row : List Int}
theorem PI.u_red (h : PI gens mon sg Rt d x row E Pf Ls R W Bh m) : Red gens mon (ix W d) := h.si.red (by omega) (by have := h.dl; omega)
theorem row_set (hr : row.length = gens.length) (hx : x < gens.length) {q : Int} {P : Nat → Int → Prop} (h : ∀ y : Nat, y < x → P y (ix row y)) (hq : P x q) : ∀ y : Nat, y < x + 1 → P y (ix (st row (x : Int) q) y) := fun y hy => by
  rw [ix_st _ (by omega) (by omega) (by omega)]
  split
  · rename_i e
    have : y = x := by omega
    subst this; exact hq
  · exact h y (by omega)
/-- A product that is known. -/
theorem PI.known (hg : GV gens = true) (h : PI gens mon sg Rt d x row E Pf Ls R W Bh m) (hx : x < gens.length) {R' : List Rule} (hf : vl gens (ix W d ++ [lt x]) ∈ E)
    (hR : RU gens mon R' (FF gens.length (ix W d) (x + 1))) (hl : R'.length ≤ R.length + 1) :
    PI gens mon sg Rt d (x + 1) (st row (x : Int) (mgt m (txt (vl gens (ix W d ++ [lt x]))))) E Pf Ls R' W Bh m := by
  have hk := (GV_iff.1 hg).2.1
  obtain ⟨h0, h1, h2⟩ := h.si.num hf
  have rl : RL gens mon W (FF gens.length (ix W d) (x + 1)) := by
    by_cases hu : ix W d = []
    · refine h.si.rl.congr fun w _ => ?_
      rw [hu, FF_nil (by omega) (by omega), FF_nil (by omega) (by omega)]
    · have a : RL gens mon W (fun w => SL w (ix W d ++ [lt x])) := h.si.rl.congr fun w _ => FF_ne hu x w
      exact (a.known (by omega) (ix_mem h0 h1) h2).2.congr fun w _ => (FF_ne hu (x + 1) w).symm
  have rb := h.rb
  have wb := h.wb
  exact ⟨h.si.keep rl hR, h.dl, by simpa using h.rw_, row_set h.rw_ hx (P := fun y q => 0 ≤ q ∧ q < W.length ∧ vl gens (ix W q) = vl gens (ix W d ++ [lt y])) h.row ⟨h0, h1, h2⟩, h.sg, h.rt, by omega, by omega, h.m0⟩
end
end Sg
namespace Sg
open Go
set_option linter.unusedVariables false
set_option linter.unusedSimpArgs false
set_option maxRecDepth 10000
section
variable {gens : List (List Int)} {mon : Bool} {F : Str → Prop} {E : List (List Int)} {Pf Ls : List Int} {R : List Rule} {W : List Str} {Bh : List Int} {m : List (Str × Int)} {sg : List Int} {Rt : List (List Int)} {d x : Nat} {row : List Int}
theorem SI.few (hg : GV gens = true) (hF : Few gens) (h : SI gens mon F E Pf Ls R W Bh m) : W.length < 2000 := by
  have := hF E h.nodup (h.vf hg)
  rw [h.elen] at this; exact this
/-- A product that is new. -/
theorem PI.new (hg : GV gens = true) (h : PI gens mon sg Rt d x row E Pf Ls R W Bh m) (hx : x < gens.length) (hu : ix W d ≠ []) (hf : vl gens (ix W d ++ [lt x]) ∉ E) {q : Int} (q0 : 0 ≤ q) (q1 : q < W.length) (hq : vl gens (ix W q) = vl gens ((ix W d).tail ++ [lt x])) :
    PI gens mon sg Rt d (x + 1) (st row (x : Int) (E.length : Int)) (E ++ [vl gens (ix W d ++ [lt x])]) (Pf ++ [(d : Int)]) (Ls ++ [(x : Int)]) R (W ++ [ix W d ++ [lt x]]) (Bh ++ [q]) (mput m (txt (vl gens (ix W d ++ [lt x]))) (E.length : Int)) := by
  have hk := (GV_iff.1 hg).2.1
  have hdl := h.dl
  have hel := h.si.elen
  have a : RL gens mon W (fun w => SL w (ix W d ++ [lt x])) := h.si.rl.congr fun w _ => FF_ne hu x w
  have b : RU gens mon R (fun w => SL w (ix W d ++ [lt x])) := h.si.ru.congr fun w _ => FF_ne hu x w
  obtain ⟨hr, rl⟩ := a.new (by omega) ⟨LW.app.2 ⟨h.u_red.1.1, LW.lt hx (by omega)⟩, .inr (by simp)⟩ fun w hw e => hf (h.si.mem.2 ⟨w, hw, e⟩)
  have ht : ix W q = (ix W d).tail ++ [lt x] := by
    refine (h.si.red q0 q1).uniq ?_ hq
    have e : ix W d ++ [lt x] = [(ix W d).head hu] ++ ((ix W d).tail ++ [lt x]) := by
      have := List.cons_head_tail hu
      calc ix W d ++ [lt x] = ((ix W d).head hu :: (ix W d).tail) ++ [lt x] := by rw [this]
        _ = _ := rfl
    exact Red.post hg (e ▸ hr) (.inr (by simp))
  have p := h.si.push hg (p := ix W d) (b := lt x) (ip := d) (ib := q) rl (b.skip (by omega) fun k => k.nr hr) (.inr ⟨fun k => hu k.1, by omega, by omega, rfl⟩) (.inr ⟨fun k => by rw [tail_snoc hu] at k; simp at k, q0, q1, by rw [tail_snoc hu]; exact ht⟩) hf
  rw [lt_toNat (by omega), show ((97 + x : Nat) : Int) - 97 = (x : Int) by omega] at p
  have ed : ix (W ++ [ix W d ++ [lt x]]) (d : Int) = ix W d := ixA hdl
  have rb := h.rb
  have wb := h.wb
  refine ⟨?_, by simp; omega, by simpa using h.rw_, ?_, h.sg.up, h.rt.up (by omega), by omega, by simp; omega, fun hm => ?_⟩
  · rw [ed]
    exact p.keep (rl.congr fun w _ => (FF_ne hu (x + 1) w).symm) (p.ru.congr fun w _ => (FF_ne hu (x + 1) w).symm)
  · rw [ed]
    refine row_set h.rw_ hx (P := fun y q => 0 ≤ q ∧ q < ((W ++ [ix W d ++ [lt x]]).length : Int) ∧ vl gens (ix (W ++ [ix W d ++ [lt x]]) q) = vl gens (ix W d ++ [lt y])) (fun y hy => ?_) ⟨by omega, by simp; omega, by rw [hel, ixL]⟩
    obtain ⟨k1, k2, k3⟩ := h.row y hy
    exact ⟨k1, by simp; omega, by rw [ixAI k1 k2]; exact k3⟩
  · have := ixA (xs := W) (ys := [ix W d ++ [lt x]]) (i := 0) (by omega)
    exact this.trans (h.m0 hm)
/-- The letters are known after the empty word. -/
theorem PI.nil_known (hg : GV gens = true) (h : PI gens mon sg Rt d x row E Pf Ls R W Bh m) (hx : x < gens.length) (hu : ix W d = []) : vl gens (ix W d ++ [lt x]) ∈ E := by
  have hk := (GV_iff.1 hg).2.1
  obtain ⟨r, k1, k2, k3⟩ := exists_red (gens := gens) (mon := mon) (w := [] ++ [lt x]) ⟨LW.lt hx (by omega), .inr (by simp)⟩
  rw [h.si.mem]
  refine ⟨r, (h.si.rl.mem r).2 ⟨k1, .inl ?_⟩, by rw [hu]; exact k2⟩
  have : SL ([] ++ [lt x]) [lt gens.length] := SL.snoc_lt (u := []) (lt_lt hx (by omega))
  rcases k3 with rfl | k3
  · exact this
  · exact k3.trans this
theorem gap0 (hk : gens.length < 159) (h : RL gens mon W (FF gens.length [] gens.length)) (h0 : 1 ≤ W.length) {p : Str} {b : UInt8} (hb : LW gens.length [b]) (hp : p = [] ∨ Red gens mon p)
    (hF : FF gens.length (ix W 0) 0 (p ++ [b])) : FF gens.length [] gens.length (p ++ [b]) := by
  have hbk := LW.one.1 hb
  have one : SL ([] ++ [b]) ([] ++ [lt gens.length]) := SL.snoc_lt (by rw [lt_toNat hk]; omega)
  rcases hF with hF | hF
  · exact .inl hF
  · rcases SL.snoc hF with k | ⟨_, k⟩
    · rcases hp with rfl | hp
      · exact .inl one
      · have hu : ix W 0 ∈ W := mem_ix.2 ⟨0, by omega, rfl⟩
        have hpW : p ∈ W := (h.mem p).2 ⟨hp, FF.dn k ((h.mem _).1 hu).2⟩
        obtain ⟨j, hj, rfl⟩ := mem_ix.1 hpW
        have := asc_lt h.asc (i := j) (j := 0) hj (by omega) k
        omega
    · rw [lt_toNat (by omega)] at k
      omega
theorem FD_start (hg : GV gens = true) {r : run} (h : RI gens mon d r) (hd : d < r.words.length) : RL gens mon r.words (FF gens.length (ix r.words d) 0) ∧ RU gens mon r.Enum.Rules (FF gens.length (ix r.words d) 0) := by
  have hk := (GV_iff.1 hg).2.1
  have rl := h.si.rl
  have ru := h.si.ru
  unfold FD at rl ru
  by_cases h0 : d = 0
  · subst h0
    rw [if_pos rfl] at rl ru
    have up : ∀ w, FF gens.length [] gens.length w → FF gens.length (ix r.words 0) 0 w := fun w hw => .inl (hw.elim id id)
    refine ⟨rl.congr fun w hw => ⟨up w, fun hF => ?_⟩, ru.congr fun w hw => ⟨up w, fun hF => ?_⟩⟩
    · by_cases hn : w = []
      · subst hn; exact .inl (SL.nil (by simp))
      · obtain ⟨p, b, rfl, hb, hp⟩ := redSplit hg hw hn
        exact gap0 (by omega) rl h.ne hb hp hF
    · obtain ⟨p, b, rfl, hb, hp⟩ := mnSplit hw
      exact gap0 (by omega) rl h.ne hb hp hF
  · rw [if_neg h0] at rl ru
    obtain ⟨e, rfl⟩ : ∃ e, d = e + 1 := ⟨d - 1, by omega⟩
    rw [show e + 1 - 1 = e by omega] at rl ru
    exact ⟨rl.next hg (by omega) hd, RU.next (by omega) rl ru hd⟩
theorem RI.pi (hg : GV gens = true) {r : run} (h : RI gens mon d r) (hd : d < r.words.length) : PI gens mon r.single r.Enum.Right d 0 (List.replicate gens.length 0) r.Enum.Elems r.Enum.Prefix r.Enum.Last r.Enum.Rules r.words r.behind r.number := by
  obtain ⟨a, b⟩ := FD_start hg h hd
  exact ⟨h.si.keep a b, hd, by simp, fun y hy => by omega, h.sg, h.rt, h.rb, h.wb, h.m0⟩
theorem PI.fin (hg : GV gens = true) {r : run} (h0 : RI gens mon d r) (h : PI gens mon r.single r.Enum.Right d gens.length row E Pf Ls R W Bh m) :
    RI gens mon (d + 1) ⟨⟨r.Enum.Points, r.Enum.Monoid, r.Enum.Gens, E, Pf, Ls, r.Enum.Right ++ [row], R, r.Enum.Done + 1⟩, m, W, Bh, r.single⟩ := by
  have hk := (GV_iff.1 hg).2.1
  have dl := h.dl
  have rb := h.rb
  have wb := h.wb
  have hrt := h.rt
  refine ⟨h0.pts, h0.mon_, h0.gn, by simp only [h0.dn]; omega, by simp only; omega, by simp only; omega, ?_, h.sg, ⟨by simp [hrt.1], fun i hi => ?_⟩, by simp only; omega, by simp only; omega, h.m0⟩
  · have e : FD gens (d + 1) W = FF gens.length (ix W d) gens.length := by
      unfold FD
      rw [if_neg (by omega), show d + 1 - 1 = d by omega]
    show SI gens mon (FD gens (d + 1) W) E Pf Ls R W Bh m
    rw [e]; exact h.si
  · simp only
    have hl := hrt.1
    by_cases hid : i = d
    · subst hid
      rw [ixL' hl.symm]
      exact ⟨h.rw_, fun y hy => h.row y hy⟩
    · rw [ixA (by omega)]
      exact hrt.2 i (by omega)
end
end Sg
namespace Sg
open Go
set_option linter.unusedVariables false
set_option linter.unusedSimpArgs false
/-- Two ascending lists with the same words are the same. -/
theorem asc_ext : ∀ {W V : List Str}, W.Pairwise SL → V.Pairwise SL → (∀ w, w ∈ W ↔ w ∈ V) → W = V
  | [], [], _, _, _ => rfl
  | [], v :: V, _, _, h => by have := (h v).2 (by simp); simp at this
  | w :: W, [], _, _, h => by have := (h w).1 (by simp); simp at this
  | w :: W, v :: V, hw, hv, h => by
    obtain ⟨w1, w2⟩ := List.pairwise_cons.1 hw
    obtain ⟨v1, v2⟩ := List.pairwise_cons.1 hv
    have e : w = v := by
      rcases List.mem_cons.1 ((h w).1 (by simp)) with k | k
      · exact k
      · rcases List.mem_cons.1 ((h v).2 (by simp)) with k2 | k2
        · exact k2.symm
        · exact absurd (v1 w k) (w1 v k2).asymm
    subst e
    rw [asc_ext w2 v2 fun x => ⟨fun hx => ?_, fun hx => ?_⟩]
    · rcases List.mem_cons.1 ((h x).1 (List.mem_cons_of_mem _ hx)) with k | k
      · subst k; exact absurd (w1 x hx) (SL.irrefl x)
      · exact k
    · rcases List.mem_cons.1 ((h x).2 (List.mem_cons_of_mem _ hx)) with k | k
      · subst k; exact absurd (v1 x hx) (SL.irrefl x)
      · exact k
section
variable {gens : List (List Int)} {mon : Bool}
theorem RL.uniq {W V : List Str} {F : Str → Prop} (h : RL gens mon W F) (k : RL gens mon V F) : W = V := asc_ext h.asc k.asc fun w => (h.mem w).trans (k.mem w).symm
/-- Of two such lists the one that has come less far is the beginning of the other. -/
theorem RL.part {W V : List Str} {F G : Str → Prop} (h : RL gens mon W F) (k : RL gens mon V G) (hFG : ∀ w, F w → G w) (dn : ∀ v w, SL v w → F w → F v) : ∀ i : Nat, i < W.length → i < V.length ∧ ix V i = ix W i := by
  intro i
  induction i using Nat.strongRecOn with
  | _ i ih =>
    intro hi
    have hm := (h.mem (ix W i)).1 (mem_ix.2 ⟨i, hi, rfl⟩)
    obtain ⟨j, hj, e⟩ := mem_ix.1 ((k.mem _).2 ⟨hm.1, hFG _ hm.2⟩)
    have hij : j = i := by
      rcases Nat.lt_trichotomy j i with hl | hl | hl
      · have := (ih j hl (by omega)).2
        rw [this] at e
        have := asc_inj h.asc (by omega) hi e
        omega
      · exact hl
      · have hV := (k.mem (ix V i)).1 (mem_ix.2 ⟨i, by omega, rfl⟩)
        have hs : SL (ix V i) (ix W i) := by rw [← e]; exact asc_ix k.asc hl hj
        obtain ⟨l, hl1, e2⟩ := mem_ix.1 ((h.mem _).2 ⟨hV.1, dn _ _ hs hm.2⟩)
        have hs2 := hs
        rw [← e2] at hs2
        have hli := asc_lt h.asc hl1 hi hs2
        have := (ih l hli hl1).2
        rw [e2] at this
        have := asc_inj k.asc (by omega) (by omega) this
        omega
    subst hij
    exact ⟨hj, e⟩
theorem FF_mono {k : Nat} (hk : k < 159) {u v : Str} (h : u = v ∨ SL u v) {w : Str} (hw : FF k u k w) : FF k v k w := by
  rcases h with rfl | h
  · exact hw
  · rcases hw with hw | hw
    · exact .inl hw
    · refine .inr (hw.trans ?_)
      rcases h with h | ⟨h, h2⟩
      · exact .inl (by simp; omega)
      · exact .inr ⟨by simp [h], slt_app h h2⟩
theorem words_uniq (hg : GV gens = true) {d : Nat} {W V : List Str} (h : RL gens mon W (FD gens d W)) (k : RL gens mon V (FD gens d V)) (hd : d ≤ W.length) (kd : d ≤ V.length) : W = V := by
  have hk := (GV_iff.1 hg).2.1
  unfold FD at h k
  by_cases h0 : d = 0
  · rw [if_pos h0] at h k
    exact h.uniq k
  · rw [if_neg h0] at h k
    have key : ∀ {A B : List Str}, RL gens mon A (FF gens.length (ix A ((d - 1 : Nat) : Int)) gens.length) → RL gens mon B (FF gens.length (ix B ((d - 1 : Nat) : Int)) gens.length) → d ≤ A.length → (ix A ((d - 1 : Nat) : Int) = ix B ((d - 1 : Nat) : Int) ∨ SL (ix A ((d - 1 : Nat) : Int)) (ix B ((d - 1 : Nat) : Int))) → A = B := by
      intro A B ha hb hdA hle
      have e := (ha.part hb (fun w hw => FF_mono (by omega) hle hw) (fun v w hvw hw => FF.dn hvw hw) (d - 1) (by omega)).2
      rw [e] at hb
      exact ha.uniq hb
    rcases SL.total (ix W ((d - 1 : Nat) : Int)) (ix V ((d - 1 : Nat) : Int)) with c | c | c
    · exact key h k hd (.inr c)
    · exact key h k hd (.inl c)
    · exact (key k h kd (.inr c)).symm
variable {F : Str → Prop} {E : List (List Int)} {Pf Ls : List Int} {R : List Rule} {W : List Str} {Bh : List Int} {m : List (Str × Int)} {sg : List Int} {Rt : List (List Int)} {d x : Nat} {row : List Int}
/-- A product that is new is an element of every later state. -/
theorem PI.limit (hg : GV gens = true) (h : PI gens mon sg Rt d x row E Pf Ls R W Bh m) (hx : x < gens.length) (hu : ix W d ≠ []) (hf : vl gens (ix W d ++ [lt x]) ∉ E) {d' : Nat} (hd : d < d') {s : run} (hs : RI gens mon d' s) : W.length < s.words.length := by
  have hk := (GV_iff.1 hg).2.1
  have hdl := h.dl
  have sdl := hs.dl
  have a : RL gens mon W (fun w => SL w (ix W d ++ [lt x])) := h.si.rl.congr fun w _ => FF_ne hu x w
  obtain ⟨hr, rl⟩ := a.new (by omega) ⟨LW.app.2 ⟨h.u_red.1.1, LW.lt hx (by omega)⟩, .inr (by simp)⟩ fun w hw e => hf (h.si.mem.2 ⟨w, hw, e⟩)
  have rl : RL gens mon (W ++ [ix W d ++ [lt x]]) (FF gens.length (ix W d) (x + 1)) := rl.congr fun w _ => (FF_ne hu (x + 1) w).symm
  have k := hs.si.rl
  unfold FD at k
  rw [if_neg (by omega)] at k
  have up : ∀ w, FF gens.length (ix W d) (x + 1) w → FF gens.length (ix W d) gens.length w := fun w hw => by
    refine hw.imp id fun h2 => ?_
    by_cases e : x + 1 = gens.length
    · rw [← e]; exact h2
    · exact h2.trans (SL.snoc_lt (lt_lt (by omega) (by omega)))
  have key : (ix W d = ix s.words ((d' - 1 : Nat) : Int) ∨ SL (ix W d) (ix s.words ((d' - 1 : Nat) : Int))) → W.length < s.words.length := fun hle =>
    (rl.part k (fun w hw => FF_mono (by omega) hle (up w hw)) (fun v w hvw hw => FF.dn hvw hw) W.length (by simp)).1
  rcases SL.total (ix W d) (ix s.words ((d' - 1 : Nat) : Int)) with c | c | c
  · exact key (.inr c)
  · exact key (.inl c)
  · exfalso
    have e := (k.part rl (fun w hw => ?_) (fun v w hvw hw => FF.dn hvw hw) d (by omega)).2
    · rw [ixA hdl] at e
      rw [e] at c
      by_cases hdd : d = d' - 1
      · subst hdd; exact SL.irrefl _ c
      · exact (asc_ix hs.si.rl.asc (by omega : d < d' - 1) (by omega)).asymm c
    · have := FF_up (by omega) c hw
      refine this.imp id fun h2 => h2.trans (SL.snoc_lt (lt_lt (by omega) (by omega)))
end
end Sg
namespace Sg
open Go
set_option linter.unusedVariables false
set_option linter.unusedSimpArgs false
set_option maxRecDepth 10000
section
variable {gens : List (List Int)} {mon : Bool} {F : Str → Prop} {E : List (List Int)} {Pf Ls : List Int} {R : List Rule} {W : List Str} {Bh : List Int} {m : List (Str × Int)} {sg : List Int} {Rt : List (List Int)} {d x : Nat} {row : List Int}
/-- No rule is made. -/
theorem PI.skip (hg : GV gens = true) (h : PI gens mon sg Rt d x row E Pf Ls R W Bh m) (hx : x < gens.length) (hf : vl gens (ix W d ++ [lt x]) ∈ E) (hn : ix W d ≠ [] → ¬ MN gens mon (ix W d ++ [lt x])) :
    PI gens mon sg Rt d (x + 1) (st row (x : Int) (mgt m (txt (vl gens (ix W d ++ [lt x]))))) E Pf Ls R W Bh m := by
  have hk := (GV_iff.1 hg).2.1
  refine h.known hg hx hf ?_ (by omega)
  by_cases hu : ix W d = []
  · refine h.si.ru.congr fun w _ => ?_
    rw [hu, FF_nil (by omega) (by omega), FF_nil (by omega) (by omega)]
  · have b : RU gens mon R (fun w => SL w (ix W d ++ [lt x])) := h.si.ru.congr fun w _ => FF_ne hu x w
    exact (b.skip (by omega) (hn hu)).congr fun w _ => (FF_ne hu (x + 1) w).symm
/-- A rule is made. -/
theorem PI.rule (hg : GV gens = true) (h : PI gens mon sg Rt d x row E Pf Ls R W Bh m) (hx : x < gens.length) (hf : vl gens (ix W d ++ [lt x]) ∈ E) (hu : ix W d ≠ []) (hm : MN gens mon (ix W d ++ [lt x])) :
    PI gens mon sg Rt d (x + 1) (st row (x : Int) (mgt m (txt (vl gens (ix W d ++ [lt x]))))) E Pf Ls (R ++ [⟨ix W d ++ [lt x], ix W (mgt m (txt (vl gens (ix W d ++ [lt x]))))⟩]) W Bh m := by
  have hk := (GV_iff.1 hg).2.1
  obtain ⟨h0, h1, h2⟩ := h.si.num hf
  refine h.known hg hx hf ?_ (by simp)
  have b : RU gens mon R (fun w => SL w (ix W d ++ [lt x])) := h.si.ru.congr fun w _ => FF_ne hu x w
  exact (b.add (by omega) hm (h.si.red h0 h1) h2).congr fun w _ => (FF_ne hu (x + 1) w).symm
/-- Is there a rule for a product that is known? -/
theorem PI.mn (hg : GV gens = true) (h : PI gens mon sg Rt d x row E Pf Ls R W Bh m) (hx : x < gens.length) (hf : vl gens (ix W d ++ [lt x]) ∈ E) (hu : ix W d ≠ []) {q ib : Int} (q0 : 0 ≤ q) (q1 : q < W.length) (hq : vl gens (ix W q) = vl gens ((ix W d).tail ++ [lt x]))
    (hb : Em mon W (ix W d).tail ib) : MN gens mon (ix W d ++ [lt x]) ↔ ix Pf q = ib ∧ ix Ls q = (x : Int) := by
  have hk := (GV_iff.1 hg).2.1
  rw [← reduced_ok h.si (by omega) hx q0 q1 hb]
  have a : RL gens mon W (fun w => SL w (ix W d ++ [lt x])) := h.si.rl.congr fun w _ => FF_ne hu x w
  obtain ⟨h0, h1, h2⟩ := h.si.num hf
  have nr := (a.known (by omega) (ix_mem h0 h1) h2).1
  constructor
  · intro hm
    have ht := hm.tail
    rw [tail_snoc hu] at ht
    exact (h.si.red q0 q1).uniq (ht.resolve_left (by simp)) hq
  · intro e
    refine ⟨LW.app.2 ⟨h.u_red.1.1, LW.lt hx (by omega)⟩, by simp, nr, .inr (by rw [drop_snoc]; exact h.u_red), .inr ?_⟩
    rw [tail_snoc hu, ← e]
    exact h.si.red q0 q1
theorem enumerate_run_process_ok (hg : GV gens = true) {r : run} (hr : RI gens mon d r) (hw : r.words.length ≤ 2000) (hd : d < r.words.length) {K : Int → run → Prop} (hL : ¬ Few gens → (∀ d' s, d < d' → RI gens mon d' s → 2000 < s.words.length) → ∀ q, K 3 q)
    (hK : ∀ r', RI gens mon (d + 1) r' → r'.words.length ≤ 2000 → K 0 r') : enumerate_run_process r K := by
  have hgv := GV_iff.1 hg
  unfold enumerate_run_process
  rw [hr.gn]
  refine ⟨by omega, by omega, ?_⟩
  refine LoopWP.to gens.length (fun s => s.1) (fun s => s.1 ≤ gens.length ∧ PI gens mon r.single r.Enum.Right d s.1 s.2.1 s.2.2.1 s.2.2.2.1 s.2.2.2.2.1 s.2.2.2.2.2.1 s.2.2.2.2.2.2.1 s.2.2.2.2.2.2.2.1 s.2.2.2.2.2.2.2.2 ∧ s.2.2.2.2.2.2.1.length ≤ 2000) ⟨by simp, by simpa using hr.pi hg hd, hw⟩ (fun s h => h.1) ?_
  rintro ⟨x, row, E, Pf, Ls, R, W, Bh, m⟩ X ⟨hxl, hI, few⟩ hX
  simp only at hxl hI few
  have hel := hI.si.elen
  have rb := hI.rb
  have pl := hI.si.pl
  have ll := hI.si.ll
  have bl := hI.si.bl
  have rl := hI.rw_
  have hdl := hI.dl
  have sl := hI.sg.1
  have rtl := hI.rt.1
  dsimp only
  unfold enumerate_run_process_L1
  rw [hr.gn, hr.dn]
  split
  · rename_i hlt
    have hx : x < gens.length := by omega
    have hv := hgv.2.2 x hx
    have hc := chr_lt (k := x) (by omega)
    have hu := hI.u_red
    have hwl := hI.si.wl d hdl
    have huv := vl_ok hg hu.1.1
    have hcp : compT (ix E (d : Int)) (ix gens (x : Int)) = vl gens (ix W d ++ [lt x]) := by
      rw [hI.si.eix (by omega) (by omega), vl_snoc, lt_toNat (by omega), show ((97 + x : Nat) : Int) - 97 = (x : Int) by omega, compT, if_pos (pairB_iff.2 ⟨huv.1, hv.1, by omega⟩)]
    have hcv := vl_ok hg (w := ix W d ++ [lt x]) (LW.app.2 ⟨hu.1.1, LW.lt hx (by omega)⟩)
    have hcl := VF.len hcv.1
    refine ⟨by omega, by omega, by omega, by omega, trans_Compose_ok ?_⟩
    rw [hcp]
    refine enumerate_text_ok (by omega) ?_
    rw [hc.2.2]
    split
    · rename_i hm
      have hf := (hI.si.nm.has _ hcv.1).1 hm
      obtain ⟨k0, k1, k2⟩ := hI.si.num hf
      refine ⟨by omega, by omega, ⟨by omega, by omega⟩, hc.1, hc.2.1, by simp; omega, by omega, by omega, ?_⟩
      split
      · rename_i hu0
        exact ⟨by omega, by omega, hX (x + 1, _) ⟨by simp only; omega, hI.skip hg hx hf fun hn => absurd hu0 hn, few⟩ rfl⟩
      · rename_i hu0
        obtain ⟨hb, hq⟩ := after_ok hI.si hdl hx hI.sg hI.rt hu0
        refine ⟨by omega, by omega, ?_⟩
        rcases hq with ⟨e0, q0, q1, q2⟩ | ⟨e0, e1, e2, e3, q0, q1, q2⟩
        · rw [if_pos e0]
          have mn := hI.mn hg hx hf hu0 q0 q1 q2 hb
          refine ⟨by omega, by omega, by omega, by omega, ?_⟩
          split
          · rename_i p1
            refine ⟨by omega, by omega, ?_⟩
            split
            · rename_i p2
              exact ⟨by omega, by omega, by simp; omega, by omega, by omega, hX (x + 1, _) ⟨by simp only; omega, hI.rule hg hx hf hu0 (mn.2 ⟨p1, p2⟩), few⟩ rfl⟩
            · rename_i p2
              exact ⟨by omega, by omega, hX (x + 1, _) ⟨by simp only; omega, hI.skip hg hx hf fun _ k => p2 (mn.1 k).2, few⟩ rfl⟩
          · rename_i p1
            exact ⟨by omega, by omega, hX (x + 1, _) ⟨by simp only; omega, hI.skip hg hx hf fun _ k => p1 (mn.1 k).1, few⟩ rfl⟩
        · rw [if_neg e0]
          have mn := hI.mn hg hx hf hu0 q0 q1 q2 hb
          refine ⟨by omega, by omega, by omega, by omega, by omega, by omega, ?_⟩
          split
          · rename_i p1
            refine ⟨by omega, by omega, ?_⟩
            split
            · rename_i p2
              exact ⟨by omega, by omega, by simp; omega, by omega, by omega, hX (x + 1, _) ⟨by simp only; omega, hI.rule hg hx hf hu0 (mn.2 ⟨p1, p2⟩), few⟩ rfl⟩
            · rename_i p2
              exact ⟨by omega, by omega, hX (x + 1, _) ⟨by simp only; omega, hI.skip hg hx hf fun _ k => p2 (mn.1 k).2, few⟩ rfl⟩
          · rename_i p1
            exact ⟨by omega, by omega, hX (x + 1, _) ⟨by simp only; omega, hI.skip hg hx hf fun _ k => p1 (mn.1 k).1, few⟩ rfl⟩
    · rename_i hm
      have hf : vl gens (ix W d ++ [lt x]) ∉ E := fun hf => hm ((hI.si.nm.has _ hcv.1).2 hf)
      have hu0 : ix W d ≠ [] := fun k => hf (hI.nil_known hg hx k)
      obtain ⟨hb, hq⟩ := after_ok hI.si hdl hx hI.sg hI.rt hu0
      refine ⟨by omega, by omega, ⟨by omega, by omega⟩, hc.1, hc.2.1, by simp; omega, ?_⟩
      by_cases h2000 : W.length = 2000
      · rw [if_pos (by omega)]
        refine hL (fun hF => ?_) (fun d' s hd' hs => h2000 ▸ hI.limit hg hx hu0 hf hd' hs) _
        have := hF (vl gens (ix W d ++ [lt x]) :: E) (List.nodup_cons.2 ⟨hf, hI.si.nodup⟩) fun f hm => by
          rcases List.mem_cons.1 hm with rfl | hm
          · exact hcv
          · exact hI.si.vf hg f hm
        simp only [List.length_cons] at this
        omega
      rw [if_neg (by omega)]
      refine ⟨by omega, by omega, ?_⟩
      rcases hq with ⟨e0, q0, q1, q2⟩ | ⟨e0, e1, e2, e3, q0, q1, q2⟩
      · rw [if_pos e0]
        exact ⟨by omega, by omega, enumerate_text_ok (by omega) ⟨by simp; omega, by simp; omega, by simp; omega, by simp; omega, by simp; omega, by omega, by omega, hX (x + 1, _) ⟨by simp only; omega, hI.new hg hx hu0 hf q0 q1 q2, by simp; omega⟩ rfl⟩⟩
      · rw [if_neg e0]
        exact ⟨by omega, by omega, by omega, by omega, enumerate_text_ok (by omega) ⟨by simp; omega, by simp; omega, by simp; omega, by simp; omega, by simp; omega, by omega, by omega, hX (x + 1, _) ⟨by simp only; omega, hI.new hg hx hu0 hf q0 q1 q2, by simp; omega⟩ rfl⟩⟩
  · have : x = gens.length := by omega
    subst this
    refine ⟨by simp; omega, ⟨by omega, by omega⟩, ?_⟩
    have := hK _ (hI.fin hg hr) few
    rw [hr.gn, hr.dn] at this
    exact this
end
end Sg
namespace Sg
open Go
set_option linter.unusedVariables false
set_option linter.unusedSimpArgs false
theorem ix_out {xs : List Int} {j : Nat} (h : xs.length ≤ j) : ix xs (j : Int) = 0 := by
  simp [ix, List.getD_eq_getElem?_getD, List.getElem?_eq_none h]
def code4 (f : List Int) : Int := ix f (0 : Nat) + 4 * ix f (1 : Nat) + 16 * ix f (2 : Nat) + 64 * ix f (3 : Nat)
theorem entry4 {f : List Int} (hf : VF f = true) (hl : f.length ≤ 4) (j : Nat) : 0 ≤ ix f (j : Int) ∧ ix f (j : Int) < 4 := by
  by_cases h : j < f.length
  · have := (VF_iff.1 hf).2.2 j h; omega
  · rw [ix_out (by omega)]; omega
theorem few_ok {gens : List (List Int)} (h : (ix gens 0).length ≤ 4) : Few gens := by
  intro L hn hL
  apply Classical.byContradiction
  intro hlen
  obtain ⟨a, b, hab, hb, he⟩ := pigeon 256 (fun m => code4 (ix L (m : Int))) (fun m hm => by
    obtain ⟨h1, h2⟩ := hL _ (mem_ix.2 ⟨m, by omega, rfl⟩)
    have e0 := entry4 h1 (by omega) 0
    have e1 := entry4 h1 (by omega) 1
    have e2 := entry4 h1 (by omega) 2
    have e3 := entry4 h1 (by omega) 3
    simp only [code4]; omega)
  obtain ⟨a1, a2⟩ := hL _ (mem_ix.2 ⟨a, by omega, rfl⟩)
  obtain ⟨b1, b2⟩ := hL _ (mem_ix.2 ⟨b, by omega, rfl⟩)
  have p0 := entry4 a1 (by omega) 0
  have p1 := entry4 a1 (by omega) 1
  have p2 := entry4 a1 (by omega) 2
  have p3 := entry4 a1 (by omega) 3
  have q0 := entry4 b1 (by omega) 0
  have q1 := entry4 b1 (by omega) 1
  have q2 := entry4 b1 (by omega) 2
  have q3 := entry4 b1 (by omega) 3
  simp only [code4] at he
  have : ix L (a : Int) = ix L (b : Int) := list_ix (by omega) fun j hj => by
    have hj4 : j < 4 := by omega
    rcases (by omega : j = 0 ∨ j = 1 ∨ j = 2 ∨ j = 3) with rfl | rfl | rfl | rfl <;> omega
  rw [ix_lt (by omega), ix_lt (by omega)] at this
  have := (List.pairwise_iff_getElem.1 hn) a b (by omega) (by omega) hab
  contradiction
end Sg
namespace Sg
open Go
set_option linter.unusedVariables false
set_option linter.unusedSimpArgs false
set_option maxRecDepth 10000
section
variable {gens : List (List Int)} {mon : Bool}
/-- The state of a tuple of a loop. -/
def ofTup (s : Int × Bool × Int × List (List Int) × List (List Int) × List Int × List Int × List (List Int) × List Rule × List Str × List Int × List Int × (List (Str × Int))) : run :=
  ⟨⟨s.1, s.2.1, s.2.2.2.1, s.2.2.2.2.1, s.2.2.2.2.2.1, s.2.2.2.2.2.2.1, s.2.2.2.2.2.2.2.1, s.2.2.2.2.2.2.2.2.1, s.2.2.1⟩, s.2.2.2.2.2.2.2.2.2.2.2.2, s.2.2.2.2.2.2.2.2.2.1, s.2.2.2.2.2.2.2.2.2.2.1, s.2.2.2.2.2.2.2.2.2.2.2.1⟩
/-- There are too many elements: after d elements it goes no further. -/
def Lim (gens : List (List Int)) (mon : Bool) (d : Nat) : Prop := ¬ Few gens ∧ (∃ s, RI gens mon d s ∧ d < s.words.length) ∧ ∀ d' s, d < d' → RI gens mon d' s → 2000 < s.words.length
end
end Sg
namespace Sg
open Go
set_option linter.unusedVariables false
set_option linter.unusedSimpArgs false
theorem asc_extG {α : Type} {r : α → α → Prop} (ir : ∀ a, ¬ r a a) (as : ∀ a b, r a b → ¬ r b a) : ∀ {W V : List α}, W.Pairwise r → V.Pairwise r → (∀ w, w ∈ W ↔ w ∈ V) → W = V
  | [], [], _, _, _ => rfl
  | [], v :: V, _, _, h => by have := (h v).2 (by simp); simp at this
  | w :: W, [], _, _, h => by have := (h w).1 (by simp); simp at this
  | w :: W, v :: V, hw, hv, h => by
    obtain ⟨w1, w2⟩ := List.pairwise_cons.1 hw
    obtain ⟨v1, v2⟩ := List.pairwise_cons.1 hv
    have e : w = v := by
      rcases List.mem_cons.1 ((h w).1 (by simp)) with k | k
      · exact k
      · rcases List.mem_cons.1 ((h v).2 (by simp)) with k2 | k2
        · exact k2.symm
        · exact absurd (v1 w k) (as _ _ (w1 v k2))
    subst e
    rw [asc_extG ir as w2 v2 fun x => ⟨fun hx => ?_, fun hx => ?_⟩]
    · rcases List.mem_cons.1 ((h x).1 (List.mem_cons_of_mem _ hx)) with k | k
      · subst k; exact absurd (w1 x hx) (ir x)
      · exact k
    · rcases List.mem_cons.1 ((h x).2 (List.mem_cons_of_mem _ hx)) with k | k
      · subst k; exact absurd (v1 x hx) (ir x)
      · exact k
section
variable {gens : List (List Int)} {mon : Bool}
theorem RU.uniq {R S : List Rule} {F : Str → Prop} (h : RU gens mon R F) (k : RU gens mon S F) : R = S :=
  asc_extG (r := fun a b : Rule => SL a.Left b.Left) (fun a => SL.irrefl _) (fun a b h => h.asymm) h.asc k.asc fun w => (h.mem w).trans (k.mem w).symm
theorem at_uniq {W : List Str} (hW : W.Pairwise SL) {P1 L1 B1 P2 L2 B2 : List Int} {i : Int} (h : AT mon W P1 L1 B1 i) (k : AT mon W P2 L2 B2 i) : ix P1 i = ix P2 i ∧ ix L1 i = ix L2 i ∧ ix B1 i = ix B2 i := by
  rcases h with ⟨a1, a2, a3, a4⟩ | ⟨p, b, a1, a2, a3, a4⟩ <;> rcases k with ⟨c1, c2, c3, c4⟩ | ⟨q, c, c1, c2, c3, c4⟩
  · exact ⟨by omega, by omega, by omega⟩
  · rw [a1] at c1; simp at c1
  · rw [c1] at a1; simp at a1
  · rw [a1] at c1
    obtain ⟨e1, e2⟩ := List.append_inj' c1 rfl
    have e2 : b = c := by simpa using e2
    subst e1 e2
    exact ⟨a3.uniq hW c3, by omega, a4.uniq hW c4⟩
theorem val_uniq {W : List Str} {F : Str → Prop} (h : RL gens mon W F) {i j : Int} (i0 : 0 ≤ i) (i1 : i < W.length) (j0 : 0 ≤ j) (j1 : j < W.length) (e : vl gens (ix W i) = vl gens (ix W j)) : i = j := by
  have := ((h.mem _).1 (ix_mem i0 i1)).1.uniq ((h.mem _).1 (ix_mem j0 j1)).1 e
  obtain ⟨a, rfl⟩ := Int.eq_ofNat_of_zero_le i0
  obtain ⟨b, rfl⟩ := Int.eq_ofNat_of_zero_le j0
  have := asc_inj h.asc (i := a) (j := b) (by omega) (by omega) this
  omega
theorem RI.enum_uniq (hg : GV gens = true) {d : Nat} {r s : run} (h : RI gens mon d r) (k : RI gens mon d s) : r.words = s.words ∧ r.Enum = s.Enum := by
  have e := words_uniq hg h.si.rl k.si.rl h.dl k.dl
  refine ⟨e, ?_⟩
  obtain ⟨⟨Pt, Mo, Ge, El, Pr, La, Ri, Ru, Dn⟩, nu, wo, be, si⟩ := r
  obtain ⟨⟨Pt', Mo', Ge', El', Pr', La', Ri', Ru', Dn'⟩, nu', wo', be', si'⟩ := s
  obtain ⟨h1, h2, h3, h4, h5, h6, h7, h8, h9, h10, h11, h12⟩ := h
  obtain ⟨k1, k2, k3, k4, k5, k6, k7, k8, k9, k10, k11, k12⟩ := k
  simp only at e h1 h2 h3 h4 h5 h6 h7 h8 h9 k1 k2 k3 k4 k5 k6 k7 k8 k9
  subst e
  have eE : El = El' := by rw [h7.el, k7.el]
  have eR : Ru = Ru' := h7.ru.uniq k7.ru
  have pl := h7.pl
  have pl' := k7.pl
  have ll := h7.ll
  have ll' := k7.ll
  have eP : Pr = Pr' := list_ix (by omega) fun j hj => (at_uniq h7.rl.asc (h7.at_ j (by omega)) (k7.at_ j (by omega))).1
  have eL : La = La' := list_ix (by omega) fun j hj => (at_uniq h7.rl.asc (h7.at_ j (by omega)) (k7.at_ j (by omega))).2.1
  have r1 := h9.1
  have r2 := k9.1
  have eRi : Ri = Ri' := list_ix (by omega) fun i hi => by
    obtain ⟨a1, a2⟩ := h9.2 i (by omega)
    obtain ⟨b1, b2⟩ := k9.2 i (by omega)
    refine list_ix (by omega) fun y hy => ?_
    obtain ⟨x1, x2, x3⟩ := a2 y (by omega)
    obtain ⟨y1, y2, y3⟩ := b2 y (by omega)
    exact val_uniq h7.rl x1 x2 y1 y2 (x3.trans y3.symm)
  rw [h1, k1, h2, k2, h3, k3, h4, k4, eE, eR, eP, eL, eRi]
end
end Sg
namespace Sg
open Go
set_option linter.unusedVariables false
set_option linter.unusedSimpArgs false
set_option maxRecDepth 10000
theorem slices_Equal_int_ok {a b : List Int} {K : Bool → Prop} (h : K (decide (a = b))) : slices_Equal_int a b K := ref03_Same_ok h
theorem slices_EqualFunc_int_ok {a b : List (List Int)} {K : Bool → Prop} (h : K (decide (a = b))) : slices_EqualFunc_int a b K := ref03_SameRows_ok h
theorem rule_ext {a b : Rule} : (a.Left = b.Left ∧ a.Right = b.Right) ↔ a = b := by
  cases a; cases b; simp
theorem slices_Equal_api_Rule_ok {a b : List Rule} {K : Bool → Prop} (h : K (decide (a = b))) : slices_Equal_api_Rule a b K := by
  unfold slices_Equal_api_Rule
  intro ha hb
  split
  · rename_i hl
    have hl' : a.length = b.length := by omega
    refine LoopWP.to a.length (fun k : Nat => k) (fun k => k ≤ a.length ∧ ∀ j : Nat, j < k → ix a j = ix b j) ⟨by omega, fun j hj => by omega⟩ (fun s h => h.1) ?_
    rintro k X ⟨hk, hI⟩ hX
    show slices_Equal_api_Rule_L1 a b K X k
    unfold slices_Equal_api_Rule_L1
    split
    · refine ⟨by omega, by omega, by omega, by omega, ?_⟩
      split
      · rename_i he
        refine hX (k + 1) ⟨by omega, fun j hj => ?_⟩ rfl
        by_cases hjk : j = k
        · subst hjk; exact rule_ext.1 he
        · exact hI j (by omega)
      · rename_i hne
        have : a ≠ b := fun h => hne (by rw [h]; exact ⟨rfl, rfl⟩)
        simpa [this] using h
    · have : a = b := list_ix hl' fun j hj => hI j (by omega)
      simpa [this] using h
  · rename_i hl
    have : a ≠ b := fun h => hl (by rw [h])
    simpa [this] using h
/-- A state of an enumeration. -/
def VE (e : Enum) : Prop := GV e.Gens = true ∧ ∃ d r, RI e.Gens e.Monoid d r ∧ r.words.length ≤ 2000 ∧ r.Enum = e
theorem VE.done {e : Enum} (h : VE e) : ∃ d r, RI e.Gens e.Monoid d r ∧ r.words.length ≤ 2000 ∧ r.Enum = e ∧ e.Done = (d : Int) ∧ d ≤ r.words.length := by
  obtain ⟨hg, d, r, h1, h2, h3⟩ := h
  exact ⟨d, r, h1, h2, h3, h3 ▸ h1.dn, h1.dl⟩
theorem VE.of {e : Enum} {d : Nat} {r : run} (hg : GV e.Gens = true) (hr : RI e.Gens e.Monoid d r) (hd : e.Done = (d : Int)) (h : VE e) : r.Enum = e := by
  obtain ⟨d', s, k1, k2, k3, k4, k5⟩ := h.done
  have : d = d' := by omega
  subst this
  rw [(hr.enum_uniq hg k1).2, k3]
theorem VE.mk' {gens : List (List Int)} {mon : Bool} {d : Nat} {r : run} (hg : GV gens = true) (hr : RI gens mon d r) (hw : r.words.length ≤ 2000) : VE r.Enum := by
  have e1 := hr.gn
  have e2 := hr.mon_
  exact ⟨by rw [e1]; exact hg, d, r, by rw [e1, e2]; exact hr, hw, rfl⟩
theorem lim_VE {e : Enum} {d : Nat} (h : Lim e.Gens e.Monoid d) (hd : (d : Int) < e.Done) : ¬ VE e := fun hv => by
  obtain ⟨d', s, k1, k2, k3, k4, k5⟩ := hv.done
  have := h.2.2 d' s (by omega) k1
  omega
theorem FD_dn {gens : List (List Int)} {d : Nat} {W : List Str} {v w : Str} (h : SL v w) (hw : FD gens d W w) : FD gens d W v := FF.dn h hw
/-- When all is processed all reduced words are there. -/
theorem RI.rlT {gens : List (List Int)} {mon : Bool} {r : run} (hg : GV gens = true) (hr : RI gens mon r.words.length r) : RL gens mon r.words (fun _ => True) := by
  have hk := (GV_iff.1 hg).2.1
  have h1 := hr.si.rl
  have hne := hr.ne
  unfold FD at h1
  rw [if_neg (by omega)] at h1
  exact ⟨h1.asc, fun w => ⟨fun hw => ⟨((h1.mem w).1 hw).1, trivial⟩, fun hw => h1.all hg (by omega) (by omega) hw.1⟩⟩
theorem RI.full_le {gens : List (List Int)} {mon : Bool} {r s : run} {d : Nat} (hg : GV gens = true) (hr : RI gens mon r.words.length r) (hs : RI gens mon d s) : s.words.length ≤ r.words.length := by
  have := hs.ne
  have := (hs.si.rl.part (hr.rlT hg) (fun _ _ => trivial) (fun v w hvw hw => FD_dn hvw hw) (s.words.length - 1) (by omega)).1
  omega
theorem full_VE {e : Enum} {r : run} (hg : GV e.Gens = true) (hr : RI e.Gens e.Monoid r.words.length r) (hd : (r.words.length : Int) < e.Done) : ¬ VE e := fun hv => by
  obtain ⟨d', s, k1, k2, k3, k4, k5⟩ := hv.done
  have := hr.full_le hg k1
  omega
theorem eq_of_parts {r e : Enum} (hg : r.Gens = e.Gens) (hm : r.Monoid = e.Monoid) : r = e ↔ r.Points = e.Points ∧ r.Done = e.Done ∧ r.Elems = e.Elems ∧ r.Prefix = e.Prefix ∧ r.Last = e.Last ∧ r.Right = e.Right ∧ r.Rules = e.Rules := by
  cases r; cases e
  simp only at hg hm
  subst hg hm
  simp only [Enum.mk.injEq, true_and]
  constructor
  · rintro ⟨h1, h2, h3, h4, h5, h6, h7⟩; exact ⟨h1, h7, h2, h3, h4, h5, h6⟩
  · rintro ⟨h1, h7, h2, h3, h4, h5, h6⟩; exact ⟨h1, h2, h3, h4, h5, h6, h7⟩
/-- What is asked of the answer of a repetition. -/
structure RK (e : Enum) (K : Option run → Bool → Prop) : Prop where
  no : ¬ VE e → K none false
  no' : ¬ VE e → ∀ r, K (some r) false
  yes : GV e.Gens = true → ∀ d r, RI e.Gens e.Monoid d r → r.words.length ≤ 2000 → r.Enum = e → K (some r) true
theorem replay_fin {e : Enum} {K : Option run → Bool → Prop} (hK : RK e K) (hg : GV e.Gens = true) {d : Nat} {r : run} (hr : RI e.Gens e.Monoid d r) (hw : r.words.length ≤ 2000) (hd : e.Done ≤ (d : Int)) (hd0 : (d : Int) ≤ e.Done ∨ d = 0) :
    (if r.Enum.Points = e.Points then (if r.Enum.Done = e.Done then (slices_EqualFunc_int r.Enum.Elems e.Elems fun r132 => (if r132 = true then (slices_Equal_int r.Enum.Prefix e.Prefix fun r141 => (if r141 = true then (slices_Equal_int r.Enum.Last e.Last fun r150 => (if r150 = true then (slices_EqualFunc_int r.Enum.Right e.Right fun r159 => (if r159 = true then (slices_Equal_api_Rule r.Enum.Rules e.Rules fun r168 => (K (some r) r168)) else (K (some r) false))) else (K (some r) false))) else (K (some r) false))) else (K (some r) false))) else (K (some r) false)) else (K (some r) false)) := by
  have dn := hr.dn
  have nv : r.Enum ≠ e → ¬ VE e := fun hne hv => by
    obtain ⟨d', s, k1, k2, k3, k4, k5⟩ := hv.done
    exact hne (hv.of hg hr (by omega))
  have pp := eq_of_parts hr.gn hr.mon_
  by_cases he : r.Enum = e
  · have hy := hK.yes hg d r hr hw he
    obtain ⟨p1, p2, p3, p4, p5, p6, p7⟩ := pp.1 he
    rw [if_pos p1, if_pos p2]
    refine slices_EqualFunc_int_ok ?_
    rw [if_pos (decide_eq_true p3)]
    refine slices_Equal_int_ok ?_
    rw [if_pos (decide_eq_true p4)]
    refine slices_Equal_int_ok ?_
    rw [if_pos (decide_eq_true p5)]
    refine slices_EqualFunc_int_ok ?_
    rw [if_pos (decide_eq_true p6)]
    refine slices_Equal_api_Rule_ok ?_
    rw [decide_eq_true p7]
    exact hy
  · have hn := hK.no' (nv he) r
    split
    · split
      · refine slices_EqualFunc_int_ok ?_
        split
        · refine slices_Equal_int_ok ?_
          split
          · refine slices_Equal_int_ok ?_
            split
            · refine slices_EqualFunc_int_ok ?_
              split
              · refine slices_Equal_api_Rule_ok ?_
                by_cases h7 : r.Enum.Rules = e.Rules
                · rename_i p1 p2 p3 p4 p5 p6
                  exact absurd (pp.2 ⟨p1, p2, of_decide_eq_true p3, of_decide_eq_true p4, of_decide_eq_true p5, of_decide_eq_true p6, h7⟩) he
                · rw [decide_eq_false h7]; exact hn
              · exact hn
            · exact hn
          · exact hn
        · exact hn
      · exact hn
    · exact hn
theorem replay_loop {e : Enum} {K : Option run → Bool → Prop} (hK : RK e K) (hg : GV e.Gens = true) {r0 : run} (hr0 : RI e.Gens e.Monoid 0 r0) :
    LoopWP (S := Int × Bool × Int × List (List Int) × List (List Int) × List Int × List Int × List (List Int) × List Rule × List Str × List Int × List Int × (List (Str × Int))) (fun s X => enumerate_replay_L2 e K (fun k2_37 b2_38 k2_39 d_40 d_46 d_52 d_58 d_64 d_70 d_76 d_82 d_88 m2_94 => X (k2_37, b2_38, k2_39, d_40, d_46, d_52, d_58, d_64, d_70, d_76, d_82, d_88, m2_94)) s.1 s.2.1 s.2.2.1 s.2.2.2.1 s.2.2.2.2.1 s.2.2.2.2.2.1 s.2.2.2.2.2.2.1 s.2.2.2.2.2.2.2.1 s.2.2.2.2.2.2.2.2.1 s.2.2.2.2.2.2.2.2.2.1 s.2.2.2.2.2.2.2.2.2.2.1 s.2.2.2.2.2.2.2.2.2.2.2.1 s.2.2.2.2.2.2.2.2.2.2.2.2)
      (r0.Enum.Points, r0.Enum.Monoid, r0.Enum.Done, r0.Enum.Gens, r0.Enum.Elems, r0.Enum.Prefix, r0.Enum.Last, r0.Enum.Right, r0.Enum.Rules, r0.words, r0.behind, r0.single, r0.number) := by
  refine LoopWP.to 2000 (fun s => (ofTup s).Enum.Done.toNat) (fun s => ∃ d, RI e.Gens e.Monoid d (ofTup s) ∧ (ofTup s).words.length ≤ 2000 ∧ ((d : Int) ≤ e.Done ∨ d = 0)) ⟨0, hr0, ?_, .inr rfl⟩ (fun s ⟨d, hd, hw, _⟩ => ?_) ?_
  · have := hr0.wb
    show r0.words.length ≤ 2000
    omega
  · have := hd.dl
    rw [hd.dn]; simp only [Int.toNat_natCast]; omega
  · rintro ⟨k1, b1, k2, dg, de, dp, dlst, drt, dru, dw, db, ds, dm⟩ X ⟨d, hd, hw, h0⟩ hX
    dsimp only
    unfold enumerate_replay_L2
    have hdn : k2 = (d : Int) := hd.dn
    have hel : de.length = dw.length := hd.si.elen
    have hdl : d ≤ dw.length := hd.dl
    split
    · rename_i hlt
      split
      · rename_i e2
        have e3 : d = dw.length := by omega
        subst e3
        exact hK.no (full_VE (r := ofTup (k1, b1, k2, dg, de, dp, dlst, drt, dru, dw, db, ds, dm)) hg hd (show (dw.length : Int) < e.Done by omega))
      · rename_i e2
        refine enumerate_run_process_ok hg hd hw (show d < dw.length by omega) (fun hF hl q => ?_) fun r' hr' hw' => ?_
        · rw [if_neg (by decide)]
          exact hK.no (lim_VE ⟨hF, ⟨_, hd, show d < dw.length by omega⟩, hl⟩ (by omega))
        rw [if_pos rfl]
        refine hX (r'.Enum.Points, r'.Enum.Monoid, r'.Enum.Done, r'.Enum.Gens, r'.Enum.Elems, r'.Enum.Prefix, r'.Enum.Last, r'.Enum.Right, r'.Enum.Rules, r'.words, r'.behind, r'.single, r'.number) ⟨d + 1, hr', hw', .inl (by omega)⟩ ?_
        show r'.Enum.Done.toNat = k2.toNat + 1
        rw [hr'.dn, hdn]
        simp only [Int.toNat_natCast]
    · rename_i hlt
      exact replay_fin hK hg hd hw (by omega) h0
theorem enumerate_replay_ok {e : Enum} {K : Option run → Bool → Prop} (hK : RK e K) : enumerate_replay e K := by
  have nv : ¬ GV e.Gens = true → K none false := fun h => hK.no fun hv => h hv.1
  unfold enumerate_replay
  refine enumerate_begin_ok (fun hn => ?_) (fun _ hn => ?_) fun hg r0 hr0 => ?_
  · rw [Option.elim_none, if_neg (by decide)]
    exact nv fun hg => hn ⟨(GV_iff.1 hg).1, (GV_iff.1 hg).2.1⟩
  · rw [Option.elim_none, if_neg (by decide)]
    exact nv fun hg => by rw [hg] at hn; cases hn
  · rw [Option.elim_some, if_pos rfl]
    exact replay_loop hK hg hr0
end Sg
namespace Sg
open Go
set_option linter.unusedVariables false
set_option linter.unusedSimpArgs false
set_option maxRecDepth 10000
/-- The state that is reached after so many steps, if there are as many. -/
def Rch (gens : List (List Int)) (mon : Bool) (t : Nat) (r : run) : Prop := ∃ d, RI gens mon d r ∧ r.words.length ≤ 2000 ∧ (d = t ∨ (d = r.words.length ∧ d ≤ t))
/-- The last state. -/
def Fin (gens : List (List Int)) (mon : Bool) (r : run) : Prop := RI gens mon r.words.length r ∧ r.words.length ≤ 2000
section
variable {gens : List (List Int)} {mon : Bool}
theorem Rch.uniq (hg : GV gens = true) {t : Nat} {r s : run} (h : Rch gens mon t r) (k : Rch gens mon t s) : r.Enum = s.Enum ∧ r.words = s.words := by
  obtain ⟨d, h1, h2, h3⟩ := h
  obtain ⟨c, k1, k2, k3⟩ := k
  have hd := h1.dl
  have kd := k1.dl
  have e : d = c := by
    rcases h3 with h3 | ⟨h3, h4⟩ <;> rcases k3 with k3 | ⟨k3, k4⟩
    · omega
    · have := RI.full_le hg (k3 ▸ k1) h1; omega
    · have := RI.full_le hg (h3 ▸ h1) k1; omega
    · have := RI.full_le hg (k3 ▸ k1) h1
      have := RI.full_le hg (h3 ▸ h1) k1
      omega
  subst e
  exact ⟨(h1.enum_uniq hg k1).2, (h1.enum_uniq hg k1).1⟩
theorem Fin.uniq (hg : GV gens = true) {r s : run} (h : Fin gens mon r) (k : Fin gens mon s) : r.Enum = s.Enum ∧ r.words = s.words := by
  have a := RI.full_le hg h.1 k.1
  have b := RI.full_le hg k.1 h.1
  have e : r.words.length = s.words.length := by omega
  have k1 := k.1
  rw [← e] at k1
  exact ⟨(h.1.enum_uniq hg k1).2, (h.1.enum_uniq hg k1).1⟩
theorem Lim.fin (hg : GV gens = true) {d : Nat} (h : Lim gens mon d) (r : run) : ¬ Fin gens mon r := fun hr => by
  obtain ⟨_, ⟨s, h1, h2⟩, h3⟩ := h
  have := hr.1.full_le hg h1
  have := h3 _ r (by omega) hr.1
  have := hr.2
  omega
theorem Lim.rch (hg : GV gens = true) {d t : Nat} (h : Lim gens mon d) (hd : d < t) (r : run) : ¬ Rch gens mon t r := fun hr => by
  obtain ⟨_, ⟨s, h1, h2⟩, h3⟩ := h
  obtain ⟨c, k1, k2, k3⟩ := hr
  by_cases hc : d < c
  · have := h3 c r hc k1; omega
  · rcases k3 with k3 | ⟨k3, k4⟩
    · omega
    · have := RI.full_le hg (k3 ▸ k1) h1; omega
end
end Sg
namespace Sg
open Go
set_option linter.unusedVariables false
set_option linter.unusedSimpArgs false
set_option maxRecDepth 10000
/-- The number of a transformation. -/
def fnd (E : List (List Int)) (f : List Int) : Int := if f ∈ E then (E.idxOf f : Int) else -1
theorem fnd_ix {E : List (List Int)} (hn : E.Nodup) {i : Nat} (hi : i < E.length) : fnd E (ix E (i : Int)) = i := by
  have hm : ix E (i : Int) ∈ E := mem_ix.2 ⟨i, hi, rfl⟩
  have h1 : E.idxOf (ix E (i : Int)) < E.length := List.idxOf_lt_length_iff.2 hm
  have h2 : E[E.idxOf (ix E (i : Int))] = ix E (i : Int) := List.getElem_idxOf h1
  rw [fnd, if_pos hm]
  have := (List.getElem_inj hn).1 (h2.trans (ix_lt hi))
  omega
theorem fnd_no {E : List (List Int)} {f : List Int} (h : f ∉ E) : fnd E f = -1 := by rw [fnd, if_neg h]
theorem fnd_mem {E : List (List Int)} {f : List Int} (h : f ∈ E) : 0 ≤ fnd E f ∧ fnd E f < E.length ∧ ix E (fnd E f) = f := by
  have h1 : E.idxOf f < E.length := List.idxOf_lt_length_iff.2 h
  rw [fnd, if_pos h]
  refine ⟨by omega, by omega, ?_⟩
  rw [ix_lt h1]; exact List.getElem_idxOf h1
section
variable {gens : List (List Int)} {mon : Bool} {F : Str → Prop} {E : List (List Int)} {Pf Ls : List Int} {R : List Rule} {W : List Str} {Bh : List Int} {m : List (Str × Int)} {r : run}
theorem SI.fnd_ (h : SI gens mon F E Pf Ls R W Bh m) {i : Int} (h0 : 0 ≤ i) (h1 : i < W.length) {f : List Int} (he : vl gens (ix W i) = f) : fnd E f = i := by
  obtain ⟨j, rfl⟩ := Int.eq_ofNat_of_zero_le h0
  rw [← he, ← h.eix h0 h1]
  exact fnd_ix h.nodup (by rw [h.elen]; omega)
theorem SI.mgt_ (h : SI gens mon F E Pf Ls R W Bh m) {f : List Int} (hf : f ∈ E) : mgt m (txt f) = fnd E f := by
  obtain ⟨k0, k1, k2⟩ := h.num hf
  exact (h.fnd_ k0 k1 k2).symm
theorem enumerate_Word_ok {e : Enum} {i : Int} {K : Str → Prop} (h : ¬ VE e → K []) (h1 : VE e → ∀ d r, RI e.Gens e.Monoid d r → r.Enum = e → K (if 0 ≤ i ∧ i < r.words.length then ix r.words i else [])) : enumerate_Word e i K := by
  unfold enumerate_Word
  refine enumerate_replay_ok ⟨fun hv => ?_, fun hv r => ?_, fun hg d r hr hw he => ?_⟩
  · rw [Option.elim_none, if_neg (by decide)]; exact h hv
  · rw [Option.elim_some, if_neg (by decide)]; exact h hv
  · have := h1 ⟨hg, d, r, hr, hw, he⟩ d r hr he
    have hel := hr.si.elen
    rw [Option.elim_some, if_pos rfl]
    split
    · rw [if_neg (by omega)] at this; exact this
    · split
      · rw [if_neg (by omega)] at this; exact this
      · rw [if_pos (by omega)] at this; exact ⟨by omega, by omega, this⟩
/-- A finished state. -/
def FE (e : Enum) : Prop := VE e ∧ e.Done = (e.Elems.length : Int)
theorem RI.fin_ {e : Enum} {d : Nat} (hr : RI e.Gens e.Monoid d r) (hw : r.words.length ≤ 2000) (he : r.Enum = e) (hd : r.Enum.Done = (r.Enum.Elems.length : Int)) : Fin e.Gens e.Monoid r := by
  have hel := hr.si.elen
  have hdn := hr.dn
  have : d = r.words.length := by omega
  subst this
  exact ⟨hr, hw⟩
theorem Fin.VE (hg : GV gens = true) (h : Fin gens mon r) : VE r.Enum := VE.mk' hg h.1 h.2
theorem Fin.FE (hg : GV gens = true) (h : Fin gens mon r) : FE r.Enum := ⟨h.VE hg, by rw [h.1.dn, h.1.si.elen]⟩
theorem RI.gm {d : Nat} (h : RI gens mon d r) : r.Enum.Gens = gens ∧ r.Enum.Monoid = mon := ⟨h.gn, h.mon_⟩
/-- On the way along a word. -/
def ALg (gens : List (List Int)) (W : List Str) (u w : Str) (j : Int) (k : Nat) : Prop := (k = 0 ∧ j = -1 ∧ u = []) ∨ (0 ≤ j ∧ j < W.length ∧ vl gens (ix W j) = vl gens (u ++ w.take k))
theorem snoc_cg {u v : Str} (h : vl gens u = vl gens v) (b : UInt8) : vl gens (u ++ [b]) = vl gens (v ++ [b]) := by rw [vl_snoc, vl_snoc, h]
theorem ALg.step {u w : Str} {j : Int} {k : Nat} (hg : GV gens = true) (hr : RI gens mon r.words.length r) (h : ALg gens r.words u w j k) (hk : k < w.length) (hw : LW gens.length w) :
    0 ≤ IntKind.i64.wrap (IntKind.u8.wrap (((ix w (k : Int)).toNat : Int) - 97)) ∧ IntKind.i64.wrap (IntKind.u8.wrap (((ix w (k : Int)).toNat : Int) - 97)) < gens.length ∧ r.single.length = gens.length ∧ r.Enum.Right.length = r.words.length ∧
    (j = -1 → ALg gens r.words u w (ix r.single (IntKind.i64.wrap (IntKind.u8.wrap (((ix w (k : Int)).toNat : Int) - 97)))) (k + 1)) ∧
    (j ≠ -1 → 0 ≤ j ∧ j < r.words.length ∧ (ix r.Enum.Right j).length = gens.length ∧ ALg gens r.words u w (ix (ix r.Enum.Right j) (IntKind.i64.wrap (IntKind.u8.wrap (((ix w (k : Int)).toNat : Int) - 97)))) (k + 1)) := by
  have hk6 := (GV_iff.1 hg).2.1
  have hb := hw (ix w (k : Int)) (mem_ix.2 ⟨k, hk, rfl⟩)
  obtain ⟨x, hx, hbx⟩ := LW.letter (k := gens.length) (by omega) (b := ix w (k : Int)) (LW.one.2 hb)
  have e : IntKind.i64.wrap (IntKind.u8.wrap (((ix w (k : Int)).toNat : Int) - 97)) = (x : Int) := by
    rw [wrapL hb.1, hbx, lt_toNat (by omega)]; omega
  rw [e]
  have ht : w.take (k + 1) = w.take k ++ [lt x] := by rw [take_ix hk, hbx]
  refine ⟨by omega, by omega, hr.sg.1, hr.rt.1, fun hj => ?_, fun hj => ?_⟩
  · rcases h with ⟨h1, h2, h3⟩ | ⟨h1, h2, h3⟩
    · obtain ⟨s1, s2, s3⟩ := hr.sg.2 x hx
      refine .inr ⟨s1, s2, ?_⟩
      rw [s3, ht, h1, h3]; rfl
    · omega
  · rcases h with ⟨h1, h2, h3⟩ | ⟨h1, h2, h3⟩
    · omega
    · obtain ⟨i, rfl⟩ := Int.eq_ofNat_of_zero_le h1
      obtain ⟨r1, r2⟩ := hr.rt.2 i (by omega)
      obtain ⟨r3, r4, r5⟩ := r2 x hx
      refine ⟨h1, h2, r1, .inr ⟨r3, r4, ?_⟩⟩
      rw [r5, ht, ← List.append_assoc]
      exact snoc_cg h3 _
theorem WV_LW {w : Str} {n : Nat} (h : WV w n = true) : LW n w := fun b hb => by
  obtain ⟨j, hj, rfl⟩ := mem_ix.1 hb
  have := (WV_iff.1 h).2.2.2 j hj
  omega
theorem along_loop {w : Str} {K : Int → Prop} (hg : GV gens = true) (hr : RI gens mon r.words.length r) (hw : LW gens.length w) (hn : w ≠ []) (h : K (fnd r.Enum.Elems (vl gens w))) :
    LoopWP (S := Int × Nat) (fun s X => enumerate_OfWord_L2 w r K (fun i2_76 k2_77 => X (i2_76, k2_77)) s.1 s.2) ((-1 : Int), 0) := by
  refine LoopWP.to w.length (fun s : Int × Nat => s.2) (fun s => s.2 ≤ w.length ∧ ALg gens r.words [] w s.1 s.2) ⟨by simp, .inl ⟨rfl, rfl, rfl⟩⟩ (fun s h => h.1) ?_
  rintro ⟨i, k⟩ X ⟨hk, hI⟩ hX
  simp only at hk hI
  dsimp only
  unfold enumerate_OfWord_L2
  split
  · rename_i hlt
    obtain ⟨a1, a2, a3, a4, a5, a6⟩ := hI.step hg hr (by omega) hw
    refine ⟨by omega, by omega, ?_⟩
    split
    · rename_i hi
      exact ⟨a1, by omega, hX (_, k + 1) ⟨by simp only; omega, a5 hi⟩ rfl⟩
    · rename_i hi
      obtain ⟨b1, b2, b3, b4⟩ := a6 hi
      exact ⟨b1, by omega, a1, by omega, hX (_, k + 1) ⟨by simp only; omega, b4⟩ rfl⟩
  · have hkl : k = w.length := by omega
    subst hkl
    rcases hI with ⟨h1, _⟩ | ⟨h1, h2, h3⟩
    · exact absurd (List.eq_nil_of_length_eq_zero h1) hn
    · rw [List.nil_append, List.take_length] at h3
      rw [hr.si.fnd_ h1 h2 h3] at h; exact h
theorem enumerate_OfWord_ok {e : Enum} {w : Str} {K : Int → Prop} (h : ¬ (FE e ∧ WV w e.Gens.length = true ∧ (e.Monoid = true ∨ w ≠ [])) → K (-1)) (h1 : FE e → WV w e.Gens.length = true → (e.Monoid = true ∨ w ≠ []) → K (fnd e.Elems (vl e.Gens w))) : enumerate_OfWord e w K := by
  unfold enumerate_OfWord
  refine enumerate_replay_ok ⟨fun hv => ?_, fun hv r => ?_, fun hg d r hr hw he => ?_⟩
  · rw [Option.elim_none, if_neg (by decide)]; exact h fun k => hv k.1.1
  · rw [Option.elim_some, if_neg (by decide)]; exact h fun k => hv k.1.1
  · have hv : VE e := ⟨hg, d, r, hr, hw, he⟩
    rw [Option.elim_some, if_pos rfl]
    split
    · rename_i hd
      have hf := hr.fin_ hw he hd
      have fe : FE e := ⟨hv, by rw [← he]; exact hd⟩
      refine word_Valid_ok ?_
      rw [hr.gn]
      split
      · rename_i hwv
        split
        · rename_i hw0
          rw [hr.mon_]
          split
          · rename_i hm
            rw [if_pos rfl]
            have := h1 fe hwv (.inl hm)
            have m0 := hf.1.m0 hm
            have ne := hf.1.ne
            rw [hw0, ← he, hr.gn, hf.1.si.fnd_ (i := 0) (by omega) (by omega) (by rw [m0])] at this
            exact this
          · rename_i hm
            exact h fun k => k.2.2.elim (fun k => hm k) fun k => k hw0
        · rename_i hw0
          rw [if_pos rfl]
          intro _
          have := h1 fe hwv (.inr hw0)
          rw [← he, hr.gn] at this
          exact along_loop hg hf.1 (WV_LW hwv) hw0 this
      · rename_i hwv
        exact h fun k => hwv k.2.1
    · rename_i hd
      exact h fun k => hd (by rw [he]; exact k.1.2)
theorem enumerate_Validate_ok {e : Enum} {K : Int → Prop} (h : ¬ VE e → K 8) (h1 : VE e → K 0) : enumerate_Validate e K := by
  unfold enumerate_Validate
  refine enumerate_replay_ok ⟨fun hv => ?_, fun hv r => ?_, fun hg d r hr hw he => ?_⟩
  · rw [Option.elim_none, if_neg (by decide)]; exact h hv
  · rw [Option.elim_some, if_neg (by decide)]; exact h hv
  · rw [Option.elim_some, if_pos rfl]; exact h1 ⟨hg, d, r, hr, hw, he⟩
end
end Sg
namespace Sg
open Go
set_option linter.unusedVariables false
set_option linter.unusedSimpArgs false
set_option maxRecDepth 10000
section
variable {gens : List (List Int)} {mon : Bool} {r : run}
end
end Sg
namespace Sg
open Go
set_option linter.unusedVariables false
set_option linter.unusedSimpArgs false
set_option maxRecDepth 10000
theorem law12_little_ok {gens : List (List Int)} {p l : Int} {K : Bool → Prop} (h : ¬ (GV gens = true ∧ (gens.length : Int) ≤ l ∧ ((ix gens 0).length : Int) ≤ p) → K false) (h1 : GV gens = true → (gens.length : Int) ≤ l → ((ix gens 0).length : Int) ≤ p → K true) : law12_little gens p l K := by
  unfold law12_little
  refine ref11_MayGens_ok ?_
  split
  · rename_i hg
    have := (GV_iff.1 hg).1
    intro _
    split
    · rename_i hl
      refine ⟨by omega, by omega, fun _ => ?_⟩
      split
      · rename_i hp; exact h1 hg hl hp
      · rename_i hp; exact h fun k => hp k.2.2
    · rename_i hl; exact h fun k => hl k.2.1
  · rename_i hg; exact h fun k => hg k.1
theorem enum_ext {a b : Enum} : a = b ↔ a.Points = b.Points ∧ a.Monoid = b.Monoid ∧ a.Done = b.Done ∧ a.Gens = b.Gens ∧ a.Elems = b.Elems ∧ a.Prefix = b.Prefix ∧ a.Last = b.Last ∧ a.Right = b.Right ∧ a.Rules = b.Rules := by
  cases a; cases b
  simp only [Enum.mk.injEq]
  constructor
  · rintro ⟨h1, h2, h3, h4, h5, h6, h7, h8, h9⟩; exact ⟨h1, h2, h9, h3, h4, h5, h6, h7, h8⟩
  · rintro ⟨h1, h2, h9, h3, h4, h5, h6, h7, h8⟩; exact ⟨h1, h2, h3, h4, h5, h6, h7, h8, h9⟩
theorem ref12_Same_rules {a b : Enum} {K : Bool → Prop} (h : K (decide (a.Rules = b.Rules))) : a.Rules.length ≤ mx → (b.Rules.length ≤ mx → (if (a.Rules.length : Int) = (b.Rules.length : Int) then (LoopWP (S := Nat) (fun s X => ref12_Same_L1 a b K X s) 0) else (K false))) := by
  intro _ _
  split
  · rename_i hl
    have hl' : a.Rules.length = b.Rules.length := by omega
    refine LoopWP.to a.Rules.length (fun k : Nat => k) (fun k => k ≤ a.Rules.length ∧ ∀ j : Nat, j < k → ix a.Rules j = ix b.Rules j) ⟨by omega, fun j hj => by omega⟩ (fun s h => h.1) ?_
    rintro k X ⟨hk, hI⟩ hX
    show ref12_Same_L1 a b K X k
    unfold ref12_Same_L1
    split
    · refine ⟨by omega, by omega, by omega, by omega, ?_⟩
      split
      · rename_i he
        refine hX (k + 1) ⟨by omega, fun j hj => ?_⟩ rfl
        by_cases hjk : j = k
        · subst hjk; exact rule_ext.1 he
        · exact hI j (by omega)
      · rename_i hne
        have : a.Rules ≠ b.Rules := fun h => hne (by rw [h]; exact ⟨rfl, rfl⟩)
        simpa [this] using h
    · have : a.Rules = b.Rules := list_ix hl' fun j hj => hI j (by omega)
      simpa [this] using h
  · rename_i hl
    have : a.Rules ≠ b.Rules := fun h => hl (by rw [h])
    simpa [this] using h
theorem ref12_Same_ok {a b : Enum} {K : Bool → Prop} (h : K (decide (a = b))) : ref12_Same a b K := by
  have hf : a ≠ b → K false := fun hn => by rwa [decide_eq_false hn] at h
  have tail : a.Points = b.Points → a.Monoid = b.Monoid → (if a.Done = b.Done then (ref03_SameRows a.Gens b.Gens fun r17 => (if r17 = true then (ref03_SameRows a.Elems b.Elems fun r23 => (if r23 = true then (ref03_Same a.Prefix b.Prefix fun r29 => (if r29 = true then (ref03_Same a.Last b.Last fun r35 => (if r35 = true then (ref03_SameRows a.Right b.Right fun r41 => (if r41 = true then (a.Rules.length ≤ mx → (b.Rules.length ≤ mx → (if (a.Rules.length : Int) = (b.Rules.length : Int) then (LoopWP (S := Nat) (fun s X => ref12_Same_L1 a b K X s) 0) else (K false)))) else (K false))) else (K false))) else (K false))) else (K false))) else (K false))) else (K false)) := by
    intro e1 e2
    split
    · rename_i e3
      refine ref03_SameRows_ok ?_
      split
      · rename_i e4
        refine ref03_SameRows_ok ?_
        split
        · rename_i e5
          refine ref03_Same_ok ?_
          split
          · rename_i e6
            refine ref03_Same_ok ?_
            split
            · rename_i e7
              refine ref03_SameRows_ok ?_
              split
              · rename_i e8
                refine ref12_Same_rules ?_
                have : (a = b) ↔ a.Rules = b.Rules := by
                  rw [enum_ext]
                  exact ⟨fun k => k.2.2.2.2.2.2.2.2, fun k => ⟨e1, e2, e3, of_decide_eq_true e4, of_decide_eq_true e5, of_decide_eq_true e6, of_decide_eq_true e7, of_decide_eq_true e8, k⟩⟩
                rw [decide_eq_decide.2 this] at h
                exact h
              · rename_i e8; exact hf fun k => e8 (by rw [k]; simp)
            · rename_i e7; exact hf fun k => e7 (by rw [k]; simp)
          · rename_i e6; exact hf fun k => e6 (by rw [k]; simp)
        · rename_i e5; exact hf fun k => e5 (by rw [k]; simp)
      · rename_i e4; exact hf fun k => e4 (by rw [k]; simp)
    · rename_i e3; exact hf fun k => e3 (by rw [k])
  unfold ref12_Same
  split
  · rename_i e1
    split
    · rename_i m1
      split
      · rename_i m2
        exact tail e1 (m1.trans m2.symm)
      · rename_i m2
        exact hf fun k => m2 (k ▸ m1)
    · rename_i m1
      split
      · rename_i m2
        exact hf fun k => m1 (k ▸ m2)
      · rename_i m2
        exact tail e1 (by simp only [Bool.not_eq_true] at m1 m2; rw [m1, m2])
  · rename_i e1; exact hf fun k => e1 (by rw [k])
section
variable {gens : List (List Int)} {mon : Bool} {r : run}
theorem Rch.gm {t : Nat} (h : Rch gens mon t r) : r.Enum.Gens = gens ∧ r.Enum.Monoid = mon := let ⟨d, h1, _⟩ := h; h1.gm
theorem Rch.VE (hg : GV gens = true) {t : Nat} (h : Rch gens mon t r) : VE r.Enum := let ⟨d, h1, h2, _⟩ := h; VE.mk' hg h1 h2
theorem and31 (a : Int) (ha : 0 ≤ a ∧ a ≤ 255) : 0 ≤ IntKind.i64.wrap (bits .and .u8 a 31) ∧ IntKind.i64.wrap (bits .and .u8 a 31) ≤ 31 := by
  obtain ⟨n, rfl⟩ := Int.eq_ofNat_of_zero_le ha.1
  have key : ∀ n : _root_.Fin 256, 0 ≤ IntKind.i64.wrap (bits .and .u8 ((n : Nat) : Int) 31) ∧ IntKind.i64.wrap (bits .and .u8 ((n : Nat) : Int) 31) ≤ 31 := by decide +kernel
  exact key ⟨n, by omega⟩
end
end Sg
namespace Sg
open Go
set_option linter.unusedVariables false
set_option linter.unusedSimpArgs false
set_option maxRecDepth 10000
section
variable {gens : List (List Int)} {mon : Bool} {r : run}
theorem Fin.word {i : Int} {K : Str → Prop} (hg : GV gens = true) (h : Fin gens mon r) (i0 : 0 ≤ i) (i1 : i < r.words.length) (hK : K (ix r.words i)) : enumerate_Word r.Enum i K := by
  have gm := h.1.gm
  refine enumerate_Word_ok (fun hn => absurd (h.VE hg) hn) fun _ d s hs he => ?_
  rw [gm.1, gm.2] at hs
  have hd : d = r.words.length := by
    have h1 := hs.dn
    rw [he, h.1.dn] at h1
    omega
  subst hd
  rw [(hs.enum_uniq hg h.1).1, if_pos ⟨i0, i1⟩]; exact hK
theorem Fin.ofWord {w : Str} {K : Int → Prop} (hg : GV gens = true) (h : Fin gens mon r) (hw : WV w gens.length = true) (hn : mon = true ∨ w ≠ []) (hK : K (fnd r.Enum.Elems (vl gens w))) : enumerate_OfWord r.Enum w K := by
  have gm := h.1.gm
  refine enumerate_OfWord_ok (fun hn' => absurd ⟨h.FE hg, by rw [gm.1]; exact hw, by rw [gm.2]; exact hn⟩ hn') fun _ _ _ => ?_
  rw [gm.1]; exact hK
end
end Sg
namespace Sg
open Go
set_option linter.unusedVariables false
set_option linter.unusedSimpArgs false
set_option maxRecDepth 10000
section
variable {gens : List (List Int)} {mon : Bool} {r : run}
end
end Sg
namespace Sg
open Go
set_option linter.unusedVariables false
set_option linter.unusedSimpArgs false
set_option maxRecDepth 10000
theorem modI (a : Int) {n : Int} (hn : 0 < n) : -n < a.tmod n ∧ a.tmod n < n ∧ 0 ≤ ((a.tmod n) + n).tmod n ∧ ((a.tmod n) + n).tmod n < n := by
  have h1 := Int.lt_tmod_of_pos a hn
  have h2 := Int.tmod_lt_of_pos a hn
  exact ⟨h1, h2, Int.tmod_nonneg n (by omega), Int.tmod_lt_of_pos _ hn⟩
section
variable {gens : List (List Int)} {mon : Bool} {r : run}
end
end Sg
namespace Sg
open Go
set_option linter.unusedVariables false
set_option linter.unusedSimpArgs false
set_option maxRecDepth 10000
theorem fnd_first {E : List (List Int)} {f : List Int} {k : Nat} (hk : k < E.length) (he : ix E (k : Int) = f) (hn : ∀ j : Nat, j < k → ix E (j : Int) ≠ f) : fnd E f = k := by
  have hm : f ∈ E := mem_ix.2 ⟨k, hk, he⟩
  have h1 : E.idxOf f < E.length := List.idxOf_lt_length_iff.2 hm
  have h2 : E[E.idxOf f] = f := List.getElem_idxOf h1
  rw [fnd, if_pos hm]
  rcases Nat.lt_trichotomy (E.idxOf f) k with h | h | h
  · exact absurd (by rw [ix_lt h1]; exact h2) (hn _ h)
  · rw [h]
  · exfalso
    have := List.not_of_lt_findIdx (p := (· == f)) (xs := E) (i := k) (by simpa [List.idxOf] using h)
    rw [← ix_lt hk, he] at this
    simp at this
theorem ref12_Find_ok {E : List (List Int)} {f : List Int} {K : Int → Prop} (h : K (fnd E f)) : ref12_Find E f K := by
  unfold ref12_Find
  intro _
  refine LoopWP.to E.length (fun k : Nat => k) (fun k => k ≤ E.length ∧ ∀ j : Nat, j < k → ix E (j : Int) ≠ f) ⟨by omega, fun j hj => by omega⟩ (fun s h => h.1) ?_
  rintro k X ⟨hk, hI⟩ hX
  show ref12_Find_L1 E f K X k
  unfold ref12_Find_L1
  split
  · refine ⟨by omega, by omega, ref03_Same_ok ?_⟩
    by_cases he : ix E (k : Int) = f
    · rw [if_pos (by simpa using he)]
      rw [fnd_first (by omega) he hI] at h; exact h
    · rw [if_neg (by simpa using he)]
      refine hX (k + 1) ⟨by omega, upS hI he⟩ rfl
  · rw [fnd_no fun hm => ?_] at h
    · exact h
    · obtain ⟨j, hj, e⟩ := mem_ix.1 hm
      exact hI j (by omega) e
theorem ref12_letter_ok {x : Nat} {K : Str → Prop} (hx : x < 159) (h : K [lt x]) : ref12_letter (x : Int) K := by
  unfold ref12_letter
  refine ⟨⟨by omega, by omega⟩, ?_⟩
  have e : byt [IntKind.u8.wrap ((97 : Int) + (x : Int))] = [lt x] := by
    simp only [byt, List.map_cons, List.map_nil, lt]
    congr 1
    rw [IntKind.wrap_u8]
    congr 1
    omega
  rw [e]; exact h
theorem ref03_Copy_ok {a : List (List Int)} {K : List (List Int) → Prop} (hl : a.length ≤ 1000000000) (hr : ∀ f ∈ a, f.length ≤ 1000000000) (h : K a) : ref03_Copy a K := by
  unfold ref03_Copy
  intro _
  refine LoopWP.to a.length (fun s : Nat × List (List Int) => s.1) (fun s => s.1 ≤ a.length ∧ s.2 = a.take s.1) ⟨by simp, by simp⟩ (fun s h => h.1) ?_
  rintro ⟨k, d⟩ X ⟨hk, hd⟩ hX
  simp only at hk hd
  subst hd
  dsimp only
  unfold ref03_Copy_L1
  split
  · have := hr _ (ix_mem (xs := a) (i := (k : Int)) (by omega) (by omega))
    refine ⟨by omega, by omega, by simp; omega, by simp; omega, hX (k + 1, _) ⟨by simp only; omega, ?_⟩ rfl⟩
    simp only [List.nil_append]
    rw [take_ix (by omega)]
  · rw [take_all (by omega)]; exact h
section
variable {gens : List (List Int)} {mon : Bool} {F : Str → Prop} {E : List (List Int)} {Pf Ls : List Int} {R : List Rule} {W : List Str} {Bh : List Int} {m : List (Str × Int)} {r : run}
theorem ref12_Word_ok (hg : GV gens = true) (h : SI gens mon F E Pf Ls R W Bh m) {e : Enum} (hp : e.Prefix = Pf) (hl : e.Last = Ls) {i : Int} (i0 : 0 ≤ i) (i1 : i < W.length) (hw : (ix W i).length ≤ 1000000000) {K : Str → Prop} (hK : K (ix W i)) : ref12_Word e i K := by
  have hk6 := (GV_iff.1 hg).2.1
  unfold ref12_Word
  refine LoopWP.intro (fun s : Int × Str => (0 ≤ s.1 ∧ s.1 < W.length ∧ ix W s.1 ++ s.2 = ix W i) ∨ (s.1 = -1 ∧ s.2 = ix W i)) (fun s => if 0 ≤ s.1 then (ix W s.1).length + 1 else 0) (.inl ⟨i0, i1, by simp⟩) ?_
  rintro ⟨j, acc⟩ X hI hX
  simp only at hI
  dsimp only
  unfold ref12_Word_L1
  have hpl := h.pl
  have hll := h.ll
  rcases hI with ⟨j0, j1, he⟩ | ⟨j0, he⟩
  · rw [if_pos j0]
    refine ⟨j0, by rw [hl]; omega, ?_⟩
    obtain ⟨q, rfl⟩ := Int.eq_ofNat_of_zero_le j0
    rw [hl, hp]
    rcases h.at_ q (by omega) with ⟨a1, a2, a3, a4⟩ | ⟨p, b, a1, a2, a3, a4⟩
    · rw [if_neg (by omega)]
      rw [a1, List.nil_append] at he
      rw [he]; exact hK
    · have hlw := (h.red (i := (q : Int)) (by omega) (by omega)).1.1
      rw [a1] at hlw
      obtain ⟨x, hx, rfl⟩ := LW.letter (by omega) (LW.app.1 hlw).2
      rw [lt_toNat (by omega)] at a2
      have e2 : ix Ls (q : Int) = (x : Int) := by omega
      rw [e2, if_pos (by omega)]
      have hlen := congrArg List.length he
      simp only [List.length_append] at hlen
      refine ⟨by omega, by omega, ref12_letter_ok (by omega) ⟨by simp; omega, by omega, by omega, hX (_, _) ?_ ?_⟩⟩
      · simp only
        rcases a3 with ⟨c1, c2, c3⟩ | ⟨c1, c2, c3, c4⟩
        · refine .inr ⟨c3, ?_⟩
          rw [← he, a1, c1]; rfl
        · refine .inl ⟨c2, c3, ?_⟩
          rw [← he, a1, c4, List.append_assoc]
      · simp only
        rw [if_pos j0, a1]
        rcases a3 with ⟨c1, c2, c3⟩ | ⟨c1, c2, c3, c4⟩
        · rw [if_neg (by omega)]; omega
        · rw [if_pos c2, c4]; simp
  · rw [if_neg (by omega), he]; exact hK
theorem BI.len_word {x : Nat} {sg : List Int} (h : BI gens mon x E Pf Ls R W Bh sg m) (hx : x ≤ 6) {i : Int} (i0 : 0 ≤ i) (i1 : i < W.length) : (ix W i).length ≤ 1000000000 := by
  obtain ⟨j, rfl⟩ := Int.eq_ofNat_of_zero_le i0
  have := h.si.wl j (by omega)
  have := h.wb
  omega
theorem ref12_Start_L1_ok (hg : GV gens = true) {K : Enum → Int → Prop} (h3 : ∀ r, RI gens false 0 r → K r.Enum 0) :
    LoopWP (S := Nat × List Rule × List Int × List Int × List (List Int)) (fun s X => ref12_Start_L1 gens gens K (fun k1_79 d_80 d_86 d_92 d_98 => X (k1_79, d_80, d_86, d_92, d_98)) s.1 s.2.1 s.2.2.1 s.2.2.2.1 s.2.2.2.2) (0, [], [], [], []) := by
  have hk := GV_iff.1 hg
  refine LoopWP.to gens.length (fun s => s.1) (fun s => s.1 ≤ gens.length ∧ ∃ W Bh sg m, BI gens false s.1 s.2.2.2.2 s.2.2.2.1 s.2.2.1 s.2.1 W Bh sg m) ⟨by simp, [], [], [], [], BI.start0 hg⟩ (fun s h => h.1) ?_
  rintro ⟨k, R, Ls, Pf, E⟩ X ⟨hkl, W, Bh, sg, m, hI⟩ hX
  simp only at hkl hI
  have hl := hI.si.elen
  have wb := hI.wb
  have rb := hI.rb
  have pl := hI.si.pl
  have ll := hI.si.ll
  dsimp only
  unfold ref12_Start_L1
  split
  · rename_i hlt
    have hlt' : k < gens.length := by omega
    have hv := hk.2.2 k hlt'
    have hvl := VF.len hv.1
    refine ⟨by omega, by omega, ref12_Find_ok ?_⟩
    split
    · rename_i h0
      have hf : ix gens (k : Int) ∈ E := Classical.byContradiction fun hn => by rw [fnd_no hn] at h0; omega
      obtain ⟨k0, k1, k2⟩ := hI.known hg hlt' hf
      rw [hI.si.mgt_ hf] at k0 k1 k2
      refine ref12_letter_ok (by omega) (ref12_Word_ok hg hI.si rfl rfl k0 k1 (hI.len_word (by omega) k0 k1) ⟨by simp; omega, hX (k + 1, _) ⟨by simp only; omega, _, _, _, _, k2⟩ rfl⟩)
    · rename_i h0
      have hf : ix gens (k : Int) ∉ E := fun hf => by have := (fnd_mem hf).1; omega
      have k2 := hI.new hg hlt' hf (e := -1) (by simp)
      exact ⟨by simp; omega, by simp; omega, by simp; omega, by simp; omega, hX (k + 1, _) ⟨by simp only; omega, _, _, _, _, by simpa using k2⟩ rfl⟩
  · have : k = gens.length := by omega
    subst this
    exact h3 _ (hI.fin hg)
theorem ref12_Start_L2_ok (hg : GV gens = true) {K : Enum → Int → Prop} (h3 : ∀ r, RI gens true 0 r → K r.Enum 0) :
    LoopWP (S := Nat × List Rule × List Int × List Int × List (List Int)) (fun s X => ref12_Start_L2 gens gens K (fun k1_79 d_80 d_86 d_92 d_98 => X (k1_79, d_80, d_86, d_92, d_98)) s.1 s.2.1 s.2.2.1 s.2.2.2.1 s.2.2.2.2) (0, [], [-1], [-1], [iota (ix gens 0).length]) := by
  have hk := GV_iff.1 hg
  refine LoopWP.to gens.length (fun s => s.1) (fun s => s.1 ≤ gens.length ∧ ∃ W Bh sg m, BI gens true s.1 s.2.2.2.2 s.2.2.2.1 s.2.2.1 s.2.1 W Bh sg m) ⟨by simp, _, _, _, _, BI.start1 hg⟩ (fun s h => h.1) ?_
  rintro ⟨k, R, Ls, Pf, E⟩ X ⟨hkl, W, Bh, sg, m, hI⟩ hX
  simp only at hkl hI
  have hl := hI.si.elen
  have wb := hI.wb
  have rb := hI.rb
  have pl := hI.si.pl
  have ll := hI.si.ll
  dsimp only
  unfold ref12_Start_L2
  split
  · rename_i hlt
    have hlt' : k < gens.length := by omega
    have hv := hk.2.2 k hlt'
    have hvl := VF.len hv.1
    refine ⟨by omega, by omega, ref12_Find_ok ?_⟩
    split
    · rename_i h0
      have hf : ix gens (k : Int) ∈ E := Classical.byContradiction fun hn => by rw [fnd_no hn] at h0; omega
      obtain ⟨k0, k1, k2⟩ := hI.known hg hlt' hf
      rw [hI.si.mgt_ hf] at k0 k1 k2
      refine ref12_letter_ok (by omega) (ref12_Word_ok hg hI.si rfl rfl k0 k1 (hI.len_word (by omega) k0 k1) ⟨by simp; omega, hX (k + 1, _) ⟨by simp only; omega, _, _, _, _, k2⟩ rfl⟩)
    · rename_i h0
      have hf : ix gens (k : Int) ∉ E := fun hf => by have := (fnd_mem hf).1; omega
      have k2 := hI.new hg hlt' hf (e := 0) (by simp)
      exact ⟨by simp; omega, by simp; omega, by simp; omega, by simp; omega, hX (k + 1, _) ⟨by simp only; omega, _, _, _, _, by simpa using k2⟩ rfl⟩
  · have : k = gens.length := by omega
    subst this
    exact h3 _ (hI.fin hg)
theorem ref12_Start_ok {K : Enum → Int → Prop} (h1 : ¬ (1 ≤ gens.length ∧ gens.length ≤ 6) → K ⟨0, false, [], [], [], [], [], [], 0⟩ 1) (h2 : 1 ≤ gens.length ∧ gens.length ≤ 6 → GV gens = false → K ⟨0, false, [], [], [], [], [], [], 0⟩ 4)
    (h3 : GV gens = true → ∀ r, RI gens mon 0 r → Rch gens mon 0 r → K r.Enum 0) : ref12_Start gens mon K := by
  unfold ref12_Start
  intro _
  split
  · exact h1 (by omega)
  · split
    · exact h1 (by omega)
    · refine ref11_MayGens_ok ?_
      split
      · rename_i hg
        have hk := GV_iff.1 hg
        have hl0 := GV.len0 hg
        refine ⟨by omega, by omega, fun _ => ref03_Copy_ok (by omega) (fun f hf => ?_) ?_⟩
        · obtain ⟨j, hj, rfl⟩ := mem_ix.1 hf
          have := VF.len (hk.2.2 j hj).1
          omega
        have fin : ∀ r, RI gens mon 0 r → K r.Enum 0 := fun r hr => h3 hg r hr ⟨0, hr, by have := hr.wb; omega, .inl rfl⟩
        cases mon with
        | false =>
          rw [if_neg (by decide)]
          exact ref12_Start_L1_ok hg fin
        | true =>
          rw [if_pos rfl]
          refine ref03_Discrete_ok (by omega) (by omega) ?_
          rw [Int.toNat_natCast]
          exact ref12_Start_L2_ok hg fin
      · rename_i hg
        exact h2 (by omega) (by simpa using hg)
end
end Sg
namespace Sg
open Go
set_option linter.unusedVariables false
set_option linter.unusedSimpArgs false
set_option maxRecDepth 10000
/-- The map has the words of the list. -/
def LS (W : List Str) (lm : List (Str × Int)) : Prop := ∀ w, mhas lm w = true ↔ w ∈ W
theorem LS.nil : LS [] [] := fun w => by simp [mhas]
theorem LS.put {W : List Str} {lm : List (Str × Int)} (h : LS W lm) (w : Str) (v : Int) : LS (W ++ [w]) (mput lm w v) := fun u => by
  rw [mhas_put, Bool.or_eq_true, decide_eq_true_eq, h u, List.mem_append, List.mem_singleton]
  exact ⟨fun k => k.elim .inr .inl, fun k => k.elim .inr .inl⟩
theorem take_st {xs : List Int} {x : Nat} {q : Int} (h : x < xs.length) : (st xs (x : Int) q).take (x + 1) = xs.take x ++ [q] := by
  have h2 : x < (st xs (x : Int) q).length := by simpa using h
  rw [take_ix h2, ix_st _ (by omega) (by omega) (by omega), if_pos rfl]
  congr 1
  simp only [st, Int.toNat_natCast, List.take_set]
  exact List.set_eq_of_length_le (by simp; omega)
section
variable {gens : List (List Int)} {mon : Bool} {F : Str → Prop} {E : List (List Int)} {Pf Ls : List Int} {R : List Rule} {W : List Str} {Bh : List Int} {m lm : List (Str × Int)} {sg : List Int} {Rt : List (List Int)} {d x : Nat} {row : List Int} {r : run}
/-- Is there a rule, as the reference asks? -/
theorem PI.tail_iff (hg : GV gens = true) (h : PI gens mon sg Rt d x row E Pf Ls R W Bh m) (hx : x < gens.length) (hf : vl gens (ix W d ++ [lt x]) ∈ E) (hu : ix W d ≠ []) : MN gens mon (ix W d ++ [lt x]) ↔ (ix W d ++ [lt x]).tail ∈ W := by
  have hk := (GV_iff.1 hg).2.1
  have a : RL gens mon W (fun w => SL w (ix W d ++ [lt x])) := h.si.rl.congr fun w _ => FF_ne hu x w
  obtain ⟨h0, h1, h2⟩ := h.si.num hf
  have nr := (a.known (by omega) (ix_mem h0 h1) h2).1
  rw [tail_snoc hu, a.mem]
  constructor
  · intro hm
    have ht := hm.tail
    rw [tail_snoc hu] at ht
    refine ⟨ht.resolve_left (by simp), .inl ?_⟩
    have := List.length_pos_iff.2 hu
    simp; omega
  · rintro ⟨e, _⟩
    exact ⟨LW.app.2 ⟨h.u_red.1.1, LW.lt hx (by omega)⟩, by simp, nr, .inr (by rw [drop_snoc]; exact h.u_red), .inr (by rw [tail_snoc hu]; exact e)⟩
theorem PI.notThere (hg : GV gens = true) (h : PI gens mon sg Rt d x row E Pf Ls R W Bh m) (hx : x < gens.length) (hu : ix W d ≠ []) {q : Int} (q0 : 0 ≤ q) (q1 : q < W.length) : ix W q ≠ ix W d ++ [lt x] := fun e => by
  have a : RL gens mon W (fun w => SL w (ix W d ++ [lt x])) := h.si.rl.congr fun w _ => FF_ne hu x w
  have := ((a.mem _).1 (ix_mem q0 q1)).2
  rw [e] at this
  exact SL.irrefl _ this
/-- The products of one element. -/
theorem ref12_process_row (hg : GV gens = true) {a0 : Enum} (ha : a0.Gens = gens) (hr : RI gens mon d r) (hw : r.words.length ≤ 2000) (hd : d < r.words.length) {b : Int} (hb : b ≤ 9223372036854775807) (hb1 : 0 < b) (hlm : LS r.words lm)
    {X2 : Int → Int → List Str → List (Str × Int) → List Rule → List (List Int) → List Int → List Int → List (List Int) → Prop} {K : Enum → Int → Prop} (hL : ¬ Few gens → (∀ d' s, d < d' → RI gens mon d' s → 2000 < s.words.length) → K ⟨0, false, [], [], [], [], [], [], 0⟩ 3)
    (hX : ∀ r' lm', RI gens mon (d + 1) r' → r'.words.length ≤ 2000 → LS r'.words lm' → X2 (b - 1) ((d : Int) + 1) r'.words lm' r'.Enum.Rules r'.Enum.Right r'.Enum.Last r'.Enum.Prefix r'.Enum.Elems) :
    LoopWP (S := Nat × List Int × List Str × (List (Str × Int)) × List Rule × List Int × List Int × List (List Int)) (fun s X => ref12_process_L3 a0 b (d : Int) r.words r.Enum.Right X2 K (fun k3_267 d_268 d_274 m3_280 d_281 d_287 d_293 d_299 => X (k3_267, d_268, d_274, m3_280, d_281, d_287, d_293, d_299)) s.1 s.2.1 s.2.2.1 s.2.2.2.1 s.2.2.2.2.1 s.2.2.2.2.2.1 s.2.2.2.2.2.2.1 s.2.2.2.2.2.2.2)
      (0, [], r.words, lm, r.Enum.Rules, r.Enum.Last, r.Enum.Prefix, r.Enum.Elems) := by
  have hgv := GV_iff.1 hg
  refine LoopWP.to gens.length (fun s => s.1) (fun s => s.1 ≤ gens.length ∧ (∃ row Bh m, row.take s.1 = s.2.1 ∧ PI gens mon r.single r.Enum.Right d s.1 row s.2.2.2.2.2.2.2 s.2.2.2.2.2.2.1 s.2.2.2.2.2.1 s.2.2.2.2.1 s.2.2.1 Bh m) ∧ ix s.2.2.1 (d : Int) = ix r.words (d : Int) ∧ s.2.2.1.length ≤ 2000 ∧ LS s.2.2.1 s.2.2.2.1)
    ⟨by simp, ⟨_, _, _, rfl, hr.pi hg hd⟩, rfl, hw, hlm⟩ (fun s h => h.1) ?_
  rintro ⟨x, rw_, W, lm, R, Ls, Pf, E⟩ X ⟨hxl, ⟨row, Bh, m, hrow, hI⟩, huW, few, hlm⟩ hX'
  simp only at hxl hrow hI huW few hlm
  have hel := hI.si.elen
  have rb := hI.rb
  have pl := hI.si.pl
  have ll := hI.si.ll
  have rl := hI.rw_
  have hdl := hI.dl
  have rtl := hI.rt.1
  have hrl : rw_.length = x := by rw [← hrow]; simp; omega
  dsimp only
  unfold ref12_process_L3
  rw [ha, ← huW]
  split
  · rename_i hlt
    have hx : x < gens.length := by omega
    have hv := hgv.2.2 x hx
    have hu := hI.u_red
    have hwl := hI.si.wl d hdl
    have huv := vl_ok hg hu.1.1
    have hvf := hI.si.vf hg
    have hE : VF (ix E (d : Int)) = true ∧ (ix E (d : Int)).length = (ix gens 0).length := hvf _ (ix_mem (by omega) (by omega))
    have hcp : compF (ix E (d : Int)) (ix gens (x : Int)) = vl gens (ix W d ++ [lt x]) := by
      rw [hI.si.eix (by omega) (by omega), vl_snoc, lt_toNat (by omega), show ((97 + x : Nat) : Int) - 97 = (x : Int) by omega]
    have hcv := vl_ok hg (w := ix W d ++ [lt x]) (LW.app.2 ⟨hu.1.1, LW.lt hx (by omega)⟩)
    have hcl := VF.len hE.1
    refine ⟨by omega, by omega, by omega, by omega, ref11_Compose_ok (by omega) (fun j hj => ?_) ?_⟩
    · have := (VF_iff.1 hE.1).2.2 j hj
      omega
    rw [hcp]
    refine ref12_Find_ok (ref12_letter_ok (by omega) ⟨by simp; omega, ?_⟩)
    have app : ∀ q, (st row (x : Int) q).take (x + 1) = rw_ ++ [q] := fun q => by rw [take_st (by omega), hrow]
    split
    · rename_i hm
      have hf : vl gens (ix W d ++ [lt x]) ∉ E := fun hf => by have := (fnd_mem hf).1; omega
      have hu0 : ix W d ≠ [] := fun k => hf (hI.nil_known hg hx k)
      have hln : (¬ Few gens ∨ Few gens) := (Classical.em _).symm
      split
      · rename_i h2000
        have h2000' : W.length = 2000 := by omega
        refine hL (fun hF => ?_) (fun d' s hd' hs => h2000' ▸ hI.limit hg hx hu0 hf hd' hs)
        have := hF (vl gens (ix W d ++ [lt x]) :: E) (List.nodup_cons.2 ⟨hf, hI.si.nodup⟩) fun f hm => by
          rcases List.mem_cons.1 hm with rfl | hm
          · exact hcv
          · exact hvf f hm
        simp only [List.length_cons] at this
        omega
      · rename_i h2000
        obtain ⟨hb', hq⟩ := after_ok hI.si hdl hx hI.sg hI.rt hu0
        have hnew : ∃ Bh' m', PI gens mon r.single r.Enum.Right d (x + 1) (st row (x : Int) (E.length : Int)) (E ++ [vl gens (ix W d ++ [lt x])]) (Pf ++ [(d : Int)]) (Ls ++ [(x : Int)]) R (W ++ [ix W d ++ [lt x]]) Bh' m' := by
          rcases hq with ⟨e0, q0, q1, q2⟩ | ⟨e0, e1, e2, e3, q0, q1, q2⟩
          · exact ⟨_, _, hI.new hg hx hu0 hf q0 q1 q2⟩
          · exact ⟨_, _, hI.new hg hx hu0 hf q0 q1 q2⟩
        obtain ⟨Bh', m', hn⟩ := hnew
        refine ⟨by simp; omega, by simp; omega, by simp; omega, by simp; omega, by simp; omega, hX' (x + 1, _) ⟨by simp only; omega, ⟨_, Bh', m', app _, hn⟩, ?_, by simp; omega, hlm.put _ _⟩ rfl⟩
        simp only
        rw [ixA hdl]; exact huW
    · rename_i hm
      have hf : vl gens (ix W d ++ [lt x]) ∈ E := Classical.byContradiction fun hn => by rw [fnd_no hn] at hm; omega
      have hq := hI.si.mgt_ hf
      obtain ⟨k0, k1, k2⟩ := hI.si.num hf
      rw [hq] at k0 k1
      have skip : (ix W d ≠ [] → ¬ MN gens mon (ix W d ++ [lt x])) → X (x + 1, rw_ ++ [fnd E (vl gens (ix W d ++ [lt x]))], W, lm, R, Ls, Pf, E) := fun hn => by
        have p := hI.skip hg hx hf hn
        rw [hq] at p
        exact hX' (x + 1, _) ⟨by simp only; omega, ⟨_, Bh, m, app _, p⟩, huW, few, hlm⟩ rfl
      split
      · rename_i hu0
        exact ⟨by simp; omega, skip fun hn => absurd hu0 hn⟩
      · rename_i hu0
        refine ⟨k0, k1, ?_⟩
        rw [if_neg (hI.notThere hg hx hu0 k0 k1)]
        refine ⟨by omega, by simp only [List.length_append, List.length_singleton]; omega, ?_⟩
        have ht : (ix W (d : Int) ++ [lt x]).drop (1 : Int).toNat = (ix W (d : Int) ++ [lt x]).tail := by
          rw [show (1 : Int).toNat = 1 from rfl, List.drop_one]
        rw [ht]
        split
        · rename_i hh
          have p := hI.rule hg hx hf hu0 ((hI.tail_iff hg hx hf hu0).2 ((hlm _).1 hh))
          rw [hq] at p
          exact ⟨k0, k1, by simp; omega, by simp; omega, hX' (x + 1, _) ⟨by simp only; omega, ⟨_, Bh, m, app _, p⟩, huW, few, hlm⟩ rfl⟩
        · rename_i hh
          exact ⟨by simp; omega, skip fun _ hmn => hh ((hlm _).2 ((hI.tail_iff hg hx hf hu0).1 hmn))⟩
  · have hxg : x = gens.length := by omega
    subst hxg
    have hre : row = rw_ := by rw [← hrow, take_all (by omega)]
    subst hre
    have rtd := hr.rt.1
    refine ⟨by simp; omega, ⟨by omega, by omega⟩, ⟨by omega, by omega⟩, ?_⟩
    exact hX _ lm (hI.fin hg hr) few hlm
theorem ref12_process_ok {t : Nat} {b : Int} {K : Enum → Int → Prop} (hg : GV gens = true) (h : Rch gens mon t r) (hb : b ≤ 9223372036854775807) (h0 : 0 ≤ b) (hL : ¬ Few gens → (∀ r', ¬ Rch gens mon (t + b.toNat) r') → K ⟨0, false, [], [], [], [], [], [], 0⟩ 3)
    (hK : ∀ r', Rch gens mon (t + b.toNat) r' → K r'.Enum 0) : ref12_process r.Enum b K := by
  obtain ⟨d, hr, hw, hd⟩ := h
  have hk6 := (GV_iff.1 hg).2.1
  have hel := hr.si.elen
  have hpl := hr.si.pl
  have hll := hr.si.ll
  have hrt := hr.rt.1
  have hrb := hr.rb
  have hdl := hr.dl
  have gm := hr.gm
  unfold ref12_process
  refine ⟨by simp; omega, by simp; omega, by simp; omega, by simp; omega, by simp; omega, ?_⟩
  refine LoopWP.to r.words.length (fun s : Nat × List Str × List (Str × Int) => s.1) (fun s => s.1 ≤ r.words.length ∧ s.2.1 = r.words.take s.1 ∧ LS (r.words.take s.1) s.2.2) ⟨by simp, by simp, by simpa using LS.nil⟩ (fun s h => h.1) ?_
  rintro ⟨k, ws, lm⟩ X ⟨hk, hws, hlm⟩ hX
  simp only at hk hws hlm
  subst hws
  dsimp only
  unfold ref12_process_L1
  simp only [List.nil_append]
  split
  · have hlt : k < r.words.length := by omega
    have hwl := hr.si.wl k hlt
    refine ref12_Word_ok hg hr.si rfl rfl (i := (k : Int)) (by omega) (by omega) (by omega) ?_
    have e : r.words.take k ++ [ix r.words (k : Int)] = r.words.take (k + 1) := (take_ix hlt).symm
    rw [e]
    have e2 : ix (r.words.take (k + 1)) (k : Int) = ix r.words (k : Int) := by
      rw [← e]; exact ixL' (by simp; omega)
    rw [e2]
    exact ⟨by simp; omega, by omega, by simp; omega, hX (k + 1, _) ⟨by simp only; omega, rfl, by rw [← e]; exact hlm.put _ _⟩ rfl⟩
  · have hkl : k = r.words.length := by omega
    subst hkl
    rw [List.take_length] at hlm ⊢
    -- the words are all there; now the steps
    have key : ∀ (c : Nat) (s : run), RI gens mon c s → s.words.length ≤ 2000 → d ≤ c → (c = d + b.toNat ∨ (c = s.words.length ∧ c ≤ d + b.toNat)) → Rch gens mon (t + b.toNat) s := by
      intro c s hs hsw hdc hc
      refine ⟨c, hs, hsw, ?_⟩
      rcases hd with q3 | ⟨q3, q5⟩
      · rw [← q3]; exact hc
      · have := RI.full_le hg (q3 ▸ hr) hs
        have := hs.dl
        exact .inr (by omega)
    refine LoopWP.to b.toNat (fun s => b.toNat - s.1.toNat) (fun s => 0 ≤ s.1 ∧ s.1 ≤ b ∧ ∃ c r', RI gens mon c r' ∧ r'.words.length ≤ 2000 ∧ (c : Int) = d + (b - s.1) ∧ s.2.1 = (c : Int) ∧ s.2.2.1 = r'.words ∧ LS r'.words s.2.2.2.1 ∧ s.2.2.2.2.1 = r'.Enum.Rules ∧ s.2.2.2.2.2.1 = r'.Enum.Right ∧ s.2.2.2.2.2.2.1 = r'.Enum.Last ∧ s.2.2.2.2.2.2.2.1 = r'.Enum.Prefix ∧ s.2.2.2.2.2.2.2.2 = r'.Enum.Elems)
      ⟨h0, by simp, d, r, hr, hw, by simp, hr.dn, rfl, hlm, rfl, rfl, rfl, rfl, rfl⟩ (fun s h => by omega) ?_
    rintro ⟨bb, dn, ws, lm2, ru, rt, ls, pf, es⟩ X2 ⟨hb0, hb1, c, r', hr', hw', hc, e1, e2, hlm2, e3, e4, e5, e6, e7⟩ hX2
    simp only at hb0 hb1 hc e1 e2 hlm2 e3 e4 e5 e6 e7
    subst e1 e2 e3 e4 e5 e6 e7
    dsimp only
    unfold ref12_process_L2
    have hel' := hr'.si.elen
    have hdl' := hr'.dl
    have hen : (⟨r.Enum.Points, r.Enum.Monoid, r.Enum.Gens, r'.Enum.Elems, r'.Enum.Prefix, r'.Enum.Last, r'.Enum.Right, r'.Enum.Rules, (c : Int)⟩ : Enum) = r'.Enum := by
      have p1 := hr'.pts; have p2 := hr'.mon_; have p3 := hr'.gn; have p4 := hr'.dn
      rw [enum_ext]
      exact ⟨by rw [hr.pts, p1], by rw [hr.mon_, p2], p4.symm, by rw [hr.gn, p3], rfl, rfl, rfl, rfl, rfl⟩
    have fin : (c = d + b.toNat ∨ (c = r'.words.length ∧ c ≤ d + b.toNat)) → K ⟨r.Enum.Points, r.Enum.Monoid, r.Enum.Gens, r'.Enum.Elems, r'.Enum.Prefix, r'.Enum.Last, r'.Enum.Right, r'.Enum.Rules, (c : Int)⟩ 0 := fun hh => by
      rw [hen]; exact hK r' (key c r' hr' hw' (by omega) hh)
    split
    · rename_i hbp
      split
      · rename_i hlt
        refine ⟨by omega, by omega, fun _ => ?_⟩
        refine ref12_process_row hg gm.1 hr' hw' (by omega) (by omega) hbp hlm2 (fun hF hl => ?_) fun r2 lm3 hr2 hw2 hlm3 => ?_
        · refine hL hF fun r3 => Lim.rch hg (d := c) ⟨hF, ⟨r', hr', by omega⟩, hl⟩ ?_ r3
          rcases hd with q3 | ⟨q3, q5⟩
          · omega
          · have := RI.full_le hg (q3 ▸ hr) hr'
            omega
        · have dn2 := hr2.dn
          exact hX2 (bb - 1, (c : Int) + 1, r2.words, lm3, r2.Enum.Rules, r2.Enum.Right, r2.Enum.Last, r2.Enum.Prefix, r2.Enum.Elems) ⟨by simp only; omega, by simp only; omega, c + 1, r2, hr2, hw2, by simp only; omega, by simp only; omega, rfl, hlm3, rfl, rfl, rfl, rfl, rfl⟩ (by simp only; omega)
      · rename_i hlt
        exact fin (.inr ⟨by omega, by omega⟩)
    · exact fin (.inl (by omega))
end
end Sg
namespace Sg
open Go
set_option linter.unusedVariables false
set_option linter.unusedSimpArgs false
set_option maxRecDepth 10000
section
variable {gens : List (List Int)} {mon : Bool} {r : run} {t : Nat} {b : Int}
theorem ref12_Validate_ok {e : Enum} {K : Int → Prop} (h : ¬ VE e → K 8) (h1 : VE e → K 0) : ref12_Validate e K := by
  unfold ref12_Validate
  intro _
  have parts : VE e → e.Elems.length ≤ 2000 ∧ 0 ≤ e.Done ∧ e.Done ≤ e.Elems.length := fun hv => by
    obtain ⟨d, r, k1, k2, k3, k4, k5⟩ := hv.done
    have := k1.si.elen
    rw [k3] at this
    exact ⟨by omega, by omega, by omega⟩
  split
  · exact h fun hv => by have := parts hv; omega
  · split
    · exact h fun hv => by have := parts hv; omega
    · split
      · exact h fun hv => by have := parts hv; omega
      · refine ref12_Start_ok (fun hn => ?_) (fun _ hn => ?_) fun hg r0 hr0 hc0 => ?_
        · rw [if_neg (by decide)]
          exact h fun hv => hn ⟨(GV_iff.1 hv.1).1, (GV_iff.1 hv.1).2.1⟩
        · rw [if_neg (by decide)]
          exact h fun hv => by rw [hv.1] at hn; cases hn
        · rw [if_pos rfl]
          refine ref12_process_ok hg hc0 (by omega) (by omega) (fun _ hl => ?_) fun r' hr' => ?_
          · rw [if_neg (by decide)]
            refine h fun hv => ?_
            obtain ⟨d, r, k1, k2, k3, k4, k5⟩ := hv.done
            exact hl r ⟨d, k1, k2, .inl (by omega)⟩
          · rw [if_pos rfl]
            refine ref12_Same_ok ?_
            split
            · rename_i he
              have he : r'.Enum = e := of_decide_eq_true he
              exact h1 (he ▸ hr'.VE hg)
            · rename_i he
              refine h fun hv => he (decide_eq_true ?_)
              obtain ⟨d, r, k1, k2, k3, k4, k5⟩ := hv.done
              have : Rch e.Gens e.Monoid (0 + e.Done.toNat) r := ⟨d, k1, k2, .inl (by omega)⟩
              rw [(hr'.uniq hg this).1, k3]
theorem ref12_Step_good {K : Enum → Int → Prop} (hg : GV gens = true) (h : Rch gens mon t r) (hb : b ≤ 9223372036854775807) (h1 : b < 0 → K ⟨0, false, [], [], [], [], [], [], 0⟩ 1)
    (h3 : 0 ≤ b → ¬ Few gens → (∀ r', ¬ Rch gens mon (t + b.toNat) r') → K ⟨0, false, [], [], [], [], [], [], 0⟩ 3) (h0 : 0 ≤ b → ∀ r', Rch gens mon (t + b.toNat) r' → K r'.Enum 0) : ref12_Step r.Enum b K := by
  unfold ref12_Step
  refine ref12_Validate_ok (fun k => absurd (h.VE hg) k) fun _ => ?_
  rw [if_pos rfl]
  split
  · rename_i hlt; exact h1 hlt
  · rename_i hlt
    exact ref12_process_ok hg h hb (by omega) (h3 (by omega)) (h0 (by omega))
end
end Sg
namespace Sg
open Go
set_option linter.unusedVariables false
set_option linter.unusedSimpArgs false
set_option maxRecDepth 10000
theorem iteI {c : Prop} [Decidable c] {a b : Prop} (h : c → a) (k : ¬ c → b) : if c then a else b := by
  split
  · rename_i hc; exact h hc
  · rename_i hc; exact k hc
theorem val_same {e : Enum} : enumerate_Validate e fun a => (ref12_Validate e fun b => (if a = b then (law12_awake  fun r => (r = true)) else (false = true))) := by
  by_cases h : VE e
  · refine enumerate_Validate_ok (fun k => absurd h k) fun _ => ref12_Validate_ok (fun k => absurd h k) fun _ => ?_
    rw [if_pos rfl]; exact law12_awake_ok rfl
  · refine enumerate_Validate_ok (fun _ => ref12_Validate_ok (fun _ => ?_) fun k => absurd k h) fun k => absurd k h
    rw [if_pos rfl]; exact law12_awake_ok rfl
theorem law12_EnumerateRefuses_ok (raw : Enum) (gens : List (List Int)) (mon : Bool) (bu what at_ to : Int) (hbu : 0 ≤ bu ∧ bu ≤ 255) (h1 : I64 what) (h2 : I64 at_) (h3 : I64 to) : law12_EnumerateRefuses raw gens mon bu what at_ to (fun b => b = true) := by
  unfold law12_EnumerateRefuses
  have mb := and31 bu hbu
  intro _
  have split2 : ∀ {p : Prop}, (∀ {K : Int → Int → Prop}, (∀ a, K a a) → enumerate_Validate raw fun a => ref12_Validate raw fun b => K a b) := fun {p K} hK => by
    by_cases h : VE raw
    · exact enumerate_Validate_ok (fun k => absurd h k) fun _ => ref12_Validate_ok (fun k => absurd h k) fun _ => hK 0
    · exact enumerate_Validate_ok (fun _ => ref12_Validate_ok (fun _ => hK 8) fun k => absurd k h) fun k => absurd k h
  refine iteI (fun h20 => ?_) fun h20 => ?_
  refine split2 (p := True) (K := fun a b => if a = b then _ else _) fun a => ?_
  rw [if_pos rfl]
  all_goals
    refine law12_little_ok (fun _ => by rw [if_neg (by decide)]; exact law12_awake_ok rfl) fun hg hl hp => ?_
    rw [if_pos rfl]
    have hF : Few gens := few_ok (by omega)
    refine ref12_Start_ok (fun h => absurd ⟨(GV_iff.1 hg).1, (GV_iff.1 hg).2.1⟩ h) (fun _ k => by rw [hg] at k; cases k) fun _ r0 _ hc0 => ?_
    rw [if_pos rfl]
    refine ref12_Step_good hg hc0 (by omega) (fun k => by omega) (fun _ k => absurd hF k) fun _ r hr => ?_
    rw [if_pos rfl]
    obtain ⟨d, hri, hw, _⟩ := hr
    have hel := hri.si.elen
    have hpl := hri.si.pl
    have hll := hri.si.ll
    have hne := hri.ne
    have hrb := hri.rb
    have hrt := hri.rt.1
    have hdl := hri.dl
    have hk := GV_iff.1 hg
    obtain ⟨a1, a2, a3, a4⟩ := modI at_ (n := (r.Enum.Elems.length : Int)) (by omega)
    intro _
    refine ⟨by omega, ⟨by omega, by omega⟩, by omega, ?_⟩
    generalize ((at_.tmod (r.Enum.Elems.length : Int)) + (r.Enum.Elems.length : Int)).tmod (r.Enum.Elems.length : Int) = i at a3 a4 ⊢
    simp only [List.nil_append]
    refine iteI (fun _ => val_same) fun _ => ?_
    refine iteI (fun _ => iteI (fun _ => val_same) fun _ => val_same) fun _ => ?_
    refine iteI (fun _ => ?_) fun _ => ?_
    · exact ⟨by simp; omega, a3, by omega, val_same⟩
    refine iteI (fun _ => ?_) fun _ => ?_
    · exact ⟨by simp; omega, a3, by omega, val_same⟩
    refine iteI (fun _ => ?_) fun _ => ?_
    · intro _
      refine iteI (fun hlt => ?_) fun _ => ?_
      · skip
        obtain ⟨q, rfl⟩ := Int.eq_ofNat_of_zero_le a3
        have hq := (hri.rt.2 q (by omega)).1
        refine ref03_Copy_ok (by omega) (fun f hf => ?_) ⟨a3, by omega, by omega, by omega, val_same⟩
        obtain ⟨j, hj, rfl⟩ := mem_ix.1 hf
        have := (hri.rt.2 j (by omega)).1
        omega
      · exact val_same
    refine iteI (fun _ => ?_) fun _ => ?_
    · exact ⟨by simp; omega, by simp; omega, val_same⟩
    refine iteI (fun _ => ?_) fun _ => ?_
    · exact val_same
    · exact ⟨a3, a4, by simp; omega, by simp; omega, val_same⟩
end Sg
namespace Sg
open Go
set_option linter.unusedVariables false
set_option linter.unusedSimpArgs false
set_option maxRecDepth 10000
section
variable {gens : List (List Int)} {mon : Bool} {r : run} {t : Nat}
theorem Rch.word {i : Int} {K : Str → Prop} (hg : GV gens = true) (h : Rch gens mon t r) (hK : K (if 0 ≤ i ∧ i < r.words.length then ix r.words i else [])) : enumerate_Word r.Enum i K := by
  have gm := h.gm
  refine enumerate_Word_ok (fun hn => absurd (h.VE hg) hn) fun _ d s hs he => ?_
  rw [gm.1, gm.2] at hs
  obtain ⟨d', h1, h2, h3⟩ := h
  have : d = d' := by
    have a := hs.dn
    rw [he, h1.dn] at a
    omega
  subst this
  rw [(hs.enum_uniq hg h1).1]; exact hK
end
section
variable {gens : List (List Int)} {mon : Bool} {r : run} {t : Nat}
end
end Sg
