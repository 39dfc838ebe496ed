/- Tables: center, elements that are no products, commuting. Plain laws. -/
import Derived.Test.YtolobiljalelgaaMultH
namespace Sg
open Go

/-! ### The center -/
def cenB (t : List (List Int)) (x : Int) : Bool := (iota t.length).all fun y => decide (mu t x y = mu t y x)
theorem cenB_iff {t : List (List Int)} {x : Int} : cenB t x = true ↔ ∀ y : Nat, y < t.length → mu t x y = mu t y x := by
  simp only [cenB, List.all_eq_true, mem_iota, decide_eq_true_eq]
  constructor
  · intro h y hy; exact h y (by omega)
  · intro h y hy
    obtain ⟨b, rfl⟩ := Int.eq_ofNat_of_zero_le hy.1
    exact h b (by omega)
theorem cenB_false {t : List (List Int)} {x : Int} (h : ¬ ∀ y : Nat, y < t.length → mu t x y = mu t y x) : cenB t x = false := by
  rw [Bool.eq_false_iff, ne_eq, cenB_iff]; exact h
def cenF (t : List (List Int)) : List Int := if VT t = true then (iota t.length).filter (cenB t) else []
theorem mult_Center_ok {t : List (List Int)} {K : List Int → Prop} (h : K (cenF t)) : mult_Center t K := by
  unfold mult_Center
  refine mult_valid_ok ?_
  split
  · rename_i hv
    rw [cenF, if_pos hv] at h
    have T := SH.tb (VT.sh hv)
    have n4 := T.n4
    refine mult_elements_ok n4 (LoopWP.scan t.length (fun j => cenB t j = true) ?_)
    intro k X hk hI hX
    show mult_Center_L1 t (iota t.length) K _ k
    unfold mult_Center_L1
    rw [iota_length]
    split
    · have hkl : k < t.length := by omega
      have r1 := T.row k (by omega) (by omega)
      refine ⟨by omega, by omega, fun _ => LoopWP.scan t.length (fun y => mu t k y = mu t y k) ?_⟩
      intro y X2 hy hJ hX2
      show mult_Center_L2 t (iota t.length) k _ K _ y
      unfold mult_Center_L2
      rw [ix_iota hkl]
      split
      · have hyl : y < t.length := by omega
        have r2 := T.row y (by omega) (by omega)
        refine ⟨by omega, by omega, by omega, by omega, by omega, by omega, by omega, by omega, ?_⟩
        split
        · rename_i he; exact hX2 hyl he
        · rename_i he
          rw [if_neg (by omega)]
          refine foldD t.length (DI (cenB t) t.length) (by omega) (DI.start hkl hI (cenB_false fun hh => he (hh y hyl))) ?_
          intro i j s X3 hj hD hX3
          show mult_Center_L3 t K _ i j s
          unfold mult_Center_L3
          have hl := hD.len
          have hij := hD.ij
          split
          · have hjl : j < t.length := by omega
            have e1 := hD.tl j (Nat.le_refl _) hjl
            have r3 := T.row j (by omega) (by omega)
            refine ⟨by omega, by omega, LoopWP.scan t.length (fun y => mu t j y = mu t y j) ?_⟩
            intro z X4 hz hL hX4
            show mult_Center_L4 t i j s _ K _ z
            unfold mult_Center_L4
            rw [e1]
            split
            · have hzl : z < t.length := by omega
              have r4 := T.row z (by omega) (by omega)
              refine ⟨by omega, by omega, by omega, by omega, by omega, by omega, by omega, by omega, ?_⟩
              split
              · rename_i he; exact hX4 hzl he
              · rename_i he; exact hX3 _ _ hjl (hD.drop hjl (cenB_false fun hh => he (hh z hzl)))
            · have := hD.keep hjl (p := cenB t) (cenB_iff.2 fun y hy => hL y (by omega))
              rw [e1] at this
              exact ⟨by omega, by omega, ⟨by omega, by omega⟩, ⟨by omega, by omega⟩, hX3 _ _ hjl this⟩
          · have : j = t.length := by omega
            subst this
            refine ⟨by omega, by omega, by omega, by simp; omega, ?_⟩
            rw [show ((i : Int)).toNat = i from rfl, hD.fin]
            exact h
      · exact hX hkl (cenB_iff.2 fun z hz => hJ z (by omega))
    · rw [if_pos rfl]
      have : k = t.length := by omega
      subst this
      rw [filter_all hI] at h; exact h
  · rename_i hv
    rw [cenF, if_neg hv] at h; exact h
theorem ref14_Center_ok {t : List (List Int)} (ht : SH t = true) {K : List Int → Prop} (h : K ((iota t.length).filter (cenB t))) : ref14_Center t K := by
  unfold ref14_Center
  have T := SH.tb ht
  have n4 := T.n4
  refine fun _ => LoopWP.fold t.length (fun k (l : List Int) => l = (iota k).filter (cenB t)) rfl ?_
  rintro k l X hk rfl hX
  show ref14_Center_L1 t K _ k _
  unfold ref14_Center_L1
  split
  · have hkl : k < t.length := by omega
    have r1 := T.row k (by omega) (by omega)
    refine LoopWP.foldR t.length (fun y (b : Bool) => b = true ↔ ∀ z : Nat, z < y → mu t k z = mu t z k) 0 (Nat.zero_le _) (by simp) ?_
    intro y b X2 hy hJ hX2
    show ref14_Center_L2 t k _ _ K _ b y
    unfold ref14_Center_L2
    split
    · have hyl : y < t.length := by omega
      have r2 := T.row y (by omega) (by omega)
      split
      · rename_i hb
        refine ⟨by omega, by omega, by omega, by omega, by omega, by omega, by omega, by omega, ?_⟩
        split
        · rename_i he; exact hX2 true hyl ⟨fun _ => upS (hJ.1 hb) he, fun _ => rfl⟩
        · rename_i he; exact hX2 false hyl ⟨(fun hh => by cases hh), fun hh => absurd (hh y (by omega)) he⟩
      · rename_i hb
        exact hX2 false hyl ⟨(fun hh => by cases hh), fun hh => absurd (hJ.2 fun z hz => hh z (by omega)) hb⟩
    · split
      · rename_i hb
        refine ⟨?_, hX _ hkl ?_⟩
        · have := List.length_filter_le (cenB t) (iota k); simp at this ⊢; omega
        · rw [iota_succ, List.filter_append]; simp [cenB_iff.2 fun z hz => hJ.1 hb z (by omega)]
      · rename_i hb
        refine hX _ hkl ?_
        rw [iota_succ, List.filter_append]; simp [cenB_false fun hh => hb (hJ.2 fun z hz => hh z (by omega))]
  · have : k = t.length := by omega
    subst this; exact h
theorem cenF_le {t : List (List Int)} : (cenF t).length ≤ t.length := by
  unfold cenF
  split
  · have := List.length_filter_le (cenB t) (iota t.length); simpa using this
  · simp
theorem mult_Commutative_ok {t : List (List Int)} {K : Bool → Prop} (h : K (VT t && decide ((cenF t).length = t.length))) : mult_Commutative t K := by
  unfold mult_Commutative
  refine mult_valid_ok ?_
  split
  · rename_i hv
    refine mult_Center_ok fun _ _ => ?_
    split
    · rename_i he
      rw [hv, decide_eq_true (by omega : (cenF t).length = t.length)] at h; exact h
    · rename_i he
      rw [hv, decide_eq_false (by omega : ¬ (cenF t).length = t.length)] at h; exact h
  · rename_i hv
    rw [Bool.eq_false_iff.2 hv] at h; exact h

/-! ### Products -/
/-- Is it a product of two elements? -/
def prB (t : List (List Int)) (z : Int) : Prop := ∃ x y : Nat, x < t.length ∧ y < t.length ∧ mu t x y = z
open Classical in
noncomputable def indF (t : List (List Int)) : List Int := (iota t.length).filter fun z => decide (¬ prB t z)
theorem mult_Indecomposable_ok {t : List (List Int)} {K : List Int → Prop} (h : K (if VT t = true then indF t else [])) : mult_Indecomposable t K := by
  unfold mult_Indecomposable
  refine mult_valid_ok ?_
  split
  · rename_i hv
    rw [if_pos hv] at h
    have T := SH.tb (VT.sh hv)
    have n4 := T.n4
    refine fun _ => ⟨by omega, by omega, ?_⟩
    refine LoopWP.fold t.length (fun k (b : List Bool) => b.length = t.length ∧ ∀ z : Nat, z < t.length → (ix b z = true ↔ ∃ x y : Nat, x < k ∧ y < t.length ∧ mu t x y = z)) ⟨by simp, fun z hz => ?_⟩ ?_
    · rw [ix_replicate _ _ hz]; exact ⟨(fun hh => by cases hh), fun ⟨x, _, hx, _⟩ => absurd hx (Nat.not_lt_zero _)⟩
    rintro k b X hk ⟨hl, hI⟩ hX
    show mult_Indecomposable_L1 t K _ k b
    unfold mult_Indecomposable_L1
    split
    · have hkl : k < t.length := by omega
      have r1 := T.row k (by omega) (by omega)
      refine ⟨by omega, by omega, fun _ => ?_⟩
      refine LoopWP.fold t.length (fun j (b : List Bool) => b.length = t.length ∧ ∀ z : Nat, z < t.length → (ix b z = true ↔ (∃ x y : Nat, x < k ∧ y < t.length ∧ mu t x y = z) ∨ ∃ y : Nat, y < j ∧ mu t k y = z)) ⟨hl, fun z hz => (hI z hz).trans ⟨.inl, fun hh => hh.elim id fun ⟨y, hy, _⟩ => absurd hy (Nat.not_lt_zero _)⟩⟩ ?_
      rintro j b2 X2 hj ⟨hl2, hJ⟩ hX2
      show mult_Indecomposable_L2 t k _ K _ j b2
      unfold mult_Indecomposable_L2
      split
      · have hjl : j < t.length := by omega
        have m1 := T.mu (x := k) (y := j) (by omega) (by omega) (by omega) (by omega)
        unfold mu at m1
        refine ⟨by omega, by omega, m1.1, by omega, hX2 _ hjl ⟨by simpa using hl2, fun z hz => ?_⟩⟩
        rw [ix_st _ m1.1 (by omega) (by omega)]
        split
        · rename_i he; exact ⟨fun _ => .inr ⟨j, by omega, he.symm⟩, fun _ => rfl⟩
        · rename_i he
          rw [hJ z hz]
          constructor
          · rintro (hh | ⟨y, hy, hh⟩)
            · exact .inl hh
            · exact .inr ⟨y, by omega, hh⟩
          · rintro (hh | ⟨y, hy, hh⟩)
            · exact .inl hh
            · refine .inr ⟨y, ?_, hh⟩
              by_cases hyj : y = j
              · subst hyj; exact absurd hh.symm he
              · omega
      · refine hX _ hkl ⟨hl2, fun z hz => (hJ z hz).trans ?_⟩
        constructor
        · rintro (⟨x, y, hx, hy, hh⟩ | ⟨y, hy, hh⟩)
          · exact ⟨x, y, by omega, hy, hh⟩
          · exact ⟨k, y, by omega, by omega, hh⟩
        · rintro ⟨x, y, hx, hy, hh⟩
          by_cases hxk : x = k
          · subst hxk; exact .inr ⟨y, by omega, hh⟩
          · exact .inl ⟨x, y, by omega, hy, hh⟩
    · have hpr : ∀ z : Nat, z < t.length → (ix b z = true ↔ prB t z) := fun z hz => (hI z hz).trans ⟨fun ⟨x, y, hx, hy, hh⟩ => ⟨x, y, by omega, hy, hh⟩, fun ⟨x, y, hx, hy, hh⟩ => ⟨x, y, by omega, hy, hh⟩⟩
      have hF : indF t = (iota t.length).filter fun z => !(ix b z) := by
        unfold indF
        refine List.filter_congr fun z hz => ?_
        obtain ⟨z0, z1⟩ := mem_iota.1 hz
        obtain ⟨m, rfl⟩ := Int.eq_ofNat_of_zero_le z0
        have := hpr m (by omega)
        by_cases hb : ix b (m : Int) = true
        · simp [hb, this.1 hb]
        · have h2 : ¬ prB t (m : Int) := fun hp => hb (this.2 hp)
          simp [hb, h2]
      rw [hF] at h
      refine mult_valid_ok ?_
      rw [if_pos hv]
      refine mult_elements_ok n4 (LoopWP.scan t.length (fun j => (!(ix b (j : Int))) = true) ?_)
      intro k X hk hI2 hX
      show mult_Indecomposable_L3 b (iota t.length) K _ k
      unfold mult_Indecomposable_L3
      rw [iota_length]
      split
      · have hkl : k < t.length := by omega
        rw [ix_iota hkl]
        refine ⟨by omega, by omega, by omega, by omega, ?_⟩
        split
        · rename_i he
          rw [if_neg (by omega)]
          refine foldD t.length (DI (fun z => !(ix b z)) t.length) (by omega) (DI.start hkl hI2 (by simp [he])) ?_
          intro i j s X3 hj hD hX3
          show mult_Indecomposable_L4 b K _ i j s
          unfold mult_Indecomposable_L4
          have hls := hD.len
          have hij := hD.ij
          split
          · have hjl : j < t.length := by omega
            have e1 := hD.tl j (Nat.le_refl _) hjl
            rw [e1]
            refine ⟨by omega, by omega, by omega, by omega, ?_⟩
            split
            · rename_i hp; exact hX3 _ _ hjl (hD.drop hjl (by simp [hp]))
            · rename_i hp
              have := hD.keep hjl (p := fun z => !(ix b z)) (by simp [hp])
              rw [e1] at this
              exact ⟨by omega, by omega, ⟨by omega, by omega⟩, ⟨by omega, by omega⟩, hX3 _ _ hjl this⟩
          · have : j = t.length := by omega
            subst this
            refine ⟨by omega, by omega, by omega, by simp; omega, ?_⟩
            rw [show ((i : Int)).toNat = i from rfl, hD.fin]
            exact h
        · rename_i he; exact hX hkl (by simp [he])
      · rw [if_pos rfl]
        have : k = t.length := by omega
        subst this
        rw [filter_all hI2] at h; exact h
  · rename_i hv
    rw [if_neg hv] at h; exact h
theorem ref14_Indecomposable_ok {t : List (List Int)} (ht : SH t = true) {K : List Int → Prop} (h : K (indF t)) : ref14_Indecomposable t K := by
  unfold ref14_Indecomposable
  have T := SH.tb ht
  have n4 := T.n4
  refine fun _ => ⟨by omega, by omega, ?_⟩
  refine LoopWP.fold t.length (fun k (b : List Bool) => b.length = t.length ∧ ∀ z : Nat, z < k → ix b z = true) ⟨by simp, fun z hz => absurd hz (Nat.not_lt_zero _)⟩ ?_
  rintro k b X hk ⟨hl, hI⟩ hX
  show ref14_Indecomposable_L1 t K _ k b
  unfold ref14_Indecomposable_L1
  split
  · refine ⟨by omega, by omega, hX _ (by omega) ⟨by simpa using hl, fun z hz => ?_⟩⟩
    rw [ix_st _ (by omega) (by omega) (by omega)]
    split
    · rfl
    · exact hI z (by omega)
  · refine LoopWP.fold t.length (fun k (b : List Bool) => b.length = t.length ∧ ∀ z : Nat, z < t.length → (ix b z = true ↔ ¬ ∃ x y : Nat, x < k ∧ y < t.length ∧ mu t x y = z)) ⟨hl, fun z hz => ⟨fun _ ⟨x, y, hx, _⟩ => absurd hx (Nat.not_lt_zero _), fun _ => hI z (by omega)⟩⟩ ?_
    rintro k b X2 hk2 ⟨hl, hI⟩ hX2
    show ref14_Indecomposable_L2 t K _ k b
    unfold ref14_Indecomposable_L2
    split
    · have hkl : k < t.length := by omega
      have r1 := T.row k (by omega) (by omega)
      refine LoopWP.fold t.length (fun j (b : List Bool) => b.length = t.length ∧ ∀ z : Nat, z < t.length → (ix b z = true ↔ ¬ ((∃ x y : Nat, x < k ∧ y < t.length ∧ mu t x y = z) ∨ ∃ y : Nat, y < j ∧ mu t k y = z))) ⟨hl, fun z hz => (hI z hz).trans (not_congr ⟨.inl, fun hh => hh.elim id fun ⟨y, hy, _⟩ => absurd hy (Nat.not_lt_zero _)⟩)⟩ ?_
      rintro j b2 X3 hj ⟨hl2, hJ⟩ hX3
      show ref14_Indecomposable_L3 t k _ K _ j b2
      unfold ref14_Indecomposable_L3
      split
      · have hjl : j < t.length := by omega
        have m1 := T.mu (x := k) (y := j) (by omega) (by omega) (by omega) (by omega)
        unfold mu at m1
        refine ⟨by omega, by omega, by omega, by omega, m1.1, by omega, hX3 _ hjl ⟨by simpa using hl2, fun z hz => ?_⟩⟩
        rw [ix_st _ m1.1 (by omega) (by omega)]
        split
        · rename_i he; exact ⟨(fun hh => by cases hh), fun hh => absurd (.inr ⟨j, by omega, he.symm⟩) hh⟩
        · rename_i he
          rw [hJ z hz]
          refine not_congr ?_
          constructor
          · rintro (hh | ⟨y, hy, hh⟩)
            · exact .inl hh
            · exact .inr ⟨y, by omega, hh⟩
          · rintro (hh | ⟨y, hy, hh⟩)
            · exact .inl hh
            · refine .inr ⟨y, ?_, hh⟩
              by_cases hyj : y = j
              · subst hyj; exact absurd hh.symm he
              · omega
      · refine hX2 _ hkl ⟨hl2, fun z hz => (hJ z hz).trans (not_congr ?_)⟩
        constructor
        · rintro (⟨x, y, hx, hy, hh⟩ | ⟨y, hy, hh⟩)
          · exact ⟨x, y, by omega, hy, hh⟩
          · exact ⟨k, y, by omega, by omega, hh⟩
        · rintro ⟨x, y, hx, hy, hh⟩
          by_cases hxk : x = k
          · subst hxk; exact .inr ⟨y, by omega, hh⟩
          · exact .inl ⟨x, y, by omega, hy, hh⟩
    · refine ref03_Members_ok (by omega) ?_
      have hF : indF t = (iota b.length).filter fun z => ix b z := by
        unfold indF
        rw [hl]
        refine List.filter_congr fun z hz => ?_
        obtain ⟨z0, z1⟩ := mem_iota.1 hz
        obtain ⟨m, rfl⟩ := Int.eq_ofNat_of_zero_le z0
        have := hI m (by omega)
        by_cases hb : ix b (m : Int) = true
        · have h2 : ¬ prB t (m : Int) := fun ⟨x, y, hx, hy, hh⟩ => this.1 hb ⟨x, y, by omega, hy, hh⟩
          simp [hb, h2]
        · have h2 : prB t (m : Int) := Classical.byContradiction fun hn => hb (this.2 fun ⟨x, y, hx, hy, hh⟩ => hn ⟨x, y, by omega, hy, hh⟩)
          simp [hb, h2]
      rw [← hF]; exact h
end Sg
