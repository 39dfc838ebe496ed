/- Tables: opposites and adjoined identities. Plain laws. -/
import Derived.Test.YtolobiljalelgaaMultJ
namespace Sg
open Go

theorem slices_Clone_int_ok {s : List Int} (hs : s.length ≤ 1099511627776) {K : List Int → Prop} (h : K s) : slices_Clone_int s K := by
  unfold slices_Clone_int
  intro z hz
  split
  · rename_i h1; rw [hz h1] at h; exact h
  · exact ⟨by simpa using hs, by simpa using h⟩
def oRow (t : List (List Int)) (x : Nat) : List Int := t.map fun row => ix row (x : Int)
def opp (t : List (List Int)) : List (List Int) := (List.range t.length).map (oRow t)
@[simp] theorem oRow_len {t : List (List Int)} {x : Nat} : (oRow t x).length = t.length := by simp [oRow]
@[simp] theorem opp_len {t : List (List Int)} : (opp t).length = t.length := by simp [opp]
theorem ix_opp {t : List (List Int)} {x : Nat} (h : x < t.length) : ix (opp t) (x : Int) = oRow t x := by
  rw [ix_lt (by simpa using h)]; simp [opp]
theorem ix_oRow {t : List (List Int)} {x y : Nat} (h : y < t.length) : ix (oRow t x) (y : Int) = ix (ix t (y : Int)) (x : Int) := by
  unfold oRow; rw [ix_map _ (by omega) (by omega)]
theorem mu_opp {t : List (List Int)} {x y : Nat} (hx : x < t.length) (hy : y < t.length) : mu (opp t) x y = mu t y x := by
  unfold mu; rw [ix_opp hx, ix_oRow hy]
theorem mult_Opposite_ok {t : List (List Int)} {K : List (List Int) → Prop} (h : K (if VT t = true then opp t else [])) : mult_Opposite t K := by
  unfold mult_Opposite
  refine mult_valid_ok ?_
  split
  · rename_i hv
    rw [if_pos hv] at h
    have T := SH.tb (VT.sh hv)
    have n4 := T.n4
    refine fun _ => ⟨by omega, by omega, ?_⟩
    refine LoopWP.fold t.length (fun k (o : List (List Int)) => o.length = t.length ∧ ∀ j : Nat, j < k → ix o j = oRow t j) ⟨by simp, fun j hj => absurd hj (Nat.not_lt_zero _)⟩ ?_
    rintro k o X hk ⟨hl, hI⟩ hX
    show mult_Opposite_L1 t K _ k o
    unfold mult_Opposite_L1
    simp only [List.length_replicate]
    split
    · have hkl : k < t.length := by omega
      refine ⟨by omega, by omega, by omega, by omega, ?_⟩
      refine LoopWP.fold t.length (fun m (o : List (List Int)) => o.length = t.length ∧ (∀ j : Nat, j < k → ix o j = oRow t j) ∧ (ix o (k : Int)).length = t.length ∧ ∀ y : Nat, y < m → ix (ix o (k : Int)) y = ix (ix t (y : Int)) (k : Int)) ⟨by simpa using hl, fun j hj => ?_, ?_, fun q hq => absurd hq (Nat.not_lt_zero _)⟩ ?_
      · rw [ix_st _ (by omega) (by omega) (by omega), if_neg (by omega)]; exact hI j hj
      · rw [ix_st _ (by omega) (by omega) (by omega), if_pos rfl]; simp
      · rintro m o2 X2 hm ⟨hl2, hJ, hlen, hq⟩ hX2
        show mult_Opposite_L2 t k _ K _ m o2
        unfold mult_Opposite_L2
        split
        · have hml : m < t.length := by omega
          have hr := T.row m (by omega) (by omega)
          refine ⟨by omega, by omega, by omega, by omega, by omega, by omega, by omega, by omega, hX2 _ hml ⟨by simpa using hl2, fun j hj => ?_, ?_, fun q hqm => ?_⟩⟩
          · rw [ix_st _ (by omega) (by omega) (by omega), if_neg (by omega)]; exact hJ j hj
          · rw [ix_st _ (by omega) (by omega) (by omega), if_pos rfl]; simpa using hlen
          · rw [ix_st (xs := o2) _ (by omega) (by omega) (by omega), if_pos rfl, ix_st _ (by omega) (by omega) (by omega)]
            split
            · rename_i he
              have : q = m := by omega
              subst this; rfl
            · exact hq q (by omega)
        · have : m = t.length := by omega
          subst this
          refine ⟨⟨by omega, by omega⟩, hX _ (by omega) ⟨hl2, fun j hj => ?_⟩⟩
          by_cases hjk : j = k
          · subst hjk
            exact list_ix (by simp [hlen]) fun q hql => by rw [hq q (by omega), ix_oRow (by omega)]
          · exact hJ j (by omega)
    · have : o = opp t := list_ix (by simp [hl]) fun j hj => by rw [hI j (by omega), ix_opp (by omega)]
      subst this; exact h
  · rename_i hv
    rw [if_neg hv] at h; exact h
theorem ref03_Copy_ok {a : List (List Int)} (ha : a.length ≤ 1000) (hr : ∀ j : Nat, j < a.length → (ix a j).length ≤ 1000) {K : List (List Int) → Prop} (h : K a) : ref03_Copy a K := by
  unfold ref03_Copy
  refine fun _ => LoopWP.fold a.length (fun k (o : List (List Int)) => o = a.take k) (by simp) ?_
  rintro k o X hk rfl hX
  show ref03_Copy_L1 a K _ k _
  unfold ref03_Copy_L1
  split
  · have hkl : k < a.length := by omega
    have := hr k hkl
    refine ⟨by omega, by omega, by simp; omega, by simp; omega, hX _ hkl ?_⟩
    rw [take_ix hkl]; rfl
  · have : k = a.length := by omega
    subst this
    rw [List.take_length]; exact h
theorem Tb.copy {t : List (List Int)} (T : Tb t t.length) : t.length ≤ 1000 ∧ ∀ j : Nat, j < t.length → (ix t j).length ≤ 1000 := ⟨by have := T.n4; omega, fun j hj => by have := T.row j (by omega) (by omega); have := T.n4; omega⟩
theorem ref14_Opposite_ok {t : List (List Int)} (ht : SH t = true) {K : List (List Int) → Prop} (h : K (opp t)) : ref14_Opposite t K := by
  unfold ref14_Opposite
  have T := SH.tb ht
  refine ref03_Copy_ok T.copy.1 T.copy.2 ?_
  refine fun _ => LoopWP.fold t.length (fun k (o : List (List Int)) => o.length = t.length ∧ (∀ j : Nat, j < k → ix o j = oRow t j) ∧ ∀ j : Nat, j < t.length → (ix o j).length = t.length) ⟨rfl, fun j hj => absurd hj (Nat.not_lt_zero _), fun j hj => T.row j (by omega) (by omega)⟩ ?_
  rintro k o X hk ⟨hl, hI, hrow⟩ hX
  show ref14_Opposite_L1 t K _ k o
  unfold ref14_Opposite_L1
  split
  · have hkl : k < t.length := by omega
    refine LoopWP.fold t.length (fun m (o : List (List Int)) => o.length = t.length ∧ (∀ j : Nat, j < k → ix o j = oRow t j) ∧ (∀ j : Nat, j < t.length → (ix o j).length = t.length) ∧ ∀ y : Nat, y < m → ix (ix o (k : Int)) y = ix (ix t (y : Int)) (k : Int)) ⟨hl, hI, hrow, fun q hq => absurd hq (Nat.not_lt_zero _)⟩ ?_
    rintro m o2 X2 hm ⟨hl2, hJ, hrow2, hq⟩ hX2
    show ref14_Opposite_L2 t k _ K _ m o2
    unfold ref14_Opposite_L2
    have hlen := hrow2 k hkl
    split
    · have hml : m < t.length := by omega
      have hr := T.row m (by omega) (by omega)
      refine ⟨by omega, by omega, by omega, by omega, by omega, by omega, by omega, by omega, hX2 _ hml ⟨by simpa using hl2, fun j hj => ?_, fun j hj => ?_, fun q hqm => ?_⟩⟩
      · rw [ix_st _ (by omega) (by omega) (by omega), if_neg (by omega)]; exact hJ j hj
      · rw [ix_st _ (by omega) (by omega) (by omega)]
        split
        · simpa using hlen
        · exact hrow2 j hj
      · rw [ix_st (xs := o2) _ (by omega) (by omega) (by omega), if_pos rfl, ix_st _ (by omega) (by omega) (by omega)]
        split
        · rename_i he
          have : q = m := by omega
          subst this; rfl
        · exact hq q (by omega)
    · have : m = t.length := by omega
      subst this
      refine hX _ (by omega) ⟨hl2, fun j hj => ?_, hrow2⟩
      by_cases hjk : j = k
      · subst hjk
        exact list_ix (by simp [hlen]) fun q hql => by rw [hq q (by omega), ix_oRow (by omega)]
      · exact hJ j (by omega)
  · have : o = opp t := list_ix (by simp [hl]) fun j hj => by rw [hI j (by omega), ix_opp (by omega)]
    subst this; exact h

/-! ### A new identity -/
def aRows (t : List (List Int)) (k : Nat) : List (List Int) := (List.range k).map fun (x : Nat) => ix t (x : Int) ++ [(x : Int)]
def adj (t : List (List Int)) : List (List Int) := aRows t t.length ++ [iota t.length ++ [(t.length : Int)]]
theorem aRows_succ {t : List (List Int)} (k : Nat) : aRows t (k + 1) = aRows t k ++ [ix t (k : Int) ++ [(k : Int)]] := by simp [aRows, List.range_succ]
@[simp] theorem aRows_len {t : List (List Int)} (k : Nat) : (aRows t k).length = k := by simp [aRows]
@[simp] theorem adj_len {t : List (List Int)} : (adj t).length = t.length + 1 := by simp [adj]
theorem mult_Adjoin_ok {t : List (List Int)} {K : List (List Int) → Prop} (h : K (if VT t = true ∧ t.length < 400 then adj t else [])) : mult_Adjoin t K := by
  unfold mult_Adjoin
  refine fun _ => ?_
  split
  · rw [if_neg (by omega)] at h; exact h
  · refine mult_valid_ok ?_
    split
    · rename_i hv
      rw [if_pos ⟨hv, by omega⟩] at h
      have T := SH.tb (VT.sh hv)
      have n4 := T.n4
      refine ⟨⟨by omega, by omega⟩, by omega, by omega, LoopWP.fold t.length (fun k (a : List (List Int)) => a = aRows t k) rfl ?_⟩
      rintro k a X hk rfl hX
      show mult_Adjoin_L1 t K _ k _
      unfold mult_Adjoin_L1
      split
      · have hkl : k < t.length := by omega
        have hr := T.row k (by omega) (by omega)
        refine ⟨by omega, by omega, slices_Clone_int_ok (by omega) ⟨by simp; omega, by simp; omega, hX _ hkl (aRows_succ k).symm⟩⟩
      · have : k = t.length := by omega
        subst this
        exact mult_elements_ok n4 ⟨by simp; omega, by simp; omega, h⟩
    · rename_i hv
      rw [if_neg (fun hh => hv hh.1)] at h; exact h
theorem ref14_Adjoin_ok {t : List (List Int)} (ht : SH t = true) {K : List (List Int) → Prop} (h : K (adj t)) : ref14_Adjoin t K := by
  unfold ref14_Adjoin
  have T := SH.tb ht
  have n4 := T.n4
  refine ref03_Copy_ok T.copy.1 T.copy.2 ?_
  refine fun _ => LoopWP.to t.length (fun s : Nat × List Int × List (List Int) => s.1) (fun s => s.1 ≤ t.length ∧ s.2.1 = iota s.1 ∧ s.2.2.length = t.length ∧ ∀ j : Nat, j < t.length → ix s.2.2 j = if j < s.1 then ix t (j : Int) ++ [(j : Int)] else ix t (j : Int)) ⟨Nat.zero_le _, rfl, rfl, fun j hj => by simp⟩ (fun s hs => hs.1) ?_
  rintro ⟨k, last, o⟩ X ⟨hk, hlast, hl, hI⟩ hX
  simp only at hk hlast hl hI
  subst hlast
  show ref14_Adjoin_L1 t K _ k _ o
  unfold ref14_Adjoin_L1
  split
  · have hkl : k < t.length := by omega
    have hr := T.row k (by omega) (by omega)
    have e1 := hI k hkl
    rw [if_neg (by omega)] at e1
    refine ⟨by omega, by omega, by rw [e1]; simp; omega, by omega, by omega, by simp; omega, hX (k + 1, _, _) ⟨by simp only; omega, (iota_succ k).symm, by simpa using hl, fun j hj => ?_⟩ rfl⟩
    simp only
    rw [ix_st _ (by omega) (by omega) (by omega)]
    split
    · rename_i he
      have : j = k := by omega
      subst this
      rw [if_pos (by omega), e1]
    · rename_i he
      rw [hI j hj]
      by_cases hjk : j < k
      · rw [if_pos hjk, if_pos (by omega)]
      · rw [if_neg hjk, if_neg (by omega)]
  · have : k = t.length := by omega
    subst this
    have ho : o = aRows t t.length := list_ix (by simp [hl]) fun j hj => by
      rw [hI j (by omega), if_pos (by omega)]
      have hj' : j < (aRows t t.length).length := by simp; omega
      rw [ix_lt hj']
      simp [aRows]
    refine ⟨by simp; omega, by simp; omega, ?_⟩
    rw [ho]; exact h
theorem law14_MultMakes_ok (t u : List (List Int)) : law14_MultMakes t u (fun b => b = true) := by
  unfold law14_MultMakes
  have keyO : ∀ R : Prop, R → VT t = true → ref14_Opposite t fun r62 => (ref03_SameRows (opp t) r62 fun r68 => (if r68 = true then R else (false = true))) := fun R hR hv =>
    ref14_Opposite_ok (VT.sh hv) (ref03_SameRows_ok (by rw [if_pos (by simp)]; exact hR))
  have keyA : ∀ R : Prop, R → VT t = true → ref14_Adjoin t fun r62 => (ref03_SameRows (adj t) r62 fun r68 => (if r68 = true then R else (false = true))) := fun R hR hv =>
    ref14_Adjoin_ok (VT.sh hv) (ref03_SameRows_ok (by rw [if_pos (by simp)]; exact hR))
  have keyD : VT t = true → t.length ≤ 12 → u.length ≤ 12 ∨ ¬ VT u = true → ref14_Valid u fun r86 => (if r86 = true then (ref14_Direct t u fun r99 => (ref03_SameRows (if VT t = true ∧ VT u = true ∧ t.length * u.length ≤ 400 then dTab t u else []) r99 fun r105 => (if r105 = true then (law14_awake  fun r111 => (r111 = true)) else (false = true)))) else ((if VT t = true ∧ VT u = true ∧ t.length * u.length ≤ 400 then dTab t u else []).length ≤ mx → (if ((if VT t = true ∧ VT u = true ∧ t.length * u.length ≤ 400 then dTab t u else []).length : Int) = (0 : Int) then (law14_awake  fun r93 => (r93 = true)) else (false = true)))) := by
    intro hv h1 h2
    refine ref14_Valid_ok ?_
    by_cases hu : VT u = true
    · rw [if_pos hu]
      have h3 : u.length ≤ 12 := h2.resolve_right (fun hh => hh hu)
      have h4 : t.length * u.length ≤ 12 * 12 := Nat.mul_le_mul h1 h3
      rw [if_pos ⟨hv, hu, by omega⟩]
      refine ref14_Direct_ok (SH.tb (VT.sh hv)) (SH.tb (VT.sh hu)) (ref03_SameRows_ok ?_)
      rw [if_pos (by simp)]
      exact law14_awake_ok rfl
    · rw [if_neg hu]
      have e0 : (if VT t = true ∧ VT u = true ∧ t.length * u.length ≤ 400 then dTab t u else []) = [] := if_neg fun hh => hu hh.2.1
      rw [e0]
      intro _
      rw [if_pos (by simp)]
      exact law14_awake_ok rfl
  refine ref14_Shape_ok ?_
  split
  · rename_i hs
    refine fun _ => ?_
    split
    · exact law14_awake_ok rfl
    · refine ref14_Shape_ok ?_
      split
      · refine fun _ => ?_
        split
        · exact law14_awake_ok rfl
        · refine mult_Opposite_ok (mult_Adjoin_ok (mult_Direct_ok (ref14_Valid_ok ?_)))
          by_cases hv : VT t = true
          · rw [if_pos hv, if_pos hv, if_pos ⟨hv, by omega⟩]
            exact keyO _ (keyA _ (keyD hv (by omega) (.inl (by omega))) hv) hv
          · have hf : VT t = false := by simpa using hv
            simp only [hf, Bool.false_eq_true, if_false, false_and]
            intro _
            rw [if_pos (by simp)]
            intro _
            rw [if_pos (by simp)]
            intro _
            rw [if_pos (by simp)]
            exact law14_awake_ok rfl
      · rename_i hsu
        have hu : ¬ VT u = true := fun hu => hsu (shC0.2 (VT.sh hu))
        refine mult_Opposite_ok (mult_Adjoin_ok (mult_Direct_ok (ref14_Valid_ok ?_)))
        by_cases hv : VT t = true
        · rw [if_pos hv, if_pos hv, if_pos ⟨hv, by omega⟩]
          exact keyO _ (keyA _ (keyD hv (by omega) (.inr hu)) hv) hv
        · have hf : VT t = false := by simpa using hv
          simp only [hf, Bool.false_eq_true, if_false, false_and]
          intro _
          rw [if_pos (by simp)]
          intro _
          rw [if_pos (by simp)]
          intro _
          rw [if_pos (by simp)]
          exact law14_awake_ok rfl
  · rename_i hs
    have hv : ¬ VT t = true := fun hv => hs (shC0.2 (VT.sh hv))
    have hf : VT t = false := by simpa using hv
    refine ref14_Shape_ok ?_
    split
    · refine fun _ => ?_
      split
      · exact law14_awake_ok rfl
      · refine mult_Opposite_ok (mult_Adjoin_ok (mult_Direct_ok (ref14_Valid_ok ?_)))
        simp only [hf, Bool.false_eq_true, if_false, false_and]
        intro _
        rw [if_pos (by simp)]
        intro _
        rw [if_pos (by simp)]
        intro _
        rw [if_pos (by simp)]
        exact law14_awake_ok rfl
    · refine mult_Opposite_ok (mult_Adjoin_ok (mult_Direct_ok (ref14_Valid_ok ?_)))
      simp only [hf, Bool.false_eq_true, if_false, false_and]
      intro _
      rw [if_pos (by simp)]
      intro _
      rw [if_pos (by simp)]
      intro _
      rw [if_pos (by simp)]
      exact law14_awake_ok rfl
end Sg
