/- Sets as lists: marks, members, ascending lists. Plain laws. -/
import Derived.Test.YtjegmdkaiddokaaTransG
namespace Sg
open Go

theorem mem_iota {n : Nat} {x : Int} : x ∈ iota n ↔ 0 ≤ x ∧ x < n := by
  simp only [iota, List.mem_map, List.mem_range]
  constructor
  · rintro ⟨a, h, rfl⟩; omega
  · rintro ⟨h0, h1⟩; exact ⟨x.toNat, by omega, by omega⟩
theorem ref03_Set_ok {l : List Int} {n : Int} (h0 : 0 ≤ n) (h1 : n ≤ 1099511627776) {K : List Bool → Prop} (h : ∀ b : List Bool, b.length = n.toNat → (∀ j : Nat, j < n.toNat → (ix b j = true ↔ (j : Int) ∈ l)) → K b) : ref03_Set l n K := by
  unfold ref03_Set
  refine ⟨h0, h1, fun _ => LoopWP.fold l.length (fun k (b : List Bool) => b.length = n.toNat ∧ ∀ j : Nat, j < n.toNat → (ix b j = true ↔ ∃ i : Nat, i < k ∧ ix l i = j)) ⟨by simp, fun j hj => ?_⟩ ?_⟩
  · rw [ix_replicate _ _ hj]; exact ⟨(fun hh => by cases hh), fun ⟨i, hi, _⟩ => absurd hi (Nat.not_lt_zero _)⟩
  · rintro k b X hk ⟨hl, hI⟩ hX
    show ref03_Set_L1 l n K _ k b
    unfold ref03_Set_L1
    have same : k < l.length → (¬ 0 ≤ ix l (k : Int) ∨ ¬ ix l (k : Int) < n) → ∀ j : Nat, j < n.toNat → (ix b j = true ↔ ∃ i : Nat, i < k + 1 ∧ ix l i = j) := fun hkl ho j hj => by
      rw [hI j hj]
      constructor
      · rintro ⟨i, hi, he⟩; exact ⟨i, by omega, he⟩
      · rintro ⟨i, hi, he⟩
        refine ⟨i, ?_, he⟩
        by_cases hik : i = k
        · subst hik; rcases ho with ho | ho <;> omega
        · omega
    split
    · refine ⟨by omega, by omega, ?_⟩
      split
      · split
        · refine ⟨by omega, by omega, hX _ (by omega) ⟨by simpa using hl, fun j hj => ?_⟩⟩
          rw [ix_st _ (by omega) (by omega) (by omega)]
          split
          · rename_i he; exact ⟨fun _ => ⟨k, by omega, he.symm⟩, fun _ => rfl⟩
          · rename_i he
            rw [hI j hj]
            constructor
            · rintro ⟨i, hi, he⟩; exact ⟨i, by omega, he⟩
            · rintro ⟨i, hi, he2⟩
              refine ⟨i, ?_, he2⟩
              by_cases hik : i = k
              · subst hik; exact absurd he2.symm he
              · omega
        · rename_i ho; exact hX _ (by omega) ⟨hl, same (by omega) (.inr ho)⟩
      · rename_i ho; exact hX _ (by omega) ⟨hl, same (by omega) (.inl ho)⟩
    · refine h b hl fun j hj => ?_
      rw [hI j hj, mem_ix]
      constructor
      · rintro ⟨i, hi, he⟩; exact ⟨i, by omega, he⟩
      · rintro ⟨i, hi, he⟩; exact ⟨i, by omega, he⟩
theorem iota_succ (k : Nat) : iota (k + 1) = iota k ++ [(k : Int)] := by simp [iota, List.range_succ]
theorem ref03_Members_ok {b : List Bool} (hb : b.length ≤ 1099511627776) {K : List Int → Prop} (h : K ((iota b.length).filter fun x => ix b x)) : ref03_Members b K := by
  unfold ref03_Members
  refine fun _ => LoopWP.fold b.length (fun k (l : List Int) => l = (iota k).filter fun x => ix b x) rfl ?_
  rintro k l X hk rfl hX
  show ref03_Members_L1 b K _ k _
  unfold ref03_Members_L1
  split
  · refine ⟨by omega, by omega, ?_⟩
    split
    · rename_i hm
      refine ⟨?_, hX _ (by omega) ?_⟩
      · have := List.length_filter_le (fun x => ix b x) (iota k); simp at this ⊢; omega
      · rw [iota_succ, List.filter_append]; simp [hm]
    · rename_i hm
      refine hX _ (by omega) ?_
      rw [iota_succ, List.filter_append]; simp [hm]
  · have : k = b.length := by omega
    subst this; exact h
theorem iota_asc (n : Nat) : (iota n).Pairwise (· < ·) := by
  unfold iota
  rw [List.pairwise_map]
  exact List.pairwise_lt_range.imp fun h => by omega
/-- An ascending list of what has a property. -/
def AscOf (p : Int → Prop) (l : List Int) : Prop := l.Pairwise (· < ·) ∧ ∀ x, x ∈ l ↔ p x
theorem asc_filter (n : Nat) (p : Int → Bool) : AscOf (fun x => (0 ≤ x ∧ x < (n : Int)) ∧ p x = true) ((iota n).filter p) :=
  ⟨(iota_asc n).filter _, fun x => by rw [List.mem_filter, mem_iota]⟩
theorem AscOf.uniq {p : Int → Prop} {l l' : List Int} (h : AscOf p l) (k : AscOf p l') : l = l' := by
  have key : ∀ l l' : List Int, l.Pairwise (· < ·) → l'.Pairwise (· < ·) → (∀ x, x ∈ l ↔ x ∈ l') → l = l' := by
    intro l
    induction l with
    | nil =>
      intro l' _ _ hm
      cases l' with
      | nil => rfl
      | cons b l' => exact absurd ((hm b).2 (by simp)) (by simp)
    | cons a l ih =>
      intro l' h1 h2 hm
      cases l' with
      | nil => exact absurd ((hm a).1 (by simp)) (by simp)
      | cons b l' =>
        rw [List.pairwise_cons] at h1 h2
        have hab : a = b := by
          have ha := (hm a).1 (by simp)
          have hb := (hm b).2 (by simp)
          rcases List.mem_cons.1 ha with e | ha
          · exact e
          · rcases List.mem_cons.1 hb with e | hb
            · exact e.symm
            · have := h1.1 b hb; have := h2.1 a ha; omega
        subst hab
        rw [ih l' h1.2 h2.2 fun x => ?_]
        constructor
        · intro hx
          rcases List.mem_cons.1 ((hm x).1 (by simp [hx])) with e | hx'
          · have := h1.1 x hx; omega
          · exact hx'
        · intro hx
          rcases List.mem_cons.1 ((hm x).2 (by simp [hx])) with e | hx'
          · have := h2.1 x hx; omega
          · exact hx'
  exact key l l' h.1 k.1 fun x => (h.2 x).trans (k.2 x).symm
theorem AscOf.nodup {p : Int → Prop} {l : List Int} (h : AscOf p l) : l.Nodup := h.1.imp fun hlt => Int.ne_of_lt hlt
theorem msort_le (l : List Int) {i j : Nat} (hij : i < j) (hj : j < l.length) : ix (msort l) (i : Int) ≤ ix (msort l) (j : Int) := by
  have h1 : (msort l).Pairwise fun x y => decide (x ≤ y) = true := List.pairwise_mergeSort (fun a b c h1 h2 => by simp at h1 h2 ⊢; omega) (fun a b => by simp; omega) l
  have hl : (msort l).length = l.length := List.length_mergeSort l
  rw [ix_lt (by omega), ix_lt (by omega)]
  have := List.pairwise_iff_getElem.1 h1 i j (by omega) (by omega) hij
  simpa using this
theorem mem_msort {l : List Int} {x : Int} : x ∈ msort l ↔ x ∈ l := List.mem_mergeSort
theorem asc_of_ix {p : Int → Prop} {l : List Int} (h : ∀ i j : Nat, i < j → j < l.length → ix l (i : Int) < ix l (j : Int)) (hm : ∀ x, (∃ i : Nat, i < l.length ∧ ix l (i : Int) = x) ↔ p x) : AscOf p l :=
  ⟨List.pairwise_iff_getElem.2 fun i j hi hj hij => by
    have := h i j hij hj
    rw [ix_lt hi, ix_lt hj] at this
    exact this, fun x => mem_ix.trans (hm x)⟩
theorem ix_take {α : Type} [Inhabited α] {l : List α} {c i : Nat} (hi : i < c) (hc : c ≤ l.length) : ix (l.take c) (i : Int) = ix l (i : Int) := by
  rw [ix_lt (by simp; omega), ix_lt (by omega), List.getElem_take]
/-- Distinct things that all lie in a list are no more than it holds. -/
theorem nodup_sub {l : List Int} : ∀ {l' : List Int}, l.Nodup → (∀ x ∈ l, x ∈ l') → l.length ≤ l'.length := by
  induction l with
  | nil => intro l' _ _; simp
  | cons a l ih =>
    intro l' hn hs
    rw [List.nodup_cons] at hn
    have ha := hs a (by simp)
    have h1 := ih (l' := l'.erase a) hn.2 fun x hx => (List.mem_erase_of_ne (fun e => hn.1 (by rw [← e]; exact hx))).2 (hs x (by simp [hx]))
    rw [List.length_erase_of_mem ha] at h1
    have := List.length_pos_of_mem ha
    simp only [List.length_cons]
    omega
/-- The image. -/
def imL (f : List Int) : List Int := (iota f.length).filter fun x => decide (x ∈ f)
theorem imL_asc {f : List Int} (hf : VF f = true) : AscOf (fun x => x ∈ f) (imL f) := by
  have h := asc_filter f.length fun x => decide (x ∈ f)
  refine ⟨h.1, fun x => (h.2 x).trans ?_⟩
  simp only [decide_eq_true_eq]
  refine ⟨fun hh => hh.2, fun hh => ⟨?_, hh⟩⟩
  obtain ⟨j, hj, rfl⟩ := mem_ix.1 hh
  exact (VF_iff.1 hf).2.2 j hj
/-- Compact's second loop: c stand, m are seen. -/
structure CI (s0 : List Int) (c m : Nat) (s : List Int) : Prop where
  len : s.length = s0.length
  c1 : 1 ≤ c
  cm : c + 1 ≤ m
  mn : m ≤ s0.length
  tl : ∀ j : Nat, m ≤ j + 1 → j < s0.length → ix s (j : Int) = ix s0 (j : Int)
  asc : ∀ i j : Nat, i < j → j < c → ix s (i : Int) < ix s (j : Int)
  last : ix s ((c - 1 : Nat) : Int) = ix s0 ((m - 1 : Nat) : Int)
  mem : ∀ x, (∃ i : Nat, i < c ∧ ix s (i : Int) = x) ↔ ∃ i : Nat, i < m ∧ ix s0 (i : Int) = x
theorem CI.same {s0 s : List Int} {c m : Nat} (h : CI s0 c m s) (hm : m < s0.length) (he : ix s0 (m : Int) = ix s0 ((m - 1 : Nat) : Int)) : CI s0 c (m + 1) s := by
  have hc1 := h.c1
  have hcm := h.cm
  refine ⟨h.len, h.c1, by omega, hm, fun j hj hj2 => h.tl j (by omega) hj2, h.asc, ?_, fun x => (h.mem x).trans ?_⟩
  · rw [h.last, ← he]; rfl
  · constructor
    · rintro ⟨i, hi, e⟩; exact ⟨i, by omega, e⟩
    · rintro ⟨i, hi, e⟩
      by_cases him : i = m
      · subst him; exact ⟨i - 1, by omega, by rw [← he]; exact e⟩
      · exact ⟨i, by omega, e⟩
theorem CI.next {s0 s : List Int} {c m : Nat} (h : CI s0 c m s) (hm : m < s0.length) (hlt : ix s0 ((m - 1 : Nat) : Int) < ix s0 (m : Int)) : CI s0 (c + 1) (m + 1) (st s (c : Int) (ix s0 (m : Int))) := by
  have hc1 := h.c1
  have hcm := h.cm
  have hl := h.len
  have old : ∀ j : Nat, j ≠ c → ix (st s (c : Int) (ix s0 (m : Int))) (j : Int) = ix s (j : Int) := fun j hj => by
    rw [ix_st _ (by omega) (by omega) (by omega), if_neg (by omega)]
  have new : ix (st s (c : Int) (ix s0 (m : Int))) (c : Int) = ix s0 (m : Int) := by
    rw [ix_st _ (by omega) (by omega) (by omega), if_pos rfl]
  refine ⟨by simpa using hl, by omega, by omega, hm, fun j hj hj2 => ?_, fun i j hij hj => ?_, ?_, fun x => ?_⟩
  · rw [old j (by omega)]; exact h.tl j (by omega) hj2
  · by_cases hjc : j = c
    · subst hjc
      rw [new, old i (by omega)]
      have h2 := h.last
      by_cases hic : i = j - 1
      · subst hic; omega
      · have := h.asc i (j - 1) (by omega) (by omega); omega
    · rw [old i (by omega), old j hjc]; exact h.asc i j hij (by omega)
  · exact new
  · constructor
    · rintro ⟨i, hi, e⟩
      by_cases hic : i = c
      · subst hic; rw [new] at e; exact ⟨m, by omega, e⟩
      · rw [old i hic] at e
        obtain ⟨q, hq, e2⟩ := (h.mem x).1 ⟨i, by omega, e⟩
        exact ⟨q, by omega, e2⟩
    · rintro ⟨q, hq, e⟩
      by_cases hqm : q = m
      · subst hqm; exact ⟨c, by omega, new.trans e⟩
      · obtain ⟨i, hi, e2⟩ := (h.mem x).2 ⟨q, by omega, e⟩
        exact ⟨i, by omega, by rw [old i (by omega)]; exact e2⟩
theorem trans_Image_ok {f : List Int} {K : List Int → Prop} (h : K (if VF f = true then imL f else [])) : trans_Image f K := by
  unfold trans_Image
  refine trans_Valid_ok ?_
  split
  · rename_i hf
    rw [if_pos hf] at h
    have hA : ∀ l, AscOf (fun x => x ∈ f) l → K l := fun l hl => by rw [hl.uniq (imL_asc hf)]; exact h
    have hn := VF.len hf
    unfold slices_Clone_int
    intro z hz
    split
    · rename_i hzt
      have := hz hzt
      rw [this] at hn
      simp at hn
    refine ⟨by simp; omega, ?_⟩
    simp only [List.nil_append]
    have hl : (msort f).length = f.length := List.length_mergeSort f
    have hmem : ∀ x, (∃ i : Nat, i < (msort f).length ∧ ix (msort f) (i : Int) = x) ↔ x ∈ f := fun x => mem_ix.symm.trans mem_msort
    refine ⟨by omega, ?_⟩
    split
    · exact hA _ (asc_of_ix (fun i j hij hj => by omega) hmem)
    refine LoopWP.to f.length (fun k : Nat => k) (fun k => 1 ≤ k ∧ k ≤ f.length ∧ ∀ j : Nat, 1 ≤ j → j < k → ix (msort f) ((j - 1 : Nat) : Int) < ix (msort f) (j : Int)) ⟨by omega, by omega, fun j h1 h2 => by omega⟩ (fun k hk => hk.2.1) ?_
    rintro k X ⟨hk1, hk, hI⟩ hX
    unfold trans_Image_L1
    have up : ∀ i j : Nat, i < j → j < k → ix (msort f) (i : Int) < ix (msort f) (j : Int) := by
      intro i j hij
      induction j with
      | zero => omega
      | succ j ih =>
        intro hj
        have := hI (j + 1) (by omega) hj
        rw [show j + 1 - 1 = j from rfl] at this
        by_cases hij2 : i = j
        · subst hij2; exact this
        · have := ih (by omega) (by omega); omega
    have ek : (k : Int) - 1 = ((k - 1 : Nat) : Int) := by omega
    rw [hl]
    split
    · have hkl : k < f.length := by omega
      rw [ek]
      refine ⟨by omega, by omega, ⟨by omega, by omega⟩, by omega, by omega, ?_⟩
      have hle := msort_le f (i := k - 1) (j := k) (by omega) hkl
      split
      · rename_i he
        refine ⟨by omega, by omega, ?_⟩
        have hC0 : CI (msort f) k (k + 1) (msort f) := ⟨rfl, hk1, Nat.le_refl _, by omega, fun _ _ _ => rfl, up, by rw [← he]; rfl, fun x => by
          constructor
          · rintro ⟨i, hi, e⟩; exact ⟨i, by omega, e⟩
          · rintro ⟨i, hi, e⟩
            by_cases hik : i = k
            · subst hik; exact ⟨i - 1, by omega, by rw [← he]; exact e⟩
            · exact ⟨i, by omega, e⟩⟩
        refine LoopWP.to f.length (fun s : Nat × Nat × List Int => s.2.1) (fun s => 1 ≤ s.2.1 ∧ CI (msort f) s.1 (k + s.2.1) s.2.2) ⟨Nat.le_refl 1, hC0⟩ (fun s hs => by have := hs.2.mn; omega) ?_
        rintro ⟨c, m, s⟩ X2 ⟨hm1, hC⟩ hX2
        simp only at hm1 hC
        show trans_Image_L2 k K _ c m s
        unfold trans_Image_L2
        have hsl := hC.len
        have hc1 := hC.c1
        have hcm := hC.cm
        have hmn := hC.mn
        rw [show ((k : Int)).toNat = k from rfl]
        split
        · rename_i hml
          have hml' : k + m < (msort f).length := by omega
          have e1 := hC.tl (k + m) (by omega) hml'
          have e2 := hC.tl (k + m - 1) (by omega) (by omega)
          have ei : (k : Int) + (m : Int) = ((k + m : Nat) : Int) := by omega
          have ej : (k : Int) + ((m : Int) - 1) = ((k + m - 1 : Nat) : Int) := by omega
          rw [ei, ej, e1, e2]
          refine ⟨by omega, by omega, ⟨by omega, by omega⟩, by omega, by omega, ?_⟩
          split
          · rename_i hq
            exact ⟨⟨by omega, by omega⟩, hX2 (c, m + 1, s) ⟨by simp only; omega, hC.same hml' hq⟩ rfl⟩
          · rename_i hq
            have := msort_le f (i := k + m - 1) (j := k + m) (by omega) (by omega)
            exact ⟨by omega, by omega, by omega, by omega, ⟨by omega, by omega⟩, ⟨by omega, by omega⟩, hX2 (c + 1, m + 1, _) ⟨by simp only; omega, hC.next hml' (by omega)⟩ rfl⟩
        · rename_i hml
          have hme : k + m = (msort f).length := by omega
          refine ⟨by omega, by omega, by omega, by simp; omega, ?_⟩
          rw [show ((c : Int)).toNat = c from rfl, List.take_append_of_le_length (by simp; omega), List.take_take, Nat.min_self]
          refine hA _ (asc_of_ix (fun i j hij hj => ?_) fun x => ?_)
          · rw [List.length_take, Nat.min_eq_left (by omega)] at hj
            rw [ix_take (by omega) (by omega), ix_take hj (by omega)]
            exact hC.asc i j hij hj
          · rw [List.length_take, Nat.min_eq_left (by omega), ← hmem, ← hme]
            refine Iff.trans ?_ (hC.mem x)
            constructor
            · rintro ⟨i, hi, e⟩; rw [ix_take hi (by omega)] at e; exact ⟨i, hi, e⟩
            · rintro ⟨i, hi, e⟩; exact ⟨i, hi, by rw [ix_take hi (by omega)]; exact e⟩
      · rename_i he
        refine hX (k + 1) ⟨by omega, by omega, fun j hj1 hj2 => ?_⟩ rfl
        by_cases hjk : j = k
        · subst hjk; omega
        · exact hI j hj1 (by omega)
    · have hke : k = f.length := by omega
      exact hA _ (asc_of_ix (fun i j hij hj => up i j hij (by omega)) hmem)
  · rename_i hf
    rw [if_neg hf] at h; exact h
theorem trans_Rank_ok {f : List Int} {K : Int → Prop} (h : K (if VF f = true then ((imL f).length : Int) else 0)) : trans_Rank f K := by
  unfold trans_Rank
  refine trans_Image_ok fun _ => ?_
  by_cases hf : VF f = true
  · rw [if_pos hf] at h ⊢; exact h
  · rw [if_neg hf] at h ⊢; exact h
theorem ref11_Image_ok {f : List Int} (hf : VF f = true) {K : List Int → Prop} (h : K (imL f)) : ref11_Image f K := by
  unfold ref11_Image
  have hn := VF.len hf
  refine fun _ => ref03_Set_ok (by omega) (by omega) fun b hl hb => ref03_Members_ok (by omega) ?_
  rw [Int.toNat_natCast] at hl hb
  have : (iota b.length).filter (fun x => ix b x) = imL f := by
    unfold imL
    rw [hl]
    refine List.filter_congr fun z hz => ?_
    obtain ⟨z0, z1⟩ := mem_iota.1 hz
    obtain ⟨q, rfl⟩ := Int.eq_ofNat_of_zero_le z0
    have := hb q (by omega)
    rw [Bool.eq_iff_iff, decide_eq_true_eq]
    exact this
  rw [this]; exact h
end Sg
