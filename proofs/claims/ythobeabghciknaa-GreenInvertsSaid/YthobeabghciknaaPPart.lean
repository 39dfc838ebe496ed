/- Partitions in canonical form. Plain laws. -/
import Derived.Test.YthobeabghciknaaFns
import Derived.Test.YthobeabghciknaaGen
namespace Sg
open Go
set_option linter.unusedVariables false
set_option linter.unusedSimpArgs false

/-- Every smaller number came before. -/
def CanP (p : List Int) : Prop := ∀ k : Nat, k < p.length → 0 ≤ ix p (k : Int) ∧ ∀ v : Int, 0 ≤ v → v < ix p (k : Int) → ∃ j : Nat, j < k ∧ ix p (j : Int) = v
/-- p is the partition of the places of l into equal elements. -/
structure IsCan {κ : Type} [Inhabited κ] (p : List Int) (l : List κ) : Prop where
  len : p.length = l.length
  can : CanP p
  ker : ∀ i j : Nat, i < l.length → j < l.length → (ix p (i : Int) = ix p (j : Int) ↔ ix l (i : Int) = ix l (j : Int))
theorem IsCan.uniq {κ κ' : Type} [Inhabited κ] [Inhabited κ'] {p q : List Int} {l : List κ} {m : List κ'} (hp : IsCan p l) (hq : IsCan q m) (hl : l.length = m.length)
    (hk : ∀ i j : Nat, i < l.length → j < l.length → (ix l (i : Int) = ix l (j : Int) ↔ ix m (i : Int) = ix m (j : Int))) : p = q := by
  refine list_ix (by rw [hp.len, hq.len, hl]) fun k hkl => ?_
  have hkl' : k < l.length := by rw [← hp.len]; exact hkl
  clear hkl
  induction k using Nat.strongRecOn with
  | _ k ih =>
    have ihk : ∀ j : Nat, j < k → ix p (j : Int) = ix q (j : Int) := fun j hj => ih j hj (by omega)
    obtain ⟨p0, p1⟩ := hp.can k (by rw [hp.len]; exact hkl')
    obtain ⟨q0, q1⟩ := hq.can k (by rw [hq.len]; omega)
    have step : ∀ j : Nat, j < k → (ix p (j : Int) = ix p (k : Int) ↔ ix q (j : Int) = ix q (k : Int)) := fun j hj => by
      rw [hp.ker j k (by omega) hkl', hk j k (by omega) hkl', hq.ker j k (by omega) (by omega)]
    rcases Int.lt_trichotomy (ix p (k : Int)) (ix q (k : Int)) with h | h | h
    · obtain ⟨j, hj, he⟩ := q1 _ p0 h
      have h1 := (step j hj).1 (by rw [ihk j hj]; exact he)
      omega
    · exact h
    · obtain ⟨j, hj, he⟩ := p1 _ q0 h
      have h1 := (step j hj).2 (by rw [← ihk j hj]; exact he)
      omega
theorem IsCan.self {p : List Int} (h : CanP p) : IsCan p p := ⟨rfl, h, fun _ _ _ _ => Iff.rfl⟩
/-- What the loop keeps: the numbers given so far. -/
structure CN {κ : Type} [Inhabited κ] [DecidableEq κ] (l : List κ) (k : Nat) (m : List (κ × Int)) (p : List Int) : Prop where
  len : p.length = l.length
  has : ∀ x, mhas m x = true ↔ ∃ j : Nat, j < k ∧ ix l (j : Int) = x
  at_ : ∀ j : Nat, j < k → ix p (j : Int) = mgt m (ix l (j : Int))
  lo : ∀ j : Nat, j < k → 0 ≤ ix p (j : Int) ∧ ix p (j : Int) < (m.length : Int)
  inj : ∀ i j : Nat, i < k → j < k → ix p (i : Int) = ix p (j : Int) → ix l (i : Int) = ix l (j : Int)
  all : ∀ v : Int, 0 ≤ v → v < (m.length : Int) → ∃ j : Nat, j < k ∧ ix p (j : Int) = v
  can : ∀ q : Nat, q < k → ∀ v : Int, 0 ≤ v → v < ix p (q : Int) → ∃ j : Nat, j < q ∧ ix p (j : Int) = v
  le : m.length ≤ k
section
variable {κ : Type} [Inhabited κ] [DecidableEq κ] {l : List κ}
theorem CN.start : CN l 0 ([] : List (κ × Int)) (List.replicate l.length 0) := ⟨by simp, fun x => by simp [mhas], fun j hj => by omega, fun j hj => by omega, fun i j hi => by omega, fun v h0 h1 => by simp at h1; omega, fun q hq => by omega, by simp⟩
theorem CN.fin {m : List (κ × Int)} {p : List Int} (h : CN l l.length m p) : IsCan p l :=
  ⟨h.len, fun k hk => ⟨(h.lo k (by rw [← h.len]; exact hk)).1, h.can k (by rw [← h.len]; exact hk)⟩, fun i j hi hj => ⟨h.inj i j hi hj, fun he => by rw [h.at_ i hi, h.at_ j hj, he]⟩⟩
theorem CN.old {k : Nat} {m : List (κ × Int)} {p : List Int} (h : CN l k m p) (hk : k < l.length) (hx : mhas m (ix l (k : Int)) = true) : CN l (k + 1) m (st p (k : Int) (mgt m (ix l (k : Int)))) := by
  obtain ⟨i, hi, he⟩ := (h.has _).1 hx
  have e : ∀ j : Nat, ix (st p (k : Int) (mgt m (ix l (k : Int)))) (j : Int) = if j = k then mgt m (ix l (k : Int)) else ix p (j : Int) := fun j => by
    rw [ix_st _ (by omega) (by rw [h.len]; omega) (by omega)]
    by_cases hj : j = k
    · rw [if_pos (by omega), if_pos hj]
    · rw [if_neg (by omega), if_neg hj]
  have hi' : mgt m (ix l (k : Int)) = ix p (i : Int) := by rw [h.at_ i hi, he]
  refine ⟨by simpa using h.len, fun x => ?_, fun j hj => ?_, fun j hj => ?_, fun a b ha hb hab => ?_, fun v h0 h1 => ?_, fun q hq v h0 h1 => ?_, by have := h.le; omega⟩
  · rw [h.has]
    constructor
    · rintro ⟨j, hj, hh⟩; exact ⟨j, by omega, hh⟩
    · rintro ⟨j, hj, hh⟩
      by_cases hjk : j = k
      · subst hjk; exact ⟨i, hi, he.trans hh⟩
      · exact ⟨j, by omega, hh⟩
  · rw [e]
    by_cases hjk : j = k
    · rw [if_pos hjk, hjk]
    · rw [if_neg hjk]; exact h.at_ j (by omega)
  · rw [e]
    by_cases hjk : j = k
    · rw [if_pos hjk, hi']; exact h.lo i hi
    · rw [if_neg hjk]; exact h.lo j (by omega)
  · rw [e, e] at hab
    by_cases hak : a = k
    · by_cases hbk : b = k
      · rw [hak, hbk]
      · rw [if_pos hak, if_neg hbk, hi'] at hab
        rw [hak, ← he]; exact h.inj i b hi (by omega) hab
    · by_cases hbk : b = k
      · rw [if_neg hak, if_pos hbk, hi'] at hab
        rw [hbk, ← he]; exact h.inj a i (by omega) hi hab
      · rw [if_neg hak, if_neg hbk] at hab
        exact h.inj a b (by omega) (by omega) hab
  · obtain ⟨j, hj, hv⟩ := h.all v h0 h1
    exact ⟨j, by omega, by rw [e, if_neg (by omega)]; exact hv⟩
  · rw [e] at h1
    by_cases hqk : q = k
    · rw [if_pos hqk, hi'] at h1
      obtain ⟨j, hj, hv⟩ := h.can i hi v h0 h1
      exact ⟨j, by omega, by rw [e, if_neg (by omega)]; exact hv⟩
    · rw [if_neg hqk] at h1
      obtain ⟨j, hj, hv⟩ := h.can q (by omega) v h0 h1
      exact ⟨j, by omega, by rw [e, if_neg (by omega)]; exact hv⟩
theorem CN.new {k : Nat} {m : List (κ × Int)} {p : List Int} (h : CN l k m p) (hk : k < l.length) (hx : ¬ mhas m (ix l (k : Int)) = true) : CN l (k + 1) (mput m (ix l (k : Int)) (m.length : Int)) (st p (k : Int) (m.length : Int)) := by
  have e : ∀ j : Nat, ix (st p (k : Int) (m.length : Int)) (j : Int) = if j = k then (m.length : Int) else ix p (j : Int) := fun j => by
    rw [ix_st _ (by omega) (by rw [h.len]; omega) (by omega)]
    by_cases hj : j = k
    · rw [if_pos (by omega), if_pos hj]
    · rw [if_neg (by omega), if_neg hj]
  have hn : ∀ j : Nat, j < k → ¬ ix l (j : Int) = ix l (k : Int) := fun j hj hh => hx ((h.has _).2 ⟨j, hj, hh⟩)
  have hlen : (mput m (ix l (k : Int)) (m.length : Int)).length = m.length + 1 := by rw [mput_len, if_neg hx]
  refine ⟨by simpa using h.len, fun x => ?_, fun j hj => ?_, fun j hj => ?_, fun a b ha hb hab => ?_, fun v h0 h1 => ?_, fun q hq v h0 h1 => ?_, by have := h.le; omega⟩
  · rw [mhas_put, Bool.or_eq_true, decide_eq_true_eq, h.has]
    constructor
    · rintro (rfl | ⟨j, hj, hh⟩)
      · exact ⟨k, by omega, rfl⟩
      · exact ⟨j, by omega, hh⟩
    · rintro ⟨j, hj, hh⟩
      by_cases hjk : j = k
      · subst hjk; exact .inl hh.symm
      · exact .inr ⟨j, by omega, hh⟩
  · rw [e, mgt_put]
    by_cases hjk : j = k
    · rw [if_pos hjk, hjk, if_pos rfl]
    · rw [if_neg hjk, if_neg (hn j (by omega))]; exact h.at_ j (by omega)
  · rw [e, hlen]
    by_cases hjk : j = k
    · rw [if_pos hjk]; omega
    · rw [if_neg hjk]; have := h.lo j (by omega); omega
  · rw [e, e] at hab
    by_cases hak : a = k
    · by_cases hbk : b = k
      · rw [hak, hbk]
      · rw [if_pos hak, if_neg hbk] at hab
        have := h.lo b (by omega); omega
    · by_cases hbk : b = k
      · rw [if_neg hak, if_pos hbk] at hab
        have := h.lo a (by omega); omega
      · rw [if_neg hak, if_neg hbk] at hab
        exact h.inj a b (by omega) (by omega) hab
  · rw [hlen] at h1
    by_cases hv : v = (m.length : Int)
    · exact ⟨k, by omega, by rw [e, if_pos rfl, hv]⟩
    · obtain ⟨j, hj, hv⟩ := h.all v h0 (by omega)
      exact ⟨j, by omega, by rw [e, if_neg (by omega)]; exact hv⟩
  · rw [e] at h1
    by_cases hqk : q = k
    · rw [if_pos hqk] at h1
      obtain ⟨j, hj, hv⟩ := h.all v h0 h1
      exact ⟨j, by omega, by rw [e, if_neg (by omega)]; exact hv⟩
    · rw [if_neg hqk] at h1
      obtain ⟨j, hj, hv⟩ := h.can q (by omega) v h0 h1
      exact ⟨j, by omega, by rw [e, if_neg (by omega)]; exact hv⟩
end
theorem partition_canonical_int_ok {l : List Int} (hl : l.length ≤ 4096) {K : List Int → Prop} (h : ∀ p, IsCan p l → K p) : partition_canonical_int l K := by
  unfold partition_canonical_int
  refine fun _ => ⟨by omega, by omega, LoopWP.fold l.length (fun k (s : List (Int × Int) × List Int) => CN l k s.1 s.2) CN.start ?_⟩
  rintro k ⟨m, p⟩ X hk hI hX
  show partition_canonical_int_L1 l K _ k m p
  unfold partition_canonical_int_L1
  have hlen : p.length = l.length := hI.len
  split
  · refine ⟨by omega, by omega, ?_⟩
    split
    · rename_i hx
      exact ⟨by omega, by omega, hX _ (by omega) (hI.old (by omega) hx)⟩
    · rename_i hx
      exact ⟨by omega, by omega, hX _ (by omega) (hI.new (by omega) hx)⟩
  · obtain rfl : k = l.length := by omega
    exact h p hI.fin
theorem partition_Canonical_ok {l : List Int} (hl : l.length ≤ 4096) {K : List Int → Prop} (h : ∀ p, IsCan p l → K p) : partition_Canonical l K := by
  unfold partition_Canonical
  intro _
  rw [if_neg (by omega)]
  exact partition_canonical_int_ok hl h
theorem ref03_Canonical_ok {l : List Int} (hl : l.length ≤ 4096) {K : List Int → Prop} (h : ∀ p, IsCan p l → K p) : ref03_Canonical l K := by
  unfold ref03_Canonical
  intro _
  rw [if_neg (by omega)]
  refine ⟨by omega, by omega, LoopWP.intro (fun s : Nat × Nat × List (Int × Int) × List Int => s.2.1 ≤ l.length ∧ s.1 = s.2.2.1.length ∧ CN l s.2.1 s.2.2.1 s.2.2.2) (fun s => l.length - s.2.1) ⟨by simp, rfl, CN.start⟩ ?_⟩
  rintro ⟨n, k, m, p⟩ X ⟨hk, hn, hI⟩ hX
  show ref03_Canonical_L1 l K _ n k m p
  simp only at hk hn hI
  subst hn
  unfold ref03_Canonical_L1
  have hlen := hI.len
  have hle := hI.le
  split
  · refine ⟨by omega, by omega, ?_⟩
    split
    · rename_i hx
      exact ⟨by omega, by omega, hX _ ⟨by simp only; omega, rfl, hI.old (by omega) hx⟩ (by simp only; omega)⟩
    · rename_i hx
      refine ⟨⟨by omega, by omega⟩, by omega, by omega, hX _ ⟨by simp only; omega, ?_, hI.new (by omega) hx⟩ (by simp only; omega)⟩
      simp only
      rw [mput_len, if_neg hx]
  · obtain rfl : k = l.length := by omega
    exact h p hI.fin
/-- As many classes as there are numbers. -/
def IsCnt (p : List Int) (c : Int) : Prop := 0 ≤ c ∧ ∀ v : Int, (0 ≤ v ∧ v < c) ↔ ∃ j : Nat, j < p.length ∧ ix p (j : Int) = v
theorem cnt_of {p : List Int} (hp : CanP p) {c : Int} (h0 : 0 ≤ c) (hlt : ∀ j : Nat, j < p.length → ix p (j : Int) + 1 ≤ c) (hat : c = 0 ∨ ∃ j : Nat, j < p.length ∧ ix p (j : Int) + 1 = c) : IsCnt p c := by
  refine ⟨h0, fun v => ⟨fun ⟨v0, v1⟩ => ?_, fun ⟨j, hj, he⟩ => ?_⟩⟩
  · rcases hat with rfl | ⟨j, hj, he⟩
    · omega
    · by_cases hv : v = ix p (j : Int)
      · exact ⟨j, hj, hv.symm⟩
      · obtain ⟨i, hi, hh⟩ := (hp j hj).2 v v0 (by omega)
        exact ⟨i, by omega, hh⟩
  · have := hp j hj; have := hlt j hj; omega
theorem IsCnt.uniq {p : List Int} {c d : Int} (h : IsCnt p c) (k : IsCnt p d) : c = d := by
  rcases Int.lt_trichotomy c d with hh | hh | hh
  · have := (h.2 c).2 ((k.2 c).1 ⟨h.1, hh⟩); omega
  · exact hh
  · have := (k.2 d).2 ((h.2 d).1 ⟨k.1, hh⟩); omega
theorem ref03_Count_ok {p : List Int} (hp : CanP p) (hl : p.length ≤ 4096) {K : Int → Prop} (h : ∀ c, IsCnt p c → K c) : ref03_Count p K := by
  unfold ref03_Count
  intro _
  have hle : ∀ k : Nat, k < p.length → ix p (k : Int) ≤ (k : Int) := by
    intro k
    induction k using Nat.strongRecOn with
    | _ k ih =>
      intro hk
      by_cases h0 : ix p (k : Int) ≤ 0
      · omega
      · obtain ⟨j, hj, he⟩ := (hp k hk).2 (ix p (k : Int) - 1) (by omega) (by omega)
        have := ih j hj (by omega); omega
  refine LoopWP.foldR p.length (fun k (c : Int) => 0 ≤ c ∧ (∀ j : Nat, j < k → ix p (j : Int) + 1 ≤ c) ∧ (c = 0 ∨ ∃ j : Nat, j < k ∧ ix p (j : Int) + 1 = c)) 0 (by omega) ⟨by omega, fun j hj => by omega, .inl rfl⟩ ?_
  rintro k c X hk ⟨c0, h1, h2⟩ hX
  show ref03_Count_L1 p K _ c k
  unfold ref03_Count_L1
  split
  · have := hle k (by omega)
    have := hp k (by omega)
    refine ⟨by omega, by omega, ⟨by omega, by omega⟩, ?_⟩
    split
    · refine hX _ (by omega) ⟨by omega, fun j hj => ?_, .inr ⟨k, by omega, rfl⟩⟩
      by_cases hjk : j = k
      · subst hjk; omega
      · have := h1 j (by omega); omega
    · refine hX _ (by omega) ⟨c0, fun j hj => ?_, h2.imp id fun ⟨j, hj, he⟩ => ⟨j, by omega, he⟩⟩
      by_cases hjk : j = k
      · subst hjk; omega
      · exact h1 j (by omega)
  · obtain rfl : k = p.length := by omega
    exact h c (cnt_of hp c0 h1 h2)
end Sg
