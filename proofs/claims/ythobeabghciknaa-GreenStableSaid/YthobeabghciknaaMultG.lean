/- Tables: what elements generate, as the reference finds it; Light's test; exponents. Plain laws. -/
import Derived.Test.YthobeabghciknaaMultF
namespace Sg
open Go
set_option linter.unusedVariables false
set_option linter.unusedSimpArgs false

theorem iota_succ (k : Nat) : iota (k + 1) = iota k ++ [(k : Int)] := by simp [iota, List.range_succ]
theorem ref03_Members_ok {b : List Bool} (hb : b.length ≤ 1099511627776) {K : List Int → Prop} (h : K ((iota b.length).filter fun x => ix b x)) : ref03_Members b K := by
  unfold ref03_Members
  refine fun _ => LoopWP.fold b.length (fun k (l : List Int) => l = (iota k).filter fun x => ix b x) rfl ?_
  rintro k l X hk rfl hX
  show ref03_Members_L1 b K _ k _
  unfold ref03_Members_L1
  split
  · refine ⟨by omega, by omega, ?_⟩
    split
    · rename_i hm
      refine ⟨?_, hX _ (by omega) ?_⟩
      · have := List.length_filter_le (fun x => ix b x) (iota k); simp at this ⊢; omega
      · rw [iota_succ, List.filter_append]; simp [hm]
    · rename_i hm
      refine hX _ (by omega) ?_
      rw [iota_succ, List.filter_append]; simp [hm]
  · have : k = b.length := by omega
    subst this; exact h
theorem iota_asc (n : Nat) : (iota n).Pairwise (· < ·) := by
  unfold iota
  rw [List.pairwise_map]
  exact List.pairwise_lt_range.imp fun h => by omega
/-- An ascending list of what has a property. -/
def AscOf (p : Int → Prop) (l : List Int) : Prop := l.Pairwise (· < ·) ∧ ∀ x, x ∈ l ↔ p x
theorem asc_filter (n : Nat) (p : Int → Bool) : AscOf (fun x => (0 ≤ x ∧ x < (n : Int)) ∧ p x = true) ((iota n).filter p) :=
  ⟨(iota_asc n).filter _, fun x => by rw [List.mem_filter, mem_iota]⟩
theorem AscOf.uniq {p : Int → Prop} {l l' : List Int} (h : AscOf p l) (k : AscOf p l') : l = l' := by
  have key : ∀ l l' : List Int, l.Pairwise (· < ·) → l'.Pairwise (· < ·) → (∀ x, x ∈ l ↔ x ∈ l') → l = l' := by
    intro l
    induction l with
    | nil =>
      intro l' _ _ hm
      cases l' with
      | nil => rfl
      | cons b l' => exact absurd ((hm b).2 (by simp)) (by simp)
    | cons a l ih =>
      intro l' h1 h2 hm
      cases l' with
      | nil => exact absurd ((hm a).1 (by simp)) (by simp)
      | cons b l' =>
        rw [List.pairwise_cons] at h1 h2
        have hab : a = b := by
          have ha := (hm a).1 (by simp)
          have hb := (hm b).2 (by simp)
          rcases List.mem_cons.1 ha with e | ha
          · exact e
          · rcases List.mem_cons.1 hb with e | hb
            · exact e.symm
            · have := h1.1 b hb; have := h2.1 a ha; omega
        subst hab
        rw [ih l' h1.2 h2.2 fun x => ?_]
        constructor
        · intro hx
          rcases List.mem_cons.1 ((hm x).1 (by simp [hx])) with e | hx'
          · have := h1.1 x hx; omega
          · exact hx'
        · intro hx
          rcases List.mem_cons.1 ((hm x).2 (by simp [hx])) with e | hx'
          · have := h2.1 x hx; omega
          · exact hx'
  exact key l l' h.1 k.1 fun x => (h.2 x).trans (k.2 x).symm
theorem AscOf.nodup {p : Int → Prop} {l : List Int} (h : AscOf p l) : l.Nodup := h.1.imp fun hlt => Int.ne_of_lt hlt
theorem AscOf.all {p : Int → Prop} {l : List Int} {n : Nat} (h : AscOf p l) (hp : ∀ x, p x → 0 ≤ x ∧ x < (n : Int)) (hl : l.length = n) {x : Int} (hx : 0 ≤ x ∧ x < (n : Int)) : p x := by
  rw [← h.2]
  refine Classical.byContradiction fun hn => ?_
  have h1 : (x :: l).Nodup := List.nodup_cons.2 ⟨hn, h.nodup⟩
  have := nodup_le h1 (n := n) fun y hy => by
    rcases List.mem_cons.1 hy with e | hy
    · subst e; exact hx
    · exact hp y ((h.2 y).1 hy)
  simp at this; omega
theorem AscOf.full {p : Int → Prop} {l : List Int} {n : Nat} (h : AscOf p l) (hp : ∀ x, p x ↔ 0 ≤ x ∧ x < (n : Int)) : l.length = n := by
  have e : l = iota n := h.uniq ⟨iota_asc n, fun x => by rw [mem_iota, hp]⟩
  rw [e]; simp

/-- How many are not marked. -/
def unm (b : List Bool) : Nat := b.count false
theorem unm_st {b : List Bool} {x : Int} (h0 : 0 ≤ x) (h1 : x < b.length) (hx : ¬ ix b x = true) : unm (st b x true) + 1 = unm b := by
  obtain ⟨m, rfl⟩ := Int.eq_ofNat_of_zero_le h0
  have hm : m < b.length := by omega
  have hb : b[m] = false := by
    have : ix b (m : Int) = b[m] := ix_lt hm
    rw [this] at hx; simpa using hx
  unfold unm st
  simp only [Int.ofNat_eq_natCast, Int.toNat_natCast]
  rw [List.count_set hm]
  have hpos : 0 < b.count false := List.count_pos_iff.2 (by rw [← hb]; exact List.getElem_mem hm)
  simp [hb]
  omega
/-- What is marked lies in the closure, and the generators are marked. -/
structure GI (t : List (List Int)) (G : List Int) (b : List Bool) : Prop where
  len : b.length = t.length
  gen : ∀ x ∈ G, ix b x = true
  clo : ∀ x : Int, 0 ≤ x → x < t.length → ix b x = true → Clo t G x
theorem GI.st {t : List (List Int)} {G : List Int} {b : List Bool} (h : GI t G b) (hG : ∀ x ∈ G, 0 ≤ x ∧ x < (t.length : Int)) {x : Int} (h0 : 0 ≤ x) (h1 : x < t.length) (hc : Clo t G x) : GI t G (st b x true) := by
  have hl := h.len
  refine ⟨by simpa using hl, fun y hy => ?_, fun y y0 y1 hy => ?_⟩
  · rw [ix_st _ h0 (by omega) (hG y hy).1]
    split
    · rfl
    · exact h.gen y hy
  · rw [ix_st _ h0 (by omega) y0] at hy
    split at hy
    · rename_i e; subst e; exact hc
    · exact h.clo y y0 y1 hy
end Sg
