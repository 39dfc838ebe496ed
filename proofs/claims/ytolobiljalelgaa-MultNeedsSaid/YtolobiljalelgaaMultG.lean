/- Tables: what elements generate, as the reference finds it; Light's test; exponents. Plain laws. -/
import Derived.Test.YtolobiljalelgaaMultF
namespace Sg
open Go

theorem ref03_Set_ok {l : List Int} {n : Int} (h0 : 0 ≤ n) (h1 : n ≤ 1099511627776) {K : List Bool → Prop} (h : ∀ b : List Bool, b.length = n.toNat → (∀ j : Nat, j < n.toNat → (ix b j = true ↔ (j : Int) ∈ l)) → K b) : ref03_Set l n K := by
  unfold ref03_Set
  refine ⟨h0, h1, fun _ => LoopWP.fold l.length (fun k (b : List Bool) => b.length = n.toNat ∧ ∀ j : Nat, j < n.toNat → (ix b j = true ↔ ∃ i : Nat, i < k ∧ ix l i = j)) ⟨by simp, fun j hj => ?_⟩ ?_⟩
  · rw [ix_replicate _ _ hj]; exact ⟨(fun hh => by cases hh), fun ⟨i, hi, _⟩ => absurd hi (Nat.not_lt_zero _)⟩
  · rintro k b X hk ⟨hl, hI⟩ hX
    show ref03_Set_L1 l n K _ k b
    unfold ref03_Set_L1
    have same : k < l.length → (¬ 0 ≤ ix l (k : Int) ∨ ¬ ix l (k : Int) < n) → ∀ j : Nat, j < n.toNat → (ix b j = true ↔ ∃ i : Nat, i < k + 1 ∧ ix l i = j) := fun hkl ho j hj => by
      rw [hI j hj]
      constructor
      · rintro ⟨i, hi, he⟩; exact ⟨i, by omega, he⟩
      · rintro ⟨i, hi, he⟩
        refine ⟨i, ?_, he⟩
        by_cases hik : i = k
        · subst hik; rcases ho with ho | ho <;> omega
        · omega
    split
    · refine ⟨by omega, by omega, ?_⟩
      split
      · split
        · refine ⟨by omega, by omega, hX _ (by omega) ⟨by simpa using hl, fun j hj => ?_⟩⟩
          rw [ix_st _ (by omega) (by omega) (by omega)]
          split
          · rename_i he; exact ⟨fun _ => ⟨k, by omega, he.symm⟩, fun _ => rfl⟩
          · rename_i he
            rw [hI j hj]
            constructor
            · rintro ⟨i, hi, he⟩; exact ⟨i, by omega, he⟩
            · rintro ⟨i, hi, he2⟩
              refine ⟨i, ?_, he2⟩
              by_cases hik : i = k
              · subst hik; exact absurd he2.symm he
              · omega
        · rename_i ho; exact hX _ (by omega) ⟨hl, same (by omega) (.inr ho)⟩
      · rename_i ho; exact hX _ (by omega) ⟨hl, same (by omega) (.inl ho)⟩
    · refine h b hl fun j hj => ?_
      rw [hI j hj, mem_ix]
      constructor
      · rintro ⟨i, hi, he⟩; exact ⟨i, by omega, he⟩
      · rintro ⟨i, hi, he⟩; exact ⟨i, by omega, he⟩
theorem iota_succ (k : Nat) : iota (k + 1) = iota k ++ [(k : Int)] := by simp [iota, List.range_succ]
theorem ref03_Members_ok {b : List Bool} (hb : b.length ≤ 1099511627776) {K : List Int → Prop} (h : K ((iota b.length).filter fun x => ix b x)) : ref03_Members b K := by
  unfold ref03_Members
  refine fun _ => LoopWP.fold b.length (fun k (l : List Int) => l = (iota k).filter fun x => ix b x) rfl ?_
  rintro k l X hk rfl hX
  show ref03_Members_L1 b K _ k _
  unfold ref03_Members_L1
  split
  · refine ⟨by omega, by omega, ?_⟩
    split
    · rename_i hm
      refine ⟨?_, hX _ (by omega) ?_⟩
      · have := List.length_filter_le (fun x => ix b x) (iota k); simp at this ⊢; omega
      · rw [iota_succ, List.filter_append]; simp [hm]
    · rename_i hm
      refine hX _ (by omega) ?_
      rw [iota_succ, List.filter_append]; simp [hm]
  · have : k = b.length := by omega
    subst this; exact h
theorem iota_asc (n : Nat) : (iota n).Pairwise (· < ·) := by
  unfold iota
  rw [List.pairwise_map]
  exact List.pairwise_lt_range.imp fun h => by omega
/-- An ascending list of what has a property. -/
def AscOf (p : Int → Prop) (l : List Int) : Prop := l.Pairwise (· < ·) ∧ ∀ x, x ∈ l ↔ p x
theorem asc_filter (n : Nat) (p : Int → Bool) : AscOf (fun x => (0 ≤ x ∧ x < (n : Int)) ∧ p x = true) ((iota n).filter p) :=
  ⟨(iota_asc n).filter _, fun x => by rw [List.mem_filter, mem_iota]⟩
theorem AscOf.uniq {p : Int → Prop} {l l' : List Int} (h : AscOf p l) (k : AscOf p l') : l = l' := by
  have key : ∀ l l' : List Int, l.Pairwise (· < ·) → l'.Pairwise (· < ·) → (∀ x, x ∈ l ↔ x ∈ l') → l = l' := by
    intro l
    induction l with
    | nil =>
      intro l' _ _ hm
      cases l' with
      | nil => rfl
      | cons b l' => exact absurd ((hm b).2 (by simp)) (by simp)
    | cons a l ih =>
      intro l' h1 h2 hm
      cases l' with
      | nil => exact absurd ((hm a).1 (by simp)) (by simp)
      | cons b l' =>
        rw [List.pairwise_cons] at h1 h2
        have hab : a = b := by
          have ha := (hm a).1 (by simp)
          have hb := (hm b).2 (by simp)
          rcases List.mem_cons.1 ha with e | ha
          · exact e
          · rcases List.mem_cons.1 hb with e | hb
            · exact e.symm
            · have := h1.1 b hb; have := h2.1 a ha; omega
        subst hab
        rw [ih l' h1.2 h2.2 fun x => ?_]
        constructor
        · intro hx
          rcases List.mem_cons.1 ((hm x).1 (by simp [hx])) with e | hx'
          · have := h1.1 x hx; omega
          · exact hx'
        · intro hx
          rcases List.mem_cons.1 ((hm x).2 (by simp [hx])) with e | hx'
          · have := h2.1 x hx; omega
          · exact hx'
  exact key l l' h.1 k.1 fun x => (h.2 x).trans (k.2 x).symm
theorem AscOf.nodup {p : Int → Prop} {l : List Int} (h : AscOf p l) : l.Nodup := h.1.imp fun hlt => Int.ne_of_lt hlt
theorem AscOf.all {p : Int → Prop} {l : List Int} {n : Nat} (h : AscOf p l) (hp : ∀ x, p x → 0 ≤ x ∧ x < (n : Int)) (hl : l.length = n) {x : Int} (hx : 0 ≤ x ∧ x < (n : Int)) : p x := by
  rw [← h.2]
  refine Classical.byContradiction fun hn => ?_
  have h1 : (x :: l).Nodup := List.nodup_cons.2 ⟨hn, h.nodup⟩
  have := nodup_le h1 (n := n) fun y hy => by
    rcases List.mem_cons.1 hy with e | hy
    · subst e; exact hx
    · exact hp y ((h.2 y).1 hy)
  simp at this; omega
theorem AscOf.full {p : Int → Prop} {l : List Int} {n : Nat} (h : AscOf p l) (hp : ∀ x, p x ↔ 0 ≤ x ∧ x < (n : Int)) : l.length = n := by
  have e : l = iota n := h.uniq ⟨iota_asc n, fun x => by rw [mem_iota, hp]⟩
  rw [e]; simp

/-- How many are not marked. -/
def unm (b : List Bool) : Nat := b.count false
theorem unm_st {b : List Bool} {x : Int} (h0 : 0 ≤ x) (h1 : x < b.length) (hx : ¬ ix b x = true) : unm (st b x true) + 1 = unm b := by
  obtain ⟨m, rfl⟩ := Int.eq_ofNat_of_zero_le h0
  have hm : m < b.length := by omega
  have hb : b[m] = false := by
    have : ix b (m : Int) = b[m] := ix_lt hm
    rw [this] at hx; simpa using hx
  unfold unm st
  simp only [Int.ofNat_eq_natCast, Int.toNat_natCast]
  rw [List.count_set hm]
  have hpos : 0 < b.count false := List.count_pos_iff.2 (by rw [← hb]; exact List.getElem_mem hm)
  simp [hb]
  omega
/-- What is marked lies in the closure, and the generators are marked. -/
structure GI (t : List (List Int)) (G : List Int) (b : List Bool) : Prop where
  len : b.length = t.length
  gen : ∀ x ∈ G, ix b x = true
  clo : ∀ x : Int, 0 ≤ x → x < t.length → ix b x = true → Clo t G x
theorem GI.st {t : List (List Int)} {G : List Int} {b : List Bool} (h : GI t G b) (hG : ∀ x ∈ G, 0 ≤ x ∧ x < (t.length : Int)) {x : Int} (h0 : 0 ≤ x) (h1 : x < t.length) (hc : Clo t G x) : GI t G (st b x true) := by
  have hl := h.len
  refine ⟨by simpa using hl, fun y hy => ?_, fun y y0 y1 hy => ?_⟩
  · rw [ix_st _ h0 (by omega) (hG y hy).1]
    split
    · rfl
    · exact h.gen y hy
  · rw [ix_st _ h0 (by omega) y0] at hy
    split at hy
    · rename_i e; subst e; exact hc
    · exact h.clo y y0 y1 hy
theorem ref14_Generated_ok {t : List (List Int)} {G : List Int} (ht : SH t = true) (hG : inB t.length G = true) {K : List Int → Prop} (h : ∀ l, AscOf (Clo t G) l → K l) : ref14_Generated t G K := by
  unfold ref14_Generated
  have T := SH.tb ht
  have n4 := T.n4
  have hg := inB_mem.1 hG
  refine fun _ => ref03_Set_ok (by omega) (by omega) fun b0 hl0 hb0 => ?_
  simp only [Int.toNat_natCast] at hl0 hb0
  have hI0 : GI t G b0 := ⟨hl0, fun x hx => by
      obtain ⟨m, rfl⟩ := Int.eq_ofNat_of_zero_le (hg x hx).1
      exact (hb0 m (by have := (hg _ hx).2; omega)).2 hx, fun x x0 x1 hx => by
      obtain ⟨m, rfl⟩ := Int.eq_ofNat_of_zero_le x0
      exact .gen ((hb0 m (by omega)).1 hx)⟩
  refine LoopWP.intro (fun s : Bool × List Bool => GI t G s.2 ∧ (s.1 = false → ∀ x y : Nat, x < t.length → y < t.length → ix s.2 x = true → ix s.2 y = true → ix s.2 (mu t x y) = true))
    (fun s => 2 * unm s.2 + s.1.toNat) ⟨hI0, fun hh => by cases hh⟩ ?_
  rintro ⟨c, b⟩ X ⟨hI, hcl⟩ hX
  simp only at hI hcl
  show ref14_Generated_L1 t K _ c b
  unfold ref14_Generated_L1
  split
  · rename_i hc
    subst hc
    -- one round
    refine LoopWP.to t.length (fun s : Bool × Nat × List Bool => s.2.1) (fun s => s.2.1 ≤ t.length ∧ GI t G s.2.2 ∧ (s.1 = true → unm s.2.2 < unm b) ∧ (s.1 = false → s.2.2 = b ∧ ∀ x y : Nat, x < s.2.1 → y < t.length → ix b x = true → ix b y = true → ix b (mu t x y) = true))
      ⟨Nat.zero_le _, hI, (fun hh => by cases hh), fun _ => ⟨rfl, fun x y hx => absurd hx (Nat.not_lt_zero _)⟩⟩ (fun s hs => hs.1) ?_
    rintro ⟨c2, k, b2⟩ X2 ⟨hk, hI2, hc2, hd2⟩ hX2
    simp only at hk hI2 hc2 hd2
    show ref14_Generated_L2 t _ K _ c2 k b2
    unfold ref14_Generated_L2
    split
    · have hkl : k < t.length := by omega
      refine LoopWP.to t.length (fun s : Bool × Nat × List Bool => s.2.1) (fun s => s.2.1 ≤ t.length ∧ GI t G s.2.2 ∧ (s.1 = true → unm s.2.2 < unm b) ∧ (s.1 = false → s.2.2 = b ∧ (∀ x y : Nat, x < k → y < t.length → ix b x = true → ix b y = true → ix b (mu t x y) = true) ∧ ∀ y : Nat, y < s.2.1 → ix b (k : Int) = true → ix b y = true → ix b (mu t k y) = true))
        ⟨Nat.zero_le _, hI2, hc2, fun hh => ⟨(hd2 hh).1, (hd2 hh).2, fun y hy => absurd hy (Nat.not_lt_zero _)⟩⟩ (fun s hs => hs.1) ?_
      rintro ⟨c3, j, b3⟩ X3 ⟨hj, hI3, hc3, hd3⟩ hX3
      simp only at hj hI3 hc3 hd3
      show ref14_Generated_L3 t k _ K _ c3 j b3
      unfold ref14_Generated_L3
      have hl3 := hI3.len
      split
      · have hjl : j < t.length := by omega
        refine ⟨by omega, by omega, ?_⟩
        split
        · rename_i hbk
          refine ⟨by omega, by omega, ?_⟩
          split
          · rename_i hbj
            have r1 := T.row k (by omega) (by omega)
            have m1 := T.mu (x := k) (y := j) (by omega) (by omega) (by omega) (by omega)
            have hm := Clo.mul (hI3.clo k (by omega) (by omega) hbk) (hI3.clo j (by omega) (by omega) hbj)
            unfold mu at m1
            refine ⟨by omega, by omega, by omega, by omega, m1.1, by omega, ?_⟩
            split
            · rename_i hin
              refine hX3 (c3, j + 1, b3) ⟨by simp only; omega, hI3, hc3, fun hh => ⟨(hd3 hh).1, (hd3 hh).2.1, fun y hy h1 h2 => ?_⟩⟩ rfl
              simp only at hy
              by_cases hyj : y = j
              · subst hyj; rw [← (hd3 hh).1]; exact hin
              · exact (hd3 hh).2.2 y (by omega) h1 h2
            · rename_i hout
              refine ⟨by omega, by omega, by omega, by omega, m1.1, by omega, hX3 (true, j + 1, _) ⟨by simp only; omega, hI3.st hg m1.1 m1.2 hm, fun _ => ?_, fun hh => by cases hh⟩ rfl⟩
              have e1 := unm_st (b := b3) m1.1 (by omega) hout
              simp only
              cases c3 with
              | true => have := hc3 rfl; omega
              | false => have := (hd3 rfl).1; subst this; omega
          · rename_i hbj
            refine hX3 (c3, j + 1, b3) ⟨by simp only; omega, hI3, hc3, fun hh => ⟨(hd3 hh).1, (hd3 hh).2.1, fun y hy h1 h2 => ?_⟩⟩ rfl
            simp only at hy
            by_cases hyj : y = j
            · subst hyj; rw [(hd3 hh).1] at hbj; exact absurd h2 hbj
            · exact (hd3 hh).2.2 y (by omega) h1 h2
        · rename_i hbk
          refine hX3 (c3, j + 1, b3) ⟨by simp only; omega, hI3, hc3, fun hh => ⟨(hd3 hh).1, (hd3 hh).2.1, fun y hy h1 h2 => ?_⟩⟩ rfl
          rw [(hd3 hh).1] at hbk; exact absurd h1 hbk
      · refine hX2 (c3, k + 1, b3) ⟨by simp only; omega, hI3, hc3, fun hh => ⟨(hd3 hh).1, fun x y hx hy h1 h2 => ?_⟩⟩ rfl
        simp only at hx
        by_cases hxk : x = k
        · subst hxk; exact (hd3 hh).2.2 y (by omega) h1 h2
        · exact (hd3 hh).2.1 x y (by omega) hy h1 h2
    · refine hX (c2, b2) ⟨hI2, fun hh x y hx hy h1 h2 => ?_⟩ ?_
      · have := (hd2 hh).1
        simp only at h1 h2 ⊢
        rw [this] at h1 h2 ⊢
        exact (hd2 hh).2 x y (by omega) hy h1 h2
      · simp only
        cases c2 with
        | true => have := hc2 rfl; simp; omega
        | false => have := (hd2 rfl).1; rw [this]; simp
  · rename_i hc
    have hc' : c = false := by simpa using hc
    have hl := hI.len
    refine ref03_Members_ok (by omega) (h _ ?_)
    have hA := asc_filter b.length fun x => ix b x
    refine ⟨hA.1, fun x => (hA.2 x).trans ⟨fun hx => hI.clo x hx.1.1 (by omega) hx.2, fun hx => ?_⟩⟩
    have hin := hx.in_ T hg
    refine ⟨by omega, ?_⟩
    have key : ∀ y, Clo t G y → ix b y = true := fun y hy => by
      induction hy with
      | gen hy => exact hI.gen _ hy
      | mul h1 h2 i1 i2 =>
        have q1 := h1.in_ T hg
        have q2 := h2.in_ T hg
        rename_i y1 y2
        obtain ⟨a, rfl⟩ := Int.eq_ofNat_of_zero_le q1.1
        obtain ⟨c, rfl⟩ := Int.eq_ofNat_of_zero_le q2.1
        exact hcl hc' a c (by omega) (by omega) i1 i2
    exact key x hx
theorem law14_MultLight_ok (t : List (List Int)) (gens : List Int) : law14_MultLight t gens (fun b => b = true) := by
  unfold law14_MultLight
  refine fun _ => ?_
  split
  · exact law14_awake_ok rfl
  · refine mult_Light_ok (ref14_Light_ok ?_)
    by_cases hL : (SH t && inB t.length gens && gens.all (lgB t)) = true
    · simp only [hL, if_true]
      refine ref14_Shape_ok ?_
      split
      · rename_i h0
        have ht := shC0.1 h0
        refine ref14_In_ok ?_
        split
        · rename_i hi
          refine ref14_Generated_ok ht hi fun l hl => ?_
          split
          · rename_i hln
            have hc : ∀ x : Nat, x < t.length → Clo t gens x := fun x hx => hl.all (fun y hy => hy.in_ (SH.tb ht) (inB_mem.1 hi)) (by omega) (by omega)
            have hli := light (SH.tb ht) hi hc
            simp only [Bool.and_eq_true] at hL
            rw [hL.2] at hli
            refine mult_Validate_ok ?_
            rw [if_pos (by rw [vaC, if_pos ht, if_pos (of_decide_eq_true hli.symm)])]
            exact law14_awake_ok rfl
          · exact law14_awake_ok rfl
        · exact law14_awake_ok rfl
      · exact law14_awake_ok rfl
    · simp only [hL, Bool.false_eq_true, if_false]
      refine ref14_Shape_ok ?_
      split
      · rename_i h0
        have ht := shC0.1 h0
        refine ref14_In_ok ?_
        split
        · rename_i hi
          refine ref14_Generated_ok ht hi fun l hl => ?_
          split
          · rename_i hln
            have hc : ∀ x : Nat, x < t.length → Clo t gens x := fun x hx => hl.all (fun y hy => hy.in_ (SH.tb ht) (inB_mem.1 hi)) (by omega) (by omega)
            have hli := light (SH.tb ht) hi hc
            have hna : ¬ AS t := fun ha => hL (by rw [ht, hi, hli]; simp [ha])
            refine mult_Validate_ok ?_
            rw [if_neg (by rw [vaC, if_pos ht, if_neg hna]; decide)]
            exact law14_awake_ok rfl
          · exact law14_awake_ok rfl
        · exact law14_awake_ok rfl
      · exact law14_awake_ok rfl
end Sg
