/- Cycles, index and period, idempotent powers: what the functions compute. -/
import Derived.Test.YtjegmdkaiddokaaTransD
namespace Sg
open Go

theorem noMin {f : List Int} (hf : VF f = true) {i : Int} {m : Nat} (h0 : 0 ≤ i) (h1 : i < f.length) (hlt : ∀ m', 1 ≤ m' → m' < m → i < itr f m' i) (h : itr f m i < i ∨ (i < itr f m i ∧ f.length ≤ m)) : ∀ k, ¬ isMin f i k := by
  intro k hk
  have hk1 := hk.1
  have hki := hk.2.1
  rcases Nat.lt_trichotomy k m with hkm | hkm | hkm
  · have := hlt k hk1 hkm; omega
  · subst hkm; omega
  · rcases Nat.eq_zero_or_pos m with hm | hm
    · subst hm
      have : itr f 0 i = i := rfl
      omega
    · have := hk.2.2 m hm hkm
      have := hk.le hf h0 h1
      omega
theorem trans_Cycles_ok {f : List Int} {K : List (List Int) → Prop} (h1 : VF f = true → ∀ l, CY f f.length l → K l) (h2 : ¬ VF f = true → K []) : trans_Cycles f K := by
  unfold trans_Cycles
  refine trans_Valid_ok ?_
  split
  · rename_i hf
    have hK := h1 hf
    intro _
    have hl := VF.len hf
    refine LoopWP.to f.length (fun s : Nat × List (List Int) => s.1) (fun s => s.1 ≤ f.length ∧ CY f s.1 s.2) ⟨by simp, CY.zero⟩ (fun s h => h.1) ?_
    rintro ⟨i, l⟩ X ⟨hi, hC⟩ hX
    simp only at hi hC
    show trans_Cycles_L1 f K _ i l
    unfold trans_Cycles_L1
    split
    · rename_i hlt
      refine ⟨by omega, by omega, ?_⟩
      refine LoopWP.to f.length (fun s : Int × List Int => s.2.length) (fun s => ∃ m, 1 ≤ m ∧ m ≤ f.length ∧ s = (itr f m i, orbit f i m) ∧ ∀ m', 1 ≤ m' → m' < m → (i : Int) < itr f m' i) ⟨1, by omega, by omega, by simp [orbit, itr, List.range_succ], fun m' h h' => by omega⟩ (fun s h => by obtain ⟨m, h1, h2, rfl, h3⟩ := h; simpa using h2) ?_
      rintro s X2 ⟨m, hm1, hm2, rfl, hm3⟩ hX2
      show trans_Cycles_L2 f i l _ K _ (itr f m i) (orbit f i m)
      unfold trans_Cycles_L2
      have hin := itr_in hf m (x := i) (by omega) (by omega)
      have hadd : ∀ c : List Int, l.length + ([c]).length ≤ 1099511627776 := fun c => by have := hC.len; simp; omega
      split
      · split
        · rename_i hij hmn
          rw [orbit_length] at hmn
          refine ⟨by simp; omega, by omega, by omega, hX2 _ ⟨m + 1, by omega, by omega, by rw [itr_succ, orbit_succ], fun m' h h' => ?_⟩ (by simp)⟩
          by_cases hmm : m' = m
          · subst hmm; exact hij
          · exact hm3 m' h (by omega)
        · rename_i hij hmn
          rw [orbit_length] at hmn
          rw [if_neg (by omega)]
          exact hX (i + 1, l) ⟨by simp only; omega, hC.miss (noMin hf (by omega) (by omega) hm3 (.inr ⟨hij, by omega⟩))⟩ rfl
      · rename_i hij
        split
        · rename_i he
          exact ⟨hadd _, hX (i + 1, _) ⟨by simp only; omega, hC.hit ⟨hm1, he, hm3⟩⟩ rfl⟩
        · rename_i he
          exact hX (i + 1, l) ⟨by simp only; omega, hC.miss (noMin hf (by omega) (by omega) hm3 (.inl (by omega)))⟩ rfl
    · have : i = f.length := by omega
      subst this
      exact hK l hC
  · rename_i hf
    exact h2 hf
theorem ref11_Cycles_ok {f : List Int} (hf : VF f = true) {K : List (List Int) → Prop} (hK : ∀ l, CY f f.length l → K l) : ref11_Cycles f K := by
  unfold ref11_Cycles
  intro _
  have hl := VF.len hf
  refine LoopWP.to f.length (fun s : Nat × List (List Int) => s.1) (fun s => s.1 ≤ f.length ∧ CY f s.1 s.2) ⟨by simp, CY.zero⟩ (fun s h => h.1) ?_
  rintro ⟨i, l⟩ X ⟨hi, hC⟩ hX
  simp only at hi hC
  show ref11_Cycles_L1 f K _ i l
  unfold ref11_Cycles_L1
  split
  · rename_i hlt
    refine ⟨by omega, by omega, ?_⟩
    refine LoopWP.to (f.length + 1) (fun s : Int × List Int => s.2.length) (fun s => ∃ m, 1 ≤ m ∧ m ≤ f.length + 1 ∧ s = (itr f m i, orbit f i m) ∧ ∀ m', 1 ≤ m' → m' < m → (i : Int) < itr f m' i) ⟨1, by omega, by omega, by simp [orbit, itr, List.range_succ], fun m' h h' => by omega⟩ (fun s h => by obtain ⟨m, h1, h2, rfl, h3⟩ := h; simpa using h2) ?_
    rintro s X2 ⟨m, hm1, hm2, rfl, hm3⟩ hX2
    show ref11_Cycles_L2 f i l _ K _ (itr f m i) (orbit f i m)
    unfold ref11_Cycles_L2
    have hin := itr_in hf m (x := i) (by omega) (by omega)
    have hadd : ∀ c : List Int, l.length + ([c]).length ≤ 1099511627776 := fun c => by have := hC.len; simp; omega
    have hlast : ix (orbit f i m) (((orbit f i m).length : Int) - 1) = itr f (m - 1) i := by
      rw [orbit_length, show ((m : Int) - 1) = ((m - 1 : Nat) : Int) from by omega]
      exact ix_orbit (by omega)
    have hx : ix f (itr f (m - 1) i) = itr f m i := by
      rw [← itr_succ, show m - 1 + 1 = m from by omega]
    have hin1 := itr_in hf (m - 1) (x := i) (by omega) (by omega)
    rw [hlast, hx]
    split
    · split
      · rename_i hij hmn
        rw [orbit_length] at hmn
        refine ⟨by simp; omega, by omega, by omega, hX2 _ ⟨m + 1, by omega, by omega, by rw [itr_succ, orbit_succ], fun m' h h' => ?_⟩ (by simp)⟩
        by_cases hmm : m' = m
        · subst hmm; exact hij
        · exact hm3 m' h (by omega)
      · rename_i hij hmn
        rw [orbit_length] at hmn ⊢
        refine ⟨⟨by omega, by omega⟩, by omega, by omega, by omega, by omega, ?_⟩
        rw [if_neg (by omega)]
        exact hX (i + 1, l) ⟨by simp only; omega, hC.miss (noMin hf (by omega) (by omega) hm3 (.inr ⟨hij, by omega⟩))⟩ rfl
    · rename_i hij
      rw [orbit_length]
      refine ⟨⟨by omega, by omega⟩, by omega, by omega, by omega, by omega, ?_⟩
      split
      · rename_i he
        exact ⟨hadd _, hX (i + 1, _) ⟨by simp only; omega, hC.hit ⟨hm1, he, hm3⟩⟩ rfl⟩
      · rename_i he
        exact hX (i + 1, l) ⟨by simp only; omega, hC.miss (noMin hf (by omega) (by omega) hm3 (.inl (by omega)))⟩ rfl
  · have : i = f.length := by omega
    subst this
    exact hK l hC
theorem ref03_SameRows_ok {a b : List (List Int)} {K : Bool → Prop} (h : K (decide (a = b))) : ref03_SameRows a b K := by
  unfold ref03_SameRows
  intro ha hb
  split
  · rename_i hl
    have hl' : a.length = b.length := by omega
    refine LoopWP.to a.length (fun k : Nat => k) (fun k => k ≤ a.length ∧ ∀ j : Nat, j < k → ix a j = ix b j) ⟨by omega, fun j hj => by omega⟩ (fun s h => h.1) ?_
    rintro k X ⟨hk, hI⟩ hX
    show ref03_SameRows_L1 a b K X k
    unfold ref03_SameRows_L1
    split
    · refine ⟨by omega, by omega, by omega, by omega, ref03_Same_ok ?_⟩
      by_cases he : ix a (k : Int) = ix b (k : Int)
      · rw [if_pos (by simpa using he)]
        refine hX (k + 1) ⟨by omega, fun j hj => ?_⟩ rfl
        by_cases hjk : j = k
        · subst hjk; exact he
        · exact hI j (by omega)
      · rw [if_neg (by simpa using he)]
        have : a ≠ b := fun h => he (by rw [h])
        simpa [this] using h
    · have : a = b := list_ix hl' fun j hj => hI j (by omega)
      simpa [this] using h
  · rename_i hl
    have : a ≠ b := fun h => hl (by rw [h])
    simpa [this] using h
theorem trans_divisor_ok {a b : Nat} {K : Int → Prop} (h : K (Nat.gcd a b : Int)) : trans_divisor a b K := by
  unfold trans_divisor
  refine LoopWP.intro (fun s : Int × Int => ∃ u v : Nat, s = ((u : Int), (v : Int)) ∧ Nat.gcd u v = Nat.gcd a b) (fun s => s.2.toNat) ⟨a, b, rfl, rfl⟩ ?_
  rintro s X ⟨u, v, rfl, hg⟩ hX
  show trans_divisor_L1 K _ (u : Int) (v : Int)
  unfold trans_divisor_L1
  split
  · refine ⟨by omega, ?_⟩
    have ht : (u : Int).tmod v = ((u % v : Nat) : Int) := rfl
    rw [ht]
    refine hX _ ⟨v, u % v, rfl, ?_⟩ ?_
    · rw [← hg, Nat.gcd_comm u v, Nat.gcd_rec v u, Nat.gcd_comm]
    · have := Nat.mod_lt u (show v > 0 by omega)
      simp only; omega
  · have : v = 0 := by omega
    subst this
    rw [Nat.gcd_zero_right] at hg
    rw [hg]; exact h

/-! ### Index and period -/
/-- The least common multiple of the lengths. -/
def LC (L : List (List Int)) (m : Nat) : Prop := 1 ≤ m ∧ (∀ c ∈ L, c.length ∣ m) ∧ ∀ M, (∀ c ∈ L, c.length ∣ M) → m ∣ M
theorem LC.nil : LC [] 1 := ⟨Nat.le_refl _, fun c hc => by simp at hc, fun M _ => Nat.one_dvd M⟩
theorem LC.snoc {L : List (List Int)} {m : Nat} (h : LC L m) {c : List Int} (hc : 1 ≤ c.length) : LC (L ++ [c]) (Nat.lcm m c.length) := by
  refine ⟨Nat.lcm_pos h.1 hc, fun d hd => ?_, fun M hM => Nat.lcm_dvd (h.2.2 M fun d hd => hM d (List.mem_append_left _ hd)) (hM c (List.mem_append_right _ (List.mem_singleton.2 rfl)))⟩
  rcases List.mem_append.1 hd with hd | hd
  · exact Nat.dvd_trans (h.2.1 d hd) (Nat.dvd_lcm_left _ _)
  · rw [List.mem_singleton] at hd; subst hd; exact Nat.dvd_lcm_right _ _
theorem CY.lc {f : List Int} {l : List (List Int)} (h : CY f f.length l) {m : Nat} (hm : LC l m) : (∀ i k : Nat, i < f.length → isMin f i k → k ∣ m) ∧ ∀ M, (∀ i k : Nat, i < f.length → isMin f i k → k ∣ M) → m ∣ M := by
  refine ⟨fun i k hi hik => ?_, fun M hM => hm.2.2 M fun c hc => ?_⟩
  · have := hm.2.1 _ (h.has i k hi hik)
    rwa [orbit_length] at this
  · obtain ⟨i, k, hi, hik, rfl⟩ := h.all c hc
    rw [orbit_length]; exact hM i k hi hik
theorem CY.dvd {f : List Int} (hf : VF f = true) {l : List (List Int)} (h : CY f f.length l) {c : List Int} (hc : c ∈ l) : 1 ≤ c.length ∧ c.length ≤ f.length := by
  obtain ⟨i, k, hi, hik, rfl⟩ := h.all c hc
  rw [orbit_length]
  exact ⟨hik.1, hik.le hf (by omega) (by omega)⟩
theorem dvd32 : ∀ k, k < 33 → 1 ≤ k → k ∣ 144403552893600 := by decide
theorem LC.bd {f : List Int} (hf : VF f = true) {l L : List (List Int)} (h : CY f f.length l) (hL : ∀ c ∈ L, c ∈ l) {m : Nat} (hm : LC L m) : m ≤ 144403552893600 := by
  refine Nat.le_of_dvd (by decide) (hm.2.2 _ fun c hc => ?_)
  have := h.dvd hf (hL c hc)
  have := VF.len hf
  exact dvd32 _ (by omega) (by omega)
theorem lcm_div {m n : Nat} : m / Nat.gcd m n * n = Nat.lcm m n := by
  rw [Nat.lcm, Nat.div_mul_right_comm (Nat.gcd_dvd_left m n)]
theorem CY.marks {f : List Int} (hf : VF f = true) {l : List (List Int)} (h : CY f f.length l) {x : Int} (h0 : 0 ≤ x) (h1 : x < f.length) : (∃ c ∈ l, x ∈ c) ↔ Per f x := by
  constructor
  · rintro ⟨c, hc, hx⟩
    obtain ⟨i, k, hi, hik, rfl⟩ := h.all c hc
    obtain ⟨a, ha, rfl⟩ := List.mem_map.1 hx
    exact Per.on ⟨k, hik.1, hik.2.1⟩ a
  · rintro ⟨d, hd, hx⟩
    obtain ⟨m, k, a, hm, ha, hxa⟩ := Per.min hd hx
    have hin := itr_in hf m h0 h1
    obtain ⟨i, hi⟩ := Int.eq_ofNat_of_zero_le hin.1
    rw [hi] at hm hxa hin
    refine ⟨orbit f i k, h.has i k (by omega) hm, ?_⟩
    rw [hxa]
    exact List.mem_map.2 ⟨a, List.mem_range.2 ha, rfl⟩
theorem CY.inb {f : List Int} (hf : VF f = true) {l : List (List Int)} (h : CY f f.length l) {c : List Int} (hc : c ∈ l) {x : Int} (hx : x ∈ c) : 0 ≤ x ∧ x < f.length := by
  obtain ⟨i, k, hi, hik, rfl⟩ := h.all c hc
  obtain ⟨a, ha, rfl⟩ := List.mem_map.1 hx
  exact itr_in hf a (by omega) (by omega)
theorem mem_ix {α : Type} [Inhabited α] {xs : List α} {x : α} : x ∈ xs ↔ ∃ j : Nat, j < xs.length ∧ ix xs j = x := by
  constructor
  · intro h
    obtain ⟨j, hj, rfl⟩ := List.getElem_of_mem h
    exact ⟨j, hj, ix_lt hj⟩
  · rintro ⟨j, hj, rfl⟩
    exact ix_mem (by omega) (by omega)
theorem trans_IndexPeriod_ok {f : List Int} {K : Int → Int → Prop} (h1 : VF f = true → ∀ a p : Nat, IP f a p → K a p) (h2 : ¬ VF f = true → K 0 0) : trans_IndexPeriod f K := by
  unfold trans_IndexPeriod
  refine trans_Valid_ok ?_
  split
  · rename_i hf
    have hK := h1 hf
    have hl := VF.len hf
    refine fun _ => ⟨by omega, by omega, trans_Cycles_ok (fun _ l hC _ => ?_) (fun h => absurd hf h)⟩
    refine LoopWP.to l.length (fun s : Int × Nat × List Bool => s.2.1) (fun s => s.2.1 ≤ l.length ∧ s.2.2.length = f.length ∧ (∃ m : Nat, s.1 = m ∧ LC (l.take s.2.1) m) ∧ ∀ x : Nat, x < f.length → (ix s.2.2 x = true ↔ ∃ c ∈ l.take s.2.1, (x : Int) ∈ c))
      ⟨by simp, by simp, ⟨1, rfl, by simpa using LC.nil⟩, fun x hx => by rw [ix_replicate _ _ hx]; simp⟩ (fun s h => h.1) ?_
    rintro ⟨q, k, d⟩ X ⟨hk, hd, ⟨m, hq, hm⟩, hM⟩ hX
    simp only at hk hd hq hm hM
    subst hq
    show trans_IndexPeriod_L1 f l K _ m k d
    unfold trans_IndexPeriod_L1
    split
    · have hkl : k < l.length := by omega
      have hmem : ix l (k : Int) ∈ l := ix_mem (by omega) (by omega)
      refine ⟨by omega, by omega, fun _ => ?_⟩
      refine LoopWP.to (ix l (k : Int)).length (fun s : Nat × List Bool => s.1) (fun s => s.1 ≤ (ix l (k : Int)).length ∧ s.2.length = f.length ∧ ∀ x : Nat, x < f.length → (ix s.2 x = true ↔ (∃ c ∈ l.take k, (x : Int) ∈ c) ∨ ∃ j : Nat, j < s.1 ∧ ix (ix l (k : Int)) j = x))
        ⟨by simp, hd, fun x hx => by rw [hM x hx]; simp⟩ (fun s h => h.1) ?_
      rintro ⟨k2, d2⟩ X2 ⟨hk2, hd2, hM2⟩ hX2
      simp only at hk2 hd2 hM2
      show trans_IndexPeriod_L2 l m k _ K _ k2 d2
      unfold trans_IndexPeriod_L2
      split
      · have hin := hC.inb hf hmem (ix_mem (i := (k2 : Int)) (by omega) (by omega))
        refine ⟨by omega, by omega, by omega, by omega, hX2 (k2 + 1, _) ⟨by simp only; omega, by simpa using hd2, fun x hx => ?_⟩ rfl⟩
        simp only
        rw [ix_st _ (by omega) (by omega) (by omega)]
        by_cases hxe : (x : Int) = ix (ix l (k : Int)) (k2 : Int)
        · rw [if_pos hxe]
          exact ⟨fun _ => .inr ⟨k2, by omega, hxe.symm⟩, fun _ => rfl⟩
        · rw [if_neg hxe, hM2 x hx]
          constructor
          · rintro (h | ⟨j, hj, he⟩)
            · exact .inl h
            · exact .inr ⟨j, by omega, he⟩
          · rintro (h | ⟨j, hj, he⟩)
            · exact .inl h
            · refine .inr ⟨j, ?_, he⟩
              rcases Nat.lt_or_ge j k2 with hj2 | hj2
              · exact hj2
              · obtain rfl : j = k2 := by omega
                exact absurd he.symm hxe
      · have hk2' : k2 = (ix l (k : Int)).length := by omega
        subst hk2'
        have hcl := hC.dvd hf hmem
        have hm1 := hm.1
        refine trans_divisor_ok ?_
        have hg : 0 < Nat.gcd m (ix l (k : Int)).length := Nat.gcd_pos_of_pos_left _ hm1
        have hnew : LC (l.take (k + 1)) (Nat.lcm m (ix l (k : Int)).length) := by rw [take_ix hkl]; exact hm.snoc hcl.1
        have hb := LC.bd hf hC (fun c hc => List.mem_of_mem_take hc) hnew
        have hb0 := LC.bd hf hC (fun c hc => List.mem_of_mem_take hc) hm
        have hdv : (m : Int).tdiv (Nat.gcd m (ix l (k : Int)).length : Int) = ((m / Nat.gcd m (ix l (k : Int)).length : Nat) : Int) := rfl
        have hmul : ((m / Nat.gcd m (ix l (k : Int)).length : Nat) : Int) * ((ix l (k : Int)).length : Int) = ((Nat.lcm m (ix l (k : Int)).length : Nat) : Int) := by rw [← Int.natCast_mul, lcm_div]
        have hle : m / Nat.gcd m (ix l (k : Int)).length ≤ m := Nat.div_le_self _ _
        rw [hdv, hmul]
        generalize m / Nat.gcd m (ix l (k : Int)).length = D at hle ⊢
        refine ⟨by omega, ⟨by omega, by omega⟩, ⟨by omega, by omega⟩, hX (_, k + 1, d2) ⟨by simp only; omega, hd2, ⟨_, rfl, hnew⟩, fun x hx => ?_⟩ rfl⟩
        simp only
        rw [hM2 x hx, take_ix hkl]
        constructor
        · rintro (⟨c, hc, hx⟩ | h)
          · exact ⟨c, List.mem_append_left _ hc, hx⟩
          · exact ⟨_, List.mem_append_right _ (List.mem_singleton.2 rfl), mem_ix.2 h⟩
        · rintro ⟨c, hc, hx⟩
          rcases List.mem_append.1 hc with hc | hc
          · exact .inl ⟨c, hc, hx⟩
          · rw [List.mem_singleton] at hc; subst hc; exact .inr (mem_ix.1 hx)
    · have hk' : k = l.length := by omega
      subst hk'
      rw [List.take_length] at hm hM
      have hper : ∀ x : Nat, x < f.length → (ix d x = true ↔ Per f x) := fun x hx => (hM x hx).trans (hC.marks hf (by omega) (by omega))
      refine LoopWP.to f.length (fun s : Int × Nat => s.2) (fun s => s.2 ≤ f.length ∧ ∃ a : Nat, s.1 = a ∧ 1 ≤ a ∧ a ≤ 1 + f.length ∧ (∀ x : Int, 0 ≤ x → x < s.2 → Per f (itr f a x)) ∧ (a = 1 ∨ ∃ x : Int, 0 ≤ x ∧ x < f.length ∧ ¬ Per f (itr f (a - 1) x)))
        ⟨by simp, 1, rfl, by omega, by omega, fun x h0 h1 => by simp only at h1; omega, .inl rfl⟩ (fun s h => h.1) ?_
      rintro ⟨q, i⟩ X3 ⟨hi, a, hq, ha1, han, hpa, hlow⟩ hX3
      simp only at hi hq hpa
      subst hq
      show trans_IndexPeriod_L3 f m d K _ a i
      unfold trans_IndexPeriod_L3
      split
      · have hin : (i : Int) < f.length := by omega
        obtain ⟨s0, hs0, hp0⟩ := Per.ev hf (x := i) (by omega) hin
        refine LoopWP.to f.length (fun s : Nat × Int => s.1) (fun s => s.1 ≤ f.length ∧ s.2 = itr f s.1 i ∧ ∀ t, t < s.1 → ¬ Per f (itr f t i)) ⟨by simp, rfl, fun t ht => by simp only at ht; omega⟩ (fun s h => h.1) ?_
        rintro ⟨c, j⟩ X4 ⟨hc, hj, hnp⟩ hX4
        simp only at hc hj hnp
        subst hj
        show trans_IndexPeriod_L4 f d a i _ K _ c (itr f c i)
        unfold trans_IndexPeriod_L4
        have hjn := itr_in hf c (x := i) (by omega) hin
        have hpd : ix d (itr f c i) = true ↔ Per f (itr f c i) := by
          obtain ⟨y, hy⟩ := Int.eq_ofNat_of_zero_le hjn.1
          rw [hy] at hjn ⊢
          exact hper y (by omega)
        refine ⟨by omega, by omega, ?_⟩
        split
        · rename_i hpt
          rw [hpd] at hpt
          split
          · rename_i hlt
            refine hX3 ((c : Int), i + 1) ⟨by simp only; omega, c, rfl, by omega, by omega, fun x h0 h1 => ?_, .inr ⟨i, by omega, hin, hnp _ (by omega)⟩⟩ rfl
            simp only at h1
            by_cases hx : x = i
            · subst hx; exact hpt
            · have := (hpa x h0 (by omega)).on (c - a)
              rwa [← itr_add, show a + (c - a) = c from by omega] at this
          · rename_i hlt
            refine hX3 ((a : Int), i + 1) ⟨by simp only; omega, a, rfl, ha1, han, fun x h0 h1 => ?_, hlow⟩ rfl
            simp only at h1
            by_cases hx : x = i
            · subst hx
              have := hpt.on (a - c)
              rwa [← itr_add, show c + (a - c) = a from by omega] at this
            · exact hpa x h0 (by omega)
        · rename_i hpt
          rw [hpd] at hpt
          have hcs : c < s0 := by
            rcases Nat.lt_or_ge c s0 with h | h
            · exact h
            · exfalso; apply hpt
              have := hp0.on (c - s0)
              rwa [← itr_add, show s0 + (c - s0) = c from by omega] at this
          refine ⟨⟨by omega, by omega⟩, by omega, by omega, hX4 (c + 1, _) ⟨by simp only; omega, by simp only; rw [itr_succ], fun t ht => ?_⟩ rfl⟩
          simp only at ht
          by_cases htc : t = c
          · subst htc; exact hpt
          · exact hnp t (by omega)
      · have hi' : i = f.length := by omega
        subst hi'
        have := hC.lc hm
        exact hK a m ⟨ha1, han, hpa, hlow, hm.1, this.1, this.2⟩
  · rename_i hf
    exact h2 hf
/-- The exponent of the idempotent power. -/
def omE (a p : Nat) : Nat := (a + p - 1) / p * p
theorem omE_ok {a p : Nat} (hp : 1 ≤ p) : a ≤ omE a p ∧ omE a p ≤ a + p - 1 ∧ p ∣ omE a p ∧ ∀ q, p ∣ q → a ≤ q → omE a p ≤ q := by
  have h1 := Nat.div_add_mod (a + p - 1) p
  have h2 := Nat.mod_lt (a + p - 1) hp
  have h3 : omE a p = p * ((a + p - 1) / p) := Nat.mul_comm _ _
  refine ⟨by omega, by omega, ⟨_, h3⟩, ?_⟩
  rintro q ⟨c, rfl⟩ hq
  rw [h3]
  rcases Nat.lt_or_ge c ((a + p - 1) / p) with hlt | hge
  · have : p * (c + 1) ≤ p * ((a + p - 1) / p) := Nat.mul_le_mul_left _ hlt
    rw [Nat.mul_succ] at this
    omega
  · exact Nat.mul_le_mul_left _ hge
theorem IP.pbd {f : List Int} (hf : VF f = true) {a p : Nat} (h : IP f a p) : p ≤ 144403552893600 := Nat.le_of_dvd (by decide) (h.bd hf)
theorem trans_Omega_ok {f : List Int} {K : List Int → Prop} (h1 : VF f = true → ∀ a p : Nat, IP f a p → K (pw f (omE a p))) (h2 : ¬ VF f = true → K []) : trans_Omega f K := by
  unfold trans_Omega
  refine trans_Valid_ok ?_
  split
  · rename_i hf
    refine trans_IndexPeriod_ok (fun _ a p hip => ?_) (fun h => absurd hf h)
    have hl := VF.len hf
    have := hip.a1; have := hip.p1; have := hip.an; have := hip.pbd hf
    have e1 : (a : Int) + p - 1 = ((a + p - 1 : Nat) : Int) := by omega
    rw [e1]
    have e2 : ((a + p - 1 : Nat) : Int).tdiv (p : Int) = (((a + p - 1) / p : Nat) : Int) := rfl
    have e3 : (((a + p - 1) / p : Nat) : Int) * (p : Int) = ((omE a p : Nat) : Int) := by rw [← Int.natCast_mul]; rfl
    rw [e2, e3]
    have ho := omE_ok (a := a) hip.p1
    have : (a + p - 1) / p ≤ a + p - 1 := Nat.div_le_self _ _
    generalize (a + p - 1) / p = D at this ⊢
    refine ⟨⟨by omega, by omega⟩, ⟨by omega, by omega⟩, by omega, ⟨by omega, by omega⟩, ⟨by omega, by omega⟩, trans_Power_ok ⟨by omega, by omega⟩ ?_⟩
    rw [powF, if_pos ⟨hf, by omega⟩]
    exact h1 hf a p hip
  · rename_i hf
    exact h2 hf
def PL (f : List Int) (m : Nat) : List (List Int) := (List.range m).map fun k => pw f (k + 1)
@[simp] theorem PL_length (f : List Int) (m : Nat) : (PL f m).length = m := by simp [PL]
theorem ix_PL {f : List Int} {m k : Nat} (h : k < m) : ix (PL f m) (k : Int) = pw f (k + 1) := by
  rw [ix_lt (by simpa using h)]; simp [PL]
theorem ref11_Powers_ok {f : List Int} (hf : VF f = true) {a p : Nat} (h : IP f a p) (hb : a + p ≤ 1099511627776) {K : List (List Int) → Int → Prop} (hK : K (PL f (a + p - 1)) ((a - 1 : Nat) : Int)) : ref11_Powers f K := by
  unfold ref11_Powers
  have := h.a1; have := h.p1
  refine LoopWP.intro (fun l : List (List Int) => ∃ m, 1 ≤ m ∧ m ≤ a + p - 1 ∧ l = PL f m) (fun l => a + p - l.length) ⟨1, by omega, by omega, by simp [PL, List.range_succ, pw_one]⟩ ?_
  rintro l X ⟨m, hm1, hm2, rfl⟩ hX
  show ref11_Powers_L1 f K X (PL f m)
  unfold ref11_Powers_L1
  have hlast : ix (PL f m) (((PL f m).length : Int) - 1) = pw f m := by
    rw [PL_length, show ((m : Int) - 1) = ((m - 1 : Nat) : Int) from by omega, ix_PL (by omega), show m - 1 + 1 = m from by omega]
  rw [hlast, PL_length]
  refine ⟨⟨by omega, by omega⟩, by omega, by omega, ?_⟩
  have hc : ref11_Compose (pw f m) (pw f 1) fun r22 => LoopWP (fun s X_1 => ref11_Powers_L2 (PL f m) X r22 K X_1 s) 0 := by
    refine ref11_Compose_pw hf ?_
    refine LoopWP.to m (fun k : Nat => k) (fun k => k ≤ m ∧ ∀ j, j < k → pw f (j + 1) ≠ pw f (m + 1)) ⟨by omega, fun j hj => by omega⟩ (fun s h => h.1) ?_
    rintro k X2 ⟨hk, hne⟩ hX2
    show ref11_Powers_L2 (PL f m) X (pw f (m + 1)) K X2 k
    unfold ref11_Powers_L2
    rw [PL_length]
    split
    · have hkm : k < m := by omega
      refine ⟨by omega, by omega, ?_⟩
      rw [ix_PL hkm]
      refine ref03_Same_ok ?_
      by_cases he : pw f (k + 1) = pw f (m + 1)
      · rw [if_pos (by simpa using he)]
        obtain ⟨h1, h2⟩ := h.of_eq hf (by omega) (by omega) he
        have h3 := Nat.le_of_dvd (by omega) h2
        obtain rfl : m = a + p - 1 := by omega
        obtain rfl : k = a - 1 := by omega
        exact hK
      · rw [if_neg (by simpa using he)]
        refine hX2 (k + 1) ⟨by omega, fun j hj => ?_⟩ rfl
        by_cases hjk : j = k
        · subst hjk; exact he
        · exact hne j (by omega)
    · have hlt : m < a + p - 1 := by
        rcases Nat.lt_or_ge m (a + p - 1) with hh | hh
        · exact hh
        · obtain rfl : m = a + p - 1 := by omega
          exact absurd (h.eq_of hf (s := a - 1 + 1) (t := a + p - 1 + 1) (by omega) (by omega) ⟨1, by omega⟩) (hne (a - 1) (by omega))
      refine ⟨by simp; omega, hX _ ⟨m + 1, by omega, by omega, ?_⟩ (by simp; omega)⟩
      simp [PL, List.range_succ]
  rw [pw_one] at hc
  exact hc
theorem ref11_IndexPeriod_ok {f : List Int} (hf : VF f = true) {a p : Nat} (h : IP f a p) (hb : a + p ≤ 1099511627776) {K : Int → Int → Prop} (hK : K a p) : ref11_IndexPeriod f K := by
  unfold ref11_IndexPeriod
  have := h.a1; have := h.p1
  refine ref11_Powers_ok hf h hb ?_
  rw [PL_length]
  refine ⟨⟨by omega, by omega⟩, fun _ => ⟨⟨by omega, by omega⟩, ?_⟩⟩
  rw [show ((a - 1 : Nat) : Int) + 1 = a from by omega, show ((a + p - 1 : Nat) : Int) - ((a - 1 : Nat) : Int) = p from by omega]
  exact hK
theorem ref11_Omega_ok {f : List Int} (hf : VF f = true) {a p : Nat} (h : IP f a p) (hb : a + p ≤ 1099511627776) {K : List Int → Prop} (hK : K (pw f (omE a p))) : ref11_Omega f K := by
  unfold ref11_Omega
  have := h.a1; have := h.p1
  have ho := omE_ok (a := a) h.p1
  refine ref11_Powers_ok hf h hb fun _ => ?_
  have idem : ∀ k : Nat, 1 ≤ k → (pw f (k + k) = pw f k ↔ a ≤ k ∧ p ∣ k) := by
    intro k hk
    constructor
    · intro he
      have := h.of_eq hf hk (by omega : k < k + k) he.symm
      rwa [show k + k - k = k from by omega] at this
    · rintro ⟨h1, h2⟩
      exact (h.eq_of hf h1 (by omega) (by rwa [show k + k - k = k from by omega])).symm
  refine LoopWP.to (a + p - 1) (fun k : Nat => k) (fun k => k ≤ a + p - 1 ∧ ∀ j, j < k → ¬ (a ≤ j + 1 ∧ p ∣ j + 1)) ⟨by omega, fun j hj => by omega⟩ (fun s h => h.1) ?_
  rintro k X ⟨hk, hne⟩ hX
  show ref11_Omega_L1 (PL f (a + p - 1)) K X k
  unfold ref11_Omega_L1
  rw [PL_length]
  split
  · have hkm : k < a + p - 1 := by omega
    refine ⟨by omega, by omega, ?_⟩
    rw [ix_PL hkm]
    refine ref11_Compose_pw hf (ref03_Same_ok ?_)
    have hi := idem (k + 1) (by omega)
    by_cases he : pw f (k + 1 + (k + 1)) = pw f (k + 1)
    · rw [if_pos (by simpa using he)]
      have h1 := hi.1 he
      have h2 := ho.2.2.2 _ h1.2 h1.1
      have : omE a p = k + 1 := by
        rcases Nat.lt_or_ge (omE a p) (k + 1) with hh | hh
        · exact absurd ⟨by omega, by rw [show omE a p - 1 + 1 = omE a p from by omega]; exact ho.2.2.1⟩ (hne (omE a p - 1) (by omega))
        · omega
      rw [← this]; exact hK
    · rw [if_neg (by simpa using he)]
      refine hX (k + 1) ⟨by omega, fun j hj => ?_⟩ rfl
      by_cases hjk : j = k
      · subst hjk; exact fun hh => he (hi.2 hh)
      · exact hne j (by omega)
  · exact absurd ⟨by omega, by rw [show omE a p - 1 + 1 = omE a p from by omega]; exact ho.2.2.1⟩ (hne (omE a p - 1) (by omega))
theorem IP.uniq2 {f : List Int} {a p a' p' : Nat} (h : IP f a p) (h' : IP f a' p') : a = a' ∧ p = p' := by
  refine ⟨?_, h.uniq ⟨h'.dv, h'.least⟩⟩
  have key : ∀ {a p a' p' : Nat}, IP f a p → IP f a' p' → ¬ a < a' := by
    intro a p a' p' h h' hlt
    rcases h'.low with h1 | ⟨x, h0, h1, hn⟩
    · have := h.a1; omega
    · apply hn
      have := (h.per x h0 h1).on (a' - 1 - a)
      rwa [← itr_add, show a + (a' - 1 - a) = a' - 1 from by omega] at this
  have h1 := key h h'; have h2 := key h' h
  omega
theorem law11_TransCycles_ok (f : List Int) : law11_TransCycles f (fun b => b = true) := by
  unfold law11_TransCycles
  by_cases hf : VF f = true
  · refine trans_IndexPeriod_ok (fun _ a p hip => ?_) (fun h => absurd hf h)
    refine trans_Omega_ok (fun _ a' p' hip' => ?_) (fun h => absurd hf h)
    obtain ⟨rfl, rfl⟩ := hip.uniq2 hip'
    refine trans_Cycles_ok (fun _ l hC => ?_) (fun h => absurd hf h)
    refine ref11_Valid_ok ?_
    rw [if_pos hf]
    intro _
    have fin : ref11_Cycles f fun r65 => ref03_SameRows l r65 fun r70 => if r70 = true then law11_awake fun r75 => r75 = true else false = true := by
      refine ref11_Cycles_ok hf fun l' hC' => ref03_SameRows_ok ?_
      rw [hC.uniq hC']
      simp only [decide_true, if_true]
      exact law11_awake_ok rfl
    split
    · exact fin
    · rename_i hn
      have hp := Nat.le_of_dvd (by decide) (hip.bd16 hf (by omega))
      have han := hip.an
      refine ref11_IndexPeriod_ok hf hip (by omega) ?_
      rw [if_pos rfl, if_pos rfl]
      refine ref11_Omega_ok hf hip (by omega) (ref03_Same_ok ?_)
      simp only [decide_true, if_true]
      exact fin
  · refine trans_IndexPeriod_ok (fun h => absurd h hf) (fun _ => ?_)
    refine trans_Omega_ok (fun h => absurd h hf) (fun _ => ?_)
    refine trans_Cycles_ok (fun h => absurd h hf) (fun _ => ?_)
    refine ref11_Valid_ok ?_
    rw [if_neg hf, if_pos rfl, if_pos rfl]
    intro _
    rw [if_pos (by simp)]
    intro _
    rw [if_pos (by simp)]
    exact law11_awake_ok rfl
end Sg
