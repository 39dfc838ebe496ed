/- Iterates of a transformation: periodic points, cycles, index and period. Plain. -/
import Derived.Test.YtjegmdkaiddokaaTransC
namespace Sg
open Go

theorem pigeon (n : Nat) : ∀ g : Nat → Int, (∀ m, m ≤ n → 0 ≤ g m ∧ g m < n) → ∃ a b, a < b ∧ b ≤ n ∧ g a = g b := by
  induction n with
  | zero => intro g hg; have := hg 0 (Nat.le_refl _); omega
  | succ n ih =>
    intro g hg
    by_cases hx : ∃ m, m ≤ n ∧ g m = g (n + 1)
    · obtain ⟨m, h1, h2⟩ := hx; exact ⟨m, n + 1, by omega, Nat.le_refl _, h2⟩
    · have hx' : ∀ m, m ≤ n → g m ≠ g (n + 1) := fun m hm he => hx ⟨m, hm, he⟩
      obtain ⟨a, b, hab, hbn, he⟩ := ih (fun m => if g m = n then g (n + 1) else g m) (fun m hm => by
        have h1 := hg m (by omega); have h2 := hg (n + 1) (Nat.le_refl _); have h3 := hx' m hm
        split <;> omega)
      refine ⟨a, b, hab, by omega, ?_⟩
      have ha := hx' a (by omega); have hb := hx' b (by omega)
      split at he <;> split at he <;> omega

/-! ### Periodic points -/
def Per (f : List Int) (x : Int) : Prop := ∃ d, 1 ≤ d ∧ itr f d x = x
/-- i is the least point of its cycle, which has k points. -/
def isMin (f : List Int) (i : Int) (k : Nat) : Prop := 1 ≤ k ∧ itr f k i = i ∧ ∀ m, 1 ≤ m → m < k → i < itr f m i
theorem itr_mul {f : List Int} {d : Nat} {x : Int} (h : itr f d x = x) (q : Nat) : itr f (d * q) x = x := by
  induction q with
  | zero => rfl
  | succ q ih => rw [Nat.mul_succ, itr_add, ih, h]
theorem itr_mod {f : List Int} {d : Nat} {x : Int} (h : itr f d x = x) (m : Nat) : itr f m x = itr f (m % d) x := by
  conv => lhs; rw [← Nat.div_add_mod m d, itr_add, itr_mul h]
theorem itr_comm (f : List Int) (a b : Nat) (x : Int) : itr f a (itr f b x) = itr f b (itr f a x) := by
  rw [← itr_add, ← itr_add, Nat.add_comm]
theorem Per.on {f : List Int} {x : Int} (h : Per f x) (m : Nat) : Per f (itr f m x) := by
  obtain ⟨d, h1, h2⟩ := h
  exact ⟨d, h1, by rw [itr_comm, h2]⟩
theorem isMin.dvd {f : List Int} {i : Int} {k d : Nat} (h : isMin f i k) (hd : itr f d i = i) : k ∣ d := by
  have h1 := itr_mod h.2.1 d
  have h2 : d % k < k := Nat.mod_lt _ h.1
  rcases Nat.eq_zero_or_pos (d % k) with h0 | h0
  · exact Nat.dvd_of_mod_eq_zero h0
  · have := h.2.2 _ h0 h2; omega
theorem isMin.uniq {f : List Int} {i : Int} {k l : Nat} (h : isMin f i k) (h' : isMin f i l) : k = l := by
  have h1 := h.2.2 l h'.1; have h2 := h'.2.2 k h.1; have h3 := h.2.1; have h4 := h'.2.1
  rcases Nat.lt_trichotomy k l with hh | hh | hh
  · have := h2 hh; omega
  · exact hh
  · have := h1 hh; omega
theorem isMin.le {f : List Int} (hf : VF f = true) {i : Int} {k : Nat} (h0 : 0 ≤ i) (h1 : i < f.length) (h : isMin f i k) : k ≤ f.length := by
  rcases Nat.lt_or_ge f.length k with hlt | hge
  · obtain ⟨a, b, hab, hb, he⟩ := pigeon f.length (fun m => itr f m i) fun m _ => itr_in hf m h0 h1
    -- the points from b on come back to i
    have h2 : itr f (k - b) (itr f b i) = i := by rw [← itr_add, show b + (k - b) = k from by omega]; exact h.2.1
    rw [← he, ← itr_add] at h2
    have := h.2.2 (a + (k - b)) (by omega) (by omega)
    omega
  · exact hge
/-- The least of finitely many numbers. -/
theorem exists_min (g : Nat → Int) (d : Nat) (hd : 1 ≤ d) : ∃ m, m < d ∧ ∀ j, j < d → g m ≤ g j := by
  induction d with
  | zero => omega
  | succ d ih =>
    rcases Nat.eq_zero_or_pos d with h0 | h0
    · subst h0; exact ⟨0, by omega, fun j hj => by rw [show j = 0 from by omega]; exact Int.le_refl _⟩
    · obtain ⟨m, hm, hmin⟩ := ih h0
      by_cases hc : g m ≤ g d
      · exact ⟨m, by omega, fun j hj => by
          by_cases hjd : j = d
          · subst hjd; exact hc
          · exact hmin j (by omega)⟩
      · exact ⟨d, by omega, fun j hj => by
          by_cases hjd : j = d
          · subst hjd; exact Int.le_refl _
          · have := hmin j (by omega); omega⟩
theorem least_of (p : Nat → Prop) (n : Nat) (h : p n) : ∃ m, p m ∧ m ≤ n ∧ ∀ j, j < m → ¬ p j := by
  induction n using Nat.strongRecOn with
  | _ n ih =>
    by_cases hx : ∃ j, j < n ∧ p j
    · obtain ⟨j, hj, hpj⟩ := hx
      obtain ⟨m, h1, h2, h3⟩ := ih j hj hpj
      exact ⟨m, h1, by omega, h3⟩
    · exact ⟨n, h, Nat.le_refl _, fun j hj hpj => hx ⟨j, hj, hpj⟩⟩
/-- A periodic point lies on the cycle of its least point. -/
theorem Per.min {f : List Int} {x : Int} {d : Nat} (hd : 1 ≤ d) (hx : itr f d x = x) : ∃ m k a, isMin f (itr f m x) k ∧ a < k ∧ x = itr f a (itr f m x) := by
  obtain ⟨m, hm, hmin⟩ := exists_min (fun m => itr f m x) d hd
  have hid : itr f d (itr f m x) = itr f m x := by rw [itr_comm, hx]
  obtain ⟨k, ⟨hk1, hk2⟩, hkd, hk3⟩ := least_of (fun k => 1 ≤ k ∧ itr f k (itr f m x) = itr f m x) d ⟨hd, hid⟩
  have hmn : isMin f (itr f m x) k := by
    refine ⟨hk1, hk2, fun j hj1 hj2 => ?_⟩
    have h1 : itr f j (itr f m x) = itr f ((m + j) % d) x := by rw [← itr_add]; exact itr_mod hx _
    have h2 := hmin ((m + j) % d) (Nat.mod_lt _ hd)
    have h3 : itr f j (itr f m x) ≠ itr f m x := fun he => hk3 j hj2 ⟨hj1, he⟩
    omega
  refine ⟨m, k, (d - m) % k, hmn, Nat.mod_lt _ hk1, ?_⟩
  have h4 : itr f (d - m) (itr f m x) = x := by rw [← itr_add, show m + (d - m) = d from by omega]; exact hx
  rw [← itr_mod hk2, h4]
/-- Every point comes to a periodic point. -/
theorem Per.ev {f : List Int} (hf : VF f = true) {x : Int} (h0 : 0 ≤ x) (h1 : x < f.length) : ∃ s, s ≤ f.length ∧ Per f (itr f s x) := by
  obtain ⟨a, b, hab, hb, he⟩ := pigeon f.length (fun m => itr f m x) fun m _ => itr_in hf m h0 h1
  exact ⟨a, by omega, b - a, by omega, by rw [← itr_add, show a + (b - a) = b from by omega, he]⟩

/-! ### Cycles -/
def orbit (f : List Int) (i : Int) (k : Nat) : List Int := (List.range k).map fun m => itr f m i
@[simp] theorem orbit_length (f : List Int) (i : Int) (k : Nat) : (orbit f i k).length = k := by simp [orbit]
theorem ix_orbit {f : List Int} {i : Int} {k m : Nat} (h : m < k) : ix (orbit f i k) (m : Int) = itr f m i := by
  rw [ix_lt (by simpa using h)]; simp [orbit]
theorem orbit_succ (f : List Int) (i : Int) (k : Nat) : orbit f i (k + 1) = orbit f i k ++ [itr f k i] := by
  simp [orbit, List.range_succ]
/-- The cycles of which the least point is below a number. -/
inductive CY (f : List Int) : Nat → List (List Int) → Prop
  | zero : CY f 0 []
  | hit {i k : Nat} {l : List (List Int)} : CY f i l → isMin f (i : Int) k → CY f (i + 1) (l ++ [orbit f i k])
  | miss {i : Nat} {l : List (List Int)} : CY f i l → (∀ k, ¬ isMin f (i : Int) k) → CY f (i + 1) l
theorem CY.uniq {f : List Int} {n : Nat} : ∀ {l l' : List (List Int)}, CY f n l → CY f n l' → l = l' := by
  induction n with
  | zero => intro l l' h h'; cases h; cases h'; rfl
  | succ n ih =>
    intro l l' h h'
    cases h with
    | hit h hm => cases h' with
      | hit h' hm' => rw [ih h h', hm.uniq hm']
      | miss h' hm' => exact absurd hm (hm' _)
    | miss h hm => cases h' with
      | hit h' hm' => exact absurd hm' (hm _)
      | miss h' hm' => exact ih h h'
theorem CY.all {f : List Int} {n : Nat} {l : List (List Int)} (h : CY f n l) : ∀ c ∈ l, ∃ (i k : Nat), i < n ∧ isMin f i k ∧ c = orbit f i k := by
  induction h with
  | zero => intro c hc; simp at hc
  | hit _ hm ih =>
    intro c hc
    rcases List.mem_append.1 hc with hc | hc
    · obtain ⟨i, k, h1, h2, h3⟩ := ih c hc; exact ⟨i, k, by omega, h2, h3⟩
    · rw [List.mem_singleton] at hc; exact ⟨_, _, Nat.lt_succ_self _, hm, hc⟩
  | miss _ _ ih => intro c hc; obtain ⟨i, k, h1, h2, h3⟩ := ih c hc; exact ⟨i, k, by omega, h2, h3⟩
theorem CY.has {f : List Int} {n : Nat} {l : List (List Int)} (h : CY f n l) : ∀ i k : Nat, i < n → isMin f i k → orbit f i k ∈ l := by
  induction h with
  | zero => intro i k hi; omega
  | @hit j k' l _ hm ih =>
    intro i k hi hik
    by_cases hij : i = j
    · subst hij; rw [hm.uniq hik]; exact List.mem_append_right _ (List.mem_singleton.2 rfl)
    · exact List.mem_append_left _ (ih i k (by omega) hik)
  | @miss j l _ hm ih =>
    intro i k hi hik
    by_cases hij : i = j
    · subst hij; exact absurd hik (hm _)
    · exact ih i k (by omega) hik
theorem CY.len {f : List Int} {n : Nat} {l : List (List Int)} (h : CY f n l) : l.length ≤ n := by
  induction h with
  | zero => simp
  | hit _ _ ih => simp; omega
  | miss _ _ ih => omega

/-! ### Index and period -/
structure IP (f : List Int) (a p : Nat) : Prop where
  a1 : 1 ≤ a
  an : a ≤ 1 + f.length
  per : ∀ x : Int, 0 ≤ x → x < f.length → Per f (itr f a x)
  low : a = 1 ∨ ∃ x : Int, 0 ≤ x ∧ x < f.length ∧ ¬ Per f (itr f (a - 1) x)
  p1 : 1 ≤ p
  dv : ∀ i k : Nat, i < f.length → isMin f i k → k ∣ p
  least : ∀ M, (∀ i k : Nat, i < f.length → isMin f i k → k ∣ M) → p ∣ M
theorem IP.ret {f : List Int} (hf : VF f = true) {a p : Nat} (h : IP f a p) {y : Int} (h0 : 0 ≤ y) (h1 : y < f.length) (hy : Per f y) {q : Nat} (hq : p ∣ q) : itr f q y = y := by
  obtain ⟨d, hd, hx⟩ := hy
  obtain ⟨m, k, b, hm, _, hb⟩ := Per.min hd hx
  have hin := itr_in hf m h0 h1
  obtain ⟨i, hi⟩ := Int.eq_ofNat_of_zero_le hin.1
  rw [hi] at hm hb hin
  obtain ⟨r, rfl⟩ := Nat.dvd_trans (h.dv i k (by omega) hm) hq
  rw [hb, itr_comm, itr_mul hm.2.1]
theorem pw_eq {f : List Int} {s t : Nat} : pw f s = pw f t ↔ ∀ x : Int, 0 ≤ x → x < f.length → itr f s x = itr f t x := by
  constructor
  · intro h x h0 h1; rw [← ix_pw f s h0 h1, ← ix_pw f t h0 h1, h]
  · intro h
    refine list_ix (by simp) fun j hj => ?_
    rw [pw_length] at hj
    rw [ix_pw f s (by omega) (by omega), ix_pw f t (by omega) (by omega)]
    exact h _ (by omega) (by omega)
theorem IP.eq_of {f : List Int} (hf : VF f = true) {a p : Nat} (h : IP f a p) {s t : Nat} (hs : a ≤ s) (hst : s ≤ t) (hp : p ∣ t - s) : pw f s = pw f t := by
  rw [pw_eq]
  intro x h0 h1
  have hper : Per f (itr f s x) := by
    have := (h.per x h0 h1).on (s - a)
    rwa [← itr_add, show a + (s - a) = s from by omega] at this
  have hin := itr_in hf s h0 h1
  have := h.ret hf hin.1 hin.2 hper hp
  rw [← itr_add, show s + (t - s) = t from by omega] at this
  exact this.symm
theorem IP.of_eq {f : List Int} (hf : VF f = true) {a p : Nat} (h : IP f a p) {s t : Nat} (hs : 1 ≤ s) (hst : s < t) (he : pw f s = pw f t) : a ≤ s ∧ p ∣ t - s := by
  rw [pw_eq] at he
  have hret : ∀ x : Int, 0 ≤ x → x < f.length → itr f (t - s) (itr f s x) = itr f s x := by
    intro x h0 h1
    rw [← itr_add, show s + (t - s) = t from by omega]
    exact (he x h0 h1).symm
  constructor
  · rcases h.low with h1 | ⟨x, h0, h1, hn⟩
    · omega
    · rcases Nat.lt_or_ge s a with hlt | hge
      · exfalso; apply hn
        have : Per f (itr f s x) := ⟨t - s, by omega, hret x h0 h1⟩
        have := this.on (a - 1 - s)
        rwa [← itr_add, show s + (a - 1 - s) = a - 1 from by omega] at this
      · exact hge
  · refine h.least _ fun i k hi hm => ?_
    -- i is itself the image of a point of its cycle
    have hy : itr f s (itr f (k * s - s) i) = i := by
      rw [← itr_add]
      have : k * s - s + s = k * s := Nat.sub_add_cancel (Nat.le_mul_of_pos_left s hm.1)
      rw [this]; exact itr_mul hm.2.1 s
    have hin := itr_in hf (k * s - s) (x := i) (by omega) (by omega)
    have := hret _ hin.1 hin.2
    rw [hy] at this
    exact hm.dvd this
theorem IP.uniq {f : List Int} {a p p' : Nat} (h : IP f a p) (hp : (∀ i k : Nat, i < f.length → isMin f i k → k ∣ p') ∧ ∀ M, (∀ i k : Nat, i < f.length → isMin f i k → k ∣ M) → p' ∣ M) : p = p' :=
  Nat.dvd_antisymm (h.least _ hp.1) (hp.2 _ h.dv)
theorem IP.bd {f : List Int} (hf : VF f = true) {a p : Nat} (h : IP f a p) : p ∣ 144403552893600 := by
  refine h.least _ fun i k hi hm => ?_
  have hk := hm.le hf (by omega) (by omega)
  have := VF.len hf
  have hk1 := hm.1
  have : ∀ k, k < 33 → 1 ≤ k → k ∣ 144403552893600 := by decide
  exact this k (by omega) hk1
theorem IP.bd16 {f : List Int} (hf : VF f = true) (hn : f.length ≤ 16) {a p : Nat} (h : IP f a p) : p ∣ 720720 := by
  refine h.least _ fun i k hi hm => ?_
  have hk := hm.le hf (by omega) (by omega)
  have hk1 := hm.1
  have : ∀ k, k < 17 → 1 ≤ k → k ∣ 720720 := by decide
  exact this k (by omega) hk1
end Sg
