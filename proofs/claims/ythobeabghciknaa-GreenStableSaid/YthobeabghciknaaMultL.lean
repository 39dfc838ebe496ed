/- Tables: opposites, adjoined identities and products are semigroups again. Plain laws. -/
import Derived.Test.YthobeabghciknaaMultK
namespace Sg
open Go
set_option linter.unusedVariables false
set_option linter.unusedSimpArgs false

theorem VT_of {t : List (List Int)} (h1 : 1 ≤ t.length) (h2 : t.length ≤ 400) (hr : ∀ x : Nat, x < t.length → (ix t (x : Int)).length = t.length) (he : ∀ x y : Nat, x < t.length → y < t.length → 0 ≤ mu t x y ∧ mu t x y < t.length) (ha : AS t) : VT t = true := by
  have hs : SH t = true := SH_iff.2 ⟨h1, h2, fun j hj => rowB_iff.2 ⟨hr j hj, fun i hi => he j i hj (by rw [← hr j hj]; exact hi)⟩⟩
  simp only [VT, hs, Bool.true_and, decide_eq_true_eq]; exact ha
theorem mu_nat {t : List (List Int)} (T : Tb t t.length) {x y : Nat} (hx : x < t.length) (hy : y < t.length) : ∃ z : Nat, z < t.length ∧ mu t x y = z := by
  have := T.mu (x := x) (y := y) (by omega) (by omega) (by omega) (by omega)
  exact ⟨(mu t x y).toNat, by omega, by omega⟩
theorem isI_uniq {t : List (List Int)} {e f : Nat} (he : e < t.length) (hf : f < t.length) (h : isI t e) (k : isI t f) : e = f := by
  have h1 := (h f hf).1
  have h2 := (k e he).2
  rw [h1] at h2; omega
theorem idR_of {t : List (List Int)} {e : Nat} (he : e < t.length) (h : isI t e) : idR t e :=
  .inl ⟨e, he, rfl, h, fun j hj hh => by have := isI_uniq (by omega) he hh h; omega⟩
theorem idR_none {t : List (List Int)} (h : ∀ e : Nat, e < t.length → ¬ isI t e) : idR t (-1) := .inr ⟨rfl, h⟩

/-! ### The opposite -/
theorem opp_VT {t : List (List Int)} (hv : VT t = true) : VT (opp t) = true := by
  have T := SH.tb (VT.sh hv)
  have n1 := T.n1
  have n4 := T.n4
  refine VT_of (by simpa using n1) (by simpa using n4) (fun x hx => ?_) (fun x y hx hy => ?_) fun x y z hx hy hz => ?_
  · rw [opp_len] at hx ⊢
    rw [ix_opp hx]; simp
  · rw [opp_len] at hx hy ⊢
    rw [mu_opp hx hy]
    exact T.mu (by omega) (by omega) (by omega) (by omega)
  · rw [opp_len] at hx hy hz
    obtain ⟨a, ha, ea⟩ := mu_nat T hy hx
    obtain ⟨b, hb, eb⟩ := mu_nat T hz hy
    rw [mu_opp hx hy, mu_opp hy hz, ea, eb, mu_opp ha hz, mu_opp hx hb, ← ea, ← eb]
    exact (VT.as hv z y x hz hy hx).symm
theorem opp_id {t : List (List Int)} {r : Int} (h : idR t r) : idR (opp t) r := by
  have key : ∀ e : Nat, e < t.length → (isI (opp t) e ↔ isI t e) := fun e he => by
    unfold isI
    rw [opp_len]
    constructor
    · intro h x hx; have := h x hx; rw [mu_opp he hx, mu_opp hx he] at this; exact this.symm
    · intro h x hx; rw [mu_opp he hx, mu_opp hx he]; exact (h x hx).symm
  rcases h with ⟨e, he, rfl, h1, h2⟩ | ⟨rfl, h1⟩
  · exact .inl ⟨e, by simpa using he, rfl, (key e he).2 h1, fun j hj hh => h2 j hj ((key j (by omega)).1 hh)⟩
  · exact .inr ⟨rfl, fun j hj hh => h1 j (by simpa using hj) ((key j (by simpa using hj)).1 hh)⟩
theorem opp_opp {t : List (List Int)} (T : Tb t t.length) : opp (opp t) = t := list_ix (by simp) fun x hx => by
  have hx' : x < t.length := by simpa using hx
  have hr := T.row x (by omega) (by omega)
  rw [ix_opp (by simpa using hx')]
  refine list_ix (by simp [hr]) fun y hy => ?_
  have hy' : y < t.length := by simpa using hy
  rw [ix_oRow (by simpa using hy'), ix_opp hy', ix_oRow hx']

/-! ### The adjoined identity -/
theorem ix_adj {t : List (List Int)} {x : Nat} (hx : x < t.length) : ix (adj t) (x : Int) = ix t (x : Int) ++ [(x : Int)] := by
  unfold adj
  rw [ix_app (by simpa using hx)]
  have : x < (aRows t t.length).length := by simpa using hx
  rw [ix_lt this]; simp [aRows]
theorem ix_adj_n {t : List (List Int)} : ix (adj t) (t.length : Int) = iota t.length ++ [(t.length : Int)] := by
  unfold adj
  rw [ix_lt (by simp)]
  rw [List.getElem_append_right (by simp)]
  simp
theorem mu_adj {t : List (List Int)} (T : Tb t t.length) {x y : Nat} (hx : x ≤ t.length) (hy : y ≤ t.length) : mu (adj t) x y = if x = t.length then (y : Int) else if y = t.length then (x : Int) else mu t x y := by
  unfold mu
  by_cases h : x = t.length
  · rw [if_pos h, h, ix_adj_n]
    by_cases h2 : y = t.length
    · subst h2
      rw [ix_lt (by simp), List.getElem_append_right (by simp)]; simp
    · rw [ix_app (by simp; omega), ix_iota (by omega)]
  · rw [if_neg h, ix_adj (by omega)]
    have hr := T.row x (by omega) (by omega)
    by_cases h2 : y = t.length
    · rw [if_pos h2, h2, ix_lt (by simp; omega), List.getElem_append_right (by omega)]; simp
    · rw [if_neg h2, ix_app (by omega)]
theorem adj_VT {t : List (List Int)} (hv : VT t = true) (hl : t.length < 400) : VT (adj t) = true := by
  have T := SH.tb (VT.sh hv)
  have n1 := T.n1
  have inn : ∀ x y : Nat, x ≤ t.length → y ≤ t.length → ∃ z : Nat, z ≤ t.length ∧ mu (adj t) x y = z := fun x y hx hy => by
    rw [mu_adj T hx hy]
    split
    · exact ⟨y, hy, rfl⟩
    · split
      · exact ⟨x, hx, rfl⟩
      · obtain ⟨z, hz, e⟩ := mu_nat T (x := x) (y := y) (by omega) (by omega)
        exact ⟨z, by omega, e⟩
  refine VT_of (by simp) (by simp; omega) (fun x hx => ?_) (fun x y hx hy => ?_) fun x y z hx hy hz => ?_
  · rw [adj_len] at hx ⊢
    by_cases h : x = t.length
    · rw [h, ix_adj_n]; simp
    · rw [ix_adj (by omega)]; simp [T.row x (by omega) (by omega)]
  · rw [adj_len] at hx hy ⊢
    obtain ⟨z, hz, e⟩ := inn x y (by omega) (by omega)
    rw [e]; omega
  · rw [adj_len] at hx hy hz
    by_cases h1 : x = t.length
    · obtain ⟨b, hb, eb⟩ := inn y z (by omega) (by omega)
      rw [mu_adj T (x := x) (y := y) (by omega) (by omega), if_pos h1, eb, mu_adj T (x := x) (y := b) (by omega) hb, if_pos h1]
    · by_cases h2 : y = t.length
      · rw [mu_adj T (x := x) (y := y) (by omega) (by omega), if_neg h1, if_pos h2, mu_adj T (x := y) (y := z) (by omega) (by omega), if_pos h2]
      · by_cases h3 : z = t.length
        · obtain ⟨a, ha, ea⟩ := inn x y (by omega) (by omega)
          rw [ea, mu_adj T (x := a) (y := z) ha (by omega), mu_adj T (x := y) (y := z) (by omega) (by omega), if_neg h2, if_pos h3, if_pos h3, ea]
          split
          · rename_i h; omega
          · rfl
        · obtain ⟨a, ha, ea⟩ := mu_nat T (x := x) (y := y) (by omega) (by omega)
          obtain ⟨b, hb, eb⟩ := mu_nat T (x := y) (y := z) (by omega) (by omega)
          rw [mu_adj T (x := x) (y := y) (by omega) (by omega), if_neg h1, if_neg h2, ea, mu_adj T (x := a) (y := z) (by omega) (by omega), if_neg (by omega), if_neg h3,
            mu_adj T (x := y) (y := z) (by omega) (by omega), if_neg h2, if_neg h3, eb, mu_adj T (x := x) (y := b) (by omega) (by omega), if_neg h1, if_neg (by omega), ← ea, ← eb]
          exact VT.as hv x y z (by omega) (by omega) (by omega)
theorem adj_id {t : List (List Int)} (T : Tb t t.length) : idR (adj t) (t.length : Int) := by
  refine idR_of (by simp) fun x hx => ?_
  rw [adj_len] at hx
  rw [mu_adj T (Nat.le_refl _) (by omega), if_pos rfl, mu_adj T (by omega) (Nat.le_refl _)]
  refine ⟨rfl, ?_⟩
  split
  · rename_i h; omega
  · rw [if_pos rfl]

/-! ### Products -/
theorem flat_ix {α β : Type} [Inhabited α] [Inhabited β] {f : α → List β} {m : Nat} : ∀ (l : List α) (i j : Nat), (∀ a ∈ l, (f a).length = m) → i < l.length → j < m → ix (l.flatMap f) ((i * m + j : Nat) : Int) = ix (f (ix l (i : Int))) (j : Int)
  | [], i, j, _, hi, _ => by simp at hi
  | a :: l, 0, j, h, _, hj => by
    have ha := h a (by simp)
    rw [List.flatMap_cons, Nat.zero_mul, Nat.zero_add, ix_app (by omega)]
    rfl
  | a :: l, i + 1, j, h, hi, hj => by
    have ha := h a (by simp)
    have e : (i + 1) * m + j = m + (i * m + j) := by rw [Nat.succ_mul]; omega
    rw [List.flatMap_cons, e]
    have e2 : ix (f a ++ l.flatMap f) ((m + (i * m + j) : Nat) : Int) = ix (l.flatMap f) ((i * m + j : Nat) : Int) := by
      simp only [ix, Int.toNat_natCast, List.getD_eq_getElem?_getD]
      rw [List.getElem?_append_right (by omega)]
      congr 2; omega
    rw [e2, flat_ix l i j (fun b hb => h b (by simp [hb])) (by simpa using hi) hj]
    rfl
theorem pair_lt {n m x y : Nat} (hx : x < n) (hy : y < m) : x * m + y < n * m := by
  have : (x + 1) * m ≤ n * m := Nat.mul_le_mul_right _ hx
  rw [Nat.succ_mul] at this; omega
theorem pair_of {n m k : Nat} (hm : 0 < m) (hk : k < n * m) : ∃ x y : Nat, x < n ∧ y < m ∧ k = x * m + y := by
  refine ⟨k / m, k % m, ?_, Nat.mod_lt _ hm, ?_⟩
  · rw [Nat.div_lt_iff_lt_mul hm]; exact hk
  · have := Nat.mod_add_div k m; rw [Nat.mul_comm] at this; omega
section
variable {t u : List (List Int)} (T : Tb t t.length) (U : Tb u u.length)
include T U
theorem mu_dTab {x y v w : Nat} (hx : x < t.length) (hy : y < u.length) (hv : v < t.length) (hw : w < u.length) : mu (dTab t u) ((x * u.length + y : Nat) : Int) ((v * u.length + w : Nat) : Int) = mu t x v * u.length + mu u y w := by
  have r1 := T.row x (by omega) (by omega)
  have r2 := U.row y (by omega) (by omega)
  unfold mu dTab
  rw [flat_ix t x y (m := u.length) (fun a _ => by simp) hx hy, ix_map _ (by omega) (by omega)]
  unfold dRow
  rw [← r2, flat_ix _ v w (fun a _ => by simp) (by omega) (by omega), ix_map _ (by omega) (by omega), r2]
theorem mu_pair {x y v w : Nat} (hx : x < t.length) (hy : y < u.length) (hv : v < t.length) (hw : w < u.length) : ∃ a b : Nat, a < t.length ∧ b < u.length ∧ mu t x v = a ∧ mu u y w = b ∧ mu (dTab t u) ((x * u.length + y : Nat) : Int) ((v * u.length + w : Nat) : Int) = ((a * u.length + b : Nat) : Int) := by
  obtain ⟨a, ha, ea⟩ := mu_nat T hx hv
  obtain ⟨b, hb, eb⟩ := mu_nat U hy hw
  exact ⟨a, b, ha, hb, ea, eb, by rw [mu_dTab T U hx hy hv hw, ea, eb]; simp⟩
end
theorem pair_inj {m a b c d : Nat} (hb : b < m) (hd : d < m) (h : a * m + b = c * m + d) : a = c ∧ b = d := by
  have h1 : (a * m + b) % m = b := by rw [Nat.add_comm, Nat.add_mul_mod_self_right, Nat.mod_eq_of_lt hb]
  have h2 : (c * m + d) % m = d := by rw [Nat.add_comm, Nat.add_mul_mod_self_right, Nat.mod_eq_of_lt hd]
  have hbd : b = d := by rw [← h1, ← h2, h]
  refine ⟨Nat.eq_of_mul_eq_mul_right (show 0 < m by omega) ?_, hbd⟩
  omega
theorem dTab_VT {t u : List (List Int)} (hv : VT t = true) (hu : VT u = true) (hl : t.length * u.length ≤ 400) : VT (dTab t u) = true := by
  have T := SH.tb (VT.sh hv)
  have U := SH.tb (VT.sh hu)
  have n1 := T.n1
  have m1 := U.n1
  have hpos : 1 ≤ t.length * u.length := Nat.mul_pos n1 m1
  refine VT_of (by rw [dTab_len]; exact hpos) (by rw [dTab_len]; exact hl) (fun k hk => ?_) (fun k q hk hq => ?_) fun k q s hk hq hs => ?_
  · rw [dTab_len] at hk ⊢
    obtain ⟨x, y, hx, hy, rfl⟩ := pair_of U.n1 hk
    unfold dTab
    rw [flat_ix t x y (m := u.length) (fun a _ => by simp) hx hy, ix_map _ (by omega) (by omega), dRow_len, T.row x (by omega) (by omega), U.row y (by omega) (by omega)]
  · rw [dTab_len] at hk hq ⊢
    obtain ⟨x, y, hx, hy, rfl⟩ := pair_of U.n1 hk
    obtain ⟨v, w, hv', hw, rfl⟩ := pair_of U.n1 hq
    obtain ⟨a, b, ha, hb, _, _, e⟩ := mu_pair T U hx hy hv' hw
    rw [e]
    have := pair_lt ha hb
    omega
  · rw [dTab_len] at hk hq hs
    obtain ⟨x, y, hx, hy, rfl⟩ := pair_of U.n1 hk
    obtain ⟨v, w, hv', hw, rfl⟩ := pair_of U.n1 hq
    obtain ⟨p, q, hp, hq', rfl⟩ := pair_of U.n1 hs
    obtain ⟨a, b, ha, hb, ea, eb, e⟩ := mu_pair T U hx hy hv' hw
    obtain ⟨c, d, hc, hd, ec, ed, e'⟩ := mu_pair T U hv' hw hp hq'
    rw [e, e', mu_dTab T U ha hb hp hq', mu_dTab T U hx hy hc hd, ← ea, ← eb, ← ec, ← ed, VT.as hv x v p hx hv' hp, VT.as hu y w q hy hw hq']
theorem dTab_isI {t u : List (List Int)} (T : Tb t t.length) (U : Tb u u.length) {x y : Nat} (hx : x < t.length) (hy : y < u.length) : isI (dTab t u) (x * u.length + y) ↔ isI t x ∧ isI u y := by
  unfold isI
  rw [dTab_len]
  constructor
  · intro h
    have m1 := U.n1
    have n1 := T.n1
    refine ⟨fun v hv => ?_, fun w hw => ?_⟩
    · have := h _ (pair_lt hv (show 0 < u.length by omega))
      obtain ⟨a, b, ha, hb, ea, eb, e⟩ := mu_pair T U hx hy hv (show 0 < u.length by omega)
      obtain ⟨c, d, hc, hd, ec, ed, e'⟩ := mu_pair T U hv (show 0 < u.length by omega) hx hy
      have q1 := this.1
      have q2 := this.2
      rw [e] at q1
      rw [e'] at q2
      have h1 := pair_inj hb (show 0 < u.length by omega) (Int.ofNat.inj q1)
      have h2 := pair_inj hd (show 0 < u.length by omega) (Int.ofNat.inj q2)
      rw [ea, ec]; omega
    · have := h _ (pair_lt (show 0 < t.length by omega) hw)
      obtain ⟨a, b, ha, hb, ea, eb, e⟩ := mu_pair T U hx hy (show 0 < t.length by omega) hw
      obtain ⟨c, d, hc, hd, ec, ed, e'⟩ := mu_pair T U (show 0 < t.length by omega) hw hx hy
      have q1 := this.1
      have q2 := this.2
      rw [e] at q1
      rw [e'] at q2
      have h1 := pair_inj hb hw (Int.ofNat.inj q1)
      have h2 := pair_inj hd hw (Int.ofNat.inj q2)
      rw [eb, ed]; omega
  · rintro ⟨h1, h2⟩ k hk
    obtain ⟨v, w, hv, hw, rfl⟩ := pair_of U.n1 hk
    rw [mu_dTab T U hx hy hv hw, mu_dTab T U hv hw hx hy, (h1 v hv).1, (h1 v hv).2, (h2 w hw).1, (h2 w hw).2]
    simp
theorem iota_block (n m : Nat) : iota ((n + 1) * m) = iota (n * m) ++ (iota m).map fun y => ((n * m : Nat) : Int) + y := by
  unfold iota
  rw [Nat.succ_mul, List.range_add, List.map_append, List.map_map, List.map_map]
  congr 1
theorem filter_pairs {a b p : Int → Bool} {m : Nat} : ∀ n : Nat, (∀ x y : Nat, x < n → y < m → p ((x * m + y : Nat) : Int) = (a x && b y)) → ((iota (n * m)).filter p).length = ((iota n).filter a).length * ((iota m).filter b).length
  | 0, _ => by simp [iota]
  | n + 1, h => by
    rw [iota_block, List.filter_append, List.length_append, filter_pairs n fun x y hx hy => h x y (by omega) hy, iota_succ, List.filter_append, List.length_append]
    have e : (((iota m).map fun y => ((n * m : Nat) : Int) + y).filter p).length = if a n = true then ((iota m).filter b).length else 0 := by
      rw [List.filter_map, List.length_map]
      have hc : (iota m).filter (p ∘ fun y => ((n * m : Nat) : Int) + y) = (iota m).filter fun y => a n && b y := List.filter_congr fun y hy => by
        obtain ⟨y0, y1⟩ := mem_iota.1 hy
        obtain ⟨k, rfl⟩ := Int.eq_ofNat_of_zero_le y0
        have := h n k (by omega) (by omega)
        simp only [Function.comp]
        rw [← this]
        congr 1
      rw [hc]
      cases a n <;> simp
    rw [e, Nat.add_mul]
    by_cases han : a n = true <;> simp [han]
end Sg
