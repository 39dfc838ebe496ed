/- Green's relations: ideals as words of bits. Plain laws. -/
import Derived.Test.YthobeabghciknaaMultN
import Derived.Test.YthobeabghciknaaPPart
namespace Sg
open Go
set_option linter.unusedVariables false
set_option linter.unusedSimpArgs false
theorem sh6 {x : Nat} : shrK .i64 (x : Int) 6 = ((x / 64 : Nat) : Int) := by
  unfold shrK
  have e : (2 : Int) ^ (min (6 : Int).toNat IntKind.i64.bits) = 64 := by decide
  rw [e, Int.fdiv_eq_ediv_of_nonneg _ (by omega)]
  omega
theorem and63 {x : Nat} (hx : x < 2 ^ 63) : bits .and .i64 (x : Int) 63 = ((x % 64 : Nat) : Int) := by
  have h := (bits63 (a := x) (b := 63) hx (by decide)).1
  have e : x &&& 63 = x % 64 := Nat.and_two_pow_sub_one_eq_mod x 6
  rw [e] at h
  exact h
theorem shl1 {k : Nat} (hk : k < 64) : shlK .u64 1 (k : Int) = ((1 <<< k : Nat) : Int) := by
  have h : (1 : Nat) < 2 ^ (64 - k) := Nat.one_lt_two_pow (by omega)
  exact shl_u64 (b := 1) h hk
/-- Words of bits for n elements. -/
structure IdW (n : Nat) (s : List Int) : Prop where
  len : s.length = (n + 63) / 64
  rng : ∀ j : Nat, j < s.length → 0 ≤ ix s (j : Int) ∧ ix s (j : Int) < 18446744073709551616
def hasB (s : List Int) (x : Nat) : Bool := ((ix s ((x / 64 : Nat) : Int)).toNat).testBit (x % 64)
theorem IdW.at_ {n : Nat} {s : List Int} (h : IdW n s) {x : Nat} (hx : x < n) : x / 64 < s.length ∧ ∃ m : Nat, m < 2 ^ 64 ∧ ix s ((x / 64 : Nat) : Int) = (m : Int) := by
  have hl : x / 64 < s.length := by have := h.len; omega
  have := h.rng (x / 64) hl
  exact ⟨hl, (ix s ((x / 64 : Nat) : Int)).toNat, by omega, by omega⟩
theorem newIdeal_ok {n : Nat} (hn : n ≤ 400) {K : List Int → Prop} (h : ∀ s, IdW n s → (∀ x, hasB s x = false) → K s) : green_newIdeal (n : Int) K := by
  unfold green_newIdeal
  have e : ((n : Int) + 63).tdiv 64 = (((n + 63) / 64 : Nat) : Int) := by
    rw [Int.tdiv_eq_ediv_of_nonneg (by omega)]; omega
  rw [e]
  refine ⟨⟨by omega, by omega⟩, ⟨by omega, by omega⟩, by omega, by omega, h _ ⟨by simp; omega, fun j hj => ?_⟩ fun x => ?_⟩
  · rw [ix_replicate _ _ (by simpa using hj)]; omega
  · have : ix (List.replicate (((n + 63) / 64 : Nat) : Int).toNat (0 : Int)) ((x / 64 : Nat) : Int) = 0 := by
      simp only [ix, List.getD_eq_getElem?_getD, List.getElem?_replicate]
      split <;> rfl
    unfold hasB
    rw [this]
    simp
theorem has_ok {n : Nat} (hn : n ≤ 400) {s : List Int} (hs : IdW n s) {x : Nat} (hx : x < n) {K : Bool → Prop} (h : K (hasB s x)) : green_ideal_has s (x : Int) K := by
  unfold green_ideal_has
  obtain ⟨hl, m, hm, he⟩ := hs.at_ hx
  rw [sh6, and63 (by omega)]
  refine ⟨by omega, by omega, by omega, ?_⟩
  unfold hasB at h
  rw [he] at h ⊢
  rw [bit_u64 hm (by omega)]
  rw [Int.toNat_natCast] at h
  cases hb : m.testBit (x % 64) with
  | true => rw [hb] at h; rw [if_pos (by decide)]; exact h
  | false => rw [hb] at h; rw [if_neg (by decide)]; exact h
/-- The set with an element more. -/
def addB (s : List Int) (x : Nat) : List Int := st s ((x / 64 : Nat) : Int) (bits .or .u64 (ix s ((x / 64 : Nat) : Int)) ((1 <<< (x % 64) : Nat) : Int))
theorem addB_W {n : Nat} {s : List Int} (h : IdW n s) {x : Nat} (hx : x < n) : IdW n (addB s x) := by
  obtain ⟨hl, m, hm, he⟩ := h.at_ hx
  have h1 : (1 <<< (x % 64) : Nat) < 2 ^ 64 := by rw [Nat.shiftLeft_eq, Nat.one_mul]; exact Nat.pow_lt_pow_right (by omega) (Nat.mod_lt _ (by omega))
  refine ⟨by unfold addB; rw [st_length]; exact h.len, fun j hj => ?_⟩
  unfold addB at hj ⊢
  rw [st_length] at hj
  rw [ix_st _ (by omega) (by omega) (by omega)]
  split
  · rw [he, (bits64 hm h1).2]
    have := Nat.or_lt_two_pow hm h1
    omega
  · exact h.rng j hj
theorem addB_has {n : Nat} {s : List Int} (h : IdW n s) {x : Nat} (hx : x < n) {y : Nat} : hasB (addB s x) y = (hasB s y || decide (y = x)) := by
  obtain ⟨hl, m, hm, he⟩ := h.at_ hx
  have h1 : (1 <<< (x % 64) : Nat) < 2 ^ 64 := by rw [Nat.shiftLeft_eq, Nat.one_mul]; exact Nat.pow_lt_pow_right (by omega) (Nat.mod_lt _ (by omega))
  unfold hasB addB
  rw [ix_st _ (by omega) (by omega) (by omega)]
  by_cases hxy : y / 64 = x / 64
  · rw [if_pos (by omega), hxy, he, (bits64 hm h1).2, Int.toNat_natCast, Int.toNat_natCast, Nat.testBit_or]
    congr 1
    rw [Nat.one_shiftLeft, Nat.testBit_two_pow]
    have e1 := Nat.mod_lt y (y := 64) (by omega)
    have e2 := Nat.div_add_mod y 64
    have e3 := Nat.div_add_mod x 64
    by_cases hm' : x % 64 = y % 64
    · rw [decide_eq_true hm', decide_eq_true (by omega)]
    · rw [decide_eq_false hm', decide_eq_false (by omega)]
  · rw [if_neg (by omega)]
    have : ¬ y = x := fun hh => hxy (by rw [hh])
    simp [this]
theorem uniW {n : Nat} {s u : List Int} (h : IdW n s) (k : IdW n u) {j : Nat} (hj : j < s.length) : 0 ≤ bits .or .u64 (ix s (j : Int)) (ix u (j : Int)) ∧ bits .or .u64 (ix s (j : Int)) (ix u (j : Int)) < 18446744073709551616 ∧
    ∀ b : Nat, ((bits .or .u64 (ix s (j : Int)) (ix u (j : Int))).toNat).testBit b = ((ix s (j : Int)).toNat.testBit b || (ix u (j : Int)).toNat.testBit b) := by
  have h1 := h.rng j hj
  have h2 := k.rng j (by have := h.len; have := k.len; omega)
  obtain ⟨m, hm⟩ := Int.eq_ofNat_of_zero_le h1.1
  obtain ⟨q, hq⟩ := Int.eq_ofNat_of_zero_le h2.1
  have hm1 : m < 2 ^ 64 := by omega
  have hq1 : q < 2 ^ 64 := by omega
  rw [hm, hq]
  have e := (bits64 hm1 hq1).2
  have := Nat.or_lt_two_pow hm1 hq1
  rw [e]
  exact ⟨by omega, by omega, fun b => by rw [Int.toNat_natCast, Int.toNat_natCast, Int.toNat_natCast, Nat.testBit_or]⟩

/-! ### The ideals of all elements -/
/-- r holds for each y the set of x with le x y. -/
structure IdF (n : Nat) (r : List (List Int)) (le : Nat → Nat → Prop) : Prop where
  len : r.length = n
  wd : ∀ y : Nat, y < n → IdW n (ix r (y : Int))
  has : ∀ x y : Nat, x < n → y < n → (hasB (ix r (y : Int)) x = true ↔ le x y)
def leR (t : List (List Int)) (x y : Nat) : Prop := x = y ∨ ∃ s : Nat, s < t.length ∧ mu t (y : Int) (s : Int) = (x : Int)
def leL (t : List (List Int)) (x y : Nat) : Prop := x = y ∨ ∃ s : Nat, s < t.length ∧ mu t (s : Int) (y : Int) = (x : Int)
def leJ (t : List (List Int)) (x y : Nat) : Prop := ∃ z : Nat, z < t.length ∧ leL t z y ∧ leR t x z
/-- What the loops keep: rows below k are done. -/
structure IdK (n k : Nat) (r : List (List Int)) (le : Nat → Nat → Prop) : Prop where
  len : r.length = n
  wd : ∀ y : Nat, y < k → IdW n (ix r (y : Int))
  has : ∀ x y : Nat, x < n → y < k → (hasB (ix r (y : Int)) x = true ↔ le x y)
theorem IdK.put {n k : Nat} {r : List (List Int)} {le : Nat → Nat → Prop} (h : IdK n k r le) (hk : k < n) {s : List Int} (hs : IdW n s) (hh : ∀ x : Nat, x < n → (hasB s x = true ↔ le x k)) : IdK n (k + 1) (st r (k : Int) s) le := by
  have e : ∀ y : Nat, ix (st r (k : Int) s) (y : Int) = if y = k then s else ix r (y : Int) := fun y => by
    rw [ix_st _ (by omega) (by rw [h.len]; omega) (by omega)]
    by_cases hy : y = k
    · rw [if_pos (by omega), if_pos hy]
    · rw [if_neg (by omega), if_neg hy]
  refine ⟨by rw [st_length]; exact h.len, fun y hy => ?_, fun x y hx hy => ?_⟩
  · rw [e]; split
    · exact hs
    · exact h.wd y (by omega)
  · rw [e]; split
    · rename_i hyk; subst hyk; exact hh x hx
    · exact h.has x y hx (by omega)
theorem IdK.fin {n : Nat} {r : List (List Int)} {le : Nat → Nat → Prop} (h : IdK n n r le) : IdF n r le := ⟨h.len, h.wd, fun x y hx hy => h.has x y hx hy⟩
theorem IdK.start {n : Nat} {le : Nat → Nat → Prop} : IdK n 0 (List.replicate n ([] : List Int)) le := ⟨by simp, fun y hy => by omega, fun x y hx hy => by omega⟩
theorem st_st {α : Type} [Inhabited α] {xs : List α} {i : Int} {u v : α} : st (st xs i u) i v = st xs i v := by simp [st]
theorem ix_st_same {α : Type} [Inhabited α] {xs : List α} {k : Nat} {u : α} (h : k < xs.length) : ix (st xs (k : Int) u) (k : Int) = u := by
  rw [ix_st _ (by omega) (by omega) (by omega), if_pos rfl]
theorem rightIdeals_ok {t : List (List Int)} (ht : SH t = true) {K : List (List Int) → Prop} (h : ∀ r, IdF t.length r (leR t) → K r) : green_rightIdeals t K := by
  have T := SH.tb ht
  have n4 := T.n4
  unfold green_rightIdeals
  refine fun _ => ⟨by omega, by omega, LoopWP.fold t.length (fun k (r : List (List Int)) => IdK t.length k r (leR t)) IdK.start ?_⟩
  rintro k r X hk hI hX
  show green_rightIdeals_L1 t K _ k r
  unfold green_rightIdeals_L1
  have hlen := hI.len
  split
  · rename_i hkt
    have hkt' : k < t.length := by omega
    have hrow := T.row (k : Int) (by omega) (by omega)
    refine ⟨by omega, by omega, newIdeal_ok n4 fun s0 hs0 h0 => ?_⟩
    obtain ⟨hl0, _⟩ := hs0.at_ hkt'
    rw [ix_st_same (by omega), sh6, and63 (by omega), shl1 (Nat.mod_lt _ (by omega))]
    refine ⟨by omega, by omega, by omega, by rw [st_length]; omega, by omega, by omega, by omega, by omega, by omega, fun _ => ?_⟩
    refine LoopWP.fold (ix t (k : Int)).length (fun m (q : List (List Int)) => ∃ s, q = st r (k : Int) s ∧ IdW t.length s ∧ ∀ x : Nat, x < t.length → (hasB s x = true ↔ x = k ∨ ∃ j : Nat, j < m ∧ mu t (k : Int) (j : Int) = (x : Int))) ⟨addB s0 k, by rw [st_st]; rfl, addB_W hs0 hkt', fun x hx => ?_⟩ ?_
    · rw [addB_has hs0 hkt', h0]
      simp only [Bool.false_or, decide_eq_true_eq]
      exact ⟨.inl, fun hh => hh.resolve_right fun ⟨j, hj, _⟩ => absurd hj (Nat.not_lt_zero _)⟩
    rintro m q X2 hm ⟨s, rfl, hs, hh⟩ hX2
    show green_rightIdeals_L2 t k _ K _ m _
    unfold green_rightIdeals_L2
    rw [ix_st_same (by omega)]
    split
    · rename_i hmt
      have hml : (m : Int) < t.length := by omega
      have hb := T.mu (x := (k : Int)) (y := (m : Int)) (by omega) (by omega) (by omega) hml
      obtain ⟨z, hz⟩ := Int.eq_ofNat_of_zero_le hb.1
      have hzl : z < t.length := by omega
      have hz' : ix (ix t (k : Int)) (m : Int) = (z : Int) := hz
      obtain ⟨hl1, _⟩ := hs.at_ hzl
      rw [hz', sh6, and63 (by omega), shl1 (Nat.mod_lt _ (by omega))]
      refine ⟨by omega, by omega, by omega, by rw [st_length]; omega, by omega, by omega, by omega, by omega, by omega, hX2 _ (by omega) ⟨addB s z, by rw [st_st]; rfl, addB_W hs hzl, fun x hx => ?_⟩⟩
      rw [addB_has hs hzl, Bool.or_eq_true, hh x hx, decide_eq_true_eq]
      constructor
      · rintro ((h1 | ⟨j, hj, h1⟩) | h1)
        · exact .inl h1
        · exact .inr ⟨j, by omega, h1⟩
        · exact .inr ⟨m, by omega, by rw [h1]; exact hz⟩
      · rintro (h1 | ⟨j, hj, h1⟩)
        · exact .inl (.inl h1)
        · by_cases hjm : j = m
          · subst hjm; right; rw [hz] at h1; omega
          · exact .inl (.inr ⟨j, by omega, h1⟩)
    · rename_i hmt
      obtain rfl : m = (ix t (k : Int)).length := by omega
      refine hX _ hkt' (hI.put hkt' hs fun x hx => ?_)
      rw [hh x hx, hrow]
      rfl
  · obtain rfl : k = t.length := by omega
    exact h r hI.fin
theorem leftIdeals_ok {t : List (List Int)} (ht : SH t = true) {K : List (List Int) → Prop} (h : ∀ r, IdF t.length r (leL t) → K r) : green_leftIdeals t K := by
  have T := SH.tb ht
  have n4 := T.n4
  unfold green_leftIdeals
  refine fun _ => ⟨by omega, by omega, LoopWP.fold t.length (fun k (r : List (List Int)) => IdK t.length k r (leL t)) IdK.start ?_⟩
  rintro k r X hk hI hX
  show green_leftIdeals_L1 t K _ k r
  unfold green_leftIdeals_L1
  have hlen := hI.len
  split
  · rename_i hkt
    have hkt' : k < t.length := by omega
    refine newIdeal_ok n4 fun s0 hs0 h0 => ?_
    obtain ⟨hl0, _⟩ := hs0.at_ hkt'
    rw [ix_st_same (by omega), sh6, and63 (by omega), shl1 (Nat.mod_lt _ (by omega))]
    refine ⟨by omega, by omega, by omega, by rw [st_length]; omega, by omega, by omega, by omega, by omega, by omega, ?_⟩
    refine LoopWP.fold t.length (fun m (q : List (List Int)) => ∃ s, q = st r (k : Int) s ∧ IdW t.length s ∧ ∀ x : Nat, x < t.length → (hasB s x = true ↔ x = k ∨ ∃ j : Nat, j < m ∧ mu t (j : Int) (k : Int) = (x : Int))) ⟨addB s0 k, by rw [st_st]; rfl, addB_W hs0 hkt', fun x hx => ?_⟩ ?_
    · rw [addB_has hs0 hkt', h0]
      simp only [Bool.false_or, decide_eq_true_eq]
      exact ⟨.inl, fun hh => hh.resolve_right fun ⟨j, hj, _⟩ => absurd hj (Nat.not_lt_zero _)⟩
    rintro m q X2 hm ⟨s, rfl, hs, hh⟩ hX2
    show green_leftIdeals_L2 t k _ K _ m _
    unfold green_leftIdeals_L2
    rw [ix_st_same (by omega)]
    split
    · rename_i hmt
      have hml : (m : Int) < t.length := by omega
      have hrow := T.row (m : Int) (by omega) (by omega)
      have hb := T.mu (x := (m : Int)) (y := (k : Int)) (by omega) (by omega) (by omega) (by omega)
      obtain ⟨z, hz⟩ := Int.eq_ofNat_of_zero_le hb.1
      have hzl : z < t.length := by omega
      have hz' : ix (ix t (m : Int)) (k : Int) = (z : Int) := hz
      obtain ⟨hl1, _⟩ := hs.at_ hzl
      rw [hz', sh6, and63 (by omega), shl1 (Nat.mod_lt _ (by omega))]
      refine ⟨by omega, by omega, by omega, by rw [st_length]; omega, by omega, by omega, by omega, by omega, by omega, by omega, by omega, hX2 _ (by omega) ⟨addB s z, by rw [st_st]; rfl, addB_W hs hzl, fun x hx => ?_⟩⟩
      rw [addB_has hs hzl, Bool.or_eq_true, hh x hx, decide_eq_true_eq]
      constructor
      · rintro ((h1 | ⟨j, hj, h1⟩) | h1)
        · exact .inl h1
        · exact .inr ⟨j, by omega, h1⟩
        · exact .inr ⟨m, by omega, by rw [h1]; exact hz⟩
      · rintro (h1 | ⟨j, hj, h1⟩)
        · exact .inl (.inl h1)
        · by_cases hjm : j = m
          · subst hjm; right; rw [hz] at h1; omega
          · exact .inl (.inr ⟨j, by omega, h1⟩)
    · rename_i hmt
      obtain rfl : m = t.length := by omega
      refine hX _ hkt' (hI.put hkt' hs fun x hx => ?_)
      rw [hh x hx]
      rfl
  · obtain rfl : k = t.length := by omega
    exact h r hI.fin
end Sg
