/- -/
import Derived.Test.YtdcibmiaiijjpaaZp
namespace Sg
open Go
set_option linter.unusedVariables false
set_option linter.unusedSimpArgs false
theorem sh6 {x : Nat} : shrK .i64 (x : Int) 6 = ((x / 64 : Nat) : Int) := by
 unfold shrK
 have e : (2 : Int) ^ (min (6 : Int).toNat IntKind.i64.bits) = 64 := by decide
 rw [e, Int.fdiv_eq_ediv_of_nonneg _ (by omega)]
 omega
theorem and63 {x : Nat} (hx : x < 2 ^ 63) : bits .and .i64 (x : Int) 63 = ((x % 64 : Nat) : Int) := by
 have h := (bits63 (a := x) (b := 63) hx (by decide)).1
 have e : x &&& 63 = x % 64 := Nat.and_two_pow_sub_one_eq_mod x 6
 rw [e] at h
 exact h
theorem shl1 {k : Nat} (hk : k < 64) : shlK .u64 1 (k : Int) = ((1 <<< k : Nat) : Int) := by
 have h : (1 : Nat) < 2 ^ (64 - k) := Nat.one_lt_two_pow (by omega)
 exact J6V (b := 1) h hk
structure IdW (n : Nat) (s : List Int) : Prop where
 len : s.length = (n + 63) / 64
 rng : ∀ j : Nat, j < s.length → 0 ≤ ix s (j : Int) ∧ ix s (j : Int) < 18446744073709551616
def hasB (s : List Int) (x : Nat) : Bool := ((ix s ((x / 64 : Nat) : Int)).toNat).testBit (x % 64)
theorem IdW.at_ {n : Nat} {s : List Int} (h : IdW n s) {x : Nat} (hx : x < n) : x / 64 < s.length ∧ ∃ m : Nat, m < 2 ^ 64 ∧ ix s ((x / 64 : Nat) : Int) = (m : Int) := by
 have hl : x / 64 < s.length := by have := h.len; omega
 have := h.rng (x / 64) hl
 exact ⟨hl, (ix s ((x / 64 : Nat) : Int)).toNat, by omega, by omega⟩
theorem J2U {n : Nat} (hn : n ≤ 400) {K : List Int → Prop} (h : ∀ s, IdW n s → (∀ x, hasB s x = false) → K s) : J0k (n : Int) K := by
 unfold J0k
 have e : ((n : Int) + 63).tdiv 64 = (((n + 63) / 64 : Nat) : Int) := by
  rw [Int.tdiv_eq_ediv_of_nonneg (by omega)]; omega
 rw [e]
 refine ⟨⟨by omega, by omega⟩, ⟨by omega, by omega⟩, by omega, by omega, h _ ⟨by simp; omega, fun j hj => ?_⟩ fun x => ?_⟩
 ·rw [J0D _ _ (by simpa using hj)]; omega
 ·have : ix (List.replicate (((n + 63) / 64 : Nat) : Int).toNat (0 : Int)) ((x / 64 : Nat) : Int) = 0 := by
   simp only [ix, List.getD_eq_getElem?_getD, List.getElem?_replicate]
   split <;> rfl
  unfold hasB
  rw [this]
  simp
theorem J5p {n : Nat} (hn : n ≤ 400) {s : List Int} (hs : IdW n s) {x : Nat} (hx : x < n) {K : Bool → Prop} (h : K (hasB s x)) : J0a s (x : Int) K := by
 unfold J0a
 obtain ⟨hl, m, hm, he⟩ := hs.at_ hx
 rw [sh6, and63 (by omega)]
 refine ⟨by omega, by omega, by omega, ?_⟩
 unfold hasB at h
 rw [he] at h ⊢
 rw [J79 hm (by omega)]
 rw [Int.toNat_natCast] at h
 cases hb : m.testBit (x % 64) with
 | true => rw [hb] at h; rw [if_pos (by decide)]; exact h
 | false => rw [hb] at h; rw [if_neg (by decide)]; exact h
def addB (s : List Int) (x : Nat) : List Int := st s ((x / 64 : Nat) : Int) (bits .or .u64 (ix s ((x / 64 : Nat) : Int)) ((1 <<< (x % 64) : Nat) : Int))
theorem J5m {n : Nat} {s : List Int} (h : IdW n s) {x : Nat} (hx : x < n) : IdW n (addB s x) := by
 obtain ⟨hl, m, hm, he⟩ := h.at_ hx
 have h1 : (1 <<< (x % 64) : Nat) < 2 ^ 64 := by rw [Nat.shiftLeft_eq, Nat.one_mul]; exact Nat.pow_lt_pow_right (by omega) (Nat.mod_lt _ (by omega))
 refine ⟨by unfold addB; rw [J02]; exact h.len, fun j hj => ?_⟩
 unfold addB at hj ⊢
 rw [J02] at hj
 rw [ix_st _ (by omega) (by omega) (by omega)]
 split
 ·rw [he, (bits64 hm h1).2]
  have := Nat.or_lt_two_pow hm h1
  omega
 ·exact h.rng j hj
theorem J3N {n : Nat} {s : List Int} (h : IdW n s) {x : Nat} (hx : x < n) {y : Nat} : hasB (addB s x) y = (hasB s y || decide (y = x)) := by
 obtain ⟨hl, m, hm, he⟩ := h.at_ hx
 have h1 : (1 <<< (x % 64) : Nat) < 2 ^ 64 := by rw [Nat.shiftLeft_eq, Nat.one_mul]; exact Nat.pow_lt_pow_right (by omega) (Nat.mod_lt _ (by omega))
 unfold hasB addB
 rw [ix_st _ (by omega) (by omega) (by omega)]
 by_cases hxy : y / 64 = x / 64
 ·rw [if_pos (by omega), hxy, he, (bits64 hm h1).2, Int.toNat_natCast, Int.toNat_natCast, Nat.testBit_or]
  congr 1
  rw [Nat.one_shiftLeft, Nat.testBit_two_pow]
  have e1 := Nat.mod_lt y (y := 64) (by omega)
  have e2 := Nat.div_add_mod y 64
  have e3 := Nat.div_add_mod x 64
  by_cases hm' : x % 64 = y % 64
  ·rw [decide_eq_true hm', decide_eq_true (by omega)]
  ·rw [decide_eq_false hm', decide_eq_false (by omega)]
 ·rw [if_neg (by omega)]
  have : ¬ y = x := fun hh => hxy (by rw [hh])
  simp [this]
theorem uniW {n : Nat} {s u : List Int} (h : IdW n s) (k : IdW n u) {j : Nat} (hj : j < s.length) : 0 ≤ bits .or .u64 (ix s (j : Int)) (ix u (j : Int)) ∧ bits .or .u64 (ix s (j : Int)) (ix u (j : Int)) < 18446744073709551616 ∧
  ∀ b : Nat, ((bits .or .u64 (ix s (j : Int)) (ix u (j : Int))).toNat).testBit b = ((ix s (j : Int)).toNat.testBit b || (ix u (j : Int)).toNat.testBit b) := by
 have h1 := h.rng j hj
 have h2 := k.rng j (by have := h.len; have := k.len; omega)
 obtain ⟨m, hm⟩ := Int.eq_ofNat_of_zero_le h1.1
 obtain ⟨q, hq⟩ := Int.eq_ofNat_of_zero_le h2.1
 have hm1 : m < 2 ^ 64 := by omega
 have hq1 : q < 2 ^ 64 := by omega
 rw [hm, hq]
 have e := (bits64 hm1 hq1).2
 have := Nat.or_lt_two_pow hm1 hq1
 rw [e]
 exact ⟨by omega, by omega, fun b => by rw [Int.toNat_natCast, Int.toNat_natCast, Int.toNat_natCast, Nat.testBit_or]⟩
structure IdF (n : Nat) (r : List (List Int)) (le : Nat → Nat → Prop) : Prop where
 len : r.length = n
 wd : ∀ y : Nat, y < n → IdW n (ix r (y : Int))
 has : ∀ x y : Nat, x < n → y < n → (hasB (ix r (y : Int)) x = true ↔ le x y)
def leR (t : List (List Int)) (x y : Nat) : Prop := x = y ∨ ∃ s : Nat, s < t.length ∧ mu t (y : Int) (s : Int) = (x : Int)
def leL (t : List (List Int)) (x y : Nat) : Prop := x = y ∨ ∃ s : Nat, s < t.length ∧ mu t (s : Int) (y : Int) = (x : Int)
def leJ (t : List (List Int)) (x y : Nat) : Prop := ∃ z : Nat, z < t.length ∧ leL t z y ∧ leR t x z
structure IdK (n k : Nat) (r : List (List Int)) (le : Nat → Nat → Prop) : Prop where
 len : r.length = n
 wd : ∀ y : Nat, y < k → IdW n (ix r (y : Int))
 has : ∀ x y : Nat, x < n → y < k → (hasB (ix r (y : Int)) x = true ↔ le x y)
theorem IdK.put {n k : Nat} {r : List (List Int)} {le : Nat → Nat → Prop} (h : IdK n k r le) (hk : k < n) {s : List Int} (hs : IdW n s) (hh : ∀ x : Nat, x < n → (hasB s x = true ↔ le x k)) : IdK n (k + 1) (st r (k : Int) s) le := by
 have e : ∀ y : Nat, ix (st r (k : Int) s) (y : Int) = if y = k then s else ix r (y : Int) := fun y => by
  rw [ix_st _ (by omega) (by rw [h.len]; omega) (by omega)]
  by_cases hy : y = k
  ·rw [if_pos (by omega), if_pos hy]
  ·rw [if_neg (by omega), if_neg hy]
 refine ⟨by rw [J02]; exact h.len, fun y hy => ?_, fun x y hx hy => ?_⟩
 ·rw [e]; split
  ·exact hs
  ·exact h.wd y (by omega)
 ·rw [e]; split
  ·rename_i hyk; subst hyk; exact hh x hx
  ·exact h.has x y hx (by omega)
theorem IdK.fin {n : Nat} {r : List (List Int)} {le : Nat → Nat → Prop} (h : IdK n n r le) : IdF n r le := ⟨h.len, h.wd, fun x y hx hy => h.has x y hx hy⟩
theorem IdK.start {n : Nat} {le : Nat → Nat → Prop} : IdK n 0 (List.replicate n ([] : List Int)) le := ⟨by simp, fun y hy => by omega, fun x y hx hy => by omega⟩
theorem st_st {α : Type} [Inhabited α] {xs : List α} {i : Int} {u v : α} : st (st xs i u) i v = st xs i v := by simp [st]
theorem J0I {α : Type} [Inhabited α] {xs : List α} {k : Nat} {u : α} (h : k < xs.length) : ix (st xs (k : Int) u) (k : Int) = u := by
 rw [ix_st _ (by omega) (by omega) (by omega), if_pos rfl]
theorem J48 {t : List (List Int)} (ht : SH t = true) {K : List (List Int) → Prop} (h : ∀ r, IdF t.length r (leR t) → K r) : J0p t K := by
 have T := SH.tb ht
 have n4 := T.n4
 unfold J0p
 refine fun _ => ⟨by omega, by omega, LoopWP.fold t.length (fun k (r : List (List Int)) => IdK t.length k r (leR t)) IdK.start ?_⟩
 rintro k r X hk hI hX
 show J0P t K _ k r
 unfold J0P
 have hlen := hI.len
 split
 ·rename_i hkt
  have hkt' : k < t.length := by omega
  have hrow := T.row (k : Int) (by omega) (by omega)
  refine ⟨by omega, by omega, J2U n4 fun s0 hs0 h0 => ?_⟩
  obtain ⟨hl0, _⟩ := hs0.at_ hkt'
  rw [J0I (by omega), sh6, and63 (by omega), shl1 (Nat.mod_lt _ (by omega))]
  refine ⟨by omega, by omega, by omega, by rw [J02]; omega, by omega, by omega, by omega, by omega, by omega, fun _ => ?_⟩
  refine LoopWP.fold (ix t (k : Int)).length (fun m (q : List (List Int)) => ∃ s, q = st r (k : Int) s ∧ IdW t.length s ∧ ∀ x : Nat, x < t.length → (hasB s x = true ↔ x = k ∨ ∃ j : Nat, j < m ∧ mu t (k : Int) (j : Int) = (x : Int))) ⟨addB s0 k, by rw [st_st]; rfl, J5m hs0 hkt', fun x hx => ?_⟩ ?_
  ·rw [J3N hs0 hkt', h0]
   simp only [Bool.false_or, decide_eq_true_eq]
   exact ⟨.inl, fun hh => hh.resolve_right fun ⟨j, hj, _⟩ => absurd hj (Nat.not_lt_zero _)⟩
  rintro m q X2 hm ⟨s, rfl, hs, hh⟩ hX2
  show J0M t k _ K _ m _
  unfold J0M
  rw [J0I (by omega)]
  split
  ·rename_i hmt
   have hml : (m : Int) < t.length := by omega
   have hb := T.mu (x := (k : Int)) (y := (m : Int)) (by omega) (by omega) (by omega) hml
   obtain ⟨z, hz⟩ := Int.eq_ofNat_of_zero_le hb.1
   have hzl : z < t.length := by omega
   have hz' : ix (ix t (k : Int)) (m : Int) = (z : Int) := hz
   obtain ⟨hl1, _⟩ := hs.at_ hzl
   rw [hz', sh6, and63 (by omega), shl1 (Nat.mod_lt _ (by omega))]
   refine ⟨by omega, by omega, by omega, by rw [J02]; omega, by omega, by omega, by omega, by omega, by omega, hX2 _ (by omega) ⟨addB s z, by rw [st_st]; rfl, J5m hs hzl, fun x hx => ?_⟩⟩
   rw [J3N hs hzl, Bool.or_eq_true, hh x hx, decide_eq_true_eq]
   constructor
   ·rintro ((h1 | ⟨j, hj, h1⟩) | h1)
    ·exact .inl h1
    ·exact .inr ⟨j, by omega, h1⟩
    ·exact .inr ⟨m, by omega, by rw [h1]; exact hz⟩
   ·rintro (h1 | ⟨j, hj, h1⟩)
    ·exact .inl (.inl h1)
    ·by_cases hjm : j = m
     ·subst hjm; right; rw [hz] at h1; omega
     ·exact .inl (.inr ⟨j, by omega, h1⟩)
  ·rename_i hmt
   obtain rfl : m = (ix t (k : Int)).length := by omega
   refine hX _ hkt' (hI.put hkt' hs fun x hx => ?_)
   rw [hh x hx, hrow]
   rfl
 ·obtain rfl : k = t.length := by omega
  exact h r hI.fin
theorem J4G {t : List (List Int)} (ht : SH t = true) {K : List (List Int) → Prop} (h : ∀ r, IdF t.length r (leL t) → K r) : J0u t K := by
 have T := SH.tb ht
 have n4 := T.n4
 unfold J0u
 refine fun _ => ⟨by omega, by omega, LoopWP.fold t.length (fun k (r : List (List Int)) => IdK t.length k r (leL t)) IdK.start ?_⟩
 rintro k r X hk hI hX
 show J12 t K _ k r
 unfold J12
 have hlen := hI.len
 split
 ·rename_i hkt
  have hkt' : k < t.length := by omega
  refine J2U n4 fun s0 hs0 h0 => ?_
  obtain ⟨hl0, _⟩ := hs0.at_ hkt'
  rw [J0I (by omega), sh6, and63 (by omega), shl1 (Nat.mod_lt _ (by omega))]
  refine ⟨by omega, by omega, by omega, by rw [J02]; omega, by omega, by omega, by omega, by omega, by omega, ?_⟩
  refine LoopWP.fold t.length (fun m (q : List (List Int)) => ∃ s, q = st r (k : Int) s ∧ IdW t.length s ∧ ∀ x : Nat, x < t.length → (hasB s x = true ↔ x = k ∨ ∃ j : Nat, j < m ∧ mu t (j : Int) (k : Int) = (x : Int))) ⟨addB s0 k, by rw [st_st]; rfl, J5m hs0 hkt', fun x hx => ?_⟩ ?_
  ·rw [J3N hs0 hkt', h0]
   simp only [Bool.false_or, decide_eq_true_eq]
   exact ⟨.inl, fun hh => hh.resolve_right fun ⟨j, hj, _⟩ => absurd hj (Nat.not_lt_zero _)⟩
  rintro m q X2 hm ⟨s, rfl, hs, hh⟩ hX2
  show J13 t k _ K _ m _
  unfold J13
  rw [J0I (by omega)]
  split
  ·rename_i hmt
   have hml : (m : Int) < t.length := by omega
   have hrow := T.row (m : Int) (by omega) (by omega)
   have hb := T.mu (x := (m : Int)) (y := (k : Int)) (by omega) (by omega) (by omega) (by omega)
   obtain ⟨z, hz⟩ := Int.eq_ofNat_of_zero_le hb.1
   have hzl : z < t.length := by omega
   have hz' : ix (ix t (m : Int)) (k : Int) = (z : Int) := hz
   obtain ⟨hl1, _⟩ := hs.at_ hzl
   rw [hz', sh6, and63 (by omega), shl1 (Nat.mod_lt _ (by omega))]
   refine ⟨by omega, by omega, by omega, by rw [J02]; omega, by omega, by omega, by omega, by omega, by omega, by omega, by omega, hX2 _ (by omega) ⟨addB s z, by rw [st_st]; rfl, J5m hs hzl, fun x hx => ?_⟩⟩
   rw [J3N hs hzl, Bool.or_eq_true, hh x hx, decide_eq_true_eq]
   constructor
   ·rintro ((h1 | ⟨j, hj, h1⟩) | h1)
    ·exact .inl h1
    ·exact .inr ⟨j, by omega, h1⟩
    ·exact .inr ⟨m, by omega, by rw [h1]; exact hz⟩
   ·rintro (h1 | ⟨j, hj, h1⟩)
    ·exact .inl (.inl h1)
    ·by_cases hjm : j = m
     ·subst hjm; right; rw [hz] at h1; omega
     ·exact .inl (.inr ⟨j, by omega, h1⟩)
  ·rename_i hmt
   obtain rfl : m = t.length := by omega
   refine hX _ hkt' (hI.put hkt' hs fun x hx => ?_)
   rw [hh x hx]
   rfl
 ·obtain rfl : k = t.length := by omega
  exact h r hI.fin
end Sg
namespace Sg
open Go
set_option linter.unusedVariables false
set_option linter.unusedSimpArgs false
theorem J51 {n : Nat} (n4 : n ≤ 400) {right left : List (List Int)} {eR eL : Nat → Nat → Prop} (hR : IdF n right eR) (hL : IdF n left eL) {K : List (List Int) → Prop} (h : ∀ r, IdF n r (fun x y => ∃ z : Nat, z < n ∧ eL z y ∧ eR x z) → K r) : J0U right left K := by
 have hrl := hR.len
 have hll := hL.len
 unfold J0U
 rw [hrl]
 refine fun _ => ⟨by omega, by omega, LoopWP.fold n (fun k (r : List (List Int)) => IdK n k r (fun x y => ∃ z : Nat, z < n ∧ eL z y ∧ eR x z)) IdK.start ?_⟩
 rintro k r X hk hI hX
 show J1r right left K _ k r
 unfold J1r
 have hlen := hI.len
 rw [List.length_replicate, hrl]
 split
 ·have hkt' : k < n := by omega
  refine J2U n4 fun s0 hs0 h0 => ⟨by omega, by omega, ?_⟩
  refine LoopWP.fold n (fun m (q : List (List Int)) => ∃ s, q = st r (k : Int) s ∧ IdW n s ∧ ∀ x : Nat, x < n → (hasB s x = true ↔ ∃ z : Nat, z < m ∧ eL z k ∧ eR x z)) ⟨s0, rfl, hs0, fun x hx => ?_⟩ ?_
  ·rw [h0]
   exact ⟨(fun hh => by cases hh), fun ⟨j, hj, _⟩ => absurd hj (Nat.not_lt_zero _)⟩
  rintro m q X2 hm ⟨s, rfl, hs, hh⟩ hX2
  show J1n right left k _ K _ m _
  unfold J1n
  rw [hrl]
  split
  ·have hml : m < n := by omega
   refine ⟨by omega, by omega, J5p n4 (hL.wd k hkt') hml ?_⟩
   have hq := hL.has m k hml hkt'
   split
   ·rename_i hb
    have hu := hR.wd m hml
    refine ⟨by omega, by rw [J02]; omega, by omega, by omega, ?_⟩
    refine LoopWP.fold s.length (fun w (d : List (List Int)) => ∃ s', d = st r (k : Int) s' ∧ s'.length = s.length ∧ (∀ j : Nat, j < w → ix s' (j : Int) = bits .or .u64 (ix s (j : Int)) (ix (ix right (m : Int)) (j : Int))) ∧ ∀ j : Nat, w ≤ j → ix s' (j : Int) = ix s (j : Int)) ⟨s, rfl, rfl, fun j hj => by omega, fun j hj => rfl⟩ ?_
    rintro w d X3 hw ⟨s', rfl, hl', hlo, hhi⟩ hX3
    show J1k right k m _ _ K _ w _
    unfold J1k
    rw [J0I (by omega), J0I (by omega)]
    have hsl := hs.len
    have hul := hu.len
    split
    ·rename_i hws
     refine ⟨by omega, by omega, by rw [J02]; omega, by omega, by omega, by omega, by omega, by omega, by rw [J02]; omega, by omega, ⟨by omega, by omega⟩, hX3 _ (by omega) ⟨_, st_st, by rw [J02]; exact hl', fun j hj => ?_, fun j hj => ?_⟩⟩
     ·rw [ix_st _ (by omega) (by omega) (by omega)]
      by_cases hjw : j = w
      ·subst hjw; rw [if_pos rfl, hhi j (Nat.le_refl _)]
      ·rw [if_neg (by omega)]; exact hlo j (by omega)
     ·rw [ix_st _ (by omega) (by omega) (by omega), if_neg (by omega)]; exact hhi j (by omega)
    ·obtain rfl : w = s.length := by omega
     refine hX2 _ (by omega) ⟨s', rfl, ⟨by rw [hl']; exact hs.len, fun j hj => ?_⟩, fun x hx => ?_⟩
     ·rw [hlo j (by omega)]
      have := uniW hs hu (j := j) (by omega)
      exact ⟨this.1, this.2.1⟩
     ·obtain ⟨hxl, _⟩ := hs.at_ hx
      have e1 : hasB s' x = (hasB s x || hasB (ix right (m : Int)) x) := by
       unfold hasB
       rw [hlo (x / 64) hxl]
       exact (uniW hs hu hxl).2.2 (x % 64)
      rw [e1, Bool.or_eq_true, hh x hx, hR.has x m hx hml]
      constructor
      ·rintro (⟨z, hz, h1⟩ | h1)
       ·exact ⟨z, by omega, h1⟩
       ·exact ⟨m, by omega, hq.1 hb, h1⟩
      ·rintro ⟨z, hz, h1, h2⟩
       by_cases hzm : z = m
       ·subst hzm; exact .inr h2
       ·exact .inl ⟨z, by omega, h1, h2⟩
   ·rename_i hb
    refine hX2 _ (by omega) ⟨s, rfl, hs, fun x hx => ?_⟩
    rw [hh x hx]
    constructor
    ·rintro ⟨z, hz, h1⟩; exact ⟨z, by omega, h1⟩
    ·rintro ⟨z, hz, h1, h2⟩
     by_cases hzm : z = m
     ·subst hzm; exact absurd (hq.2 h1) hb
     ·exact ⟨z, by omega, h1, h2⟩
  ·obtain rfl : m = n := by omega
   exact ⟨⟨by omega, by omega⟩, hX _ hkt' (hI.put hkt' hs hh)⟩
 ·obtain rfl : k = n := by omega
  exact h r hI.fin
structure PartOf (p : List Int) (n : Nat) (e : Nat → Nat → Prop) : Prop where
 len : p.length = n
 can : CanP p
 ker : ∀ i j : Nat, i < n → j < n → (ix p (i : Int) = ix p (j : Int) ↔ e i j)
theorem PartOf.uniq {p q : List Int} {n : Nat} {e e' : Nat → Nat → Prop} (hp : PartOf p n e) (hq : PartOf q n e') (h : ∀ i j : Nat, i < n → j < n → (e i j ↔ e' i j)) : p = q := by
 have h1 := hp.len
 have h2 := hq.len
 exact (IsCan.self hp.can).uniq (IsCan.self hq.can) (by omega) fun i j hi hj => by rw [hp.ker i j (by omega) (by omega), hq.ker i j (by omega) (by omega)]; exact h i j (by omega) (by omega)
theorem IsCan.part {κ : Type} [Inhabited κ] {p : List Int} {l : List κ} {n : Nat} {e : Nat → Nat → Prop} (h : IsCan p l) (hl : l.length = n) (he : ∀ i j : Nat, i < n → j < n → (ix l (i : Int) = ix l (j : Int) ↔ e i j)) : PartOf p n e :=
 ⟨h.len.trans hl, h.can, fun i j hi hj => (h.ker i j (by omega) (by omega)).trans (he i j hi hj)⟩
theorem CanP.le {p : List Int} (hp : CanP p) : ∀ k : Nat, k < p.length → ix p (k : Int) ≤ (k : Int) := by
  intro k
  induction k using Nat.strongRecOn with
  | _ k ih =>
    intro hk
    by_cases h0 : ix p (k : Int) ≤ 0
    · omega
    · obtain ⟨j, hj, he⟩ := (hp k hk).2 (ix p (k : Int) - 1) (by omega) (by omega)
      have := ih j hj (by omega); omega
structure Lst (e : Nat → Nat → Prop) (l : List Int) (k : Nat) : Prop where
 at_ : ∀ j : Nat, j < k → ∃ m : Nat, m ≤ j ∧ ix l (j : Int) = (m : Int) ∧ e m j ∧ ∀ i : Nat, i < m → ¬ e i j
theorem Lst.ker {e : Nat → Nat → Prop} {l : List Int} {n : Nat} (h : Lst e l n) (hs : ∀ i j : Nat, i < n → j < n → e i j → e j i) (ht : ∀ i j k : Nat, i < n → j < n → k < n → e i j → e j k → e i k) (i j : Nat) (hi : i < n) (hj : j < n) : ix l (i : Int) = ix l (j : Int) ↔ e i j := by
 obtain ⟨a, ha, ea, fa, ga⟩ := h.at_ i hi
 obtain ⟨b, hb, eb, fb, gb⟩ := h.at_ j hj
 rw [ea, eb]
 constructor
 ·intro hab
  obtain rfl : a = b := by omega
  exact ht i a j hi (by omega) hj (hs a i (by omega) hi fa) fb
 ·intro hij
  rcases Nat.lt_trichotomy a b with hab | hab | hab
  ·exact absurd (ht a i j (by omega) hi hj fa hij) (gb a hab)
  ·rw [hab]
  ·exact absurd (ht b j i (by omega) hj hi fb (hs i j hi hj hij)) (ga b hab)
theorem Lst.put {e : Nat → Nat → Prop} {l : List Int} {n k m : Nat} (h : Lst e l k) (hl : l.length = n) (hk : k < n) (hm : m ≤ k) (he : e m k) (hn : ∀ i : Nat, i < m → ¬ e i k) : Lst e (st l (k : Int) (m : Int)) (k + 1) := by
 refine ⟨fun j hj => ?_⟩
 rw [ix_st _ (by omega) (by omega) (by omega)]
 by_cases hjk : j = k
 ·subst hjk; rw [if_pos rfl]; exact ⟨m, hm, rfl, he, hn⟩
 ·rw [if_neg (by omega)]; exact h.at_ j (by omega)
theorem J1U {n : Nat} (n4 : n ≤ 400) {r : List (List Int)} {le : Nat → Nat → Prop} (hr : IdF n r le) (hrf : ∀ i : Nat, i < n → le i i) (htr : ∀ i j k : Nat, i < n → j < n → k < n → le i j → le j k → le i k)
  {K : List Int → Prop} (h : ∀ p, PartOf p n (fun i j => le i j ∧ le j i) → K p) : J0E r K := by
 have hrl := hr.len
 unfold J0E
 rw [hrl]
 refine fun _ => ⟨by omega, by omega, LoopWP.fold n (fun k (c : List Int) => c.length = n ∧ Lst (fun i j => le i j ∧ le j i) c k) ⟨by simp, ⟨fun j hj => by omega⟩⟩ ?_⟩
 rintro k c X hk ⟨hl, hI⟩ hX
 show J1R r K _ k c
 unfold J1R
 rw [hrl]
 split
 ·have hkn : k < n := by omega
  refine ⟨by omega, by omega, ?_⟩
  refine LoopWP.scan k (fun y => ¬ (le y k ∧ le k y)) ?_
  rintro y X2 hy hno hX2
  show J1X r k c _ K X2 y
  unfold J1X
  rw [hrl]
  split
  ·refine ⟨by omega, by omega, J5p n4 (hr.wd k hkn) (by omega) ?_⟩
   have h1 := hr.has y k (by omega) hkn
   have h2 := hr.has k y hkn (by omega)
   split
   ·rename_i hb
    refine ⟨by omega, by omega, J5p n4 (hr.wd y (by omega)) hkn ?_⟩
    split
    ·rename_i hb2
     refine ⟨by omega, by rw [J02]; omega, hX _ hkn ⟨by rw [J02, J02]; exact hl, ?_⟩⟩
     rw [st_st]
     exact hI.put hl hkn hy ⟨h1.1 hb, h2.1 hb2⟩ hno
    ·rename_i hb2
     exact ⟨⟨by omega, by omega⟩, hX2 (by omega) fun hh => hb2 (h2.2 hh.2)⟩
   ·rename_i hb
    exact ⟨⟨by omega, by omega⟩, hX2 (by omega) fun hh => hb (h1.2 hh.1)⟩
  ·obtain rfl : y = k := by omega
   exact hX _ hkn ⟨by rw [J02]; exact hl, hI.put hl hkn (Nat.le_refl _) ⟨hrf y hkn, hrf y hkn⟩ hno⟩
 ·obtain rfl : k = n := by omega
  exact J2n (by omega) fun p hp => h p (hp.part hl fun i j hi hj => hI.ker (fun i j _ _ hh => ⟨hh.2, hh.1⟩) (fun i j k hi hj hk a b => ⟨htr i j k hi hj hk a.1 b.1, htr k j i hk hj hi b.2 a.2⟩) i j hi hj)
end Sg
namespace Sg
open Go
set_option linter.unusedVariables false
set_option linter.unusedSimpArgs false
theorem J0y {p : List Int} (hp : CanP p) (hl : p.length ≤ 4096) {K : Bool → Prop} (h : K true) : J0b p K := by
 unfold J0b
 intro _
 rw [if_neg (by omega)]
 refine LoopWP.foldR p.length (fun k (c : Nat) => c ≤ k ∧ ∀ v : Int, (0 ≤ v ∧ v < (c : Int)) ↔ ∃ j : Nat, j < k ∧ ix p (j : Int) = v) 0 (by omega) ⟨by omega, fun v => ⟨fun hh => by omega, fun ⟨j, hj, _⟩ => absurd hj (Nat.not_lt_zero _)⟩⟩ ?_
 rintro k c X hk ⟨hck, hI⟩ hX
 show J1f p K _ c k
 unfold J1f
 split
 ·have hkp : k < p.length := by omega
  obtain ⟨p0, p1⟩ := hp k hkp
  have hle : ix p (k : Int) ≤ (c : Int) := by
   by_cases hlt : (c : Int) < ix p (k : Int)
   ·have := (hI (c : Int)).2 (p1 _ (by omega) hlt); omega
   ·omega
  refine ⟨by omega, by omega, ?_⟩
  rw [if_neg (by omega), if_neg (by omega)]
  split
  ·rename_i he
   refine ⟨⟨by omega, by omega⟩, hX _ hkp ⟨by omega, fun v => ?_⟩⟩
   constructor
   ·intro hv
    by_cases hvc : v = (c : Int)
    ·exact ⟨k, by omega, by rw [he, hvc]⟩
    ·obtain ⟨j, hj, hh⟩ := (hI v).1 (by omega); exact ⟨j, by omega, hh⟩
   ·rintro ⟨j, hj, hh⟩
    by_cases hjk : j = k
    ·subst hjk; omega
    ·have := (hI v).2 ⟨j, by omega, hh⟩; omega
  ·rename_i he
   refine hX _ hkp ⟨by omega, fun v => ?_⟩
   rw [hI v]
   constructor
   ·rintro ⟨j, hj, hh⟩; exact ⟨j, by omega, hh⟩
   ·rintro ⟨j, hj, hh⟩
    by_cases hjk : j = k
    ·subst hjk
     exact (hI v).1 (by omega)
    ·exact ⟨j, by omega, hh⟩
 ·exact h
theorem J3g {p : List Int} (hp : CanP p) (hl : p.length ≤ 4096) {K : Int → Prop} (h : ∀ c, IsCnt p c → K c) : J0F p K := by
 unfold J0F
 refine J0y hp hl ?_
 rw [if_pos rfl]
 exact J2M hp hl h
def clsF (p : List Int) (c : Nat) : List (List Int) := (iota c).map fun v => (iota p.length).filter fun i => decide (ix p i = v)
theorem J3c {p : List Int} {c : Nat} : (clsF p c).length = c := by simp [clsF]
theorem J5e {p : List Int} {c v : Nat} (h : v < c) : ix (clsF p c) (v : Int) = (iota p.length).filter fun i => decide (ix p i = (v : Int)) := by
 unfold clsF
 rw [J0V _ (by omega) (by simpa using h), J4s h]
theorem J5s {p : List Int} (hp : CanP p) {c : Int} (hc : IsCnt p c) : c ≤ (p.length : Int) := by
 by_cases h : (p.length : Int) < c
 ·obtain ⟨j, hj, he⟩ := (hc.2 (c - 1)).1 ⟨by omega, by omega⟩
  have := hp.le j hj; omega
 ·omega
theorem J3F {p : List Int} (hp : CanP p) (hl : p.length ≤ 400) {K : List (List Int) → Prop} (h : ∀ c : Nat, IsCnt p c → K (clsF p c)) : J2g p K := by
 unfold J2g
 refine J2M hp (by omega) fun c hc => ?_
 have hcl := J5s hp hc
 obtain ⟨c, rfl⟩ := Int.eq_ofNat_of_zero_le hc.1
 refine ⟨by omega, by omega, fun _ => LoopWP.fold p.length (fun k (r : List (List Int)) => r.length = c ∧ ∀ v : Nat, v < c → ix r (v : Int) = (iota k).filter fun i => decide (ix p i = (v : Int))) ⟨by simp, fun v hv => ?_⟩ ?_⟩
 ·rw [J0D _ _ (by simpa using hv)]; rfl
 rintro k r X hk ⟨hr, hI⟩ hX
 show J1B p K _ k r
 unfold J1B
 split
 ·have hkp : k < p.length := by omega
  have hv := (hc.2 (ix p (k : Int))).2 ⟨k, hkp, rfl⟩
  obtain ⟨v, hv'⟩ := Int.eq_ofNat_of_zero_le hv.1
  rw [hv'] at hv ⊢
  have hvc : v < c := by omega
  refine ⟨by omega, by omega, by omega, by omega, ?_, by omega, by omega, hX _ hkp ⟨by rw [J02]; exact hr, fun u hu => ?_⟩⟩
  ·rw [hI v hvc]
   have := List.length_filter_le (fun i => decide (ix p i = (v : Int))) (iota k); simp at this ⊢; omega
  ·rw [ix_st _ (by omega) (by omega) (by omega), J1y, List.filter_append]
   by_cases huv : u = v
   ·subst huv
    rw [if_pos rfl, hI u hvc]
    simp [hv']
   ·rw [if_neg (by omega), hI u hu]
    have : ¬ (v : Int) = (u : Int) := by omega
    simp [hv', this]
 ·obtain rfl : k = p.length := by omega
  have : r = clsF p c := by
   refine J22 (by rw [J3c, hr]) fun j hj => ?_
   rw [J5e (by omega)]; exact hI j (by omega)
  rw [this]
  exact h c hc
theorem J2J {p : List Int} (hp : CanP p) (hl : p.length ≤ 400) {K : List (List Int) → Prop} (h : ∀ c : Nat, IsCnt p c → K (clsF p c)) : J0q p K := by
 unfold J0q
 refine J0y hp (by omega) ?_
 rw [if_pos rfl]
 refine J3g hp (by omega) fun c hc => ?_
 have := J3F hp hl (K := K) h
 unfold J2g at this
 have hcl := J5s hp hc
 obtain ⟨c, rfl⟩ := Int.eq_ofNat_of_zero_le hc.1
 refine ⟨by omega, by omega, fun _ => LoopWP.fold p.length (fun k (r : List (List Int)) => r.length = c ∧ ∀ v : Nat, v < c → ix r (v : Int) = (iota k).filter fun i => decide (ix p i = (v : Int))) ⟨by simp, fun v hv => ?_⟩ ?_⟩
 ·rw [J0D _ _ (by simpa using hv)]; rfl
 rintro k r X hk ⟨hr, hI⟩ hX
 show J0Q p K _ k r
 unfold J0Q
 split
 ·have hkp : k < p.length := by omega
  have hv := (hc.2 (ix p (k : Int))).2 ⟨k, hkp, rfl⟩
  obtain ⟨v, hv'⟩ := Int.eq_ofNat_of_zero_le hv.1
  rw [hv'] at hv ⊢
  have hvc : v < c := by omega
  refine ⟨by omega, by omega, by omega, by omega, ?_, by omega, by omega, hX _ hkp ⟨by rw [J02]; exact hr, fun u hu => ?_⟩⟩
  ·rw [hI v hvc]
   have := List.length_filter_le (fun i => decide (ix p i = (v : Int))) (iota k); simp at this ⊢; omega
  ·rw [ix_st _ (by omega) (by omega) (by omega), J1y, List.filter_append]
   by_cases huv : u = v
   ·subst huv
    rw [if_pos rfl, hI u hvc]
    simp [hv']
   ·rw [if_neg (by omega), hI u hu]
    have : ¬ (v : Int) = (u : Int) := by omega
    simp [hv', this]
 ·obtain rfl : k = p.length := by omega
  have : r = clsF p c := by
   refine J22 (by rw [J3c, hr]) fun j hj => ?_
   rw [J5e (by omega)]; exact hI j (by omega)
  rw [this]
  exact h c hc
theorem J1L {l : List (Int × Int)} (hl : l.length ≤ 4096) {K : List Int → Prop} (h : ∀ p, IsCan p l → K p) : J08 l K := by
 unfold J08
 refine fun _ => ⟨by omega, by omega, LoopWP.fold l.length (fun k (s : List ((Int × Int) × Int) × List Int) => CN l k s.1 s.2) CN.start ?_⟩
 rintro k ⟨m, p⟩ X hk hI hX
 show J0e l K _ k m p
 unfold J0e
 have hlen : p.length = l.length := hI.len
 split
 ·refine ⟨by omega, by omega, ?_⟩
  split
  ·rename_i hx
   exact ⟨by omega, by omega, hX _ (by omega) (hI.old (by omega) hx)⟩
  ·rename_i hx
   exact ⟨by omega, by omega, hX _ (by omega) (hI.new (by omega) hx)⟩
 ·obtain rfl : k = l.length := by omega
  exact h p hI.fin
theorem J3r {p q : List Int} {n : Nat} (n4 : n ≤ 400) {e e' : Nat → Nat → Prop} (hp : PartOf p n e) (hq : PartOf q n e') {K : List Int → Prop} (h : ∀ m, PartOf m n (fun i j => e i j ∧ e' i j) → K m) : J0T p q K := by
 have h1 := hp.len
 have h2 := hq.len
 unfold J0T J0A
 refine fun _ _ => ?_
 rw [if_pos (by omega)]
 refine J0y hp.can (by omega) ?_
 rw [if_pos rfl]
 refine J0y hq.can (by omega) ?_
 show (if true = true then _ else _)
 rw [if_pos rfl]
 refine fun _ => ⟨by omega, by omega, LoopWP.fold p.length (fun k (l : List (Int × Int)) => l.length = n ∧ ∀ j : Nat, j < k → ix l (j : Int) = (ix p (j : Int), ix q (j : Int))) ⟨by simp [h1], fun j hj => by omega⟩ ?_⟩
 rintro k l X hk ⟨hl, hI⟩ hX
 show J1j p q K _ k l
 unfold J1j
 split
 ·refine ⟨by omega, by omega, by omega, by omega, by omega, by omega, hX _ (by omega) ⟨by rw [J02]; exact hl, fun j hj => ?_⟩⟩
  rw [ix_st _ (by omega) (by omega) (by omega)]
  by_cases hjk : j = k
  ·subst hjk; rw [if_pos rfl]
  ·rw [if_neg (by omega)]; exact hI j (by omega)
 ·refine J1L (by omega) fun m hm => h m (hm.part hl fun i j hi hj => ?_)
  rw [hI i (by omega), hI j (by omega), Prod.mk.injEq, hp.ker i j hi hj, hq.ker i j hi hj]
structure SetB (n : Nat) (b : List Bool) (p : Nat → Prop) : Prop where
 len : b.length = n
 has : ∀ x : Nat, x < n → (ix b (x : Int) = true ↔ p x)
structure BF (n : Nat) (r : List (List Bool)) (le : Nat → Nat → Prop) : Prop where
 len : r.length = n
 at_ : ∀ y : Nat, y < n → SetB n (ix r (y : Int)) (fun x => le x y)
end Sg
namespace Sg
open Go
set_option linter.unusedVariables false
set_option linter.unusedSimpArgs false
theorem J2B (t : List (List Int)) (x : Nat) : leR t x x := .inl rfl
theorem J35 (t : List (List Int)) (x : Nat) : leL t x x := .inl rfl
theorem mu_cl {t : List (List Int)} (T : Tb t t.length) {x y : Nat} (hx : x < t.length) (hy : y < t.length) : ∃ z : Nat, z < t.length ∧ mu t (x : Int) (y : Int) = (z : Int) := by
 have hb := T.mu (x := (x : Int)) (y := (y : Int)) (by omega) (by omega) (by omega) (by omega)
 obtain ⟨z, hz⟩ := Int.eq_ofNat_of_zero_le hb.1
 exact ⟨z, by omega, hz⟩
theorem J26 {t : List (List Int)} (hv : VT t = true) {x y z : Nat} (hz : z < t.length) (h : leR t x y) (k : leR t y z) : leR t x z := by
 have T := SH.tb (VT.sh hv)
 rcases h with rfl | ⟨s, hs, h⟩
 ·exact k
 ·rcases k with rfl | ⟨u, hu, k⟩
  ·exact .inr ⟨s, hs, h⟩
  ·obtain ⟨w, hw, e⟩ := mu_cl T hu hs
   refine .inr ⟨w, hw, ?_⟩
   rw [← e, ← VT.as hv z u s hz hu hs, k, h]
theorem J3f {t : List (List Int)} (hv : VT t = true) {x y z : Nat} (hz : z < t.length) (h : leL t x y) (k : leL t y z) : leL t x z := by
 have T := SH.tb (VT.sh hv)
 rcases h with rfl | ⟨s, hs, h⟩
 ·exact k
 ·rcases k with rfl | ⟨u, hu, k⟩
  ·exact .inr ⟨s, hs, h⟩
  ·obtain ⟨w, hw, e⟩ := mu_cl T hs hu
   refine .inr ⟨w, hw, ?_⟩
   rw [← e, VT.as hv s u z hs hu hz, k, h]
theorem J5K {t : List (List Int)} (hv : VT t = true) {x y z : Nat} (hx : x < t.length) (hz : z < t.length) (h : leL t x y) (k : leR t y z) : ∃ w : Nat, w < t.length ∧ leR t x w ∧ leL t w z := by
 have T := SH.tb (VT.sh hv)
 rcases h with rfl | ⟨s, hs, h⟩
 ·exact ⟨z, hz, k, .inl rfl⟩
 ·rcases k with rfl | ⟨u, hu, k⟩
  ·exact ⟨x, hx, .inl rfl, .inr ⟨s, hs, h⟩⟩
  ·obtain ⟨w, hw, e⟩ := mu_cl T hs hz
   refine ⟨w, hw, .inr ⟨u, hu, ?_⟩, .inr ⟨s, hs, e⟩⟩
   rw [← e, VT.as hv s z u hs hz hu, k, h]
theorem J6w {t : List (List Int)} {x : Nat} (hx : x < t.length) : leJ t x x := ⟨x, hx, .inl rfl, .inl rfl⟩
theorem J1z {t : List (List Int)} (hv : VT t = true) {x y z : Nat} (hy : y < t.length) (hz : z < t.length) (h : leJ t x y) (k : leJ t y z) : leJ t x z := by
 obtain ⟨a, ha, a1, a2⟩ := h
 obtain ⟨b, hb, b1, b2⟩ := k
 obtain ⟨w, hw, w1, w2⟩ := J5K hv ha hb a1 b2
 exact ⟨w, hw, J3f hv hz w2 b1, J26 hv hw a2 w1⟩
theorem leR_J {t : List (List Int)} {x y : Nat} (hy : y < t.length) (h : leR t x y) : leJ t x y := ⟨y, hy, .inl rfl, h⟩
theorem leL_J {t : List (List Int)} {x y : Nat} (hx : x < t.length) (h : leL t x y) : leJ t x y := ⟨x, hx, h, .inl rfl⟩
def eR (t : List (List Int)) (x y : Nat) : Prop := leR t x y ∧ leR t y x
def eL (t : List (List Int)) (x y : Nat) : Prop := leL t x y ∧ leL t y x
def eJ (t : List (List Int)) (x y : Nat) : Prop := leJ t x y ∧ leJ t y x
structure GrOf (t : List (List Int)) (g : Green) : Prop where
 R : PartOf g.R t.length (eR t)
 L : PartOf g.L t.length (eL t)
 J : PartOf g.J t.length (eJ t)
 H : PartOf g.H t.length (fun i j => eR t i j ∧ eL t i j)
 cnt : IsCnt g.J (g.Below.length : Int)
 row : ∀ i : Nat, i < g.Below.length → (ix g.Below (i : Int)).length = g.Below.length
 bel : ∀ x y : Nat, x < t.length → y < t.length → (ix (ix g.Below (ix g.J (x : Int))) (ix g.J (y : Int)) = true ↔ leJ t x y)
theorem GrOf.cls {t : List (List Int)} {g : Green} (h : GrOf t g) {i : Nat} (hi : i < g.Below.length) : ∃ x : Nat, x < t.length ∧ ix g.J (x : Int) = (i : Int) := by
 obtain ⟨x, hx, he⟩ := (h.cnt.2 (i : Int)).1 ⟨by omega, by omega⟩
 exact ⟨x, by have := h.J.len; omega, he⟩
theorem GrOf.num {t : List (List Int)} {g : Green} (h : GrOf t g) {x : Nat} (hx : x < t.length) : ∃ i : Nat, i < g.Below.length ∧ ix g.J (x : Int) = (i : Int) := by
 have hl := h.J.len
 have := (h.cnt.2 (ix g.J (x : Int))).2 ⟨x, by omega, rfl⟩
 obtain ⟨i, hi⟩ := Int.eq_ofNat_of_zero_le this.1
 exact ⟨i, by omega, hi⟩
theorem GrOf.uniq {t : List (List Int)} {g g' : Green} (h : GrOf t g) (k : GrOf t g') : g = g' := by
 have h1 := h.R.uniq k.R fun _ _ _ _ => Iff.rfl
 have h2 := h.L.uniq k.L fun _ _ _ _ => Iff.rfl
 have h3 := h.J.uniq k.J fun _ _ _ _ => Iff.rfl
 have h4 := h.H.uniq k.H fun _ _ _ _ => Iff.rfl
 have hc := h.cnt
 rw [h3] at hc
 have h5 := hc.uniq k.cnt
 have h6 : g.Below = g'.Below := by
  refine J22 (by omega) fun i hi => J22 (by rw [h.row i hi, k.row i (by omega)]; omega) fun j hj => ?_
  rw [h.row i hi] at hj
  obtain ⟨x, hx, ex⟩ := h.cls hi
  obtain ⟨y, hy, ey⟩ := h.cls hj
  have b1 := h.bel x y hx hy
  have b2 := k.bel x y hx hy
  rw [← h3] at b2
  rw [ex, ey] at b1 b2
  rw [Bool.eq_iff_iff, b1, b2]
 cases g; cases g'
 simp only at h1 h2 h3 h4 h6
 rw [h1, h2, h3, h4, h6]
theorem J4J {p : List Int} {c v : Nat} (hc : IsCnt p (c : Int)) (hv : v < c) : ∃ f : Nat, f < p.length ∧ ix (ix (clsF p c) (v : Int)) 0 = (f : Int) ∧ ix p (f : Int) = (v : Int) ∧ 0 < (ix (clsF p c) (v : Int)).length := by
 rw [J5e hv]
 obtain ⟨j, hj, he⟩ := (hc.2 (v : Int)).1 ⟨by omega, by omega⟩
 have hm : (j : Int) ∈ (iota p.length).filter fun i => decide (ix p i = (v : Int)) := by
  rw [List.mem_filter, J0n, decide_eq_true_eq]; exact ⟨⟨by omega, by omega⟩, he⟩
 have hl : 0 < ((iota p.length).filter fun i => decide (ix p i = (v : Int))).length := List.length_pos_of_mem hm
 have h0 := J0R (xs := (iota p.length).filter fun i => decide (ix p i = (v : Int))) (i := 0) (by omega) (by omega)
 rw [List.mem_filter, J0n, decide_eq_true_eq] at h0
 obtain ⟨f, hf⟩ := Int.eq_ofNat_of_zero_le h0.1.1
 exact ⟨f, by omega, hf, by rw [← hf]; exact h0.2, hl⟩
theorem J7f {t : List (List Int)} (hv : VT t = true) {p : List Int} (hp : PartOf p t.length (eJ t)) {x y f g : Nat} (hx : x < t.length) (hy : y < t.length) (hf : f < t.length) (hg : g < t.length) (h1 : ix p (x : Int) = ix p (f : Int)) (h2 : ix p (y : Int) = ix p (g : Int)) : leJ t x y ↔ leJ t f g := by
 have a := (hp.ker x f hx hf).1 h1
 have b := (hp.ker y g hy hg).1 h2
 exact ⟨fun h => J1z hv hx hg a.2 (J1z hv hy hg h b.1), fun h => J1z hv hf hy a.1 (J1z hv hg hy h b.2)⟩
theorem J0Z {t : List (List Int)} {K : Green → Prop} (h1 : VT t = true → ∀ g, GrOf t g → K g) (h2 : ¬ VT t = true → K ⟨[], [], [], [], []⟩) : J0j t K := by
 unfold J0j
 refine J1I ?_
 by_cases h0 : vaC t = 0
 ·rw [if_pos h0]
  have hv := vaC0.1 h0
  have hs := VT.sh hv
  have T := SH.tb hs
  have n4 := T.n4
  refine J48 hs fun rr hrr => J4G hs fun rl hrl => J51 n4 hrr hrl fun rj hrj => ?_
  have hrj' : IdF t.length rj (leJ t) := hrj
  refine J1U n4 hrr (fun i _ => J2B t i) (fun i j k hi hj hk => J26 hv hk) fun pR hR => ?_
  refine J1U n4 hrl (fun i _ => J35 t i) (fun i j k hi hj hk => J3f hv hk) fun pL hL => ?_
  refine J1U n4 hrj' (fun i hi => J6w hi) (fun i j k hi hj hk => J1z hv hj hk) fun pJ hJ => ?_
  have hJl := hJ.len
  refine J3r n4 hR hL fun pH hH => J2J hJ.can (by omega) fun c hc => ?_
  have hcl := J5s hJ.can hc
  have hrjl := hrj'.len
  rw [J3c]
  refine fun _ => ⟨by omega, by omega, ?_⟩
  refine LoopWP.fold c (fun k (d : List (List Bool)) => d.length = c ∧ ∀ i : Nat, i < k → (ix d (i : Int)).length = c ∧ ∀ x y j : Nat, x < t.length → y < t.length → ix pJ (x : Int) = (i : Int) → ix pJ (y : Int) = (j : Int) → (ix (ix d (i : Int)) (j : Int) = true ↔ leJ t x y)) ⟨by simp, fun i hi => by omega⟩ ?_
  rintro k d X hk ⟨hd, hI⟩ hX
  show J1H rj pR pL pJ pH (clsF pJ c) K _ k d
  unfold J1H
  rw [J3c]
  split
  ·have hkc : k < c := by omega
   obtain ⟨f, hf, ef, pf, lf⟩ := J4J hc hkc
   refine ⟨by omega, by omega, by omega, by omega, by omega, by omega, ?_⟩
   refine LoopWP.fold c (fun m (q : List (List Bool)) => ∃ row, q = st d (k : Int) row ∧ row.length = c ∧ ∀ x y j : Nat, j < m → x < t.length → y < t.length → ix pJ (x : Int) = (k : Int) → ix pJ (y : Int) = (j : Int) → (ix row (j : Int) = true ↔ leJ t x y)) ⟨_, rfl, by simp, fun x y j hj => by omega⟩ ?_
   rintro m q X2 hm ⟨row, rfl, hrow, hJ2⟩ hX2
   show J1E rj (clsF pJ c) k _ K _ m _
   unfold J1E
   rw [J3c]
   split
   ·have hmc : m < c := by omega
    obtain ⟨u, hu, eu, pu, lu⟩ := J4J hc hmc
    rw [ef, eu, J0I (by omega)]
    refine ⟨by omega, by omega, by omega, by rw [J02]; omega, by omega, by omega, by omega, by omega, by omega, by omega, J5p n4 (hrj'.wd u (by omega)) (by omega) ⟨by omega, by omega, hX2 _ hmc ⟨_, st_st, by rw [J02]; exact hrow, fun x y j hj hx hy ex ey => ?_⟩⟩⟩
    rw [ix_st _ (by omega) (by omega) (by omega)]
    by_cases hjm : j = m
    ·subst hjm
     rw [if_pos rfl, hrj'.has f u (by omega) (by omega)]
     exact (J7f hv hJ hx hy (by omega) (by omega) (by rw [ex, pf]) (by rw [ey, pu])).symm
    ·rw [if_neg (by omega)]; exact hJ2 x y j (by omega) hx hy ex ey
   ·obtain rfl : m = c := by omega
    refine hX _ hkc ⟨by rw [J02]; exact hd, fun i hi => ?_⟩
    rw [ix_st _ (by omega) (by omega) (by omega)]
    by_cases hik : i = k
    ·subst hik
     rw [if_pos rfl]
     refine ⟨hrow, fun x y j hx hy ex ey => hJ2 x y j ?_ hx hy ex ey⟩
     have := (hc.2 (j : Int)).2 ⟨y, by omega, ey⟩
     omega
    ·rw [if_neg (by omega)]; exact hI i (by omega)
  ·obtain rfl : k = c := by omega
   refine h1 hv _ ⟨hR, hL, hJ, hH, by simp only; rw [hd]; exact hc, fun i hi => ?_, fun x y hx hy => ?_⟩
   ·simp only at hi ⊢
    rw [(hI i (by omega)).1, hd]
   ·simp only
    have a1 := (hc.2 (ix pJ (x : Int))).2 ⟨x, by omega, rfl⟩
    have a2 := (hc.2 (ix pJ (y : Int))).2 ⟨y, by omega, rfl⟩
    obtain ⟨i, hi⟩ := Int.eq_ofNat_of_zero_le a1.1
    obtain ⟨j, hj⟩ := Int.eq_ofNat_of_zero_le a2.1
    rw [hi] at a1 ⊢
    rw [hj]
    exact (hI i (by omega)).2 x y j hx hy hi hj
 ·rw [if_neg h0]
  exact h2 fun hv => h0 (vaC0.2 hv)
end Sg
namespace Sg
open Go
set_option linter.unusedVariables false
set_option linter.unusedSimpArgs false
theorem J2E {α : Type} [DecidableEq α] : ∀ {l l' : List α}, l.Nodup → (∀ x ∈ l, x ∈ l') → l.length ≤ l'.length
  | [], _, _, _ => Nat.zero_le _
  | a :: l, l', hn, hs => by
    obtain ⟨h1, h2⟩ := List.nodup_cons.1 hn
    have ha := hs a List.mem_cons_self
    have := J2E (l := l) (l' := l'.erase a) h2 fun x hx => (List.mem_erase_of_ne (fun hh : x = a => h1 (by rw [← hh]; exact hx))).2 (hs x (List.mem_cons_of_mem _ hx))
    rw [List.length_erase_of_mem ha] at this
    have := List.length_pos_of_mem ha
    simp only [List.length_cons]; omega
theorem J5l (f : Nat → Nat) (P : Nat → Prop) : ∀ c : Nat, ∃ s : Nat, (∀ j : Nat, j < c → P j → f j + 1 ≤ s) ∧ (s = 0 ∨ ∃ j : Nat, j < c ∧ P j ∧ f j + 1 = s)
  | 0 => ⟨0, fun j hj => by omega, .inl rfl⟩
  | c + 1 => by
    obtain ⟨s, h1, h2⟩ := J5l f P c
    by_cases hp : P c ∧ s ≤ f c + 1
    · refine ⟨f c + 1, fun j hj hpj => ?_, .inr ⟨c, by omega, hp.1, rfl⟩⟩
      by_cases hjc : j = c
      · subst hjc; exact Nat.le_refl _
      · have := h1 j (by omega) hpj; omega
    · refine ⟨s, fun j hj hpj => ?_, h2.imp id fun ⟨j, hj, hh⟩ => ⟨j, by omega, hh⟩⟩
      by_cases hjc : j = c
      · subst hjc
        have : ¬ s ≤ f j + 1 := fun hh => hp ⟨hpj, hh⟩
        omega
      · exact h1 j (by omega) hpj
structure Dep (c : Nat) (B : Nat → Nat → Prop) (D : Nat → Nat) : Prop where
 up : ∀ i j : Nat, i < c → j < c → j ≠ i → B i j → D j + 1 ≤ D i
 at_ : ∀ i : Nat, i < c → D i = 0 ∨ ∃ j : Nat, j < c ∧ j ≠ i ∧ B i j ∧ D j + 1 = D i
 le : ∀ i : Nat, i < c → D i ≤ c
theorem J7n (c : Nat) (B : Nat → Nat → Prop) (anti : ∀ i j : Nat, i < c → j < c → B i j → B j i → i = j) (tr : ∀ i j k : Nat, i < c → j < c → k < c → B i j → B j k → B i k) : ∃ D, Dep c B D := by
  classical
  let ups : Nat → List Nat := fun i => (List.range c).filter fun j => decide (j ≠ i ∧ B i j)
  have hmem : ∀ i j : Nat, j ∈ ups i ↔ j < c ∧ j ≠ i ∧ B i j := fun i j => by simp [ups]
  have hlt : ∀ i j : Nat, i < c → j < c → j ≠ i → B i j → (ups j).length < (ups i).length := by
    intro i j hi hj hne hb
    have hsub : ∀ x ∈ j :: ups j, x ∈ ups i := by
      intro x hx
      rcases List.mem_cons.1 hx with rfl | hx
      · exact (hmem i x).2 ⟨hj, hne, hb⟩
      · have h := (hmem j x).1 hx
        refine (hmem i x).2 ⟨h.1, fun hxi => ?_, tr i j x hi hj h.1 hb h.2.2⟩
        subst hxi
        exact hne (anti j x hj hi h.2.2 hb)
    have hnd : (j :: ups j).Nodup := List.nodup_cons.2 ⟨fun h => ((hmem j j).1 h).2.1 rfl, (List.nodup_range).filter _⟩
    have := J2E hnd hsub
    simp only [List.length_cons] at this
    omega
  have key : ∀ m : Nat, ∃ D : Nat → Nat, (∀ i : Nat, i < c → (ups i).length < m → (∀ j : Nat, j < c → j ≠ i → B i j → D j + 1 ≤ D i) ∧ (D i = 0 ∨ ∃ j : Nat, j < c ∧ j ≠ i ∧ B i j ∧ D j + 1 = D i) ∧ D i ≤ (ups i).length) := by
    intro m
    induction m with
    | zero => exact ⟨fun _ => 0, fun i hi h => by omega⟩
    | succ m ih =>
      obtain ⟨D, hD⟩ := ih
      refine ⟨fun i => if (ups i).length < m then D i else Classical.choose (J5l D (fun j => j ≠ i ∧ B i j) c), fun i hi hl => ?_⟩
      have eD : ∀ j : Nat, j < c → j ≠ i → B i j → (if (ups j).length < m then D j else Classical.choose (J5l D (fun k => k ≠ j ∧ B j k) c)) = D j := fun j hj hne hb => by
        have := hlt i j hi hj hne hb
        rw [if_pos (by omega)]
      by_cases him : (ups i).length < m
      · obtain ⟨a1, a2, a3⟩ := hD i hi him
        simp only [if_pos him]
        refine ⟨fun j hj hne hb => by rw [eD j hj hne hb]; exact a1 j hj hne hb, a2.imp id fun ⟨j, hj, hne, hb, e⟩ => ⟨j, hj, hne, hb, by rw [eD j hj hne hb]; exact e⟩, a3⟩
      · obtain ⟨a1, a2⟩ := Classical.choose_spec (J5l D (fun j => j ≠ i ∧ B i j) c)
        simp only [if_neg him]
        refine ⟨fun j hj hne hb => by rw [eD j hj hne hb]; exact a1 j hj ⟨hne, hb⟩, a2.imp id fun ⟨j, hj, hp, e⟩ => ⟨j, hj, hp.1, hp.2, by rw [eD j hj hp.1 hp.2]; exact e⟩, ?_⟩
        rcases a2 with h0 | ⟨j, hj, hp, e⟩
        · rw [h0]; exact Nat.zero_le _
        · have h1 := hlt i j hi hj hp.1 hp.2
          have h2 := (hD j hj (by omega)).2.2
          omega
  have hle : ∀ i : Nat, (ups i).length ≤ c := fun i => by
    have := List.length_filter_le (fun j => decide (j ≠ i ∧ B i j)) (List.range c)
    rwa [List.length_range] at this
  obtain ⟨D, hD⟩ := key (c + 1)
  exact ⟨D, fun i j hi hj => (hD i hi (by have := hle i; omega)).1 j hj, fun i hi => (hD i hi (by have := hle i; omega)).2.1, fun i hi => Nat.le_trans (hD i hi (by have := hle i; omega)).2.2 (hle i)⟩
def belG (g : Green) (i j : Nat) : Prop := ix (ix g.Below (i : Int)) (j : Int) = true
theorem GrOf.anti {t : List (List Int)} {g : Green} (h : GrOf t g) (i j : Nat) (hi : i < g.Below.length) (hj : j < g.Below.length) (a : belG g i j) (b : belG g j i) : i = j := by
 obtain ⟨x, hx, ex⟩ := h.cls hi
 obtain ⟨y, hy, ey⟩ := h.cls hj
 have b1 := h.bel x y hx hy
 have b2 := h.bel y x hy hx
 rw [ex, ey] at b1 b2
 have := (h.J.ker x y hx hy).2 ⟨b1.1 a, b2.1 b⟩
 omega
theorem GrOf.tr {t : List (List Int)} (hv : VT t = true) {g : Green} (h : GrOf t g) (i j k : Nat) (hi : i < g.Below.length) (hj : j < g.Below.length) (hk : k < g.Below.length) (a : belG g i j) (b : belG g j k) : belG g i k := by
 obtain ⟨x, hx, ex⟩ := h.cls hi
 obtain ⟨y, hy, ey⟩ := h.cls hj
 obtain ⟨z, hz, ez⟩ := h.cls hk
 have b1 := h.bel x y hx hy
 have b2 := h.bel y z hy hz
 have b3 := h.bel x z hx hz
 rw [ex, ey] at b1
 rw [ey, ez] at b2
 rw [ex, ez] at b3
 exact b3.2 (J1z hv hy hz (b1.1 a) (b2.1 b))
def dL (c : Nat) (D : Nat → Nat) : List Int := (List.range c).map fun i => (D i : Int)
theorem J6M {c : Nat} {D : Nat → Nat} : (dL c D).length = c := by simp [dL]
theorem ix_dL {c : Nat} {D : Nat → Nat} {i : Nat} (h : i < c) : ix (dL c D) (i : Int) = (D i : Int) := by
 rw [ix_lt (by rw [J6M]; exact h)]; simp [dL]
theorem eq_dL {c : Nat} {D : Nat → Nat} {d : List Int} (hl : d.length = c) (h : ∀ i : Nat, i < c → ix d (i : Int) = (D i : Int)) : d = dL c D :=
 J22 (by rw [J6M, hl]) fun j hj => by rw [ix_dL (by omega)]; exact h j (by omega)
theorem GrOf.small {t : List (List Int)} {g : Green} (h : GrOf t g) : g.Below.length ≤ t.length := by
 have := J5s h.J.can h.cnt
 have := h.J.len
 omega
theorem J5i {g : Green} {c : Nat} {D : Nat → Nat} (hc : g.Below.length = c) (c4 : c ≤ 400) (hrow : ∀ i : Nat, i < c → (ix g.Below (i : Int)).length = c) (hD : Dep c (belG g) D)
  (anti : ∀ i j : Nat, i < c → j < c → belG g i j → belG g j i → i = j) (tr : ∀ i j k : Nat, i < c → j < c → k < c → belG g i j → belG g j k → belG g i k) {K0 : List Int → Prop}
  {a : Nat} (ha : a < c) {d : List Int} (hd : d.length = c) (hI : ∀ k : Nat, k < c → (k = a ∨ belG g a k) → ix d (k : Int) = -1 ∨ ix d (k : Int) = (D k : Int)) {K : Int × List Int → Prop}
  (h : ∀ d' : List Int, d'.length = c → ix d' (a : Int) = (D a : Int) → (∀ k : Nat, k < c → ¬ (k = a ∨ belG g a k) → ix d' (k : Int) = ix d (k : Int)) → (∀ k : Nat, k < c → (k = a ∨ belG g a k) → ix d' (k : Int) = -1 ∨ ix d' (k : Int) = (D k : Int)) → (∀ k : Nat, k < c → ix d (k : Int) = (D k : Int) → ix d' (k : Int) = (D k : Int)) → K ((D a : Int), d')) :
  RecWP (S := Int × List Int) (T := Int × List Int) (fun X s KR3 => J0Y g K0 (fun i3_64 d3_65 k => X (i3_64, d3_65) (fun t => k t.1 t.2)) s.1 s.2 (fun r3_0 d3_65 => KR3 (r3_0, d3_65))) ((a : Int), d) K := by
 refine RecWP.intro (fun s => ∃ a : Nat, s.1 = (a : Int) ∧ a < c ∧ s.2.length = c ∧ ∀ k : Nat, k < c → (k = a ∨ belG g a k) → ix s.2 (k : Int) = -1 ∨ ix s.2 (k : Int) = (D k : Int))
  (fun s t => ∀ a : Nat, s.1 = (a : Int) → t.1 = (D a : Int) ∧ t.2.length = c ∧ ix t.2 (a : Int) = (D a : Int) ∧ (∀ k : Nat, k < c → ¬ (k = a ∨ belG g a k) → ix t.2 (k : Int) = ix s.2 (k : Int)) ∧ (∀ k : Nat, k < c → (k = a ∨ belG g a k) → ix t.2 (k : Int) = -1 ∨ ix t.2 (k : Int) = (D k : Int)) ∧ (∀ k : Nat, k < c → ix s.2 (k : Int) = (D k : Int) → ix t.2 (k : Int) = (D k : Int)))
  (fun s => D s.1.toNat) ⟨a, rfl, ha, hd, hI⟩ ?_ ?_
 ·rintro ⟨r, d'⟩ hq
  obtain ⟨q1, q2, q3, q4, q5, q6⟩ := hq a rfl
  simp only at q1 q2 q3 q4 q5 q6
  rw [q1]
  exact h d' q2 q3 q4 q5 q6
 rintro X ⟨i, d⟩ K ⟨a, hia, ha, hd, hI⟩ hX hK
 simp only at hia hd hI hX
 subst hia
 show J0Y g K0 _ (a : Int) d _
 unfold J0Y
 have hDa := hD.le a ha
 refine ⟨by omega, by omega, ?_⟩
 split
 ·rename_i hneg
  have hda : ix d (a : Int) = -1 := by rcases hI a ha (.inl rfl) with h | h <;> omega
  refine ⟨by omega, by omega, by omega, by omega, fun _ => ?_⟩
  refine LoopWP.fold c (fun m (q : List Int) => q.length = c ∧ 0 ≤ ix q (a : Int) ∧ (∀ j : Nat, j < m → j ≠ a → belG g a j → (D j : Int) + 1 ≤ ix q (a : Int)) ∧ (ix q (a : Int) = 0 ∨ ∃ j : Nat, j < c ∧ j ≠ a ∧ belG g a j ∧ ix q (a : Int) = (D j : Int) + 1) ∧
   (∀ k : Nat, k < c → k ≠ a → belG g a k → ix q (k : Int) = -1 ∨ ix q (k : Int) = (D k : Int)) ∧ (∀ k : Nat, k < c → k ≠ a → ¬ belG g a k → ix q (k : Int) = ix d (k : Int)) ∧ (∀ k : Nat, k < c → k ≠ a → ix d (k : Int) = (D k : Int) → ix q (k : Int) = (D k : Int))) ?_ ?_
  ·have e : ∀ k : Nat, k < c → k ≠ a → ix (st d (a : Int) 0) (k : Int) = ix d (k : Int) := fun k hk hne => by rw [ix_st _ (by omega) (by omega) (by omega), if_neg (by omega)]
   have e0 : ix (st d (a : Int) 0) (a : Int) = 0 := J0I (by omega)
   exact ⟨by rw [J02]; exact hd, by rw [e0]; exact Int.le_refl _, fun j hj => by omega, .inl e0, fun k hk hne hb => by rw [e k hk hne]; exact hI k hk (.inr hb), fun k hk hne hb => e k hk hne, fun k hk hne hh => by rw [e k hk hne]; exact hh⟩
  rintro m q X2 hm ⟨q0, q1, q2, q3, q4, q5, q6⟩ hX2
  show J1F g a _ _ K0 _ m q
  unfold J1F
  have hr := hrow a ha
  split
  ·have hmc : m < c := by omega
   refine ⟨by omega, by omega, ?_⟩
   split
   ·rename_i hb
    split
    ·rename_i hma
     have hma' : m = a := by omega
     refine hX2 _ hmc ⟨q0, q1, fun j hj hne hbj => ?_, q3, q4, q5, q6⟩
     exact q2 j (by omega) hne hbj
    ·rename_i hma
     have hma' : m ≠ a := by omega
     have hup := hD.up a m ha hmc hma' hb
     refine ⟨by omega, by omega, ?_⟩
     refine hX ((m : Int), q) _ ⟨m, rfl, hmc, q0, fun k hk hkk => ?_⟩ (by simp only [Int.toNat_natCast]; omega) ?_
     ·by_cases hka : k = a
      ·subst hka
       rcases hkk with rfl | hkb
       ·exact absurd rfl hma'
       ·exact absurd (anti k m ha hmc hb hkb) (Ne.symm hma')
      ·rcases hkk with rfl | hkb
       ·exact q4 k hk hka hb
       ·exact q4 k hk hka (tr a m k ha hmc hk hb hkb)
     ·rintro ⟨r, d'⟩ hq
      obtain ⟨r1, r2, r3, r4, r5, r6⟩ := hq m rfl
      simp only at r1 r2 r3 r4 r5 r6
      have haq : ix d' (a : Int) = ix q (a : Int) := r4 a ha fun hh => by
       rcases hh with h | h
       ·exact hma' h.symm
       ·exact hma' (anti a m ha hmc hb h).symm
      have hDm := hD.le m hmc
      have fin : ∀ v : Int, 0 ≤ v → (∀ j : Nat, j < m + 1 → j ≠ a → belG g a j → (D j : Int) + 1 ≤ v) → (v = 0 ∨ ∃ j : Nat, j < c ∧ j ≠ a ∧ belG g a j ∧ v = (D j : Int) + 1) → X2 (m + 1, st d' (a : Int) v) := by
       intro v v0 v1 v2
       have e : ∀ k : Nat, k < c → k ≠ a → ix (st d' (a : Int) v) (k : Int) = ix d' (k : Int) := fun k hk hne => by rw [ix_st _ (by omega) (by omega) (by omega), if_neg (by omega)]
       have e0 : ix (st d' (a : Int) v) (a : Int) = v := J0I (by omega)
       refine hX2 _ hmc ⟨by rw [J02]; exact r2, by rw [e0]; exact v0, fun j hj hne hbj => by rw [e0]; exact v1 j hj hne hbj, by rw [e0]; exact v2, fun k hk hne hbk => ?_, fun k hk hne hbk => ?_, fun k hk hne hh => ?_⟩
       ·rw [e k hk hne]
        by_cases hkm : k = m ∨ belG g m k
        ·exact r5 k hk hkm
        ·rw [r4 k hk hkm]; exact q4 k hk hne hbk
       ·rw [e k hk hne, r4 k hk fun hh => ?_]
        ·exact q5 k hk hne hbk
        ·rcases hh with rfl | hh
         ·exact hbk hb
         ·exact hbk (tr a m k ha hmc hk hb hh)
       ·rw [e k hk hne]; exact r6 k hk (q6 k hk hne hh)
      subst r1
      show _ ∧ _
      dsimp only
      refine ⟨haq, by omega, ⟨by omega, by omega⟩, ?_⟩
      split
      ·refine ⟨by omega, by omega, fin _ (by omega) (fun j hj hne hbj => ?_) (.inr ⟨m, hmc, hma', hb, by omega⟩)⟩
       by_cases hjm : j = m
       ·subst hjm; omega
       ·have := q2 j (by omega) hne hbj; omega
      ·refine ⟨by omega, by omega, fin _ q1 (fun j hj hne hbj => ?_) q3⟩
       by_cases hjm : j = m
       ·subst hjm; omega
       ·exact q2 j (by omega) hne hbj
   ·rename_i hb
    refine hX2 _ hmc ⟨q0, q1, fun j hj hne hbj => ?_, q3, q4, q5, q6⟩
    by_cases hjm : j = m
    ·subst hjm; exact absurd hbj hb
    ·exact q2 j (by omega) hne hbj
  ·obtain rfl : m = c := by omega
   have hfin : ix q (a : Int) = (D a : Int) := by
    have h1 : ix q (a : Int) ≤ (D a : Int) := by
     rcases q3 with h | ⟨j, hj, hne, hbj, h⟩
     ·omega
     ·have := hD.up a j ha hj hne hbj; omega
    have h2 : (D a : Int) ≤ ix q (a : Int) := by
     rcases hD.at_ a ha with h | ⟨j, hj, hne, hbj, h⟩
     ·omega
     ·have := q2 j hj hne hbj; omega
    omega
   refine ⟨by omega, by omega, hK _ ?_⟩
   intro a' ha'
   obtain rfl : a' = a := by simp only at ha'; omega
   refine ⟨hfin, q0, hfin, fun k hk hn => ?_, fun k hk hkk => ?_, fun k hk hh => ?_⟩
   ·exact q5 k hk (fun h => hn (.inl h)) fun h => hn (.inr h)
   ·by_cases hka : k = a'
    ·subst hka; exact .inr hfin
    ·exact q4 k hk hka (hkk.resolve_left hka)
   ·by_cases hka : k = a'
    ·subst hka; exact hfin
    ·exact q6 k hk hka hh
 ·rename_i hneg
  have hda : ix d (a : Int) = (D a : Int) := by rcases hI a ha (.inl rfl) with h | h <;> omega
  refine ⟨by omega, by omega, hK _ ?_⟩
  intro a' ha'
  obtain rfl : a' = a := by simp only at ha'; omega
  exact ⟨hda, hd, hda, fun k hk hn => rfl, fun k hk hkk => hI k hk hkk, fun k hk hh => hh⟩
theorem J3D {t : List (List Int)} {K : List Int → Prop} (h1 : VT t = true → ∀ g D, GrOf t g → Dep g.Below.length (belG g) D → K (dL g.Below.length D)) (h2 : ¬ VT t = true → K []) : J19 t K := by
 unfold J19
 refine J0Z (fun hv g hg => ?_) fun hv => ?_
 ·have n4 := (SH.tb (VT.sh hv)).n4
  have hc4 := hg.small
  obtain ⟨D, hD⟩ := J7n g.Below.length (belG g) hg.anti (hg.tr hv)
  refine fun _ => ⟨by omega, by omega, ?_⟩
  refine LoopWP.fold g.Below.length (fun k (d : List Int) => d.length = g.Below.length ∧ ∀ i : Nat, i < k → ix d (i : Int) = -1) ⟨by simp, fun i hi => by omega⟩ ?_
  rintro k d X hk ⟨hd, hI⟩ hX
  show J0x t g K _ k d
  unfold J0x
  rw [List.length_replicate]
  split
  ·refine ⟨by omega, by omega, ⟨by omega, by omega⟩, hX _ (by omega) ⟨by rw [J02]; exact hd, fun i hi => ?_⟩⟩
   rw [ix_st _ (by omega) (by omega) (by omega)]
   by_cases hik : i = k
   ·rw [if_pos (by omega)]
   ·rw [if_neg (by omega)]; exact hI i (by omega)
  ·obtain rfl : k = g.Below.length := by omega
   refine LoopWP.fold g.Below.length (fun m (q : List Int) => q.length = g.Below.length ∧ (∀ i : Nat, i < g.Below.length → ix q (i : Int) = -1 ∨ ix q (i : Int) = (D i : Int)) ∧ ∀ i : Nat, i < m → ix q (i : Int) = (D i : Int)) ⟨hd, fun i hi => .inl (hI i hi), fun i hi => by omega⟩ ?_
   rintro m q X2 hm ⟨q0, q1, q2⟩ hX2
   show J0w t g d K _ m q
   unfold J0w
   rw [hd]
   split
   ·have hmc : m < g.Below.length := by omega
    refine J5i rfl (by omega) hg.row hD hg.anti (hg.tr hv) hmc q0 (fun k hk _ => q1 k hk) fun d' r2 r3 r4 r5 r6 => ?_
    refine ⟨⟨by omega, by omega⟩, hX2 _ hmc ⟨r2, fun i hi => ?_, fun i hi => ?_⟩⟩
    ·by_cases him : i = m ∨ belG g m i
     ·exact r5 i hi him
     ·rw [r4 i hi him]; exact q1 i hi
    ·by_cases him : i = m
     ·subst him; exact r3
     ·exact r6 i (by omega) (q2 i (by omega))
   ·obtain rfl : m = g.Below.length := by omega
    rw [eq_dL q0 q2]
    exact h1 hv g D hg hD
 ·refine fun _ => ⟨by decide, by decide, ?_⟩
  refine LoopWP.fold 0 (fun k (d : List Int) => d = []) rfl ?_
  rintro k d X hk rfl hX
  obtain rfl : k = 0 := by omega
  show J0x t _ K _ 0 []
  unfold J0x
  rw [if_neg (by decide)]
  refine LoopWP.fold 0 (fun k (d : List Int) => d = []) rfl ?_
  rintro m q X2 hm rfl hX2
  obtain rfl : m = 0 := by omega
  show J0w t _ [] K _ 0 []
  unfold J0w
  rw [if_neg (by decide)]
  exact h2 hv
end Sg
namespace Sg
open Go
set_option linter.unusedVariables false
set_option linter.unusedSimpArgs false
def leRb (t : List (List Int)) (x y : Nat) : Bool := decide (x = y) || (List.range t.length).any fun s => decide (mu t (y : Int) (s : Int) = (x : Int))
def leLb (t : List (List Int)) (x y : Nat) : Bool := decide (x = y) || (List.range t.length).any fun s => decide (mu t (s : Int) (y : Int) = (x : Int))
def leJb (t : List (List Int)) (x y : Nat) : Bool := (List.range t.length).any fun z => leLb t z y && leRb t x z
theorem J6q {t : List (List Int)} {x y : Nat} : leRb t x y = true ↔ leR t x y := by
 simp only [leRb, leR, Bool.or_eq_true, decide_eq_true_eq, List.any_eq_true, List.mem_range]
theorem J6s {t : List (List Int)} {x y : Nat} : leLb t x y = true ↔ leL t x y := by
 simp only [leLb, leL, Bool.or_eq_true, decide_eq_true_eq, List.any_eq_true, List.mem_range]
theorem J3M {t : List (List Int)} {x y : Nat} : leJb t x y = true ↔ leJ t x y := by
 simp only [leJb, leJ, Bool.and_eq_true, List.any_eq_true, List.mem_range, J6s, J6q]
def flipT : List (List Int) := [[0, 1, 2], [1, 0, 2], [2, 2, 2]]
theorem J6b : VT flipT = true := by
 have h1 : SH flipT = true := by decide
 have h2 : AS flipT := by
  intro x y z hx hy hz
  have hx' : x = 0 ∨ x = 1 ∨ x = 2 := by have : flipT.length = 3 := rfl; omega
  have hy' : y = 0 ∨ y = 1 ∨ y = 2 := by have : flipT.length = 3 := rfl; omega
  have hz' : z = 0 ∨ z = 1 ∨ z = 2 := by have : flipT.length = 3 := rfl; omega
  rcases hx' with rfl | rfl | rfl <;> rcases hy' with rfl | rfl | rfl <;> rcases hz' with rfl | rfl | rfl <;> rfl
 simp only [VT, h1, Bool.true_and, decide_eq_true_eq]
 exact h2
theorem J6G : PartOf [0, 0, 1] flipT.length (eJ flipT) := by
 refine ⟨rfl, fun k hk => ?_, fun i j hi hj => ?_⟩
 ·have hk' : k = 0 ∨ k = 1 ∨ k = 2 := by simp only [List.length_cons, List.length_nil] at hk; omega
  rcases hk' with rfl | rfl | rfl
  ·exact ⟨by decide, fun v h0 h1 => by have : ix [(0 : Int), 0, 1] ((0 : Nat) : Int) = 0 := rfl; omega⟩
  ·exact ⟨by decide, fun v h0 h1 => by have : ix [(0 : Int), 0, 1] ((1 : Nat) : Int) = 0 := rfl; omega⟩
  ·refine ⟨by decide, fun v h0 h1 => ⟨0, by omega, ?_⟩⟩
   have : ix [(0 : Int), 0, 1] ((2 : Nat) : Int) = 1 := rfl
   have : ix [(0 : Int), 0, 1] ((0 : Nat) : Int) = 0 := rfl
   omega
 ·have hi' : i = 0 ∨ i = 1 ∨ i = 2 := by have : flipT.length = 3 := rfl; omega
  have hj' : j = 0 ∨ j = 1 ∨ j = 2 := by have : flipT.length = 3 := rfl; omega
  unfold eJ
  rw [← J3M, ← J3M]
  rcases hi' with rfl | rfl | rfl <;> rcases hj' with rfl | rfl | rfl <;> decide
theorem J6u : IsCnt [0, 0, 1] 2 := by
 refine J6I J6G.can (by decide) (fun j hj => ?_) (.inr ⟨2, by decide, by decide⟩)
 have hj' : j = 0 ∨ j = 1 ∨ j = 2 := by simp only [List.length_cons, List.length_nil] at hj; omega
 rcases hj' with rfl | rfl | rfl <;> decide
theorem law15_awake_ok {K : Bool → Prop} (h : K true) : law15_awake K := by
 unfold law15_awake law15_flip
 refine J0Z (t := flipT) (fun hv g hg => ?_) fun hv => absurd J6b hv
 have hJ : g.J = [0, 0, 1] := hg.J.uniq J6G fun _ _ _ _ => Iff.rfl
 have hc := hg.cnt
 rw [hJ] at hc
 have hc2 := hc.uniq J6u
 refine J3o ?_
 rw [hJ, decide_eq_true rfl, if_pos rfl]
 refine fun _ => ?_
 rw [if_pos hc2]
 refine J3D (t := flipT) (fun hv g' D hg' hD => ?_) fun hv => absurd J6b hv
 obtain rfl := hg.uniq hg'
 have hl : g.Below.length = 2 := by omega
 rw [hl] at hD ⊢
 have b0 := hg.bel 0 2 (by decide) (by decide)
 have b1 := hg.bel 2 0 (by decide) (by decide)
 rw [hJ] at b0 b1
 have n0 : ¬ belG g 0 1 := fun hh => by
  have := b0.1 hh
  rw [← J3M] at this
  revert this; decide
 have y1 : belG g 1 0 := b1.2 (J3M.1 (by decide))
 have d0 : D 0 = 0 := by
  rcases hD.at_ 0 (by omega) with h0 | ⟨j, hj, hne, hb, _⟩
  ·exact h0
  ·obtain rfl : j = 1 := by omega
   exact absurd hb n0
 have d1 : D 1 = 1 := by
  have h1 := hD.up 1 0 (by omega) (by omega) (by omega) y1
  rcases hD.at_ 1 (by omega) with h0 | ⟨j, hj, hne, hb, he⟩
  ·omega
  ·obtain rfl : j = 0 := by omega
   omega
 have e : dL 2 D = [0, 1] := by
  show [(D 0 : Int), (D 1 : Int)] = _
  rw [d0, d1]; rfl
 refine J3o ?_
 rw [e, decide_eq_true rfl]
 exact h
theorem law15_small_ok {t : List (List Int)} {m : Int} {K : Bool → Prop} (h : K (decide ((t.length : Int) ≤ m) && VT t)) : law15_small t m K := by
 unfold law15_small
 refine fun _ => ?_
 split
 ·rename_i hl
  refine J45 ?_
  simpa [hl] using h
 ·rename_i hl
  simpa [hl] using h
end Sg
namespace Sg
open Go
set_option linter.unusedVariables false
set_option linter.unusedSimpArgs false
end Sg
namespace Sg
open Go
set_option linter.unusedVariables false
set_option linter.unusedSimpArgs false
theorem J50 {t : List (List Int)} {x y : Nat} (hy : y < t.length) : leR (opp t) x y ↔ leL t x y := by
 unfold leR leL
 rw [J2t]
 constructor
 ·rintro (h | ⟨s, hs, h⟩)
  ·exact .inl h
  ·exact .inr ⟨s, hs, by rw [← J2N hy hs]; exact h⟩
 ·rintro (h | ⟨s, hs, h⟩)
  ·exact .inl h
  ·exact .inr ⟨s, hs, by rw [J2N hy hs]; exact h⟩
theorem J5M {t : List (List Int)} {x y : Nat} (hy : y < t.length) : leL (opp t) x y ↔ leR t x y := by
 unfold leR leL
 rw [J2t]
 constructor
 ·rintro (h | ⟨s, hs, h⟩)
  ·exact .inl h
  ·exact .inr ⟨s, hs, by rw [← J2N hs hy]; exact h⟩
 ·rintro (h | ⟨s, hs, h⟩)
  ·exact .inl h
  ·exact .inr ⟨s, hs, by rw [J2N hs hy]; exact h⟩
theorem le_swap' {t : List (List Int)} (hv : VT t = true) {x y z : Nat} (hx : x < t.length) (hz : z < t.length) (h : leR t x y) (k : leL t y z) : ∃ w : Nat, w < t.length ∧ leL t x w ∧ leR t w z := by
 have T := SH.tb (VT.sh hv)
 rcases h with rfl | ⟨s, hs, h⟩
 ·exact ⟨z, hz, k, .inl rfl⟩
 ·rcases k with rfl | ⟨u, hu, k⟩
  ·exact ⟨x, hx, .inl rfl, .inr ⟨s, hs, h⟩⟩
  ·obtain ⟨w, hw, e⟩ := mu_cl T hz hs
   refine ⟨w, hw, .inr ⟨u, hu, ?_⟩, .inr ⟨s, hs, e⟩⟩
   rw [← e, ← VT.as hv u z s hu hz hs, k, h]
theorem leJ_iff' {t : List (List Int)} (hv : VT t = true) {x y : Nat} (hx : x < t.length) (hy : y < t.length) : leJ t x y ↔ ∃ z : Nat, z < t.length ∧ leR t z y ∧ leL t x z := by
 constructor
 ·rintro ⟨z, hz, h1, h2⟩
  obtain ⟨w, hw, w1, w2⟩ := le_swap' hv hx hy h2 h1
  exact ⟨w, hw, w2, w1⟩
 ·rintro ⟨z, hz, h1, h2⟩
  obtain ⟨w, hw, w1, w2⟩ := J5K hv hx hy h2 h1
  exact ⟨w, hw, w2, w1⟩
theorem J6Y {t : List (List Int)} (hv : VT t = true) {x y : Nat} (hx : x < t.length) (hy : y < t.length) : leJ (opp t) x y ↔ leJ t x y := by
 rw [leJ_iff' hv hx hy]
 unfold leJ
 rw [J2t]
 constructor
 ·rintro ⟨z, hz, h1, h2⟩; exact ⟨z, hz, (J5M hy).1 h1, (J50 hz).1 h2⟩
 ·rintro ⟨z, hz, h1, h2⟩; exact ⟨z, hz, (J5M hy).2 h1, (J50 hz).2 h2⟩
end Sg
namespace Sg
open Go
set_option linter.unusedVariables false
set_option linter.unusedSimpArgs false
def itN (f : Nat → Nat) : Nat → Nat → Nat
 | 0, x => x
 | k + 1, x => f (itN f k x)
theorem J4e {n : Nat} {f : Nat → Nat} (hf : ∀ z, z < n → f z < n) {x : Nat} (hx : x < n) : ∀ k, itN f k x < n
 | 0 => hx
 | k + 1 => hf _ (J4e hf hx k)
theorem J3S (f : Nat → Nat) (x : Nat) (a : Nat) : ∀ b, itN f (b + a) x = itN f b (itN f a x)
 | 0 => by rw [Nat.zero_add]; rfl
 | b + 1 => by rw [show b + 1 + a = (b + a) + 1 by omega]; simp only [itN]; rw [J3S f x a b]
theorem J3Q {n : Nat} {f g : Nat → Nat} (hf : ∀ z, z < n → f z < n) (hg : ∀ z, z < n → g z < n) (hc : ∀ z, z < n → f (g z) = g (f z)) (a : Nat) : ∀ (b x : Nat), x < n → itN f a (itN g b x) = itN g b (itN f a x) := by
 have one : ∀ (a x : Nat), x < n → itN f a (g x) = g (itN f a x) := by
  intro a
  induction a with
  | zero => intro x hx; rfl
  | succ a ih => intro x hx; simp only [itN]; rw [ih x hx, hc _ (J4e hf hx a)]
 intro b
 induction b with
 | zero => intro x hx; rfl
 | succ b ih => intro x hx; simp only [itN]; rw [one a _ (J4e hg hx b), ih x hx]
theorem stab {n : Nat} {f g : Nat → Nat} (hf : ∀ z, z < n → f z < n) (hg : ∀ z, z < n → g z < n) (hc : ∀ z, z < n → f (g z) = g (f z)) {x : Nat} (hx : x < n) (h : f (g x) = x) : ∃ m : Nat, itN g (m + 1) x = x := by
  have back : ∀ k, itN f k (itN g k x) = x := by
    intro k
    induction k with
    | zero => rfl
    | succ k ih =>
      have e1 : itN g (k + 1) x = itN g k (g x) := by have := J3S g x 1 k; exact this
      have e2 : itN f (k + 1) (itN g (k + 1) x) = f (itN f k (itN g (k + 1) x)) := rfl
      rw [e2, e1, J3Q hf hg hc k k (g x) (hg x hx)]
      have e3 : itN f k (g x) = g (itN f k x) := J3Q hf hg hc k 1 x hx
      have e4 : itN g k (g (itN f k x)) = g (itN g k (itN f k x)) := by
        have a1 := J3S g (itN f k x) 1 k
        have a2 := J3S g (itN f k x) k 1
        rw [Nat.add_comm] at a2
        exact a1.symm.trans a2
      rw [e3, e4, ← J3Q hf hg hc k k x hx, ih]
      exact h
  obtain ⟨a, b, hab, hb, he⟩ := pigeon n (fun k => (itN g k x : Int)) fun m _ => ⟨by omega, by have := J4e hg hx m; omega⟩
  have he' : itN g a x = itN g b x := by
    have h9 : (itN g a x : Int) = (itN g b x : Int) := he
    omega
  refine ⟨b - a - 1, ?_⟩
  have e1 : itN g b x = itN g (b - a) (itN g a x) := by rw [← J3S]; congr 1; omega
  have e2 := back a
  rw [he', e1, J3Q hf hg hc a (b - a) _ (J4e hg hx a), back a] at e2
  rw [show b - a - 1 + 1 = b - a by omega]
  exact e2
def mN (t : List (List Int)) (x y : Nat) : Nat := (mu t (x : Int) (y : Int)).toNat
theorem mN_eq {t : List (List Int)} (T : Tb t t.length) {x y : Nat} (hx : x < t.length) (hy : y < t.length) : mN t x y < t.length ∧ mu t (x : Int) (y : Int) = (mN t x y : Int) := by
 obtain ⟨z, hz, e⟩ := mu_cl T hx hy
 unfold mN
 rw [e]
 exact ⟨by simpa using hz, by simp⟩
theorem mN_as {t : List (List Int)} (hv : VT t = true) {x y z : Nat} (hx : x < t.length) (hy : y < t.length) (hz : z < t.length) : mN t (mN t x y) z = mN t x (mN t y z) := by
 have T := SH.tb (VT.sh hv)
 obtain ⟨a1, a2⟩ := mN_eq T hx hy
 obtain ⟨b1, b2⟩ := mN_eq T hy hz
 obtain ⟨c1, c2⟩ := mN_eq T a1 hz
 obtain ⟨d1, d2⟩ := mN_eq T hx b1
 have := VT.as hv x y z hx hy hz
 rw [a2, b2, c2, d2] at this
 omega
theorem J44 {t : List (List Int)} (T : Tb t t.length) {x s : Nat} (hx : x < t.length) (hs : s < t.length) : leR t (mN t x s) x := .inr ⟨s, hs, (mN_eq T hx hs).2⟩
theorem J5h {t : List (List Int)} (T : Tb t t.length) {x s : Nat} (hx : x < t.length) (hs : s < t.length) : leL t (mN t s x) x := .inr ⟨s, hs, (mN_eq T hs hx).2⟩
theorem stableR {t : List (List Int)} (hv : VT t = true) {x s : Nat} (hx : x < t.length) (hs : s < t.length) (h : leJ t x (mN t x s)) : leR t x (mN t x s) := by
  have T := SH.tb (VT.sh hv)
  have hxs := (mN_eq T hx hs).1
  obtain ⟨z, hz, h1, h2⟩ := h
  obtain ⟨f, hf, hfz, hfa⟩ : ∃ f : Nat → Nat, (∀ w, w < t.length → f w < t.length) ∧ f (mN t x s) = z ∧ ∀ w u, w < t.length → u < t.length → f (mN t w u) = mN t (f w) u := by
    rcases h1 with rfl | ⟨a, ha, h1⟩
    · exact ⟨id, fun w hw => hw, rfl, fun w u _ _ => rfl⟩
    · refine ⟨fun w => mN t a w, fun w hw => (mN_eq T ha hw).1, ?_, fun w u hw hu => (mN_as hv ha hw hu).symm⟩
      have := (mN_eq T ha hxs).2
      show mN t a (mN t x s) = z
      omega
  obtain ⟨g, hg, hgz, hgr, hgc⟩ : ∃ g : Nat → Nat, (∀ w, w < t.length → g w < t.length) ∧ (f (g x) = x) ∧ (∀ w, w < t.length → leR t (g w) (mN t w s)) ∧ ∀ w, w < t.length → f (g w) = g (f w) := by
    rcases h2 with rfl | ⟨b, hb, h2⟩
    · exact ⟨fun w => mN t w s, fun w hw => (mN_eq T hw hs).1, hfz, fun w hw => J2B t _, fun w hw => hfa w s hw hs⟩
    · refine ⟨fun w => mN t (mN t w s) b, fun w hw => (mN_eq T (mN_eq T hw hs).1 hb).1, ?_, fun w hw => J44 T (mN_eq T hw hs).1 hb, fun w hw => ?_⟩
      · show f (mN t (mN t x s) b) = x
        rw [hfa _ b hxs hb, hfz]
        have := (mN_eq T hz hb).2
        omega
      · show f (mN t (mN t w s) b) = mN t (mN t (f w) s) b
        rw [hfa _ b (mN_eq T hw hs).1 hb, hfa w s hw hs]
  obtain ⟨m, hm⟩ := stab hf hg hgc hx hgz
  have key : ∀ k, leR t (itN g (k + 1) x) (mN t x s) := by
    intro k
    induction k with
    | zero => exact hgr x hx
    | succ k ih =>
      have hw := J4e hg hx (k + 1)
      exact J26 hv hxs (J26 hv hw (hgr _ hw) (J44 T hw hs)) ih
  have := key m
  rw [hm] at this
  exact this
theorem J6J {t : List (List Int)} {x y : Nat} (hx : x < t.length) (hy : y < t.length) : mN (opp t) x y = mN t y x := by
 unfold mN; rw [J2N hx hy]
theorem stableL {t : List (List Int)} (hv : VT t = true) {x s : Nat} (hx : x < t.length) (hs : s < t.length) (h : leJ t x (mN t s x)) : leL t x (mN t s x) := by
 have T := SH.tb (VT.sh hv)
 have hsx := (mN_eq T hs hx).1
 have h1 : leJ (opp t) x (mN (opp t) x s) := by
  rw [J6J hx hs]
  exact (J6Y hv hx hsx).2 h
 have := stableR (J7r hv) (by rw [J2t]; exact hx) (by rw [J2t]; exact hs) h1
 rw [J6J hx hs] at this
 exact (J50 hsx).1 this
theorem J6z {t : List (List Int)} (hv : VT t = true) {x y : Nat} (hx : x < t.length) (hy : y < t.length) (h : leR t x y) (k : leJ t y x) : eR t x y := by
 refine ⟨h, ?_⟩
 have T := SH.tb (VT.sh hv)
 rcases h with rfl | ⟨s, hs, h⟩
 ·exact J2B t x
 ·have e : mN t y s = x := by have := (mN_eq T hy hs).2; omega
  rw [← e] at k ⊢
  exact stableR hv hy hs k
theorem J6n {t : List (List Int)} (hv : VT t = true) {x y : Nat} (hx : x < t.length) (hy : y < t.length) (h : leL t x y) (k : leJ t y x) : eL t x y := by
 refine ⟨h, ?_⟩
 have T := SH.tb (VT.sh hv)
 rcases h with rfl | ⟨s, hs, h⟩
 ·exact J35 t x
 ·have e : mN t s y = x := by have := (mN_eq T hs hy).2; omega
  rw [← e] at k ⊢
  exact stableL hv hy hs k
theorem eJ_D {t : List (List Int)} (hv : VT t = true) {x y : Nat} (hx : x < t.length) (hy : y < t.length) (h : eJ t x y) : ∃ z : Nat, z < t.length ∧ eR t x z ∧ eL t z y := by
 obtain ⟨⟨z, hz, h1, h2⟩, h3⟩ := h
 have j1 := leL_J hz h1
 have j2 := leR_J hz h2
 exact ⟨z, hz, J6z hv hx hz h2 (J1z hv hy hx j1 h3), J6n hv hz hy h1 (J1z hv hx hz h3 j2)⟩
theorem eR_J {t : List (List Int)} {x y : Nat} (hx : x < t.length) (hy : y < t.length) (h : eR t x y) : eJ t x y := ⟨leR_J hy h.1, leR_J hx h.2⟩
theorem J4I {t : List (List Int)} (hv : VT t = true) {x y z : Nat} (hx : x < t.length) (hz : z < t.length) (h : eR t x y) (k : eR t y z) : eR t x z := ⟨J26 hv hz h.1 k.1, J26 hv hx k.2 h.2⟩
theorem J4x {t : List (List Int)} (hv : VT t = true) {x y z : Nat} (hx : x < t.length) (hz : z < t.length) (h : eL t x y) (k : eL t y z) : eL t x z := ⟨J3f hv hz h.1 k.1, J3f hv hx k.2 h.2⟩
end Sg
namespace Sg
open Go
set_option linter.unusedVariables false
set_option linter.unusedSimpArgs false
theorem J1i (n : Nat) (p : Int → Bool) : ((iota n).filter p).Nodup := ((J4t n).imp fun h => Int.ne_of_lt h).filter _
theorem J5P {t : List (List Int)} (hv : VT t = true) {e x : Nat} (he : e < t.length) (hx : x < t.length) (hid : mN t e e = e) (h : leR t x e) : mN t e x = x := by
 have T := SH.tb (VT.sh hv)
 rcases h with rfl | ⟨s, hs, h⟩
 ·exact hid
 ·have e1 : mN t e s = x := by have := (mN_eq T he hs).2; omega
  rw [← e1, ← mN_as hv he he hs, hid]
theorem J5B {t : List (List Int)} (hv : VT t = true) {e x : Nat} (he : e < t.length) (hx : x < t.length) (hid : mN t e e = e) (h : leL t x e) : mN t x e = x := by
 have T := SH.tb (VT.sh hv)
 rcases h with rfl | ⟨s, hs, h⟩
 ·exact hid
 ·have e1 : mN t s e = x := by have := (mN_eq T hs he).2; omega
  rw [← e1, mN_as hv hs he he, hid]
end Sg
namespace Sg
open Go
set_option linter.unusedVariables false
set_option linter.unusedSimpArgs false
end Sg
namespace Sg
open Go
set_option linter.unusedVariables false
set_option linter.unusedSimpArgs false
def rowsB (n : Nat) (p J : List Int) (j : Int) : List Int := (iota n).filter fun r => (iota n).any fun x => decide (ix J x = j) && decide (ix p x = r)
def inC (g : Green) (j r l x : Int) : Bool := decide (ix g.J x = j) && (decide (ix g.R x = r) && decide (ix g.L x = l))
def cellB (k : Nat) (g : Green) (j r l : Int) : List Int := (iota k).filter (inC g j r l)
def hcl (n : Nat) (g : Green) (x : Int) : List Int := (iota n).filter fun y => decide (ix g.R y = ix g.R x) && decide (ix g.L y = ix g.L x)
theorem J1l (n : Nat) (p J : List Int) (j : Int) : (rowsB n p J j).Nodup := J1i _ _
theorem J3X (n : Nat) (p J : List Int) (j : Int) : (rowsB n p J j).Pairwise (· < ·) := (J4t n).filter _
theorem J1e {n : Nat} {p J : List Int} {j : Int} {e : Nat → Nat → Prop} (hp : PartOf p n e) {r : Int} : r ∈ rowsB n p J j ↔ ∃ x : Nat, x < n ∧ ix J (x : Int) = j ∧ ix p (x : Int) = r := by
 unfold rowsB
 rw [List.mem_filter, J0n, List.any_eq_true]
 constructor
 ·rintro ⟨_, x, hx, h⟩
  have := J0n.1 hx
  obtain ⟨m, rfl⟩ := Int.eq_ofNat_of_zero_le this.1
  simp only [Bool.and_eq_true, decide_eq_true_eq] at h
  exact ⟨m, by omega, h.1, h.2⟩
 ·rintro ⟨x, hx, h1, h2⟩
  have hl := hp.len
  have a := hp.can.le x (by omega)
  have b := (hp.can x (by omega)).1
  exact ⟨by omega, x, J0n.2 (by omega), by simp [h1, h2]⟩
theorem J1C {t : List (List Int)} {g : Green} (hg : GrOf t g) {x : Nat} (hx : x < t.length) {y : Nat} : (y : Int) ∈ hcl t.length g (x : Int) ↔ y < t.length ∧ eR t y x ∧ eL t y x := by
 unfold hcl
 rw [List.mem_filter, J0n]
 simp only [Bool.and_eq_true, decide_eq_true_eq]
 constructor
 ·rintro ⟨h, h1, h2⟩
  have hy : y < t.length := by omega
  exact ⟨hy, (hg.R.ker y x hy hx).1 h1, (hg.L.ker y x hy hx).1 h2⟩
 ·rintro ⟨hy, h1, h2⟩
  exact ⟨by omega, (hg.R.ker y x hy hx).2 h1, (hg.L.ker y x hy hx).2 h2⟩
theorem J2A {n : Nat} {g : Green} {x z : Int} (h : z ∈ hcl n g x) : ∃ y : Nat, z = (y : Int) ∧ y < n := by
 have := J0n.1 (List.mem_filter.1 h).1
 exact ⟨z.toNat, by omega, by omega⟩
theorem J3Y {t : List (List Int)} {g : Green} (hg : GrOf t g) {j r l : Int} {x : Nat} (hx : x < t.length) (hj : ix g.J (x : Int) = j) (hr : ix g.R (x : Int) = r) (hl : ix g.L (x : Int) = l) : cellB t.length g j r l = hcl t.length g (x : Int) := by
 unfold cellB hcl
 refine List.filter_congr fun y hy => ?_
 have := J0n.1 hy
 obtain ⟨m, rfl⟩ := Int.eq_ofNat_of_zero_le this.1
 have hm : m < t.length := by omega
 unfold inC
 rw [hr, hl]
 by_cases h : ix g.R (m : Int) = r
 ·have hJ : ix g.J (m : Int) = j := by
   rw [← hj]
   exact (hg.J.ker m x hm hx).2 (eR_J hm hx ((hg.R.ker m x hm hx).1 (by rw [h, hr])))
  simp [hJ]
 ·simp [h]
theorem J3J {t : List (List Int)} (hv : VT t = true) {x y s : Nat} (hx : x < t.length) (hy : y < t.length) (hs : s < t.length) (h : leR t x y) : leR t (mN t s x) (mN t s y) := by
 have T := SH.tb (VT.sh hv)
 rcases h with rfl | ⟨u, hu, h⟩
 ·exact J2B t _
 ·have e : mN t y u = x := by have := (mN_eq T hy hu).2; omega
  rw [← e, ← mN_as hv hs hy hu]
  exact J44 T (mN_eq T hs hy).1 hu
theorem J37 {t : List (List Int)} (hv : VT t = true) {x y s : Nat} (hx : x < t.length) (hy : y < t.length) (hs : s < t.length) (h : leL t x y) : leL t (mN t x s) (mN t y s) := by
 have T := SH.tb (VT.sh hv)
 rcases h with rfl | ⟨u, hu, h⟩
 ·exact J35 t _
 ·have e : mN t u y = x := by have := (mN_eq T hu hy).2; omega
  rw [← e, mN_as hv hu hy hs]
  exact J5h T (mN_eq T hy hs).1 hu
theorem J56 {t : List (List Int)} {x y : Nat} (h : eR t x y) : eR t y x := ⟨h.2, h.1⟩
theorem J6U {t : List (List Int)} {x y : Nat} (h : eL t x y) : eL t y x := ⟨h.2, h.1⟩
theorem J6Z (t : List (List Int)) (x : Nat) : eL t x x := ⟨J35 t x, J35 t x⟩
theorem J74 (t : List (List Int)) (x : Nat) : eR t x x := ⟨J2B t x, J2B t x⟩
theorem hcl_R {t : List (List Int)} (hv : VT t = true) {g : Green} (hg : GrOf t g) {x z : Nat} (hx : x < t.length) (hz : z < t.length) (h : eR t x z) : (hcl t.length g (x : Int)).length ≤ (hcl t.length g (z : Int)).length := by
 have T := SH.tb (VT.sh hv)
 by_cases hxz : x = z
 ·subst hxz; exact Nat.le_refl _
 obtain ⟨h1, h2⟩ := h
 obtain ⟨v, hv', ev⟩ : ∃ v, v < t.length ∧ mN t z v = x := by
  rcases h1 with rfl | ⟨v, hv', e⟩
  ·exact absurd rfl hxz
  ·exact ⟨v, hv', by have := (mN_eq T hz hv').2; omega⟩
 obtain ⟨u, hu, eu⟩ : ∃ u, u < t.length ∧ mN t x u = z := by
  rcases h2 with rfl | ⟨u, hu, e⟩
  ·exact absurd rfl hxz
  ·exact ⟨u, hu, by have := (mN_eq T hx hu).2; omega⟩
 have back : ∀ h, h < t.length → leL t h x → mN t (mN t h u) v = h := by
  intro h hh hl
  rcases hl with rfl | ⟨s, hs, e⟩
  ·rw [eu, ev]
  ·have e' : mN t s x = h := by have := (mN_eq T hs hx).2; omega
   rw [← e', mN_as hv hs hx hu, eu, mN_as hv hs hz hv', ev]
 have := J2E (l := (hcl t.length g (x : Int)).map fun h => ((mN t h.toNat u : Nat) : Int)) (l' := hcl t.length g (z : Int)) ?_ ?_
 ·simpa using this
 ·refine List.pairwise_map.2 ((J1i _ _).imp_of_mem fun {a b} ha hb hne he => hne ?_)
  obtain ⟨c, rfl, hc⟩ := J2A ha
  obtain ⟨d, rfl, hd⟩ := J2A hb
  have mc := (J1C hg hx).1 ha
  have md := (J1C hg hx).1 hb
  simp only [Int.toNat_natCast] at he
  have e1 : mN t c u = mN t d u := by omega
  have := back c hc mc.2.2.1
  rw [e1, back d hd md.2.2.1] at this
  rw [this]
 ·intro y hy
  obtain ⟨a, ha, rfl⟩ := List.mem_map.1 hy
  obtain ⟨c, rfl, hc⟩ := J2A ha
  obtain ⟨_, mR, mL⟩ := (J1C hg hx).1 ha
  simp only [Int.toNat_natCast]
  have hcu := (mN_eq T hc hu).1
  refine (J1C hg hz).2 ⟨hcu, ?_, ?_⟩
  ·have a1 : eR t (mN t c u) c := by
    refine ⟨J44 T hc hu, ?_⟩
    have := J44 T hcu hv'
    rw [back c hc mL.1] at this
    exact this
   exact J4I hv hcu hz (J4I hv hcu hx a1 mR) ⟨h1, h2⟩
  ·rw [← eu]
   exact ⟨J37 hv hc hx hu mL.1, J37 hv hx hc hu mL.2⟩
theorem hcl_L {t : List (List Int)} (hv : VT t = true) {g : Green} (hg : GrOf t g) {x z : Nat} (hx : x < t.length) (hz : z < t.length) (h : eL t x z) : (hcl t.length g (x : Int)).length ≤ (hcl t.length g (z : Int)).length := by
 have T := SH.tb (VT.sh hv)
 by_cases hxz : x = z
 ·subst hxz; exact Nat.le_refl _
 obtain ⟨h1, h2⟩ := h
 obtain ⟨v, hv', ev⟩ : ∃ v, v < t.length ∧ mN t v z = x := by
  rcases h1 with rfl | ⟨v, hv', e⟩
  ·exact absurd rfl hxz
  ·exact ⟨v, hv', by have := (mN_eq T hv' hz).2; omega⟩
 obtain ⟨u, hu, eu⟩ : ∃ u, u < t.length ∧ mN t u x = z := by
  rcases h2 with rfl | ⟨u, hu, e⟩
  ·exact absurd rfl hxz
  ·exact ⟨u, hu, by have := (mN_eq T hu hx).2; omega⟩
 have back : ∀ h, h < t.length → leR t h x → mN t v (mN t u h) = h := by
  intro h hh hl
  rcases hl with rfl | ⟨s, hs, e⟩
  ·rw [eu, ev]
  ·have e' : mN t x s = h := by have := (mN_eq T hx hs).2; omega
   rw [← e', ← mN_as hv hu hx hs, eu, ← mN_as hv hv' hz hs, ev]
 have := J2E (l := (hcl t.length g (x : Int)).map fun h => ((mN t u h.toNat : Nat) : Int)) (l' := hcl t.length g (z : Int)) ?_ ?_
 ·simpa using this
 ·refine List.pairwise_map.2 ((J1i _ _).imp_of_mem fun {a b} ha hb hne he => hne ?_)
  obtain ⟨c, rfl, hc⟩ := J2A ha
  obtain ⟨d, rfl, hd⟩ := J2A hb
  have mc := (J1C hg hx).1 ha
  have md := (J1C hg hx).1 hb
  simp only [Int.toNat_natCast] at he
  have e1 : mN t u c = mN t u d := by omega
  have := back c hc mc.2.1.1
  rw [e1, back d hd md.2.1.1] at this
  rw [this]
 ·intro y hy
  obtain ⟨a, ha, rfl⟩ := List.mem_map.1 hy
  obtain ⟨c, rfl, hc⟩ := J2A ha
  obtain ⟨_, mR, mL⟩ := (J1C hg hx).1 ha
  simp only [Int.toNat_natCast]
  have hcu := (mN_eq T hu hc).1
  refine (J1C hg hz).2 ⟨hcu, ?_, ?_⟩
  ·rw [← eu]
   exact ⟨J3J hv hc hx hu mR.1, J3J hv hx hc hu mR.2⟩
  ·have a1 : eL t (mN t u c) c := by
    refine ⟨J5h T hc hu, ?_⟩
    have := J5h T hcu hv'
    rw [back c hc mR.1] at this
    exact this
   exact J4x hv hcu hz (J4x hv hcu hx a1 mL) ⟨h1, h2⟩
theorem hcl_J {t : List (List Int)} (hv : VT t = true) {g : Green} (hg : GrOf t g) {x z : Nat} (hx : x < t.length) (hz : z < t.length) (h : eJ t x z) : (hcl t.length g (x : Int)).length = (hcl t.length g (z : Int)).length := by
 obtain ⟨y, hy, h1, h2⟩ := eJ_D hv hx hz h
 have a := hcl_R hv hg hx hy h1
 have b := hcl_R hv hg hy hx (J56 h1)
 have c := hcl_L hv hg hy hz h2
 have d := hcl_L hv hg hz hy (J6U h2)
 omega
theorem J55 {t : List (List Int)} (hv : VT t = true) {g : Green} (hg : GrOf t g) {j r l : Int} (hr : r ∈ rowsB t.length g.R g.J j) (hl : l ∈ rowsB t.length g.L g.J j) : ∃ x : Nat, x < t.length ∧ ix g.J (x : Int) = j ∧ ix g.R (x : Int) = r ∧ ix g.L (x : Int) = l := by
 obtain ⟨x, hx, xj, xr⟩ := (J1e hg.R).1 hr
 obtain ⟨y, hy, yj, yl⟩ := (J1e hg.L).1 hl
 obtain ⟨z, hz, h1, h2⟩ := eJ_D hv hx hy ((hg.J.ker x y hx hy).1 (by rw [xj, yj]))
 refine ⟨z, hz, ?_, ?_, ?_⟩
 ·rw [← xj]; exact (hg.J.ker z x hz hx).2 (eR_J hz hx (J56 h1))
 ·rw [← xr]; exact (hg.R.ker z x hz hx).2 (J56 h1)
 ·rw [← yl]; exact (hg.L.ker z y hz hy).2 h2
theorem J5t {t : List (List Int)} (hv : VT t = true) {g : Green} (hg : GrOf t g) {j r l r' l' : Int} (hr : r ∈ rowsB t.length g.R g.J j) (hl : l ∈ rowsB t.length g.L g.J j) (hr' : r' ∈ rowsB t.length g.R g.J j) (hl' : l' ∈ rowsB t.length g.L g.J j) :
  0 < (cellB t.length g j r l).length ∧ (cellB t.length g j r l).length = (cellB t.length g j r' l').length := by
 obtain ⟨x, hx, xj, xr, xl⟩ := J55 hv hg hr hl
 obtain ⟨y, hy, yj, yr, yl⟩ := J55 hv hg hr' hl'
 rw [J3Y hg hx xj xr xl, J3Y hg hy yj yr yl]
 exact ⟨List.length_pos_of_mem ((J1C hg hx).2 ⟨hx, J74 t x, J6Z t x⟩), hcl_J hv hg hx hy ((hg.J.ker x y hx hy).1 (by rw [xj, yj]))⟩
theorem J5D {t : List (List Int)} (hv : VT t = true) {g : Green} (hg : GrOf t g) {e a b : Nat} (he : e < t.length) (hid : mN t e e = e) (ha : (a : Int) ∈ hcl t.length g (e : Int)) (hb : (b : Int) ∈ hcl t.length g (e : Int)) : ((mN t a b : Nat) : Int) ∈ hcl t.length g (e : Int) := by
 have T := SH.tb (VT.sh hv)
 obtain ⟨hal, aR, aL⟩ := (J1C hg he).1 ha
 obtain ⟨hbl, bR, bL⟩ := (J1C hg he).1 hb
 have hab := (mN_eq T hal hbl).1
 have ea : mN t a e = a := J5B hv he hal hid aL.1
 have eb : mN t e b = b := J5P hv he hbl hid bR.1
 refine (J1C hg he).2 ⟨hab, ?_, ?_⟩
 ·have h1 := J3J hv hbl he hal bR.1
  have h2 := J3J hv he hbl hal bR.2
  rw [ea] at h1 h2
  exact J4I hv hab he ⟨h1, h2⟩ aR
 ·have h1 := J37 hv hal he hbl aL.1
  have h2 := J37 hv he hal hbl aL.2
  rw [eb] at h1 h2
  exact J4x hv hab he ⟨h1, h2⟩ bL
theorem J52 {t : List (List Int)} (hv : VT t = true) {s : List Int} (hs : ∀ x ∈ s, 0 ≤ x ∧ x < t.length) (h0 : 0 < s.length) (hc : ∀ x ∈ s, ∀ y ∈ s, mu t x y ∈ s) : ∃ e ∈ s, mu t e e = e := by
 have T := SH.tb (VT.sh hv)
 have hm := J0R (xs := s) (i := 0) (by omega) (by omega)
 have hx := hs _ hm
 have key : ∀ k, pow t (ix s 0) k ∈ s := by
  intro k
  induction k with
  | zero => exact hm
  | succ k ih => exact hc _ ih _ hm
 obtain ⟨a, m, hR⟩ := exRP T hx
 have hlt := hR.lt
 exact ⟨_, key _, omR.mul (q := a + 1) hv hx hR (Nat.le_mul_of_pos_right _ (by omega))⟩
theorem J6k {t : List (List Int)} (hv : VT t = true) {g : Green} (hg : GrOf t g) {j r l : Int} (hr : r ∈ rowsB t.length g.R g.J j) (hl : l ∈ rowsB t.length g.L g.J j) :
  subCl t (cellB t.length g j r l) ↔ (iota t.length).any (fun x => inC g j r l x && decide (mu t x x = x)) = true := by
 have T := SH.tb (VT.sh hv)
 obtain ⟨x, hx, xj, xr, xl⟩ := J55 hv hg hr hl
 have hlen := (J5t hv hg hr hl hr hl).1
 have hin : ∀ y ∈ cellB t.length g j r l, 0 ≤ y ∧ y < t.length := fun y hy => by
  have := J0n.1 (List.mem_filter.1 hy).1; omega
 have hcl' : subCl t (cellB t.length g j r l) ↔ ∀ y ∈ cellB t.length g j r l, ∀ z ∈ cellB t.length g j r l, mu t y z ∈ cellB t.length g j r l := by
  generalize cellB t.length g j r l = s
  unfold subCl
  constructor
  ·intro h y hy z hz
   obtain ⟨i, hi, rfl⟩ := List.mem_iff_getElem.1 hy
   obtain ⟨k, hk, rfl⟩ := List.mem_iff_getElem.1 hz
   have := h i k hi hk
   rw [ix_lt hi, ix_lt hk] at this
   exact J5L.1 this
  ·intro h i k hi hk
   exact J5L.2 (h _ (J0R (by omega) (by omega)) _ (J0R (by omega) (by omega)))
 rw [hcl', List.any_eq_true]
 constructor
 ·intro h
  obtain ⟨e, he, hid⟩ := J52 hv hin hlen h
  have := List.mem_filter.1 he
  exact ⟨e, this.1, by rw [this.2]; simp [hid]⟩
 ·rintro ⟨e, he, h⟩
  simp only [Bool.and_eq_true, decide_eq_true_eq] at h
  have hee := J0n.1 he
  obtain ⟨m, rfl⟩ := Int.eq_ofNat_of_zero_le hee.1
  have hm : m < t.length := by omega
  have hC := h.1
  unfold inC at hC
  simp only [Bool.and_eq_true, decide_eq_true_eq] at hC
  have hid : mN t m m = m := by have := (mN_eq T hm hm).2; have := h.2; omega
  rw [J3Y hg hm hC.1 hC.2.1 hC.2.2]
  intro y hy z hz
  obtain ⟨a, rfl, hal⟩ := J2A hy
  obtain ⟨b, rfl, hbl⟩ := J2A hz
  rw [(mN_eq T hal hbl).2]
  exact J5D hv hg hm hid hy hz
theorem J4w {f : Int → Int} : ∀ {ls S : List Int}, ls.Nodup → (∀ x ∈ S, f x ∈ ls) → ((ls.map fun l => (S.filter fun x => decide (f x = l)).length).sum) = S.length
  | [], S, _, h => by
    rcases S with _ | ⟨a, S⟩
    · rfl
    · exact absurd (h a (by simp)) (by simp)
  | l :: ls, S, hn, h => by
    obtain ⟨h1, h2⟩ := List.nodup_cons.1 hn
    have ih := J4w (ls := ls) (S := S.filter fun x => !decide (f x = l)) h2 (fun x hx => by
      obtain ⟨a, b⟩ := List.mem_filter.1 hx
      rcases List.mem_cons.1 (h x a) with e | e
      · simp [e] at b
      · exact e)
    have e1 : (ls.map fun l' => ((S.filter fun x => !decide (f x = l)).filter fun x => decide (f x = l')).length) = ls.map fun l' => (S.filter fun x => decide (f x = l')).length := by
      refine List.map_congr_left fun l' hl' => ?_
      rw [List.filter_filter]
      congr 1
      refine List.filter_congr fun x _ => ?_
      by_cases hx : f x = l'
      · have : ¬ l' = l := fun e => h1 (e ▸ hl')
        simp [hx, this]
      · simp [hx]
    rw [e1] at ih
    rw [List.map_cons, List.sum_cons, ih]
    have := List.length_eq_countP_add_countP (fun x => decide (f x = l)) (l := S)
    rw [List.countP_eq_length_filter, List.countP_eq_length_filter] at this
    have e2 : (fun a => decide ¬(fun x => decide (f x = l)) a = true) = fun x => !decide (f x = l) := by funext a; simp
    rw [e2] at this
    omega
def cellsB (k : Nat) (g : Green) (n : Nat) (j : Int) : List (List (List Int)) := (rowsB n g.R g.J j).map fun r => (rowsB n g.L g.J j).map fun l => cellB k g j r l
def grpB (t : List (List Int)) (k : Nat) (g : Green) (j r l : Int) : Bool := (iota k).any fun x => inC g j r l x && decide (mu t x x = x)
def grpsB (t : List (List Int)) (k : Nat) (g : Green) (n : Nat) (j : Int) : List (List Bool) := (rowsB n g.R g.J j).map fun r => (rowsB n g.L g.J j).map fun l => grpB t k g j r l
theorem J5J {t : List (List Int)} (hv : VT t = true) {g : Green} (hg : GrOf t g) (j : Int) : ((cellsB t.length g t.length j).map fun row => (row.map fun c => c.length).sum).sum = ((iota t.length).filter fun x => decide (ix g.J x = j)).length := by
 unfold cellsB
 rw [List.map_map]
 have hl : ∀ x ∈ (iota t.length).filter (fun x => decide (ix g.J x = j)), ∃ m : Nat, x = (m : Int) ∧ m < t.length ∧ ix g.J (m : Int) = j := fun x hx => by
  obtain ⟨a, b⟩ := List.mem_filter.1 hx
  have := J0n.1 a
  obtain ⟨m, rfl⟩ := Int.eq_ofNat_of_zero_le this.1
  exact ⟨m, rfl, by omega, by simpa using b⟩
 have e1 : ∀ r : Int, (((rowsB t.length g.L g.J j).map fun l => cellB t.length g j r l).map fun c => c.length).sum = (((iota t.length).filter fun x => decide (ix g.J x = j)).filter fun x => decide (ix g.R x = r)).length := by
  intro r
  rw [List.map_map, ← J4w (f := fun x => ix g.L x) (ls := rowsB t.length g.L g.J j) (J1l _ _ _ _) (fun x hx => by
   obtain ⟨m, rfl, hm, hj⟩ := hl x (List.mem_filter.1 hx).1
   exact (J1e hg.L).2 ⟨m, hm, hj, rfl⟩)]
  congr 1
  refine List.map_congr_left fun l _ => ?_
  show (cellB t.length g j r l).length = _
  unfold cellB
  rw [List.filter_filter, List.filter_filter]
  congr 1
  refine List.filter_congr fun x _ => ?_
  unfold inC
  simp only [Bool.and_comm, Bool.and_left_comm]
 rw [← J4w (f := fun x => ix g.R x) (ls := rowsB t.length g.R g.J j) (J1l _ _ _ _) (fun x hx => by
   obtain ⟨m, rfl, hm, hj⟩ := hl x hx
   exact (J1e hg.R).2 ⟨m, hm, hj, rfl⟩)]
 congr 1
 exact List.map_congr_left fun r _ => e1 r
end Sg
namespace Sg
open Go
set_option linter.unusedVariables false
set_option linter.unusedSimpArgs false
theorem J5k (l : List Int) {i j : Nat} (hij : i < j) (hj : j < l.length) : ix (msort l) (i : Int) ≤ ix (msort l) (j : Int) := by
 have h1 : (msort l).Pairwise fun x y => decide (x ≤ y) = true := List.pairwise_mergeSort (fun a b c h1 h2 => by simp at h1 h2 ⊢; omega) (fun a b => by simp; omega) l
 have hl : (msort l).length = l.length := List.length_mergeSort l
 rw [ix_lt (by omega), ix_lt (by omega)]
 have := List.pairwise_iff_getElem.1 h1 i j (by omega) (by omega) hij
 simpa using this
theorem J5Z {l : List Int} {x : Int} : x ∈ msort l ↔ x ∈ l := List.mem_mergeSort
theorem J3W {p : Int → Prop} {l : List Int} (h : ∀ i j : Nat, i < j → j < l.length → ix l (i : Int) < ix l (j : Int)) (hm : ∀ x, (∃ i : Nat, i < l.length ∧ ix l (i : Int) = x) ↔ p x) : AscOf p l :=
 ⟨List.pairwise_iff_getElem.2 fun i j hi hj hij => by
  have := h i j hij hj
  rw [ix_lt hi, ix_lt hj] at this
  exact this, fun x => J4h.trans (hm x)⟩
theorem J4C {α : Type} [Inhabited α] {l : List α} {c i : Nat} (hi : i < c) (hc : c ≤ l.length) : ix (l.take c) (i : Int) = ix l (i : Int) := by
 rw [ix_lt (by simp; omega), ix_lt (by omega), List.getElem_take]
structure CI (s0 : List Int) (c m : Nat) (s : List Int) : Prop where
 len : s.length = s0.length
 c1 : 1 ≤ c
 cm : c + 1 ≤ m
 mn : m ≤ s0.length
 tl : ∀ j : Nat, m ≤ j + 1 → j < s0.length → ix s (j : Int) = ix s0 (j : Int)
 asc : ∀ i j : Nat, i < j → j < c → ix s (i : Int) < ix s (j : Int)
 last : ix s ((c - 1 : Nat) : Int) = ix s0 ((m - 1 : Nat) : Int)
 mem : ∀ x, (∃ i : Nat, i < c ∧ ix s (i : Int) = x) ↔ ∃ i : Nat, i < m ∧ ix s0 (i : Int) = x
theorem CI.same {s0 s : List Int} {c m : Nat} (h : CI s0 c m s) (hm : m < s0.length) (he : ix s0 (m : Int) = ix s0 ((m - 1 : Nat) : Int)) : CI s0 c (m + 1) s := by
 have hc1 := h.c1
 have hcm := h.cm
 refine ⟨h.len, h.c1, by omega, hm, fun j hj hj2 => h.tl j (by omega) hj2, h.asc, ?_, fun x => (h.mem x).trans ?_⟩
 ·rw [h.last, ← he]; rfl
 ·constructor
  ·rintro ⟨i, hi, e⟩; exact ⟨i, by omega, e⟩
  ·rintro ⟨i, hi, e⟩
   by_cases him : i = m
   ·subst him; exact ⟨i - 1, by omega, by rw [← he]; exact e⟩
   ·exact ⟨i, by omega, e⟩
theorem CI.next {s0 s : List Int} {c m : Nat} (h : CI s0 c m s) (hm : m < s0.length) (hlt : ix s0 ((m - 1 : Nat) : Int) < ix s0 (m : Int)) : CI s0 (c + 1) (m + 1) (st s (c : Int) (ix s0 (m : Int))) := by
 have hc1 := h.c1
 have hcm := h.cm
 have hl := h.len
 have old : ∀ j : Nat, j ≠ c → ix (st s (c : Int) (ix s0 (m : Int))) (j : Int) = ix s (j : Int) := fun j hj => by
  rw [ix_st _ (by omega) (by omega) (by omega), if_neg (by omega)]
 have new : ix (st s (c : Int) (ix s0 (m : Int))) (c : Int) = ix s0 (m : Int) := by
  rw [ix_st _ (by omega) (by omega) (by omega), if_pos rfl]
 refine ⟨by simpa using hl, by omega, by omega, hm, fun j hj hj2 => ?_, fun i j hij hj => ?_, ?_, fun x => ?_⟩
 ·rw [old j (by omega)]; exact h.tl j (by omega) hj2
 ·by_cases hjc : j = c
  ·subst hjc
   rw [new, old i (by omega)]
   have h2 := h.last
   by_cases hic : i = j - 1
   ·subst hic; omega
   ·have := h.asc i (j - 1) (by omega) (by omega); omega
  ·rw [old i (by omega), old j hjc]; exact h.asc i j hij (by omega)
 ·exact new
 ·constructor
  ·rintro ⟨i, hi, e⟩
   by_cases hic : i = c
   ·subst hic; rw [new] at e; exact ⟨m, by omega, e⟩
   ·rw [old i hic] at e
    obtain ⟨q, hq, e2⟩ := (h.mem x).1 ⟨i, by omega, e⟩
    exact ⟨q, by omega, e2⟩
  ·rintro ⟨q, hq, e⟩
   by_cases hqm : q = m
   ·subst hqm; exact ⟨c, by omega, new.trans e⟩
   ·obtain ⟨i, hi, e2⟩ := (h.mem x).2 ⟨q, by omega, e⟩
    exact ⟨i, by omega, by rw [old i (by omega)]; exact e2⟩
theorem J1A {f : List Int} (hn : f.length ≤ 4096) {K : List Int → Prop} (hA : ∀ l, AscOf (fun x => x ∈ f) l → K l) : J0d (msort f) K := by
  unfold J0d
  have hl : (msort f).length = f.length := List.length_mergeSort f
  have hmem : ∀ x, (∃ i : Nat, i < (msort f).length ∧ ix (msort f) (i : Int) = x) ↔ x ∈ f := fun x => J4h.symm.trans J5Z
  split
  · exact hA _ (J3W (fun i j hij hj => by omega) hmem)
  refine LoopWP.to f.length (fun k : Nat => k) (fun k => 1 ≤ k ∧ k ≤ f.length ∧ ∀ j : Nat, 1 ≤ j → j < k → ix (msort f) ((j - 1 : Nat) : Int) < ix (msort f) (j : Int)) ⟨by omega, by omega, fun j h1 h2 => by omega⟩ (fun k hk => hk.2.1) ?_
  rintro k X ⟨hk1, hk, hI⟩ hX
  unfold J1w
  have up : ∀ i j : Nat, i < j → j < k → ix (msort f) (i : Int) < ix (msort f) (j : Int) := by
    intro i j hij
    induction j with
    | zero => omega
    | succ j ih =>
      intro hj
      have := hI (j + 1) (by omega) hj
      rw [show j + 1 - 1 = j from rfl] at this
      by_cases hij2 : i = j
      · subst hij2; exact this
      · have := ih (by omega) (by omega); omega
  have ek : (k : Int) - 1 = ((k - 1 : Nat) : Int) := by omega
  rw [hl]
  split
  · have hkl : k < f.length := by omega
    rw [ek]
    refine ⟨by omega, by omega, ⟨by omega, by omega⟩, by omega, by omega, ?_⟩
    have hle := J5k f (i := k - 1) (j := k) (by omega) hkl
    split
    · rename_i he
      refine ⟨by omega, by omega, ?_⟩
      have hC0 : CI (msort f) k (k + 1) (msort f) := ⟨rfl, hk1, Nat.le_refl _, by omega, fun _ _ _ => rfl, up, by rw [← he]; rfl, fun x => by
        constructor
        · rintro ⟨i, hi, e⟩; exact ⟨i, by omega, e⟩
        · rintro ⟨i, hi, e⟩
          by_cases hik : i = k
          · subst hik; exact ⟨i - 1, by omega, by rw [← he]; exact e⟩
          · exact ⟨i, by omega, e⟩⟩
      refine LoopWP.to f.length (fun s : Nat × Nat × List Int => s.2.1) (fun s => 1 ≤ s.2.1 ∧ CI (msort f) s.1 (k + s.2.1) s.2.2) ⟨Nat.le_refl 1, hC0⟩ (fun s hs => by have := hs.2.mn; omega) ?_
      rintro ⟨c, m, s⟩ X2 ⟨hm1, hC⟩ hX2
      simp only at hm1 hC
      show J0G k K _ c m s
      unfold J0G
      have hsl := hC.len
      have hc1 := hC.c1
      have hcm := hC.cm
      have hmn := hC.mn
      rw [show ((k : Int)).toNat = k from rfl]
      split
      · rename_i hml
        have hml' : k + m < (msort f).length := by omega
        have e1 := hC.tl (k + m) (by omega) hml'
        have e2 := hC.tl (k + m - 1) (by omega) (by omega)
        have ei : (k : Int) + (m : Int) = ((k + m : Nat) : Int) := by omega
        have ej : (k : Int) + ((m : Int) - 1) = ((k + m - 1 : Nat) : Int) := by omega
        rw [ei, ej, e1, e2]
        refine ⟨by omega, by omega, ⟨by omega, by omega⟩, by omega, by omega, ?_⟩
        split
        · rename_i hq
          exact ⟨⟨by omega, by omega⟩, hX2 (c, m + 1, s) ⟨by simp only; omega, hC.same hml' hq⟩ rfl⟩
        · rename_i hq
          have := J5k f (i := k + m - 1) (j := k + m) (by omega) (by omega)
          exact ⟨by omega, by omega, by omega, by omega, ⟨by omega, by omega⟩, ⟨by omega, by omega⟩, hX2 (c + 1, m + 1, _) ⟨by simp only; omega, hC.next hml' (by omega)⟩ rfl⟩
      · rename_i hml
        have hme : k + m = (msort f).length := by omega
        refine ⟨by omega, by omega, by omega, by simp; omega, ?_⟩
        rw [show ((c : Int)).toNat = c from rfl, List.take_append_of_le_length (by simp; omega), List.take_take, Nat.min_self]
        refine hA _ (J3W (fun i j hij hj => ?_) fun x => ?_)
        · rw [List.length_take, Nat.min_eq_left (by omega)] at hj
          rw [J4C (by omega) (by omega), J4C hj (by omega)]
          exact hC.asc i j hij hj
        · rw [List.length_take, Nat.min_eq_left (by omega), ← hmem, ← hme]
          refine Iff.trans ?_ (hC.mem x)
          constructor
          · rintro ⟨i, hi, e⟩; rw [J4C hi (by omega)] at e; exact ⟨i, hi, e⟩
          · rintro ⟨i, hi, e⟩; exact ⟨i, hi, by rw [J4C hi (by omega)]; exact e⟩
    · rename_i he
      refine hX (k + 1) ⟨by omega, by omega, fun j hj1 hj2 => ?_⟩ rfl
      by_cases hjk : j = k
      · subst hjk; omega
      · exact hI j hj1 (by omega)
  · have hke : k = f.length := by omega
    exact hA _ (J3W (fun i j hij hj => up i j hij (by omega)) hmem)
theorem half {s : Int} (h0 : 0 ≤ s) (h1 : s < 4611686018427387904) : IntKind.i64.wrap (shrK .u64 (IntKind.u64.wrap s) (1 : Int)) = s / 2 := by
 obtain ⟨m, rfl⟩ := Int.eq_ofNat_of_zero_le h0
 have e1 : IntKind.u64.wrap (m : Int) = (m : Int) := J2R ⟨by omega, by omega⟩
 rw [e1, show (1 : Int) = ((1 : Nat) : Int) from rfl, J5Y (by omega)]
 have e2 : m >>> 1 = m / 2 := by rw [Nat.shiftRight_eq_div_pow]
 rw [e2]
 have e3 : IntKind.i64.wrap ((m / 2 : Nat) : Int) = ((m / 2 : Nat) : Int) := J41 ⟨by omega, by omega⟩
 rw [e3]; omega
theorem J42 {x y : Int} {K : Bool → Prop} (h : K (decide (x < y))) : J1u x y K := by
 unfold J1u J1c
 by_cases hxy : x < y <;> simpa [hxy] using h
theorem J0K {l : List Int} (hl : l.length ≤ 4096) (hs : l.Pairwise (· < ·)) {p : Nat} (hp : p < l.length) {t : Int} (ht : ix l (p : Int) = t) {K : Int → Bool → Prop} (h : K (p : Int) true) : J07 l t K := by
 have mono : ∀ i j : Nat, i < j → j < l.length → ix l (i : Int) < ix l (j : Int) := fun i j hij hj => by
  rw [ix_lt (by omega), ix_lt hj]; exact List.pairwise_iff_getElem.1 hs i j (by omega) hj hij
 unfold J07
 intro _
 refine LoopWP.intro (fun s : Int × Int => 0 ≤ s.1 ∧ s.1 ≤ (p : Int) ∧ (p : Int) ≤ s.2 ∧ s.2 ≤ (l.length : Int)) (fun s => (s.2 - s.1).toNat) ⟨by simp, by simp, by simp; omega, by simp⟩ ?_
 rintro ⟨i, j⟩ X ⟨h1, h2, h3, h4⟩ hX
 simp only at h1 h2 h3 h4
 show J0h l t K _ i j
 unfold J0h
 split
 ·rename_i hij
  rw [half (by omega) (by omega)]
  obtain ⟨m, hm⟩ := Int.eq_ofNat_of_zero_le (show 0 ≤ (i + j) / 2 by omega)
  rw [hm]
  refine ⟨⟨by omega, by omega⟩, by omega, by omega, J42 ?_⟩
  have hml : m < l.length := by omega
  split
  ·rename_i hlt
   have hlt : ix l (m : Int) < t := by simpa using hlt
   have : m < p := by
    rcases Nat.lt_trichotomy m p with hx | hx | hx
    ·exact hx
    ·subst hx; omega
    ·have := mono p m hx hml; omega
   exact ⟨⟨by omega, by omega⟩, hX (_, _) ⟨by simp only; omega, by simp only; omega, h3, h4⟩ (by simp only; omega)⟩
  ·rename_i hlt
   have hlt : ¬ ix l (m : Int) < t := by simpa using hlt
   have : p ≤ m := by
    rcases Nat.lt_or_ge m p with hx | hx
    ·have := mono m p hx hp; omega
    ·exact hx
   exact hX (_, _) ⟨h1, h2, by simp only; omega, by simp only; omega⟩ (by simp only; omega)
 ·rename_i hij
  have e : i = (p : Int) := by omega
  subst e
  rw [if_pos (by omega), if_pos ht]
  exact ⟨by omega, by omega, h⟩
end Sg
namespace Sg
open Go
set_option linter.unusedVariables false
set_option linter.unusedSimpArgs false
def boxOf (t : List (List Int)) (g : Green) (j : Int) : Box := ⟨rowsB t.length g.R g.J j, rowsB t.length g.L g.J j, cellsB t.length g t.length j, grpsB t t.length g t.length j⟩
def clJ (k : Nat) (g : Green) (j : Int) : List Int := (iota k).filter fun x => decide (ix g.J x = j)
theorem J3O (k : Nat) (g : Green) (j : Int) : clJ (k + 1) g j = clJ k g j ++ if ix g.J (k : Int) = j then [(k : Int)] else [] := by
 unfold clJ
 rw [J1y, List.filter_append]
 congr 1
 by_cases h : ix g.J (k : Int) = j <;> simp [h]
theorem J6c {k : Nat} {g : Green} {j x : Int} : x ∈ clJ k g j ↔ (0 ≤ x ∧ x < (k : Int)) ∧ ix g.J x = j := by
 unfold clJ
 rw [List.mem_filter, J0n]; simp
theorem J6f (k : Nat) (g : Green) (j : Int) : (clJ k g j).length ≤ k := by
 have := List.length_filter_le (fun x => decide (ix g.J x = j)) (iota k)
 simpa [clJ] using this
theorem J5z {α : Type} [Inhabited α] {ls : List Int} (nd : ls.Nodup) {f f' : Int → α} {p : Nat} (hp : p < ls.length) (h : ∀ l ∈ ls, l ≠ ix ls (p : Int) → f' l = f l) : st (ls.map f) (p : Int) (f' (ix ls (p : Int))) = ls.map f' := by
 refine J22 (by simp) fun i hi => ?_
 have hi' : i < ls.length := by simpa using hi
 rw [ix_st _ (by omega) (by simp; omega) (by omega), J0V _ (by omega) (by omega)]
 by_cases e : i = p
 ·subst e; rw [if_pos rfl, J0V _ (by omega) (by omega)]
 ·rw [if_neg (by omega), J0V _ (by omega) (by omega), h _ (J0R (by omega) (by omega)) fun he => ?_]
  rw [ix_lt hi', ix_lt hp] at he
  exact e ((List.getElem_inj nd).1 he)
theorem J3h {n : Nat} {p J : List Int} {j : Int} : (rowsB n p J j).length ≤ n := by
 have := List.length_filter_le (fun r => (iota n).any fun x => decide (ix J x = j) && decide (ix p x = r)) (iota n)
 simpa [rowsB] using this
theorem J5y {n : Nat} {p J : List Int} {j : Int} {e : Nat → Nat → Prop} (hp : PartOf p n e) {l : List Int} (hl : AscOf (fun x => ∃ y : Nat, y < n ∧ ix J (y : Int) = j ∧ ix p (y : Int) = x) l) : l = rowsB n p J j :=
 hl.uniq ⟨J3X n p J j, fun x => J1e hp⟩
theorem J69 {k : Nat} {g : Green} {j : Int} {p : List Int} {x : Int} : x ∈ (clJ k g j).map (fun y => ix p y) ↔ ∃ y : Nat, y < k ∧ ix g.J (y : Int) = j ∧ ix p (y : Int) = x := by
 rw [List.mem_map]
 constructor
 ·rintro ⟨y, hy, rfl⟩
  have := J6c.1 hy
  obtain ⟨m, rfl⟩ := Int.eq_ofNat_of_zero_le this.1.1
  exact ⟨m, by omega, this.2, rfl⟩
 ·rintro ⟨y, hy, h1, rfl⟩
  exact ⟨y, J6c.2 ⟨by omega, h1⟩, rfl⟩
theorem J2C (k : Nat) (g : Green) (j r l : Int) : cellB (k + 1) g j r l = cellB k g j r l ++ if inC g j r l (k : Int) = true then [(k : Int)] else [] := by
 unfold cellB
 rw [J1y, List.filter_append]
 congr 1
 by_cases h : inC g j r l (k : Int) = true <;> simp [h]
theorem J3d (t : List (List Int)) (k : Nat) (g : Green) (j r l : Int) : grpB t (k + 1) g j r l = (grpB t k g j r l || (inC g j r l (k : Int) && decide (mu t (k : Int) (k : Int) = (k : Int)))) := by
 unfold grpB
 rw [J1y, List.any_append]; simp
theorem J4T (k : Nat) (g : Green) (j r l : Int) : (cellB k g j r l).length ≤ k := by
 have := List.length_filter_le (inC g j r l) (iota k)
 simpa [cellB] using this
theorem J5C {k n : Nat} {g : Green} {j : Int} (h : ¬ ix g.J (k : Int) = j) : cellsB (k + 1) g n j = cellsB k g n j := by
 unfold cellsB
 refine List.map_congr_left fun r _ => List.map_congr_left fun l _ => ?_
 rw [J2C]; simp [inC, h]
theorem J6g {t : List (List Int)} {k n : Nat} {g : Green} {j : Int} (h : ¬ ix g.J (k : Int) = j) : grpsB t (k + 1) g n j = grpsB t k g n j := by
 unfold grpsB
 refine List.map_congr_left fun r _ => List.map_congr_left fun l _ => ?_
 rw [J3d]; simp [inC, h]
theorem J5G {k n : Nat} {g : Green} {j : Int} (h : ix g.J (k : Int) = j) {p q : Nat} (hp : p < (rowsB n g.R g.J j).length) (hq : q < (rowsB n g.L g.J j).length) (ep : ix (rowsB n g.R g.J j) (p : Int) = ix g.R (k : Int)) (eq : ix (rowsB n g.L g.J j) (q : Int) = ix g.L (k : Int)) :
  st (cellsB k g n j) (p : Int) (st (ix (cellsB k g n j) (p : Int)) (q : Int) (ix (ix (cellsB k g n j) (p : Int)) (q : Int) ++ [(k : Int)])) = cellsB (k + 1) g n j := by
 unfold cellsB
 rw [J0V _ (by omega) (by omega), J0V _ (by omega) (by omega)]
 have e1 : cellB k g j (ix (rowsB n g.R g.J j) (p : Int)) (ix (rowsB n g.L g.J j) (q : Int)) ++ [(k : Int)] = cellB (k + 1) g j (ix (rowsB n g.R g.J j) (p : Int)) (ix (rowsB n g.L g.J j) (q : Int)) := by
  rw [J2C, if_pos (by simp [inC, h, ep, eq])]
 rw [e1, J5z (f' := fun l => cellB (k + 1) g j (ix (rowsB n g.R g.J j) (p : Int)) l) (J1l _ _ _ _) hq fun l _ hl => by
  rw [J2C, if_neg (by rw [eq] at hl; simp [inC, Ne.symm hl]), List.append_nil]]
 rw [J5z (f' := fun r => (rowsB n g.L g.J j).map fun l => cellB (k + 1) g j r l) (J1l _ _ _ _) hp fun r _ hr => ?_]
 refine List.map_congr_left fun l _ => ?_
 rw [J2C, if_neg (by rw [ep] at hr; simp [inC, Ne.symm hr]), List.append_nil]
theorem J5S {t : List (List Int)} {k n : Nat} {g : Green} {j : Int} (h : ix g.J (k : Int) = j) {p q : Nat} (hp : p < (rowsB n g.R g.J j).length) (hq : q < (rowsB n g.L g.J j).length) (ep : ix (rowsB n g.R g.J j) (p : Int) = ix g.R (k : Int)) (eq : ix (rowsB n g.L g.J j) (q : Int) = ix g.L (k : Int)) :
  st (grpsB t k g n j) (p : Int) (st (ix (grpsB t k g n j) (p : Int)) (q : Int) (ix (ix (grpsB t k g n j) (p : Int)) (q : Int) || decide (mu t (k : Int) (k : Int) = (k : Int)))) = grpsB t (k + 1) g n j := by
 unfold grpsB
 rw [J0V _ (by omega) (by omega), J0V _ (by omega) (by omega)]
 have e1 : (grpB t k g j (ix (rowsB n g.R g.J j) (p : Int)) (ix (rowsB n g.L g.J j) (q : Int)) || decide (mu t (k : Int) (k : Int) = (k : Int))) = grpB t (k + 1) g j (ix (rowsB n g.R g.J j) (p : Int)) (ix (rowsB n g.L g.J j) (q : Int)) := by
  rw [J3d]; simp [inC, h, ep, eq]
 rw [e1, J5z (f' := fun l => grpB t (k + 1) g j (ix (rowsB n g.R g.J j) (p : Int)) l) (J1l _ _ _ _) hq fun l _ hl => by
  rw [J3d]; rw [eq] at hl; simp [inC, Ne.symm hl]]
 rw [J5z (f' := fun r => (rowsB n g.L g.J j).map fun l => grpB t (k + 1) g j r l) (J1l _ _ _ _) hp fun r _ hr => ?_]
 refine List.map_congr_left fun l _ => ?_
 rw [J3d]; rw [ep] at hr; simp [inC, Ne.symm hr]
theorem J5O {α β : Type} (b : β) (l : List α) : l.map (fun _ => b) = List.replicate l.length b := by
 induction l with
 | nil => rfl
 | cons a l ih => rw [List.map_cons, ih]; rfl
theorem J4Q {t : List (List Int)} {j : Int} {K : Box → Int → Prop} (h1 : VT t = true → ∀ g, GrOf t g → ∀ i : Nat, i < g.Below.length → j = (i : Int) → K (boxOf t g j) 0)
  (h2 : VT t = true → ∀ g, GrOf t g → ¬ (0 ≤ j ∧ j < (g.Below.length : Int)) → K ⟨[], [], [], []⟩ 1) (h3 : ¬ VT t = true → K ⟨[], [], [], []⟩ (vaC t)) : J2q t j K := by
 unfold J2q
 refine J1I ?_
 split
 ·rename_i h0
  have hv := vaC0.1 h0
  have T := SH.tb (VT.sh hv)
  have n4 := T.n4
  refine J0Z (fun _ g hg => ?_) fun h => absurd hv h
  have lJ := hg.J.len
  have lR := hg.R.len
  have lL := hg.L.len
  split
  ·exact h2 hv g hg (by omega)
  refine fun _ => ?_
  split
  ·exact h2 hv g hg (by omega)
  obtain ⟨i, rfl⟩ := Int.eq_ofNat_of_zero_le (show 0 ≤ j by omega)
  have hi : i < g.Below.length := by omega
  have key : K ⟨rowsB t.length g.R g.J (i : Int), rowsB t.length g.L g.J (i : Int), cellsB t.length g t.length (i : Int), grpsB t t.length g t.length (i : Int)⟩ 0 := h1 hv g hg i hi rfl
  refine fun _ => LoopWP.fold t.length (fun k s => s = ((clJ k g (i : Int)).map (fun x => ix g.L x), (clJ k g (i : Int)).map (fun x => ix g.R x))) rfl ?_
  rintro k ⟨dL, dR⟩ X hk hI hX
  obtain ⟨rfl, rfl⟩ := Prod.mk.inj hI
  show J2u t (i : Int) g K _ k _ _
  unfold J2u
  have hcl := J6f k g (i : Int)
  rw [lJ]
  split
  ·have hkt : k < t.length := by omega
   refine ⟨by omega, by omega, ?_⟩
   split
   ·rename_i hJ
    refine ⟨by omega, by omega, by simp; omega, by omega, by omega, by simp; omega, hX _ hkt ?_⟩
    rw [J3O, if_pos hJ]; simp
   ·rename_i hJ
    refine hX _ hkt ?_
    rw [J3O, if_neg hJ]; simp
  ·obtain rfl : k = t.length := by omega
   refine ⟨by simp; omega, by simp; omega, J1A (by simp; omega) fun rs hrs => J1A (by simp; omega) fun cs hcs => ?_⟩
   obtain rfl := J5y hg.R (l := rs) ⟨hrs.1, fun x => (hrs.2 x).trans J69⟩
   obtain rfl := J5y hg.L (l := cs) ⟨hcs.1, fun x => (hcs.2 x).trans J69⟩
   have lr := J3h (n := t.length) (p := g.R) (J := g.J) (j := (i : Int))
   have lc := J3h (n := t.length) (p := g.L) (J := g.J) (j := (i : Int))
   refine fun _ => LoopWP.fold (rowsB t.length g.R g.J (i : Int)).length (fun k s => s = (List.replicate k (List.replicate (rowsB t.length g.L g.J (i : Int)).length false), List.replicate k (List.replicate (rowsB t.length g.L g.J (i : Int)).length ([] : List Int)))) rfl ?_
   rintro m ⟨d1, d2⟩ X2 hm hI2 hX2
   obtain ⟨rfl, rfl⟩ := Prod.mk.inj hI2
   show J2p t (i : Int) g _ _ K _ m _ _
   unfold J2p
   split
   ·refine fun _ => ⟨by omega, by omega, by simp; omega, by omega, by omega, by simp; omega, hX2 _ (by omega) ?_⟩
    rw [List.replicate_succ', List.replicate_succ']
   ·obtain rfl : m = (rowsB t.length g.R g.J (i : Int)).length := by omega
    have e0 : (List.replicate (rowsB t.length g.R g.J (i : Int)).length (List.replicate (rowsB t.length g.L g.J (i : Int)).length false), List.replicate (rowsB t.length g.R g.J (i : Int)).length (List.replicate (rowsB t.length g.L g.J (i : Int)).length ([] : List Int))) = (grpsB t 0 g t.length (i : Int), cellsB 0 g t.length (i : Int)) := by
     unfold grpsB cellsB grpB cellB
     simp only [show iota 0 = [] from rfl, List.any_nil, List.filter_nil, J5O]
    rw [Prod.mk.injEq] at e0
    rw [e0.1, e0.2]
    refine LoopWP.fold t.length (fun k s => s = (grpsB t k g t.length (i : Int), cellsB k g t.length (i : Int))) rfl ?_
    rintro k ⟨d1, d2⟩ X3 hk3 hI3 hX3
    obtain ⟨rfl, rfl⟩ := Prod.mk.inj hI3
    show J2z t (i : Int) g _ _ K _ k _ _
    unfold J2z
    rw [lJ]
    split
    ·have hkt : k < t.length := by omega
     refine ⟨by omega, by omega, ?_⟩
     split
     ·rename_i hJ
      obtain ⟨p, hp, ep⟩ := J4h.1 ((J1e hg.R (J := g.J) (j := (i : Int)) (r := ix g.R (k : Int))).2 ⟨k, hkt, hJ, rfl⟩)
      obtain ⟨q, hq, eq⟩ := J4h.1 ((J1e hg.L (J := g.J) (j := (i : Int)) (r := ix g.L (k : Int))).2 ⟨k, hkt, hJ, rfl⟩)
      refine ⟨by omega, by omega, J0K (by omega) (J3X _ _ _ _) hp ep ?_⟩
      refine ⟨by omega, by omega, J0K (by omega) (J3X _ _ _ _) hq eq ?_⟩
      have c1 : (cellsB k g t.length (i : Int)).length = (rowsB t.length g.R g.J (i : Int)).length := by simp [cellsB]
      have c2 : (ix (cellsB k g t.length (i : Int)) (p : Int)).length = (rowsB t.length g.L g.J (i : Int)).length := by
       unfold cellsB; rw [J0V _ (by omega) (by omega)]; simp
      have c3 : (grpsB t k g t.length (i : Int)).length = (rowsB t.length g.R g.J (i : Int)).length := by simp [grpsB]
      have c4 : (ix (grpsB t k g t.length (i : Int)) (p : Int)).length = (rowsB t.length g.L g.J (i : Int)).length := by
       unfold grpsB; rw [J0V _ (by omega) (by omega)]; simp
      have c5 : (ix (ix (cellsB k g t.length (i : Int)) (p : Int)) (q : Int)).length + [(k : Int)].length ≤ 1099511627776 := by
       unfold cellsB
       rw [J0V _ (by omega) (by omega), J0V _ (by omega) (by omega)]
       have := J4T k g (i : Int) (ix (rowsB t.length g.R g.J (i : Int)) (p : Int)) (ix (rowsB t.length g.L g.J (i : Int)) (q : Int))
       simp only [List.length_singleton]; omega
      have r1 := T.row (k : Int) (by omega) (by omega)
      have fin : X3 (k + 1, st (grpsB t k g t.length (i : Int)) (p : Int) (st (ix (grpsB t k g t.length (i : Int)) (p : Int)) (q : Int) (ix (ix (grpsB t k g t.length (i : Int)) (p : Int)) (q : Int) || decide (mu t (k : Int) (k : Int) = (k : Int)))),
        st (cellsB k g t.length (i : Int)) (p : Int) (st (ix (cellsB k g t.length (i : Int)) (p : Int)) (q : Int) (ix (ix (cellsB k g t.length (i : Int)) (p : Int)) (q : Int) ++ [(k : Int)]))) := by
       refine hX3 _ hkt ?_
       rw [J5G hJ hp hq ep eq, J5S hJ hp hq ep eq]
      dsimp only
      refine ⟨by omega, by omega, by omega, by omega, ⟨by omega, by omega, c5, by omega, by omega, by omega, by omega, by omega, by omega, by omega, by omega, ?_⟩, ⟨by omega, by omega, c5, by omega, by omega, by omega, by omega, by omega, by omega, by omega, by omega, ?_⟩, c5, by omega, by omega, by omega, by omega, by omega, by omega, by omega, by omega, by omega, by omega, ?_⟩
      all_goals
       split
       ·rename_i hb
        refine ⟨by omega, by omega, ?_⟩
        rw [hb, Bool.true_or] at fin
        exact fin
       ·rename_i hb
        rw [Bool.not_eq_true] at hb
        rw [hb, Bool.false_or] at fin
        refine ⟨by omega, by omega, by omega, by omega, ?_⟩
        split
        ·rename_i hm
         have hm' : mu t (k : Int) (k : Int) = (k : Int) := hm
         rw [decide_eq_true hm'] at fin
         exact ⟨by omega, by omega, fin⟩
        ·rename_i hm
         have hm' : ¬ mu t (k : Int) (k : Int) = (k : Int) := hm
         rw [decide_eq_false hm'] at fin
         exact ⟨by omega, by omega, fin⟩
     ·rename_i hJ
      refine hX3 _ hkt ?_
      rw [J5C hJ, J6g hJ]
    ·obtain rfl : k = t.length := by omega
     exact key
 ·rename_i h0
  exact h3 fun hv => h0 (vaC0.2 hv)
end Sg
namespace Sg
open Go
set_option linter.unusedVariables false
set_option linter.unusedSimpArgs false
end Sg
namespace Sg
open Go
set_option linter.unusedVariables false
set_option linter.unusedSimpArgs false
theorem J5A {t : List (List Int)} {g : Green} {j : Int} : (boxOf t g j).Cells.length = (boxOf t g j).Rows.length ∧ (boxOf t g j).Groups.length = (boxOf t g j).Rows.length ∧ (boxOf t g j).Rows.length ≤ t.length ∧ (boxOf t g j).Cols.length ≤ t.length ∧
  ∀ r : Nat, r < (boxOf t g j).Rows.length → (ix (boxOf t g j).Cells (r : Int)).length = (boxOf t g j).Cols.length ∧ (ix (boxOf t g j).Groups (r : Int)).length = (boxOf t g j).Cols.length := by
 unfold boxOf cellsB grpsB
 refine ⟨by simp, by simp, J3h, J3h, fun r hr => ?_⟩
 rw [J0V _ (by omega) (by simpa using hr), J0V _ (by omega) (by simpa using hr)]
 simp
def sumR (L : List (List (List Int))) (r : Nat) : Nat := ((L.take r).map fun row => (row.map fun c => c.length).sum).sum
def sumC (row : List (List Int)) (c : Nat) : Nat := ((row.take c).map fun c => c.length).sum
theorem take_snoc' {α : Type} [Inhabited α] {l : List α} {k : Nat} (h : k < l.length) : l.take (k + 1) = l.take k ++ [ix l (k : Int)] := by
 rw [ix_lt h, List.take_succ_eq_append_getElem h]
theorem J5U {L : List (List (List Int))} {r : Nat} (h : r < L.length) : sumR L (r + 1) = sumR L r + sumC (ix L (r : Int)) (ix L (r : Int)).length := by
 unfold sumR sumC
 rw [take_snoc' h, List.map_append, List.sum_append]
 simp
theorem J5V {row : List (List Int)} {c : Nat} (h : c < row.length) : sumC row (c + 1) = sumC row c + (ix row (c : Int)).length := by
 unfold sumC
 rw [take_snoc' h, List.map_append, List.sum_append]
 simp
theorem law15_GreenCells_ok (t : List (List Int)) : law15_GreenCells t (fun b => b = true) := by
 unfold law15_GreenCells
 refine law15_small_ok ?_
 split
 ·rename_i hs
  have hs' : t.length ≤ 16 ∧ VT t = true := by
   simp only [Bool.and_eq_true, decide_eq_true_eq] at hs
   exact ⟨by omega, hs.2⟩
  obtain ⟨n16, hv⟩ := hs'
  have T := SH.tb (VT.sh hv)
  refine J0Z (fun _ g hg => ?_) fun h => absurd hv h
  have lJ := hg.J.len
  refine fun _ => LoopWP.scan g.Below.length (fun _ => True) ?_
  intro j X hj _ hX
  show law15_GreenCells_L1 t g _ _ j
  unfold law15_GreenCells_L1
  split
  ·have hjb : j < g.Below.length := by omega
   obtain ⟨x, hx, xj⟩ := hg.cls hjb
   refine J4Q (fun _ g' hg' i hi ej => ?_) (fun _ g' hg' hn => ?_) fun h => absurd hv h
   ·obtain rfl := hg.uniq hg'
    clear hg' ej hi i
    rw [if_pos rfl]
    obtain ⟨b1, b2, b3, b4, b5⟩ := J5A (t := t) (g := g) (j := (j : Int))
    refine fun _ _ => ?_
    rw [if_pos (by omega)]
    refine fun _ => ?_
    rw [if_pos (by omega)]
    have mr : ∀ r : Nat, r < (boxOf t g (j : Int)).Rows.length → ix (boxOf t g (j : Int)).Rows (r : Int) ∈ rowsB t.length g.R g.J (j : Int) := fun r hr => J0R (by omega) (by exact Int.ofNat_lt.2 hr)
    have mc : ∀ c : Nat, c < (boxOf t g (j : Int)).Cols.length → ix (boxOf t g (j : Int)).Cols (c : Int) ∈ rowsB t.length g.L g.J (j : Int) := fun r hr => J0R (by omega) (by exact Int.ofNat_lt.2 hr)
    have p1 : 0 < (boxOf t g (j : Int)).Rows.length := List.length_pos_of_mem ((J1e hg.R).2 ⟨x, hx, xj, rfl⟩)
    have p2 : 0 < (boxOf t g (j : Int)).Cols.length := List.length_pos_of_mem ((J1e hg.L).2 ⟨x, hx, xj, rfl⟩)
    have ec : ∀ r c : Nat, r < (boxOf t g (j : Int)).Rows.length → c < (boxOf t g (j : Int)).Cols.length → ix (ix (boxOf t g (j : Int)).Cells (r : Int)) (c : Int) = cellB t.length g (j : Int) (ix (boxOf t g (j : Int)).Rows (r : Int)) (ix (boxOf t g (j : Int)).Cols (c : Int)) := by
     intro r c hr hc
     show ix (ix (cellsB t.length g t.length (j : Int)) (r : Int)) (c : Int) = _
     unfold cellsB
     rw [J0V _ (by omega) (by exact Int.ofNat_lt.2 hr), J0V _ (by omega) (by exact Int.ofNat_lt.2 hc)]
     rfl
    have eg : ∀ r c : Nat, r < (boxOf t g (j : Int)).Rows.length → c < (boxOf t g (j : Int)).Cols.length → ix (ix (boxOf t g (j : Int)).Groups (r : Int)) (c : Int) = grpB t t.length g (j : Int) (ix (boxOf t g (j : Int)).Rows (r : Int)) (ix (boxOf t g (j : Int)).Cols (c : Int)) := by
     intro r c hr hc
     show ix (ix (grpsB t t.length g t.length (j : Int)) (r : Int)) (c : Int) = _
     unfold grpsB
     rw [J0V _ (by omega) (by exact Int.ofNat_lt.2 hr), J0V _ (by omega) (by exact Int.ofNat_lt.2 hc)]
     rfl
    have tot : sumR (boxOf t g (j : Int)).Cells (boxOf t g (j : Int)).Cells.length = (clJ t.length g (j : Int)).length := by
     unfold sumR
     rw [List.take_length]
     exact J5J hv hg (j : Int)
    rw [if_neg (by omega)]
    refine fun _ => ?_
    rw [if_neg (by omega)]
    generalize boxOf t g (j : Int) = B at *
    refine LoopWP.foldR B.Rows.length (fun r (s : Int) => s = (sumR B.Cells r : Int) ∧ s ≤ 256 * r) 0 (Nat.zero_le _) ⟨by simp [sumR], by simp⟩ ?_
    rintro r s X2 hr ⟨hI, hI2⟩ hX2
    show law15_GreenCells_L2 t g j _ B _ _ s r
    unfold law15_GreenCells_L2
    split
    ·have hrl : r < B.Rows.length := by omega
     obtain ⟨e1, e2⟩ := b5 r hrl
     refine ⟨by omega, by omega, fun _ => ?_⟩
     rw [if_pos (by omega)]
     refine ⟨by omega, by omega, fun _ => ?_⟩
     rw [if_pos (by omega)]
     refine ⟨by omega, by omega, LoopWP.foldR B.Cols.length (fun c (s : Int) => s = (sumR B.Cells r + sumC (ix B.Cells (r : Int)) c : Nat) ∧ s ≤ 256 * r + 16 * c) 0 (Nat.zero_le _) ⟨by simp [sumC, hI], by omega⟩ ?_⟩
     rintro c s2 X3 hc ⟨hJ, hJ2⟩ hX3
     show law15_GreenCells_L3 t B r _ _ _ s2 c
     unfold law15_GreenCells_L3
     split
     ·have hcl : c < B.Cols.length := by omega
      obtain ⟨q1, q2⟩ := J5t hv hg (mr r hrl) (mc c hcl) (mr 0 p1) (mc 0 p2)
      have q3 := J4T t.length g (j : Int) (ix B.Rows (r : Int)) (ix B.Cols (c : Int))
      have cin : inB t.length (cellB t.length g (j : Int) (ix B.Rows (r : Int)) (ix B.Cols (c : Int))) = true := by
       unfold inB
       rw [List.all_eq_true]
       intro y hy
       have := J0n.1 (List.mem_filter.1 hy).1
       simp; omega
      have casc : ascP (cellB t.length g (j : Int) (ix B.Rows (r : Int)) (ix B.Cols (c : Int))) := by
       intro q hq
       have hp : (cellB t.length g (j : Int) (ix B.Rows (r : Int)) (ix B.Cols (c : Int))).Pairwise (· < ·) := (J4t t.length).filter _
       rw [ix_lt (by omega), ix_lt hq]
       exact List.pairwise_iff_getElem.1 hp q (q + 1) (by omega) hq (by omega)
      have hcg : subCl t (cellB t.length g (j : Int) (ix B.Rows (r : Int)) (ix B.Cols (c : Int))) ↔ grpB t t.length g (j : Int) (ix B.Rows (r : Int)) (ix B.Cols (c : Int)) = true := J6k hv hg (mr r hrl) (mc c hcl)
      have e00 := ec 0 0 p1 p2
      have l00 := (b5 0 p1).1
      have hsc := J5V (row := ix B.Cells (r : Int)) (c := c) (by omega)
      rw [ec r c hrl hcl] at hsc
      have step : X3 (s2 + ((cellB t.length g (j : Int) (ix B.Rows (r : Int)) (ix B.Cols (c : Int))).length : Int), c + 1) := by
       refine hX3 _ hcl ⟨?_, by omega⟩
       rw [hsc, hJ]; push_cast; omega
      rw [ec r c hrl hcl]
      refine ⟨by omega, by omega, fun _ => ⟨⟨by omega, by omega⟩, ?_⟩⟩
      rw [if_neg (by omega)]
      refine ⟨by omega, by omega, by omega, by simp only [Int.natCast_zero] at l00 ⊢; omega, fun _ => ?_⟩
      have e00' : ix (ix B.Cells (0 : Int)) (0 : Int) = cellB t.length g (j : Int) (ix B.Rows (0 : Int)) (ix B.Cols (0 : Int)) := e00
      rw [e00', if_pos (by exact congrArg Int.ofNat q2)]
      refine J5b ?_
      rw [if_pos cin]
      refine J5d ?_
      have so : subOk t (cellB t.length g (j : Int) (ix B.Rows (r : Int)) (ix B.Cols (c : Int))) := ⟨q1, cin, casc⟩
      by_cases hcl2 : subCl t (cellB t.length g (j : Int) (ix B.Rows (r : Int)) (ix B.Cols (c : Int)))
      ·unfold subE
       simp only [if_pos hv, if_pos so, if_pos hcl2, if_true]
       refine ⟨by omega, by omega, by omega, by omega, ?_⟩
       rw [eg r c hrl hcl, if_pos (by exact hcg.1 hcl2)]
       exact step
      ·unfold subE
       simp only [if_pos hv, if_pos so, if_neg hcl2]; rw [if_neg (by decide)]
       refine ⟨by omega, by omega, by omega, by omega, ?_⟩
       rw [eg r c hrl hcl, if_neg fun hh => hcl2 (hcg.2 hh)]
       exact step
     ·obtain rfl : c = B.Cols.length := by omega
      refine hX2 _ hrl ⟨?_, by omega⟩
      rw [J5U (by omega), e1]; exact hJ
    ·obtain rfl : r = B.Rows.length := by omega
     rw [← b1, tot] at hI
     refine fun _ => LoopWP.foldR t.length (fun k (s : Nat) => s = (clJ k g (j : Int)).length) 0 (Nat.zero_le _) rfl ?_
     rintro k q X4 hk hq hX4
     subst hq
     show law15_GreenCells_L4 g j _ s _ _ _ k
     unfold law15_GreenCells_L4
     rw [lJ]
     have hll := J6f k g (j : Int)
     split
     ·have hkt : k < t.length := by omega
      refine ⟨by omega, by omega, ?_⟩
      split
      ·rename_i hJ
       refine ⟨⟨by omega, by omega⟩, hX4 _ hkt ?_⟩
       rw [J3O, if_pos hJ]; simp
      ·rename_i hJ
       refine hX4 _ hkt ?_
       rw [J3O, if_neg hJ]; simp
     ·obtain rfl : k = t.length := by omega
      rw [if_pos hI]
      exact hX hjb trivial
   ·obtain rfl := hg.uniq hg'
    exact absurd ⟨by omega, by omega⟩ hn
  ·have hpos : 0 < g.Below.length := by
    have := T.n1
    obtain ⟨i, hi, _⟩ := hg.num (x := 0) (by omega)
    omega
   rw [if_pos (by omega)]
   exact law15_awake_ok rfl
 ·exact law15_awake_ok rfl
end Sg
