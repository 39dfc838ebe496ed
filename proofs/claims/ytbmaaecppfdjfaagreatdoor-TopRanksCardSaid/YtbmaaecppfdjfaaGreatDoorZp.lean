/- -/
import Derived.Test.YtbmaaecppfdjfaaGreatDoorZo
set_option linter.unusedVariables false
set_option linter.unusedSimpArgs false
namespace Sg
open Go
section
variable {k : Nat} {α β : Type} {ρ : Str → α} {ρ' : Str → β}
variable {W V : List Str} {u : Str} {x : Nat} {F : Str → Prop}
end
end Sg
namespace Sg
open Go
section
variable {α β : Type} {k : Nat} {ρ : Str → α} {ρ' : Str → β} {φ : Str → Bool} {m m' : DFA} {W W' : List Str}
end
end Sg
namespace Sg
open Go
section
variable {k : Nat} {d Q : DFA} {p : List Int}
end
end Sg
namespace Sg
open Go
section
variable {κ : Type} [DecidableEq κ]
variable {f : Nat → κ} {q : Nat} {p : List Int} {m : List (κ × Int)}
end
section
variable {k : Nat} {d : DFA} {p r : List Int} {c c' : Nat}
end
end Sg
namespace Sg
open Go
theorem sh6 {x : Nat} : shrK .i64 (x : Int) 6 = ((x / 64 : Nat) : Int) := by
 unfold shrK
 have e : (2 : Int) ^ (min (6 : Int).toNat IntKind.i64.bits) = 64 := by decide
 rw [e, Int.fdiv_eq_ediv_of_nonneg _ ω]
 omega
theorem and63 {x : Nat} (hx : x < 2 ^ 63) : bits .and .i64 (x : Int) 63 = ((x % 64 : Nat) : Int) := by
 have h := (bits63 (a := x) (b := 63) hx (by decide)).1
 have e : x &&& 63 = x % 64 := Nat.and_two_pow_sub_one_eq_mod x 6
 rw [e] at h
 exact h
theorem shl1 {k : Nat} (hk : k < 64) : shlK .u64 1 (k : Int) = ((1 <<< k : Nat) : Int) := by
 have h : (1 : Nat) < 2 ^ (64 - k) := Nat.one_lt_two_pow ω
 exact Ji2 (b := 1) h hk
structure IdW (n : Nat) (s : List Int) : Prop where
 len : s.length = (n + 63) / 64
 rng : ∀ j : Nat, j < s.length → 0 ≤ ix s (j : Int) ∧ ix s (j : Int) < 18446744073709551616
def hasB (s : List Int) (x : Nat) : Bool := ((ix s ((x / 64 : Nat) : Int)).toNat).testBit (x % 64)
theorem IdW.at_ {n : Nat} {s : List Int} (h : IdW n s) {x : Nat} (hx : x < n) : x / 64 < s.length ∧ ∃ m : Nat, m < 2 ^ 64 ∧ ix s ((x / 64 : Nat) : Int) = (m : Int) := by
 have hl : x / 64 < s.length := by have := h.len; omega
 have := h.rng (x / 64) hl
 exact ⟨hl, (ix s ((x / 64 : Nat) : Int)).toNat, ω, ω⟩
theorem Jaz {n : Nat} (hn : n ≤ 400) {K : List Int → Prop} (h : ∀ s, IdW n s → (∀ x, hasB s x = false) → K s) : J1Q (n : Int) K := by
 unfold J1Q
 have e : ((n : Int) + 63).tdiv 64 = (((n + 63) / 64 : Nat) : Int) := by
  rw [Int.tdiv_eq_ediv_of_nonneg ω]; omega
 rw [e]
 refine ⟨⟨ω, ω⟩, ⟨ω, ω⟩, ω, ω, h _ ⟨by simp; omega, fun j hj => ?_⟩ fun x => ?_⟩
 ·rw [J0f _ _ (by simpa using hj)]; omega
 ·have : ix (List.replicate (((n + 63) / 64 : Nat) : Int).toNat (0 : Int)) ((x / 64 : Nat) : Int) = 0 := by
   simp only [ix, List.getD_eq_getElem?_getD, List.getElem?_replicate]
   split <;> rfl
  unfold hasB
  rw [this]
  simp
theorem Jfv {n : Nat} (hn : n ≤ 400) {s : List Int} (hs : IdW n s) {x : Nat} (hx : x < n) {K : Bool → Prop} (h : K (hasB s x)) : J13 s (x : Int) K := by
 unfold J13
 obtain ⟨hl, m, hm, he⟩ := hs.at_ hx
 rw [sh6, and63 ω]
 refine ⟨ω, ω, ω, ?_⟩
 unfold hasB at h
 rw [he] at h ⊢
 rw [Jil hm ω]
 rw [Int.toNat_natCast] at h
 cases hb : m.testBit (x % 64) with
 | true => rw [hb] at h; rw [if_pos (by decide)]; exact h
 | false => rw [hb] at h; rw [if_neg (by decide)]; exact h
def addB (s : List Int) (x : Nat) : List Int := st s ((x / 64 : Nat) : Int) (bits .or .u64 (ix s ((x / 64 : Nat) : Int)) ((1 <<< (x % 64) : Nat) : Int))
theorem Jfl {n : Nat} {s : List Int} (h : IdW n s) {x : Nat} (hx : x < n) : IdW n (addB s x) := by
 obtain ⟨hl, m, hm, he⟩ := h.at_ hx
 have h1 : (1 <<< (x % 64) : Nat) < 2 ^ 64 := by rw [Nat.shiftLeft_eq, Nat.one_mul]; exact Nat.pow_lt_pow_right ω (Nat.mod_lt _ ω)
 refine ⟨by unfold addB; rw [J04]; exact h.len, fun j hj => ?_⟩
 unfold addB at hj ⊢
 rw [J04] at hj
 rw [ix_st _ ω ω ω]
 split
 ·rw [he, (bits64 hm h1).2]
  have := Nat.or_lt_two_pow hm h1
  omega
 ·exact h.rng j hj
theorem Jco {n : Nat} {s : List Int} (h : IdW n s) {x : Nat} (hx : x < n) {y : Nat} : hasB (addB s x) y = (hasB s y || decide (y = x)) := by
 obtain ⟨hl, m, hm, he⟩ := h.at_ hx
 have h1 : (1 <<< (x % 64) : Nat) < 2 ^ 64 := by rw [Nat.shiftLeft_eq, Nat.one_mul]; exact Nat.pow_lt_pow_right ω (Nat.mod_lt _ ω)
 unfold hasB addB
 rw [ix_st _ ω ω ω]
 by_cases hxy : y / 64 = x / 64
 ·rw [if_pos ω, hxy, he, (bits64 hm h1).2, Int.toNat_natCast, Int.toNat_natCast, Nat.testBit_or]
  congr 1
  rw [Nat.one_shiftLeft, Nat.testBit_two_pow]
  have e1 := Nat.mod_lt y (y := 64) ω
  have e2 := Nat.div_add_mod y 64
  have e3 := Nat.div_add_mod x 64
  by_cases hm' : x % 64 = y % 64
  ·rw [decide_eq_true hm', decide_eq_true ω]
  ·rw [decide_eq_false hm', decide_eq_false ω]
 ·rw [if_neg ω]
  have : ¬ y = x := fun hh => hxy (by rw [hh])
  simp [this]
theorem uniW {n : Nat} {s u : List Int} (h : IdW n s) (k : IdW n u) {j : Nat} (hj : j < s.length) : 0 ≤ bits .or .u64 (ix s (j : Int)) (ix u (j : Int)) ∧ bits .or .u64 (ix s (j : Int)) (ix u (j : Int)) < 18446744073709551616 ∧
  ∀ b : Nat, ((bits .or .u64 (ix s (j : Int)) (ix u (j : Int))).toNat).testBit b = ((ix s (j : Int)).toNat.testBit b || (ix u (j : Int)).toNat.testBit b) := by
 have h1 := h.rng j hj
 have h2 := k.rng j (by have := h.len; have := k.len; omega)
 obtain ⟨m, hm⟩ := Int.eq_ofNat_of_zero_le h1.1
 obtain ⟨q, hq⟩ := Int.eq_ofNat_of_zero_le h2.1
 have hm1 : m < 2 ^ 64 := ω
 have hq1 : q < 2 ^ 64 := ω
 rw [hm, hq]
 have e := (bits64 hm1 hq1).2
 have := Nat.or_lt_two_pow hm1 hq1
 rw [e]
 exact ⟨ω, ω, fun b => by rw [Int.toNat_natCast, Int.toNat_natCast, Int.toNat_natCast, Nat.testBit_or]⟩
structure IdF (n : Nat) (r : List (List Int)) (le : Nat → Nat → Prop) : Prop where
 len : r.length = n
 wd : ∀ y : Nat, y < n → IdW n (ix r (y : Int))
 has : ∀ x y : Nat, x < n → y < n → (hasB (ix r (y : Int)) x = true ↔ le x y)
def leR (t : List (List Int)) (x y : Nat) : Prop := x = y ∨ ∃ s : Nat, s < t.length ∧ mu t (y : Int) (s : Int) = (x : Int)
def leL (t : List (List Int)) (x y : Nat) : Prop := x = y ∨ ∃ s : Nat, s < t.length ∧ mu t (s : Int) (y : Int) = (x : Int)
def leJ (t : List (List Int)) (x y : Nat) : Prop := ∃ z : Nat, z < t.length ∧ leL t z y ∧ leR t x z
structure IdK (n k : Nat) (r : List (List Int)) (le : Nat → Nat → Prop) : Prop where
 len : r.length = n
 wd : ∀ y : Nat, y < k → IdW n (ix r (y : Int))
 has : ∀ x y : Nat, x < n → y < k → (hasB (ix r (y : Int)) x = true ↔ le x y)
theorem IdK.put {n k : Nat} {r : List (List Int)} {le : Nat → Nat → Prop} (h : IdK n k r le) (hk : k < n) {s : List Int} (hs : IdW n s) (hh : ∀ x : Nat, x < n → (hasB s x = true ↔ le x k)) : IdK n (k + 1) (st r (k : Int) s) le := by
 have e : ∀ y : Nat, ix (st r (k : Int) s) (y : Int) = if y = k then s else ix r (y : Int) := fun y => by
  rw [ix_st _ ω (by rw [h.len]; omega) ω]
  by_cases hy : y = k
  ·rw [if_pos ω, if_pos hy]
  ·rw [if_neg ω, if_neg hy]
 refine ⟨by rw [J04]; exact h.len, fun y hy => ?_, fun x y hx hy => ?_⟩
 ·rw [e]; split
  ·exact hs
  ·exact h.wd y ω
 ·rw [e]; split
  ·rename_i hyk; subst hyk; exact hh x hx
  ·exact h.has x y hx ω
theorem IdK.fin {n : Nat} {r : List (List Int)} {le : Nat → Nat → Prop} (h : IdK n n r le) : IdF n r le := ⟨h.len, h.wd, fun x y hx hy => h.has x y hx hy⟩
theorem IdK.start {n : Nat} {le : Nat → Nat → Prop} : IdK n 0 (List.replicate n ([] : List Int)) le := ⟨by simp, fun y hy => by omega, fun x y hx hy => by omega⟩
theorem st_st {α : Type} [Inhabited α] {xs : List α} {i : Int} {u v : α} : st (st xs i u) i v = st xs i v := by simp [st]
theorem J5c {α : Type} [Inhabited α] {xs : List α} {k : Nat} {u : α} (h : k < xs.length) : ix (st xs (k : Int) u) (k : Int) = u := by
 rw [ix_st _ ω ω ω, if_pos rfl]
theorem Jd7 {t : List (List Int)} (ht : SH t = true) {K : List (List Int) → Prop} (h : ∀ r, IdF t.length r (leR t) → K r) : J1X t K := by
 have T := SH.tb ht
 have n4 := T.n4
 unfold J1X
 refine fun _ => ⟨ω, ω, LoopWP.fold t.length (fun k (r : List (List Int)) => IdK t.length k r (leR t)) IdK.start ?_⟩
 rintro k r X hk hI hX
 show J3o t K _ k r
 unfold J3o
 have hlen := hI.len
 split
 ·rename_i hkt
  have hkt' : k < t.length := ω
  have hrow := T.row (k : Int) ω ω
  refine ⟨ω, ω, Jaz n4 fun s0 hs0 h0 => ?_⟩
  obtain ⟨hl0, _⟩ := hs0.at_ hkt'
  rw [J5c ω, sh6, and63 ω, shl1 (Nat.mod_lt _ ω)]
  refine ⟨ω, ω, ω, by rw [J04]; omega, ω, ω, ω, ω, ω, fun _ => ?_⟩
  refine LoopWP.fold (ix t (k : Int)).length (fun m (q : List (List Int)) => ∃ s, q = st r (k : Int) s ∧ IdW t.length s ∧ ∀ x : Nat, x < t.length → (hasB s x = true ↔ x = k ∨ ∃ j : Nat, j < m ∧ mu t (k : Int) (j : Int) = (x : Int))) ⟨addB s0 k, by rw [st_st]; rfl, Jfl hs0 hkt', fun x hx => ?_⟩ ?_
  ·rw [Jco hs0 hkt', h0]
   simp only [Bool.false_or, decide_eq_true_eq]
   exact ⟨.inl, fun hh => hh.resolve_right fun ⟨j, hj, _⟩ => absurd hj (Nat.not_lt_zero _)⟩
  rintro m q X2 hm ⟨s, rfl, hs, hh⟩ hX2
  show J3p t k _ K _ m _
  unfold J3p
  rw [J5c ω]
  split
  ·rename_i hmt
   have hml : (m : Int) < t.length := ω
   have hb := T.mu (x := (k : Int)) (y := (m : Int)) ω ω ω hml
   obtain ⟨z, hz⟩ := Int.eq_ofNat_of_zero_le hb.1
   have hzl : z < t.length := ω
   have hz' : ix (ix t (k : Int)) (m : Int) = (z : Int) := hz
   obtain ⟨hl1, _⟩ := hs.at_ hzl
   rw [hz', sh6, and63 ω, shl1 (Nat.mod_lt _ ω)]
   refine ⟨ω, ω, ω, by rw [J04]; omega, ω, ω, ω, ω, ω, hX2 _ ω ⟨addB s z, by rw [st_st]; rfl, Jfl hs hzl, fun x hx => ?_⟩⟩
   rw [Jco hs hzl, Bool.or_eq_true, hh x hx, decide_eq_true_eq]
   constructor
   ·rintro ((h1 | ⟨j, hj, h1⟩) | h1)
    ·exact .inl h1
    ·exact .inr ⟨j, ω, h1⟩
    ·exact .inr ⟨m, ω, by rw [h1]; exact hz⟩
   ·rintro (h1 | ⟨j, hj, h1⟩)
    ·exact .inl (.inl h1)
    ·by_cases hjm : j = m
     ·subst hjm; right; rw [hz] at h1; omega
     ·exact .inl (.inr ⟨j, ω, h1⟩)
  ·rename_i hmt
   obtain rfl : m = (ix t (k : Int)).length := ω
   refine hX _ hkt' (hI.put hkt' hs fun x hx => ?_)
   rw [hh x hx, hrow]
   rfl
 ·obtain rfl : k = t.length := ω
  exact h r hI.fin
theorem Jdt {t : List (List Int)} (ht : SH t = true) {K : List (List Int) → Prop} (h : ∀ r, IdF t.length r (leL t) → K r) : J2q t K := by
 have T := SH.tb ht
 have n4 := T.n4
 unfold J2q
 refine fun _ => ⟨ω, ω, LoopWP.fold t.length (fun k (r : List (List Int)) => IdK t.length k r (leL t)) IdK.start ?_⟩
 rintro k r X hk hI hX
 show J41 t K _ k r
 unfold J41
 have hlen := hI.len
 split
 ·rename_i hkt
  have hkt' : k < t.length := ω
  refine Jaz n4 fun s0 hs0 h0 => ?_
  obtain ⟨hl0, _⟩ := hs0.at_ hkt'
  rw [J5c ω, sh6, and63 ω, shl1 (Nat.mod_lt _ ω)]
  refine ⟨ω, ω, ω, by rw [J04]; omega, ω, ω, ω, ω, ω, ?_⟩
  refine LoopWP.fold t.length (fun m (q : List (List Int)) => ∃ s, q = st r (k : Int) s ∧ IdW t.length s ∧ ∀ x : Nat, x < t.length → (hasB s x = true ↔ x = k ∨ ∃ j : Nat, j < m ∧ mu t (j : Int) (k : Int) = (x : Int))) ⟨addB s0 k, by rw [st_st]; rfl, Jfl hs0 hkt', fun x hx => ?_⟩ ?_
  ·rw [Jco hs0 hkt', h0]
   simp only [Bool.false_or, decide_eq_true_eq]
   exact ⟨.inl, fun hh => hh.resolve_right fun ⟨j, hj, _⟩ => absurd hj (Nat.not_lt_zero _)⟩
  rintro m q X2 hm ⟨s, rfl, hs, hh⟩ hX2
  show J3M t k _ K _ m _
  unfold J3M
  rw [J5c ω]
  split
  ·rename_i hmt
   have hml : (m : Int) < t.length := ω
   have hrow := T.row (m : Int) ω ω
   have hb := T.mu (x := (m : Int)) (y := (k : Int)) ω ω ω ω
   obtain ⟨z, hz⟩ := Int.eq_ofNat_of_zero_le hb.1
   have hzl : z < t.length := ω
   have hz' : ix (ix t (m : Int)) (k : Int) = (z : Int) := hz
   obtain ⟨hl1, _⟩ := hs.at_ hzl
   rw [hz', sh6, and63 ω, shl1 (Nat.mod_lt _ ω)]
   refine ⟨ω, ω, ω, by rw [J04]; omega, ω, ω, ω, ω, ω, ω, ω, hX2 _ ω ⟨addB s z, by rw [st_st]; rfl, Jfl hs hzl, fun x hx => ?_⟩⟩
   rw [Jco hs hzl, Bool.or_eq_true, hh x hx, decide_eq_true_eq]
   constructor
   ·rintro ((h1 | ⟨j, hj, h1⟩) | h1)
    ·exact .inl h1
    ·exact .inr ⟨j, ω, h1⟩
    ·exact .inr ⟨m, ω, by rw [h1]; exact hz⟩
   ·rintro (h1 | ⟨j, hj, h1⟩)
    ·exact .inl (.inl h1)
    ·by_cases hjm : j = m
     ·subst hjm; right; rw [hz] at h1; omega
     ·exact .inl (.inr ⟨j, ω, h1⟩)
  ·rename_i hmt
   obtain rfl : m = t.length := ω
   refine hX _ hkt' (hI.put hkt' hs fun x hx => ?_)
   rw [hh x hx]
   rfl
 ·obtain rfl : k = t.length := ω
  exact h r hI.fin
end Sg
namespace Sg
open Go
theorem JeB {n : Nat} (n4 : n ≤ 400) {right left : List (List Int)} {eR eL : Nat → Nat → Prop} (hR : IdF n right eR) (hL : IdF n left eL) {K : List (List Int) → Prop} (h : ∀ r, IdF n r (fun x y => ∃ z : Nat, z < n ∧ eL z y ∧ eR x z) → K r) : J3s right left K := by
 have hrl := hR.len
 have hll := hL.len
 unfold J3s
 rw [hrl]
 refine fun _ => ⟨ω, ω, LoopWP.fold n (fun k (r : List (List Int)) => IdK n k r (fun x y => ∃ z : Nat, z < n ∧ eL z y ∧ eR x z)) IdK.start ?_⟩
 rintro k r X hk hI hX
 show J5a right left K _ k r
 unfold J5a
 have hlen := hI.len
 rw [List.length_replicate, hrl]
 split
 ·have hkt' : k < n := ω
  refine Jaz n4 fun s0 hs0 h0 => ⟨ω, ω, ?_⟩
  refine LoopWP.fold n (fun m (q : List (List Int)) => ∃ s, q = st r (k : Int) s ∧ IdW n s ∧ ∀ x : Nat, x < n → (hasB s x = true ↔ ∃ z : Nat, z < m ∧ eL z k ∧ eR x z)) ⟨s0, rfl, hs0, fun x hx => ?_⟩ ?_
  ·rw [h0]
   exact ⟨(fun hh => by cases hh), fun ⟨j, hj, _⟩ => absurd hj (Nat.not_lt_zero _)⟩
  rintro m q X2 hm ⟨s, rfl, hs, hh⟩ hX2
  show J54 right left k _ K _ m _
  unfold J54
  rw [hrl]
  split
  ·have hml : m < n := ω
   refine ⟨ω, ω, Jfv n4 (hL.wd k hkt') hml ?_⟩
   have hq := hL.has m k hml hkt'
   split
   ·rename_i hb
    have hu := hR.wd m hml
    refine ⟨ω, by rw [J04]; omega, ω, ω, ?_⟩
    refine LoopWP.fold s.length (fun w (d : List (List Int)) => ∃ s', d = st r (k : Int) s' ∧ s'.length = s.length ∧ (∀ j : Nat, j < w → ix s' (j : Int) = bits .or .u64 (ix s (j : Int)) (ix (ix right (m : Int)) (j : Int))) ∧ ∀ j : Nat, w ≤ j → ix s' (j : Int) = ix s (j : Int)) ⟨s, rfl, rfl, fun j hj => by omega, fun j hj => rfl⟩ ?_
    rintro w d X3 hw ⟨s', rfl, hl', hlo, hhi⟩ hX3
    show J4R right k m _ _ K _ w _
    unfold J4R
    rw [J5c ω, J5c ω]
    have hsl := hs.len
    have hul := hu.len
    split
    ·rename_i hws
     refine ⟨ω, ω, by rw [J04]; omega, ω, ω, ω, ω, ω, by rw [J04]; omega, ω, ⟨ω, ω⟩, hX3 _ ω ⟨_, st_st, by rw [J04]; exact hl', fun j hj => ?_, fun j hj => ?_⟩⟩
     ·rw [ix_st _ ω ω ω]
      by_cases hjw : j = w
      ·subst hjw; rw [if_pos rfl, hhi j (Nat.le_refl _)]
      ·rw [if_neg ω]; exact hlo j ω
     ·rw [ix_st _ ω ω ω, if_neg ω]; exact hhi j ω
    ·obtain rfl : w = s.length := ω
     refine hX2 _ ω ⟨s', rfl, ⟨by rw [hl']; exact hs.len, fun j hj => ?_⟩, fun x hx => ?_⟩
     ·rw [hlo j ω]
      have := uniW hs hu (j := j) ω
      exact ⟨this.1, this.2.1⟩
     ·obtain ⟨hxl, _⟩ := hs.at_ hx
      have e1 : hasB s' x = (hasB s x || hasB (ix right (m : Int)) x) := by
       unfold hasB
       rw [hlo (x / 64) hxl]
       exact (uniW hs hu hxl).2.2 (x % 64)
      rw [e1, Bool.or_eq_true, hh x hx, hR.has x m hx hml]
      constructor
      ·rintro (⟨z, hz, h1⟩ | h1)
       ·exact ⟨z, ω, h1⟩
       ·exact ⟨m, ω, hq.1 hb, h1⟩
      ·rintro ⟨z, hz, h1, h2⟩
       by_cases hzm : z = m
       ·subst hzm; exact .inr h2
       ·exact .inl ⟨z, ω, h1, h2⟩
   ·rename_i hb
    refine hX2 _ ω ⟨s, rfl, hs, fun x hx => ?_⟩
    rw [hh x hx]
    constructor
    ·rintro ⟨z, hz, h1⟩; exact ⟨z, ω, h1⟩
    ·rintro ⟨z, hz, h1, h2⟩
     by_cases hzm : z = m
     ·subst hzm; exact absurd (hq.2 h1) hb
     ·exact ⟨z, ω, h1, h2⟩
  ·obtain rfl : m = n := ω
   exact ⟨⟨ω, ω⟩, hX _ hkt' (hI.put hkt' hs hh)⟩
 ·obtain rfl : k = n := ω
  exact h r hI.fin
structure PartOf (p : List Int) (n : Nat) (e : Nat → Nat → Prop) : Prop where
 len : p.length = n
 can : CanP p
 ker : ∀ i j : Nat, i < n → j < n → (ix p (i : Int) = ix p (j : Int) ↔ e i j)
theorem IsCan.part {κ : Type} [Inhabited κ] {p : List Int} {l : List κ} {n : Nat} {e : Nat → Nat → Prop} (h : IsCan p l) (hl : l.length = n) (he : ∀ i j : Nat, i < n → j < n → (ix l (i : Int) = ix l (j : Int) ↔ e i j)) : PartOf p n e :=
 ⟨h.len.trans hl, h.can, fun i j hi hj => (h.ker i j ω ω).trans (he i j hi hj)⟩
theorem CanP.le {p : List Int} (hp : CanP p) : ∀ k : Nat, k < p.length → ix p (k : Int) ≤ (k : Int) := by
  intro k
  induction k using Nat.strongRecOn with
  | _ k ih =>
    intro hk
    by_cases h0 : ix p (k : Int) ≤ 0
    · omega
    · obtain ⟨j, hj, he⟩ := (hp k hk).2 (ix p (k : Int) - 1) ω ω
      have := ih j hj ω; omega
structure LstM (e : Nat → Nat → Prop) (l : List Int) (k : Nat) : Prop where
 at_ : ∀ j : Nat, j < k → ∃ m : Nat, m ≤ j ∧ ix l (j : Int) = (m : Int) ∧ e m j ∧ ∀ i : Nat, i < m → ¬ e i j
theorem LstM.ker {e : Nat → Nat → Prop} {l : List Int} {n : Nat} (h : LstM e l n) (hs : ∀ i j : Nat, i < n → j < n → e i j → e j i) (ht : ∀ i j k : Nat, i < n → j < n → k < n → e i j → e j k → e i k) (i j : Nat) (hi : i < n) (hj : j < n) : ix l (i : Int) = ix l (j : Int) ↔ e i j := by
 obtain ⟨a, ha, ea, fa, ga⟩ := h.at_ i hi
 obtain ⟨b, hb, eb, fb, gb⟩ := h.at_ j hj
 rw [ea, eb]
 constructor
 ·intro hab
  obtain rfl : a = b := ω
  exact ht i a j hi ω hj (hs a i ω hi fa) fb
 ·intro hij
  rcases Nat.lt_trichotomy a b with hab | hab | hab
  ·exact absurd (ht a i j ω hi hj fa hij) (gb a hab)
  ·rw [hab]
  ·exact absurd (ht b j i ω hj hi fb (hs i j hi hj hij)) (ga b hab)
theorem LstM.put {e : Nat → Nat → Prop} {l : List Int} {n k m : Nat} (h : LstM e l k) (hl : l.length = n) (hk : k < n) (hm : m ≤ k) (he : e m k) (hn : ∀ i : Nat, i < m → ¬ e i k) : LstM e (st l (k : Int) (m : Int)) (k + 1) := by
 refine ⟨fun j hj => ?_⟩
 rw [ix_st _ ω ω ω]
 by_cases hjk : j = k
 ·subst hjk; rw [if_pos rfl]; exact ⟨m, hm, rfl, he, hn⟩
 ·rw [if_neg ω]; exact h.at_ j ω
theorem J7f {n : Nat} (n4 : n ≤ 400) {r : List (List Int)} {le : Nat → Nat → Prop} (hr : IdF n r le) (hrf : ∀ i : Nat, i < n → le i i) (htr : ∀ i j k : Nat, i < n → j < n → k < n → le i j → le j k → le i k)
  {K : List Int → Prop} (h : ∀ p, PartOf p n (fun i j => le i j ∧ le j i) → K p) : J2V r K := by
 have hrl := hr.len
 unfold J2V
 rw [hrl]
 refine fun _ => ⟨ω, ω, LoopWP.fold n (fun k (c : List Int) => c.length = n ∧ LstM (fun i j => le i j ∧ le j i) c k) ⟨by simp, ⟨fun j hj => by omega⟩⟩ ?_⟩
 rintro k c X hk ⟨hl, hI⟩ hX
 show J6S r K _ k c
 unfold J6S
 rw [hrl]
 split
 ·have hkn : k < n := ω
  refine ⟨ω, ω, ?_⟩
  refine LoopWP.scan k (fun y => ¬ (le y k ∧ le k y)) ?_
  rintro y X2 hy hno hX2
  show J6R r k c _ K X2 y
  unfold J6R
  rw [hrl]
  split
  ·refine ⟨ω, ω, Jfv n4 (hr.wd k hkn) ω ?_⟩
   have h1 := hr.has y k ω hkn
   have h2 := hr.has k y hkn ω
   split
   ·rename_i hb
    refine ⟨ω, ω, Jfv n4 (hr.wd y ω) hkn ?_⟩
    split
    ·rename_i hb2
     refine ⟨ω, by rw [J04]; omega, hX _ hkn ⟨by rw [J04, J04]; exact hl, ?_⟩⟩
     rw [st_st]
     exact hI.put hl hkn hy ⟨h1.1 hb, h2.1 hb2⟩ hno
    ·rename_i hb2
     exact ⟨⟨ω, ω⟩, hX2 ω fun hh => hb2 (h2.2 hh.2)⟩
   ·rename_i hb
    exact ⟨⟨ω, ω⟩, hX2 ω fun hh => hb (h1.2 hh.1)⟩
  ·obtain rfl : y = k := ω
   exact hX _ hkn ⟨by rw [J04]; exact hl, hI.put hl hkn (Nat.le_refl _) ⟨hrf y hkn, hrf y hkn⟩ hno⟩
 ·obtain rfl : k = n := ω
  exact J2z ω fun p hp => h p (hp.part hl fun i j hi hj => hI.ker (fun i j _ _ hh => ⟨hh.2, hh.1⟩) (fun i j k hi hj hk a b => ⟨htr i j k hi hj hk a.1 b.1, htr k j i hk hj hi b.2 a.2⟩) i j hi hj)
end Sg
namespace Sg
open Go
theorem J2F {p : List Int} (hp : CanP p) (hl : p.length ≤ 4096) {K : Bool → Prop} (h : K true) : J0o p K := by
 unfold J0o
 intro _
 rw [if_neg ω]
 refine LoopWP.foldR p.length (fun k (c : Nat) => c ≤ k ∧ ∀ v : Int, (0 ≤ v ∧ v < (c : Int)) ↔ ∃ j : Nat, j < k ∧ ix p (j : Int) = v) 0 ω ⟨ω, fun v => ⟨fun hh => by omega, fun ⟨j, hj, _⟩ => absurd hj (Nat.not_lt_zero _)⟩⟩ ?_
 rintro k c X hk ⟨hck, hI⟩ hX
 show J1P p K _ c k
 unfold J1P
 split
 ·have hkp : k < p.length := ω
  obtain ⟨p0, p1⟩ := hp k hkp
  have hle : ix p (k : Int) ≤ (c : Int) := by
   by_cases hlt : (c : Int) < ix p (k : Int)
   ·have := (hI (c : Int)).2 (p1 _ ω hlt); omega
   ·omega
  refine ⟨ω, ω, ?_⟩
  rw [if_neg ω, if_neg ω]
  split
  ·rename_i he
   refine ⟨⟨ω, ω⟩, hX _ hkp ⟨ω, fun v => ?_⟩⟩
   constructor
   ·intro hv
    by_cases hvc : v = (c : Int)
    ·exact ⟨k, ω, by rw [he, hvc]⟩
    ·obtain ⟨j, hj, hh⟩ := (hI v).1 ω; exact ⟨j, ω, hh⟩
   ·rintro ⟨j, hj, hh⟩
    by_cases hjk : j = k
    ·subst hjk; omega
    ·have := (hI v).2 ⟨j, ω, hh⟩; omega
  ·rename_i he
   refine hX _ hkp ⟨ω, fun v => ?_⟩
   rw [hI v]
   constructor
   ·rintro ⟨j, hj, hh⟩; exact ⟨j, ω, hh⟩
   ·rintro ⟨j, hj, hh⟩
    by_cases hjk : j = k
    ·subst hjk
     exact (hI v).1 ω
    ·exact ⟨j, ω, hh⟩
 ·exact h
theorem J2G {p : List Int} (hp : CanP p) (hl : p.length ≤ 4096) {K : Int → Prop} (h : ∀ c, IsCnt p c → K c) : J0l p K := by
 unfold J0l
 refine J2F hp hl ?_
 rw [if_pos rfl]
 exact Jag hp hl h
def clsF (p : List Int) (c : Nat) : List (List Int) := (iota c).map fun v => (iota p.length).filter fun i => decide (ix p i = v)
theorem Jb1 {p : List Int} {c : Nat} : (clsF p c).length = c := by simp [clsF]
theorem JeH {p : List Int} {c v : Nat} (h : v < c) : ix (clsF p c) (v : Int) = (iota p.length).filter fun i => decide (ix p i = (v : Int)) := by
 unfold clsF
 rw [J3e _ ω (by simpa using h), J5Y h]
theorem JgP {p : List Int} (hp : CanP p) {c : Int} (hc : IsCnt p c) : c ≤ (p.length : Int) := by
 by_cases h : (p.length : Int) < c
 ·obtain ⟨j, hj, he⟩ := (hc.2 (c - 1)).1 ⟨ω, ω⟩
  have := hp.le j hj; omega
 ·omega
theorem Jca {p : List Int} (hp : CanP p) (hl : p.length ≤ 400) {K : List (List Int) → Prop} (h : ∀ c : Nat, IsCnt p c → K (clsF p c)) : J8P p K := by
 unfold J8P
 refine Jag hp ω fun c hc => ?_
 have hcl := JgP hp hc
 obtain ⟨c, rfl⟩ := Int.eq_ofNat_of_zero_le hc.1
 refine ⟨ω, ω, fun _ => LoopWP.fold p.length (fun k (r : List (List Int)) => r.length = c ∧ ∀ v : Nat, v < c → ix r (v : Int) = (iota k).filter fun i => decide (ix p i = (v : Int))) ⟨by simp, fun v hv => ?_⟩ ?_⟩
 ·rw [J0f _ _ (by simpa using hv)]; rfl
 rintro k r X hk ⟨hr, hI⟩ hX
 show J5K p K _ k r
 unfold J5K
 split
 ·have hkp : k < p.length := ω
  have hv := (hc.2 (ix p (k : Int))).2 ⟨k, hkp, rfl⟩
  obtain ⟨v, hv'⟩ := Int.eq_ofNat_of_zero_le hv.1
  rw [hv'] at hv ⊢
  have hvc : v < c := ω
  refine ⟨ω, ω, ω, ω, ?_, ω, ω, hX _ hkp ⟨by rw [J04]; exact hr, fun u hu => ?_⟩⟩
  ·rw [hI v hvc]
   have := List.length_filter_le (fun i => decide (ix p i = (v : Int))) (iota k); simp at this ⊢; omega
  ·rw [ix_st _ ω ω ω, J84, List.filter_append]
   by_cases huv : u = v
   ·subst huv
    rw [if_pos rfl, hI u hvc]
    simp [hv']
   ·rw [if_neg ω, hI u hu]
    have : ¬ (v : Int) = (u : Int) := ω
    simp [hv', this]
 ·obtain rfl : k = p.length := ω
  have : r = clsF p c := by
   refine J0e (by rw [Jb1, hr]) fun j hj => ?_
   rw [JeH ω]; exact hI j ω
  rw [this]
  exact h c hc
theorem Ja7 {p : List Int} (hp : CanP p) (hl : p.length ≤ 400) {K : List (List Int) → Prop} (h : ∀ c : Nat, IsCnt p c → K (clsF p c)) : J1Z p K := by
 unfold J1Z
 refine J2F hp ω ?_
 rw [if_pos rfl]
 refine J2G hp ω fun c hc => ?_
 have := Jca hp hl (K := K) h
 unfold J8P at this
 have hcl := JgP hp hc
 obtain ⟨c, rfl⟩ := Int.eq_ofNat_of_zero_le hc.1
 refine ⟨ω, ω, fun _ => LoopWP.fold p.length (fun k (r : List (List Int)) => r.length = c ∧ ∀ v : Nat, v < c → ix r (v : Int) = (iota k).filter fun i => decide (ix p i = (v : Int))) ⟨by simp, fun v hv => ?_⟩ ?_⟩
 ·rw [J0f _ _ (by simpa using hv)]; rfl
 rintro k r X hk ⟨hr, hI⟩ hX
 show J3i p K _ k r
 unfold J3i
 split
 ·have hkp : k < p.length := ω
  have hv := (hc.2 (ix p (k : Int))).2 ⟨k, hkp, rfl⟩
  obtain ⟨v, hv'⟩ := Int.eq_ofNat_of_zero_le hv.1
  rw [hv'] at hv ⊢
  have hvc : v < c := ω
  refine ⟨ω, ω, ω, ω, ?_, ω, ω, hX _ hkp ⟨by rw [J04]; exact hr, fun u hu => ?_⟩⟩
  ·rw [hI v hvc]
   have := List.length_filter_le (fun i => decide (ix p i = (v : Int))) (iota k); simp at this ⊢; omega
  ·rw [ix_st _ ω ω ω, J84, List.filter_append]
   by_cases huv : u = v
   ·subst huv
    rw [if_pos rfl, hI u hvc]
    simp [hv']
   ·rw [if_neg ω, hI u hu]
    have : ¬ (v : Int) = (u : Int) := ω
    simp [hv', this]
 ·obtain rfl : k = p.length := ω
  have : r = clsF p c := by
   refine J0e (by rw [Jb1, hr]) fun j hj => ?_
   rw [JeH ω]; exact hI j ω
  rw [this]
  exact h c hc
theorem J6c {l : List (Int × Int)} (hl : l.length ≤ 4096) {K : List Int → Prop} (h : ∀ p, IsCan p l → K p) : J0C l K := by
 unfold J0C
 refine fun _ => ⟨ω, ω, LoopWP.fold l.length (fun k (s : List ((Int × Int) × Int) × List Int) => CN l k s.1 s.2) CN.start ?_⟩
 rintro k ⟨m, p⟩ X hk hI hX
 show J1f l K _ k m p
 unfold J1f
 have hlen : p.length = l.length := hI.len
 split
 ·refine ⟨ω, ω, ?_⟩
  split
  ·rename_i hx
   exact ⟨ω, ω, hX _ ω (hI.old ω hx)⟩
  ·rename_i hx
   exact ⟨ω, ω, hX _ ω (hI.new ω hx)⟩
 ·obtain rfl : k = l.length := ω
  exact h p hI.fin
theorem JbI {p q : List Int} {n : Nat} (n4 : n ≤ 400) {e e' : Nat → Nat → Prop} (hp : PartOf p n e) (hq : PartOf q n e') {K : List Int → Prop} (h : ∀ m, PartOf m n (fun i j => e i j ∧ e' i j) → K m) : J3u p q K := by
 have h1 := hp.len
 have h2 := hq.len
 unfold J3u J2H
 refine fun _ _ => ?_
 rw [if_pos ω]
 refine J2F hp.can ω ?_
 rw [if_pos rfl]
 refine J2F hq.can ω ?_
 show (if true = true then _ else _)
 rw [if_pos rfl]
 refine fun _ => ⟨ω, ω, LoopWP.fold p.length (fun k (l : List (Int × Int)) => l.length = n ∧ ∀ j : Nat, j < k → ix l (j : Int) = (ix p (j : Int), ix q (j : Int))) ⟨by simp [h1], fun j hj => by omega⟩ ?_⟩
 rintro k l X hk ⟨hl, hI⟩ hX
 show J53 p q K _ k l
 unfold J53
 split
 ·refine ⟨ω, ω, ω, ω, ω, ω, hX _ ω ⟨by rw [J04]; exact hl, fun j hj => ?_⟩⟩
  rw [ix_st _ ω ω ω]
  by_cases hjk : j = k
  ·subst hjk; rw [if_pos rfl]
  ·rw [if_neg ω]; exact hI j ω
 ·refine J6c ω fun m hm => h m (hm.part hl fun i j hi hj => ?_)
  rw [hI i ω, hI j ω, Prod.mk.injEq, hp.ker i j hi hj, hq.ker i j hi hj]
end Sg
namespace Sg
open Go
theorem Jh6 (t : List (List Int)) (x : Nat) : leR t x x := .inl rfl
theorem Jh1 (t : List (List Int)) (x : Nat) : leL t x x := .inl rfl
theorem mu_cl {t : List (List Int)} (T : Tb t t.length) {x y : Nat} (hx : x < t.length) (hy : y < t.length) : ∃ z : Nat, z < t.length ∧ mu t (x : Int) (y : Int) = (z : Int) := by
 have hb := T.mu (x := (x : Int)) (y := (y : Int)) ω ω ω ω
 obtain ⟨z, hz⟩ := Int.eq_ofNat_of_zero_le hb.1
 exact ⟨z, ω, hz⟩
theorem Jem {t : List (List Int)} (hv : VT t = true) {x y z : Nat} (hz : z < t.length) (h : leR t x y) (k : leR t y z) : leR t x z := by
 have T := SH.tb (VT.sh hv)
 rcases h with rfl | ⟨s, hs, h⟩
 ·exact k
 ·rcases k with rfl | ⟨u, hu, k⟩
  ·exact .inr ⟨s, hs, h⟩
  ·obtain ⟨w, hw, e⟩ := mu_cl T hu hs
   refine .inr ⟨w, hw, ?_⟩
   rw [← e, ← VT.as hv z u s hz hu hs, k, h]
theorem Jef {t : List (List Int)} (hv : VT t = true) {x y z : Nat} (hz : z < t.length) (h : leL t x y) (k : leL t y z) : leL t x z := by
 have T := SH.tb (VT.sh hv)
 rcases h with rfl | ⟨s, hs, h⟩
 ·exact k
 ·rcases k with rfl | ⟨u, hu, k⟩
  ·exact .inr ⟨s, hs, h⟩
  ·obtain ⟨w, hw, e⟩ := mu_cl T hs hu
   refine .inr ⟨w, hw, ?_⟩
   rw [← e, VT.as hv s u z hs hu hz, k, h]
theorem Jid {t : List (List Int)} (hv : VT t = true) {x y z : Nat} (hx : x < t.length) (hz : z < t.length) (h : leL t x y) (k : leR t y z) : ∃ w : Nat, w < t.length ∧ leR t x w ∧ leL t w z := by
 have T := SH.tb (VT.sh hv)
 rcases h with rfl | ⟨s, hs, h⟩
 ·exact ⟨z, hz, k, .inl rfl⟩
 ·rcases k with rfl | ⟨u, hu, k⟩
  ·exact ⟨x, hx, .inl rfl, .inr ⟨s, hs, h⟩⟩
  ·obtain ⟨w, hw, e⟩ := mu_cl T hs hz
   refine ⟨w, hw, .inr ⟨u, hu, ?_⟩, .inr ⟨s, hs, e⟩⟩
   rw [← e, VT.as hv s z u hs hz hu, k, h]
theorem Jhy {t : List (List Int)} {x : Nat} (hx : x < t.length) : leJ t x x := ⟨x, hx, .inl rfl, .inl rfl⟩
theorem J9n {t : List (List Int)} (hv : VT t = true) {x y z : Nat} (hy : y < t.length) (hz : z < t.length) (h : leJ t x y) (k : leJ t y z) : leJ t x z := by
 obtain ⟨a, ha, a1, a2⟩ := h
 obtain ⟨b, hb, b1, b2⟩ := k
 obtain ⟨w, hw, w1, w2⟩ := Jid hv ha hb a1 b2
 exact ⟨w, hw, Jef hv hz w2 b1, Jem hv hw a2 w1⟩
def eR (t : List (List Int)) (x y : Nat) : Prop := leR t x y ∧ leR t y x
def eL (t : List (List Int)) (x y : Nat) : Prop := leL t x y ∧ leL t y x
def eJ (t : List (List Int)) (x y : Nat) : Prop := leJ t x y ∧ leJ t y x
structure GrOf (t : List (List Int)) (g : Green) : Prop where
 R : PartOf g.R t.length (eR t)
 L : PartOf g.L t.length (eL t)
 J : PartOf g.J t.length (eJ t)
 H : PartOf g.H t.length (fun i j => eR t i j ∧ eL t i j)
 cnt : IsCnt g.J (g.Below.length : Int)
 row : ∀ i : Nat, i < g.Below.length → (ix g.Below (i : Int)).length = g.Below.length
 bel : ∀ x y : Nat, x < t.length → y < t.length → (ix (ix g.Below (ix g.J (x : Int))) (ix g.J (y : Int)) = true ↔ leJ t x y)
theorem Jeb {p : List Int} {c v : Nat} (hc : IsCnt p (c : Int)) (hv : v < c) : ∃ f : Nat, f < p.length ∧ ix (ix (clsF p c) (v : Int)) 0 = (f : Int) ∧ ix p (f : Int) = (v : Int) ∧ 0 < (ix (clsF p c) (v : Int)).length := by
 rw [JeH hv]
 obtain ⟨j, hj, he⟩ := (hc.2 (v : Int)).1 ⟨ω, ω⟩
 have hm : (j : Int) ∈ (iota p.length).filter fun i => decide (ix p i = (v : Int)) := by
  rw [List.mem_filter, J5G, decide_eq_true_eq]; exact ⟨⟨ω, ω⟩, he⟩
 have hl : 0 < ((iota p.length).filter fun i => decide (ix p i = (v : Int))).length := List.length_pos_of_mem hm
 have h0 := J0P (xs := (iota p.length).filter fun i => decide (ix p i = (v : Int))) (i := 0) ω ω
 rw [List.mem_filter, J5G, decide_eq_true_eq] at h0
 obtain ⟨f, hf⟩ := Int.eq_ofNat_of_zero_le h0.1.1
 exact ⟨f, ω, hf, by rw [← hf]; exact h0.2, hl⟩
theorem JiY {t : List (List Int)} (hv : VT t = true) {p : List Int} (hp : PartOf p t.length (eJ t)) {x y f g : Nat} (hx : x < t.length) (hy : y < t.length) (hf : f < t.length) (hg : g < t.length) (h1 : ix p (x : Int) = ix p (f : Int)) (h2 : ix p (y : Int) = ix p (g : Int)) : leJ t x y ↔ leJ t f g := by
 have a := (hp.ker x f hx hf).1 h1
 have b := (hp.ker y g hy hg).1 h2
 exact ⟨fun h => J9n hv hx hg a.2 (J9n hv hy hg h b.1), fun h => J9n hv hf hy a.1 (J9n hv hg hy h b.2)⟩
theorem J8V {t : List (List Int)} {K : Green → Prop} (h1 : VT t = true → ∀ g, GrOf t g → K g) (h2 : ¬ VT t = true → K ⟨[], [], [], [], []⟩) : J3b t K := by
 unfold J3b
 refine J0F ?_
 by_cases h0 : vaC t = 0
 ·rw [if_pos h0]
  have hv := vaC0.1 h0
  have hs := VT.sh hv
  have T := SH.tb hs
  have n4 := T.n4
  refine Jd7 hs fun rr hrr => Jdt hs fun rl hrl => JeB n4 hrr hrl fun rj hrj => ?_
  have hrj' : IdF t.length rj (leJ t) := hrj
  refine J7f n4 hrr (fun i _ => Jh6 t i) (fun i j k hi hj hk => Jem hv hk) fun pR hR => ?_
  refine J7f n4 hrl (fun i _ => Jh1 t i) (fun i j k hi hj hk => Jef hv hk) fun pL hL => ?_
  refine J7f n4 hrj' (fun i hi => Jhy hi) (fun i j k hi hj hk => J9n hv hj hk) fun pJ hJ => ?_
  have hJl := hJ.len
  refine JbI n4 hR hL fun pH hH => Ja7 hJ.can ω fun c hc => ?_
  have hcl := JgP hJ.can hc
  have hrjl := hrj'.len
  rw [Jb1]
  refine fun _ => ⟨ω, ω, ?_⟩
  refine LoopWP.fold c (fun k (d : List (List Bool)) => d.length = c ∧ ∀ i : Nat, i < k → (ix d (i : Int)).length = c ∧ ∀ x y j : Nat, x < t.length → y < t.length → ix pJ (x : Int) = (i : Int) → ix pJ (y : Int) = (j : Int) → (ix (ix d (i : Int)) (j : Int) = true ↔ leJ t x y)) ⟨by simp, fun i hi => by omega⟩ ?_
  rintro k d X hk ⟨hd, hI⟩ hX
  show J64 rj pR pL pJ pH (clsF pJ c) K _ k d
  unfold J64
  rw [Jb1]
  split
  ·have hkc : k < c := ω
   obtain ⟨f, hf, ef, pf, lf⟩ := Jeb hc hkc
   refine ⟨ω, ω, ω, ω, ω, ω, ?_⟩
   refine LoopWP.fold c (fun m (q : List (List Bool)) => ∃ row, q = st d (k : Int) row ∧ row.length = c ∧ ∀ x y j : Nat, j < m → x < t.length → y < t.length → ix pJ (x : Int) = (k : Int) → ix pJ (y : Int) = (j : Int) → (ix row (j : Int) = true ↔ leJ t x y)) ⟨_, rfl, by simp, fun x y j hj => by omega⟩ ?_
   rintro m q X2 hm ⟨row, rfl, hrow, hJ2⟩ hX2
   show J5I rj (clsF pJ c) k _ K _ m _
   unfold J5I
   rw [Jb1]
   split
   ·have hmc : m < c := ω
    obtain ⟨u, hu, eu, pu, lu⟩ := Jeb hc hmc
    rw [ef, eu, J5c ω]
    refine ⟨ω, ω, ω, by rw [J04]; omega, ω, ω, ω, ω, ω, ω, Jfv n4 (hrj'.wd u ω) ω ⟨ω, ω, hX2 _ hmc ⟨_, st_st, by rw [J04]; exact hrow, fun x y j hj hx hy ex ey => ?_⟩⟩⟩
    rw [ix_st _ ω ω ω]
    by_cases hjm : j = m
    ·subst hjm
     rw [if_pos rfl, hrj'.has f u ω ω]
     exact (JiY hv hJ hx hy ω ω (by rw [ex, pf]) (by rw [ey, pu])).symm
    ·rw [if_neg ω]; exact hJ2 x y j ω hx hy ex ey
   ·obtain rfl : m = c := ω
    refine hX _ hkc ⟨by rw [J04]; exact hd, fun i hi => ?_⟩
    rw [ix_st _ ω ω ω]
    by_cases hik : i = k
    ·subst hik
     rw [if_pos rfl]
     refine ⟨hrow, fun x y j hx hy ex ey => hJ2 x y j ?_ hx hy ex ey⟩
     have := (hc.2 (j : Int)).2 ⟨y, ω, ey⟩
     omega
    ·rw [if_neg ω]; exact hI i ω
  ·obtain rfl : k = c := ω
   refine h1 hv _ ⟨hR, hL, hJ, hH, by simp only; rw [hd]; exact hc, fun i hi => ?_, fun x y hx hy => ?_⟩
   ·simp only at hi ⊢
    rw [(hI i ω).1, hd]
   ·simp only
    have a1 := (hc.2 (ix pJ (x : Int))).2 ⟨x, ω, rfl⟩
    have a2 := (hc.2 (ix pJ (y : Int))).2 ⟨y, ω, rfl⟩
    obtain ⟨i, hi⟩ := Int.eq_ofNat_of_zero_le a1.1
    obtain ⟨j, hj⟩ := Int.eq_ofNat_of_zero_le a2.1
    rw [hi] at a1 ⊢
    rw [hj]
    exact (hI i ω).2 x y j hx hy hi hj
 ·rw [if_neg h0]
  exact h2 fun hv => h0 (vaC0.2 hv)
end Sg
namespace Sg
open Go
end Sg
namespace Sg
open Go
end Sg
namespace Sg
open Go
end Sg
namespace Sg
open Go
end Sg
namespace Sg
open Go
end Sg
namespace Sg
open Go
end Sg
namespace Sg
open Go
end Sg
namespace Sg
open Go
section
variable {α β : Type} {k : Nat} {ρ : Str → α} {ρ' : Str → β} {φ φ' : Str → Bool} {s s' : Syntactic}
def vlS (s : Syntactic) (w : Str) : Int := w.foldl (fun x b => ix (ix s.Table x) (ix s.Images ((b.toNat : Int) - 97))) 0
end
section
variable {k : Nat} {φ φ' : Str → Bool} {s s' : Syntactic} {d : DFA}
end
end Sg
namespace Sg
open Go
section
variable {d : DFA} {k i x : Nat} {W : List Str} {S : List Int}
variable {Nx : List (List Int)} {Fn : List Bool} {row : List Int}
variable {m : List (Int × Int)}
end
section
variable {d : DFA} {k : Nat}
end
end Sg
namespace Sg
open Go
section
variable {d : DFA} {k i x : Nat} {W : List Str} {S : List Int}
end
end Sg
namespace Sg
open Go
section
variable {d : DFA} {k : Nat}
end
section
variable {d : DFA} {k : Nat}
end
end Sg
namespace Sg
open Go
section
variable {d : DFA} {k : Nat} {p : List Int}
variable {q : Nat} {Nx : List (List Int)} {Fn : List Bool} {row : List Int}
end
section
variable {d : DFA} {k : Nat}
end
end Sg
namespace Sg
open Go
section
variable {k : Nat} {d M : DFA}
end
section
variable {k : Nat} {ds Ms : List DFA} {gens : List (List Int)}
end
section
variable {gens : List (List Int)} {r : run}
end
end Sg
namespace Sg
open Go
section
variable {gens : List (List Int)} {r : run}
section
variable {M : DFA} {im : List Int} {K : Syntactic → Int → Prop}
end
section
variable {P : List part} {im : List Int} {K : Syntactic → List (List Bool) → Int → Prop}
end
end
end Sg
namespace Sg
open Go
section
variable {gens : List (List Int)}
end
section
variable {k x q : Nat} {Ms : List DFA} {M : DFA} {cnt cnt' : Nat → Nat} {G : List (List Int)} {v : Int}
end
section
variable {k : Nat} {ds Ms : List DFA} {gens : List (List Int)} {r : run} {s s' : Syntactic} {L L' : List (List Bool)}
section
variable {P : List part}
end
end
section
variable {d : DFA} {k : Nat}
end
end Sg
namespace Sg
open Go
section
variable {α : Type} {k : Nat} {ρ : Str → α} {s : Syntactic}
end
section
variable {k : Nat} {ds Ms : List DFA} {gens : List (List Int)} {r : run} {fin : List Bool}
end
section
variable {d : DFA}
end
end Sg
namespace Sg
open Go
end Sg
namespace Sg
open Go
instance (u v : Str) : Decidable (SL u v) := by unfold SL; infer_instance
end Sg
namespace Sg
open Go
end Sg
namespace Sg
open Go
end Sg
namespace Sg
open Go
end Sg
namespace Sg
open Go
section
variable {d : DFA} {s : Syntactic}
end
end Sg
namespace Sg
open Go
end Sg
namespace Sg
open Go
end Sg
namespace Sg
open Go
end Sg
namespace Sg
open Go
end Sg
namespace Sg
open Go
end Sg
namespace Sg
open Go
end Sg
namespace Sg
open Go
end Sg
namespace Sg
open Go
section
variable {k : Nat} {ds Ms Ms' : List DFA} {i : Nat}
end
end Sg
namespace Sg
open Go
section
variable {ds : List DFA} {s s' : Syntactic} {L L' : List (List Bool)} {e e' : Int}
end
section
variable {α : Type} {k : Nat} {ρ : Str → α} {s : Syntactic}
end
end Sg
