/- -/
import Derived.Test.YtdcibmiaiijjpaaFns
import Derived.Test.YtdcibmiaiijjpaaGen
namespace Sg
open Go
set_option linter.unusedVariables false
set_option linter.unusedSimpArgs false
theorem J3o {a b : List Int} {K : Bool → Prop} (h : K (decide (a = b))) : J1P a b K := by
 unfold J1P
 intro ha hb
 split
 ·rename_i hl
  have hl' : a.length = b.length := by omega
  refine LoopWP.to a.length (fun k : Nat => k) (fun k => k ≤ a.length ∧ ∀ j : Nat, j < k → ix a j = ix b j) ⟨by omega, fun j hj => by omega⟩ (fun s h => h.1) ?_
  rintro k X ⟨hk, hI⟩ hX
  show J2f a b K X k
  unfold J2f
  split
  ·refine ⟨by omega, by omega, by omega, by omega, ?_⟩
   split
   ·rename_i he
    refine hX (k + 1) ⟨by omega, fun j hj => ?_⟩ rfl
    by_cases hjk : j = k
    ·subst hjk; exact he
    ·exact hI j (by omega)
   ·rename_i hne
    have : a ≠ b := fun h => hne (by rw [h])
    simpa [this] using h
  ·have : a = b := J22 hl' fun j hj => hI j (by omega)
   simpa [this] using h
 ·rename_i hl
  have : a ≠ b := fun h => hl (by rw [h])
  simpa [this] using h
end Sg
namespace Sg
open Go
set_option linter.unusedVariables false
set_option linter.unusedSimpArgs false
end Sg
namespace Sg
open Go
set_option linter.unusedVariables false
set_option linter.unusedSimpArgs false
def mu (t : List (List Int)) (x y : Int) : Int := ix (ix t x) y
def rowB (n : Nat) (row : List Int) : Bool := decide (row.length = n) && row.all fun x => decide (0 ≤ x) && decide (x < n)
def SH (t : List (List Int)) : Bool := decide (1 ≤ t.length) && decide (t.length ≤ 400) && t.all (rowB t.length)
theorem J29 {n : Nat} {row : List Int} : rowB n row = true ↔ row.length = n ∧ ∀ j : Nat, j < row.length → 0 ≤ ix row j ∧ ix row j < n := by
 have : (∀ x ∈ row, 0 ≤ x ∧ x < (n : Int)) ↔ ∀ j : Nat, j < row.length → 0 ≤ ix row j ∧ ix row j < n := J1O (p := fun x : Int => 0 ≤ x ∧ x < (n : Int))
 simp only [rowB, Bool.and_eq_true, decide_eq_true_eq, List.all_eq_true, ← this]
theorem J4K {t : List (List Int)} : SH t = true ↔ 1 ≤ t.length ∧ t.length ≤ 400 ∧ ∀ j : Nat, j < t.length → rowB t.length (ix t j) = true := by
 have : (∀ x ∈ t, rowB t.length x = true) ↔ ∀ j : Nat, j < t.length → rowB t.length (ix t j) = true := J1O (p := fun x => rowB t.length x = true)
 simp only [SH, Bool.and_eq_true, decide_eq_true_eq, List.all_eq_true, ← this, and_assoc]
structure Tb (t : List (List Int)) (n : Nat) : Prop where
 len : t.length = n
 n1 : 1 ≤ n
 n4 : n ≤ 400
 row : ∀ x : Int, 0 ≤ x → x < n → (ix t x).length = n
 lo : ∀ x y : Int, 0 ≤ x → x < n → 0 ≤ y → y < n → 0 ≤ ix (ix t x) y
 hi : ∀ x y : Int, 0 ≤ x → x < n → 0 ≤ y → y < n → ix (ix t x) y < n
theorem SH.tb {t : List (List Int)} (h : SH t = true) : Tb t t.length := by
 obtain ⟨h1, h2, h3⟩ := J4K.1 h
 have hr : ∀ x : Int, 0 ≤ x → x < t.length → rowB t.length (ix t x) = true := fun x h0 hx => by
  obtain ⟨m, rfl⟩ := Int.eq_ofNat_of_zero_le h0; exact h3 m (by omega)
 have hl : ∀ x : Int, 0 ≤ x → x < t.length → (ix t x).length = t.length := fun x h0 hx => (J29.1 (hr x h0 hx)).1
 have he : ∀ x y : Int, 0 ≤ x → x < t.length → 0 ≤ y → y < t.length → 0 ≤ ix (ix t x) y ∧ ix (ix t x) y < t.length := fun x y h0 hx k0 ky => by
  obtain ⟨m, rfl⟩ := Int.eq_ofNat_of_zero_le k0
  exact (J29.1 (hr x h0 hx)).2 m (by have := hl x h0 hx; omega)
 exact ⟨rfl, h1, h2, hl, fun x y a b c d => (he x y a b c d).1, fun x y a b c d => (he x y a b c d).2⟩
theorem Tb.mu {t : List (List Int)} {n : Nat} (h : Tb t n) {x y : Int} (h0 : 0 ≤ x) (h1 : x < n) (k0 : 0 ≤ y) (k1 : y < n) : 0 ≤ mu t x y ∧ mu t x y < n := ⟨h.lo x y h0 h1 k0 k1, h.hi x y h0 h1 k0 k1⟩
def shC (t : List (List Int)) : Int := if 400 < t.length then 3 else if SH t = true then 0 else 4
theorem J3I {t : List (List Int)} (h : ¬ (1 ≤ t.length ∧ t.length ≤ 400 ∧ ∀ j : Nat, j < t.length → rowB t.length (ix t j) = true)) : SH t = false := by
 rw [Bool.eq_false_iff, ne_eq, J4K]; exact h
theorem shC4 {t : List (List Int)} (h : ¬ 400 < t.length) (h2 : SH t = false) : shC t = 4 := by rw [shC, if_neg h, h2]; rfl
theorem J34 {t : List (List Int)} {K : Int → Prop} (h : K (shC t)) : J28 t K := by
 unfold J28
 intro _
 split
 ·rw [shC, if_pos (by omega)] at h; exact h
 ·split
  ·rw [shC4 (by omega) (J3I (by omega))] at h; exact h
  ·refine LoopWP.to t.length (fun k : Nat => k) (fun k => k ≤ t.length ∧ ∀ j : Nat, j < k → rowB t.length (ix t j) = true) ⟨by omega, fun j hj => by omega⟩ (fun s h => h.1) ?_
   rintro k X ⟨hk, hI⟩ hX
   show J2h t K X k
   unfold J2h
   split
   ·refine ⟨by omega, by omega, fun _ => ?_⟩
    split
    ·rename_i hrl
     refine LoopWP.to (ix t (k : Int)).length (fun m : Nat => m) (fun m => m ≤ (ix t (k : Int)).length ∧ ∀ j : Nat, j < m → 0 ≤ ix (ix t (k : Int)) j ∧ ix (ix t (k : Int)) j < t.length) ⟨by omega, fun j hj => by omega⟩ (fun s h => h.1) ?_
     rintro m X2 ⟨hm, hJ⟩ hX2
     show J2d t k X K X2 m
     unfold J2d
     split
     ·refine ⟨by omega, by omega, ?_⟩
      split
      ·rw [shC4 (by omega) (J3I fun hs => by have := (J29.1 (hs.2.2 k (by omega))).2 m (by omega); omega)] at h; exact h
      ·split
       ·rw [shC4 (by omega) (J3I fun hs => by have := (J29.1 (hs.2.2 k (by omega))).2 m (by omega); omega)] at h; exact h
       ·refine hX2 (m + 1) ⟨by omega, fun j hj => ?_⟩ rfl
        by_cases hjm : j = m
        ·subst hjm; omega
        ·exact hJ j (by omega)
     ·refine hX (k + 1) ⟨by omega, fun j hj => ?_⟩ rfl
      by_cases hjk : j = k
      ·subst hjk; exact J29.2 ⟨by omega, fun i hi => hJ i (by omega)⟩
      ·exact hI j (by omega)
    ·rw [shC4 (by omega) (J3I fun hs => by have := (J29.1 (hs.2.2 k (by omega))).1; omega)] at h; exact h
   ·rw [shC, if_neg (by omega), if_pos (J4K.2 ⟨by omega, by omega, fun j hj => hI j (by omega)⟩)] at h; exact h
theorem J49 {t : List (List Int)} {K : Int → Prop} (h : K (shC t)) : J2e t K := J34 h
theorem shC0 {t : List (List Int)} : shC t = 0 ↔ SH t = true := by
 unfold shC
 constructor
 ·intro h; split at h
  ·omega
  ·split at h
   ·assumption
   ·omega
 ·intro h
  have := (J4K.1 h).2.1
  rw [if_neg (by omega), if_pos h]
def inB (n : Nat) (l : List Int) : Bool := l.all fun x => decide (0 ≤ x) && decide (x < n)
theorem J5a {n : Nat} {l : List Int} : inB n l = true ↔ ∀ j : Nat, j < l.length → 0 ≤ ix l j ∧ ix l j < n := by
 have : (∀ x ∈ l, 0 ≤ x ∧ x < (n : Int)) ↔ ∀ j : Nat, j < l.length → 0 ≤ ix l j ∧ ix l j < n := J1O (p := fun x : Int => 0 ≤ x ∧ x < (n : Int))
 simp only [inB, Bool.and_eq_true, decide_eq_true_eq, List.all_eq_true, ← this]
theorem J54 {n : Nat} {l : List Int} : inB n l = true ↔ ∀ x ∈ l, 0 ≤ x ∧ x < (n : Int) := by
 simp only [inB, Bool.and_eq_true, decide_eq_true_eq, List.all_eq_true]
theorem J4U {n : Nat} {l : List Int} (h : ¬ ∀ j : Nat, j < l.length → 0 ≤ ix l j ∧ ix l j < n) : inB n l = false := by
 rw [Bool.eq_false_iff, ne_eq, J5a]; exact h
theorem J1Q {t : List (List Int)} {l : List Int} {K : Bool → Prop} (h : K (inB t.length l)) : J0v t l K := by
 unfold J0v
 intro _
 refine LoopWP.to l.length (fun k : Nat => k) (fun k => k ≤ l.length ∧ ∀ j : Nat, j < k → 0 ≤ ix l j ∧ ix l j < t.length) ⟨by omega, fun j hj => by omega⟩ (fun s h => h.1) ?_
 rintro k X ⟨hk, hI⟩ hX
 show J10 t l K X k
 unfold J10
 split
 ·refine ⟨by omega, by omega, ?_⟩
  split
  ·rw [J4U (fun hh => by have := hh k (by omega); omega)] at h; exact h
  ·intro _
   split
   ·rw [J4U (fun hh => by have := hh k (by omega); omega)] at h; exact h
   ·refine hX (k + 1) ⟨by omega, fun j hj => ?_⟩ rfl
    by_cases hjk : j = k
    ·subst hjk; omega
    ·exact hI j (by omega)
 ·rw [J5a.2 fun j hj => hI j (by omega)] at h; exact h
theorem J5b {t : List (List Int)} {l : List Int} {K : Bool → Prop} (h : K (inB t.length l)) : J3R t l K := J1Q h
def lgB (t : List (List Int)) (g : Int) : Bool := (iota t.length).all fun x => (iota t.length).all fun y => decide (mu t (mu t x g) y = mu t x (mu t g y))
theorem J0n {n : Nat} {x : Int} : x ∈ iota n ↔ 0 ≤ x ∧ x < n := by
 simp only [iota, List.mem_map, List.mem_range]
 constructor
 ·rintro ⟨a, h, rfl⟩; omega
 ·rintro ⟨h0, h1⟩; exact ⟨x.toNat, by omega, by omega⟩
theorem J2Z {t : List (List Int)} {g : Int} : lgB t g = true ↔ ∀ x y : Nat, x < t.length → y < t.length → mu t (mu t x g) y = mu t x (mu t g y) := by
 simp only [lgB, List.all_eq_true, J0n, decide_eq_true_eq]
 constructor
 ·intro h x y hx hy; exact h x (by omega) y (by omega)
 ·intro h x hx y hy
  obtain ⟨a, rfl⟩ := Int.eq_ofNat_of_zero_le hx.1
  obtain ⟨b, rfl⟩ := Int.eq_ofNat_of_zero_le hy.1
  exact h a b (by omega) (by omega)
theorem J6h {t : List (List Int)} {g : Int} (h : ¬ ∀ x y : Nat, x < t.length → y < t.length → mu t (mu t x g) y = mu t x (mu t g y)) : lgB t g = false := by
 rw [Bool.eq_false_iff, ne_eq, J2Z]; exact h
theorem J5I {α : Type} [Inhabited α] {p : α → Bool} {l : List α} {k : Nat} (hk : k < l.length) (h : p (ix l k) = false) : l.all p = false := by
 rw [Bool.eq_false_iff, ne_eq, List.all_eq_true]
 intro hh; have := hh _ (J0R (i := (k : Int)) (by omega) (by omega)); rw [h] at this; cases this
theorem J7g {α : Type} [Inhabited α] {p : α → Bool} {l : List α} (h : ∀ j : Nat, j < l.length → p (ix l j) = true) : l.all p = true := by
 rw [List.all_eq_true]; exact (J1O (p := fun x => p x = true)).2 h
theorem J33 {t : List (List Int)} (ht : SH t = true) {gens : List Int} (hg : inB t.length gens = true) {K : Bool → Prop} (h : K (gens.all (lgB t))) : J0C t gens K := by
 unfold J0C
 have T := SH.tb ht
 have n4 := T.n4
 refine fun _ => ⟨by omega, by omega, fun _ => ?_⟩
 have hgi := J5a.1 hg
 refine LoopWP.to gens.length (fun s : Nat × List Bool => s.1) (fun s => s.1 ≤ gens.length ∧ s.2.length = t.length ∧ (∀ j : Nat, j < s.1 → lgB t (ix gens j) = true) ∧ ∀ x : Nat, x < t.length → ix s.2 x = true → lgB t x = true)
  ⟨by simp, by simp, fun j hj => by simp at hj, fun x hx hh => by rw [J0D _ _ hx] at hh; cases hh⟩ (fun s h => h.1) ?_
 rintro ⟨k, tr⟩ X ⟨hk, hl, hI, hT⟩ hX
 simp only at hk hl hI hT
 show J1h t gens K _ k tr
 unfold J1h
 split
 ·have hgk := hgi k (by omega)
  obtain ⟨g, hgg⟩ := Int.eq_ofNat_of_zero_le hgk.1
  rw [hgg] at hgk ⊢
  refine ⟨by omega, by omega, by omega, by omega, ?_⟩
  split
  ·rename_i htr
   refine hX (k + 1, tr) ⟨by simp only; omega, hl, fun j hj => ?_, hT⟩ rfl
   simp only at hj
   by_cases hjk : j = k
   ·subst hjk; rw [hgg]; exact hT g (by omega) htr
   ·exact hI j (by omega)
  ·refine ⟨by omega, by omega, ?_⟩
   refine LoopWP.to t.length (fun x : Nat => x) (fun x => x ≤ t.length ∧ ∀ a b : Nat, a < x → b < t.length → mu t (mu t a g) b = mu t a (mu t g b)) ⟨by omega, fun a b ha => by omega⟩ (fun s h => h.1) ?_
   rintro x X2 ⟨hx, hJ⟩ hX2
   show J17 t gens k tr _ K X2 x
   unfold J17
   rw [hgg]
   split
   ·have hxn : (x : Int) < t.length := by omega
    have r1 := T.row x (by omega) hxn
    have m1 := T.mu (x := x) (y := g) (by omega) hxn (by omega) hgk.2
    unfold mu at m1
    have r2 := T.row g (by omega) hgk.2
    have r3 := T.row _ m1.1 m1.2
    refine ⟨by omega, by omega, by omega, by omega, m1.1, m1.2, by omega, by omega, fun _ => ?_⟩
    refine LoopWP.to t.length (fun y : Nat => y) (fun y => y ≤ t.length ∧ ∀ b : Nat, b < y → mu t (mu t x g) b = mu t x (mu t g b)) ⟨by omega, fun b hb => by omega⟩ (fun s h => h.1) ?_
    rintro y X3 ⟨hy, hL⟩ hX3
    show J1b t gens k x X2 K X3 y
    unfold J1b
    rw [hgg]
    split
    ·have hyn : (y : Int) < t.length := by omega
     have m2 := T.mu (x := g) (y := y) (by omega) hgk.2 (by omega) hyn
     unfold mu at m2
     refine ⟨by omega, by omega, by omega, by omega, m2.1, by omega, ?_⟩
     split
     ·rename_i he
      refine hX3 (y + 1) ⟨by omega, fun b hb => ?_⟩ rfl
      by_cases hby : b = y
      ·subst hby; exact he
      ·exact hL b (by omega)
     ·rename_i he
      rw [J5I (k := k) (by omega) (J6h fun hh => he (by rw [hgg] at hh; exact hh x y (by omega) (by omega)))] at h; exact h
    ·refine hX2 (x + 1) ⟨by omega, fun a b ha hb => ?_⟩ rfl
     by_cases hax : a = x
     ·subst hax; exact hL b (by omega)
     ·exact hJ a b (by omega) hb
   ·have hlg : lgB t g = true := J2Z.2 fun a b ha hb => hJ a b (by omega) hb
    refine hX (k + 1, _) ⟨by simp only; omega, by simpa using hl, fun j hj => ?_, fun a ha hh => ?_⟩ rfl
    ·simp only at hj
     by_cases hjk : j = k
     ·subst hjk; rw [hgg]; exact hlg
     ·exact hI j (by omega)
    ·simp only at hh
     rw [ix_st _ (by omega) (by omega) (by omega)] at hh
     split at hh
     ·rename_i hag; rw [hag]; exact hlg
     ·exact hT a ha hh
 ·rw [J7g fun j hj => hI j (by omega)] at h; exact h
inductive Clo (t : List (List Int)) (G : List Int) : Int → Prop
 | gen {x : Int} : x ∈ G → Clo t G x
 | mul {x y : Int} : Clo t G x → Clo t G y → Clo t G (mu t x y)
theorem Clo.mono {t : List (List Int)} {G G' : List Int} (h : ∀ x ∈ G, x ∈ G') {x : Int} (hx : Clo t G x) : Clo t G' x := by
 induction hx with
 | gen hg => exact .gen (h _ hg)
 | mul _ _ ih1 ih2 => exact .mul ih1 ih2
theorem Clo.in_ {t : List (List Int)} {n : Nat} (T : Tb t n) {G : List Int} (hG : ∀ x ∈ G, 0 ≤ x ∧ x < (n : Int)) {x : Int} (hx : Clo t G x) : 0 ≤ x ∧ x < (n : Int) := by
 induction hx with
 | gen hg => exact hG _ hg
 | mul _ _ ih1 ih2 => exact T.mu ih1.1 ih1.2 ih2.1 ih2.2
theorem J5j {l : List Int} (hn : l.Nodup) {n : Nat} (hl : ∀ x ∈ l, 0 ≤ x ∧ x < (n : Int)) : l.length ≤ n := by
 rcases Nat.lt_or_ge n l.length with hlt | hge
 ·exfalso
  obtain ⟨a, b, hab, hb, he⟩ := pigeon n (fun m => ix l m) fun m hm => hl _ (J0R (by omega) (by omega))
  rw [ix_lt (by omega), ix_lt (by omega)] at he
  exact (List.pairwise_iff_getElem.1 hn) a b (by omega) (by omega) hab he
 ·exact hge
structure MI (t : List (List Int)) (n : Nat) (G made : List Int) (mk : List Bool) : Prop where
 nd : made.Nodup
 len : mk.length = n
 inn : ∀ x ∈ made, 0 ≤ x ∧ x < (n : Int)
 mkd : ∀ x : Nat, x < n → (ix mk x = true ↔ (x : Int) ∈ made)
 clo : ∀ x ∈ made, Clo t G x
theorem MI.add {t : List (List Int)} {n : Nat} {G made : List Int} {mk : List Bool} (h : MI t n G made mk) {x : Int} (h0 : 0 ≤ x) (h1 : x < n) (hc : Clo t G x) (hx : ¬ ix mk x = true) : MI t n G (made ++ [x]) (st mk x true) := by
 obtain ⟨m, rfl⟩ := Int.eq_ofNat_of_zero_le h0
 have hnm : (m : Int) ∉ made := fun hh => hx ((h.mkd m (by omega)).2 hh)
 refine ⟨List.nodup_append.2 ⟨h.nd, by simp, fun a ha b hb hab => ?_⟩, by simpa using h.len, fun x hx => ?_, fun x hxn => ?_, fun x hx => ?_⟩
 ·rw [List.mem_singleton] at hb; subst hab; subst hb; exact hnm ha
 ·rcases List.mem_append.1 hx with hx | hx
  ·exact h.inn x hx
  ·rw [List.mem_singleton] at hx; subst hx; omega
 ·rw [ix_st _ (by omega) (by have := h.len; omega) (by omega), List.mem_append, List.mem_singleton]
  split
  ·rename_i he; exact ⟨fun _ => .inr he, fun _ => rfl⟩
  ·rename_i he
   rw [h.mkd x hxn]
   exact ⟨.inl, fun hh => hh.resolve_right he⟩
 ·rcases List.mem_append.1 hx with hx | hx
  ·exact h.clo x hx
  ·rw [List.mem_singleton] at hx; subst hx; exact hc
theorem MI.mono {t : List (List Int)} {n : Nat} {G G' made : List Int} {mk : List Bool} (h : MI t n G made mk) (hG : ∀ x ∈ G, x ∈ G') : MI t n G' made mk := ⟨h.nd, h.len, h.inn, h.mkd, fun x hx => (h.clo x hx).mono hG⟩
structure SI (t : List (List Int)) (n : Nat) (G : List Int) (g : Nat) (made : List Int) (mk : List Bool) : Prop where
 mi : MI t n G made mk
 up : ∀ j : Nat, j < g → (j : Int) ∈ made
theorem SI.add {t : List (List Int)} {n : Nat} {G : List Int} {g : Nat} {made : List Int} {mk : List Bool} (h : SI t n G g made mk) {x : Int} (h0 : 0 ≤ x) (h1 : x < n) (hc : Clo t G x) (hx : ¬ ix mk x = true) : SI t n G g (made ++ [x]) (st mk x true) :=
 ⟨h.mi.add h0 h1 hc hx, fun j hj => List.mem_append_left _ (h.up j hj)⟩
theorem SI.le {t : List (List Int)} {n : Nat} {G : List Int} {g : Nat} {made : List Int} {mk : List Bool} (h : SI t n G g made mk) : made.length ≤ n := J5j h.mi.nd h.mi.inn
theorem J3C {t : List (List Int)} (ht : SH t = true) {K : List Int → Prop} (h : ∀ G, inB t.length G = true → (∀ x : Nat, x < t.length → Clo t G x) → K G) : J1d t K := by
 unfold J1d
 have T := SH.tb ht
 have n4 := T.n4
 refine fun _ => ⟨by omega, by omega, ?_⟩
 refine LoopWP.to t.length (fun s : Nat × Nat × List Int × List Int × List Bool => s.2.1)
  (fun s => s.2.1 ≤ t.length ∧ s.1 ≤ s.2.2.1.length ∧ s.2.2.2.1.length ≤ s.2.1 ∧ (∀ x ∈ s.2.2.2.1, 0 ≤ x ∧ x < (t.length : Int)) ∧ SI t t.length s.2.2.2.1 s.2.1 s.2.2.1 s.2.2.2.2)
  ⟨by simp, by simp, by simp, by simp, ⟨⟨List.nodup_nil, by simp, by simp, fun x hx => by simp [J0D _ _ hx], by simp⟩, fun j hj => by simp at hj⟩⟩ (fun s h => h.1) ?_
 rintro ⟨m, g, made, gens, mk⟩ X ⟨hg, hm, hgl, hG, hI⟩ hX
 simp only at hg hm hgl hG hI
 show J1J t K _ m g made gens mk
 unfold J1J
 have hml := hI.mi.len
 split
 ·refine ⟨by omega, by omega, ?_⟩
  split
  ·rename_i hmk
   refine hX (m, g + 1, made, gens, mk) ⟨by simp only; omega, hm, by simp only; omega, hG, ⟨hI.mi, fun j hj => ?_⟩⟩ rfl
   by_cases hjg : j = g
   ·subst hjg; exact (hI.mi.mkd j (by omega)).1 hmk
   ·exact hI.up j (by simp only at hj; omega)
  ·rename_i hmk
   refine ⟨by simp; omega, by omega, by omega, by omega, by omega, by have := hI.le; simp; omega, ?_⟩
   have hI2 : SI t t.length (gens ++ [(g : Int)]) (g + 1) (made ++ [(g : Int)]) (st mk (g : Int) true) := by
    have h1 : SI t t.length (gens ++ [(g : Int)]) g made mk := ⟨hI.mi.mono fun x hx => List.mem_append_left _ hx, hI.up⟩
    have h2 := h1.add (x := (g : Int)) (by omega) (by omega) (.gen (by simp)) hmk
    refine ⟨h2.mi, fun j hj => ?_⟩
    by_cases hjg : j = g
    ·subst hjg; simp
    ·exact h2.up j (by omega)
   have hG2 : ∀ x ∈ gens ++ [(g : Int)], 0 ≤ x ∧ x < (t.length : Int) := by
    intro x hx
    rcases List.mem_append.1 hx with hx | hx
    ·exact hG x hx
    ·rw [List.mem_singleton] at hx; subst hx; omega
   have hgl2 : (gens ++ [(g : Int)]).length ≤ g + 1 := by simp; omega
   generalize hGe : gens ++ [(g : Int)] = G2 at *
   refine LoopWP.to t.length (fun s : Nat × List Int × List Bool => s.1) (fun s => s.1 ≤ s.2.1.length ∧ SI t t.length G2 (g + 1) s.2.1 s.2.2) ⟨by simp; omega, hI2⟩ (fun s h => Nat.le_trans h.1 h.2.le) ?_
   rintro ⟨a, md, mk2⟩ X2 ⟨ha, hJ⟩ hX2
   simp only at ha hJ
   show J1D t g gens _ K _ a md mk2
   unfold J1D
   split
   ·rename_i hal
    refine ⟨by omega, by omega, by omega, by omega, ?_⟩
    have hjl := hJ.le
    have e1 : (((a + 1 : Nat) : Int)).toNat = a + 1 := by omega
    have hax := hJ.mi.inn _ (J0R (xs := md) (i := (a : Int)) (by omega) (by omega))
    have hac := hJ.mi.clo _ (J0R (xs := md) (i := (a : Int)) (by omega) (by omega))
    refine LoopWP.to (a + 1) (fun s : Nat × List Int × List Bool => s.1) (fun s => s.1 ≤ a + 1 ∧ a + 1 ≤ s.2.1.length ∧ SI t t.length G2 (g + 1) s.2.1 s.2.2) ⟨by simp, by simp only; omega, hJ⟩ (fun s h => h.1) ?_
    rintro ⟨b, md3, mk3⟩ X3 ⟨hb, hl3, hL⟩ hX3
    simp only at hb hl3 hL
    show J1G t a md _ K _ b md3 mk3
    unfold J1G
    have e2 : (((a : Int) + 1)).toNat = a + 1 := by omega
    have htl : (md.take (a + 1)).length = a + 1 := by rw [List.length_take]; omega
    simp only [e2, htl]
    split
    ·rename_i hb1
     have e3 : ix (md.take (a + 1)) (b : Int) = ix md (b : Int) := by
      rw [ix_lt (by omega), ix_lt (by omega), List.getElem_take]
     rw [e3]
     have hbx := hJ.mi.inn _ (J0R (xs := md) (i := (b : Int)) (by omega) (by omega))
     have hbc := hJ.mi.clo _ (J0R (xs := md) (i := (b : Int)) (by omega) (by omega))
     generalize ix md (a : Int) = x at *
     generalize ix md (b : Int) = y at *
     have r1 := T.row x hax.1 hax.2
     have r2 := T.row y hbx.1 hbx.2
     have m1 := T.mu hax.1 hax.2 hbx.1 hbx.2
     have m2 := T.mu hbx.1 hbx.2 hax.1 hax.2
     have c1 := Clo.mul hac hbc
     have c2 := Clo.mul hbc hac
     unfold mu at m1 m2 c1 c2
     have l3 := hL.mi.len
     have le3 := hL.le
     refine ⟨by omega, by omega, hax.1, hax.2, hbx.1, by omega, m1.1, by omega, ?_⟩
     split
     ·refine ⟨hbx.1, hbx.2, hax.1, by omega, m2.1, by omega, ?_⟩
      split
      ·exact ⟨⟨by omega, by omega⟩, hX3 (b + 1, md3, mk3) ⟨by simp only; omega, hl3, hL⟩ rfl⟩
      ·rename_i hn
       exact ⟨m2.1, by omega, by simp; omega, ⟨by omega, by omega⟩, hX3 (b + 1, _, _) ⟨by simp only; omega, by simp; omega, hL.add m2.1 m2.2 c2 hn⟩ rfl⟩
     ·rename_i hn
      have hL2 := hL.add m1.1 m1.2 c1 hn
      have l4 := hL2.mi.len
      have le4 := hL2.le
      refine ⟨m1.1, by omega, by simp; omega, hbx.1, hbx.2, hax.1, by omega, m2.1, by omega, ?_⟩
      split
      ·exact ⟨⟨by omega, by omega⟩, hX3 (b + 1, _, _) ⟨by simp only; omega, by simp; omega, hL2⟩ rfl⟩
      ·rename_i hn2
       exact ⟨m2.1, by omega, by simp at le4 ⊢; omega, ⟨by omega, by omega⟩, hX3 (b + 1, _, _) ⟨by simp only; omega, by simp; omega, hL2.add m2.1 m2.2 c2 hn2⟩ rfl⟩
    ·exact ⟨⟨by omega, by omega⟩, hX2 (a + 1, md3, mk3) ⟨by simp only; omega, hL⟩ rfl⟩
   ·refine hX (a, g + 1, md, _, mk2) ⟨by simp only; omega, ha, ?_, ?_, ?_⟩ rfl
    ·simp only [hGe]; omega
    ·simp only [hGe]; exact hG2
    ·simp only [hGe]; exact hJ
 ·exact h gens (J54.2 hG) fun x hx => hI.mi.clo _ (hI.up x (by omega))
def AS (t : List (List Int)) : Prop := ∀ x y z : Nat, x < t.length → y < t.length → z < t.length → mu t (mu t x y) z = mu t x (mu t y z)
instance (t : List (List Int)) : Decidable (AS t) := decidable_of_iff ((iota t.length).all fun y => lgB t y) (by
 simp only [List.all_eq_true, J0n, J2Z]
 constructor
 ·intro h x y z hx hy hz; exact h y (by omega) x z hx hz
 ·intro h y hy x z hx hz
  obtain ⟨b, rfl⟩ := Int.eq_ofNat_of_zero_le hy.1
  exact h x b z hx (by omega) hz)
theorem AS.all {t : List (List Int)} (h : AS t) {x y z : Int} (hx : 0 ≤ x ∧ x < t.length) (hy : 0 ≤ y ∧ y < t.length) (hz : 0 ≤ z ∧ z < t.length) : mu t (mu t x y) z = mu t x (mu t y z) := by
 obtain ⟨a, rfl⟩ := Int.eq_ofNat_of_zero_le hx.1
 obtain ⟨b, rfl⟩ := Int.eq_ofNat_of_zero_le hy.1
 obtain ⟨c, rfl⟩ := Int.eq_ofNat_of_zero_le hz.1
 exact h a b c (by omega) (by omega) (by omega)
theorem J4q {t : List (List Int)} {g : Int} (h : lgB t g = true) {x y : Int} (hx : 0 ≤ x ∧ x < t.length) (hy : 0 ≤ y ∧ y < t.length) : mu t (mu t x g) y = mu t x (mu t g y) := by
 obtain ⟨a, rfl⟩ := Int.eq_ofNat_of_zero_le hx.1
 obtain ⟨b, rfl⟩ := Int.eq_ofNat_of_zero_le hy.1
 exact J2Z.1 h a b (by omega) (by omega)
theorem J7q {t : List (List Int)} (T : Tb t t.length) {g k : Int} (hg : 0 ≤ g ∧ g < t.length) (hk : 0 ≤ k ∧ k < t.length) (h1 : lgB t g = true) (h2 : lgB t k = true) : lgB t (mu t g k) = true := by
 refine J2Z.2 fun x y hx hy => ?_
 have hx' : 0 ≤ (x : Int) ∧ (x : Int) < t.length := by omega
 have hy' : 0 ≤ (y : Int) ∧ (y : Int) < t.length := by omega
 rw [← J4q h1 hx' hk, J4q h2 (T.mu hx'.1 hx'.2 hg.1 hg.2) hy', J4q h1 hx' (T.mu hk.1 hk.2 hy'.1 hy'.2), ← J4q h2 hg hy']
theorem light {t : List (List Int)} (T : Tb t t.length) {G : List Int} (hG : inB t.length G = true) (hc : ∀ x : Nat, x < t.length → Clo t G x) : G.all (lgB t) = decide (AS t) := by
 have hin := J54.1 hG
 by_cases h : AS t
 ·rw [decide_eq_true h, List.all_eq_true]
  exact fun g hg => J2Z.2 fun x y hx hy => h.all (by omega) (hin g hg) (by omega)
 ·rw [decide_eq_false h, Bool.eq_false_iff]
  intro ha
  rw [List.all_eq_true] at ha
  have key : ∀ x, Clo t G x → lgB t x = true := fun x hx => by
   induction hx with
   | gen hg => exact ha _ hg
   | mul h1 h2 i1 i2 => exact J7q T (h1.in_ T hin) (h2.in_ T hin) i1 i2
  exact h fun x y z hx hy hz => J2Z.1 (key y (hc y hy)) x z hx hz
def VT (t : List (List Int)) : Bool := SH t && decide (AS t)
def vaC (t : List (List Int)) : Int := if SH t = true then (if AS t then 0 else 5) else shC t
theorem vaC0 {t : List (List Int)} : vaC t = 0 ↔ VT t = true := by
 unfold vaC VT
 by_cases h : SH t = true
 ·rw [if_pos h, h]
  by_cases h2 : AS t
  ·simp [h2]
  ·simp [h2]
 ·rw [if_neg h]
  have : shC t ≠ 0 := fun hh => h (shC0.1 hh)
  simp [h, this]
theorem VT.sh {t : List (List Int)} (h : VT t = true) : SH t = true := by simp only [VT, Bool.and_eq_true] at h; exact h.1
theorem VT.as {t : List (List Int)} (h : VT t = true) : AS t := by simp only [VT, Bool.and_eq_true, decide_eq_true_eq] at h; exact h.2
theorem J1I {t : List (List Int)} {K : Int → Prop} (h : K (vaC t)) : J0t t K := by
 unfold J0t
 refine J34 ?_
 split
 ·rename_i h0
  have ht := shC0.1 h0
  rw [vaC, if_pos ht] at h
  refine J3C ht fun G hG hc => J33 ht hG ?_
  rw [light (SH.tb ht) hG hc]
  by_cases ha : AS t
  ·simpa [ha] using h
  ·simpa [ha] using h
 ·rename_i h0
  rw [vaC, if_neg (fun hh => h0 (shC0.2 hh))] at h; exact h
end Sg
namespace Sg
open Go
set_option linter.unusedVariables false
set_option linter.unusedSimpArgs false
def bad (t : List (List Int)) (x y z : Nat) : Prop := mu t (mu t x y) z ≠ mu t x (mu t y z)
def Fst (t : List (List Int)) (x y z : Nat) : Prop := x < t.length ∧ y < t.length ∧ z < t.length ∧ bad t x y z ∧ (∀ a b c : Nat, a < x → b < t.length → c < t.length → ¬ bad t a b c) ∧ (∀ b c : Nat, b < y → c < t.length → ¬ bad t x b c) ∧ ∀ c : Nat, c < z → ¬ bad t x y c
def AsR (t : List (List Int)) (x y z f : Int) : Prop := (f = 5 ∧ vaC t = 5 ∧ ∃ a b c : Nat, x = a ∧ y = b ∧ z = c ∧ Fst t a b c) ∨ (f ≠ 5 ∧ f = vaC t ∧ x = 0 ∧ y = 0 ∧ z = 0)
theorem AsR.code {t : List (List Int)} {x y z f : Int} (h : AsR t x y z f) : f = vaC t := by
 rcases h with ⟨h1, h2, _⟩ | ⟨h1, h2, _⟩ <;> omega
theorem J7o {t : List (List Int)} (h : vaC t = 5) : SH t = true := by
 unfold vaC at h
 by_cases hs : SH t = true
 ·exact hs
 ·rw [if_neg hs] at h; unfold shC at h; split at h
  ·omega
  ·simp at h
theorem vaC5 {t : List (List Int)} (ht : SH t = true) (h : ∃ x y z : Nat, x < t.length ∧ y < t.length ∧ z < t.length ∧ bad t x y z) : vaC t = 5 := by
 obtain ⟨x, y, z, hx, hy, hz, hb⟩ := h
 rw [vaC, if_pos ht, if_neg (fun ha => hb (ha x y z hx hy hz))]
theorem J7l {t : List (List Int)} (ht : SH t = true) (h : ∀ x y z : Nat, x < t.length → y < t.length → z < t.length → ¬ bad t x y z) : vaC t = 0 := by
 rw [vaC, if_pos ht, if_pos (show AS t from fun x y z hx hy hz => Classical.not_not.1 (h x y z hx hy hz))]
theorem J2L {t : List (List Int)} {K : Int → Int → Int → Int → Prop} (h : ∀ x y z f, AsR t x y z f → K x y z f) : J0r t K := by
 unfold J0r
 refine J49 ?_
 split
 ·rename_i h0
  have ht := shC0.1 h0
  have T := SH.tb ht
  have n4 := T.n4
  refine fun _ => LoopWP.scan t.length (fun a => ∀ b c : Nat, b < t.length → c < t.length → ¬ bad t a b c) ?_
  intro x X hx hI hX
  show J0O t K _ x
  unfold J0O
  split
  ·have hxn : (x : Int) < t.length := by omega
   have r1 := T.row x (by omega) hxn
   refine LoopWP.scan t.length (fun b => ∀ c : Nat, c < t.length → ¬ bad t x b c) ?_
   intro y X2 hy hJ hX2
   show J0N t x _ K _ y
   unfold J0N
   split
   ·have hyn : (y : Int) < t.length := by omega
    have r2 := T.row y (by omega) hyn
    have m1 := T.mu (x := x) (y := y) (by omega) hxn (by omega) hyn
    unfold mu at m1
    have r3 := T.row _ m1.1 m1.2
    refine LoopWP.scan t.length (fun c => ¬ bad t x y c) ?_
    intro z X3 hz hL hX3
    show J0L t x y _ K _ z
    unfold J0L
    split
    ·have hzn : (z : Int) < t.length := by omega
     have m2 := T.mu (x := y) (y := z) (by omega) hyn (by omega) hzn
     unfold mu at m2
     refine ⟨by omega, by omega, by omega, by omega, m1.1, m1.2, by omega, by omega, by omega, by omega, by omega, by omega, by omega, by omega, m2.1, by omega, ?_⟩
     split
     ·rename_i he
      exact hX3 (by omega) fun hb => hb he
     ·rename_i he
      have hF : Fst t x y z := ⟨by omega, by omega, by omega, he, fun a b c ha => hI a ha b c, fun b c hb => hJ b hb c, hL⟩
      exact h _ _ _ _ (.inl ⟨rfl, vaC5 ht ⟨x, y, z, by omega, by omega, by omega, he⟩, x, y, z, rfl, rfl, rfl, hF⟩)
    ·exact hX2 (by omega) fun c hc => hL c (by omega)
   ·exact hX (by omega) fun b c hb hc => hJ b (by omega) c hc
  ·have h5 := J7l ht fun a b c ha hb hc => hI a (by omega) b c hb hc
   exact h _ _ _ _ (.inr ⟨by omega, h5.symm, rfl, rfl, rfl⟩)
 ·rename_i h0
  have hs : ¬ SH t = true := fun hh => h0 (shC0.2 hh)
  have e : vaC t = shC t := by rw [vaC, if_neg hs]
  exact h _ _ _ _ (.inr ⟨fun h5 => hs (J7o (e.trans h5)), e.symm, rfl, rfl, rfl⟩)
theorem J3t {t : List (List Int)} {K : Int → Prop} (h : K (vaC t)) : J0S t K := by
 unfold J0S
 exact J2L fun x y z f hf => by rw [hf.code]; exact h
theorem J45 {t : List (List Int)} {K : Bool → Prop} (h : K (VT t)) : J1T t K := by
 unfold J1T
 refine J3t ?_
 by_cases hv : VT t = true
 ·rw [if_pos (vaC0.2 hv)]; rw [hv] at h; exact h
 ·rw [if_neg (fun hh => hv (vaC0.1 hh))]; rw [Bool.eq_false_iff.2 hv] at h; exact h
end Sg
namespace Sg
open Go
set_option linter.unusedVariables false
set_option linter.unusedSimpArgs false
def pow (t : List (List Int)) (x : Int) : Nat → Int
 | 0 => x
 | k + 1 => mu t (pow t x k) x
theorem J4N {t : List (List Int)} {n : Nat} (T : Tb t n) {x : Int} (hx : 0 ≤ x ∧ x < n) : ∀ k, 0 ≤ pow t x k ∧ pow t x k < n
 | 0 => hx
 | k + 1 => T.mu (J4N T hx k).1 (J4N T hx k).2 hx.1 hx.2
section
variable {t : List (List Int)} (hv : VT t = true) {x : Int} (hx : 0 ≤ x ∧ x < t.length)
include hv hx
theorem J7e (a b : Nat) : mu t (pow t x a) (pow t x b) = pow t x (a + b + 1) := by
  have T := SH.tb (VT.sh hv)
  induction b with
  | zero => rfl
  | succ b ih =>
    show mu t (pow t x a) (mu t (pow t x b) x) = mu t (pow t x (a + b + 1)) x
    rw [← ih, (VT.as hv).all (J4N T hx a) (J4N T hx b) hx]
end
structure RP (g : Nat → Int) (a m : Nat) : Prop where
 lt : a < m
 eq : g m = g a
 inj : ∀ i j, i < j → j < m → g i ≠ g j
theorem J7k {g : Nat → Int} {n m : Nat} (hg : ∀ k, 0 ≤ g k ∧ g k < (n : Int)) (h : ∀ i j, i < j → j < m → g i ≠ g j) : m ≤ n := by
 rcases Nat.lt_or_ge n m with hlt | hge
 ·obtain ⟨a, b, hab, hb, he⟩ := pigeon n g fun k _ => hg k
  exact absurd he (h a b hab (by omega))
 ·exact hge
theorem RP.le {g : Nat → Int} {n a m : Nat} (h : RP g a m) (hg : ∀ k, 0 ≤ g k ∧ g k < (n : Int)) : m ≤ n := J7k hg h.inj
theorem J5N {t : List (List Int)} {x : Int} {a m : Nat} (h : RP (pow t x) a m) : ∀ k, a ≤ k → pow t x (k + (m - a)) = pow t x k := by
  intro k hk
  obtain ⟨d, rfl⟩ := Nat.exists_eq_add_of_le hk
  induction d with
  | zero => rw [Nat.add_zero, show a + (m - a) = m from by have := h.lt; omega]; exact h.eq
  | succ d ih =>
    have := ih (by omega)
    show pow t x (a + (d + 1) + (m - a)) = mu t (pow t x (a + d)) x
    rw [← this]
    show _ = pow t x (a + d + (m - a) + 1)
    congr 1; omega
theorem J4H {t : List (List Int)} {x : Int} {a m : Nat} (h : RP (pow t x) a m) (q k : Nat) (hk : a ≤ k) : pow t x (k + q * (m - a)) = pow t x k := by
 induction q with
 | zero => simp
 | succ q ih => rw [Nat.succ_mul, ← Nat.add_assoc, J5N h _ (by omega), ih]
def omR (t : List (List Int)) (x r : Int) : Prop := ∃ j, r = pow t x j ∧ mu t r r = r
theorem omR.mul {t : List (List Int)} (hv : VT t = true) {x : Int} (hx : 0 ≤ x ∧ x < t.length) {a m q : Nat} (h : RP (pow t x) a m) (hq : a + 1 ≤ q * (m - a)) : mu t (pow t x (q * (m - a) - 1)) (pow t x (q * (m - a) - 1)) = pow t x (q * (m - a) - 1) := by
 rw [J7e hv hx]
 have := J4H h q (q * (m - a) - 1) (by omega)
 rw [← this]
 congr 1; omega
end Sg
namespace Sg
open Go
set_option linter.unusedVariables false
set_option linter.unusedSimpArgs false
end Sg
namespace Sg
open Go
set_option linter.unusedVariables false
set_option linter.unusedSimpArgs false
def lt (im : List Int) (b : UInt8) : Int := ix im ((b.toNat : Int) - 97)
def val (t : List (List Int)) (im : List Int) : Str → Int
 | [] => 0
 | b :: w => w.foldl (fun x b => mu t x (lt im b)) (lt im b)
end Sg
namespace Sg
open Go
set_option linter.unusedVariables false
set_option linter.unusedSimpArgs false
section
variable {t u : List (List Int)} (T : Tb t t.length) (U : Tb u u.length)
include T U
end
end Sg
namespace Sg
open Go
set_option linter.unusedVariables false
set_option linter.unusedSimpArgs false
theorem J1y (k : Nat) : iota (k + 1) = iota k ++ [(k : Int)] := by simp [iota, List.range_succ]
theorem J4t (n : Nat) : (iota n).Pairwise (· < ·) := by
 unfold iota
 rw [List.pairwise_map]
 exact List.pairwise_lt_range.imp fun h => by omega
def AscOf (p : Int → Prop) (l : List Int) : Prop := l.Pairwise (· < ·) ∧ ∀ x, x ∈ l ↔ p x
theorem AscOf.uniq {p : Int → Prop} {l l' : List Int} (h : AscOf p l) (k : AscOf p l') : l = l' := by
  have key : ∀ l l' : List Int, l.Pairwise (· < ·) → l'.Pairwise (· < ·) → (∀ x, x ∈ l ↔ x ∈ l') → l = l' := by
    intro l
    induction l with
    | nil =>
      intro l' _ _ hm
      cases l' with
      | nil => rfl
      | cons b l' => exact absurd ((hm b).2 (by simp)) (by simp)
    | cons a l ih =>
      intro l' h1 h2 hm
      cases l' with
      | nil => exact absurd ((hm a).1 (by simp)) (by simp)
      | cons b l' =>
        rw [List.pairwise_cons] at h1 h2
        have hab : a = b := by
          have ha := (hm a).1 (by simp)
          have hb := (hm b).2 (by simp)
          rcases List.mem_cons.1 ha with e | ha
          · exact e
          · rcases List.mem_cons.1 hb with e | hb
            · exact e.symm
            · have := h1.1 b hb; have := h2.1 a ha; omega
        subst hab
        rw [ih l' h1.2 h2.2 fun x => ?_]
        constructor
        · intro hx
          rcases List.mem_cons.1 ((hm x).1 (by simp [hx])) with e | hx'
          · have := h1.1 x hx; omega
          · exact hx'
        · intro hx
          rcases List.mem_cons.1 ((hm x).2 (by simp [hx])) with e | hx'
          · have := h2.1 x hx; omega
          · exact hx'
  exact key l l' h.1 k.1 fun x => (h.2 x).trans (k.2 x).symm
theorem AscOf.nodup {p : Int → Prop} {l : List Int} (h : AscOf p l) : l.Nodup := h.1.imp fun hlt => Int.ne_of_lt hlt
theorem AscOf.all {p : Int → Prop} {l : List Int} {n : Nat} (h : AscOf p l) (hp : ∀ x, p x → 0 ≤ x ∧ x < (n : Int)) (hl : l.length = n) {x : Int} (hx : 0 ≤ x ∧ x < (n : Int)) : p x := by
 rw [← h.2]
 refine Classical.byContradiction fun hn => ?_
 have h1 : (x :: l).Nodup := List.nodup_cons.2 ⟨hn, h.nodup⟩
 have := J5j h1 (n := n) fun y hy => by
  rcases List.mem_cons.1 hy with e | hy
  ·subst e; exact hx
  ·exact hp y ((h.2 y).1 hy)
 simp at this; omega
structure GI (t : List (List Int)) (G : List Int) (b : List Bool) : Prop where
 len : b.length = t.length
 gen : ∀ x ∈ G, ix b x = true
 clo : ∀ x : Int, 0 ≤ x → x < t.length → ix b x = true → Clo t G x
end Sg
namespace Sg
open Go
set_option linter.unusedVariables false
set_option linter.unusedSimpArgs false
structure DI (p : Int → Bool) (n i j : Nat) (s : List Int) : Prop where
 len : s.length = n
 ij : i ≤ j
 jn : j ≤ n
 hd : s.take i = (iota j).filter p
 tl : ∀ k : Nat, j ≤ k → k < n → ix s (k : Int) = k
theorem DI.start {p : Int → Bool} {n k : Nat} (hk : k < n) (h : ∀ j : Nat, j < k → p j = true) (hn : p k = false) : DI p n k (k + 1) (iota n) := by
 refine ⟨by simp, by omega, by omega, ?_, fun m _ hm => J4s hm⟩
 have e1 : (iota n).take k = iota k := by
  unfold iota; rw [← List.map_take, List.take_range, Nat.min_eq_left (by omega)]
 rw [e1, J1y, List.filter_append, List.filter_eq_self.2 fun x hx => ?_]
 ·simp [hn]
 ·obtain ⟨h0, h1⟩ := J0n.1 hx
  obtain ⟨m, rfl⟩ := Int.eq_ofNat_of_zero_le h0
  exact h m (by omega)
theorem DI.drop {p : Int → Bool} {n i j : Nat} {s : List Int} (h : DI p n i j s) (hj : j < n) (hp : p j = false) : DI p n i (j + 1) s :=
 ⟨h.len, by have := h.ij; omega, by omega, by rw [h.hd, J1y, List.filter_append]; simp [hp], fun k hk hkn => h.tl k (by omega) hkn⟩
theorem DI.keep {p : Int → Bool} {n i j : Nat} {s : List Int} (h : DI p n i j s) (hj : j < n) (hp : p j = true) : DI p n (i + 1) (j + 1) (st s (i : Int) (ix s (j : Int))) := by
 have hij := h.ij
 have hl := h.len
 refine ⟨by simpa using hl, by omega, by omega, ?_, fun k hk hkn => ?_⟩
 ·rw [h.tl j (Nat.le_refl _) hj, J1y, List.filter_append, ← h.hd]
  simp only [st, Int.toNat_natCast]
  rw [List.take_set, List.take_succ_eq_append_getElem (by omega), List.set_append_right _ _ (by simp; omega)]
  have h5 : i - min i s.length = 0 := by omega
  simp [hp, h5]
 ·rw [ix_st _ (by omega) (by omega) (by omega), if_neg (by omega)]
  exact h.tl k (by omega) hkn
theorem DI.fin {p : Int → Bool} {n i : Nat} {s : List Int} (h : DI p n i n s) (q : List Int) : (s.take i ++ q).take i = (iota n).filter p := by
 have := h.ij
 have := h.len
 rw [List.take_append_of_le_length (by simp; omega), List.take_take, Nat.min_self, h.hd]
theorem exRP {t : List (List Int)} {n : Nat} (T : Tb t n) {x : Int} (hx : 0 ≤ x ∧ x < n) : ∃ a m, RP (pow t x) a m := by
 obtain ⟨a, b, hab, _, he⟩ := pigeon n (pow t x) fun k _ => J4N T hx k
 obtain ⟨m, ⟨a', ha', he'⟩, hm, hmin⟩ := J6E (fun m => ∃ a, a < m ∧ pow t x m = pow t x a) b ⟨a, hab, he.symm⟩
 exact ⟨a', m, ha', he', fun i j hij hj hh => hmin j hj ⟨i, hij, hh.symm⟩⟩
end Sg
namespace Sg
open Go
set_option linter.unusedVariables false
set_option linter.unusedSimpArgs false
end Sg
namespace Sg
open Go
set_option linter.unusedVariables false
set_option linter.unusedSimpArgs false
structure CL (t : List (List Int)) (n : Nat) (G L : List Int) (mk : List Bool) : Prop where
 mi : MI t n G L mk
 gen : ∀ h ∈ G, h ∈ L
 rt : ∀ x ∈ L, ∀ h ∈ G, mu t x h ∈ L
theorem CL.all {t : List (List Int)} (hv : VT t = true) {G L : List Int} {mk : List Bool} (h : CL t t.length G L mk) (x : Int) : x ∈ L ↔ Clo t G x := by
  have T := SH.tb (VT.sh hv)
  have hG : ∀ y ∈ G, 0 ≤ y ∧ y < (t.length : Int) := fun y hy => h.mi.inn y (h.gen y hy)
  refine ⟨h.mi.clo x, fun hx => ?_⟩
  have mulr : ∀ z, Clo t G z → ∀ y ∈ L, mu t y z ∈ L := fun z hz => by
    induction hz with
    | gen hg => exact fun y hy => h.rt y hy _ hg
    | mul h1 h2 i1 i2 =>
      intro y hy
      rw [← (VT.as hv).all (h.mi.inn y hy) (h1.in_ T hG) (h2.in_ T hG)]
      exact i2 _ (i1 y hy)
  induction hx with
  | gen hg => exact h.gen _ hg
  | mul h1 h2 i1 i2 => exact mulr _ h2 _ i1
structure GS (t : List (List Int)) (n : Nat) (G : List Int) (g : Int) (L0 : List Int) (i : Nat) (L : List Int) (mk : List Bool) : Prop where
 mi : MI t n (G ++ [g]) L mk
 pre : ∃ r, L = L0 ++ g :: r
 le : i ≤ L.length
 old : ∀ a : Nat, a < i → a < L0.length → mu t (ix L a) g ∈ L
 new : ∀ a : Nat, a < i → L0.length ≤ a → ∀ h ∈ G ++ [g], mu t (ix L a) h ∈ L
theorem GS.start {t : List (List Int)} {n : Nat} {G : List Int} {g : Int} {L0 : List Int} {mk : List Bool} (h : CL t n G L0 mk) (h0 : 0 ≤ g) (h1 : g < n) (hg : ¬ ix mk g = true) : GS t n G g L0 0 (L0 ++ [g]) (st mk g true) :=
 ⟨(h.mi.mono fun x hx => List.mem_append_left _ hx).add h0 h1 (.gen (by simp)) hg, ⟨[], rfl⟩, Nat.zero_le _, fun a ha => absurd ha (Nat.not_lt_zero _), fun a ha => absurd ha (Nat.not_lt_zero _)⟩
theorem J7i {α : Type} [Inhabited α] {L r : List α} {a : Nat} (h : a < L.length) : ix (L ++ r) (a : Int) = ix L (a : Int) := by
 rw [ix_lt (by simp; omega), ix_lt h, List.getElem_append_left]
theorem GS.fin {t : List (List Int)} {n : Nat} {G : List Int} {g : Int} {L0 L : List Int} {mk0 mk : List Bool} (h0 : CL t n G L0 mk0) (h : GS t n G g L0 L.length L mk) : CL t n (G ++ [g]) L mk := by
 obtain ⟨r, hr⟩ := h.pre
 have sub : ∀ x ∈ L0, x ∈ L := fun x hx => by rw [hr]; simp [hx]
 refine ⟨h.mi, fun y hy => ?_, fun x hx y hy => ?_⟩
 ·rcases List.mem_append.1 hy with hy | hy
  ·exact sub y (h0.gen y hy)
  ·rw [List.mem_singleton] at hy; subst hy; rw [hr]; simp
 ·obtain ⟨a, ha, rfl⟩ := J4h.1 hx
  by_cases hal : a < L0.length
  ·rcases List.mem_append.1 hy with hy | hy
   ·have e1 : ix L (a : Int) = ix L0 (a : Int) := by rw [hr]; exact J7i hal
    rw [e1]
    exact sub _ (h0.rt _ (J0R (by omega) (by omega)) y hy)
   ·rw [List.mem_singleton] at hy; subst hy; exact h.old a ha hal
  ·exact h.new a ha (by omega) y hy
theorem GS.mem {t : List (List Int)} {n : Nat} {G : List Int} {g : Int} {L0 : List Int} {i : Nat} {L : List Int} {mk : List Bool} (h : GS t n G g L0 i L mk) {x : Int} (x0 : 0 ≤ x) (x1 : x < n) (hx : ix mk x = true) : x ∈ L := by
 obtain ⟨m, rfl⟩ := Int.eq_ofNat_of_zero_le x0
 exact (h.mi.mkd m (by omega)).1 hx
end Sg
namespace Sg
open Go
set_option linter.unusedVariables false
set_option linter.unusedSimpArgs false
def oRow (t : List (List Int)) (x : Nat) : List Int := t.map fun row => ix row (x : Int)
def opp (t : List (List Int)) : List (List Int) := (List.range t.length).map (oRow t)
@[simp] theorem J7u {t : List (List Int)} {x : Nat} : (oRow t x).length = t.length := by simp [oRow]
@[simp] theorem J2t {t : List (List Int)} : (opp t).length = t.length := by simp [opp]
theorem J6P {t : List (List Int)} {x : Nat} (h : x < t.length) : ix (opp t) (x : Int) = oRow t x := by
 rw [ix_lt (by simpa using h)]; simp [opp]
theorem J76 {t : List (List Int)} {x y : Nat} (h : y < t.length) : ix (oRow t x) (y : Int) = ix (ix t (y : Int)) (x : Int) := by
 unfold oRow; rw [J0V _ (by omega) (by omega)]
theorem J2N {t : List (List Int)} {x y : Nat} (hx : x < t.length) (hy : y < t.length) : mu (opp t) x y = mu t y x := by
 unfold mu; rw [J6P hx, J76 hy]
def aRows (t : List (List Int)) (k : Nat) : List (List Int) := (List.range k).map fun (x : Nat) => ix t (x : Int) ++ [(x : Int)]
def adj (t : List (List Int)) : List (List Int) := aRows t t.length ++ [iota t.length ++ [(t.length : Int)]]
@[simp] theorem J7j {t : List (List Int)} (k : Nat) : (aRows t k).length = k := by simp [aRows]
@[simp] theorem J7v {t : List (List Int)} : (adj t).length = t.length + 1 := by simp [adj]
end Sg
namespace Sg
open Go
set_option linter.unusedVariables false
set_option linter.unusedSimpArgs false
theorem VT_of {t : List (List Int)} (h1 : 1 ≤ t.length) (h2 : t.length ≤ 400) (hr : ∀ x : Nat, x < t.length → (ix t (x : Int)).length = t.length) (he : ∀ x y : Nat, x < t.length → y < t.length → 0 ≤ mu t x y ∧ mu t x y < t.length) (ha : AS t) : VT t = true := by
 have hs : SH t = true := J4K.2 ⟨h1, h2, fun j hj => J29.2 ⟨hr j hj, fun i hi => he j i hj (by rw [← hr j hj]; exact hi)⟩⟩
 simp only [VT, hs, Bool.true_and, decide_eq_true_eq]; exact ha
theorem J6L {t : List (List Int)} (T : Tb t t.length) {x y : Nat} (hx : x < t.length) (hy : y < t.length) : ∃ z : Nat, z < t.length ∧ mu t x y = z := by
 have := T.mu (x := x) (y := y) (by omega) (by omega) (by omega) (by omega)
 exact ⟨(mu t x y).toNat, by omega, by omega⟩
theorem J7r {t : List (List Int)} (hv : VT t = true) : VT (opp t) = true := by
 have T := SH.tb (VT.sh hv)
 have n1 := T.n1
 have n4 := T.n4
 refine VT_of (by simpa using n1) (by simpa using n4) (fun x hx => ?_) (fun x y hx hy => ?_) fun x y z hx hy hz => ?_
 ·rw [J2t] at hx ⊢
  rw [J6P hx]; simp
 ·rw [J2t] at hx hy ⊢
  rw [J2N hx hy]
  exact T.mu (by omega) (by omega) (by omega) (by omega)
 ·rw [J2t] at hx hy hz
  obtain ⟨a, ha, ea⟩ := J6L T hy hx
  obtain ⟨b, hb, eb⟩ := J6L T hz hy
  rw [J2N hx hy, J2N hy hz, ea, eb, J2N ha hz, J2N hx hb, ← ea, ← eb]
  exact (VT.as hv z y x hz hy hx).symm
section
variable {t u : List (List Int)} (T : Tb t t.length) (U : Tb u u.length)
include T U
end
end Sg
namespace Sg
open Go
set_option linter.unusedVariables false
set_option linter.unusedSimpArgs false
end Sg
namespace Sg
open Go
set_option linter.unusedVariables false
set_option linter.unusedSimpArgs false
def posR (s : List Int) : Nat → Int → Int
 | 0, _ => -1
 | k + 1, x => if x = ix s (k : Int) then (k : Int) else posR s k x
def subRow (t : List (List Int)) (s : List Int) (i : Int) : List Int := (iota s.length).map fun j => posR s s.length (mu t (ix s i) (ix s j))
def subTab (t : List (List Int)) (s : List Int) : List (List Int) := (iota s.length).map (subRow t s)
@[simp] theorem J7d {t : List (List Int)} {s : List Int} {i : Int} : (subRow t s i).length = s.length := by simp [subRow]
@[simp] theorem J7c {t : List (List Int)} {s : List Int} : (subTab t s).length = s.length := by simp [subTab]
theorem J67 {t : List (List Int)} {s : List Int} {i : Nat} (h : i < s.length) : ix (subTab t s) (i : Int) = subRow t s i := by
 unfold subTab
 rw [J0V _ (by omega) (by simpa using h), J4s h]
theorem J5Q {t : List (List Int)} {s : List Int} {i : Int} {j : Nat} (h : j < s.length) : ix (subRow t s i) (j : Int) = posR s s.length (mu t (ix s i) (ix s (j : Int))) := by
 unfold subRow
 rw [J0V _ (by omega) (by simpa using h), J4s h]
def subCl (t : List (List Int)) (s : List Int) : Prop := ∀ i j : Nat, i < s.length → j < s.length → 0 ≤ posR s s.length (mu t (ix s (i : Int)) (ix s (j : Int)))
def ascP (s : List Int) : Prop := ∀ q : Nat, q + 1 < s.length → ix s (q : Int) < ix s ((q + 1 : Nat) : Int)
def subOk (t : List (List Int)) (s : List Int) : Prop := 0 < s.length ∧ inB t.length s = true ∧ ascP s
open Classical in
noncomputable def subE (t : List (List Int)) (s : List Int) : Int := if VT t = true then (if subOk t s then (if subCl t s then 0 else 9) else 1) else vaC t
open Classical in
noncomputable def subT (t : List (List Int)) (s : List Int) : List (List Int) := if VT t = true ∧ subOk t s ∧ subCl t s then subTab t s else []
theorem J53 {t : List (List Int)} {s : List Int} {K : List (List Int) → Int → Prop} (hv : VT t = true) (h : K (subT t s) (subE t s)) (hb : ¬ subOk t s) : K [] 1 := by
 unfold subT subE at h
 rw [if_neg fun hh => hb hh.2.1, if_pos hv, if_neg hb] at h
 exact h
theorem J6v {t : List (List Int)} {s : List Int} {K : List (List Int) → Int → Prop} (hv : VT t = true) (h : K (subT t s) (subE t s)) (hb : subOk t s) (hc : ¬ subCl t s) : K [] 9 := by
 unfold subT subE at h
 rw [if_neg fun hh => hc hh.2.2, if_pos hv, if_pos hb, if_neg hc] at h
 exact h
theorem J6p {t : List (List Int)} {s : List Int} {K : List (List Int) → Int → Prop} (hv : VT t = true) (h : K (subT t s) (subE t s)) (hb : subOk t s) (hc : subCl t s) : K (subTab t s) 0 := by
 unfold subT subE at h
 rw [if_pos ⟨hv, hb, hc⟩, if_pos hv, if_pos hb, if_pos hc] at h
 exact h
theorem J7s {s : List Int} (h : ascP s) {n : Nat} (hs : ∀ x ∈ s, 0 ≤ x ∧ x < (n : Int)) : s.length ≤ n := by
 have key : ∀ k : Nat, k < s.length → (k : Int) ≤ ix s (k : Int) := by
  intro k
  induction k with
  | zero => intro hk; exact (hs _ (J0R (by omega) (by omega))).1
  | succ k ih => intro hk; have := ih (by omega); have := h k hk; omega
 rcases Nat.eq_zero_or_pos s.length with h0 | h0
 ·omega
 ·have := key (s.length - 1) (by omega)
  have := (hs _ (J0R (xs := s) (i := ((s.length - 1 : Nat) : Int)) (by omega) (by omega))).2
  omega
theorem J5d {t : List (List Int)} {s : List Int} {K : List (List Int) → Int → Prop} (h : K (subT t s) (subE t s)) : J38 t s K := by
 unfold J38
 refine J1I ?_
 split
 ·rename_i h0
  have hv := vaC0.1 h0
  have T := SH.tb (VT.sh hv)
  have n4 := T.n4
  intro hmx
  unfold mx at hmx
  split
  ·exact J53 hv h fun hh => by have := hh.1; omega
  rename_i hs0
  refine J1Q ?_
  split
  ·rename_i hin
   have hin' := J54.1 hin
   refine fun _ => ⟨by omega, by omega, ?_⟩
   refine LoopWP.fold t.length (fun k (d : List Int) => d.length = t.length ∧ ∀ x : Nat, x < k → ix d (x : Int) = -1) ⟨by simp, fun x hx => absurd hx (Nat.not_lt_zero _)⟩ ?_
   rintro k d X hk ⟨hl, hI⟩ hX
   show J2T t s K _ k d
   unfold J2T
   rw [List.length_replicate]
   split
   ·refine ⟨by omega, by omega, ⟨by omega, by omega⟩, hX _ (by omega) ⟨by simpa using hl, fun x hx => ?_⟩⟩
    rw [ix_st _ (by omega) (by omega) (by omega)]
    split
    ·rfl
    ·exact hI x (by omega)
   have hkt : k = t.length := by omega
   subst hkt
   refine LoopWP.fold s.length (fun k (d : List Int) => (∀ q : Nat, q + 1 < k → ix s (q : Int) < ix s ((q + 1 : Nat) : Int)) ∧ d.length = t.length ∧ ∀ x : Nat, x < t.length → ix d (x : Int) = posR s k x) ⟨fun q hq => absurd hq (Nat.not_lt_zero _), hl, fun x hx => hI x hx⟩ ?_
   rintro k d X2 hk2 ⟨hA, hl, hI⟩ hX2
   show J30 t s K _ k d
   unfold J30
   split
   ·have hkl : k < s.length := by omega
    have hsk := hin' _ (J0R (xs := s) (i := (k : Int)) (by omega) (by omega))
    have nxt : (∀ q : Nat, q + 1 < k + 1 → ix s (q : Int) < ix s ((q + 1 : Nat) : Int)) → X2 (k + 1, st d (ix s (k : Int)) (k : Int)) := fun hA' => by
     refine hX2 _ hkl ⟨hA', by simpa using hl, fun x hx => ?_⟩
     rw [ix_st _ hsk.1 (by omega) (by omega)]
     unfold posR
     split
     ·rfl
     ·exact hI x hx
    refine ⟨by omega, by omega, ?_⟩
    split
    ·rename_i hk0
     refine ⟨⟨by omega, by omega⟩, by omega, by omega, ?_⟩
     have ek : (k : Int) - 1 = ((k - 1 : Nat) : Int) := by omega
     rw [ek]
     have ek2 : k - 1 + 1 = k := by omega
     split
     ·rename_i hle
      refine J53 hv h fun hh => ?_
      have := hh.2.2 (k - 1) (by omega)
      rw [ek2] at this
      omega
     ·rename_i hle
      refine ⟨hsk.1, by omega, nxt fun q hq => ?_⟩
      by_cases hqk : q = k - 1
      ·subst hqk; rw [ek2]; omega
      ·exact hA q (by omega)
    ·exact ⟨hsk.1, by omega, nxt fun q hq => by omega⟩
   have hkt : k = s.length := by omega
   subst hkt
   have hok : subOk t s := ⟨by omega, hin, hA⟩
   have hst := J7s hA hin'
   refine ⟨by omega, by omega, ?_⟩
   refine LoopWP.fold s.length (fun k (d2 : List (List Int)) => d2.length = s.length ∧ (∀ i : Nat, i < k → ix d2 (i : Int) = subRow t s i) ∧ ∀ i j : Nat, i < k → j < s.length → 0 ≤ posR s s.length (mu t (ix s (i : Int)) (ix s (j : Int)))) ⟨by simp, fun i hi => absurd hi (Nat.not_lt_zero _), fun i j hi => absurd hi (Nat.not_lt_zero _)⟩ ?_
   rintro k d2 X3 hk3 ⟨hl2, hR, hC⟩ hX3
   show J2S t s d K _ k d2
   unfold J2S
   split
   ·have hkl : k < s.length := by omega
    have hsk := hin' _ (J0R (xs := s) (i := (k : Int)) (by omega) (by omega))
    refine ⟨by omega, by omega, by omega, by omega, by omega, by omega, ?_⟩
    refine LoopWP.fold s.length (fun m (d3 : List (List Int)) => d3.length = s.length ∧ (∀ i : Nat, i < k → ix d3 (i : Int) = subRow t s i) ∧ (ix d3 (k : Int)).length = s.length ∧ ∀ j : Nat, j < m → ix (ix d3 (k : Int)) (j : Int) = posR s s.length (mu t (ix s (k : Int)) (ix s (j : Int))) ∧ 0 ≤ posR s s.length (mu t (ix s (k : Int)) (ix s (j : Int))))
     ⟨by simpa using hl2, fun i hi => ?_, ?_, fun j hj => absurd hj (Nat.not_lt_zero _)⟩ ?_
    ·rw [ix_st _ (by omega) (by omega) (by omega), if_neg (by omega)]; exact hR i hi
    ·rw [ix_st _ (by omega) (by omega) (by omega), if_pos rfl]; simp
    rintro m d3 X4 hm ⟨hl3, hR3, hrl, hJ⟩ hX4
    show J2Q t s d k _ K _ m d3
    unfold J2Q
    split
    ·have hml : m < s.length := by omega
     have hsm := hin' _ (J0R (xs := s) (i := (m : Int)) (by omega) (by omega))
     have r1 := T.row _ hsk.1 hsk.2
     have m1 := T.mu hsk.1 hsk.2 hsm.1 hsm.2
     obtain ⟨z, hz⟩ := Int.eq_ofNat_of_zero_le m1.1
     have hp := hI z (by omega)
     have e1 : ix d (ix (ix t (ix s (k : Int))) (ix s (m : Int))) = posR s s.length (mu t (ix s (k : Int)) (ix s (m : Int))) := by
      show ix d (mu t (ix s (k : Int)) (ix s (m : Int))) = _
      rw [hz]; exact hp
     have e2 : ix (st d3 (k : Int) (st (ix d3 (k : Int)) (m : Int) (posR s s.length (mu t (ix s (k : Int)) (ix s (m : Int)))))) (k : Int) = st (ix d3 (k : Int)) (m : Int) (posR s s.length (mu t (ix s (k : Int)) (ix s (m : Int)))) := by
      rw [ix_st _ (by omega) (by omega) (by omega), if_pos rfl]
     have e3 : ix (st (ix d3 (k : Int)) (m : Int) (posR s s.length (mu t (ix s (k : Int)) (ix s (m : Int))))) (m : Int) = posR s s.length (mu t (ix s (k : Int)) (ix s (m : Int))) := by
      rw [ix_st _ (by omega) (by omega) (by omega), if_pos rfl]
     rw [e1, e2, e3]
     unfold mu at m1
     refine ⟨by omega, by omega, by omega, by omega, hsk.1, hsk.2, hsm.1, by omega, m1.1, by omega, by omega, by omega, by omega, by simp; omega, by omega, by simp; omega, ?_⟩
     split
     ·rename_i hneg
      exact J6v hv h hok fun hc => by have := hc k m hkl hml; omega
     ·rename_i hneg
      refine hX4 _ hml ⟨by simpa using hl3, fun i hi => ?_, ?_, fun j hj => ?_⟩
      ·rw [ix_st _ (by omega) (by omega) (by omega), if_neg (by omega)]; exact hR3 i hi
      ·rw [e2]; simpa using hrl
      ·rw [e2]
       by_cases hjm : j = m
       ·subst hjm; exact ⟨e3, by omega⟩
       ·rw [ix_st _ (by omega) (by omega) (by omega), if_neg (by omega)]; exact hJ j (by omega)
    ·have hmt : m = s.length := by omega
     subst hmt
     refine hX3 _ hkl ⟨hl3, fun i hi => ?_, fun i j hi hj => ?_⟩
     ·by_cases hik : i = k
      ·subst hik
       exact J22 (by simpa using hrl) fun j hj => by rw [J5Q (by omega)]; exact (hJ j (by omega)).1
      ·exact hR3 i (by omega)
     ·by_cases hik : i = k
      ·subst hik; exact (hJ j hj).2
      ·exact hC i j (by omega) hj
   ·have hkt : k = s.length := by omega
    subst hkt
    have : d2 = subTab t s := J22 (by simpa using hl2) fun i hi => by rw [J67 (by omega)]; exact hR i (by omega)
    rw [this]
    exact J6p hv h hok fun i j hi hj => hC i j hi hj
  ·rename_i hin
   exact J53 hv h fun hh => hin hh.2.1
 ·rename_i h0
  have hv : ¬ VT t = true := fun hv => h0 (vaC0.2 hv)
  unfold subT subE at h
  rw [if_neg fun hh => hv hh.1, if_neg hv] at h
  exact h
end Sg
namespace Sg
open Go
set_option linter.unusedVariables false
set_option linter.unusedSimpArgs false
theorem J4R {s : List Int} {x : Int} : ∀ k : Nat, 0 ≤ posR s k x → ∃ q : Nat, q < k ∧ ix s (q : Int) = x ∧ posR s k x = q
  | 0, h => by unfold posR at h; omega
  | k + 1, h => by
    unfold posR at h ⊢
    split
    · rename_i he; exact ⟨k, by omega, he.symm, rfl⟩
    · rename_i he
      rw [if_neg he] at h
      obtain ⟨q, hq, e, e2⟩ := J4R k h
      exact ⟨q, by omega, e, e2⟩
theorem J5w {s : List Int} {x : Int} : ∀ k : Nat, (∃ q : Nat, q < k ∧ ix s (q : Int) = x) → 0 ≤ posR s k x
  | 0, ⟨q, hq, _⟩ => absurd hq (Nat.not_lt_zero _)
  | k + 1, ⟨q, hq, e⟩ => by
    unfold posR
    split
    · omega
    · rename_i he
      refine J5w k ⟨q, ?_, e⟩
      by_cases hqk : q = k
      · subst hqk; exact absurd e.symm he
      · omega
theorem J5L {s : List Int} {x : Int} : 0 ≤ posR s s.length x ↔ x ∈ s := by
 rw [J4h]
 exact ⟨fun h => let ⟨q, hq, e, _⟩ := J4R _ h; ⟨q, hq, e⟩, J5w _⟩
end Sg
namespace Sg
open Go
set_option linter.unusedVariables false
set_option linter.unusedSimpArgs false
def CanP (p : List Int) : Prop := ∀ k : Nat, k < p.length → 0 ≤ ix p (k : Int) ∧ ∀ v : Int, 0 ≤ v → v < ix p (k : Int) → ∃ j : Nat, j < k ∧ ix p (j : Int) = v
structure IsCan {κ : Type} [Inhabited κ] (p : List Int) (l : List κ) : Prop where
 len : p.length = l.length
 can : CanP p
 ker : ∀ i j : Nat, i < l.length → j < l.length → (ix p (i : Int) = ix p (j : Int) ↔ ix l (i : Int) = ix l (j : Int))
theorem IsCan.uniq {κ κ' : Type} [Inhabited κ] [Inhabited κ'] {p q : List Int} {l : List κ} {m : List κ'} (hp : IsCan p l) (hq : IsCan q m) (hl : l.length = m.length)
    (hk : ∀ i j : Nat, i < l.length → j < l.length → (ix l (i : Int) = ix l (j : Int) ↔ ix m (i : Int) = ix m (j : Int))) : p = q := by
  refine J22 (by rw [hp.len, hq.len, hl]) fun k hkl => ?_
  have hkl' : k < l.length := by rw [← hp.len]; exact hkl
  clear hkl
  induction k using Nat.strongRecOn with
  | _ k ih =>
    have ihk : ∀ j : Nat, j < k → ix p (j : Int) = ix q (j : Int) := fun j hj => ih j hj (by omega)
    obtain ⟨p0, p1⟩ := hp.can k (by rw [hp.len]; exact hkl')
    obtain ⟨q0, q1⟩ := hq.can k (by rw [hq.len]; omega)
    have step : ∀ j : Nat, j < k → (ix p (j : Int) = ix p (k : Int) ↔ ix q (j : Int) = ix q (k : Int)) := fun j hj => by
      rw [hp.ker j k (by omega) hkl', hk j k (by omega) hkl', hq.ker j k (by omega) (by omega)]
    rcases Int.lt_trichotomy (ix p (k : Int)) (ix q (k : Int)) with h | h | h
    · obtain ⟨j, hj, he⟩ := q1 _ p0 h
      have h1 := (step j hj).1 (by rw [ihk j hj]; exact he)
      omega
    · exact h
    · obtain ⟨j, hj, he⟩ := p1 _ q0 h
      have h1 := (step j hj).2 (by rw [← ihk j hj]; exact he)
      omega
theorem IsCan.self {p : List Int} (h : CanP p) : IsCan p p := ⟨rfl, h, fun _ _ _ _ => Iff.rfl⟩
structure CN {κ : Type} [Inhabited κ] [DecidableEq κ] (l : List κ) (k : Nat) (m : List (κ × Int)) (p : List Int) : Prop where
 len : p.length = l.length
 has : ∀ x, mhas m x = true ↔ ∃ j : Nat, j < k ∧ ix l (j : Int) = x
 at_ : ∀ j : Nat, j < k → ix p (j : Int) = mgt m (ix l (j : Int))
 lo : ∀ j : Nat, j < k → 0 ≤ ix p (j : Int) ∧ ix p (j : Int) < (m.length : Int)
 inj : ∀ i j : Nat, i < k → j < k → ix p (i : Int) = ix p (j : Int) → ix l (i : Int) = ix l (j : Int)
 all : ∀ v : Int, 0 ≤ v → v < (m.length : Int) → ∃ j : Nat, j < k ∧ ix p (j : Int) = v
 can : ∀ q : Nat, q < k → ∀ v : Int, 0 ≤ v → v < ix p (q : Int) → ∃ j : Nat, j < q ∧ ix p (j : Int) = v
 le : m.length ≤ k
section
variable {κ : Type} [Inhabited κ] [DecidableEq κ] {l : List κ}
theorem CN.start : CN l 0 ([] : List (κ × Int)) (List.replicate l.length 0) := ⟨by simp, fun x => by simp [mhas], fun j hj => by omega, fun j hj => by omega, fun i j hi => by omega, fun v h0 h1 => by simp at h1; omega, fun q hq => by omega, by simp⟩
theorem CN.fin {m : List (κ × Int)} {p : List Int} (h : CN l l.length m p) : IsCan p l :=
 ⟨h.len, fun k hk => ⟨(h.lo k (by rw [← h.len]; exact hk)).1, h.can k (by rw [← h.len]; exact hk)⟩, fun i j hi hj => ⟨h.inj i j hi hj, fun he => by rw [h.at_ i hi, h.at_ j hj, he]⟩⟩
theorem CN.old {k : Nat} {m : List (κ × Int)} {p : List Int} (h : CN l k m p) (hk : k < l.length) (hx : mhas m (ix l (k : Int)) = true) : CN l (k + 1) m (st p (k : Int) (mgt m (ix l (k : Int)))) := by
 obtain ⟨i, hi, he⟩ := (h.has _).1 hx
 have e : ∀ j : Nat, ix (st p (k : Int) (mgt m (ix l (k : Int)))) (j : Int) = if j = k then mgt m (ix l (k : Int)) else ix p (j : Int) := fun j => by
  rw [ix_st _ (by omega) (by rw [h.len]; omega) (by omega)]
  by_cases hj : j = k
  ·rw [if_pos (by omega), if_pos hj]
  ·rw [if_neg (by omega), if_neg hj]
 have hi' : mgt m (ix l (k : Int)) = ix p (i : Int) := by rw [h.at_ i hi, he]
 refine ⟨by simpa using h.len, fun x => ?_, fun j hj => ?_, fun j hj => ?_, fun a b ha hb hab => ?_, fun v h0 h1 => ?_, fun q hq v h0 h1 => ?_, by have := h.le; omega⟩
 ·rw [h.has]
  constructor
  ·rintro ⟨j, hj, hh⟩; exact ⟨j, by omega, hh⟩
  ·rintro ⟨j, hj, hh⟩
   by_cases hjk : j = k
   ·subst hjk; exact ⟨i, hi, he.trans hh⟩
   ·exact ⟨j, by omega, hh⟩
 ·rw [e]
  by_cases hjk : j = k
  ·rw [if_pos hjk, hjk]
  ·rw [if_neg hjk]; exact h.at_ j (by omega)
 ·rw [e]
  by_cases hjk : j = k
  ·rw [if_pos hjk, hi']; exact h.lo i hi
  ·rw [if_neg hjk]; exact h.lo j (by omega)
 ·rw [e, e] at hab
  by_cases hak : a = k
  ·by_cases hbk : b = k
   ·rw [hak, hbk]
   ·rw [if_pos hak, if_neg hbk, hi'] at hab
    rw [hak, ← he]; exact h.inj i b hi (by omega) hab
  ·by_cases hbk : b = k
   ·rw [if_neg hak, if_pos hbk, hi'] at hab
    rw [hbk, ← he]; exact h.inj a i (by omega) hi hab
   ·rw [if_neg hak, if_neg hbk] at hab
    exact h.inj a b (by omega) (by omega) hab
 ·obtain ⟨j, hj, hv⟩ := h.all v h0 h1
  exact ⟨j, by omega, by rw [e, if_neg (by omega)]; exact hv⟩
 ·rw [e] at h1
  by_cases hqk : q = k
  ·rw [if_pos hqk, hi'] at h1
   obtain ⟨j, hj, hv⟩ := h.can i hi v h0 h1
   exact ⟨j, by omega, by rw [e, if_neg (by omega)]; exact hv⟩
  ·rw [if_neg hqk] at h1
   obtain ⟨j, hj, hv⟩ := h.can q (by omega) v h0 h1
   exact ⟨j, by omega, by rw [e, if_neg (by omega)]; exact hv⟩
theorem CN.new {k : Nat} {m : List (κ × Int)} {p : List Int} (h : CN l k m p) (hk : k < l.length) (hx : ¬ mhas m (ix l (k : Int)) = true) : CN l (k + 1) (mput m (ix l (k : Int)) (m.length : Int)) (st p (k : Int) (m.length : Int)) := by
 have e : ∀ j : Nat, ix (st p (k : Int) (m.length : Int)) (j : Int) = if j = k then (m.length : Int) else ix p (j : Int) := fun j => by
  rw [ix_st _ (by omega) (by rw [h.len]; omega) (by omega)]
  by_cases hj : j = k
  ·rw [if_pos (by omega), if_pos hj]
  ·rw [if_neg (by omega), if_neg hj]
 have hn : ∀ j : Nat, j < k → ¬ ix l (j : Int) = ix l (k : Int) := fun j hj hh => hx ((h.has _).2 ⟨j, hj, hh⟩)
 have hlen : (mput m (ix l (k : Int)) (m.length : Int)).length = m.length + 1 := by rw [J6C, if_neg hx]
 refine ⟨by simpa using h.len, fun x => ?_, fun j hj => ?_, fun j hj => ?_, fun a b ha hb hab => ?_, fun v h0 h1 => ?_, fun q hq v h0 h1 => ?_, by have := h.le; omega⟩
 ·rw [J6x, Bool.or_eq_true, decide_eq_true_eq, h.has]
  constructor
  ·rintro (rfl | ⟨j, hj, hh⟩)
   ·exact ⟨k, by omega, rfl⟩
   ·exact ⟨j, by omega, hh⟩
  ·rintro ⟨j, hj, hh⟩
   by_cases hjk : j = k
   ·subst hjk; exact .inl hh.symm
   ·exact .inr ⟨j, by omega, hh⟩
 ·rw [e, J77]
  by_cases hjk : j = k
  ·rw [if_pos hjk, hjk, if_pos rfl]
  ·rw [if_neg hjk, if_neg (hn j (by omega))]; exact h.at_ j (by omega)
 ·rw [e, hlen]
  by_cases hjk : j = k
  ·rw [if_pos hjk]; omega
  ·rw [if_neg hjk]; have := h.lo j (by omega); omega
 ·rw [e, e] at hab
  by_cases hak : a = k
  ·by_cases hbk : b = k
   ·rw [hak, hbk]
   ·rw [if_pos hak, if_neg hbk] at hab
    have := h.lo b (by omega); omega
  ·by_cases hbk : b = k
   ·rw [if_neg hak, if_pos hbk] at hab
    have := h.lo a (by omega); omega
   ·rw [if_neg hak, if_neg hbk] at hab
    exact h.inj a b (by omega) (by omega) hab
 ·rw [hlen] at h1
  by_cases hv : v = (m.length : Int)
  ·exact ⟨k, by omega, by rw [e, if_pos rfl, hv]⟩
  ·obtain ⟨j, hj, hv⟩ := h.all v h0 (by omega)
   exact ⟨j, by omega, by rw [e, if_neg (by omega)]; exact hv⟩
 ·rw [e] at h1
  by_cases hqk : q = k
  ·rw [if_pos hqk] at h1
   obtain ⟨j, hj, hv⟩ := h.all v h0 h1
   exact ⟨j, by omega, by rw [e, if_neg (by omega)]; exact hv⟩
  ·rw [if_neg hqk] at h1
   obtain ⟨j, hj, hv⟩ := h.can q (by omega) v h0 h1
   exact ⟨j, by omega, by rw [e, if_neg (by omega)]; exact hv⟩
end
theorem J1Y {l : List Int} (hl : l.length ≤ 4096) {K : List Int → Prop} (h : ∀ p, IsCan p l → K p) : J09 l K := by
 unfold J09
 refine fun _ => ⟨by omega, by omega, LoopWP.fold l.length (fun k (s : List (Int × Int) × List Int) => CN l k s.1 s.2) CN.start ?_⟩
 rintro k ⟨m, p⟩ X hk hI hX
 show J0g l K _ k m p
 unfold J0g
 have hlen : p.length = l.length := hI.len
 split
 ·refine ⟨by omega, by omega, ?_⟩
  split
  ·rename_i hx
   exact ⟨by omega, by omega, hX _ (by omega) (hI.old (by omega) hx)⟩
  ·rename_i hx
   exact ⟨by omega, by omega, hX _ (by omega) (hI.new (by omega) hx)⟩
 ·obtain rfl : k = l.length := by omega
  exact h p hI.fin
theorem J2n {l : List Int} (hl : l.length ≤ 4096) {K : List Int → Prop} (h : ∀ p, IsCan p l → K p) : J0f l K := by
 unfold J0f
 intro _
 rw [if_neg (by omega)]
 exact J1Y hl h
def IsCnt (p : List Int) (c : Int) : Prop := 0 ≤ c ∧ ∀ v : Int, (0 ≤ v ∧ v < c) ↔ ∃ j : Nat, j < p.length ∧ ix p (j : Int) = v
theorem J6I {p : List Int} (hp : CanP p) {c : Int} (h0 : 0 ≤ c) (hlt : ∀ j : Nat, j < p.length → ix p (j : Int) + 1 ≤ c) (hat : c = 0 ∨ ∃ j : Nat, j < p.length ∧ ix p (j : Int) + 1 = c) : IsCnt p c := by
 refine ⟨h0, fun v => ⟨fun ⟨v0, v1⟩ => ?_, fun ⟨j, hj, he⟩ => ?_⟩⟩
 ·rcases hat with rfl | ⟨j, hj, he⟩
  ·omega
  ·by_cases hv : v = ix p (j : Int)
   ·exact ⟨j, hj, hv.symm⟩
   ·obtain ⟨i, hi, hh⟩ := (hp j hj).2 v v0 (by omega)
    exact ⟨i, by omega, hh⟩
 ·have := hp j hj; have := hlt j hj; omega
theorem IsCnt.uniq {p : List Int} {c d : Int} (h : IsCnt p c) (k : IsCnt p d) : c = d := by
 rcases Int.lt_trichotomy c d with hh | hh | hh
 ·have := (h.2 c).2 ((k.2 c).1 ⟨h.1, hh⟩); omega
 ·exact hh
 ·have := (k.2 d).2 ((h.2 d).1 ⟨k.1, hh⟩); omega
theorem J2M {p : List Int} (hp : CanP p) (hl : p.length ≤ 4096) {K : Int → Prop} (h : ∀ c, IsCnt p c → K c) : J2V p K := by
  unfold J2V
  intro _
  have hle : ∀ k : Nat, k < p.length → ix p (k : Int) ≤ (k : Int) := by
    intro k
    induction k using Nat.strongRecOn with
    | _ k ih =>
      intro hk
      by_cases h0 : ix p (k : Int) ≤ 0
      · omega
      · obtain ⟨j, hj, he⟩ := (hp k hk).2 (ix p (k : Int) - 1) (by omega) (by omega)
        have := ih j hj (by omega); omega
  refine LoopWP.foldR p.length (fun k (c : Int) => 0 ≤ c ∧ (∀ j : Nat, j < k → ix p (j : Int) + 1 ≤ c) ∧ (c = 0 ∨ ∃ j : Nat, j < k ∧ ix p (j : Int) + 1 = c)) 0 (by omega) ⟨by omega, fun j hj => by omega, .inl rfl⟩ ?_
  rintro k c X hk ⟨c0, h1, h2⟩ hX
  show J23 p K _ c k
  unfold J23
  split
  · have := hle k (by omega)
    have := hp k (by omega)
    refine ⟨by omega, by omega, ⟨by omega, by omega⟩, ?_⟩
    split
    · refine hX _ (by omega) ⟨by omega, fun j hj => ?_, .inr ⟨k, by omega, rfl⟩⟩
      by_cases hjk : j = k
      · subst hjk; omega
      · have := h1 j (by omega); omega
    · refine hX _ (by omega) ⟨c0, fun j hj => ?_, h2.imp id fun ⟨j, hj, he⟩ => ⟨j, by omega, he⟩⟩
      by_cases hjk : j = k
      · subst hjk; omega
      · exact h1 j (by omega)
  · obtain rfl : k = p.length := by omega
    exact h c (J6I hp c0 h1 h2)
end Sg
