/- Tables: shape, Light's test, what spans, validity. Plain laws. -/
import Derived.Test.YthobeabghciknaaPSame
import Derived.Test.YthobeabghciknaaPWord
namespace Sg
open Go
set_option linter.unusedVariables false
set_option linter.unusedSimpArgs false

/-- The product. -/
def mu (t : List (List Int)) (x y : Int) : Int := ix (ix t x) y
def rowB (n : Nat) (row : List Int) : Bool := decide (row.length = n) && row.all fun x => decide (0 ≤ x) && decide (x < n)
/-- A table of the right shape. -/
def SH (t : List (List Int)) : Bool := decide (1 ≤ t.length) && decide (t.length ≤ 400) && t.all (rowB t.length)
theorem rowB_iff {n : Nat} {row : List Int} : rowB n row = true ↔ row.length = n ∧ ∀ j : Nat, j < row.length → 0 ≤ ix row j ∧ ix row j < n := by
  have : (∀ x ∈ row, 0 ≤ x ∧ x < (n : Int)) ↔ ∀ j : Nat, j < row.length → 0 ≤ ix row j ∧ ix row j < n := forall_mem_ix (p := fun x : Int => 0 ≤ x ∧ x < (n : Int))
  simp only [rowB, Bool.and_eq_true, decide_eq_true_eq, List.all_eq_true, ← this]
theorem SH_iff {t : List (List Int)} : SH t = true ↔ 1 ≤ t.length ∧ t.length ≤ 400 ∧ ∀ j : Nat, j < t.length → rowB t.length (ix t j) = true := by
  have : (∀ x ∈ t, rowB t.length x = true) ↔ ∀ j : Nat, j < t.length → rowB t.length (ix t j) = true := forall_mem_ix (p := fun x => rowB t.length x = true)
  simp only [SH, Bool.and_eq_true, decide_eq_true_eq, List.all_eq_true, ← this, and_assoc]
structure Tb (t : List (List Int)) (n : Nat) : Prop where
  len : t.length = n
  n1 : 1 ≤ n
  n4 : n ≤ 400
  row : ∀ x : Int, 0 ≤ x → x < n → (ix t x).length = n
  lo : ∀ x y : Int, 0 ≤ x → x < n → 0 ≤ y → y < n → 0 ≤ ix (ix t x) y
  hi : ∀ x y : Int, 0 ≤ x → x < n → 0 ≤ y → y < n → ix (ix t x) y < n
theorem SH.tb {t : List (List Int)} (h : SH t = true) : Tb t t.length := by
  obtain ⟨h1, h2, h3⟩ := SH_iff.1 h
  have hr : ∀ x : Int, 0 ≤ x → x < t.length → rowB t.length (ix t x) = true := fun x h0 hx => by
    obtain ⟨m, rfl⟩ := Int.eq_ofNat_of_zero_le h0; exact h3 m (by omega)
  have hl : ∀ x : Int, 0 ≤ x → x < t.length → (ix t x).length = t.length := fun x h0 hx => (rowB_iff.1 (hr x h0 hx)).1
  have he : ∀ x y : Int, 0 ≤ x → x < t.length → 0 ≤ y → y < t.length → 0 ≤ ix (ix t x) y ∧ ix (ix t x) y < t.length := fun x y h0 hx k0 ky => by
    obtain ⟨m, rfl⟩ := Int.eq_ofNat_of_zero_le k0
    exact (rowB_iff.1 (hr x h0 hx)).2 m (by have := hl x h0 hx; omega)
  exact ⟨rfl, h1, h2, hl, fun x y a b c d => (he x y a b c d).1, fun x y a b c d => (he x y a b c d).2⟩
theorem Tb.mu {t : List (List Int)} {n : Nat} (h : Tb t n) {x y : Int} (h0 : 0 ≤ x) (h1 : x < n) (k0 : 0 ≤ y) (k1 : y < n) : 0 ≤ mu t x y ∧ mu t x y < n := ⟨h.lo x y h0 h1 k0 k1, h.hi x y h0 h1 k0 k1⟩
def shC (t : List (List Int)) : Int := if 400 < t.length then 3 else if SH t = true then 0 else 4
theorem SH_false {t : List (List Int)} (h : ¬ (1 ≤ t.length ∧ t.length ≤ 400 ∧ ∀ j : Nat, j < t.length → rowB t.length (ix t j) = true)) : SH t = false := by
  rw [Bool.eq_false_iff, ne_eq, SH_iff]; exact h
theorem rowB_false {n : Nat} {row : List Int} (h : ¬ (row.length = n ∧ ∀ j : Nat, j < row.length → 0 ≤ ix row j ∧ ix row j < n)) : rowB n row = false := by
  rw [Bool.eq_false_iff, ne_eq, rowB_iff]; exact h
theorem shC4 {t : List (List Int)} (h : ¬ 400 < t.length) (h2 : SH t = false) : shC t = 4 := by rw [shC, if_neg h, h2]; rfl
theorem mult_shape_ok {t : List (List Int)} {K : Int → Prop} (h : K (shC t)) : mult_shape t K := by
  unfold mult_shape
  intro _
  split
  · rw [shC, if_pos (by omega)] at h; exact h
  · split
    · rw [shC4 (by omega) (SH_false (by omega))] at h; exact h
    · refine LoopWP.to t.length (fun k : Nat => k) (fun k => k ≤ t.length ∧ ∀ j : Nat, j < k → rowB t.length (ix t j) = true) ⟨by omega, fun j hj => by omega⟩ (fun s h => h.1) ?_
      rintro k X ⟨hk, hI⟩ hX
      show mult_shape_L1 t K X k
      unfold mult_shape_L1
      split
      · refine ⟨by omega, by omega, fun _ => ?_⟩
        split
        · rename_i hrl
          refine LoopWP.to (ix t (k : Int)).length (fun m : Nat => m) (fun m => m ≤ (ix t (k : Int)).length ∧ ∀ j : Nat, j < m → 0 ≤ ix (ix t (k : Int)) j ∧ ix (ix t (k : Int)) j < t.length) ⟨by omega, fun j hj => by omega⟩ (fun s h => h.1) ?_
          rintro m X2 ⟨hm, hJ⟩ hX2
          show mult_shape_L2 t k X K X2 m
          unfold mult_shape_L2
          split
          · refine ⟨by omega, by omega, ?_⟩
            split
            · rw [shC4 (by omega) (SH_false fun hs => by have := (rowB_iff.1 (hs.2.2 k (by omega))).2 m (by omega); omega)] at h; exact h
            · split
              · rw [shC4 (by omega) (SH_false fun hs => by have := (rowB_iff.1 (hs.2.2 k (by omega))).2 m (by omega); omega)] at h; exact h
              · refine hX2 (m + 1) ⟨by omega, fun j hj => ?_⟩ rfl
                by_cases hjm : j = m
                · subst hjm; omega
                · exact hJ j (by omega)
          · refine hX (k + 1) ⟨by omega, fun j hj => ?_⟩ rfl
            by_cases hjk : j = k
            · subst hjk; exact rowB_iff.2 ⟨by omega, fun i hi => hJ i (by omega)⟩
            · exact hI j (by omega)
        · rw [shC4 (by omega) (SH_false fun hs => by have := (rowB_iff.1 (hs.2.2 k (by omega))).1; omega)] at h; exact h
      · rw [shC, if_neg (by omega), if_pos (SH_iff.2 ⟨by omega, by omega, fun j hj => hI j (by omega)⟩)] at h; exact h
theorem ref14_Shape_ok {t : List (List Int)} {K : Int → Prop} (h : K (shC t)) : ref14_Shape t K := mult_shape_ok h
theorem shC0 {t : List (List Int)} : shC t = 0 ↔ SH t = true := by
  unfold shC
  constructor
  · intro h; split at h
    · omega
    · split at h
      · assumption
      · omega
  · intro h
    have := (SH_iff.1 h).2.1
    rw [if_neg (by omega), if_pos h]
/-- Are the numbers elements? -/
def inB (n : Nat) (l : List Int) : Bool := l.all fun x => decide (0 ≤ x) && decide (x < n)
theorem inB_iff {n : Nat} {l : List Int} : inB n l = true ↔ ∀ j : Nat, j < l.length → 0 ≤ ix l j ∧ ix l j < n := by
  have : (∀ x ∈ l, 0 ≤ x ∧ x < (n : Int)) ↔ ∀ j : Nat, j < l.length → 0 ≤ ix l j ∧ ix l j < n := forall_mem_ix (p := fun x : Int => 0 ≤ x ∧ x < (n : Int))
  simp only [inB, Bool.and_eq_true, decide_eq_true_eq, List.all_eq_true, ← this]
theorem inB_mem {n : Nat} {l : List Int} : inB n l = true ↔ ∀ x ∈ l, 0 ≤ x ∧ x < (n : Int) := by
  simp only [inB, Bool.and_eq_true, decide_eq_true_eq, List.all_eq_true]
theorem inB_false {n : Nat} {l : List Int} (h : ¬ ∀ j : Nat, j < l.length → 0 ≤ ix l j ∧ ix l j < n) : inB n l = false := by
  rw [Bool.eq_false_iff, ne_eq, inB_iff]; exact h
theorem mult_areElements_ok {t : List (List Int)} {l : List Int} {K : Bool → Prop} (h : K (inB t.length l)) : mult_areElements t l K := by
  unfold mult_areElements
  intro _
  refine LoopWP.to l.length (fun k : Nat => k) (fun k => k ≤ l.length ∧ ∀ j : Nat, j < k → 0 ≤ ix l j ∧ ix l j < t.length) ⟨by omega, fun j hj => by omega⟩ (fun s h => h.1) ?_
  rintro k X ⟨hk, hI⟩ hX
  show mult_areElements_L1 t l K X k
  unfold mult_areElements_L1
  split
  · refine ⟨by omega, by omega, ?_⟩
    split
    · rw [inB_false (fun hh => by have := hh k (by omega); omega)] at h; exact h
    · intro _
      split
      · rw [inB_false (fun hh => by have := hh k (by omega); omega)] at h; exact h
      · refine hX (k + 1) ⟨by omega, fun j hj => ?_⟩ rfl
        by_cases hjk : j = k
        · subst hjk; omega
        · exact hI j (by omega)
  · rw [inB_iff.2 fun j hj => hI j (by omega)] at h; exact h
theorem ref14_In_ok {t : List (List Int)} {l : List Int} {K : Bool → Prop} (h : K (inB t.length l)) : ref14_In t l K := mult_areElements_ok h

/-! ### Light's test -/
def lgB (t : List (List Int)) (g : Int) : Bool := (iota t.length).all fun x => (iota t.length).all fun y => decide (mu t (mu t x g) y = mu t x (mu t g y))
theorem mem_iota {n : Nat} {x : Int} : x ∈ iota n ↔ 0 ≤ x ∧ x < n := by
  simp only [iota, List.mem_map, List.mem_range]
  constructor
  · rintro ⟨a, h, rfl⟩; omega
  · rintro ⟨h0, h1⟩; exact ⟨x.toNat, by omega, by omega⟩
theorem lgB_iff {t : List (List Int)} {g : Int} : lgB t g = true ↔ ∀ x y : Nat, x < t.length → y < t.length → mu t (mu t x g) y = mu t x (mu t g y) := by
  simp only [lgB, List.all_eq_true, mem_iota, decide_eq_true_eq]
  constructor
  · intro h x y hx hy; exact h x (by omega) y (by omega)
  · intro h x hx y hy
    obtain ⟨a, rfl⟩ := Int.eq_ofNat_of_zero_le hx.1
    obtain ⟨b, rfl⟩ := Int.eq_ofNat_of_zero_le hy.1
    exact h a b (by omega) (by omega)
theorem lgB_false {t : List (List Int)} {g : Int} (h : ¬ ∀ x y : Nat, x < t.length → y < t.length → mu t (mu t x g) y = mu t x (mu t g y)) : lgB t g = false := by
  rw [Bool.eq_false_iff, ne_eq, lgB_iff]; exact h
theorem all_false {α : Type} [Inhabited α] {p : α → Bool} {l : List α} {k : Nat} (hk : k < l.length) (h : p (ix l k) = false) : l.all p = false := by
  rw [Bool.eq_false_iff, ne_eq, List.all_eq_true]
  intro hh; have := hh _ (ix_mem (i := (k : Int)) (by omega) (by omega)); rw [h] at this; cases this
theorem all_ix {α : Type} [Inhabited α] {p : α → Bool} {l : List α} (h : ∀ j : Nat, j < l.length → p (ix l j) = true) : l.all p = true := by
  rw [List.all_eq_true]; exact (forall_mem_ix (p := fun x => p x = true)).2 h
theorem mult_associates_ok {t : List (List Int)} (ht : SH t = true) {gens : List Int} (hg : inB t.length gens = true) {K : Bool → Prop} (h : K (gens.all (lgB t))) : mult_associates t gens K := by
  unfold mult_associates
  have T := SH.tb ht
  have n4 := T.n4
  refine fun _ => ⟨by omega, by omega, fun _ => ?_⟩
  have hgi := inB_iff.1 hg
  refine LoopWP.to gens.length (fun s : Nat × List Bool => s.1) (fun s => s.1 ≤ gens.length ∧ s.2.length = t.length ∧ (∀ j : Nat, j < s.1 → lgB t (ix gens j) = true) ∧ ∀ x : Nat, x < t.length → ix s.2 x = true → lgB t x = true)
    ⟨by simp, by simp, fun j hj => by simp at hj, fun x hx hh => by rw [ix_replicate _ _ hx] at hh; cases hh⟩ (fun s h => h.1) ?_
  rintro ⟨k, tr⟩ X ⟨hk, hl, hI, hT⟩ hX
  simp only at hk hl hI hT
  show mult_associates_L1 t gens K _ k tr
  unfold mult_associates_L1
  split
  · have hgk := hgi k (by omega)
    obtain ⟨g, hgg⟩ := Int.eq_ofNat_of_zero_le hgk.1
    rw [hgg] at hgk ⊢
    refine ⟨by omega, by omega, by omega, by omega, ?_⟩
    split
    · rename_i htr
      refine hX (k + 1, tr) ⟨by simp only; omega, hl, fun j hj => ?_, hT⟩ rfl
      simp only at hj
      by_cases hjk : j = k
      · subst hjk; rw [hgg]; exact hT g (by omega) htr
      · exact hI j (by omega)
    · refine ⟨by omega, by omega, ?_⟩
      refine LoopWP.to t.length (fun x : Nat => x) (fun x => x ≤ t.length ∧ ∀ a b : Nat, a < x → b < t.length → mu t (mu t a g) b = mu t a (mu t g b)) ⟨by omega, fun a b ha => by omega⟩ (fun s h => h.1) ?_
      rintro x X2 ⟨hx, hJ⟩ hX2
      show mult_associates_L2 t gens k tr _ K X2 x
      unfold mult_associates_L2
      rw [hgg]
      split
      · have hxn : (x : Int) < t.length := by omega
        have r1 := T.row x (by omega) hxn
        have m1 := T.mu (x := x) (y := g) (by omega) hxn (by omega) hgk.2
        unfold mu at m1
        have r2 := T.row g (by omega) hgk.2
        have r3 := T.row _ m1.1 m1.2
        refine ⟨by omega, by omega, by omega, by omega, m1.1, m1.2, by omega, by omega, fun _ => ?_⟩
        refine LoopWP.to t.length (fun y : Nat => y) (fun y => y ≤ t.length ∧ ∀ b : Nat, b < y → mu t (mu t x g) b = mu t x (mu t g b)) ⟨by omega, fun b hb => by omega⟩ (fun s h => h.1) ?_
        rintro y X3 ⟨hy, hL⟩ hX3
        show mult_associates_L3 t gens k x X2 K X3 y
        unfold mult_associates_L3
        rw [hgg]
        split
        · have hyn : (y : Int) < t.length := by omega
          have m2 := T.mu (x := g) (y := y) (by omega) hgk.2 (by omega) hyn
          unfold mu at m2
          refine ⟨by omega, by omega, by omega, by omega, m2.1, by omega, ?_⟩
          split
          · rename_i he
            refine hX3 (y + 1) ⟨by omega, fun b hb => ?_⟩ rfl
            by_cases hby : b = y
            · subst hby; exact he
            · exact hL b (by omega)
          · rename_i he
            rw [all_false (k := k) (by omega) (lgB_false fun hh => he (by rw [hgg] at hh; exact hh x y (by omega) (by omega)))] at h; exact h
        · refine hX2 (x + 1) ⟨by omega, fun a b ha hb => ?_⟩ rfl
          by_cases hax : a = x
          · subst hax; exact hL b (by omega)
          · exact hJ a b (by omega) hb
      · have hlg : lgB t g = true := lgB_iff.2 fun a b ha hb => hJ a b (by omega) hb
        refine hX (k + 1, _) ⟨by simp only; omega, by simpa using hl, fun j hj => ?_, fun a ha hh => ?_⟩ rfl
        · simp only at hj
          by_cases hjk : j = k
          · subst hjk; rw [hgg]; exact hlg
          · exact hI j (by omega)
        · simp only at hh
          rw [ix_st _ (by omega) (by omega) (by omega)] at hh
          split at hh
          · rename_i hag; rw [hag]; exact hlg
          · exact hT a ha hh
  · rw [all_ix fun j hj => hI j (by omega)] at h; exact h
/-! ### What spans -/
inductive Clo (t : List (List Int)) (G : List Int) : Int → Prop
  | gen {x : Int} : x ∈ G → Clo t G x
  | mul {x y : Int} : Clo t G x → Clo t G y → Clo t G (mu t x y)
theorem Clo.mono {t : List (List Int)} {G G' : List Int} (h : ∀ x ∈ G, x ∈ G') {x : Int} (hx : Clo t G x) : Clo t G' x := by
  induction hx with
  | gen hg => exact .gen (h _ hg)
  | mul _ _ ih1 ih2 => exact .mul ih1 ih2
theorem Clo.in_ {t : List (List Int)} {n : Nat} (T : Tb t n) {G : List Int} (hG : ∀ x ∈ G, 0 ≤ x ∧ x < (n : Int)) {x : Int} (hx : Clo t G x) : 0 ≤ x ∧ x < (n : Int) := by
  induction hx with
  | gen hg => exact hG _ hg
  | mul _ _ ih1 ih2 => exact T.mu ih1.1 ih1.2 ih2.1 ih2.2
theorem nodup_le {l : List Int} (hn : l.Nodup) {n : Nat} (hl : ∀ x ∈ l, 0 ≤ x ∧ x < (n : Int)) : l.length ≤ n := by
  rcases Nat.lt_or_ge n l.length with hlt | hge
  · exfalso
    obtain ⟨a, b, hab, hb, he⟩ := pigeon n (fun m => ix l m) fun m hm => hl _ (ix_mem (by omega) (by omega))
    rw [ix_lt (by omega), ix_lt (by omega)] at he
    exact (List.pairwise_iff_getElem.1 hn) a b (by omega) (by omega) hab he
  · exact hge
/-- What has been made: once each, marked, out of the generators. -/
structure MI (t : List (List Int)) (n : Nat) (G made : List Int) (mk : List Bool) : Prop where
  nd : made.Nodup
  len : mk.length = n
  inn : ∀ x ∈ made, 0 ≤ x ∧ x < (n : Int)
  mkd : ∀ x : Nat, x < n → (ix mk x = true ↔ (x : Int) ∈ made)
  clo : ∀ x ∈ made, Clo t G x
theorem MI.add {t : List (List Int)} {n : Nat} {G made : List Int} {mk : List Bool} (h : MI t n G made mk) {x : Int} (h0 : 0 ≤ x) (h1 : x < n) (hc : Clo t G x) (hx : ¬ ix mk x = true) : MI t n G (made ++ [x]) (st mk x true) := by
  obtain ⟨m, rfl⟩ := Int.eq_ofNat_of_zero_le h0
  have hnm : (m : Int) ∉ made := fun hh => hx ((h.mkd m (by omega)).2 hh)
  refine ⟨List.nodup_append.2 ⟨h.nd, by simp, fun a ha b hb hab => ?_⟩, by simpa using h.len, fun x hx => ?_, fun x hxn => ?_, fun x hx => ?_⟩
  · rw [List.mem_singleton] at hb; subst hab; subst hb; exact hnm ha
  · rcases List.mem_append.1 hx with hx | hx
    · exact h.inn x hx
    · rw [List.mem_singleton] at hx; subst hx; omega
  · rw [ix_st _ (by omega) (by have := h.len; omega) (by omega), List.mem_append, List.mem_singleton]
    split
    · rename_i he; exact ⟨fun _ => .inr he, fun _ => rfl⟩
    · rename_i he
      rw [h.mkd x hxn]
      exact ⟨.inl, fun hh => hh.resolve_right he⟩
  · rcases List.mem_append.1 hx with hx | hx
    · exact h.clo x hx
    · rw [List.mem_singleton] at hx; subst hx; exact hc
theorem MI.mono {t : List (List Int)} {n : Nat} {G G' made : List Int} {mk : List Bool} (h : MI t n G made mk) (hG : ∀ x ∈ G, x ∈ G') : MI t n G' made mk := ⟨h.nd, h.len, h.inn, h.mkd, fun x hx => (h.clo x hx).mono hG⟩
/-- What is kept while products are added: marks and members, and that all up to g are there. -/
structure SI (t : List (List Int)) (n : Nat) (G : List Int) (g : Nat) (made : List Int) (mk : List Bool) : Prop where
  mi : MI t n G made mk
  up : ∀ j : Nat, j < g → (j : Int) ∈ made
theorem SI.add {t : List (List Int)} {n : Nat} {G : List Int} {g : Nat} {made : List Int} {mk : List Bool} (h : SI t n G g made mk) {x : Int} (h0 : 0 ≤ x) (h1 : x < n) (hc : Clo t G x) (hx : ¬ ix mk x = true) : SI t n G g (made ++ [x]) (st mk x true) :=
  ⟨h.mi.add h0 h1 hc hx, fun j hj => List.mem_append_left _ (h.up j hj)⟩
theorem SI.le {t : List (List Int)} {n : Nat} {G : List Int} {g : Nat} {made : List Int} {mk : List Bool} (h : SI t n G g made mk) : made.length ≤ n := nodup_le h.mi.nd h.mi.inn
theorem mult_spanning_ok {t : List (List Int)} (ht : SH t = true) {K : List Int → Prop} (h : ∀ G, inB t.length G = true → (∀ x : Nat, x < t.length → Clo t G x) → K G) : mult_spanning t K := by
  unfold mult_spanning
  have T := SH.tb ht
  have n4 := T.n4
  refine fun _ => ⟨by omega, by omega, ?_⟩
  refine LoopWP.to t.length (fun s : Nat × Nat × List Int × List Int × List Bool => s.2.1)
    (fun s => s.2.1 ≤ t.length ∧ s.1 ≤ s.2.2.1.length ∧ s.2.2.2.1.length ≤ s.2.1 ∧ (∀ x ∈ s.2.2.2.1, 0 ≤ x ∧ x < (t.length : Int)) ∧ SI t t.length s.2.2.2.1 s.2.1 s.2.2.1 s.2.2.2.2)
    ⟨by simp, by simp, by simp, by simp, ⟨⟨List.nodup_nil, by simp, by simp, fun x hx => by simp [ix_replicate _ _ hx], by simp⟩, fun j hj => by simp at hj⟩⟩ (fun s h => h.1) ?_
  rintro ⟨m, g, made, gens, mk⟩ X ⟨hg, hm, hgl, hG, hI⟩ hX
  simp only at hg hm hgl hG hI
  show mult_spanning_L1 t K _ m g made gens mk
  unfold mult_spanning_L1
  have hml := hI.mi.len
  split
  · refine ⟨by omega, by omega, ?_⟩
    split
    · rename_i hmk
      refine hX (m, g + 1, made, gens, mk) ⟨by simp only; omega, hm, by simp only; omega, hG, ⟨hI.mi, fun j hj => ?_⟩⟩ rfl
      by_cases hjg : j = g
      · subst hjg; exact (hI.mi.mkd j (by omega)).1 hmk
      · exact hI.up j (by simp only at hj; omega)
    · rename_i hmk
      refine ⟨by simp; omega, by omega, by omega, by omega, by omega, by have := hI.le; simp; omega, ?_⟩
      have hI2 : SI t t.length (gens ++ [(g : Int)]) (g + 1) (made ++ [(g : Int)]) (st mk (g : Int) true) := by
        have h1 : SI t t.length (gens ++ [(g : Int)]) g made mk := ⟨hI.mi.mono fun x hx => List.mem_append_left _ hx, hI.up⟩
        have h2 := h1.add (x := (g : Int)) (by omega) (by omega) (.gen (by simp)) hmk
        refine ⟨h2.mi, fun j hj => ?_⟩
        by_cases hjg : j = g
        · subst hjg; simp
        · exact h2.up j (by omega)
      have hG2 : ∀ x ∈ gens ++ [(g : Int)], 0 ≤ x ∧ x < (t.length : Int) := by
        intro x hx
        rcases List.mem_append.1 hx with hx | hx
        · exact hG x hx
        · rw [List.mem_singleton] at hx; subst hx; omega
      have hgl2 : (gens ++ [(g : Int)]).length ≤ g + 1 := by simp; omega
      generalize hGe : gens ++ [(g : Int)] = G2 at *
      refine LoopWP.to t.length (fun s : Nat × List Int × List Bool => s.1) (fun s => s.1 ≤ s.2.1.length ∧ SI t t.length G2 (g + 1) s.2.1 s.2.2) ⟨by simp; omega, hI2⟩ (fun s h => Nat.le_trans h.1 h.2.le) ?_
      rintro ⟨a, md, mk2⟩ X2 ⟨ha, hJ⟩ hX2
      simp only at ha hJ
      show mult_spanning_L2 t g gens _ K _ a md mk2
      unfold mult_spanning_L2
      split
      · rename_i hal
        refine ⟨by omega, by omega, by omega, by omega, ?_⟩
        have hjl := hJ.le
        have e1 : (((a + 1 : Nat) : Int)).toNat = a + 1 := by omega
        have hax := hJ.mi.inn _ (ix_mem (xs := md) (i := (a : Int)) (by omega) (by omega))
        have hac := hJ.mi.clo _ (ix_mem (xs := md) (i := (a : Int)) (by omega) (by omega))
        refine LoopWP.to (a + 1) (fun s : Nat × List Int × List Bool => s.1) (fun s => s.1 ≤ a + 1 ∧ a + 1 ≤ s.2.1.length ∧ SI t t.length G2 (g + 1) s.2.1 s.2.2) ⟨by simp, by simp only; omega, hJ⟩ (fun s h => h.1) ?_
        rintro ⟨b, md3, mk3⟩ X3 ⟨hb, hl3, hL⟩ hX3
        simp only at hb hl3 hL
        show mult_spanning_L3 t a md _ K _ b md3 mk3
        unfold mult_spanning_L3
        have e2 : (((a : Int) + 1)).toNat = a + 1 := by omega
        have htl : (md.take (a + 1)).length = a + 1 := by rw [List.length_take]; omega
        simp only [e2, htl]
        split
        · rename_i hb1
          have e3 : ix (md.take (a + 1)) (b : Int) = ix md (b : Int) := by
            rw [ix_lt (by omega), ix_lt (by omega), List.getElem_take]
          rw [e3]
          have hbx := hJ.mi.inn _ (ix_mem (xs := md) (i := (b : Int)) (by omega) (by omega))
          have hbc := hJ.mi.clo _ (ix_mem (xs := md) (i := (b : Int)) (by omega) (by omega))
          generalize ix md (a : Int) = x at *
          generalize ix md (b : Int) = y at *
          have r1 := T.row x hax.1 hax.2
          have r2 := T.row y hbx.1 hbx.2
          have m1 := T.mu hax.1 hax.2 hbx.1 hbx.2
          have m2 := T.mu hbx.1 hbx.2 hax.1 hax.2
          have c1 := Clo.mul hac hbc
          have c2 := Clo.mul hbc hac
          unfold mu at m1 m2 c1 c2
          have l3 := hL.mi.len
          have le3 := hL.le
          refine ⟨by omega, by omega, hax.1, hax.2, hbx.1, by omega, m1.1, by omega, ?_⟩
          split
          · refine ⟨hbx.1, hbx.2, hax.1, by omega, m2.1, by omega, ?_⟩
            split
            · exact ⟨⟨by omega, by omega⟩, hX3 (b + 1, md3, mk3) ⟨by simp only; omega, hl3, hL⟩ rfl⟩
            · rename_i hn
              exact ⟨m2.1, by omega, by simp; omega, ⟨by omega, by omega⟩, hX3 (b + 1, _, _) ⟨by simp only; omega, by simp; omega, hL.add m2.1 m2.2 c2 hn⟩ rfl⟩
          · rename_i hn
            have hL2 := hL.add m1.1 m1.2 c1 hn
            have l4 := hL2.mi.len
            have le4 := hL2.le
            refine ⟨m1.1, by omega, by simp; omega, hbx.1, hbx.2, hax.1, by omega, m2.1, by omega, ?_⟩
            split
            · exact ⟨⟨by omega, by omega⟩, hX3 (b + 1, _, _) ⟨by simp only; omega, by simp; omega, hL2⟩ rfl⟩
            · rename_i hn2
              exact ⟨m2.1, by omega, by simp at le4 ⊢; omega, ⟨by omega, by omega⟩, hX3 (b + 1, _, _) ⟨by simp only; omega, by simp; omega, hL2.add m2.1 m2.2 c2 hn2⟩ rfl⟩
        · exact ⟨⟨by omega, by omega⟩, hX2 (a + 1, md3, mk3) ⟨by simp only; omega, hL⟩ rfl⟩
      · refine hX (a, g + 1, md, _, mk2) ⟨by simp only; omega, ha, ?_, ?_, ?_⟩ rfl
        · simp only [hGe]; omega
        · simp only [hGe]; exact hG2
        · simp only [hGe]; exact hJ
  · exact h gens (inB_mem.2 hG) fun x hx => hI.mi.clo _ (hI.up x (by omega))

/-! ### Validity -/
/-- All triples associate. -/
def AS (t : List (List Int)) : Prop := ∀ x y z : Nat, x < t.length → y < t.length → z < t.length → mu t (mu t x y) z = mu t x (mu t y z)
instance (t : List (List Int)) : Decidable (AS t) := decidable_of_iff ((iota t.length).all fun y => lgB t y) (by
  simp only [List.all_eq_true, mem_iota, lgB_iff]
  constructor
  · intro h x y z hx hy hz; exact h y (by omega) x z hx hz
  · intro h y hy x z hx hz
    obtain ⟨b, rfl⟩ := Int.eq_ofNat_of_zero_le hy.1
    exact h x b z hx (by omega) hz)
theorem AS.all {t : List (List Int)} (h : AS t) {x y z : Int} (hx : 0 ≤ x ∧ x < t.length) (hy : 0 ≤ y ∧ y < t.length) (hz : 0 ≤ z ∧ z < t.length) : mu t (mu t x y) z = mu t x (mu t y z) := by
  obtain ⟨a, rfl⟩ := Int.eq_ofNat_of_zero_le hx.1
  obtain ⟨b, rfl⟩ := Int.eq_ofNat_of_zero_le hy.1
  obtain ⟨c, rfl⟩ := Int.eq_ofNat_of_zero_le hz.1
  exact h a b c (by omega) (by omega) (by omega)
theorem lgB_all {t : List (List Int)} {g : Int} (h : lgB t g = true) {x y : Int} (hx : 0 ≤ x ∧ x < t.length) (hy : 0 ≤ y ∧ y < t.length) : mu t (mu t x g) y = mu t x (mu t g y) := by
  obtain ⟨a, rfl⟩ := Int.eq_ofNat_of_zero_le hx.1
  obtain ⟨b, rfl⟩ := Int.eq_ofNat_of_zero_le hy.1
  exact lgB_iff.1 h a b (by omega) (by omega)
theorem lgB_mu {t : List (List Int)} (T : Tb t t.length) {g k : Int} (hg : 0 ≤ g ∧ g < t.length) (hk : 0 ≤ k ∧ k < t.length) (h1 : lgB t g = true) (h2 : lgB t k = true) : lgB t (mu t g k) = true := by
  refine lgB_iff.2 fun x y hx hy => ?_
  have hx' : 0 ≤ (x : Int) ∧ (x : Int) < t.length := by omega
  have hy' : 0 ≤ (y : Int) ∧ (y : Int) < t.length := by omega
  rw [← lgB_all h1 hx' hk, lgB_all h2 (T.mu hx'.1 hx'.2 hg.1 hg.2) hy', lgB_all h1 hx' (T.mu hk.1 hk.2 hy'.1 hy'.2), ← lgB_all h2 hg hy']
/-- Light's test decides. -/
theorem light {t : List (List Int)} (T : Tb t t.length) {G : List Int} (hG : inB t.length G = true) (hc : ∀ x : Nat, x < t.length → Clo t G x) : G.all (lgB t) = decide (AS t) := by
  have hin := inB_mem.1 hG
  by_cases h : AS t
  · rw [decide_eq_true h, List.all_eq_true]
    exact fun g hg => lgB_iff.2 fun x y hx hy => h.all (by omega) (hin g hg) (by omega)
  · rw [decide_eq_false h, Bool.eq_false_iff]
    intro ha
    rw [List.all_eq_true] at ha
    have key : ∀ x, Clo t G x → lgB t x = true := fun x hx => by
      induction hx with
      | gen hg => exact ha _ hg
      | mul h1 h2 i1 i2 => exact lgB_mu T (h1.in_ T hin) (h2.in_ T hin) i1 i2
    exact h fun x y z hx hy hz => lgB_iff.1 (key y (hc y hy)) x z hx hz
/-- Valid: the right shape, and associative. -/
def VT (t : List (List Int)) : Bool := SH t && decide (AS t)
def vaC (t : List (List Int)) : Int := if SH t = true then (if AS t then 0 else 5) else shC t
theorem vaC0 {t : List (List Int)} : vaC t = 0 ↔ VT t = true := by
  unfold vaC VT
  by_cases h : SH t = true
  · rw [if_pos h, h]
    by_cases h2 : AS t
    · simp [h2]
    · simp [h2]
  · rw [if_neg h]
    have : shC t ≠ 0 := fun hh => h (shC0.1 hh)
    simp [h, this]
theorem VT.sh {t : List (List Int)} (h : VT t = true) : SH t = true := by simp only [VT, Bool.and_eq_true] at h; exact h.1
theorem VT.as {t : List (List Int)} (h : VT t = true) : AS t := by simp only [VT, Bool.and_eq_true, decide_eq_true_eq] at h; exact h.2
theorem mult_Validate_ok {t : List (List Int)} {K : Int → Prop} (h : K (vaC t)) : mult_Validate t K := by
  unfold mult_Validate
  refine mult_shape_ok ?_
  split
  · rename_i h0
    have ht := shC0.1 h0
    rw [vaC, if_pos ht] at h
    refine mult_spanning_ok ht fun G hG hc => mult_associates_ok ht hG ?_
    rw [light (SH.tb ht) hG hc]
    by_cases ha : AS t
    · simpa [ha] using h
    · simpa [ha] using h
  · rename_i h0
    rw [vaC, if_neg (fun hh => h0 (shC0.2 hh))] at h; exact h
theorem mult_valid_ok {t : List (List Int)} {K : Bool → Prop} (h : K (VT t)) : mult_valid t K := by
  unfold mult_valid
  refine mult_Validate_ok ?_
  by_cases hv : VT t = true
  · rw [if_pos (vaC0.2 hv)]; rw [hv] at h; exact h
  · rw [if_neg (fun hh => hv (vaC0.1 hh))]; rw [Bool.eq_false_iff.2 hv] at h; exact h
end Sg
