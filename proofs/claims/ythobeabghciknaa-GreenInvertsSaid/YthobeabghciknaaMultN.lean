/- Mult, MultB, MultC, MultD, MultE, MultF, MultG, MultH, MultI, MultJ, MultK, MultL, MultM, MultN, MultO, merged. -/
import Derived.Test.YthobeabghciknaaPSame
import Derived.Test.YthobeabghciknaaPWord
namespace Sg
open Go
set_option linter.unusedVariables false
set_option linter.unusedSimpArgs false

/-- The product. -/
def mu (t : List (List Int)) (x y : Int) : Int := ix (ix t x) y
def rowB (n : Nat) (row : List Int) : Bool := decide (row.length = n) && row.all fun x => decide (0 ≤ x) && decide (x < n)
/-- A table of the right shape. -/
def SH (t : List (List Int)) : Bool := decide (1 ≤ t.length) && decide (t.length ≤ 400) && t.all (rowB t.length)
theorem rowB_iff {n : Nat} {row : List Int} : rowB n row = true ↔ row.length = n ∧ ∀ j : Nat, j < row.length → 0 ≤ ix row j ∧ ix row j < n := by
  have : (∀ x ∈ row, 0 ≤ x ∧ x < (n : Int)) ↔ ∀ j : Nat, j < row.length → 0 ≤ ix row j ∧ ix row j < n := forall_mem_ix (p := fun x : Int => 0 ≤ x ∧ x < (n : Int))
  simp only [rowB, Bool.and_eq_true, decide_eq_true_eq, List.all_eq_true, ← this]
theorem SH_iff {t : List (List Int)} : SH t = true ↔ 1 ≤ t.length ∧ t.length ≤ 400 ∧ ∀ j : Nat, j < t.length → rowB t.length (ix t j) = true := by
  have : (∀ x ∈ t, rowB t.length x = true) ↔ ∀ j : Nat, j < t.length → rowB t.length (ix t j) = true := forall_mem_ix (p := fun x => rowB t.length x = true)
  simp only [SH, Bool.and_eq_true, decide_eq_true_eq, List.all_eq_true, ← this, and_assoc]
structure Tb (t : List (List Int)) (n : Nat) : Prop where
  len : t.length = n
  n1 : 1 ≤ n
  n4 : n ≤ 400
  row : ∀ x : Int, 0 ≤ x → x < n → (ix t x).length = n
  lo : ∀ x y : Int, 0 ≤ x → x < n → 0 ≤ y → y < n → 0 ≤ ix (ix t x) y
  hi : ∀ x y : Int, 0 ≤ x → x < n → 0 ≤ y → y < n → ix (ix t x) y < n
theorem SH.tb {t : List (List Int)} (h : SH t = true) : Tb t t.length := by
  obtain ⟨h1, h2, h3⟩ := SH_iff.1 h
  have hr : ∀ x : Int, 0 ≤ x → x < t.length → rowB t.length (ix t x) = true := fun x h0 hx => by
    obtain ⟨m, rfl⟩ := Int.eq_ofNat_of_zero_le h0; exact h3 m (by omega)
  have hl : ∀ x : Int, 0 ≤ x → x < t.length → (ix t x).length = t.length := fun x h0 hx => (rowB_iff.1 (hr x h0 hx)).1
  have he : ∀ x y : Int, 0 ≤ x → x < t.length → 0 ≤ y → y < t.length → 0 ≤ ix (ix t x) y ∧ ix (ix t x) y < t.length := fun x y h0 hx k0 ky => by
    obtain ⟨m, rfl⟩ := Int.eq_ofNat_of_zero_le k0
    exact (rowB_iff.1 (hr x h0 hx)).2 m (by have := hl x h0 hx; omega)
  exact ⟨rfl, h1, h2, hl, fun x y a b c d => (he x y a b c d).1, fun x y a b c d => (he x y a b c d).2⟩
theorem Tb.mu {t : List (List Int)} {n : Nat} (h : Tb t n) {x y : Int} (h0 : 0 ≤ x) (h1 : x < n) (k0 : 0 ≤ y) (k1 : y < n) : 0 ≤ mu t x y ∧ mu t x y < n := ⟨h.lo x y h0 h1 k0 k1, h.hi x y h0 h1 k0 k1⟩
def shC (t : List (List Int)) : Int := if 400 < t.length then 3 else if SH t = true then 0 else 4
theorem SH_false {t : List (List Int)} (h : ¬ (1 ≤ t.length ∧ t.length ≤ 400 ∧ ∀ j : Nat, j < t.length → rowB t.length (ix t j) = true)) : SH t = false := by
  rw [Bool.eq_false_iff, ne_eq, SH_iff]; exact h
theorem rowB_false {n : Nat} {row : List Int} (h : ¬ (row.length = n ∧ ∀ j : Nat, j < row.length → 0 ≤ ix row j ∧ ix row j < n)) : rowB n row = false := by
  rw [Bool.eq_false_iff, ne_eq, rowB_iff]; exact h
theorem shC4 {t : List (List Int)} (h : ¬ 400 < t.length) (h2 : SH t = false) : shC t = 4 := by rw [shC, if_neg h, h2]; rfl
theorem mult_shape_ok {t : List (List Int)} {K : Int → Prop} (h : K (shC t)) : mult_shape t K := by
  unfold mult_shape
  intro _
  split
  · rw [shC, if_pos (by omega)] at h; exact h
  · split
    · rw [shC4 (by omega) (SH_false (by omega))] at h; exact h
    · refine LoopWP.to t.length (fun k : Nat => k) (fun k => k ≤ t.length ∧ ∀ j : Nat, j < k → rowB t.length (ix t j) = true) ⟨by omega, fun j hj => by omega⟩ (fun s h => h.1) ?_
      rintro k X ⟨hk, hI⟩ hX
      show mult_shape_L1 t K X k
      unfold mult_shape_L1
      split
      · refine ⟨by omega, by omega, fun _ => ?_⟩
        split
        · rename_i hrl
          refine LoopWP.to (ix t (k : Int)).length (fun m : Nat => m) (fun m => m ≤ (ix t (k : Int)).length ∧ ∀ j : Nat, j < m → 0 ≤ ix (ix t (k : Int)) j ∧ ix (ix t (k : Int)) j < t.length) ⟨by omega, fun j hj => by omega⟩ (fun s h => h.1) ?_
          rintro m X2 ⟨hm, hJ⟩ hX2
          show mult_shape_L2 t k X K X2 m
          unfold mult_shape_L2
          split
          · refine ⟨by omega, by omega, ?_⟩
            split
            · rw [shC4 (by omega) (SH_false fun hs => by have := (rowB_iff.1 (hs.2.2 k (by omega))).2 m (by omega); omega)] at h; exact h
            · split
              · rw [shC4 (by omega) (SH_false fun hs => by have := (rowB_iff.1 (hs.2.2 k (by omega))).2 m (by omega); omega)] at h; exact h
              · refine hX2 (m + 1) ⟨by omega, fun j hj => ?_⟩ rfl
                by_cases hjm : j = m
                · subst hjm; omega
                · exact hJ j (by omega)
          · refine hX (k + 1) ⟨by omega, fun j hj => ?_⟩ rfl
            by_cases hjk : j = k
            · subst hjk; exact rowB_iff.2 ⟨by omega, fun i hi => hJ i (by omega)⟩
            · exact hI j (by omega)
        · rw [shC4 (by omega) (SH_false fun hs => by have := (rowB_iff.1 (hs.2.2 k (by omega))).1; omega)] at h; exact h
      · rw [shC, if_neg (by omega), if_pos (SH_iff.2 ⟨by omega, by omega, fun j hj => hI j (by omega)⟩)] at h; exact h
theorem ref14_Shape_ok {t : List (List Int)} {K : Int → Prop} (h : K (shC t)) : ref14_Shape t K := mult_shape_ok h
theorem shC0 {t : List (List Int)} : shC t = 0 ↔ SH t = true := by
  unfold shC
  constructor
  · intro h; split at h
    · omega
    · split at h
      · assumption
      · omega
  · intro h
    have := (SH_iff.1 h).2.1
    rw [if_neg (by omega), if_pos h]
/-- Are the numbers elements? -/
def inB (n : Nat) (l : List Int) : Bool := l.all fun x => decide (0 ≤ x) && decide (x < n)
theorem inB_iff {n : Nat} {l : List Int} : inB n l = true ↔ ∀ j : Nat, j < l.length → 0 ≤ ix l j ∧ ix l j < n := by
  have : (∀ x ∈ l, 0 ≤ x ∧ x < (n : Int)) ↔ ∀ j : Nat, j < l.length → 0 ≤ ix l j ∧ ix l j < n := forall_mem_ix (p := fun x : Int => 0 ≤ x ∧ x < (n : Int))
  simp only [inB, Bool.and_eq_true, decide_eq_true_eq, List.all_eq_true, ← this]
theorem inB_mem {n : Nat} {l : List Int} : inB n l = true ↔ ∀ x ∈ l, 0 ≤ x ∧ x < (n : Int) := by
  simp only [inB, Bool.and_eq_true, decide_eq_true_eq, List.all_eq_true]
theorem inB_false {n : Nat} {l : List Int} (h : ¬ ∀ j : Nat, j < l.length → 0 ≤ ix l j ∧ ix l j < n) : inB n l = false := by
  rw [Bool.eq_false_iff, ne_eq, inB_iff]; exact h
theorem mult_areElements_ok {t : List (List Int)} {l : List Int} {K : Bool → Prop} (h : K (inB t.length l)) : mult_areElements t l K := by
  unfold mult_areElements
  intro _
  refine LoopWP.to l.length (fun k : Nat => k) (fun k => k ≤ l.length ∧ ∀ j : Nat, j < k → 0 ≤ ix l j ∧ ix l j < t.length) ⟨by omega, fun j hj => by omega⟩ (fun s h => h.1) ?_
  rintro k X ⟨hk, hI⟩ hX
  show mult_areElements_L1 t l K X k
  unfold mult_areElements_L1
  split
  · refine ⟨by omega, by omega, ?_⟩
    split
    · rw [inB_false (fun hh => by have := hh k (by omega); omega)] at h; exact h
    · intro _
      split
      · rw [inB_false (fun hh => by have := hh k (by omega); omega)] at h; exact h
      · refine hX (k + 1) ⟨by omega, fun j hj => ?_⟩ rfl
        by_cases hjk : j = k
        · subst hjk; omega
        · exact hI j (by omega)
  · rw [inB_iff.2 fun j hj => hI j (by omega)] at h; exact h
theorem ref14_In_ok {t : List (List Int)} {l : List Int} {K : Bool → Prop} (h : K (inB t.length l)) : ref14_In t l K := mult_areElements_ok h

/-! ### Light's test -/
def lgB (t : List (List Int)) (g : Int) : Bool := (iota t.length).all fun x => (iota t.length).all fun y => decide (mu t (mu t x g) y = mu t x (mu t g y))
theorem mem_iota {n : Nat} {x : Int} : x ∈ iota n ↔ 0 ≤ x ∧ x < n := by
  simp only [iota, List.mem_map, List.mem_range]
  constructor
  · rintro ⟨a, h, rfl⟩; omega
  · rintro ⟨h0, h1⟩; exact ⟨x.toNat, by omega, by omega⟩
theorem lgB_iff {t : List (List Int)} {g : Int} : lgB t g = true ↔ ∀ x y : Nat, x < t.length → y < t.length → mu t (mu t x g) y = mu t x (mu t g y) := by
  simp only [lgB, List.all_eq_true, mem_iota, decide_eq_true_eq]
  constructor
  · intro h x y hx hy; exact h x (by omega) y (by omega)
  · intro h x hx y hy
    obtain ⟨a, rfl⟩ := Int.eq_ofNat_of_zero_le hx.1
    obtain ⟨b, rfl⟩ := Int.eq_ofNat_of_zero_le hy.1
    exact h a b (by omega) (by omega)
theorem lgB_false {t : List (List Int)} {g : Int} (h : ¬ ∀ x y : Nat, x < t.length → y < t.length → mu t (mu t x g) y = mu t x (mu t g y)) : lgB t g = false := by
  rw [Bool.eq_false_iff, ne_eq, lgB_iff]; exact h
theorem all_false {α : Type} [Inhabited α] {p : α → Bool} {l : List α} {k : Nat} (hk : k < l.length) (h : p (ix l k) = false) : l.all p = false := by
  rw [Bool.eq_false_iff, ne_eq, List.all_eq_true]
  intro hh; have := hh _ (ix_mem (i := (k : Int)) (by omega) (by omega)); rw [h] at this; cases this
theorem all_ix {α : Type} [Inhabited α] {p : α → Bool} {l : List α} (h : ∀ j : Nat, j < l.length → p (ix l j) = true) : l.all p = true := by
  rw [List.all_eq_true]; exact (forall_mem_ix (p := fun x => p x = true)).2 h
theorem mult_associates_ok {t : List (List Int)} (ht : SH t = true) {gens : List Int} (hg : inB t.length gens = true) {K : Bool → Prop} (h : K (gens.all (lgB t))) : mult_associates t gens K := by
  unfold mult_associates
  have T := SH.tb ht
  have n4 := T.n4
  refine fun _ => ⟨by omega, by omega, fun _ => ?_⟩
  have hgi := inB_iff.1 hg
  refine LoopWP.to gens.length (fun s : Nat × List Bool => s.1) (fun s => s.1 ≤ gens.length ∧ s.2.length = t.length ∧ (∀ j : Nat, j < s.1 → lgB t (ix gens j) = true) ∧ ∀ x : Nat, x < t.length → ix s.2 x = true → lgB t x = true)
    ⟨by simp, by simp, fun j hj => by simp at hj, fun x hx hh => by rw [ix_replicate _ _ hx] at hh; cases hh⟩ (fun s h => h.1) ?_
  rintro ⟨k, tr⟩ X ⟨hk, hl, hI, hT⟩ hX
  simp only at hk hl hI hT
  show mult_associates_L1 t gens K _ k tr
  unfold mult_associates_L1
  split
  · have hgk := hgi k (by omega)
    obtain ⟨g, hgg⟩ := Int.eq_ofNat_of_zero_le hgk.1
    rw [hgg] at hgk ⊢
    refine ⟨by omega, by omega, by omega, by omega, ?_⟩
    split
    · rename_i htr
      refine hX (k + 1, tr) ⟨by simp only; omega, hl, fun j hj => ?_, hT⟩ rfl
      simp only at hj
      by_cases hjk : j = k
      · subst hjk; rw [hgg]; exact hT g (by omega) htr
      · exact hI j (by omega)
    · refine ⟨by omega, by omega, ?_⟩
      refine LoopWP.to t.length (fun x : Nat => x) (fun x => x ≤ t.length ∧ ∀ a b : Nat, a < x → b < t.length → mu t (mu t a g) b = mu t a (mu t g b)) ⟨by omega, fun a b ha => by omega⟩ (fun s h => h.1) ?_
      rintro x X2 ⟨hx, hJ⟩ hX2
      show mult_associates_L2 t gens k tr _ K X2 x
      unfold mult_associates_L2
      rw [hgg]
      split
      · have hxn : (x : Int) < t.length := by omega
        have r1 := T.row x (by omega) hxn
        have m1 := T.mu (x := x) (y := g) (by omega) hxn (by omega) hgk.2
        unfold mu at m1
        have r2 := T.row g (by omega) hgk.2
        have r3 := T.row _ m1.1 m1.2
        refine ⟨by omega, by omega, by omega, by omega, m1.1, m1.2, by omega, by omega, fun _ => ?_⟩
        refine LoopWP.to t.length (fun y : Nat => y) (fun y => y ≤ t.length ∧ ∀ b : Nat, b < y → mu t (mu t x g) b = mu t x (mu t g b)) ⟨by omega, fun b hb => by omega⟩ (fun s h => h.1) ?_
        rintro y X3 ⟨hy, hL⟩ hX3
        show mult_associates_L3 t gens k x X2 K X3 y
        unfold mult_associates_L3
        rw [hgg]
        split
        · have hyn : (y : Int) < t.length := by omega
          have m2 := T.mu (x := g) (y := y) (by omega) hgk.2 (by omega) hyn
          unfold mu at m2
          refine ⟨by omega, by omega, by omega, by omega, m2.1, by omega, ?_⟩
          split
          · rename_i he
            refine hX3 (y + 1) ⟨by omega, fun b hb => ?_⟩ rfl
            by_cases hby : b = y
            · subst hby; exact he
            · exact hL b (by omega)
          · rename_i he
            rw [all_false (k := k) (by omega) (lgB_false fun hh => he (by rw [hgg] at hh; exact hh x y (by omega) (by omega)))] at h; exact h
        · refine hX2 (x + 1) ⟨by omega, fun a b ha hb => ?_⟩ rfl
          by_cases hax : a = x
          · subst hax; exact hL b (by omega)
          · exact hJ a b (by omega) hb
      · have hlg : lgB t g = true := lgB_iff.2 fun a b ha hb => hJ a b (by omega) hb
        refine hX (k + 1, _) ⟨by simp only; omega, by simpa using hl, fun j hj => ?_, fun a ha hh => ?_⟩ rfl
        · simp only at hj
          by_cases hjk : j = k
          · subst hjk; rw [hgg]; exact hlg
          · exact hI j (by omega)
        · simp only at hh
          rw [ix_st _ (by omega) (by omega) (by omega)] at hh
          split at hh
          · rename_i hag; rw [hag]; exact hlg
          · exact hT a ha hh
  · rw [all_ix fun j hj => hI j (by omega)] at h; exact h
/-! ### What spans -/
inductive Clo (t : List (List Int)) (G : List Int) : Int → Prop
  | gen {x : Int} : x ∈ G → Clo t G x
  | mul {x y : Int} : Clo t G x → Clo t G y → Clo t G (mu t x y)
theorem Clo.mono {t : List (List Int)} {G G' : List Int} (h : ∀ x ∈ G, x ∈ G') {x : Int} (hx : Clo t G x) : Clo t G' x := by
  induction hx with
  | gen hg => exact .gen (h _ hg)
  | mul _ _ ih1 ih2 => exact .mul ih1 ih2
theorem Clo.in_ {t : List (List Int)} {n : Nat} (T : Tb t n) {G : List Int} (hG : ∀ x ∈ G, 0 ≤ x ∧ x < (n : Int)) {x : Int} (hx : Clo t G x) : 0 ≤ x ∧ x < (n : Int) := by
  induction hx with
  | gen hg => exact hG _ hg
  | mul _ _ ih1 ih2 => exact T.mu ih1.1 ih1.2 ih2.1 ih2.2
theorem nodup_le {l : List Int} (hn : l.Nodup) {n : Nat} (hl : ∀ x ∈ l, 0 ≤ x ∧ x < (n : Int)) : l.length ≤ n := by
  rcases Nat.lt_or_ge n l.length with hlt | hge
  · exfalso
    obtain ⟨a, b, hab, hb, he⟩ := pigeon n (fun m => ix l m) fun m hm => hl _ (ix_mem (by omega) (by omega))
    rw [ix_lt (by omega), ix_lt (by omega)] at he
    exact (List.pairwise_iff_getElem.1 hn) a b (by omega) (by omega) hab he
  · exact hge
/-- What has been made: once each, marked, out of the generators. -/
structure MI (t : List (List Int)) (n : Nat) (G made : List Int) (mk : List Bool) : Prop where
  nd : made.Nodup
  len : mk.length = n
  inn : ∀ x ∈ made, 0 ≤ x ∧ x < (n : Int)
  mkd : ∀ x : Nat, x < n → (ix mk x = true ↔ (x : Int) ∈ made)
  clo : ∀ x ∈ made, Clo t G x
theorem MI.add {t : List (List Int)} {n : Nat} {G made : List Int} {mk : List Bool} (h : MI t n G made mk) {x : Int} (h0 : 0 ≤ x) (h1 : x < n) (hc : Clo t G x) (hx : ¬ ix mk x = true) : MI t n G (made ++ [x]) (st mk x true) := by
  obtain ⟨m, rfl⟩ := Int.eq_ofNat_of_zero_le h0
  have hnm : (m : Int) ∉ made := fun hh => hx ((h.mkd m (by omega)).2 hh)
  refine ⟨List.nodup_append.2 ⟨h.nd, by simp, fun a ha b hb hab => ?_⟩, by simpa using h.len, fun x hx => ?_, fun x hxn => ?_, fun x hx => ?_⟩
  · rw [List.mem_singleton] at hb; subst hab; subst hb; exact hnm ha
  · rcases List.mem_append.1 hx with hx | hx
    · exact h.inn x hx
    · rw [List.mem_singleton] at hx; subst hx; omega
  · rw [ix_st _ (by omega) (by have := h.len; omega) (by omega), List.mem_append, List.mem_singleton]
    split
    · rename_i he; exact ⟨fun _ => .inr he, fun _ => rfl⟩
    · rename_i he
      rw [h.mkd x hxn]
      exact ⟨.inl, fun hh => hh.resolve_right he⟩
  · rcases List.mem_append.1 hx with hx | hx
    · exact h.clo x hx
    · rw [List.mem_singleton] at hx; subst hx; exact hc
theorem MI.mono {t : List (List Int)} {n : Nat} {G G' made : List Int} {mk : List Bool} (h : MI t n G made mk) (hG : ∀ x ∈ G, x ∈ G') : MI t n G' made mk := ⟨h.nd, h.len, h.inn, h.mkd, fun x hx => (h.clo x hx).mono hG⟩
/-- What is kept while products are added: marks and members, and that all up to g are there. -/
structure SI (t : List (List Int)) (n : Nat) (G : List Int) (g : Nat) (made : List Int) (mk : List Bool) : Prop where
  mi : MI t n G made mk
  up : ∀ j : Nat, j < g → (j : Int) ∈ made
theorem SI.add {t : List (List Int)} {n : Nat} {G : List Int} {g : Nat} {made : List Int} {mk : List Bool} (h : SI t n G g made mk) {x : Int} (h0 : 0 ≤ x) (h1 : x < n) (hc : Clo t G x) (hx : ¬ ix mk x = true) : SI t n G g (made ++ [x]) (st mk x true) :=
  ⟨h.mi.add h0 h1 hc hx, fun j hj => List.mem_append_left _ (h.up j hj)⟩
theorem SI.le {t : List (List Int)} {n : Nat} {G : List Int} {g : Nat} {made : List Int} {mk : List Bool} (h : SI t n G g made mk) : made.length ≤ n := nodup_le h.mi.nd h.mi.inn
theorem mult_spanning_ok {t : List (List Int)} (ht : SH t = true) {K : List Int → Prop} (h : ∀ G, inB t.length G = true → (∀ x : Nat, x < t.length → Clo t G x) → K G) : mult_spanning t K := by
  unfold mult_spanning
  have T := SH.tb ht
  have n4 := T.n4
  refine fun _ => ⟨by omega, by omega, ?_⟩
  refine LoopWP.to t.length (fun s : Nat × Nat × List Int × List Int × List Bool => s.2.1)
    (fun s => s.2.1 ≤ t.length ∧ s.1 ≤ s.2.2.1.length ∧ s.2.2.2.1.length ≤ s.2.1 ∧ (∀ x ∈ s.2.2.2.1, 0 ≤ x ∧ x < (t.length : Int)) ∧ SI t t.length s.2.2.2.1 s.2.1 s.2.2.1 s.2.2.2.2)
    ⟨by simp, by simp, by simp, by simp, ⟨⟨List.nodup_nil, by simp, by simp, fun x hx => by simp [ix_replicate _ _ hx], by simp⟩, fun j hj => by simp at hj⟩⟩ (fun s h => h.1) ?_
  rintro ⟨m, g, made, gens, mk⟩ X ⟨hg, hm, hgl, hG, hI⟩ hX
  simp only at hg hm hgl hG hI
  show mult_spanning_L1 t K _ m g made gens mk
  unfold mult_spanning_L1
  have hml := hI.mi.len
  split
  · refine ⟨by omega, by omega, ?_⟩
    split
    · rename_i hmk
      refine hX (m, g + 1, made, gens, mk) ⟨by simp only; omega, hm, by simp only; omega, hG, ⟨hI.mi, fun j hj => ?_⟩⟩ rfl
      by_cases hjg : j = g
      · subst hjg; exact (hI.mi.mkd j (by omega)).1 hmk
      · exact hI.up j (by simp only at hj; omega)
    · rename_i hmk
      refine ⟨by simp; omega, by omega, by omega, by omega, by omega, by have := hI.le; simp; omega, ?_⟩
      have hI2 : SI t t.length (gens ++ [(g : Int)]) (g + 1) (made ++ [(g : Int)]) (st mk (g : Int) true) := by
        have h1 : SI t t.length (gens ++ [(g : Int)]) g made mk := ⟨hI.mi.mono fun x hx => List.mem_append_left _ hx, hI.up⟩
        have h2 := h1.add (x := (g : Int)) (by omega) (by omega) (.gen (by simp)) hmk
        refine ⟨h2.mi, fun j hj => ?_⟩
        by_cases hjg : j = g
        · subst hjg; simp
        · exact h2.up j (by omega)
      have hG2 : ∀ x ∈ gens ++ [(g : Int)], 0 ≤ x ∧ x < (t.length : Int) := by
        intro x hx
        rcases List.mem_append.1 hx with hx | hx
        · exact hG x hx
        · rw [List.mem_singleton] at hx; subst hx; omega
      have hgl2 : (gens ++ [(g : Int)]).length ≤ g + 1 := by simp; omega
      generalize hGe : gens ++ [(g : Int)] = G2 at *
      refine LoopWP.to t.length (fun s : Nat × List Int × List Bool => s.1) (fun s => s.1 ≤ s.2.1.length ∧ SI t t.length G2 (g + 1) s.2.1 s.2.2) ⟨by simp; omega, hI2⟩ (fun s h => Nat.le_trans h.1 h.2.le) ?_
      rintro ⟨a, md, mk2⟩ X2 ⟨ha, hJ⟩ hX2
      simp only at ha hJ
      show mult_spanning_L2 t g gens _ K _ a md mk2
      unfold mult_spanning_L2
      split
      · rename_i hal
        refine ⟨by omega, by omega, by omega, by omega, ?_⟩
        have hjl := hJ.le
        have e1 : (((a + 1 : Nat) : Int)).toNat = a + 1 := by omega
        have hax := hJ.mi.inn _ (ix_mem (xs := md) (i := (a : Int)) (by omega) (by omega))
        have hac := hJ.mi.clo _ (ix_mem (xs := md) (i := (a : Int)) (by omega) (by omega))
        refine LoopWP.to (a + 1) (fun s : Nat × List Int × List Bool => s.1) (fun s => s.1 ≤ a + 1 ∧ a + 1 ≤ s.2.1.length ∧ SI t t.length G2 (g + 1) s.2.1 s.2.2) ⟨by simp, by simp only; omega, hJ⟩ (fun s h => h.1) ?_
        rintro ⟨b, md3, mk3⟩ X3 ⟨hb, hl3, hL⟩ hX3
        simp only at hb hl3 hL
        show mult_spanning_L3 t a md _ K _ b md3 mk3
        unfold mult_spanning_L3
        have e2 : (((a : Int) + 1)).toNat = a + 1 := by omega
        have htl : (md.take (a + 1)).length = a + 1 := by rw [List.length_take]; omega
        simp only [e2, htl]
        split
        · rename_i hb1
          have e3 : ix (md.take (a + 1)) (b : Int) = ix md (b : Int) := by
            rw [ix_lt (by omega), ix_lt (by omega), List.getElem_take]
          rw [e3]
          have hbx := hJ.mi.inn _ (ix_mem (xs := md) (i := (b : Int)) (by omega) (by omega))
          have hbc := hJ.mi.clo _ (ix_mem (xs := md) (i := (b : Int)) (by omega) (by omega))
          generalize ix md (a : Int) = x at *
          generalize ix md (b : Int) = y at *
          have r1 := T.row x hax.1 hax.2
          have r2 := T.row y hbx.1 hbx.2
          have m1 := T.mu hax.1 hax.2 hbx.1 hbx.2
          have m2 := T.mu hbx.1 hbx.2 hax.1 hax.2
          have c1 := Clo.mul hac hbc
          have c2 := Clo.mul hbc hac
          unfold mu at m1 m2 c1 c2
          have l3 := hL.mi.len
          have le3 := hL.le
          refine ⟨by omega, by omega, hax.1, hax.2, hbx.1, by omega, m1.1, by omega, ?_⟩
          split
          · refine ⟨hbx.1, hbx.2, hax.1, by omega, m2.1, by omega, ?_⟩
            split
            · exact ⟨⟨by omega, by omega⟩, hX3 (b + 1, md3, mk3) ⟨by simp only; omega, hl3, hL⟩ rfl⟩
            · rename_i hn
              exact ⟨m2.1, by omega, by simp; omega, ⟨by omega, by omega⟩, hX3 (b + 1, _, _) ⟨by simp only; omega, by simp; omega, hL.add m2.1 m2.2 c2 hn⟩ rfl⟩
          · rename_i hn
            have hL2 := hL.add m1.1 m1.2 c1 hn
            have l4 := hL2.mi.len
            have le4 := hL2.le
            refine ⟨m1.1, by omega, by simp; omega, hbx.1, hbx.2, hax.1, by omega, m2.1, by omega, ?_⟩
            split
            · exact ⟨⟨by omega, by omega⟩, hX3 (b + 1, _, _) ⟨by simp only; omega, by simp; omega, hL2⟩ rfl⟩
            · rename_i hn2
              exact ⟨m2.1, by omega, by simp at le4 ⊢; omega, ⟨by omega, by omega⟩, hX3 (b + 1, _, _) ⟨by simp only; omega, by simp; omega, hL2.add m2.1 m2.2 c2 hn2⟩ rfl⟩
        · exact ⟨⟨by omega, by omega⟩, hX2 (a + 1, md3, mk3) ⟨by simp only; omega, hL⟩ rfl⟩
      · refine hX (a, g + 1, md, _, mk2) ⟨by simp only; omega, ha, ?_, ?_, ?_⟩ rfl
        · simp only [hGe]; omega
        · simp only [hGe]; exact hG2
        · simp only [hGe]; exact hJ
  · exact h gens (inB_mem.2 hG) fun x hx => hI.mi.clo _ (hI.up x (by omega))

/-! ### Validity -/
/-- All triples associate. -/
def AS (t : List (List Int)) : Prop := ∀ x y z : Nat, x < t.length → y < t.length → z < t.length → mu t (mu t x y) z = mu t x (mu t y z)
instance (t : List (List Int)) : Decidable (AS t) := decidable_of_iff ((iota t.length).all fun y => lgB t y) (by
  simp only [List.all_eq_true, mem_iota, lgB_iff]
  constructor
  · intro h x y z hx hy hz; exact h y (by omega) x z hx hz
  · intro h y hy x z hx hz
    obtain ⟨b, rfl⟩ := Int.eq_ofNat_of_zero_le hy.1
    exact h x b z hx (by omega) hz)
theorem AS.all {t : List (List Int)} (h : AS t) {x y z : Int} (hx : 0 ≤ x ∧ x < t.length) (hy : 0 ≤ y ∧ y < t.length) (hz : 0 ≤ z ∧ z < t.length) : mu t (mu t x y) z = mu t x (mu t y z) := by
  obtain ⟨a, rfl⟩ := Int.eq_ofNat_of_zero_le hx.1
  obtain ⟨b, rfl⟩ := Int.eq_ofNat_of_zero_le hy.1
  obtain ⟨c, rfl⟩ := Int.eq_ofNat_of_zero_le hz.1
  exact h a b c (by omega) (by omega) (by omega)
theorem lgB_all {t : List (List Int)} {g : Int} (h : lgB t g = true) {x y : Int} (hx : 0 ≤ x ∧ x < t.length) (hy : 0 ≤ y ∧ y < t.length) : mu t (mu t x g) y = mu t x (mu t g y) := by
  obtain ⟨a, rfl⟩ := Int.eq_ofNat_of_zero_le hx.1
  obtain ⟨b, rfl⟩ := Int.eq_ofNat_of_zero_le hy.1
  exact lgB_iff.1 h a b (by omega) (by omega)
theorem lgB_mu {t : List (List Int)} (T : Tb t t.length) {g k : Int} (hg : 0 ≤ g ∧ g < t.length) (hk : 0 ≤ k ∧ k < t.length) (h1 : lgB t g = true) (h2 : lgB t k = true) : lgB t (mu t g k) = true := by
  refine lgB_iff.2 fun x y hx hy => ?_
  have hx' : 0 ≤ (x : Int) ∧ (x : Int) < t.length := by omega
  have hy' : 0 ≤ (y : Int) ∧ (y : Int) < t.length := by omega
  rw [← lgB_all h1 hx' hk, lgB_all h2 (T.mu hx'.1 hx'.2 hg.1 hg.2) hy', lgB_all h1 hx' (T.mu hk.1 hk.2 hy'.1 hy'.2), ← lgB_all h2 hg hy']
/-- Light's test decides. -/
theorem light {t : List (List Int)} (T : Tb t t.length) {G : List Int} (hG : inB t.length G = true) (hc : ∀ x : Nat, x < t.length → Clo t G x) : G.all (lgB t) = decide (AS t) := by
  have hin := inB_mem.1 hG
  by_cases h : AS t
  · rw [decide_eq_true h, List.all_eq_true]
    exact fun g hg => lgB_iff.2 fun x y hx hy => h.all (by omega) (hin g hg) (by omega)
  · rw [decide_eq_false h, Bool.eq_false_iff]
    intro ha
    rw [List.all_eq_true] at ha
    have key : ∀ x, Clo t G x → lgB t x = true := fun x hx => by
      induction hx with
      | gen hg => exact ha _ hg
      | mul h1 h2 i1 i2 => exact lgB_mu T (h1.in_ T hin) (h2.in_ T hin) i1 i2
    exact h fun x y z hx hy hz => lgB_iff.1 (key y (hc y hy)) x z hx hz
/-- Valid: the right shape, and associative. -/
def VT (t : List (List Int)) : Bool := SH t && decide (AS t)
def vaC (t : List (List Int)) : Int := if SH t = true then (if AS t then 0 else 5) else shC t
theorem vaC0 {t : List (List Int)} : vaC t = 0 ↔ VT t = true := by
  unfold vaC VT
  by_cases h : SH t = true
  · rw [if_pos h, h]
    by_cases h2 : AS t
    · simp [h2]
    · simp [h2]
  · rw [if_neg h]
    have : shC t ≠ 0 := fun hh => h (shC0.1 hh)
    simp [h, this]
theorem VT.sh {t : List (List Int)} (h : VT t = true) : SH t = true := by simp only [VT, Bool.and_eq_true] at h; exact h.1
theorem VT.as {t : List (List Int)} (h : VT t = true) : AS t := by simp only [VT, Bool.and_eq_true, decide_eq_true_eq] at h; exact h.2
theorem mult_Validate_ok {t : List (List Int)} {K : Int → Prop} (h : K (vaC t)) : mult_Validate t K := by
  unfold mult_Validate
  refine mult_shape_ok ?_
  split
  · rename_i h0
    have ht := shC0.1 h0
    rw [vaC, if_pos ht] at h
    refine mult_spanning_ok ht fun G hG hc => mult_associates_ok ht hG ?_
    rw [light (SH.tb ht) hG hc]
    by_cases ha : AS t
    · simpa [ha] using h
    · simpa [ha] using h
  · rename_i h0
    rw [vaC, if_neg (fun hh => h0 (shC0.2 hh))] at h; exact h
theorem mult_valid_ok {t : List (List Int)} {K : Bool → Prop} (h : K (VT t)) : mult_valid t K := by
  unfold mult_valid
  refine mult_Validate_ok ?_
  by_cases hv : VT t = true
  · rw [if_pos (vaC0.2 hv)]; rw [hv] at h; exact h
  · rw [if_neg (fun hh => hv (vaC0.1 hh))]; rw [Bool.eq_false_iff.2 hv] at h; exact h
end Sg
namespace Sg
open Go
set_option linter.unusedVariables false
set_option linter.unusedSimpArgs false

/-! ### The least triple that is not associative -/
def bad (t : List (List Int)) (x y z : Nat) : Prop := mu t (mu t x y) z ≠ mu t x (mu t y z)
def Fst (t : List (List Int)) (x y z : Nat) : Prop := x < t.length ∧ y < t.length ∧ z < t.length ∧ bad t x y z ∧ (∀ a b c : Nat, a < x → b < t.length → c < t.length → ¬ bad t a b c) ∧ (∀ b c : Nat, b < y → c < t.length → ¬ bad t x b c) ∧ ∀ c : Nat, c < z → ¬ bad t x y c
def AsR (t : List (List Int)) (x y z f : Int) : Prop := (f = 5 ∧ vaC t = 5 ∧ ∃ a b c : Nat, x = a ∧ y = b ∧ z = c ∧ Fst t a b c) ∨ (f ≠ 5 ∧ f = vaC t ∧ x = 0 ∧ y = 0 ∧ z = 0)
theorem Fst.uniq {t : List (List Int)} {x y z x' y' z' : Nat} (h : Fst t x y z) (k : Fst t x' y' z') : x = x' ∧ y = y' ∧ z = z' := by
  obtain ⟨h1, h2, h3, h4, h5, h6, h7⟩ := h
  obtain ⟨k1, k2, k3, k4, k5, k6, k7⟩ := k
  rcases Nat.lt_trichotomy x x' with hx | hx | hx
  · exact absurd h4 (k5 _ _ _ hx h2 h3)
  · subst hx
    rcases Nat.lt_trichotomy y y' with hy | hy | hy
    · exact absurd h4 (k6 _ _ hy h3)
    · subst hy
      rcases Nat.lt_trichotomy z z' with hz | hz | hz
      · exact absurd h4 (k7 _ hz)
      · exact ⟨rfl, rfl, hz⟩
      · exact absurd k4 (h7 _ hz)
    · exact absurd k4 (h6 _ _ hy k3)
  · exact absurd k4 (h5 _ _ _ hx k2 k3)
theorem AsR.uniq {t : List (List Int)} {x y z f x' y' z' f' : Int} (h : AsR t x y z f) (k : AsR t x' y' z' f') : x = x' ∧ y = y' ∧ z = z' ∧ f = f' := by
  rcases h with ⟨h1, h2, a, b, c, rfl, rfl, rfl, hf⟩ | ⟨h1, h2, rfl, rfl, rfl⟩ <;> rcases k with ⟨k1, k2, a', b', c', rfl, rfl, rfl, kf⟩ | ⟨k1, k2, rfl, rfl, rfl⟩
  · obtain ⟨rfl, rfl, rfl⟩ := hf.uniq kf
    exact ⟨rfl, rfl, rfl, by omega⟩
  · omega
  · omega
  · exact ⟨rfl, rfl, rfl, by omega⟩
theorem AsR.code {t : List (List Int)} {x y z f : Int} (h : AsR t x y z f) : f = vaC t := by
  rcases h with ⟨h1, h2, _⟩ | ⟨h1, h2, _⟩ <;> omega
theorem vaC_sh {t : List (List Int)} (h : vaC t = 5) : SH t = true := by
  unfold vaC at h
  by_cases hs : SH t = true
  · exact hs
  · rw [if_neg hs] at h; unfold shC at h; split at h
    · omega
    · simp at h
theorem vaC5 {t : List (List Int)} (ht : SH t = true) (h : ∃ x y z : Nat, x < t.length ∧ y < t.length ∧ z < t.length ∧ bad t x y z) : vaC t = 5 := by
  obtain ⟨x, y, z, hx, hy, hz, hb⟩ := h
  rw [vaC, if_pos ht, if_neg (fun ha => hb (ha x y z hx hy hz))]
theorem vaC_as {t : List (List Int)} (ht : SH t = true) (h : ∀ x y z : Nat, x < t.length → y < t.length → z < t.length → ¬ bad t x y z) : vaC t = 0 := by
  rw [vaC, if_pos ht, if_pos (show AS t from fun x y z hx hy hz => Classical.not_not.1 (h x y z hx hy hz))]
theorem ref14_Associative_ok {t : List (List Int)} {K : Int → Int → Int → Int → Prop} (h : ∀ x y z f, AsR t x y z f → K x y z f) : ref14_Associative t K := by
  unfold ref14_Associative
  refine ref14_Shape_ok ?_
  split
  · rename_i h0
    have ht := shC0.1 h0
    have T := SH.tb ht
    have n4 := T.n4
    refine fun _ => LoopWP.scan t.length (fun a => ∀ b c : Nat, b < t.length → c < t.length → ¬ bad t a b c) ?_
    intro x X hx hI hX
    show ref14_Associative_L1 t K _ x
    unfold ref14_Associative_L1
    split
    · have hxn : (x : Int) < t.length := by omega
      have r1 := T.row x (by omega) hxn
      refine LoopWP.scan t.length (fun b => ∀ c : Nat, c < t.length → ¬ bad t x b c) ?_
      intro y X2 hy hJ hX2
      show ref14_Associative_L2 t x _ K _ y
      unfold ref14_Associative_L2
      split
      · have hyn : (y : Int) < t.length := by omega
        have r2 := T.row y (by omega) hyn
        have m1 := T.mu (x := x) (y := y) (by omega) hxn (by omega) hyn
        unfold mu at m1
        have r3 := T.row _ m1.1 m1.2
        refine LoopWP.scan t.length (fun c => ¬ bad t x y c) ?_
        intro z X3 hz hL hX3
        show ref14_Associative_L3 t x y _ K _ z
        unfold ref14_Associative_L3
        split
        · have hzn : (z : Int) < t.length := by omega
          have m2 := T.mu (x := y) (y := z) (by omega) hyn (by omega) hzn
          unfold mu at m2
          refine ⟨by omega, by omega, by omega, by omega, m1.1, m1.2, by omega, by omega, by omega, by omega, by omega, by omega, by omega, by omega, m2.1, by omega, ?_⟩
          split
          · rename_i he
            exact hX3 (by omega) fun hb => hb he
          · rename_i he
            have hF : Fst t x y z := ⟨by omega, by omega, by omega, he, fun a b c ha => hI a ha b c, fun b c hb => hJ b hb c, hL⟩
            exact h _ _ _ _ (.inl ⟨rfl, vaC5 ht ⟨x, y, z, by omega, by omega, by omega, he⟩, x, y, z, rfl, rfl, rfl, hF⟩)
        · exact hX2 (by omega) fun c hc => hL c (by omega)
      · exact hX (by omega) fun b c hb hc => hJ b (by omega) c hc
    · have h5 := vaC_as ht fun a b c ha hb hc => hI a (by omega) b c hb hc
      exact h _ _ _ _ (.inr ⟨by omega, h5.symm, rfl, rfl, rfl⟩)
  · rename_i h0
    have hs : ¬ SH t = true := fun hh => h0 (shC0.2 hh)
    have e : vaC t = shC t := by rw [vaC, if_neg hs]
    exact h _ _ _ _ (.inr ⟨fun h5 => hs (vaC_sh (e.trans h5)), e.symm, rfl, rfl, rfl⟩)
theorem ref14_Validate_ok {t : List (List Int)} {K : Int → Prop} (h : K (vaC t)) : ref14_Validate t K := by
  unfold ref14_Validate
  exact ref14_Associative_ok fun x y z f hf => by rw [hf.code]; exact h
theorem ref14_Valid_ok {t : List (List Int)} {K : Bool → Prop} (h : K (VT t)) : ref14_Valid t K := by
  unfold ref14_Valid
  refine ref14_Validate_ok ?_
  by_cases hv : VT t = true
  · rw [if_pos (vaC0.2 hv)]; rw [hv] at h; exact h
  · rw [if_neg (fun hh => hv (vaC0.1 hh))]; rw [Bool.eq_false_iff.2 hv] at h; exact h
/-! ### Identity and zero -/
def isI (t : List (List Int)) (e : Nat) : Prop := ∀ x : Nat, x < t.length → mu t e x = x ∧ mu t x e = x
def isZ (t : List (List Int)) (e : Nat) : Prop := ∀ x : Nat, x < t.length → mu t e x = e ∧ mu t x e = e
/-- The first place where p holds, or -1. -/
def FR (n : Nat) (p : Nat → Prop) (r : Int) : Prop := (∃ e : Nat, e < n ∧ r = e ∧ p e ∧ ∀ j : Nat, j < e → ¬ p j) ∨ (r = -1 ∧ ∀ j : Nat, j < n → ¬ p j)
theorem FR.uniq {n : Nat} {p : Nat → Prop} {r r' : Int} (h : FR n p r) (k : FR n p r') : r = r' := by
  rcases h with ⟨e, h1, rfl, h2, h3⟩ | ⟨rfl, h⟩ <;> rcases k with ⟨e', k1, rfl, k2, k3⟩ | ⟨rfl, k⟩
  · rcases Nat.lt_trichotomy e e' with hx | hx | hx
    · exact absurd h2 (k3 _ hx)
    · rw [hx]
    · exact absurd k2 (h3 _ hx)
  · exact absurd h2 (k _ h1)
  · exact absurd k2 (h _ k1)
  · rfl
theorem FR.ex (p : Nat → Prop) (n : Nat) : ∃ r, FR n p r := by
  by_cases h : ∃ e, e < n ∧ p e
  · obtain ⟨e, he, hp⟩ := h
    obtain ⟨m, hm, hme, hmin⟩ := least_of p e hp
    exact ⟨m, .inl ⟨m, by omega, rfl, hm, hmin⟩⟩
  · exact ⟨-1, .inr ⟨rfl, fun j hj hp => h ⟨j, hj, hp⟩⟩⟩
def idR (t : List (List Int)) (r : Int) : Prop := FR t.length (isI t) r
def zeR (t : List (List Int)) (r : Int) : Prop := FR t.length (isZ t) r
theorem mult_elements_ok {t : List (List Int)} (n4 : t.length ≤ 400) {K : List Int → Prop} (h : K (iota t.length)) : mult_elements t K := by
  unfold mult_elements
  refine fun _ => ⟨by omega, by omega, LoopWP.fold t.length (fun k (l : List Int) => l.length = t.length ∧ ∀ j : Nat, j < k → ix l j = j) ⟨by simp, fun j hj => absurd hj (Nat.not_lt_zero _)⟩ ?_⟩
  intro k l X hk hI hX
  obtain ⟨hl, hI⟩ := hI
  show mult_elements_L1 t K _ k l
  unfold mult_elements_L1
  simp only [List.length_replicate]
  split
  · refine ⟨by omega, by omega, ⟨by omega, by omega⟩, hX _ (by omega) ⟨by simpa using hl, fun j hj => ?_⟩⟩
    rw [ix_st _ (by omega) (by omega) (by omega)]
    split
    · omega
    · exact hI j (by omega)
  · have : l = iota t.length := list_ix (by simpa using hl) fun j hj => by rw [hI j (by omega), ix_iota (by omega)]
    rw [← this] at h; exact h
end Sg
namespace Sg
open Go
set_option linter.unusedVariables false
set_option linter.unusedSimpArgs false

/-- The powers of an element: at k the one with the exponent k + 1. -/
def pow (t : List (List Int)) (x : Int) : Nat → Int
  | 0 => x
  | k + 1 => mu t (pow t x k) x
theorem pow_in {t : List (List Int)} {n : Nat} (T : Tb t n) {x : Int} (hx : 0 ≤ x ∧ x < n) : ∀ k, 0 ≤ pow t x k ∧ pow t x k < n
  | 0 => hx
  | k + 1 => T.mu (pow_in T hx k).1 (pow_in T hx k).2 hx.1 hx.2
section
variable {t : List (List Int)} (hv : VT t = true) {x : Int} (hx : 0 ≤ x ∧ x < t.length)
include hv hx
theorem pow_mu (a b : Nat) : mu t (pow t x a) (pow t x b) = pow t x (a + b + 1) := by
  have T := SH.tb (VT.sh hv)
  induction b with
  | zero => rfl
  | succ b ih =>
    show mu t (pow t x a) (mu t (pow t x b) x) = mu t (pow t x (a + b + 1)) x
    rw [← ih, (VT.as hv).all (pow_in T hx a) (pow_in T hx b) hx]
theorem pow_pow (a b : Nat) : pow t (pow t x a) b = pow t x ((a + 1) * (b + 1) - 1) := by
  induction b with
  | zero => simp [pow]
  | succ b ih =>
    show mu t (pow t (pow t x a) b) (pow t x a) = _
    rw [ih, pow_mu hv hx]
    congr 1
    rw [Nat.mul_add (a + 1) (b + 1) 1]
    have : 1 ≤ (a + 1) * (b + 1) := Nat.mul_pos (by omega) (by omega)
    omega
end
/-- The values come again: at m the value of at, none before. -/
structure RP (g : Nat → Int) (a m : Nat) : Prop where
  lt : a < m
  eq : g m = g a
  inj : ∀ i j, i < j → j < m → g i ≠ g j
theorem RP.uniq {g : Nat → Int} {a m a' m' : Nat} (h : RP g a m) (k : RP g a' m') : a = a' ∧ m = m' := by
  have hm : m = m' := by
    rcases Nat.lt_trichotomy m m' with hx | hx | hx
    · exact absurd h.eq.symm (k.inj _ _ h.lt hx)
    · exact hx
    · exact absurd k.eq.symm (h.inj _ _ k.lt hx)
  subst hm
  refine ⟨?_, rfl⟩
  have e := h.eq.symm.trans k.eq
  rcases Nat.lt_trichotomy a a' with hx | hx | hx
  · exact absurd e (h.inj _ _ hx k.lt)
  · exact hx
  · exact absurd e.symm (h.inj _ _ hx h.lt)
theorem inj_le {g : Nat → Int} {n m : Nat} (hg : ∀ k, 0 ≤ g k ∧ g k < (n : Int)) (h : ∀ i j, i < j → j < m → g i ≠ g j) : m ≤ n := by
  rcases Nat.lt_or_ge n m with hlt | hge
  · obtain ⟨a, b, hab, hb, he⟩ := pigeon n g fun k _ => hg k
    exact absurd he (h a b hab (by omega))
  · exact hge
theorem RP.le {g : Nat → Int} {n a m : Nat} (h : RP g a m) (hg : ∀ k, 0 ≤ g k ∧ g k < (n : Int)) : m ≤ n := inj_le hg h.inj
/-- Powers from the index on come again with the period. -/
theorem pow_shift {t : List (List Int)} {x : Int} {a m : Nat} (h : RP (pow t x) a m) : ∀ k, a ≤ k → pow t x (k + (m - a)) = pow t x k := by
  intro k hk
  obtain ⟨d, rfl⟩ := Nat.exists_eq_add_of_le hk
  induction d with
  | zero => rw [Nat.add_zero, show a + (m - a) = m from by have := h.lt; omega]; exact h.eq
  | succ d ih =>
    have := ih (by omega)
    show pow t x (a + (d + 1) + (m - a)) = mu t (pow t x (a + d)) x
    rw [← this]
    show _ = pow t x (a + d + (m - a) + 1)
    congr 1; omega
theorem pow_shift_mul {t : List (List Int)} {x : Int} {a m : Nat} (h : RP (pow t x) a m) (q k : Nat) (hk : a ≤ k) : pow t x (k + q * (m - a)) = pow t x k := by
  induction q with
  | zero => simp
  | succ q ih => rw [Nat.succ_mul, ← Nat.add_assoc, pow_shift h _ (by omega), ih]
theorem pow_wrap {t : List (List Int)} {x : Int} {a m : Nat} (h : RP (pow t x) a m) (k : Nat) (hk : a ≤ k) : pow t x (a + (k - a) % (m - a)) = pow t x k := by
  have := pow_shift_mul h ((k - a) / (m - a)) (a + (k - a) % (m - a)) (by omega)
  rw [← this]
  congr 1
  have := Nat.mod_add_div (k - a) (m - a)
  rw [Nat.mul_comm] at this
  omega
/-- What the program and the reference say of a power: index and period, as numbers. -/
def ipR (t : List (List Int)) (x i p : Int) : Prop := ∃ a m : Nat, RP (pow t x) a m ∧ i = (a : Int) + 1 ∧ p = (m : Int) - a
theorem ipR.uniq {t : List (List Int)} {x i p i' p' : Int} (h : ipR t x i p) (k : ipR t x i' p') : i = i' ∧ p = p' := by
  obtain ⟨a, m, h1, rfl, rfl⟩ := h
  obtain ⟨b, l, k1, rfl, rfl⟩ := k
  obtain ⟨rfl, rfl⟩ := h1.uniq k1
  exact ⟨rfl, rfl⟩
/-- The idempotent power. -/
def omR (t : List (List Int)) (x r : Int) : Prop := ∃ j, r = pow t x j ∧ mu t r r = r
theorem omR.uniq {t : List (List Int)} (hv : VT t = true) {x : Int} (hx : 0 ≤ x ∧ x < t.length) {r r' : Int} (h : omR t x r) (k : omR t x r') : r = r' := by
  obtain ⟨a, rfl, ha⟩ := h
  obtain ⟨b, rfl, hb⟩ := k
  have id_pow : ∀ y : Int, mu t y y = y → ∀ c, pow t y c = y := fun y hy c => by
    induction c with
    | zero => rfl
    | succ c ih => show mu t (pow t y c) y = y; rw [ih, hy]
  have e1 := pow_pow hv hx a b
  have e2 := pow_pow hv hx b a
  rw [id_pow _ ha b] at e1
  rw [id_pow _ hb a, Nat.mul_comm] at e2
  rw [e1, e2]
/-- There is one among the powers up to the first that comes again. -/
theorem omR.mul {t : List (List Int)} (hv : VT t = true) {x : Int} (hx : 0 ≤ x ∧ x < t.length) {a m q : Nat} (h : RP (pow t x) a m) (hq : a + 1 ≤ q * (m - a)) : mu t (pow t x (q * (m - a) - 1)) (pow t x (q * (m - a) - 1)) = pow t x (q * (m - a) - 1) := by
  rw [pow_mu hv hx]
  have := pow_shift_mul h q (q * (m - a) - 1) (by omega)
  rw [← this]
  congr 1; omega
/-- The least multiple of the period that is not less than the index. -/
theorem ceil_mul {i p : Nat} (hi : 1 ≤ i) (hp : 1 ≤ p) : ∃ q, ((((i : Int) + p - 1).tdiv p) * p) = ((q * p : Nat) : Int) ∧ i ≤ q * p ∧ q * p ≤ i + p - 1 ∧ ((i : Int) + p - 1).tdiv p = q := by
  refine ⟨(i + p - 1) / p, ?_, ?_, ?_, ?_⟩
  · rw [show (i : Int) + p - 1 = ((i + p - 1 : Nat) : Int) from by omega, ← Int.ofNat_tdiv]; simp
  · have h1 := Nat.mod_add_div (i + p - 1) p
    have h2 := Nat.mod_lt (i + p - 1) (show 0 < p by omega)
    rw [Nat.mul_comm] at h1; omega
  · have := Nat.div_mul_le_self (i + p - 1) p; omega
  · rw [show (i : Int) + p - 1 = ((i + p - 1 : Nat) : Int) from by omega, ← Int.ofNat_tdiv]
end Sg
namespace Sg
open Go
set_option linter.unusedVariables false
set_option linter.unusedSimpArgs false

theorem c2_va : vaC [[0, 1], [1, 0]] = 0 := by decide
theorem c2_vt : VT [[0, 1], [1, 0]] = true := by decide
end Sg
namespace Sg
open Go
set_option linter.unusedVariables false
set_option linter.unusedSimpArgs false

/-- The image of a letter. -/
def lt (im : List Int) (b : UInt8) : Int := ix im ((b.toNat : Int) - 97)
/-- The product of the images of a word that is not empty. -/
def val (t : List (List Int)) (im : List Int) : Str → Int
  | [] => 0
  | b :: w => w.foldl (fun x b => mu t x (lt im b)) (lt im b)
theorem val_snoc {t : List (List Int)} {im : List Int} {w : Str} (hw : w ≠ []) (b : UInt8) : val t im (w ++ [b]) = mu t (val t im w) (lt im b) := by
  cases w with
  | nil => exact absurd rfl hw
  | cons a w => simp [val, List.foldl_append]
theorem lt_in {t : List (List Int)} {im : List Int} (hi : inB t.length im = true) {b : UInt8} (h1 : 97 ≤ b.toNat) (h2 : (b.toNat : Int) - 97 < im.length) : 0 ≤ lt im b ∧ lt im b < t.length :=
  inB_mem.1 hi _ (ix_mem (by omega) (by omega))
theorem wrapU {b : UInt8} (h : 97 ≤ b.toNat) : IntKind.u8.wrap ((b.toNat : Int) - 97) = (b.toNat : Int) - 97 := by
  have := b.toNat_lt
  rw [IntKind.wrap_u8]; omega
theorem val_in {t : List (List Int)} {n : Nat} (T : Tb t n) {im : List Int} (hi : ∀ b : UInt8, 97 ≤ b.toNat → (b.toNat : Int) - 97 < im.length → 0 ≤ lt im b ∧ lt im b < n) : ∀ w : Str, w ≠ [] → (∀ b ∈ w, 97 ≤ b.toNat ∧ (b.toNat : Int) - 97 < im.length) → 0 ≤ val t im w ∧ val t im w < n := by
  intro w
  induction w using snoc_ind with
  | h0 => intro h; exact absurd rfl h
  | h1 w b ih =>
    intro _ hb
    have hbb := hb b (by simp)
    by_cases hw : w = []
    · subst hw; exact hi b hbb.1 hbb.2
    · rw [val_snoc hw]
      have h1 := ih hw fun c hc => hb c (by simp [hc])
      have h2 := hi b hbb.1 hbb.2
      exact T.mu h1.1 h1.2 h2.1 h2.2
theorem val_app {t : List (List Int)} (hv : VT t = true) {im : List Int} (hi : inB t.length im = true) {u : Str} (hu : u ≠ []) (hub : ∀ b ∈ u, 97 ≤ b.toNat ∧ (b.toNat : Int) - 97 < im.length) :
    ∀ w : Str, w ≠ [] → (∀ b ∈ w, 97 ≤ b.toNat ∧ (b.toNat : Int) - 97 < im.length) → val t im (u ++ w) = mu t (val t im u) (val t im w) := by
  have T := SH.tb (VT.sh hv)
  have hl : ∀ b : UInt8, 97 ≤ b.toNat → (b.toNat : Int) - 97 < im.length → 0 ≤ lt im b ∧ lt im b < t.length := fun b h1 h2 => lt_in hi h1 h2
  have hvu := val_in T hl u hu hub
  intro w
  induction w using snoc_ind with
  | h0 => intro h; exact absurd rfl h
  | h1 w b ih =>
    intro _ hb
    have hbb := hb b (by simp)
    by_cases hw : w = []
    · subst hw; rw [List.nil_append, val_snoc hu]; rfl
    · have hwb : ∀ c ∈ w, 97 ≤ c.toNat ∧ (c.toNat : Int) - 97 < im.length := fun c hc => hb c (by simp [hc])
      rw [← List.append_assoc, val_snoc (by simp [hu]), ih hw hwb, val_snoc hw, (VT.as hv).all hvu (val_in T hl w hw hwb) (hl b hbb.1 hbb.2)]
/-- The value of a word, as program and reference have it. -/
def vaR (t : List (List Int)) (im : List Int) (w : Str) (r : Int) : Prop :=
  if 1 ≤ im.length ∧ WV w im.length = true ∧ inB t.length im = true ∧ VT t = true then (if w = [] then idR t r else r = val t im w) else r = -1
theorem vaR.uniq {t : List (List Int)} {im : List Int} {w : Str} {r r' : Int} (h : vaR t im w r) (k : vaR t im w r') : r = r' := by
  unfold vaR at h k
  split at h
  · rename_i hc
    rw [if_pos hc] at k
    split at h
    · rename_i hw; rw [if_pos hw] at k; exact h.uniq k
    · rename_i hw; rw [if_neg hw] at k; rw [h, k]
  · rename_i hc
    rw [if_neg hc] at k; rw [h, k]
theorem WV_mem {w : Str} {n : Int} (h : WV w n = true) : ∀ b ∈ w, 97 ≤ b.toNat ∧ (b.toNat : Int) - 97 < n := by
  intro b hb
  obtain ⟨j, hj, rfl⟩ := mem_ix.1 hb
  exact (WV_iff.1 h).2.2.2 j hj
theorem val_take {t : List (List Int)} {im : List Int} {w : Str} {k : Nat} (hk : 1 ≤ k) (h : k < w.length) : val t im (w.take (k + 1)) = mu t (val t im (w.take k)) (lt im (ix w (k : Int))) := by
  have hne : w.take k ≠ [] := fun hh => by
    have h1 : (w.take k).length = 0 := by rw [hh]; rfl
    rw [List.length_take] at h1; omega
  rw [take_ix h, val_snoc hne]
theorem take_ne {w : Str} {k : Nat} (hk : 1 ≤ k) (h : w ≠ []) : w.take k ≠ [] := by
  intro hh
  have h1 : (w.take k).length = 0 := by rw [hh]; rfl
  have h2 : 0 < w.length := List.length_pos_iff.2 h
  rw [List.length_take] at h1; omega
theorem idR_in {t : List (List Int)} {r : Int} (h : idR t r) (h0 : ¬ r < 0) : ∃ e : Nat, e < t.length ∧ r = e ∧ isI t e := by
  rcases h with ⟨e, h1, rfl, h2, _⟩ | ⟨rfl, _⟩
  · exact ⟨e, h1, rfl, h2⟩
  · omega
/-- The value of a concatenation. -/
theorem vaR_app {t : List (List Int)} {im : List Int} {u w : Str} {x y z : Int} (hu : vaR t im u y) (hw : vaR t im w x) (hx : ¬ x < 0) (hy : ¬ y < 0) (huw : WV (u ++ w) 6 = true) (hz : vaR t im (u ++ w) z) :
    (0 ≤ y ∧ y < t.length) ∧ (0 ≤ x ∧ x < t.length) ∧ z = mu t y x := by
  unfold vaR at hu hw hz
  split at hw
  · rename_i hc
    split at hu
    · rename_i hd
      obtain ⟨c1, c2, c3, c4⟩ := hc
      have T := SH.tb (VT.sh c4)
      have hl : ∀ b : UInt8, 97 ≤ b.toNat → (b.toNat : Int) - 97 < im.length → 0 ≤ lt im b ∧ lt im b < t.length := fun b h1 h2 => lt_in c3 h1 h2
      have hlen := (WV_iff.1 huw).2.2.1
      have hWV : WV (u ++ w) im.length = true := by
        obtain ⟨a1, a2, a3, a4⟩ := WV_iff.1 c2
        simp only [WV, Bool.and_eq_true, decide_eq_true_eq, List.all_eq_true, List.mem_append]
        exact ⟨⟨⟨a1, a2⟩, hlen⟩, fun b hb => hb.elim (WV_mem hd.2.1 b) (WV_mem c2 b)⟩
      rw [if_pos ⟨c1, hWV, c3, c4⟩] at hz
      have hub := WV_mem hd.2.1
      have hwb := WV_mem c2
      have inI : ∀ a : Int, 0 ≤ a ∧ a < t.length → ∃ m : Nat, a = m ∧ m < t.length := fun a ha => ⟨a.toNat, by omega, by omega⟩
      by_cases eu : u = []
      · rw [if_pos eu] at hu
        obtain ⟨e, e1, rfl, e2⟩ := idR_in hu hy
        subst eu
        by_cases ew : w = []
        · rw [if_pos ew] at hw
          obtain ⟨e', e1', rfl, e2'⟩ := idR_in hw hx
          subst ew
          rw [if_pos (by simp)] at hz
          refine ⟨by omega, by omega, ?_⟩
          rw [(e2 e' e1').1]
          exact hz.uniq hw
        · rw [if_neg ew] at hw
          rw [if_neg (by simpa using ew)] at hz
          have hin := val_in T hl w ew hwb
          subst hw
          refine ⟨by omega, hin, ?_⟩
          obtain ⟨m, hm, hml⟩ := inI _ hin
          rw [hz, List.nil_append, hm, (e2 m hml).1]
      · rw [if_neg eu] at hu
        have hinu := val_in T hl u eu hub
        subst hu
        by_cases ew : w = []
        · rw [if_pos ew] at hw
          obtain ⟨e', e1', rfl, e2'⟩ := idR_in hw hx
          subst ew
          rw [if_neg (by simpa using eu)] at hz
          refine ⟨hinu, by omega, ?_⟩
          obtain ⟨m, hm, hml⟩ := inI _ hinu
          rw [hz, List.append_nil, hm, (e2' m hml).2]
        · rw [if_neg ew] at hw
          rw [if_neg (by simp [eu])] at hz
          subst hw
          exact ⟨hinu, val_in T hl w ew hwb, by rw [hz, val_app c4 c3 eu hub w ew hwb]⟩
    · omega
  · omega
end Sg
namespace Sg
open Go
set_option linter.unusedVariables false
set_option linter.unusedSimpArgs false

theorem flatMap_len {α β : Type} {l : List α} {f : α → List β} {m : Nat} (h : ∀ a ∈ l, (f a).length = m) : (l.flatMap f).length = l.length * m := by
  induction l with
  | nil => simp
  | cons a l ih =>
    rw [List.flatMap_cons, List.length_append, ih fun b hb => h b (by simp [hb]), h a (by simp), List.length_cons, Nat.succ_mul, Nat.add_comm]
/-- One row of the product. -/
def dRow (m : Nat) (a b : List Int) : List Int := a.flatMap fun x => b.map fun y => x * m + y
def dTab (t u : List (List Int)) : List (List Int) := t.flatMap fun a => u.map fun b => dRow u.length a b
theorem dRow_len {m : Nat} {a b : List Int} : (dRow m a b).length = a.length * b.length := flatMap_len fun x _ => by simp
theorem dTab_len {t u : List (List Int)} : (dTab t u).length = t.length * u.length := flatMap_len fun x _ => by simp
theorem i64_mul {a b : Int} (ha : 0 ≤ a ∧ a ≤ 400) (hb : 0 ≤ b ∧ b ≤ 400) : 0 ≤ a * b ∧ a * b ≤ 160000 := by
  refine ⟨Int.mul_nonneg ha.1 hb.1, ?_⟩
  have := Int.mul_le_mul ha.2 hb.2 hb.1 (by decide : (0 : Int) ≤ 400)
  omega
section
variable {t u : List (List Int)} (T : Tb t t.length) (U : Tb u u.length)
include T U
end
/-- The table in which every product is element 0. -/
def zer (n : Nat) : List (List Int) := List.replicate n (List.replicate n (0 : Int))
theorem zer_VT {n : Nat} (h1 : 1 ≤ n) (h2 : n ≤ 30) : VT (zer n) = true := by
  have hix : ∀ x y : Nat, x < n → y < n → mu (zer n) x y = 0 := fun x y hx hy => by
    unfold mu zer; rw [ix_replicate _ _ hx, ix_replicate _ _ hy]
  have hs : SH (zer n) = true := SH_iff.2 ⟨by simp [zer]; omega, by simp [zer]; omega, fun j hj => by
    have hj' : j < n := by simpa [zer] using hj
    unfold zer
    rw [ix_replicate _ _ hj']
    refine rowB_iff.2 ⟨by simp, fun i hi => ?_⟩
    rw [ix_replicate _ _ (by simpa using hi)]; simp; omega⟩
  simp only [VT, hs, Bool.true_and, decide_eq_true_eq]
  intro x y z hx hy hz
  have hl : (zer n).length = n := by simp [zer]
  rw [hix x y (by omega) (by omega), hix y z (by omega) (by omega)]
  have := hix 0 z (by omega) (by omega)
  have := hix x 0 (by omega) (by omega)
  simp_all
end Sg
namespace Sg
open Go
set_option linter.unusedVariables false
set_option linter.unusedSimpArgs false

theorem iota_succ (k : Nat) : iota (k + 1) = iota k ++ [(k : Int)] := by simp [iota, List.range_succ]
theorem ref03_Members_ok {b : List Bool} (hb : b.length ≤ 1099511627776) {K : List Int → Prop} (h : K ((iota b.length).filter fun x => ix b x)) : ref03_Members b K := by
  unfold ref03_Members
  refine fun _ => LoopWP.fold b.length (fun k (l : List Int) => l = (iota k).filter fun x => ix b x) rfl ?_
  rintro k l X hk rfl hX
  show ref03_Members_L1 b K _ k _
  unfold ref03_Members_L1
  split
  · refine ⟨by omega, by omega, ?_⟩
    split
    · rename_i hm
      refine ⟨?_, hX _ (by omega) ?_⟩
      · have := List.length_filter_le (fun x => ix b x) (iota k); simp at this ⊢; omega
      · rw [iota_succ, List.filter_append]; simp [hm]
    · rename_i hm
      refine hX _ (by omega) ?_
      rw [iota_succ, List.filter_append]; simp [hm]
  · have : k = b.length := by omega
    subst this; exact h
theorem iota_asc (n : Nat) : (iota n).Pairwise (· < ·) := by
  unfold iota
  rw [List.pairwise_map]
  exact List.pairwise_lt_range.imp fun h => by omega
/-- An ascending list of what has a property. -/
def AscOf (p : Int → Prop) (l : List Int) : Prop := l.Pairwise (· < ·) ∧ ∀ x, x ∈ l ↔ p x
theorem asc_filter (n : Nat) (p : Int → Bool) : AscOf (fun x => (0 ≤ x ∧ x < (n : Int)) ∧ p x = true) ((iota n).filter p) :=
  ⟨(iota_asc n).filter _, fun x => by rw [List.mem_filter, mem_iota]⟩
theorem AscOf.uniq {p : Int → Prop} {l l' : List Int} (h : AscOf p l) (k : AscOf p l') : l = l' := by
  have key : ∀ l l' : List Int, l.Pairwise (· < ·) → l'.Pairwise (· < ·) → (∀ x, x ∈ l ↔ x ∈ l') → l = l' := by
    intro l
    induction l with
    | nil =>
      intro l' _ _ hm
      cases l' with
      | nil => rfl
      | cons b l' => exact absurd ((hm b).2 (by simp)) (by simp)
    | cons a l ih =>
      intro l' h1 h2 hm
      cases l' with
      | nil => exact absurd ((hm a).1 (by simp)) (by simp)
      | cons b l' =>
        rw [List.pairwise_cons] at h1 h2
        have hab : a = b := by
          have ha := (hm a).1 (by simp)
          have hb := (hm b).2 (by simp)
          rcases List.mem_cons.1 ha with e | ha
          · exact e
          · rcases List.mem_cons.1 hb with e | hb
            · exact e.symm
            · have := h1.1 b hb; have := h2.1 a ha; omega
        subst hab
        rw [ih l' h1.2 h2.2 fun x => ?_]
        constructor
        · intro hx
          rcases List.mem_cons.1 ((hm x).1 (by simp [hx])) with e | hx'
          · have := h1.1 x hx; omega
          · exact hx'
        · intro hx
          rcases List.mem_cons.1 ((hm x).2 (by simp [hx])) with e | hx'
          · have := h2.1 x hx; omega
          · exact hx'
  exact key l l' h.1 k.1 fun x => (h.2 x).trans (k.2 x).symm
theorem AscOf.nodup {p : Int → Prop} {l : List Int} (h : AscOf p l) : l.Nodup := h.1.imp fun hlt => Int.ne_of_lt hlt
theorem AscOf.all {p : Int → Prop} {l : List Int} {n : Nat} (h : AscOf p l) (hp : ∀ x, p x → 0 ≤ x ∧ x < (n : Int)) (hl : l.length = n) {x : Int} (hx : 0 ≤ x ∧ x < (n : Int)) : p x := by
  rw [← h.2]
  refine Classical.byContradiction fun hn => ?_
  have h1 : (x :: l).Nodup := List.nodup_cons.2 ⟨hn, h.nodup⟩
  have := nodup_le h1 (n := n) fun y hy => by
    rcases List.mem_cons.1 hy with e | hy
    · subst e; exact hx
    · exact hp y ((h.2 y).1 hy)
  simp at this; omega
theorem AscOf.full {p : Int → Prop} {l : List Int} {n : Nat} (h : AscOf p l) (hp : ∀ x, p x ↔ 0 ≤ x ∧ x < (n : Int)) : l.length = n := by
  have e : l = iota n := h.uniq ⟨iota_asc n, fun x => by rw [mem_iota, hp]⟩
  rw [e]; simp

/-- How many are not marked. -/
def unm (b : List Bool) : Nat := b.count false
theorem unm_st {b : List Bool} {x : Int} (h0 : 0 ≤ x) (h1 : x < b.length) (hx : ¬ ix b x = true) : unm (st b x true) + 1 = unm b := by
  obtain ⟨m, rfl⟩ := Int.eq_ofNat_of_zero_le h0
  have hm : m < b.length := by omega
  have hb : b[m] = false := by
    have : ix b (m : Int) = b[m] := ix_lt hm
    rw [this] at hx; simpa using hx
  unfold unm st
  simp only [Int.ofNat_eq_natCast, Int.toNat_natCast]
  rw [List.count_set hm]
  have hpos : 0 < b.count false := List.count_pos_iff.2 (by rw [← hb]; exact List.getElem_mem hm)
  simp [hb]
  omega
/-- What is marked lies in the closure, and the generators are marked. -/
structure GI (t : List (List Int)) (G : List Int) (b : List Bool) : Prop where
  len : b.length = t.length
  gen : ∀ x ∈ G, ix b x = true
  clo : ∀ x : Int, 0 ≤ x → x < t.length → ix b x = true → Clo t G x
theorem GI.st {t : List (List Int)} {G : List Int} {b : List Bool} (h : GI t G b) (hG : ∀ x ∈ G, 0 ≤ x ∧ x < (t.length : Int)) {x : Int} (h0 : 0 ≤ x) (h1 : x < t.length) (hc : Clo t G x) : GI t G (st b x true) := by
  have hl := h.len
  refine ⟨by simpa using hl, fun y hy => ?_, fun y y0 y1 hy => ?_⟩
  · rw [ix_st _ h0 (by omega) (hG y hy).1]
    split
    · rfl
    · exact h.gen y hy
  · rw [ix_st _ h0 (by omega) y0] at hy
    split at hy
    · rename_i e; subst e; exact hc
    · exact h.clo y y0 y1 hy
end Sg
namespace Sg
open Go
set_option linter.unusedVariables false
set_option linter.unusedSimpArgs false

/-! ### What DeleteFunc keeps -/
/-- Of the first numbers those up to j that are wanted lie ahead, behind j all lie as they did. -/
structure DI (p : Int → Bool) (n i j : Nat) (s : List Int) : Prop where
  len : s.length = n
  ij : i ≤ j
  jn : j ≤ n
  hd : s.take i = (iota j).filter p
  tl : ∀ k : Nat, j ≤ k → k < n → ix s (k : Int) = k
theorem DI.start {p : Int → Bool} {n k : Nat} (hk : k < n) (h : ∀ j : Nat, j < k → p j = true) (hn : p k = false) : DI p n k (k + 1) (iota n) := by
  refine ⟨by simp, by omega, by omega, ?_, fun m _ hm => ix_iota hm⟩
  have e1 : (iota n).take k = iota k := by
    unfold iota; rw [← List.map_take, List.take_range, Nat.min_eq_left (by omega)]
  rw [e1, iota_succ, List.filter_append, List.filter_eq_self.2 fun x hx => ?_]
  · simp [hn]
  · obtain ⟨h0, h1⟩ := mem_iota.1 hx
    obtain ⟨m, rfl⟩ := Int.eq_ofNat_of_zero_le h0
    exact h m (by omega)
theorem DI.drop {p : Int → Bool} {n i j : Nat} {s : List Int} (h : DI p n i j s) (hj : j < n) (hp : p j = false) : DI p n i (j + 1) s :=
  ⟨h.len, by have := h.ij; omega, by omega, by rw [h.hd, iota_succ, List.filter_append]; simp [hp], fun k hk hkn => h.tl k (by omega) hkn⟩
theorem DI.keep {p : Int → Bool} {n i j : Nat} {s : List Int} (h : DI p n i j s) (hj : j < n) (hp : p j = true) : DI p n (i + 1) (j + 1) (st s (i : Int) (ix s (j : Int))) := by
  have hij := h.ij
  have hl := h.len
  refine ⟨by simpa using hl, by omega, by omega, ?_, fun k hk hkn => ?_⟩
  · rw [h.tl j (Nat.le_refl _) hj, iota_succ, List.filter_append, ← h.hd]
    simp only [st, Int.toNat_natCast]
    rw [List.take_set, List.take_succ_eq_append_getElem (by omega), List.set_append_right _ _ (by simp; omega)]
    have h5 : i - min i s.length = 0 := by omega
    simp [hp, h5]
  · rw [ix_st _ (by omega) (by omega) (by omega), if_neg (by omega)]
    exact h.tl k (by omega) hkn
theorem DI.fin {p : Int → Bool} {n i : Nat} {s : List Int} (h : DI p n i n s) (q : List Int) : (s.take i ++ q).take i = (iota n).filter p := by
  have := h.ij
  have := h.len
  rw [List.take_append_of_le_length (by simp; omega), List.take_take, Nat.min_self, h.hd]
theorem filter_all {p : Int → Bool} {n : Nat} (h : ∀ j : Nat, j < n → p j = true) : (iota n).filter p = iota n := by
  rw [List.filter_eq_self]
  intro x hx
  obtain ⟨h0, h1⟩ := mem_iota.1 hx
  obtain ⟨m, rfl⟩ := Int.eq_ofNat_of_zero_le h0
  exact h m (by omega)
theorem foldD {S : Type} {body : Nat × Nat × S → (Nat × Nat × S → Prop) → Prop} (n : Nat) (I : Nat → Nat → S → Prop) {i0 j0 : Nat} {s0 : S} (hj : j0 ≤ n) (h0 : I i0 j0 s0)
    (h : ∀ i j s X, j ≤ n → I i j s → (∀ i' s', j < n → I i' (j + 1) s' → X (i', j + 1, s')) → body (i, j, s) X) : LoopWP body (i0, j0, s0) := by
  refine LoopWP.to n (fun s : Nat × Nat × S => s.2.1) (fun s => s.2.1 ≤ n ∧ I s.1 s.2.1 s.2.2) ⟨hj, h0⟩ (fun s h => h.1) ?_
  rintro ⟨i, j, s⟩ X ⟨hj, hI⟩ hX
  exact h i j s X hj hI fun i' s' hjn hs' => hX (i', j + 1, s') ⟨hjn, hs'⟩ rfl
def idemB (t : List (List Int)) (x : Int) : Bool := decide (mu t x x = x)
theorem mult_Idempotents_ok {t : List (List Int)} {K : List Int → Prop} (h : K (if VT t = true then (iota t.length).filter (idemB t) else [])) : mult_Idempotents t K := by
  unfold mult_Idempotents
  refine mult_valid_ok ?_
  split
  · rename_i hv
    rw [if_pos hv] at h
    have T := SH.tb (VT.sh hv)
    have n4 := T.n4
    refine mult_elements_ok n4 (LoopWP.scan t.length (fun j => idemB t j = true) ?_)
    intro k X hk hI hX
    show mult_Idempotents_L1 t (iota t.length) K _ k
    unfold mult_Idempotents_L1
    rw [iota_length]
    split
    · have hkl : k < t.length := by omega
      rw [ix_iota hkl]
      have r1 := T.row k (by omega) (by omega)
      refine ⟨by omega, by omega, by omega, by omega, by omega, by omega, ?_⟩
      split
      · rename_i he; exact hX hkl (decide_eq_true he)
      · rename_i he
        rw [if_neg (by omega)]
        refine foldD t.length (DI (idemB t) t.length) (by omega) (DI.start hkl hI (decide_eq_false he)) ?_
        intro i j s X2 hj hD hX2
        show mult_Idempotents_L2 t K _ i j s
        unfold mult_Idempotents_L2
        have hl := hD.len
        have hij := hD.ij
        split
        · have hjl : j < t.length := by omega
          have e1 := hD.tl j (Nat.le_refl _) hjl
          have r2 := T.row j (by omega) (by omega)
          rw [e1]
          refine ⟨by omega, by omega, by omega, by omega, by omega, by omega, ?_⟩
          split
          · rename_i hp
            have := hD.keep hjl (p := idemB t) (decide_eq_true hp)
            rw [e1] at this
            exact ⟨by omega, by omega, ⟨by omega, by omega⟩, ⟨by omega, by omega⟩, hX2 _ _ hjl this⟩
          · rename_i hp; exact hX2 _ _ hjl (hD.drop hjl (decide_eq_false hp))
        · have : j = t.length := by omega
          subst this
          refine ⟨by omega, by omega, by omega, by simp; omega, ?_⟩
          rw [show ((i : Int)).toNat = i from rfl, hD.fin]
          exact h
    · rw [if_pos rfl]
      have : k = t.length := by omega
      subst this
      rw [filter_all hI] at h; exact h
  · rename_i hv
    rw [if_neg hv] at h; exact h
/-- The powers come again. -/
theorem exRP {t : List (List Int)} {n : Nat} (T : Tb t n) {x : Int} (hx : 0 ≤ x ∧ x < n) : ∃ a m, RP (pow t x) a m := by
  obtain ⟨a, b, hab, _, he⟩ := pigeon n (pow t x) fun k _ => pow_in T hx k
  obtain ⟨m, ⟨a', ha', he'⟩, hm, hmin⟩ := least_of (fun m => ∃ a, a < m ∧ pow t x m = pow t x a) b ⟨a, hab, he.symm⟩
  exact ⟨a', m, ha', he', fun i j hij hj hh => hmin j hj ⟨i, hij, hh.symm⟩⟩
theorem exIdem {t : List (List Int)} (hv : VT t = true) : ∃ e : Int, (0 ≤ e ∧ e < t.length) ∧ mu t e e = e := by
  have T := SH.tb (VT.sh hv)
  have hx : 0 ≤ (0 : Int) ∧ (0 : Int) < t.length := ⟨by omega, by have := T.n1; omega⟩
  obtain ⟨a, m, hR⟩ := exRP T hx
  have hlt := hR.lt
  exact ⟨_, pow_in T hx _, omR.mul (q := a + 1) hv hx hR (Nat.le_mul_of_pos_right _ (by omega))⟩
end Sg
namespace Sg
open Go
set_option linter.unusedVariables false
set_option linter.unusedSimpArgs false

/-! ### The center -/
def cenB (t : List (List Int)) (x : Int) : Bool := (iota t.length).all fun y => decide (mu t x y = mu t y x)
theorem cenB_iff {t : List (List Int)} {x : Int} : cenB t x = true ↔ ∀ y : Nat, y < t.length → mu t x y = mu t y x := by
  simp only [cenB, List.all_eq_true, mem_iota, decide_eq_true_eq]
  constructor
  · intro h y hy; exact h y (by omega)
  · intro h y hy
    obtain ⟨b, rfl⟩ := Int.eq_ofNat_of_zero_le hy.1
    exact h b (by omega)
theorem cenB_false {t : List (List Int)} {x : Int} (h : ¬ ∀ y : Nat, y < t.length → mu t x y = mu t y x) : cenB t x = false := by
  rw [Bool.eq_false_iff, ne_eq, cenB_iff]; exact h
def cenF (t : List (List Int)) : List Int := if VT t = true then (iota t.length).filter (cenB t) else []
theorem cenF_le {t : List (List Int)} : (cenF t).length ≤ t.length := by
  unfold cenF
  split
  · have := List.length_filter_le (cenB t) (iota t.length); simpa using this
  · simp
/-! ### Products -/
/-- Is it a product of two elements? -/
def prB (t : List (List Int)) (z : Int) : Prop := ∃ x y : Nat, x < t.length ∧ y < t.length ∧ mu t x y = z
open Classical in
noncomputable def indF (t : List (List Int)) : List Int := (iota t.length).filter fun z => decide (¬ prB t z)
end Sg
namespace Sg
open Go
set_option linter.unusedVariables false
set_option linter.unusedSimpArgs false

/-- A list that is closed under its generators. -/
structure CL (t : List (List Int)) (n : Nat) (G L : List Int) (mk : List Bool) : Prop where
  mi : MI t n G L mk
  gen : ∀ h ∈ G, h ∈ L
  rt : ∀ x ∈ L, ∀ h ∈ G, mu t x h ∈ L
theorem CL.all {t : List (List Int)} (hv : VT t = true) {G L : List Int} {mk : List Bool} (h : CL t t.length G L mk) (x : Int) : x ∈ L ↔ Clo t G x := by
  have T := SH.tb (VT.sh hv)
  have hG : ∀ y ∈ G, 0 ≤ y ∧ y < (t.length : Int) := fun y hy => h.mi.inn y (h.gen y hy)
  refine ⟨h.mi.clo x, fun hx => ?_⟩
  have mulr : ∀ z, Clo t G z → ∀ y ∈ L, mu t y z ∈ L := fun z hz => by
    induction hz with
    | gen hg => exact fun y hy => h.rt y hy _ hg
    | mul h1 h2 i1 i2 =>
      intro y hy
      rw [← (VT.as hv).all (h.mi.inn y hy) (h1.in_ T hG) (h2.in_ T hG)]
      exact i2 _ (i1 y hy)
  induction hx with
  | gen hg => exact h.gen _ hg
  | mul h1 h2 i1 i2 => exact mulr _ h2 _ i1
/-- A generator is being added: what the list holds when i elements are done. -/
structure GS (t : List (List Int)) (n : Nat) (G : List Int) (g : Int) (L0 : List Int) (i : Nat) (L : List Int) (mk : List Bool) : Prop where
  mi : MI t n (G ++ [g]) L mk
  pre : ∃ r, L = L0 ++ g :: r
  le : i ≤ L.length
  old : ∀ a : Nat, a < i → a < L0.length → mu t (ix L a) g ∈ L
  new : ∀ a : Nat, a < i → L0.length ≤ a → ∀ h ∈ G ++ [g], mu t (ix L a) h ∈ L
theorem GS.start {t : List (List Int)} {n : Nat} {G : List Int} {g : Int} {L0 : List Int} {mk : List Bool} (h : CL t n G L0 mk) (h0 : 0 ≤ g) (h1 : g < n) (hg : ¬ ix mk g = true) : GS t n G g L0 0 (L0 ++ [g]) (st mk g true) :=
  ⟨(h.mi.mono fun x hx => List.mem_append_left _ hx).add h0 h1 (.gen (by simp)) hg, ⟨[], rfl⟩, Nat.zero_le _, fun a ha => absurd ha (Nat.not_lt_zero _), fun a ha => absurd ha (Nat.not_lt_zero _)⟩
theorem ix_app {α : Type} [Inhabited α] {L r : List α} {a : Nat} (h : a < L.length) : ix (L ++ r) (a : Int) = ix L (a : Int) := by
  rw [ix_lt (by simp; omega), ix_lt h, List.getElem_append_left]
theorem GS.fin {t : List (List Int)} {n : Nat} {G : List Int} {g : Int} {L0 L : List Int} {mk0 mk : List Bool} (h0 : CL t n G L0 mk0) (h : GS t n G g L0 L.length L mk) : CL t n (G ++ [g]) L mk := by
  obtain ⟨r, hr⟩ := h.pre
  have sub : ∀ x ∈ L0, x ∈ L := fun x hx => by rw [hr]; simp [hx]
  refine ⟨h.mi, fun y hy => ?_, fun x hx y hy => ?_⟩
  · rcases List.mem_append.1 hy with hy | hy
    · exact sub y (h0.gen y hy)
    · rw [List.mem_singleton] at hy; subst hy; rw [hr]; simp
  · obtain ⟨a, ha, rfl⟩ := mem_ix.1 hx
    by_cases hal : a < L0.length
    · rcases List.mem_append.1 hy with hy | hy
      · have e1 : ix L (a : Int) = ix L0 (a : Int) := by rw [hr]; exact ix_app hal
        rw [e1]
        exact sub _ (h0.rt _ (ix_mem (by omega) (by omega)) y hy)
      · rw [List.mem_singleton] at hy; subst hy; exact h.old a ha hal
    · exact h.new a ha (by omega) y hy
theorem GS.grow {t : List (List Int)} {n : Nat} {G : List Int} {g : Int} {L0 : List Int} {i : Nat} {L : List Int} {mk : List Bool} (h : GS t n G g L0 i L mk) {x : Int} (x0 : 0 ≤ x) (x1 : x < n) (hc : Clo t (G ++ [g]) x) (hx : ¬ ix mk x = true) : GS t n G g L0 i (L ++ [x]) (st mk x true) := by
  obtain ⟨r, hr⟩ := h.pre
  have hle := h.le
  refine ⟨h.mi.add x0 x1 hc hx, ⟨r ++ [x], by rw [hr]; simp⟩, by simp; omega, fun a ha hal => ?_, fun a ha hal y hy => ?_⟩
  · rw [ix_app (by omega)]; exact List.mem_append_left _ (h.old a ha hal)
  · rw [ix_app (by omega)]; exact List.mem_append_left _ (h.new a ha hal y hy)
theorem GS.mem {t : List (List Int)} {n : Nat} {G : List Int} {g : Int} {L0 : List Int} {i : Nat} {L : List Int} {mk : List Bool} (h : GS t n G g L0 i L mk) {x : Int} (x0 : 0 ≤ x) (x1 : x < n) (hx : ix mk x = true) : x ∈ L := by
  obtain ⟨m, rfl⟩ := Int.eq_ofNat_of_zero_le x0
  exact (h.mi.mkd m (by omega)).1 hx
open Classical in
/-- The greedy choice. -/
noncomputable def gre (t : List (List Int)) : Nat → List Int
  | 0 => []
  | k + 1 => if Clo t (gre t k) k then gre t k else gre t k ++ [(k : Int)]
theorem gre_in {t : List (List Int)} : ∀ k, ∀ x ∈ gre t k, 0 ≤ x ∧ x < (k : Int)
  | 0, x, hx => by simp [gre] at hx
  | k + 1, x, hx => by
    unfold gre at hx
    split at hx
    · have := gre_in k x hx; omega
    · rcases List.mem_append.1 hx with hx | hx
      · have := gre_in k x hx; omega
      · rw [List.mem_singleton] at hx; omega
theorem gre_len {t : List (List Int)} : ∀ k, (gre t k).length ≤ k
  | 0 => by simp [gre]
  | k + 1 => by
    have := gre_len (t := t) k
    unfold gre
    split
    · omega
    · simp; omega
end Sg
namespace Sg
open Go
set_option linter.unusedVariables false
set_option linter.unusedSimpArgs false

def oRow (t : List (List Int)) (x : Nat) : List Int := t.map fun row => ix row (x : Int)
def opp (t : List (List Int)) : List (List Int) := (List.range t.length).map (oRow t)
@[simp] theorem oRow_len {t : List (List Int)} {x : Nat} : (oRow t x).length = t.length := by simp [oRow]
@[simp] theorem opp_len {t : List (List Int)} : (opp t).length = t.length := by simp [opp]
theorem ix_opp {t : List (List Int)} {x : Nat} (h : x < t.length) : ix (opp t) (x : Int) = oRow t x := by
  rw [ix_lt (by simpa using h)]; simp [opp]
theorem ix_oRow {t : List (List Int)} {x y : Nat} (h : y < t.length) : ix (oRow t x) (y : Int) = ix (ix t (y : Int)) (x : Int) := by
  unfold oRow; rw [ix_map _ (by omega) (by omega)]
theorem mu_opp {t : List (List Int)} {x y : Nat} (hx : x < t.length) (hy : y < t.length) : mu (opp t) x y = mu t y x := by
  unfold mu; rw [ix_opp hx, ix_oRow hy]
theorem mult_Opposite_ok {t : List (List Int)} {K : List (List Int) → Prop} (h : K (if VT t = true then opp t else [])) : mult_Opposite t K := by
  unfold mult_Opposite
  refine mult_valid_ok ?_
  split
  · rename_i hv
    rw [if_pos hv] at h
    have T := SH.tb (VT.sh hv)
    have n4 := T.n4
    refine fun _ => ⟨by omega, by omega, ?_⟩
    refine LoopWP.fold t.length (fun k (o : List (List Int)) => o.length = t.length ∧ ∀ j : Nat, j < k → ix o j = oRow t j) ⟨by simp, fun j hj => absurd hj (Nat.not_lt_zero _)⟩ ?_
    rintro k o X hk ⟨hl, hI⟩ hX
    show mult_Opposite_L1 t K _ k o
    unfold mult_Opposite_L1
    simp only [List.length_replicate]
    split
    · have hkl : k < t.length := by omega
      refine ⟨by omega, by omega, by omega, by omega, ?_⟩
      refine LoopWP.fold t.length (fun m (o : List (List Int)) => o.length = t.length ∧ (∀ j : Nat, j < k → ix o j = oRow t j) ∧ (ix o (k : Int)).length = t.length ∧ ∀ y : Nat, y < m → ix (ix o (k : Int)) y = ix (ix t (y : Int)) (k : Int)) ⟨by simpa using hl, fun j hj => ?_, ?_, fun q hq => absurd hq (Nat.not_lt_zero _)⟩ ?_
      · rw [ix_st _ (by omega) (by omega) (by omega), if_neg (by omega)]; exact hI j hj
      · rw [ix_st _ (by omega) (by omega) (by omega), if_pos rfl]; simp
      · rintro m o2 X2 hm ⟨hl2, hJ, hlen, hq⟩ hX2
        show mult_Opposite_L2 t k _ K _ m o2
        unfold mult_Opposite_L2
        split
        · have hml : m < t.length := by omega
          have hr := T.row m (by omega) (by omega)
          refine ⟨by omega, by omega, by omega, by omega, by omega, by omega, by omega, by omega, hX2 _ hml ⟨by simpa using hl2, fun j hj => ?_, ?_, fun q hqm => ?_⟩⟩
          · rw [ix_st _ (by omega) (by omega) (by omega), if_neg (by omega)]; exact hJ j hj
          · rw [ix_st _ (by omega) (by omega) (by omega), if_pos rfl]; simpa using hlen
          · rw [ix_st (xs := o2) _ (by omega) (by omega) (by omega), if_pos rfl, ix_st _ (by omega) (by omega) (by omega)]
            split
            · rename_i he
              have : q = m := by omega
              subst this; rfl
            · exact hq q (by omega)
        · have : m = t.length := by omega
          subst this
          refine ⟨⟨by omega, by omega⟩, hX _ (by omega) ⟨hl2, fun j hj => ?_⟩⟩
          by_cases hjk : j = k
          · subst hjk
            exact list_ix (by simp [hlen]) fun q hql => by rw [hq q (by omega), ix_oRow (by omega)]
          · exact hJ j (by omega)
    · have : o = opp t := list_ix (by simp [hl]) fun j hj => by rw [hI j (by omega), ix_opp (by omega)]
      subst this; exact h
  · rename_i hv
    rw [if_neg hv] at h; exact h
theorem Tb.copy {t : List (List Int)} (T : Tb t t.length) : t.length ≤ 1000 ∧ ∀ j : Nat, j < t.length → (ix t j).length ≤ 1000 := ⟨by have := T.n4; omega, fun j hj => by have := T.row j (by omega) (by omega); have := T.n4; omega⟩
/-! ### A new identity -/
def aRows (t : List (List Int)) (k : Nat) : List (List Int) := (List.range k).map fun (x : Nat) => ix t (x : Int) ++ [(x : Int)]
def adj (t : List (List Int)) : List (List Int) := aRows t t.length ++ [iota t.length ++ [(t.length : Int)]]
theorem aRows_succ {t : List (List Int)} (k : Nat) : aRows t (k + 1) = aRows t k ++ [ix t (k : Int) ++ [(k : Int)]] := by simp [aRows, List.range_succ]
@[simp] theorem aRows_len {t : List (List Int)} (k : Nat) : (aRows t k).length = k := by simp [aRows]
@[simp] theorem adj_len {t : List (List Int)} : (adj t).length = t.length + 1 := by simp [adj]
end Sg
namespace Sg
open Go
set_option linter.unusedVariables false
set_option linter.unusedSimpArgs false

theorem VT_of {t : List (List Int)} (h1 : 1 ≤ t.length) (h2 : t.length ≤ 400) (hr : ∀ x : Nat, x < t.length → (ix t (x : Int)).length = t.length) (he : ∀ x y : Nat, x < t.length → y < t.length → 0 ≤ mu t x y ∧ mu t x y < t.length) (ha : AS t) : VT t = true := by
  have hs : SH t = true := SH_iff.2 ⟨h1, h2, fun j hj => rowB_iff.2 ⟨hr j hj, fun i hi => he j i hj (by rw [← hr j hj]; exact hi)⟩⟩
  simp only [VT, hs, Bool.true_and, decide_eq_true_eq]; exact ha
theorem mu_nat {t : List (List Int)} (T : Tb t t.length) {x y : Nat} (hx : x < t.length) (hy : y < t.length) : ∃ z : Nat, z < t.length ∧ mu t x y = z := by
  have := T.mu (x := x) (y := y) (by omega) (by omega) (by omega) (by omega)
  exact ⟨(mu t x y).toNat, by omega, by omega⟩
theorem isI_uniq {t : List (List Int)} {e f : Nat} (he : e < t.length) (hf : f < t.length) (h : isI t e) (k : isI t f) : e = f := by
  have h1 := (h f hf).1
  have h2 := (k e he).2
  rw [h1] at h2; omega
theorem idR_of {t : List (List Int)} {e : Nat} (he : e < t.length) (h : isI t e) : idR t e :=
  .inl ⟨e, he, rfl, h, fun j hj hh => by have := isI_uniq (by omega) he hh h; omega⟩
theorem idR_none {t : List (List Int)} (h : ∀ e : Nat, e < t.length → ¬ isI t e) : idR t (-1) := .inr ⟨rfl, h⟩

/-! ### The opposite -/
theorem opp_VT {t : List (List Int)} (hv : VT t = true) : VT (opp t) = true := by
  have T := SH.tb (VT.sh hv)
  have n1 := T.n1
  have n4 := T.n4
  refine VT_of (by simpa using n1) (by simpa using n4) (fun x hx => ?_) (fun x y hx hy => ?_) fun x y z hx hy hz => ?_
  · rw [opp_len] at hx ⊢
    rw [ix_opp hx]; simp
  · rw [opp_len] at hx hy ⊢
    rw [mu_opp hx hy]
    exact T.mu (by omega) (by omega) (by omega) (by omega)
  · rw [opp_len] at hx hy hz
    obtain ⟨a, ha, ea⟩ := mu_nat T hy hx
    obtain ⟨b, hb, eb⟩ := mu_nat T hz hy
    rw [mu_opp hx hy, mu_opp hy hz, ea, eb, mu_opp ha hz, mu_opp hx hb, ← ea, ← eb]
    exact (VT.as hv z y x hz hy hx).symm
theorem opp_id {t : List (List Int)} {r : Int} (h : idR t r) : idR (opp t) r := by
  have key : ∀ e : Nat, e < t.length → (isI (opp t) e ↔ isI t e) := fun e he => by
    unfold isI
    rw [opp_len]
    constructor
    · intro h x hx; have := h x hx; rw [mu_opp he hx, mu_opp hx he] at this; exact this.symm
    · intro h x hx; rw [mu_opp he hx, mu_opp hx he]; exact (h x hx).symm
  rcases h with ⟨e, he, rfl, h1, h2⟩ | ⟨rfl, h1⟩
  · exact .inl ⟨e, by simpa using he, rfl, (key e he).2 h1, fun j hj hh => h2 j hj ((key j (by omega)).1 hh)⟩
  · exact .inr ⟨rfl, fun j hj hh => h1 j (by simpa using hj) ((key j (by simpa using hj)).1 hh)⟩
theorem opp_opp {t : List (List Int)} (T : Tb t t.length) : opp (opp t) = t := list_ix (by simp) fun x hx => by
  have hx' : x < t.length := by simpa using hx
  have hr := T.row x (by omega) (by omega)
  rw [ix_opp (by simpa using hx')]
  refine list_ix (by simp [hr]) fun y hy => ?_
  have hy' : y < t.length := by simpa using hy
  rw [ix_oRow (by simpa using hy'), ix_opp hy', ix_oRow hx']

/-! ### The adjoined identity -/
theorem ix_adj {t : List (List Int)} {x : Nat} (hx : x < t.length) : ix (adj t) (x : Int) = ix t (x : Int) ++ [(x : Int)] := by
  unfold adj
  rw [ix_app (by simpa using hx)]
  have : x < (aRows t t.length).length := by simpa using hx
  rw [ix_lt this]; simp [aRows]
theorem ix_adj_n {t : List (List Int)} : ix (adj t) (t.length : Int) = iota t.length ++ [(t.length : Int)] := by
  unfold adj
  rw [ix_lt (by simp)]
  rw [List.getElem_append_right (by simp)]
  simp
theorem mu_adj {t : List (List Int)} (T : Tb t t.length) {x y : Nat} (hx : x ≤ t.length) (hy : y ≤ t.length) : mu (adj t) x y = if x = t.length then (y : Int) else if y = t.length then (x : Int) else mu t x y := by
  unfold mu
  by_cases h : x = t.length
  · rw [if_pos h, h, ix_adj_n]
    by_cases h2 : y = t.length
    · subst h2
      rw [ix_lt (by simp), List.getElem_append_right (by simp)]; simp
    · rw [ix_app (by simp; omega), ix_iota (by omega)]
  · rw [if_neg h, ix_adj (by omega)]
    have hr := T.row x (by omega) (by omega)
    by_cases h2 : y = t.length
    · rw [if_pos h2, h2, ix_lt (by simp; omega), List.getElem_append_right (by omega)]; simp
    · rw [if_neg h2, ix_app (by omega)]
theorem adj_VT {t : List (List Int)} (hv : VT t = true) (hl : t.length < 400) : VT (adj t) = true := by
  have T := SH.tb (VT.sh hv)
  have n1 := T.n1
  have inn : ∀ x y : Nat, x ≤ t.length → y ≤ t.length → ∃ z : Nat, z ≤ t.length ∧ mu (adj t) x y = z := fun x y hx hy => by
    rw [mu_adj T hx hy]
    split
    · exact ⟨y, hy, rfl⟩
    · split
      · exact ⟨x, hx, rfl⟩
      · obtain ⟨z, hz, e⟩ := mu_nat T (x := x) (y := y) (by omega) (by omega)
        exact ⟨z, by omega, e⟩
  refine VT_of (by simp) (by simp; omega) (fun x hx => ?_) (fun x y hx hy => ?_) fun x y z hx hy hz => ?_
  · rw [adj_len] at hx ⊢
    by_cases h : x = t.length
    · rw [h, ix_adj_n]; simp
    · rw [ix_adj (by omega)]; simp [T.row x (by omega) (by omega)]
  · rw [adj_len] at hx hy ⊢
    obtain ⟨z, hz, e⟩ := inn x y (by omega) (by omega)
    rw [e]; omega
  · rw [adj_len] at hx hy hz
    by_cases h1 : x = t.length
    · obtain ⟨b, hb, eb⟩ := inn y z (by omega) (by omega)
      rw [mu_adj T (x := x) (y := y) (by omega) (by omega), if_pos h1, eb, mu_adj T (x := x) (y := b) (by omega) hb, if_pos h1]
    · by_cases h2 : y = t.length
      · rw [mu_adj T (x := x) (y := y) (by omega) (by omega), if_neg h1, if_pos h2, mu_adj T (x := y) (y := z) (by omega) (by omega), if_pos h2]
      · by_cases h3 : z = t.length
        · obtain ⟨a, ha, ea⟩ := inn x y (by omega) (by omega)
          rw [ea, mu_adj T (x := a) (y := z) ha (by omega), mu_adj T (x := y) (y := z) (by omega) (by omega), if_neg h2, if_pos h3, if_pos h3, ea]
          split
          · rename_i h; omega
          · rfl
        · obtain ⟨a, ha, ea⟩ := mu_nat T (x := x) (y := y) (by omega) (by omega)
          obtain ⟨b, hb, eb⟩ := mu_nat T (x := y) (y := z) (by omega) (by omega)
          rw [mu_adj T (x := x) (y := y) (by omega) (by omega), if_neg h1, if_neg h2, ea, mu_adj T (x := a) (y := z) (by omega) (by omega), if_neg (by omega), if_neg h3,
            mu_adj T (x := y) (y := z) (by omega) (by omega), if_neg h2, if_neg h3, eb, mu_adj T (x := x) (y := b) (by omega) (by omega), if_neg h1, if_neg (by omega), ← ea, ← eb]
          exact VT.as hv x y z (by omega) (by omega) (by omega)
theorem adj_id {t : List (List Int)} (T : Tb t t.length) : idR (adj t) (t.length : Int) := by
  refine idR_of (by simp) fun x hx => ?_
  rw [adj_len] at hx
  rw [mu_adj T (Nat.le_refl _) (by omega), if_pos rfl, mu_adj T (by omega) (Nat.le_refl _)]
  refine ⟨rfl, ?_⟩
  split
  · rename_i h; omega
  · rw [if_pos rfl]

/-! ### Products -/
theorem flat_ix {α β : Type} [Inhabited α] [Inhabited β] {f : α → List β} {m : Nat} : ∀ (l : List α) (i j : Nat), (∀ a ∈ l, (f a).length = m) → i < l.length → j < m → ix (l.flatMap f) ((i * m + j : Nat) : Int) = ix (f (ix l (i : Int))) (j : Int)
  | [], i, j, _, hi, _ => by simp at hi
  | a :: l, 0, j, h, _, hj => by
    have ha := h a (by simp)
    rw [List.flatMap_cons, Nat.zero_mul, Nat.zero_add, ix_app (by omega)]
    rfl
  | a :: l, i + 1, j, h, hi, hj => by
    have ha := h a (by simp)
    have e : (i + 1) * m + j = m + (i * m + j) := by rw [Nat.succ_mul]; omega
    rw [List.flatMap_cons, e]
    have e2 : ix (f a ++ l.flatMap f) ((m + (i * m + j) : Nat) : Int) = ix (l.flatMap f) ((i * m + j : Nat) : Int) := by
      simp only [ix, Int.toNat_natCast, List.getD_eq_getElem?_getD]
      rw [List.getElem?_append_right (by omega)]
      congr 2; omega
    rw [e2, flat_ix l i j (fun b hb => h b (by simp [hb])) (by simpa using hi) hj]
    rfl
theorem pair_lt {n m x y : Nat} (hx : x < n) (hy : y < m) : x * m + y < n * m := by
  have : (x + 1) * m ≤ n * m := Nat.mul_le_mul_right _ hx
  rw [Nat.succ_mul] at this; omega
theorem pair_of {n m k : Nat} (hm : 0 < m) (hk : k < n * m) : ∃ x y : Nat, x < n ∧ y < m ∧ k = x * m + y := by
  refine ⟨k / m, k % m, ?_, Nat.mod_lt _ hm, ?_⟩
  · rw [Nat.div_lt_iff_lt_mul hm]; exact hk
  · have := Nat.mod_add_div k m; rw [Nat.mul_comm] at this; omega
section
variable {t u : List (List Int)} (T : Tb t t.length) (U : Tb u u.length)
include T U
theorem mu_dTab {x y v w : Nat} (hx : x < t.length) (hy : y < u.length) (hv : v < t.length) (hw : w < u.length) : mu (dTab t u) ((x * u.length + y : Nat) : Int) ((v * u.length + w : Nat) : Int) = mu t x v * u.length + mu u y w := by
  have r1 := T.row x (by omega) (by omega)
  have r2 := U.row y (by omega) (by omega)
  unfold mu dTab
  rw [flat_ix t x y (m := u.length) (fun a _ => by simp) hx hy, ix_map _ (by omega) (by omega)]
  unfold dRow
  rw [← r2, flat_ix _ v w (fun a _ => by simp) (by omega) (by omega), ix_map _ (by omega) (by omega), r2]
theorem mu_pair {x y v w : Nat} (hx : x < t.length) (hy : y < u.length) (hv : v < t.length) (hw : w < u.length) : ∃ a b : Nat, a < t.length ∧ b < u.length ∧ mu t x v = a ∧ mu u y w = b ∧ mu (dTab t u) ((x * u.length + y : Nat) : Int) ((v * u.length + w : Nat) : Int) = ((a * u.length + b : Nat) : Int) := by
  obtain ⟨a, ha, ea⟩ := mu_nat T hx hv
  obtain ⟨b, hb, eb⟩ := mu_nat U hy hw
  exact ⟨a, b, ha, hb, ea, eb, by rw [mu_dTab T U hx hy hv hw, ea, eb]; simp⟩
end
theorem pair_inj {m a b c d : Nat} (hb : b < m) (hd : d < m) (h : a * m + b = c * m + d) : a = c ∧ b = d := by
  have h1 : (a * m + b) % m = b := by rw [Nat.add_comm, Nat.add_mul_mod_self_right, Nat.mod_eq_of_lt hb]
  have h2 : (c * m + d) % m = d := by rw [Nat.add_comm, Nat.add_mul_mod_self_right, Nat.mod_eq_of_lt hd]
  have hbd : b = d := by rw [← h1, ← h2, h]
  refine ⟨Nat.eq_of_mul_eq_mul_right (show 0 < m by omega) ?_, hbd⟩
  omega
theorem dTab_VT {t u : List (List Int)} (hv : VT t = true) (hu : VT u = true) (hl : t.length * u.length ≤ 400) : VT (dTab t u) = true := by
  have T := SH.tb (VT.sh hv)
  have U := SH.tb (VT.sh hu)
  have n1 := T.n1
  have m1 := U.n1
  have hpos : 1 ≤ t.length * u.length := Nat.mul_pos n1 m1
  refine VT_of (by rw [dTab_len]; exact hpos) (by rw [dTab_len]; exact hl) (fun k hk => ?_) (fun k q hk hq => ?_) fun k q s hk hq hs => ?_
  · rw [dTab_len] at hk ⊢
    obtain ⟨x, y, hx, hy, rfl⟩ := pair_of U.n1 hk
    unfold dTab
    rw [flat_ix t x y (m := u.length) (fun a _ => by simp) hx hy, ix_map _ (by omega) (by omega), dRow_len, T.row x (by omega) (by omega), U.row y (by omega) (by omega)]
  · rw [dTab_len] at hk hq ⊢
    obtain ⟨x, y, hx, hy, rfl⟩ := pair_of U.n1 hk
    obtain ⟨v, w, hv', hw, rfl⟩ := pair_of U.n1 hq
    obtain ⟨a, b, ha, hb, _, _, e⟩ := mu_pair T U hx hy hv' hw
    rw [e]
    have := pair_lt ha hb
    omega
  · rw [dTab_len] at hk hq hs
    obtain ⟨x, y, hx, hy, rfl⟩ := pair_of U.n1 hk
    obtain ⟨v, w, hv', hw, rfl⟩ := pair_of U.n1 hq
    obtain ⟨p, q, hp, hq', rfl⟩ := pair_of U.n1 hs
    obtain ⟨a, b, ha, hb, ea, eb, e⟩ := mu_pair T U hx hy hv' hw
    obtain ⟨c, d, hc, hd, ec, ed, e'⟩ := mu_pair T U hv' hw hp hq'
    rw [e, e', mu_dTab T U ha hb hp hq', mu_dTab T U hx hy hc hd, ← ea, ← eb, ← ec, ← ed, VT.as hv x v p hx hv' hp, VT.as hu y w q hy hw hq']
theorem dTab_isI {t u : List (List Int)} (T : Tb t t.length) (U : Tb u u.length) {x y : Nat} (hx : x < t.length) (hy : y < u.length) : isI (dTab t u) (x * u.length + y) ↔ isI t x ∧ isI u y := by
  unfold isI
  rw [dTab_len]
  constructor
  · intro h
    have m1 := U.n1
    have n1 := T.n1
    refine ⟨fun v hv => ?_, fun w hw => ?_⟩
    · have := h _ (pair_lt hv (show 0 < u.length by omega))
      obtain ⟨a, b, ha, hb, ea, eb, e⟩ := mu_pair T U hx hy hv (show 0 < u.length by omega)
      obtain ⟨c, d, hc, hd, ec, ed, e'⟩ := mu_pair T U hv (show 0 < u.length by omega) hx hy
      have q1 := this.1
      have q2 := this.2
      rw [e] at q1
      rw [e'] at q2
      have h1 := pair_inj hb (show 0 < u.length by omega) (Int.ofNat.inj q1)
      have h2 := pair_inj hd (show 0 < u.length by omega) (Int.ofNat.inj q2)
      rw [ea, ec]; omega
    · have := h _ (pair_lt (show 0 < t.length by omega) hw)
      obtain ⟨a, b, ha, hb, ea, eb, e⟩ := mu_pair T U hx hy (show 0 < t.length by omega) hw
      obtain ⟨c, d, hc, hd, ec, ed, e'⟩ := mu_pair T U (show 0 < t.length by omega) hw hx hy
      have q1 := this.1
      have q2 := this.2
      rw [e] at q1
      rw [e'] at q2
      have h1 := pair_inj hb hw (Int.ofNat.inj q1)
      have h2 := pair_inj hd hw (Int.ofNat.inj q2)
      rw [eb, ed]; omega
  · rintro ⟨h1, h2⟩ k hk
    obtain ⟨v, w, hv, hw, rfl⟩ := pair_of U.n1 hk
    rw [mu_dTab T U hx hy hv hw, mu_dTab T U hv hw hx hy, (h1 v hv).1, (h1 v hv).2, (h2 w hw).1, (h2 w hw).2]
    simp
theorem iota_block (n m : Nat) : iota ((n + 1) * m) = iota (n * m) ++ (iota m).map fun y => ((n * m : Nat) : Int) + y := by
  unfold iota
  rw [Nat.succ_mul, List.range_add, List.map_append, List.map_map, List.map_map]
  congr 1
theorem filter_pairs {a b p : Int → Bool} {m : Nat} : ∀ n : Nat, (∀ x y : Nat, x < n → y < m → p ((x * m + y : Nat) : Int) = (a x && b y)) → ((iota (n * m)).filter p).length = ((iota n).filter a).length * ((iota m).filter b).length
  | 0, _ => by simp [iota]
  | n + 1, h => by
    rw [iota_block, List.filter_append, List.length_append, filter_pairs n fun x y hx hy => h x y (by omega) hy, iota_succ, List.filter_append, List.length_append]
    have e : (((iota m).map fun y => ((n * m : Nat) : Int) + y).filter p).length = if a n = true then ((iota m).filter b).length else 0 := by
      rw [List.filter_map, List.length_map]
      have hc : (iota m).filter (p ∘ fun y => ((n * m : Nat) : Int) + y) = (iota m).filter fun y => a n && b y := List.filter_congr fun y hy => by
        obtain ⟨y0, y1⟩ := mem_iota.1 hy
        obtain ⟨k, rfl⟩ := Int.eq_ofNat_of_zero_le y0
        have := h n k (by omega) (by omega)
        simp only [Function.comp]
        rw [← this]
        congr 1
      rw [hc]
      cases a n <;> simp
    rw [e, Nat.add_mul]
    by_cases han : a n = true <;> simp [han]
end Sg
namespace Sg
open Go
set_option linter.unusedVariables false
set_option linter.unusedSimpArgs false

theorem msort_asc {p : Int → Prop} {l : List Int} (hn : l.Nodup) (hp : ∀ x, x ∈ l ↔ p x) : AscOf p (msort l) := by
  have hm : ∀ x, x ∈ msort l ↔ x ∈ l := fun x => List.mem_mergeSort
  refine ⟨?_, fun x => (hm x).trans (hp x)⟩
  have h1 : (msort l).Pairwise fun x y => decide (x ≤ y) = true := List.pairwise_mergeSort (fun a b c h1 h2 => by simp at h1 h2 ⊢; omega) (fun a b => by simp; omega) l
  have h2 : (msort l).Nodup := (List.mergeSort_perm l _).nodup_iff.2 hn
  refine (List.pairwise_and_iff.2 ⟨h1, h2⟩).imp fun hh => ?_
  have := hh.1
  simp only [decide_eq_true_eq] at this
  have := hh.2
  omega
end Sg
namespace Sg
open Go
set_option linter.unusedVariables false
set_option linter.unusedSimpArgs false

/-- Where x lies among the first k of the set; -1: nowhere. -/
def posR (s : List Int) : Nat → Int → Int
  | 0, _ => -1
  | k + 1, x => if x = ix s (k : Int) then (k : Int) else posR s k x
def subRow (t : List (List Int)) (s : List Int) (i : Int) : List Int := (iota s.length).map fun j => posR s s.length (mu t (ix s i) (ix s j))
def subTab (t : List (List Int)) (s : List Int) : List (List Int) := (iota s.length).map (subRow t s)
@[simp] theorem subRow_len {t : List (List Int)} {s : List Int} {i : Int} : (subRow t s i).length = s.length := by simp [subRow]
@[simp] theorem subTab_len {t : List (List Int)} {s : List Int} : (subTab t s).length = s.length := by simp [subTab]
theorem ix_subTab {t : List (List Int)} {s : List Int} {i : Nat} (h : i < s.length) : ix (subTab t s) (i : Int) = subRow t s i := by
  unfold subTab
  rw [ix_map _ (by omega) (by simpa using h), ix_iota h]
theorem ix_subRow {t : List (List Int)} {s : List Int} {i : Int} {j : Nat} (h : j < s.length) : ix (subRow t s i) (j : Int) = posR s s.length (mu t (ix s i) (ix s (j : Int))) := by
  unfold subRow
  rw [ix_map _ (by omega) (by simpa using h), ix_iota h]
/-- Closed up to row k. -/
def subCl (t : List (List Int)) (s : List Int) : Prop := ∀ i j : Nat, i < s.length → j < s.length → 0 ≤ posR s s.length (mu t (ix s (i : Int)) (ix s (j : Int)))
def ascP (s : List Int) : Prop := ∀ q : Nat, q + 1 < s.length → ix s (q : Int) < ix s ((q + 1 : Nat) : Int)
def subOk (t : List (List Int)) (s : List Int) : Prop := 0 < s.length ∧ inB t.length s = true ∧ ascP s
open Classical in
noncomputable def subE (t : List (List Int)) (s : List Int) : Int := if VT t = true then (if subOk t s then (if subCl t s then 0 else 9) else 1) else vaC t
open Classical in
noncomputable def subT (t : List (List Int)) (s : List Int) : List (List Int) := if VT t = true ∧ subOk t s ∧ subCl t s then subTab t s else []
theorem sub_bad {t : List (List Int)} {s : List Int} {K : List (List Int) → Int → Prop} (hv : VT t = true) (h : K (subT t s) (subE t s)) (hb : ¬ subOk t s) : K [] 1 := by
  unfold subT subE at h
  rw [if_neg fun hh => hb hh.2.1, if_pos hv, if_neg hb] at h
  exact h
theorem sub_open {t : List (List Int)} {s : List Int} {K : List (List Int) → Int → Prop} (hv : VT t = true) (h : K (subT t s) (subE t s)) (hb : subOk t s) (hc : ¬ subCl t s) : K [] 9 := by
  unfold subT subE at h
  rw [if_neg fun hh => hc hh.2.2, if_pos hv, if_pos hb, if_neg hc] at h
  exact h
theorem sub_good {t : List (List Int)} {s : List Int} {K : List (List Int) → Int → Prop} (hv : VT t = true) (h : K (subT t s) (subE t s)) (hb : subOk t s) (hc : subCl t s) : K (subTab t s) 0 := by
  unfold subT subE at h
  rw [if_pos ⟨hv, hb, hc⟩, if_pos hv, if_pos hb, if_pos hc] at h
  exact h
theorem asc_lt {s : List Int} (h : ascP s) {n : Nat} (hs : ∀ x ∈ s, 0 ≤ x ∧ x < (n : Int)) : s.length ≤ n := by
  have key : ∀ k : Nat, k < s.length → (k : Int) ≤ ix s (k : Int) := by
    intro k
    induction k with
    | zero => intro hk; exact (hs _ (ix_mem (by omega) (by omega))).1
    | succ k ih => intro hk; have := ih (by omega); have := h k hk; omega
  rcases Nat.eq_zero_or_pos s.length with h0 | h0
  · omega
  · have := key (s.length - 1) (by omega)
    have := (hs _ (ix_mem (xs := s) (i := ((s.length - 1 : Nat) : Int)) (by omega) (by omega))).2
    omega
theorem mult_Sub_ok {t : List (List Int)} {s : List Int} {K : List (List Int) → Int → Prop} (h : K (subT t s) (subE t s)) : mult_Sub t s K := by
  unfold mult_Sub
  refine mult_Validate_ok ?_
  split
  · rename_i h0
    have hv := vaC0.1 h0
    have T := SH.tb (VT.sh hv)
    have n4 := T.n4
    intro hmx
    unfold mx at hmx
    split
    · exact sub_bad hv h fun hh => by have := hh.1; omega
    rename_i hs0
    refine mult_areElements_ok ?_
    split
    · rename_i hin
      have hin' := inB_mem.1 hin
      refine fun _ => ⟨by omega, by omega, ?_⟩
      refine LoopWP.fold t.length (fun k (d : List Int) => d.length = t.length ∧ ∀ x : Nat, x < k → ix d (x : Int) = -1) ⟨by simp, fun x hx => absurd hx (Nat.not_lt_zero _)⟩ ?_
      rintro k d X hk ⟨hl, hI⟩ hX
      show mult_Sub_L1 t s K _ k d
      unfold mult_Sub_L1
      rw [List.length_replicate]
      split
      · refine ⟨by omega, by omega, ⟨by omega, by omega⟩, hX _ (by omega) ⟨by simpa using hl, fun x hx => ?_⟩⟩
        rw [ix_st _ (by omega) (by omega) (by omega)]
        split
        · rfl
        · exact hI x (by omega)
      have hkt : k = t.length := by omega
      subst hkt
      refine LoopWP.fold s.length (fun k (d : List Int) => (∀ q : Nat, q + 1 < k → ix s (q : Int) < ix s ((q + 1 : Nat) : Int)) ∧ d.length = t.length ∧ ∀ x : Nat, x < t.length → ix d (x : Int) = posR s k x) ⟨fun q hq => absurd hq (Nat.not_lt_zero _), hl, fun x hx => hI x hx⟩ ?_
      rintro k d X2 hk2 ⟨hA, hl, hI⟩ hX2
      show mult_Sub_L2 t s K _ k d
      unfold mult_Sub_L2
      split
      · have hkl : k < s.length := by omega
        have hsk := hin' _ (ix_mem (xs := s) (i := (k : Int)) (by omega) (by omega))
        have nxt : (∀ q : Nat, q + 1 < k + 1 → ix s (q : Int) < ix s ((q + 1 : Nat) : Int)) → X2 (k + 1, st d (ix s (k : Int)) (k : Int)) := fun hA' => by
          refine hX2 _ hkl ⟨hA', by simpa using hl, fun x hx => ?_⟩
          rw [ix_st _ hsk.1 (by omega) (by omega)]
          unfold posR
          split
          · rfl
          · exact hI x hx
        refine ⟨by omega, by omega, ?_⟩
        split
        · rename_i hk0
          refine ⟨⟨by omega, by omega⟩, by omega, by omega, ?_⟩
          have ek : (k : Int) - 1 = ((k - 1 : Nat) : Int) := by omega
          rw [ek]
          have ek2 : k - 1 + 1 = k := by omega
          split
          · rename_i hle
            refine sub_bad hv h fun hh => ?_
            have := hh.2.2 (k - 1) (by omega)
            rw [ek2] at this
            omega
          · rename_i hle
            refine ⟨hsk.1, by omega, nxt fun q hq => ?_⟩
            by_cases hqk : q = k - 1
            · subst hqk; rw [ek2]; omega
            · exact hA q (by omega)
        · exact ⟨hsk.1, by omega, nxt fun q hq => by omega⟩
      have hkt : k = s.length := by omega
      subst hkt
      have hok : subOk t s := ⟨by omega, hin, hA⟩
      have hst := asc_lt hA hin'
      refine ⟨by omega, by omega, ?_⟩
      refine LoopWP.fold s.length (fun k (d2 : List (List Int)) => d2.length = s.length ∧ (∀ i : Nat, i < k → ix d2 (i : Int) = subRow t s i) ∧ ∀ i j : Nat, i < k → j < s.length → 0 ≤ posR s s.length (mu t (ix s (i : Int)) (ix s (j : Int)))) ⟨by simp, fun i hi => absurd hi (Nat.not_lt_zero _), fun i j hi => absurd hi (Nat.not_lt_zero _)⟩ ?_
      rintro k d2 X3 hk3 ⟨hl2, hR, hC⟩ hX3
      show mult_Sub_L3 t s d K _ k d2
      unfold mult_Sub_L3
      split
      · have hkl : k < s.length := by omega
        have hsk := hin' _ (ix_mem (xs := s) (i := (k : Int)) (by omega) (by omega))
        refine ⟨by omega, by omega, by omega, by omega, by omega, by omega, ?_⟩
        refine LoopWP.fold s.length (fun m (d3 : List (List Int)) => d3.length = s.length ∧ (∀ i : Nat, i < k → ix d3 (i : Int) = subRow t s i) ∧ (ix d3 (k : Int)).length = s.length ∧ ∀ j : Nat, j < m → ix (ix d3 (k : Int)) (j : Int) = posR s s.length (mu t (ix s (k : Int)) (ix s (j : Int))) ∧ 0 ≤ posR s s.length (mu t (ix s (k : Int)) (ix s (j : Int))))
          ⟨by simpa using hl2, fun i hi => ?_, ?_, fun j hj => absurd hj (Nat.not_lt_zero _)⟩ ?_
        · rw [ix_st _ (by omega) (by omega) (by omega), if_neg (by omega)]; exact hR i hi
        · rw [ix_st _ (by omega) (by omega) (by omega), if_pos rfl]; simp
        rintro m d3 X4 hm ⟨hl3, hR3, hrl, hJ⟩ hX4
        show mult_Sub_L4 t s d k _ K _ m d3
        unfold mult_Sub_L4
        split
        · have hml : m < s.length := by omega
          have hsm := hin' _ (ix_mem (xs := s) (i := (m : Int)) (by omega) (by omega))
          have r1 := T.row _ hsk.1 hsk.2
          have m1 := T.mu hsk.1 hsk.2 hsm.1 hsm.2
          obtain ⟨z, hz⟩ := Int.eq_ofNat_of_zero_le m1.1
          have hp := hI z (by omega)
          have e1 : ix d (ix (ix t (ix s (k : Int))) (ix s (m : Int))) = posR s s.length (mu t (ix s (k : Int)) (ix s (m : Int))) := by
            show ix d (mu t (ix s (k : Int)) (ix s (m : Int))) = _
            rw [hz]; exact hp
          have e2 : ix (st d3 (k : Int) (st (ix d3 (k : Int)) (m : Int) (posR s s.length (mu t (ix s (k : Int)) (ix s (m : Int)))))) (k : Int) = st (ix d3 (k : Int)) (m : Int) (posR s s.length (mu t (ix s (k : Int)) (ix s (m : Int)))) := by
            rw [ix_st _ (by omega) (by omega) (by omega), if_pos rfl]
          have e3 : ix (st (ix d3 (k : Int)) (m : Int) (posR s s.length (mu t (ix s (k : Int)) (ix s (m : Int))))) (m : Int) = posR s s.length (mu t (ix s (k : Int)) (ix s (m : Int))) := by
            rw [ix_st _ (by omega) (by omega) (by omega), if_pos rfl]
          rw [e1, e2, e3]
          unfold mu at m1
          refine ⟨by omega, by omega, by omega, by omega, hsk.1, hsk.2, hsm.1, by omega, m1.1, by omega, by omega, by omega, by omega, by simp; omega, by omega, by simp; omega, ?_⟩
          split
          · rename_i hneg
            exact sub_open hv h hok fun hc => by have := hc k m hkl hml; omega
          · rename_i hneg
            refine hX4 _ hml ⟨by simpa using hl3, fun i hi => ?_, ?_, fun j hj => ?_⟩
            · rw [ix_st _ (by omega) (by omega) (by omega), if_neg (by omega)]; exact hR3 i hi
            · rw [e2]; simpa using hrl
            · rw [e2]
              by_cases hjm : j = m
              · subst hjm; exact ⟨e3, by omega⟩
              · rw [ix_st _ (by omega) (by omega) (by omega), if_neg (by omega)]; exact hJ j (by omega)
        · have hmt : m = s.length := by omega
          subst hmt
          refine hX3 _ hkl ⟨hl3, fun i hi => ?_, fun i j hi hj => ?_⟩
          · by_cases hik : i = k
            · subst hik
              exact list_ix (by simpa using hrl) fun j hj => by rw [ix_subRow (by omega)]; exact (hJ j (by omega)).1
            · exact hR3 i (by omega)
          · by_cases hik : i = k
            · subst hik; exact (hJ j hj).2
            · exact hC i j (by omega) hj
      · have hkt : k = s.length := by omega
        subst hkt
        have : d2 = subTab t s := list_ix (by simpa using hl2) fun i hi => by rw [ix_subTab (by omega)]; exact hR i (by omega)
        rw [this]
        exact sub_good hv h hok fun i j hi hj => hC i j hi hj
    · rename_i hin
      exact sub_bad hv h fun hh => hin hh.2.1
  · rename_i h0
    have hv : ¬ VT t = true := fun hv => h0 (vaC0.2 hv)
    unfold subT subE at h
    rw [if_neg fun hh => hv hh.1, if_neg hv] at h
    exact h
end Sg
namespace Sg
open Go
set_option linter.unusedVariables false
set_option linter.unusedSimpArgs false

theorem posR_some {s : List Int} {x : Int} : ∀ k : Nat, 0 ≤ posR s k x → ∃ q : Nat, q < k ∧ ix s (q : Int) = x ∧ posR s k x = q
  | 0, h => by unfold posR at h; omega
  | k + 1, h => by
    unfold posR at h ⊢
    split
    · rename_i he; exact ⟨k, by omega, he.symm, rfl⟩
    · rename_i he
      rw [if_neg he] at h
      obtain ⟨q, hq, e, e2⟩ := posR_some k h
      exact ⟨q, by omega, e, e2⟩
theorem posR_mem {s : List Int} {x : Int} : ∀ k : Nat, (∃ q : Nat, q < k ∧ ix s (q : Int) = x) → 0 ≤ posR s k x
  | 0, ⟨q, hq, _⟩ => absurd hq (Nat.not_lt_zero _)
  | k + 1, ⟨q, hq, e⟩ => by
    unfold posR
    split
    · omega
    · rename_i he
      refine posR_mem k ⟨q, ?_, e⟩
      by_cases hqk : q = k
      · subst hqk; exact absurd e.symm he
      · omega
theorem posR_in {s : List Int} {x : Int} : 0 ≤ posR s s.length x ↔ x ∈ s := by
  rw [mem_ix]
  exact ⟨fun h => let ⟨q, hq, e, _⟩ := posR_some _ h; ⟨q, hq, e⟩, posR_mem _⟩
theorem asc_ix {s : List Int} (h : s.Pairwise (· < ·)) {i j : Nat} (hi : i < s.length) (hj : j < s.length) (he : ix s (i : Int) = ix s (j : Int)) : i = j := by
  rw [ix_lt hi, ix_lt hj] at he
  have := List.pairwise_iff_getElem.1 h
  rcases Nat.lt_trichotomy i j with hlt | rfl | hlt
  · have := this i j hi hj hlt; omega
  · rfl
  · have := this j i hj hi hlt; omega
theorem asc_P {s : List Int} (h : s.Pairwise (· < ·)) : ascP s := fun q hq => by
  rw [ix_lt (by omega), ix_lt hq]
  exact List.pairwise_iff_getElem.1 h q (q + 1) (by omega) hq (by omega)
/-- What a closed set's table is. -/
theorem mu_sub {t : List (List Int)} {s : List Int} (hc : subCl t s) {i j : Nat} (hi : i < s.length) (hj : j < s.length) : ∃ z : Nat, z < s.length ∧ mu (subTab t s) i j = z ∧ ix s (z : Int) = mu t (ix s (i : Int)) (ix s (j : Int)) := by
  obtain ⟨q, hq, e, e2⟩ := posR_some s.length (hc i j hi hj)
  refine ⟨q, hq, ?_, e⟩
  unfold mu
  rw [ix_subTab hi, ix_subRow hj]
  exact e2
theorem sub_VT {t : List (List Int)} {s : List Int} (hv : VT t = true) (hs : subOk t s) (hp : s.Pairwise (· < ·)) (hc : subCl t s) : VT (subTab t s) = true := by
  have T := SH.tb (VT.sh hv)
  have n4 := T.n4
  have hin := inB_mem.1 hs.2.1
  have hle := asc_lt hs.2.2 hin
  have h0 := hs.1
  have inn : ∀ q : Nat, q < s.length → 0 ≤ ix s (q : Int) ∧ ix s (q : Int) < (t.length : Int) := fun q hq => hin _ (ix_mem (by omega) (by omega))
  refine VT_of (by simp; omega) (by simp; omega) (fun x hx => ?_) (fun x y hx hy => ?_) fun x y z hx hy hz => ?_
  · rw [subTab_len] at hx ⊢
    rw [ix_subTab hx, subRow_len]
  · rw [subTab_len] at hx hy ⊢
    obtain ⟨z, hz, e, _⟩ := mu_sub hc hx hy
    rw [e]; omega
  · rw [subTab_len] at hx hy hz
    obtain ⟨a, ha, ea, ea2⟩ := mu_sub hc hx hy
    obtain ⟨b, hb, eb, eb2⟩ := mu_sub hc hy hz
    obtain ⟨c, hc', ec, ec2⟩ := mu_sub hc ha hz
    obtain ⟨d, hd, ed, ed2⟩ := mu_sub hc hx hb
    rw [ea, eb, ec, ed]
    have : c = d := asc_ix hp hc' hd (by
      rw [ec2, ed2, ea2, eb2]
      exact (VT.as hv).all (inn x hx) (inn y hy) (inn z hz))
    rw [this]
theorem clo_sub {t : List (List Int)} {s G : List Int} (hc : subCl t s) (hG : ∀ x ∈ G, x ∈ s) {x : Int} (hx : Clo t G x) : x ∈ s := by
  induction hx with
  | gen hg => exact hG _ hg
  | mul _ _ i1 i2 =>
    obtain ⟨i, hi, rfl⟩ := mem_ix.1 i1
    obtain ⟨j, hj, rfl⟩ := mem_ix.1 i2
    exact posR_in.1 (hc i j hi hj)
/-! ### What is needed -/
theorem clo_gre {t : List (List Int)} : ∀ k : Nat, ∀ x : Nat, x < k → Clo t (gre t k) x
  | 0, x, hx => absurd hx (Nat.not_lt_zero _)
  | k + 1, x, hx => by
    unfold gre
    split
    · rename_i hc
      by_cases hxk : x = k
      · subst hxk; exact hc
      · exact clo_gre k x (by omega)
    · by_cases hxk : x = k
      · subst hxk; exact .gen (by simp)
      · exact (clo_gre k x (by omega)).mono fun y hy => List.mem_append_left _ hy
theorem clo_ind {t : List (List Int)} {G : List Int} (T : Tb t t.length) (hG : ∀ x ∈ G, 0 ≤ x ∧ x < (t.length : Int)) {x : Int} (hx : Clo t G x) (hn : ¬ prB t x) : x ∈ G := by
  cases hx with
  | gen hg => exact hg
  | mul h1 h2 =>
    refine absurd ?_ hn
    have i1 := h1.in_ T hG
    have i2 := h2.in_ T hG
    rename_i a b
    obtain ⟨a', rfl⟩ := Int.eq_ofNat_of_zero_le i1.1
    obtain ⟨b', rfl⟩ := Int.eq_ofNat_of_zero_le i2.1
    exact ⟨a', b', by omega, by omega, rfl⟩
theorem mem_indF {t : List (List Int)} {x : Int} (h : x ∈ indF t) : (0 ≤ x ∧ x < (t.length : Int)) ∧ ¬ prB t x := by
  unfold indF at h
  rw [List.mem_filter, mem_iota] at h
  exact ⟨h.1, by simpa using h.2⟩
end Sg
